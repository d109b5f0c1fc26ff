/-
  Parts.
-/
import Derived.Test.YteijfnkidefekaaGreatEak
import Derived.Test.YteijfnkidefekaaGreatEam
import Derived.Test.YteijfnkidefekaaGreatEan
import Derived.Test.YteijfnkidefekaaGreatEao
set_option linter.unusedVariables false
set_option linter.unusedSimpArgs false
set_option linter.unusedSectionVars false
set_option maxRecDepth 100000
namespace Go.Proofs.YteijfnkidefekaaGreat
open Tryz
section
open Go Go.RowKit Go.Shelf Go.Lib
theorem a8o (v:Vu)(l:List a3v)(w:Wd)(h:Ln w.heap.size w v l) :
 Calls prog 37 #[v] w λe w'=>∃u,e= .returned u/\w'.ownsRow w.heap.size 41 2 u l.length (l.flatMap ptE.enc)/\Below w.heap.size w w':=by
 obtain⟨h,hf,hl⟩:=h;rcases hf with rfl|⟨b,off,cap,rfl⟩
 ·obtain⟨a,cap,e,-⟩:=h.form
  simp only[Value.slice.injEq]at e;obtain⟨-,e,-⟩:=e;obtain rfl:=List.eq_nil_of_length_eq_zero e.symm;refine(AnyE.slices_Clone_nil Tryz.clonePt 0 0 w).mono ?_;exact yds
 ·obtain⟨i0,bV,dm,aH,bn⟩:=info_parts (P:=prog) (e:=41) (z:= .agg #[.int .i64 0,.int .i64 0]) (size:=2) (bytes:=16) zM
  refine(AnyE.slices_Clone Tryz.clonePt i0 _ 2 16 bV dm aH bn qM xM sizeOf41 b off l.length cap (l.flatMap ptE.enc) w (a0t c3n l) gM xM (h.flat c3n) (a2q c3n l)).mono ?_;exact yfk
theorem a0o {W:Wd}{base:Nat}{e:Td}{s:Nat}{v:Vu}{n:Nat}{xs:List Value}(h:W.ownsRow base e s v n xs):Frm v n:=by
 rcases h.2 with⟨rfl,-⟩|⟨g,cap,cur,rfl,-⟩
 ·exact .inl rfl
 ·exact .inr ⟨g,0,cap,rfl⟩
theorem a8p {n0:Nat}{W:Wd}{v:Vu}{l:List a3v}(h:W.ownsRow n0 41 2 v l.length (l.flatMap ptE.enc))(hl:l.length<=1000):Ln W.heap.size W v l:=⟨a0g c3n h xM,a0o h,hl⟩
structure NmR (n0 BM:Nat)(w0:Wd)(x0 x1 x2 x3:Option Addr)(c0 c1 c2 c3:Nat)(E:List Eg)(F:List Fc)(Y:List Wq)(P:List Pc)(W:Wd):Prop where
 b:Blk W BM #[.slice x0 E.length c0,.slice x1 F.length c1,.slice x2 Y.length c2,.slice x3 P.length c3] 32
 m:MapV W.heap.size W (.slice x0 E.length c0) (.slice x1 F.length c1) (.slice x2 Y.length c2) (.slice x3 P.length c3) E F Y P
 z:n0<=W.heap.size
 bel:Below n0 w0 W
theorem NmR.up {n0 BM:Nat}{w0:Wd}{x0 x1 x2 x3:Option Addr}{c0 c1 c2 c3:Nat}{E:List Eg}{F:List Fc}{Y:List Wq}{P:List Pc}{W W':Wd}(h:NmR n0 BM w0 x0 x1 x2 x3 c0 c1 c2 c3 E F Y P W)(hb:Below W.heap.size W W'):NmR n0 BM w0 x0 x1 x2 x3 c0 c1 c2 c3 E F Y P W' :=
 ⟨h.b.below hb h.b.lt,h.m.up hb,Nat.le_trans h.z hb.size,h.bel.trans (hb.mono h.z)⟩
abbrev a1s :Array Value:= #[.slice none 0 0,.slice none 0 0,.slice none 0 0,.slice none 0 0]
theorem a2v {W:Wd}{base:Nat}{e:Td}{s:Nat}{v:Vu}{n:Nat}{xs:List Value}(h:W.ownsRow base e s v n xs):∃a c,v= .slice a n c:=by
 rcases h.2 with⟨rfl,h0⟩|⟨g,cap,cur,rfl,-⟩
 ·exact⟨none,0,by rw[h0]⟩
 ·exact⟨_,_,rfl⟩
structure Rw4 (n0 B:Nat)(W:Wd)(a0 a1 a2 a3:Option Addr)(d0 d1 d2 d3:Nat)(E:List Eg)(F:List Fc)(Y:List Wq)(P:List Pc):Prop where
 e:W.ownsRow n0 71 4 (.slice a0 E.length d0) E.length (E.flatMap egE.enc)
 f:W.ownsRow n0 43 5 (.slice a1 F.length d1) F.length (F.flatMap fcE.enc)
 w:W.ownsRow n0 46 8 (.slice a2 Y.length d2) Y.length (Y.flatMap wqE.enc)
 p:W.ownsRow n0 48 7 (.slice a3 P.length d3) P.length (P.flatMap plE.enc)
 b:Blk W B #[.slice a0 E.length d0,.slice a1 F.length d1,.slice a2 Y.length d2,.slice a3 P.length d3] 32
 n:n0<=B
 z:n0<=W.heap.size
section
variable {n0 B:Nat}{W W':Wd}{a0 a1 a2 a3:Option Addr}{d0 d1 d2 d3:Nat}{E:List Eg}{F:List Fc}{Y:List Wq}{P:List Pc}
theorem Rw4.up (h:Rw4 n0 B W a0 a1 a2 a3 d0 d1 d2 d3 E F Y P)(hb:Below W.heap.size W W'):Rw4 n0 B W' a0 a1 a2 a3 d0 d1 d2 d3 E F Y P :=
 ⟨a0c h.e hb,a0c h.f hb,a0c h.w hb,a0c h.p hb,h.b.below hb h.b.lt,h.n,Nat.le_trans h.z hb.size⟩
theorem a3g {t:Td}{s n k:Nat}{v:Vu}{xs:List Value}(h:W.ownsRow n0 t s v n xs)(e:v.ownBlock=some k):∃c,Blk W k c t:=by
 rcases h.2 with⟨rfl,-⟩|⟨g,cap,cur,rfl,h1,h2,-⟩
 ·cases e
 ·cases e
  exact⟨cur,h2⟩
theorem a0i {t tg:Td}{s n g:Nat}{v:Vu}{xs:List Value}{cur:Array Value}(h:W.ownsRow n0 t s v n xs)(hg:W.grownBy W' (some g))(k:Blk W g cur tg)(ht:t≠tg):W'.ownsRow n0 t s v n xs:=h.kept hg (.inr (a2e h k (Ne.symm ht)))
theorem a4l {B g:Nat}{c cur:Array Value}{t tg:Td}(h:Blk W B c t)(hg:W.grownBy W' (some g))(k:Blk W g cur tg)(ht:t≠tg):Blk W' B c t:=by
 refine(hg.block B h.lt λe=> ?_).trans h
 cases e;have:=h.symm.trans k;simp at this;exact ht this.2
theorem Rw4.setE {g:Nat}(h:Rw4 n0 B W (some ⟨g,0,none⟩) a1 a2 a3 d0 d1 d2 d3 E F Y P){p i:Nat}(hp:p<E.length)(hi:i<4){y:Eg}{u:Vu}(he:egE.enc y=(egE.enc E[p]).set i u):Rw4 n0 B (W.setCell ⟨g,p*4+i,none⟩ u) (some ⟨g,0,none⟩) a1 a2 a3 d0 d1 d2 d3 (E.set p y) F Y P:=by
 obtain⟨cd,kd⟩:=a3g h.e rfl;have hg:=a0d W g (p*4+i) u;have:=El.setRow a9b h.e hp hi he;have hb:=a4l h.b hg kd jM;rw[show E.length=(E.set p y).length by simp]at hb;exact⟨by rw[List.length_set]at this ⊢;exact this,a0i h.f hg kd jM,a0i h.w hg kd jM,a0i h.p hg kd jM,hb,h.n,by simpa using h.z⟩
theorem Rw4.setY {g:Nat}(h:Rw4 n0 B W a0 a1 (some ⟨g,0,none⟩) a3 d0 d1 d2 d3 E F Y P){p i:Nat}(hp:p<Y.length)(hi:i<8){y:Wq}{u:Vu}(he:wqE.enc y=(wqE.enc Y[p]).set i u):Rw4 n0 B (W.setCell ⟨g,p*8+i,none⟩ u) a0 a1 (some ⟨g,0,none⟩) a3 d0 d1 d2 d3 E F (Y.set p y) P:=by
 obtain⟨cd,kd⟩:=a3g h.w rfl;have hg:=a0d W g (p*8+i) u;have:=El.setRow a6d h.w hp hi he;have hb:=a4l h.b hg kd jM;rw[show Y.length=(Y.set p y).length by simp]at hb;exact⟨a0i h.e hg kd jM,a0i h.f hg kd jM,by rw[List.length_set]at this ⊢;exact this,a0i h.p hg kd jM,hb,h.n,by simpa using h.z⟩
end
end
end Go.Proofs.YteijfnkidefekaaGreat
