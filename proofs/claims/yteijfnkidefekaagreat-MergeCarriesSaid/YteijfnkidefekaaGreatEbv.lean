/-
  Parts.
-/
import Derived.Test.YteijfnkidefekaaGreatEbu
set_option linter.unusedVariables false
set_option linter.unusedSimpArgs false
set_option linter.unusedSectionVars false
set_option maxHeartbeats 8000000
set_option maxRecDepth 100000
namespace Go.Proofs.YteijfnkidefekaaGreat
open Tryz
section
open Go Go.RowKit Go.Shelf Go.Lib Go.Maps
variable{cs:Array Value}{l:List Pc}{B1 B2 B3 B5 Z Z1 Z2 Z3 Z5 i n0:Nat}{v:Vu}{W W' W1 w w':Wd}
theorem a3t {X:Wd}{t:Td}(h:Below (X.alloc (.cells cs t)).heap.size (X.alloc (.cells cs t)) W):Blk W X.heap.size cs t:=(Blk.new X cs t).below h vM
theorem b6m (h:Blk W Z cs 48)(e:cs=(l.flatMap plE.enc).toArray)(hl:l.length<=10)(hz:Z<n0):Lst plE n0 W (.slice (some ⟨Z,0,none⟩) l.length l.length) l :=
 ⟨_,l.length,rfl,yR _,xM,λj hj=>⟨Z,0,rfl,hz,λi hi=>by
  have hr:W.ownsRow 0 48 7 (.slice (some ⟨Z,0,none⟩) l.length l.length) l.length (l.flatMap plE.enc):=⟨a0t a2n l,.inr ⟨Z,l.length,cs,rfl,Nat.zero_le _,h,yR _,by unfold maxLen;omega,by rw[e];simpa using a0t a2n l,by rw[e];exact List.take_of_length_le (by rw[a0t a2n l];exact yR _)⟩⟩;obtain⟨b,off,cap,hv,-,-,hc⟩:=(a0g a2n hr xM).some_ xM;simp only[Value.slice.injEq,Option.some.injEq,Addr.mk.injEq,and_true,true_and]at hv;obtain⟨⟨rfl,rfl⟩,-⟩:=hv;exact hc j hj i hi⟩⟩
structure TBx (W:Wd)(B Z:Nat)(l:List Pc):Prop where
 k:Blk W B (b6h (.slice (some ⟨Z,0,none⟩) l.length l.length)) 32
 m:PMap W.heap.size W (some ⟨Z,0,none⟩) l.length l
theorem TBx.up {B:Nat}(h:TBx W B Z l)(hb:Below W.heap.size W W'):TBx W' B Z l:=⟨h.k.below hb h.k.lt,h.m.up hb⟩
theorem a2x (h:Blk W Z cs 48)(e:cs=(l.flatMap plE.enc).toArray)(hl:l.length<=10)(hn:(l.map Pc.id).Nodup)(hf:∀p∈l,a0l p.id):PMap W.heap.size W (some ⟨Z,0,none⟩) l.length l :=
 ⟨c5e (b6m h e hl h.lt) (.inr ⟨Z,0,l.length,rfl⟩) xM hf,hn,hl⟩
theorem b4f (l:List Pc)(h:(l.all λp=>decide (-1000<=p.id/\p.id<=1000))=true):∀p∈l,a0l p.id:=λp hp=>by
 have:=List.all_eq_true.1 h p hp;simp only[decide_eq_true_eq]at this;exact⟨xM,xM⟩
structure SnR (W1:Wd)(B1 B2 B3 Z1 Z2 Z3:Nat)(W:Wd):Prop where
 t1:TBx W B1 Z1 comL
 t2:TBx W B2 Z2 a3y
 t3:TBx W B3 Z3 c5f
 bel:Below W1.heap.size W1 W
theorem SnR.up (h:SnR W1 B1 B2 B3 Z1 Z2 Z3 W)(hb:Below W.heap.size W W'):SnR W1 B1 B2 B3 Z1 Z2 Z3 W':=⟨h.t1.up hb,h.t2.up hb,h.t3.up hb,h.bel.trans (hb.mono h.bel.size)⟩
def FSa (B1 B2 B3 Z1 Z2 Z3:Nat)(i:Nat)(v:Vu)(w:Wd):Prop :=
 match i with
 |0=>v= .agg #[.slice none 0 0,.slice none 0 0,.slice none 0 0,.slice (some ⟨Z2,0,none⟩) 2 2]
 |1=>v= .agg #[.slice none 0 0,.slice none 0 0,.slice none 0 0,.slice (some ⟨Z3,0,none⟩) 2 2]
 |2=>v= .agg #[.int .i64 5,.int .i64 1,.int .i64 1,.string ⟨#[116,114,101,101]⟩,.string ⟨#[]⟩,.int .i64 2,.int .i64 1]
 |3=>v= .agg #[.int .i64 6,.int .i64 2,.int .i64 2,.string ⟨#[116,114,101,101]⟩,.string ⟨#[]⟩,.int .i64 3,.int .i64 1]
 |4=>∃Z,v= .slice (some ⟨Z,0,none⟩) 2 2/\Blk w Z #[.int .i64 5,.int .i64 1,.int .i64 1,.string ⟨#[116,114,101,101]⟩,.string ⟨#[]⟩,.int .i64 2,.int .i64 1,.int .i64 6,.int .i64 2,.int .i64 2,.string ⟨#[116,114,101,101]⟩,.string ⟨#[]⟩,.int .i64 3,.int .i64 1] 48
 |5=>∃Z,v= .agg #[.slice none 0 0,.slice none 0 0,.slice none 0 0,.slice (some ⟨Z,0,none⟩) 2 2]/\Blk w Z #[.int .i64 5,.int .i64 1,.int .i64 1,.string ⟨#[116,114,101,101]⟩,.string ⟨#[]⟩,.int .i64 2,.int .i64 1,.int .i64 6,.int .i64 2,.int .i64 2,.string ⟨#[116,114,101,101]⟩,.string ⟨#[]⟩,.int .i64 3,.int .i64 1] 48
 |6=>v= .bool true
 |7=>v= .bool true
 |8=>v= .agg #[.slice none 0 0,.slice none 0 0,.slice none 0 0,.slice (some ⟨Z2,0,none⟩) 2 2]
 |9=>v= .agg #[.int .i64 5,.int .i64 1,.int .i64 1,.string ⟨#[116,114,101,101]⟩,.string ⟨#[]⟩,.int .i64 3,.int .i64 1]
 |10=>v= .agg #[.int .i64 6,.int .i64 2,.int .i64 2,.string ⟨#[116,114,101,101]⟩,.string ⟨#[]⟩,.int .i64 1,.int .i64 1]
 |11=>∃Z,v= .slice (some ⟨Z,0,none⟩) 2 2/\Blk w Z #[.int .i64 5,.int .i64 1,.int .i64 1,.string ⟨#[116,114,101,101]⟩,.string ⟨#[]⟩,.int .i64 3,.int .i64 1,.int .i64 6,.int .i64 2,.int .i64 2,.string ⟨#[116,114,101,101]⟩,.string ⟨#[]⟩,.int .i64 1,.int .i64 1] 48
 |12=>∃Z,v= .agg #[.slice none 0 0,.slice none 0 0,.slice none 0 0,.slice (some ⟨Z,0,none⟩) 2 2]/\Blk w Z #[.int .i64 5,.int .i64 1,.int .i64 1,.string ⟨#[116,114,101,101]⟩,.string ⟨#[]⟩,.int .i64 3,.int .i64 1,.int .i64 6,.int .i64 2,.int .i64 2,.string ⟨#[116,114,101,101]⟩,.string ⟨#[]⟩,.int .i64 1,.int .i64 1] 48
 |13=>v= .agg #[.slice none 0 0,.slice none 0 0,.slice none 0 0,.slice (some ⟨Z1,0,none⟩) 2 2]
 |14=>∃Z,v= .slice (some ⟨Z,0,none⟩) 1 1/\Blk w Z #[.int .i64 5] 3
 |15=>v= .bool true
 |16=>v= .bool true
 |_=>False
theorem FSa.kept (h:FSa B1 B2 B3 Z1 Z2 Z3 i v w)(hg:Below w.heap.size w w'):FSa B1 B2 B3 Z1 Z2 Z3 i v w':=by
 unfold FSa at *;exact yef
structure SnR5 (W1:Wd)(B1 B2 B5 Z1 Z2 Z5:Nat)(W:Wd):Prop where
 t1:TBx W B1 Z1 comL
 t2:TBx W B2 Z2 a3y
 t3:TBx W B5 Z5 a6w
 bel:Below W1.heap.size W1 W
theorem SnR5.up (h:SnR5 W1 B1 B2 B5 Z1 Z2 Z5 W)(hb:Below W.heap.size W W'):SnR5 W1 B1 B2 B5 Z1 Z2 Z5 W':=⟨h.t1.up hb,h.t2.up hb,h.t3.up hb,h.bel.trans (hb.mono h.bel.size)⟩
def FSb (B1 B2 B5 Z1 Z2 Z5:Nat)(i:Nat)(v:Vu)(w:Wd):Prop :=
 match i with
 |0=>v= .agg #[.slice none 0 0,.slice none 0 0,.slice none 0 0,.slice (some ⟨Z5,0,none⟩) 1 1]
 |1=>v= .agg #[.slice none 0 0,.slice none 0 0,.slice none 0 0,.slice (some ⟨Z2,0,none⟩) 2 2]
 |2=>v= .agg #[.slice none 0 0,.slice none 0 0,.slice none 0 0,.slice (some ⟨Z1,0,none⟩) 2 2]
 |3=>∃Z,v= .slice (some ⟨Z,0,none⟩) 1 1/\Blk w Z #[.int .i64 5] 3
 |4=>v= .bool true
 |5=>v= .bool true
 |6=>v= .agg #[.slice none 0 0,.slice none 0 0,.slice none 0 0,.slice (some ⟨Z5,0,none⟩) 1 1]
 |7=>v= .agg #[.int .i64 4,.int .i64 9,.int .i64 9,.string ⟨#[116,114,101,101]⟩,.string ⟨#[]⟩,.int .i64 1,.int .i64 1]
 |8=>v= .agg #[.int .i64 6,.int .i64 2,.int .i64 2,.string ⟨#[116,114,101,101]⟩,.string ⟨#[]⟩,.int .i64 1,.int .i64 1]
 |9=>∃Z,v= .slice (some ⟨Z,0,none⟩) 2 2/\Blk w Z #[.int .i64 4,.int .i64 9,.int .i64 9,.string ⟨#[116,114,101,101]⟩,.string ⟨#[]⟩,.int .i64 1,.int .i64 1,.int .i64 6,.int .i64 2,.int .i64 2,.string ⟨#[116,114,101,101]⟩,.string ⟨#[]⟩,.int .i64 1,.int .i64 1] 48
 |10=>∃Z,v= .agg #[.slice none 0 0,.slice none 0 0,.slice none 0 0,.slice (some ⟨Z,0,none⟩) 2 2]/\Blk w Z #[.int .i64 4,.int .i64 9,.int .i64 9,.string ⟨#[116,114,101,101]⟩,.string ⟨#[]⟩,.int .i64 1,.int .i64 1,.int .i64 6,.int .i64 2,.int .i64 2,.string ⟨#[116,114,101,101]⟩,.string ⟨#[]⟩,.int .i64 1,.int .i64 1] 48
 |11=>v= .agg #[.int .i64 4,.int .i64 9,.int .i64 9,.string ⟨#[116,114,101,101]⟩,.string ⟨#[]⟩,.int .i64 1,.int .i64 1]
 |12=>v= .agg #[.int .i64 6,.int .i64 2,.int .i64 2,.string ⟨#[116,114,101,101]⟩,.string ⟨#[]⟩,.int .i64 1,.int .i64 1]
 |13=>∃Z,v= .slice (some ⟨Z,0,none⟩) 2 2/\Blk w Z #[.int .i64 4,.int .i64 9,.int .i64 9,.string ⟨#[116,114,101,101]⟩,.string ⟨#[]⟩,.int .i64 1,.int .i64 1,.int .i64 6,.int .i64 2,.int .i64 2,.string ⟨#[116,114,101,101]⟩,.string ⟨#[]⟩,.int .i64 1,.int .i64 1] 48
 |14=>∃Z,v= .agg #[.slice none 0 0,.slice none 0 0,.slice none 0 0,.slice (some ⟨Z,0,none⟩) 2 2]/\Blk w Z #[.int .i64 4,.int .i64 9,.int .i64 9,.string ⟨#[116,114,101,101]⟩,.string ⟨#[]⟩,.int .i64 1,.int .i64 1,.int .i64 6,.int .i64 2,.int .i64 2,.string ⟨#[116,114,101,101]⟩,.string ⟨#[]⟩,.int .i64 1,.int .i64 1] 48
 |15=>v= .bool true
 |16=>v= .bool true
 |_=>False
theorem FSb.kept (h:FSb B1 B2 B5 Z1 Z2 Z5 i v w)(hg:Below w.heap.size w w'):FSb B1 B2 B5 Z1 Z2 Z5 i v w':=by
 unfold FSb at *;exact yef
theorem c9d {x:Wq}(h:x.key=wkZ)(hl:Ln n0 W x.sl x.line):∃a c,x=zw a c:=by
 obtain⟨i,a,n,c,l,lv,cs,nm,st,wt,ds⟩:=x;simp only[Wq.key,wkZ,Wk.mk.injEq]at h;obtain⟨rfl,rfl,rfl,rfl,rfl,rfl,rfl,rfl⟩:=h;obtain⟨b,d,e,-⟩:=hl.lst.form;simp only[Value.slice.injEq]at e;obtain⟨-,rfl,-⟩:=e;exact⟨a,c,rfl⟩
def c8c :Et:=⟨4,5,0,0,0,fcZ,zw none 0,pcZ⟩
def ePl :Et:=⟨3,0,0,0,0,fcZ,zw none 0,a1x 6 1 3⟩
theorem c6n {x y:Et}(h:Blk W Z (etA x++etA y) 50)(hz:Z<n0):Lst etE n0 W (.slice (some ⟨Z,0,none⟩) 2 2) [x,y] :=
 ⟨_,2,rfl,by simp,by simp,λj hj=>⟨Z,0,rfl,hz,λi hi=>by
  have jK:i<25:=hi;have gK:j=0\/j=1:=by simp at hj;omega
  rcases gK with rfl|rfl
  ·rw[Nat.zero_mul,Nat.zero_add,h.cell i]
   rw[Array.getElem?_append_left (by simpa using jK)];simp
  ·rw[Nat.one_mul,Nat.zero_add,h.cell _,Array.getElem?_append_right (by show 25<=etE.s+i;exact Nat.le_add_right 25 i)]
   have:etE.s+i-(etA x).size=i:=Nat.add_sub_cancel_left 25 i;rw[this];simp⟩⟩
def EdR (w:Wd)(x:Option Addr)(c:Nat)(es:List Et):Prop:=Lst etE w.heap.size w (.slice x 2 c) es/\es.map Et.key=[a9e 5,a3k (a1x 6 1 3)]/\∀y∈es,∃a d,y.w=zw a d
theorem EdR.up {x:Option Addr}{c:Nat}{es:List Et}(h:EdR w x c es)(hb:Below w.heap.size w w'):EdR w' x c es:=⟨h.1.up hb,h.2⟩
theorem c6o (Z1 Z:Nat)(W:Wd)(h1:PMap W.heap.size W (some ⟨Z1,0,none⟩) comL.length comL)(h2:PMap W.heap.size W (some ⟨Z,0,none⟩) movedL.length movedL):
 Calls prog 6 #[.agg #[.slice none 0 0,.slice none 0 0,.slice none 0 0,.slice (some ⟨Z1,0,none⟩) 2 2],.agg #[.slice none 0 0,.slice none 0 0,.slice none 0 0,.slice (some ⟨Z,0,none⟩) 1 1]] W λe w'=>∃x c es,e= .returned (.tuple #[.slice x 2 c,.bool true])/\EdR w' x c es/\Below W.heap.size W w':=by
 have hd:=b7m none none none (some ⟨Z1,0,none⟩) none none none (some ⟨Z,0,none⟩) 0 0 0 2 0 0 0 1 [] [] [] [] [] [] comL movedL W h1.m h2.m vM;refine Calls.mono hd ?_;rintro e w'⟨hb,h|⟨v,es,a,b,R,rfl,hL,hF,hx,-,-,Py,rJ,-,Ct,hR,hk⟩⟩
 ·obtain⟨-,h⟩:=h
  obtain⟨a,b,ha,aq,hf⟩:=h (by decide +kernel) (by decide +kernel);rw[b9j ha aq]at hf
  cases hf
 ·rw[c2w Py rJ Ct hR]at hk
  have hl:es.length=2:=by simpa using congrArg List.length hk
  obtain⟨x,c,rfl,-⟩:=hL.form;rw[hl]at hL ⊢;refine⟨x,c,es,rfl,⟨hL,hk,λy hy=>c9d (n0:=w'.heap.size) (W:=w') ?_ (hx y hy).1⟩,hb⟩;have hm:y.key∈es.map Et.key:=List.mem_map.2 ⟨y,hy,rfl⟩;rw[hk]at hm;have hw:y.key.way=wkZ:=by
   simp only[List.mem_cons,List.not_mem_nil,or_false]at hm;rcases hm with h|h <;> rw[h] <;> rfl
  exact hw
structure SnR7 (W1:Wd)(B1 Z1:Nat)(W:Wd):Prop where
 t1:TBx W B1 Z1 comL
 bel:Below W1.heap.size W1 W
theorem SnR7.up (h:SnR7 W1 B1 Z1 W)(hb:Below W.heap.size W W'):SnR7 W1 B1 Z1 W':=⟨h.t1.up hb,h.bel.trans (hb.mono h.bel.size)⟩
def FSc (B1 Z1:Nat)(i:Nat)(v:Vu)(w:Wd):Prop :=
 match i with
 |0=>v= .agg #[.slice none 0 0,.slice none 0 0,.slice none 0 0,.slice (some ⟨Z1,0,none⟩) 2 2]
 |1=>v= .agg #[.int .i64 6,.int .i64 3,.int .i64 3,.string ⟨#[116,114,101,101]⟩,.string ⟨#[]⟩,.int .i64 1,.int .i64 1]
 |2=>∃Z,v= .slice (some ⟨Z,0,none⟩) 1 1/\Blk w Z #[.int .i64 6,.int .i64 3,.int .i64 3,.string ⟨#[116,114,101,101]⟩,.string ⟨#[]⟩,.int .i64 1,.int .i64 1] 48
 |3=>∃Z,v= .agg #[.slice none 0 0,.slice none 0 0,.slice none 0 0,.slice (some ⟨Z,0,none⟩) 1 1]/\Blk w Z #[.int .i64 6,.int .i64 3,.int .i64 3,.string ⟨#[116,114,101,101]⟩,.string ⟨#[]⟩,.int .i64 1,.int .i64 1] 48
 |4=>∃x c es,v= .tuple #[.slice x 2 c,.bool true]/\EdR w x c es
 |5=>∃x c es,v= .tuple #[.slice x 2 c,.bool true]/\EdR w x c es
 |6=>∃x c es,v= .slice x 2 c/\EdR w x c es
 |7=>v= .bool true
 |8=>∃x c es,v= .slice x 2 c/\EdR w x c es
 |_=>False
theorem FSc.kept (h:FSc B1 Z1 i v w)(hg:Below w.heap.size w w'):FSc B1 Z1 i v w':=by
 unfold FSc at *;split at h
 all_goals first|exact h|(obtain⟨Z,h1,h2⟩:=h;exact⟨Z,h1,h2.below hg h2.lt⟩)|(obtain⟨x,c,es,h1,h2⟩:=h;exact⟨x,c,es,h1,h2.up hg⟩)
theorem c4w (w:Wd):Zc prog 4 #[] w (.bool true):=by
 have ar:Below w.heap.size w w:=zR _ _;go_enter func4,ntmps4;go_upto_region 2 with(first
  |(go_at_call 12;(with_reducible refine(a3i _ _ _ _).mono ?_);rintro e wt⟨rfl,gQ⟩;replace ar:=ar.trans (gQ.mono ar.size);clear gQ)
  |(go_at_call 11;(with_reducible refine(a3j _ _ _ _).mono ?_);rintro e wd⟨rfl,cJ⟩;have dY:=a3t cJ;obtain⟨Z1,jt⟩:=zE wt.heap.size;rw[jt]at dY ⊢;have aM:=ar.size;replace ar:=(ar.alloc aM _).trans (cJ.mono (by rw[World.size_alloc];omega));clear cJ jt aM))
 have kb:=Blk.new wd #[.slice none 0 0,.slice none 0 0,.slice none 0 0,.slice (some ⟨Z1,0,none⟩) 2 2] 32;have eQ:Below wd.heap.size wd (wd.alloc (.cells #[.slice none 0 0,.slice none 0 0,.slice none 0 0,.slice (some ⟨Z1,0,none⟩) 2 2] 32)):=(zR _ _).alloc (yR _) _;obtain⟨W1,ao⟩:=zE (wd.alloc (.cells #[.slice none 0 0,.slice none 0 0,.slice none 0 0,.slice (some ⟨Z1,0,none⟩) 2 2] 32));rw[ao]at kb eQ ⊢;clear ao;have iy:Below w.heap.size w W1:=ar.trans (eQ.mono ar.size);have T1:TBx W1 wd.heap.size Z1 comL:=⟨kb,a2x (dY.below eQ dY.lt) rfl jM jM (by intro p hp;simp[comL]at hp;rcases hp with rfl|rfl <;> exact⟨jM,jM⟩)⟩;obtain⟨B1,jy⟩:=zE wd.heap.size;rw[jy]at T1 ⊢;clear kb eQ dY ar;have ar:Below W1.heap.size W1 W1:=zR _ _;go_upto_region 3 with(first
  |(go_at_call 12;(with_reducible refine(a3i _ _ _ _).mono ?_);rintro e wt⟨rfl,gQ⟩;(try (replace dY:=dY.below gQ dY.lt));replace ar:=ar.trans (gQ.mono ar.size);clear gQ)
  |(have Hs:=dY;go_at_call 11;(with_reducible refine(a3j _ _ _ _).mono ?_);rintro e wd⟨rfl,cJ⟩;have qQ:=a3t cJ;obtain⟨Z3,jt⟩:=zE wt.heap.size;rw[jt]at qQ ⊢;have aM:=ar.size;have uY:=(dY.alloc (.cells (a7p 5 1 1++a7p 6 3 2) 48)).below cJ (by have:=dY.lt;rw[World.size_alloc];omega);replace ar:=(ar.alloc aM _).trans (cJ.mono (by rw[World.size_alloc];omega));clear cJ jt aM)
  |(go_at_call 11;(with_reducible refine(a3j _ _ _ _).mono ?_);rintro e wd⟨rfl,cJ⟩;have dY:=a3t cJ;obtain⟨Z2,jt⟩:=zE wt.heap.size;rw[jt]at dY ⊢;have aM:=ar.size;replace ar:=(ar.alloc aM _).trans (cJ.mono (by rw[World.size_alloc];omega));clear cJ jt aM))
 have Ht:=(Blk.new wd #[.slice none 0 0,.slice none 0 0,.slice none 0 0,.slice (some ⟨Z2,0,none⟩) 2 2] 32).alloc (.cells #[.slice none 0 0,.slice none 0 0,.slice none 0 0,.slice (some ⟨Z3,0,none⟩) 2 2] 32);have CI:=Blk.new (wd.alloc (.cells #[.slice none 0 0,.slice none 0 0,.slice none 0 0,.slice (some ⟨Z2,0,none⟩) 2 2] 32)) #[.slice none 0 0,.slice none 0 0,.slice none 0 0,.slice (some ⟨Z3,0,none⟩) 2 2] 32;rw[World.size_alloc]at CI;have eQ:Below wd.heap.size wd ((wd.alloc (.cells #[.slice none 0 0,.slice none 0 0,.slice none 0 0,.slice (some ⟨Z2,0,none⟩) 2 2] 32)).alloc (.cells #[.slice none 0 0,.slice none 0 0,.slice none 0 0,.slice (some ⟨Z3,0,none⟩) 2 2] 32)):=by exact zC
 obtain⟨W2,bQ⟩:=zE ((wd.alloc (.cells #[.slice none 0 0,.slice none 0 0,.slice none 0 0,.slice (some ⟨Z2,0,none⟩) 2 2] 32)).alloc (.cells #[.slice none 0 0,.slice none 0 0,.slice none 0 0,.slice (some ⟨Z3,0,none⟩) 2 2] 32));rw[bQ]at Ht CI eQ ⊢;clear bQ;have uZ:Below W1.heap.size W1 W2:=ar.trans (eQ.mono ar.size);have ve:Below w.heap.size w W2:=iy.trans (uZ.mono iy.size);have KX:=T1.up uZ;have T2:TBx W2 wd.heap.size Z2 a3y:=⟨Ht,a2x (uY.below eQ uY.lt) rfl jM jM (b4f a3y jM)⟩;have T3:TBx W2 (wd.heap.size+1) Z3 c5f:=⟨CI,a2x (qQ.below eQ qQ.lt) rfl jM jM (b4f c5f jM)⟩;obtain⟨B2,gy⟩:=zE wd.heap.size;rw[gy]at T2 T3 ⊢;obtain⟨B3,dF⟩:=zE (B2+1);rw[dF]at T3 ⊢;clear Ht CI eQ dY Hs qQ uY ar T1 uZ iy;have hS:SnR W2 B1 B2 B3 Z1 Z2 Z3 W2:=⟨KX,T2,T3,zR _ _⟩;clear KX T2 T3;refine Go.wp_region_relg 17 zM zM (λ_ W=>SnR W2 B1 B2 B3 Z1 Z2 Z3 W) (λw w'=>Below w.heap.size w w') (FSa B1 B2 B3 Z1 Z2 Z3) (λ_ _ _ _ h g=>h.kept g) (hS.up (zR _ _).drew) ?step ?tail
 case step =>
  clear hS;intro i o hi ho c bb W hc hM hA hD K hK;match i,hi,ho with
  |0,_,ho =>
   cases ho;exact yaq
  |1,_,ho =>
   cases ho;have f3:=a0a (v:= .pointer (some ⟨B3,0,none⟩)) (hA.at_ (k:=3) zM);have z0:W.cell? ⟨B3,0,none⟩=some (.slice none 0 0):=hM.t3.k.cell 0;have z1:W.cell? ⟨B3,1,none⟩=some (.slice none 0 0):=hM.t3.k.cell 1;have z2:W.cell? ⟨B3,2,none⟩=some (.slice none 0 0):=hM.t3.k.cell 2;have z3:W.cell? ⟨B3,3,none⟩=some (.slice (some ⟨Z3,0,none⟩) 2 2):=hM.t3.k.cell 3;go_simp;exact hK (.agg #[.slice none 0 0,.slice none 0 0,.slice none 0 0,.slice (some ⟨Z3,0,none⟩) 2 2]) W rfl (zR _ _) hM
  |2,_,ho =>
   cases ho;exact yep
  |3,_,ho =>
   cases ho;exact yep
  |4,_,ho =>
   cases ho;have f26:=a0a (v:= .agg #[.int .i64 5,.int .i64 1,.int .i64 1,.string ⟨#[116,114,101,101]⟩,.string ⟨#[]⟩,.int .i64 2,.int .i64 1]) (a0b hD 2 26 zM rfl rfl);have f27:=a0a (v:= .agg #[.int .i64 6,.int .i64 2,.int .i64 2,.string ⟨#[116,114,101,101]⟩,.string ⟨#[]⟩,.int .i64 3,.int .i64 1]) (a0b hD 3 27 zM rfl rfl);go_simp;have hb:Below W.heap.size W (W.alloc (.cells #[.int .i64 5,.int .i64 1,.int .i64 1,.string ⟨#[116,114,101,101]⟩,.string ⟨#[]⟩,.int .i64 2,.int .i64 1,.int .i64 6,.int .i64 2,.int .i64 2,.string ⟨#[116,114,101,101]⟩,.string ⟨#[]⟩,.int .i64 3,.int .i64 1] 48)):=(zR _ _).alloc (yR _) _;exact yfx
  |5,_,ho =>
   cases ho;have f28:=a0b hD 4 28 zM rfl rfl;obtain⟨Z,ez,kz⟩:=f28;have f28:=a0a ez;exact ybz
  |6,_,ho =>
   cases ho;have f24:=a0a (v:= .agg #[.slice none 0 0,.slice none 0 0,.slice none 0 0,.slice (some ⟨Z2,0,none⟩) 2 2]) (a0b hD 0 24 zM rfl rfl);have f25:=a0a (v:= .agg #[.slice none 0 0,.slice none 0 0,.slice none 0 0,.slice (some ⟨Z3,0,none⟩) 2 2]) (a0b hD 1 25 zM rfl rfl);have f29:=a0b hD 5 29 zM rfl rfl;obtain⟨Z,ez,kz⟩:=f29;have f29:=a0a ez;have hq:=a3s a3y c5f c2u [] (some ⟨Z2,0,none⟩) (some ⟨Z3,0,none⟩) (some ⟨Z,0,none⟩) none 2 2 2 0 W hM.t2.m hM.t3.m (b6m (l:=c2u) kz rfl jM kz.lt) c6l jM jM (Lst.nil _ _ _) jM mg1 d0d;exact yir
  |7,_,ho =>
   cases ho;have f30:=a0a (v:= .bool true) (a0b hD 6 30 zM rfl rfl);exact yhs
  |8,_,ho =>
   cases ho;have vG:bb.tmps[31]? =some (.bool true):=a1y (v:= .bool true) (a0b hD 7 31 zM rfl rfl) (by rw[hA.size];exact Nat.le_of_ble_eq_true zM);exact yaq
  |9,_,ho =>
   exact ygp
  |10,_,ho =>
   exact ygp
  |11,_,ho =>
   cases ho;have vG:bb.tmps[31]? =some (.bool true):=a1y (v:= .bool true) (a0b hD 7 31 zM rfl rfl) (by rw[hA.size];exact Nat.le_of_ble_eq_true zM);have f33:=a0a (v:= .agg #[.int .i64 5,.int .i64 1,.int .i64 1,.string ⟨#[116,114,101,101]⟩,.string ⟨#[]⟩,.int .i64 3,.int .i64 1]) (a0b hD 9 33 zM rfl rfl);have f34:=a0a (v:= .agg #[.int .i64 6,.int .i64 2,.int .i64 2,.string ⟨#[116,114,101,101]⟩,.string ⟨#[]⟩,.int .i64 1,.int .i64 1]) (a0b hD 10 34 zM rfl rfl);go_simp;have hb:Below W.heap.size W (W.alloc (.cells #[.int .i64 5,.int .i64 1,.int .i64 1,.string ⟨#[116,114,101,101]⟩,.string ⟨#[]⟩,.int .i64 3,.int .i64 1,.int .i64 6,.int .i64 2,.int .i64 2,.string ⟨#[116,114,101,101]⟩,.string ⟨#[]⟩,.int .i64 1,.int .i64 1] 48)):=(zR _ _).alloc (yR _) _;exact yfx
  |12,_,ho =>
   cases ho;have vG:bb.tmps[31]? =some (.bool true):=a1y (v:= .bool true) (a0b hD 7 31 zM rfl rfl) (by rw[hA.size];exact Nat.le_of_ble_eq_true zM);have f35:=a0b hD 11 35 zM rfl rfl;obtain⟨Z,ez,kz⟩:=f35;have f35:=a0a ez;exact ybz
  |13,_,ho =>
   cases ho;have vG:bb.tmps[31]? =some (.bool true):=a1y (v:= .bool true) (a0b hD 7 31 zM rfl rfl) (by rw[hA.size];exact Nat.le_of_ble_eq_true zM);exact yar
  |14,_,ho =>
   cases ho;have vG:bb.tmps[31]? =some (.bool true):=a1y (v:= .bool true) (a0b hD 7 31 zM rfl rfl) (by rw[hA.size];exact Nat.le_of_ble_eq_true zM);exact yii
  |15,_,ho =>
   cases ho;have vG:bb.tmps[31]? =some (.bool true):=a1y (v:= .bool true) (a0b hD 7 31 zM rfl rfl) (by rw[hA.size];exact Nat.le_of_ble_eq_true zM);have f32:=a0a (v:= .agg #[.slice none 0 0,.slice none 0 0,.slice none 0 0,.slice (some ⟨Z2,0,none⟩) 2 2]) (a0b hD 8 32 zM rfl rfl);have f36:=a0b hD 12 36 zM rfl rfl;have f37:=a0a (v:= .agg #[.slice none 0 0,.slice none 0 0,.slice none 0 0,.slice (some ⟨Z1,0,none⟩) 2 2]) (a0b hD 13 37 zM rfl rfl);have f38:=a0b hD 14 38 zM rfl rfl;obtain⟨Z,ez,kz⟩:=f36;have f36:=a0a ez;obtain⟨Zi,ei,ki⟩:=f38;have f38:=a0a ei;have hq:=a3s a3y a9a comL [5] (some ⟨Z2,0,none⟩) (some ⟨Z,0,none⟩) (some ⟨Z1,0,none⟩) (some ⟨Zi,0,none⟩) 2 2 2 1 W hM.t2.m (a2x (l:=a9a) kz rfl jM jM (b4f a9a jM)) hM.t1.m.m.p c2v jM jM (a8z (E:=nE) ki ki.lt) jM mg2 d0e;exact yir
  |16,_,ho =>
   cases ho;have f31:=a0a (v:= .bool true) (a0b hD 7 31 zM rfl rfl);have f39:=a0a (v:= .bool true) (a0b hD 15 39 zM rfl rfl);exact yhs
  |i+17,hi,_=>exact absurd hi xM
 case tail =>
 intro bb W3 hM hA aa;have h40:=(show bb.eval (.tmp 40)= .bool true from aa 16 xM _ _ rfl rfl);have az:=hA.frame (rT 24 (rF 17 (rT 61 ([])))) _ rfl zM;clear aa hA;obtain⟨f,hf⟩:=zDt bb;have vP:f 40= .bool true:=by rw[<-hf,<-h40];rfl
 rw[hf]at az;clear hf h40;subst az;simp only[rT,rF,a1j,vP,Nat.reduceAdd];clear vP;simp only[zU];have vf:Below w.heap.size w W3:=ve.trans (hM.bel.mono ve.size);have T1:=hM.t1;have T2:=hM.t2;clear hM hS ve;have ar:Below W3.heap.size W3 W3:=zR _ _;go_upto_region 5 with(first
  |(go_at_call 12;(with_reducible refine(a3i _ _ _ _).mono ?_);rintro e wt⟨rfl,gQ⟩;(try (replace dY:=dY.below gQ dY.lt));replace ar:=ar.trans (gQ.mono ar.size);clear gQ)
  |(go_at_call 11;(with_reducible refine(a3j _ _ _ _).mono ?_);rintro e wd⟨rfl,cJ⟩;have dY:=a3t cJ;obtain⟨Z5,jt⟩:=zE wt.heap.size;rw[jt]at dY ⊢;have aM:=ar.size;replace ar:=(ar.alloc aM _).trans (cJ.mono (by rw[World.size_alloc];omega));clear cJ jt aM))
 have kb:=Blk.new wd #[.slice none 0 0,.slice none 0 0,.slice none 0 0,.slice (some ⟨Z5,0,none⟩) 1 1] 32;have eQ:Below wd.heap.size wd (wd.alloc (.cells #[.slice none 0 0,.slice none 0 0,.slice none 0 0,.slice (some ⟨Z5,0,none⟩) 1 1] 32)):=(zR _ _).alloc (yR _) _;obtain⟨W4,cU⟩:=zE (wd.alloc (.cells #[.slice none 0 0,.slice none 0 0,.slice none 0 0,.slice (some ⟨Z5,0,none⟩) 1 1] 32));rw[cU]at kb eQ ⊢;clear cU;have fm:Below W3.heap.size W3 W4:=ar.trans (eQ.mono ar.size);have vg:Below w.heap.size w W4:=vf.trans (fm.mono vf.size);have KY:=T1.up fm;have KZ:=T2.up fm;have T5:TBx W4 wd.heap.size Z5 a6w:=⟨kb,a2x (dY.below eQ dY.lt) rfl jM jM (b4f a6w jM)⟩;obtain⟨B5,lH⟩:=zE wd.heap.size;rw[lH]at T5 ⊢;have hS:SnR5 W4 B1 B2 B5 Z1 Z2 Z5 W4:=⟨KY,KZ,T5,zR _ _⟩;clear kb eQ dY ar T1 T2 KY KZ T5 vf fm;refine Go.wp_region_relg 17 zM zM (λ_ W=>SnR5 W4 B1 B2 B5 Z1 Z2 Z5 W) (λw w'=>Below w.heap.size w w') (FSb B1 B2 B5 Z1 Z2 Z5) (λ_ _ _ _ h g=>h.kept g) (hS.up (zR _ _).drew) ?step5 ?tail5
 case step5 =>
  clear hS;intro i o hi ho c bb W hc hM hA hD K hK;match i,hi,ho with
  |0,_,ho =>
   cases ho;exact yce
  |1,_,ho =>
   cases ho;exact yaq
  |2,_,ho =>
   cases ho;exact yar
  |3,_,ho =>
   cases ho;exact yii
  |4,_,ho =>
   cases ho;have f44:=a0a (v:= .agg #[.slice none 0 0,.slice none 0 0,.slice none 0 0,.slice (some ⟨Z5,0,none⟩) 1 1]) (a0b hD 0 44 zM rfl rfl);have f45:=a0a (v:= .agg #[.slice none 0 0,.slice none 0 0,.slice none 0 0,.slice (some ⟨Z2,0,none⟩) 2 2]) (a0b hD 1 45 zM rfl rfl);have f46:=a0a (v:= .agg #[.slice none 0 0,.slice none 0 0,.slice none 0 0,.slice (some ⟨Z1,0,none⟩) 2 2]) (a0b hD 2 46 zM rfl rfl);have f47:=a0b hD 3 47 zM rfl rfl;obtain⟨Zi,ei,ki⟩:=f47;have f47:=a0a ei;have hq:=a3s a6w a3y comL [5] (some ⟨Z5,0,none⟩) (some ⟨Z2,0,none⟩) (some ⟨Z1,0,none⟩) (some ⟨Zi,0,none⟩) 1 2 2 1 W hM.t3.m hM.t2.m hM.t1.m.m.p c2v jM jM (a8z (E:=nE) ki ki.lt) jM mg3 d0f;exact yir
  |5,_,ho =>
   cases ho;have f48:=a0a (v:= .bool true) (a0b hD 4 48 zM rfl rfl);exact yhs
  |6,_,ho =>
   cases ho;have re:bb.tmps[49]? =some (.bool true):=a1y (v:= .bool true) (a0b hD 5 49 zM rfl rfl) (by rw[hA.size];exact Nat.le_of_ble_eq_true zM);exact yce
  |7,_,ho =>
   exact ybo
  |8,_,ho =>
   exact ybo
  |9,_,ho =>
   cases ho;have re:bb.tmps[49]? =some (.bool true):=a1y (v:= .bool true) (a0b hD 5 49 zM rfl rfl) (by rw[hA.size];exact Nat.le_of_ble_eq_true zM);have f51:=a0a (v:= .agg #[.int .i64 4,.int .i64 9,.int .i64 9,.string ⟨#[116,114,101,101]⟩,.string ⟨#[]⟩,.int .i64 1,.int .i64 1]) (a0b hD 7 51 zM rfl rfl);have f52:=a0a (v:= .agg #[.int .i64 6,.int .i64 2,.int .i64 2,.string ⟨#[116,114,101,101]⟩,.string ⟨#[]⟩,.int .i64 1,.int .i64 1]) (a0b hD 8 52 zM rfl rfl);exact ycw
  |10,_,ho =>
   cases ho;have re:bb.tmps[49]? =some (.bool true):=a1y (v:= .bool true) (a0b hD 5 49 zM rfl rfl) (by rw[hA.size];exact Nat.le_of_ble_eq_true zM);have f53:=a0b hD 9 53 zM rfl rfl;obtain⟨Z,ez,kz⟩:=f53;have f53:=a0a ez;exact ybz
  |11,_,ho =>
   exact ybo
  |12,_,ho =>
   exact ybo
  |13,_,ho =>
   cases ho;have re:bb.tmps[49]? =some (.bool true):=a1y (v:= .bool true) (a0b hD 5 49 zM rfl rfl) (by rw[hA.size];exact Nat.le_of_ble_eq_true zM);have f55:=a0a (v:= .agg #[.int .i64 4,.int .i64 9,.int .i64 9,.string ⟨#[116,114,101,101]⟩,.string ⟨#[]⟩,.int .i64 1,.int .i64 1]) (a0b hD 11 55 zM rfl rfl);have f56:=a0a (v:= .agg #[.int .i64 6,.int .i64 2,.int .i64 2,.string ⟨#[116,114,101,101]⟩,.string ⟨#[]⟩,.int .i64 1,.int .i64 1]) (a0b hD 12 56 zM rfl rfl);exact ycw
  |14,_,ho =>
   cases ho;have re:bb.tmps[49]? =some (.bool true):=a1y (v:= .bool true) (a0b hD 5 49 zM rfl rfl) (by rw[hA.size];exact Nat.le_of_ble_eq_true zM);have f57:=a0b hD 13 57 zM rfl rfl;obtain⟨Z,ez,kz⟩:=f57;have f57:=a0a ez;exact ybz
  |15,_,ho =>
   cases ho;have re:bb.tmps[49]? =some (.bool true):=a1y (v:= .bool true) (a0b hD 5 49 zM rfl rfl) (by rw[hA.size];exact Nat.le_of_ble_eq_true zM);have f50:=a0a (v:= .agg #[.slice none 0 0,.slice none 0 0,.slice none 0 0,.slice (some ⟨Z5,0,none⟩) 1 1]) (a0b hD 6 50 zM rfl rfl);have f54:=a0b hD 10 54 zM rfl rfl;have f58:=a0b hD 14 58 zM rfl rfl;obtain⟨Z,ez,kz⟩:=f54;have f54:=a0a ez;obtain⟨Y,ey,ky⟩:=f58;have f58:=a0a ey;have hq:=a3s a6w a7q a7q [] (some ⟨Z5,0,none⟩) (some ⟨Z,0,none⟩) (some ⟨Y,0,none⟩) none 1 2 2 0 W hM.t3.m (a2x (l:=a7q) kz rfl jM jM (b4f a7q jM)) (b6m (l:=a7q) ky rfl jM ky.lt) c6m jM jM (Lst.nil _ _ _) jM mg4 d0g;exact yir
  |16,_,ho =>
   cases ho;have f49:=a0a (v:= .bool true) (a0b hD 5 49 zM rfl rfl);have f59:=a0a (v:= .bool true) (a0b hD 15 59 zM rfl rfl);exact yhs
  |i+17,hi,_=>exact absurd hi xM
 case tail5 =>
 intro bb W5 hM hA aa;have h60:=(show bb.eval (.tmp 60)= .bool true from aa 16 xM _ _ rfl rfl);have az:=hA.frame (rT 44 (rF 17 (rT 41 ([])))) _ rfl zM;clear aa hA;obtain⟨f,hf⟩:=zDt bb;have yE:f 60= .bool true:=by rw[<-hf,<-h60];rfl
 rw[hf]at az;clear hf h60;subst az;simp only[rT,rF,a1j,yE,Nat.reduceAdd];clear yE;simp only[zU];have vh:Below w.heap.size w W5:=vg.trans (hM.bel.mono vg.size);have T1:=hM.t1;clear hM hS vg;clear jy gy dF lH;have ar:Below W5.heap.size W5 W5:=zR _ _;go_upto_region 7 with(first
  |(go_at_call 12;(with_reducible refine(a3i _ _ _ _).mono ?_);rintro e wt⟨rfl,gQ⟩;(try (replace dY:=dY.below gQ dY.lt));replace ar:=ar.trans (gQ.mono ar.size);clear gQ)
  |(have Hs:=dY;go_at_call 11;(with_reducible refine(a3j _ _ _ _).mono ?_);rintro e wd⟨rfl,cJ⟩;have qQ:=a3t cJ;obtain⟨Z8,jt⟩:=zE wt.heap.size;rw[jt]at qQ ⊢;have aM:=ar.size;have uY:=(dY.alloc (.cells (a7p 5 1 1++a7p 6 1 2++a7p 4 2 9) 48)).below cJ (by have:=dY.lt;rw[World.size_alloc];omega);replace ar:=(ar.alloc aM _).trans (cJ.mono (by rw[World.size_alloc];omega));clear cJ jt aM)
  |(go_at_call 11;(with_reducible refine(a3j _ _ _ _).mono ?_);rintro e wd⟨rfl,cJ⟩;have dY:=a3t cJ;obtain⟨Z7,jt⟩:=zE wt.heap.size;rw[jt]at dY ⊢;have aM:=ar.size;replace ar:=(ar.alloc aM _).trans (cJ.mono (by rw[World.size_alloc];omega));clear cJ jt aM))
 have Hu:=(Blk.new wd #[.slice none 0 0,.slice none 0 0,.slice none 0 0,.slice (some ⟨Z7,0,none⟩) 3 3] 32).alloc (.cells #[.slice none 0 0,.slice none 0 0,.slice none 0 0,.slice (some ⟨Z8,0,none⟩) 3 3] 32);have CJ:=Blk.new (wd.alloc (.cells #[.slice none 0 0,.slice none 0 0,.slice none 0 0,.slice (some ⟨Z7,0,none⟩) 3 3] 32)) #[.slice none 0 0,.slice none 0 0,.slice none 0 0,.slice (some ⟨Z8,0,none⟩) 3 3] 32;rw[World.size_alloc]at CJ;have eQ:Below wd.heap.size wd ((wd.alloc (.cells #[.slice none 0 0,.slice none 0 0,.slice none 0 0,.slice (some ⟨Z7,0,none⟩) 3 3] 32)).alloc (.cells #[.slice none 0 0,.slice none 0 0,.slice none 0 0,.slice (some ⟨Z8,0,none⟩) 3 3] 32)):=by exact zC
 obtain⟨W6,fU⟩:=zE ((wd.alloc (.cells #[.slice none 0 0,.slice none 0 0,.slice none 0 0,.slice (some ⟨Z7,0,none⟩) 3 3] 32)).alloc (.cells #[.slice none 0 0,.slice none 0 0,.slice none 0 0,.slice (some ⟨Z8,0,none⟩) 3 3] 32));rw[fU]at Hu CJ eQ ⊢;clear fU;have vl:Below W5.heap.size W5 W6:=ar.trans (eQ.mono ar.size);have vm:Below w.heap.size w W6:=vh.trans (vl.mono vh.size);have Hv:=T1.up vl;have T7:TBx W6 wd.heap.size Z7 a7m:=⟨Hu,a2x (uY.below eQ uY.lt) rfl jM jM (b4f a7m jM)⟩;have T8:TBx W6 (wd.heap.size+1) Z8 a4o:=⟨CJ,a2x (qQ.below eQ qQ.lt) rfl jM jM (b4f a4o jM)⟩;obtain⟨B7,nY⟩:=zE wd.heap.size;rw[nY]at T7 T8 ⊢;obtain⟨B8,AG⟩:=zE (B7+1);rw[AG]at T8 ⊢;have hS:SnR7 W6 B1 Z1 W6:=⟨Hv,zR _ _⟩;clear Hu CJ eQ dY Hs qQ uY ar T1 vl vh;refine Go.wp_region_rel 9 zM zM (λ_ W=>SnR7 W6 B1 Z1 W) (λw w'=>Below w.heap.size w w') (FSc B1 Z1) (λ_ _ _ _ h g=>h.kept g) (hS.up (zR _ _).drew) ?step7 ?tail7
 case step7 =>
  clear hS T7 T8 Hv;intro i o hi ho c bb W hc hM hA hD K hK;match i,hi,ho with
  |0,_,ho =>
   cases ho;exact yar
  |1,_,ho =>
   cases ho;exact yep
  |2,_,ho =>
   cases ho;have f73:=a0a (v:= .agg #[.int .i64 6,.int .i64 3,.int .i64 3,.string ⟨#[116,114,101,101]⟩,.string ⟨#[]⟩,.int .i64 1,.int .i64 1]) (a0b hD 1 73 zM rfl rfl);go_simp;have hb:Below W.heap.size W (W.alloc (.cells #[.int .i64 6,.int .i64 3,.int .i64 3,.string ⟨#[116,114,101,101]⟩,.string ⟨#[]⟩,.int .i64 1,.int .i64 1] 48)):=(zR _ _).alloc (yR _) _;exact yde
  |3,_,ho =>
   cases ho;have f74:=a0b hD 2 74 zM rfl rfl;obtain⟨Z,ez,kz⟩:=f74;have f74:=a0a ez;exact ybz
  |4,_,ho =>
   cases ho;have f72:=a0a (v:= .agg #[.slice none 0 0,.slice none 0 0,.slice none 0 0,.slice (some ⟨Z1,0,none⟩) 2 2]) (a0b hD 0 72 zM rfl rfl);have f75:=a0b hD 3 75 zM rfl rfl;obtain⟨Z,ez,kz⟩:=f75;have f75:=a0a ez;have hq:=c6o Z1 Z W hM.t1.m (a2x (l:=movedL) kz rfl jM jM (b4f movedL jM));go_simp;refine hq.mono ?_;rintro e W'⟨x,c,es,rfl,hE,hb⟩;go_simp;exact hK _ W' ⟨x,c,es,rfl,hE⟩ hb (hM.up hb)
  |5,_,ho =>
   cases ho;have f76:=a0b hD 4 76 zM rfl rfl;obtain⟨x,c,es,Pz,h76⟩:=f76;have f76:=a0a Pz;go_simp;exact hK _ W ⟨x,c,es,rfl,h76⟩ (zR _ _) hM
  |6,_,ho =>
   cases ho;have f71:=a0b hD 5 71 zM rfl rfl;obtain⟨x,c,es,Hw,h71⟩:=f71;have f71:=a0a Hw;go_simp;exact hK _ W ⟨x,c,es,rfl,h71⟩ (zR _ _) hM
  |7,_,ho =>
   cases ho;have f71:=a0b hD 5 71 zM rfl rfl;obtain⟨x,c,es,Hw,h71⟩:=f71;have f71:=a0a Hw;go_simp;exact hK _ W rfl (zR _ _) hM
  |8,_,ho =>
   cases ho;have f77:=a0b hD 6 77 zM rfl rfl;obtain⟨x,c,es,PA,h77⟩:=f77;have f77:=a0a PA;go_simp;exact hK _ W ⟨x,c,es,rfl,h77⟩ (zR _ _) hM
  |i+9,hi,_=>exact absurd hi xM
 case tail7 =>
 intro bb W7 hM hA aa;obtain⟨ex,ec,es,h9,zW⟩:=(show ∃x c es,bb.eval (.tmp 9)= .slice x 2 c/\EdR W7 x c es from aa 8 xM _ _ rfl rfl);have h78:=(show bb.eval (.tmp 78)= .bool true from aa 7 xM _ _ rfl rfl);have az:=hA.frame (rT 9 (rF 1 (rT 61 (rF 8 (rT 23 ([])))))) _ rfl zM;clear aa hA;obtain⟨f,hf⟩:=zDt bb;have g9:f 9= .slice ex 2 ec:=by rw[<-hf,<-h9];rfl
 have K0:f 78= .bool true:=by rw[<-hf,<-h78];rfl
 rw[hf]at az;clear hf h9 h78;subst az;simp only[rT,rF,a1j,g9,K0,Nat.reduceAdd];clear g9 K0;simp only[zU];have iz:=hM.bel;have vn:Below w.heap.size w W7:=vm.trans (iz.mono vm.size);have T1:=hM.t1;have K6:=T7.up iz;have K7:=T8.up iz;clear hM hS vm T7 T8 Hv iz;have ar:Below W7.heap.size W7 W7:=zR _ _;have K8:a7p 6 1 3= #[.int .i64 6,.int .i64 3,.int .i64 3,.string ⟨#[116,114,101,101]⟩,.string ⟨#[]⟩,.int .i64 1,.int .i64 1]:=rfl;go_upto_region 9 with(first
  |(go_at_call 12;(with_reducible refine(a3i _ _ _ _).mono ?_);rintro e wt⟨rfl,gQ⟩;rw[K8];replace ar:=ar.trans (gQ.mono ar.size);clear gQ))
 have hL:etA c8c++etA ePl= #[.int .i64 4,.int .i64 5,.int .i64 0,.int .i64 0,.int .i64 0,.int .i64 0,.string ⟨#[]⟩,.string ⟨#[]⟩,.int .i64 0,.int .i64 0,.int .i64 0,.slice none 0 0,.int .i64 0,.string ⟨#[]⟩,.string ⟨#[]⟩,.bool false,.int .i64 0,.int .i64 0,.int .i64 0,.int .i64 0,.int .i64 0,.string ⟨#[]⟩,.string ⟨#[]⟩,.int .i64 0,.int .i64 0,.int .i64 3,.int .i64 0,.int .i64 0,.int .i64 0,.int .i64 0,.int .i64 0,.string ⟨#[]⟩,.string ⟨#[]⟩,.int .i64 0,.int .i64 0,.int .i64 0,.slice none 0 0,.int .i64 0,.string ⟨#[]⟩,.string ⟨#[]⟩,.bool false,.int .i64 0,.int .i64 0,.int .i64 6,.int .i64 3,.int .i64 3,.string ⟨#[116,114,101,101]⟩,.string ⟨#[]⟩,.int .i64 1,.int .i64 1]:=rfl;have qR:=Blk.new wt (etA c8c++etA ePl) 50;have eQ:Below wt.heap.size wt (wt.alloc (.cells (etA c8c++etA ePl) 50)):=(zR _ _).alloc (yR _) _;rw[hL]at eQ;obtain⟨W8,jN⟩:=zE (wt.alloc (.cells #[.int .i64 4,.int .i64 5,.int .i64 0,.int .i64 0,.int .i64 0,.int .i64 0,.string ⟨#[]⟩,.string ⟨#[]⟩,.int .i64 0,.int .i64 0,.int .i64 0,.slice none 0 0,.int .i64 0,.string ⟨#[]⟩,.string ⟨#[]⟩,.bool false,.int .i64 0,.int .i64 0,.int .i64 0,.int .i64 0,.int .i64 0,.string ⟨#[]⟩,.string ⟨#[]⟩,.int .i64 0,.int .i64 0,.int .i64 3,.int .i64 0,.int .i64 0,.int .i64 0,.int .i64 0,.int .i64 0,.string ⟨#[]⟩,.string ⟨#[]⟩,.int .i64 0,.int .i64 0,.int .i64 0,.slice none 0 0,.int .i64 0,.string ⟨#[]⟩,.string ⟨#[]⟩,.bool false,.int .i64 0,.int .i64 0,.int .i64 6,.int .i64 3,.int .i64 3,.string ⟨#[116,114,101,101]⟩,.string ⟨#[]⟩,.int .i64 1,.int .i64 1] 50));rw[hL,jN,<-hL]at qR;rw[jN]at eQ ⊢;clear jN hL;have mj:Below W7.heap.size W7 W8:=ar.trans (eQ.mono ar.size);have qS:Below w.heap.size w W8:=vn.trans (mj.mono vn.size);have wM:=T1.up mj;have wN:=K6.up mj;have wO:=K7.up mj;have AH:=zW.up mj;obtain⟨B11,ml⟩:=zE wt.heap.size;rw[ml]at qR ⊢;clear ml eQ ar T1 K6 K7 zW vn mj K8 nY AG;have l1:W8.cell? ⟨B1,0,none⟩=some (.slice none 0 0):=wM.k.cell 0;have l2:W8.cell? ⟨B1,1,none⟩=some (.slice none 0 0):=wM.k.cell 1;have l3:W8.cell? ⟨B1,2,none⟩=some (.slice none 0 0):=wM.k.cell 2;have l4:W8.cell? ⟨B1,3,none⟩=some (.slice (some ⟨Z1,0,none⟩) 2 2):=wM.k.cell 3;have m1:W8.cell? ⟨B7,0,none⟩=some (.slice none 0 0):=wN.k.cell 0;have m2:W8.cell? ⟨B7,1,none⟩=some (.slice none 0 0):=wN.k.cell 1;have m3:W8.cell? ⟨B7,2,none⟩=some (.slice none 0 0):=wN.k.cell 2;have m4:W8.cell? ⟨B7,3,none⟩=some (.slice (some ⟨Z7,0,none⟩) 3 3):=wN.k.cell 3;have n1:W8.cell? ⟨B8,0,none⟩=some (.slice none 0 0):=wO.k.cell 0;have n2:W8.cell? ⟨B8,1,none⟩=some (.slice none 0 0):=wO.k.cell 1;have n3:W8.cell? ⟨B8,2,none⟩=some (.slice none 0 0):=wO.k.cell 2;have n4:W8.cell? ⟨B8,3,none⟩=some (.slice (some ⟨Z8,0,none⟩) 3 3):=wO.k.cell 3;have kI:=Blk.new W8 #[.int .i64 4] 3;have vo:Below W8.heap.size W8 (W8.alloc (.cells #[.int .i64 4] 3)):=(zR _ _).alloc (yR _) _;have hq:=a3s a7m a4o comL [4] (some ⟨Z7,0,none⟩) (some ⟨Z8,0,none⟩) (some ⟨Z1,0,none⟩) (some ⟨W8.heap.size,0,none⟩) 3 3 2 1 _ (wN.up vo).m (wO.up vo).m (wM.up vo).m.m.p c2v jM jM (a8z (E:=nE) kI kI.lt) jM mg5 d0h;simp only[List.length_cons,List.length_nil,Nat.zero_add,a7m,a4o,comL,Nat.reduceAdd]at hq;go_wp2_with (first
  |(go_at_call 13;(with_reducible refine hq.mono ?_);rintro e W9⟨rfl,eS⟩))
 have AI:Below w.heap.size w W9:=qS.trans ((vo.mono qS.size).trans (eS.mono (by rw[World.size_alloc];have:=qS.size;omega)));have vp:Below W8.heap.size W8 W9:=vo.trans (eS.mono vo.size);have AJ:=AH.up vp;have vq:=qR.below vp qR.lt;have hl:es.length=2:=by simpa using congrArg List.length AJ.2.1
 have ng:es.map Et.key=[c8c,ePl].map Et.key:=AJ.2.1;have jG:=AJ.1;rw[<-hl]at jG;have hs:=b1t es [c8c,ePl] ng AJ.2.2 (λy hy=>by simp at hy;rcases hy with rfl|rfl <;> exact⟨none,0,rfl⟩) ex (some ⟨B11,0,none⟩) ec 2 W9 jG (by rw[hl];exact c6n vq vq.lt) xM;rw[hl]at hs;clear hq jG ng AJ vq qR AH kI vo eS vp wM wN wO l1 l2 l3 l4 m1 m2 m3 m4 n1 n2 n3 n4 qS;go_wp2_with (first
  |(go_at_call 14;(with_reducible refine hs.mono ?_);rintro e CY⟨rfl,iw⟩))
 go_ret;exact⟨rfl,AI.trans (iw.mono AI.size)⟩
end
end Go.Proofs.YteijfnkidefekaaGreat
