/-
  Parts.
-/
import Derived.Test.YtfocdbjceedagaaGreatDoorXbq
import Derived.Test.YtfocdbjceedagaaGreatDoorXbr
import Derived.Test.YtfocdbjceedagaaGreatDoorXbs
set_option linter.unusedVariables false
set_option linter.unusedSimpArgs false
set_option maxHeartbeats 60000000
set_option maxRecDepth 100000
namespace Go.Proofs.YtfocdbjceedagaaGreatDoor
open Tryz
section
open Go Go.RowKit Go.Shelf
attribute [local go_sem] Oper.semAt_some
attribute [local go_sem ↓] Go.wp_at_zero Go.wp_at_succ
theorem b5i:a0q 16:=by
 unfold a0q;intro U w ev fv wv pv ne nf nw l hI q0 q1 q2 fq0 fq1 fq2 hcase;have hnf:=hI.nf;have hne:=hI.ne;have hnw:=hI.nw;have hnp:=hI.np;go_enter func31,ntmps31;go_upto_region 1 with fail;refine a0g (fun W1 hW1=> ?_);have h1:=(((OY.init (TW.none w)).box #[ev,fv,wv,pv] 37).box (qC q0 q1 q2) 23).box #[.slice none 0 0,.slice none 0 0,.slice none 0 0,.slice none 0 0] 37;obtain⟨ea,ec,rfl,hec⟩:=hI.e.form;obtain⟨fa,fc,rfl,hfc⟩:=hI.f.form;obtain⟨wa,wc,rfl,hwc⟩:=hI.w.form;obtain⟨pa,pc,rfl,hpc⟩:=hI.p.form;obtain⟨BM,hBM⟩:∃b,w.heap.size=b:=⟨_,rfl⟩;simp only[World.size_alloc] at h1;rw[←hW1,hBM] at h1;rw[hBM];obtain⟨BQ,hBQ⟩:∃b,BM+1=b:=⟨_,rfl⟩;obtain⟨BR,hBR⟩:∃b,BM+1+1=b:=⟨_,rfl⟩;rw[hBR,hBQ] at h1;rw[hBR,hBQ];have hI1:=hI.up h1.bel;obtain⟨m0,m1,m2,m3⟩:=a0l h1.b2;clear hW1;go_upto_region 2 with (first
  |(go_at_call 76;(with_reducible refine (a1j U W1 _ _ _ _ ne nf nw l hI1).mono ?_);rintro e WC⟨SC,ev1,fv1,wv1,pv1,rfl,hR,hev⟩;obtain⟨ea1,ec1,rfl,hec1⟩:=hR.e.form;obtain⟨fa1,fc1,rfl,hfc1⟩:=hR.f.form;obtain⟨wa1,wc1,rfl,hwc1⟩:=hR.w.form;obtain⟨pa1,pc1,rfl,hpc1⟩:=(a0b a2l hR.row (by omega)).form)
  |fail)
 have hSn:∀b,SC b→w.heap.size≤b:=fun b hb=>(hev.new b hb).elim (fun h=>h.elim) (fun h=>Nat.le_trans h1.size h)
 have hPC:OP noB w _ WC _ _ _ l:=⟨((((h1.evn hev).add (a0z hR.w)).add (a0z hR.f)).add (a0z hR.e)),a1v hR.row h1.size,fun g hg hs=>hs.elim (fun h=>h.elim) (fun h=>hR.off g hg h),by simp⟩;refine a0g (fun WD hWD=> ?_);have hPD:=hPC.box #[.slice ea1 ne ec1,.slice fa1 nf fc1,.slice wa1 nw wc1,.slice pa1 l.length pc1] 37 (by decide);obtain⟨BO,hBO⟩:∃b,WC.heap.size=b:=⟨_,rfl⟩;rw[←hWD,hBO] at hPD;rw[hBO];have hO:OO w BO BR BQ BM q0 q1 q2 _ _ WD _ _ _ _ ne nf nw l:=⟨hPD,a0y hR.e hSn,a0y hR.f hSn,a0y hR.w hSn⟩;clear hPD hPC hR hev hSn hWD hBO h1 hI1 m0 m1 m2 m3;obtain⟨S9,hS9⟩:∃S:BS,(fun b=>False∨SC b)=S:=⟨_,rfl⟩;rw[hS9] at hO;clear hS9 hI;obtain⟨n,hn,hn60⟩:∃n:Nat,q1 % 60=(n:Int)∧n<60:=⟨(q1 % 60).toNat,by omega,by omega⟩;obtain⟨k,hk,hk64⟩:∃n:Nat,q2 % 64=(n:Int)∧n<64:=⟨(q2 % 64).toNat,by omega,by omega⟩;obtain⟨r,hr,hr17⟩:∃n:Nat,q0 % 17=(n:Int)∧n<17:=⟨(q0 % 17).toNat,by omega,by omega⟩;have hrN:=Lib.hid (show r=16 by omega);clear hcase;have hm1:=a0p q1 60 WD fq1 (by decide) (by decide);have hm2:=a0p q2 64 WD fq2 (by decide) (by decide);have hm3:=a0p q0 17 WD fq0 (by decide) (by decide);rw[hn] at hm1;rw[hk] at hm2;rw[hr] at hm3;obtain⟨i0,i1,i2⟩:WD.cell? ⟨BQ,0,none⟩=some (.int .i64 q0)∧WD.cell? ⟨BQ,1,none⟩=some (.int .i64 q1)∧WD.cell? ⟨BQ,2,none⟩=some (.int .i64 q2):=⟨hO.p.b.b2.cell 0,hO.p.b.b2.cell 1,hO.p.b.b2.cell 2⟩;go_upto_block 0 with (first
  |(go_at_call 77;(with_reducible refine hm1.mono ?_);rintro e W'⟨rfl,rfl⟩)
  |(go_at_call 77;(with_reducible refine hm2.mono ?_);rintro e W'⟨rfl,rfl⟩)
  |(go_at_call 77;(with_reducible refine hm3.mono ?_);rintro e W'⟨rfl,rfl⟩)
  |fail)
 clear hm1 hm2 hm3 hr hn hk hBM hBQ hBR;generalize hM0: #[Value.slice ea ne ec,.slice fa nf fc,.slice wa nw wc,.slice pa l.length pc]=M0 at hO;go_cut [] (fun wx=>∃S ev' fv' wv' pv' ne' nf' nw' l',OO w BO BR BQ BM q0 q1 q2 M0 S wx ev' fv' wv' pv' ne' nf' nw' l'∧OddR ne nf nw l ne' nf' nw' l')
 case rest =>
  obtain⟨S',ev',fv',wv',pv',ne',nf',nw',l',hO',hR⟩:=hcut;obtain⟨e1,c1,rfl,-⟩:=hO'.p.b.s0.form;obtain⟨e2,c2,rfl,-⟩:=hO'.p.b.s1.form;obtain⟨e3,c3,rfl,-⟩:=hO'.p.b.s2.form;obtain⟨e4,c4,rfl,-⟩:=(a0b a2l hO'.p.row (by have:=hR.p;omega)).form;obtain⟨b0,b1,b2,b3⟩:=a0l hO'.p.b.b0;obtain⟨r0,r1,r2,r3⟩:=a0l hO'.p.b.b1;have z0:=hO'.p.b.b1.frozen 0;have z1:=hO'.p.b.b1.frozen 1;have z2:=hO'.p.b.b1.frozen 2;have z3:=hO'.p.b.b1.frozen 3;have hX:=((((hO'.p.tail.put (i:=0) (v:= .slice e1 ne' c1) rfl rfl).put (i:=1) (v:= .slice e2 nf' c2) rfl rfl).put (i:=2) (v:= .slice e3 nw' c3) rfl rfl).put (i:=3) (v:= .slice e4 l'.length c4) (c':= #[.slice e1 ne' c1,.slice e2 nf' c2,.slice e3 nw' c3,.slice e4 l'.length c4]) rfl rfl);go_wp2_with fail;exact bodyPost_ret (results_cell_row (by rfl) _ _ BR 37 _ (0,0) _ (by rfl) hX.b.b0 underlying37 (by rfl) (by kernel_rfl)) rfl ⟨S',_,_,_,_,ne',nf',nw',l',rfl,⟨hX.b.s0,hX.b.s1,hX.b.s2,hX.row,hX.off⟩,hR,hX.b.o.ev⟩
 case first =>
  obtain⟨b0,b1,b2,b3⟩:=a0l hO.p.b.b0;clear hM0;obtain rfl:=hrN.out;obtain⟨q,hq,hq4⟩:∃q:Nat,Int.tmod (n:Int) 4=(q:Int)∧q<4:=⟨n % 4,by rw[Int.tmod_eq_emod_of_nonneg (by omega)];omega,by omega⟩;have hqe:(n:Int) % 4=(q:Int):=by rw[←hq,Int.tmod_eq_emod_of_nonneg (by omega)]
  have hqw:IntKind.i64.wrap (79+(q:Int))=((79+q:Nat):Int):=by rw[a0u (by omega) (by omega)];omega
  clear b0 b1 b2 b3;go_wp2_with fail;go_loopw [9] (fun ii wr=>∃(i:Nat) (pv':Value) (l':List Pc),i≤79+q∧ii= .int .i64 (i:Nat)∧OO w BO BR BQ BM q0 q1 q2 M0 S9 wr (.slice ea1 ne ec1) (.slice fa1 nf fc1) (.slice wa1 nw wc1) pv' ne nf nw l'∧l'.length=l.length+i∧OddR ne nf nw l ne nf nw l'∧a7c l'=a7c l) (fun ii _=>79+q-(intOf ii).toNat)
  case atStart=>exact⟨0,_,l,Nat.zero_le _,rfl,hO,rfl,OddR.refl _ _ _ _,rfl⟩
  case round =>
   obtain⟨i,pv',l',hi,rfl,hO',hll,hR,hnm⟩:=hrel;by_cases hlt:i<79+q
   ·have hltI:(i:Int)<((79+q:Nat):Int):=by omega
    have hwi:IntKind.i64.wrap (1000+(i:Int))=1000+(i:Int):=a0u (by omega) (by omega);have hwk:IntKind.i64.wrap ((i:Int)+1)=((i+1:Nat):Int):=by rw[a0u (by omega) (by omega)];omega
    have fx:a0k (90+(i:Int) % 3):=⟨by omega,by omega⟩;have hlB:l'.length≤2000:=by omega
    replace hll:=Lib.hid hll;obtain⟨pa,pc,rfl,hpc⟩:=(a0b a2l hO'.p.row (by omega)).form;obtain⟨d0,d1,d2,d3⟩:=a0l hO'.p.b.b0;go_wp2_with (first
     |(at_builtin;refine El.pushO a2l d2f (by rfl) _ _ (by rfl) (by rfl) hO'.p.row ⟨1000+(i:Int),90+(i:Int) % 3,110,⟨#[116,114,101,101]⟩,⟨#[]⟩,1,1⟩ (by rfl) rfl hO'.p.b.size (by omega) ?_;intro v9 w9 hr9 hn9 hg9 hb9;have hP9:=hO'.p.more hr9 hg9 hn9;have d3:=hP9.b.b0.cell 3;have z3:=hP9.b.b0.frozen 3;obtain⟨a9,c9,rfl,-⟩:=(a0b a2l hr9 (by rw[List.length_append];simp;omega)).form)
     |fail)
    go_roundw
    case rel =>
     refine⟨i+1,_,_,by omega,by go_num,⟨hP9.put rfl (by simp),hO'.oe,hO'.of,hO'.ow⟩,by rw[List.length_append,hll.out];rfl,⟨by omega,by omega,by omega,by rw[List.length_append,hll.out];simp;omega,by rw[b1v,hnm];exact Nat.le_succ _,fun h p hp=> ?_,fun h p hp=> ?_⟩,by rw[b1v,hnm];rfl⟩
     ·rcases List.mem_append.1 hp with h1|h1
      ·exact hR.ok h p h1
      ·rw[List.mem_singleton] at h1
       subst h1;exact⟨⟨by show _≤1000+(i:Int);omega,by show 1000+(i:Int)≤_;omega⟩,fx,(by decide:a0k 110),(by decide:a0k 1),(by decide:0≤1000)⟩
     ·rcases List.mem_append.1 hp with h1|h1
      ·exact hR.cl h p h1
      ·rw[List.mem_singleton] at h1
       subst h1;exact (by decide:4≤1000)
    case measure=>simp[intOf];omega
   ·obtain rfl:i=79+q:=by omega
    have hge:¬((79+q:Nat):Int)<((79+q:Nat):Int):=by omega
    go_wp2_with fail;go_meet;exact⟨_,_,_,_,_,_,_,_,_,hO',hR⟩
theorem c6f (U:BS)(w:World)(ev fv wv pv:Value)(ne nf nw:Nat)(l:List Pc)(hI:MapI U w ev fv wv pv ne nf nw l)(q0 q1 q2:Int)(fq0:a0k q0)(fq1:a0k q1)(fq2:a0k q2) :
 Calls prog 31 #[.agg #[ev,fv,wv,pv],.agg (qC q0 q1 q2)] w fun e w'=>∃S' ev' fv' wv' pv' ne' nf' nw' l',e= .returned (.agg #[ev',fv',wv',pv'])∧MapR w.heap.size S' w' ev' fv' wv' pv' ne' nf' nw' l'∧OddR ne nf nw l ne' nf' nw' l'∧Ev noB noB w S' w':=by
 obtain⟨r,hr,hr17⟩:∃n:Nat,q0 % 17=(n:Int)∧n<17:=⟨(q0 % 17).toNat,by omega,by omega⟩;match r,hr17 with
 |0,_=>exact b7m U w ev fv wv pv ne nf nw l hI q0 q1 q2 fq0 fq1 fq2 hr
 |1,_=>exact b7n U w ev fv wv pv ne nf nw l hI q0 q1 q2 fq0 fq1 fq2 hr
 |2,_=>exact b7o U w ev fv wv pv ne nf nw l hI q0 q1 q2 fq0 fq1 fq2 hr
 |3,_=>exact b7p U w ev fv wv pv ne nf nw l hI q0 q1 q2 fq0 fq1 fq2 hr
 |4,_=>exact b7q U w ev fv wv pv ne nf nw l hI q0 q1 q2 fq0 fq1 fq2 hr
 |5,_=>exact b7k U w ev fv wv pv ne nf nw l hI q0 q1 q2 fq0 fq1 fq2 hr
 |6,_=>exact b7l U w ev fv wv pv ne nf nw l hI q0 q1 q2 fq0 fq1 fq2 hr
 |7,_=>exact b7r U w ev fv wv pv ne nf nw l hI q0 q1 q2 fq0 fq1 fq2 hr
 |8,_=>exact b7s U w ev fv wv pv ne nf nw l hI q0 q1 q2 fq0 fq1 fq2 hr
 |9,_=>exact b7t U w ev fv wv pv ne nf nw l hI q0 q1 q2 fq0 fq1 fq2 hr
 |10,_=>exact b5c U w ev fv wv pv ne nf nw l hI q0 q1 q2 fq0 fq1 fq2 hr
 |11,_=>exact b5d U w ev fv wv pv ne nf nw l hI q0 q1 q2 fq0 fq1 fq2 hr
 |12,_=>exact b5e U w ev fv wv pv ne nf nw l hI q0 q1 q2 fq0 fq1 fq2 hr
 |13,_=>exact b5f U w ev fv wv pv ne nf nw l hI q0 q1 q2 fq0 fq1 fq2 hr
 |14,_=>exact b5g U w ev fv wv pv ne nf nw l hI q0 q1 q2 fq0 fq1 fq2 hr
 |15,_=>exact b5h U w ev fv wv pv ne nf nw l hI q0 q1 q2 fq0 fq1 fq2 hr
 |16,_=>exact b5i U w ev fv wv pv ne nf nw l hI q0 q1 q2 fq0 fq1 fq2 hr
 |r+17,h=>omega
end
section
open Go Go.RowKit Go.Shelf Go.Lib
attribute [local go_sem] Oper.semAt_some
attribute [local go_sem ↓] Go.wp_at_zero Go.wp_at_succ
structure MapOk (W:World)(wv pv:Value)(l:List Pc)(ws:List Wy):Prop where
 p:Lst plE W.heap.size W pv l
 frm:Frm pv l.length
 len:l.length≤6
 ok:PlsOk l
 w:Wys W.heap.size W wv ws
 wl:ws.length≤100
 wo:∀y∈ws,a0k y.id∧y.line.length≤100
theorem MapOk.up {W W':World}{wv pv:Value}{l:List Pc}{ws:List Wy}(h:MapOk W wv pv l ws)(hb:Below W.heap.size W W'):MapOk W' wv pv l ws :=
 ⟨h.p.up hb,h.frm,h.len,h.ok,h.w.up hb hb.size,h.wl,h.wo⟩
theorem Ev.low30 {S':BS}{W W':World}(h:Ev noB noB W S' W'):Below W.heap.size W W':=h.below (fun _ h=>h.elim) (fun _ h=>h.elim) (yR _)
abbrev a8w (rv:Value)(q0 q1 q2 b0 b1 b2 b3:Int)(r:Sh):Array Value:= #[rv,.int .i64 q0,.int .i64 q1,.int .i64 q2,.int .u8 b0,.int .u8 b1,.int .u8 b2,.int .u8 b3,.int .i64 r.ax,.int .i64 r.ay,.int .i64 r.st,.int .i64 r.w,.int .i64 r.h,.int .i64 r.g]
theorem MapI.up30 {U:BS}{W W':World}{ev fv wv pv:Value}{ne nf nw:Nat}{l:List Pc}(h:MapI U W ev fv wv pv ne nf nw l)(hb:Below W.heap.size W W'):MapI U W' ev fv wv pv ne nf nw l:=by
 have hsame:∀b,U b→W'.heap[b]? =W.heap[b]? :=fun b hu=>hb.block b (h.tw.lt hu)
 have hsh:Shp U W W':=fun b c e hu hc=>⟨c,(hsame b hu).trans hc,rfl⟩
 exact { h with tw:=h.tw.of_same hsame,e:=h.e.mono (fun _ h=>h) hsh,f:=h.f.mono (fun _ h=>h) hsh,w:=h.w.mono (fun _ h=>h) hsh,p:=h.p.up hb }
def b9v (W:World)(B:Nat)(a b c d:Value):World:=(((W.setCell ⟨B,0,none⟩ a).setCell ⟨B,1,none⟩ b).setCell ⟨B,2,none⟩ c).setCell ⟨B,3,none⟩ d
def c2s (W:World)(B:Nat)(a b c d e f:Value):World:=(((((W.setCell ⟨B,0,none⟩ a).setCell ⟨B,1,none⟩ b).setCell ⟨B,2,none⟩ c).setCell ⟨B,3,none⟩ d).setCell ⟨B,4,none⟩ e).setCell ⟨B,5,none⟩ f
section
variable {W:World}{B A:Nat}{x y z u v s:Value}{k:Array Value}{t:TypeId}
theorem Blk.set4 (h:Blk W B #[x,y,z,u] t)(a b c d:Value):Blk (b9v W B a b c d) B #[a,b,c,d] t:=(((h.set 0 a).set 1 b).set 2 c).set 3 d
theorem Blk.set6 (h:Blk W B #[x,y,z,u,v,s] t)(a b c d e f:Value):Blk (c2s W B a b c d e f) B #[a,b,c,d,e,f] t:=(((((h.set 0 a).set 1 b).set 2 c).set 3 d).set 4 e).set 5 f
theorem Blk.not4 (h:Blk W A k t)(hn:A≠B)(a b c d:Value):Blk (b9v W B a b c d) A k t:=(((h.other hn 0 a).other hn 1 b).other hn 2 c).other hn 3 d
theorem Blk.not6 (h:Blk W A k t)(hn:A≠B)(a b c d e f:Value):Blk (c2s W B a b c d e f) A k t:=(((((h.other hn 0 a).other hn 1 b).other hn 2 c).other hn 3 d).other hn 4 e).other hn 5 f
theorem d3m {n:Nat}{w0:World}(h:Below n w0 W){B:Nat}(hB:n≤B)(a b c d:Value):Below n w0 (b9v W B a b c d):=(((h.setCell hB a).setCell hB b).setCell hB c).setCell hB d
theorem d4q {n:Nat}{w0:World}(h:Below n w0 W){B:Nat}(hB:n≤B)(a b c d e f:Value):Below n w0 (c2s W B a b c d e f):=(((((h.setCell hB a).setCell hB b).setCell hB c).setCell hB d).setCell hB e).setCell hB f
end
theorem a3o {W:World}{b B i:Nat}{v:Value}(h:b≠B):(W.setCell ⟨B,i,none⟩ v).heap[b]? =W.heap[b]? :=Below.heap_setCell _ _ _ _ h
theorem c0x {W W':World}{base:Nat}{e:TypeId}{s:Nat}{v:Value}{n:Nat}{xs:List Value}(h:W.ownsRow base e s v n xs)(hs:∀b,base≤b→b<W.heap.size→W'.heap[b]? =W.heap[b]?):W'.ownsRow base e s v n xs:=by
 refine⟨h.1,h.2.imp id ?_⟩;rintro⟨g,cap,cur,e1,h1,h2,h3⟩;exact⟨g,cap,cur,e1,h1,(hs g h1 (Array.getElem?_eq_some_iff.1 h2).1).trans h2,h3⟩
structure MdR (S2:BS)(nn BM:Nat)(ea fa wa pa:Option Addr)(ne ec nf fc nw wc pn pc:Nat)(l:List Pc)(rv:Value)(q0 q1 q2 b0 b1 b2 b3:Int)(raw:Sh)(W3 W:World):Prop where
 c:Blk W nn (a8w rv q0 q1 q2 b0 b1 b2 b3 raw) 30
 b:Blk W BM #[.slice ea ne ec,.slice fa nf fc,.slice wa nw wc,.slice pa pn pc] 37
 I:MapI S2 W (.slice ea ne ec) (.slice fa nf fc) (.slice wa nw wc) (.slice pa pn pc) ne nf nw l
 bel:Below W3.heap.size W3 W
 sz:W3.heap.size≤W.heap.size
 f0:a0k q0
 f1:a0k q1
 f2:a0k q2
 h0:0≤b0∧b0≤255
 h1:0≤b1∧b1≤255
 h2:0≤b2∧b2≤255
 h3:0≤b3∧b3≤255
theorem MdR.up {S2:BS}{nn BM:Nat}{ea fa wa pa:Option Addr}{ne ec nf fc nw wc pn pc:Nat}{l:List Pc}{rv:Value}{q0 q1 q2 b0 b1 b2 b3:Int}{raw:Sh}{W3 W W':World}(h:MdR S2 nn BM ea fa wa pa ne ec nf fc nw wc pn pc l rv q0 q1 q2 b0 b1 b2 b3 raw W3 W)(hb:Below W.heap.size W W'):MdR S2 nn BM ea fa wa pa ne ec nf fc nw wc pn pc l rv q0 q1 q2 b0 b1 b2 b3 raw W3 W' :=
 { h with c:=h.c.below hb h.c.lt,b:=h.b.below hb h.b.lt,I:=h.I.up30 hb,bel:=h.bel.trans (hb.mono h.sz),sz:=Nat.le_trans h.sz hb.size }
theorem c6g (s:Sh)(ws:List Wy):∀d∈wdF s ws,d.k=2:=fun d hd=>by
 unfold wdF a2d at hd;obtain⟨p,-,rfl⟩:=List.mem_map.1 hd;rfl
theorem c0y {k i:Int}:∀(l:List Dt)(x:Dt),(∀d∈l,d.k=k∧d.i=i)→x.k=k→x.i=i→∀d∈b2h l x,d.k=k∧d.i=i
 |[],x,_,h1,h2=>fun d hd=>by
  obtain rfl:d=x:=by simpa [b2h] using hd
  exact⟨h1,h2⟩
 |e::l,x,hl,h1,h2=>fun d hd=>by
  have he:=hl e (by simp);have ih:=c0y l x (fun d h=>hl d (by simp[h])) h1 h2;unfold b2h at hd;split at hd
  ·rcases List.mem_cons.1 hd with rfl|hd
   ·exact he
   ·exact ih d hd
  ·split at hd
   ·rcases List.mem_cons.1 hd with rfl|hd
    ·split
     ·exact⟨he.1,h2⟩
     ·exact he
    ·exact hl d (by simp[hd])
   ·rcases List.mem_cons.1 hd with rfl|hd
    ·exact⟨h1,h2⟩
    ·exact hl d hd
theorem c9s (id:Int)(ps:List a0r):∀d∈d0h id ps,d.k=3∧d.i=id:=by
 have h:∀(ps:List a0r) (l:List Dt),(∀d∈l,d.k=3∧d.i=id)→∀d∈ps.foldl (fun l p=>b2h l ⟨p.1,p.2,3,id⟩) l,d.k=3∧d.i=id:=by
  intro ps;induction ps with
  |nil=>exact fun l hl=>hl
  |cons p ps ih=>exact fun l hl=>ih _ (c0y l _ hl rfl rfl)
 exact h ps [] (by simp)
theorem c6h (s:Sh)(p:Pc):∀d∈(pfS s p).2,d.k=3∧d.i=p.id:=by
 unfold pfS plF;split
 ·exact c9s _ _
 ·simp
theorem c2t {l:List Pc}(h:PlsOk l):((a1d l).map Pc.id).Nodup:=((a1q l).map Pc.id).nodup_iff.2 (PlsOk.nodup h.id)
theorem c2u {g:Int}{pf:Pc→Bool×List Dt}{kf:Pc→List Ke}(wd:List Dt)(hw:∀d∈wd,d.k=2)(hk:∀p,∀d∈(pf p).2,d.k=3∧d.i=p.id)(hwf:∀d∈wd,a0k d.i)(qs:List Pc)(hq:∀p∈qs,a0k p.id):∀x∈(a1t g pf kf wd qs).left,a0k x.i:=by
 refine a7n (Q:=fun qs=>(∀p∈qs,a0k p.id)→∀x∈(a1t g pf kf wd qs).left,a0k x.i) ?_ ?_ qs hq
 ·intro _ x hx
  simp[a1t] at hx
 ·intro qs p ih hq
  rw[a2n]
  cases ho:b5n g pf (a1t g pf kf wd qs).dots p with
  |none=>rw[a3j ho];exact ih fun q h=>hq q (by simp[h])
  |some y =>
   rw[a3c ho];intro x hx;rcases List.mem_append.1 hx with h|h
   ·exact ih (fun q h=>hq q (by simp[h])) x h
   ·obtain rfl:x=y:=by simpa using h
    unfold b5n at ho;split at ho
    ·obtain⟨d,hd,rfl⟩:=Option.map_eq_some_iff.1 ho
     rcases b0o _ _ d (List.mem_of_find?_eq_some hd) with h1|⟨q,hq1,h1⟩
     ·exact hwf d h1
     ·simp only
      rw[(hk q d h1).2];exact hq q (by simp[hq1])
    ·cases ho
     exact⟨by simp,by simp⟩
theorem d0m {P:Int→Prop}:∀(l:List Dt)(x:Dt),(∀d∈l,P d.i)→P x.i→∀d∈b2h l x,P d.i
 |[],x,_,h2=>fun d hd=>by
  obtain rfl:d=x:=by simpa [b2h] using hd
  exact h2
 |e::l,x,hl,h2=>fun d hd=>by
  have he:=hl e (by simp);have ih:=d0m l x (fun d h=>hl d (by simp[h])) h2;unfold b2h at hd;split at hd
  ·rcases List.mem_cons.1 hd with rfl|hd
   ·exact he
   ·exact ih d hd
  ·split at hd
   ·rcases List.mem_cons.1 hd with rfl|hd
    ·split
     ·exact h2
     ·exact he
    ·exact hl d (by simp[hd])
   ·rcases List.mem_cons.1 hd with rfl|hd
    ·exact h2
    ·exact hl d hd
theorem c6i {P:Int→Prop}(k:Int)(s:Sh):∀(cs:List (a0r×Int))(l:List Dt),(∀c∈cs,P c.2)→(∀d∈l,P d.i)→∀d∈c8h k s cs l,P d.i
 |[],l,_,hl=>hl
 |c::cs,l,hc,hl=>by
  have h:=c6i k s cs (if onS s c.1.1 c.1.2 then b2h l ⟨c.1.1,c.1.2,k,c.2⟩ else l) (fun c h=>hc c (by simp[h])) (by
   split
   ·exact d0m l _ hl (hc c (by simp))
   ·exact hl)
  exact h
theorem d1z (s:Sh)(ws:List Wy)(h:∀y∈ws,a0k y.id):∀d∈wdF s ws,a0k d.i:=by
 unfold wdF;rw[a6e,←a8l 2 s _ [] (by simp)];refine c6i (P:=a0k) 2 s _ _ ?_ ?_
 ·intro c hc
  obtain⟨y,hy,hcy⟩:=List.mem_flatMap.1 hc;obtain⟨w,hw,rfl⟩:=List.mem_map.1 hy;unfold d1c at hcy;split at hcy
  ·obtain⟨d,-,rfl⟩:=List.mem_map.1 hcy
   exact h w hw
  ·cases hcy
 ·intro d hd
  have h0:(a2d 2 []).length=0:=a4f _ _;rw[List.eq_nil_of_length_eq_zero h0] at hd
  cases hd
theorem b9w {a b c d:Int}{raw:Sh}(f0:a0k raw.ax)(f1:a0k raw.ay):a0k (a5v a b c d raw).ax∧a0k (a5v a b c d raw).ay:=by
 unfold a5v;split
 ·exact⟨f0,f1⟩
 ·exact⟨⟨by simp only;omega,by simp only;omega⟩,⟨by simp only;omega,by simp only;omega⟩⟩
structure MapOd (W:World)(wv pv:Value)(l:List Pc)(ws:List Wy):Prop where
 p:Lst plE W.heap.size W pv l
 frm:Frm pv l.length
 len:l.length≤100
 ok:∀p∈l,PcOk p∧p.cls.size≤1000
 w:Wys W.heap.size W wv ws
 wl:ws.length≤100
 wo:∀y∈ws,a0k y.id∧y.line.length≤100
theorem MapOd.up {W W':World}{wv pv:Value}{l:List Pc}{ws:List Wy}(h:MapOd W wv pv l ws)(hb:Below W.heap.size W W'):MapOd W' wv pv l ws :=
 ⟨h.p.up hb,h.frm,h.len,h.ok,h.w.up hb hb.size,h.wl,h.wo⟩
structure OdR (n1:Nat)(S:BS)(W:World)(wv pv:Value)(nw:Nat)(l:List Pc):Prop where
 tw:TW S W
 w:SL S W 149 wv nw
 nw:nw≤100
 row:W.ownsRow n1 66 7 pv l.length (l.flatMap plE.enc)
 low:∀b,S b→n1≤b
 len:l.length≤100
 ok:∀p∈l,PcOk p∧p.cls.size≤1000
theorem OdR.same {n1:Nat}{S:BS}{W W':World}{wv pv:Value}{nw:Nat}{l:List Pc}(h:OdR n1 S W wv pv nw l)(hs:∀b,n1≤b→b<W.heap.size→W'.heap[b]? =W.heap[b]?):OdR n1 S W' wv pv nw l :=
 { h with tw:=h.tw.of_same fun b hb=>hs b (h.low b hb) (h.tw.lt hb),w:=h.w.mono (fun _ h=>h) fun b c e hb hc=>⟨c,(hs b (h.low b hb) (h.tw.lt hb)).trans hc,rfl⟩,row:=c0x h.row hs }
theorem OdR.up {n1:Nat}{S:BS}{W W':World}{wv pv:Value}{nw:Nat}{l:List Pc}(h:OdR n1 S W wv pv nw l)(hb:Below W.heap.size W W'):OdR n1 S W' wv pv nw l:=h.same fun b _ h2=>hb.block b h2
theorem OdR.map {n1:Nat}{S:BS}{W:World}{wv pv:Value}{nw:Nat}{l:List Pc}(h:OdR n1 S W wv pv nw l):∃ws,MapOd W wv pv l ws:=by
 obtain⟨ws,h1,h2,h3⟩:=b1t h.tw h.w;exact⟨ws,a0b a2l h.row (by have:=h.len;omega),a2b h.row,h.len,h.ok,h2,by rw[h1];exact h.nw,h3⟩
theorem OdR.of {n0 n1:Nat}{S:BS}{W W':World}{ev fv wv pv:Value}{ne nf nw ne' nf' nw':Nat}{l l':List Pc}(hR:MapR n0 S W' ev fv wv pv ne' nf' nw' l')(hO:OddR ne nf nw l ne' nf' nw' l')(hE:Ev noB noB W S W')(hn:n1≤W.heap.size)(hn0:n1≤n0)(hnw:nw≤20)(hl:l.length≤6)(hok:∀p∈l,PcOk p∧p.cls.size≤1000) :
 ∃a1 m1 c1 a2 m2 c2 a3 m3 c3 a4 c4 l2 S3,(.agg #[ev,fv,wv,pv]:Value)= .agg #[.slice a1 m1 c1,.slice a2 m2 c2,.slice a3 m3 c3,.slice a4 l2.length c4]∧OdR n1 S3 W' (.slice a3 m3 c3) (.slice a4 l2.length c4) m3 l2:=by
 have hw:=hR.w;have hr:=hR.row;have hlp:l'.length≤100:=by have:=hO.p;omega
 obtain⟨a1,c1,rfl,-⟩:=hR.e.form;obtain⟨a2,c2,rfl,-⟩:=hR.f.form;obtain⟨a3,c3,rfl,-⟩:=hR.w.form;obtain⟨a4,c4,rfl,-⟩:=(a0b a2l hr (by omega)).form;exact⟨_,_,_,_,_,_,_,_,_,_,_,l',S,rfl,hE.ok,hw,by have:=hO.w;omega,a8h hr hn0,fun b hb=>(hE.new b hb).elim (fun h=>h.elim) fun h=>Nat.le_trans hn h,hlp,fun p hp=>⟨hO.ok (fun q hq=>(hok q hq).1) p hp,hO.cl (fun q hq=>(hok q hq).2) p hp⟩⟩
def FMo (nn BM n1:Nat)(ea fa wa pa:Option Addr)(ne ec nf fc nw wc pn pc:Nat)(q0 q1 q2 b0 b1 b2 b3:Int)(raw:Sh)(i:Nat)(v:Value)(w:World):Prop :=
 match i with
 |0=>v= .agg #[.slice ea ne ec,.slice fa nf fc,.slice wa nw wc,.slice pa pn pc]
 |1=>v= .agg #[.slice ea ne ec,.slice fa nf fc,.slice wa nw wc,.slice pa pn pc]
 |2=>v= .pointer (some ⟨nn,1,none⟩)
 |3=>v= .agg #[.int .i64 q0,.int .i64 q1,.int .i64 q2]
 |4=>∃a1 m1 c1 a2 m2 c2 a3 m3 c3 a4 c4 l2 S3,v= .agg #[.slice a1 m1 c1,.slice a2 m2 c2,.slice a3 m3 c3,.slice a4 l2.length c4]∧OdR n1 S3 w (.slice a3 m3 c3) (.slice a4 l2.length c4) m3 l2
 |5=>v= .pointer (some ⟨nn,4,none⟩)
 |6=>v= .agg #[.int .u8 b0,.int .u8 b1,.int .u8 b2,.int .u8 b3]
 |7=>v= .pointer (some ⟨nn,8,none⟩)
 |8=>v= .agg #[.int .i64 raw.ax,.int .i64 raw.ay,.int .i64 raw.st,.int .i64 raw.w,.int .i64 raw.h,.int .i64 raw.g]
 |9=>v=shV (a5v b0 b1 b2 b3 raw)
 |_=>False
theorem FMo.kept {nn BM n1:Nat}{ea fa wa pa:Option Addr}{ne ec nf fc nw wc pn pc:Nat}{q0 q1 q2 b0 b1 b2 b3:Int}{raw:Sh}{i:Nat}{v:Value}{w w':World}(h:FMo nn BM n1 ea fa wa pa ne ec nf fc nw wc pn pc q0 q1 q2 b0 b1 b2 b3 raw i v w)(hg:Below w.heap.size w w'):FMo nn BM n1 ea fa wa pa ne ec nf fc nw wc pn pc q0 q1 q2 b0 b1 b2 b3 raw i v w':=by
 unfold FMo at *;split at h
 all_goals first|exact h|(obtain⟨a1,m1,c1,a2,m2,c2,a3,m3,c3,a4,c4,l2,S3,h1,h2⟩:=h;exact⟨a1,m1,c1,a2,m2,c2,a3,m3,c3,a4,c4,l2,S3,h1,h2.up hg⟩)
theorem d2a (la:Option Addr)(lcap:Nat)(rows:List (Value×List Int))(q0 q1 q2 b0 b1 b2 b3:Int)(raw:Sh)(fq0:a0k q0)(fq1:a0k q1)(fq2:a0k q2)(h0:0≤b0∧b0≤255)(h1:0≤b1∧b1≤255)(h2:0≤b2∧b2≤255)(h3:0≤b3∧b3≤255)(w:World)(hM:Mat w.heap.size w (.slice la rows.length lcap) rows) :
 Calls prog 9 #[.agg (a8w (.slice la rows.length lcap) q0 q1 q2 b0 b1 b2 b3 raw)] w fun e w'=>∃ea ne ec fa nf fc wa nw wc pa pc a1 n1 c1 a2 n2 c2 a3 n3 c3 a4 c4 l ws l2 ws2,e= .returned (.tuple #[.agg #[.slice ea ne ec,.slice fa nf fc,.slice wa nw wc,.slice pa l.length pc],.agg #[.slice a1 n1 c1,.slice a2 n2 c2,.slice a3 n3 c3,.slice a4 l2.length c4],shV (a5v b0 b1 b2 b3 raw)])∧MapOk w' (.slice wa nw wc) (.slice pa l.length pc) l ws∧MapOd w' (.slice a3 n3 c3) (.slice a4 l2.length c4) l2 ws2∧Below w.heap.size w w':=by
 obtain⟨_,_,e_,hlc,-⟩:=id hM
 cases e_;obtain⟨m,hm⟩:∃m,min rows.length 8=m:=⟨_,rfl⟩;have hmI:min (rows.length:Int) 8=(m:Nat):=by omega
 have hm0:0≤(m:Int):=by omega
 have hmc:(m:Int)≤(lcap:Int):=by omega
 have hmn:m≤lcap:=by omega
 have hml:m≤rows.length:=by omega
 replace hm:=Lib.hid hm;go_enter func9,ntmps9;go_upto_region 1 with fail;have kC:=(((Blk.new w (a8w (.slice la rows.length lcap) q0 q1 q2 b0 b1 b2 b3 raw) 30).alloc (.cells #[.slice none 0 0,.slice none 0 0,.slice none 0 0,.slice none 0 0] 37)).alloc (.cells #[.slice none 0 0,.slice none 0 0,.slice none 0 0,.slice none 0 0] 37)).alloc (.cells #[.int .i64 0,.int .i64 0,.int .i64 0,.int .i64 0,.int .i64 0,.int .i64 0] 28);have kM:=((Blk.new (w.alloc (.cells (a8w (.slice la rows.length lcap) q0 q1 q2 b0 b1 b2 b3 raw) 30)) #[.slice none 0 0,.slice none 0 0,.slice none 0 0,.slice none 0 0] 37).alloc (.cells #[.slice none 0 0,.slice none 0 0,.slice none 0 0,.slice none 0 0] 37)).alloc (.cells #[.int .i64 0,.int .i64 0,.int .i64 0,.int .i64 0,.int .i64 0,.int .i64 0] 28);have kO:=(Blk.new ((w.alloc (.cells (a8w (.slice la rows.length lcap) q0 q1 q2 b0 b1 b2 b3 raw) 30)).alloc (.cells #[.slice none 0 0,.slice none 0 0,.slice none 0 0,.slice none 0 0] 37)) #[.slice none 0 0,.slice none 0 0,.slice none 0 0,.slice none 0 0] 37).alloc (.cells #[.int .i64 0,.int .i64 0,.int .i64 0,.int .i64 0,.int .i64 0,.int .i64 0] 28);have kS:=Blk.new (((w.alloc (.cells (a8w (.slice la rows.length lcap) q0 q1 q2 b0 b1 b2 b3 raw) 30)).alloc (.cells #[.slice none 0 0,.slice none 0 0,.slice none 0 0,.slice none 0 0] 37)).alloc (.cells #[.slice none 0 0,.slice none 0 0,.slice none 0 0,.slice none 0 0] 37)) #[.int .i64 0,.int .i64 0,.int .i64 0,.int .i64 0,.int .i64 0,.int .i64 0] 28;obtain⟨W1,hW1⟩:∃W1,(((w.alloc (.cells (a8w (.slice la rows.length lcap) q0 q1 q2 b0 b1 b2 b3 raw) 30)).alloc (.cells #[.slice none 0 0,.slice none 0 0,.slice none 0 0,.slice none 0 0] 37)).alloc (.cells #[.slice none 0 0,.slice none 0 0,.slice none 0 0,.slice none 0 0] 37)).alloc (.cells #[.int .i64 0,.int .i64 0,.int .i64 0,.int .i64 0,.int .i64 0,.int .i64 0] 28)=W1:=⟨_,rfl⟩;have hb1:Below w.heap.size w W1:=by rw[←hW1];exact ((((zR _ _).alloc (yR _) _).alloc (by simp) _).alloc (by simp;omega) _).alloc (by simp;omega) _
 simp only[World.size_alloc] at kM kO kS;rw[hW1] at kC kM kO kS ⊢;clear hW1;have hM1:=((hM.below hb1).mono hb1.size).take m hml;have c0:W1.cell? ⟨w.heap.size,0,none⟩=some (.slice la rows.length lcap):=kC.cell 0;go_upto_region 2 with (first
  |(go_at_call 30;(with_reducible refine (b9t _ _ _ hM1).mono ?_);rintro e w2⟨S2,ev,fv,wv,pv,l,rfl,⟨⟨ne,hse,hne⟩,⟨nf,hsf,hnf⟩,nw,hsw,hnw⟩,hl6,hok,hr2,hoff,hev2⟩;obtain⟨ea,ec,rfl,-⟩:=hse.form;obtain⟨fa,fc,rfl,-⟩:=hsf.form;obtain⟨wa,wc,rfl,-⟩:=hsw.form;have hp2:=a0b a2l hr2 (by omega);have hfp:=a2b hr2;obtain⟨pa,pc,rfl,-⟩:=hp2.form)
  |fail)
 have hb2:=hev2.low30;have hT2:=hev2.ok;obtain⟨ws,hwn,hws,hwo⟩:=b1t hT2 hsw;have hb23:Below w2.heap.size w2 (w2.alloc (.cells #[.slice ea ne ec,.slice fa nf fc,.slice wa nw wc,.slice pa l.length pc] 37)):=(zR _ _).alloc (yR _) _;have kB:=Blk.new w2 #[.slice ea ne ec,.slice fa nf fc,.slice wa nw wc,.slice pa l.length pc] 37;obtain⟨W3,hW3⟩:∃W,w2.alloc (.cells #[.slice ea ne ec,.slice fa nf fc,.slice wa nw wc,.slice pa l.length pc] 37)=W:=⟨_,rfl⟩;rw[hW3] at hb23 kB ⊢;obtain⟨BM,hBM⟩:∃b,w2.heap.size=b:=⟨_,rfl⟩;have hsame:∀b,S2 b→W3.heap[b]? =w2.heap[b]? :=fun b hb=>hb23.block b (hT2.lt hb)
 have hsh:Shp S2 w2 W3:=fun b c e hb hc=>⟨c,(hsame b hb).trans hc,rfl⟩
 have hI:MapI S2 W3 (.slice ea ne ec) (.slice fa nf fc) (.slice wa nw wc) (.slice pa l.length pc) ne nf nw l:=⟨hT2.of_same hsame,hse.mono (fun _ h=>h) hsh,hsf.mono (fun _ h=>h) hsh,hsw.mono (fun _ h=>h) hsh,hp2.up hb23,hfp,by omega,by omega,by omega,by omega⟩;have hM3:MapOk W3 (.slice wa nw wc) (.slice pa l.length pc) l ws:=⟨hp2.up hb23,hfp,hl6,hok,hws.up hb23 hb23.size,by omega,hwo⟩;have hb13:=hb2.trans (hb23.mono hb2.size);have hb230:=hb23;have hz23:=hb23.size;have kC3:=kC.below hb13 kC.lt;have kM3:=kM.below hb13 kM.lt;have kO3:=kO.below hb13 kO.lt;have kS3:=kS.below hb13 kS.lt;have hbw3:=hb1.trans (hb13.mono hb1.size);rw[hBM] at kB ⊢;clear hW3 hBM hsame hsh hse hsf hp2 hws hwo c0 hM1 hM kC kM kO hb13 hb23;have hMd:MdR S2 w.heap.size BM ea fa wa pa ne ec nf fc nw wc l.length pc l (.slice la rows.length lcap) q0 q1 q2 b0 b1 b2 b3 raw W3 W3:=⟨kC3,kB,hI,zR _ _,yR _,fq0,fq1,fq2,h0,h1,h2,h3⟩;refine Go.wp_region_rel 10 (by kernel_rfl) (by kernel_rfl) (fun _ W=>MdR S2 w.heap.size BM ea fa wa pa ne ec nf fc nw wc l.length pc l (.slice la rows.length lcap) q0 q1 q2 b0 b1 b2 b3 raw W3 W) (fun w w'=>Below w.heap.size w w') (FMo w.heap.size BM W1.heap.size ea fa wa pa ne ec nf fc nw wc l.length pc q0 q1 q2 b0 b1 b2 b3 raw) (fun _ _ _ _ h g=>h.kept g) (hMd.up (zR _ _).drew) ?step2 ?tail2
 case step2 =>
  obtain⟨nn,hnn⟩:∃n,w.heap.size=n:=⟨_,rfl⟩;have hokl:∀p∈l,PcOk p∧p.cls.size≤1000:=fun p hp=>⟨hok.ok p hp,hok.cl p hp⟩
  obtain⟨pn,hpn⟩:∃n,l.length=n:=⟨_,rfl⟩;have hn13:W1.heap.size≤W3.heap.size:=Nat.le_trans hb2.size hz23;obtain⟨n1,hn1⟩:∃n,W1.heap.size=n:=⟨_,rfl⟩;rw[hnn,hpn,hn1];rw[hn1] at hn13;replace hnw:nw≤20:=by omega
  clear hMd hM3 kC3 kM3 kO3 kS3 hbw3 kB hI hsw hT2 hev2 hr2 hb2 hwn ws hoff hfp kS hok hb230 hz23 hn1;intro i o hi ho c bb W hc hM hA hD K hK;match i,hi,ho with
  |0,_,ho =>
   cases ho;have f5:=a0a (v:= .pointer (some ⟨BM,0,none⟩)) (hA.at_ (k:=5) (by kernel_rfl));have z0:W.cell? ⟨BM,0,none⟩=some (.slice ea ne ec):=hM.b.cell 0;have z1:W.cell? ⟨BM,1,none⟩=some (.slice fa nf fc):=hM.b.cell 1;have z2:W.cell? ⟨BM,2,none⟩=some (.slice wa nw wc):=hM.b.cell 2;have z3:W.cell? ⟨BM,3,none⟩=some (.slice pa pn pc):=hM.b.cell 3;go_simp;exact hK (.agg #[.slice ea ne ec,.slice fa nf fc,.slice wa nw wc,.slice pa pn pc]) W rfl (zR _ _) hM
  |1,_,ho =>
   cases ho;have f5:=a0a (v:= .pointer (some ⟨BM,0,none⟩)) (hA.at_ (k:=5) (by kernel_rfl));have z0:W.cell? ⟨BM,0,none⟩=some (.slice ea ne ec):=hM.b.cell 0;have z1:W.cell? ⟨BM,1,none⟩=some (.slice fa nf fc):=hM.b.cell 1;have z2:W.cell? ⟨BM,2,none⟩=some (.slice wa nw wc):=hM.b.cell 2;have z3:W.cell? ⟨BM,3,none⟩=some (.slice pa pn pc):=hM.b.cell 3;go_simp;exact hK (.agg #[.slice ea ne ec,.slice fa nf fc,.slice wa nw wc,.slice pa pn pc]) W rfl (zR _ _) hM
  |2,_,ho =>
   cases ho;have f1:=a0a (v:= .pointer (some ⟨nn,0,none⟩)) (hA.at_ (k:=1) (by kernel_rfl));go_simp;exact hK (.pointer (some ⟨nn,1,none⟩)) W rfl (zR _ _) hM
  |3,_,ho =>
   cases ho;have f16:=a0a (v:= .pointer (some ⟨nn,1,none⟩)) (a0i hD 2 16 (by kernel_rfl) rfl rfl);have z0:W.cell? ⟨nn,1,none⟩=some (.int .i64 q0):=hM.c.cell 1;have z1:W.cell? ⟨nn,2,none⟩=some (.int .i64 q1):=hM.c.cell 2;have z2:W.cell? ⟨nn,3,none⟩=some (.int .i64 q2):=hM.c.cell 3;go_simp;exact hK (.agg #[.int .i64 q0,.int .i64 q1,.int .i64 q2]) W rfl (zR _ _) hM
  |4,_,ho =>
   cases ho;have f15:=a0a (v:= .agg #[.slice ea ne ec,.slice fa nf fc,.slice wa nw wc,.slice pa pn pc]) (a0i hD 1 15 (by kernel_rfl) rfl rfl);have f17:=a0a (v:= .agg #[.int .i64 q0,.int .i64 q1,.int .i64 q2]) (a0i hD 3 17 (by kernel_rfl) rfl rfl);go_simp;refine (c6f _ W _ _ _ _ _ _ _ _ hM.I q0 q1 q2 hM.f0 hM.f1 hM.f2).mono ?_;rintro e W'⟨S',ev',fv',wv',pv',ne',nf',nw',l',rfl,hR,hO,hE⟩;go_simp;exact hK _ W' (OdR.of hR hO hE (Nat.le_trans hn13 hM.sz) (Nat.le_trans hn13 hM.sz) hnw hl6 hokl) hE.low30 (hM.up hE.low30)
  |5,_,ho =>
   cases ho;have f1:=a0a (v:= .pointer (some ⟨nn,0,none⟩)) (hA.at_ (k:=1) (by kernel_rfl));go_simp;exact hK (.pointer (some ⟨nn,4,none⟩)) W rfl (zR _ _) hM
  |6,_,ho =>
   cases ho;have f19:=a0a (v:= .pointer (some ⟨nn,4,none⟩)) (a0i hD 5 19 (by kernel_rfl) rfl rfl);have z0:W.cell? ⟨nn,4,none⟩=some (.int .u8 b0):=hM.c.cell 4;have z1:W.cell? ⟨nn,5,none⟩=some (.int .u8 b1):=hM.c.cell 5;have z2:W.cell? ⟨nn,6,none⟩=some (.int .u8 b2):=hM.c.cell 6;have z3:W.cell? ⟨nn,7,none⟩=some (.int .u8 b3):=hM.c.cell 7;go_simp;exact hK (.agg #[.int .u8 b0,.int .u8 b1,.int .u8 b2,.int .u8 b3]) W rfl (zR _ _) hM
  |7,_,ho =>
   cases ho;have f1:=a0a (v:= .pointer (some ⟨nn,0,none⟩)) (hA.at_ (k:=1) (by kernel_rfl));go_simp;exact hK (.pointer (some ⟨nn,8,none⟩)) W rfl (zR _ _) hM
  |8,_,ho =>
   cases ho;have f21:=a0a (v:= .pointer (some ⟨nn,8,none⟩)) (a0i hD 7 21 (by kernel_rfl) rfl rfl);have z0:W.cell? ⟨nn,8,none⟩=some (.int .i64 raw.ax):=hM.c.cell 8;have z1:W.cell? ⟨nn,9,none⟩=some (.int .i64 raw.ay):=hM.c.cell 9;have z2:W.cell? ⟨nn,10,none⟩=some (.int .i64 raw.st):=hM.c.cell 10;have z3:W.cell? ⟨nn,11,none⟩=some (.int .i64 raw.w):=hM.c.cell 11;have z4:W.cell? ⟨nn,12,none⟩=some (.int .i64 raw.h):=hM.c.cell 12;have z5:W.cell? ⟨nn,13,none⟩=some (.int .i64 raw.g):=hM.c.cell 13;go_simp;exact hK (.agg #[.int .i64 raw.ax,.int .i64 raw.ay,.int .i64 raw.st,.int .i64 raw.w,.int .i64 raw.h,.int .i64 raw.g]) W rfl (zR _ _) hM
  |9,_,ho =>
   cases ho;have f20:=a0a (v:= .agg #[.int .u8 b0,.int .u8 b1,.int .u8 b2,.int .u8 b3]) (a0i hD 6 20 (by kernel_rfl) rfl rfl);have f22:=a0a (v:= .agg #[.int .i64 raw.ax,.int .i64 raw.ay,.int .i64 raw.st,.int .i64 raw.w,.int .i64 raw.h,.int .i64 raw.g]) (a0i hD 8 22 (by kernel_rfl) rfl rfl);go_simp;refine (d1l b0 b1 b2 b3 hM.h0 hM.h1 hM.h2 hM.h3 raw W).mono ?_;rintro e W'⟨rfl,hb⟩;go_simp;exact hK _ W' rfl hb (hM.up hb)
  |i+10,hi,_=>exact absurd hi (by omega)
 case tail2 =>
  intro bb W' hM hA hall;have h14:bb.eval (.tmp 14)= .agg #[.slice ea ne ec,.slice fa nf fc,.slice wa nw wc,.slice pa l.length pc]:=hall 0 (by omega) _ _ rfl rfl;obtain⟨a1,m1,d1,a2,m2,d2,a3,m3,d3,a4,d4,l2,S3,h18,hOd⟩:=(show ∃a1 n1 c1 a2 n2 c2 a3 n3 c3 a4 c4 l2 S3,bb.eval (.tmp 18)= .agg #[.slice a1 n1 c1,.slice a2 n2 c2,.slice a3 n3 c3,.slice a4 l2.length c4]∧OdR W1.heap.size S3 W' (.slice a3 n3 c3) (.slice a4 l2.length c4) n3 l2 from hall 4 (by omega) _ _ rfl rfl);obtain⟨m4,hm4⟩:∃m,l2.length=m:=⟨_,rfl⟩;rw[hm4] at h18;replace hm4:=Lib.hid hm4;have h23:bb.eval (.tmp 23)=shV (a5v b0 b1 b2 b3 raw):=hall 9 (by omega) _ _ rfl rfl;have hfr:=hA.frame [T,T,T,T,T,T,T,T,T,T,T,T,T,T,F,F,F,F,F,F,F,F,F,F] _ rfl (by kernel_rfl);clear hall hA;obtain⟨f,hf⟩:∃f:Nat→Value,(fun k=>bb.tmps.getD k undef)=f:=⟨_,rfl⟩;have g14:f 14= .agg #[.slice ea ne ec,.slice fa nf fc,.slice wa nw wc,.slice pa l.length pc]:=by rw[←hf,←h14];rfl
  have g18:f 18= .agg #[.slice a1 m1 d1,.slice a2 m2 d2,.slice a3 m3 d3,.slice a4 m4 d4]:=by rw[←hf,←h18];rfl
  have g23:f 23=shV (a5v b0 b1 b2 b3 raw):=by rw[←hf,←h23];rfl
  rw[hf] at hfr;clear hf h14 h18 h23;obtain⟨sh,hsh⟩:∃sh,a5v b0 b1 b2 b3 raw=sh:=⟨_,rfl⟩;rw[hsh] at g23;replace hsh:=Lib.hid hsh;subst hfr;simp only[a2k,g14,g18,g23,Nat.reduceAdd];clear g14 g18 g23;simp only[List.drop_succ_cons,List.drop_zero];have kM4:=kM3.below hM.bel kM3.lt;have kO4:=kO3.below hM.bel kO3.lt;have kS4:=kS3.below hM.bel kS3.lt;have hbw4:=hbw3.trans (hM.bel.mono hbw3.size);have hn3:=kS.lt;have hs4:∀b,W1.heap.size≤b→b<w2.heap.size→W'.heap[b]? =w2.heap[b]? :=fun b _ hb=>(hM.bel.block b (Nat.lt_of_lt_of_le hb hz23)).trans (hb230.block b hb)
  clear hM hMd hM3 kC3 kM3 kO3 kS3 kB hI hbw3;obtain⟨e0,e1,e2,e3⟩:W'.cell? ⟨w.heap.size+1,0,none⟩=some (.slice none 0 0)∧W'.cell? ⟨w.heap.size+1,1,none⟩=some (.slice none 0 0)∧W'.cell? ⟨w.heap.size+1,2,none⟩=some (.slice none 0 0)∧W'.cell? ⟨w.heap.size+1,3,none⟩=some (.slice none 0 0):=⟨kM4.cell 0,kM4.cell 1,kM4.cell 2,kM4.cell 3⟩;obtain⟨o0,o1,o2,o3⟩:W'.cell? ⟨w.heap.size+1+1,0,none⟩=some (.slice none 0 0)∧W'.cell? ⟨w.heap.size+1+1,1,none⟩=some (.slice none 0 0)∧W'.cell? ⟨w.heap.size+1+1,2,none⟩=some (.slice none 0 0)∧W'.cell? ⟨w.heap.size+1+1,3,none⟩=some (.slice none 0 0):=⟨kO4.cell 0,kO4.cell 1,kO4.cell 2,kO4.cell 3⟩;obtain⟨t0,t1,t2,t3,t4,t5⟩:W'.cell? ⟨w.heap.size+1+1+1,0,none⟩=some (.int .i64 0)∧W'.cell? ⟨w.heap.size+1+1+1,1,none⟩=some (.int .i64 0)∧W'.cell? ⟨w.heap.size+1+1+1,2,none⟩=some (.int .i64 0)∧W'.cell? ⟨w.heap.size+1+1+1,3,none⟩=some (.int .i64 0)∧W'.cell? ⟨w.heap.size+1+1+1,4,none⟩=some (.int .i64 0)∧W'.cell? ⟨w.heap.size+1+1+1,5,none⟩=some (.int .i64 0):=⟨kS4.cell 0,kS4.cell 1,kS4.cell 2,kS4.cell 3,kS4.cell 4,kS4.cell 5⟩;have fe:=kM4.frozen;have fo:=kO4.frozen;have ft:=kS4.frozen;have hne1:w.heap.size+1≠w.heap.size+1+1:=by omega
  have hne2:w.heap.size+1≠w.heap.size+1+1+1:=by omega
  have hne3:w.heap.size+1+1≠w.heap.size+1+1+1:=by omega
  have kMf:=((kM4.set4 (.slice ea ne ec) (.slice fa nf fc) (.slice wa nw wc) (.slice pa l.length pc)).not4 hne1 (.slice a1 m1 d1) (.slice a2 m2 d2) (.slice a3 m3 d3) (.slice a4 m4 d4)).not6 hne2 (.int .i64 sh.ax) (.int .i64 sh.ay) (.int .i64 sh.st) (.int .i64 sh.w) (.int .i64 sh.h) (.int .i64 sh.g);have kOf:=((kO4.not4 hne1.symm (.slice ea ne ec) (.slice fa nf fc) (.slice wa nw wc) (.slice pa l.length pc)).set4 (.slice a1 m1 d1) (.slice a2 m2 d2) (.slice a3 m3 d3) (.slice a4 m4 d4)).not6 hne3 (.int .i64 sh.ax) (.int .i64 sh.ay) (.int .i64 sh.st) (.int .i64 sh.w) (.int .i64 sh.h) (.int .i64 sh.g);have kSf:=((kS4.not4 hne2.symm (.slice ea ne ec) (.slice fa nf fc) (.slice wa nw wc) (.slice pa l.length pc)).not4 hne3.symm (.slice a1 m1 d1) (.slice a2 m2 d2) (.slice a3 m3 d3) (.slice a4 m4 d4)).set6 (.int .i64 sh.ax) (.int .i64 sh.ay) (.int .i64 sh.st) (.int .i64 sh.w) (.int .i64 sh.h) (.int .i64 sh.g);have hbF:=d4q (d3m (d3m hbw4 (B:=w.heap.size+1) (by omega) (.slice ea ne ec) (.slice fa nf fc) (.slice wa nw wc) (.slice pa l.length pc)) (B:=w.heap.size+1+1) (by omega) (.slice a1 m1 d1) (.slice a2 m2 d2) (.slice a3 m3 d3) (.slice a4 m4 d4)) (B:=w.heap.size+1+1+1) (by omega) (.int .i64 sh.ax) (.int .i64 sh.ay) (.int .i64 sh.st) (.int .i64 sh.w) (.int .i64 sh.h) (.int .i64 sh.g);unfold b9v c2s at kMf kOf kSf hbF;clear kM4 kO4 kS4;go_wp2_with fail;obtain⟨WF,hWF⟩:∃WF,c2s (b9v (b9v W' (w.heap.size+1) (.slice ea ne ec) (.slice fa nf fc) (.slice wa nw wc) (.slice pa l.length pc)) (w.heap.size+1+1) (.slice a1 m1 d1) (.slice a2 m2 d2) (.slice a3 m3 d3) (.slice a4 m4 d4)) (w.heap.size+1+1+1) (.int .i64 sh.ax) (.int .i64 sh.ay) (.int .i64 sh.st) (.int .i64 sh.w) (.int .i64 sh.h) (.int .i64 sh.g)=WF:=⟨_,rfl⟩;unfold b9v c2s at hWF;have hsF:∀b,W1.heap.size≤b→b<w2.heap.size→WF.heap[b]? =w2.heap[b]? :=fun b h1 h2=>by
   rw[←hWF];simp only[a3o (show b≠w.heap.size+1 by omega),a3o (show b≠w.heap.size+1+1 by omega),a3o (show b≠w.heap.size+1+1+1 by omega)];exact hs4 b h1 h2
  have hsO:∀b,W1.heap.size≤b→b<W'.heap.size→WF.heap[b]? =W'.heap[b]? :=fun b h1 h2=>by
   rw[←hWF];simp only[a3o (show b≠w.heap.size+1 by omega),a3o (show b≠w.heap.size+1+1 by omega),a3o (show b≠w.heap.size+1+1+1 by omega)]
  rw[hWF] at hbF kMf kOf kSf ⊢;clear hWF e0 e1 e2 e3 o0 o1 o2 o3 t0 t1 t2 t3 t4 t5 fe fo ft;have hnw2:∀b,S2 b→W1.heap.size≤b:=fun b hb=>(hev2.new b hb).elim (fun h=>h.elim) id
  have hTF:TW S2 WF:=hT2.of_same fun b hb=>hsF b (hnw2 b hb) (hT2.lt hb)
  have hswF:SL S2 WF 149 (.slice wa nw wc) nw:=hsw.mono (fun _ h=>h) fun b c e hb hc=>⟨c,(hsF b (hnw2 b hb) (hT2.lt hb)).trans hc,rfl⟩
  have hrF:=c0x hr2 hsF;obtain⟨ws',hwn',hws',hwo'⟩:=b1t hTF hswF;have hpF:=a0b a2l hrF (by omega);obtain⟨ws2,hMd2⟩:=(hOd.same hsO).map;exact bodyPost_ret (b4p (by rfl) (by rfl) kMf underlying37 (by rfl) (by kernel_rfl) (by rfl) kOf underlying37 (by rfl) (by kernel_rfl) (by rfl) kSf underlying28 (by rfl) (by kernel_rfl)) rfl ⟨_,_,_,_,_,_,_,_,_,_,_,_,_,_,_,_,_,_,_,_,_,_,l,ws',l2,ws2,by rw[hsh.out,hm4.out],⟨hpF,hfp,hl6,hok,hws',by omega,hwo'⟩,hMd2,hbF⟩
end
end Go.Proofs.YtfocdbjceedagaaGreatDoor
