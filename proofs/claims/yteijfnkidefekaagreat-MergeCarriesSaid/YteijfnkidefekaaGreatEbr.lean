/-
  Parts.
-/
import Derived.Test.YteijfnkidefekaaGreatEbq
set_option linter.unusedVariables false
set_option linter.unusedSimpArgs false
set_option linter.unusedSectionVars false
set_option maxHeartbeats 4000000
set_option maxRecDepth 100000
namespace Go.Proofs.YteijfnkidefekaaGreat
open Tryz
section
open Go Go.RowKit Go.Shelf Go.Lib
variable{P:List Pc}{n0:Nat}{v:Vu}{w w':Wd}
def c6i (E:List Eg)(Fa:List Fc)(Y:List Wq)(P:List Pc)(k:Nat):List Int :=
 match k with
 |0=>E.map Eg.id
 |1=>Fa.map Fc.id
 |2=>Y.map Wq.id
 |3=>P.map Pc.id
 |_=>[]
theorem c2k (E:List Eg)(Fa:List Fc)(Y:List Wq)(P:List Pc):b4d (c6i E Fa Y P) 4=ids (a1d E Fa Y P):=by
 unfold ids a1d;rw[a3c,a3c,a3c,a3c];simp only[b4d,List.range_zero,List.flatMap_nil,List.nil_append,c6i,List.map_map,List.append_assoc];rfl
abbrev rI (w:Wd)(n0:Nat)(v:Vu)(l:List Int):Prop:=w.ownsRow n0 3 1 v l.length (l.flatMap nE.enc)
def RowsI (n0:Nat)(E:List Eg)(Fa:List Fc)(Y:List Wq)(P:List Pc)(v:Vu)(w:Wd):Prop :=
 ∃Z a0 a1 a2 a3 d0 d1 d2 d3,v= .slice (some ⟨Z,0,none⟩) 4 4/\Blk w Z #[.slice a0 (E.map Eg.id).length d0,.slice a1 (Fa.map Fc.id).length d1,.slice a2 (Y.map Wq.id).length d2,.slice a3 (P.map Pc.id).length d3] 100 /\
  rI w n0 (.slice a0 (E.map Eg.id).length d0) (E.map Eg.id)/\rI w n0 (.slice a1 (Fa.map Fc.id).length d1) (Fa.map Fc.id)/\rI w n0 (.slice a2 (Y.map Wq.id).length d2) (Y.map Wq.id)/\rI w n0 (.slice a3 (P.map Pc.id).length d3) (P.map Pc.id)
theorem RowsI.up {E:List Eg}{Fa:List Fc}{Y:List Wq}(h:RowsI n0 E Fa Y P v w)(hg:Below w.heap.size w w'):RowsI n0 E Fa Y P v w':=by
 obtain⟨Z,a0,a1,a2,a3,d0,d1,d2,d3,h1,h2,h3,h4,h5,h6⟩:=h;exact⟨Z,a0,a1,a2,a3,d0,d1,d2,d3,h1,h2.below hg h2.lt,a0c h3 hg,a0c h4 hg,a0c h5 hg,a0c h6 hg⟩
def FAl (n0 BM:Nat)(x0 x1 x2 x3:Option Addr)(k0 k1 k2 k3 c0 c1 c2 c3:Nat)(E:List Eg)(Fa:List Fc)(Y:List Wq)(P:List Pc)(i:Nat)(v:Vu)(w:Wd):Prop :=
 match i with
 |0=>v= .agg #[.slice x0 k0 c0,.slice x1 k1 c1,.slice x2 k2 c2,.slice x3 k3 c3]
 |1=>v= .agg #[.slice x0 k0 c0,.func (.func 54) #[] #[]]
 |2=>rI w n0 v (E.map Eg.id)
 |3=>v= .agg #[.slice x0 k0 c0,.slice x1 k1 c1,.slice x2 k2 c2,.slice x3 k3 c3]
 |4=>v= .agg #[.slice x1 k1 c1,.func (.func 59) #[] #[]]
 |5=>rI w n0 v (Fa.map Fc.id)
 |6=>v= .agg #[.slice x0 k0 c0,.slice x1 k1 c1,.slice x2 k2 c2,.slice x3 k3 c3]
 |7=>v= .agg #[.slice x2 k2 c2,.func (.func 63) #[] #[]]
 |8=>rI w n0 v (Y.map Wq.id)
 |9=>v= .agg #[.slice x0 k0 c0,.slice x1 k1 c1,.slice x2 k2 c2,.slice x3 k3 c3]
 |10=>v= .agg #[.slice x3 k3 c3,.func (.func 67) #[] #[]]
 |11=>rI w n0 v (P.map Pc.id)
 |12=>RowsI n0 E Fa Y P v w
 |_=>False
theorem FAl.kept {BM:Nat}{x0 x1 x2 x3:Option Addr}{k0 k1 k2 k3 c0 c1 c2 c3:Nat}{E:List Eg}{Fa:List Fc}{Y:List Wq}{i:Nat}(h:FAl n0 BM x0 x1 x2 x3 k0 k1 k2 k3 c0 c1 c2 c3 E Fa Y P i v w)(hg:Below w.heap.size w w'):FAl n0 BM x0 x1 x2 x3 k0 k1 k2 k3 c0 c1 c2 c3 E Fa Y P i v w':=by
 unfold FAl at *;split at h
 all_goals first|exact h|(exact a0c h hg)|(exact RowsI.up h hg)
theorem c2l (x0 x1 x2 x3:Option Addr)(c0 c1 c2 c3:Nat)(E:List Eg)(Fa:List Fc)(Y:List Wq)(P:List Pc)(w:Wd)(hM:MapV w.heap.size w (.slice x0 E.length c0) (.slice x1 Fa.length c1) (.slice x2 Y.length c2) (.slice x3 P.length c3) E Fa Y P):
 Calls prog 71 #[.agg #[.slice x0 E.length c0,.slice x1 Fa.length c1,.slice x2 Y.length c2,.slice x3 P.length c3]] w λe w'=>∃u,e= .returned u/\rI w' w.heap.size u (ids (a1d E Fa Y P))/\Below w.heap.size w w':=by
 have an:=hM.ne;have bZ:=hM.nf;have je:=hM.nw;have iK:=hM.np;go_enter func71,ntmps71;go_upto_region 1 with fail;have kM:=(Blk.new w #[.slice x0 E.length c0,.slice x1 Fa.length c1,.slice x2 Y.length c2,.slice x3 P.length c3] 32);have ah:Below w.heap.size w (w.alloc (.cells #[.slice x0 E.length c0,.slice x1 Fa.length c1,.slice x2 Y.length c2,.slice x3 P.length c3] 32)):=by exact zC
 obtain⟨W1,ao⟩:=zE ((w.alloc (.cells #[.slice x0 E.length c0,.slice x1 Fa.length c1,.slice x2 Y.length c2,.slice x3 P.length c3] 32)));rw[ao]at kM ah ⊢;clear ao;have aH:=ah.size;have bR:NmR w.heap.size w.heap.size W1 x0 x1 x2 x3 c0 c1 c2 c3 E Fa Y P W1:=⟨kM,hM.up ah,aH,zR _ _⟩;obtain⟨BM,bu⟩:=zE w.heap.size;rw[bu]at bR ⊢;obtain⟨n0,bX⟩:∃n,n=BM:=⟨_,rfl⟩;have ij:NmR n0 BM W1 x0 x1 x2 x3 c0 c1 c2 c3 E Fa Y P W1:=bX▸bR;refine Go.wp_region_rel 13 zM zM (λ_ W=>NmR n0 BM W1 x0 x1 x2 x3 c0 c1 c2 c3 E Fa Y P W) (λw w'=>Below w.heap.size w w') (FAl n0 BM x0 x1 x2 x3 E.length Fa.length Y.length P.length c0 c1 c2 c3 E Fa Y P) (λ_ _ _ _ h g=>h.kept g) (ij.up (zR _ _).drew) ?step1 ?tail1
 case step1 =>
  obtain⟨k0,e0⟩:=zE E.length;obtain⟨k1,e1⟩:=zE Fa.length;obtain⟨k2,e2⟩:=zE Y.length;obtain⟨k3,e3⟩:=zE P.length;rw[e0,e1,e2,e3];clear hM bR ij kM ah aH an bZ je iK bX bu;intro i o hi ho c bb W hc hM hA hD K hK;match i,hi,ho with
  |0,_,ho =>
   exact yad
  |1,_,ho =>
   cases ho;have f3:=a0a (v:= .agg #[.slice x0 k0 c0,.slice x1 k1 c1,.slice x2 k2 c2,.slice x3 k3 c3]) (a0b hD 0 3 zM rfl rfl);exact yjs
  |2,_,ho =>
   cases ho;have f4:=a0a (v:= .agg #[.slice x0 k0 c0,.func (.func 54) #[] #[]]) (a0b hD 1 4 zM rfl rfl);go_simp;refine(c2g _ E W (e0▸hM.m.e) hM.m.ne).mono ?_;exact ybw
  |3,_,ho =>
   exact yad
  |4,_,ho =>
   cases ho;have f6:=a0a (v:= .agg #[.slice x0 k0 c0,.slice x1 k1 c1,.slice x2 k2 c2,.slice x3 k3 c3]) (a0b hD 3 6 zM rfl rfl);exact yjt
  |5,_,ho =>
   cases ho;have f7:=a0a (v:= .agg #[.slice x1 k1 c1,.func (.func 59) #[] #[]]) (a0b hD 4 7 zM rfl rfl);go_simp;refine(c2h _ Fa W (e1▸hM.m.f) hM.m.nf).mono ?_;exact ybw
  |6,_,ho =>
   exact yad
  |7,_,ho =>
   cases ho;have f9:=a0a (v:= .agg #[.slice x0 k0 c0,.slice x1 k1 c1,.slice x2 k2 c2,.slice x3 k3 c3]) (a0b hD 6 9 zM rfl rfl);exact yju
  |8,_,ho =>
   cases ho;have f10:=a0a (v:= .agg #[.slice x2 k2 c2,.func (.func 63) #[] #[]]) (a0b hD 7 10 zM rfl rfl);go_simp;refine(c2i _ Y W (e2▸hM.m.w) hM.m.nw).mono ?_;exact ybw
  |9,_,ho =>
   exact yad
  |10,_,ho =>
   cases ho;have f12:=a0a (v:= .agg #[.slice x0 k0 c0,.slice x1 k1 c1,.slice x2 k2 c2,.slice x3 k3 c3]) (a0b hD 9 12 zM rfl rfl);exact yjv
  |11,_,ho =>
   cases ho;have f13:=a0a (v:= .agg #[.slice x3 k3 c3,.func (.func 67) #[] #[]]) (a0b hD 10 13 zM rfl rfl);go_simp;refine(c2j _ P W (e3▸hM.m.p) hM.m.np).mono ?_;exact ybw
  |12,_,ho =>
   cases ho;have f5:=a0b hD 2 5 zM rfl rfl;have f8:=a0b hD 5 8 zM rfl rfl;have f11:=a0b hD 8 11 zM rfl rfl;have f14:=a0b hD 11 14 zM rfl rfl;obtain⟨va,ea⟩:=zE (bb.eval (.tmp 5));obtain⟨vb,eb⟩:=zE (bb.eval (.tmp 8));obtain⟨vc,ec⟩:=zE (bb.eval (.tmp 11));obtain⟨vd,ed⟩:=zE (bb.eval (.tmp 14));rw[ea]at f5;rw[eb]at f8;rw[ec]at f11;rw[ed]at f14;obtain⟨a0,d0,rfl⟩:=a2v f5;obtain⟨a1,d1,rfl⟩:=a2v f8;obtain⟨a2,d2,rfl⟩:=a2v f11;obtain⟨a3,d3,rfl⟩:=a2v f14;have h5:=f5;have h8:=f8;have h11:=f11;have h14:=f14;have f5:=a0a ea;have f8:=a0a eb;have f11:=a0a ec;have f14:=a0a ed;obtain⟨l0,rS⟩:=zE ((E.map Eg.id).length);obtain⟨l1,gG⟩:=zE ((Fa.map Fc.id).length);obtain⟨l2,dC⟩:=zE ((Y.map Wq.id).length);obtain⟨l3,jY⟩:=zE ((P.map Pc.id).length);rw[rS]at f5;rw[gG]at f8;rw[dC]at f11;rw[jY]at f14;go_simp;have hb:Below W.heap.size W (W.alloc (.cells #[.slice a0 l0 d0,.slice a1 l1 d1,.slice a2 l2 d2,.slice a3 l3 d3] 100)):=(zR _ _).alloc (yR _) _;refine hK (.slice (some ⟨W.heap.size,0,none⟩) 4 4) _ ⟨_,a0,a1,a2,a3,d0,d1,d2,d3,rfl,?_,a0c h5 hb,a0c h8 hb,a0c h11 hb,a0c h14 hb⟩ hb (hM.up hb);rw[rS,gG,dC,jY];exact Blk.new _ _ _
  |i+13,hi,_=>exact absurd hi xM
 case tail1 =>
  intro bb W' au hA aa;obtain⟨Z,a0,a1,a2,a3,d0,d1,d2,d3,h15,kZ,r0,r1,r2,r3⟩:=(show RowsI n0 E Fa Y P (bb.eval (.tmp 15)) W' from aa 12 xM _ _ rfl rfl);have az:=hA.frame [T,T,T,F,F,F,F,F,F,F,F,F,F,F,F,F,T] _ rfl zM;clear aa hA;obtain⟨f,hf⟩:=zDt bb;have g15:f 15= .slice (some ⟨Z,0,none⟩) 4 4:=by rw[<-hf,<-h15];rfl
  rw[hf]at az;clear hf h15;subst az;simp only[a1j,g15,Nat.reduceAdd];clear g15;simp only[zU];have q0:=a0g nOk r0 (by rw[List.length_map];omega);have q1:=a0g nOk r1 (by rw[List.length_map];omega);have q2:=a0g nOk r2 (by rw[List.length_map];omega);have q3:=a0g nOk r3 (by rw[List.length_map];omega);have hC:=b9e Z (λk=>match k with|0=>a0|1=>a1|2=>a2|_=>a3) (λk=>match k with|0=>d0|1=>d1|2=>d2|_=>d3) (c6i E Fa Y P) W' (λk hk=>by
   match k,hk with
   |0,_=>exact kZ.cell 0
   |1,_=>exact kZ.cell 1
   |2,_=>exact kZ.cell 2
   |3,_=>exact kZ.cell 3) kZ.lt (λk=>by
   match k with
   |0=>exact Nat.le_trans (Nat.le_of_eq (List.length_map _)) an
   |1=>exact Nat.le_trans (Nat.le_of_eq (List.length_map _)) bZ
   |2=>exact Nat.le_trans (Nat.le_of_eq (List.length_map _)) je
   |3=>exact Nat.le_trans (Nat.le_of_eq (List.length_map _)) iK
   |k+4=>exact Nat.zero_le _) (λk hk=>by
   match k,hk with
   |0,_=>exact⟨q0,a0o r0⟩
   |1,_=>exact⟨q1,a0o r1⟩
   |2,_=>exact⟨q2,a0o r2⟩
   |3,_=>exact⟨q3,a0o r3⟩)
  rw[c2k]at hC;clear q0 q1 q2 q3 r0 r1 r2 r3 kZ;go_wp2_with (first
   |(go_at_call 102;(with_reducible refine hC.mono ?_);rintro e W2⟨u,rfl,aL,aq⟩))
  go_ret;have aW:=au.bel;have hz:=au.z;have hq:n0=w.heap.size:=bX.trans bu.symm;rw[hq]at aW hz;have cK:=ah.trans (aW.trans (aq.mono hz));exact⟨_,rfl,a3n aL hz,cK⟩
end
section
open Go Go.RowKit Go.Shelf Go.Lib Go.Sort
theorem b6d (zs:List Int)(hs:zs.Pairwise (·<=·)):(Lib.compact zs).length=zs.length↔zs.Nodup:=by
 unfold Lib.compact compactUpTo;rw[List.length_map];have e:((List.range zs.length).filter (keeps zs.toArray)).length=zs.length↔∀j∈List.range zs.length,keeps zs.toArray j=true:=by
  have:=List.length_filter_eq_length_iff (p:=keeps zs.toArray) (l:=List.range zs.length);rw[List.length_range]at this;exact this
 rw[e];rw[List.pairwise_iff_getElem]at hs;constructor
 ·intro h
  unfold List.Nodup;rw[List.pairwise_iff_getElem];intro i j hi hj cm e2;have hk:=h j (List.mem_range.2 hj);simp only[keeps,decide_eq_true_eq]at hk;rcases hk with hk|hk
  ·omega
  ·apply hk
   have h1:zs[i]<=zs[j-1]'(by omega):=by
    by_cases hq:i=j-1
    ·subst hq;omega
    ·exact hs i (j-1) hi xM xM
   have h2:zs[j-1]'(by omega)<=zs[j]:=hs (j-1) j xM hj xM;have h3:zs[j]=zs[j-1]'(by omega):=xM;simp[getElem!_pos,hj,show j-1<zs.length by omega,h3]
 ·intro h j hj
  have gK:=List.mem_range.1 hj;unfold List.Nodup at h;rw[List.pairwise_iff_getElem]at h;by_cases h0:j=0
  ·simp[keeps,h0]
  ·have:=h (j-1) j xM gK xM
   refine keeps_pos ?_;simp only[List.getElem!_toArray];rw[getElem!_pos zs j gK,getElem!_pos zs (j-1) xM];exact λe=>this e.symm
theorem b4e (l:List Int):(sortI l).Pairwise (·<=·):=by
 have:=List.pairwise_mergeSort (le:=leI) (λa b c h1 h2=>by simp only[leI,decide_eq_true_eq]at *;omega) (λa b=>by simp only[leI,Bool.or_eq_true,decide_eq_true_eq];omega) l;exact this.imp (λh=>by simpa[leI]using h)
theorem b6e (n0:Nat)(u:Vu)(l:List Int)(w:Wd)(hr:rI w n0 u l)(hl:l.length<=100000):Calls prog 72 #[u] w λe w'=>e= .returned (.tuple #[])/\rI w' n0 u (sortI l)/\Below n0 w w':=by
 by_cases hu:u= .slice none 0 0
 ·subst hu
  obtain⟨a,c,h⟩:=a2v hr;simp only[Value.slice.injEq]at h;obtain rfl:=List.eq_nil_of_length_eq_zero h.2.1.symm;refine(AnyM.slices_Sort_int_none Tryz.sortI none 0 w).mono ?_;rintro e w'⟨rfl,rfl⟩;exact⟨rfl,by rw[show sortI []=[] by simp[sortI]];exact hr,zR _ _⟩
 ·unfold rI at hr
  rw[<-a8u]at hr;obtain⟨g,cap,rfl,hg,gO,hn,dq,hlen,hH⟩:=holds_of_ownsRow hr hu;refine(AnyM.slices_Sort_int Tryz.sortI g 0 cap l w hH gO xM).mono ?_;rintro e w'⟨rfl,n,os,rfl⟩;have h1:=ownsRow_putRow (q:=n) (k:=l.length) (ys:=sortI l) hr (by rw[(a1g l).length_eq]) (yR _);rw[List.take_of_length_le (Nat.le_of_eq (a1g l).length_eq),a8u]at h1;have hb:=below_putRow (enc:=Value.int .i64) (q:=n) (d:=(sortI l).toArray) (zR n0 w) hg;have hz:=hb.size;have aq:∀W os,Below (World.heap W).size W (grow W os):=λW os=>⟨rfl,rfl,rfl,by simp,λk hk=>heap_grow_old _ _ hk⟩
  refine⟨rfl,?_,hb.trans ((aq _ os).mono xM)⟩;have h2:=a0c h1 (aq _ os);rw[<-(a1g l).length_eq]at h2 ⊢;exact h2
theorem a9k (n0:Nat)(u:Vu)(l:List Int)(w:Wd)(hr:rI w n0 u l)(hl:l.length<=100000):Calls prog 73 #[u] w λe w'=>∃a c,e= .returned (.slice a (Lib.compact l).length c)/\Below n0 w w':=by
 obtain⟨a,c,hv⟩:=a2v hr;by_cases hu:u= .slice none 0 0
 ·subst hu
  simp only[Value.slice.injEq]at hv;obtain rfl:=List.eq_nil_of_length_eq_zero hv.2.1.symm;refine(Tryz.slices_Compact_int_empty none 0 w).mono ?_;rintro e w'⟨rfl,rfl⟩;exact⟨none,0,rfl,zR _ _⟩
 ·unfold rI at hr
  rw[<-a8u]at hr;obtain⟨g,cap,rfl,hg,gO,hn,dq,hlen,hH⟩:=holds_of_ownsRow hr hu;refine(Tryz.slices_Compact_int g 0 cap l w hH xM hn).mono ?_;rintro e w'⟨rfl,q,rfl⟩;exact⟨_,_,rfl,below_putRow (zR n0 w) hg⟩
theorem c6j (x0 x1 x2 x3:Option Addr)(c0 c1 c2 c3:Nat)(E:List Eg)(Fa:List Fc)(Y:List Wq)(P:List Pc)(w:Wd)(hM:MapV w.heap.size w (.slice x0 E.length c0) (.slice x1 Fa.length c1) (.slice x2 Y.length c2) (.slice x3 P.length c3) E Fa Y P) :
 Calls prog 38 #[.agg #[.slice x0 E.length c0,.slice x1 Fa.length c1,.slice x2 Y.length c2,.slice x3 P.length c3]] w λe w'=>∃a n c,e= .returned (.slice a n c)/\n<=4000/\(n=E.length+Fa.length+Y.length+P.length↔(ids (a1d E Fa Y P)).Nodup)/\Below w.heap.size w w':=by
 have an:=hM.ne;have bZ:=hM.nf;have je:=hM.nw;have iK:=hM.np;have hlen:(ids (a1d E Fa Y P)).length=E.length+Fa.length+Y.length+P.length:=by
  unfold ids a1d;simp only[List.length_append,List.length_map];omega
 have hA:=λX (hb:Below w.heap.size w X)=>c2l x0 x1 x2 x3 c0 c1 c2 c3 E Fa Y P X (hM.at_ hb)
 have ah:Below w.heap.size w (w.alloc (.cells #[.slice x0 E.length c0,.slice x1 Fa.length c1,.slice x2 Y.length c2,.slice x3 P.length c3] 32)):=by exact zC
 have kM:=(Blk.new w #[.slice x0 E.length c0,.slice x1 Fa.length c1,.slice x2 Y.length c2,.slice x3 P.length c3] 32);obtain⟨m0,m1,m2,m3⟩:=(⟨kM.cell 0,kM.cell 1,kM.cell 2,kM.cell 3⟩:(w.alloc (.cells #[.slice x0 E.length c0,.slice x1 Fa.length c1,.slice x2 Y.length c2,.slice x3 P.length c3] 32)).cell? ⟨w.heap.size,0,none⟩=some (.slice x0 E.length c0)/\(w.alloc (.cells #[.slice x0 E.length c0,.slice x1 Fa.length c1,.slice x2 Y.length c2,.slice x3 P.length c3] 32)).cell? ⟨w.heap.size,1,none⟩=some (.slice x1 Fa.length c1)/\(w.alloc (.cells #[.slice x0 E.length c0,.slice x1 Fa.length c1,.slice x2 Y.length c2,.slice x3 P.length c3] 32)).cell? ⟨w.heap.size,2,none⟩=some (.slice x2 Y.length c2)/\(w.alloc (.cells #[.slice x0 E.length c0,.slice x1 Fa.length c1,.slice x2 Y.length c2,.slice x3 P.length c3] 32)).cell? ⟨w.heap.size,3,none⟩=some (.slice x3 P.length c3));have hA1:=hA _ ah;clear hA;go_enter func38,ntmps38;go_upto_region 1 with fail;obtain⟨W1,ao⟩:=zE (w.alloc (.cells #[.slice x0 E.length c0,.slice x1 Fa.length c1,.slice x2 Y.length c2,.slice x3 P.length c3] 32));rw[ao]at hA1 m0 m1 m2 m3 ah ⊢;clear ao kM;have aH:=ah.size;go_upto_region 2 with(first
  |(go_at_call 71;(with_reducible refine hA1.mono ?_);rintro e W2⟨u,rfl,aL,aq⟩))
 have bn:=aq.size;have hS:=b6e _ u _ W2 aL xM;go_upto_region 3 with(first
  |(go_at_call 72;(with_reducible refine hS.mono ?_);rintro e W3⟨rfl,jV,b9⟩))
 have hC:=a9k _ u _ W3 jV (by rw[(a1g _).length_eq];omega);go_wp2_with (first
  |(go_at_call 73;(with_reducible refine hC.mono ?_);rintro e W4⟨a,c,rfl,bh⟩))
 go_ret;have bO:=b6d _ (b4e (ids (a1d E Fa Y P)));rw[(a1g _).length_eq,hlen,(a1g _).nodup_iff]at bO;have hle:(Lib.compact (sortI (ids (a1d E Fa Y P)))).length<=4000:=by
  unfold Lib.compact compactUpTo;rw[List.length_map];refine Nat.le_trans (List.length_filter_le _ _) ?_;rw[List.length_range,(a1g _).length_eq];omega
 exact⟨_,_,_,rfl,hle,bO,ah.trans (((aq.trans (b9)).trans (bh)).mono xM)⟩
end
section
open Go Go.RowKit Go.Shelf Go.Lib
def a7l (m:Mp):Bool:=decide (ids m).Nodup
def FPln (BM:Nat)(x0 x1 x2 x3:Option Addr)(k0 k1 k2 k3 c0 c1 c2 c3:Nat)(r:Bool)(i:Nat)(v:Vu)(w:Wd):Prop :=
 match i with
 |0=>v= .agg #[.slice x0 k0 c0,.slice x1 k1 c1,.slice x2 k2 c2,.slice x3 k3 c3]
 |1=>∃a n c,v= .slice a n c/\n<=4000/\(n=k0+k1+k2+k3↔r=true)
 |2=>∃n:Nat,v= .int .i64 (n:Nat)/\n<=4000/\(n=k0+k1+k2+k3↔r=true)
 |3=>v= .pointer (some ⟨BM,0,none⟩)
 |4=>v= .slice x0 k0 c0
 |5=>v= .int .i64 (k0:Nat)
 |6=>v= .pointer (some ⟨BM,1,none⟩)
 |7=>v= .slice x1 k1 c1
 |8=>v= .int .i64 (k1:Nat)
 |9=>v= .int .i64 ((k0:Nat)+(k1:Nat))
 |10=>v= .pointer (some ⟨BM,2,none⟩)
 |11=>v= .slice x2 k2 c2
 |12=>v= .int .i64 (k2:Nat)
 |13=>v= .int .i64 (((k0:Nat)+(k1:Nat))+(k2:Nat))
 |14=>v= .pointer (some ⟨BM,3,none⟩)
 |15=>v= .slice x3 k3 c3
 |16=>v= .int .i64 (k3:Nat)
 |17=>v= .int .i64 ((((k0:Nat)+(k1:Nat))+(k2:Nat))+(k3:Nat))
 |18=>v= .bool r
 |_=>False
theorem FPln.kept {BM:Nat}{x0 x1 x2 x3:Option Addr}{k0 k1 k2 k3 c0 c1 c2 c3:Nat}{r:Bool}{i:Nat}{v:Vu}{w w':Wd}(h:FPln BM x0 x1 x2 x3 k0 k1 k2 k3 c0 c1 c2 c3 r i v w)(hg:Below w.heap.size w w'):FPln BM x0 x1 x2 x3 k0 k1 k2 k3 c0 c1 c2 c3 r i v w':=by
 unfold FPln at *;split at h
 all_goals first|exact h|(exact h)
theorem b6f (x0 x1 x2 x3:Option Addr)(c0 c1 c2 c3:Nat)(E:List Eg)(Fa:List Fc)(Y:List Wq)(P:List Pc)(w:Wd)(hM:MapV w.heap.size w (.slice x0 E.length c0) (.slice x1 Fa.length c1) (.slice x2 Y.length c2) (.slice x3 P.length c3) E Fa Y P) :
 Zc prog 10 #[.agg #[.slice x0 E.length c0,.slice x1 Fa.length c1,.slice x2 Y.length c2,.slice x3 P.length c3]] w (.bool (a7l (a1d E Fa Y P))):=by
 have an:=hM.ne;have bZ:=hM.nf;have je:=hM.nw;have iK:=hM.np;obtain⟨r,hr⟩:=zE (a7l (a1d E Fa Y P));have rN:∀X (hb:Below w.heap.size w X),Calls prog 38 #[.agg #[.slice x0 E.length c0,.slice x1 Fa.length c1,.slice x2 Y.length c2,.slice x3 P.length c3]] X λe w'=>∃a n c,e= .returned (.slice a n c)/\n<=4000/\(n=E.length+Fa.length+Y.length+P.length↔r=true)/\Below X.heap.size X w':=λX hb=>by
  refine(c6j x0 x1 x2 x3 c0 c1 c2 c3 E Fa Y P X (hM.at_ hb)).mono ?_;rintro e w'⟨a,n,c,h1,h2,h3,h4⟩;refine⟨a,n,c,h1,h2,?_,h4⟩;rw[h3,<-hr];unfold a7l;rw[decide_eq_true_eq]
 rw[hr];clear hr;go_enter func10,ntmps10;go_upto_region 1 with fail;have kM:=(Blk.new w #[.slice x0 E.length c0,.slice x1 Fa.length c1,.slice x2 Y.length c2,.slice x3 P.length c3] 32);have ah:Below w.heap.size w (w.alloc (.cells #[.slice x0 E.length c0,.slice x1 Fa.length c1,.slice x2 Y.length c2,.slice x3 P.length c3] 32)):=by exact zC
 obtain⟨W1,ao⟩:=zE ((w.alloc (.cells #[.slice x0 E.length c0,.slice x1 Fa.length c1,.slice x2 Y.length c2,.slice x3 P.length c3] 32)));rw[ao]at kM ah ⊢;clear ao;have aH:=ah.size;have bR:NmR W1.heap.size w.heap.size W1 x0 x1 x2 x3 c0 c1 c2 c3 E Fa Y P W1:=⟨kM,hM.up ah,yR _,zR _ _⟩;have hI:∀X (hb:Below W1.heap.size W1 X),_:=λX hb=>rN X (ah.trans (hb.mono aH))
 clear rN;obtain⟨BM,bu⟩:=zE w.heap.size;rw[bu]at bR ⊢;refine Go.wp_region_rel 19 zM zM (λ_ W=>NmR W1.heap.size BM W1 x0 x1 x2 x3 c0 c1 c2 c3 E Fa Y P W) (λw w'=>Below w.heap.size w w') (FPln BM x0 x1 x2 x3 E.length Fa.length Y.length P.length c0 c1 c2 c3 r) (λ_ _ _ _ h g=>h.kept g) (bR.up (zR _ _).drew) ?step1 ?tail1
 case step1 =>
  obtain⟨k0,e0⟩:=zE E.length;obtain⟨k1,e1⟩:=zE Fa.length;obtain⟨k2,e2⟩:=zE Y.length;obtain⟨k3,e3⟩:=zE P.length;rw[e0,e1,e2,e3]at hI ⊢;rw[e0]at an;rw[e1]at bZ;rw[e2]at je;rw[e3]at iK;clear hM bR kM ah aH bu;have bB:IntKind.i64.wrap ((k0:Int)+k1)=(k0:Int)+k1:=a0p xM xM;have dQ:IntKind.i64.wrap ((k0:Int)+k1+k2)=(k0:Int)+k1+k2:=a0p xM xM;have gp:IntKind.i64.wrap ((k0:Int)+k1+k2+k3)=(k0:Int)+k1+k2+k3:=a0p xM xM;intro i o hi ho c bb W hc hM hA hD K hK;match i,hi,ho with
  |0,_,ho =>
   exact yad
  |1,_,ho =>
   cases ho;have f3:=a0a (v:= .agg #[.slice x0 k0 c0,.slice x1 k1 c1,.slice x2 k2 c2,.slice x3 k3 c3]) (a0b hD 0 3 zM rfl rfl);go_simp;refine(hI W hM.bel).mono ?_;rintro e W'⟨a,n,c,rfl,hn,hr,hb⟩;go_simp;exact hK _ W' ⟨a,n,c,rfl,hn,hr⟩ hb (hM.up hb)
  |2,_,ho =>
   cases ho;have f4:=a0b hD 1 4 zM rfl rfl;obtain⟨a,n,c,e4,hn,hr⟩:=f4;have f4:=a0a e4;go_simp;exact hK _ W ⟨n,rfl,hn,hr⟩ (zR _ _) hM
  |3,_,ho =>
   cases ho;have f1:=a0a (v:= .pointer (some ⟨BM,0,none⟩)) (hA.at_ (k:=1) zM);go_simp;exact hK (.pointer (some ⟨BM,0,none⟩)) W rfl (zR _ _) hM
  |4,_,ho =>
   cases ho;have f6:=a0a (v:= .pointer (some ⟨BM,0,none⟩)) (a0b hD 3 6 zM rfl rfl);have z0:W.cell? ⟨BM,0,none⟩=some (.slice x0 k0 c0):=e0▸hM.b.cell 0;go_simp;exact hK (.slice x0 k0 c0) W rfl (zR _ _) hM
  |5,_,ho =>
   cases ho;have f7:=a0a (v:= .slice x0 k0 c0) (a0b hD 4 7 zM rfl rfl);go_simp;exact hK (.int .i64 (k0:Nat)) W rfl (zR _ _) hM
  |6,_,ho =>
   cases ho;have f1:=a0a (v:= .pointer (some ⟨BM,0,none⟩)) (hA.at_ (k:=1) zM);go_simp;exact hK (.pointer (some ⟨BM,1,none⟩)) W rfl (zR _ _) hM
  |7,_,ho =>
   cases ho;have f9:=a0a (v:= .pointer (some ⟨BM,1,none⟩)) (a0b hD 6 9 zM rfl rfl);have z0:W.cell? ⟨BM,1,none⟩=some (.slice x1 k1 c1):=e1▸hM.b.cell 1;go_simp;exact hK (.slice x1 k1 c1) W rfl (zR _ _) hM
  |8,_,ho =>
   cases ho;have f10:=a0a (v:= .slice x1 k1 c1) (a0b hD 7 10 zM rfl rfl);go_simp;exact hK (.int .i64 (k1:Nat)) W rfl (zR _ _) hM
  |9,_,ho =>
   cases ho;have f8:=a0a (v:= .int .i64 (k0:Nat)) (a0b hD 5 8 zM rfl rfl);have f11:=a0a (v:= .int .i64 (k1:Nat)) (a0b hD 8 11 zM rfl rfl);go_simp;exact hK (.int .i64 ((k0:Nat)+(k1:Nat))) W rfl (zR _ _) hM
  |10,_,ho =>
   cases ho;have f1:=a0a (v:= .pointer (some ⟨BM,0,none⟩)) (hA.at_ (k:=1) zM);go_simp;exact hK (.pointer (some ⟨BM,2,none⟩)) W rfl (zR _ _) hM
  |11,_,ho =>
   cases ho;have f13:=a0a (v:= .pointer (some ⟨BM,2,none⟩)) (a0b hD 10 13 zM rfl rfl);have z0:W.cell? ⟨BM,2,none⟩=some (.slice x2 k2 c2):=e2▸hM.b.cell 2;go_simp;exact hK (.slice x2 k2 c2) W rfl (zR _ _) hM
  |12,_,ho =>
   cases ho;have f14:=a0a (v:= .slice x2 k2 c2) (a0b hD 11 14 zM rfl rfl);go_simp;exact hK (.int .i64 (k2:Nat)) W rfl (zR _ _) hM
  |13,_,ho =>
   cases ho;have f12:=a0a (v:= .int .i64 ((k0:Nat)+(k1:Nat))) (a0b hD 9 12 zM rfl rfl);have f15:=a0a (v:= .int .i64 (k2:Nat)) (a0b hD 12 15 zM rfl rfl);go_simp;exact hK (.int .i64 (((k0:Nat)+(k1:Nat))+(k2:Nat))) W rfl (zR _ _) hM
  |14,_,ho =>
   cases ho;have f1:=a0a (v:= .pointer (some ⟨BM,0,none⟩)) (hA.at_ (k:=1) zM);go_simp;exact hK (.pointer (some ⟨BM,3,none⟩)) W rfl (zR _ _) hM
  |15,_,ho =>
   cases ho;have f17:=a0a (v:= .pointer (some ⟨BM,3,none⟩)) (a0b hD 14 17 zM rfl rfl);have z0:W.cell? ⟨BM,3,none⟩=some (.slice x3 k3 c3):=e3▸hM.b.cell 3;go_simp;exact hK (.slice x3 k3 c3) W rfl (zR _ _) hM
  |16,_,ho =>
   cases ho;have f18:=a0a (v:= .slice x3 k3 c3) (a0b hD 15 18 zM rfl rfl);go_simp;exact hK (.int .i64 (k3:Nat)) W rfl (zR _ _) hM
  |17,_,ho =>
   cases ho;have f16:=a0a (v:= .int .i64 (((k0:Nat)+(k1:Nat))+(k2:Nat))) (a0b hD 13 16 zM rfl rfl);have f19:=a0a (v:= .int .i64 (k3:Nat)) (a0b hD 16 19 zM rfl rfl);go_simp;exact hK (.int .i64 ((((k0:Nat)+(k1:Nat))+(k2:Nat))+(k3:Nat))) W rfl (zR _ _) hM
  |18,_,ho =>
   cases ho;have f5:=a0b hD 2 5 zM rfl rfl;have f20:=a0a (v:= .int .i64 ((((k0:Nat)+(k1:Nat))+(k2:Nat))+(k3:Nat))) (a0b hD 17 20 zM rfl rfl);obtain⟨n,e5,hn,hr⟩:=f5;have f5:=a0a e5;have hq:((n:Int)==(k0:Int)+k1+k2+k3)=r:=by rw[Bool.eq_iff_iff,<-hr,beq_iff_eq];omega
   go_simp;exact hK _ W rfl (zR _ _) hM
  |i+19,hi,_=>exact absurd hi xM
 case tail1 =>
  intro bb W' au hA aa;have h21:=(show bb.eval (.tmp 21)= .bool r from aa 18 xM _ _ rfl rfl);have az:=hA.frame [T,T,T,F,F,F,F,F,F,F,F,F,F,F,F,F,F,F,F,F,F,F] _ rfl zM;clear aa hA;obtain⟨f,hf⟩:=zDt bb;have g21:f 21= .bool r:=by rw[<-hf,<-h21];rfl
  rw[hf]at az;clear hf h21;subst az;simp only[a1j,g21,Nat.reduceAdd];clear g21;simp only[zU];go_wp2_with fail;go_ret;exact⟨rfl,ah.trans (au.bel.mono aH)⟩
end
end Go.Proofs.YteijfnkidefekaaGreat
