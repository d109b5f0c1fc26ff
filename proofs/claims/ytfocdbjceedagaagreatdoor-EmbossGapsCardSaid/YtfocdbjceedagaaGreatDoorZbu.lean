/-
  Parts.
-/
import Derived.Test.YtfocdbjceedagaaGreatDoorZbs
set_option linter.unusedVariables false
set_option linter.unusedSimpArgs false
set_option maxRecDepth 100000
namespace Go.Proofs.YtfocdbjceedagaaGreatDoor
open Tryz
section
open Go.RowKit Go.Shelf
section
variable {P:Program}{W:World}{r:Reach}{base:Nat}{t:TypeId}{v:Value}
theorem cell_int30 (ht:P.underlying t=some (.int .i64))(h:Cell.okWide P W r base t v):∃x,v= .int .i64 x∧fits x:=by
 unfold Cell.okWide at h
 rw[ht] at h
 cases v <;> simp[Cell.ok,ht] at h
 rename_i k n
 obtain⟨rfl,h2⟩:=h
 refine⟨n,rfl,?_⟩
 simp[IntKind.has,IntKind.min,IntKind.max,IntKind.signed,IntKind.bits] at h2
 exact⟨by omega,by omega⟩
theorem cell_u8 (ht:P.underlying t=some (.int .u8))(h:Cell.okWide P W r base t v):∃x,v= .int .u8 x∧0≤x∧x≤255:=by
 unfold Cell.okWide at h
 rw[ht] at h
 cases v <;> simp[Cell.ok,ht] at h
 rename_i k n
 obtain⟨rfl,h2⟩:=h
 refine⟨n,rfl,?_⟩
 simp[IntKind.has,IntKind.min,IntKind.max,IntKind.signed,IntKind.bits] at h2
 exact⟨by omega,by omega⟩
theorem agg_cells30 (hrow:(match P.underlying t with|some (.struct _)|some (.array _ _)=>true|_=>false)=true)(h:Value.okWide P W r base t v):∃cs,v= .agg cs∧cs.size=P.cellsOf t∧Row.okWide P W r base t cs:=by
 unfold Value.okWide at h
 split at hrow <;> simp_all
end
section
variable {H:Type}{enc:TypeId×Value→H}{P:Program}{W:World}{base:Nat}{sp:Nat→Bool}{hd:Bool}{t e:TypeId}{v:Value}
theorem trodAll_head {ts:List TypeId}{vs:List Value}{ds:List (DataW H)}{ps:List MemPlace}(h:DataW.TrodAll enc P W base sp hd (t::ts) (v::vs) ds ps):∃d p,DataW.Trod enc P W base sp hd t v d p:=by
 cases ds with
 |nil=>exact h.elim
 |cons d ds=>obtain⟨p,q,h1,-,-⟩:=h;exact⟨d,p,h1⟩
theorem mat_cell {t2:TypeId}{fuel:Nat}{x:DataW H×List MemPlace}(ht2:P.underlying t2=some (.slice t))(hc2:P.cellsOf t=1)(ht:P.underlying t=some (.slice e))(he:P.underlying e=some (.int .i64))(hc:P.cellsOf e=1)
 (h:DataW.trod enc P W base sp hd fuel t2 [v]=some x):∃rows,Mat W.heap.size W v rows∧LenOk rows.length:=by
 have hv:∀cs,v≠.agg cs:=by
  rcases Go.Deep.open_slice1 ht2 hc2 h with ⟨h1,-⟩|⟨a,len,cap,m,n,V,D,Pl,h1,-⟩
  ·obtain rfl:v= .slice none 0 0:=by simpa using h1
   intro cs hcs
   cases hcs
  ·obtain rfl:v= .slice (some a) len cap:=by simpa using h1
   intro cs hcs
   cases hcs
 have hcs:v.cells.toList=[v]:=by cases v <;> first|rfl|exact absurd rfl (hv _)
 exact mat_arg ht2 hc2 ht he hc hv ⟨x.1,x.2,fuel,by rw[hcs];exact h⟩
end
theorem case_arg {H:Type}{enc:TypeId×Value→H}{W:World}{r:Reach}{base base2:Nat}{sp:Nat→Bool}{hd:Bool}{v:Value}(h:Value.okWide prog W r base 30 v)(ht:∃d p,DataW.Trod enc prog W base2 sp hd 30 v d p) :
 ∃rv rows q0 q1 q2 b0 b1 b2 b3 raw,v= .agg (caseC rv q0 q1 q2 b0 b1 b2 b3 raw)∧Mat W.heap.size W rv rows∧(fits q0∧fits q1∧fits q2)∧((0≤b0∧b0≤255)∧(0≤b1∧b1≤255)∧(0≤b2∧b2≤255)∧(0≤b3∧b3≤255))∧fits raw.ax∧fits raw.ay:=by
 obtain⟨cs,rfl,hn,ts,hts,-,hcell⟩:=agg_cells30 (by kernel_rfl) h
 obtain rfl:ts=[22,3,3,3,5,5,5,5,3,3,3,3,3,3]:=Option.some.inj (hts.symm.trans (by kernel_rfl))
 have hn':cs.size=14:=hn.trans (by kernel_rfl)
 obtain⟨l⟩:=cs
 match l,hn',hcell,ht with
 |[c0,c1,c2,c3,c4,c5,c6,c7,c8,c9,c10,c11,c12,c13],_,hcell,⟨d,p,fuel,ht⟩ =>
  have hfs:prog.underlying 30=some (.struct (prog.fieldsOf 30)):=by kernel_rfl
  obtain⟨xs,n,-,-,hl,hxl,hf'⟩:=DataW.trod_struct hfs ht
  have hf0:(prog.fieldsOf 30)[0]?.map (fun f=>(f.offset,f.type))=some (0,22):=by kernel_rfl
  obtain⟨f,hfe,hft⟩:=Option.map_eq_some_iff.1 hf0
  simp only[Prod.mk.injEq] at hft
  have h0':=hf' 0 f hfe
  rw[hft.1,hft.2,show prog.cellsOf 22=1 from by kernel_rfl] at h0'
  have hsz:(prog.fieldsOf 30).size=4:=by kernel_rfl
  rw[List.getElem?_eq_getElem (by rw[hxl,hsz];decide)] at h0'
  obtain⟨rows,hM,-⟩:=mat_cell (t2:=22) (t:=51) underlying22 (by kernel_rfl) underlying51 underlying3 (by kernel_rfl) (v:=c0) h0'
  clear h0' hf' hxl hl ht hfs hfe hf0 hft hsz h
  obtain⟨u0,k0,g0⟩:=hcell 0 c0 rfl
  obtain⟨u1,k1,g1⟩:=hcell 1 c1 rfl
  obtain⟨u2,k2,g2⟩:=hcell 2 c2 rfl
  obtain⟨u3,k3,g3⟩:=hcell 3 c3 rfl
  obtain⟨u4,k4,g4⟩:=hcell 4 c4 rfl
  obtain⟨u5,k5,g5⟩:=hcell 5 c5 rfl
  obtain⟨u6,k6,g6⟩:=hcell 6 c6 rfl
  obtain⟨u7,k7,g7⟩:=hcell 7 c7 rfl
  obtain⟨u8,k8,g8⟩:=hcell 8 c8 rfl
  obtain⟨u9,k9,g9⟩:=hcell 9 c9 rfl
  obtain⟨u10,k10,g10⟩:=hcell 10 c10 rfl
  obtain⟨u11,k11,g11⟩:=hcell 11 c11 rfl
  obtain⟨u12,k12,g12⟩:=hcell 12 c12 rfl
  obtain⟨u13,k13,g13⟩:=hcell 13 c13 rfl
  cases k0;cases k1;cases k2;cases k3;cases k4;cases k5;cases k6;cases k7;cases k8;cases k9;cases k10;cases k11;cases k12;cases k13
  obtain⟨q0,rfl,f1⟩:=cell_int30 underlying3 g1
  obtain⟨q1,rfl,f2⟩:=cell_int30 underlying3 g2
  obtain⟨q2,rfl,f3⟩:=cell_int30 underlying3 g3
  obtain⟨b0,rfl,f4⟩:=cell_u8 underlying5 g4
  obtain⟨b1,rfl,f5⟩:=cell_u8 underlying5 g5
  obtain⟨b2,rfl,f6⟩:=cell_u8 underlying5 g6
  obtain⟨b3,rfl,f7⟩:=cell_u8 underlying5 g7
  obtain⟨r8,rfl,f8⟩:=cell_int30 underlying3 g8
  obtain⟨r9,rfl,f9⟩:=cell_int30 underlying3 g9
  obtain⟨r10,rfl,f10⟩:=cell_int30 underlying3 g10
  obtain⟨r11,rfl,f11⟩:=cell_int30 underlying3 g11
  obtain⟨r12,rfl,f12⟩:=cell_int30 underlying3 g12
  obtain⟨r13,rfl,f13⟩:=cell_int30 underlying3 g13
  exact⟨c0,rows,q0,q1,q2,b0,b1,b2,b3,⟨r8,r9,r10,r11,r12,r13⟩,rfl,hM,⟨f1,f2,f3⟩,⟨f4,f5,f6,f7⟩,f8,f9⟩
theorem laidMet.tl {P:Program}{W:World}{a:String×DataW Unit}{rest:List (String×DataW Unit)}(h:laidMet P (a::rest) W):laidMet P rest W:=by
 obtain⟨ps,hl,hn,hb⟩:=h
 obtain⟨n,d⟩:=a
 obtain⟨g,t,cs,fuel,p,q,-,-,-,-,hr,rfl⟩:=hl
 exact⟨q,hr,(List.nodup_append.1 hn).2.1,fun b off hm=>hb b off (List.mem_append_right _ hm)⟩
end
end Go.Proofs.YtfocdbjceedagaaGreatDoor
