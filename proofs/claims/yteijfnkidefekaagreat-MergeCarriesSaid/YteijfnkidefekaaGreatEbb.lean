/-
  Parts.
-/
import Derived.Test.YteijfnkidefekaaGreatEay
import Derived.Test.YteijfnkidefekaaGreatEaz
import Derived.Test.YteijfnkidefekaaGreatEba
import Derived.Test.YteijfnkidefekaaGreatEbz
import Derived.Test.YteijfnkidefekaaGreatEca
set_option linter.unusedVariables false
set_option linter.unusedSimpArgs false
set_option linter.unusedSectionVars false
set_option maxHeartbeats 60000000
set_option maxRecDepth 100000
namespace Go.Proofs.YteijfnkidefekaaGreat
open Tryz
section
open Go Go.RowKit Go.Shelf
theorem odd10_anyK16.zCase {P:Prop}(h:P:=by
 obtain⟨q,hq,IZ⟩:∃q:Nat,Int.tmod (n:Int) 4=(q:Int)/\q<4:=⟨n % 4,by rw[Int.tmod_eq_emod_of_nonneg xM];omega,xM⟩;have lu:(n:Int) % 4=(q:Int):=by rw[<-hq,Int.tmod_eq_emod_of_nonneg xM]
 have Qq:IntKind.i64.wrap (79+(q:Int))=((79+q:Nat):Int):=by rw[a0p xM xM];omega
 clear b0 b1 b2 b3;go_wp2_with fail;go_loopw [9] (λii wr=>∃(i:Nat) (iJ:Vu) (l':List Pc),i<=79+q/\ii= .int .i64 (i:Nat)/\OO w BO BR BQ BM q0 q1 q2 M0 S9 wr (.slice rO ne rP) (.slice vZ nf gJ) (.slice iO nw gN) iJ ne nf nw l'/\l'.length=l.length+i/\OddR ne nf nw l ne nf nw l'/\a5i l'=a5i l) (λii _=>79+q-(intOf ii).toNat)
 case atStart=>exact⟨0,_,l,Nat.zero_le _,rfl,hO,rfl,OddR.refl _ _ _ _,rfl⟩
 case round =>
  obtain⟨i,iJ,l',hi,rfl,eV,dT,hR,nQ⟩:=hrel;by_cases ab:i<79+q
  ·have aj:(i:Int)<((79+q:Nat):Int):=xM
   have tB:IntKind.i64.wrap (1000+(i:Int))=1000+(i:Int):=a0p xM xM;have DA:IntKind.i64.wrap ((i:Int)+1)=((i+1:Nat):Int):=by rw[a0p xM xM];omega
   have fx:a0l (90+(i:Int) % 3):=⟨xM,xM⟩;have Qr:l'.length<=2000:=xM;replace dT:=Lib.hid dT;obtain⟨pa,pc,rfl,AZ⟩:=(a0g a2n eV.p.row xM).form;obtain⟨d0,d1,d2,d3⟩:=a1o eV.p.b.b0;go_wp2_with (first
    |(at_builtin;refine El.pushO a2n b9t qM _ _ qM qM eV.p.row ⟨1000+(i:Int),90+(i:Int) % 3,110,⟨#[116,114,101,101]⟩,⟨#[]⟩,1,1⟩ qM rfl eV.p.b.size xM ?_;intro v9 w9 bG kJ aU eS;have cV:=eV.p.more bG aU kJ;have d3:=cV.b.b0.cell 3;have z3:=cV.b.b0.frozen 3;obtain⟨a9,c9,rfl,-⟩:=(a0g a2n bG (by rw[List.length_append];simp;omega)).form))
   go_roundw
   case rel =>
    refine⟨i+1,_,_,xM,by go_num,⟨cV.put rfl vM,eV.oe,eV.of,eV.ow⟩,by rw[List.length_append,dT.out];rfl,⟨xM,xM,xM,by rw[List.length_append,dT.out];simp;omega,by rw[a8r,nQ];exact Nat.le_succ _,λh p hp=> ?_,λh p hp=> ?_⟩,by rw[a8r,nQ];rfl⟩
    ·rcases List.mem_append.1 hp with h1|h1
     ·exact hR.ok h p h1
     ·rw[List.mem_singleton]at h1
      subst h1;exact⟨⟨by show _<=1000+(i:Int);omega,by show 1000+(i:Int)<=_;omega⟩,fx,(by decide:a0l 110),(by decide:a0l 1),(by decide:0<=1000)⟩
    ·rcases List.mem_append.1 hp with h1|h1
     ·exact hR.cl h p h1
     ·rw[List.mem_singleton]at h1
      subst h1;exact(by decide:4<=1000)
   case measure=>simp[intOf];omega
  ·obtain rfl:i=79+q:=xM
   have aT:¬((79+q:Nat):Int)<((79+q:Nat):Int):=xM;go_wp2_with fail;go_meet;exact⟨_,_,_,_,_,_,_,_,_,eV,hR⟩):P:=h
open odd10_anyK16 in
theorem b1g :a0z 16:=a1c
theorem c1t (U:BS)(w:Wd)(ev fv wv pv:Vu)(ne nf nw:Nat)(l:List Pc)(hI:MapI U w ev fv wv pv ne nf nw l)(q0 q1 q2:Int)(cN:a0l q0)(cH:a0l q1)(cI:a0l q2) :
 Calls prog 46 #[.agg #[ev,fv,wv,pv],.agg (qC q0 q1 q2)] w λe w'=>∃S' iH iI mD iJ ne' nf' nw' l',e= .returned (.agg #[iH,iI,mD,iJ])/\MapR w.heap.size S' w' iH iI mD iJ ne' nf' nw' l'/\OddR ne nf nw l ne' nf' nw' l'/\Ev noB noB w S' w':=by
 obtain⟨r,hr,yz⟩:∃n:Nat,q0 % 17=(n:Int)/\n<17:=⟨(q0 % 17).toNat,xM,xM⟩;match r,yz with
 |0,_=>exact b3k U w ev fv wv pv ne nf nw l hI q0 q1 q2 cN cH cI hr
 |1,_=>exact b3l U w ev fv wv pv ne nf nw l hI q0 q1 q2 cN cH cI hr
 |2,_=>exact b3m U w ev fv wv pv ne nf nw l hI q0 q1 q2 cN cH cI hr
 |3,_=>exact b3n U w ev fv wv pv ne nf nw l hI q0 q1 q2 cN cH cI hr
 |4,_=>exact b3o U w ev fv wv pv ne nf nw l hI q0 q1 q2 cN cH cI hr
 |5,_=>exact b3p U w ev fv wv pv ne nf nw l hI q0 q1 q2 cN cH cI hr
 |6,_=>exact b3q U w ev fv wv pv ne nf nw l hI q0 q1 q2 cN cH cI hr
 |7,_=>exact b3r U w ev fv wv pv ne nf nw l hI q0 q1 q2 cN cH cI hr
 |8,_=>exact b3s U w ev fv wv pv ne nf nw l hI q0 q1 q2 cN cH cI hr
 |9,_=>exact b3t U w ev fv wv pv ne nf nw l hI q0 q1 q2 cN cH cI hr
 |10,_=>exact b1a U w ev fv wv pv ne nf nw l hI q0 q1 q2 cN cH cI hr
 |11,_=>exact b1b U w ev fv wv pv ne nf nw l hI q0 q1 q2 cN cH cI hr
 |12,_=>exact b1c U w ev fv wv pv ne nf nw l hI q0 q1 q2 cN cH cI hr
 |13,_=>exact b1d U w ev fv wv pv ne nf nw l hI q0 q1 q2 cN cH cI hr
 |14,_=>exact b1e U w ev fv wv pv ne nf nw l hI q0 q1 q2 cN cH cI hr
 |15,_=>exact b1f U w ev fv wv pv ne nf nw l hI q0 q1 q2 cN cH cI hr
 |16,_=>exact b1g U w ev fv wv pv ne nf nw l hI q0 q1 q2 cN cH cI hr
 |r+17,h=>omega
end
end Go.Proofs.YteijfnkidefekaaGreat
