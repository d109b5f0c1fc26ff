/-
  Parts.
-/
import Derived.Test.YtfocdbjceedagaaGreatDoorXar
set_option linter.unusedVariables false
set_option linter.unusedSimpArgs false
set_option maxHeartbeats 8000000
set_option maxRecDepth 100000
namespace Go.Proofs.YtfocdbjceedagaaGreatDoor
open Tryz
section
open Go.RowKit Go.Shelf
attribute [local go_sem] Oper.semAt_some
def zOk (ct:CT)(u:Value):Bool :=
 match u with
 |.int .i64 n=>ct.k==0&&n==0
 |.string s=>(ct.k==1||ct.k==4)&&s.size==0
 |.bool _=>ct.k==2
 |.slice none 0 0=>ct.k==3
 |_=>false
theorem d2p {ct:CT}{u:Value}(h:zOk ct u=true)(S:BS)(W:World):ct.ok S W u:=by
 obtain⟨k,e⟩:=ct;unfold zOk at h;split at h
 ·simp only[Bool.and_eq_true,beq_iff_eq] at h
  obtain⟨rfl,rfl⟩:=h;exact⟨by simp,fun _=>⟨0,rfl,⟨by decide,by decide⟩⟩,fun e=>by simp at e,fun e=>by simp at e,fun e=>by simp at e,fun e=>by simp at e⟩
 ·rename_i s
  simp only[Bool.and_eq_true,Bool.or_eq_true,beq_iff_eq] at h;obtain⟨rfl|rfl,h⟩:=h
  ·exact⟨by simp,fun e=>by simp at e,fun _=>⟨s,rfl,by omega⟩,fun e=>by simp at e,fun e=>by simp at e,fun e=>by simp at e⟩
  ·exact⟨by simp,fun e=>by simp at e,fun e=>by simp at e,fun e=>by simp at e,fun e=>by simp at e,fun _=>⟨s,rfl⟩⟩
 ·rename_i b
  simp only[beq_iff_eq] at h;subst h;exact⟨by simp,fun e=>by simp at e,fun e=>by simp at e,fun _=>⟨b,rfl⟩,fun e=>by simp at e,fun e=>by simp at e⟩
 ·simp only[beq_iff_eq] at h
  subst h;exact⟨by simp,fun e=>by simp at e,fun e=>by simp at e,fun e=>by simp at e,fun _=>⟨0,by omega,none,0,rfl,yR _,.inl ⟨rfl,rfl⟩⟩,fun e=>by simp at e⟩
 ·cases h
def d4v (e:TypeId)(z:Value):Bool:=(List.range (a6y e)).all fun j=>match z.cells[j]?,(a2r e)[j]? with|some u,some ct=>zOk ct u|_,_=>false
theorem d1f {e:TypeId}{z:Value}(h:d4v e z=true)(S:BS)(W:World)(j:Nat)(u:Value)(ct:CT)(h1:z.cells[j]? =some u)(h2:(a2r e)[j]? =some ct):ct.ok S W u:=by
 have hj:j<a6y e:=(List.getElem?_eq_some_iff.1 h2).1;have h3:=List.all_eq_true.1 h j (List.mem_range.2 hj);rw[h1,h2] at h3;exact d2p h3 S W
theorem b9e {e:TypeId}{s bytes:Nat}{z:Value}(h:(prog.info? e).map (fun i=>(i.zero,i.size,i.bytes))=some (some z,s,bytes))(h1:a6y e=s)(h2:0<s)(h3:bytes≤1000)(h4:z.cells.size=s)(h5:d4v e z=true):ET e s:=by
 obtain⟨i,hi,hz,hs,hb⟩:=info_parts h;exact⟨h1,h2,i,z,hi,hz,hs,by omega,h4,d1f h5⟩
abbrev edZ:Array Value:= #[.int .i64 0,.slice none 0 0,.int .i64 0,.int .i64 0]
abbrev faZ:Array Value:= #[.int .i64 0,.string ⟨#[]⟩,.string ⟨#[]⟩,.int .i64 0,.int .i64 0]
abbrev d5a:Array Value:= #[.int .i64 0,.slice none 0 0,.int .i64 0,.string ⟨#[]⟩,.string ⟨#[]⟩,.bool false,.int .i64 0,.int .i64 0]
theorem a2t:ET 3 1:=b9e (z:= .int .i64 0) (bytes:=8) (by kernel_rfl) rfl (by omega) (by omega) rfl (by kernel_rfl)
theorem a1k:ET 26 2:=b9e (z:= .agg #[.int .i64 0,.int .i64 0]) (bytes:=16) (by kernel_rfl) rfl (by omega) (by omega) rfl (by kernel_rfl)
theorem b4c:ET 245 3:=b9e (z:= .agg #[.int .i64 0,.int .i64 0,.int .i64 0]) (bytes:=24) (by kernel_rfl) rfl (by omega) (by omega) rfl (by kernel_rfl)
theorem a1u:ET 206 4:=b9e (z:= .agg edZ) (bytes:=48) (by kernel_rfl) rfl (by omega) (by omega) rfl (by kernel_rfl)
theorem a7y:ET 249 4:=b9e (z:= .agg edZ) (bytes:=48) (by kernel_rfl) rfl (by omega) (by omega) rfl (by kernel_rfl)
theorem a1m:ET 140 5:=b9e (z:= .agg faZ) (bytes:=56) (by kernel_rfl) rfl (by omega) (by omega) rfl (by kernel_rfl)
theorem a4b:ET 149 8:=b9e (z:= .agg d5a) (bytes:=96) (by kernel_rfl) rfl (by omega) (by omega) rfl (by kernel_rfl)
theorem SL.nil (S:BS)(W:World)(e:TypeId):SL S W e (.slice none 0 0) 0:=⟨none,0,rfl,yR _,.inl ⟨rfl,rfl⟩⟩
theorem SL.blk {S:BS}{W:World}{e:TypeId}{b n:Nat}{c:Array Value}(hb:S b)(hc:Blk W b c e)(hn:n*a6y e≤c.size):SL S W e (.slice (some ⟨b,0,none⟩) n n) n :=
 ⟨_,n,rfl,yR _,.inr ⟨b,0,c,by rw[Nat.zero_mul],hb,hc,by rw[Nat.zero_add];exact hn⟩⟩
theorem SL.some_ {S:BS}{W:World}{e:TypeId}{v:Value}{n:Nat}(h:SL S W e v n)(hn:0<n):∃b off cap,v= .slice (some ⟨b,off,none⟩) n cap∧n≤cap∧S b:=by
 obtain⟨a,cap,rfl,h1,⟨rfl,rfl⟩|⟨b,o,c,rfl,hb,-,-⟩⟩:=h
 ·omega
 ·exact⟨b,_,cap,rfl,h1,hb⟩
theorem SL.form {S:BS}{W:World}{e:TypeId}{v:Value}{n:Nat}(h:SL S W e v n):∃a cap,v= .slice a n cap∧n≤cap:=by
 obtain⟨a,cap,rfl,h1,-⟩:=h;exact⟨a,cap,rfl,h1⟩
theorem SL.cell {S:BS}{W:World}{e:TypeId}{b off n cap s:Nat}(hT:TW S W)(he:ET e s)(h:SL S W e (.slice (some ⟨b,off,none⟩) n cap) n){k:Nat}(hk:k<n)(i:Nat)(ct:CT)(hct:(a2r e)[i]? =some ct) :
 ∃u,W.cell? ⟨b,off+k*s+i,none⟩=some u∧ct.ok S W u:=by
 obtain⟨a,cap',h0,h1,⟨rfl,rfl⟩|⟨b',o,c,rfl,hb,hc,hl⟩⟩:=h
 ·simp at h0
 ·simp only[Value.slice.injEq,Option.some.injEq,Addr.mk.injEq,and_true,true_and] at h0
  obtain⟨⟨rfl,rfl⟩,rfl⟩:=h0;have hs:=he.size;rw[hs] at hl ⊢;obtain⟨c0,e0,hc0,ht⟩:=hT b hb;obtain⟨rfl,rfl⟩:c0=c∧e0=e:=by
   unfold Blk at hc hc0;rw[hc] at hc0
   cases hc0;exact⟨rfl,rfl⟩
  have hi:i<s:=by rw[←hs];exact (List.getElem?_eq_some_iff.1 hct).1
  have hle:(o+k+1)*s≤(o+cap)*s:=Nat.mul_le_mul_right s (by omega);rw[Nat.add_mul,Nat.add_mul,Nat.one_mul] at hle;have hlt:o*s+k*s+i<c0.size:=by omega
  refine⟨c0[o*s+k*s+i],?_,?_⟩
  ·rw[hc.cell,Array.getElem?_eq_getElem hlt]
  ·refine ht (o*s+k*s+i) _ ct (Array.getElem?_eq_getElem hlt) ?_
   rw[hs,←Nat.add_mul,Nat.mul_comm,Nat.mul_add_mod,Nat.mod_eq_of_lt hi];exact hct
theorem SL.store {X S:BS}{W:World}{e:TypeId}{b off n cap s:Nat}(hT:TW S W)(he:ET e s)(h:SL S W e (.slice (some ⟨b,off,none⟩) n cap) n)(k:Nat)(i:Nat)(ct:CT)(hct:(a2r e)[i]? =some ct)(v:Value)(hv:ct.ok S W v) :
 Ev X S W S (W.setCell ⟨b,off+k*s+i,none⟩ v)∧W.frozen? ⟨b,off+k*s+i,none⟩=false:=by
 obtain⟨a,cap',h0,h1,⟨rfl,rfl⟩|⟨b',o,c,rfl,hb,hc,hl⟩⟩:=h
 ·simp at h0
 ·simp only[Value.slice.injEq,Option.some.injEq,Addr.mk.injEq,and_true,true_and] at h0
  obtain⟨⟨rfl,rfl⟩,rfl⟩:=h0;have hs:=he.size;have hi:i<s:=by rw[←hs];exact (List.getElem?_eq_some_iff.1 hct).1
  refine⟨Ev.set hT hb hc _ v (fun ct' h=> ?_),hc.frozen _⟩;rw[hs,←Nat.add_mul,Nat.mul_comm,Nat.mul_add_mod,Nat.mod_eq_of_lt hi,hct] at h
  cases h;exact hv
theorem SL.take {S:BS}{W:World}{e:TypeId}{a:Option Addr}{n cap k:Nat}(h:SL S W e (.slice a n cap) n)(hk:k≤n):SL S W e (.slice a k cap) k:=by
 obtain⟨a',cap',h0,h1,h2⟩:=h
 cases h0;exact⟨a,cap,rfl,by omega,h2⟩
theorem SL.drop {S:BS}{W:World}{e:TypeId}{b off n cap k o2 s:Nat}(hs:a6y e=s)(h:SL S W e (.slice (some ⟨b,off,none⟩) n cap) n)(hk:k≤n)(ho:o2=off+k*s∨(k=cap∧o2=off)):SL S W e (.slice (some ⟨b,o2,none⟩) (n-k) (cap-k)) (n-k):=by
 obtain⟨a',cap',h0,h1,⟨rfl,rfl⟩|⟨b',o,c,rfl,hb,hc,hl⟩⟩:=h
 ·simp at h0
 ·simp only[Value.slice.injEq,Option.some.injEq,Addr.mk.injEq,and_true,true_and] at h0
  obtain⟨⟨rfl,rfl⟩,rfl⟩:=h0;rw[hs] at hl;rcases ho with rfl|⟨rfl,rfl⟩
  ·exact⟨_,_,rfl,by omega,.inr ⟨b,o+k,c,by rw[hs,Nat.add_mul],hb,hc,by rw[hs,show o+k+(cap-k)=o+cap from by omega];exact hl⟩⟩
  ·exact⟨_,_,rfl,by omega,.inr ⟨b,o,c,by rw[hs],hb,hc,by rw[hs,Nat.sub_self,Nat.add_zero];exact Nat.le_trans (Nat.mul_le_mul_right s (by omega)) hl⟩⟩
theorem b9f {S:BS}{W:World}{e:TypeId}{s:Nat}(he:a6y e=s){c:Array Value}(hc:c.size=s)(h:∀(i:Nat)(u:Value)(ct:CT),c[i]? =some u→(a2r e)[i]? =some ct→ct.ok S W u):TB S W e c:=fun i u ct h1 h2=>by
 have hi:i<s:=by rw[←hc];exact (Array.getElem?_eq_some_iff.1 h1).1
 rw[he,Nat.mod_eq_of_lt hi] at h2;exact h i u ct h1 h2
theorem a3r {S:BS}{W:World}{x y:Int}(hx:a0k x)(hy:a0k y):TB S W 26 #[.int .i64 x,.int .i64 y]:=b9f rfl rfl fun i u ct h1 h2=>by
 match i,h1,h2 with
 |0,h1,h2=>cases h1;cases h2;exact CT.ok_int hx
 |1,h1,h2=>cases h1;cases h2;exact CT.ok_int hy
 |i+2,h1,_=>simp at h1
theorem c0o {S:BS}{W:World}{x:Int}(hx:a0k x):TB S W 3 #[.int .i64 x]:=b9f rfl rfl fun i u ct h1 h2=>by
 match i,h1,h2 with
 |0,h1,h2=>cases h1;cases h2;exact CT.ok_int hx
 |i+1,h1,_=>simp at h1
theorem b3c {S:BS}{W:World}{e:TypeId}:TB S W e #[]:=fun i u ct h1 _=>by simp at h1
theorem a6z {S:BS}{W:World}{id l r:Int}{v:Value}{n:Nat}(hi:a0k id)(hl:a0k l)(hr:a0k r)(hv:SL S W 26 v n)(hn:n≤100):TB S W 206 #[.int .i64 id,v,.int .i64 l,.int .i64 r]:=b9f rfl rfl fun i u ct h1 h2=>by
 match i,h1,h2 with
 |0,h1,h2=>cases h1;cases h2;exact CT.ok_int hi
 |1,h1,h2=>cases h1;cases h2;exact CT.ok_sl hv hn
 |2,h1,h2=>cases h1;cases h2;exact CT.ok_int hl
 |3,h1,h2=>cases h1;cases h2;exact CT.ok_int hr
 |i+4,h1,_=>simp at h1
theorem c8k {S:BS}{W:World}{id l r:Int}{v:Value}{n:Nat}(hi:a0k id)(hl:a0k l)(hr:a0k r)(hv:SL S W 245 v n)(hn:n≤100):TB S W 249 #[.int .i64 id,v,.int .i64 l,.int .i64 r]:=b9f rfl rfl fun i u ct h1 h2=>by
 match i,h1,h2 with
 |0,h1,h2=>cases h1;cases h2;exact CT.ok_int hi
 |1,h1,h2=>cases h1;cases h2;exact CT.ok_sl hv hn
 |2,h1,h2=>cases h1;cases h2;exact CT.ok_int hl
 |3,h1,h2=>cases h1;cases h2;exact CT.ok_int hr
 |i+4,h1,_=>simp at h1
def b4d (n:Nat):Prop:=n≤9223372036854775807
structure TD (S:BS)(n₀ D:Nat)(sv:Value)(xs:List Int)(W:World):Prop where
 tw:TW S W
 box:∃j:Nat,j≤xs.length∧Blk W D #[sv,.int .i64 (j:Nat)] 137
 ints:Ints n₀ W sv xs
 le:n₀≤D
 len:b4d xs.length
 low:∀b,S b→n₀≤b
 not:¬S D
abbrev a9j (D:Nat):BS:=fun b=>b=D
theorem TD.lt {S:BS}{n₀ D:Nat}{sv:Value}{xs:List Int}{W:World}(h:TD S n₀ D sv xs W):D<W.heap.size:=by obtain⟨j,-,hb⟩:=h.box;exact hb.lt
theorem TD.ev {X S S':BS}{n₀ D:Nat}{sv:Value}{xs:List Int}{W W':World}(h:TD S n₀ D sv xs W)(he:Ev X S W S' W')(hX:∀b,X b→n₀≤b∧b≠D):TD S' n₀ D sv xs W':=by
 have hlt:=h.lt;obtain⟨j,hj,hb⟩:=h.box;have hlow:∀b,S' b→n₀≤b:=fun b hb=>by
  rcases he.new b hb with h1|h1
  ·exact h.low b h1
  ·have:=h.le;omega
 have hbel:Below n₀ W W':=he.below h.low (fun b hb=>(hX b hb).1) (by have:=h.le;omega);exact⟨he.ok,⟨j,hj,he.blk hb h.not (fun hx=>(hX D hx).2 rfl)⟩,h.ints.below hbel,h.le,h.len,hlow,he.not hlt h.not⟩
theorem c5h (n₀ D j:Nat)(xs:List Int)(sv:Value)(m v:Int)(w:World)(hv:b8p xs j m=v)(hm1:1≤m)(hm2:m≤4611686018427387904)(hD:n₀≤D)(hI:Ints n₀ w sv xs)(hj:j≤xs.length)(hlen:b4d xs.length)(hB:Blk w D #[sv,.int .i64 (j:Nat)] 137) :
 Calls prog 73 #[.pointer (some ⟨D,0,none⟩),.int .i64 m] w fun e w'=>∃p,e= .returned (.int .i64 v)∧w'=(w.setCell ⟨D,1,none⟩ (.int .i64 (min (j+1) xs.length:Nat))).growBy p:=by
 subst hv;by_cases hlt:j<xs.length
 ·rw[show min (j+1) xs.length=j+1 from by omega]
  have c0:w.cell? ⟨D,0,none⟩=some sv:=hB.cell 0;have c1:w.cell? ⟨D,1,none⟩=some (.int .i64 (j:Nat)):=hB.cell 1;have f1:=hB.frozen 1;obtain⟨a,cap,rfl,hc⟩:=hI;obtain⟨b,off,rfl,hb,fx,cx⟩:=hc j hlt;have hx:b8p xs j m=xs[j] % m:=by unfold b8p;rw[List.getD_eq_getElem?_getD,List.getElem?_eq_getElem hlt];rfl
  rw[hx];obtain⟨x,hxx⟩:∃x,xs[j]=x:=⟨_,rfl⟩;rw[hxx] at fx cx ⊢;have hbD:¬b=D:=by omega
  have hDb:¬D=b:=by omega
  have hlt':(j:Int)<(xs.length:Int):=by omega
  have hjw:IntKind.i64.wrap ((j:Int)+1)=(j:Int)+1:=by unfold b4d at hlen;exact a0u (by omega) (by omega)
  have hjv:wrap64 ((j:Int)+1)=(j:Int)+1:=by unfold b4d at hlen;exact Go.IntWalk.wrap64_in _ ⟨by omega,by omega⟩
  clear hc hxx hx hj;go_enter func73,ntmps73;go_wp2_with fail;first|with_reducible refine a0t (by kernel_rfl) (by kernel_rfl) ?_|with_reducible refine a0v (by kernel_rfl) (by kernel_rfl) ?_
  repeat (first|go_big_quiet_step (fail)|quiet_step (fail))
  refine wpQuiet_nil ?_;intro _ hw_;obtain⟨p,hw_⟩:=hw_;subst hw_;go_wp2_with fail;have hju:wrap64 (j:Int)=(j:Int):=by unfold b4d at hlen;exact Go.IntWalk.wrap64_in _ ⟨by omega,by omega⟩
  clear hlen;first|with_reducible refine a0t (by kernel_rfl) (by kernel_rfl) ?_|with_reducible refine a0v (by kernel_rfl) (by kernel_rfl) ?_
  repeat (first|go_big_quiet_step ((go_at_call 77;exact Calls.grow_of_same (a0p _ _ _ fx hm1 hm2)))|quiet_step ((go_at_call 77;exact Calls.grow_of_same (a0p _ _ _ fx hm1 hm2))))
  refine wpQuiet_nil ?_;intro _ hw_;obtain⟨p,hw_⟩:=hw_;subst hw_;go_wp2_with fail;go_ret;exact⟨_,rfl,rfl⟩
 ·obtain rfl:j=xs.length:=by omega
  rw[show min (xs.length+1) xs.length=xs.length from by omega];have c0:w.cell? ⟨D,0,none⟩=some sv:=hB.cell 0;have c1:w.cell? ⟨D,1,none⟩=some (.int .i64 (xs.length:Nat)):=hB.cell 1;have f1:=hB.frozen 1;have hid:=World.setCell_id w D 1 _ c1;have hz:b8p xs xs.length m=0:=by unfold b8p;rw[List.getD_eq_getElem?_getD,List.getElem?_eq_none (by omega)];simp
  rw[hz];have hge':¬(xs.length:Int)<(xs.length:Int):=by omega
  obtain⟨a,cap,rfl,-⟩:=hI;clear hz hlen hj;go_enter func73,ntmps73;go_wp2_with fail;first|with_reducible refine a0t (by kernel_rfl) (by kernel_rfl) ?_|with_reducible refine a0v (by kernel_rfl) (by kernel_rfl) ?_
  repeat (first|go_big_quiet_step (fail)|quiet_step (fail))
  refine wpQuiet_nil ?_;intro _ hw_;obtain⟨p,hw_⟩:=hw_;subst hw_;go_wp2_with fail;go_ret;exact⟨_,rfl,by rw[hid]⟩
theorem TD.call {S:BS}{n₀ D:Nat}{sv:Value}{xs:List Int}{W:World}(h:TD S n₀ D sv xs W)(m:Int)(hm1:1≤m)(hm2:m≤4611686018427387904) :
 Calls prog 73 #[.pointer (some ⟨D,0,none⟩),.int .i64 m] W fun e W'=>∃v,e= .returned (.int .i64 v)∧0≤v∧v<m∧TD S n₀ D sv xs W'∧W.grownBy W' (some D)∧Ev (a9j D) S W S W':=by
 obtain⟨j,hj,hb⟩:=h.box;refine (c5h n₀ D j xs sv m _ W rfl hm1 hm2 h.le h.ints hj h.len hb).mono ?_;rintro e W'⟨p,rfl,rfl⟩;have hg:=b3x W D 1 (.int .i64 (min (j+1) xs.length:Nat)) p;have hn:=c7z xs j hm1;have hE:Ev (a9j D) S W S _:=Ev.of_grown h.tw hg (fun r e=>by cases e;exact⟨h.not,rfl⟩);refine⟨_,rfl,hn.1,hn.2,⟨hE.ok,⟨min (j+1) xs.length,by omega,?_⟩,h.ints.below (Below.of_grown hg (by have:=h.le;have:=hb.lt;omega) (fun r e=>by cases e;exact h.le)),h.le,h.len,h.low,h.not⟩,hg,hE⟩;have:=(hb.set 1 (.int .i64 (min (j+1) xs.length:Nat))).grow p;simpa using this
end
section
open Go Go.RowKit Go.Shelf Go.Lib
attribute [local go_sem] Oper.semAt_some
attribute [local go_sem ↓] Go.wp_at_zero Go.wp_at_succ
def pfS (s:Sh)(p:Pc):Bool×List Dt:=plF s p.x p.y p.id p.cls p.id
theorem c8l (i j:Int)(cls:ByteArray)(num:Int)(h:num≤999):(b8z i j cls num).length≤33:=by
 unfold b8z a3q;have h1:=a6w i j (a4n num.toNat) (a6q i j (b0v (plM cls)) 9) (a1n num.toNat).size;have h2:=a8n i j (b0v (plM cls)) 9;have h3:=b1j num.toNat (by omega);omega
theorem b4e (s:Sh)(p:Pc):(pfS s p).2.length≤33:=by
 unfold pfS plF;split
 ·rename_i h
  simp only[Bool.and_eq_true,decide_eq_true_eq] at h;exact Nat.le_trans (b1i _ _) (c8l _ _ _ _ h.1.2)
 ·simp
theorem a2b {W:World}{base:Nat}{e:TypeId}{s:Nat}{v:Value}{n:Nat}{xs:List Value}(h:W.ownsRow base e s v n xs):Frm v n:=by
 rcases h.2 with ⟨e1,-⟩|⟨g,cap,cur,e1,-⟩
 ·exact .inl e1
 ·exact .inr ⟨g,0,cap,e1⟩
theorem c5i (s:Sh)(id x y wt di num:Int)(cls name:ByteArray)(w:World)(f0:a0k s.ax)(f1:a0k s.ay)(hid:a0k id)(hcl:cls.size≤1000)(htab:Pow w) :
 Calls prog 23 #[shV s,.agg (plC id x y wt di cls name),.int .i64 num] w fun e w'=>∃v,e= .returned (.tuple #[v,.bool (plF s x y id cls num).1])∧Lst dtE w'.heap.size w' v (plF s x y id cls num).2∧Frm v (plF s x y id cls num).2.length∧Below w.heap.size w w':=by
 obtain⟨⟨i,j,b⟩,hof⟩:∃p,ofS s x y=p:=⟨_,rfl⟩
 cases b with
 |false =>
  rw[d0i hof (.inl rfl)];refine (c8f s id x y wt di num i j cls name w f0 f1 hof).mono ?_;rintro e w'⟨rfl,hb⟩;exact⟨_,rfl,Lst.nil _ _ _,.inl rfl,hb⟩
 |true =>
  by_cases hr:num<1∨999<num
  ·rw[d0i hof (.inr hr)]
   refine (b9d s id x y wt di num i j cls name w f0 f1 hof hr).mono ?_;rintro e w'⟨rfl,hb⟩;exact⟨_,rfl,Lst.nil _ _ _,.inl rfl,hb⟩
  ·obtain⟨n,rfl⟩:∃n:Nat,num=n:=⟨num.toNat,by omega⟩
   rw[d1e hof (by omega) (by omega)];unfold b8z;rw[Int.toNat_natCast];obtain⟨hm,hsum⟩:=d2o cls;have hs:=a6o (c0k hof).1;have hit:∀W,Below w.heap.size w W→Calls prog 65 #[.int .i64 (n:Nat)] W fun e W'=>e= .returned (.string (b1z n))∧Below W.heap.size W W':=fun W hW=>by
    refine (Tryz.strconv_Itoa (n:Nat) (by omega) (by omega) W (htab.below hW)).mono ?_;rintro e W'⟨rfl,k,os,rfl⟩;refine⟨?_,?_⟩
    ·unfold b1z Lib.itoa
     rw[if_neg (by omega),Int.toNat_natCast]
    ·refine⟨rfl,rfl,rfl,?_,fun q hq=> ?_⟩
     ·show W.heap.size≤(W.heap++os).size
      rw[Array.size_append];omega
     ·show (W.heap++os)[q]? =W.heap[q]?
      rw[Array.getElem?_append_left hq]
   have hwr:∀W,Calls prog 64 #[.string (b1z n)] W fun e W'=>e= .returned (.tuple #[.string (a1n n),.int .i64 0])∧Below W.heap.size W W':=fun W=>c1q (b1z n) (b6i n) (by rw[a7q];have:=a5b 2 n (by omega);omega) W
   have hdots:∀k (h:k<(a1n n).size) W,Calls prog 66 #[.int .u8 ((a1n n)[k]).toNat] W fun e W'=>e= .returned (.agg #[.bool (a4n n k 0),.bool (a4n n k 1),.bool (a4n n k 2),.bool (a4n n k 3),.bool (a4n n k 4),.bool (a4n n k 5)])∧Below W.heap.size W W':=fun k hk W=>by
    rw[a5f n k hk 0,a5f n k hk 1,a5f n k hk 2,a5f n k hk 3,a5f n k hk 4,a5f n k hk 5];exact d2m _ (b8y n k hk) W
   refine (c4z s id x y wt di n i j cls name (b1z n) (a1n n) (a4n n) (plM cls) w f0 f1 hof hid (by omega) (by omega) (by omega) hm hsum (by have:=b1j n (by omega);omega) hit hwr hdots (b9c i j id _ n)).mono ?_;have hkeys:∀p,p∈(a5r i j id (b0v (plM cls)) (a4n n) (a1n n).size).map (·.1)↔p∈a3q i j (b0v (plM cls)) (a4n n) (a1n n).size:=fun p=>by
    rw[a8m,a7x];simp
   have hpl:=b6w i j (b0v (plM cls)) n (by omega);rintro e w'⟨hb,⟨h,v,base,rfl,-,hrow⟩|⟨⟨p,hp,h⟩,rfl⟩⟩
   ·have hall:∀p∈a3q i j (b0v (plM cls)) (a4n n) (a1n n).size,onS s p.1 p.2=true:=fun p hp=>h p ((hkeys p).2 hp)
    rw[if_pos (List.all_eq_true.2 hall)];rw[a8m,←b6u hall] at hrow;exact⟨v,rfl,a0b a6m hrow (by have:=b1i id (a3q i j (b0v (plM cls)) (a4n n) (a1n n).size);simp only;omega),a2b hrow,hb⟩
   ·rw[if_neg (fun hc=>by have:=List.all_eq_true.1 hc p ((hkeys p).1 hp);rw[h] at this;cases this)]
    exact⟨_,rfl,Lst.nil _ _ _,.inl rfl,hb⟩
abbrev c0p (ev fv wv pv:Value):Value:= .agg #[ev,fv,wv,pv]
abbrev d2q (s:Sh)(x:Pc×Value):Value:= .agg #[.int .i64 x.1.id,.int .i64 x.1.x,.int .i64 x.1.y,.string x.1.cls,.string x.1.nm,.int .i64 x.1.wt,.int .i64 x.1.ds,x.2,.bool (pfS s x.1).1]
def KxC (s:Sh)(ps:List Pc)(pre:List (Pc×Value))(x:Pc×Value)(W:World):Prop :=
 (∃rs,ps=pre.map Prod.fst++x.1::rs)∧Lst dtE W.heap.size W x.2 (pfS s x.1).2∧Frm x.2 (pfS s x.1).2.length
theorem KxC.put {s:Sh}{ps:List Pc}{pre:List (Pc×Value)}{x:Pc×Value}{W:World}{l:Nat}{o o':Obj}(hl:W.heap[l]? =some o)(ho:o.isCells=false)(ho':o'.isCells=false)(h:KxC s ps pre x W):KxC s ps pre x (W.putObj l o'):=by
 obtain⟨h1,⟨a,cap,e,c1,c2,c3⟩,h3⟩:=h;refine⟨h1,⟨a,cap,e,c1,c2,fun j hj=> ?_⟩,h3⟩;obtain⟨b,off,rfl,hb,hc⟩:=c3 j hj;refine⟨b,off,rfl,by simpa using hb,fun i hi=> ?_⟩;rw[←hc i hi];unfold World.cell?;by_cases hbl:b=l
 ·subst hbl
  have h0:=hc i hi;unfold World.cell? at h0;simp only[hl] at h0
  cases o <;> simp_all [Obj.isCells]
 ·simp only[World.putObj_heap_other hbl]
theorem a4o (s:Sh)(ev fv wv pv:Value)(w:World) :
 Calls prog 35 #[c0p ev fv wv pv,shV s] w fun e w'=>e= .returned (.func (.func 84) #[] #[.pointer (some ⟨w.heap.size,0,none⟩),.pointer (some ⟨w.heap.size+1,0,none⟩)])∧Blk w' w.heap.size #[ev,fv,wv,pv] 37∧Blk w' (w.heap.size+1) #[.int .i64 s.ax,.int .i64 s.ay,.int .i64 s.st,.int .i64 s.w,.int .i64 s.h,.int .i64 s.g] 28∧Below w.heap.size w w':=by
 obtain⟨ax,ay,st,sw,sh,sg⟩:=s;go_enter func35,ntmps35;have hmf:∀(fn:Fn) (first cap:Array Value) (w:World),(Instr.makeFunc fn first cap).run prog w= .ok (.func fn first cap) w:=fun _ _ _ _=>rfl
 go_wp2_with fail;go_ret;have k2:=Blk.new (w.alloc (.cells #[ev,fv,wv,pv] 37)) #[.int .i64 ax,.int .i64 ay,.int .i64 st,.int .i64 sw,.int .i64 sh,.int .i64 sg] 28;rw[World.size_alloc] at k2;exact⟨rfl,(Blk.new _ _ _).alloc _,k2,zC⟩
theorem b3d {W W':World}{base:Nat}{e:TypeId}{s:Nat}{v:Value}{n:Nat}{xs:List Value}(h:W.ownsRow base e s v n xs)(hs:∀g,v.ownBlock=some g→g<W.heap.size→W'.heap[g]? =W.heap[g]?):W'.ownsRow base e s v n xs:=by
 obtain⟨h1,h2|⟨g,cap,cur,rfl,h3,h4,h5⟩⟩:=h
 ·exact⟨h1,.inl h2⟩
 ·exact⟨h1,.inr ⟨g,cap,cur,rfl,h3,(hs g rfl (Array.getElem?_eq_some_iff.1 h4).1).trans h4,h5⟩⟩
theorem d0j {W:World}{base:Nat}{e:TypeId}{s:Nat}{v:Value}{n:Nat}{xs:List Value}(h:W.ownsRow base e s v n xs){g:Nat}(hg:v.ownBlock=some g):base≤g∧g<W.heap.size:=by
 rcases h.2 with ⟨rfl,-⟩|⟨g',cap,cur,rfl,h3,h4,-⟩
 ·cases hg
 ·cases hg
  exact⟨h3,(Array.getElem?_eq_some_iff.1 h4).1⟩
structure ICs (C:World→Nat→Prop)(n0:Nat)(w:World)(Bm Bs:Nat)(mc sc:Array Value)(base:Nat)(v:Value)(ps:List Pc)(W:World):Prop where
 bm:Blk W Bm mc 37
 bs:Blk W Bs sc 28
 row:W.ownsRow base 66 7 v ps.length (ps.flatMap plE.enc)
 nm:¬C W Bm
 ns:¬C W Bs
 nr:∀g,v.ownBlock=some g→¬C W g
 bel:Below n0 w W
section
variable {C:World→Nat→Prop}{n0:Nat}{w:World}{Bm Bs:Nat}{mc sc:Array Value}{base:Nat}{v:Value}{ps:List Pc}{A B:World}
theorem ICs.keep (h:ICs C n0 w Bm Bs mc sc base v ps A)(hk:KeepP C n0 A B):ICs C n0 w Bm Bs mc sc base v ps B:=by
 have hn:∀g,g<A.heap.size→¬C A g→¬C B g:=fun g hg hc hb=>(hk.k.mine g hb).elim hc (fun h=>by omega)
 exact⟨(hk.k.same _ h.bm.lt h.nm).trans h.bm,(hk.k.same _ h.bs.lt h.ns).trans h.bs,b3d h.row fun g hg hlt=>hk.k.same g hlt (h.nr g hg),hn _ h.bm.lt h.nm,hn _ h.bs.lt h.ns,fun g hg=>hn g (d0j h.row hg).2 (h.nr g hg),h.bel.trans hk.b⟩
theorem ICs.below (h:ICs C n0 w Bm Bs mc sc base v ps A)(hb:Below A.heap.size A B)(hC:∀k,C B k→C A k)(hn:n0≤A.heap.size):ICs C n0 w Bm Bs mc sc base v ps B :=
 ⟨h.bm.below hb h.bm.lt,h.bs.below hb h.bs.lt,b3d h.row fun g hg hlt=>hb.block g hlt,fun hc=>h.nm (hC _ hc),fun hc=>h.ns (hC _ hc),fun g hg hc=>h.nr g hg (hC _ hc),h.bel.trans (hb.mono hn)⟩
end
theorem b4f (n:Nat)(hn:1≤n)(s:Sh)(f0:a0k s.ax)(f1:a0k s.ay)(ev fv wv pv:Value)(l:List Pc)(hl:l.length≤100)(hok:∀p∈l,PcOk p∧p.cls.size≤1000)(C:World→Nat→Prop)(n0:Nat)(w:World)(Bm Bs:Nat)
 (hm:Blk w Bm #[ev,fv,wv,pv] 37) (hs:Blk w Bs #[.int .i64 s.ax,.int .i64 s.ay,.int .i64 s.st,.int .i64 s.w,.int .i64 s.h,.int .i64 s.g] 28) (hL:Lst plE w.heap.size w pv l) (hF:Frm pv l.length) (hn0:n0≤w.heap.size)
 (hnc:∀W k,Below w.heap.size w W→C W k→k≠Bm∧k≠Bs) (hPow:∀W,Below n0 w W→Pow W) :
 d2n Fence.wide n prog 84 #[.pointer (some ⟨Bm,0,none⟩),.pointer (some ⟨Bs,0,none⟩)] (fun x=> #[d2q s x]) C n0 (KxC s (a1d l)) (fun xs=>xs.map Prod.fst=a1d l) 101 w:=by
 intro ly J Jp W hB hJ hCb hC0 hY h0;have hokS:∀p∈a1d l,PcOk p∧p.cls.size≤1000:=fun p hp=>hok p ((a1q l).mem_iff.1 hp)
 have hlS:(a1d l).length=l.length:=(a1q l).length_eq;obtain⟨ps,hps⟩:∃ps,a1d l=ps:=⟨_,rfl⟩;have hLW:=hL.up hB;have hO:=a6v ev fv wv pv l W hLW hF hl;rw[hps] at hO hokS hlS hY ⊢;have bmW:=hm.below hB hm.lt;have bsW:=hs.below hB hs.lt;have nmW:¬C W Bm:=fun hc=>(hnc W Bm hB hc).1 rfl
 have nsW:¬C W Bs:=fun hc=>(hnc W Bs hB hc).2 rfl
 have hbW:Below n0 w W:=hB.mono hn0;have hWs:=hB.size;clear hL hLW hm hs hnc hF hps;obtain⟨c0,c1,c2,c3⟩:W.cell? ⟨Bm,0,none⟩=some ev∧W.cell? ⟨Bm,1,none⟩=some fv∧W.cell? ⟨Bm,2,none⟩=some wv∧W.cell? ⟨Bm,3,none⟩=some pv:=⟨bmW.cell 0,bmW.cell 1,bmW.cell 2,bmW.cell 3⟩;refine callsIn_wide.2 ?_;go_enter func84,ntmps84;go_upto_block 0 with (first
  |(go_at_call 44;refine hO.mono ?_;rintro e W1⟨v,rfl,hr1,hb1⟩;rw[←hlS] at hr1;obtain⟨va,vc,rfl,hvc⟩:=(a0b a2l hr1 (by omega)).form)
  |fail)
 have hW1s:=hb1.size;have hC1:∀k,C W1 k→C W k:=fun k=>hCb [] W W1 none k h0 (a2h none hb1) (by simp)
 have hI1:ICs C n0 w Bm Bs _ _ W.heap.size (.slice va ps.length vc) ps W1:=⟨bmW.below hb1 bmW.lt,bsW.below hb1 bsW.lt,hr1,fun hc=>nmW (hC1 _ hc),fun hc=>nsW (hC1 _ hc),fun g hg hc=>by have:=hC0 _ (hC1 _ hc);have:=(d0j hr1 hg).1;omega,hbW.trans (hb1.mono (by omega))⟩;have hJ1:J [] W1:=hJ [] W W1 none h0 (a2h none hb1) (by simp);clear hO hr1 hC1 bmW bsW nmW nsW hbW c0 c1 c2 c3 h0 hC0 hb1;go_wp2_with fail;go_loopw [11] (fun kk wr=>∃(k:Nat) (pre:List (Pc×Value)),k≤ps.length∧kk= .int .i64 (k:Nat)∧pre.map Prod.fst=ps.take k∧J pre wr∧ICs C n0 w Bm Bs #[ev,fv,wv,pv] #[.int .i64 s.ax,.int .i64 s.ay,.int .i64 s.st,.int .i64 s.w,.int .i64 s.h,.int .i64 s.g] W.heap.size (.slice va ps.length vc) ps wr∧W.heap.size≤wr.heap.size) (fun kk _=>ps.length-(intOf kk).toNat)
 case atStart=>exact⟨0,[],Nat.zero_le _,rfl,by simp,hJ1,hI1,hW1s⟩
 case round =>
  clear hJ1 hI1;obtain⟨k,pre,hk,rfl,hpre,hJk,hI,hzr⟩:=hrel;by_cases hlt:k<ps.length
  ·have hltI:(k:Int)<(ps.length:Int):=by omega
   have hLr:=a0b a2l hI.row (by omega);obtain⟨b,off,cap,hv,-,hbl,hc⟩:=hLr.some_ (by omega);simp only[Value.slice.injEq,true_and] at hv;obtain⟨rfl,rfl⟩:=hv;obtain⟨p,hp⟩:∃p,ps[k]=p:=⟨_,rfl⟩;have hck:=hc k hlt;rw[hp] at hck;obtain⟨hpo,hpc⟩:=hokS p (hp▸List.getElem_mem hlt);have hsplit:ps=pre.map Prod.fst++p::ps.drop (k+1):=by
    rw[hpre,←hp,←List.drop_eq_getElem_cons hlt,List.take_append_drop]
   have hprel:pre.length=k:=by
    have:=congrArg List.length hpre;rw[List.length_map,List.length_take] at this;omega
   have hnext:(pre++[(p,(.slice none 0 0:Value))]).map Prod.fst=ps.take (k+1):=by
    rw[List.map_append,hpre,List.take_add_one,List.getElem?_eq_getElem hlt,hp];rfl
   have d0:wr.cell? ⟨b,off+k*7,none⟩=some (.int .i64 p.id):=hck 0 (show 0<7 by decide);have d1:wr.cell? ⟨b,off+k*7+1,none⟩=some (.int .i64 p.x):=hck 1 (show 1<7 by decide);have d2:wr.cell? ⟨b,off+k*7+2,none⟩=some (.int .i64 p.y):=hck 2 (show 2<7 by decide);have d3:wr.cell? ⟨b,off+k*7+3,none⟩=some (.string p.cls):=hck 3 (show 3<7 by decide);have d4:wr.cell? ⟨b,off+k*7+4,none⟩=some (.string p.nm):=hck 4 (show 4<7 by decide);have d5:wr.cell? ⟨b,off+k*7+5,none⟩=some (.int .i64 p.wt):=hck 5 (show 5<7 by decide);have d6:wr.cell? ⟨b,off+k*7+6,none⟩=some (.int .i64 p.ds):=hck 6 (show 6<7 by decide);obtain⟨s0,s1,s2,s3,s4,s5⟩:wr.cell? ⟨Bs,0,none⟩=some (.int .i64 s.ax)∧wr.cell? ⟨Bs,1,none⟩=some (.int .i64 s.ay)∧wr.cell? ⟨Bs,2,none⟩=some (.int .i64 s.st)∧wr.cell? ⟨Bs,3,none⟩=some (.int .i64 s.w)∧wr.cell? ⟨Bs,4,none⟩=some (.int .i64 s.h)∧wr.cell? ⟨Bs,5,none⟩=some (.int .i64 s.g):=⟨hI.bs.cell 0,hI.bs.cell 1,hI.bs.cell 2,hI.bs.cell 3,hI.bs.cell 4,hI.bs.cell 5⟩;obtain⟨id,x,y,cls,nm,wt,ds⟩:=p;have hPl:=c5i s id x y wt ds id cls nm;obtain⟨r,hr⟩:∃r,plF s x y id cls id=r:=⟨_,rfl⟩;have hpf:pfS s ⟨id,x,y,cls,nm,wt,ds⟩=r:=hr;simp only[hr] at hPl;obtain⟨on,dl⟩:=r;simp only at hPl d0 d1 d2 d3 d4 d5 d6;have hidf:=hpo.id;simp only at hidf hpc;have hPw:∀W',Below n0 wr W'→Pow W':=fun W' h=>hPow W' (hI.bel.trans h)
   clear hc hck hLr hp hr hpo;go_upto_region 4 with (first
    |(go_at_call 23;(with_reducible refine (hPl _ f0 f1 hidf hpc (hPw _ (((zR _ _).alloc (yR _) _).mono (by omega)))).mono ?_);rintro e W4⟨vd,rfl,hd4,hfd4,hb4⟩)
    |fail)
   have hs4:=hb4.size;rw[World.size_alloc] at hs4;have hb5:Below wr.heap.size wr W4:=((zR _ _).alloc (yR _) _).trans (hb4.mono (by rw[World.size_alloc];omega));have kp:Blk W4 wr.heap.size #[.int .i64 id,.int .i64 x,.int .i64 y,.string cls,.string nm,.int .i64 wt,.int .i64 ds] 66:=(Blk.new wr _ _).below hb4 (by rw[World.size_alloc];omega);have hg5:wr.grownBy W4 none:=a2h none hb5;have hJ4:J pre W4:=hJ pre wr W4 none hJk hg5 (by simp);have hI4:=hI.below hb5 (fun k=>hCb pre wr W4 none k hJk hg5 (by simp)) (by omega);have hKx:KxC s ps pre (⟨id,x,y,cls,nm,wt,ds⟩,vd) W4:=by
    refine⟨⟨_,hsplit⟩,?_,?_⟩
    ·show Lst dtE W4.heap.size W4 vd (pfS s ⟨id,x,y,cls,nm,wt,ds⟩).2
     rw[hpf];exact hd4
    ·show Frm vd (pfS s ⟨id,x,y,cls,nm,wt,ds⟩).2.length
     rw[hpf];exact hfd4
   obtain⟨fn,tmps,assign,body,hy,hRd⟩:=hY pre (⟨id,x,y,cls,nm,wt,ds⟩,vd) W4 hJ4 hKx (by omega);simp only[d2q,hpf] at hy;obtain⟨a4,n4,c4,rfl,-⟩:∃a n c,vd= .slice a n c∧n=dl.length:=by
    obtain⟨a,c,h,-⟩:=hd4.form;exact⟨a,_,c,h,rfl⟩
   obtain⟨p0,p1,p2,p3,p4,p5,p6⟩:W4.cell? ⟨wr.heap.size,0,none⟩=some (.int .i64 id)∧W4.cell? ⟨wr.heap.size,1,none⟩=some (.int .i64 x)∧W4.cell? ⟨wr.heap.size,2,none⟩=some (.int .i64 y)∧W4.cell? ⟨wr.heap.size,3,none⟩=some (.string cls)∧W4.cell? ⟨wr.heap.size,4,none⟩=some (.string nm)∧W4.cell? ⟨wr.heap.size,5,none⟩=some (.int .i64 wt)∧W4.cell? ⟨wr.heap.size,6,none⟩=some (.int .i64 ds):=⟨kp.cell 0,kp.cell 1,kp.cell 2,kp.cell 3,kp.cell 4,kp.cell 5,kp.cell 6⟩;clear hPl hb4 kp hKx hd4 hfd4 hJ4 hI hJk hg5;refine (wpIn_wide (n:=n)).1 ?_;gi_wp2;refine hRd.mono ?_;rintro e W5 (⟨rfl,hJ5,hk5⟩|⟨ch,rfl,hp⟩)
   ·gi_wp2
    go_wp2_with fail;go_roundw
    case rel =>
     have:=hk5.k.size;exact⟨k+1,pre++[(⟨id,x,y,cls,nm,wt,ds⟩,.slice a4 n4 c4)],by omega,by go_num,by rw[List.map_append] at hnext ⊢;exact hnext,hJ5,hI4.keep hk5,by omega⟩
    case measure=>simp[intOf];omega
   ·gi_wp2
    exact⟨rfl,.inr ⟨ch,rfl,hp⟩⟩
  ·obtain rfl:k=ps.length:=by omega
   have hge:¬(ps.length:Int)<(ps.length:Int):=by omega
   go_wp2_with fail;go_end0;exact .inl ⟨⟨_,rfl⟩,pre,by rw[hpre,List.take_length],hJk⟩
section
variable {P:Program}{α:Type}{E:El α}{st:TypeId}{F:Fence}{n:Nat}
theorem b4g (w:World)(t ty e:TypeId)(i:TypeInfo)(ht:P.underlying t=some (.slice e))(hi:P.info? e=some i):(Builtin.append_ #[t,t] ty #[.slice none 0 0,.slice none 0 0]).run P w= .ok (.slice none 0 0) w:=by
 have hn:(Builtin.firstCells i.size 0 (.slice none 0 0)).run P w= .ok #[] w:=run_firstCells_none _ _ _ _ _;simp[Builtin.append_,run_underlying ht,sizeOf,typeInfo,hi,Builtin.lenOf,hn]
theorem El.append_all (hE:E.Ok)(hI:E.In P st)(W:World)(base:Nat)(v xv:Value)(l l2:List α)(ty:TypeId)(hv:W.ownsRow base E.t E.s v l.length (l.flatMap E.enc)){n0:Nat}(hx:Lst E n0 W xv l2)(hf:Frm xv l2.length)(hl:l.length+l2.length≤100000)(hb:base≤W.heap.size) :
 ∃v' W',(Builtin.append_ #[st,st] ty #[v,xv]).run P W= .ok v' W'∧W'.ownsRow base E.t E.s v' (l++l2).length ((l++l2).flatMap E.enc)∧W.grownBy W' v.ownBlock∧Below base W W'∧(v'.ownBlock=v.ownBlock∨v'.ownBlock=some W.heap.size):=by
 obtain⟨i0,z,hi0,hz0,hz1,hz2,hz3⟩:=hI.info;rcases hf with rfl|⟨b,off,cap,rfl⟩
 ·obtain rfl:l2=[]:=by
   obtain⟨a,c,h,-⟩:=hx.form;simp only[Value.slice.injEq] at h;exact List.eq_nil_of_length_eq_zero h.2.1.symm
  by_cases hn:v= .slice none 0 0
  ·subst hn
   exact⟨_,W,b4g W st ty E.t i0 hI.under hi0,by rw[List.append_nil];exact hv,⟨rfl,rfl,rfl,yR _,fun _ _ _=>rfl⟩,⟨rfl,rfl,rfl,yR _,fun _ _=>rfl⟩,.inl rfl⟩
  ·have hsm:∃g c,v= .slice (some ⟨g,0,none⟩) l.length c:=by
    rcases hv.2 with ⟨e,-⟩|⟨g,c,cur,e,-⟩
    ·exact absurd e hn
    ·exact⟨g,c,e⟩
   obtain⟨v',W',hr,h2,h3,h4,-⟩:=El.append_join hE hI W base v (.slice none 0 0) l [] ty hv hsm hx (.inl rfl) hl hb;obtain⟨g,c,rfl⟩:=hsm;have hs:Src P i0.size st (.slice none 0 0) 0 [] W:=Src.ofNil W hI.under 0;have hlc:l.length+0≤c:=by
    rcases hv.2 with ⟨e,-⟩|⟨g',cap',cur,e,-,-,h1,-⟩
    ·cases e
    ·simp only[Value.slice.injEq,true_and] at e
     omega
   have hr2:=run_append_room_src (P:=P) W st st ty E.t i0 hI.under hi0 g 0 l.length c (.slice none 0 0) 0 [] hs hlc (by simp) (by simp);rw[hr] at hr2;simp only[Result.ok.injEq] at hr2;exact⟨v',W',hr,h2,h3,h4,.inl (by rw[hr2.1];rfl)⟩
 ·have hnews:∀j u,(l2.flatMap E.enc)[j]? =some u→W.cell? ((⟨b,off,none⟩:Addr).add j)=some u:=fun j u hj=>by
   rw[Addr.add_lit];exact hx.flat hE j u hj
  obtain⟨v',W',hr,hown,hg,-,h5⟩:=run_append_own_at (P:=P) W base st ty E.t i0 _ E.s i0.bytes hI.under hi0 hz0 hz1 rfl hz3 hE.pos _ l.length _ hv ⟨b,off,none⟩ l2.length cap (l2.flatMap E.enc) (a1c hE l2) hnews (a4x hE l2) (by unfold maxLen;omega) (Nat.le_trans (Nat.mul_le_mul (show l.length+l2.length≤100000 by omega) hz2) (by decide)) hb;refine⟨v',W',hr,?_,hg,a1i hg hb (fun k e=>(hv.lt k e).1),h5⟩;rw[List.length_append,List.flatMap_append];exact hown
theorem El.allIn (hE:E.Ok)(hI:E.In P st){ops:Array Oper}{rest:List Oper}{o:Oper}{a:Act}{w:World}{Q:Exit→Act→World→Prop}(hgd:o.guard=none)(s x:Operand)
 (ho:o.op= .call { callee:= .builtin .append,args:= #[s,x],argTypes:= #[st,st] }) (base:Nat) {v:Value} (hs:a.eval s=v) (l:List α) (hv:w.ownsRow base E.t E.s v l.length (l.flatMap E.enc)) {xv:Value} (l2:List α) (hxv:a.eval x=xv) {n0:Nat} (hx:Lst E n0 w xv l2) (hf:Frm xv l2.length) (hl:l.length+l2.length≤100000) (hb:base≤w.heap.size)
 (hab:∀f,o.about P w a.eval=some f→F.fn f)
 (h:∀v' w',w'.ownsRow base E.t E.s v' (l++l2).length ((l++l2).flatMap E.enc)→w.grownBy w' v.ownBlock→Below base w w'→(v'.ownBlock=v.ownBlock∨v'.ownBlock=some w.heap.size)→wpListIn F n P ops Q rest (a.put o.dst v') w') :
 wpListIn F n P ops Q (o::rest) a w:=by
 obtain⟨v',w',hr,h2,h3,h4,h5⟩:=El.append_all hE hI w base v xv l l2 o.type hv hx hf hl hb;refine wpListIn_plain hgd fun K hK=> ?_
 unfold Oper.wpIn;refine⟨hab,?_⟩;unfold Oper.semAt execOp
 cases hro:F.round <;>
 ·simp only[ho,resolve,invoke,builtin,Sem.run_bind,Sem.run_pure,Result.andThen_ok,List.map_toArray,List.map_cons,List.map_nil,hs,hxv,hr]
  exact hK _ _ (h v' w' h2 h3 h4 h5)
end
end
end Go.Proofs.YtfocdbjceedagaaGreatDoor
