/-
  Parts.
-/
import Derived.Test.YtfocdbjceedagaaGreatDoorYab
import Derived.Sort.MapsRangeIn
import Derived.Sort.KeysCollected
import Derived.Shelf.AbstractIn
import Derived.OwnWalkIn
import Derived.TacticsInMore
import Derived.RegionIn
import Derived.LoopNIn
import Derived.LoopIn
import Derived.RangeFuncWrites
import Derived.RangeFuncFrom
set_option linter.unusedVariables false
set_option linter.unusedSimpArgs false
set_option maxHeartbeats 4000000
set_option maxRecDepth 100000
namespace Go.Proofs.YtfocdbjceedagaaGreatDoor
open Tryz
section
open Go.RowKit Go.Shelf Go.Maps
attribute [local go_sem] Oper.semAt_some
attribute [local go_sem ↓] Go.wp_at_zero Go.wp_at_succ
def IdsIs (en:List (Int×Bool))(l:List Int)(j:Nat):Prop:=(∀p,b8d en p=decide (p∈l.take j))∧en.length≤j∧(en.length=j↔(l.take j).Nodup)
theorem IdsIs.nil (l:List Int):IdsIs [] l 0:=⟨fun p=>by simp[b8d],by simp,by simp⟩
theorem IdsIs.put {en:List (Int×Bool)}{l:List Int}{j:Nat}{x:Int}(h:IdsIs en l j)(hx:l[j]? =some x):IdsIs (c3g en x true) l (j+1):=by
 obtain⟨h1,h2,h3⟩:=h;have ht:l.take (j+1)=l.take j++[x]:=by rw[List.take_add_one,hx];rfl
 refine⟨fun p=> ?_,?_,?_⟩
 ·rw[c0a,h1 p,ht]
  rw[Bool.eq_iff_iff];simp[or_comm]
 ·rw[a6q]
  split <;> omega
 ·rw[a6q,h1 x,ht,List.nodup_append]
  by_cases hm:x∈l.take j
  ·simp only[hm,decide_true,if_true]
   constructor
   ·intro e;omega
   ·rintro⟨-,-,h4⟩
    exact absurd rfl (h4 x hm x (by simp))
  ·simp only[hm,decide_false,Bool.false_eq_true,if_false]
   constructor
   ·intro e
    exact⟨h3.1 (by omega),by simp,fun a ha c hc=>by simp at hc;subst hc;exact fun e=>hm (e▸ha)⟩
   ·rintro⟨h4,-,-⟩
    have:=h3.2 h4;omega
end
section
open Go.RowKit Go.Maps
abbrev a0o:=Int×Int
abbrev b2b (p:a0o):List Value:=[.int .i64 p.1,.int .i64 p.2]
abbrev a4e (p:a0o):Value:= .agg #[.int .i64 p.1,.int .i64 p.2]
def a7g (p:a0o):Prop:=a0i p.1∧a0i p.2
def klS (p:a0o):Lit:= .string (keyBytes [.int .i64 p.1,.int .i64 p.2])
theorem c0c:(match prog.underlying 122 with|some (.array _ _)|some (.struct _)=>true|_=>false)=true:=by kernel_rfl
theorem b0i:prog.cellsOf 122=2:=by kernel_rfl
theorem spotLaw:Keyed prog 122:=Keyed.of_law (deep_law_laid c6z (m:=2) (by omega) (of_decide_eq_true (by kernel_rfl)) (by kernel_rfl) c0c)
theorem c7c:prog.keyType 122=true:=by kernel_rfl
theorem a1n {p:a0o}(h:a7g p):keyOf prog 122 (a4e p)=some (klS p):=by
 obtain⟨x,y⟩:=p;obtain⟨hx,hy⟩:=h;have wx:=a8x hx;have wy:=a8x hy;unfold keyOf;rw[underlying122];have hf:(a4e (x,y)).formed prog 122=true:=by simp[Value.formed,underlying122,b0i]
 simp only[c7c,hf,Bool.and_self,if_true];have hk:prog.keyLits (prog.types.size+1) 122 [.int .i64 x,.int .i64 y]=some [.int .i64 x,.int .i64 y]:=by
  obtain⟨n,hn⟩:∃n,prog.types.size=n+1:=⟨prog.types.size-1,by have h:0<prog.types.size:=of_decide_eq_true (by kernel_rfl);omega⟩;rw[hn];unfold Program.keyLits;rw[underlying122];simp[b0i,c0b,Program.keyLits,underlying3,wx,wy]
 exact congrArg (Option.map fun ls=>Lit.string (keyBytes ls)) hk
theorem a3l {v:Value}{l:Lit}(h:keyOf prog 122 v=some l):∃p,a7g p∧v=a4e p∧l=klS p:=by
 obtain⟨xs,L,rfl,hL,rfl⟩:=keyOf_top c0c h;obtain⟨n,hn⟩:∃n,prog.types.size=n+1:=⟨prog.types.size-1,by have h:0<prog.types.size:=of_decide_eq_true (by kernel_rfl);omega⟩;rw[hn] at hL;unfold Program.keyLits at hL;rw[underlying122] at hL;simp only[b0i] at hL;split at hL
 ·rename_i hc
  obtain⟨hlen,-⟩:=hc;obtain⟨l⟩:=xs;match l,hlen with
  |[a,b],_ =>
   simp[c0b] at hL;rcases ha:prog.keyLits (n+1) 3 [a] with _|La
   ·rw[ha] at hL;simp at hL
   ·obtain⟨x,ex,fx,rfl⟩:=b0f n [a] La ha
    rcases hb:prog.keyLits (n+1) 3 [b] with _|Lb
    ·rw[ha,hb] at hL;simp at hL
    ·obtain⟨y,ey,fy,rfl⟩:=b0f n [b] Lb hb
     rw[ha,hb] at hL;simp at hL ex ey;subst ex;subst ey;subst hL;exact⟨(x,y),⟨fx,fy⟩,rfl,rfl⟩
 ·cases hL
theorem c3r {p q:a0o}(hp:a7g p)(hq:a7g q)(h:klS p=klS q):p=q:=by
 have h1:=a1n hp;rw[h] at h1;have h2:=spotLaw.inj h1 (a1n hq);simp at h2;exact Prod.ext h2.1 h2.2
theorem c7d {p q:a0o}(hp:a7g p)(hq:a7g q):(klS p).sameKey (klS q)=decide (p=q):=by
 by_cases h:p=q
 ·subst h
  simp[WideAt.sameKey_self (spotLaw.key (a1n hp))]
 ·simp only[h,decide_false]
  cases hs:(klS p).sameKey (klS q)
  ·rfl
  ·exact absurd (c3r hp hq (WideAt.sameKey_eq hs)) h
/-! ### a map's content: a list of dots with their numbers,each dot once -/
def a5m (l:List (a0o×Int))(p:a0o):Option Int:=(l.find? fun e=>e.1==p).map (·.2)
def a9n (l:List (a0o×Int))(p:a0o):Bool:=l.any fun e=>e.1==p
def MapIs (W:World)(b n:Nat)(l:List (a0o×Int)):Prop :=
 ∃(D:DataW Unit),W.ownsMap prog 122 (plainElem prog 3) b n D∧(l.map (·.1)).Nodup∧(∀e∈l,a7g e.1) ∧
  ∀p,a7g p→has D (klS p)=a9n l p∧D.atKey (klS p) (.lit (.int .i64 0))= .lit (.int .i64 ((a5m l p).getD 0))
theorem MapIs.kept {W W':World}{b n:Nat}{l:List (a0o×Int)}{row:Option Nat}(h:MapIs W b n l)(hg:W.grownBy W' row)(hr:row≠some b):MapIs W' b n l:=by
 obtain⟨D,ho,h1,h2,h3⟩:=h;exact⟨D,ho.kept hg (fun e=>hr e.symm),h1,h2,h3⟩
theorem MapIs.lt {W:World}{b n:Nat}{l:List (a0o×Int)}(h:MapIs W b n l):b<W.heap.size:=by
 obtain⟨D,ho,-⟩:=h;exact ho.lt
theorem MapIs.alloc {W:World}{b n:Nat}{l:List (a0o×Int)}(h:MapIs W b n l)(o:Obj):MapIs (W.alloc o) b n l:=h.kept (World.grownBy_alloc W o none) (by simp)
theorem MapIs.below {W W':World}{b n n₀:Nat}{l:List (a0o×Int)}(h:MapIs W b n l)(hb:Below n₀ W W')(hB:b<n₀):MapIs W' b n l:=by
 obtain⟨D,⟨es,clock,he,r⟩,h1,h2,h3⟩:=h;exact⟨D,⟨es,clock,(hb.block b hB).trans he,r⟩,h1,h2,h3⟩
theorem MapIs.made (W:World):MapIs (W.alloc (.map #[] 0)) W.heap.size 0 [] :=
 ⟨.map [],World.ownsMap_made W _ _ _,by simp,by simp,fun p _=>⟨rfl,rfl⟩⟩
def b3o (l:List (a0o×Int))(p:a0o)(x:Int):List (a0o×Int):=if a9n l p then l.map (fun e=>if e.1==p then (p,x) else e) else l++[(p,x)]
theorem a2i {l:List (a0o×Int)}{p:a0o}:a9n l p=true↔p∈l.map (·.1):=by
 unfold a9n;rw[List.any_eq_true];constructor
 ·rintro⟨e,he,h⟩
  exact List.mem_map.2 ⟨e,he,by simpa using h⟩
 ·intro h
  obtain⟨e,he,h⟩:=List.mem_map.1 h;exact⟨e,he,by simpa using h⟩
theorem a5n (l:List (a0o×Int))(p:a0o)(x:Int):(b3o l p x).map (·.1)=if a9n l p then l.map (·.1) else l.map (·.1)++[p]:=by
 unfold b3o;split
 ·rw[List.map_map]
  refine List.map_congr_left fun e _=> ?_
  by_cases h:e.1=p
  ·simp[h]
  ·simp[h]
 ·simp
theorem c0d (l:List (a0o×Int))(p q:a0o)(x:Int):a9n (b3o l p x) q=(decide (q=p)||a9n l q):=by
 rw[Bool.eq_iff_iff,a2i,a5n,Bool.or_eq_true,decide_eq_true_iff];rw[show (a9n l q=true)=(q∈l.map (·.1)) from propext a2i];split
 ·rename_i h
  have:=a2i.1 h;constructor
  ·exact .inr
  ·rintro (rfl|h')
   ·exact this
   ·exact h'
 ·simp[or_comm]
theorem b3p (l:List (a0o×Int))(p q:a0o)(x:Int):a5m (b3o l p x) q=if q=p then some x else a5m l q:=by
 unfold b3o;split
 ·rename_i h
  unfold a9n at h;induction l with
  |nil=>simp at h
  |cons e l ih =>
   by_cases he:e.1=p
   ·by_cases hq:q=p
    ·subst hq;simp[a5m,he]
    ·have hne:¬p=q:=fun h=>hq h.symm
     have:∀l:List (a0o×Int),a5m (l.map fun e=>if e.1==p then (p,x) else e) q=a5m l q:=by
      intro l;induction l with
      |nil=>rfl
      |cons a l ih2 =>
       unfold a5m at ih2 ⊢;by_cases ha:a.1=p
       ·simp only[List.map_cons,ha,beq_self_eq_true,if_true,List.find?_cons]
        have h1:(p==q)=false:=by simpa using hne
        rw[h1];have h2:(a.1==q)=false:=by rw[ha];exact h1
        simp only[ha] at h2;simpa [ha,h1] using ih2
       ·have h1:(a.1==p)=false:=by simpa using ha
        simp only[List.map_cons,h1,List.find?_cons,Bool.false_eq_true,if_false]
        cases hh:a.1==q
        ·exact ih2
        ·rfl
     rw[this,if_neg hq]
   ·have h':l.any (fun e=>e.1==p)=true:=by simpa [he] using h
    have ih:=ih h';unfold a5m at ih ⊢;have h1:(e.1==p)=false:=by simpa using he
    simp only[List.map_cons,h1,List.find?_cons,Bool.false_eq_true,if_false]
    cases hh:e.1==q
    ·exact ih
    ·have:e.1=q:=by simpa using hh
     have hq:¬q=p:=fun h=>he (this.trans h)
     simp[hq]
 ·rename_i h
  unfold a5m;rw[List.find?_append];by_cases hq:q=p
  ·subst hq
   have:l.find? (fun e=>e.1==q)=none:=by
    rw[List.find?_eq_none];intro e he hh;exact h (by unfold a9n;exact List.any_eq_true.2 ⟨e,he,hh⟩)
   simp[this]
  ·have h1:(p==q)=false:=by simpa using fun e=>hq e.symm
   simp[h1,hq]
theorem MapIs.store {W W':World}{b n:Nat}{l:List (a0o×Int)}{D:DataW Unit}{p:a0o}{x:Int}(hD:IsMap D)(h1:(l.map (·.1)).Nodup)(h2:∀e∈l,a7g e.1)
 (h3:∀p,a7g p→has D (klS p)=a9n l p∧D.atKey (klS p) (.lit (.int .i64 0))= .lit (.int .i64 ((a5m l p).getD 0))) (hp:a7g p)
 (ho:W'.ownsMap prog 122 (plainElem prog 3) b n (D.put (klS p) (.lit (.int .i64 x)))):MapIs W' b n (b3o l p x):=by
 refine⟨_,ho,?_,?_,fun q hq=> ?_⟩
 ·rw[a5n]
  split
  ·exact h1
  ·rename_i h
   rw[List.nodup_append];refine⟨h1,by simp,fun a ha c hc=> ?_⟩;obtain rfl:c=p:=by simpa using hc
   exact fun e=>h (a2i.2 (e▸ha))
 ·intro e he
  have:e.1∈(b3o l p x).map (·.1):=List.mem_map.2 ⟨e,he,rfl⟩;rw[a5n] at this;split at this
  ·obtain⟨e',he',h⟩:=List.mem_map.1 this
   rw[←h];exact h2 e' he'
  ·rcases List.mem_append.1 this with h|h
   ·obtain⟨e',he',h⟩:=List.mem_map.1 h
    rw[←h];exact h2 e' he'
   ·rw[show e.1=p by simpa using h];exact hp
 ·have hk:=spotLaw.key (a1n hp)
  rw[c0d,b3p];by_cases hqp:q=p
  ·subst hqp
   simp[has_put_same hD hk,atKey_put_same hD hk]
  ·have hne:klS q≠klS p:=fun e=>hqp (c3r hq hp e)
   simp[has_put_other hne,atKey_put_other hne,hqp,h3 q hq]
end
section
open Go.RowKit Go.Maps Go.Shelf
attribute [local go_sem] Oper.semAt_some
def CollS (l:List (a0o×Int))(left:Lit→Bool)(ss:List a0o):Prop:=ss.Nodup∧(∀p∈ss,a7g p)∧∀p,a7g p→(p∈ss↔a9n l p=true∧left (klS p)=false)
theorem CollS.start {l:List (a0o×Int)}{D:DataW Unit}(h:∀p,a7g p→has D (klS p)=a9n l p):CollS l (has D) [] :=
 ⟨List.nodup_nil,by simp,fun p hp=>by rw[h p hp];cases a9n l p <;> simp⟩
theorem CollS.step {l:List (a0o×Int)}{left:Lit→Bool}{ss:List a0o}(h:CollS l left ss){x:a0o}(hx:a7g x)(hl:left (klS x)=true)(hh:a9n l x=true):CollS l (fun z=>left z&& !z.sameKey (klS x)) (ss++[x]):=by
 have hnew:x∉ss:=fun hm=>by have:=((h.2.2 x hx).1 hm).2;rw[hl] at this;cases this
 refine⟨List.nodup_append.2 ⟨h.1,by simp,fun a ha b hb=>by simp at hb;subst hb;exact fun e=>hnew (e▸ha)⟩,fun p hp=> ?_,fun p hp=> ?_⟩
 ·rcases List.mem_append.1 hp with h1|h1
  ·exact h.2.1 p h1
  ·rw[show p=x by simpa using h1];exact hx
 ·rw[List.mem_append,h.2.2 p hp]
  show _↔_∧(left (klS p)&& !(klS p).sameKey (klS x))=false;rw[c7d hp hx];by_cases hpx:p=x
  ·subst hpx;simp[hh]
  ·simp[hpx]
theorem CollS.all {l:List (a0o×Int)}{left:Lit→Bool}{ss:List a0o}(h:CollS l left ss)(h0:∀kl,left kl=false)(hf:∀e∈l,a7g e.1):ss.Nodup∧∀p,p∈ss↔p∈l.map (·.1):=by
 refine⟨h.1,fun p=> ?_⟩;constructor
 ·intro hp
  exact a2i.1 ((h.2.2 p (h.2.1 p hp)).1 hp).1
 ·intro hp
  obtain⟨e,he,rfl⟩:=List.mem_map.1 hp;exact (h.2.2 _ (hf e he)).2 ⟨a2i.2 hp,h0 _⟩
theorem c7e (F:Fence)(n:Nat)(hf:F.fn 162)(hro:F.round=none)(hn:1≤n)(l Bm b nn:Nat)(en:List (a0o×Int))(J Jx:List a0o→World→Prop)
 (hY:∀pre x W,J pre W→pre.length<nn→YieldAt F (n-1) prog l #[a4e x] W fun e W' =>
  (e= .returned (.bool true)∧J (pre++[x]) W'∧KeepsWalks W W')∨(e= .returned (.bool false)∧Jx (pre++[x]) W'))
 (W:World) (hJ:AbidesFrom W.heap.size J) (hm:W.cell? ⟨Bm,0,none⟩=some (.map (some b))) (hM:MapIs W b nn en) (h0:J [] W) :
 CallsIn F n prog 162 #[.func (.yield l) #[] #[],.pointer (some ⟨Bm,0,none⟩)] W fun e W'=>(∃v,e= .returned v) ∧
  ((∃ss,(ss.Nodup∧∀p,p∈ss↔p∈en.map (·.1))∧J ss W')∨(∃pre,(pre.Nodup∧∀p∈pre,p∈en.map (·.1))∧Jx pre W')):=by
 obtain⟨D,hown,hnd,hfit,hkeys⟩:=hM;refine callsIn_of_wp func162 rfl hf ?_ hro;simp only[ntmps162,List.size_toArray,List.length_cons,List.length_nil,Nat.reduceAdd,Nat.reduceSub,Array.replicate_succ,Array.replicate_zero,List.push_toArray,List.append_toArray,List.nil_append,List.cons_append];have hlk0:=Lib.hid hkeys;clear hkeys;gi_wp2_with (first|(gi_at_range;refine wpListIn_range_own _ rfl _ 117 rfl 122 3 spotLaw underlying117 _ b nn _ rfl hown ?_;intro w0 hrg0 hg0 hs0)|gi_in)
 go_frame
 gi_loopw [3] (fun _ wr=>∃(left:Lit→Bool) (cnt:Nat) (ss:List a0o),wr.ranges prog 122 (plainElem prog 3) b W.heap.size nn D left cnt∧ss.length+cnt≤Maps.size D∧CollS en left ss∧J ss wr)
  (fun _ wr=>wr.rangeLeft b W.heap.size)
 case atStart =>
  exact⟨_,_,[],hrg0,by simp,CollS.start (fun p hp=>(hlk0.out p hp).1),hJ [] W w0 none h0 hg0 (fun r e=>by cases e)⟩
 case round =>
  obtain⟨left,cnt,ss,hrg,hcs,hC,hJs⟩:=hrel;have hsz:=hown.size_le;gi_wp2_with (first|(gi_at_next;refine wpListIn_next_ranges _ rfl _ rfl 122 spotLaw (plainElem prog 3) a4e id (fun key kl hk=>by obtain⟨x,_,hx,_⟩:=a3l hk;exact⟨x,hx⟩) (fun v _ _=>⟨v,rfl⟩) b W.heap.size nn _ _ _ rfl hrg ?_ ?_)|gi_in)
  ·intro hc0 hl0
   gi_wp2;go_end0;exact⟨⟨_,rfl⟩,.inl ⟨ss,hC.all hl0 hfit,hJs⟩⟩
  ·intro x0 x1 c kl yd yp w2 cnt2 hkey hlk hv hat hrg2 hlt hg2 hs2 hen
   obtain⟨x',fx,ex,rfl⟩:=a3l hkey;obtain rfl:(x0,x1)=x':=by simp at ex;exact Prod.ext ex.1 ex.2
   have hJ2:J ss w2:=hJ ss wr w2 (some W.heap.size) hJs hg2 (fun r e=>by cases e;exact⟨yR _,hrg.iter_walk⟩);have hhas:a9n en (x0,x1)=true:=by rw[←(hlk0.out (x0,x1) fx).1];exact has_true_of_atKey hat
   have hC2:=hC.step fx hlk hhas;clear hs2 hkey hhas;obtain⟨fn,tmps,assign,body,hy,hR⟩:=hY ss (x0,x1) (w2.alloc (.cells #[.int .i64 x0,.int .i64 x1] 122)) (hJ ss w2 _ none hJ2 (World.grownBy_alloc w2 _ none) (fun r e=>by cases e)) (by omega);gi_wp2;refine hR.mono ?_;rintro e W3 (⟨rfl,hJ3,hk3⟩|⟨rfl,hJx3⟩)
   ·gi_wp2
    have hrg3:=(hrg2.alloc (.cells #[.int .i64 x0,.int .i64 x1] 122)).of_walks hk3;go_roundw
    case rel=>exact⟨_,cnt2,ss++[(x0,x1)],hrg3,by simp;omega,hC2,hJ3⟩
    case measure=>rw[hrg3.left_eq,hrg.left_eq];exact hlt
   ·gi_wp2
    refine bodyPost_ret (results_none rfl _ _ _) rfl ?_;exact⟨⟨_,rfl⟩,.inr ⟨ss++[(x0,x1)],⟨hC2.1,fun y hy=>by have fy:=hC2.2.1 y hy;exact a2i.1 ((hC2.2.2 y fy).1 hy).1⟩,hJx3⟩⟩
theorem c3s (F:Fence)(n:Nat)(hf:F.fn 124)(hro:F.round=none)(mb:Option Nat)(w:World) :
 CallsIn F n prog 124 #[.map mb] w fun e w'=>e= .returned (.func (.func 162) #[] #[.pointer (some ⟨w.heap.size,0,none⟩)])∧w'=w.alloc (.cells #[.map mb] 117):=by
 refine callsIn_of_wp func124 rfl hf ?_ hro;simp only[ntmps124,List.size_toArray,List.length_cons,List.length_nil,Nat.reduceAdd,Nat.reduceSub,Array.replicate_succ,Array.replicate_zero,List.push_toArray,List.append_toArray,List.nil_append,List.cons_append];gi_wp2;go_ret;exact⟨rfl,rfl⟩
theorem b2m (F:Fence)(n:Nat)(hf:F.fn 162)(hro:F.round=none)(hn:1≤n)(Bm b nn:Nat)(en:List (a0o×Int))(w:World)(hBm:Bm<w.heap.size)
 (hm:w.cell? ⟨Bm,0,none⟩=some (.map (some b))) (hM:MapIs w b nn en) :
 SeqStopsK F n prog 162 #[.pointer (some ⟨Bm,0,none⟩)] (fun x:a0o=> #[a4e x]) KeepsWalks (fun ss=>ss.Nodup∧∀p,p∈ss↔p∈en.map (·.1)) (fun pre=>pre.Nodup∧∀p∈pre,p∈en.map (·.1)) nn w:=fun l J Jx W hW hJ _ hY h0 =>
 c7e F n hf hro hn l Bm b nn en J Jx hY W hJ ((hW.cell (p:=⟨Bm,0,none⟩) hBm).trans hm) (hM.below hW hM.lt) h0
end
section
open Go.RowKit Go.Shelf
theorem c3t {β:Type}(B:Nat)(t:TypeId)(f:β→Array Value):Own (fun s W=>Blk W B (f s) t):=fun s X Y row hs hg hrow =>
 hs.kept hg (fun e'=>by obtain⟨o,ho,hc⟩:=hrow B e';rw[show X.heap[B]? =_ from hs] at ho;cases ho;cases hc)
theorem b3q {W:World}{base:Nat}{e:TypeId}{size:Nat}{v:Value}{k:Nat}{xs:List Value}(h:W.ownsRow base e size v k xs):∀(j:Nat)(o:Obj),v.ownBlock=some j→W.heap[j]? =some o→o.isCells=true:=by
 intro j o hj ho;rcases h.2 with ⟨rfl,_⟩|⟨g,cap,cur,rfl,_,hgb,_⟩
 ·simp[Value.ownBlock] at hj
 ·have:g=j:=by simpa [Value.ownBlock] using hj
  subst this;rw[hgb] at ho;cases ho;rfl
end
section
open Go.RowKit Go.Shelf
attribute [local go_sem] Oper.semAt_some
theorem c7f:(prog.info? 122).map (fun i=>(i.zero,i.size,i.bytes))=some (some (.agg #[.int .i64 0,.int .i64 0]),2,16):=by kernel_rfl
structure ApI (w:World)(B:Nat)(pre:List a0o)(W:World):Prop where
 box:∃v,Blk W B #[v] 188∧W.ownsRow w.heap.size 122 2 v pre.length (pre.flatMap b2b)∧(v= .slice none 0 0↔pre=[])
 below:Below w.heap.size w W
theorem d0e (w:World)(B B':Nat)(hB:w.heap.size≤B'):OwnFrom B' (ApI w B):=fun s X Y row hs hg hr=>by
 obtain⟨v,hb,hrow,hn⟩:=hs.box;exact⟨⟨v,hb.kept hg (fun e'=>by obtain⟨-,o,ho,hc⟩:=hr B e';rw[show X.heap[B]? =_ from hb] at ho;cases ho;cases hc),
  a0w hrow hg (fun r e=>by obtain⟨-,o,ho,hc⟩:=hr r e;exact⟨o,ho,fun cur e=>by subst e;cases hc⟩),hn⟩,hs.below.grown hg hs.below.size (fun k e=>Nat.le_trans hB (hr k e).1)⟩
theorem b5l (F:Fence)(n:Nat)(hf:F.fn 179)(hro:F.round=none)(hn:2≤n)(g:Nat)(lb:Array Value)(hFg:F.fn g)(eg:∀args w,(callFunc g args).run prog w= .ok (.enter g args) w)
 (S Sp:List a0o→Prop) (N:Nat) (hN:N≤4294967296) (w:World) (hseq:SeqStopsK F (n-1) prog g lb (fun x:a0o=> #[a4e x]) KeepsWalks S Sp N w) :
 CallsIn F n prog 179 #[.slice none 0 0,.func (.func g) #[] lb] w fun e w'=>∃v ss,e= .returned v∧S ss∧w'.ownsRow w.heap.size 122 2 v ss.length (ss.flatMap b2b)∧(v= .slice none 0 0↔ss=[])∧Below w.heap.size w w':=by
 have h1:1≤n:=by omega
 obtain⟨i0,hi0,hz0,hz1,hz2⟩:=info_parts c7f;refine callsIn_of_wp_marks func179 rfl hf ?_ hro;simp only[ntmps179,List.size_toArray,List.length_cons,List.length_nil,Nat.reduceAdd,Nat.reduceSub,Array.replicate_succ,Array.replicate_zero,List.push_toArray,List.append_toArray,List.nil_append,List.cons_append];gi_wp2;have bS:=Blk.new w #[.slice none 0 0] 188;obtain⟨W0,hW0⟩:∃W0,w.alloc (.cells #[.slice none 0 0] 188)=W0:=⟨_,rfl⟩;have hB0:Below w.heap.size w W0:=by rw[←hW0];exact (by repeat' (first|with_reducible (first|exact zR _ _|exact yR _|assumption|refine zG ?_ ?_ _|refine zA ?_ ?_ _|refine zS ?_ ?_ _|refine zD ?_|refine yA ?_|refine yG ?_|refine yS ?_|refine yD ?_)|omega|(dsimp only;omega)))
 have hsz:W0.heap.size=w.heap.size+1:=by rw[←hW0];simp
 rw[hW0] at bS ⊢;clear hW0;refine wpIn_rangeFunc_ownH hro h1 (gf:=g) (lb:=lb) rfl hFg eg hseq walksK_t walksK_b hB0 (fun _=>rfl)
  (ApI w w.heap.size) (fun _ _ _=>False)
  (d0e w _ _ (by omega)) (fun c=>ownFrom_pure _ _)
  ⟨⟨_,bS,⟨rfl,.inl ⟨rfl,rfl⟩⟩,by simp⟩,hB0⟩
  (fun x a' W=>∃Bx,w.heap.size<Bx∧Blk W Bx #[.int .i64 x.1,.int .i64 x.2] 122∧a'={ tmps:= #[.slice none 0 0,.func (.func g) #[] lb,.pointer (some ⟨w.heap.size,0,none⟩),undef,.slice none 0 0,.pointer (some ⟨Bx,0,none⟩),.func (.func g) #[] lb,a4e x,undef,undef,undef,undef,undef],defers:=[] })
  (fun x a' _ X Y row hs hg hr=>by obtain⟨Bx,h1,h2,h3⟩:=hs;exact⟨Bx,h1,c3t Bx 122 (fun (_:Unit)=> #[Value.int .i64 x.1,Value.int .i64 x.2]) () X Y row h2 hg (fun r e=>(hr r e).2),h3⟩)
  ?assign ?body ?done ?stop
 case assign =>
  rintro l pre x W K⟨⟨v,bS1,hrow,hnl⟩,hB1⟩ hK;gi_wp2;have hlt:=bS1.lt;exact hK _ _ ((KeepsOthers.alloc _ _).from _) (KeepsWalks.alloc _ _) ⟨⟨v,bS1.alloc _,hrow.alloc _,hnl⟩,hB1.alloc hB1.size _⟩ ⟨W.heap.size,by omega,Blk.new W _ _,rfl⟩
 case body =>
  rintro l pre x a' W hl⟨r,hr⟩ ⟨⟨v,bS1,hrow,hnl⟩,hB1⟩ ⟨Bx,hBx,bX,rfl⟩ hlt;have cS:W.cell? ⟨w.heap.size,0,none⟩=some v:=bS1.cell 0;have fS:=bS1.frozen 0;have cX0:W.cell? ⟨Bx,0,none⟩=some (.int .i64 x.1):=bX.cell 0;have cX1:W.cell? ⟨Bx,1,none⟩=some (.int .i64 x.2):=bX.cell 1;obtain⟨x0,x1⟩:=x;simp only at cX0 cX1;have hne:188≠122:=by decide
  have hne2:=a0r (hrow.alloc (.cells #[.int .i64 x0,.int .i64 x1] 122)) (bS1.alloc _) hne;have hsW:=hB1.size;have hnews:∀j u,(b2b (x0,x1))[j]? =some u→(W.alloc (.cells #[.int .i64 x0,.int .i64 x1] 122)).cell? ((⟨W.heap.size,0,none⟩:Addr).add j)=some u:=fun j u hj=>by
   have hb:=(Blk.new W #[.int .i64 x0,.int .i64 x1] 122).cell j;rw[Go.WideShapes.add_plain,Nat.zero_add,hb];match j,hj with
   |0,hj=>exact hj
   |1,hj=>exact hj
   |j+2,hj=>simp at hj
  have h1c:∀u∈b2b (x0,x1),u.oneCell'=true:=by simp[Value.oneCell']
  gi_wp2_with (first|(gi_at_builtin;refine wpListIn_append_own _ (by rfl) _ _ 188 (by rfl) w.heap.size 122 i0 _ 2 16 underlying188 hi0 hz0 hz1 hz2 (by rfl) (by decide) v pre.length _ (by rfl) (hrow.alloc _) ⟨W.heap.size,0,none⟩ 1 1 (b2b (x0,x1)) (by rfl) (by rfl) hnews h1c (by unfold maxLen;omega) (by omega) (by simp;omega) ?_;intro v' w3 hown' hg3 hnil3;have bS3:=(bS1.alloc (.cells #[.int .i64 x0,.int .i64 x1] 122)).kept hg3 hne2;have cS3:w3.cell? ⟨w.heap.size,0,none⟩=some v:=bS3.cell 0;have fS3:=bS3.frozen 0;obtain⟨g',cap',rfl⟩:∃g' cap',v'= .slice (some ⟨g',0,none⟩) (pre.length+1) cap':=(by rcases hown'.2 with ⟨_,h0⟩|⟨g',cap',cur',e',_⟩;exact absurd h0 (by omega);exact⟨g',cap',e'⟩);go_frame)|gi_in)
  have hko:KeepsOthers W (w3.setCell ⟨w.heap.size,0,none⟩ (.slice (some ⟨g',0,none⟩) (pre.length+1) cap')) :=
   (KeepsOthers.alloc _ _).trans ((KeepsOthers.of_grownBy hg3 (b3q (hrow.alloc _))).trans (KeepsOthers.setCell _ _ _))
  have hB3:Below w.heap.size w w3:=(hB1.alloc hsW _).grown hg3 (by simp;omega) (fun k e=>(hrow.lt k e).1);refine⟨hko.from _,hko.walks,⟨⟨_,by have:=bS3.set 0 (.slice (some ⟨g',0,none⟩) (pre.length+1) cap');simpa using this,?_,by simp⟩,hB3.setCell (p:=⟨w.heap.size,0,none⟩) (yR _) _⟩⟩;have:=hown'.kept (grownBy_setCell' w3 w.heap.size (.slice (some ⟨g',0,none⟩) (pre.length+1) cap')) (.inr (a0r hown' bS3 hne));simpa using this
 case done =>
  rintro D ys W hD hS⟨⟨v,bS1,hrow,hnl⟩,hB1⟩ hK;have cS:W.cell? ⟨w.heap.size,0,none⟩=some v:=bS1.cell 0;have fS:=bS1.frozen 0;gi_wp2;refine⟨by simp,.inl ⟨_,_,rfl,run_takeDeferred hK,?_⟩⟩;exact⟨_,results_tmp rfl _ _ _,v,ys,rfl,hS,a0w hrow (grownBy_putObj' _ _ _) (fun r e=>by cases e;exact⟨_,hK,fun cur e=>by cases e⟩),hnl,hB1.grown (grownBy_putObj' _ _ _) hB1.size (fun k e=>by cases e;omega)⟩
 case stop =>
  rintro D c pre W hD hS hF hK;exact hF.elim
theorem b2n (F:Fence)(n:Nat)(hf:F.fn 160)(hf2:F.fn 179)(hro:F.round=none)(hn:3≤n)(g:Nat)(lb:Array Value)(hFg:F.fn g)(eg:∀args w,(callFunc g args).run prog w= .ok (.enter g args) w)
 (S Sp:List a0o→Prop) (N:Nat) (hN:N≤4294967296) (w:World) (hseq:SeqStopsK F (n-1-1) prog g lb (fun x:a0o=> #[a4e x]) KeepsWalks S Sp N w) :
 CallsIn F n prog 160 #[.func (.func g) #[] lb] w fun e w'=>∃v ss,e= .returned v∧S ss∧w'.ownsRow w.heap.size 122 2 v ss.length (ss.flatMap b2b)∧(v= .slice none 0 0↔ss=[])∧Below w.heap.size w w':=by
 have h1:1≤n:=by omega
 refine callsIn_of_wp func160 rfl hf ?_ hro;simp only[ntmps160,List.size_toArray,List.length_cons,List.length_nil,Nat.reduceAdd,Nat.reduceSub,Array.replicate_succ,Array.replicate_zero,List.push_toArray,List.append_toArray,List.nil_append,List.cons_append];gi_wp2_with (gi_at_call 179;refine (b5l F (n-1) hf2 hro (by omega) g lb hFg eg S Sp N hN _ hseq).mono ?_;rintro e w'⟨v,ss,rfl,hS,hrow,hnl,hb⟩)
 go_ret;exact⟨v,ss,rfl,hS,hrow,hnl,hb⟩
end
section
open Go.RowKit
theorem a3g {k:IntKind}{a b:Int}(h:a=b):Ending.returned (.int k a)= .returned (.int k b):=by rw[h]
end
section
open Go.RowKit Go.Shelf
attribute [local go_sem] Oper.semAt_some
theorem c1p (n lo hi:Int)(w:World) :
 Calls prog 59 #[.int .i64 n,.int .i64 lo,.int .i64 hi] w fun e w'=>e= .returned (.bool (decide (lo≤n)&&decide (n≤hi)))∧w=w':=by
 go_enter func59,ntmps59;go_wp2_with fail
 all_goals
  go_ret;exact⟨by first|rfl|(congr 2;simp;omega),rfl⟩
theorem c3u {a b:Int}(hb:0<b):a / b=if a.tmod b<0 then a.tdiv b-1 else a.tdiv b:=by
 have h1:=Int.mul_tdiv_add_tmod a b;have h2:=Int.lt_tmod_of_pos a hb;have h3:=Int.tmod_lt_of_pos a hb;split
 ·refine ((Int.ediv_emod_unique (a:=a) (b:=b) (r:=a.tmod b+b) (q:=a.tdiv b-1) hb).2 ⟨?_,?_,?_⟩).1
  ·rw[Int.mul_sub];omega
  ·omega
  ·omega
 ·refine ((Int.ediv_emod_unique (a:=a) (b:=b) (r:=a.tmod b) (q:=a.tdiv b) hb).2 ⟨?_,?_,?_⟩).1
  ·omega
  ·omega
  ·omega
theorem c0e {a b:Int}(hb:0<b){m:Int}(h0 : -m≤a)(h1:a≤m) : -m≤a.tdiv b∧a.tdiv b≤m:=by
 have h:(a.tdiv b).natAbs=a.natAbs / b.natAbs:=Int.natAbs_tdiv a b;have h2:a.natAbs / b.natAbs≤a.natAbs:=Nat.div_le_self _ _;omega
theorem c3v {a b:Int}(hb:0<b){m:Int}(h0 : -m≤a)(h1:a≤m) : -m≤a / b∧a / b≤m:=by
 have h:=Int.ediv_nonneg (a:=a+b*m) (b:=b) (by have:1*m≤b*m:=Int.mul_le_mul_of_nonneg_right (by omega) (by omega);omega) (by omega);rw[Int.add_mul_ediv_left _ _ (by omega)] at h;have:=Int.ediv_le_self b (a:=a);have h3:=(c0e hb h0 h1).2;have h4:=c3u (a:=a) hb;split at h4 <;> omega
theorem c3w (a b:Int)(w:World)(hb:0<b)(h0 : -4611686018427387904≤a)(h1:a≤4611686018427387904) :
 Calls prog 140 #[.int .i64 a,.int .i64 b] w fun e w'=>e= .returned (.int .i64 (a / b))∧w=w':=by
 obtain⟨q0,q1⟩:=c0e hb h0 h1;have hb0:¬b=0:=by omega
 have he:=c3u (a:=a) hb;go_enter func140,ntmps140;by_cases hs:a.tmod b<0
 ·rw[if_pos hs] at he
  replace he:=Lib.hid he;go_wp2_with fail;go_ret;exact⟨a3g he.out.symm,rfl⟩
 ·rw[if_neg hs] at he
  replace he:=Lib.hid he;go_wp2_with fail;go_ret;exact⟨a3g he.out.symm,rfl⟩
def a2b (x y:Int):Bool:=decide (-16384≤x)&&decide (x≤16384)&&(decide (-16384≤y)&&decide (y≤16384))
theorem c3x (x:Int)(b:Nat)(w:World)(hc:w.cell? ⟨b,0,none⟩=some (.int .i64 16384)) :
 Calls prog 155 #[.int .i64 x,.pointer (some ⟨b,0,none⟩)] w fun e w'=>e= .returned (.bool (!(decide (-16384≤x)&&decide (x≤16384))))∧∃q,w'=w.drewN q:=by
 go_enter func155,ntmps155;by_cases h1:x < -16384
 ·go_wp2_with fail
  go_ret;exact⟨by simp;omega,0,rfl⟩
 ·by_cases h2:16384<x
  ·go_wp2_with fail
   go_ret;exact⟨by simp;omega,0,rfl⟩
  ·go_wp2_with fail
   go_ret;exact⟨by simp <;> omega,0,rfl⟩
theorem d1x (b:Nat)(w:World)(hb:b<w.heap.size)(hc:w.cell? ⟨b,0,none⟩=some (.int .i64 16384)) :
 PredAt prog 155 #[.pointer (some ⟨b,0,none⟩)] (Value.int .i64) (fun x=> !(decide (-16384≤x)&&decide (x≤16384))) w:=fun W x h =>
 c3x x b W ((h.cell (p:=⟨b,0,none⟩) hb).trans hc)
theorem b8h (x y:Int)(b:Nat)(w:World)(h0:w.cell? ⟨b,0,none⟩=some (.int .i64 x))(h1:w.cell? ⟨b,1,none⟩=some (.int .i64 y)) :
 Calls prog 112 #[.int .i64 16384,.slice (some ⟨b,0,none⟩) 2 2] w fun e w'=>e= .returned (.bool (a2b x y))∧Below w.heap.size w w':=by
 have hl0:=World.block_lt_of_cell? _ _ h0;have e63:∀args w,(callFunc 155 args).run prog w= .ok (.enter 155 args) w:=enters_of func155 (by kernel_rfl) rfl;have hcon:=Go.Proofs.Tryz.slices_ContainsFunc (Value.int .i64) (fun x=> !(decide (-16384≤x)&&decide (x≤16384))) 155 #[.pointer (some ⟨w.heap.size,0,none⟩)] e63 b 0 2 2 [x,y] (w.alloc (.cells #[.int .i64 16384] 3))
  (d1x w.heap.size _ (by simp) (by simp)) (yR 2) (by omega) (fun j hj=>by
   refine Lib.cell?_alloc_some _ ?_;match j,hj with
   |0,_=>exact h0
   |1,_=>exact h1)
 have hr:(([x,y].take 2).any fun x=> !(decide (-16384≤x)&&decide (x≤16384)))= !a2b x y:=by simp[a2b]
 rw[hr] at hcon;clear hr;generalize hg:a2b x y=r at hcon ⊢;clear hg;go_enter func112,ntmps112;go_wp2_with (go_at_call 154;refine hcon.mono ?_;rintro e w'⟨rfl,q,rfl⟩);go_ret;exact⟨by simp,below_drewN' ((zR _ w).alloc (yR _) _) q⟩
theorem c3y (x y:Int)(w:World) :
 Calls prog 60 #[.agg #[.int .i64 x,.int .i64 y]] w fun e w'=>e= .returned (.bool (a2b x y))∧Below w.heap.size w w':=by
 go_enter func60,ntmps60;go_wp2_with (go_at_call 112;refine (b8h x y _ _ (by simp) (by simp)).mono ?_;rintro e w'⟨rfl,hb_⟩;obtain⟨p,rfl⟩:=a0c hb_;clear hb_);go_ret;exact⟨rfl,(by repeat' (first|with_reducible (first|exact zR _ _|exact yR _|assumption|refine zG ?_ ?_ _|refine zA ?_ ?_ _|refine zS ?_ ?_ _|refine zD ?_|refine yA ?_|refine yG ?_|refine yS ?_|refine yD ?_)|omega|(dsimp only;omega)))⟩
structure Sh where
 ax:Int
 ay:Int
 st:Int
 w:Int
 h:Int
 g:Int
abbrev shV (s:Sh):Value:= .agg #[.int .i64 s.ax,.int .i64 s.ay,.int .i64 s.st,.int .i64 s.w,.int .i64 s.h,.int .i64 s.g]
def inR (lo n hi:Int):Bool:=decide (lo≤n)&&decide (n≤hi)
theorem b0j {lo n hi:Int}:inR lo n hi=true↔lo≤n∧n≤hi:=by simp[inR]
def a1w (s:Sh):Int :=
 if inR 1 s.st 1024&&inR 1 s.w 80&&inR 1 s.h 80&&inR 1 s.g 4 then
  if a2b s.ax s.ay&&a2b (s.ax+s.w*s.st) (s.ay+s.h*s.st) then 0 else 10
 else 3
theorem a2f {n lo hi:Int}{b:Bool}(h:inR lo n hi=b)(w:World) :
 Calls prog 59 #[.int .i64 n,.int .i64 lo,.int .i64 hi] w fun e w'=>e= .returned (.bool b)∧w=w':=by
 have h':=c1p n lo hi w;rw[show (decide (lo≤n)&&decide (n≤hi))=b from h] at h';exact h'
theorem a6b {x y:Int}{b:Bool}(h:a2b x y=b)(w:World) :
 Calls prog 60 #[.agg #[.int .i64 x,.int .i64 y]] w fun e w'=>e= .returned (.bool b)∧Below w.heap.size w w':=by
 have h':=c3y x y w;rw[h] at h';exact h'
theorem c3z (x y a b:Int)(w:World)(h1 : -4611686018427387904≤x)(h2:x≤4611686018427387903)(h3 : -4611686018427387904≤y)(h4:y≤4611686018427387903)(h5 : -4611686018427387904≤a)(h6:a≤4611686018427387903)(h7 : -4611686018427387904≤b)(h8:b≤4611686018427387903) :
 Calls prog 61 #[.agg #[.int .i64 x,.int .i64 y],.agg #[.int .i64 a,.int .i64 b]] w fun e w'=>e= .returned (.agg #[.int .i64 (x+a),.int .i64 (y+b)])∧Below w.heap.size w w':=by
 go_enter func61,ntmps61;go_wp2_with fail;exact bodyPost_ret (v:= .agg #[.int .i64 (x+a),.int .i64 (y+b)]) (by simp[results,results61,go_sem]) rfl ⟨rfl,(by repeat' (first|with_reducible (first|exact zR _ _|exact yR _|assumption|refine zG ?_ ?_ _|refine zA ?_ ?_ _|refine zS ?_ ?_ _|refine zD ?_|refine yA ?_|refine yG ?_|refine yS ?_|refine yD ?_)|omega|(dsimp only;omega)))⟩
theorem c4a (s:Sh)(w:World)(f0:a0i s.ax)(f1:a0i s.ay) :
 Calls prog 22 #[shV s] w fun e w'=>e= .returned (.int .i64 (a1w s))∧Below w.heap.size w w':=by
 obtain⟨ax,ay,st,W,H,G⟩:=s;obtain⟨b1,h1⟩:∃b,inR 1 st 1024=b:=⟨_,rfl⟩;obtain⟨b2,h2⟩:∃b,inR 1 W 80=b:=⟨_,rfl⟩;obtain⟨b3,h3⟩:∃b,inR 1 H 80=b:=⟨_,rfl⟩;obtain⟨b4,h4⟩:∃b,inR 1 G 4=b:=⟨_,rfl⟩;obtain⟨b5,h5⟩:∃b,a2b ax ay=b:=⟨_,rfl⟩;obtain⟨b6,h6⟩:∃b,a2b (ax+W*st) (ay+H*st)=b:=⟨_,rfl⟩;have hr:a1w ⟨ax,ay,st,W,H,G⟩=if b1&&b2&&b3&&b4 then (if b5&&b6 then 0 else 10) else 3:=by
  unfold a1w;simp only[h1,h2,h3,h4,h5,h6]
 rw[hr];clear hr
 cases b1 with
 |false =>
  replace h1:=Lib.hid h1;clear h2 h3 h4 h5 h6;go_enter func22,ntmps22;go_wp2_with (go_at_call 59;refine (a2f (by first|with_reducible exact h1.out) _).mono ?_;rintro e w'⟨rfl,rfl⟩);go_ret;exact⟨rfl,(by repeat' (first|with_reducible (first|exact zR _ _|exact yR _|assumption|refine zG ?_ ?_ _|refine zA ?_ ?_ _|refine zS ?_ ?_ _|refine zD ?_|refine yA ?_|refine yG ?_|refine yS ?_|refine yD ?_)|omega|(dsimp only;omega)))⟩
 |true =>
 cases b2 with
 |false =>
  replace h1:=Lib.hid h1;replace h2:=Lib.hid h2;clear h3 h4 h5 h6;go_enter func22,ntmps22;go_wp2_with (go_at_call 59;refine (a2f (by first|with_reducible exact h1.out|with_reducible exact h2.out) _).mono ?_;rintro e w'⟨rfl,rfl⟩);go_ret;exact⟨rfl,(by repeat' (first|with_reducible (first|exact zR _ _|exact yR _|assumption|refine zG ?_ ?_ _|refine zA ?_ ?_ _|refine zS ?_ ?_ _|refine zD ?_|refine yA ?_|refine yG ?_|refine yS ?_|refine yD ?_)|omega|(dsimp only;omega)))⟩
 |true =>
 cases b3 with
 |false =>
  replace h1:=Lib.hid h1;replace h2:=Lib.hid h2;replace h3:=Lib.hid h3;clear h4 h5 h6;go_enter func22,ntmps22;go_wp2_with (go_at_call 59;refine (a2f (by first|with_reducible exact h1.out|with_reducible exact h2.out|with_reducible exact h3.out) _).mono ?_;rintro e w'⟨rfl,rfl⟩);go_ret;exact⟨rfl,(by repeat' (first|with_reducible (first|exact zR _ _|exact yR _|assumption|refine zG ?_ ?_ _|refine zA ?_ ?_ _|refine zS ?_ ?_ _|refine zD ?_|refine yA ?_|refine yG ?_|refine yS ?_|refine yD ?_)|omega|(dsimp only;omega)))⟩
 |true =>
 cases b4 with
 |false =>
  replace h1:=Lib.hid h1;replace h2:=Lib.hid h2;replace h3:=Lib.hid h3;replace h4:=Lib.hid h4;clear h5 h6;go_enter func22,ntmps22;go_wp2_with (go_at_call 59;refine (a2f (by first|with_reducible exact h1.out|with_reducible exact h2.out|with_reducible exact h3.out|with_reducible exact h4.out) _).mono ?_;rintro e w'⟨rfl,rfl⟩);go_ret;exact⟨rfl,(by repeat' (first|with_reducible (first|exact zR _ _|exact yR _|assumption|refine zG ?_ ?_ _|refine zA ?_ ?_ _|refine zS ?_ ?_ _|refine zD ?_|refine yA ?_|refine yG ?_|refine yS ?_|refine yD ?_)|omega|(dsimp only;omega)))⟩
 |true =>
 have q1:=b0j.1 h1;have q2:=b0j.1 h2;have q3:=b0j.1 h3;obtain⟨q10,q11⟩:=q1;obtain⟨q20,q21⟩:=q2;obtain⟨q30,q31⟩:=q3;have m1:=Int.mul_le_mul (a:=W) (b:=st) (c:=80) (d:=1024) q21 q11 (by omega) (by omega);have m2:=Int.mul_le_mul (a:=H) (b:=st) (c:=80) (d:=1024) q31 q11 (by omega) (by omega);have m3:=Int.mul_nonneg (a:=W) (b:=st) (by omega) (by omega);have m4:=Int.mul_nonneg (a:=H) (b:=st) (by omega) (by omega);have m1:W*st≤81920:=m1;have m2:H*st≤81920:=m2
 cases b5 with
 |false =>
  replace h1:=Lib.hid h1;replace h2:=Lib.hid h2;replace h3:=Lib.hid h3;replace h4:=Lib.hid h4;replace h5:=Lib.hid h5;clear h6;go_enter func22,ntmps22;go_wp2_with (first|(go_at_call 59;refine (a2f (by first|with_reducible exact h1.out|with_reducible exact h2.out|with_reducible exact h3.out|with_reducible exact h4.out) _).mono ?_;rintro e w'⟨rfl,rfl⟩)|(go_at_call 60;refine (a6b (by first|with_reducible exact h5.out) _).mono ?_;rintro e w'⟨rfl,hb_⟩;obtain⟨p,rfl⟩:=a0c hb_;clear hb_));go_ret;exact⟨rfl,(by repeat' (first|with_reducible (first|exact zR _ _|exact yR _|assumption|refine zG ?_ ?_ _|refine zA ?_ ?_ _|refine zS ?_ ?_ _|refine zD ?_|refine yA ?_|refine yG ?_|refine yS ?_|refine yD ?_)|omega|(dsimp only;omega)))⟩
 |true =>
 have q5:(-16384≤ax∧ax≤16384) ∧ -16384≤ay∧ay≤16384:=by simpa [a2b] using h5
 obtain⟨⟨q50,q51⟩,q52,q53⟩:=q5
 cases b6 with
 |false =>
  replace h1:=Lib.hid h1;replace h2:=Lib.hid h2;replace h3:=Lib.hid h3;replace h4:=Lib.hid h4;replace h5:=Lib.hid h5;replace h6:=Lib.hid h6;go_enter func22,ntmps22;go_wp2_with (first|(go_at_call 59;refine (a2f (by first|with_reducible exact h1.out|with_reducible exact h2.out|with_reducible exact h3.out|with_reducible exact h4.out) _).mono ?_;rintro e w'⟨rfl,rfl⟩)|(go_at_call 60;refine (a6b (by first|with_reducible exact h5.out|with_reducible exact h6.out) _).mono ?_;rintro e w'⟨rfl,hb_⟩;obtain⟨p,rfl⟩:=a0c hb_;clear hb_)|(go_at_call 61;refine (c3z _ _ _ _ _ (by omega) (by omega) (by omega) (by omega) (by omega) (by omega) (by omega) (by omega)).mono ?_;rintro e w'⟨rfl,hb_⟩;obtain⟨p,rfl⟩:=a0c hb_;clear hb_));go_ret;exact⟨rfl,(by repeat' (first|with_reducible (first|exact zR _ _|exact yR _|assumption|refine zG ?_ ?_ _|refine zA ?_ ?_ _|refine zS ?_ ?_ _|refine zD ?_|refine yA ?_|refine yG ?_|refine yS ?_|refine yD ?_)|omega|(dsimp only;omega)))⟩
 |true =>
  replace h1:=Lib.hid h1;replace h2:=Lib.hid h2;replace h3:=Lib.hid h3;replace h4:=Lib.hid h4;replace h5:=Lib.hid h5;replace h6:=Lib.hid h6;go_enter func22,ntmps22;go_wp2_with (first|(go_at_call 59;refine (a2f (by first|with_reducible exact h1.out|with_reducible exact h2.out|with_reducible exact h3.out|with_reducible exact h4.out) _).mono ?_;rintro e w'⟨rfl,rfl⟩)|(go_at_call 60;refine (a6b (by first|with_reducible exact h5.out|with_reducible exact h6.out) _).mono ?_;rintro e w'⟨rfl,hb_⟩;obtain⟨p,rfl⟩:=a0c hb_;clear hb_)|(go_at_call 61;refine (c3z _ _ _ _ _ (by omega) (by omega) (by omega) (by omega) (by omega) (by omega) (by omega) (by omega)).mono ?_;rintro e w'⟨rfl,hb_⟩;obtain⟨p,rfl⟩:=a0c hb_;clear hb_));go_ret;exact⟨rfl,(by repeat' (first|with_reducible (first|exact zR _ _|exact yR _|assumption|refine zG ?_ ?_ _|refine zA ?_ ?_ _|refine zS ?_ ?_ _|refine zD ?_|refine yA ?_|refine yG ?_|refine yS ?_|refine yD ?_)|omega|(dsimp only;omega)))⟩
end
end Go.Proofs.YtfocdbjceedagaaGreatDoor
