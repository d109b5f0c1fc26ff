/-
  Parts.
-/
import Derived.Test.YtfocdbjceedagaaGreatDoorXad
import Derived.Test.YtfocdbjceedagaaGreatDoorXaf
import Derived.Shelf.SlSortCmp.QuietGrown
set_option linter.unusedVariables false
set_option linter.unusedSimpArgs false
set_option maxHeartbeats 4000000
set_option maxRecDepth 100000
namespace Go.Proofs.YtfocdbjceedagaaGreatDoor
open Tryz
section
open Go.RowKit Go.Maps Go.Shelf
attribute [local go_sem] Oper.semAt_some
def CollS (l:List (a0r×Int))(left:Lit→Bool)(ss:List a0r):Prop:=ss.Nodup∧(∀p∈ss,a7d p)∧∀p,a7d p→(p∈ss↔a9p l p=true∧left (klS p)=false)
theorem CollS.start {l:List (a0r×Int)}{D:DataW Unit}(h:∀p,a7d p→has D (klS p)=a9p l p):CollS l (has D) [] :=
 ⟨List.nodup_nil,by simp,fun p hp=>by rw[h p hp];cases a9p l p <;> simp⟩
theorem CollS.step {l:List (a0r×Int)}{left:Lit→Bool}{ss:List a0r}(h:CollS l left ss){x:a0r}(hx:a7d x)(hl:left (klS x)=true)(hh:a9p l x=true):CollS l (fun z=>left z&& !z.sameKey (klS x)) (ss++[x]):=by
 have hnew:x∉ss:=fun hm=>by have:=((h.2.2 x hx).1 hm).2;rw[hl] at this;cases this
 refine⟨List.nodup_append.2 ⟨h.1,by simp,fun a ha b hb=>by simp at hb;subst hb;exact fun e=>hnew (e▸ha)⟩,fun p hp=> ?_,fun p hp=> ?_⟩
 ·rcases List.mem_append.1 hp with h1|h1
  ·exact h.2.1 p h1
  ·rw[show p=x by simpa using h1];exact hx
 ·rw[List.mem_append,h.2.2 p hp]
  show _↔_∧(left (klS p)&& !(klS p).sameKey (klS x))=false;rw[c7f hp hx];by_cases hpx:p=x
  ·subst hpx;simp[hh]
  ·simp[hpx]
theorem CollS.all {l:List (a0r×Int)}{left:Lit→Bool}{ss:List a0r}(h:CollS l left ss)(h0:∀kl,left kl=false)(hf:∀e∈l,a7d e.1):ss.Nodup∧∀p,p∈ss↔p∈l.map (·.1):=by
 refine⟨h.1,fun p=> ?_⟩;constructor
 ·intro hp
  exact a2m.1 ((h.2.2 p (h.2.1 p hp)).1 hp).1
 ·intro hp
  obtain⟨e,he,rfl⟩:=List.mem_map.1 hp;exact (h.2.2 _ (hf e he)).2 ⟨a2m.2 hp,h0 _⟩
theorem c7h (F:Fence)(n:Nat)(hf:F.fn 162)(hro:F.round=none)(hn:1≤n)(l Bm b nn:Nat)(en:List (a0r×Int))(J Jx:List a0r→World→Prop)
 (hY:∀pre x W,J pre W→pre.length<nn→YieldAt F (n-1) prog l #[a4e x] W fun e W' =>
  (e= .returned (.bool true)∧J (pre++[x]) W'∧KeepsWalks W W')∨(e= .returned (.bool false)∧Jx (pre++[x]) W'))
 (W:World) (hJ:AbidesFrom W.heap.size J) (hm:W.cell? ⟨Bm,0,none⟩=some (.map (some b))) (hM:MapIs W b nn en) (h0:J [] W) :
 CallsIn F n prog 162 #[.func (.yield l) #[] #[],.pointer (some ⟨Bm,0,none⟩)] W fun e W'=>(∃v,e= .returned v) ∧
  ((∃ss,(ss.Nodup∧∀p,p∈ss↔p∈en.map (·.1))∧J ss W')∨(∃pre,(pre.Nodup∧∀p∈pre,p∈en.map (·.1))∧Jx pre W')):=by
 obtain⟨D,hown,hnd,hfit,hkeys⟩:=hM;refine callsIn_of_wp func162 rfl hf ?_ hro;simp only[ntmps162,List.size_toArray,List.length_cons,List.length_nil,Nat.reduceAdd,Nat.reduceSub,Array.replicate_succ,Array.replicate_zero,List.push_toArray,List.append_toArray,List.nil_append,List.cons_append];have hlk0:=Lib.hid hkeys;clear hkeys;gi_wp2_with (first|(gi_at_range;refine wpListIn_range_own _ rfl _ 117 rfl 122 3 spotLaw underlying117 _ b nn _ rfl hown ?_;intro w0 hrg0 hg0 hs0)|gi_in)
 go_frame
 gi_loopw [3] (fun _ wr=>∃(left:Lit→Bool) (cnt:Nat) (ss:List a0r),wr.ranges prog 122 (plainElem prog 3) b W.heap.size nn D left cnt∧ss.length+cnt≤Maps.size D∧CollS en left ss∧J ss wr)
  (fun _ wr=>wr.rangeLeft b W.heap.size)
 case atStart =>
  exact⟨_,_,[],hrg0,by simp,CollS.start (fun p hp=>(hlk0.out p hp).1),hJ [] W w0 none h0 hg0 (fun r e=>by cases e)⟩
 case round =>
  obtain⟨left,cnt,ss,hrg,hcs,hC,hJs⟩:=hrel;have hsz:=hown.size_le;gi_wp2_with (first|(gi_at_next;refine wpListIn_next_ranges _ rfl _ rfl 122 spotLaw (plainElem prog 3) a4e id (fun key kl hk=>by obtain⟨x,_,hx,_⟩:=a3p hk;exact⟨x,hx⟩) (fun v _ _=>⟨v,rfl⟩) b W.heap.size nn _ _ _ rfl hrg ?_ ?_)|gi_in)
  ·intro hc0 hl0
   gi_wp2;go_end0;exact⟨⟨_,rfl⟩,.inl ⟨ss,hC.all hl0 hfit,hJs⟩⟩
  ·intro x0 x1 c kl yd yp w2 cnt2 hkey hlk hv hat hrg2 hlt hg2 hs2 hen
   obtain⟨x',fx,ex,rfl⟩:=a3p hkey;obtain rfl:(x0,x1)=x':=by simp at ex;exact Prod.ext ex.1 ex.2
   have hJ2:J ss w2:=hJ ss wr w2 (some W.heap.size) hJs hg2 (fun r e=>by cases e;exact⟨yR _,hrg.iter_walk⟩);have hhas:a9p en (x0,x1)=true:=by rw[←(hlk0.out (x0,x1) fx).1];exact has_true_of_atKey hat
   have hC2:=hC.step fx hlk hhas;clear hs2 hkey hhas;obtain⟨fn,tmps,assign,body,hy,hR⟩:=hY ss (x0,x1) (w2.alloc (.cells #[.int .i64 x0,.int .i64 x1] 122)) (hJ ss w2 _ none hJ2 (World.grownBy_alloc w2 _ none) (fun r e=>by cases e)) (by omega);gi_wp2;refine hR.mono ?_;rintro e W3 (⟨rfl,hJ3,hk3⟩|⟨rfl,hJx3⟩)
   ·gi_wp2
    have hrg3:=(hrg2.alloc (.cells #[.int .i64 x0,.int .i64 x1] 122)).of_walks hk3;go_roundw
    case rel=>exact⟨_,cnt2,ss++[(x0,x1)],hrg3,by simp;omega,hC2,hJ3⟩
    case measure=>rw[hrg3.left_eq,hrg.left_eq];exact hlt
   ·gi_wp2
    refine bodyPost_ret (results_none rfl _ _ _) rfl ?_;exact⟨⟨_,rfl⟩,.inr ⟨ss++[(x0,x1)],⟨hC2.1,fun y hy=>by have fy:=hC2.2.1 y hy;exact a2m.1 ((hC2.2.2 y fy).1 hy).1⟩,hJx3⟩⟩
theorem c3s (F:Fence)(n:Nat)(hf:F.fn 124)(hro:F.round=none)(mb:Option Nat)(w:World) :
 CallsIn F n prog 124 #[.map mb] w fun e w'=>e= .returned (.func (.func 162) #[] #[.pointer (some ⟨w.heap.size,0,none⟩)])∧w'=w.alloc (.cells #[.map mb] 117):=by
 refine callsIn_of_wp func124 rfl hf ?_ hro;simp only[ntmps124,List.size_toArray,List.length_cons,List.length_nil,Nat.reduceAdd,Nat.reduceSub,Array.replicate_succ,Array.replicate_zero,List.push_toArray,List.append_toArray,List.nil_append,List.cons_append];gi_wp2;go_ret;exact⟨rfl,rfl⟩
theorem b2n (F:Fence)(n:Nat)(hf:F.fn 162)(hro:F.round=none)(hn:1≤n)(Bm b nn:Nat)(en:List (a0r×Int))(w:World)(hBm:Bm<w.heap.size)
 (hm:w.cell? ⟨Bm,0,none⟩=some (.map (some b))) (hM:MapIs w b nn en) :
 SeqStopsK F n prog 162 #[.pointer (some ⟨Bm,0,none⟩)] (fun x:a0r=> #[a4e x]) KeepsWalks (fun ss=>ss.Nodup∧∀p,p∈ss↔p∈en.map (·.1)) (fun pre=>pre.Nodup∧∀p∈pre,p∈en.map (·.1)) nn w:=fun l J Jx W hW hJ _ hY h0 =>
 c7h F n hf hro hn l Bm b nn en J Jx hY W hJ ((hW.cell (p:=⟨Bm,0,none⟩) hBm).trans hm) (hM.below hW hM.lt) h0
end
section
open Go.RowKit Go.Shelf Go.Sort Go.Lib
attribute [local go_sem] Oper.semAt_some
def d0b (p q:a0r):Int:=if compareInt p.2 q.2=0 then compareInt p.1 q.1 else compareInt p.2 q.2
theorem c0c {a b:Int}:compareInt a b<0↔a<b:=by
 unfold compareInt;split
 ·simp;assumption
 ·split <;> simp <;> omega
theorem c0d {a b:Int}:compareInt a b=0↔a=b:=by
 unfold compareInt;split
 ·simp;omega
 ·split <;> simp <;> omega
def ltS (p q:a0r):Bool:=decide (p.2<q.2)||(decide (p.2=q.2)&&decide (p.1<q.1))
theorem a7k (p q:a0r):ltOf d0b p q=ltS p q:=by
 unfold ltOf d0b ltS;by_cases h:p.2=q.2
 ·rw[if_pos (c0d.2 h)]
  simp[h,c0c]
 ·rw[if_neg (fun e=>h (c0d.1 e))]
  simp[h,c0c]
theorem d4w:SWO (ltOf d0b) where
 irrefl x:=by rw[a7k];simp[ltS]
 trans x y z h1 h2:=by rw[a7k] at *;simp[ltS] at *;omega
 ntrans x y z h1 h2:=by rw[a7k] at *;simp[ltS] at *;omega
theorem a6l {P:Program}{id:Nat}{Q:Exit→Act→World→Prop}{a:Act}{w:World}{l:List Oper}(n:Nat)(hm:P.follows .mixedOrders=true)(hB:Region.lexTailB .any l.toArray n=true)
 (h:wpQuiet P l.toArray (fun w'=>∃p:GrownBy,w'=grow (w.drewN p.n) p.os) (fun a'=>∀w',(∃p:GrownBy,w'=grow (w.drewN p.n) p.os)→wpList P l.toArray Q (l.drop n) a' w') (l.take n) a):(Code.region id l.toArray true).wp P Q a w :=
 a4k n hm hB ⟨⟨1,#[]⟩,by rw[grow_empty];rfl⟩ h
theorem b5u (x y:Int)(r:Int)(hr:compareInt x y=r)(w:World)(n:Nat)(os:Array Obj) :
 Calls prog 105 #[.int .i64 x,.int .i64 y] (grow (w.drewN n) os) fun e w''=>e= .returned (.int .i64 r)∧∃p:GrownBy,w''=grow (w.drewN p.n) p.os :=
 (Go.Proofs.Tryz.cmp_Compare_int x y _).mono fun _ _ ⟨he,hw⟩=>⟨by rw[he,hr],⟨n,os⟩,by first|exact hw|exact hw.symm⟩
theorem c7i (p q:a0r)(w:World) :
 Calls prog 125 #[a4e p,a4e q] w fun e w'=>e= .returned (.int .i64 (d0b p q))∧∃m os',w'=grow (w.drewN m) os':=by
 obtain⟨px,py⟩:=p;obtain⟨qx,qy⟩:=q;obtain⟨r,hr⟩:∃r,d0b (px,py) (qx,qy)=r:=⟨_,rfl⟩;rw[hr];unfold d0b at hr;simp only at hr;obtain⟨c1,h1⟩:∃c,compareInt py qy=c:=⟨_,rfl⟩;obtain⟨c2,h2⟩:∃c,compareInt px qx=c:=⟨_,rfl⟩;rw[h1,h2] at hr;replace h1:=Lib.hid h1;replace h2:=Lib.hid h2;replace hr:=Lib.hid hr;go_enter func125,ntmps125;go_wp2_with fail;obtain⟨W,hW⟩:∃W,(w.alloc (.cells #[.int .i64 px,.int .i64 py] 122)).alloc (.cells #[.int .i64 qx,.int .i64 qy] 122)=W:=⟨_,rfl⟩;have k1:=(Blk.new w #[.int .i64 px,.int .i64 py] 122).alloc (.cells #[.int .i64 qx,.int .i64 qy] 122);have k2:=Blk.new (w.alloc (.cells #[.int .i64 px,.int .i64 py] 122)) #[.int .i64 qx,.int .i64 qy] 122;simp only[World.size_alloc] at k2;rw[hW] at k1 k2 ⊢;have f0:=fun n os=>cell_grown (a:=⟨w.heap.size,0,none⟩) k1.lt (k1.cell 0) n os
 have f1:=fun n os=>cell_grown (a:=⟨w.heap.size,1,none⟩) k1.lt (k1.cell 1) n os
 have f2:=fun n os=>cell_grown (a:=⟨w.heap.size+1,0,none⟩) k2.lt (k2.cell 0) n os
 have f3:=fun n os=>cell_grown (a:=⟨w.heap.size+1,1,none⟩) k2.lt (k2.cell 1) n os
 simp at f0 f1 f2 f3;replace hW:=Lib.hid hW;refine a6l 10 (by kernel_rfl) (by kernel_rfl) ?_;simp only[List.take_succ_cons,List.take_zero,List.drop_succ_cons,List.drop_zero];repeat (first|go_big_quiet_step ((go_at_call 105;exact b5u _ _ _ (by first|with_reducible exact h1.out|with_reducible exact h2.out) _ _ _))|quiet_step ((go_at_call 105;exact b5u _ _ _ (by first|with_reducible exact h1.out|with_reducible exact h2.out) _ _ _)))
 refine wpQuiet_nil ?_;intro X hw_;obtain⟨⟨nq,osq⟩,hw_⟩:=hw_;replace hw_:=Lib.hid hw_;clear f0 f1 f2 f3 k1 k2;go_wp2_with (go_at_call 104;refine (c3h _ _ _ hr.out _ _ (by simp) (by simp)).mono ?_;rintro e w'⟨rfl,rfl⟩);go_ret;refine⟨rfl,nq,#[Obj.cells #[.int .i64 px,.int .i64 py] 122]++ #[Obj.cells #[.int .i64 qx,.int .i64 qy] 122]++osq++ #[Obj.cells #[.int .i64 c1,.int .i64 c2] 3],?_⟩;rw[hw_.out,←hW.out];simp only[alloc_eq_grow,grow_grow];show grow (grow (w.drewN nq) _) _=_;rw[grow_grow,Array.append_assoc,Array.append_assoc,Array.append_assoc]
theorem c7j (blk off size:Nat)(w:World):CmpLays prog 125 #[] b7v 2 d0b blk off size w:=fun _ _ _ _ x y=>c7i x y _
theorem d2i:∀(ss:List a0r)(j:Nat),j<ss.length*2→(ss.flatMap b7v)[j]? =some ((b7v ss.toArray[j / 2]!)[j % 2]!)
 |[],j,h=>by simp at h
 |p::ss,0,_=>by simp
 |p::ss,1,_=>by simp
 |p::ss,j+2,h=>by
  have ih:=d2i ss j (by simp at h;omega);have e1:(j+2) / 2=j / 2+1:=by omega
  have e2:(j+2) % 2=j % 2:=by omega
  rw[e1,e2];have hl:j / 2<ss.length:=by simp at h;omega
  have e3:(p::ss).toArray[j / 2+1]! =ss.toArray[j / 2]! :=by
   rw[getElem!_pos _ _ (by simpa using hl),getElem!_pos _ _ (by simpa using hl)];simp
  rw[e3,←ih];simp[List.flatMap_cons]
def RowS (n₀:Nat)(W:World)(v:Value)(ss:List a0r):Prop :=
 (v= .slice none 0 0∧ss=[])∨∃g cap,v= .slice (some ⟨g,0,none⟩) ss.length cap∧n₀≤g∧g<W.heap.size∧∀j,(h:j<ss.length)→W.cell? ⟨g,j*2,none⟩=some (.int .i64 ss[j].1)∧W.cell? ⟨g,j*2+1,none⟩=some (.int .i64 ss[j].2)
def leS (x y:a0r):Bool:= !ltS y x
def a2s (en:List (a0r×Int)):List a0r:=(en.map (·.1)).mergeSort leS
theorem b2o {en:List (a0r×Int)}{ss:List a0r}(hn:(en.map (·.1)).Nodup)(h1:ss.Nodup)(h2:∀p,p∈ss↔p∈en.map (·.1)):ss.Perm (a2s en) :=
 ((List.perm_ext_iff_of_nodup h1 hn).2 h2).trans (List.mergeSort_perm _ _).symm
theorem b5v (a b c:a0r)(h1:leS a b=true)(h2:leS b c=true):leS a c=true:=by simp[leS,ltS] at *;omega
theorem b5w (a b:a0r):(leS a b||leS b a)=true:=by simp[leS,ltS];omega
theorem c7k (a b:a0r)(h1:leS a b=true)(h2:leS b a=true):a=b:=by
 simp[leS,ltS] at h1 h2;exact Prod.ext (by omega) (by omega)
theorem b2p {en:List (a0r×Int)}{d:List a0r}(hp:d.Perm (a2s en))(hs:d.Pairwise (fun a b=>leS a b=true)):d=a2s en :=
 List.Perm.eq_of_pairwise (le:=fun a b=>leS a b=true) (fun a b _ _=>c7k a b) hs (List.pairwise_mergeSort b5v b5w _) hp
theorem a3b (en:List (a0r×Int)):(a2s en).length=en.length:=by unfold a2s;rw[List.length_mergeSort,List.length_map]
theorem b5x (base:Nat)(v:Value)(ss:List a0r)(en:List (a0r×Int))(w:World)(hrow:w.ownsRow base 122 2 v ss.length (ss.flatMap b7v))(hnn:ss≠[])(hp:ss.Perm (a2s en))(hlen:ss.length≤4294967296) :
 Calls prog 161 #[v,.func (.func 125) #[] #[]] w fun e w'=>e= .returned (.tuple #[])∧RowS base w' v (a2s en)∧Below base w w':=by
 have hl0:0<ss.length:=List.length_pos_iff.2 hnn;rcases hrow.2 with ⟨_,h0⟩|⟨g,cap,cur,rfl,hbase,hgb,hr1,hr2,hr3,hr4⟩
 ·omega
 have hg:g<w.heap.size:=(Array.getElem?_eq_some_iff.1 hgb).1;have hH:HoldsK b7v 2 w g 0 ss.toArray:=by
  intro j hj;rw[size_flatK,List.size_toArray] at hj;refine⟨?_,hrow.frozenAt (0+j)⟩;rw[get_flatK _ _ _ _ (by simpa using hj),Nat.zero_add];exact (hrow.cellAt j (by omega)).trans (d2i ss j hj)
 have eg:∀args w,(callFunc 125 args).run prog w= .ok (.enter 125 args) w:=enters_of func125 (by kernel_rfl) rfl;have hcon:=AnyQ.slices_SortFunc Go.Proofs.Tryz.sortSpot 2 isAgg122 sizeOf122 b7v (fun _=>rfl) (fun x v hv=>by simp at hv;rcases hv with rfl|rfl <;> rfl) d0b d4w 125 #[] g 0 cap ss.toArray w eg (c7j g 0 ss.toArray.size w) hH hg (by simp;omega);change Calls prog 161 _ _ _ at hcon;rw[List.size_toArray] at hcon;refine hcon.mono ?_;rintro e w'⟨rfl,d',n,os,hperm,hsort,rfl⟩;obtain⟨hsz,-,hpm⟩:=hperm;have hd:d'.toList=a2s en:=by
  refine b2p ?_ ?_
  ·have h1:d'.extract 0 ss.length=d':=by
    have:d'.size=ss.length:=by rw[hsz];simp
    rw[←this];exact Array.extract_size
   have h2:ss.toArray.extract 0 ss.length=ss.toArray:=by
    have:ss.toArray.size=ss.length:=by simp
    rw[←this];exact Array.extract_size
   rw[h1,h2] at hpm;exact hpm.trans hp
  ·rw[List.pairwise_iff_getElem]
   intro i j hi hj hij;have hj':j<d'.size:=by simpa using hj
   have hs:=hsort i j (Nat.zero_le _) hij (by rw[hsz] at hj';simpa using hj');rw[getElem!_pos d' j hj',getElem!_pos d' i (by omega),a7k] at hs;simp[leS,hs]
 have hH2:=holdsK_sortWorldK_c b7v 2 w g 0 ss.toArray d' n os hH hg (by rw[hsz]);refine⟨rfl,.inr ⟨g,cap,?_,hbase,?_,?_⟩,?_⟩
 ·rw[a3b]
  have:=hp.length_eq;rw[a3b] at this;rw[this]
 ·exact Nat.lt_of_lt_of_le hg (size_sortWorldK_c b7v 2 w g 0 n d' os)
 ·intro j hj
  have hjd:j<d'.size:=by rw[←Array.length_toList,hd];exact hj
  have c0:=(hH2.cell hjd (c:=0) (by omega)).1;have c1:=(hH2.cell hjd (c:=1) (by omega)).1;have he:d'[j]! =(a2s en)[j]:=by
   rw[getElem!_pos d' j hjd];simp only[←hd];rfl
  rw[he] at c0 c1;simp only[Nat.zero_add,Nat.add_zero] at c0 c1;exact⟨c0,c1⟩
 ·refine (zR base w).grown (row:=some g) ⟨rfl,rfl,rfl,size_sortWorldK_c b7v 2 w g 0 n d' os,fun k hk hne=> ?_⟩ ?_ (fun k e=>by cases e;exact hbase)
  ·unfold sortWorldK
   rw[heap_grow_old _ _ (by rw[size_putRowK];exact hk)];have:g≠k:=fun e=>hne (by rw[e])
   simp[putRowK,putRow,mapBlock,Sort.ahead,Array.getElem?_modify,this]
  ·exact Nat.le_trans hbase (Nat.le_of_lt hg)
end
section
open Go.RowKit Go.Shelf Go.Sort Go.Lib Go.Maps
attribute [local go_sem] Oper.semAt_some
attribute [local go_sem ↓] Go.wp_at_zero Go.wp_at_succ
theorem b2b (Bm b nn:Nat)(en:List (a0r×Int))(w:World)(hBm:Bm<w.heap.size)(hm:w.cell? ⟨Bm,0,none⟩=some (.map (some b)))(hM:MapIs w b nn en)(hnn:nn≤4294967296)(hne:en≠[])(hlen:en.length≤4294967296) :
 Calls prog 123 #[.func (.func 162) #[] #[.pointer (some ⟨Bm,0,none⟩)],.func (.func 125) #[] #[]] w fun e w'=>∃v,e= .returned v∧RowS w.heap.size w' v (a2s en)∧Below w.heap.size w w':=by
 have eg:∀args w,(callFunc 162 args).run prog w= .ok (.enter 162 args) w:=enters_of func162 (by kernel_rfl) rfl;have hnd:(en.map (·.1)).Nodup:=by obtain⟨D,_,h,_⟩:=hM;exact h
 have hcol:=(callsIn_wide (n:=3)).1 (b2m _ 3 trivial trivial rfl (yR _) 162 #[.pointer (some ⟨Bm,0,none⟩)] trivial eg _ _ nn hnn w (b2n _ 1 trivial rfl (yR _) Bm b nn en w hBm hm hM));go_enter func123,ntmps123;go_wp2_with (go_at_call 160;refine hcol.mono ?_;rintro e w1⟨v,ss,rfl,⟨hs1,hs2⟩,hrow,hnl,hb1⟩);clear hcol;have hp:=b2o hnd hs1 hs2;have hl:=hp.length_eq;rw[a3b] at hl;have hss:ss≠[]:=fun e=>by
  rw[e] at hl;exact hne (List.eq_nil_of_length_eq_zero hl.symm)
 clear hs1 hs2 hnl;have hsf:=b5x w.heap.size v ss en w1 hrow hss hp (by omega);go_wp2_with (go_at_call 161;refine hsf.mono ?_;rintro e w2⟨rfl,hr2,hb2⟩);go_ret;exact⟨v,rfl,hr2,hb1.trans hb2⟩
structure Dt where
 x:Int
 y:Int
 k:Int
 i:Int
deriving DecidableEq
abbrev b5y (d:Dt):List Value:=[.int .i64 d.x,.int .i64 d.y,.int .i64 d.k,.int .i64 d.i]
def a2d (kind:Int)(en:List (a0r×Int)):List Dt:=(a2s en).map fun p=>⟨p.1,p.2,kind,(a6k en p).getD 0⟩
theorem a4f (kind:Int)(en:List (a0r×Int)):(a2d kind en).length=en.length:=by unfold a2d;rw[List.length_map,a3b]
theorem d0t:(prog.info? 54).map (fun i=>(i.zero,i.size,i.bytes))=some (some (.agg #[.int .i64 0,.int .i64 0,.int .i64 0,.int .i64 0]),4,32):=by kernel_rfl
theorem MapIs.look {W:World}{b n:Nat}{en:List (a0r×Int)}(h:MapIs W b n en){p:a0r}(hp:a7d p) :
 (Instr.lookup 117 (.map (some b)) (a4e p) false).run prog W= .ok (.int .i64 ((a6k en p).getD 0)) W:=by
 obtain⟨D,ho,-,-,hk⟩:=h;obtain⟨c,hrun,hat,-⟩:=ho.lookup_int spotLaw underlying117 underlying3 (b0k _) (a1p hp);rw[(hk p hp).2] at hat;simp at hat;rw[hrun,hat]
theorem MapIs.grow {W:World}{b n:Nat}{en:List (a0r×Int)}(h:MapIs W b n en)(p:Growth):MapIs (W.growBy p) b n en:=h.kept (a1a W p) (by simp)
theorem RowS.cons {n₀:Nat}{W:World}{v:Value}{ss:List a0r}(h:RowS n₀ W v ss)(hne:ss≠[]):∃g cap,v= .slice (some ⟨g,0,none⟩) ss.length cap∧n₀≤g∧g<W.heap.size∧∀j,(h:j<ss.length)→W.cell? ⟨g,j*2,none⟩=some (.int .i64 ss[j].1)∧W.cell? ⟨g,j*2+1,none⟩=some (.int .i64 ss[j].2):=by
 rcases h with ⟨_,h⟩|h
 ·exact absurd h hne
 ·exact h
theorem c7l {en:List (a0r×Int)}(h:en≠[]):a2s en≠[]:=fun e=>h (List.eq_nil_of_length_eq_zero (by rw[←a3b,e];rfl))
theorem b0l (kind:Int)(b nn:Nat)(en:List (a0r×Int))(w:World)(hM:MapIs w b nn en)(hnn:nn≤4294967296)(hne:en≠[])(hlen:en.length≤8388608) :
 Calls prog 68 #[.map (some b),.int .i64 kind] w fun e w'=>∃v base,e= .returned v∧w.heap.size≤base∧w'.ownsRow base 54 4 v (a2d kind en).length ((a2d kind en).flatMap b5y)∧Below w.heap.size w w':=by
 obtain⟨i0,hi0,hz0,hz1,hz2⟩:=info_parts d0t;have hb:=hM.lt;have hkeys:=fun mb W=>(callsIn_wide (n:=1)).1 (c3s _ 1 trivial rfl mb W)
 have hsf:=b2b w.heap.size b nn en (w.alloc (.cells #[.map (some b)] 117)) (by simp) (by simp) (hM.alloc _) hnn hne (by omega);simp only[World.size_alloc] at hsf;go_enter func68,ntmps68;go_wp2_with (first|(go_at_call 124;refine (hkeys _ _).mono ?_;rintro e w1⟨rfl,rfl⟩)|(go_at_call 123;refine hsf.mono ?_;rintro e w2⟨v,rfl,hr2,hb2⟩;obtain⟨g,cap,rfl,hg0,hg1,hcs⟩:=hr2.cons (c7l hne)));clear hsf hkeys;have hB2:RowKit.Below w.heap.size w w2:=Below.trans (b:=w.alloc (.cells #[.map (some b)] 117)) zC (hb2.mono zC);have hM2:=hM.below hB2 hb;have hs2:=hB2.size;have hfit:∀e∈en,a7d e.1:=by obtain⟨D,_,_,h,_⟩:=hM;exact h
 have hkl:=Lib.hid (a3b en);have hkb:(a2s en).length≤8388608:=by rw[hkl.out];exact hlen
 have hfk:∀p∈a2s en,a7d p:=fun p hp=>by
  have:=(List.mergeSort_perm _ _).mem_iff.1 hp;obtain⟨e,he,rfl⟩:=List.mem_map.1 this;exact hfit e he
 clear hb2 hM hfit;go_loopw [4,13] (fun u i wr=>∃(k:Nat) (v:Value),k≤(a2s en).length∧u=v∧i= .int .i64 k∧wr.ownsRow w2.heap.size 54 4 v k (((a2d kind en).take k).flatMap b5y)∧RowKit.Below w2.heap.size w2 wr)
  (fun _ i _=>(a2s en).length-(intOf i).toNat)
 case atStart=>exact⟨0,_,Nat.zero_le _,rfl,rfl,⟨by simp,.inl ⟨rfl,rfl⟩⟩,zR _ _⟩
 case round =>
  obtain⟨k,v,hk,rfl,rfl,hrow,hnx⟩:=hrel;have hsw:=hnx.size;by_cases hlt:k<(a2s en).length
  ·have hltI:(k:Int)<((a2s en).length:Int):=by omega
   obtain⟨c0,c1⟩:=hcs k hlt;have c0:=(hnx.cell (p:=⟨g,k*2,none⟩) hg1).trans c0;have c1:=(hnx.cell (p:=⟨g,k*2+1,none⟩) hg1).trans c1;have hpk:=hfk _ (List.getElem_mem hlt);have hd:(a2d kind en)[k]? =some ⟨(a2s en)[k].1,(a2s en)[k].2,kind,(a6k en (a2s en)[k]).getD 0⟩:=by
    unfold a2d;rw[List.getElem?_map,List.getElem?_eq_getElem hlt];rfl
   generalize hp:(a2s en)[k]=p at c0 c1 hpk hd;clear hp;obtain⟨px,py⟩:=p;simp only at c0 c1 hd;obtain⟨id,hid⟩:∃id,(a6k en (px,py)).getD 0=id:=⟨_,rfl⟩;rw[hid] at hd;have hw1:=hM2.below hnx hM2.lt;go_wp2_with fail;obtain⟨W,hW⟩:∃W,wr.alloc (.cells #[.int .i64 px,.int .i64 py] 122)=W:=⟨_,rfl⟩;have bX:Blk W wr.heap.size #[.int .i64 px,.int .i64 py] 122:=by rw[←hW];exact Blk.new wr _ _
   have hrowW:W.ownsRow w2.heap.size 54 4 u4 k (((a2d kind en).take k).flatMap b5y):=by rw[←hW];exact hrow.alloc _
   have hMW:MapIs W b nn en:=by rw[←hW];exact hw1.alloc _
   have hnW:RowKit.Below w2.heap.size w2 W:=by rw[←hW];exact hnx.alloc hsw _
   have hsW:=hnW.size;have hlk:(Instr.lookup 117 (.map (some b)) (.agg #[.int .i64 px,.int .i64 py]) false).run prog W.drew= .ok (.int .i64 id) W.drew:=by
    have:=(show MapIs W.drew b nn en from hMW).look hpk;rw[hid] at this;exact this
   have hrowD:W.drew.ownsRow w2.heap.size 54 4 u4 k (((a2d kind en).take k).flatMap b5y):=hrowW;have hnD:RowKit.Below w2.heap.size w2 W.drew:=hnW.drew;have hsD:W.drew.heap.size=W.heap.size:=rfl;have x0:W.drew.cell? ⟨wr.heap.size,0,none⟩=some (.int .i64 px):=bX.cell 0;have x1:W.drew.cell? ⟨wr.heap.size,1,none⟩=some (.int .i64 py):=bX.cell 1;rw[hW];clear hW hrow hw1 c0 c1;generalize wr.heap.size=Bx at *;go_region_law (refine step_append_lies _ (by rfl) _ _ _ (by rfl) w2.heap.size 54 i0 _ 4 32 underlying41 hi0 hz0 hz1 hz2 rfl (by omega) u4 k _ (by rfl) (hrowD.alloc _) _ 1 1 _ (by rfl) ?_ (World.news_of_block (heap_alloc_new _ _)) (by simp[Value.oneCell']) (by omega) (by unfold maxLen;omega) (by omega) (by simp;omega) _ rfl ?_;rfl;intro g2 cap2 w3 hown3 hgrow3 hat3 hlt3)
   all_goals
    clear hlk hrowD x0 x1;have hB3:RowKit.Below w2.heap.size w2 w3:=by
     exact ((hnW.alloc hsW (.cells #[.int .i64 px,.int .i64 py,.int .i64 kind,.int .i64 id] 54)).drew).grown hgrow3 (by show w2.heap.size≤(W.alloc _).heap.size;simp;omega) (fun r e=>(hrowW.lt r e).1)
    have htk:((a2d kind en).take (k+1)).flatMap b5y=((a2d kind en).take k).flatMap b5y++b5y ⟨px,py,kind,id⟩:=by
     rw[List.take_add_one,hd];simp[List.flatMap_append]
    go_wp2_with fail;go_roundw
    case rel=>exact⟨k+1,_,by omega,rfl,by go_num,by rw[htk];exact hown3,hB3⟩
    case measure=>simp[intOf];omega
  ·obtain rfl:k=(a2s en).length:=by omega
   go_wp2_with fail;go_ret;refine⟨u4,w2.heap.size,rfl,hs2,?_,hB2.trans (hnx.mono hs2)⟩;have hl:(a2d kind en).length=(a2s en).length:=by rw[a4f,hkl.out]
   rw[hl];rw[←hl,List.take_length,hl] at hrow;exact hrow
end
section
open Go.RowKit Go.Shelf
attribute [local go_sem] Oper.semAt_some
attribute [local go_sem ↓] Go.wp_at_zero Go.wp_at_succ
theorem a2u {w w':World}(h:Below w.heap.size w w'):w.grownBy w' none:=⟨h.os,h.tape,h.output,h.size,fun k hk _=>h.block k hk⟩
theorem a1l {W W':World}{base:Nat}{e:TypeId}{size:Nat}{v:Value}{k:Nat}{xs:List Value}(h:W.ownsRow base e size v k xs)(hb:Below W.heap.size W W'):W'.ownsRow base e size v k xs:=a0x h (a2u hb) (fun r e=>by cases e)
end
section
open Go.RowKit Go.Shelf
attribute [local go_sem] Oper.semAt_some
def mx (x y:Int):Int:=if y>x then y else x
def c3t (a b c d:Int):Int:=mx (mx (mx a b) c) d
theorem run_max4 {P:Program}(ts:Array TypeId)(t:TypeId)(a b c d:Int)(w:World):(Builtin.max_ ts t #[.int .i64 a,.int .i64 b,.int .i64 c,.int .i64 d]).run P w= .ok (.int .i64 (c3t a b c d)) w:=by
 simp[Builtin.max_,Builtin.max2,c3t,mx]
theorem d0u (a b c d:Int):a≤c3t a b c d∧b≤c3t a b c d∧c≤c3t a b c d∧d≤c3t a b c d:=by
 unfold c3t mx;repeat' split
 all_goals omega
theorem c3u {a b c d m:Int}(ha:a≤m)(hb:b≤m)(hc:c≤m)(hd:d≤m):c3t a b c d≤m:=by
 unfold c3t mx;repeat' split
 all_goals omega
def a5j (a b:a0r):Int:=c3t (b.1-a.1) (-(b.1-a.1)) (b.2-a.2) (-(b.2-a.2))
def a5o (a b:a0r)(t:Int):a0r :=
 if 0<a5j a b then
  (a.1+(2*t*(b.1-a.1)+a5j a b) / (2*a5j a b),a.2+(2*t*(b.2-a.2)+a5j a b) / (2*a5j a b))
 else a
structure Near (p:a0r):Prop where
 x0 : -40000≤p.1
 x1:p.1≤40000
 y0 : -40000≤p.2
 y1:p.2≤40000
instance (n:Int):Decidable (a0k n):=inferInstanceAs (Decidable (_∧_))
instance (p:a0r):Decidable (a7d p):=inferInstanceAs (Decidable (_∧_))
def c3v {α:Type}(f:Nat→α)(k:Nat):List α:=(List.range k).map f
theorem b5z {α:Type}(f:Nat→α)(k:Nat):c3v f (k+1)=c3v f k++[f k]:=by simp[c3v,List.range_succ]
theorem a6u {α:Type}(f:Nat→α)(k:Nat):(c3v f k).length=k:=by simp[c3v]
abbrev a8f:={ p:a0r // a7d p }
def a9q (a b:a0r)(k:Nat):a8f:=if h:a7d (a5o a b k) then ⟨a5o a b k,h⟩ else ⟨(0,0),by constructor <;> constructor <;> decide⟩
theorem b6a {a b:a0r}{k:Nat}(h:a7d (a5o a b k)):(a9q a b k).1=a5o a b k:=by unfold a9q;rw[dif_pos h]
theorem c1h {ax ay bx by_ N t:Int}(h:a5j (ax,ay) (bx,by_)=N)(h0:0<N):a5o (ax,ay) (bx,by_) t=(ax+(2*t*(bx-ax)+N) / (2*N),ay+(2*t*(by_-ay)+N) / (2*N)):=by
 unfold a5o;rw[h,if_pos h0]
theorem b0m {a b:a0r}{N t:Int}(h:a5j a b=N)(h0:¬0<N):a5o a b t=a:=by
 unfold a5o;rw[h,if_neg h0]
theorem b8d {t N x:Int}(t0:0≤t)(t1:t≤N)(N1:N≤4194304)(x0 : -N≤x)(x1:x≤N) : -(2*N)*4194304≤2*t*x∧2*t*x≤(2*N)*4194304:=by
 have h1:2*t*x≤2*t*N:=Int.mul_le_mul_of_nonneg_left x1 (by omega);have h2:2*t*(-N)≤2*t*x:=Int.mul_le_mul_of_nonneg_left x0 (by omega);have h3:2*t*N≤2*N*4194304:=Int.mul_le_mul (by omega) N1 (by omega) (by omega);have h4:2*t*(-N) = -(2*t*N):=by rw[Int.mul_neg]
 have h5 : -(2*N)*4194304 = -(2*N*4194304):=by rw[Int.neg_mul]
 omega
theorem c3w {t N x:Int}(N0:0<N)(t0:0≤t)(t1:t≤N)(N1:N≤4194304)(x0 : -N≤x)(x1:x≤N) : -4194305≤(2*t*x+N) / (2*N)∧(2*t*x+N) / (2*N)≤4194305:=by
 obtain⟨h1,h2⟩:=b8d t0 t1 N1 x0 x1;constructor
 ·refine Int.le_ediv_of_mul_le (by omega) ?_
  have : -4194305*(2*N) = -(2*N)*4194304-2*N:=by grind
  omega
 ·refine Int.ediv_le_of_le_mul (by omega) ?_
  have:4194305*(2*N)=(2*N)*4194304+2*N:=by grind
  omega
attribute [local go_sem] run_max4
theorem c7m (n:Nat)(hn:1≤n)(l Ba Bb n₀:Nat)(ax ay bx by_:Int)(ha0 : -40000≤ax)(ha1:ax≤40000)(ha2 : -40000≤ay)(ha3:ay≤40000)(hb0 : -40000≤bx)(hb1:bx≤40000)(hb2 : -40000≤by_)(hb3:by_≤40000)
 (J Jx:List a8f→World→Prop)
 (hY:∀pre (x:a8f) W,J pre W→pre.length<(a5j (ax,ay) (bx,by_)+1).toNat→YieldAt Fence.wide (n-1) prog l #[a4e x.1] W fun e W' =>
  (e= .returned (.bool true)∧J (pre++[x]) W'∧(W'.heap[Ba]? =W.heap[Ba]?∧W'.heap[Bb]? =W.heap[Bb]?))∨(e= .returned (.bool false)∧Jx (pre++[x]) W'))
 (hJ:∀pre (A A':World),J pre A→A.grownBy A' none→J pre A')
 (W:World)
 (kA:Blk W Ba #[.int .i64 ax,.int .i64 ay] 122) (kB:Blk W Bb #[.int .i64 bx,.int .i64 by_] 122) (h0:J [] W) :
 CallsIn Fence.wide n prog 139 #[.func (.yield l) #[] #[],.pointer (some ⟨Bb,0,none⟩),.pointer (some ⟨Ba,0,none⟩)] W fun e W'=>(∃v,e= .returned v) ∧
  ((∃ys,ys=c3v (a9q (ax,ay) (bx,by_)) (a5j (ax,ay) (bx,by_)+1).toNat∧J ys W')∨(∃pre,True∧Jx pre W')):=by
 have c0:W.cell? ⟨Ba,0,none⟩=some (.int .i64 ax):=kA.cell 0;have c1:W.cell? ⟨Ba,1,none⟩=some (.int .i64 ay):=kA.cell 1;have c2:W.cell? ⟨Bb,0,none⟩=some (.int .i64 bx):=kB.cell 0;have c3:W.cell? ⟨Bb,1,none⟩=some (.int .i64 by_):=kB.cell 1;obtain⟨N,hN⟩:∃N,c3t (bx-ax) (-(bx-ax)) (by_-ay) (-(by_-ay))=N:=⟨_,rfl⟩;have hge:=d0u (bx-ax) (-(bx-ax)) (by_-ay) (-(by_-ay));have hle:=c3u (a:=bx-ax) (b := -(bx-ax)) (c:=by_-ay) (d := -(by_-ay)) (m:=2097152) (by omega) (by omega) (by omega) (by omega);rw[hN] at hge hle;obtain⟨g0,g1,g2,g3⟩:=hge;have hNe:=Lib.hid (show a5j (ax,ay) (bx,by_)=N from hN);refine callsIn_of_wp func139 rfl trivial ?_ rfl;simp only[ntmps139,List.size_toArray,List.length_cons,List.length_nil,Nat.reduceAdd,Nat.reduceSub,Array.replicate_succ,Array.replicate_zero,List.push_toArray,List.append_toArray,List.nil_append,List.cons_append];gi_wp2;refine wpIn_wide.2 ?_;first|with_reducible refine a0t (by kernel_rfl) (by kernel_rfl) ?_|with_reducible refine a0v (by kernel_rfl) (by kernel_rfl) ?_
 repeat (first|go_big_quiet_step (fail)|quiet_step (fail))
 refine wpQuiet_nil ?_;intro _ hw_;obtain⟨p,hw_⟩:=hw_;subst hw_;gi_wp2;have N0:0≤N:=by omega
 obtain⟨m,hm⟩:∃m:Nat,N=m:=⟨N.toNat,by omega⟩;have hm1:(N+1).toNat=m+1:=by omega
 replace hm:=Lib.hid hm;replace hm1:=Lib.hid hm1;have kA1:=kA.grow p;have kB1:=kB.grow p;have h1:=hJ [] W _ h0 (a1a W p);generalize W.growBy p=W1 at *;gi_loopw [28] (fun i wr=>∃k:Nat,k≤m+1∧i= .int .i64 k∧J (c3v (a9q (ax,ay) (bx,by_)) k) wr∧Blk wr Ba #[.int .i64 ax,.int .i64 ay] 122∧Blk wr Bb #[.int .i64 bx,.int .i64 by_] 122)
  (fun i _=>m+1-(intOf i).toNat)
 case atStart=>exact⟨0,by omega,rfl,h1,kA1,kB1⟩
 case round =>
  obtain⟨k,hk,rfl,hJs,kA2,kB2⟩:=hrel;have hlA:a5j (ax,ay) (bx,by_)=N:=hNe.out;by_cases hlt:k<m+1
  ·have hltI:(k:Int)<N+1:=by have:=hm.out;omega
   have c0:wr.cell? ⟨Ba,0,none⟩=some (.int .i64 ax):=kA2.cell 0;have c1:wr.cell? ⟨Ba,1,none⟩=some (.int .i64 ay):=kA2.cell 1;have lA:=kA2.lt;have lB:=kB2.lt;by_cases hNz:0<N
   ·obtain⟨s0,s1⟩:=b8d (t:=(k:Int)) (N:=N) (x:=bx-ax) (by omega) (by omega) (by omega) (by omega) (by omega)
    obtain⟨s2,s3⟩:=b8d (t:=(k:Int)) (N:=N) (x:=by_-ay) (by omega) (by omega) (by omega) (by omega) (by omega);obtain⟨r0,r1⟩:=c3w (t:=(k:Int)) (N:=N) (x:=bx-ax) hNz (by omega) (by omega) (by omega) (by omega) (by omega);obtain⟨r2,r3⟩:=c3w (t:=(k:Int)) (N:=N) (x:=by_-ay) hNz (by omega) (by omega) (by omega) (by omega) (by omega);have s0 : -17592186044416≤2*(k:Int)*(bx-ax):=by omega
    have s1:2*(k:Int)*(bx-ax)≤17592186044416:=by omega
    have s2 : -17592186044416≤2*(k:Int)*(by_-ay):=by omega
    have s3:2*(k:Int)*(by_-ay)≤17592186044416:=by omega
    obtain⟨q1,e1⟩:∃q,(2*(k:Int)*(bx-ax)+N) / (2*N)=q:=⟨_,rfl⟩;obtain⟨q2,e2⟩:∃q,(2*(k:Int)*(by_-ay)+N) / (2*N)=q:=⟨_,rfl⟩;have hv:a5o (ax,ay) (bx,by_) k=(ax+q1,ay+q2):=by rw[c1h hlA hNz,←e1,←e2]
    rw[e1] at r0 r1;rw[e2] at r2 r3;have hfit:a7d (a5o (ax,ay) (bx,by_) k):=by rw[hv];exact⟨⟨by omega,by omega⟩,⟨by omega,by omega⟩⟩
    have hval:(a9q (ax,ay) (bx,by_) k).1=(ax+q1,ay+q2):=(b6a hfit).trans hv;clear hfit hv;replace e1:=Lib.hid e1;replace e2:=Lib.hid e2;replace hlA:=Lib.hid hlA;gi_wp2;refine wpIn_wide.2 ?_;first|with_reducible refine a0c 25 (by kernel_rfl) (by kernel_rfl) ?_|with_reducible refine a0d 25 (by kernel_rfl) (by kernel_rfl) ?_
    simp only[List.take_succ_cons,List.take_zero,List.drop_succ_cons,List.drop_zero];repeat (first|go_big_quiet_step ((go_at_call 140;exact Calls.grow_of_same (a9v (by first|with_reducible exact e1.out|with_reducible exact e2.out) _ (by omega) (by omega) (by omega))))|quiet_step ((go_at_call 140;exact Calls.grow_of_same (a9v (by first|with_reducible exact e1.out|with_reducible exact e2.out) _ (by omega) (by omega) (by omega)))))
    refine wpQuiet_nil ?_;intro _ hw_;obtain⟨p,hw_⟩:=hw_;subst hw_;go_wp2_with fail;have hB3:RowKit.Below wr.heap.size wr ((wr.alloc (.cells #[.int .i64 (ax+q1),.int .i64 (ay+q2)] 122)).growBy p):=zC;have bX:=(Blk.new wr #[.int .i64 (ax+q1),.int .i64 (ay+q2)] 122).grow p;obtain⟨W3,hW3⟩:∃W3,(wr.alloc (.cells #[.int .i64 (ax+q1),.int .i64 (ay+q2)] 122)).growBy p=W3:=⟨_,rfl⟩;rw[hW3] at hB3 bX ⊢;clear hW3;have hJ3:=hJ _ wr W3 hJs (a2u hB3);have kA3:=kA2.below hB3 lA;have kB3:=kB2.below hB3 lB;have x0:W3.cell? ⟨wr.heap.size,0,none⟩=some (.int .i64 (ax+q1)):=bX.cell 0;have x1:W3.cell? ⟨wr.heap.size,1,none⟩=some (.int .i64 (ay+q2)):=bX.cell 1;obtain⟨fn,tmps,assign,body,hy,hR⟩:=hY _ (a9q (ax,ay) (bx,by_) k) W3 hJ3 (by rw[a6u,hNe.out,hm1.out];exact hlt);rw[hval] at hy;clear s0 s1 s2 s3 r0 r1 r2 r3 c0 c1 hB3 bX;generalize wr.heap.size=Bx at *;gi_wp2;refine hR.mono ?_;rintro e W4 (⟨rfl,hJ4,e5,e6⟩|⟨rfl,hJx⟩)
    ·gi_wp2
     go_roundw
     case rel=>exact⟨k+1,by omega,by go_num,by rw[b5z];exact hJ4,e5.trans kA3,e6.trans kB3⟩
     case measure=>simp[intOf];omega
    ·gi_wp2
     refine bodyPost_ret (results_none rfl _ _ _) rfl ?_;exact⟨⟨_,rfl⟩,.inr ⟨_,trivial,hJx⟩⟩
   ·have hfit:a7d (a5o (ax,ay) (bx,by_) k):=by rw[b0m hlA hNz];exact⟨⟨by omega,by omega⟩,⟨by omega,by omega⟩⟩
    have hval:(a9q (ax,ay) (bx,by_) k).1=(ax,ay):=(b6a hfit).trans (b0m hlA hNz);clear hfit;replace hlA:=Lib.hid hlA;have hB3:RowKit.Below wr.heap.size wr (wr.alloc (.cells #[.int .i64 ax,.int .i64 ay] 122)):=zC;have hJ3:=hJ _ wr _ hJs (a2u hB3);have kA3:=kA2.below hB3 lA;have kB3:=kB2.below hB3 lB;obtain⟨fn,tmps,assign,body,hy,hR⟩:=hY _ (a9q (ax,ay) (bx,by_) k) _ hJ3 (by rw[a6u,hNe.out,hm1.out];exact hlt);rw[hval] at hy;gi_wp2;refine hR.mono ?_;rintro e W4 (⟨rfl,hJ4,e5,e6⟩|⟨rfl,hJx⟩)
    ·gi_wp2
     go_roundw
     case rel=>exact⟨k+1,by omega,by go_num,by rw[b5z];exact hJ4,e5.trans kA3,e6.trans kB3⟩
     case measure=>simp[intOf];omega
    ·gi_wp2
     refine bodyPost_ret (results_none rfl _ _ _) rfl ?_;exact⟨⟨_,rfl⟩,.inr ⟨_,trivial,hJx⟩⟩
  ·obtain rfl:k=m+1:=by omega
   have hltI:¬(((m+1:Nat):Int)<N+1):=by have:=hm.out;omega
   replace hlA:=Lib.hid hlA;gi_wp2;go_end0;exact⟨⟨_,rfl⟩,.inl (by rw[hNe.out,hm1.out];exact hJs)⟩
def b6b (Ba Bb:Nat)(A B:World):Prop:=B.heap[Ba]? =A.heap[Ba]?∧B.heap[Bb]? =A.heap[Bb]?
theorem c3x {Ba Bb:Nat}{A B C:World}(h:b6b Ba Bb A B)(k:b6b Ba Bb B C):b6b Ba Bb A C:=⟨k.1.trans h.1,k.2.trans h.2⟩
theorem d0v {Ba Bb:Nat}{w:World}(ha:Ba<w.heap.size)(hb:Bb<w.heap.size)(W:World)(l:Nat)(o o':Obj)(hl:w.heap.size≤l)(_:W.heap[l]? =some o)(_:o.isCells=false)(_:o.isWalk=false):b6b Ba Bb W (W.putObj l o') :=
 ⟨World.putObj_heap_other (by omega),World.putObj_heap_other (by omega)⟩
theorem c1i (n:Nat)(hn:1≤n)(Ba Bb:Nat)(a b:a0r)(ha:Near a)(hb:Near b)(w:World)
 (kA:Blk w Ba #[.int .i64 a.1,.int .i64 a.2] 122) (kB:Blk w Bb #[.int .i64 b.1,.int .i64 b.2] 122) :
 SeqStopsK Fence.wide n prog 139 #[.pointer (some ⟨Bb,0,none⟩),.pointer (some ⟨Ba,0,none⟩)] (fun x:a8f=> #[a4e x.1]) (b6b Ba Bb) (fun ys=>ys=c3v (a9q a b) (a5j a b+1).toNat) (fun _=>True) (a5j a b+1).toNat w:=fun l J Jx W hW hJ _ hY h0=>by
 obtain⟨ax,ay⟩:=a;obtain⟨bx,by_⟩:=b;obtain⟨a0,a1,a2,a3⟩:=ha;obtain⟨b0,b1,b2,b3⟩:=hb;exact c7m n hn l Ba Bb 0 ax ay bx by_ a0 a1 a2 a3 b0 b1 b2 b3 J Jx hY (fun pre A A' hj hg=>hJ pre A A' none hj hg (fun r e=>by cases e)) W (kA.below hW kA.lt) (kB.below hW kB.lt) h0
theorem c7n (ax ay bx by_:Int)(w:World) :
 Calls prog 82 #[a4e (ax,ay),a4e (bx,by_)] w fun e w'=>e= .returned (.func (.func 139) #[] #[.pointer (some ⟨w.heap.size+1,0,none⟩),.pointer (some ⟨w.heap.size,0,none⟩)]) ∧
  w'=(w.alloc (.cells #[.int .i64 ax,.int .i64 ay] 122)).alloc (.cells #[.int .i64 bx,.int .i64 by_] 122):=by
 go_enter func82,ntmps82;go_wp2_with fail;go_ret;exact⟨rfl,rfl⟩
theorem b0n (x y:Int)(w:World) :
 Calls prog 81 #[.agg #[.int .i64 x,.int .i64 y]] w fun e w'=>e= .returned (.bool (!a3a x y))∧Below w.heap.size w w':=by
 obtain⟨b,hb⟩:∃b,a3a x y=b:=⟨_,rfl⟩;rw[hb];replace hb:=Lib.hid hb;go_enter func81,ntmps81;go_wp2_with (go_at_call 60;refine (a6c hb.out _).mono ?_;rintro e w'⟨rfl,hb_⟩;obtain⟨p,rfl⟩:=a0e hb_;clear hb_);go_ret;exact⟨by simp,zC⟩
end
end Go.Proofs.YtfocdbjceedagaaGreatDoor
