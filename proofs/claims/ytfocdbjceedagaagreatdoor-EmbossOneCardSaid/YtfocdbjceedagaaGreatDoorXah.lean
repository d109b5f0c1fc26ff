/-
  Parts.
-/
import Derived.Test.YtfocdbjceedagaaGreatDoorXag
import Derived.Sort.WalkA
set_option linter.unusedVariables false
set_option linter.unusedSimpArgs false
set_option maxHeartbeats 8000000
set_option maxRecDepth 100000
namespace Go.Proofs.YtfocdbjceedagaaGreatDoor
open Tryz
section
open Go.Sort
section
variable {α:Type}{lt:α→α→Bool}
def eqv (lt:α→α→Bool)(a b:α):Bool:= !lt a b&& !lt b a
def Asc (lt:α→α→Bool)(l:List α):Prop:=l.Pairwise (fun a b=>lt b a=false)
structure Stb (lt:α→α→Bool)(l r:List α):Prop where
 perm:l.Perm r
 same:∀c,l.filter (eqv lt c)=r.filter (eqv lt c)
theorem Stb.refl (l:List α):Stb lt l l:=⟨.refl _,fun _=>rfl⟩
theorem Stb.symm {l r:List α}(h:Stb lt l r):Stb lt r l:=⟨h.perm.symm,fun c=>(h.same c).symm⟩
theorem Stb.trans {l r s:List α}(h:Stb lt l r)(g:Stb lt r s):Stb lt l s:=⟨h.perm.trans g.perm,fun c=>(h.same c).trans (g.same c)⟩
theorem Stb.append {l r l2 r2:List α}(h:Stb lt l r)(g:Stb lt l2 r2):Stb lt (l++l2) (r++r2) :=
 ⟨h.perm.append g.perm,fun c=>by rw[List.filter_append,List.filter_append,h.same,g.same]⟩
theorem Stb.swap (hS:SWO lt){U V:List α}(h:∀u∈U,∀v∈V,lt v u=true):Stb lt (U++V) (V++U):=by
 refine⟨List.perm_append_comm,fun c=> ?_⟩;rw[List.filter_append,List.filter_append];by_cases hu:∃u∈U,eqv lt c u=true
 ·obtain⟨u,hu,he⟩:=hu
  have:V.filter (eqv lt c)=[]:=by
   rw[List.filter_eq_nil_iff];intro v hv hc;have h1:=h u hu v hv;simp only[eqv,Bool.and_eq_true,Bool.not_eq_true'] at he hc;have:=hS.ntrans v c u hc.2 he.1;rw[h1] at this
   cases this
  rw[this,List.append_nil,List.nil_append]
 ·have:U.filter (eqv lt c)=[]:=by
   rw[List.filter_eq_nil_iff];intro u hu2 hc;exact hu ⟨u,hu2,hc⟩
  rw[this,List.append_nil,List.nil_append]
theorem c7q (hS:SWO lt)(x:α):eqv lt x x=true:=by simp[eqv,hS.irrefl]
theorem Asc.unique (hS:SWO lt):∀ {l r:List α},Asc lt l→Asc lt r→Stb lt l r→l=r
 |[],r,_,_,h=>by
  have:=h.perm.length_eq;exact (List.eq_nil_of_length_eq_zero (by simpa using this.symm)).symm
 |x::l,[],_,_,h=>by
  have:=h.perm.length_eq;simp at this
 |x::l,y::r,hl,hr,h=>by
  have hl':=List.pairwise_cons.1 hl;have hr':=List.pairwise_cons.1 hr;have hxy:lt y x=false:=by
   have hm:y∈x::l:=h.perm.mem_iff.2 (by simp);rcases List.mem_cons.1 hm with rfl|hm
   ·exact hS.irrefl _
   ·exact hl'.1 y hm
  have hyx:lt x y=false:=by
   have hm:x∈y::r:=h.perm.mem_iff.1 (by simp);rcases List.mem_cons.1 hm with rfl|hm
   ·exact hS.irrefl _
   ·exact hr'.1 x hm
  have h1:=h.same x;rw[List.filter_cons_of_pos (c7q hS x),List.filter_cons_of_pos (by simp[eqv,hxy,hyx])] at h1;obtain⟨rfl,-⟩:=List.cons.inj h1;rw[Asc.unique hS hl'.2 hr'.2 ⟨(List.perm_cons _).1 h.perm,fun c=> ?_⟩];have h2:=h.same c;by_cases hc:eqv lt c x=true
  ·rw[List.filter_cons_of_pos hc,List.filter_cons_of_pos hc] at h2
   exact (List.cons.inj h2).2
  ·rw[List.filter_cons_of_neg hc,List.filter_cons_of_neg hc] at h2
   exact h2
end
section
variable {α:Type} [Inhabited α]{lt:α→α→Bool}
def ext (d:Array α)(a b:Nat):List α:=(List.range' a (b-a)).map (fun i=>d[i]!)
theorem a1e (d:Array α){a s b:Nat}(h1:a≤s)(h2:s≤b):ext d a b=ext d a s++ext d s b:=by
 unfold ext;rw[←List.map_append,show b-a=(s-a)+(b-s) by omega,←List.range'_append_1,show a+(s-a)=s by omega]
theorem b3t (d:Array α){a b:Nat}(h:b≤a):ext d a b=[]:=by
 unfold ext;rw[show b-a=0 by omega];rfl
theorem a3v (d:Array α)(a:Nat):ext d a (a+1)=[d[a]!]:=by
 unfold ext;rw[show a+1-a=1 by omega];rfl
theorem b0q (d:Array α)(a b:Nat):(ext d a b).length=b-a:=by simp[ext]
theorem a8g {d:Array α}{a b:Nat}{x:α}:x∈ext d a b↔∃i,a≤i∧i<b∧d[i]! =x:=by
 unfold ext;rw[List.mem_map];constructor
 ·rintro⟨i,hi,rfl⟩
  have:=List.mem_range'_1.1 hi;exact⟨i,by omega,by omega,rfl⟩
 ·rintro⟨i,h1,h2,rfl⟩
  exact⟨i,List.mem_range'_1.2 ⟨h1,by omega⟩,rfl⟩
theorem a3e {d d':Array α}{a b:Nat}(h:∀i,a≤i→i<b→d'[i]! =d[i]!):ext d' a b=ext d a b:=by
 unfold ext;refine List.map_congr_left fun i hi=> ?_
 have:=List.mem_range'_1.1 hi;exact h i (by omega) (by omega)
theorem a7o {d d':Array α}{a b n:Nat}(h:∀i,i<n→d'[a+i]! =d[b+i]!):ext d' a (a+n)=ext d b (b+n):=by
 unfold ext;rw[show a+n-a=n by omega,show b+n-b=n by omega];apply List.ext_getElem
 ·simp
 ·intro k h1 h2
  simp only[List.length_map,List.length_range'] at h1;simp only[List.getElem_map,List.getElem_range',Nat.one_mul];exact h k h1
theorem c4g (d:Array α):ext d 0 d.size=d.toList:=by
 apply List.ext_getElem
 ·simp[ext]
 ·intro k h1 h2
  simp only[ext,List.length_map,List.length_range'] at h1;have hk:k<d.size:=by omega
  simp[ext,getElem!_pos d k hk]
theorem c4h {d:Array α}{a b:Nat}:Asc lt (ext d a b)↔SortedIn lt a b d:=by
 unfold Asc SortedIn;rw[List.pairwise_iff_getElem];constructor
 ·intro h i j hi hij hj
  have:=h (i-a) (j-a) (by rw[b0q];omega) (by rw[b0q];omega) (by omega);simpa [ext,show a+(i-a)=i by omega,show a+(j-a)=j by omega] using this
 ·intro h i j hi hj hij
  rw[b0q] at hi hj;have:=h (a+i) (a+j) (by omega) (by omega) (by omega);simpa [ext] using this
def Out (a b:Nat)(d d':Array α):Prop:=d'.size=d.size∧∀i,i<a∨b≤i→d'[i]! =d[i]!
theorem Out.refl (a b:Nat)(d:Array α):Out a b d d:=⟨rfl,fun _ _=>rfl⟩
theorem Out.trans {a b:Nat}{d d' d'':Array α}(h:Out a b d d')(g:Out a b d' d''):Out a b d d'':=⟨g.1.trans h.1,fun i hi=>(g.2 i hi).trans (h.2 i hi)⟩
theorem Out.mono {a b a' b':Nat}{d d':Array α}(h:Out a b d d')(ha:a'≤a)(hb:b≤b'):Out a' b' d d':=⟨h.1,fun i hi=>h.2 i (by omega)⟩
theorem Out.swp {d:Array α}{a b i j:Nat}(hi:a≤i∧i<b)(hj:a≤j∧j<b):Out a b d (swp d i j) :=
 ⟨size_swp _ _ _,fun k hk=>swp_other _ _ _ _ (by omega) (by omega)⟩
structure Srt (lt:α→α→Bool)(a b:Nat)(d d':Array α):Prop where
 out:Out a b d d'
 asc:SortedIn lt a b d'
 stb:Stb lt (ext d a b) (ext d' a b)
theorem Srt.whole {a b a' b':Nat}{d d':Array α}(h:Srt lt a b d d')(ha:a'≤a)(hab:a≤b)(hb:b≤b'):Stb lt (ext d a' b') (ext d' a' b'):=by
 rw[a1e d ha (Nat.le_trans hab hb),a1e d hab hb,a1e d' ha (Nat.le_trans hab hb),a1e d' hab hb];rw[a3e (d:=d) (d':=d') (fun i _ hi=>h.out.2 i (by omega)),a3e (d:=d) (d':=d') (a:=b) (b:=b') (fun i hi _=>h.out.2 i (by omega))];exact (Stb.refl _).append (h.stb.append (Stb.refl _))
/-! insertion sort is stable -/
theorem c4i (hS:SWO lt){d:Array α}{j:Nat}(hj:j+1<d.size)(hl:lt d[j+1]! d[j]! =true){a b:Nat}(ha:a≤j)(hb:j+1<b):Stb lt (ext d a b) (ext (swp d (j+1) j) a b):=by
 have h0:∀e:Array α,ext e a b=ext e a j++((ext e j (j+1)++ext e (j+1) (j+1+1))++ext e (j+1+1) b):=fun e=>by
  rw[a1e e ha (show j≤b by omega),a1e e (show j≤j+1 by omega) (show j+1≤b by omega),a1e e (show j+1≤j+1+1 by omega) (show j+1+1≤b by omega)];simp only[List.append_assoc]
 rw[h0 d,h0 (swp d (j+1) j)];rw[a3e (d:=d) (d':=swp d (j+1) j) (a:=a) (b:=j) (fun i _ hi=>swp_other _ _ _ _ (by omega) (by omega)),a3e (d:=d) (d':=swp d (j+1) j) (a:=j+1+1) (b:=b) (fun i hi _=>swp_other _ _ _ _ (by omega) (by omega))];refine (Stb.refl _).append (Stb.append ?_ (Stb.refl _));rw[a3v,a3v,a3v,a3v,swp_left _ _ _ hj (by omega),swp_right _ _ _ (by omega)];refine Stb.swap hS ?_;simp only[List.mem_cons,List.not_mem_nil,or_false];rintro u rfl v rfl;exact hl
theorem a9a (hS:SWO lt)(a b:Nat):∀(j:Nat)(d:Array α),j<b→b≤d.size→Stb lt (ext d a b) (ext (insInner lt a j d) a b)
 |0,d,_,_=>Stb.refl _
 |j+1,d,hj,hb=>by
  unfold insInner;split
  ·rename_i h
   simp only[Bool.and_eq_true,decide_eq_true_eq] at h;exact (c4i hS (by omega) h.2 (by omega) hj).trans (a9a hS a b j _ (by omega) (by rw[size_swp];exact hb))
  ·exact Stb.refl _
theorem a7p (lt:α→α→Bool)(a:Nat):∀(j:Nat)(d:Array α),(insInner lt a j d).size=d.size
 |0,d=>rfl
 |j+1,d=>by
  unfold insInner;split
  ·rw[a7p lt a j,size_swp]
  ·rfl
theorem a9b (hS:SWO lt)(a b:Nat):∀(n i:Nat)(d:Array α),b-i=n→b≤d.size→Stb lt (ext d a b) (ext (insOuter lt a b i d) a b)
 |0,i,d,h,_=>by rw[insOuter_stop _ _ _ _ _ (by omega)];exact Stb.refl _
 |n+1,i,d,h,hb=>by
  rw[insOuter_go _ _ _ _ _ (by omega)];exact (a9a hS a b i d (by omega) hb).trans (a9b hS a b n (i+1) _ (by omega) (by rw[a7p];exact hb))
theorem a3k (hS:SWO lt)(d:Array α){a b:Nat}(hab:a≤b)(hb:b≤d.size):Srt lt a b d (insertionSort lt d a b):=by
 obtain⟨⟨h1,h2,-⟩,h3⟩:=insertionSort_holds (lt:=lt) hS d a b hab hb;exact⟨⟨h1,h2⟩,h3,a9b hS a b _ _ d rfl hb⟩
/-! SymMerge -/
theorem b8j {a m b:Nat}{d d':Array α}(ho:Out a b d d')(ham:a≤m)(hmb:m≤b)(h1:SortedIn lt a m d')(h2:SortedIn lt m b d')(h12:∀i j,a≤i→i<m→m≤j→j<b→lt d'[j]! d'[i]! =false)(hs:Stb lt (ext d a b) (ext d' a b)):Srt lt a b d d':=by
 refine⟨ho,fun i j hi hij hj=> ?_,hs⟩;by_cases hjm:j<m
 ·exact h1 i j hi hij hjm
 ·by_cases him:i<m
  ·exact h12 i j hi him (by omega) hj
  ·exact h2 i j (by omega) hij hj
structure Cut (lt:α→α→Bool)(a m b s e:Nat)(d:Array α):Prop where
 la:a≤s
 sm:s≤m
 me:m≤e
 eb:e≤b
 less:∀i j,s≤i→i<m→m≤j→j<e→lt d[j]! d[i]! =true
 more:∀i j,a≤i→i<s→e≤j→j<b→lt d[j]! d[i]! =false
structure Rot (s m e:Nat)(d d':Array α):Prop where
 out:Out s e d d'
 eq:ext d' s e=ext d m e++ext d s m
theorem Rot.low {s m e:Nat}{d d':Array α}(h:Rot s m e d d')(h1:s≤m)(h2:m≤e):ext d' s (s+(e-m))=ext d m e∧ext d' (s+(e-m)) e=ext d s m:=by
 have hx:=h.eq;rw[a1e d' (show s≤s+(e-m) by omega) (show s+(e-m)≤e by omega)] at hx;exact List.append_inj hx (by rw[b0q,b0q];omega)
theorem Rot.idx {s m e:Nat}{d d':Array α}(h:Rot s m e d d')(h1:s≤m)(h2:m≤e):(∀i,i<e-m→d'[s+i]! =d[m+i]!)∧(∀i,i<m-s→d'[s+(e-m)+i]! =d[s+i]!):=by
 obtain⟨g1,g2⟩:=h.low h1 h2;constructor
 ·intro i hi
  have:=congrArg (fun l=>l[i]?) g1;simpa [ext,hi,show i<s+(e-m)-s by omega] using this
 ·intro i hi
  have:=congrArg (fun l=>l[i]?) g2;simpa [ext,hi,show i<e-(s+(e-m)) by omega] using this
theorem Rot.none {s m e:Nat}{d:Array α}(h:s=m∨m=e)(h1:s≤m)(h2:m≤e):Rot s m e d d:=by
 refine⟨.refl _ _ _,?_⟩;rcases h with rfl|rfl
 ·rw[b3t d (yR s),List.append_nil]
 ·rw[b3t d (yR m),List.nil_append]
theorem Cut.step (hS:SWO lt){a m b s e:Nat}{d d1 d2 d3:Array α}(hc:Cut lt a m b s e d)(hL:SortedIn lt a m d)(hR:SortedIn lt m b d)(hr:Rot s m e d d1) :
 (SortedIn lt a s d1∧SortedIn lt s (s+(e-m)) d1∧SortedIn lt (s+(e-m)) e d1∧SortedIn lt e b d1) ∧
 (Srt lt a (s+(e-m)) d1 d2→Srt lt (s+(e-m)) b d2 d3→Srt lt a b d d3):=by
 obtain⟨has,hsm,hme,heb,hless,hmore⟩:=hc;obtain⟨i1,i2⟩:=hr.idx hsm hme;have o1:=hr.out.2;have j1:∀i,s≤i→i<s+(e-m)→d1[i]! =d[i-s+m]! :=fun i h1 h2=>by
  have:=i1 (i-s) (by omega);rw[show s+(i-s)=i by omega] at this;rw[this,Nat.add_comm]
 have j2:∀i,s+(e-m)≤i→i<e→d1[i]! =d[i-(e-m)]! :=fun i h1 h2=>by
  have:=i2 (i-(s+(e-m))) (by omega);rw[show s+(e-m)+(i-(s+(e-m)))=i by omega] at this;rw[this,show s+(i-(s+(e-m)))=i-(e-m) by omega]
 refine⟨⟨?_,?_,?_,?_⟩,?_⟩
 ·intro i j hi hij hj
  rw[o1 i (by omega),o1 j (by omega)];exact hL i j hi hij (by omega)
 ·intro i j hi hij hj
  rw[j1 i hi (by omega),j1 j (by omega) hj];exact hR _ _ (by omega) (by omega) (by omega)
 ·intro i j hi hij hj
  rw[j2 i hi (by omega),j2 j (by omega) hj];exact hL _ _ (by omega) (by omega) (by omega)
 ·intro i j hi hij hj
  rw[o1 i (by omega),o1 j (by omega)];exact hR i j (by omega) hij hj
 ·intro h2 h3
  have ho:Out a b d d3:=(hr.out.mono has heb).trans ((h2.out.mono (yR _) (by omega)).trans (h3.out.mono (by omega) (yR _)));have hst:Stb lt (ext d a b) (ext d1 a b):=by
   have h0:∀x:Array α,ext x a b=ext x a s++(ext x s e++ext x e b):=fun x=>by
    rw[a1e x has (show s≤b by omega),a1e x (show s≤e by omega) heb]
   rw[h0 d,h0 d1,hr.eq,a1e d hsm hme];rw[a3e (d:=d) (d':=d1) (a:=a) (b:=s) (fun i _ hi=>o1 i (by omega)),a3e (d:=d) (d':=d1) (a:=e) (b:=b) (fun i hi _=>o1 i (by omega))];refine (Stb.refl _).append (Stb.append (Stb.swap hS ?_) (Stb.refl _));intro u hu v hv;obtain⟨i,hi1,hi2,rfl⟩:=a8g.1 hu;obtain⟨j,hj1,hj2,rfl⟩:=a8g.1 hv;exact hless i j hi1 hi2 hj1 hj2
  refine b8j (m:=s+(e-m)) ho (by omega) (by omega) ?_ h3.asc ?_ (hst.trans ((h2.whole (yR _) (by omega) (by omega)).trans (h3.whole (by omega) (by omega) (yR _))))
  ·intro i j hi hij hj
   rw[h3.out.2 i (by omega),h3.out.2 j (by omega)];exact h2.asc i j hi hij hj
  ·intro i j hi him hmj hj
   rw[h3.out.2 i (by omega)];have m2:d2[i]!∈ext d1 a (s+(e-m)):=h2.stb.perm.mem_iff.2 (a8g.2 ⟨i,hi,him,rfl⟩);have m3:d3[j]!∈ext d2 (s+(e-m)) b:=h3.stb.perm.mem_iff.2 (a8g.2 ⟨j,hmj,hj,rfl⟩);obtain⟨i',hi1,hi2,e1⟩:=a8g.1 m2;obtain⟨j',hj1,hj2,e2⟩:=a8g.1 m3;rw[←e1,←e2,h2.out.2 j' (by omega)];by_cases c1:i'<s
   ·rw[o1 i' (by omega)]
    by_cases c2:j'<e
    ·rw[j2 j' hj1 c2]
     exact hL _ _ hi1 (by omega) (by omega)
    ·rw[o1 j' (by omega)]
     exact hmore i' j' hi1 c1 (by omega) hj2
   ·rw[j1 i' (by omega) hi2]
    by_cases c2:j'<e
    ·rw[j2 j' hj1 c2]
     have h5:=hless (j'-(e-m)) (i'-s+m) (by omega) (by omega) (by omega) (by omega)
     cases h6:lt d[j'-(e-m)]! d[i'-s+m]! with
     |false=>rfl
     |true=>have:=hS.trans _ _ _ h6 h5;rw[hS.irrefl] at this;cases this
    ·rw[o1 j' (by omega)]
     exact hR _ _ (by omega) (by omega) hj2
theorem d2k {a m b s n:Nat}(hS:SWO lt){d:Array α}(hL:SortedIn lt a m d)(hR:SortedIn lt m b d)(has:a≤s)(hsm:s≤m)(hme:m+s≤n)(heb:n≤b+s)
 (h1:s<m→m+s<n→lt d[n-1-s]! d[s]! =true) (h2:a<s→n<b+s→lt d[n-1-(s-1)]! d[s-1]! =false):Cut lt a m b s (n-s) d:=by
 refine⟨has,hsm,by omega,by omega,?_,?_⟩
 ·intro i j hi him hmj hj
  have h3:=h1 (by omega) (by omega)
  cases h4:lt d[j]! d[i]! with
  |true=>rfl
  |false =>
   have h5:lt d[n-1-s]! d[j]! =false:=by
    rcases Nat.lt_or_ge j (n-1-s) with h|h
    ·exact hR j _ hmj h (by omega)
    ·rw[show j=n-1-s by omega];exact hS.irrefl _
   have h6:lt d[i]! d[s]! =false:=by
    rcases Nat.lt_or_ge s i with h|h
    ·exact hL s i has h him
    ·rw[show i=s by omega];exact hS.irrefl _
   have h7:=hS.ntrans _ _ _ (hS.ntrans _ _ _ h5 h4) h6;rw[h3] at h7
   cases h7
 ·intro i j hi his hj hjb
  have h3:=h2 (by omega) (by omega);have h5:lt d[j]! d[n-1-(s-1)]! =false:=by
   rcases Nat.lt_or_ge (n-1-(s-1)) j with h|h
   ·exact hR _ j (by omega) h hjb
   ·rw[show n-1-(s-1)=j by omega];exact hS.irrefl _
  have h6:lt d[s-1]! d[i]! =false:=by
   rcases Nat.lt_or_ge i (s-1) with h|h
   ·exact hL i _ hi h (by omega)
   ·rw[show i=s-1 by omega];exact hS.irrefl _
  exact hS.ntrans _ _ _ (hS.ntrans _ _ _ h5 h3) h6
theorem a3l {a b:Nat}{d:Array α}(h:SortedIn lt a b d):Srt lt a b d d:=⟨.refl _ _ _,h,.refl _⟩
end
section
variable {α:Type} [Inhabited α]{lt:α→α→Bool}
theorem Rot.right {a k:Nat}{d dk:Array α}(h:Rot a (a+1) (k+1) d dk)(ha:a≤k)(hk:k+1<d.size):Rot a (a+1) (k+1+1) d (swp dk k (k+1)):=by
 obtain⟨i1,i2⟩:=h.idx (by omega) (by omega);have hs:=h.out.1;have ho:=h.out.2;refine⟨(h.out.mono (yR _) (by omega)).trans (Out.swp ⟨ha,by omega⟩ ⟨by omega,by omega⟩),?_⟩;have hx:dk[k]! =d[a]! :=by
  have:=i2 0 (by omega);rw[show a+(k+1-(a+1))+0=k by omega] at this;simpa using this
 rw[a1e (swp dk k (k+1)) (show a≤k by omega) (show k≤k+1+1 by omega),a1e (swp dk k (k+1)) (show k≤k+1 by omega) (show k+1≤k+1+1 by omega),a3v,a3v];rw[swp_left _ _ _ (by omega) (by omega),swp_right _ _ _ (by omega),hx,ho (k+1) (by omega)];rw[a1e d (show a+1≤k+1 by omega) (show k+1≤k+1+1 by omega),a3v,a3v];rw[a3e (d:=dk) (d':=swp dk k (k+1)) (a:=a) (b:=k) (fun i _ hi=>swp_other _ _ _ _ (by omega) (by omega))];have h2:ext dk a k=ext d (a+1) (k+1):=by
  have h3:=a7o (d:=d) (d':=dk) (a:=a) (b:=a+1) (n:=k-a) (fun i hi=>i1 i (by omega));rw[show a+(k-a)=k by omega,show a+1+(k-a)=k+1 by omega] at h3;exact h3
 rw[h2];simp only[List.append_assoc]
theorem Rot.left {k m:Nat}{d dk:Array α}(h:Rot (k+1) m (m+1) d dk)(hk:k+1≤m)(hm:m<d.size):Rot k m (m+1) d (swp dk (k+1) k):=by
 obtain⟨i1,i2⟩:=h.idx (by omega) (by omega);have hs:=h.out.1;have ho:=h.out.2;refine⟨(h.out.mono (by omega) (yR _)).trans (Out.swp ⟨by omega,by omega⟩ ⟨by omega,by omega⟩),?_⟩;have hx:dk[k+1]! =d[m]! :=by
  have:=i1 0 (by omega);simpa using this
 rw[a1e (swp dk (k+1) k) (show k≤k+1 by omega) (show k+1≤m+1 by omega),a1e (swp dk (k+1) k) (show k+1≤k+1+1 by omega) (show k+1+1≤m+1 by omega),a3v,a3v];rw[swp_left _ _ _ (by omega) (by omega),swp_right _ _ _ (by omega),hx,ho k (by omega)];rw[a1e d (show k≤k+1 by omega) (show k+1≤m by omega),a3v,a3v];rw[a3e (d:=dk) (d':=swp dk (k+1) k) (a:=k+1+1) (b:=m+1) (fun i hi _=>swp_other _ _ _ _ (by omega) (by omega))];have h2:ext dk (k+1+1) (m+1)=ext d (k+1) m:=by
  have h3:=a7o (d:=d) (d':=dk) (a:=k+1+1) (b:=k+1) (n:=m-(k+1)) (fun i hi=>by
   have:=i2 i (by omega);rw[show k+1+(m+1-m)+i=k+1+1+i by omega] at this;exact this)
  rw[show k+1+1+(m-(k+1))=m+1 by omega,show k+1+(m-(k+1))=m by omega] at h3;exact h3
 rw[h2]
structure SwR (a b n:Nat)(d d':Array α):Prop where
 size:d'.size=d.size
 lo:∀i,i<n→d'[a+i]! =d[b+i]!
 hi:∀i,i<n→d'[b+i]! =d[a+i]!
 out:∀i,(i<a∨a+n≤i)→(i<b∨b+n≤i)→d'[i]! =d[i]!
theorem SwR.zero (a b:Nat)(d:Array α):SwR a b 0 d d:=⟨rfl,fun i h=>by omega,fun i h=>by omega,fun _ _ _=>rfl⟩
theorem SwR.step {a b n:Nat}{d d':Array α}(h:SwR a b n d d')(hab:a+n<b)(hb:b+n<d.size):SwR a b (n+1) d (swp d' (a+n) (b+n)):=by
 have hs:=h.size;refine⟨by rw[size_swp,h.size],fun i hi=> ?_,fun i hi=> ?_,fun i h1 h2=> ?_⟩
 ·by_cases e:i=n
  ·subst e
   rw[swp_left _ _ _ (by omega) (by omega)];exact h.out _ (by omega) (by omega)
  ·rw[swp_other _ _ _ _ (by omega) (by omega)]
   exact h.lo i (by omega)
 ·by_cases e:i=n
  ·subst e
   rw[swp_right _ _ _ (by omega)];exact h.out _ (by omega) (by omega)
  ·rw[swp_other _ _ _ _ (by omega) (by omega)]
   exact h.hi i (by omega)
 ·rw[swp_other _ _ _ _ (by omega) (by omega)]
  exact h.out i (by omega) (by omega)
structure RoI (a m b i j:Nat)(d D:Array α):Prop where
 out:Out a b d D
 i0:a+i≤m
 j0:m+j≤b
 eq:ext D a (m-i)++((ext D m (m+j)++ext D (m-i) m)++ext D (m+j) b)=ext d m b++ext d a m
theorem RoI.start {a m b:Nat}(d:Array α)(h1:a≤m)(h2:m≤b):RoI a m b (m-a) (b-m) d d:=by
 refine⟨.refl _ _ _,by omega,by omega,?_⟩;rw[show m-(m-a)=a by omega,show m+(b-m)=b by omega,b3t d (yR a),b3t d (yR b)];simp
theorem SwR.outs {a b n x y:Nat}{d d':Array α}(h:SwR a b n d d')(hx:x≤a)(hab:a+n≤b)(hy:b+n≤y):Out x y d d' :=
 ⟨h.size,fun i hi=>h.out i (by omega) (by omega)⟩
theorem SwR.ext_lo {a b n:Nat}{d d':Array α}(h:SwR a b n d d'):ext d' a (a+n)=ext d b (b+n):=a7o h.lo
theorem SwR.ext_hi {a b n:Nat}{d d':Array α}(h:SwR a b n d d'):ext d' b (b+n)=ext d a (a+n):=a7o h.hi
theorem SwR.ext_out {a b n x y:Nat}{d d':Array α}(h:SwR a b n d d')(h1:y≤a∨a+n≤x)(h2:y≤b∨b+n≤x):ext d' x y=ext d x y :=
 a3e fun i hi hj=>h.out i (by omega) (by omega)
theorem RoI.left {a m b i j:Nat}{d D D':Array α}(h:RoI a m b i j d D)(hij:j<i)(hs:SwR (m-i) m j D D'):RoI a m b (i-j) j d D':=by
 obtain⟨ho,hi,hj,he⟩:=h;refine⟨ho.trans (hs.outs (by omega) (by omega) (by omega)),by omega,hj,?_⟩;rw[←he];have e1:m-(i-j)=m-i+j:=by omega
 rw[e1,a1e D' (show a≤m-i by omega) (show m-i≤m-i+j by omega),hs.ext_lo,hs.ext_hi];rw[hs.ext_out (x:=a) (y:=m-i) (by omega) (by omega),hs.ext_out (x:=m-i+j) (y:=m) (by omega) (by omega),hs.ext_out (x:=m+j) (y:=b) (by omega) (by omega)];rw[a1e D (show m-i≤m-i+j by omega) (show m-i+j≤m by omega)];simp only[List.append_assoc]
theorem RoI.right {a m b i j:Nat}{d D D':Array α}(h:RoI a m b i j d D)(hij:i<j)(hs:SwR (m-i) (m+j-i) i D D'):RoI a m b i (j-i) d D':=by
 obtain⟨ho,hi,hj,he⟩:=h;refine⟨ho.trans (hs.outs (by omega) (by omega) (by omega)),hi,by omega,?_⟩;rw[←he];have e1:m+(j-i)=m+j-i:=by omega
 have e2:m-i+i=m:=by omega
 have e3:m+j-i+i=m+j:=by omega
 have h1:=hs.ext_lo;have h2:=hs.ext_hi;rw[e2,e3] at h1 h2;rw[e1,a1e D' (show m+j-i≤m+j by omega) (show m+j≤b by omega),h1,h2];rw[hs.ext_out (x:=a) (y:=m-i) (by omega) (by omega),hs.ext_out (x:=m) (y:=m+j-i) (by omega) (by omega),hs.ext_out (x:=m+j) (y:=b) (by omega) (by omega)];rw[a1e D (show m≤m+j-i by omega) (show m+j-i≤m+j by omega)];simp only[List.append_assoc]
theorem RoI.done {a m b i:Nat}{d D D':Array α}(h:RoI a m b i i d D)(hs:SwR (m-i) m i D D'):Rot a m b d D':=by
 obtain⟨ho,hi,hj,he⟩:=h;refine⟨ho.trans (hs.outs (by omega) (by omega) (by omega)),?_⟩;rw[←he];have e2:m-i+i=m:=by omega
 have h1:=hs.ext_lo;have h2:=hs.ext_hi;rw[e2] at h1 h2;rw[a1e D' (show a≤m-i by omega) (show m-i≤b by omega),a1e D' (show m-i≤m by omega) (show m≤b by omega),a1e D' (show m≤m+i by omega) (show m+i≤b by omega),h1,h2];rw[hs.ext_out (x:=a) (y:=m-i) (by omega) (by omega),hs.ext_out (x:=m+i) (y:=b) (by omega) (by omega)];simp only[List.append_assoc]
theorem c7r (hS:SWO lt){a b i:Nat}{d d1:Array α}(hR:SortedIn lt (a+1) b d)(hi:a+1≤i)(hib:i≤b)
 (h1:i=a+1∨lt d[i-1]! d[a]! =true) (h2:i=b∨lt d[i]! d[a]! =false) (hr:Rot a (a+1) i d d1):Srt lt a b d d1:=by
 have g1:∀j,a+1≤j→j<i→lt d[j]! d[a]! =true:=fun j hj hji=>by
  rcases h1 with h|h
  ·omega
  ·cases h4:lt d[j]! d[a]! with
   |true=>rfl
   |false =>
    have h5:lt d[i-1]! d[j]! =false:=by
     rcases Nat.lt_or_ge j (i-1) with h|h
     ·exact hR j _ hj h (by omega)
     ·rw[show j=i-1 by omega];exact hS.irrefl _
    rw[hS.ntrans _ _ _ h5 h4] at h
    cases h
 have g2:∀j,i≤j→j<b→lt d[j]! d[a]! =false:=fun j hj hjb=>by
  rcases h2 with h|h
  ·omega
  ·have h5:lt d[j]! d[i]! =false:=by
    rcases Nat.lt_or_ge i j with h|h
    ·exact hR i _ hi h hjb
    ·rw[show j=i by omega];exact hS.irrefl _
   exact hS.ntrans _ _ _ h5 h
 obtain⟨-,i2⟩:=hr.idx (by omega) hi;have hx:d1[a+(i-(a+1))]! =d[a]! :=by
  have:=i2 0 (by omega);simpa using this
 obtain⟨⟨-,s2,-,s4⟩,hf⟩:=Cut.step hS (a:=a) (m:=a+1) (b:=b) (s:=a) (e:=i) (d:=d) (d1:=d1) (d2:=d1) (d3:=d1)
  ⟨yR _,by omega,hi,hib,fun k j hk hka hj hji=>by rw[show k=a by omega];exact g1 j hj hji,fun k j hk hka _ _=>by omega⟩
  (fun p q _ _ _=>by omega) hR hr
 refine hf (a3l s2) (a3l fun p q hp hpq hq=> ?_);by_cases hpi:p=a+(i-(a+1))
 ·rw[hpi,hx,hr.out.2 q (by omega)]
  exact g2 q (by omega) hq
 ·exact s4 p q (by omega) hpq hq
theorem c4j (hS:SWO lt){a m i:Nat}{d d1:Array α}(hL:SortedIn lt a m d)(hi:a≤i)(him:i≤m)
 (h1:i=a∨lt d[m]! d[i-1]! =false) (h2:i=m∨lt d[m]! d[i]! =true) (hr:Rot i m (m+1) d d1):Srt lt a (m+1) d d1:=by
 have g1:∀j,a≤j→j<i→lt d[m]! d[j]! =false:=fun j hj hji=>by
  rcases h1 with h|h
  ·omega
  ·have h5:lt d[i-1]! d[j]! =false:=by
    rcases Nat.lt_or_ge j (i-1) with h|h
    ·exact hL j _ hj h (by omega)
    ·rw[show j=i-1 by omega];exact hS.irrefl _
   exact hS.ntrans _ _ _ h h5
 have g2:∀j,i≤j→j<m→lt d[m]! d[j]! =true:=fun j hj hjm=>by
  rcases h2 with h|h
  ·omega
  ·cases h4:lt d[m]! d[j]! with
   |true=>rfl
   |false =>
    have h5:lt d[j]! d[i]! =false:=by
     rcases Nat.lt_or_ge i j with h|h
     ·exact hL i _ hi h hjm
     ·rw[show j=i by omega];exact hS.irrefl _
    rw[hS.ntrans _ _ _ h4 h5] at h
    cases h
 obtain⟨i1,-⟩:=hr.idx him (by omega);have hx:d1[i]! =d[m]! :=by
  have:=i1 0 (by omega);simpa using this
 obtain⟨⟨s1,-,s3,-⟩,hf⟩:=Cut.step hS (a:=a) (m:=m) (b:=m+1) (s:=i) (e:=m+1) (d:=d) (d1:=d1) (d2:=d1) (d3:=d1)
  ⟨hi,him,by omega,yR _,fun k j hk hka hj hji=>by rw[show j=m by omega];exact g2 k hk hka,fun k j _ _ _ _=>by omega⟩
  hL (fun p q _ _ _=>by omega) hr
 refine hf (a3l fun p q hp hpq hq=> ?_) (a3l s3);by_cases hqi:q=i
 ·rw[hqi,hx,hr.out.2 p (by omega)]
  exact g1 p hp (by omega)
 ·exact s1 p q hp hpq (by omega)
/-! blocks of a size,each sorted -/
def Bks (lt:α→α→Bool)(s n:Nat)(d:Array α):Prop:=∀k,SortedIn lt (k*s) (min (k*s+s) n) d
theorem SortedIn.mono {a b a' b':Nat}{d:Array α}(h:SortedIn lt a b d)(ha:a≤a')(hb:b'≤b):SortedIn lt a' b' d:=fun i j hi hij hj=>h i j (by omega) hij (by omega)
theorem SortedIn.outs {a b x y:Nat}{d d':Array α}(h:SortedIn lt a b d)(ho:Out x y d d')(hxy:b≤x∨y≤a):SortedIn lt a b d':=fun i j hi hij hj=>by
 rw[ho.2 i (by omega),ho.2 j (by omega)];exact h i j hi hij hj
theorem Srt.stb0 {a b n:Nat}{d0 d d':Array α}(h:Stb lt (ext d0 0 n) (ext d 0 n))(hs:Srt lt a b d d')(hab:a≤b)(hb:b≤n):Stb lt (ext d0 0 n) (ext d' 0 n) :=
 h.trans (hs.whole (Nat.zero_le _) hab hb)
structure InI (lt:α→α→Bool)(s a n:Nat)(d0 d:Array α):Prop where
 size:d.size=n
 stb:Stb lt (ext d0 0 n) (ext d 0 n)
 mul:∃t,a=t*s
 done:∀k,k*s<a→SortedIn lt (k*s) (k*s+s) d
theorem InI.start {s n:Nat}{d:Array α}(h:d.size=n):InI lt s 0 n d d:=⟨h,.refl _,⟨0,by simp⟩,fun k hk=>by omega⟩
theorem a4h {k t s:Nat}(h:k*s<t*s+s)(hne:k≠t):k*s+s≤t*s:=by
 have h1:k<t+1:=by
  rcases Nat.lt_or_ge k (t+1) with h2|h2
  ·exact h2
  ·have:=Nat.mul_le_mul_right s h2
   rw[Nat.succ_mul] at this;omega
 have:=Nat.mul_le_mul_right s (show k+1≤t by omega);rw[Nat.succ_mul] at this;exact this
theorem InI.step {s a n:Nat}{d0 d d':Array α}(h:InI lt s a n d0 d)(hb:a+s≤n)(hs:Srt lt a (a+s) d d'):InI lt s (a+s) n d0 d':=by
 obtain⟨hz,hst,⟨t,rfl⟩,hd⟩:=h;refine⟨hs.out.1.trans hz,Srt.stb0 hst hs (by omega) hb,⟨t+1,by rw[Nat.succ_mul]⟩,fun k hk=> ?_⟩;by_cases e:k=t
 ·subst e
  exact hs.asc
 ·have:=a4h hk e
  have hs0:k*s<t*s:=by
   rcases Nat.eq_zero_or_pos s with h0|h0
   ·subst h0;simp at hk
   ·omega
  exact SortedIn.outs (hd k hs0) hs.out (.inl this)
theorem InI.last {s a n:Nat}{d0 d d':Array α}(h:InI lt s a n d0 d)(hs0:0<s)(ha:a≤n)(hb:n<a+s)(hs:Srt lt a n d d'):d'.size=n∧Stb lt (ext d0 0 n) (ext d' 0 n)∧Bks lt s n d':=by
 obtain⟨hz,hst,⟨t,rfl⟩,hd⟩:=h;refine⟨hs.out.1.trans hz,Srt.stb0 hst hs ha (yR _),fun k=> ?_⟩;by_cases e:k=t
 ·subst e
  exact SortedIn.mono hs.asc (yR _) (by omega)
 ·by_cases hk:k*s<t*s+s
  ·have:=a4h hk e
   exact SortedIn.mono (SortedIn.outs (hd k (by omega)) hs.out (.inl this)) (yR _) (by omega)
  ·intro i j hi hij hj
   omega
structure MrI (lt:α→α→Bool)(s a n:Nat)(d0 d:Array α):Prop where
 size:d.size=n
 stb:Stb lt (ext d0 0 n) (ext d 0 n)
 mul:∃t,a=t*(2*s)
 done:∀k,k*(2*s)<a→SortedIn lt (k*(2*s)) (k*(2*s)+2*s) d
 rest:∀k,a≤k*s→SortedIn lt (k*s) (min (k*s+s) n) d
theorem MrI.start {s n:Nat}{d0 d:Array α}(h:d.size=n)(hst:Stb lt (ext d0 0 n) (ext d 0 n))(hb:Bks lt s n d):MrI lt s 0 n d0 d:=⟨h,hst,⟨0,by simp⟩,fun k hk=>by omega,fun k _=>hb k⟩
theorem MrI.two {s a n:Nat}{d0 d:Array α}(h:MrI lt s a n d0 d):SortedIn lt a (min (a+s) n) d∧SortedIn lt (a+s) (min (a+2*s) n) d:=by
 obtain⟨-,-,⟨t,rfl⟩,-,hr⟩:=h;have e1:2*t*s=t*(2*s):=by rw[Nat.mul_comm 2 t,Nat.mul_assoc]
 have e2:(2*t+1)*s=t*(2*s)+s:=by rw[Nat.succ_mul,e1]
 have h1:=hr (2*t) (by omega);have h2:=hr (2*t+1) (by omega);rw[e1] at h1;rw[e2] at h2;exact⟨h1,by rw[show t*(2*s)+s+s=t*(2*s)+2*s by omega] at h2;exact h2⟩
theorem MrI.step {s a n:Nat}{d0 d d':Array α}(h:MrI lt s a n d0 d)(hs0:0<s)(hb:a+2*s≤n)(hs:Srt lt a (a+2*s) d d'):MrI lt s (a+2*s) n d0 d':=by
 obtain⟨hz,hst,⟨t,rfl⟩,hd,hr⟩:=h;refine⟨hs.out.1.trans hz,Srt.stb0 hst hs (by omega) hb,⟨t+1,(Nat.succ_mul t (2*s)).symm⟩,fun k hk=> ?_,fun k hk=>SortedIn.outs (hr k (by omega)) hs.out (.inr hk)⟩;by_cases e:k=t
 ·subst e
  exact hs.asc
 ·have:=a4h hk e
  exact SortedIn.outs (hd k (by omega)) hs.out (.inl this)
theorem MrI.last {s a n:Nat}{d0 d d':Array α}(h:MrI lt s a n d0 d)(hs0:0<s)(ha:a≤n)(hb:n<a+2*s)(hs:Srt lt a n d d'):d'.size=n∧Stb lt (ext d0 0 n) (ext d' 0 n)∧Bks lt (2*s) n d':=by
 obtain⟨hz,hst,⟨t,rfl⟩,hd,hr⟩:=h;refine⟨hs.out.1.trans hz,Srt.stb0 hst hs ha (yR _),fun k=> ?_⟩;by_cases e:k=t
 ·subst e
  exact SortedIn.mono hs.asc (yR _) (by omega)
 ·by_cases hk:k*(2*s)<t*(2*s)+2*s
  ·have:=a4h hk e
   exact SortedIn.mono (SortedIn.outs (hd k (by omega)) hs.out (.inl this)) (yR _) (by omega)
  ·intro i j hi hij hj
   omega
theorem MrI.last0 {s a n:Nat}{d0 d:Array α}(h:MrI lt s a n d0 d)(hs0:0<s)(ha:a≤n)(hb:n≤a+s):d.size=n∧Stb lt (ext d0 0 n) (ext d 0 n)∧Bks lt (2*s) n d :=
 h.last hs0 ha (by omega) (a3l (SortedIn.mono h.two.1 (yR _) (by omega)))
theorem c4k (hS:SWO lt){n s:Nat}{d0 d:Array α}(h0:d0.size=n)(hz:d.size=n)(hst:Stb lt (ext d0 0 n) (ext d 0 n))(hb:Bks lt s n d)(hn:n≤s):d=insertionSort lt d0 0 n:=by
 obtain⟨ho,ha,hs⟩:=a3k hS d0 (Nat.zero_le n) (by omega);have h1:SortedIn lt 0 n d:=by
  have:=hb 0;rw[Nat.zero_mul,show min (0+s) n=n by omega] at this;exact this
 have h2:=Asc.unique hS (c4h.2 h1) (c4h.2 ha) (hst.symm.trans hs);have e1:=c4g d;have e2:=c4g (insertionSort lt d0 0 n);rw[hz] at e1;rw[ho.1,h0] at e2;exact Array.toList_inj.1 (e1.symm.trans (h2.trans e2))
end
end
section
open Go.RowKit Go.Shelf Go.Lib Go.Sort
attribute [local go_sem] Oper.semAt_some
attribute [local go_sem ↓] Go.wp_at_zero Go.wp_at_succ
def swapG (W:World)(blk off p q:Nat)(d:Array Pc):World:=(W.setCells blk (off+p*7) (plE.enc d[q]!)).setCells blk (off+q*7) (plE.enc d[p]!)
theorem c4l {W:World}{blk off p q:Nat}{d:Array Pc}(h:RowP W blk off d)(hp:p<d.size)(hq:q<d.size):RowP (swapG W blk off p q d) blk off (swp d p q):=by
 have b:∀x,x<d.size→x*7+7≤d.size*7:=fun x hx=>by omega
 have h1:=holds_setCells_c h (p*7) (plE.enc d[q]!) (by rw[size_flatK];exact b p hp);have h2:=holds_setCells_c h1 (q*7) (plE.enc d[p]!) (by rw[size_setMany,size_flatK];exact b q hq);unfold RowP HoldsK;rw[←setMany_swp plE.enc 7 (fun _=>rfl) d p q hp hq];exact h2
theorem SoW.swapG {w:World}{blk off N n p q:Nat}{d:Array Pc}{W:World}(h:SoW w blk off N n d W)(hp:p<n)(hq:q<n):SoW w blk off N n (swp d p q) (swapG W blk off p q d) :=
 ⟨c4l h.row (by rw[h.sz];exact hp) (by rw[h.sz];exact hq),RowB.setCells _ _ _ (RowB.setCells _ _ _ h.rb),a2g h.gr (a2g (a1w _ _ _ _) (a1w _ _ _ _)),by rw[size_swp];exact h.sz⟩
def SoX (w:World)(blk off N n:Nat)(R:Array Pc→Prop)(W:World):Prop:=∃d,SoW w blk off N n d W∧R d
theorem SoX.mk {w:World}{blk off N n:Nat}{R:Array Pc→Prop}{W:World}{d:Array Pc}(h:SoW w blk off N n d W)(g:R d):SoX w blk off N n R W:=⟨d,h,g⟩
theorem b0r (blk off cap N n a b k:Nat)(d:Array Pc)(fv:Value)(w0 w:World)(hW:SoW w0 blk off N n d w)(hab:a+k≤b)(hbn:b+k≤n)(hn:n≤1000) :
 Calls prog 206 #[.slice (some ⟨blk,off,none⟩) n cap,.int .i64 (a:Nat),.int .i64 (b:Nat),.int .i64 (k:Nat),fv] w fun e w'=>e= .returned (.tuple #[])∧SoX w0 blk off N n (SwR a b k d) w':=by
 have mixed:prog.follows .mixedOrders=true:=by kernel_rfl
 have HW:Hid (SoW w0 blk off N n d w):=hW;have hsz:=hW.sz;clear hW;go_enter func206,ntmps206;go_wp2_with fail;go_loopw [10] (fun vi wr=>∃(i:Nat) (dk:Array Pc),vi= .int .i64 (i:Nat)∧i≤k∧Hid (SoW w0 blk off N n dk wr)∧Hid (SwR a b i d dk)) (fun vi _=>k+1-(intOf vi).toNat)
 case atStart=>exact⟨0,d,rfl,by omega,HW,Lib.hid (SwR.zero a b d)⟩
 case round =>
  obtain⟨i,dk,rfl,hik,HR,HS⟩:=hrel;by_cases hlt:i<k
  ·have hltI:(i:Int)<(k:Int):=by omega
   have hpn:a+i<n:=by omega
   have hqn:b+i<n:=by omega
   obtain⟨xp,hxp⟩:∃x,dk[a+i]! =x:=⟨_,rfl⟩;obtain⟨xq,hxq⟩:∃x,dk[b+i]! =x:=⟨_,rfl⟩;have hdz:=HR.out.sz;obtain⟨a0,a1,a2,a3,a4,a5,a6⟩:=hxp▸HR.out.row.pc (j:=a+i) (by omega);obtain⟨b0,b1,b2,b3,b4,b5,b6⟩:=hxq▸HR.out.row.pc (j:=b+i) (by omega);obtain⟨f0,f1,f2,f3,f4,f5,f6⟩:=HR.out.row.pf (j:=a+i) (by omega);obtain⟨g0,g1,g2,g3,g4,g5,g6⟩:=HR.out.row.pf (j:=b+i) (by omega);have HX:Hid (dk[a+i]! =xp∧dk[b+i]! =xq):=⟨hxp,hxq⟩;have HJ3:=Lib.hid (HR.out.swapG hpn hqn);have HS2:=Lib.hid (HS.out.step (by omega) (by omega));clear hxp hxq;obtain⟨i1,x1,y1,cl1,n1,wt1,d1⟩:=xp;obtain⟨i2,x2,y2,cl2,n2,wt2,d2⟩:=xq;have hw1:IntKind.i64.wrap ((a:Int)+(i:Int))=(a:Int)+(i:Int):=by rw[IntKind.wrap_i64];omega
   have hw2:IntKind.i64.wrap ((b:Int)+(i:Int))=(b:Int)+(i:Int):=by rw[IntKind.wrap_i64];omega
   have hp0:(0:Int)≤(a:Int)+(i:Int):=by omega
   have hp1:(a:Int)+(i:Int)<(n:Int):=by omega
   have hq0:(0:Int)≤(b:Int)+(i:Int):=by omega
   have hq1:(b:Int)+(i:Int)<(n:Int):=by omega
   have hpe:((a:Int)+(i:Int)).toNat=a+i:=by omega
   have hqe:((b:Int)+(i:Int)).toNat=b+i:=by omega
   simp only at a0 a1 a2 a3 a4 a5 a6 b0 b1 b2 b3 b4 b5 b6;go_upto_region 3 with fail;go_big_region_o
   all_goals go_wp2_with fail
   go_roundw
   case rel =>
    refine⟨i+1,swp dk (a+i) (b+i),by go_num,by omega,?_,HS2⟩;have h3:=HJ3.out;unfold Go.Proofs.YtfocdbjceedagaaGreatDoor.swapG at h3;rw[HX.out.1,HX.out.2,a7i] at h3;exact Lib.hid h3.drew
   case measure=>first|(simp[intOf];done)|(simp[intOf];omega)
  ·have hgeI:¬(i:Int)<(k:Int):=by omega
   obtain rfl:i=k:=by omega
   go_wp2_with fail;go_end0;exact⟨rfl,.mk HR.out HS.out⟩
theorem c1l (blk off cap N n a m b:Nat)(d:Array Pc)(fv:Value)(w0 w:World)(hW:SoW w0 blk off N n d w)(ham:a<m)(hmb:m<b)(hbn:b≤n)(hn:n≤1000) :
 Calls prog 187 #[.slice (some ⟨blk,off,none⟩) n cap,.int .i64 (a:Nat),.int .i64 (m:Nat),.int .i64 (b:Nat),fv] w fun e w'=>e= .returned (.tuple #[])∧SoX w0 blk off N n (Rot a m b d) w':=by
 have HW:Hid (SoW w0 blk off N n d w):=hW;clear hW;have hw1:IntKind.i64.wrap ((m:Int)-(a:Int))=((m-a:Nat):Int):=by rw[IntKind.wrap_i64];omega
 have hw2:IntKind.i64.wrap ((b:Int)-(m:Int))=((b-m:Nat):Int):=by rw[IntKind.wrap_i64];omega
 go_enter func187,ntmps187;go_wp2_with fail;go_loopw [10,11] (fun vi vj wr=>∃(i j:Nat) (dk:Array Pc),vi= .int .i64 (i:Nat)∧vj= .int .i64 (j:Nat)∧1≤i∧1≤j∧Hid (SoW w0 blk off N n dk wr)∧Hid (RoI a m b i j d dk)) (fun vi vj _=>(intOf vi).toNat+(intOf vj).toNat)
 case atStart=>exact⟨m-a,b-m,d,by go_num,by go_num,by omega,by omega,HW,Lib.hid (RoI.start d (by omega) (by omega))⟩
 case round =>
  obtain⟨i,j,dk,rfl,rfl,hi1,hj1,HR,HI⟩:=hrel;have hi0:=HI.out.i0;have hj0:=HI.out.j0;have hwmi:IntKind.i64.wrap ((m:Int)-(i:Int))=((m-i:Nat):Int):=by rw[IntKind.wrap_i64];omega
  rcases Nat.lt_trichotomy i j with hlt|heq|hgt
  ·have hne:¬(i:Int)=(j:Int):=by omega
   have hng:¬(j:Int)<(i:Int):=by omega
   have hw4:IntKind.i64.wrap ((m:Int)+(j:Int))=(m:Int)+(j:Int):=by rw[IntKind.wrap_i64];omega
   have hw5:IntKind.i64.wrap ((m:Int)+(j:Int)-(i:Int))=((m+j-i:Nat):Int):=by rw[IntKind.wrap_i64];omega
   have hw6:IntKind.i64.wrap ((j:Int)-(i:Int))=((j-i:Nat):Int):=by rw[IntKind.wrap_i64];omega
   have hc:=b0r blk off cap N n (m-i) (m+j-i) i dk fv w0 wr HR.out (by omega) (by omega) hn;go_wp2_with (first
    |(go_at_call 206;(with_reducible refine hc.mono ?_);rintro e w1⟨rfl,⟨d1,hd1,hr1⟩⟩)
    |fail)
   go_roundw
   case rel=>exact⟨i,j-i,d1,by go_num,by go_num,by omega,by omega,Lib.hid hd1,Lib.hid (HI.out.right hlt hr1)⟩
   case measure=>first|(simp[intOf];done)|(simp[intOf];omega)
  ·subst heq
   have hc:=b0r blk off cap N n (m-i) m i dk fv w0 wr HR.out (by omega) (by omega) hn;go_wp2_with (first
    |(go_at_call 206;(with_reducible refine hc.mono ?_);rintro e w1⟨rfl,⟨d1,hd1,hr1⟩⟩)
    |fail)
   go_end0;exact⟨rfl,.mk hd1 (HI.out.done hr1)⟩
  ·have hne:¬(i:Int)=(j:Int):=by omega
   have hgI:(j:Int)<(i:Int):=by omega
   have hw6:IntKind.i64.wrap ((i:Int)-(j:Int))=((i-j:Nat):Int):=by rw[IntKind.wrap_i64];omega
   have hc:=b0r blk off cap N n (m-i) m j dk fv w0 wr HR.out (by omega) (by omega) hn;go_wp2_with (first
    |(go_at_call 206;(with_reducible refine hc.mono ?_);rintro e w1⟨rfl,⟨d1,hd1,hr1⟩⟩)
    |fail)
   go_roundw
   case rel=>exact⟨i-j,j,d1,by go_num,by go_num,by omega,by omega,Lib.hid hd1,Lib.hid (HI.out.left hgt hr1)⟩
   case measure=>first|(simp[intOf];done)|(simp[intOf];omega)
end
end Go.Proofs.YtfocdbjceedagaaGreatDoor
