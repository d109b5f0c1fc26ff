/-
  Parts.
-/
import Derived.Test.YteijfnkidefekaaGreatChecked
import Derived.Test.YteijfnkidefekaaGreatProg
import Derived.Test.YteijfnkidefekaaGreatEac
import Derived.Sort.LotA
import Derived.Sort.WalkA
import Derived.Shelf.Small.Wraps
import Derived.Shelf.Slices.Turned
import Derived.Ground.Names2Prog
import Derived.Shelf.Slices.SearchI
import Derived.Ground.SlgfProg
import Derived.Shelf.SlicesE.IndexFunc
import Derived.Shelf.Abstract
set_option linter.unusedVariables false
set_option linter.unusedSimpArgs false
set_option linter.unusedSectionVars false
namespace Go.Proofs.YteijfnkidefekaaGreat
open Tryz
section
open Go.Sort
section
variable {α:Type}{lt:α->α->Bool}
def eqv (lt:α->α->Bool)(a b:α):Bool:= !lt a b&& !lt b a
def Asc (lt:α->α->Bool)(l:List α):Prop:=l.Pairwise (λa b=>lt b a=false)
structure Stb (lt:α->α->Bool)(l r:List α):Prop where
 perm:l.Perm r
 same:∀c,l.filter (eqv lt c)=r.filter (eqv lt c)
theorem Stb.refl (l:List α):Stb lt l l:=⟨.refl _,λ_=>rfl⟩
theorem Stb.symm {l r:List α}(h:Stb lt l r):Stb lt r l:=⟨h.perm.symm,λc=>(h.same c).symm⟩
theorem Stb.trans {l r s:List α}(h:Stb lt l r)(g:Stb lt r s):Stb lt l s:=⟨h.perm.trans g.perm,λc=>(h.same c).trans (g.same c)⟩
theorem Stb.append {l r l2 r2:List α}(h:Stb lt l r)(g:Stb lt l2 r2):Stb lt (l++l2) (r++r2) :=
 ⟨h.perm.append g.perm,λc=>by rw[List.filter_append,List.filter_append,h.same,g.same]⟩
theorem Stb.swap (hS:SWO lt){U V:List α}(h:∀u∈U,∀v∈V,lt v u=true):Stb lt (U++V) (V++U):=by
 refine⟨List.perm_append_comm,λc=> ?_⟩;rw[List.filter_append,List.filter_append];by_cases hu:∃u∈U,eqv lt c u=true
 ·obtain⟨u,hu,he⟩:=hu
  have:V.filter (eqv lt c)=[]:=by
   rw[List.filter_eq_nil_iff];intro v hv hc;have h1:=h u hu v hv;simp only[eqv,Bool.and_eq_true,Bool.not_eq_true']at he hc;have:=hS.ntrans v c u hc.2 he.1;rw[h1]at this
   cases this
  rw[this,List.append_nil,List.nil_append]
 ·have:U.filter (eqv lt c)=[]:=by
   rw[List.filter_eq_nil_iff];intro u C9 hc;exact hu ⟨u,C9,hc⟩
  rw[this,List.append_nil,List.nil_append]
theorem c3a (hS:SWO lt)(x:α):eqv lt x x=true:=by simp[eqv,hS.irrefl]
theorem Asc.unique (hS:SWO lt):∀ {l r:List α},Asc lt l->Asc lt r->Stb lt l r->l=r
 |[],r,_,_,h=>by
  have:=h.perm.length_eq;exact(List.eq_nil_of_length_eq_zero (by simpa using this.symm)).symm
 |x::l,[],_,_,h=>by
  have:=h.perm.length_eq;simp at this
 |x::l,y::r,hl,hr,h=>by
  have vI:=List.pairwise_cons.1 hl;have jD:=List.pairwise_cons.1 hr;have iF:lt y x=false:=by
   have hm:y∈x::l:=h.perm.mem_iff.2 vM;rcases List.mem_cons.1 hm with rfl|hm
   ·exact hS.irrefl _
   ·exact vI.1 y hm
  have H9:lt x y=false:=by
   have hm:x∈y::r:=h.perm.mem_iff.1 vM;rcases List.mem_cons.1 hm with rfl|hm
   ·exact hS.irrefl _
   ·exact jD.1 x hm
  have h1:=h.same x;rw[List.filter_cons_of_pos (c3a hS x),List.filter_cons_of_pos (by simp[eqv,iF,H9])]at h1;obtain⟨rfl,-⟩:=List.cons.inj h1;rw[Asc.unique hS vI.2 jD.2 ⟨(List.perm_cons _).1 h.perm,λc=> ?_⟩];have h2:=h.same c;by_cases hc:eqv lt c x=true
  ·rw[List.filter_cons_of_pos hc,List.filter_cons_of_pos hc]at h2
   exact(List.cons.inj h2).2
  ·rw[List.filter_cons_of_neg hc,List.filter_cons_of_neg hc]at h2
   exact h2
end
section
variable {α:Type} [Inhabited α]{lt:α->α->Bool}
def ext (d:Array α)(a b:Nat):List α:=(List.range' a (b-a)).map (λi=>d[i]!)
theorem a0s (d:Array α){a s b:Nat}(h1:a<=s)(h2:s<=b):ext d a b=ext d a s++ext d s b:=by
 unfold ext;rw[<-List.map_append,show b-a=(s-a)+(b-s) by omega,<-List.range'_append_1,show a+(s-a)=s by omega]
theorem b0f (d:Array α){a b:Nat}(h:b<=a):ext d a b=[]:=by
 unfold ext;rw[show b-a=0 by omega];rfl
theorem a2u (d:Array α)(a:Nat):ext d a (a+1)=[d[a]!]:=by
 unfold ext;rw[show a+1-a=1 by omega];rfl
theorem a8a (d:Array α)(a b:Nat):(ext d a b).length=b-a:=by simp[ext]
theorem a6f {d:Array α}{a b:Nat}{x:α}:x∈ext d a b↔∃i,a<=i/\i<b/\d[i]! =x:=by
 unfold ext;rw[List.mem_map];constructor
 ·rintro⟨i,hi,rfl⟩
  have:=List.mem_range'_1.1 hi;exact⟨i,xM,xM,rfl⟩
 ·rintro⟨i,h1,h2,rfl⟩
  exact⟨i,List.mem_range'_1.2 ⟨h1,xM⟩,rfl⟩
theorem a2l {d d':Array α}{a b:Nat}(h:∀i,a<=i->i<b->d'[i]! =d[i]!):ext d' a b=ext d a b:=by
 unfold ext;refine List.map_congr_left λi hi=> ?_
 have:=List.mem_range'_1.1 hi;exact h i xM xM
theorem a5k {d d':Array α}{a b n:Nat}(h:∀i,i<n->d'[a+i]! =d[b+i]!):ext d' a (a+n)=ext d b (b+n):=by
 unfold ext;rw[show a+n-a=n by omega,show b+n-b=n by omega];apply List.ext_getElem
 ·simp
 ·intro k h1 h2
  simp only[List.length_map,List.length_range']at h1;simp only[List.getElem_map,List.getElem_range',Nat.one_mul];exact h k h1
theorem b0g (d:Array α):ext d 0 d.size=d.toList:=by
 apply List.ext_getElem
 ·simp[ext]
 ·intro k h1 h2
  simp only[ext,List.length_map,List.length_range']at h1;have hk:k<d.size:=xM;simp[ext,getElem!_pos d k hk]
theorem b4i {d:Array α}{a b:Nat}:Asc lt (ext d a b)↔SortedIn lt a b d:=by
 unfold Asc SortedIn;rw[List.pairwise_iff_getElem];constructor
 ·intro h i j hi cm hj
  have:=h (i-a) (j-a) (by rw[a8a];omega) (by rw[a8a];omega) xM;simpa[ext,show a+(i-a)=i by omega,show a+(j-a)=j by omega]using this
 ·intro h i j hi hj cm
  rw[a8a]at hi hj;have:=h (a+i) (a+j) xM xM xM;simpa[ext]using this
def Out (a b:Nat)(d d':Array α):Prop:=d'.size=d.size/\∀i,i<a\/b<=i->d'[i]! =d[i]!
theorem Out.refl (a b:Nat)(d:Array α):Out a b d d:=⟨rfl,λ_ _=>rfl⟩
theorem Out.trans {a b:Nat}{d d' Ia:Array α}(h:Out a b d d')(g:Out a b d' Ia):Out a b d Ia:=⟨g.1.trans h.1,λi hi=>(g.2 i hi).trans (h.2 i hi)⟩
theorem Out.mono {a b a' b':Nat}{d d':Array α}(h:Out a b d d')(ha:a'<=a)(hb:b<=b'):Out a' b' d d':=⟨h.1,λi hi=>h.2 i xM⟩
theorem Out.swp {d:Array α}{a b i j:Nat}(hi:a<=i/\i<b)(hj:a<=j/\j<b):Out a b d (swp d i j) :=
 ⟨size_swp _ _ _,λk hk=>swp_other _ _ _ _ xM xM⟩
structure Srt (lt:α->α->Bool)(a b:Nat)(d d':Array α):Prop where
 out:Out a b d d'
 asc:SortedIn lt a b d'
 stb:Stb lt (ext d a b) (ext d' a b)
theorem Srt.whole {a b a' b':Nat}{d d':Array α}(h:Srt lt a b d d')(ha:a'<=a)(bq:a<=b)(hb:b<=b'):Stb lt (ext d a' b') (ext d' a' b'):=by
 rw[a0s d ha (Nat.le_trans bq hb),a0s d bq hb,a0s d' ha (Nat.le_trans bq hb),a0s d' bq hb];rw[a2l (d:=d) (d':=d') (λi _ hi=>h.out.2 i xM),a2l (d:=d) (d':=d') (a:=b) (b:=b') (λi hi _=>h.out.2 i xM)];exact(Stb.refl _).append (h.stb.append (Stb.refl _))
/-! insertion sort is stable -/
theorem b9o (hS:SWO lt){d:Array α}{j:Nat}(hj:j+1<d.size)(hl:lt d[j+1]! d[j]! =true){a b:Nat}(ha:a<=j)(hb:j+1<b):Stb lt (ext d a b) (ext (swp d (j+1) j) a b):=by
 have h0:∀e:Array α,ext e a b=ext e a j++((ext e j (j+1)++ext e (j+1) (j+1+1))++ext e (j+1+1) b):=λe=>by
  rw[a0s e ha (show j<=b by omega),a0s e (show j<=j+1 by omega) (show j+1<=b by omega),a0s e (show j+1<=j+1+1 by omega) (show j+1+1<=b by omega)];simp only[List.append_assoc]
 rw[h0 d,h0 (swp d (j+1) j)];rw[a2l (d:=d) (d':=swp d (j+1) j) (a:=a) (b:=j) (λi _ hi=>swp_other _ _ _ _ xM xM),a2l (d:=d) (d':=swp d (j+1) j) (a:=j+1+1) (b:=b) (λi hi _=>swp_other _ _ _ _ xM xM)];refine(Stb.refl _).append (Stb.append ?_ (Stb.refl _));rw[a2u,a2u,a2u,a2u,swp_left _ _ _ hj xM,swp_right _ _ _ xM];refine Stb.swap hS ?_;simp only[List.mem_cons,List.not_mem_nil,or_false];rintro u rfl v rfl;exact hl
theorem a6x (hS:SWO lt)(a b:Nat):∀(j:Nat) (d:Array α),j<b->b<=d.size->Stb lt (ext d a b) (ext (insInner lt a j d) a b)
 |0,d,_,_=>Stb.refl _
 |j+1,d,hj,hb=>by
  unfold insInner;split
  ·rename_i h
   simp only[Bool.and_eq_true,decide_eq_true_eq]at h;exact(b9o hS xM h.2 xM hj).trans (a6x hS a b j _ xM (by rw[size_swp];exact hb))
  ·exact Stb.refl _
theorem a5l (lt:α->α->Bool)(a:Nat):∀(j:Nat) (d:Array α),(insInner lt a j d).size=d.size
 |0,d=>rfl
 |j+1,d=>by
  unfold insInner;split
  ·rw[a5l lt a j,size_swp]
  ·rfl
theorem a6y (hS:SWO lt)(a b:Nat):∀(n i:Nat) (d:Array α),b-i=n->b<=d.size->Stb lt (ext d a b) (ext (insOuter lt a b i d) a b)
 |0,i,d,h,_=>by rw[insOuter_stop _ _ _ _ _ xM];exact Stb.refl _
 |n+1,i,d,h,hb=>by
  rw[insOuter_go _ _ _ _ _ xM];exact(a6x hS a b i d xM hb).trans (a6y hS a b n (i+1) _ xM (by rw[a5l];exact hb))
theorem a0r (hS:SWO lt)(d:Array α){a b:Nat}(bq:a<=b)(hb:b<=d.size):Srt lt a b d (insertionSort lt d a b):=by
 obtain⟨⟨h1,h2,-⟩,h3⟩:=insertionSort_holds (lt:=lt) hS d a b bq hb;exact⟨⟨h1,h2⟩,h3,a6y hS a b _ _ d rfl hb⟩
/-! SymMerge -/
theorem b4j {a m b:Nat}{d d':Array α}(ho:Out a b d d')(mu:a<=m)(jE:m<=b)(h1:SortedIn lt a m d')(h2:SortedIn lt m b d')(h12:∀i j,a<=i->i<m->m<=j->j<b->lt d'[j]! d'[i]! =false)(hs:Stb lt (ext d a b) (ext d' a b)):Srt lt a b d d':=by
 refine⟨ho,λi j hi cm hj=> ?_,hs⟩;by_cases Da:j<m
 ·exact h1 i j hi cm Da
 ·by_cases mw:i<m
  ·exact h12 i j hi mw xM hj
  ·exact h2 i j xM cm hj
structure Cut (lt:α->α->Bool)(a m b s e:Nat)(d:Array α):Prop where
 la:a<=s
 sm:s<=m
 me:m<=e
 eb:e<=b
 less:∀i j,s<=i->i<m->m<=j->j<e->lt d[j]! d[i]! =true
 more:∀i j,a<=i->i<s->e<=j->j<b->lt d[j]! d[i]! =false
structure Rot (s m e:Nat)(d d':Array α):Prop where
 out:Out s e d d'
 eq:ext d' s e=ext d m e++ext d s m
theorem Rot.low {s m e:Nat}{d d':Array α}(h:Rot s m e d d')(h1:s<=m)(h2:m<=e):ext d' s (s+(e-m))=ext d m e/\ext d' (s+(e-m)) e=ext d s m:=by
 have hx:=h.eq;rw[a0s d' (show s<=s+(e-m) by omega) (show s+(e-m)<=e by omega)]at hx;exact List.append_inj hx (by rw[a8a,a8a];omega)
theorem Rot.idx {s m e:Nat}{d d':Array α}(h:Rot s m e d d')(h1:s<=m)(h2:m<=e):(∀i,i<e-m->d'[s+i]! =d[m+i]!)/\(∀i,i<m-s->d'[s+(e-m)+i]! =d[s+i]!):=by
 obtain⟨g1,g2⟩:=h.low h1 h2;constructor
 ·intro i hi
  have:=congrArg (λl=>l[i]?) g1;simpa[ext,hi,show i<s+(e-m)-s by omega]using this
 ·intro i hi
  have:=congrArg (λl=>l[i]?) g2;simpa[ext,hi,show i<e-(s+(e-m)) by omega]using this
theorem Rot.none {s m e:Nat}{d:Array α}(h:s=m\/m=e)(h1:s<=m)(h2:m<=e):Rot s m e d d:=by
 refine⟨.refl _ _ _,?_⟩;rcases h with rfl|rfl
 ·rw[b0f d (yR s),List.append_nil]
 ·rw[b0f d (yR m),List.nil_append]
theorem Cut.step (hS:SWO lt){a m b s e:Nat}{d d1 d2 d3:Array α}(hc:Cut lt a m b s e d)(hL:SortedIn lt a m d)(hR:SortedIn lt m b d)(hr:Rot s m e d d1) :
 (SortedIn lt a s d1/\SortedIn lt s (s+(e-m)) d1/\SortedIn lt (s+(e-m)) e d1/\SortedIn lt e b d1) /\
 (Srt lt a (s+(e-m)) d1 d2->Srt lt (s+(e-m)) b d2 d3->Srt lt a b d d3):=by
 obtain⟨has,iC,mT,sN,ry,xe⟩:=hc;obtain⟨i1,i2⟩:=hr.idx iC mT;have o1:=hr.out.2;have j1:∀i,s<=i->i<s+(e-m)->d1[i]! =d[i-s+m]! :=λi h1 h2=>by
  have:=i1 (i-s) xM;rw[show s+(i-s)=i by omega]at this;rw[this,Nat.add_comm]
 have j2:∀i,s+(e-m)<=i->i<e->d1[i]! =d[i-(e-m)]! :=λi h1 h2=>by
  have:=i2 (i-(s+(e-m))) xM;rw[show s+(e-m)+(i-(s+(e-m)))=i by omega]at this;rw[this,show s+(i-(s+(e-m)))=i-(e-m) by omega]
 refine⟨⟨?_,?_,?_,?_⟩,?_⟩
 ·intro i j hi cm hj
  rw[o1 i xM,o1 j xM];exact hL i j hi cm xM
 ·intro i j hi cm hj
  rw[j1 i hi xM,j1 j xM hj];exact hR _ _ xM xM xM
 ·intro i j hi cm hj
  rw[j2 i hi xM,j2 j xM hj];exact hL _ _ xM xM xM
 ·intro i j hi cm hj
  rw[o1 i xM,o1 j xM];exact hR i j xM cm hj
 ·intro h2 h3
  have ho:Out a b d d3:=(hr.out.mono has sN).trans ((h2.out.mono (yR _) xM).trans (h3.out.mono xM (yR _)));have ai:Stb lt (ext d a b) (ext d1 a b):=by
   have h0:∀x:Array α,ext x a b=ext x a s++(ext x s e++ext x e b):=λx=>by
    rw[a0s x has (show s<=b by omega),a0s x (show s<=e by omega) sN]
   rw[h0 d,h0 d1,hr.eq,a0s d iC mT];rw[a2l (d:=d) (d':=d1) (a:=a) (b:=s) (λi _ hi=>o1 i xM),a2l (d:=d) (d':=d1) (a:=e) (b:=b) (λi hi _=>o1 i xM)];refine(Stb.refl _).append (Stb.append (Stb.swap hS ?_) (Stb.refl _));intro u hu v hv;obtain⟨i,cq,sP,rfl⟩:=a6f.1 hu;obtain⟨j,mV,mW,rfl⟩:=a6f.1 hv;exact ry i j cq sP mV mW
  refine b4j (m:=s+(e-m)) ho xM xM ?_ h3.asc ?_ (ai.trans ((h2.whole (yR _) xM xM).trans (h3.whole xM xM (yR _))))
  ·intro i j hi cm hj
   rw[h3.out.2 i xM,h3.out.2 j xM];exact h2.asc i j hi cm hj
  ·intro i j hi mw Db hj
   rw[h3.out.2 i xM];have m2:d2[i]!∈ext d1 a (s+(e-m)):=h2.stb.perm.mem_iff.2 (a6f.2 ⟨i,hi,mw,rfl⟩);have m3:d3[j]!∈ext d2 (s+(e-m)) b:=h3.stb.perm.mem_iff.2 (a6f.2 ⟨j,Db,hj,rfl⟩);obtain⟨i',cq,sP,e1⟩:=a6f.1 m2;obtain⟨j',mV,mW,e2⟩:=a6f.1 m3;rw[<-e1,<-e2,h2.out.2 j' xM];by_cases c1:i'<s
   ·rw[o1 i' xM]
    by_cases c2:j'<e
    ·rw[j2 j' mV c2]
     exact hL _ _ cq xM xM
    ·rw[o1 j' xM]
     exact xe i' j' cq c1 xM mW
   ·rw[j1 i' xM sP]
    by_cases c2:j'<e
    ·rw[j2 j' mV c2]
     have h5:=ry (j'-(e-m)) (i'-s+m) xM xM xM xM
     cases h6:lt d[j'-(e-m)]! d[i'-s+m]! with
     |false=>rfl
     |true=>have:=hS.trans _ _ _ h6 h5;rw[hS.irrefl]at this;cases this
    ·rw[o1 j' xM]
     exact hR _ _ xM xM mW
theorem b6o {a m b s n:Nat}(hS:SWO lt){d:Array α}(hL:SortedIn lt a m d)(hR:SortedIn lt m b d)(has:a<=s)(iC:s<=m)(mT:m+s<=n)(sN:n<=b+s)
 (h1:s<m->m+s<n->lt d[n-1-s]! d[s]! =true) (h2:a<s->n<b+s->lt d[n-1-(s-1)]! d[s-1]! =false):Cut lt a m b s (n-s) d:=by
 refine⟨has,iC,xM,xM,?_,?_⟩
 ·intro i j hi mw Db hj
  have h3:=h1 xM xM
  cases h4:lt d[j]! d[i]! with
  |true=>rfl
  |false =>
   have h5:lt d[n-1-s]! d[j]! =false:=by
    rcases Nat.lt_or_ge j (n-1-s)with h|h
    ·exact hR j _ Db h xM
    ·rw[show j=n-1-s by omega];exact hS.irrefl _
   have h6:lt d[i]! d[s]! =false:=by
    rcases Nat.lt_or_ge s i with h|h
    ·exact hL s i has h mw
    ·rw[show i=s by omega];exact hS.irrefl _
   have h7:=hS.ntrans _ _ _ (hS.ntrans _ _ _ h5 h4) h6;rw[h3]at h7
   cases h7
 ·intro i j hi PM hj dJ
  have h3:=h2 xM xM;have h5:lt d[j]! d[n-1-(s-1)]! =false:=by
   rcases Nat.lt_or_ge (n-1-(s-1)) j with h|h
   ·exact hR _ j xM h dJ
   ·rw[show n-1-(s-1)=j by omega];exact hS.irrefl _
  have h6:lt d[s-1]! d[i]! =false:=by
   rcases Nat.lt_or_ge i (s-1)with h|h
   ·exact hL i _ hi h xM
   ·rw[show i=s-1 by omega];exact hS.irrefl _
  exact hS.ntrans _ _ _ (hS.ntrans _ _ _ h5 h3) h6
theorem a1v {a b:Nat}{d:Array α}(h:SortedIn lt a b d):Srt lt a b d d:=⟨.refl _ _ _,h,.refl _⟩
end
end
end Go.Proofs.YteijfnkidefekaaGreat
namespace Go
section
open Go.RowKit
section
variable {P:Program}{ops:Array Oper}{md:Region.Mode}{C:World->Prop}
def b1w (P:Program)(md:Region.Mode)(ops:Array Oper)(C:World->Prop)(n:Nat)(L:Array Bool->Act->Prop):Nat->Array Bool->Act->Prop
 |0,s,a=>L s a
 |f+1,s,a=>Region.ready md ops s≠[]/\∀i∈Region.ready md ops s,i<n/\qOp P ops C i (b1w P md ops C n L f (s.setIfInBounds i true)) a
theorem a8b {n g:Nat}{L:Array Bool->Act->Prop}{Q:Exit->Act->World->Prop}(hL:∀s a w,C w->L s a->wpAny P md ops Q g s a w) :
 ∀(f:Nat) (s:Array Bool) (a:Act) (w:Wd),C w->b1w P md ops C n L f s a->wpAny P md ops Q (f+g) s a w:=by
 intro f;induction f with
 |zero=>intro s a w hw h;rw[Nat.zero_add];exact hL _ _ _ hw h
 |succ f ih =>
  intro s a w hw h;rw[Nat.succ_add];refine⟨λhe=>absurd he h.1,λi hi=> ?_⟩;exact wpOp_of_qOp hw (λa' w' sQ h'=>ih _ a' w' sQ h') (h.2 i hi).2
theorem a4d {n i:Nat}{s:Array Bool}(hs:Region.sinkB md ops n=true)(hc:Region.chainB md ops n=true)(hn:n<ops.size)(inv:HeadInv md ops n s)(hi:i<n)(sL:s.getD i true=false) :
 ∀j∈Region.ready md ops s,j<n:=by
 intro j hj;by_cases h:j<n
 ·exact h
 ·exact absurd hj (tail_waits hs hc hn inv _ i rfl hi sL j xM)
theorem b4k {n i:Nat}{oi:Oper}{v:Vu}{L:Array Bool->Act->Prop}(hi:ops[i]? =some oi)(eI:∀(j:Nat)(o:Oper) cs b,ops[j]? =some o->o.op≠.select cs b)
 (hs:Region.sinkB md ops n=true) (hc:Region.chainB md ops n=true) (hn:n<ops.size) (eB:i<n)
 (fN:∀s a,L s a->∀j∈Region.ready md ops s,n<=j) (f:Nat) :
 ∀(s:Array Bool) (a:Act),HeadInv md ops n s ->
  (∀j oj,ops[j]? =some oj->j≠i->s.getD j true=false->(∀e∈oj.after,Region.binds md e=true->e.on≠i)->oi.apart ops oj=true) ->
  i∈Region.ready md ops s->YieldsIn P ops C oi v a ->
  b1w P md ops C n L f (s.setIfInBounds i true) (a.put oi.dst v)->b1w P md ops C n L (f+1) s a:=by
 induction f with
 |zero =>
  intro s a inv _ hr hy H;have ab:=a4d hs hc hn inv eB (mem_ready.1 hr).1;refine⟨List.ne_nil_of_mem hr,λj hj=>⟨ab j hj,?_⟩⟩;rcases Nat.decEq j i with cA|cA
  ·have h1:=fN _ _ H j (ready_mono hj cA)
   have h2:=ab j hj;omega
  ·subst cA;exact hy.qOp hi H
 |succ f ih =>
  intro s a inv lk hr hy H;have ab:=a4d hs hc hn inv eB (mem_ready.1 hr).1;refine⟨List.ne_nil_of_mem hr,λj hj=>⟨ab j hj,?_⟩⟩;rcases Nat.decEq j i with cA|cA
  ·obtain⟨pY,oj,sR,aa⟩:=mem_ready.1 hj
   have fK:∀e∈oj.after,Region.binds md e=true->e.on≠i:=by
    exact yio
   have h1:=(H.2 j (ready_mono hj cA)).2;have h2:=qOp_put sR (lk j oj sR cA pY fK) (λcs b=>eI i oi cs b hi) (λcs b=>eI j oj cs b sR) hy h1;refine qOp_mono (λa' h3=>ih (s.setIfInBounds j true) a' (inv.set hj (ab j hj)) ?_ (ready_mono hr (Ne.symm cA)) h3.1 ?_) h2
   ·exact yfw
   ·rw[Array.setIfInBounds_comm _ _ cA];exact h3.2
  ·subst cA;exact hy.qOp hi H
theorem b7t {n g:Nat}{Lq:Act->Prop}(eI:Region.noSelect ops=true)(hs:Region.sinkB md ops n=true)(hc:Region.chainB md ops n=true)(hn:n<ops.size)(l:List Oper) :
 ∀(k:Nat) (s:Array Bool) (a:Act),(∀j,j<l.length->l[j]? =ops[k+j]?)->k+l.length=n->HeadInv md ops n s ->
 Region.lexHead md ops g l.length k s=true->wpQuiet P ops C Lq l a ->
 b1w P md ops C n (λs' a'=>Region.seqB md ops g n s'=true/\Lq a') l.length s a:=by
 induction l with
 |nil =>
  exact yiq
 |cons o l ih =>
  intro k s a hl hk inv hB h;have h0:ops[k]? =some o:=by simpa using (hl 0 vM).symm
  simp only[List.length_cons]at hk;simp only[List.length_cons,Region.lexHead,Bool.and_eq_true]at hB;obtain⟨⟨hr,hf⟩,H7⟩:=hB;have jD:k∈Region.ready md ops s:=by simpa using hr
  have hq:qOp P ops C k (wpQuiet P ops C Lq l) a:=by unfold qOp;simp only[h0];exact h
  obtain⟨v,hy,hK⟩:=yieldsIn_of_qOp h0 hq;refine b4k h0 (Region.noSelect_spec eI) hs hc hn xM (λs' a' hL=>seqB_ready hL.1) l.length s a inv (Region.free_spec h0 hf) jD hy ?_;exact ygc
theorem a4x {id:Nat}{Q:Exit->Act->World->Prop}{a:Act}{w:Wd}{l:List Oper}(n:Nat)(hm:P.follows .mixedOrders=true)(hB:Region.lexTailB .any l.toArray n=true)(hC:C w.drew)
 (h:wpQuiet P l.toArray C (λa'=>∀w',C w'->wpList P l.toArray Q (l.drop n) a' w') (l.take n) a):(Code.region id l.toArray true).wp P Q a w:=by
 simp only[Region.lexTailB,Bool.and_eq_true,decide_eq_true_eq]at hB;obtain⟨⟨⟨⟨eI,hn⟩,hs⟩,hc⟩,hlex⟩:=hB;have rz:n<l.length:=by simpa using hn
 have eU:(l.take n).length=n:=by rw[List.length_take];omega
 have xf:(l.drop n).length=l.toArray.size-n:=by simp
 have mX:HeadInv .any l.toArray n (Array.replicate l.toArray.size false) :=
  ⟨by simp,λj oj _ hl=>(by rw[getD_replicate_false]at hl;cases hl),λt _ ht=>getD_in (by simpa using ht) (getD_replicate_false _ _)⟩
 have H:=b7t (md:= .any) (g:=l.toArray.size-n) eI hs hc hn (l.take n) 0 _ a (λj hj=>by
  have gK:j<n:=xM;simp[gK]) (by simpa using eU) mX (by rw[eU];exact hlex) h
 refine wp_region_any hm ?_;have key:=a8b (Q:=Q) (g:=l.toArray.size-n) (λs a' w' sQ hL=>by
  have h1:=wpAny_of_seq (md:= .any) (Q':=Q) (l.drop n) n s a' w' (λj=>by simp[List.getElem?_drop]) (by rw[xf];exact hL.1) (hL.2 w' sQ);rwa [xf]at h1) _ _ _ _ hC H
 rw[eU,show n+(l.toArray.size-n)=l.toArray.size from by omega]at key;exact key
theorem a0m {id:Nat}{Q:Exit->Act->World->Prop}{a:Act}{w:Wd}{l:List Oper}(n:Nat)(hm:P.follows .mixedOrders=true)(hB:Region.lexTailB .any l.toArray n=true)
 (h:wpQuiet P l.toArray (λw'=>∃p,w'=w.growBy p) (λa'=>∀w',(∃p,w'=w.growBy p)->wpList P l.toArray Q (l.drop n) a' w') (l.take n) a):(Code.region id l.toArray true).wp P Q a w :=
 a4x n hm hB ⟨⟨#[],w.drawn+1⟩,by unfold World.growBy World.drew;simp⟩ h
theorem a0k {id:Nat}{Q:Exit->Act->World->Prop}{a:Act}{w:Wd}{p:Growth}{l:List Oper}(n:Nat)(hm:P.follows .mixedOrders=true)(hB:Region.lexTailB .any l.toArray n=true)
 (h:wpQuiet P l.toArray (λw'=>∃p,w'=w.growBy p) (λa'=>∀w',(∃p,w'=w.growBy p)->wpList P l.toArray Q (l.drop n) a' w') (l.take n) a):(Code.region id l.toArray true).wp P Q a (w.growBy p) :=
 a4x n hm hB ⟨⟨p.objs,p.drawn+1⟩,rfl⟩ h
end
section
variable {P:Program}{ops:Array Oper}
theorem Act.eval_put_same {a:Act}{d:Nat}{v:Vu}(h:d<a.tmps.size):(a.put (some d) v).eval (.tmp d)=v:=by
 simp[Act.put,Act.eval,h]
theorem Act.put_size {a:Act}{d:Option Tmp}{v:Vu}:(a.put d v).tmps.size=a.tmps.size:=by
 cases d <;> simp[Act.put]
theorem Act.put_defers' {a:Act}{d:Option Tmp}{v:Vu}:(a.put d v).defers=a.defers:=by
 cases d <;> rfl
structure Agree (ops:Array Oper)(n:Nat)(a b:Act):Prop where
 defers:b.defers=a.defers
 size:b.tmps.size=a.tmps.size
 same:∀k,(∀i o,i<n->ops[i]? =some o->o.dst≠some k)->b.eval (.tmp k)=a.eval (.tmp k)
theorem Agree.refl (ops:Array Oper)(n:Nat)(a:Act):Agree ops n a a:=⟨rfl,rfl,λ_ _=>rfl⟩
def b1y (ops:Array Oper)(F:Nat->Value->World->Prop)(i:Nat)(b:Act)(w:Wd):Prop:=∀o d,ops[i]? =some o->o.dst=some d->F i (b.eval (.tmp d)) w
def Region.headGB (ops:Array Oper)(n sz i:Nat):Bool :=
 match ops[i]? with
 |none=>false
 |some o=>(match o.dst with|none=>false|some d=>decide (d<sz))&&o.after.all (λe=> !Region.binds .any e||decide (e.on<i)) &&
  (List.range n).all (λj=>j==i||(match ops[j]? with|none=>true|some o'=>o.dst != o'.dst))
def Region.relGB (ops:Array Oper)(n sz:Nat):Bool :=
 (decide (n=ops.size)||(decide (n<ops.size)&&Region.sinkB .any ops n&&Region.chainB .any ops n))&&(List.range n).all (Region.headGB ops n sz) &&
 Region.seqB .any ops (ops.size-n) n (Array.replicate n true++Array.replicate (ops.size-n) false)
def Region.relB (ops:Array Oper)(n sz:Nat):Bool:=Region.relGB ops n sz&&(List.range n).all λi=>match ops[i]? with|some o=>o.guard.isNone|none=>true
theorem Region.relB_guard {ops:Array Oper}{n sz:Nat}(h:Region.relB ops n sz=true):Region.relGB ops n sz=true/\∀i o,i<n->ops[i]? =some o->o.guard=none:=by
 unfold Region.relB at h;rw[Bool.and_eq_true]at h;refine⟨h.1,λi o hi ho=> ?_⟩;have h2:=List.all_eq_true.1 h.2 i (List.mem_range.2 hi);rw[ho]at h2;simpa using h2
structure HeadOkG (ops:Array Oper)(n sz i:Nat)(o:Oper)(d:Nat):Prop where
 op:ops[i]? =some o
 dst:o.dst=some d
 lt:d<sz
 after:∀e∈o.after,Region.binds .any e=true->e.on<i
 other:∀j o',j<n->j≠i->ops[j]? =some o'->o'.dst≠some d
theorem Region.headGB_spec {ops:Array Oper}{n sz i:Nat}(h:Region.headGB ops n sz i=true):∃o d,HeadOkG ops n sz i o d:=by
 unfold Region.headGB at h
 cases ho:ops[i]? with
 |none=>rw[ho]at h;cases h
 |some o =>
  rw[ho]at h;simp only[Bool.and_eq_true]at h;obtain⟨⟨h2,h3⟩,h4⟩:=h
  cases hd:o.dst with
  |none=>rw[hd]at h2;cases h2
  |some d =>
   rw[hd]at h2 h4;simp only[decide_eq_true_eq]at h2;refine⟨o,d,ho,hd,h2,λe he hb=> ?_,λj o' hj an my e=> ?_⟩
   ·obtain⟨k,hk,rfl⟩:=Array.getElem_of_mem he
    have:=(Array.all_eq_true.1 h3) k hk;simpa[hb]using this
   ·have:=List.all_eq_true.1 h4 j (List.mem_range.2 hj)
    rw[my]at this;simp[an,e]at this
theorem b7u {n:Nat}{s:Array Bool}{sz:Nat}(hh:∀i,i<n->∃o d,HeadOkG ops n sz i o d)(inv:HeadInv .any ops n s):∀k i,i<k->i<n->s.getD i false=false->Region.ready .any ops s≠[]:=by
 intro k;induction k with
 |zero=>intro i h;omega
 |succ k ih =>
  intro i o7 eB hf;obtain⟨o,d,ho⟩:=hh i eB;by_cases aa:∀e∈o.after,Region.binds .any e=true->s.getD e.on false=true
  ·have ab:i<s.size:=by rw[inv.size];exact(Array.getElem?_eq_some_iff.1 ho.op).1
   exact List.ne_nil_of_mem (mem_ready.2 ⟨getD_in ab hf,o,ho.op,aa⟩)
  ·obtain⟨e,he⟩:=Classical.not_forall.1 aa
   simp only[Classical.not_imp]at he;obtain⟨h1,h2,h3⟩:=he;have h4:=ho.after e h1 h2;exact ih e.on xM xM (by simpa using h3)
def b1z {Γ:Type}(ops:Array Oper)(F:Nat->Value->Γ->World->Prop)(i:Nat)(b:Act)(g:Γ)(w:Wd):Prop:=∀o d,ops[i]? =some o->o.dst=some d->F i (b.eval (.tmp d)) g w
theorem a0e {Γ:Type}{F:Nat->Value->Γ->World->Prop}{o:Oper}{b:Act}{g:Γ}{w:Wd}(h:∀e∈o.after,Region.binds .any e=true->b1z ops F e.on b g w)(j d:Nat){oj:Oper}
 (h1:(o.after.any λe=>Region.binds .any e&&e.on==j)=true) (h2:ops[j]? =some oj) (h3:oj.dst=some d):F j (b.eval (.tmp d)) g w:=by
 exact ygk
def b4g (s:Array Bool):Nat->Nat
 |0=>0
 |n+1=>b4g s n+(if s.getD n false then 1 else 0)
theorem b9p (s:Array Bool):∀n,b4g s n<=n
 |0=>yR _
 |n+1=>by unfold b4g;have:=b9p s n;split <;> omega
theorem b6p {s:Array Bool}:∀ {n},b4g s n=n->∀i,i<n->s.getD i false=true
 |0,_,i,h=>by omega
 |n+1,h,i,hi=>by
  unfold b4g at h;have h1:=b9p s n;split at h
  ·rename_i hs
   by_cases e:i=n
   ·subst e;exact hs
   ·exact b6p (n:=n) xM i xM
  ·omega
theorem b2a {s:Array Bool}:∀ {n},b4g s n<n->∃i,i<n/\s.getD i false=false
 |0,h=>by omega
 |n+1,h=>by
  unfold b4g at h
  cases hs:s.getD n false with
  |false=>exact⟨n,xM,hs⟩
  |true =>
   simp only[hs,if_true]at h;obtain⟨i,h1,h2⟩:=b2a (s:=s) (n:=n) xM;exact⟨i,xM,h2⟩
theorem a9m {s:Array Bool}{i:Nat}:∀ {n},n<=i->b4g (s.setIfInBounds i true) n=b4g s n
 |0,_=>rfl
 |n+1,h=>by
  unfold b4g;rw[a9m (n:=n) xM,getD_set_ne false xM]
theorem b6q {s:Array Bool}{i:Nat}(hs:i<s.size)(hf:s.getD i false=false):∀ {n},i<n->b4g (s.setIfInBounds i true) n=b4g s n+1
 |0,h=>by omega
 |n+1,h=>by
  unfold b4g;by_cases e:i=n
  ·subst e
   have h1:(s.setIfInBounds i true).getD i false=true:=by simp[hs]
   rw[a9m (yR _),h1,hf];simp
  ·rw[b6q hs hf (n:=n) xM,getD_set_ne false e]
   omega
theorem b2b {m:Nat}:∀n,b4g (Array.replicate m false) n=0
 |0=>rfl
 |n+1=>by
  unfold b4g;rw[b2b n,getD_replicate_false];rfl
theorem b9q {Q:Exit->Act->World->Prop}{a:Act}{l:List Oper}{n:Nat}(hn:n=l.toArray.size\/n<l.toArray.size/\Region.sinkB .any l.toArray n=true/\Region.chainB .any l.toArray n=true)
 (hh:∀i,i<n->∃o d,HeadOkG l.toArray n a.tmps.size i o d) (de:Region.seqB .any l.toArray (l.toArray.size-n) n (Array.replicate n true++Array.replicate (l.toArray.size-n) false)=true)
 {Γ:Type} (I:Array Bool->Nat->Γ->World->Prop) (G:Γ->World->Γ->World->Prop) (F:Nat->Value->Γ->World->Prop) (hF:∀i v g w g' w',F i v g w->G g w g' w'->F i v g' w')
 (eh:∀i o,i<n->l.toArray[i]? =some o->∀s c b g w',c<n->HeadInv .any l.toArray n s->s.getD i false=false->(∀e∈o.after,Region.binds .any e=true->s.getD e.on false=true)->I s c g w'->Agree l.toArray n a b->(∀e∈o.after,Region.binds .any e=true->b1z l.toArray F e.on b g w') ->
  ∀K:Act->World->Prop,(∀v g' eJ,F i v g' eJ->G g w' g' eJ->I (s.setIfInBounds i true) (c+1) g' eJ->K (b.put o.dst v) eJ)->if Region.wanted o (yielded l.toArray b.tmps)then Oper.wp P o b w' K Q else K (b.put o.dst undef) w')
 (ej:∀b s g w',(∀i,i<n->s.getD i false=true)->I s n g w'->Agree l.toArray n a b->(∀i,i<n->b1z l.toArray F i b g w')->wpList P l.toArray Q (l.drop n) b w') :
 ∀(f c:Nat) (s:Array Bool) (b:Act) (g:Γ) (w':Wd),c+f=n->b4g s n=c->HeadInv .any l.toArray n s->I s c g w'->Agree l.toArray n a b->(∀j,j<n->s.getD j false=true->b1z l.toArray F j b g w') ->
  wpAny P .any l.toArray Q (f+(l.toArray.size-n)) s b w':=by
 have pQ:n<=l.toArray.size:=by rcases hn with h|⟨h,-⟩ <;> omega
 intro f;induction f with
 |zero =>
  intro c s b g w' LJ sS inv hI hA hL;obtain rfl:c=n:=xM;have aa:=b6p sS;have cf:s=Array.replicate c true++Array.replicate (l.toArray.size-c) false:=by
   apply Array.ext
   ·rw[inv.size];simp;simp at pQ;omega
   ·intro i h1 h2
    by_cases hi:i<c
    ·have:=aa i hi
     rw[Array.getElem_append_left (by simpa using hi)];simpa[Array.getD,h1]using this
    ·have:=inv.tail i xM (by rw[<-inv.size];exact h1)
     rw[Array.getElem_append_right uM];simpa[Array.getD,h1]using this
  have ht:=ej b s g w' aa hI hA (λi hi=>hL i hi (aa i hi));rw[Nat.zero_add,cf];have h:=wpAny_of_seq (P:=P) (md:= .any) (Q':=Q) (ops:=l.toArray) (l.drop c) c (Array.replicate c true++Array.replicate (l.toArray.size-c) false) b w' (λj=>by simp[List.getElem?_drop])
   (by rw[List.length_drop,show l.length=l.toArray.size from by simp];exact de) ht
  rw[List.length_drop,show l.length=l.toArray.size from by simp]at h;exact h
 |succ f ih =>
  intro c s b g w' LJ sS inv hI hA hL;obtain⟨i0,bV,AX⟩:=b2a (s:=s) (n:=n) xM;have an:=b7u hh inv (i0+1) i0 xM bV AX;rw[show f+1+(l.toArray.size-n)=f+(l.toArray.size-n)+1 from by omega];refine⟨λh=>absurd h an,λi hi=> ?_⟩;have Dc:i0<s.size:=by rw[inv.size];omega
  obtain⟨sL,oi,vJ,Ib⟩:=mem_ready.1 hi;have eB:i<n:=by
   rcases hn with h|⟨h,hs,hc⟩
   ·rw[h];exact(Array.getElem?_eq_some_iff.1 vJ).1
   ·exact a4d hs hc h inv bV (getD_in Dc AX) i hi
  obtain⟨o,d,ho⟩:=hh i eB;obtain rfl:oi=o:=Option.some.inj (vJ.symm.trans ho.op);have ab:i<s.size:=by rw[inv.size];omega
  have hd:d<b.tmps.size:=by rw[hA.size];exact ho.lt
  unfold wpOp;simp only[vJ];have ai:=eh i oi eB vJ s c b g w' xM inv (getD_both sL) Ib hI hA (λe he hb=>hL e.on (by have:=ho.after e he hb;omega) (Ib e he hb)) (wpAny P .any l.toArray Q (f+(l.toArray.size-n)) (s.setIfInBounds i true)) ?_
  ·split at ai
   ·rename_i xg
    rw[if_pos xg];exact .inl ai
   ·rename_i xg
    rw[if_neg xg];exact ai
  intro v g' eJ h1 h2 h3;rw[ho.dst];have xm:∀k,k≠d->(b.put (some d) v).eval (.tmp k)=b.eval (.tmp k):=λk hk=>Act.eval_put (λd' e=>by cases e;intro e2;cases e2;exact hk rfl)
  refine ih (c+1) _ _ _ _ xM ?_ (inv.set hi eB) h3 ⟨by rw[Act.put_defers',hA.defers],by rw[Act.put_size,hA.size],λk hk=> ?_⟩ ?_
  ·rw[b6q ab (getD_both sL) eB,sS]
  ·rw[xm k (λe=>hk i oi eB vJ (by rw[ho.dst,e]))]
   exact hA.same k hk
  ·intro j hj o8 o' d' my Dd
   by_cases cA:j=i
   ·subst cA
    obtain rfl:o'=oi:=Option.some.inj (my.symm.trans vJ);obtain rfl:d'=d:=Option.some.inj (Dd.symm.trans ho.dst);rw[Act.eval_put_same hd];exact h1
   ·have De:d'≠d:=λe=>ho.other j o' hj cA my (by rw[Dd,e])
    rw[xm d' De];rw[getD_set_ne false (λe=>cA e.symm)]at o8;exact hF j _ _ _ _ _ (hL j hj o8 o' d' my Dd) h2
theorem b0h {id:Nat}{Q:Exit->Act->World->Prop}{a:Act}{w:Wd}{l:List Oper}(n:Nat)(hm:P.follows .mixedOrders=true)(hB:Region.relGB l.toArray n a.tmps.size=true)
 {Γ:Type} (I:Array Bool->Nat->Γ->World->Prop) (G:Γ->World->Γ->World->Prop) (F:Nat->Value->Γ->World->Prop) (hF:∀i v g w g' w',F i v g w->G g w g' w'->F i v g' w') (g0:Γ) (h0:I (Array.replicate l.toArray.size false) 0 g0 w.drew)
 (eh:∀i o,i<n->l.toArray[i]? =some o->∀s c b g w',c<n->HeadInv .any l.toArray n s->s.getD i false=false->(∀e∈o.after,Region.binds .any e=true->s.getD e.on false=true)->I s c g w'->Agree l.toArray n a b->(∀e∈o.after,Region.binds .any e=true->b1z l.toArray F e.on b g w') ->
  ∀K:Act->World->Prop,(∀v g' eJ,F i v g' eJ->G g w' g' eJ->I (s.setIfInBounds i true) (c+1) g' eJ->K (b.put o.dst v) eJ)->if Region.wanted o (yielded l.toArray b.tmps)then Oper.wp P o b w' K Q else K (b.put o.dst undef) w')
 (ej:∀b s g w',(∀i,i<n->s.getD i false=true)->I s n g w'->Agree l.toArray n a b->(∀i,i<n->b1z l.toArray F i b g w')->wpList P l.toArray Q (l.drop n) b w') :
 (Code.region id l.toArray true).wp P Q a w:=by
 simp only[Region.relGB,Bool.and_eq_true,Bool.or_eq_true,decide_eq_true_eq]at hB;obtain⟨⟨hn,hh⟩,de⟩:=hB;have rz:n=l.toArray.size\/n<l.toArray.size/\Region.sinkB .any l.toArray n=true/\Region.chainB .any l.toArray n=true:=hn.imp (λh=>h) λ⟨⟨h1,h2⟩,h3⟩=>⟨h1,h2,h3⟩
 have LK:∀i,i<n->∃o d,HeadOkG l.toArray n a.tmps.size i o d:=λi hi=>Region.headGB_spec (List.all_eq_true.1 hh i (List.mem_range.2 hi))
 have mX:HeadInv .any l.toArray n (Array.replicate l.toArray.size false) :=
  ⟨by simp,λj oj _ hl=>(by rw[getD_replicate_false]at hl;cases hl),λt _ ht=>getD_in (by simpa using ht) (getD_replicate_false _ _)⟩
 refine wp_region_any hm ?_;have h:=b9q (P:=P) (Q:=Q) (a:=a) rz LK de I G F hF eh ej n 0 _ a g0 w.drew xM (b2b n) mX h0 (Agree.refl _ _ _) (λj hj hl=>by rw[getD_replicate_false]at hl;cases hl);rw[show n+(l.toArray.size-n)=l.toArray.size from by rcases rz with h|⟨h,-⟩ <;> omega]at h;exact h
theorem wp_region_reln {id:Nat}{Q:Exit->Act->World->Prop}{a:Act}{w:Wd}{l:List Oper}(n:Nat)(hm:P.follows .mixedOrders=true)(hB:Region.relGB l.toArray n a.tmps.size=true)
 {Γ:Type} (I:Nat->Γ->World->Prop) (G:Γ->World->Γ->World->Prop) (F:Nat->Value->Γ->World->Prop) (hF:∀i v g w g' w',F i v g w->G g w g' w'->F i v g' w') (g0:Γ) (h0:I 0 g0 w.drew)
 (eh:∀i o,i<n->l.toArray[i]? =some o->∀c b g w',c<n->I c g w'->Agree l.toArray n a b->(∀e∈o.after,Region.binds .any e=true->b1z l.toArray F e.on b g w') ->
  ∀K:Act->World->Prop,(∀v g' eJ,F i v g' eJ->G g w' g' eJ->I (c+1) g' eJ->K (b.put o.dst v) eJ)->if Region.wanted o (yielded l.toArray b.tmps)then Oper.wp P o b w' K Q else K (b.put o.dst undef) w')
 (ej:∀b g w',I n g w'->Agree l.toArray n a b->(∀i,i<n->b1z l.toArray F i b g w')->wpList P l.toArray Q (l.drop n) b w') :
 (Code.region id l.toArray true).wp P Q a w:=by
 exact b0h n hm hB (λ_=>I) G F hF g0 h0 (λi o hi ho _ c b g w' hc _ _ _ hI hA hL K hK=>eh i o hi ho c b g w' hc hI hA hL K hK) (λb _ g w' _ hI hA hL=>ej b g w' hI hA hL)
theorem wp_region_relg {id:Nat}{Q:Exit->Act->World->Prop}{a:Act}{w:Wd}{l:List Oper}(n:Nat)(hm:P.follows .mixedOrders=true)(hB:Region.relGB l.toArray n a.tmps.size=true)
 (I:Nat->World->Prop) (G:World->World->Prop) (F:Nat->Value->World->Prop) (hF:∀i v w w',F i v w->G w w'->F i v w') (h0:I 0 w.drew)
 (eh:∀i o,i<n->l.toArray[i]? =some o->∀c b w',c<n->I c w'->Agree l.toArray n a b->(∀e∈o.after,Region.binds .any e=true->b1y l.toArray F e.on b w') ->
  ∀K:Act->World->Prop,(∀v eJ,F i v eJ->G w' eJ->I (c+1) eJ->K (b.put o.dst v) eJ)->if Region.wanted o (yielded l.toArray b.tmps)then Oper.wp P o b w' K Q else K (b.put o.dst undef) w')
 (ej:∀b w',I n w'->Agree l.toArray n a b->(∀i,i<n->b1y l.toArray F i b w')->wpList P l.toArray Q (l.drop n) b w') :
 (Code.region id l.toArray true).wp P Q a w:=by
 exact wp_region_reln n hm hB (Γ:=Unit) (λc _=>I c) (λ_ w _ w'=>G w w') (λi v _ w=>F i v w) (λi v _ w _ w'=>hF i v w w') () h0 (λi o hi ho c b _ w' hc hI hA hL K hK=>eh i o hi ho c b w' hc hI hA hL K λv eJ h1 h2 h3=>hK v () eJ h1 h2 h3) (λb _ w' hI hA hL=>ej b w' hI hA hL)
theorem wp_region_rel {id:Nat}{Q:Exit->Act->World->Prop}{a:Act}{w:Wd}{l:List Oper}(n:Nat)(hm:P.follows .mixedOrders=true)(hB:Region.relB l.toArray n a.tmps.size=true)
 (I:Nat->World->Prop) (G:World->World->Prop) (F:Nat->Value->World->Prop) (hF:∀i v w w',F i v w->G w w'->F i v w') (h0:I 0 w.drew)
 (eh:∀i o,i<n->l.toArray[i]? =some o->∀c b w',c<n->I c w'->Agree l.toArray n a b->(∀e∈o.after,Region.binds .any e=true->b1y l.toArray F e.on b w') ->
  ∀K:Act->World->Prop,(∀v eJ,F i v eJ->G w' eJ->I (c+1) eJ->K (b.put o.dst v) eJ)->Oper.wp P o b w' K Q)
 (ej:∀b w',I n w'->Agree l.toArray n a b->(∀i,i<n->b1y l.toArray F i b w')->wpList P l.toArray Q (l.drop n) b w') :
 (Code.region id l.toArray true).wp P Q a w:=by
 obtain⟨h1,h2⟩:=Region.relB_guard hB;exact wp_region_relg n hm h1 I G F hF h0 (λi o hi ho c b w' hc hI hA hL K hK=>by rw[if_pos (by simp[Region.wanted,h2 i o hi ho])];exact eh i o hi ho c b w' hc hI hA hL K hK) ej
def Region.notDst (ops:Array Oper)(n k:Nat):Bool:=(List.range n).all λi=>match ops[i]? with|some o=>o.dst != some k|none=>true
theorem Agree.at_ {n k:Nat}{a b:Act}(h:Agree ops n a b)(hk:Region.notDst ops n k=true):b.eval (.tmp k)=a.eval (.tmp k) :=
 h.same k λi o hi ho e=>by
  have:=List.all_eq_true.1 hk i (List.mem_range.2 hi);rw[ho]at this;simp[e]at this
theorem a0b {F:Nat->Value->World->Prop}{o:Oper}{b:Act}{w:Wd}(h:∀e∈o.after,Region.binds .any e=true->b1y ops F e.on b w)(j d:Nat){oj:Oper}
 (h1:(o.after.any λe=>Region.binds .any e&&e.on==j)=true) (h2:ops[j]? =some oj) (h3:oj.dst=some d):F j (b.eval (.tmp d)) w:=by
 exact ygk
end
abbrev T :Bool:=true
abbrev F :Bool:=false
def rT :Nat->List Bool->List Bool
 |0,l=>l
 |n+1,l=>true::rT n l
def rF :Nat->List Bool->List Bool
 |0,l=>l
 |n+1,l=>false::rF n l
def a1j :List Bool->List Value->(Nat->Value)->Nat->List Value
 |true::bs,x::xs,f,k=>x::a1j bs xs f (k+1)
 |false::bs,_::xs,f,k=>f k::a1j bs xs f (k+1)
 |_,_,_,_=>[]
theorem a8c :∀(bs:List Bool) (xs:List Value) (f:Nat->Value) (k j:Nat),bs.length=xs.length->(a1j bs xs f k)[j]? =(if j<xs.length then some (if bs.getD j false then xs.getD j undef else f (k+j))else none)
 |[],[],_,_,_,_=>by simp[a1j]
 |true::bs,x::xs,f,k,0,_=>by simp[a1j]
 |false::bs,x::xs,f,k,0,_=>by simp[a1j]
 |true::bs,x::xs,f,k,j+1,h=>by
  have ih:=a8c bs xs f (k+1) j (by simpa using h);rw[show a1j (true::bs) (x::xs) f k=x::a1j bs xs f (k+1)from rfl,List.getElem?_cons_succ,ih];simp[Nat.add_assoc,Nat.add_comm 1 j]
 |false::bs,x::xs,f,k,j+1,h=>by
  have ih:=a8c bs xs f (k+1) j (by simpa using h);rw[show a1j (false::bs) (x::xs) f k=f k::a1j bs xs f (k+1)from rfl,List.getElem?_cons_succ,ih];simp[Nat.add_assoc,Nat.add_comm 1 j]
theorem Agree.frame {ops:Array Oper}{n:Nat}{a b:Act}(h:Agree ops n a b)(bs:List Bool)(xs:List Value)(ha:a.tmps=xs.toArray)(hb:(List.range xs.length).map (Region.notDst ops n)=bs) :
 b=⟨(a1j bs xs (λk=>b.tmps.getD k undef) 0).toArray,a.defers⟩:=by
 have hl:bs.length=xs.length:=by rw[<-hb];simp
 have hs:=h.size;have hd:=h.defers;obtain⟨bt,bd⟩:=b;simp only at hs hd;subst hd;congr 1;apply Array.ext';apply List.ext_getElem?;intro j;rw[List.toList_toArray,a8c bs xs _ 0 j hl];have aM:bt.toList.length=xs.length:=by rw[ha]at hs;simpa using hs
 split
 ·rename_i hj
  have mW:j<bt.toList.length:=xM;rw[List.getElem?_eq_getElem mW];congr 1;split
  ·rename_i Ic
   have hn:Region.notDst ops n j=true:=by
    rw[<-hb,List.getD_eq_getElem?_getD,List.getElem?_map,List.getElem?_range xM]at Ic;simpa using Ic
   have:=h.at_ hn;simp only[Act.eval,ha]at this;have vK:j<bt.size:=by simpa using mW
   simpa[Array.getD,vK,hj,List.getD_eq_getElem?_getD]using this
  ·simp[Array.getD,show j<bt.size from by simpa using mW]
 ·rename_i hj
  rw[List.getElem?_eq_none xM]
end
section
open Go.RowKit Go.ChangeShapes Go.WideShapes Go.ChangeAt
section
variable {H:Type}{enc:TypeId×Value->H}{P:Program}
theorem a5m (hl:laidOutB P=true){W W':Wd}(hb:Below W.heap.size W W'):∀ {ts:List TypeId} {vs:List Value} {ds:List (DataW H)} {ps:List MemPlace},
 (ts.all λt=>P.readableRec t&&decide (t<P.types.size))=true->(∀x∈ps,x.block<W.heap.size) ->
 DataW.TrodAll enc P W 0 (λ_=>true) true ts vs ds ps->DataW.TrodAll enc P W' 0 (λb=>decide (b<W.heap.size)) true ts vs ds ps
 |[],[],[],_,_,_,h=>h
 |[],_::_,_,_,_,_,h=>h.elim
 |[],[],_::_,_,_,_,h=>h.elim
 |_::_,[],_,_,_,_,h=>h.elim
 |_::_,_::_,[],_,_,_,h=>h.elim
 |t::ts,v::vs,d::ds,ps,hr,ab,h=>by
  obtain⟨p,q,h1,h2,rfl⟩:=h;simp only[List.all_cons,Bool.and_eq_true,decide_eq_true_eq]at hr;exact⟨p,q,Below.trod hl hr.1.1 hr.1.2 h1 hb (λx hx=>ab x (List.mem_append.2 (.inl hx))),
   a5m hl hb hr.2 (λx hx=>ab x (List.mem_append.2 (.inr hx))) h2,rfl⟩
theorem c3b {f:Func}{s:ChangeSpec}{W W':Wd}{args:Array Value}{ds:List (DataW H)}{before:List MemPlace}{T:Td}
 (hl:laidOutB P=true) (hr:(f.params.toList.all λt=>P.readableRec t&&decide (t<P.types.size))=true) (hv:s.vars=[])
 (hT:f.resultTypes= #[T]) (sT:P.underlying T=some .bool)
 (hs:s.fn H (ds++[])={ results:=[.lit (.bool true)],args:=ds })
 (hW:DataW.Whole enc P f.params.toList s.vars false W args.toList ds [] before)
 (hb:Below W.heap.size W W'):s.post enc P f false true false false W args (.bool true) W':=by
 have ab:=λx hx=>hW.lt x hx
 have bQ:=hW;obtain⟨p,q,hA,hV,rfl,hz,hn⟩:=hW;rw[hv]at hV;obtain⟨-,rfl⟩:=trodVars_none hV;refine⟨ds,[],p++[],[],p,[],bQ,?_,?_,?_,hb.frame _,λh=>by cases h⟩
 ·rw[hs,hT]
  exact trodAll_cons_mk (shut_bool sT true) trodAll_mk0
 ·rw[hs]
  exact a5m hl hb hr (λx hx=>ab x (by simpa using hx)) hA
 ·rw[hs,hv]
  exact rfl
theorem a4e {w:Wd}{b:Nat}{sp:Nat->Bool}{hd:Bool}:∀ {ts:List TypeId} {vs:List Value} {ds:List (DataW H)} {ps:List MemPlace},
 DataW.TrodAll enc P w b sp hd ts vs ds ps->vs.length=ts.length/\ds.length=ts.length
 |[],[],[],_,_=>⟨rfl,rfl⟩
 |[],_::_,_,_,h=>h.elim
 |[],[],_::_,_,h=>h.elim
 |_::_,[],_,_,h=>h.elim
 |_::_,_::_,[],_,h=>h.elim
 |_::_,_::_,_::_,_,h=>by
  obtain⟨p,q,h1,h2,rfl⟩:=h;have:=a4e h2;simp[this.1,this.2]
theorem b9r {k:FuncId}{f:Func}{s:ChangeSpec}{W:Wd}{args:Array Value}{ds gs:List (DataW H)}{before:List MemPlace}(T:Td)
 (hl:laidOutB P=true) (hr:(f.params.toList.all λt=>P.readableRec t&&decide (t<P.types.size))=true) (hv:s.vars=[])
 (hT:f.resultTypes= #[T]) (sT:P.underlying T=some .bool)
 (hs:∀ds:List (DataW H),ds.length=f.params.toList.length->s.fn H (ds++[])={ results:=[.lit (.bool true)],args:=ds })
 (hW:DataW.Whole enc P f.params.toList s.vars false W args.toList ds gs before)
 (xo:args.toList.length=f.params.toList.length->DataW.Whole enc P f.params.toList [] false W args.toList ds [] before->Calls P k args W λe W'=>e= .returned (.bool true)/\Below W.heap.size W W') :
 Calls P k args W λe W'=>∃v,e= .returned v/\s.post enc P f false true false false W args v W':=by
 have bQ:=hW;obtain⟨p,q,hA,hV,hb,hz,hn⟩:=bQ;rw[hv]at hV;obtain⟨rfl,-⟩:=trodVars_none hV;obtain⟨l1,l2⟩:=a4e hA;have eP:=hW;rw[hv]at eP;exact(xo l1 eP).mono λe W' ⟨he,aW⟩=>⟨_,he,c3b hl hr hv hT sT (hs ds l2) hW aW⟩
/-! ### what came in by value: ints,and rows of ints -/
variable {w:Wd}{r:Reach}{base:Nat}{t:Td}{v:Vu}{k:IntKind}
end
end
end Go
namespace Go.Proofs.YteijfnkidefekaaGreat
open Tryz
section
open Go.RowKit Go.Shelf
def a0l (n:Int):Prop := -9223372036854775808<=n/\n<=9223372036854775807
instance (n :Int):Decidable (a0l n):=inferInstanceAs (Decidable (_/\_))
theorem a1a (x:Int):a0l (wrap64 x):=by
 unfold a0l wrap64;omega
theorem a2a (x:Int):a0l (IntKind.i64.wrap x):=by
 unfold a0l;simp[IntKind.wrap,IntKind.bits,IntKind.signed];omega
theorem a0p {x:Int}(h0 : -9223372036854775808<=x)(h1:x<=9223372036854775807):IntKind.i64.wrap x=x:=by
 simp[IntKind.wrap,IntKind.bits,IntKind.signed];omega
def Blk (W:Wd)(B:Nat)(c:Array Value)(t:Td):Prop:=W.heap[B]? =some (.cells c t (0,0))
theorem Blk.kept {W W':Wd}{B:Nat}{c:Array Value}{t:Td}{row:Option Nat}(h:Blk W B c t)(hg:W.grownBy W' row)(hr:row≠some B):Blk W' B c t:=by
 exact(hg.block B (Array.getElem?_eq_some_iff.1 h).1 (λe=>hr e.symm)).trans h
theorem Blk.new (W:Wd)(c:Array Value)(t:Td):Blk (W.alloc (.cells c t)) W.heap.size c t:=by unfold Blk World.alloc;simp
theorem Blk.alloc {W:Wd}{B:Nat}{c:Array Value}{t:Td}(h:Blk W B c t)(o:Obj):Blk (W.alloc o) B c t:=h.kept (World.grownBy_alloc W o none) vM
theorem Blk.lt {W:Wd}{B:Nat}{c:Array Value}{t:Td}(h:Blk W B c t):B<W.heap.size:=(Array.getElem?_eq_some_iff.1 h).1
theorem Blk.cell {W:Wd}{B:Nat}{c:Array Value}{t:Td}(h:Blk W B c t)(i:Nat):W.cell? ⟨B,i,none⟩=c[i]? :=b0d h i
theorem Blk.frozen {W:Wd}{B:Nat}{c:Array Value}{t:Td}(h:Blk W B c t)(i:Nat):W.frozen? ⟨B,i,none⟩=false:=by
 unfold World.frozen?;rw[show W.heap[B]? =_ from h];simp
theorem Blk.below {W W':Wd}{B n₀:Nat}{c:Array Value}{t:Td}(h:Blk W B c t)(hb:Below n₀ W W')(hB:B<n₀):Blk W' B c t:=(hb.block B hB).trans h
theorem Blk.set {W:Wd}{B:Nat}{c:Array Value}{t:Td}(h:Blk W B c t)(i:Nat)(v:Vu):Blk (W.setCell ⟨B,i,none⟩ v) B (c.setIfInBounds i v) t:=by
 unfold Blk at *;unfold World.setCell;simp[Array.getElem?_modify,h]
theorem Blk.other {W:Wd}{B B':Nat}{c:Array Value}{t:Td}(h:Blk W B c t)(an:B≠B')(i:Nat)(v:Vu):Blk (W.setCell ⟨B',i,none⟩ v) B c t:=by
 unfold Blk at *;rw[Below.heap_setCell _ _ _ _ (by simpa using an)];exact h
theorem Blk.grow {W:Wd}{B:Nat}{c:Array Value}{t:Td}(h:Blk W B c t)(p:Growth):Blk (W.growBy p) B c t:=h.kept (a1n W p) vM
theorem Blk.drew {W:Wd}{B:Nat}{c:Array Value}{t:Td}(h:Blk W B c t):Blk W.drew B c t:=h
theorem a6z {W W':Wd}{row:Option Nat}{base:Nat}{e:Td}{size:Nat}{v:Vu}{k:Nat}{xs:List Value}(h:W.ownsRow base e size v k xs)(hg:W.grownBy W' row)
 (ag:∀r,row=some r->∃o:Obj,W.heap[r]? =some o/\∀cur,o≠.cells cur e (0,0)):W'.ownsRow base e size v k xs:=by
 refine h.kept hg ?_;rcases h.2 with⟨rfl,_⟩|⟨g,cap,cur,rfl,_,hgb,_⟩
 ·exact .inl rfl
 ·refine .inr λe'=> ?_
  obtain⟨o,ho,hw⟩:=ag g (by simpa[Value.ownBlock]using e'.symm);rw[hgb]at ho;cases ho;exact hw cur rfl
theorem a2e {W:Wd}{base:Nat}{e t:Td}{size:Nat}{v:Vu}{k:Nat}{xs:List Value}(h:W.ownsRow base e size v k xs){B:Nat}{c:Array Value}(hb:Blk W B c t)(an:t≠e):v.ownBlock≠some B:=by
 intro hj;rcases h.2 with⟨rfl,_⟩|⟨g,cap,cur,rfl,_,hgb,_⟩
 ·simp[Value.ownBlock]at hj
 ·have:g=B:=by simpa[Value.ownBlock]using hj
  subst this;rw[show W.heap[g]? =_ from hb]at hgb
  cases hgb;exact an rfl
structure El (α:Type) where
 t:TypeId
 s:Nat
 enc:α->List Value
structure El.Ok {α:Type}(E:El α):Prop where
 len:∀x,(E.enc x).length=E.s
 pos:0<E.s
 one:∀x,∀u∈E.enc x,u.oneCell'=true
def Lst {α:Type}(E:El α)(n₀:Nat)(W:Wd)(v:Vu)(l:List α):Prop :=
 ∃a cap,v= .slice a l.length cap/\l.length<=cap/\l.length<=1000000/\∀j,(h:j<l.length)->∃b off,a=some ⟨b,off,none⟩/\b<n₀/\∀i,i<E.s->W.cell? ⟨b,off+j*E.s+i,none⟩=(E.enc l[j])[i]?
section
variable {α:Type}{E:El α}{n₀ ek:Nat}{W W':Wd}{v:Vu}{l:List α}
theorem Lst.nil (E:El α)(n₀:Nat)(W:Wd):Lst E n₀ W (.slice none 0 0) []:=⟨none,0,rfl,yR _,by simp,λj hj=>by simp at hj⟩
theorem Lst.below (h:Lst E n₀ W v l)(hb:Below n₀ W W'):Lst E n₀ W' v l:=by
 obtain⟨a,cap,e,h1,h2,h3⟩:=h;exact⟨a,cap,e,h1,h2,λj hj=>by
  obtain⟨b,off,e2,ab,hc⟩:=h3 j hj;exact⟨b,off,e2,ab,λi hi=>(hb.cell (p:=⟨b,off+j*E.s+i,none⟩) ab).trans (hc i hi)⟩⟩
theorem Lst.mono (h:Lst E n₀ W v l)(hn:n₀<=ek):Lst E ek W v l:=by
 obtain⟨a,cap,e,h1,h2,h3⟩:=h;exact⟨a,cap,e,h1,h2,λj hj=>by
  obtain⟨b,off,e2,ab,hc⟩:=h3 j hj;exact⟨b,off,e2,Nat.lt_of_lt_of_le ab hn,hc⟩⟩
theorem Lst.up (h:Lst E W.heap.size W v l)(hb:Below W.heap.size W W'):Lst E W'.heap.size W' v l:=(h.below hb).mono hb.size
theorem Lst.form (h:Lst E n₀ W v l):∃a cap,v= .slice a l.length cap/\l.length<=cap:=by
 obtain⟨a,cap,e,h1,-⟩:=h;exact⟨a,cap,e,h1⟩
theorem Lst.len (h:Lst E n₀ W v l):l.length<=1000000:=by
 obtain⟨a,cap,e,h1,h2,-⟩:=h;exact h2
theorem Lst.some_ (h:Lst E n₀ W v l)(hl:0<l.length):∃b off cap,v= .slice (some ⟨b,off,none⟩) l.length cap/\l.length<=cap/\b<n₀/\∀j,(h:j<l.length)->∀i,i<E.s->W.cell? ⟨b,off+j*E.s+i,none⟩=(E.enc l[j])[i]? :=by
 obtain⟨a,cap,rfl,h1,h2,h3⟩:=h;obtain⟨b,off,rfl,ab,-⟩:=h3 0 hl;refine⟨b,off,cap,rfl,h1,ab,λj hj i hi=> ?_⟩;obtain⟨b',dK,e,-,hc⟩:=h3 j hj
 cases e;exact hc i hi
theorem b0i (hE:E.Ok):∀(l:List α) (j i:Nat) (h:j<l.length),i<E.s->(l.flatMap E.enc)[j*E.s+i]? =(E.enc l[j])[i]?
 |[],j,i,h,_=>by simp at h
 |d::l,0,i,_,hi=>by
  rw[List.flatMap_cons,Nat.zero_mul,Nat.zero_add,List.getElem?_append_left (by rw[hE.len];exact hi)];rfl
 |d::l,j+1,i,h,hi=>by
  have ih:=b0i hE l j i (by simpa using h) hi;rw[List.flatMap_cons,List.getElem?_append_right (by rw[hE.len,Nat.add_mul];omega),hE.len,show(j+1)*E.s+i-E.s=j*E.s+i from by rw[Nat.add_mul];omega];exact ih
theorem a0t (hE:E.Ok)(l:List α):(l.flatMap E.enc).length=l.length*E.s:=by
 induction l with
 |nil=>simp
 |cons d l ih=>rw[List.flatMap_cons,List.length_append,ih,hE.len,List.length_cons,Nat.add_mul];omega
theorem a0g (hE:E.Ok){base:Nat}(h:W.ownsRow base E.t E.s v l.length (l.flatMap E.enc))(hl:l.length<=1000000):Lst E W.heap.size W v l:=by
 rcases h.2 with⟨rfl,h0⟩|⟨g,cap,cur,rfl,dz,hgb,dq,-⟩
 ·obtain rfl:=List.eq_nil_of_length_eq_zero h0
  exact Lst.nil _ _ _
 ·refine⟨_,cap,rfl,dq,hl,λj hj=>⟨g,0,rfl,(Array.getElem?_eq_some_iff.1 hgb).1,λi hi=> ?_⟩⟩
  have ab:j*E.s+i<l.length*E.s:=by
   have:(j+1)*E.s<=l.length*E.s:=Nat.mul_le_mul_right _ hj;rw[Nat.add_mul]at this;omega
  rw[Nat.zero_add,<-b0i hE l j i hj hi];exact h.cellAt _ ab
end
structure El.In {α:Type}(E:El α)(P:Program)(st:Td):Prop where
 under:P.underlying st=some (.slice E.t)
 info:∃i z,P.info? E.t=some i/\i.zero=some z/\i.size=E.s/\i.bytes<=1000/\z.cells.size=E.s
theorem El.in_of {α:Type}{E:El α}{P:Program}{st:Td}{s bytes:Nat}{z:Vu}(hu:P.underlying st=some (.slice E.t))(h:(P.info? E.t).map (λi=>(i.zero,i.size,i.bytes))=some (some z,s,bytes))(hs:s=E.s)(hb:bytes<=1000)(hz:z.cells.size=s):E.In P st:=by
 obtain⟨i,hi,h1,h2,h3⟩:=info_parts h;exact⟨hu,i,z,hi,h1,h2.trans hs,xM,xM⟩
section
variable {α:Type}{E:El α}{P:Program}{st:Td}{w:Wd}{l:List α}
theorem El.push (hE:E.Ok)(hI:E.In P st){ops:Array Oper}{rest:List Oper}{o:Oper}{a:Act}{Q:Exit->Act->World->Prop}(bP:o.guard=none)(sO xO:Operand)(ho:o.op= .call { callee:= .builtin .append,args:= #[sO,xO],argTypes:= #[st,st] })
 {base:Nat} {v:Vu} (hs:a.eval sO=v) (ag:w.ownsRow base E.t E.s v l.length (l.flatMap E.enc)) (x:α) {H:Nat} (hx:a.eval xO= .slice (some ⟨H,0,none⟩) 1 1) (hH:w.heap.size=H) (dz:base<=w.heap.size) (hl:l.length<=100000)
 (h:∀v' w',w'.ownsRow base E.t E.s v' (l++[x]).length ((l++[x]).flatMap E.enc)->(∃a c,v'= .slice a (l.length+1) c)->w.grownBy w' v.ownBlock->Below base w w'->wpList P ops Q rest (a.put o.dst v') w') :
 wpList P ops Q (o::rest) a (w.alloc (.cells (E.enc x).toArray E.t)):=by
 subst hH;obtain⟨i,z,hi,hz,aM,mq,fI⟩:=hI.info;have hlen:=hE.len x;refine wpList_append_lies _ bP sO xO st ho base E.t i z E.s i.bytes hI.under hi hz aM rfl fI hE.pos v l.length _ hs (ag.alloc _) ⟨w.heap.size,0,none⟩ 1 1 (E.enc x) hx (by rw[hlen,Nat.one_mul]) (World.news_of_block (heap_alloc_new _ _)) (hE.one x) xM gM (Nat.le_trans (Nat.mul_le_mul (Nat.add_le_add_right hl 1) mq) jM) uM _ rfl ?_;intro g cap w' aA hg cG ab;have dL:w.grownBy w' v.ownBlock:=by
  exact yco
 refine h _ w' ?_ ⟨_,_,rfl⟩ dL ⟨dL.os,dL.tape,dL.output,dL.size,λk hk=>dL.block k xM (λe=> ?_)⟩
 ·simpa[List.flatMap_append]using aA
 ·have:=(ag.lt k e.symm).1
  omega
end
theorem zN2 {W:Wd}{B:Nat}{v0 v1:Vu}{l:List Value}{t:Td}(h:Blk W B (v0::v1::l).toArray t):W.cell? ⟨B,0,none⟩=some v0/\W.cell? ⟨B,1,none⟩=some v1:=⟨h.cell 0,h.cell 1⟩
theorem zN3 {W:Wd}{B:Nat}{v0 v1 v2:Vu}{l:List Value}{t:Td}(h:Blk W B (v0::v1::v2::l).toArray t):W.cell? ⟨B,0,none⟩=some v0/\W.cell? ⟨B,1,none⟩=some v1/\W.cell? ⟨B,2,none⟩=some v2:=⟨h.cell 0,h.cell 1,h.cell 2⟩
theorem zN4 {W:Wd}{B:Nat}{v0 v1 v2 v3:Vu}{l:List Value}{t:Td}(h:Blk W B (v0::v1::v2::v3::l).toArray t):W.cell? ⟨B,0,none⟩=some v0/\W.cell? ⟨B,1,none⟩=some v1/\W.cell? ⟨B,2,none⟩=some v2/\W.cell? ⟨B,3,none⟩=some v3:=⟨h.cell 0,h.cell 1,h.cell 2,h.cell 3⟩
theorem zN5 {W:Wd}{B:Nat}{v0 v1 v2 v3 v4:Vu}{l:List Value}{t:Td}(h:Blk W B (v0::v1::v2::v3::v4::l).toArray t):W.cell? ⟨B,0,none⟩=some v0/\W.cell? ⟨B,1,none⟩=some v1/\W.cell? ⟨B,2,none⟩=some v2/\W.cell? ⟨B,3,none⟩=some v3/\W.cell? ⟨B,4,none⟩=some v4:=⟨h.cell 0,h.cell 1,h.cell 2,h.cell 3,h.cell 4⟩
theorem zN7 {W:Wd}{B:Nat}{v0 v1 v2 v3 v4 v5 v6:Vu}{l:List Value}{t:Td}(h:Blk W B (v0::v1::v2::v3::v4::v5::v6::l).toArray t):W.cell? ⟨B,0,none⟩=some v0/\W.cell? ⟨B,1,none⟩=some v1/\W.cell? ⟨B,2,none⟩=some v2/\W.cell? ⟨B,3,none⟩=some v3/\W.cell? ⟨B,4,none⟩=some v4/\W.cell? ⟨B,5,none⟩=some v5/\W.cell? ⟨B,6,none⟩=some v6:=⟨h.cell 0,h.cell 1,h.cell 2,h.cell 3,h.cell 4,h.cell 5,h.cell 6⟩
theorem zN8 {W:Wd}{B:Nat}{v0 v1 v2 v3 v4 v5 v6 v7:Vu}{l:List Value}{t:Td}(h:Blk W B (v0::v1::v2::v3::v4::v5::v6::v7::l).toArray t):W.cell? ⟨B,0,none⟩=some v0/\W.cell? ⟨B,1,none⟩=some v1/\W.cell? ⟨B,2,none⟩=some v2/\W.cell? ⟨B,3,none⟩=some v3/\W.cell? ⟨B,4,none⟩=some v4/\W.cell? ⟨B,5,none⟩=some v5/\W.cell? ⟨B,6,none⟩=some v6/\W.cell? ⟨B,7,none⟩=some v7:=⟨h.cell 0,h.cell 1,h.cell 2,h.cell 3,h.cell 4,h.cell 5,h.cell 6,h.cell 7⟩
theorem c8k {W:Wd}{B:Nat}{v0 v1 v2 v3 v4 v5 v6 v7 v8 v9 v10 v11 v12 Ie Ig Ih Ii v17 Ij Ik v20 v21 v22 v23 v24:Vu}{l:List Value}{t:Td}(h:Blk W B (v0::v1::v2::v3::v4::v5::v6::v7::v8::v9::v10::v11::v12::Ie::Ig::Ih::Ii::v17::Ij::Ik::v20::v21::v22::v23::v24::l).toArray t):W.cell? ⟨B,0,none⟩=some v0/\W.cell? ⟨B,1,none⟩=some v1/\W.cell? ⟨B,2,none⟩=some v2/\W.cell? ⟨B,3,none⟩=some v3/\W.cell? ⟨B,4,none⟩=some v4/\W.cell? ⟨B,5,none⟩=some v5/\W.cell? ⟨B,6,none⟩=some v6/\W.cell? ⟨B,7,none⟩=some v7/\W.cell? ⟨B,8,none⟩=some v8/\W.cell? ⟨B,9,none⟩=some v9/\W.cell? ⟨B,10,none⟩=some v10/\W.cell? ⟨B,11,none⟩=some v11/\W.cell? ⟨B,12,none⟩=some v12/\W.cell? ⟨B,13,none⟩=some Ie/\W.cell? ⟨B,14,none⟩=some Ig/\W.cell? ⟨B,15,none⟩=some Ih/\W.cell? ⟨B,16,none⟩=some Ii/\W.cell? ⟨B,17,none⟩=some v17/\W.cell? ⟨B,18,none⟩=some Ij/\W.cell? ⟨B,19,none⟩=some Ik/\W.cell? ⟨B,20,none⟩=some v20/\W.cell? ⟨B,21,none⟩=some v21/\W.cell? ⟨B,22,none⟩=some v22/\W.cell? ⟨B,23,none⟩=some v23/\W.cell? ⟨B,24,none⟩=some v24:=⟨h.cell 0,h.cell 1,h.cell 2,h.cell 3,h.cell 4,h.cell 5,h.cell 6,h.cell 7,h.cell 8,h.cell 9,h.cell 10,h.cell 11,h.cell 12,h.cell 13,h.cell 14,h.cell 15,h.cell 16,h.cell 17,h.cell 18,h.cell 19,h.cell 20,h.cell 21,h.cell 22,h.cell 23,h.cell 24⟩
end
section
open Go.RowKit Go.Maps
abbrev a3v :=Int×Int
def c9x (p:a3v):Prop:=a0l p.1/\a0l p.2
/-! ### a map's content: a list of dots with their numbers,each dot once -/
end
end Go.Proofs.YteijfnkidefekaaGreat
