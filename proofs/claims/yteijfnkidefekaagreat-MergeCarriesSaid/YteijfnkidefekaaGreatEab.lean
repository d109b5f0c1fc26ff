/-
  Parts.
-/
import Derived.Test.YteijfnkidefekaaGreatEaa
set_option linter.unusedVariables false
set_option linter.unusedSimpArgs false
set_option linter.unusedSectionVars false
namespace Go.Proofs.YteijfnkidefekaaGreat
open Tryz
section
open Go.Sort
section
variable {α:Type} [Inhabited α]{lt:α->α->Bool}
theorem Rot.right {a k:Nat}{d dk:Array α}(h:Rot a (a+1) (k+1) d dk)(ha:a<=k)(hk:k+1<d.size):Rot a (a+1) (k+1+1) d (swp dk k (k+1)):=by
 obtain⟨i1,i2⟩:=h.idx xM xM;have hs:=h.out.1;have ho:=h.out.2;refine⟨(h.out.mono (yR _) xM).trans (Out.swp ⟨ha,xM⟩ ⟨xM,xM⟩),?_⟩;have hx:dk[k]! =d[a]! :=by
  have:=i2 0 xM;rw[show a+(k+1-(a+1))+0=k by omega]at this;simpa using this
 rw[a0s (swp dk k (k+1)) (show a<=k by omega) (show k<=k+1+1 by omega),a0s (swp dk k (k+1)) (show k<=k+1 by omega) (show k+1<=k+1+1 by omega),a2u,a2u];rw[swp_left _ _ _ xM xM,swp_right _ _ _ xM,hx,ho (k+1) xM];rw[a0s d (show a+1<=k+1 by omega) (show k+1<=k+1+1 by omega),a2u,a2u];rw[a2l (d:=dk) (d':=swp dk k (k+1)) (a:=a) (b:=k) (λi _ hi=>swp_other _ _ _ _ xM xM)];have h2:ext dk a k=ext d (a+1) (k+1):=by
  have h3:=a5k (d:=d) (d':=dk) (a:=a) (b:=a+1) (n:=k-a) (λi hi=>i1 i xM);rw[show a+(k-a)=k by omega,show a+1+(k-a)=k+1 by omega]at h3;exact h3
 rw[h2];simp only[List.append_assoc]
theorem Rot.left {k m:Nat}{d dk:Array α}(h:Rot (k+1) m (m+1) d dk)(hk:k+1<=m)(hm:m<d.size):Rot k m (m+1) d (swp dk (k+1) k):=by
 obtain⟨i1,i2⟩:=h.idx xM xM;have hs:=h.out.1;have ho:=h.out.2;refine⟨(h.out.mono xM (yR _)).trans (Out.swp ⟨xM,xM⟩ ⟨xM,xM⟩),?_⟩;have hx:dk[k+1]! =d[m]! :=by
  have:=i1 0 xM;simpa using this
 rw[a0s (swp dk (k+1) k) (show k<=k+1 by omega) (show k+1<=m+1 by omega),a0s (swp dk (k+1) k) (show k+1<=k+1+1 by omega) (show k+1+1<=m+1 by omega),a2u,a2u];rw[swp_left _ _ _ xM xM,swp_right _ _ _ xM,hx,ho k xM];rw[a0s d (show k<=k+1 by omega) (show k+1<=m by omega),a2u,a2u];rw[a2l (d:=dk) (d':=swp dk (k+1) k) (a:=k+1+1) (b:=m+1) (λi hi _=>swp_other _ _ _ _ xM xM)];have h2:ext dk (k+1+1) (m+1)=ext d (k+1) m:=by
  have h3:=a5k (d:=d) (d':=dk) (a:=k+1+1) (b:=k+1) (n:=m-(k+1)) (λi hi=>by
   have:=i2 i xM;rw[show k+1+(m+1-m)+i=k+1+1+i by omega]at this;exact this)
  rw[show k+1+1+(m-(k+1))=m+1 by omega,show k+1+(m-(k+1))=m by omega]at h3;exact h3
 rw[h2]
structure SwR (a b n:Nat)(d d':Array α):Prop where
 size:d'.size=d.size
 lo:∀i,i<n->d'[a+i]! =d[b+i]!
 hi:∀i,i<n->d'[b+i]! =d[a+i]!
 out:∀i,(i<a\/a+n<=i)->(i<b\/b+n<=i)->d'[i]! =d[i]!
theorem SwR.zero (a b:Nat)(d:Array α):SwR a b 0 d d:=⟨rfl,λi h=>by omega,λi h=>by omega,λ_ _ _=>rfl⟩
theorem SwR.step {a b n:Nat}{d d':Array α}(h:SwR a b n d d')(bq:a+n<b)(hb:b+n<d.size):SwR a b (n+1) d (swp d' (a+n) (b+n)):=by
 have hs:=h.size;refine⟨by rw[size_swp,h.size],λi hi=> ?_,λi hi=> ?_,λi h1 h2=> ?_⟩
 ·by_cases e:i=n
  ·subst e
   rw[swp_left _ _ _ xM xM];exact h.out _ xM xM
  ·rw[swp_other _ _ _ _ xM xM]
   exact h.lo i xM
 ·by_cases e:i=n
  ·subst e
   rw[swp_right _ _ _ xM];exact h.out _ xM xM
  ·rw[swp_other _ _ _ _ xM xM]
   exact h.hi i xM
 ·rw[swp_other _ _ _ _ xM xM]
  exact h.out i xM xM
structure RoI (a m b i j:Nat)(d D:Array α):Prop where
 out:Out a b d D
 i0:a+i<=m
 j0:m+j<=b
 eq:ext D a (m-i)++((ext D m (m+j)++ext D (m-i) m)++ext D (m+j) b)=ext d m b++ext d a m
theorem RoI.start {a m b:Nat}(d:Array α)(h1:a<=m)(h2:m<=b):RoI a m b (m-a) (b-m) d d:=by
 refine⟨.refl _ _ _,xM,xM,?_⟩;rw[show m-(m-a)=a by omega,show m+(b-m)=b by omega,b0f d (yR a),b0f d (yR b)];simp
theorem SwR.outs {a b n x y:Nat}{d d':Array α}(h:SwR a b n d d')(hx:x<=a)(bq:a+n<=b)(hy:b+n<=y):Out x y d d' :=
 ⟨h.size,λi hi=>h.out i xM xM⟩
theorem SwR.ext_lo {a b n:Nat}{d d':Array α}(h:SwR a b n d d'):ext d' a (a+n)=ext d b (b+n):=a5k h.lo
theorem SwR.ext_hi {a b n:Nat}{d d':Array α}(h:SwR a b n d d'):ext d' b (b+n)=ext d a (a+n):=a5k h.hi
theorem SwR.ext_out {a b n x y:Nat}{d d':Array α}(h:SwR a b n d d')(h1:y<=a\/a+n<=x)(h2:y<=b\/b+n<=x):ext d' x y=ext d x y :=
 a2l λi hi hj=>h.out i xM xM
theorem RoI.left {a m b i j:Nat}{d D D':Array α}(h:RoI a m b i j d D)(cm:j<i)(hs:SwR (m-i) m j D D'):RoI a m b (i-j) j d D':=by
 obtain⟨ho,hi,hj,he⟩:=h;refine⟨ho.trans (hs.outs xM xM xM),xM,hj,?_⟩;rw[<-he];have e1:m-(i-j)=m-i+j:=xM;rw[e1,a0s D' (show a<=m-i by omega) (show m-i<=m-i+j by omega),hs.ext_lo,hs.ext_hi];rw[hs.ext_out (x:=a) (y:=m-i) xM xM,hs.ext_out (x:=m-i+j) (y:=m) xM xM,hs.ext_out (x:=m+j) (y:=b) xM xM];rw[a0s D (show m-i<=m-i+j by omega) (show m-i+j<=m by omega)];simp only[List.append_assoc]
theorem RoI.right {a m b i j:Nat}{d D D':Array α}(h:RoI a m b i j d D)(cm:i<j)(hs:SwR (m-i) (m+j-i) i D D'):RoI a m b i (j-i) d D':=by
 obtain⟨ho,hi,hj,he⟩:=h;refine⟨ho.trans (hs.outs xM xM xM),hi,xM,?_⟩;rw[<-he];have e1:m+(j-i)=m+j-i:=xM;have e2:m-i+i=m:=xM;have e3:m+j-i+i=m+j:=xM;have h1:=hs.ext_lo;have h2:=hs.ext_hi;rw[e2,e3]at h1 h2;rw[e1,a0s D' (show m+j-i<=m+j by omega) (show m+j<=b by omega),h1,h2];rw[hs.ext_out (x:=a) (y:=m-i) xM xM,hs.ext_out (x:=m) (y:=m+j-i) xM xM,hs.ext_out (x:=m+j) (y:=b) xM xM];rw[a0s D (show m<=m+j-i by omega) (show m+j-i<=m+j by omega)];simp only[List.append_assoc]
theorem RoI.done {a m b i:Nat}{d D D':Array α}(h:RoI a m b i i d D)(hs:SwR (m-i) m i D D'):Rot a m b d D':=by
 obtain⟨ho,hi,hj,he⟩:=h;refine⟨ho.trans (hs.outs xM xM xM),?_⟩;rw[<-he];have e2:m-i+i=m:=xM;have h1:=hs.ext_lo;have h2:=hs.ext_hi;rw[e2]at h1 h2;rw[a0s D' (show a<=m-i by omega) (show m-i<=b by omega),a0s D' (show m-i<=m by omega) (show m<=b by omega),a0s D' (show m<=m+i by omega) (show m+i<=b by omega),h1,h2];rw[hs.ext_out (x:=a) (y:=m-i) xM xM,hs.ext_out (x:=m+i) (y:=b) xM xM];simp only[List.append_assoc]
theorem a7r (hS:SWO lt){a b i:Nat}{d d1:Array α}(hR:SortedIn lt (a+1) b d)(hi:a+1<=i)(LL:i<=b)
 (h1:i=a+1\/lt d[i-1]! d[a]! =true) (h2:i=b\/lt d[i]! d[a]! =false) (hr:Rot a (a+1) i d d1):Srt lt a b d d1:=by
 have g1:∀j,a+1<=j->j<i->lt d[j]! d[a]! =true:=λj hj cA=>by
  rcases h1 with h|h
  ·omega
  ·cases h4:lt d[j]! d[a]! with
   |true=>rfl
   |false =>
    have h5:lt d[i-1]! d[j]! =false:=by
     rcases Nat.lt_or_ge j (i-1)with h|h
     ·exact hR j _ hj h xM
     ·rw[show j=i-1 by omega];exact hS.irrefl _
    rw[hS.ntrans _ _ _ h5 h4]at h
    cases h
 have g2:∀j,i<=j->j<b->lt d[j]! d[a]! =false:=λj hj dJ=>by
  rcases h2 with h|h
  ·omega
  ·have h5:lt d[j]! d[i]! =false:=by
    rcases Nat.lt_or_ge i j with h|h
    ·exact hR i _ hi h dJ
    ·rw[show j=i by omega];exact hS.irrefl _
   exact hS.ntrans _ _ _ h5 h
 obtain⟨-,i2⟩:=hr.idx xM hi;have hx:d1[a+(i-(a+1))]! =d[a]! :=by
  have:=i2 0 xM;simpa using this
 obtain⟨⟨-,s2,-,s4⟩,hf⟩:=Cut.step hS (a:=a) (m:=a+1) (b:=b) (s:=a) (e:=i) (d:=d) (d1:=d1) (d2:=d1) (d3:=d1)
  ⟨yR _,xM,hi,LL,λk j hk xu hj cA=>by rw[show k=a by omega];exact g1 j hj cA,λk j hk xu _ _=>by omega⟩
  (λp q _ _ _=>by omega) hR hr
 refine hf (a1v s2) (a1v λp q hp Df hq=> ?_);by_cases LM:p=a+(i-(a+1))
 ·rw[LM,hx,hr.out.2 q xM]
  exact g2 q xM hq
 ·exact s4 p q xM Df hq
theorem a5n (hS:SWO lt){a m i:Nat}{d d1:Array α}(hL:SortedIn lt a m d)(hi:a<=i)(mw:i<=m)
 (h1:i=a\/lt d[m]! d[i-1]! =false) (h2:i=m\/lt d[m]! d[i]! =true) (hr:Rot i m (m+1) d d1):Srt lt a (m+1) d d1:=by
 have g1:∀j,a<=j->j<i->lt d[m]! d[j]! =false:=λj hj cA=>by
  rcases h1 with h|h
  ·omega
  ·have h5:lt d[i-1]! d[j]! =false:=by
    rcases Nat.lt_or_ge j (i-1)with h|h
    ·exact hL j _ hj h xM
    ·rw[show j=i-1 by omega];exact hS.irrefl _
   exact hS.ntrans _ _ _ h h5
 have g2:∀j,i<=j->j<m->lt d[m]! d[j]! =true:=λj hj Da=>by
  rcases h2 with h|h
  ·omega
  ·cases h4:lt d[m]! d[j]! with
   |true=>rfl
   |false =>
    have h5:lt d[j]! d[i]! =false:=by
     rcases Nat.lt_or_ge i j with h|h
     ·exact hL i _ hi h Da
     ·rw[show j=i by omega];exact hS.irrefl _
    rw[hS.ntrans _ _ _ h4 h5]at h
    cases h
 obtain⟨i1,-⟩:=hr.idx mw xM;have hx:d1[i]! =d[m]! :=by
  have:=i1 0 xM;simpa using this
 obtain⟨⟨s1,-,s3,-⟩,hf⟩:=Cut.step hS (a:=a) (m:=m) (b:=m+1) (s:=i) (e:=m+1) (d:=d) (d1:=d1) (d2:=d1) (d3:=d1)
  ⟨hi,mw,xM,yR _,λk j hk xu hj cA=>by rw[show j=m by omega];exact g2 k hk xu,λk j _ _ _ _=>by omega⟩
  hL (λp q _ _ _=>by omega) hr
 refine hf (a1v λp q hp Df hq=> ?_) (a1v s3);by_cases A0:q=i
 ·rw[A0,hx,hr.out.2 p xM]
  exact g1 p hp xM
 ·exact s1 p q hp Df xM
/-! blocks of a size,each sorted -/
def Bks (lt:α->α->Bool)(s n:Nat)(d:Array α):Prop:=∀k,SortedIn lt (k*s) (min (k*s+s) n) d
theorem SortedIn.mono {a b a' b':Nat}{d:Array α}(h:SortedIn lt a b d)(ha:a<=a')(hb:b'<=b):SortedIn lt a' b' d:=λi j hi cm hj=>h i j xM cm xM
theorem SortedIn.outs {a b x y:Nat}{d d':Array α}(h:SortedIn lt a b d)(ho:Out x y d d')(iF:b<=x\/y<=a):SortedIn lt a b d':=λi j hi cm hj=>by
 rw[ho.2 i xM,ho.2 j xM];exact h i j hi cm hj
theorem Srt.stb0 {a b n:Nat}{d0 d d':Array α}(h:Stb lt (ext d0 0 n) (ext d 0 n))(hs:Srt lt a b d d')(bq:a<=b)(hb:b<=n):Stb lt (ext d0 0 n) (ext d' 0 n) :=
 h.trans (hs.whole (Nat.zero_le _) bq hb)
structure InI (lt:α->α->Bool)(s a n:Nat)(d0 d:Array α):Prop where
 size:d.size=n
 stb:Stb lt (ext d0 0 n) (ext d 0 n)
 mul:∃t,a=t*s
 done:∀k,k*s<a->SortedIn lt (k*s) (k*s+s) d
theorem InI.start {s n:Nat}{d:Array α}(h:d.size=n):InI lt s 0 n d d:=⟨h,.refl _,⟨0,by simp⟩,λk hk=>by omega⟩
theorem a3d {k t s:Nat}(h:k*s<t*s+s)(an:k≠t):k*s+s<=t*s:=by
 have h1:k<t+1:=by
  rcases Nat.lt_or_ge k (t+1)with h2|h2
  ·exact h2
  ·have:=Nat.mul_le_mul_right s h2
   rw[Nat.succ_mul]at this;omega
 have:=Nat.mul_le_mul_right s (show k+1<=t by omega);rw[Nat.succ_mul]at this;exact this
theorem InI.step {s a n:Nat}{d0 d d':Array α}(h:InI lt s a n d0 d)(hb:a+s<=n)(hs:Srt lt a (a+s) d d'):InI lt s (a+s) n d0 d':=by
 obtain⟨hz,ai,⟨t,rfl⟩,hd⟩:=h;refine⟨hs.out.1.trans hz,Srt.stb0 ai hs xM hb,⟨t+1,by rw[Nat.succ_mul]⟩,λk hk=> ?_⟩;by_cases e:k=t
 ·subst e
  exact hs.asc
 ·have:=a3d hk e
  have vN:k*s<t*s:=by
   rcases Nat.eq_zero_or_pos s with h0|h0
   ·subst h0;simp at hk
   ·omega
  exact SortedIn.outs (hd k vN) hs.out (.inl this)
theorem InI.last {s a n:Nat}{d0 d d':Array α}(h:InI lt s a n d0 d)(vN:0<s)(ha:a<=n)(hb:n<a+s)(hs:Srt lt a n d d'):d'.size=n/\Stb lt (ext d0 0 n) (ext d' 0 n)/\Bks lt s n d':=by
 obtain⟨hz,ai,⟨t,rfl⟩,hd⟩:=h;refine⟨hs.out.1.trans hz,Srt.stb0 ai hs ha (yR _),λk=> ?_⟩;by_cases e:k=t
 ·subst e
  exact SortedIn.mono hs.asc (yR _) xM
 ·by_cases hk:k*s<t*s+s
  ·have:=a3d hk e
   exact SortedIn.mono (SortedIn.outs (hd k xM) hs.out (.inl this)) (yR _) xM
  ·intro i j hi cm hj
   omega
structure MrI (lt:α->α->Bool)(s a n:Nat)(d0 d:Array α):Prop where
 size:d.size=n
 stb:Stb lt (ext d0 0 n) (ext d 0 n)
 mul:∃t,a=t*(2*s)
 done:∀k,k*(2*s)<a->SortedIn lt (k*(2*s)) (k*(2*s)+2*s) d
 rest:∀k,a<=k*s->SortedIn lt (k*s) (min (k*s+s) n) d
theorem MrI.start {s n:Nat}{d0 d:Array α}(h:d.size=n)(ai:Stb lt (ext d0 0 n) (ext d 0 n))(hb:Bks lt s n d):MrI lt s 0 n d0 d:=⟨h,ai,⟨0,by simp⟩,λk hk=>by omega,λk _=>hb k⟩
theorem MrI.two {s a n:Nat}{d0 d:Array α}(h:MrI lt s a n d0 d):SortedIn lt a (min (a+s) n) d/\SortedIn lt (a+s) (min (a+2*s) n) d:=by
 obtain⟨-,-,⟨t,rfl⟩,-,hr⟩:=h;have e1:2*t*s=t*(2*s):=by rw[Nat.mul_comm 2 t,Nat.mul_assoc]
 have e2:(2*t+1)*s=t*(2*s)+s:=by rw[Nat.succ_mul,e1]
 have h1:=hr (2*t) xM;have h2:=hr (2*t+1) xM;rw[e1]at h1;rw[e2]at h2;exact⟨h1,by rw[show t*(2*s)+s+s=t*(2*s)+2*s by omega]at h2;exact h2⟩
theorem MrI.step {s a n:Nat}{d0 d d':Array α}(h:MrI lt s a n d0 d)(vN:0<s)(hb:a+2*s<=n)(hs:Srt lt a (a+2*s) d d'):MrI lt s (a+2*s) n d0 d':=by
 obtain⟨hz,ai,⟨t,rfl⟩,hd,hr⟩:=h;refine⟨hs.out.1.trans hz,Srt.stb0 ai hs xM hb,⟨t+1,(Nat.succ_mul t (2*s)).symm⟩,λk hk=> ?_,λk hk=>SortedIn.outs (hr k xM) hs.out (.inr hk)⟩;by_cases e:k=t
 ·subst e
  exact hs.asc
 ·have:=a3d hk e
  exact SortedIn.outs (hd k xM) hs.out (.inl this)
theorem MrI.last {s a n:Nat}{d0 d d':Array α}(h:MrI lt s a n d0 d)(vN:0<s)(ha:a<=n)(hb:n<a+2*s)(hs:Srt lt a n d d'):d'.size=n/\Stb lt (ext d0 0 n) (ext d' 0 n)/\Bks lt (2*s) n d':=by
 obtain⟨hz,ai,⟨t,rfl⟩,hd,hr⟩:=h;refine⟨hs.out.1.trans hz,Srt.stb0 ai hs ha (yR _),λk=> ?_⟩;by_cases e:k=t
 ·subst e
  exact SortedIn.mono hs.asc (yR _) xM
 ·by_cases hk:k*(2*s)<t*(2*s)+2*s
  ·have:=a3d hk e
   exact SortedIn.mono (SortedIn.outs (hd k xM) hs.out (.inl this)) (yR _) xM
  ·intro i j hi cm hj
   omega
theorem MrI.last0 {s a n:Nat}{d0 d:Array α}(h:MrI lt s a n d0 d)(vN:0<s)(ha:a<=n)(hb:n<=a+s):d.size=n/\Stb lt (ext d0 0 n) (ext d 0 n)/\Bks lt (2*s) n d :=
 h.last vN ha xM (a1v (SortedIn.mono h.two.1 (yR _) xM))
theorem a5o (hS:SWO lt){n s:Nat}{d0 d:Array α}(h0:d0.size=n)(hz:d.size=n)(ai:Stb lt (ext d0 0 n) (ext d 0 n))(hb:Bks lt s n d)(hn:n<=s):d=insertionSort lt d0 0 n:=by
 obtain⟨ho,ha,hs⟩:=a0r hS d0 (Nat.zero_le n) xM;have h1:SortedIn lt 0 n d:=by
  have:=hb 0;rw[Nat.zero_mul,show min (0+s) n=n by omega]at this;exact this
 have h2:=Asc.unique hS (b4i.2 h1) (b4i.2 ha) (ai.symm.trans hs);have e1:=b0g d;have e2:=b0g (insertionSort lt d0 0 n);rw[hz]at e1;rw[ho.1,h0]at e2;exact Array.toList_inj.1 (e1.symm.trans (h2.trans e2))
end
end
end Go.Proofs.YteijfnkidefekaaGreat
