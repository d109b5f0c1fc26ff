/-
  Parts.
-/
import Derived.Test.YtfocdbjceedagaaGreatDoorCam
set_option linter.unusedVariables false
set_option linter.unusedSimpArgs false
set_option maxHeartbeats 8000000
set_option maxRecDepth 100000
namespace Go.Proofs.YtfocdbjceedagaaGreatDoor
open Tryz
section
open Go.Sort
section
variable {α:Type} [Inhabited α]{lt:α->α->Bool}
theorem Rot.right {a k:Nat}{d dk:Array α}(h:Rot a (a+1) (k+1) d dk)(ha:a<=k)(hk:k+1<d.size):Rot a (a+1) (k+1+1) d (swp dk k (k+1)):=by
 obtain⟨i1,i2⟩:=h.idx oM oM;have hs:=h.out.1;have ho:=h.out.2;refine⟨(h.out.mono (yR _) oM).trans (Out.swp ⟨ha,oM⟩ ⟨oM,oM⟩),?_⟩;have hx:dk[k]! =d[a]! :=by
  have:=i2 0 oM;rw[show a+(k+1-(a+1))+0=k by omega]at this;simpa using this
 rw[a0y (swp dk k (k+1)) (show a<=k by omega) (show k<=k+1+1 by omega),a0y (swp dk k (k+1)) (show k<=k+1 by omega) (show k+1<=k+1+1 by omega),a4e,a4e];rw[swp_left _ _ _ oM oM,swp_right _ _ _ oM,hx,ho (k+1) oM];rw[a0y d (show a+1<=k+1 by omega) (show k+1<=k+1+1 by omega),a4e,a4e];rw[a3n (d:=dk) (d':=swp dk k (k+1)) (a:=a) (b:=k) (λi _ hi=>swp_other _ _ _ _ oM oM)];have h2:ext dk a k=ext d (a+1) (k+1):=by
  have h3:=a9d (d:=d) (d':=dk) (a:=a) (b:=a+1) (n:=k-a) (λi hi=>i1 i oM);rw[show a+(k-a)=k by omega,show a+1+(k-a)=k+1 by omega]at h3;exact h3
 rw[h2];simp only[List.append_assoc]
theorem Rot.left {k m:Nat}{d dk:Array α}(h:Rot (k+1) m (m+1) d dk)(hk:k+1<=m)(hm:m<d.size):Rot k m (m+1) d (swp dk (k+1) k):=by
 obtain⟨i1,i2⟩:=h.idx oM oM;have hs:=h.out.1;have ho:=h.out.2;refine⟨(h.out.mono oM (yR _)).trans (Out.swp ⟨oM,oM⟩ ⟨oM,oM⟩),?_⟩;have hx:dk[k+1]! =d[m]! :=by
  have:=i1 0 oM;simpa using this
 rw[a0y (swp dk (k+1) k) (show k<=k+1 by omega) (show k+1<=m+1 by omega),a0y (swp dk (k+1) k) (show k+1<=k+1+1 by omega) (show k+1+1<=m+1 by omega),a4e,a4e];rw[swp_left _ _ _ oM oM,swp_right _ _ _ oM,hx,ho k oM];rw[a0y d (show k<=k+1 by omega) (show k+1<=m by omega),a4e,a4e];rw[a3n (d:=dk) (d':=swp dk (k+1) k) (a:=k+1+1) (b:=m+1) (λi hi _=>swp_other _ _ _ _ oM oM)];have h2:ext dk (k+1+1) (m+1)=ext d (k+1) m:=by
  have h3:=a9d (d:=d) (d':=dk) (a:=k+1+1) (b:=k+1) (n:=m-(k+1)) (λi hi=>by
   have:=i2 i oM;rw[show k+1+(m+1-m)+i=k+1+1+i by omega]at this;exact this)
  rw[show k+1+1+(m-(k+1))=m+1 by omega,show k+1+(m-(k+1))=m by omega]at h3;exact h3
 rw[h2]
structure SwR (a b n:Nat)(d d':Array α):Prop where
 size:d'.size=d.size
 lo:∀i,i<n->d'[a+i]! =d[b+i]!
 hi:∀i,i<n->d'[b+i]! =d[a+i]!
 out:∀i,(i<a\/a+n<=i)->(i<b\/b+n<=i)->d'[i]! =d[i]!
theorem SwR.zero (a b:Nat)(d:Array α):SwR a b 0 d d:=⟨rfl,λi h=>by omega,λi h=>by omega,λ_ _ _=>rfl⟩
theorem SwR.step {a b n:Nat}{d d':Array α}(h:SwR a b n d d')(bL:a+n<b)(hb:b+n<d.size):SwR a b (n+1) d (swp d' (a+n) (b+n)):=by
 have hs:=h.size;refine⟨by rw[size_swp,h.size],λi hi=> ?_,λi hi=> ?_,λi h1 h2=> ?_⟩
 ·by_cases e:i=n
  ·subst e
   rw[swp_left _ _ _ oM oM];exact h.out _ oM oM
  ·rw[swp_other _ _ _ _ oM oM]
   exact h.lo i oM
 ·by_cases e:i=n
  ·subst e
   rw[swp_right _ _ _ oM];exact h.out _ oM oM
  ·rw[swp_other _ _ _ _ oM oM]
   exact h.hi i oM
 ·rw[swp_other _ _ _ _ oM oM]
  exact h.out i oM oM
structure RoI (a m b i j:Nat)(d D:Array α):Prop where
 out:Out a b d D
 i0:a+i<=m
 j0:m+j<=b
 eq:ext D a (m-i)++((ext D m (m+j)++ext D (m-i) m)++ext D (m+j) b)=ext d m b++ext d a m
theorem RoI.start {a m b:Nat}(d:Array α)(h1:a<=m)(h2:m<=b):RoI a m b (m-a) (b-m) d d:=by
 refine⟨.refl _ _ _,oM,oM,?_⟩;rw[show m-(m-a)=a by omega,show m+(b-m)=b by omega,b7g d (yR a),b7g d (yR b)];simp
theorem SwR.outs {a b n x y:Nat}{d d':Array α}(h:SwR a b n d d')(hx:x<=a)(bL:a+n<=b)(hy:b+n<=y):Out x y d d' :=
 ⟨h.size,λi hi=>h.out i oM oM⟩
theorem SwR.ext_lo {a b n:Nat}{d d':Array α}(h:SwR a b n d d'):ext d' a (a+n)=ext d b (b+n):=a9d h.lo
theorem SwR.ext_hi {a b n:Nat}{d d':Array α}(h:SwR a b n d d'):ext d' b (b+n)=ext d a (a+n):=a9d h.hi
theorem SwR.ext_out {a b n x y:Nat}{d d':Array α}(h:SwR a b n d d')(h1:y<=a\/a+n<=x)(h2:y<=b\/b+n<=x):ext d' x y=ext d x y :=
 a3n λi hi hj=>h.out i oM oM
theorem RoI.left {a m b i j:Nat}{d D D':Array α}(h:RoI a m b i j d D)(ee:j<i)(hs:SwR (m-i) m j D D'):RoI a m b (i-j) j d D':=by
 obtain⟨ho,hi,hj,he⟩:=h;refine⟨ho.trans (hs.outs oM oM oM),oM,hj,?_⟩;rw[<-he];have e1:m-(i-j)=m-i+j:=oM;rw[e1,a0y D' (show a<=m-i by omega) (show m-i<=m-i+j by omega),hs.ext_lo,hs.ext_hi];rw[hs.ext_out (x:=a) (y:=m-i) oM oM,hs.ext_out (x:=m-i+j) (y:=m) oM oM,hs.ext_out (x:=m+j) (y:=b) oM oM];rw[a0y D (show m-i<=m-i+j by omega) (show m-i+j<=m by omega)];simp only[List.append_assoc]
theorem RoI.right {a m b i j:Nat}{d D D':Array α}(h:RoI a m b i j d D)(ee:i<j)(hs:SwR (m-i) (m+j-i) i D D'):RoI a m b i (j-i) d D':=by
 obtain⟨ho,hi,hj,he⟩:=h;refine⟨ho.trans (hs.outs oM oM oM),hi,oM,?_⟩;rw[<-he];have e1:m+(j-i)=m+j-i:=oM;have e2:m-i+i=m:=oM;have e3:m+j-i+i=m+j:=oM;have h1:=hs.ext_lo;have h2:=hs.ext_hi;rw[e2,e3]at h1 h2;rw[e1,a0y D' (show m+j-i<=m+j by omega) (show m+j<=b by omega),h1,h2];rw[hs.ext_out (x:=a) (y:=m-i) oM oM,hs.ext_out (x:=m) (y:=m+j-i) oM oM,hs.ext_out (x:=m+j) (y:=b) oM oM];rw[a0y D (show m<=m+j-i by omega) (show m+j-i<=m+j by omega)];simp only[List.append_assoc]
theorem RoI.done {a m b i:Nat}{d D D':Array α}(h:RoI a m b i i d D)(hs:SwR (m-i) m i D D'):Rot a m b d D':=by
 obtain⟨ho,hi,hj,he⟩:=h;refine⟨ho.trans (hs.outs oM oM oM),?_⟩;rw[<-he];have e2:m-i+i=m:=oM;have h1:=hs.ext_lo;have h2:=hs.ext_hi;rw[e2]at h1 h2;rw[a0y D' (show a<=m-i by omega) (show m-i<=b by omega),a0y D' (show m-i<=m by omega) (show m<=b by omega),a0y D' (show m<=m+i by omega) (show m+i<=b by omega),h1,h2];rw[hs.ext_out (x:=a) (y:=m-i) oM oM,hs.ext_out (x:=m+i) (y:=b) oM oM];simp only[List.append_assoc]
theorem d5e (hS:SWO lt){a b i:Nat}{d d1:Array α}(hR:SortedIn lt (a+1) b d)(hi:a+1<=i)(Qi:i<=b)
 (h1:i=a+1\/lt d[i-1]! d[a]! =true) (h2:i=b\/lt d[i]! d[a]! =false) (hr:Rot a (a+1) i d d1):Srt lt a b d d1:=by
 have g1:∀j,a+1<=j->j<i->lt d[j]! d[a]! =true:=λj hj ja=>by
  rcases h1 with h|h
  ·omega
  ·cases h4:lt d[j]! d[a]! with
   |true=>rfl
   |false =>
    have h5:lt d[i-1]! d[j]! =false:=by
     rcases Nat.lt_or_ge j (i-1)with h|h
     ·exact hR j _ hj h oM
     ·rw[show j=i-1 by omega];exact hS.irrefl _
    rw[hS.ntrans _ _ _ h5 h4]at h
    cases h
 have g2:∀j,i<=j->j<b->lt d[j]! d[a]! =false:=λj hj sE=>by
  rcases h2 with h|h
  ·omega
  ·have h5:lt d[j]! d[i]! =false:=by
    rcases Nat.lt_or_ge i j with h|h
    ·exact hR i _ hi h sE
    ·rw[show j=i by omega];exact hS.irrefl _
   exact hS.ntrans _ _ _ h5 h
 obtain⟨-,i2⟩:=hr.idx oM hi;have hx:d1[a+(i-(a+1))]! =d[a]! :=by
  have:=i2 0 oM;simpa using this
 obtain⟨⟨-,s2,-,s4⟩,hf⟩:=Cut.step hS (a:=a) (m:=a+1) (b:=b) (s:=a) (e:=i) (d:=d) (d1:=d1) (d2:=d1) (d3:=d1)
  ⟨yR _,oM,hi,Qi,λk j hk nc hj ja=>by rw[show k=a by omega];exact g1 j hj ja,λk j hk nc _ _=>by omega⟩
  (λp q _ _ _=>by omega) hR hr
 refine hf (a3s s2) (a3s λp q hp IG hq=> ?_);by_cases Qj:p=a+(i-(a+1))
 ·rw[Qj,hx,hr.out.2 q oM]
  exact g2 q oM hq
 ·exact s4 p q oM IG hq
theorem d0v (hS:SWO lt){a m i:Nat}{d d1:Array α}(hL:SortedIn lt a m d)(hi:a<=i)(tW:i<=m)
 (h1:i=a\/lt d[m]! d[i-1]! =false) (h2:i=m\/lt d[m]! d[i]! =true) (hr:Rot i m (m+1) d d1):Srt lt a (m+1) d d1:=by
 have g1:∀j,a<=j->j<i->lt d[m]! d[j]! =false:=λj hj ja=>by
  rcases h1 with h|h
  ·omega
  ·have h5:lt d[i-1]! d[j]! =false:=by
    rcases Nat.lt_or_ge j (i-1)with h|h
    ·exact hL j _ hj h oM
    ·rw[show j=i-1 by omega];exact hS.irrefl _
   exact hS.ntrans _ _ _ h h5
 have g2:∀j,i<=j->j<m->lt d[m]! d[j]! =true:=λj hj IC=>by
  rcases h2 with h|h
  ·omega
  ·cases h4:lt d[m]! d[j]! with
   |true=>rfl
   |false =>
    have h5:lt d[j]! d[i]! =false:=by
     rcases Nat.lt_or_ge i j with h|h
     ·exact hL i _ hi h IC
     ·rw[show j=i by omega];exact hS.irrefl _
    rw[hS.ntrans _ _ _ h4 h5]at h
    cases h
 obtain⟨i1,-⟩:=hr.idx tW oM;have hx:d1[i]! =d[m]! :=by
  have:=i1 0 oM;simpa using this
 obtain⟨⟨s1,-,s3,-⟩,hf⟩:=Cut.step hS (a:=a) (m:=m) (b:=m+1) (s:=i) (e:=m+1) (d:=d) (d1:=d1) (d2:=d1) (d3:=d1)
  ⟨hi,tW,oM,yR _,λk j hk nc hj ja=>by rw[show j=m by omega];exact g2 k hk nc,λk j _ _ _ _=>by omega⟩
  hL (λp q _ _ _=>by omega) hr
 refine hf (a3s λp q hp IG hq=> ?_) (a3s s3);by_cases jU:q=i
 ·rw[jU,hx,hr.out.2 p oM]
  exact g1 p hp oM
 ·exact s1 p q hp IG oM
/-! blocks of a size,each sorted -/
def Bks (lt:α->α->Bool)(s n:Nat)(d:Array α):Prop:=∀k,SortedIn lt (k*s) (min (k*s+s) n) d
theorem SortedIn.mono {a b a' b':Nat}{d:Array α}(h:SortedIn lt a b d)(ha:a<=a')(hb:b'<=b):SortedIn lt a' b' d:=λi j hi ee hj=>h i j oM ee oM
theorem SortedIn.outs {a b x y:Nat}{d d':Array α}(h:SortedIn lt a b d)(ho:Out x y d d')(Mw:b<=x\/y<=a):SortedIn lt a b d':=λi j hi ee hj=>by
 rw[ho.2 i oM,ho.2 j oM];exact h i j hi ee hj
theorem Srt.stb0 {a b n:Nat}{d0 d d':Array α}(h:Stb lt (ext d0 0 n) (ext d 0 n))(hs:Srt lt a b d d')(bL:a<=b)(hb:b<=n):Stb lt (ext d0 0 n) (ext d' 0 n) :=
 h.trans (hs.whole (Nat.zero_le _) bL hb)
structure InI (lt:α->α->Bool)(s a n:Nat)(d0 d:Array α):Prop where
 size:d.size=n
 stb:Stb lt (ext d0 0 n) (ext d 0 n)
 mul:∃t,a=t*s
 done:∀k,k*s<a->SortedIn lt (k*s) (k*s+s) d
theorem InI.start {s n:Nat}{d:Array α}(h:d.size=n):InI lt s 0 n d d:=⟨h,.refl _,⟨0,by simp⟩,λk hk=>by omega⟩
theorem a4z {k t s:Nat}(h:k*s<t*s+s)(av:k≠t):k*s+s<=t*s:=by
 have h1:k<t+1:=by
  rcases Nat.lt_or_ge k (t+1)with h2|h2
  ·exact h2
  ·have:=Nat.mul_le_mul_right s h2
   rw[Nat.succ_mul]at this;omega
 have:=Nat.mul_le_mul_right s (show k+1<=t by omega);rw[Nat.succ_mul]at this;exact this
theorem InI.step {s a n:Nat}{d0 d d':Array α}(h:InI lt s a n d0 d)(hb:a+s<=n)(hs:Srt lt a (a+s) d d'):InI lt s (a+s) n d0 d':=by
 obtain⟨hz,au,⟨t,rfl⟩,hd⟩:=h;refine⟨hs.out.1.trans hz,Srt.stb0 au hs oM hb,⟨t+1,by rw[Nat.succ_mul]⟩,λk hk=> ?_⟩;by_cases e:k=t
 ·subst e
  exact hs.asc
 ·have:=a4z hk e
  have tr:k*s<t*s:=by
   rcases Nat.eq_zero_or_pos s with h0|h0
   ·subst h0;simp at hk
   ·omega
  exact SortedIn.outs (hd k tr) hs.out (.inl this)
theorem InI.last {s a n:Nat}{d0 d d':Array α}(h:InI lt s a n d0 d)(tr:0<s)(ha:a<=n)(hb:n<a+s)(hs:Srt lt a n d d'):d'.size=n/\Stb lt (ext d0 0 n) (ext d' 0 n)/\Bks lt s n d':=by
 obtain⟨hz,au,⟨t,rfl⟩,hd⟩:=h;refine⟨hs.out.1.trans hz,Srt.stb0 au hs ha (yR _),λk=> ?_⟩;by_cases e:k=t
 ·subst e
  exact SortedIn.mono hs.asc (yR _) oM
 ·by_cases hk:k*s<t*s+s
  ·have:=a4z hk e
   exact SortedIn.mono (SortedIn.outs (hd k oM) hs.out (.inl this)) (yR _) oM
  ·intro i j hi ee hj
   omega
structure MrI (lt:α->α->Bool)(s a n:Nat)(d0 d:Array α):Prop where
 size:d.size=n
 stb:Stb lt (ext d0 0 n) (ext d 0 n)
 mul:∃t,a=t*(2*s)
 done:∀k,k*(2*s)<a->SortedIn lt (k*(2*s)) (k*(2*s)+2*s) d
 rest:∀k,a<=k*s->SortedIn lt (k*s) (min (k*s+s) n) d
theorem MrI.start {s n:Nat}{d0 d:Array α}(h:d.size=n)(au:Stb lt (ext d0 0 n) (ext d 0 n))(hb:Bks lt s n d):MrI lt s 0 n d0 d:=⟨h,au,⟨0,by simp⟩,λk hk=>by omega,λk _=>hb k⟩
theorem MrI.two {s a n:Nat}{d0 d:Array α}(h:MrI lt s a n d0 d):SortedIn lt a (min (a+s) n) d/\SortedIn lt (a+s) (min (a+2*s) n) d:=by
 obtain⟨-,-,⟨t,rfl⟩,-,hr⟩:=h;have e1:2*t*s=t*(2*s):=by rw[Nat.mul_comm 2 t,Nat.mul_assoc]
 have e2:(2*t+1)*s=t*(2*s)+s:=by rw[Nat.succ_mul,e1]
 have h1:=hr (2*t) oM;have h2:=hr (2*t+1) oM;rw[e1]at h1;rw[e2]at h2;exact⟨h1,by rw[show t*(2*s)+s+s=t*(2*s)+2*s by omega]at h2;exact h2⟩
theorem MrI.step {s a n:Nat}{d0 d d':Array α}(h:MrI lt s a n d0 d)(tr:0<s)(hb:a+2*s<=n)(hs:Srt lt a (a+2*s) d d'):MrI lt s (a+2*s) n d0 d':=by
 obtain⟨hz,au,⟨t,rfl⟩,hd,hr⟩:=h;refine⟨hs.out.1.trans hz,Srt.stb0 au hs oM hb,⟨t+1,(Nat.succ_mul t (2*s)).symm⟩,λk hk=> ?_,λk hk=>SortedIn.outs (hr k oM) hs.out (.inr hk)⟩;by_cases e:k=t
 ·subst e
  exact hs.asc
 ·have:=a4z hk e
  exact SortedIn.outs (hd k oM) hs.out (.inl this)
theorem MrI.last {s a n:Nat}{d0 d d':Array α}(h:MrI lt s a n d0 d)(tr:0<s)(ha:a<=n)(hb:n<a+2*s)(hs:Srt lt a n d d'):d'.size=n/\Stb lt (ext d0 0 n) (ext d' 0 n)/\Bks lt (2*s) n d':=by
 obtain⟨hz,au,⟨t,rfl⟩,hd,hr⟩:=h;refine⟨hs.out.1.trans hz,Srt.stb0 au hs ha (yR _),λk=> ?_⟩;by_cases e:k=t
 ·subst e
  exact SortedIn.mono hs.asc (yR _) oM
 ·by_cases hk:k*(2*s)<t*(2*s)+2*s
  ·have:=a4z hk e
   exact SortedIn.mono (SortedIn.outs (hd k oM) hs.out (.inl this)) (yR _) oM
  ·intro i j hi ee hj
   omega
theorem MrI.last0 {s a n:Nat}{d0 d:Array α}(h:MrI lt s a n d0 d)(tr:0<s)(ha:a<=n)(hb:n<=a+s):d.size=n/\Stb lt (ext d0 0 n) (ext d 0 n)/\Bks lt (2*s) n d :=
 h.last tr ha oM (a3s (SortedIn.mono h.two.1 (yR _) oM))
theorem d0w (hS:SWO lt){n s:Nat}{d0 d:Array α}(h0:d0.size=n)(hz:d.size=n)(au:Stb lt (ext d0 0 n) (ext d 0 n))(hb:Bks lt s n d)(hn:n<=s):d=insertionSort lt d0 0 n:=by
 obtain⟨ho,ha,hs⟩:=a2v hS d0 (Nat.zero_le n) oM;have h1:SortedIn lt 0 n d:=by
  have:=hb 0;rw[Nat.zero_mul,show min (0+s) n=n by omega]at this;exact this
 have h2:=Asc.unique hS (c3h.2 h1) (c3h.2 ha) (au.symm.trans hs);have e1:=b7h d;have e2:=b7h (insertionSort lt d0 0 n);rw[hz]at e1;rw[ho.1,h0]at e2;exact Array.toList_inj.1 (e1.symm.trans (h2.trans e2))
end
end
section
open Go.RowKit Go.Shelf Go.Lib Go.Sort
variable{c:Int}{N blk n off p q:Nat}{x y:Pc}{W w:Wd}
def swapG (W:Wd)(blk off p q:Nat)(d:Array Pc):World:=(W.setCells blk (off+p*7) (plE.enc d[q]!)).setCells blk (off+q*7) (plE.enc d[p]!)
theorem d0x {d:Array Pc}(h:RowP W blk off d)(hp:p<d.size)(hq:q<d.size):RowP (swapG W blk off p q d) blk off (swp d p q):=by
 have b:∀x,x<d.size->x*7+7<=d.size*7:=λx hx=>by omega
 have h1:=holds_setCells_c h (p*7) (plE.enc d[q]!) (by rw[size_flatK];exact b p hp);have h2:=holds_setCells_c h1 (q*7) (plE.enc d[p]!) (by rw[size_setMany,size_flatK];exact b q hq);unfold RowP HoldsK;rw[<-setMany_swp plE.enc 7 (λ_=>rfl) d p q hp hq];exact h2
theorem SoW.swapG {d:Array Pc}(h:SoW w blk off N n d W)(hp:p<n)(hq:q<n):SoW w blk off N n (swp d p q) (swapG W blk off p q d) :=
 ⟨d0x h.row (by rw[h.sz];exact hp) (by rw[h.sz];exact hq),RowB.setCells _ _ _ (RowB.setCells _ _ _ h.rb),a2p h.gr (a2p (a2b _ _ _ _) (a2b _ _ _ _)),by rw[size_swp];exact h.sz⟩
def SoX (w:Wd)(blk off N n:Nat)(R:Array Pc->Prop)(W:Wd):Prop:=∃d,SoW w blk off N n d W/\R d
theorem SoX.mk {R:Array Pc->Prop}{d:Array Pc}(h:SoW w blk off N n d W)(g:R d):SoX w blk off N n R W:=⟨d,h,g⟩
theorem b3q (blk off cap N n a b k:Nat)(d:Array Pc)(fv:Vu)(w0 w:Wd)(hW:SoW w0 blk off N n d w)(bL:a+k<=b)(lT:b+k<=n)(hn:n<=1000):
 Calls prog 206 #[.slice (some ⟨blk,off,none⟩) n cap,.int .i64 (a:Nat),.int .i64 (b:Nat),.int .i64 (k:Nat),fv] w λe w'=>e= .returned (.tuple #[])/\SoX w0 blk off N n (SwR a b k d) w':=by
 have mixed:prog.follows .mixedOrders=true:=by kernel_rfl
 have HW:Hid (SoW w0 blk off N n d w):=hW;have bu:=hW.sz;clear hW;go_enter func206,ntmps206;go_wp2_with fail;go_loopw [10] (λvi wr=>∃(i:Nat) (dk:Array Pc),vi= .int .i64 (i:Nat)/\i<=k/\Hid (SoW w0 blk off N n dk wr)/\Hid (SwR a b i d dk)) (λvi _=>k+1-(intOf vi).toNat)
 case atStart=>exact⟨0,d,rfl,oM,HW,Lib.hid (SwR.zero a b d)⟩
 case round =>
  obtain⟨i,dk,rfl,wZ,HR,HS⟩:=hrel;by_cases ag:i<k
  ·have aA:(i:Int)<(k:Int):=oM
   have qD:a+i<n:=oM;have Qk:b+i<n:=oM;obtain⟨xp,jH⟩:=zE (dk[a+i]!);obtain⟨xq,qS⟩:=zE (dk[b+i]!);have vH:=HR.out.sz;obtain⟨a0,a1,a2,a3,a4,a5,a6⟩:=jH▸HR.out.row.pc (j:=a+i) oM;obtain⟨b0,b1,b2,b3,b4,b5,b6⟩:=qS▸HR.out.row.pc (j:=b+i) oM;obtain⟨f0,f1,f2,f3,f4,f5,f6⟩:=HR.out.row.pf (j:=a+i) oM;obtain⟨g0,g1,g2,g3,g4,g5,g6⟩:=HR.out.row.pf (j:=b+i) oM;have HX:Hid (dk[a+i]! =xp/\dk[b+i]! =xq):=⟨jH,qS⟩;have Al:=Lib.hid (HR.out.swapG qD Qk);have Ql:=Lib.hid (HS.out.step oM oM);clear jH qS;obtain⟨i1,x1,y1,tD,n1,xw,d1⟩:=xp;obtain⟨i2,x2,y2,tE,n2,rY,d2⟩:=xq;have aE:IntKind.i64.wrap ((a:Int)+(i:Int))=(a:Int)+(i:Int):=by rw[IntKind.wrap_i64];omega
   have gQ:IntKind.i64.wrap ((b:Int)+(i:Int))=(b:Int)+(i:Int):=by rw[IntKind.wrap_i64];omega
   have dz:(0:Int)<=(a:Int)+(i:Int):=oM;have pM:(a:Int)+(i:Int)<(n:Int):=oM;have tO:(0:Int)<=(b:Int)+(i:Int):=oM;have nC:(b:Int)+(i:Int)<(n:Int):=oM;have i7:((a:Int)+(i:Int)).toNat=a+i:=oM;have tX:((b:Int)+(i:Int)).toNat=b+i:=oM;simp only at a0 a1 a2 a3 a4 a5 a6 b0 b1 b2 b3 b4 b5 b6;go_upto_region 3 with fail;go_big_region_o
   all_goals go_wp2_with fail
   go_roundw
   case rel =>
    refine⟨i+1,swp dk (a+i) (b+i),by go_num,oM,?_,Ql⟩;exact yed
   case measure=>exact yaz
  ·have iF:¬(i:Int)<(k:Int):=oM
   obtain rfl:i=k:=oM;go_wp2_with fail;go_end0;exact⟨rfl,.mk HR.out HS.out⟩
theorem c7l (blk off cap N n a m b:Nat)(d:Array Pc)(fv:Vu)(w0 w:Wd)(hW:SoW w0 blk off N n d w)(IB:a<m)(xE:m<b)(lT:b<=n)(hn:n<=1000):
 Calls prog 187 #[.slice (some ⟨blk,off,none⟩) n cap,.int .i64 (a:Nat),.int .i64 (m:Nat),.int .i64 (b:Nat),fv] w λe w'=>e= .returned (.tuple #[])/\SoX w0 blk off N n (Rot a m b d) w':=by
 have HW:Hid (SoW w0 blk off N n d w):=hW;clear hW;have aE:IntKind.i64.wrap ((m:Int)-(a:Int))=((m-a:Nat):Int):=by rw[IntKind.wrap_i64];omega
 have gQ:IntKind.i64.wrap ((b:Int)-(m:Int))=((b-m:Nat):Int):=by rw[IntKind.wrap_i64];omega
 go_enter func187,ntmps187;go_wp2_with fail;go_loopw [10,11] (λvi vj wr=>∃(i j:Nat) (dk:Array Pc),vi= .int .i64 (i:Nat)/\vj= .int .i64 (j:Nat)/\1<=i/\1<=j/\Hid (SoW w0 blk off N n dk wr)/\Hid (RoI a m b i j d dk)) (λvi vj _=>(intOf vi).toNat+(intOf vj).toNat)
 case atStart=>exact⟨m-a,b-m,d,by go_num,by go_num,oM,oM,HW,Lib.hid (RoI.start d oM oM)⟩
 case round =>
  obtain⟨i,j,dk,rfl,rfl,el,gC,HR,HI⟩:=hrel;have aT:=HI.out.i0;have fC:=HI.out.j0;have Qm:IntKind.i64.wrap ((m:Int)-(i:Int))=((m-i:Nat):Int):=by rw[IntKind.wrap_i64];omega
  rcases Nat.lt_trichotomy i j with ag|heq|hgt
  ·have av:¬(i:Int)=(j:Int):=oM
   have Uu:¬(j:Int)<(i:Int):=oM;have pY:IntKind.i64.wrap ((m:Int)+(j:Int))=(m:Int)+(j:Int):=by rw[IntKind.wrap_i64];omega
   have fI:IntKind.i64.wrap ((m:Int)+(j:Int)-(i:Int))=((m+j-i:Nat):Int):=by rw[IntKind.wrap_i64];omega
   have Qn:IntKind.i64.wrap ((j:Int)-(i:Int))=((j-i:Nat):Int):=by rw[IntKind.wrap_i64];omega
   have hc:=b3q blk off cap N n (m-i) (m+j-i) i dk fv w0 wr HR.out oM oM hn;go_wp2_with (first
    |(go_at_call 206;(with_reducible refine hc.mono ?_);rintro e w1⟨rfl,⟨d1,mI,cK⟩⟩))
   go_roundw
   case rel=>exact⟨i,j-i,d1,by go_num,by go_num,oM,oM,Lib.hid mI,Lib.hid (HI.out.right ag cK)⟩
   case measure=>exact yaz
  ·subst heq
   have hc:=b3q blk off cap N n (m-i) m i dk fv w0 wr HR.out oM oM hn;go_wp2_with (first
    |(go_at_call 206;(with_reducible refine hc.mono ?_);rintro e w1⟨rfl,⟨d1,mI,cK⟩⟩))
   go_end0;exact⟨rfl,.mk mI (HI.out.done cK)⟩
  ·have av:¬(i:Int)=(j:Int):=oM
   have Uv:(j:Int)<(i:Int):=oM;have Qn:IntKind.i64.wrap ((i:Int)-(j:Int))=((i-j:Nat):Int):=by rw[IntKind.wrap_i64];omega
   have hc:=b3q blk off cap N n (m-i) m j dk fv w0 wr HR.out oM oM hn;go_wp2_with (first
    |(go_at_call 206;(with_reducible refine hc.mono ?_);rintro e w1⟨rfl,⟨d1,mI,cK⟩⟩))
   go_roundw
   case rel=>exact⟨i-j,j,d1,by go_num,by go_num,oM,oM,Lib.hid mI,Lib.hid (HI.out.left hgt cK)⟩
   case measure=>exact yaz
theorem e2t {i j:Nat}(h:i<j):∃k:Nat,((i:Int)+(j:Int)) / 2=(k:Int)/\i<=k/\k<j:=⟨(i+j) / 2,oM,oM,oM⟩
theorem d0y (h:a1o x y=c)(hc:¬c<0):ltOf a1o x y=false:=by
 cases h1:ltOf a1o x y with
 |false=>rfl
 |true=>exact absurd ((d3s x y).1 h1) (by rw[h];exact hc)
theorem d0z (h:a1o x y=c)(hc:c<0):ltOf a1o x y=true:=(d3s x y).2 (by rw[h];exact hc)
theorem d5f (blk off cap N n a m b:Nat)(d:Array Pc)(w0 w:Wd)(hW:SoW w0 blk off N n d w)(hm:m=a+1)(xE:m<b)(lT:b<=n)(hn:n<=1000)(hR:SortedIn (ltOf a1o) m b d):
 Calls prog 171 #[.slice (some ⟨blk,off,none⟩) n cap,.int .i64 (a:Nat),.int .i64 (m:Nat),.int .i64 (b:Nat),.func (.func 103) #[] #[]] w λe w'=>e= .returned (.tuple #[])/\SoX w0 blk off N n (Srt (ltOf a1o) a b d) w':=by
 have mixed:prog.follows .mixedOrders=true:=by kernel_rfl
 have HW:Hid (SoW w0 blk off N n d w):=hW;have HR:=Lib.hid hR;have bu:=hW.sz;clear hW hR;have aE:IntKind.i64.wrap ((m:Int)-(a:Int))=1:=by rw[IntKind.wrap_i64];omega
 have qa:((m:Int)-(a:Int))=1:=oM;have yb:(a:Int)<(n:Int):=oM;replace hm:=Lib.hid hm;go_enter func171,ntmps171;go_wp2_with fail;go_loopw [10,11] (λvi vj wr=>∃(i j:Nat),vi= .int .i64 (i:Nat)/\vj= .int .i64 (j:Nat)/\m<=i/\i<=j/\j<=b/\Hid (SoW w0 blk off N n d wr)/\Hid (i=m\/ltOf a1o d[i-1]! d[a]! =true)/\Hid (j=b\/ltOf a1o d[j]! d[a]! =false)) (λvi vj _=>(intOf vj).toNat-(intOf vi).toNat)
 case atStart=>exact⟨m,b,rfl,rfl,oM,oM,oM,HW,Lib.hid (.inl rfl),Lib.hid (.inl rfl)⟩
 case round =>
  obtain⟨i,j,rfl,rfl,el,ee,sE,HS,HL,HH⟩:=hrel;by_cases ag:i<j
  ·have aA:(i:Int)<(j:Int):=oM
   go_upto_region 5 with fail;obtain⟨h,hh,My,Mz⟩:=e2t ag;rw[hh];clear hh aA;have MA:(h:Int)<(n:Int):=oM;have vH:=HS.out.sz;have vI:=hm.out;obtain⟨xh,qT⟩:=zE (d[h]!);obtain⟨xa,nV⟩:=zE (d[a]!);obtain⟨a0,a1,a2,a3,a4,a5,a6⟩:=qT▸HS.out.row.pc (j:=h) oM;obtain⟨b0,b1,b2,b3,b4,b5,b6⟩:=nV▸HS.out.row.pc (j:=a) oM;have HX:Hid (d[h]! =xh/\d[a]! =xa):=⟨qT,nV⟩;obtain⟨cv,fL⟩:=zE (a1o xh xa);have j8:∀W,Zc prog 103 #[plV xh,plV xa] W (.int .i64 cv):=λW=>by rw[<-fL];exact a6m xh xa W
   have HC:Hid (a1o xh xa=cv):=fL;clear qT nV fL vI;obtain⟨i1,x1,y1,tD,n1,xw,d1⟩:=xh;obtain⟨i2,x2,y2,tE,n2,rY,d2⟩:=xa;simp only at a0 a1 a2 a3 a4 a5 a6 b0 b1 b2 b3 b4 b5 b6;by_cases aJ:cv<0
   ·refine zR2 λp=> ?_
    go_wp2_with fail;go_roundw
    case rel=>exact⟨h+1,j,by go_num,rfl,oM,oM,sE,HS.out.below (below_growBy _ _),Lib.hid (.inr (by show ltOf a1o d[h]! d[a]! =true;rw[HX.out.1,HX.out.2];exact d0z HC.out aJ)),HH⟩
    case measure=>exact yaz
   ·refine zR2 λp=> ?_
    go_wp2_with fail;go_roundw
    case rel=>exact⟨i,h,rfl,by go_num,oM,oM,oM,HS.out.below (below_growBy _ _),HL,Lib.hid (.inr (by rw[HX.out.1,HX.out.2];exact d0y HC.out aJ))⟩
    case measure=>exact yaz
  ·have iF:¬(i:Int)<(j:Int):=oM
   obtain rfl:i=j:=oM;have vI:=hm.out;have FT:IntKind.i64.wrap ((i:Int)-1)=(i:Int)-1:=by rw[IntKind.wrap_i64];omega
   go_wp2_with fail;go_loopw [13] (λvk wr=>∃(k:Nat) (dk:Array Pc),vk= .int .i64 (k:Nat)/\a<=k/\k+1<=i/\Hid (SoW w0 blk off N n dk wr)/\Hid (Rot a (a+1) (k+1) d dk)) (λvk _=>i-(intOf vk).toNat)
   case atStart=>exact⟨a,d,rfl,oM,oM,HS,Lib.hid (Rot.none (.inr rfl) oM oM)⟩
   case round =>
    obtain⟨k,dk,rfl,Qo,Lt,HK,HO⟩:=hrel;by_cases aR:k+1<i
    ·have kt:(k:Int)<(i:Int)-1:=oM
     obtain⟨xp,jH⟩:=zE (dk[k]!);obtain⟨xq,qS⟩:=zE (dk[k+1]!);have vH:=HK.out.sz;obtain⟨a0,a1,a2,a3,a4,a5,a6⟩:=jH▸HK.out.row.pc (j:=k) oM;obtain⟨b0,b1,b2,b3,b4,b5,b6⟩:=qS▸HK.out.row.pc (j:=k+1) oM;obtain⟨f0,f1,f2,f3,f4,f5,f6⟩:=HK.out.row.pf (j:=k) oM;obtain⟨g0,g1,g2,g3,g4,g5,g6⟩:=HK.out.row.pf (j:=k+1) oM;have HX:Hid (dk[k]! =xp/\dk[k+1]! =xq):=⟨jH,qS⟩;have Al:=Lib.hid (HK.out.swapG (p:=k) (q:=k+1) oM oM);have IH:=Lib.hid (HO.out.right Qo oM);clear jH qS;obtain⟨i1,x1,y1,tD,n1,xw,d1⟩:=xp;obtain⟨i2,x2,y2,tE,n2,rY,d2⟩:=xq;have gQ:IntKind.i64.wrap ((k:Int)+1)=(k:Int)+1:=by rw[IntKind.wrap_i64];omega
     have pM:(k:Int)<(n:Int):=oM;have tO:(0:Int)<=(k:Int)+1:=oM;have nC:(k:Int)+1<(n:Int):=oM;have tX:((k:Int)+1).toNat=k+1:=oM;simp only at a0 a1 a2 a3 a4 a5 a6 b0 b1 b2 b3 b4 b5 b6;clear vI qa aE;go_upto_region 11 with fail;go_big_region_o
     all_goals go_wp2_with fail
     go_roundw
     case rel =>
      refine⟨k+1,swp dk k (k+1),by go_num,oM,oM,?_,IH⟩;exact yed
     case measure=>exact yaz
    ·have kt:¬(k:Int)<(i:Int)-1:=oM
     have II:=HR.out;rw[vI]at II;have cI:=Lib.hid (d5e swoP II (d1:=dk) (show a+1<=k+1 by omega) (show k+1<=b by omega) (by rw[show k+1=i by omega];rw[<-vI];exact HL.out) (by rw[show k+1=i by omega];exact HH.out) HO.out);clear II;exact yiz
theorem d5g (blk off cap N n a m b:Nat)(d:Array Pc)(w0 w:Wd)(hW:SoW w0 blk off N n d w)(hm:b=m+1)(IB:a+1<m)(lT:b<=n)(hn:n<=1000)(hL:SortedIn (ltOf a1o) a m d):
 Calls prog 171 #[.slice (some ⟨blk,off,none⟩) n cap,.int .i64 (a:Nat),.int .i64 (m:Nat),.int .i64 (b:Nat),.func (.func 103) #[] #[]] w λe w'=>e= .returned (.tuple #[])/\SoX w0 blk off N n (Srt (ltOf a1o) a b d) w':=by
 have mixed:prog.follows .mixedOrders=true:=by kernel_rfl
 have HW:Hid (SoW w0 blk off N n d w):=hW;have HR:=Lib.hid hL;have bu:=hW.sz;clear hW hL;have aE:IntKind.i64.wrap ((b:Int)-(m:Int))=1:=by rw[IntKind.wrap_i64];omega
 have qa:((b:Int)-(m:Int))=1:=oM;have wM:IntKind.i64.wrap ((m:Int)-(a:Int))=(m:Int)-(a:Int):=by rw[IntKind.wrap_i64];omega
 have gQ:¬((m:Int)-(a:Int))=1:=oM;have Mq:(m:Int)<(n:Int):=oM;replace hm:=Lib.hid hm;go_enter func171,ntmps171;go_wp2_with fail;go_loopw [14,15] (λvi vj wr=>∃(i j:Nat),vi= .int .i64 (i:Nat)/\vj= .int .i64 (j:Nat)/\a<=i/\i<=j/\j<=m/\Hid (SoW w0 blk off N n d wr)/\Hid (i=a\/ltOf a1o d[m]! d[i-1]! =false)/\Hid (j=m\/ltOf a1o d[m]! d[j]! =true)) (λvi vj _=>(intOf vj).toNat-(intOf vi).toNat)
 case atStart=>exact⟨a,m,rfl,rfl,oM,oM,oM,HW,Lib.hid (.inl rfl),Lib.hid (.inl rfl)⟩
 case round =>
  obtain⟨i,j,rfl,rfl,el,ee,sE,HS,HL,HH⟩:=hrel;by_cases ag:i<j
  ·have aA:(i:Int)<(j:Int):=oM
   go_upto_region 17 with fail;obtain⟨h,hh,My,Mz⟩:=e2t ag;rw[hh];clear hh aA;have MA:(h:Int)<(n:Int):=oM;have vH:=HS.out.sz;obtain⟨xh,qT⟩:=zE (d[h]!);obtain⟨xa,nV⟩:=zE (d[m]!);obtain⟨a0,a1,a2,a3,a4,a5,a6⟩:=qT▸HS.out.row.pc (j:=h) oM;obtain⟨b0,b1,b2,b3,b4,b5,b6⟩:=nV▸HS.out.row.pc (j:=m) oM;have HX:Hid (d[h]! =xh/\d[m]! =xa):=⟨qT,nV⟩;obtain⟨cv,fL⟩:=zE (a1o xa xh);have j8:∀W,Zc prog 103 #[plV xa,plV xh] W (.int .i64 cv):=λW=>by rw[<-fL];exact a6m xa xh W
   have HC:Hid (a1o xa xh=cv):=fL;clear qT nV fL;obtain⟨i1,x1,y1,tD,n1,xw,d1⟩:=xh;obtain⟨i2,x2,y2,tE,n2,rY,d2⟩:=xa;simp only at a0 a1 a2 a3 a4 a5 a6 b0 b1 b2 b3 b4 b5 b6;by_cases aJ:cv<0
   ·refine zR2 λp=> ?_
    go_wp2_with fail;go_roundw
    case rel=>exact⟨i,h,rfl,by go_num,oM,oM,oM,HS.out.below (below_growBy _ _),HL,Lib.hid (.inr (by rw[HX.out.1,HX.out.2];exact d0z HC.out aJ))⟩
    case measure=>exact yaz
   ·refine zR2 λp=> ?_
    go_wp2_with fail;go_roundw
    case rel=>exact⟨h+1,j,by go_num,rfl,oM,oM,sE,HS.out.below (below_growBy _ _),Lib.hid (.inr (by show ltOf a1o d[m]! d[h]! =false;rw[HX.out.1,HX.out.2];exact d0y HC.out aJ)),HH⟩
    case measure=>exact yaz
  ·have iF:¬(i:Int)<(j:Int):=oM
   obtain rfl:i=j:=oM;go_wp2_with fail;go_loopw [17] (λvk wr=>∃(k:Nat) (dk:Array Pc),vk= .int .i64 (k:Nat)/\i<=k/\k<=m/\Hid (SoW w0 blk off N n dk wr)/\Hid (Rot k m (m+1) d dk)) (λvk _=>(intOf vk).toNat)
   case atStart=>exact⟨m,d,rfl,oM,oM,HS,Lib.hid (Rot.none (.inl rfl) oM oM)⟩
   case round =>
    obtain⟨k,dk,rfl,wZ,nG,HK,HO⟩:=hrel;by_cases aR:i<k
    ·obtain⟨k,rfl⟩:∃kp,k=kp+1:=⟨k-1,oM⟩
     have kt:(i:Int)<(k:Int)+1:=oM;obtain⟨xp,jH⟩:=zE (dk[k+1]!);obtain⟨xq,qS⟩:=zE (dk[k]!);have vH:=HK.out.sz;obtain⟨a0,a1,a2,a3,a4,a5,a6⟩:=jH▸HK.out.row.pc (j:=k+1) oM;obtain⟨b0,b1,b2,b3,b4,b5,b6⟩:=qS▸HK.out.row.pc (j:=k) oM;obtain⟨f0,f1,f2,f3,f4,f5,f6⟩:=HK.out.row.pf (j:=k+1) oM;obtain⟨g0,g1,g2,g3,g4,g5,g6⟩:=HK.out.row.pf (j:=k) oM;have HX:Hid (dk[k+1]! =xp/\dk[k]! =xq):=⟨jH,qS⟩;have Al:=Lib.hid (HK.out.swapG (p:=k+1) (q:=k) oM oM);have vI:=hm.out;have IH:=Lib.hid (HO.out.left oM oM);clear jH qS vI;obtain⟨i1,x1,y1,tD,n1,xw,d1⟩:=xp;obtain⟨i2,x2,y2,tE,n2,rY,d2⟩:=xq;have Fq:IntKind.i64.wrap (k:Int)=(k:Int):=by rw[IntKind.wrap_i64];omega
     have pM:(k:Int)<(n:Int):=oM;have tO:(0:Int)<=(k:Int)+1:=oM;have nC:(k:Int)+1<(n:Int):=oM;have tX:((k:Int)+1).toNat=k+1:=oM;simp only at a0 a1 a2 a3 a4 a5 a6 b0 b1 b2 b3 b4 b5 b6;clear qa aE gQ wM;go_upto_region 23 with fail;go_big_region_o
     all_goals go_wp2_with fail
     go_roundw
     case rel =>
      refine⟨k,swp dk (k+1) k,by go_num,oM,oM,?_,IH⟩;exact yed
     case measure=>exact yaz
    ·have kt:¬(i:Int)<(k:Int):=oM
     obtain rfl:i=k:=oM;have cI:=d0v swoP HR.out (d1:=dk) el nG HL.out HH.out HO.out;rw[<-hm.out]at cI;replace cI:=Lib.hid cI;exact yiz
end
end Go.Proofs.YtfocdbjceedagaaGreatDoor
