/-
  Parts.
-/
import Derived.Test.YtfocdbjceedagaaGreatDoorMas
import Derived.Test.YtfocdbjceedagaaGreatDoorMaw
set_option linter.unusedVariables false
set_option linter.unusedSimpArgs false
set_option maxHeartbeats 4000000
set_option maxRecDepth 100000
namespace Go.Proofs.YtfocdbjceedagaaGreatDoor
open Tryz
section
open Go Go.RowKit Go.Shelf Go.Lib
attribute [local go_sem] Oper.semAt_some
attribute [local go_sem ↓] Go.wp_at_zero Go.wp_at_succ
variable{g:Int}{l:List Dt}
def b5a (g:Int)(l:List Dt)(k:Nat):Bool:=match l[k]? with|some a=>(l.take k).all λb=>okW g a b|none=>true
def c2u (g:Int)(l:List Dt):Bool:=(List.range l.length).all (b5a g l)
theorem d3k (h:∀k,k<l.length->b5a g l k=true):c2u g l=true:=List.all_eq_true.2 λk hk=>h k (List.mem_range.1 hk)
theorem d3l {k j:Nat}{a b:Dt}(hk:l[k]? =some a)(hj:l[j]? =some b)(hjk:j<k)(h:okW g a b=false):c2u g l=false:=by
 cases hg:c2u g l with
 |false=>rfl
 |true =>
  have h1:=List.all_eq_true.1 hg k (List.mem_range.2 (List.getElem?_eq_some_iff.1 hk).1);unfold b5a at h1;rw[hk]at h1;have h2:=List.all_eq_true.1 h1 b (List.mem_iff_getElem?.2 ⟨j,by rw[List.getElem?_take];simp[hjk,hj]⟩);rw[h]at h2
  cases h2
theorem d3m (s:Sh)(dv kv lv:Value)(l:List Dt)(w:World)(hd:Lst dtE w.heap.size w dv l)(hl:l.length<=100000):
 Calls prog 49 #[shV s,a3s dv kv lv] w λe w'=>(c2u s.g l=true/\e= .returned (.tuple #[])\/c2u s.g l=false/\e= .panicked (c2s 41))/\Below w.heap.size w w':=by
 obtain⟨da,dc,rfl,-⟩:=hd.form;go_enter func49,ntmps49;go_upto_region 1 with fail;have k2:=(Blk.new w #[.int .i64 s.ax,.int .i64 s.ay,.int .i64 s.st,.int .i64 s.w,.int .i64 s.h,.int .i64 s.g] 28).alloc (.cells #[.slice da l.length dc,kv,lv] 45);have k3:=Blk.new (w.alloc (.cells #[.int .i64 s.ax,.int .i64 s.ay,.int .i64 s.st,.int .i64 s.w,.int .i64 s.h,.int .i64 s.g] 28)) #[.slice da l.length dc,kv,lv] 45;have hb:Below w.heap.size w ((w.alloc (.cells #[.int .i64 s.ax,.int .i64 s.ay,.int .i64 s.st,.int .i64 s.w,.int .i64 s.h,.int .i64 s.g] 28)).alloc (.cells #[.slice da l.length dc,kv,lv] 45)):=zC;rw[World.size_alloc]at k3;obtain⟨W,hW⟩:=zE ((w.alloc (.cells #[.int .i64 s.ax,.int .i64 s.ay,.int .i64 s.st,.int .i64 s.w,.int .i64 s.h,.int .i64 s.g] 28)).alloc (.cells #[.slice da l.length dc,kv,lv] 45));rw[hW]at k2 k3 hb ⊢;clear hW;have hdW:=hd.up hb;have c0:W.cell? ⟨w.heap.size+1,0,none⟩=some (.slice da l.length dc):=k3.cell 0;go_wp2_with fail;clear c0;go_loopw [11] (λkk wr=>∃k:Nat,k<=l.length/\kk= .int .i64 (k:Nat)/\(∀j,j<k->b5a s.g l j=true)/\Below W.heap.size W wr) (λkk _=>l.length-(intOf kk).toNat)
 case atStart=>exact⟨0,Nat.zero_le _,rfl,λj hj=>absurd hj oM,zR _ _⟩
 case round =>
  obtain⟨k,hk,rfl,hall,hbr⟩:=hrel;by_cases hlt:k<l.length
  ·have hltI:(k:Int)<(l.length:Int):=oM
   have hdr:=hdW.up hbr;obtain⟨b,off,cap,hv,hcap,hlb,hc⟩:=hdr.some_ oM;simp only[Value.slice.injEq,true_and]at hv;obtain⟨rfl,rfl⟩:=hv;obtain⟨a,ha⟩:=zE (l[k]);have hck:=hc k hlt;rw[ha]at hck;have d0:wr.cell? ⟨b,off+k*4,none⟩=some (.int .i64 a.x):=hck 0 (show 0<4 by decide);have d1:wr.cell? ⟨b,off+k*4+1,none⟩=some (.int .i64 a.y):=hck 1 (show 1<4 by decide);have d2:wr.cell? ⟨b,off+k*4+2,none⟩=some (.int .i64 a.k):=hck 2 (show 2<4 by decide);have d3:wr.cell? ⟨b,off+k*4+3,none⟩=some (.int .i64 a.i):=hck 3 (show 3<4 by decide);have c0:wr.cell? ⟨w.heap.size+1,0,none⟩=some (.slice (some ⟨b,off,none⟩) l.length dc):=(k3.below hbr k3.lt).cell 0;have hk0:(0:Int)<=(k:Int):=oM;have hkc:(k:Int)<=(dc:Int):=oM;clear hck hc;go_wp2_with fail;have kA:=Blk.new wr #[.int .i64 a.x,.int .i64 a.y,.int .i64 a.k,.int .i64 a.i] 54;have hbA:Below W.heap.size W (wr.alloc (.cells #[.int .i64 a.x,.int .i64 a.y,.int .i64 a.k,.int .i64 a.i] 54)):=hbr.alloc hbr.size _;obtain⟨WA,hWA⟩:=zE (wr.alloc (.cells #[.int .i64 a.x,.int .i64 a.y,.int .i64 a.k,.int .i64 a.i] 54));rw[hWA]at kA hbA ⊢;obtain⟨BA,hBA⟩:=zE wr.heap.size;rw[hBA]at kA ⊢;clear hWA hBA d0 d1 d2 d3 c0 hdr hlb hbr;go_loopw [21] (λjj wi=>∃j:Nat,j<=k/\jj= .int .i64 (j:Nat)/\(∀(i:Nat) (x:Dt),i<j->l[i]? =some x->okW s.g a x=true)/\Below WA.heap.size WA wi) (λjj _=>k-(intOf jj).toNat)
   case atStart=>exact⟨0,Nat.zero_le _,rfl,λi x hi=>absurd hi oM,zR _ _⟩
   case round =>
    obtain⟨j,hj,rfl,halj,hbi⟩:=hrel;by_cases hjk:j<k
    ·have hjI:(j:Int)<(k:Int):=oM
     have hbW:Below W.heap.size W wr:=hbA.trans (hbi.mono hbA.size);have hdi:=hdW.up hbW;obtain⟨b',off',cap',hv,-,-,hc⟩:=hdi.some_ oM;simp only[Value.slice.injEq,Option.some.injEq,Addr.mk.injEq,and_true,true_and]at hv;obtain⟨⟨rfl,rfl⟩,rfl⟩:=hv;have hjl:j<l.length:=oM;obtain⟨x,hx⟩:=zE (l[j]);have hcj:=hc j hjl;rw[hx]at hcj;have e0:wr.cell? ⟨b,off+j*4,none⟩=some (.int .i64 x.x):=hcj 0 (show 0<4 by decide);have e1:wr.cell? ⟨b,off+j*4+1,none⟩=some (.int .i64 x.y):=hcj 1 (show 1<4 by decide);have e2:wr.cell? ⟨b,off+j*4+2,none⟩=some (.int .i64 x.k):=hcj 2 (show 2<4 by decide);have e3:wr.cell? ⟨b,off+j*4+3,none⟩=some (.int .i64 x.i):=hcj 3 (show 3<4 by decide);have kA':=kA.below hbi kA.lt;obtain⟨a0,a1,a2,a3⟩:=zN4 kA';have s5:wr.cell? ⟨w.heap.size,5,none⟩=some (.int .i64 s.g):=(k2.below hbW k2.lt).cell 5;have hN:=b4k a x s.g;have hlj:l[j]? =some x:=by rw[List.getElem?_eq_getElem hjl,hx]
     have hlk:l[k]? =some a:=by rw[List.getElem?_eq_getElem hlt,ha]
     obtain⟨nr,hnr⟩:=zE (a7d s.g a x);rw[hnr]at hN;have hnx:∀ {W':World},okW s.g a x=true->Below wr.heap.size wr W'->∃i:Nat,i<=k/\((.int .i64 ((j+1:Nat):Int):Value))= .int .i64 (i:Nat)/\(∀(i':Nat) (x:Dt),i'<i->l[i']? =some x->okW s.g a x=true)/\Below WA.heap.size WA W':=λ{W'} ho hb'=>⟨j+1,oM,rfl,λi' y hi' hy=>by
      by_cases he:i'=j
      ·subst he
       rw[hlj]at hy
       cases hy;exact ho
      ·exact halj i' y oM hy,hbi.trans (hb'.mono hbi.size)⟩
     clear hcj hc kA' hdi;by_cases hfree:a.k≠3/\x.k≠3
     ·have h1:(a.k != 3)=true:=by simpa using hfree.1
      have h2:(x.k != 3)=true:=by simpa using hfree.2
      have ho:okW s.g a x=true:=by unfold okW;simp[hfree.1,hfree.2]
      clear hN hnr;go_wp2_with (first
       |(go_at_call 106;go_loud (refine(a3d 41 _).mono ?_);rintro e w9⟨rfl,rfl⟩))
      go_roundw
      case rel=>exact hnx ho zC
      case measure=>simp[intOf];omega
     ·have hfr:a.k=3\/x.k=3:=oM
      have hoT:nr=false->okW s.g a x=true:=λh=>by unfold okW;rw[hnr,h];simp
      have hoF:nr=true->okW s.g a x=false:=λh=>by unfold okW;rw[hnr,h];simp;exact λh=>hfr.resolve_left h
      clear hnr hfree;by_cases ha3:a.k=3
      ·have h1:(a.k != 3)=false:=by simpa using ha3
       exact yas
      ·have h1:(a.k != 3)=true:=by simpa using ha3
       have h2:(x.k != 3)=false:=by simpa using hfr.resolve_left ha3
       exact yas
    ·obtain rfl:j=k:=oM
     have hge:¬(j:Int)<(j:Int):=oM;go_wp2_with fail;go_roundw
     case rel =>
      refine⟨j+1,oM,by go_num,λi hi=> ?_,hbA.trans (hbi.mono hbA.size)⟩;by_cases he:i=j
      ·subst he
       unfold b5a;rw[List.getElem?_eq_getElem hlt,ha];refine List.all_eq_true.2 λx hx=> ?_
       obtain⟨i',hi'⟩:=List.mem_iff_getElem?.1 hx;rw[List.getElem?_take]at hi';split at hi'
       ·exact halj i' x gM hi'
       ·cases hi'
      ·exact hall i oM
     case measure=>simp[intOf];omega
  ·obtain rfl:k=l.length:=oM
   have hge:¬(l.length:Int)<(l.length:Int):=oM;go_wp2_with fail;refine⟨rfl,_,results_none rfl _ _ _,.inl ⟨d3k hall,rfl⟩,hb.trans (hbr.mono hb.size)⟩
theorem c6j (a b:ByteArray):(a.toList=b.toList)=(a=b):=by
 rw[ByteArray.toList_eq,ByteArray.toList_eq];refine propext ⟨λh=> ?_,λh=>by rw[h]⟩
 cases a
 cases b;simp only at h;rw[Array.toList_inj.1 h]
theorem b9n {α:Type} [DecidableEq α]:∀l m:List α,Lib.allEq (λa b=>decide (a=b)) l m=decide (l=m)
 |[],[]=>by simp[Lib.allEq]
 |[],y::m=>by simp[Lib.allEq]
 |x::l,[]=>by simp[Lib.allEq]
 |x::l,y::m=>by
  have:=b9n l m;by_cases h:x=y <;> simp[Lib.allEq,this,h]
theorem c2v {α:Type}[DecidableEq α]{l m:List α}(h:l.length≠m.length):decide (l=m)=false:=decide_eq_false λe=>h (by rw[e])
theorem d9y (x1 y1 k1 i1:Int)(x2 y2 k2 i2:Int)(w:World):(binOp .neq 54 (.agg #[.int .i64 x1,.int .i64 y1,.int .i64 k1,.int .i64 i1]) (.agg #[.int .i64 x2,.int .i64 y2,.int .i64 k2,.int .i64 i2])).run prog w= .ok (.bool (!decide ((⟨x1,y1,k1,i1⟩:Dt)=⟨x2,y2,k2,i2⟩))) w:=by
 have u3:=underlying3;have a3:=isAgg3;have z3:=sizeOf3;have hS:prog.underlying 54=some (.struct (prog.fieldsOf 54)):=by kernel_rfl
 have hp:prog.stoodInHeld 54=false:=by kernel_rfl
 rw[run_neq_struct,show(10000:Nat)=9999+1 from rfl,run_equalIn_agg w 9999 54 _ _ hS hp];simp only[Program.fieldsOf,underlying54];clear hS;go_simp;by_cases h0:x1=x2 <;> by_cases h1:y1=y2 <;> by_cases h2:k1=k2 <;> by_cases h3:i1=i2 <;> simp[h0,h1,h2,h3]
theorem d6s:NeqAt prog 54 (λx:Dt=> .agg (dtE.enc x).toArray) (λa b=>decide (a=b)):=by
 refine⟨λa b w=> ?_,λop p q a b w=>run_eqGuard_agg w op 54 p q _ _ zM⟩;obtain⟨x1,y1,k1,i1⟩:=a;obtain⟨x2,y2,k2,i2⟩:=b;exact d9y x1 y1 k1 i1 x2 y2 k2 i2 w
theorem d8n (a1 a2:Option Addr)(n c m d:Nat)(w:World)(h:n≠m\/n=0):
 Calls prog 56 #[.slice a1 n c,.slice a2 m d] w λe w'=>e= .returned (.bool (decide (n=m)))/\Below w.heap.size w w':=by
 by_cases hnm:n=m
 ·subst hnm
  obtain rfl:=h.resolve_left vM;go_enter func56,ntmps56;exact ygz
 ·have hne:((n:Int) != (m:Int))=true:=by simp;omega
  rw[decide_eq_false hnm];go_enter func56,ntmps56;exact yed
theorem d8o (v1 v2:Value)(l1 l2:List Dt)(w:World)(h1:Lst dtE w.heap.size w v1 l1)(h2:Lst dtE w.heap.size w v2 l2):
 Calls prog 56 #[v1,v2] w λe w'=>e= .returned (.bool (decide (l1=l2)))/\Below w.heap.size w w':=by
 obtain⟨a1,c1,rfl,-⟩:=h1.form;obtain⟨a2,c2,rfl,-⟩:=h2.form;by_cases hc:l1.length≠l2.length\/l1.length=0
 ·have:=d8n a1 a2 l1.length c1 l2.length c2 w hc
  exact ybu
 ·have he:l1.length=l2.length:=oM
  have h0:0<l1.length:=oM;obtain⟨b1,o1,d1,e1,-,-,k1⟩:=h1.some_ h0;obtain⟨b2,o2,d2,e2,-,-,k2⟩:=h2.some_ oM;simp only[Value.slice.injEq,true_and]at e1 e2;obtain⟨rfl,rfl⟩:=e1;obtain⟨rfl,rfl⟩:=e2;have hn1:=h1.len;have hn2:=h2.len;refine(AnyQ.slices_Equal Tryz.equalDt 4 isAgg54 sizeOf54 dtE.enc (λ_=>rfl) (λa b=>decide (a=b)) d6s b1 o1 l1.length c1 b2 o2 l2.length c2 l1 l2 w (yR _) (yR _) oM oM (a3p h1 (λ_=>rfl)) (a3p h2 (λ_=>rfl))).mono ?_;exact yet
theorem d9z (n1 p1:Int)(c1:ByteArray)(n2 p2:Int)(c2:ByteArray)(w:World):(binOp .neq 82 (.agg #[.int .i64 n1,.int .i64 p1,.string c1]) (.agg #[.int .i64 n2,.int .i64 p2,.string c2])).run prog w= .ok (.bool (!decide ((⟨n1,p1,c1⟩:Ke)=⟨n2,p2,c2⟩))) w:=by
 have u3:=underlying3;have a3:=isAgg3;have z3:=sizeOf3;have u9:=underlying9;have a9:=isAgg9;have z9:=sizeOf9;have hS:prog.underlying 82=some (.struct (prog.fieldsOf 82)):=by kernel_rfl
 have hp:prog.stoodInHeld 82=false:=by kernel_rfl
 rw[run_neq_struct,show(10000:Nat)=9999+1 from rfl,run_equalIn_agg w 9999 82 _ _ hS hp];simp only[Program.fieldsOf,underlying82];clear hS;go_simp;by_cases h0:n1=n2 <;> by_cases h1:p1=p2 <;> by_cases h2:c1=c2 <;> simp[h0,h1,h2,c6j]
theorem d6t:NeqAt prog 82 (λx:Ke=> .agg (keE.enc x).toArray) (λa b=>decide (a=b)):=by
 refine⟨λa b w=> ?_,λop p q a b w=>run_eqGuard_agg w op 82 p q _ _ zM⟩;obtain⟨n1,p1,c1⟩:=a;obtain⟨n2,p2,c2⟩:=b;exact d9z n1 p1 c1 n2 p2 c2 w
theorem d8p (a1 a2:Option Addr)(n c m d:Nat)(w:World)(h:n≠m\/n=0):
 Calls prog 57 #[.slice a1 n c,.slice a2 m d] w λe w'=>e= .returned (.bool (decide (n=m)))/\Below w.heap.size w w':=by
 by_cases hnm:n=m
 ·subst hnm
  obtain rfl:=h.resolve_left vM;go_enter func57,ntmps57;exact ygz
 ·have hne:((n:Int) != (m:Int))=true:=by simp;omega
  rw[decide_eq_false hnm];go_enter func57,ntmps57;exact yed
theorem d8q (v1 v2:Value)(l1 l2:List Ke)(w:World)(h1:Lst keE w.heap.size w v1 l1)(h2:Lst keE w.heap.size w v2 l2):
 Calls prog 57 #[v1,v2] w λe w'=>e= .returned (.bool (decide (l1=l2)))/\Below w.heap.size w w':=by
 obtain⟨a1,c1,rfl,-⟩:=h1.form;obtain⟨a2,c2,rfl,-⟩:=h2.form;by_cases hc:l1.length≠l2.length\/l1.length=0
 ·have:=d8p a1 a2 l1.length c1 l2.length c2 w hc
  exact ybu
 ·have he:l1.length=l2.length:=oM
  have h0:0<l1.length:=oM;obtain⟨b1,o1,d1,e1,-,-,k1⟩:=h1.some_ h0;obtain⟨b2,o2,d2,e2,-,-,k2⟩:=h2.some_ oM;simp only[Value.slice.injEq,true_and]at e1 e2;obtain⟨rfl,rfl⟩:=e1;obtain⟨rfl,rfl⟩:=e2;have hn1:=h1.len;have hn2:=h2.len;refine(AnyQ.slices_Equal Tryz.equalKe 3 isAgg82 sizeOf82 keE.enc (λ_=>rfl) (λa b=>decide (a=b)) d6t b1 o1 l1.length c1 b2 o2 l2.length c2 l1 l2 w (yR _) (yR _) oM oM (a3p h1 (λ_=>rfl)) (a3p h2 (λ_=>rfl))).mono ?_;exact yet
theorem e0a (p1 k1 i1:Int)(p2 k2 i2:Int)(w:World):(binOp .neq 68 (.agg #[.int .i64 p1,.int .i64 k1,.int .i64 i1]) (.agg #[.int .i64 p2,.int .i64 k2,.int .i64 i2])).run prog w= .ok (.bool (!decide ((⟨p1,k1,i1⟩:Lf)=⟨p2,k2,i2⟩))) w:=by
 have u3:=underlying3;have a3:=isAgg3;have z3:=sizeOf3;have hS:prog.underlying 68=some (.struct (prog.fieldsOf 68)):=by kernel_rfl
 have hp:prog.stoodInHeld 68=false:=by kernel_rfl
 rw[run_neq_struct,show(10000:Nat)=9999+1 from rfl,run_equalIn_agg w 9999 68 _ _ hS hp];simp only[Program.fieldsOf,underlying68];clear hS;go_simp;by_cases h0:p1=p2 <;> by_cases h1:k1=k2 <;> by_cases h2:i1=i2 <;> simp[h0,h1,h2]
theorem d6u:NeqAt prog 68 (λx:Lf=> .agg (lfE.enc x).toArray) (λa b=>decide (a=b)):=by
 refine⟨λa b w=> ?_,λop p q a b w=>run_eqGuard_agg w op 68 p q _ _ zM⟩;obtain⟨p1,k1,i1⟩:=a;obtain⟨p2,k2,i2⟩:=b;exact e0a p1 k1 i1 p2 k2 i2 w
theorem d8r (a1 a2:Option Addr)(n c m d:Nat)(w:World)(h:n≠m\/n=0):
 Calls prog 58 #[.slice a1 n c,.slice a2 m d] w λe w'=>e= .returned (.bool (decide (n=m)))/\Below w.heap.size w w':=by
 by_cases hnm:n=m
 ·subst hnm
  obtain rfl:=h.resolve_left vM;go_enter func58,ntmps58;exact ygz
 ·have hne:((n:Int) != (m:Int))=true:=by simp;omega
  rw[decide_eq_false hnm];go_enter func58,ntmps58;exact yed
theorem e0b (v1 v2:Value)(l1 l2:List Lf)(w:World)(h1:Lst lfE w.heap.size w v1 l1)(h2:Lst lfE w.heap.size w v2 l2):
 Calls prog 58 #[v1,v2] w λe w'=>e= .returned (.bool (decide (l1=l2)))/\Below w.heap.size w w':=by
 obtain⟨a1,c1,rfl,-⟩:=h1.form;obtain⟨a2,c2,rfl,-⟩:=h2.form;by_cases hc:l1.length≠l2.length\/l1.length=0
 ·have:=d8r a1 a2 l1.length c1 l2.length c2 w hc
  exact ybu
 ·have he:l1.length=l2.length:=oM
  have h0:0<l1.length:=oM;obtain⟨b1,o1,d1,e1,-,-,k1⟩:=h1.some_ h0;obtain⟨b2,o2,d2,e2,-,-,k2⟩:=h2.some_ oM;simp only[Value.slice.injEq,true_and]at e1 e2;obtain⟨rfl,rfl⟩:=e1;obtain⟨rfl,rfl⟩:=e2;have hn1:=h1.len;have hn2:=h2.len;refine(AnyQ.slices_Equal Tryz.equalLf 3 isAgg68 sizeOf68 lfE.enc (λ_=>rfl) (λa b=>decide (a=b)) d6u b1 o1 l1.length c1 b2 o2 l2.length c2 l1 l2 w (yR _) (yR _) oM oM (a3p h1 (λ_=>rfl)) (a3p h2 (λ_=>rfl))).mono ?_;exact yet
theorem b5b (pl:Pn)(ps:List Pc)(p:Pc):a6g a7e pl (ps++[p])=a6g a7e pl ps++(if(why pl p.id).isNone then a7e p else []):=by
 unfold a6g;rw[List.flatMap_append];simp
theorem b9o (pl:Pn)(ps:List Pc):(a6g a7e pl ps).length<=ps.length:=by
 refine b1d (Q:=λps=>(a6g a7e pl ps).length<=ps.length) (by simp[a6g]) (λps p h=> ?_) ps;rw[b5b,List.length_append,List.length_append];have hk:(a7e p).length<=1:=by unfold a7e;cases d1k p <;> simp
 exact yjs
theorem d3n (ev fv wv pv dv kv lv:Value)(l:List Pc)(pl:Pn)(w:World)(hL:Lst plE w.heap.size w pv l)(hF:Frm pv l.length)(hl:l.length<=100)(hok:∀p∈l,PcOk p/\p.cls.size<=1000)(hk:Lst keE w.heap.size w kv pl.keys)(hlf:Lst lfE w.heap.size w lv pl.left)(hff:Frm lv pl.left.length):
 Calls prog 50 #[b7q ev fv wv pv,a3s dv kv lv] w λe w'=>(a6g a7e pl (a0t l)=pl.keys/\e= .returned (.tuple #[])\/a6g a7e pl (a0t l)≠pl.keys/\e= .panicked (c2s 42))/\Below w.heap.size w w':=by
 have hokS:∀p∈a0t l,PcOk p/\p.cls.size<=1000:=λp hp=>hok p ((a1c l).mem_iff.1 hp)
 have hlS:(a0t l).length=l.length:=(a1c l).length_eq;obtain⟨ps,hps⟩:=zE (a0t l);rw[hps]at hokS hlS ⊢;obtain⟨ka,kc,rfl,-⟩:=hk.form;obtain⟨la,lc,rfl,-⟩:=hlf.form;go_enter func50,ntmps50;go_upto_region 1 with fail;have k2:=(Blk.new w #[ev,fv,wv,pv] 37).alloc (.cells #[dv,.slice ka pl.keys.length kc,.slice la pl.left.length lc] 45);have k3:=Blk.new (w.alloc (.cells #[ev,fv,wv,pv] 37)) #[dv,.slice ka pl.keys.length kc,.slice la pl.left.length lc] 45;have hb:Below w.heap.size w ((w.alloc (.cells #[ev,fv,wv,pv] 37)).alloc (.cells #[dv,.slice ka pl.keys.length kc,.slice la pl.left.length lc] 45)):=zC;rw[World.size_alloc]at k3;obtain⟨W,hW⟩:=zE ((w.alloc (.cells #[ev,fv,wv,pv] 37)).alloc (.cells #[dv,.slice ka pl.keys.length kc,.slice la pl.left.length lc] 45));rw[hW]at k2 k3 hb ⊢;clear hW;have hO:=a7s ev fv wv pv l W (hL.up hb) hF hl;rw[hps]at hO;obtain⟨m0,m1,m2,m3⟩:=zN4 k2;go_wp2_with (first
  |(go_at_call 44;refine hO.mono ?_;rintro e W1⟨v,rfl,hr1,hb1⟩;rw[<-hlS]at hr1;obtain⟨va,vc,rfl,hvc⟩:=(a0h a4f hr1 oM).form))
 have hbW1:Below w.heap.size w W1:=hb.trans (hb1.mono hb.size);have hLp:=a0h a4f hr1 oM;have k3':=k3.below hb1 k3.lt;have hk1:=hk.up hbW1;have hf1:=hlf.up hbW1;clear hO m0 m1 m2 m3 k2 k3 hr1 hL hF hps hb hb1 hk hlf;go_loopw [4,12] (λvv kk wr=>∃k:Nat,k<=ps.length/\kk= .int .i64 (k:Nat)/\wr.ownsRow W1.heap.size 82 3 vv (a6g a7e pl (ps.take k)).length ((a6g a7e pl (ps.take k)).flatMap keE.enc)/\Below W1.heap.size W1 wr) (λvv kk _=>ps.length-(intOf kk).toNat)
 case atStart=>exact⟨0,Nat.zero_le _,rfl,⟨by simp[a6g],.inl ⟨rfl,by simp[a6g]⟩⟩,zR _ _⟩
 case round =>
  obtain⟨k,hkl,rfl,hrow,hbr⟩:=hrel;by_cases hlt:k<ps.length
  ·have hltI:(k:Int)<(ps.length:Int):=oM
   have hLr:=hLp.up hbr;obtain⟨b,off,cap,hv,-,hbl,hc⟩:=hLr.some_ oM;simp only[Value.slice.injEq,true_and]at hv;obtain⟨rfl,rfl⟩:=hv;obtain⟨p,hp⟩:=zE (ps[k]);have hck:=hc k hlt;rw[hp]at hck;obtain⟨hpo,hpc⟩:=hokS p (hp▸List.getElem_mem hlt);have hKn:=b5b pl (ps.take k) p;rw[show ps.take k++[p]=ps.take (k+1) by rw[<-hp,List.take_append_getElem hlt]]at hKn;have hKl:=b9o pl (ps.take k);rw[List.length_take]at hKl;obtain⟨id,x,y,cls,nm,wt,ds⟩:=p;obtain⟨d0,d1,d2,d3,d4,d5,d6⟩:wr.cell? ⟨b,off+k*7,none⟩=some (.int .i64 id)/\wr.cell? ⟨b,off+k*7+1,none⟩=some (.int .i64 x)/\wr.cell? ⟨b,off+k*7+2,none⟩=some (.int .i64 y)/\wr.cell? ⟨b,off+k*7+3,none⟩=some (.string cls)/\wr.cell? ⟨b,off+k*7+4,none⟩=some (.string nm)/\wr.cell? ⟨b,off+k*7+5,none⟩=some (.int .i64 wt)/\wr.cell? ⟨b,off+k*7+6,none⟩=some (.int .i64 ds):=⟨hck 0 (show 0<7 by decide),hck 1 (show 1<7 by decide),hck 2 (show 2<7 by decide),hck 3 (show 3<7 by decide),hck 4 (show 4<7 by decide),hck 5 (show 5<7 by decide),hck 6 (show 6<7 by decide)⟩;have hKy:=c9s ⟨id,x,y,cls,nm,wt,ds⟩ hpo.nm;unfold d8j at hKy;obtain⟨K,hK⟩:=zE (a6g a7e pl (ps.take k));rw[hK]at hrow hKn hKl;obtain⟨va,vc,rfl,-⟩:=(a0h c1q hrow oM).form;have hzr:=hbr.size;clear hck hc hLr hK hp
   cases hko:d1k ⟨id,x,y,cls,nm,wt,ds⟩with
   |none =>
    rw[hko]at hKy;simp only[Option.isSome_none]at hKy;have hkL:a7e ⟨id,x,y,cls,nm,wt,ds⟩=[]:=by unfold a7e;rw[hko];rfl
    simp only[hkL,ite_self,List.append_nil]at hKn;clear hko;go_wp2_with (first
     |(go_at_call 37;(with_reducible refine(hKy _).mono ?_);rintro e w8⟨kx,rfl,hkk,hb8⟩;have hb8':Below wr.heap.size wr w8:=((zR _ _).alloc (yR _) _).trans (hb8.mono vM)))
    go_roundw
    case rel =>
     have hb9:Below wr.heap.size wr (w8.alloc (.cells #[.int .i64 kx.n,.int .i64 kx.p,.string kx.c] 82)):=hb8'.alloc hb8'.size _;exact⟨k+1,oM,by go_num,by rw[hKn];exact a1e hrow hb9,hbr.trans (hb9.mono hzr)⟩
    case measure=>simp[intOf];omega
   |some k0 =>
    rw[hko]at hKy;simp only[Option.isSome_some]at hKy;have hkL:a7e ⟨id,x,y,cls,nm,wt,ds⟩=[k0]:=by unfold a7e;rw[hko];rfl
    simp only[hkL]at hKn;clear hko;go_upto_region 6 with(first
     |(go_at_call 37;(with_reducible refine(hKy _).mono ?_);rintro e w8⟨kx,rfl,hkk,hb8⟩;have hb8':Below wr.heap.size wr w8:=((zR _ _).alloc (yR _) _).trans (hb8.mono vM)))
    obtain rfl:=hkk k0 rfl;have hb9:Below wr.heap.size wr (w8.alloc (.cells #[.int .i64 kx.n,.int .i64 kx.p,.string kx.c] 82)):=hb8'.alloc hb8'.size _;have kP9:=((Blk.new wr #[.int .i64 id,.int .i64 x,.int .i64 y,.string cls,.string nm,.int .i64 wt,.int .i64 ds] 66).below hb8 vM).alloc (.cells #[.int .i64 kx.n,.int .i64 kx.p,.string kx.c] 82);have kK9:=Blk.new w8 #[.int .i64 kx.n,.int .i64 kx.p,.string kx.c] 82;have hzb:=hb8.size;simp only[World.size_alloc]at hzb;obtain⟨W9,hW9⟩:=zE (w8.alloc (.cells #[.int .i64 kx.n,.int .i64 kx.p,.string kx.c] 82));rw[hW9]at hb9 kP9 kK9 ⊢;obtain⟨BK,hBK⟩:=zE w8.heap.size;obtain⟨BP,hBP⟩:=zE wr.heap.size;rw[hBK]at kK9 ⊢;rw[hBP]at kP9 ⊢;have hb19:Below W1.heap.size W1 W9:=hbr.trans (hb9.mono hzr);have k39:=k3'.below hb19 k3'.lt;obtain⟨q0,q1,q2⟩:=zN3 k39;have r0:W9.cell? ⟨BP,0,none⟩=some (.int .i64 id):=kP9.cell 0;obtain⟨y0,y1,y2⟩:=zN3 kK9;have hWy:=c2t dv (.slice ka pl.keys.length kc) (.slice la pl.left.length lc) pl id W9 (hf1.up hb19) hff;have hrow9:=a1e hrow hb9;have hz9:=hb19.size;clear hW9 hb8' hKy d0 d1 d2 d3 d4 d5 d6 k39
    cases hwy:why pl id with
    |some i =>
     rw[hwy]at hWy hKn;simp only[b2b,Option.isNone_some,Bool.false_eq_true,if_false,List.append_nil]at hWy hKn;have hi0:¬((i:Nat):Int)<0:=oM;clear hwy;go_wp2_with (first
      |(go_at_call 107;(with_reducible refine hWy.mono ?_);rintro e w10⟨rfl,hb10⟩))
     go_roundw
     case rel=>exact⟨k+1,oM,by go_num,by rw[hKn];exact a1e hrow9 hb10,hb19.trans (hb10.mono hz9)⟩
     case measure=>simp[intOf];omega
    |none =>
     rw[hwy]at hWy hKn;simp only[b2b,Option.isNone_none,if_true]at hWy hKn;clear hwy;go_wp2_with (first
      |(go_at_call 107;(with_reducible refine hWy.mono ?_);rintro e w10⟨rfl,hb10⟩
        have hz10:=hb10.size;obtain⟨t0,t1,t2⟩:w10.cell? ⟨BK,0,none⟩=some (.int .i64 kx.n)/\w10.cell? ⟨BK,1,none⟩=some (.int .i64 kx.p)/\w10.cell? ⟨BK,2,none⟩=some (.string kx.c):=⟨(kK9.below hb10 kK9.lt).cell 0,(kK9.below hb10 kK9.lt).cell 1,(kK9.below hb10 kK9.lt).cell 2⟩;have hrow10:=a1e hrow9 hb10)
      |(at_builtin;refine El.push c1q d9k qM _ _ qM qM hrow10 kx qM rfl oM oM ?_;intro v11 w11 hr11 hf11 hg11 hb11
        obtain⟨a11,c11,rfl⟩:=hf11))
     go_roundw
     case rel=>exact⟨k+1,oM,by go_num,by rw[hKn];simpa using hr11,(hb19.trans (hb10.mono hz9)).trans hb11⟩
     case measure=>simp[intOf];omega
  ·obtain rfl:k=ps.length:=oM
   have hge:¬(ps.length:Int)<(ps.length:Int):=oM;rw[List.take_length]at hrow;have k39:=k3'.below hbr k3'.lt;have c1:wr.cell? ⟨w.heap.size+1,1,none⟩=some (.slice ka pl.keys.length kc):=k39.cell 1;have hKl:=b9o pl ps;have hEq:=d8q u4 (.slice ka pl.keys.length kc) (a6g a7e pl ps) pl.keys wr (a0h c1q hrow oM) (hk1.up hbr);obtain⟨K,hK⟩:=zE (a6g a7e pl ps);rw[hK]at hEq hrow hKl;replace hK:=Lib.hid hK;obtain⟨va,vc,rfl,-⟩:=(a0h c1q hrow oM).form;by_cases he:K=pl.keys
   ·rw[decide_eq_true he]at hEq
    replace he:=Lib.hid he;clear hrow;go_wp2_with (first
     |(go_at_call 57;(with_reducible refine hEq.mono ?_);rintro e w8⟨rfl,hb8⟩)
     |(go_at_call 106;refine(a3d 42 _).mono ?_;rintro e w9⟨rfl,rfl⟩))
    exact⟨rfl,_,results_none rfl _ _ _,.inl ⟨hK.out.trans he.out,rfl⟩,hbW1.trans ((hbr.trans (hb8.mono hbr.size)).mono hbW1.size)⟩
   ·rw[decide_eq_false he]at hEq
    clear hrow;go_wp2_with (first
     |(go_at_call 57;(with_reducible refine hEq.mono ?_);rintro e w8⟨rfl,hb8⟩)
     |(go_at_call 106;refine(a2u 42 _).mono ?_;rintro e w9⟨rfl,rfl⟩))
    exact⟨rfl,.inr ⟨λh=>he (hK.out.symm.trans h),rfl⟩,hbW1.trans ((hbr.trans (hb8.mono hbr.size)).mono hbW1.size)⟩
def d3o (a b:Pn):Bool:=decide (a.dots=b.dots)&&(decide (a.keys=b.keys)&&decide (a.left=b.left))
theorem b5c (v1 v2:Value)(p1 p2:Pn)(w:World)(h1:PlanIn w v1 p1)(h2:PlanIn w v2 p2):
 Calls prog 21 #[v1,v2] w λe w'=>e= .returned (.bool (d3o p1 p2))/\Below w.heap.size w w':=by
 obtain⟨dv,kv,lv,rfl,⟨hd,-⟩,⟨hk,-⟩,hl,-⟩:=h1.ex;obtain⟨dv2,kv2,lv2,rfl,⟨hd2,-⟩,⟨hk2,-⟩,hl2,-⟩:=h2.ex;obtain⟨a1,c1,rfl,-⟩:=hd.form;obtain⟨a2,c2,rfl,-⟩:=hk.form;obtain⟨a3,c3,rfl,-⟩:=hl.form;obtain⟨a4,c4,rfl,-⟩:=hd2.form;obtain⟨a5,c5,rfl,-⟩:=hk2.form;obtain⟨a6,c6,rfl,-⟩:=hl2.form;have hb:Below w.heap.size w ((w.alloc (.cells #[.slice a1 p1.dots.length c1,.slice a2 p1.keys.length c2,.slice a3 p1.left.length c3] 45)).alloc (.cells #[.slice a4 p2.dots.length c4,.slice a5 p2.keys.length c5,.slice a6 p2.left.length c6] 45)):=zC;have k2:=(Blk.new w #[.slice a1 p1.dots.length c1,.slice a2 p1.keys.length c2,.slice a3 p1.left.length c3] 45).alloc (.cells #[.slice a4 p2.dots.length c4,.slice a5 p2.keys.length c5,.slice a6 p2.left.length c6] 45);have k3:=Blk.new (w.alloc (.cells #[.slice a1 p1.dots.length c1,.slice a2 p1.keys.length c2,.slice a3 p1.left.length c3] 45)) #[.slice a4 p2.dots.length c4,.slice a5 p2.keys.length c5,.slice a6 p2.left.length c6] 45;rw[World.size_alloc]at k3;go_enter func21,ntmps21;go_upto_region 1 with fail;obtain⟨W,hW⟩:=zE ((w.alloc (.cells #[.slice a1 p1.dots.length c1,.slice a2 p1.keys.length c2,.slice a3 p1.left.length c3] 45)).alloc (.cells #[.slice a4 p2.dots.length c4,.slice a5 p2.keys.length c5,.slice a6 p2.left.length c6] 45));rw[hW]at hb k2 k3 ⊢;clear hW;have e1:=λX (h:Below w.heap.size w X)=>d8o _ _ p1.dots p2.dots X (hd.up h) (hd2.up h)
 have e2:=λX (h:Below w.heap.size w X)=>d8q _ _ p1.keys p2.keys X (hk.up h) (hk2.up h)
 have e3:=λX (h:Below w.heap.size w X)=>e0b _ _ p1.left p2.left X (hl.up h) (hl2.up h)
 obtain⟨b1,hb1⟩:=zE (decide (p1.dots=p2.dots));obtain⟨b2,hb2⟩:=zE (decide (p1.keys=p2.keys));obtain⟨b3,hb3⟩:=zE (decide (p1.left=p2.left));simp only[hb1,hb2,hb3]at e1 e2 e3;replace hb1:=Lib.hid hb1;replace hb2:=Lib.hid hb2;replace hb3:=Lib.hid hb3;obtain⟨m1,m2,m3⟩:=zN3 k2;obtain⟨m4,m5,m6⟩:=zN3 k3;clear hd hk hl hd2 hk2 hl2 h1 h2
 cases b1 <;> cases b2
 all_goals
  go_wp2_with (first
   |(go_at_call 56;(with_reducible refine(e1 _ hb).mono ?_);rintro e X1⟨rfl,hx1⟩
     have hw1:Below w.heap.size w X1:=hb.trans (hx1.mono hb.size);obtain⟨n2,n3⟩:X1.cell? ⟨w.heap.size,1,none⟩=some (.slice a2 p1.keys.length c2)/\X1.cell? ⟨w.heap.size,2,none⟩=some (.slice a3 p1.left.length c3):=⟨(k2.below hx1 k2.lt).cell 1,(k2.below hx1 k2.lt).cell 2⟩;obtain⟨n5,n6⟩:X1.cell? ⟨w.heap.size+1,1,none⟩=some (.slice a5 p2.keys.length c5)/\X1.cell? ⟨w.heap.size+1,2,none⟩=some (.slice a6 p2.left.length c6):=⟨(k3.below hx1 k3.lt).cell 1,(k3.below hx1 k3.lt).cell 2⟩)
   |(go_at_call 57;(with_reducible refine(e2 _ hw1).mono ?_);rintro e X2⟨rfl,hx2⟩
     have hw2:Below w.heap.size w X2:=hw1.trans (hx2.mono hw1.size);have q2:=(k2.below hx1 k2.lt).below hx2 (Nat.lt_of_lt_of_le k2.lt hx1.size);have q3:=(k3.below hx1 k3.lt).below hx2 (Nat.lt_of_lt_of_le k3.lt hx1.size);have o3:X2.cell? ⟨w.heap.size,2,none⟩=some (.slice a3 p1.left.length c3):=q2.cell 2;have o6:X2.cell? ⟨w.heap.size+1,2,none⟩=some (.slice a6 p2.left.length c6):=q3.cell 2)
   |(go_at_call 58;(with_reducible refine(e3 _ hw2).mono ?_);rintro e X3⟨rfl,hx3⟩
     have hw3:Below w.heap.size w X3:=hw2.trans (hx3.mono hw2.size)))
 all_goals go_ret
 all_goals refine⟨by unfold d3o;rw[hb1.out,hb2.out,hb3.out];rfl,?_⟩
 all_goals first|assumption|exact zC
theorem b3b:inE.Ok:=⟨λ_=>rfl,jM,λx u hu=>by
 simp at hu;subst hu;rfl⟩
theorem d5k:inE.In prog 51:=El.in_of (z:= .int .i64 0) (s:=1) (bytes:=8) underlying51 zM rfl oM rfl
theorem b9p (ev fv wv pv:Value)(l:List Pc)(w:World)(hL:Lst plE w.heap.size w pv l)(hF:Frm pv l.length)(hl:l.length<=100):
 Calls prog 14 #[b7q ev fv wv pv] w λe w'=>∃v,e= .returned v/\Lst inE w'.heap.size w' v ((a0t l).map Pc.id)/\Frm v ((a0t l).map Pc.id).length/\Below w.heap.size w w':=by
 have hlS:(a0t l).length=l.length:=(a1c l).length_eq;obtain⟨ps,hps⟩:=zE (a0t l);rw[hps]at hlS ⊢;go_enter func14,ntmps14;go_upto_region 1 with fail;have k2:=Blk.new w #[ev,fv,wv,pv] 37;have hb:Below w.heap.size w (w.alloc (.cells #[ev,fv,wv,pv] 37)):=zC;obtain⟨W,hW⟩:=zE (w.alloc (.cells #[ev,fv,wv,pv] 37));rw[hW]at k2 hb ⊢;clear hW;have hO:=a7s ev fv wv pv l W (hL.up hb) hF hl;rw[hps]at hO;obtain⟨m0,m1,m2,m3⟩:=zN4 k2;go_wp2_with (first
  |(go_at_call 44;refine hO.mono ?_;rintro e W1⟨v,rfl,hr1,hb1⟩;rw[<-hlS]at hr1;obtain⟨va,vc,rfl,hvc⟩:=(a0h a4f hr1 oM).form))
 have hbW1:Below w.heap.size w W1:=hb.trans (hb1.mono hb.size);have hLp:=a0h a4f hr1 oM;clear hO m0 m1 m2 m3 k2 hr1 hL hF hps hb hb1;go_loopw [3,9] (λvv kk wr=>∃k:Nat,k<=ps.length/\kk= .int .i64 (k:Nat)/\wr.ownsRow W1.heap.size 3 1 vv ((ps.take k).map Pc.id).length (((ps.take k).map Pc.id).flatMap inE.enc)/\Below W1.heap.size W1 wr) (λvv kk _=>ps.length-(intOf kk).toNat)
 case atStart=>exact⟨0,Nat.zero_le _,rfl,⟨by simp,.inl ⟨rfl,by simp⟩⟩,zR _ _⟩
 case round =>
  obtain⟨k,hkl,rfl,hrow,hbr⟩:=hrel;by_cases hlt:k<ps.length
  ·have hltI:(k:Int)<(ps.length:Int):=oM
   have hLr:=hLp.up hbr;obtain⟨b,off,cap,hv,-,hbl,hc⟩:=hLr.some_ oM;simp only[Value.slice.injEq,true_and]at hv;obtain⟨rfl,rfl⟩:=hv;obtain⟨p,hp⟩:=zE (ps[k]);have hck:=hc k hlt;rw[hp]at hck;have hKn:(ps.take (k+1)).map Pc.id=(ps.take k).map Pc.id++[p.id]:=by rw[<-hp,<-List.take_append_getElem hlt,List.map_append];rfl
   have hKl:((ps.take k).map Pc.id).length<=1000:=by rw[List.length_map,List.length_take];omega
   obtain⟨id,x,y,cls,nm,wt,ds⟩:=p;obtain⟨d0,d1,d2,d3,d4,d5,d6⟩:wr.cell? ⟨b,off+k*7,none⟩=some (.int .i64 id)/\wr.cell? ⟨b,off+k*7+1,none⟩=some (.int .i64 x)/\wr.cell? ⟨b,off+k*7+2,none⟩=some (.int .i64 y)/\wr.cell? ⟨b,off+k*7+3,none⟩=some (.string cls)/\wr.cell? ⟨b,off+k*7+4,none⟩=some (.string nm)/\wr.cell? ⟨b,off+k*7+5,none⟩=some (.int .i64 wt)/\wr.cell? ⟨b,off+k*7+6,none⟩=some (.int .i64 ds):=⟨hck 0 (show 0<7 by decide),hck 1 (show 1<7 by decide),hck 2 (show 2<7 by decide),hck 3 (show 3<7 by decide),hck 4 (show 4<7 by decide),hck 5 (show 5<7 by decide),hck 6 (show 6<7 by decide)⟩;obtain⟨K,hK⟩:=zE ((ps.take k).map Pc.id);rw[hK]at hrow hKn hKl;obtain⟨va,vc,rfl,-⟩:=(a0h b3b hrow oM).form;have hzr:=hbr.size;clear hck hc hLr hK hp;go_upto_region 5 with fail;have kP:=Blk.new wr #[.int .i64 id,.int .i64 x,.int .i64 y,.string cls,.string nm,.int .i64 wt,.int .i64 ds] 66;have hbP:Below wr.heap.size wr (wr.alloc (.cells #[.int .i64 id,.int .i64 x,.int .i64 y,.string cls,.string nm,.int .i64 wt,.int .i64 ds] 66)):=(zR _ _).alloc (yR _) _;obtain⟨W9,hW9⟩:=zE (wr.alloc (.cells #[.int .i64 id,.int .i64 x,.int .i64 y,.string cls,.string nm,.int .i64 wt,.int .i64 ds] 66));rw[hW9]at kP hbP ⊢;obtain⟨BP,hBP⟩:=zE wr.heap.size;have hz9:=hbP.size;have hrow9:=a1e hrow hbP;have hb19:Below W1.heap.size W1 W9:=hbr.trans (hbP.mono hzr);rw[hBP]at kP ⊢;have r0:W9.cell? ⟨BP,0,none⟩=some (.int .i64 id):=kP.cell 0;clear hW9 d0 d1 d2 d3 d4 d5 d6 hBP;go_wp2_with (first
    |(at_builtin;refine El.push b3b d5k qM _ _ qM qM hrow9 id qM rfl oM oM ?_;intro v11 w11 hr11 hf11 hg11 hb11
      obtain⟨a11,c11,rfl⟩:=hf11))
   go_roundw
   case rel=>exact⟨k+1,oM,by go_num,by rw[hKn];simpa using hr11,hb19.trans hb11⟩
   case measure=>simp[intOf];omega
  ·exact ydk
end
section
open Go Go.RowKit Go.Shelf
attribute [local go_sem] Oper.semAt_some
attribute [local go_sem ↓] Go.wp_at_zero Go.wp_at_succ
abbrev buE :El UInt8:=⟨5,1,λb=>[.int .u8 (b.toNat:Int)]⟩
theorem e0c :buE.Ok:=⟨λ_=>rfl,jM,λx u hu=>by
 simp at hu;subst hu;rfl⟩
theorem e0v :buE.In prog 116:=El.in_of (z:= .int .u8 0) (s:=1) (bytes:=1) underlying116 zM rfl oM rfl
theorem c6k {s:ByteArray}{k n:Nat}(h:a6h s k=some n):k<=s.size->k+(wordsL[n]!).size<=s.size:=by
 intro hk;obtain⟨hn,hp,-⟩:=List.findIdx?_eq_some_iff_getElem.1 h;have h1:=Lib.hasPrefix_le hp;rw[List.length_take,List.length_drop]at h1;rw[getElem!_pos wordsL n hn];have h2:(wordsL[n]).data.toList.length=(wordsL[n]).size:=by rw[Array.length_toList];rfl
 have h3:s.data.toList.length=s.size:=by rw[Array.length_toList];rfl
 omega
theorem c2w (af:Bool)(c:Nat):(cellAt af c).length<=3:=by
 unfold cellAt;repeat' split
 all_goals simp
theorem c2x (s:ByteArray)(hl:s.size<=1000)(w:World):Calls prog 97 #[.string s] w λe w'=>e= .returned (.tuple #[.string (a5s s).1,.int .i64 (a5s s).2])/\Below w.heap.size w w':=by
 unfold a5s;have hR:=λX=>c2h s hl X
 cases hrt:a5q s with
 |false =>
  rw[hrt]at hR;clear hrt;go_enter func97,ntmps97;go_wp2_with (go_at_call 144;refine(hR _).mono ?_;rintro e w'⟨rfl,hb_⟩;obtain⟨p,rfl⟩:=a0b hb_;clear hb_);go_ret2;exact⟨rfl,zC⟩
 |true =>
 rw[hrt]at hR;replace hrt:=Lib.hid hrt;obtain⟨out,hout⟩:=zE (a3q s s.size 0 []);simp only[if_true];rw[hout];replace hout:=Lib.hid hout;go_enter func97,ntmps97;go_wp2_with (first
  |(go_at_call 144;refine(hR _).mono ?_;rintro e w1⟨rfl,hb1⟩))
 clear hR;go_loopw [5,6] (λv k wr=>∃(n f:Nat) (l:List UInt8),k= .int .i64 n/\n<=s.size/\s.size-n<=f/\l.length<=3*n/\Hid (a3q s f n l=out)/\wr.ownsRow w1.heap.size 5 1 v l.length (l.flatMap buE.enc)/\Below w1.heap.size w1 wr) (λ_ k _=>s.size-(intOf k).toNat)
 case atStart=>exact⟨0,s.size,[],rfl,Nat.zero_le _,oM,Nat.zero_le _,hout,World.ownsRow_nil _ _ _ _,zR _ _⟩
 case round =>
  clear hout;obtain⟨n,f,l,rfl,hn,hf,hll,hout,hrow,hbr⟩:=hrel;by_cases hlt:n<s.size
  ·have hltI:(n:Int)<(s.size:Int):=oM
   have hleI:(n:Int)<=(s.size:Int):=oM;obtain⟨f,rfl⟩:∃f',f=f'+1:=⟨f-1,oM⟩;have hcon:∀X,Calls prog 145 #[.string (s.extract n s.size)] X λe w'=>e= .returned (.int .i64 (b2b (a6h s n)))/\Below X.heap.size X w':=λX=>by
    rw[<-d2x];exact c2i _ (by rw[ByteArray.size_extract];omega) X
   cases hw:a6h s n with
   |some m =>
    have hm:=b8o hw;have hend:=c6k hw (Nat.le_of_lt hlt);have hwl:=c4l hm;have hnext:=hout.out;rw[b2e hlt hw]at hnext;rw[hw]at hcon;simp only[b2b]at hcon;have hs:=d2y hm;have hx:=b8p hm;obtain⟨x,hxe⟩:=zE (wordsL[m]!);obtain⟨u,hue⟩:=zE (a4s[m]!);rw[hxe]at hx hend hwl hnext;rw[hue]at hs hnext;replace hnext:=Lib.hid hnext;have hu:IntKind.u8.wrap (u.toNat:Int)=(u.toNat:Int):=by
     have:=u.toNat_lt;exact ydf
    have hmI:(m:Int)<11:=oM;have hm0:(0:Int)<=(m:Int):=oM;have hw1:IntKind.i64.wrap ((n:Int)+(x.size:Int))=(n:Int)+x.size:=a1m oM oM;have hw2:IntKind.i64.wrap ((n:Int)+(x.size:Int)-1)=(n:Int)+x.size-1:=a1m oM oM;have hw3:IntKind.i64.wrap ((n:Int)+(x.size:Int)-1+1)=(n:Int)+x.size:=by rw[show(n:Int)+(x.size:Int)-1+1=(n:Int)+x.size by omega];exact hw1
    clear hw hxe hue hout;go_wp2_with (first
     |(go_at_call 145;with_reducible refine(hcon _).mono ?_;rintro e w2⟨rfl,hb2⟩;have hrow2:=a1e hrow hb2;have hB2:=hbr.trans (hb2.mono hbr.size))
     |(go_at_call 146;refine(c2j _).mono ?_;rintro e w'⟨rfl,rfl⟩
       have hb3:Below w2.heap.size w2 (w2.alloc (.cells c9l 3)):=(zR _ _).alloc (yR _) _;have hrow3:=a1e hrow2 hb3;have hB3:=hB2.trans (hb3.mono hB2.size);have hz3:=hB3.size)
     |(go_at_call 147;refine(a7r _).mono ?_;rintro e w'⟨rfl,rfl⟩)
     |(at_builtin;refine El.push e0c e0v qM _ _ qM qM hrow3 u qM vM hz3 oM ?_;intro v4 w4 hr4 hf4 hg4 hb4
       obtain⟨a4,c4,rfl⟩:=hf4))
    go_roundw
    case rel=>exact⟨n+x.size,f,l++[u],by go_num,oM,oM,by rw[List.length_append,List.length_singleton];omega,hnext,a1e (by simpa using hr4) ((zR _ _).alloc (yR _) _),(hB3.trans hb4).alloc (hB3.trans hb4).size _⟩
    case measure=>simp[intOf];omega
   |none =>
    have hok:=b2c hrt.out n hlt;have hnext:=hout.out;rw[b2f hlt hw]at hnext;rw[hw]at hcon;simp only[b2b]at hcon;obtain⟨c,hc⟩:=zE ((s[n]'hlt).toNat);have hc2:32<=c/\c<=126:=by
     unfold okB at hok;rw[hc]at hok;simp at hok;omega
    have hcel:=λX=>c2m s n hlt c hc hc2 hl X
    have hc3:=c2w (a5r s n) c;rw[getElem!_pos s n hlt,hc]at hnext;obtain⟨cs,hcs⟩:=zE (cellAt (a5r s n) c);rw[hcs]at hcel hnext hc3;replace hnext:=Lib.hid hnext;clear hw hc hcs hok hout hc2;go_wp2_with (first
     |(go_at_call 145;with_reducible refine(hcon _).mono ?_;rintro e w2⟨rfl,hb2⟩;have hrow2:=a1e hrow hb2;have hB2:=hbr.trans (hb2.mono hbr.size))
     |(go_at_call 148;with_reducible refine(hcel _).mono ?_;rintro e w3⟨B8,rfl,hb3,k8⟩;have hrow3:=a1e hrow2 hb3;have hB3:=hB2.trans (hb3.mono hB2.size)))
    clear hrow hrow2 hcon hcel hb2 hb3 hB2 hbr;go_loopw [5,9] (λv i wx=>∃k:Nat,k<=cs.length/\i= .int .i64 (k:Nat)/\wx.ownsRow w1.heap.size 5 1 v (l++cs.take k).length ((l++cs.take k).flatMap buE.enc)/\Blk wx B8 (d6r cs) 3/\Below w1.heap.size w1 wx) (λ_ i _=>cs.length-(intOf i).toNat)
    case atStart=>exact⟨0,Nat.zero_le _,rfl,by rw[List.take_zero,List.append_nil];exact hrow3,k8,hB3⟩
    case round =>
     clear hrow3 k8 hB3;obtain⟨k,hk,rfl,hrow,k8,hB3⟩:=hrel;by_cases hkl:k<cs.length
     ·have hkI:(k:Int)<(cs.length:Int):=oM
      obtain⟨u,hu⟩:=zE (cs[k]);have hcu:wr.cell? ⟨B8,k,none⟩=some (.int .i64 (u.toNat:Int)):=(k8.cell k).trans (by simp[d6r,List.getElem?_eq_getElem hkl,hu]);have hL:l++cs.take (k+1)=(l++cs.take k)++[u]:=by rw[List.take_succ_eq_append_getElem hkl,hu,List.append_assoc]
      have hle:(l++cs.take k).length<=10000:=by rw[List.length_append,List.length_take];omega
      obtain⟨K,hK⟩:=zE (l++cs.take k);rw[hK]at hrow hL hle;have hwu:IntKind.u8.wrap (u.toNat:Int)=(u.toNat:Int):=by
       have:=u.toNat_lt;exact ydf
      have hz3:=hB3.size;replace hL:=Lib.hid hL;clear hu hK;go_wp2_with (first
       |(at_builtin;refine El.push e0c e0v qM _ _ qM qM hrow u qM rfl oM oM ?_;intro v4 w4 hr4 hf4 hg4 hb4
         obtain⟨a4,c4,rfl⟩:=hf4;have k84:=k8.kept hg4 (a0o hrow k8 jM)))
      go_roundw
      case rel=>exact⟨k+1,oM,by go_num,by rw[hL.out];simpa using hr4,k84,hB3.trans hb4⟩
      case measure=>simp[intOf];omega
     ·obtain rfl:k=cs.length:=oM
      have hge:¬(cs.length:Int)<(cs.length:Int):=oM;rw[List.take_length]at hrow;have hn1:IntKind.i64.wrap ((n:Int)+1)=(n:Int)+1:=a1m oM oM;go_wp2_with fail;go_roundw
      case rel=>exact⟨n+1,f,l++cs,by go_num,oM,oM,by rw[List.length_append];omega,hnext,hrow,hB3⟩
      case measure=>simp[intOf];omega
  ·obtain rfl:n=s.size:=oM
   have hle:=hout.out;rw[b4l (yR _)]at hle;subst hle;have hb:=hb1.trans (hbr.mono hb1.size);rcases hrow.2 with⟨rfl,h2⟩|⟨g,cap,cur,rfl,-⟩
   ·obtain rfl:l=[]:=List.length_eq_zero_iff.1 h2
    clear hout;have hcn:=Lib.run_convert_nil_bytes (P:=prog) wr 116 9 5 0 underlying116 underlying5 underlying9;go_wp2_with fail;go_ret2;exact⟨rfl,hb⟩
   ·have hcv:=λsrc dst e h1 h2 h3=>run_convert_bytes_back (P:=prog) wr src dst e ⟨g,0,none⟩ cap l h1 h2 h3 (λj hj=>by
     have h5:=hrow.cells (g:=g) rfl j (.int .u8 (l[j].toNat:Int)) (by have h6:=a9b e0c l j 0 hj (show 0<1 by decide);rw[show j*buE.s+0=j from Nat.mul_one j]at h6;exact h6);exact h5)
    have hcv2:=hcv 116 9 5 underlying116 underlying5 underlying9;clear hcv hrow hout;go_wp2_with fail;go_ret2;exact⟨rfl,hb⟩
end
section
open Go.RowKit Go.Shelf
attribute [local go_sem] Oper.semAt_some
variable{b:Bool}{a r:Int}{s:Sh}
theorem c2y {n lo hi:Int}(h:inR lo n hi=b)(w:World):
 Calls prog 141 #[.int .i64 n,.int .i64 lo,.int .i64 hi] w λe w'=>e= .returned (.bool b)/\w=w':=by
 have h':=a9x n lo hi w;rw[h]at h';exact h'
theorem c6l (x y:Int):a1f x y=(inR (-16384) x 16384&&inR (-16384) y 16384):=rfl
theorem b5d (x y:Int)(w:World):
 Calls prog 90 #[.agg #[.int .i64 x,.int .i64 y]] w λe w'=>e= .returned (.bool (a1f x y))/\Below w.heap.size w w':=by
 rw[c6l];obtain⟨c1,h1⟩:=zE (inR (-16384) x 16384);obtain⟨c2,h2⟩:=zE (inR (-16384) y 16384);rw[h1,h2];replace h1:=Lib.hid h1;replace h2:=Lib.hid h2
 cases c1 <;>
 ·go_enter func90,ntmps90
  go_wp2_with (go_at_call 141;refine(c2y (by first|with_reducible exact h1.out|with_reducible exact h2.out) _).mono ?_;rintro e w'⟨rfl,rfl⟩);go_ret;exact⟨by first|rfl|(simp;done),zC⟩
theorem a5g {x y:Int}(h:a1f x y=b)(w:World):
 Calls prog 90 #[.agg #[.int .i64 x,.int .i64 y]] w λe w'=>e= .returned (.bool b)/\Below w.heap.size w w':=by
 have h':=b5d x y w;rw[h]at h';exact h'
theorem d3p {b:Int}(hb:0<b):a / b=if a<a.tdiv b*b then a.tdiv b-1 else a.tdiv b:=by
 rw[c0w hb];have h1:=Int.mul_tdiv_add_tmod a b;rw[Int.mul_comm]at h1;split <;> split <;> omega
theorem a8v {b:Int}(hr:a / b=r)(w:World)(hb:0<b)(hb2:b<=1048576)(h0 : -1099511627776<=a)(h1:a<=1099511627776):
 Calls prog 143 #[.int .i64 a,.int .i64 b] w λe w'=>e= .returned (.int .i64 r)/\w=w':=by
 subst hr;obtain⟨q0,q1⟩:=b5q hb h0 h1;have hb0:¬b=0:=oM;have he:=d3p (a:=a) hb;have hm:=Int.mul_tdiv_add_tmod a b;have m1:=Int.lt_tmod_of_pos a hb;have m2:=Int.tmod_lt_of_pos a hb;rw[Int.mul_comm]at hm;have p0 : -1099512676352<=a.tdiv b*b:=oM;have p1:a.tdiv b*b<=1099512676352:=oM;clear hm m1 m2;by_cases hs:a<a.tdiv b*b
 ·rw[if_pos hs]at he
  replace he:=Lib.hid he;go_enter func143,ntmps143;exact yga
 ·rw[if_neg hs]at he
  replace he:=Lib.hid he;go_enter func143,ntmps143;exact yga
theorem b6t (s:Sh)(x y i j:Int)(w:World)(hi:c0y s x=i)(hj:c0z s y=j)(hs:OkS s)(x0 : -1048576<=x)(x1:x<=1048576)(y0 : -1048576<=y)(y1:y<=1048576):
 Calls prog 92 #[shV s,.agg #[.int .i64 x,.int .i64 y]] w λe w'=>e= .returned (.agg #[.int .i64 i,.int .i64 j])/\Below w.heap.size w w':=by
 obtain⟨ax,ay,st,W,H,G⟩:=s;obtain⟨s0,s1,-,-,-,-,a0,a1,b0,b1⟩:=hs;simp only[c0y,c0z]at hi hj s0 s1 a0 a1 b0 b1;replace hi:=Lib.hid hi;replace hj:=Lib.hid hj;go_enter func92,ntmps92;go_wp2_with fail;first|with_reducible refine a0f 18 zM zM ?_|with_reducible refine a0i 18 zM zM ?_
 simp only[zT];repeat(first|go_big_quiet_step ((go_at_call 143;exact Calls.grow_of_same (a8v (by first|with_reducible exact hi.out|with_reducible exact hj.out) _ oM oM oM oM)))|quiet_step ((go_at_call 143;exact Calls.grow_of_same (a8v (by first|with_reducible exact hi.out|with_reducible exact hj.out) _ oM oM oM oM))))
 refine wpQuiet_nil ?_;intro _ hw_;obtain⟨p,hw_⟩:=hw_;subst hw_;go_wp2_with fail;exact bodyPost_ret (v:= .agg #[.int .i64 i,.int .i64 j]) (by simp[results,results92,go_sem]) rfl ⟨rfl,zC⟩
theorem a5n (s:Sh)(i j:Int)(b:Bool)(w:World)(hb:onS s i j=b):
 Calls prog 93 #[shV s,.agg #[.int .i64 i,.int .i64 j]] w λe w'=>e= .returned (.bool b)/\Below w.heap.size w w':=by
 subst hb;have hr:=a6c (s:=s) (i:=i) (j:=j);obtain⟨r,he⟩:=zE (onS s i j);rw[he]at hr ⊢;obtain⟨ax,ay,st,sw,sh,sg⟩:=s;simp only at hr;clear he;by_cases h1:0<=i
 ·by_cases h2:i<sw
  ·by_cases h3:0<=j
   ·by_cases h4:j<sh
    ·obtain rfl:r=true:=hr.2 ⟨⟨h1,h2⟩,h3,h4⟩
     clear hr;go_enter func93,ntmps93;exact yed
    ·exact yct
   ·exact yct
  ·exact yct
 ·exact yct
theorem c6m (h:s.st<1\/1024<s.st\/s.w<1\/80<s.w\/s.h<1\/80<s.h\/s.g<1\/4<s.g):a1g s=3:=by
 unfold a1g;rw[if_neg];intro h2;simp only[Bool.and_eq_true,a9c]at h2;omega
theorem c6n (s:Sh)(w:World)(hb:s.st<1\/1024<s.st\/s.w<1\/80<s.w\/s.h<1\/80<s.h\/s.g<1\/4<s.g):
 Calls prog 89 #[shV s] w λe w'=>e= .returned (.int .i64 3)/\Below w.heap.size w w':=by
 obtain⟨ax,ay,st,W,H,G⟩:=s;simp only at hb;have hb2:st<1\/(1<=st/\(1024<st\/(st<=1024/\(W<1\/(1<=W/\(80<W\/(W<=80/\(H<1\/(1<=H/\(80<H\/(H<=80/\(G<1\/(1<=G/\4<G))))))))))))):=oM;clear hb;rcases hb2 with h|⟨h1,h|⟨h2,h|⟨h3,h|⟨h4,h|⟨h5,h|⟨h6,h|⟨h7,h⟩⟩⟩⟩⟩⟩⟩ <;>
 ·go_enter func89,ntmps89
  exact yed
theorem c6o (s:Sh)(w:World)(hi:InS s)(h5:a1f s.ax s.ay=false):
 Calls prog 89 #[shV s] w λe w'=>e= .returned (.int .i64 10)/\Below w.heap.size w w':=by
 obtain⟨ax,ay,st,W,H,G⟩:=s;obtain⟨q10,q11,q20,q21,q30,q31,q40,q41⟩:=hi;simp only at q10 q11 q20 q21 q30 q31 q40 q41 h5;replace h5:=Lib.hid h5;go_enter func89,ntmps89;go_wp2_with (first|(go_at_call 90;refine(a5g (b:=false) (by with_reducible exact h5.out) _).mono ?_;rintro e w'⟨rfl,hb_⟩;obtain⟨p,rfl⟩:=a0b hb_;clear hb_)|(go_at_call 90;refine(b5d _ _ _).mono ?_;rintro e w'⟨rfl,hb_⟩;obtain⟨p,rfl⟩:=a0b hb_;clear hb_;generalize a1f _ _=b9)|fail);exact ybl
theorem c2z (s:Sh)(w:World)(b6:Bool)(hi:InS s)(h5:a1f s.ax s.ay=true)(h6:a1f (s.ax+s.w*s.st) (s.ay+s.h*s.st)=b6):
 Calls prog 89 #[shV s] w λe w'=>e= .returned (.int .i64 (if b6 then 0 else 10))/\Below w.heap.size w w':=by
 obtain⟨ax,ay,st,W,H,G⟩:=s;obtain⟨q10,q11,q20,q21,q30,q31,q40,q41⟩:=hi;simp only at q10 q11 q20 q21 q30 q31 q40 q41 h5 h6;have m1:=Int.mul_le_mul (a:=W) (b:=st) (c:=80) (d:=1024) q21 q11 oM oM;have m2:=Int.mul_le_mul (a:=H) (b:=st) (c:=80) (d:=1024) q31 q11 oM oM;have m3:=Int.mul_nonneg (a:=W) (b:=st) oM oM;have m4:=Int.mul_nonneg (a:=H) (b:=st) oM oM;have m1:W*st<=81920:=m1;have m2:H*st<=81920:=m2;have q5:(-16384<=ax/\ax<=16384) /\ -16384<=ay/\ay<=16384:=a2i.1 h5;obtain⟨⟨q50,q51⟩,q52,q53⟩:=q5;replace h5:=Lib.hid h5;replace h6:=Lib.hid h6
 cases b6 <;>
 ·go_enter func89,ntmps89
  go_wp2_with (go_at_call 90;refine(a5g (by first|with_reducible exact h5.out|with_reducible exact h6.out) _).mono ?_;rintro e w'⟨rfl,hb_⟩;obtain⟨p,rfl⟩:=a0b hb_;clear hb_);go_ret;exact⟨by first|rfl|(simp;done),zC⟩
theorem b5e (s:Sh)(w:World):
 Calls prog 89 #[shV s] w λe w'=>e= .returned (.int .i64 (a1g s))/\Below w.heap.size w w':=by
 by_cases hb:s.st<1\/1024<s.st\/s.w<1\/80<s.w\/s.h<1\/80<s.h\/s.g<1\/4<s.g
 ·rw[c6m hb]
  exact c6n s w hb
 ·have h:(1<=s.st/\s.st<=1024)/\(1<=s.w/\s.w<=80)/\(1<=s.h/\s.h<=80)/\(1<=s.g/\s.g<=4):=oM
  have hi:InS s:=⟨h.1.1,h.1.2,h.2.1.1,h.2.1.2,h.2.2.1.1,h.2.2.1.2,h.2.2.2.1,h.2.2.2.2⟩;rw[c8j h]
  cases h5:a1f s.ax s.ay with
  |false=>exact c6o s w hi h5
  |true=>exact c2z s w _ hi h5 rfl
theorem a8w (hr:a1g s=r)(w:World):
 Calls prog 89 #[shV s] w λe w'=>e= .returned (.int .i64 r)/\Below w.heap.size w w':=by
 have h:=b5e s w;rw[hr]at h;exact h
theorem d6v (s:Sh)(x y:Int)(w:World):
 Calls prog 95 #[shV s,.agg #[.int .i64 x,.int .i64 y]] w λe w'=>e= .returned (.tuple #[.int .i64 (ofS s x y).1,.int .i64 (ofS s x y).2.1,.bool (ofS s x y).2.2])/\Below w.heap.size w w':=by
 obtain⟨b1,h1⟩:=zE (a1f x y);by_cases hc:a1g s=0
 ·have hs:=a4h hc
  obtain⟨i,hi⟩:=zE (c0y s x);obtain⟨j,hj⟩:=zE (c0z s y);obtain⟨b2,h2⟩:=zE (onS s i j);have hr:ofS s x y=if b1=true/\b2=true then(i,j,true)else(0,0,false):=by
   unfold ofS;simp only[hc,h1,hi,hj,h2,true_and]
  rw[hr];clear hr;replace hc:=Lib.hid hc
  cases b1 with
  |false =>
   replace h1:=Lib.hid h1;obtain⟨ax,ay,st,W,H,G⟩:=s;clear h2 hi hj;have hre:(if false=true/\b2=true then(i,j,true)else(0,0,false))=((0,0,false):Int×Int×Bool):=by simp
   rw[hre];clear hre;go_enter func95,ntmps95;go_wp2_with (first|(go_at_call 89;refine(a8w hc.out _).mono ?_;rintro e w'⟨rfl,hb_⟩;obtain⟨p,rfl⟩:=a0b hb_;clear hb_)|(go_at_call 90;refine(a5g h1.out _).mono ?_;rintro e w'⟨rfl,hb_⟩;obtain⟨p,rfl⟩:=a0b hb_;clear hb_));exact yhx
  |true =>
   obtain⟨⟨x0,x1⟩,y0,y1⟩:=a2i.1 h1;replace h1:=Lib.hid h1;replace hi:=Lib.hid hi;replace hj:=Lib.hid hj;replace h2:=Lib.hid h2;obtain⟨ax,ay,st,W,H,G⟩:=s
   cases b2 <;>
   ·go_enter func95,ntmps95
    go_wp2_with (first|(go_at_call 89;refine(a8w hc.out _).mono ?_;rintro e w'⟨rfl,hb_⟩;obtain⟨p,rfl⟩:=a0b hb_;clear hb_)|(go_at_call 90;refine(a5g h1.out _).mono ?_;rintro e w'⟨rfl,hb_⟩;obtain⟨p,rfl⟩:=a0b hb_;clear hb_)|(go_at_call 92;refine(b6t ⟨ax,ay,st,W,H,G⟩ x y i j _ hi.out hj.out hs oM oM oM oM).mono ?_;rintro e w'⟨rfl,hb_⟩;obtain⟨p,rfl⟩:=a0b hb_;clear hb_)|(go_at_call 93;refine(a5n ⟨ax,ay,st,W,H,G⟩ i j _ _ h2.out).mono ?_;rintro e w'⟨rfl,hb_⟩;obtain⟨p,rfl⟩:=a0b hb_;clear hb_));first
     |exact bodyPost_ret (v:= .tuple #[.int .i64 0,.int .i64 0,.bool false]) (by simp[results,results95,go_sem]) rfl ⟨rfl,zC⟩
     |skip
    all_goals
     first|with_reducible refine a0e zM zM ?_|with_reducible refine a0g zM zM ?_
     repeat(first|go_big_quiet_step (fail)|quiet_step (fail))
     refine wpQuiet_nil ?_;intro _ hw_;obtain⟨p,hw_⟩:=hw_;subst hw_;go_wp2_with fail;exact bodyPost_ret (v:= .tuple #[.int .i64 i,.int .i64 j,.bool true]) (by simp[results,results95,go_sem]) rfl ⟨rfl,zC⟩
 ·have hr:ofS s x y=(0,0,false):=by unfold ofS;rw[if_neg (λh=>hc h.1)]
  rw[hr];clear hr;obtain⟨c,hcc⟩:=zE (a1g s);rw[hcc]at hc;replace hcc:=Lib.hid hcc;replace h1:=Lib.hid h1;obtain⟨ax,ay,st,W,H,G⟩:=s;go_enter func95,ntmps95;go_wp2_with (first|(go_at_call 89;refine(a8w hcc.out _).mono ?_;rintro e w'⟨rfl,hb_⟩;obtain⟨p,rfl⟩:=a0b hb_;clear hb_)|(go_at_call 90;refine(a5g h1.out _).mono ?_;rintro e w'⟨rfl,hb_⟩;obtain⟨p,rfl⟩:=a0b hb_;clear hb_));exact yhx
end
section
open Go Go.RowKit Go.Shelf
attribute [local go_sem] Oper.semAt_some
attribute [local go_sem ↓] Go.wp_at_zero Go.wp_at_succ
theorem b5f (a b:Int)(w:World)(ha:fits a)(hb:fits b) :
 Calls prog 149 #[.int .i64 a,.int .i64 b] w λe w'=>e= .returned (.int .i64 (apF a b))/\w=w':=by
 obtain⟨r,hr⟩:=zE (apF a b);rw[hr];unfold apF at hr;obtain⟨a0,a1⟩:=ha;obtain⟨b0,b1⟩:=hb;obtain⟨lo,hlo⟩:=zE ((if a<=b then a else b));obtain⟨hi,hhi⟩:=zE ((if a<=b then b else a));have hle:lo<=hi:=by split at hlo <;> split at hhi <;> omega
 have hr2:(if 80<hi-lo then 80 else hi-lo)=r:=by
  rw[<-hr,<-hlo,<-hhi];exact yhs
 have l0 : -9223372036854775808<=lo:=by rw[<-hlo];split <;> omega
 have l1:hi<=9223372036854775807:=by rw[<-hhi];split <;> omega
 clear hr;have hmin:min a b=lo:=by rw[<-hlo];omega
 have hmax:max a b=hi:=by rw[<-hhi];omega
 go_enter func149,ntmps149;go_upto_region 3 with fail;clear hmin hmax hlo hhi a0 a1 b0 b1;by_cases hneg:lo<0
 ·have hw1:IntKind.i64.wrap (lo+80)=lo+80:=a1m oM oM
  have hge:¬(0<=lo):=oM;by_cases hfar:lo+80<hi
  ·obtain rfl:r=80:=by rw[<-hr2,if_pos oM]
   clear hr2 hle;exact yaw
  ·obtain rfl:r=hi-lo:=by rw[<-hr2,if_neg oM]
   have hw2:IntKind.i64.wrap (hi-lo)=hi-lo:=a1m oM oM;clear hr2 hle;exact yaw
 ·have hw2:IntKind.i64.wrap (hi-lo)=hi-lo:=a1m oM oM
  have hge:0<=lo:=oM;by_cases hfar:80<hi-lo
  ·obtain rfl:r=80:=by rw[<-hr2,if_pos oM]
   clear hr2 hle;exact yaw
  ·obtain rfl:r=hi-lo:=by rw[<-hr2,if_neg oM]
   clear hr2 hle;exact yaw
theorem c6p (va vb:Value)(a b:List Dt)(w:World)(ha:Dts w.heap.size w va a)(hb:Dts w.heap.size w vb b) :
 Calls prog 100 #[va,vb] w λe w'=>e= .returned (.int .i64 (a4w a b))/\Below w.heap.size w w':=by
 obtain⟨la,aa,ca,rfl,ra⟩:=ha.open_;obtain⟨lb,ab,cb,rfl,rb⟩:=hb.open_;go_enter func100,ntmps100;go_wp2_with fail;go_loopw [5,6] (λm i wr=>∃k:Nat,k<=a.length/\m= .int .i64 (a4w (a.take k) b)/\i= .int .i64 k/\Below w.heap.size w wr)
  (λ_ i _=>a.length-(intOf i).toNat)
 case atStart=>exact⟨0,Nat.zero_le _,rfl,rfl,zR _ _⟩
 case round =>
  obtain⟨k,hk,rfl,rfl,hB⟩:=hrel;have hsz:=hB.size;by_cases hlt:k<a.length
  ·have hltI:(k:Int)<(a.length:Int):=oM
   obtain⟨bl,off,rfl,hbl,hrow,f0,f1⟩:=ra k hlt;obtain⟨m0,hm0⟩:=zE (a4w (a.take k) b);have htk:=c1f (a:=a) (b:=b) hlt;rw[hm0]at htk ⊢;obtain⟨d,hd⟩:=zE (a[k]);rw[hd]at hrow f0 f1 htk;clear hm0 hd;replace htk:=Lib.hid htk;go_wp2_with fail;go_loopw [5,7] (λm i wx=>∃j:Nat,j<=b.length/\m= .int .i64 (a4j d m0 (b.take j))/\i= .int .i64 j/\Below w.heap.size w wx)
    (λ_ i _=>b.length-(intOf i).toNat)
   case atStart=>exact⟨0,Nat.zero_le _,rfl,rfl,hB⟩
   case round =>
    clear hB;obtain⟨j,hj,rfl,rfl,hB⟩:=hrel;by_cases hlt2:j<b.length
    ·have hltI2:(j:Int)<(b.length:Int):=oM
     obtain⟨bl2,off2,rfl,hbl2,hrow2,f2,f3⟩:=rb j hlt2;obtain⟨e0,e1,-,-⟩:=hrow2.below hB hbl2;obtain⟨c0,c1,-,-⟩:=hrow.below hB hbl;obtain⟨m1,hm1⟩:=zE (a4j d m0 (b.take j));have htk2:=c1e (d:=d) (m:=m0) hlt2;rw[hm1]at htk2 ⊢;obtain⟨e,he⟩:=zE (b[j]);rw[he]at e0 e1 f2 f3 htk2;clear hm1 he hrow2;have hx:=λX=>b5f d.x e.x X f0 f2
     have hy:=λX=>b5f d.y e.y X f1 f3
     obtain⟨px,hp⟩:=zE (apF d.x e.x);obtain⟨py,hq⟩:=zE (apF d.y e.y);rw[hp]at hx;rw[hq]at hy;have hst:min m1 (max px py)=a4j d m0 (b.take (j+1)):=by
      rw[htk2,<-hp,<-hq];unfold c1d apD;exact yhs
     replace hst:=Lib.hid hst;clear htk2 hp hq f0 f1 f2 f3;go_wp2_with fail;first|with_reducible refine a0e zM zM ?_|with_reducible refine a0g zM zM ?_
     repeat(first|go_big_quiet_step ((go_at_call 149;exact Calls.grow_of_same (hx _)))|quiet_step ((go_at_call 149;exact Calls.grow_of_same (hx _))))
     refine wpQuiet_nil ?_;intro _ hw_;obtain⟨p,hw_⟩:=hw_;subst hw_;go_wp2_with fail;first|with_reducible refine a0e zM zM ?_|with_reducible refine a0g zM zM ?_
     repeat(first|go_big_quiet_step ((go_at_call 149;exact Calls.grow_of_same (hy _)))|quiet_step ((go_at_call 149;exact Calls.grow_of_same (hy _))))
     refine wpQuiet_nil ?_;intro _ hw_;obtain⟨p,hw_⟩:=hw_;subst hw_;go_wp2_with fail;go_roundw
     case rel=>exact⟨j+1,oM,by first|(rw[<-hst.out];done)|(rw[<-hst.out];go_num),by go_num,Go.below_growBy' hB hB.size _⟩
     case measure=>simp[intOf];omega
    ·obtain rfl:j=b.length:=oM
     have hge:¬(b.length:Int)<(b.length:Int):=oM;rw[List.take_length];rw[<-htk.out];go_wp2_with fail;go_roundw
     case rel=>exact⟨k+1,oM,rfl,by go_num,hB⟩
     case measure=>simp[intOf];omega
  ·obtain rfl:k=a.length:=oM
   have hge:¬(a.length:Int)<(a.length:Int):=oM;rw[List.take_length];exact yjl
end
end Go.Proofs.YtfocdbjceedagaaGreatDoor
