/-
  Parts.
-/
import Derived.Test.YteijfnkidefekaaGreatEap
set_option linter.unusedVariables false
set_option linter.unusedSimpArgs false
set_option linter.unusedSectionVars false
set_option maxHeartbeats 4000000
set_option maxRecDepth 100000
namespace Go.Proofs.YteijfnkidefekaaGreat
open Tryz
section
open Go Go.RowKit Go.Shelf Go.Lib
theorem a2y {α:Type} [Inhabited α]{E:El α}{W:Wd}{n0 b off cap:Nat}{l:List α}(h:Lst E n0 W (.slice (some ⟨b,off,none⟩) l.length cap) l)(hlen:∀x,(E.enc x).length=E.s):∀j,j<l.length->∀i v,(E.enc l[j]!)[i]? =some v->W.cell? ⟨b,off+j*E.s+i,none⟩=some v:=by
 intro j hj i v hv;obtain⟨b',dK,bk,e,-,-,hc⟩:=h.some_ xM;simp only[Value.slice.injEq,Option.some.injEq,Addr.mk.injEq]at e;obtain⟨⟨rfl,rfl,-⟩,-,-⟩:=e;have hi:=(List.getElem?_eq_some_iff.1 hv).1;rw[hlen]at hi;rw[getElem!_pos l j hj]at hv;rw[<-hv];exact hc j hj i hi
theorem a9u {α:Type} [DecidableEq α]:∀l m:List α,Lib.allEq (λa b=>decide (a=b)) l m=decide (l=m)
 |[],[]=>by simp[Lib.allEq]
 |[],y::m=>by simp[Lib.allEq]
 |x::l,[]=>by simp[Lib.allEq]
 |x::l,y::m=>by
  have:=a9u l m;by_cases h:x=y <;> simp[Lib.allEq,this,h]
theorem a3o (a b:Bw):(a.toList=b.toList)=(a=b):=by
 rw[ByteArray.toList_eq,ByteArray.toList_eq];refine propext ⟨λh=> ?_,λh=>by rw[h]⟩
 cases a
 cases b;simp only at h;rw[Array.toList_inj.1 h]
theorem b3d {α:Type} [DecidableEq α]{l m:List α}(h:l.length≠m.length):decide (l=m)=false:=decide_eq_false λe=>h (by rw[e])
theorem c3s (a1:Int)(b1:Int)(a2:Int)(b2:Int)(w:Wd):(binOp .neq 41 (.agg #[.int .i64 a1,.int .i64 b1]) (.agg #[.int .i64 a2,.int .i64 b2])).run prog w= .ok (.bool (!decide (((a1,b1):a3v)=(a2,b2)))) w:=by
 have u3:=underlying3;have a3:=isAgg3;have z3:=sizeOf3;have u9:=underlying9;have a9:=isAgg9;have z9:=sizeOf9;have hS:prog.underlying 41=some (.struct (prog.fieldsOf 41)):=by kernel_rfl
 have hp:prog.stoodInHeld 41=false:=by kernel_rfl
 rw[run_neq_struct,show(10000:Nat)=9999+1 from rfl,run_equalIn_agg w 9999 41 _ _ hS hp];simp only[Program.fieldsOf,underlying41];clear hS;go_simp;by_cases ha:a1=a2 <;> by_cases hb:b1=b2 <;> simp[a3o,ha,hb]
theorem c5t :NeqAt prog 41 (λx:a3v=> .agg (ptE.enc x).toArray) (λa b=>decide (a=b)):=by
 refine⟨λa b w=> ?_,λop p q a b w=>run_eqGuard_agg w op 41 p q _ _ zM⟩;obtain⟨a1,b1⟩:=a;obtain⟨a2,b2⟩:=b;exact c3s a1 b1 a2 b2 w
theorem c7l (a1 a2:Option Addr)(n c m d:Nat)(w:Wd)(h:n≠m\/n=0) :
 Zc prog 23 #[.slice a1 n c,.slice a2 m d] w (.bool (decide (n=m))):=by
 by_cases nQ:n=m
 ·subst nQ
  obtain rfl:=h.resolve_left vM;go_enter func23,ntmps23;exact yex
 ·have an:((n:Int) != (m:Int))=true:=by simp;omega
  rw[decide_eq_false nQ];go_enter func23,ntmps23;exact ybd
theorem b0y (v1 v2:Vu)(l1 l2:List a3v)(w:Wd)(h1:Lst ptE w.heap.size w v1 l1)(h2:Lst ptE w.heap.size w v2 l2) :
 Zc prog 23 #[v1,v2] w (.bool (decide (l1=l2))):=by
 obtain⟨a1,c1,rfl,-⟩:=h1.form;obtain⟨a2,c2,rfl,-⟩:=h2.form;by_cases hc:l1.length≠l2.length\/l1.length=0
 ·have:=c7l a1 a2 l1.length c1 l2.length c2 w hc
  exact ybu
 ·have he:l1.length=l2.length:=xM
  have h0:0<l1.length:=xM;obtain⟨b1,o1,d1,e1,-,-,k1⟩:=h1.some_ h0;obtain⟨b2,o2,d2,e2,-,-,k2⟩:=h2.some_ xM;simp only[Value.slice.injEq,true_and]at e1 e2;obtain⟨rfl,rfl⟩:=e1;obtain⟨rfl,rfl⟩:=e2;have ck:=h1.len;have dp:=h2.len;refine(AnyQ.slices_Equal Tryz.equalPt 2 isAgg41 sizeOf41 ptE.enc (λ_=>rfl) (λa b=>decide (a=b)) c5t b1 o1 l1.length c1 b2 o2 l2.length c2 l1 l2 w (yR _) (yR _) xM xM (a2y h1 (λ_=>rfl)) (a2y h2 (λ_=>rfl))).mono ?_;exact yev
theorem c3t (a1:Int)(b1:Bw)(c1:Bw)(d1:Int)(e1:Int)(a2:Int)(b2:Bw)(c2:Bw)(d2:Int)(e2:Int)(w:Wd):(binOp .neq 43 (.agg #[.int .i64 a1,.string b1,.string c1,.int .i64 d1,.int .i64 e1]) (.agg #[.int .i64 a2,.string b2,.string c2,.int .i64 d2,.int .i64 e2])).run prog w= .ok (.bool (!decide ((⟨a1,b1,c1,d1,e1⟩:Fc)=⟨a2,b2,c2,d2,e2⟩))) w:=by
 have u3:=underlying3;have a3:=isAgg3;have z3:=sizeOf3;have u9:=underlying9;have a9:=isAgg9;have z9:=sizeOf9;have hS:prog.underlying 43=some (.struct (prog.fieldsOf 43)):=by kernel_rfl
 have hp:prog.stoodInHeld 43=false:=by kernel_rfl
 rw[run_neq_struct,show(10000:Nat)=9999+1 from rfl,run_equalIn_agg w 9999 43 _ _ hS hp];simp only[Program.fieldsOf,underlying43];clear hS;go_simp;by_cases ha:a1=a2 <;> by_cases hb:b1=b2 <;> by_cases hc:c1=c2 <;> by_cases hd:d1=d2 <;> by_cases he:e1=e2 <;> simp[a3o,ha,hb,hc,hd,he]
theorem c5u :NeqAt prog 43 (λx:Fc=> .agg (fcE.enc x).toArray) (λa b=>decide (a=b)):=by
 refine⟨λa b w=> ?_,λop p q a b w=>run_eqGuard_agg w op 43 p q _ _ zM⟩;obtain⟨a1,b1,c1,d1,e1⟩:=a;obtain⟨a2,b2,c2,d2,e2⟩:=b;exact c3t a1 b1 c1 d1 e1 a2 b2 c2 d2 e2 w
theorem c7m (a1 a2:Option Addr)(n c m d:Nat)(w:Wd)(h:n≠m\/n=0) :
 Zc prog 26 #[.slice a1 n c,.slice a2 m d] w (.bool (decide (n=m))):=by
 by_cases nQ:n=m
 ·subst nQ
  obtain rfl:=h.resolve_left vM;go_enter func26,ntmps26;exact yex
 ·have an:((n:Int) != (m:Int))=true:=by simp;omega
  rw[decide_eq_false nQ];go_enter func26,ntmps26;exact ybd
theorem c3u (v1 v2:Vu)(l1 l2:List Fc)(w:Wd)(h1:Lst fcE w.heap.size w v1 l1)(h2:Lst fcE w.heap.size w v2 l2) :
 Zc prog 26 #[v1,v2] w (.bool (decide (l1=l2))):=by
 obtain⟨a1,c1,rfl,-⟩:=h1.form;obtain⟨a2,c2,rfl,-⟩:=h2.form;by_cases hc:l1.length≠l2.length\/l1.length=0
 ·have:=c7m a1 a2 l1.length c1 l2.length c2 w hc
  exact ybu
 ·have he:l1.length=l2.length:=xM
  have h0:0<l1.length:=xM;obtain⟨b1,o1,d1,e1,-,-,k1⟩:=h1.some_ h0;obtain⟨b2,o2,d2,e2,-,-,k2⟩:=h2.some_ xM;simp only[Value.slice.injEq,true_and]at e1 e2;obtain⟨rfl,rfl⟩:=e1;obtain⟨rfl,rfl⟩:=e2;have ck:=h1.len;have dp:=h2.len;refine(AnyQ.slices_Equal Tryz.equalFc 5 isAgg43 sizeOf43 fcE.enc (λ_=>rfl) (λa b=>decide (a=b)) c5u b1 o1 l1.length c1 b2 o2 l2.length c2 l1 l2 w (yR _) (yR _) xM xM (a2y h1 (λ_=>rfl)) (a2y h2 (λ_=>rfl))).mono ?_;exact yev
theorem c7n (a1:Int)(b1:Int)(c1:Int)(d1:Bw)(e1:Bw)(f1:Int)(g1:Int)(a2:Int)(b2:Int)(c2:Int)(d2:Bw)(e2:Bw)(f2:Int)(g2:Int)(w:Wd):(binOp .neq 48 (.agg #[.int .i64 a1,.int .i64 b1,.int .i64 c1,.string d1,.string e1,.int .i64 f1,.int .i64 g1]) (.agg #[.int .i64 a2,.int .i64 b2,.int .i64 c2,.string d2,.string e2,.int .i64 f2,.int .i64 g2])).run prog w= .ok (.bool (!decide ((⟨a1,b1,c1,d1,e1,f1,g1⟩:Pc)=⟨a2,b2,c2,d2,e2,f2,g2⟩))) w:=by
 have u3:=underlying3;have a3:=isAgg3;have z3:=sizeOf3;have u9:=underlying9;have a9:=isAgg9;have z9:=sizeOf9;have up:=underlying41;have ap:=isAgg41;have zp:=sizeOf41;have hS:prog.underlying 48=some (.struct (prog.fieldsOf 48)):=by kernel_rfl
 have hp:prog.stoodInHeld 48=false:=by kernel_rfl
 rw[run_neq_struct,show(10000:Nat)=9999+1 from rfl,run_equalIn_agg w 9999 48 _ _ hS hp];exact yek
theorem c5v :NeqAt prog 48 (λx:Pc=> .agg (plE.enc x).toArray) (λa b=>decide (a=b)):=by
 refine⟨λa b w=> ?_,λop p q a b w=>run_eqGuard_agg w op 48 p q _ _ zM⟩;obtain⟨a1,b1,c1,d1,e1,f1,g1⟩:=a;obtain⟨a2,b2,c2,d2,e2,f2,g2⟩:=b;exact c7n a1 b1 c1 d1 e1 f1 g1 a2 b2 c2 d2 e2 f2 g2 w
theorem c7o (a1 a2:Option Addr)(n c m d:Nat)(w:Wd)(h:n≠m\/n=0) :
 Zc prog 28 #[.slice a1 n c,.slice a2 m d] w (.bool (decide (n=m))):=by
 by_cases nQ:n=m
 ·subst nQ
  obtain rfl:=h.resolve_left vM;go_enter func28,ntmps28;exact yex
 ·have an:((n:Int) != (m:Int))=true:=by simp;omega
  rw[decide_eq_false nQ];go_enter func28,ntmps28;exact ybd
theorem c3v (v1 v2:Vu)(l1 l2:List Pc)(w:Wd)(h1:Lst plE w.heap.size w v1 l1)(h2:Lst plE w.heap.size w v2 l2) :
 Zc prog 28 #[v1,v2] w (.bool (decide (l1=l2))):=by
 obtain⟨a1,c1,rfl,-⟩:=h1.form;obtain⟨a2,c2,rfl,-⟩:=h2.form;by_cases hc:l1.length≠l2.length\/l1.length=0
 ·have:=c7o a1 a2 l1.length c1 l2.length c2 w hc
  exact ybu
 ·have he:l1.length=l2.length:=xM
  have h0:0<l1.length:=xM;obtain⟨b1,o1,d1,e1,-,-,k1⟩:=h1.some_ h0;obtain⟨b2,o2,d2,e2,-,-,k2⟩:=h2.some_ xM;simp only[Value.slice.injEq,true_and]at e1 e2;obtain⟨rfl,rfl⟩:=e1;obtain⟨rfl,rfl⟩:=e2;have ck:=h1.len;have dp:=h2.len;refine(AnyQ.slices_Equal Tryz.equalPc 7 isAgg48 sizeOf48 plE.enc (λ_=>rfl) (λa b=>decide (a=b)) c5v b1 o1 l1.length c1 b2 o2 l2.length c2 l1 l2 w (yR _) (yR _) xM xM (a2y h1 (λ_=>rfl)) (a2y h2 (λ_=>rfl))).mono ?_;exact yev
theorem c1f (x y:Eg)(w:Wd)(hx:Ln w.heap.size w x.sl x.line)(hy:Ln w.heap.size w y.sl y.line):Zc prog 22 #[vEg x,vEg y] w (.bool (decide (x.key=y.key))):=by
 obtain⟨e0,e1,e2,e3,e4,e5,e6⟩:=x;obtain⟨u0,u1,u2,u3,u4,u5,u6⟩:=y;have ah:Below w.heap.size w ((w.alloc (.cells #[.int .i64 e0,.slice e1 e2 e3,.int .i64 e5,.int .i64 e6] 71)).alloc (.cells #[.int .i64 u0,.slice u1 u2 u3,.int .i64 u5,.int .i64 u6] 71)):=by exact zC
 obtain⟨tl,eU⟩:=zE (decide (e4=u4));obtain⟨t0,rk⟩:=zE ((e0==u0));obtain⟨t5,vE⟩:=zE ((e5==u5));obtain⟨t6,mO⟩:=zE ((e6==u6));have hr:decide ((⟨e0,e1,e2,e3,e4,e5,e6⟩:Eg).key=(⟨u0,u1,u2,u3,u4,u5,u6⟩:Eg).key)=(t0&&t5&&t6&&tl):=by
  rw[Bool.eq_iff_iff];subst rk vE mO eU;simp only[Eg.key,Ek.mk.injEq,decide_eq_true_eq,Bool.and_eq_true,beq_iff_eq];exact⟨λh=>by simp_all,λh=>by simp_all⟩
 obtain⟨r,aL⟩:=zE (decide ((⟨e0,e1,e2,e3,e4,e5,e6⟩:Eg).key=(⟨u0,u1,u2,u3,u4,u5,u6⟩:Eg).key));rw[aL]at hr ⊢;replace hr:=Lib.hid hr;clear aL;have hq:=b0y (.slice e1 e2 e3) (.slice u1 u2 u3) e4 u4 _ (hx.lst.up ah) (hy.lst.up ah);rw[eU]at hq;clear eU;clear hx hy;go_enter func22,ntmps22;exact yfj
theorem c1g (x y:Wq)(w:Wd)(hx:Ln w.heap.size w x.sl x.line)(hy:Ln w.heap.size w y.sl y.line):Zc prog 24 #[vWq x,vWq y] w (.bool (decide (x.key=y.key))):=by
 obtain⟨e0,e1,e2,e3,e4,e5,e6,e7,e8,e9,bH⟩:=x;obtain⟨u0,u1,u2,u3,u4,u5,u6,u7,u8,u9,u10⟩:=y;have ah:Below w.heap.size w ((w.alloc (.cells #[.int .i64 e0,.slice e1 e2 e3,.int .i64 e5,.string e6,.string e7,.bool e8,.int .i64 e9,.int .i64 bH] 46)).alloc (.cells #[.int .i64 u0,.slice u1 u2 u3,.int .i64 u5,.string u6,.string u7,.bool u8,.int .i64 u9,.int .i64 u10] 46)):=by exact zC
 obtain⟨tl,eU⟩:=zE (decide (e4=u4));obtain⟨t0,rk⟩:=zE ((e0==u0));obtain⟨t5,vE⟩:=zE ((e5==u5));obtain⟨t6,mO⟩:=zE (decide (e6=u6));obtain⟨t7,H5⟩:=zE (decide (e7=u7));obtain⟨t8,H6⟩:=zE ((e8==u8));obtain⟨t9,oY⟩:=zE ((e9==u9));obtain⟨t10,pR⟩:=zE ((bH==u10));have hr:decide ((⟨e0,e1,e2,e3,e4,e5,e6,e7,e8,e9,bH⟩:Wq).key=(⟨u0,u1,u2,u3,u4,u5,u6,u7,u8,u9,u10⟩:Wq).key)=(tl&&t0&&t5&&t6&&t7&&t8&&t9&&t10):=by
  exact yfs
 obtain⟨r,aL⟩:=zE (decide ((⟨e0,e1,e2,e3,e4,e5,e6,e7,e8,e9,bH⟩:Wq).key=(⟨u0,u1,u2,u3,u4,u5,u6,u7,u8,u9,u10⟩:Wq).key));rw[aL]at hr ⊢;replace hr:=Lib.hid hr;clear aL;have hq:=b0y (.slice e1 e2 e3) (.slice u1 u2 u3) e4 u4 _ (hx.lst.up ah) (hy.lst.up ah);rw[eU]at hq;clear eU;clear hx hy;go_enter func24,ntmps24;exact yfj
theorem c1h (x y:Eg)(w:Wd)(hx:Ln w.heap.size w x.sl x.line)(hy:Ln w.heap.size w y.sl y.line):Zc prog 47 #[vEg x,vEg y] w (.bool (decide ((x.id,x.lf,x.rt,x.line.length)=(y.id,y.lf,y.rt,y.line.length)))):=by
 obtain⟨e0,e1,e2,e3,e4,e5,e6⟩:=x;obtain⟨u0,u1,u2,u3,u4,u5,u6⟩:=y;have ah:Below w.heap.size w ((w.alloc (.cells #[.int .i64 e0,.slice e1 e2 e3,.int .i64 e5,.int .i64 e6] 71)).alloc (.cells #[.int .i64 u0,.slice u1 u2 u3,.int .i64 u5,.int .i64 u6] 71)):=by exact zC
 have l1:e2=e4.length:=by obtain⟨a,c,e,-⟩:=hx.lst.form;simp only[Value.slice.injEq]at e;exact e.2.1
 have l2:u2=u4.length:=by obtain⟨a,c,e,-⟩:=hy.lst.form;simp only[Value.slice.injEq]at e;exact e.2.1
 obtain⟨tl,eU⟩:=zE (((e2:Int)==(u2:Int)));obtain⟨t0,rk⟩:=zE ((e0==u0));obtain⟨t5,vE⟩:=zE ((e5==u5));obtain⟨t6,mO⟩:=zE ((e6==u6));have hr:decide ((e0,e5,e6,e4.length)=(u0,u5,u6,u4.length))=(t0&&t5&&t6&&tl):=by
  rw[Bool.eq_iff_iff];subst rk vE mO eU;simp only[Prod.mk.injEq,decide_eq_true_eq,Bool.and_eq_true,beq_iff_eq];rw[l1,l2];exact⟨λh=>⟨⟨⟨h.1,h.2.1⟩,h.2.2.1⟩,xM⟩,λh=>⟨h.1.1.1,h.1.1.2,h.1.2,xM⟩⟩
 obtain⟨r,aL⟩:=zE (decide ((e0,e5,e6,e4.length)=(u0,u5,u6,u4.length)));rw[aL]at hr ⊢;replace hr:=Lib.hid hr;clear aL;clear hx hy l1 l2;go_enter func47,ntmps47;exact yjl
theorem c1i (x y:Fc)(w:Wd):Zc prog 49 #[vFc x,vFc y] w (.bool (decide ((x.id,x.ds)=(y.id,y.ds)))):=by
 obtain⟨e0,e1,e2,e3,e4⟩:=x;obtain⟨u0,u1,u2,u3,u4⟩:=y;obtain⟨t0,rk⟩:=zE ((e0==u0));obtain⟨t4,Ml⟩:=zE ((e4==u4));have hr:decide ((e0,e4)=(u0,u4))=(t0&&t4):=by
  rw[Bool.eq_iff_iff];subst rk Ml;simp only[Prod.mk.injEq,decide_eq_true_eq,Bool.and_eq_true,beq_iff_eq]
 obtain⟨r,aL⟩:=zE (decide ((e0,e4)=(u0,u4)));rw[aL]at hr ⊢;replace hr:=Lib.hid hr;clear aL;go_enter func49,ntmps49;exact yjl
def a6q {α β:Type}(p:α->β->Bool)(l:List α)(m:List β):Bool:=decide (l.length=m.length)&&(l.zip m).all λq=>p q.1 q.2
section
variable {α β:Type}{p:α->β->Bool}{l:List α}{m:List β}
theorem b0z (h:l.length≠m.length):a6q p l m=false:=by simp[a6q,h]
theorem c1j {k:Nat}(h1:k<l.length)(h2:k<m.length)(h:p l[k] m[k]=false):a6q p l m=false:=by
 unfold a6q;rw[Bool.and_eq_false_iff];right;rw[List.all_eq_false];refine⟨(l[k],m[k]),?_,by simp[h]⟩;have hz:k<(l.zip m).length:=by simp;omega
 have:=List.getElem_mem hz;rwa [List.getElem_zip]at this
theorem a5u (hl:l.length=m.length)(h:∀k,(h1:k<l.length)->(h2:k<m.length)->p l[k] m[k]=true):a6q p l m=true:=by
 unfold a6q;rw[Bool.and_eq_true];refine⟨by simpa using hl,List.all_eq_true.2 λq hq=> ?_⟩;obtain⟨k,hk,rfl⟩:=List.getElem_of_mem hq;rw[List.getElem_zip];exact h k (by simp at hk;omega) (by simp at hk;omega)
theorem a5v {γ:Type} [DecidableEq γ](f:α->γ)(g:β->γ):∀(l:List α) (m:List β),a6q (λx y=>decide (f x=g y)) l m=decide (l.map f=m.map g)
 |[],[]=>by simp[a6q]
 |[],y::m=>by simp[a6q]
 |x::l,[]=>by simp[a6q]
 |x::l,y::m=>by
  have ih:=a5v f g l m;unfold a6q at ih ⊢;rw[List.zip_cons_cons,List.all_cons,List.map_cons,List.map_cons];by_cases h:f x=g y
  ·simp only[h,decide_true,Bool.true_and,List.length_cons,Nat.add_right_cancel_iff,List.cons.injEq,true_and]
   exact ih
  ·simp[h]
end
theorem c1k (v1 v2:Vu)(l1 l2:List Eg)(w:Wd)(h1:Lst egE w.heap.size w v1 l1)(h2:Lst egE w.heap.size w v2 l2)(gG:∀x∈l1,Ln w.heap.size w x.sl x.line)(dC:∀x∈l2,Ln w.heap.size w x.sl x.line)(ck:l1.length<=1000)(dp:l2.length<=1000) :
 Zc prog 25 #[v1,v2,.func (.func 22) #[] #[]] w (.bool (a6q (λx y:Eg=>decide (x.key=y.key)) l1 l2)):=by
 have mixed:prog.follows .mixedOrders=true:=by kernel_rfl
 obtain⟨a1,c1,rfl,-⟩:=h1.form;obtain⟨a2,c2,rfl,-⟩:=h2.form;by_cases hc:l1.length=l2.length
 ·by_cases h0:l1.length=0
  ·have hr:a6q (λx y:Eg=>decide (x.key=y.key)) l1 l2=true:=a5u hc λk hk _=>by omega
   exact yem
  ·obtain⟨b1,o1,d1,e1,-,fD,k1⟩:=h1.some_ xM
   obtain⟨b2,o2,d2,e2,-,fE,k2⟩:=h2.some_ xM;simp only[Value.slice.injEq,true_and]at e1 e2;obtain⟨rfl,rfl⟩:=e1;obtain⟨rfl,rfl⟩:=e2;obtain⟨N,hN⟩:=zE l1.length;have ib:l2.length=N:=hc▸hN;rw[hN,ib];rw[hN]at ck h0;obtain⟨R,hR⟩:=zE (a6q (λx y:Eg=>decide (x.key=y.key)) l1 l2);rw[hR];replace hR:=Lib.hid hR;replace hc:=Lib.hid hc;replace hN:=Lib.hid hN;replace ib:=Lib.hid ib;clear h1 h2 dp;go_enter func25,ntmps25;go_wp2_with fail;go_loopw [17] (λvk wr=>∃k:Nat,vk= .int .i64 (k:Nat)/\k<=N/\Hid (Below w.heap.size w wr)/\Hid (∀j,(g1:j<l1.length)->(g2:j<l2.length)->j<k->(λx y:Eg=>decide (x.key=y.key)) l1[j] l2[j]=true)) (λvk _=>N+1-(intOf vk).toNat)
   case atStart=>exact yge
   case round =>
    obtain⟨k,rfl,DU,al,aa⟩:=hrel;by_cases ab:k<N
    ·have aj:(k:Int)<(N:Int):=xM
     have hk:k<l1.length:=by rw[hN.out];exact ab
     have cW:k<l2.length:=by rw[ib.out];exact ab
     replace al:=al.out;have vB:=al.size;have bO:∀W,Below w.heap.size w W->Zc prog 22 #[vEg l1[k],vEg l2[k]] W (.bool (decide (let x:=l1[k];let y:=l2[k];x.key=y.key))):=λW hb=>c1f l1[k] l2[k] W (((gG _ (List.getElem_mem hk)).below hb).mono hb.size) (((dC _ (List.getElem_mem cW)).below hb).mono hb.size)
     obtain⟨x,hex⟩:=zE (l1[k]);obtain⟨y,i6⟩:=zE (l2[k]);rw[hex,i6]at bO;obtain⟨r,hr⟩:=zE (decide (x.key=y.key));replace bO:∀W,Below w.heap.size w W->Zc prog 22 #[vEg x,vEg y] W (.bool r):=λW hb=>hr▸bO W hb
     have ai:Hid (r=false->R=false):=λh=>by
      exact yeh
     have cG:Hid (r=true->∀j,(g1:j<l1.length)->(g2:j<l2.length)->j<k+1->(λx y:Eg=>decide (x.key=y.key)) l1[j] l2[j]=true):=λh j g1 g2 hj=>by
      exact ycz
     have eD:∀i,i<4->w.cell? ⟨b1,o1+k*4+i,none⟩=(egE.enc x)[i]? :=λi hi=>by rw[<-hex];exact k1 k hk i hi
     have eE:∀i,i<4->w.cell? ⟨b2,o2+k*4+i,none⟩=(egE.enc y)[i]? :=λi hi=>by rw[<-i6];exact k2 k cW i hi
     clear hr;obtain⟨e0,e1,e2,e3,e4,e5,e6⟩:=x;obtain⟨u0,u1,u2,u3,u4,u5,u6⟩:=y;have DV:wr.cell? ⟨b1,o1+k*4,none⟩=some (.int .i64 e0):=(al.cell (p:=⟨b1,o1+k*4+0,none⟩) fD).trans (eD 0 jM);have DW:wr.cell? ⟨b1,o1+k*4+1,none⟩=some (.slice e1 e2 e3):=(al.cell (p:=⟨b1,o1+k*4+1,none⟩) fD).trans (eD 1 jM);have DX:wr.cell? ⟨b1,o1+k*4+2,none⟩=some (.int .i64 e5):=(al.cell (p:=⟨b1,o1+k*4+2,none⟩) fD).trans (eD 2 jM);have DZ:wr.cell? ⟨b1,o1+k*4+3,none⟩=some (.int .i64 e6):=(al.cell (p:=⟨b1,o1+k*4+3,none⟩) fD).trans (eD 3 jM);have D0:wr.cell? ⟨b2,o2+k*4,none⟩=some (.int .i64 u0):=(al.cell (p:=⟨b2,o2+k*4+0,none⟩) fE).trans (eE 0 jM);have D1:wr.cell? ⟨b2,o2+k*4+1,none⟩=some (.slice u1 u2 u3):=(al.cell (p:=⟨b2,o2+k*4+1,none⟩) fE).trans (eE 1 jM);have D2:wr.cell? ⟨b2,o2+k*4+2,none⟩=some (.int .i64 u5):=(al.cell (p:=⟨b2,o2+k*4+2,none⟩) fE).trans (eE 2 jM);have D3:wr.cell? ⟨b2,o2+k*4+3,none⟩=some (.int .i64 u6):=(al.cell (p:=⟨b2,o2+k*4+3,none⟩) fE).trans (eE 3 jM);clear hex i6 aa eD eE;replace cG:=Lib.hid cG
     cases r with
     |true =>
      go_wp2_with (first
       |(go_at_call 22;(with_reducible refine(bO _ (by exact zC)).mono ?_);rintro e w'⟨rfl,aE⟩;obtain⟨p,rfl⟩:=a0j aE;clear aE))
      exact ycr
     |false =>
      go_wp2_with (first
       |(go_at_call 22;(with_reducible refine(bO _ (by exact zC)).mono ?_);rintro e w'⟨rfl,aE⟩;obtain⟨p,rfl⟩:=a0j aE;clear aE))
      exact yey
    ·exact yas
 ·have hr:a6q (λx y:Eg=>decide (x.key=y.key)) l1 l2=false:=b0z hc
  exact yhv
theorem c1l (v1 v2:Vu)(l1 l2:List Wq)(w:Wd)(h1:Lst wqE w.heap.size w v1 l1)(h2:Lst wqE w.heap.size w v2 l2)(gG:∀x∈l1,Ln w.heap.size w x.sl x.line)(dC:∀x∈l2,Ln w.heap.size w x.sl x.line)(ck:l1.length<=1000)(dp:l2.length<=1000) :
 Zc prog 27 #[v1,v2,.func (.func 24) #[] #[]] w (.bool (a6q (λx y:Wq=>decide (x.key=y.key)) l1 l2)):=by
 have mixed:prog.follows .mixedOrders=true:=by kernel_rfl
 obtain⟨a1,c1,rfl,-⟩:=h1.form;obtain⟨a2,c2,rfl,-⟩:=h2.form;by_cases hc:l1.length=l2.length
 ·by_cases h0:l1.length=0
  ·have hr:a6q (λx y:Wq=>decide (x.key=y.key)) l1 l2=true:=a5u hc λk hk _=>by omega
   rw[hr];obtain rfl:=List.eq_nil_of_length_eq_zero h0;obtain rfl:=List.eq_nil_of_length_eq_zero (hc▸h0);clear hr gG dC;go_enter func27,ntmps27;exact yhb
  ·obtain⟨b1,o1,d1,e1,-,fD,k1⟩:=h1.some_ xM
   obtain⟨b2,o2,d2,e2,-,fE,k2⟩:=h2.some_ xM;simp only[Value.slice.injEq,true_and]at e1 e2;obtain⟨rfl,rfl⟩:=e1;obtain⟨rfl,rfl⟩:=e2;obtain⟨N,hN⟩:=zE l1.length;have ib:l2.length=N:=hc▸hN;rw[hN,ib];rw[hN]at ck h0;obtain⟨R,hR⟩:=zE (a6q (λx y:Wq=>decide (x.key=y.key)) l1 l2);rw[hR];replace hR:=Lib.hid hR;replace hc:=Lib.hid hc;replace hN:=Lib.hid hN;replace ib:=Lib.hid ib;clear h1 h2 dp;go_enter func27,ntmps27;go_wp2_with fail;go_loopw [17] (λvk wr=>∃k:Nat,vk= .int .i64 (k:Nat)/\k<=N/\Hid (Below w.heap.size w wr)/\Hid (∀j,(g1:j<l1.length)->(g2:j<l2.length)->j<k->(λx y:Wq=>decide (x.key=y.key)) l1[j] l2[j]=true)) (λvk _=>N+1-(intOf vk).toNat)
   case atStart=>exact yge
   case round =>
    obtain⟨k,rfl,DU,al,aa⟩:=hrel;by_cases ab:k<N
    ·have aj:(k:Int)<(N:Int):=xM
     have hk:k<l1.length:=by rw[hN.out];exact ab
     have cW:k<l2.length:=by rw[ib.out];exact ab
     replace al:=al.out;have vB:=al.size;have bO:∀W,Below w.heap.size w W->Zc prog 24 #[vWq l1[k],vWq l2[k]] W (.bool (decide (let x:=l1[k];let y:=l2[k];x.key=y.key))):=λW hb=>c1g l1[k] l2[k] W (((gG _ (List.getElem_mem hk)).below hb).mono hb.size) (((dC _ (List.getElem_mem cW)).below hb).mono hb.size)
     obtain⟨x,hex⟩:=zE (l1[k]);obtain⟨y,i6⟩:=zE (l2[k]);rw[hex,i6]at bO;obtain⟨r,hr⟩:=zE (decide (x.key=y.key));replace bO:∀W,Below w.heap.size w W->Zc prog 24 #[vWq x,vWq y] W (.bool r):=λW hb=>hr▸bO W hb
     have ai:Hid (r=false->R=false):=λh=>by
      exact yeh
     have cG:Hid (r=true->∀j,(g1:j<l1.length)->(g2:j<l2.length)->j<k+1->(λx y:Wq=>decide (x.key=y.key)) l1[j] l2[j]=true):=λh j g1 g2 hj=>by
      exact ycz
     have eD:∀i,i<8->w.cell? ⟨b1,o1+k*8+i,none⟩=(wqE.enc x)[i]? :=λi hi=>by rw[<-hex];exact k1 k hk i hi
     have eE:∀i,i<8->w.cell? ⟨b2,o2+k*8+i,none⟩=(wqE.enc y)[i]? :=λi hi=>by rw[<-i6];exact k2 k cW i hi
     clear hr;obtain⟨e0,e1,e2,e3,e4,e5,e6,e7,e8,e9,bH⟩:=x;obtain⟨u0,u1,u2,u3,u4,u5,u6,u7,u8,u9,u10⟩:=y;have DV:wr.cell? ⟨b1,o1+k*8,none⟩=some (.int .i64 e0):=(al.cell (p:=⟨b1,o1+k*8+0,none⟩) fD).trans (eD 0 jM);have DW:wr.cell? ⟨b1,o1+k*8+1,none⟩=some (.slice e1 e2 e3):=(al.cell (p:=⟨b1,o1+k*8+1,none⟩) fD).trans (eD 1 jM);have DX:wr.cell? ⟨b1,o1+k*8+2,none⟩=some (.int .i64 e5):=(al.cell (p:=⟨b1,o1+k*8+2,none⟩) fD).trans (eD 2 jM);have DZ:wr.cell? ⟨b1,o1+k*8+3,none⟩=some (.string e6):=(al.cell (p:=⟨b1,o1+k*8+3,none⟩) fD).trans (eD 3 jM);have Mm:wr.cell? ⟨b1,o1+k*8+4,none⟩=some (.string e7):=(al.cell (p:=⟨b1,o1+k*8+4,none⟩) fD).trans (eD 4 jM);have Qb:wr.cell? ⟨b1,o1+k*8+5,none⟩=some (.bool e8):=(al.cell (p:=⟨b1,o1+k*8+5,none⟩) fD).trans (eD 5 jM);have Qc:wr.cell? ⟨b1,o1+k*8+6,none⟩=some (.int .i64 e9):=(al.cell (p:=⟨b1,o1+k*8+6,none⟩) fD).trans (eD 6 jM);have Qd:wr.cell? ⟨b1,o1+k*8+7,none⟩=some (.int .i64 bH):=(al.cell (p:=⟨b1,o1+k*8+7,none⟩) fD).trans (eD 7 jM);have D0:wr.cell? ⟨b2,o2+k*8,none⟩=some (.int .i64 u0):=(al.cell (p:=⟨b2,o2+k*8+0,none⟩) fE).trans (eE 0 jM);have D1:wr.cell? ⟨b2,o2+k*8+1,none⟩=some (.slice u1 u2 u3):=(al.cell (p:=⟨b2,o2+k*8+1,none⟩) fE).trans (eE 1 jM);have D2:wr.cell? ⟨b2,o2+k*8+2,none⟩=some (.int .i64 u5):=(al.cell (p:=⟨b2,o2+k*8+2,none⟩) fE).trans (eE 2 jM);have D3:wr.cell? ⟨b2,o2+k*8+3,none⟩=some (.string u6):=(al.cell (p:=⟨b2,o2+k*8+3,none⟩) fE).trans (eE 3 jM);have Mn:wr.cell? ⟨b2,o2+k*8+4,none⟩=some (.string u7):=(al.cell (p:=⟨b2,o2+k*8+4,none⟩) fE).trans (eE 4 jM);have Qe:wr.cell? ⟨b2,o2+k*8+5,none⟩=some (.bool u8):=(al.cell (p:=⟨b2,o2+k*8+5,none⟩) fE).trans (eE 5 jM);have Qf:wr.cell? ⟨b2,o2+k*8+6,none⟩=some (.int .i64 u9):=(al.cell (p:=⟨b2,o2+k*8+6,none⟩) fE).trans (eE 6 jM);have Qg:wr.cell? ⟨b2,o2+k*8+7,none⟩=some (.int .i64 u10):=(al.cell (p:=⟨b2,o2+k*8+7,none⟩) fE).trans (eE 7 jM);clear hex i6 aa eD eE;replace cG:=Lib.hid cG
     cases r with
     |true =>
      go_wp2_with (first
       |(go_at_call 24;(with_reducible refine(bO _ (by exact zC)).mono ?_);rintro e w'⟨rfl,aE⟩;obtain⟨p,rfl⟩:=a0j aE;clear aE))
      exact ycr
     |false =>
      go_wp2_with (first
       |(go_at_call 24;(with_reducible refine(bO _ (by exact zC)).mono ?_);rintro e w'⟨rfl,aE⟩;obtain⟨p,rfl⟩:=a0j aE;clear aE))
      exact yey
    ·exact yas
 ·have hr:a6q (λx y:Wq=>decide (x.key=y.key)) l1 l2=false:=b0z hc
  rw[hr];have an:((l1.length:Int) != (l2.length:Int))=true:=by simp;omega
  clear hr gG dC;go_enter func27,ntmps27;exact ybd
theorem c1m (v1 v2:Vu)(l1 l2:List Eg)(w:Wd)(h1:Lst egE w.heap.size w v1 l1)(h2:Lst egE w.heap.size w v2 l2)(gG:∀x∈l1,Ln w.heap.size w x.sl x.line)(dC:∀x∈l2,Ln w.heap.size w x.sl x.line)(ck:l1.length<=1000)(dp:l2.length<=1000) :
 Zc prog 25 #[v1,v2,.func (.func 47) #[] #[]] w (.bool (a6q (λx y:Eg=>decide ((x.id,x.lf,x.rt,x.line.length)=(y.id,y.lf,y.rt,y.line.length))) l1 l2)):=by
 have mixed:prog.follows .mixedOrders=true:=by kernel_rfl
 obtain⟨a1,c1,rfl,-⟩:=h1.form;obtain⟨a2,c2,rfl,-⟩:=h2.form;by_cases hc:l1.length=l2.length
 ·by_cases h0:l1.length=0
  ·have hr:a6q (λx y:Eg=>decide ((x.id,x.lf,x.rt,x.line.length)=(y.id,y.lf,y.rt,y.line.length))) l1 l2=true:=a5u hc λk hk _=>by omega
   exact yem
  ·obtain⟨b1,o1,d1,e1,-,fD,k1⟩:=h1.some_ xM
   obtain⟨b2,o2,d2,e2,-,fE,k2⟩:=h2.some_ xM;simp only[Value.slice.injEq,true_and]at e1 e2;obtain⟨rfl,rfl⟩:=e1;obtain⟨rfl,rfl⟩:=e2;obtain⟨N,hN⟩:=zE l1.length;have ib:l2.length=N:=hc▸hN;rw[hN,ib];rw[hN]at ck h0;obtain⟨R,hR⟩:=zE (a6q (λx y:Eg=>decide ((x.id,x.lf,x.rt,x.line.length)=(y.id,y.lf,y.rt,y.line.length))) l1 l2);rw[hR];replace hR:=Lib.hid hR;replace hc:=Lib.hid hc;replace hN:=Lib.hid hN;replace ib:=Lib.hid ib;clear h1 h2 dp;go_enter func25,ntmps25;go_wp2_with fail;go_loopw [17] (λvk wr=>∃k:Nat,vk= .int .i64 (k:Nat)/\k<=N/\Hid (Below w.heap.size w wr)/\Hid (∀j,(g1:j<l1.length)->(g2:j<l2.length)->j<k->(λx y:Eg=>decide ((x.id,x.lf,x.rt,x.line.length)=(y.id,y.lf,y.rt,y.line.length))) l1[j] l2[j]=true)) (λvk _=>N+1-(intOf vk).toNat)
   case atStart=>exact yge
   case round =>
    obtain⟨k,rfl,DU,al,aa⟩:=hrel;by_cases ab:k<N
    ·have aj:(k:Int)<(N:Int):=xM
     have hk:k<l1.length:=by rw[hN.out];exact ab
     have cW:k<l2.length:=by rw[ib.out];exact ab
     replace al:=al.out;have vB:=al.size;have bO:∀W,Below w.heap.size w W->Zc prog 47 #[vEg l1[k],vEg l2[k]] W (.bool (decide (let x:=l1[k];let y:=l2[k];(x.id,x.lf,x.rt,x.line.length)=(y.id,y.lf,y.rt,y.line.length)))):=λW hb=>c1h l1[k] l2[k] W (((gG _ (List.getElem_mem hk)).below hb).mono hb.size) (((dC _ (List.getElem_mem cW)).below hb).mono hb.size)
     obtain⟨x,hex⟩:=zE (l1[k]);obtain⟨y,i6⟩:=zE (l2[k]);rw[hex,i6]at bO;obtain⟨r,hr⟩:=zE (decide ((x.id,x.lf,x.rt,x.line.length)=(y.id,y.lf,y.rt,y.line.length)));replace bO:∀W,Below w.heap.size w W->Zc prog 47 #[vEg x,vEg y] W (.bool r):=λW hb=>hr▸bO W hb
     have ai:Hid (r=false->R=false):=λh=>by
      exact yeh
     have cG:Hid (r=true->∀j,(g1:j<l1.length)->(g2:j<l2.length)->j<k+1->(λx y:Eg=>decide ((x.id,x.lf,x.rt,x.line.length)=(y.id,y.lf,y.rt,y.line.length))) l1[j] l2[j]=true):=λh j g1 g2 hj=>by
      exact ycz
     have eD:∀i,i<4->w.cell? ⟨b1,o1+k*4+i,none⟩=(egE.enc x)[i]? :=λi hi=>by rw[<-hex];exact k1 k hk i hi
     have eE:∀i,i<4->w.cell? ⟨b2,o2+k*4+i,none⟩=(egE.enc y)[i]? :=λi hi=>by rw[<-i6];exact k2 k cW i hi
     clear hr;obtain⟨e0,e1,e2,e3,e4,e5,e6⟩:=x;obtain⟨u0,u1,u2,u3,u4,u5,u6⟩:=y;have DV:wr.cell? ⟨b1,o1+k*4,none⟩=some (.int .i64 e0):=(al.cell (p:=⟨b1,o1+k*4+0,none⟩) fD).trans (eD 0 jM);have DW:wr.cell? ⟨b1,o1+k*4+1,none⟩=some (.slice e1 e2 e3):=(al.cell (p:=⟨b1,o1+k*4+1,none⟩) fD).trans (eD 1 jM);have DX:wr.cell? ⟨b1,o1+k*4+2,none⟩=some (.int .i64 e5):=(al.cell (p:=⟨b1,o1+k*4+2,none⟩) fD).trans (eD 2 jM);have DZ:wr.cell? ⟨b1,o1+k*4+3,none⟩=some (.int .i64 e6):=(al.cell (p:=⟨b1,o1+k*4+3,none⟩) fD).trans (eD 3 jM);have D0:wr.cell? ⟨b2,o2+k*4,none⟩=some (.int .i64 u0):=(al.cell (p:=⟨b2,o2+k*4+0,none⟩) fE).trans (eE 0 jM);have D1:wr.cell? ⟨b2,o2+k*4+1,none⟩=some (.slice u1 u2 u3):=(al.cell (p:=⟨b2,o2+k*4+1,none⟩) fE).trans (eE 1 jM);have D2:wr.cell? ⟨b2,o2+k*4+2,none⟩=some (.int .i64 u5):=(al.cell (p:=⟨b2,o2+k*4+2,none⟩) fE).trans (eE 2 jM);have D3:wr.cell? ⟨b2,o2+k*4+3,none⟩=some (.int .i64 u6):=(al.cell (p:=⟨b2,o2+k*4+3,none⟩) fE).trans (eE 3 jM);clear hex i6 aa eD eE;replace cG:=Lib.hid cG
     cases r with
     |true =>
      go_wp2_with (first
       |(go_at_call 47;(with_reducible refine(bO _ (by exact zC)).mono ?_);rintro e w'⟨rfl,aE⟩;obtain⟨p,rfl⟩:=a0j aE;clear aE))
      exact ycr
     |false =>
      go_wp2_with (first
       |(go_at_call 47;(with_reducible refine(bO _ (by exact zC)).mono ?_);rintro e w'⟨rfl,aE⟩;obtain⟨p,rfl⟩:=a0j aE;clear aE))
      exact yey
    ·exact yas
 ·have hr:a6q (λx y:Eg=>decide ((x.id,x.lf,x.rt,x.line.length)=(y.id,y.lf,y.rt,y.line.length))) l1 l2=false:=b0z hc
  exact yhv
theorem c1n (v1 v2:Vu)(l1 l2:List Fc)(w:Wd)(h1:Lst fcE w.heap.size w v1 l1)(h2:Lst fcE w.heap.size w v2 l2)(ck:l1.length<=1000)(dp:l2.length<=1000) :
 Zc prog 48 #[v1,v2,.func (.func 49) #[] #[]] w (.bool (a6q (λx y:Fc=>decide ((x.id,x.ds)=(y.id,y.ds))) l1 l2)):=by
 have mixed:prog.follows .mixedOrders=true:=by kernel_rfl
 obtain⟨a1,c1,rfl,-⟩:=h1.form;obtain⟨a2,c2,rfl,-⟩:=h2.form;by_cases hc:l1.length=l2.length
 ·by_cases h0:l1.length=0
  ·have hr:a6q (λx y:Fc=>decide ((x.id,x.ds)=(y.id,y.ds))) l1 l2=true:=a5u hc λk hk _=>by omega
   rw[hr];obtain rfl:=List.eq_nil_of_length_eq_zero h0;obtain rfl:=List.eq_nil_of_length_eq_zero (hc▸h0);clear hr;go_enter func48,ntmps48;exact yhb
  ·obtain⟨b1,o1,d1,e1,-,fD,k1⟩:=h1.some_ xM
   obtain⟨b2,o2,d2,e2,-,fE,k2⟩:=h2.some_ xM;simp only[Value.slice.injEq,true_and]at e1 e2;obtain⟨rfl,rfl⟩:=e1;obtain⟨rfl,rfl⟩:=e2;obtain⟨N,hN⟩:=zE l1.length;have ib:l2.length=N:=hc▸hN;rw[hN,ib];rw[hN]at ck h0;obtain⟨R,hR⟩:=zE (a6q (λx y:Fc=>decide ((x.id,x.ds)=(y.id,y.ds))) l1 l2);rw[hR];replace hR:=Lib.hid hR;replace hc:=Lib.hid hc;replace hN:=Lib.hid hN;replace ib:=Lib.hid ib;clear h1 h2 dp;go_enter func48,ntmps48;go_wp2_with fail;go_loopw [17] (λvk wr=>∃k:Nat,vk= .int .i64 (k:Nat)/\k<=N/\Hid (Below w.heap.size w wr)/\Hid (∀j,(g1:j<l1.length)->(g2:j<l2.length)->j<k->(λx y:Fc=>decide ((x.id,x.ds)=(y.id,y.ds))) l1[j] l2[j]=true)) (λvk _=>N+1-(intOf vk).toNat)
   case atStart=>exact yge
   case round =>
    obtain⟨k,rfl,DU,al,aa⟩:=hrel;by_cases ab:k<N
    ·have aj:(k:Int)<(N:Int):=xM
     have hk:k<l1.length:=by rw[hN.out];exact ab
     have cW:k<l2.length:=by rw[ib.out];exact ab
     replace al:=al.out;have vB:=al.size;have bO:∀W,Below w.heap.size w W->Zc prog 49 #[vFc l1[k],vFc l2[k]] W (.bool (decide (let x:=l1[k];let y:=l2[k];(x.id,x.ds)=(y.id,y.ds)))):=λW hb=>c1i l1[k] l2[k] W
     obtain⟨x,hex⟩:=zE (l1[k]);obtain⟨y,i6⟩:=zE (l2[k]);rw[hex,i6]at bO;obtain⟨r,hr⟩:=zE (decide ((x.id,x.ds)=(y.id,y.ds)));replace bO:∀W,Below w.heap.size w W->Zc prog 49 #[vFc x,vFc y] W (.bool r):=λW hb=>hr▸bO W hb
     have ai:Hid (r=false->R=false):=λh=>by
      exact yeh
     have cG:Hid (r=true->∀j,(g1:j<l1.length)->(g2:j<l2.length)->j<k+1->(λx y:Fc=>decide ((x.id,x.ds)=(y.id,y.ds))) l1[j] l2[j]=true):=λh j g1 g2 hj=>by
      exact ycz
     have eD:∀i,i<5->w.cell? ⟨b1,o1+k*5+i,none⟩=(fcE.enc x)[i]? :=λi hi=>by rw[<-hex];exact k1 k hk i hi
     have eE:∀i,i<5->w.cell? ⟨b2,o2+k*5+i,none⟩=(fcE.enc y)[i]? :=λi hi=>by rw[<-i6];exact k2 k cW i hi
     clear hr;obtain⟨e0,e1,e2,e3,e4⟩:=x;obtain⟨u0,u1,u2,u3,u4⟩:=y;have DV:wr.cell? ⟨b1,o1+k*5,none⟩=some (.int .i64 e0):=(al.cell (p:=⟨b1,o1+k*5+0,none⟩) fD).trans (eD 0 jM);have DW:wr.cell? ⟨b1,o1+k*5+1,none⟩=some (.string e1):=(al.cell (p:=⟨b1,o1+k*5+1,none⟩) fD).trans (eD 1 jM);have DX:wr.cell? ⟨b1,o1+k*5+2,none⟩=some (.string e2):=(al.cell (p:=⟨b1,o1+k*5+2,none⟩) fD).trans (eD 2 jM);have DZ:wr.cell? ⟨b1,o1+k*5+3,none⟩=some (.int .i64 e3):=(al.cell (p:=⟨b1,o1+k*5+3,none⟩) fD).trans (eD 3 jM);have Mm:wr.cell? ⟨b1,o1+k*5+4,none⟩=some (.int .i64 e4):=(al.cell (p:=⟨b1,o1+k*5+4,none⟩) fD).trans (eD 4 jM);have D0:wr.cell? ⟨b2,o2+k*5,none⟩=some (.int .i64 u0):=(al.cell (p:=⟨b2,o2+k*5+0,none⟩) fE).trans (eE 0 jM);have D1:wr.cell? ⟨b2,o2+k*5+1,none⟩=some (.string u1):=(al.cell (p:=⟨b2,o2+k*5+1,none⟩) fE).trans (eE 1 jM);have D2:wr.cell? ⟨b2,o2+k*5+2,none⟩=some (.string u2):=(al.cell (p:=⟨b2,o2+k*5+2,none⟩) fE).trans (eE 2 jM);have D3:wr.cell? ⟨b2,o2+k*5+3,none⟩=some (.int .i64 u3):=(al.cell (p:=⟨b2,o2+k*5+3,none⟩) fE).trans (eE 3 jM);have Mn:wr.cell? ⟨b2,o2+k*5+4,none⟩=some (.int .i64 u4):=(al.cell (p:=⟨b2,o2+k*5+4,none⟩) fE).trans (eE 4 jM);clear hex i6 aa eD eE;replace cG:=Lib.hid cG
     cases r with
     |true =>
      go_wp2_with (first
       |(go_at_call 49;(with_reducible refine(bO _ (by exact zC)).mono ?_);rintro e w'⟨rfl,aE⟩;obtain⟨p,rfl⟩:=a0j aE;clear aE))
      exact ycr
     |false =>
      go_wp2_with (first
       |(go_at_call 49;(with_reducible refine(bO _ (by exact zC)).mono ?_);rintro e w'⟨rfl,aE⟩;obtain⟨p,rfl⟩:=a0j aE;clear aE))
      exact yey
    ·exact yas
 ·have hr:a6q (λx y:Fc=>decide ((x.id,x.ds)=(y.id,y.ds))) l1 l2=false:=b0z hc
  rw[hr];have an:((l1.length:Int) != (l2.length:Int))=true:=by simp;omega
  clear hr;go_enter func48,ntmps48;exact ybd
theorem Mp.eq_iff {a b:Mp}:a=b↔a.e=b.e/\a.f=b.f/\a.w=b.w/\a.p=b.p:=⟨λh=>by subst h;exact⟨rfl,rfl,rfl,rfl⟩,λ⟨h1,h2,h3,h4⟩=>Mp.ext' h1 h2 h3 h4⟩
instance : DecidableEq Mp:=λ_ _=>decidable_of_iff _ Mp.eq_iff.symm
section
variable {w W:Wd}{ev fv wv pv:Vu}{E:List Eg}{F:List Fc}{Y:List Wq}{P:List Pc}
theorem MapV.at_ (h:MapV w.heap.size w ev fv wv pv E F Y P)(hb:Below w.heap.size w W):MapV W.heap.size W ev fv wv pv E F Y P:=(h.below hb).mono hb.size
end
theorem b3e (ev fv wv pv pq pr tL pz:Vu)(E E2:List Eg)(Fa F2:List Fc)(Y Y2:List Wq)(P P2:List Pc)(w:Wd)(hM:MapV w.heap.size w ev fv wv pv E Fa Y P)(hN:MapV w.heap.size w pq pr tL pz E2 F2 Y2 P2) :
 Zc prog 8 #[.agg #[ev,fv,wv,pv],.agg #[pq,pr,tL,pz]] w (.bool (decide (a1d E Fa Y P=a1d E2 F2 Y2 P2))):=by
 obtain⟨r1,h1⟩:=zE (decide (E.map Eg.key=E2.map Eg.key));obtain⟨r2,h2⟩:=zE (decide (Fa=F2));obtain⟨r3,h3⟩:=zE (decide (Y.map Wq.key=Y2.map Wq.key));obtain⟨r4,h4⟩:=zE (decide (P=P2));have hr:decide (a1d E Fa Y P=a1d E2 F2 Y2 P2)=(r1&&r2&&r3&&r4):=by
  rw[Bool.eq_iff_iff];subst h1 h2 h3 h4;simp only[decide_eq_true_eq,Bool.and_eq_true,Mp.eq_iff,a1d];exact⟨λ⟨a,b,c,d⟩=>⟨⟨⟨a,b⟩,c⟩,d⟩,λ⟨⟨⟨a,b⟩,c⟩,d⟩=>⟨a,b,c,d⟩⟩
 have q1:∀X,Below w.heap.size w X->Zc prog 25 #[ev,pq,.func (.func 22) #[] #[]] X (.bool r1):=λX hb=>by
  have:=c1k ev pq E E2 X (hM.at_ hb).e (hN.at_ hb).e (hM.at_ hb).el (hN.at_ hb).el hM.ne hN.ne;rw[a5v Eg.key Eg.key,h1]at this;exact this
 have q2:∀X,Below w.heap.size w X->Zc prog 26 #[fv,pr] X (.bool r2):=λX hb=>by
  have:=c3u fv pr Fa F2 X (hM.at_ hb).f (hN.at_ hb).f;rw[h2]at this;exact this
 have q3:∀X,Below w.heap.size w X->Zc prog 27 #[wv,tL,.func (.func 24) #[] #[]] X (.bool r3):=λX hb=>by
  have:=c1l wv tL Y Y2 X (hM.at_ hb).w (hN.at_ hb).w (hM.at_ hb).wl (hN.at_ hb).wl hM.nw hN.nw;rw[a5v Wq.key Wq.key,h3]at this;exact this
 have q4:∀X,Below w.heap.size w X->Zc prog 28 #[pv,pz] X (.bool r4):=λX hb=>by
  have:=c3v pv pz P P2 X (hM.at_ hb).p (hN.at_ hb).p;rw[h4]at this;exact this
 obtain⟨x0,c0,rfl,-⟩:=hM.e.form;obtain⟨x1,c1,rfl,-⟩:=hM.f.form;obtain⟨x2,c2,rfl,-⟩:=hM.w.form;obtain⟨x3,c3,rfl,-⟩:=hM.p.form;obtain⟨y0,d0,rfl,-⟩:=hN.e.form;obtain⟨y1,d1,rfl,-⟩:=hN.f.form;obtain⟨y2,d2,rfl,-⟩:=hN.w.form;obtain⟨y3,d3,rfl,-⟩:=hN.p.form;obtain⟨r,xX⟩:=zE (decide (a1d E Fa Y P=a1d E2 F2 Y2 P2));rw[xX]at hr ⊢;clear xX h1 h2 h3 h4 hM hN;replace hr:=Lib.hid hr;go_enter func8,ntmps8;go_wp2_with (first
  |(go_at_call 25;(with_reducible refine(q1 _ (by exact zC)).mono ?_);rintro e w'⟨rfl,aE⟩;obtain⟨p,rfl⟩:=a0j aE;clear aE)
  |(go_at_call 26;(with_reducible refine(q2 _ (by exact zC)).mono ?_);rintro e w'⟨rfl,aE⟩;obtain⟨p,rfl⟩:=a0j aE;clear aE)
  |(go_at_call 27;(with_reducible refine(q3 _ (by exact zC)).mono ?_);rintro e w'⟨rfl,aE⟩;obtain⟨p,rfl⟩:=a0j aE;clear aE)
  |(go_at_call 28;(with_reducible refine(q4 _ (by exact zC)).mono ?_);rintro e w'⟨rfl,aE⟩;obtain⟨p,rfl⟩:=a0j aE;clear aE))
 all_goals (go_ret;refine⟨?_,zC⟩;rw[hr.out];clear hr q1 q2 q3 q4;simp_all)
theorem b8l (ev fv wv pv pq pr tL pz:Vu)(E E2:List Eg)(Fa F2:List Fc)(Y Y2:List Wq)(P P2:List Pc)(w:Wd)(hM:MapV w.heap.size w ev fv wv pv E Fa Y P)(hN:MapV w.heap.size w pq pr tL pz E2 F2 Y2 P2) :
 Zc prog 18 #[.agg #[ev,fv,wv,pv],.agg #[pq,pr,tL,pz]] w (.bool (a2c (a1d E Fa Y P) (a1d E2 F2 Y2 P2))):=by
 obtain⟨r1,h1⟩:=zE (decide (E.map (λx:Eg=>(x.id,x.lf,x.rt,x.line.length))=E2.map (λx:Eg=>(x.id,x.lf,x.rt,x.line.length))));obtain⟨r2,h2⟩:=zE (decide (Fa.map (λx:Fc=>(x.id,x.ds))=F2.map (λx:Fc=>(x.id,x.ds))));have hr:a2c (a1d E Fa Y P) (a1d E2 F2 Y2 P2)=(r1&&r2):=by
  subst h1 h2;unfold a2c a1d;rw[Bool.eq_iff_iff];simp only[decide_eq_true_eq,Bool.and_eq_true,beq_iff_eq,List.map_map];exact Iff.rfl
 have q1:∀X,Below w.heap.size w X->Zc prog 25 #[ev,pq,.func (.func 47) #[] #[]] X (.bool r1):=λX hb=>by
  have:=c1m ev pq E E2 X (hM.at_ hb).e (hN.at_ hb).e (hM.at_ hb).el (hN.at_ hb).el hM.ne hN.ne;rw[a5v (λx:Eg=>(x.id,x.lf,x.rt,x.line.length)) (λx:Eg=>(x.id,x.lf,x.rt,x.line.length)),h1]at this;exact this
 have q2:∀X,Below w.heap.size w X->Zc prog 48 #[fv,pr,.func (.func 49) #[] #[]] X (.bool r2):=λX hb=>by
  have:=c1n fv pr Fa F2 X (hM.at_ hb).f (hN.at_ hb).f hM.nf hN.nf;rw[a5v (λx:Fc=>(x.id,x.ds)) (λx:Fc=>(x.id,x.ds)),h2]at this;exact this
 obtain⟨x0,c0,rfl,-⟩:=hM.e.form;obtain⟨x1,c1,rfl,-⟩:=hM.f.form;obtain⟨x2,c2,rfl,-⟩:=hM.w.form;obtain⟨x3,c3,rfl,-⟩:=hM.p.form;obtain⟨y0,d0,rfl,-⟩:=hN.e.form;obtain⟨y1,d1,rfl,-⟩:=hN.f.form;obtain⟨y2,d2,rfl,-⟩:=hN.w.form;obtain⟨y3,d3,rfl,-⟩:=hN.p.form;obtain⟨r,xX⟩:=zE (a2c (a1d E Fa Y P) (a1d E2 F2 Y2 P2));rw[xX]at hr ⊢;clear xX h1 h2 hM hN;replace hr:=Lib.hid hr;go_enter func18,ntmps18;go_wp2_with (first
  |(go_at_call 25;(with_reducible refine(q1 _ (by exact zC)).mono ?_);rintro e w'⟨rfl,aE⟩;obtain⟨p,rfl⟩:=a0j aE;clear aE)
  |(go_at_call 48;(with_reducible refine(q2 _ (by exact zC)).mono ?_);rintro e w'⟨rfl,aE⟩;obtain⟨p,rfl⟩:=a0j aE;clear aE))
 all_goals (go_ret;refine⟨?_,zC⟩;rw[hr.out];clear hr q1 q2;simp_all)
end
end Go.Proofs.YteijfnkidefekaaGreat
