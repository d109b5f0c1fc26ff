/-
  Parts.
-/
import Derived.Test.YtfocdbjceedagaaGreatDoorXau
set_option linter.unusedVariables false
set_option linter.unusedSimpArgs false
set_option maxHeartbeats 4000000
set_option maxRecDepth 100000
namespace Go.Proofs.YtfocdbjceedagaaGreatDoor
open Tryz
section
open Go Go.RowKit Go.Shelf Go.Lib
attribute [local go_sem] Oper.semAt_some
attribute [local go_sem ↓] Go.wp_at_zero Go.wp_at_succ
theorem c2b (a b:ByteArray):(a.toList=b.toList)=(a=b):=by
 rw[ByteArray.toList_eq,ByteArray.toList_eq];refine propext ⟨fun h=> ?_,fun h=>by rw[h]⟩
 cases a
 cases b;simp only at h;rw[Array.toList_inj.1 h]
theorem a8a {α:Type} [DecidableEq α]:∀l m:List α,Lib.allEq (fun a b=>decide (a=b)) l m=decide (l=m)
 |[],[]=>by simp[Lib.allEq]
 |[],y::m=>by simp[Lib.allEq]
 |x::l,[]=>by simp[Lib.allEq]
 |x::l,y::m=>by
  have:=a8a l m;by_cases h:x=y <;> simp[Lib.allEq,this,h]
theorem a7a {α:Type} [DecidableEq α]{l m:List α}(h:l.length≠m.length):decide (l=m)=false:=decide_eq_false fun e=>h (by rw[e])
theorem d4e (x1 y1 k1 i1:Int)(x2 y2 k2 i2:Int)(w:World):(binOp .neq 54 (.agg #[.int .i64 x1,.int .i64 y1,.int .i64 k1,.int .i64 i1]) (.agg #[.int .i64 x2,.int .i64 y2,.int .i64 k2,.int .i64 i2])).run prog w= .ok (.bool (!decide ((⟨x1,y1,k1,i1⟩:Dt)=⟨x2,y2,k2,i2⟩))) w:=by
 have u3:=underlying3;have a3:=isAgg3;have z3:=sizeOf3;have hS:prog.underlying 54=some (.struct (prog.fieldsOf 54)):=by kernel_rfl
 have hp:prog.stoodInHeld 54=false:=by kernel_rfl
 rw[run_neq_struct,show (10000:Nat)=9999+1 from rfl,run_equalIn_agg w 9999 54 _ _ hS hp];simp only[Program.fieldsOf,underlying54];clear hS;go_simp;by_cases h0:x1=x2 <;> by_cases h1:y1=y2 <;> by_cases h2:k1=k2 <;> by_cases h3:i1=i2 <;> simp[h0,h1,h2,h3]
theorem d1g:NeqAt prog 54 (fun x:Dt=> .agg (dtE.enc x).toArray) (fun a b=>decide (a=b)):=by
 refine⟨fun a b w=> ?_,fun op p q a b w=>run_eqGuard_agg w op 54 p q _ _ (by kernel_rfl)⟩;obtain⟨x1,y1,k1,i1⟩:=a;obtain⟨x2,y2,k2,i2⟩:=b;exact d4e x1 y1 k1 i1 x2 y2 k2 i2 w
theorem d2s (a1 a2:Option Addr)(n c m d:Nat)(w:World)(h:n≠m∨n=0) :
 Calls prog 56 #[.slice a1 n c,.slice a2 m d] w fun e w'=>e= .returned (.bool (decide (n=m)))∧Below w.heap.size w w':=by
 by_cases hnm:n=m
 ·subst hnm
  obtain rfl:=h.resolve_left (by simp);go_enter func56,ntmps56;go_wp2_with fail;refine wp_loop_rounds 1 ?_;rw[rounds_succ];go_wp2_with fail;go_ret;exact⟨by simp,zC⟩
 ·have hne:((n:Int) != (m:Int))=true:=by simp;omega
  rw[decide_eq_false hnm];go_enter func56,ntmps56;go_wp2_with fail;go_ret;exact⟨rfl,zC⟩
theorem d2t (v1 v2:Value)(l1 l2:List Dt)(w:World)(h1:Lst dtE w.heap.size w v1 l1)(h2:Lst dtE w.heap.size w v2 l2) :
 Calls prog 56 #[v1,v2] w fun e w'=>e= .returned (.bool (decide (l1=l2)))∧Below w.heap.size w w':=by
 obtain⟨a1,c1,rfl,-⟩:=h1.form;obtain⟨a2,c2,rfl,-⟩:=h2.form;by_cases hc:l1.length≠l2.length∨l1.length=0
 ·have:=d2s a1 a2 l1.length c1 l2.length c2 w hc
  refine this.mono ?_;rintro e w'⟨rfl,hb⟩;refine⟨?_,hb⟩;by_cases he:l1.length=l2.length
  ·have h0:=hc.resolve_left (by simpa using he)
   obtain rfl:=List.eq_nil_of_length_eq_zero h0;obtain rfl:=List.eq_nil_of_length_eq_zero (he▸h0);rfl
  ·rw[a7a he,decide_eq_false he]
 ·have he:l1.length=l2.length:=by omega
  have h0:0<l1.length:=by omega
  obtain⟨b1,o1,d1,e1,-,-,k1⟩:=h1.some_ h0;obtain⟨b2,o2,d2,e2,-,-,k2⟩:=h2.some_ (by omega);simp only[Value.slice.injEq,true_and] at e1 e2;obtain⟨rfl,rfl⟩:=e1;obtain⟨rfl,rfl⟩:=e2;have hn1:=h1.len;have hn2:=h2.len;refine (AnyQ.slices_Equal Tryz.equalDt 4 isAgg54 sizeOf54 dtE.enc (fun _=>rfl) (fun a b=>decide (a=b)) d1g b1 o1 l1.length c1 b2 o2 l2.length c2 l1 l2 w (yR _) (yR _) (by omega) (by omega) (a3t h1 (fun _=>rfl)) (a3t h2 (fun _=>rfl))).mono ?_;rintro e w'⟨rfl,q,rfl⟩;rw[List.take_length,List.take_length,a8a];exact⟨rfl,below_drewN (zR _ _) q⟩
theorem d4f (n1 p1:Int)(c1:ByteArray)(n2 p2:Int)(c2:ByteArray)(w:World):(binOp .neq 82 (.agg #[.int .i64 n1,.int .i64 p1,.string c1]) (.agg #[.int .i64 n2,.int .i64 p2,.string c2])).run prog w= .ok (.bool (!decide ((⟨n1,p1,c1⟩:Ke)=⟨n2,p2,c2⟩))) w:=by
 have u3:=underlying3;have a3:=isAgg3;have z3:=sizeOf3;have u9:=underlying9;have a9:=isAgg9;have z9:=sizeOf9;have hS:prog.underlying 82=some (.struct (prog.fieldsOf 82)):=by kernel_rfl
 have hp:prog.stoodInHeld 82=false:=by kernel_rfl
 rw[run_neq_struct,show (10000:Nat)=9999+1 from rfl,run_equalIn_agg w 9999 82 _ _ hS hp];simp only[Program.fieldsOf,underlying82];clear hS;go_simp;by_cases h0:n1=n2 <;> by_cases h1:p1=p2 <;> by_cases h2:c1=c2 <;> simp[h0,h1,h2,c2b]
theorem d1h:NeqAt prog 82 (fun x:Ke=> .agg (keE.enc x).toArray) (fun a b=>decide (a=b)):=by
 refine⟨fun a b w=> ?_,fun op p q a b w=>run_eqGuard_agg w op 82 p q _ _ (by kernel_rfl)⟩;obtain⟨n1,p1,c1⟩:=a;obtain⟨n2,p2,c2⟩:=b;exact d4f n1 p1 c1 n2 p2 c2 w
theorem d2u (a1 a2:Option Addr)(n c m d:Nat)(w:World)(h:n≠m∨n=0) :
 Calls prog 57 #[.slice a1 n c,.slice a2 m d] w fun e w'=>e= .returned (.bool (decide (n=m)))∧Below w.heap.size w w':=by
 by_cases hnm:n=m
 ·subst hnm
  obtain rfl:=h.resolve_left (by simp);go_enter func57,ntmps57;go_wp2_with fail;refine wp_loop_rounds 1 ?_;rw[rounds_succ];go_wp2_with fail;go_ret;exact⟨by simp,zC⟩
 ·have hne:((n:Int) != (m:Int))=true:=by simp;omega
  rw[decide_eq_false hnm];go_enter func57,ntmps57;go_wp2_with fail;go_ret;exact⟨rfl,zC⟩
theorem d2v (v1 v2:Value)(l1 l2:List Ke)(w:World)(h1:Lst keE w.heap.size w v1 l1)(h2:Lst keE w.heap.size w v2 l2) :
 Calls prog 57 #[v1,v2] w fun e w'=>e= .returned (.bool (decide (l1=l2)))∧Below w.heap.size w w':=by
 obtain⟨a1,c1,rfl,-⟩:=h1.form;obtain⟨a2,c2,rfl,-⟩:=h2.form;by_cases hc:l1.length≠l2.length∨l1.length=0
 ·have:=d2u a1 a2 l1.length c1 l2.length c2 w hc
  refine this.mono ?_;rintro e w'⟨rfl,hb⟩;refine⟨?_,hb⟩;by_cases he:l1.length=l2.length
  ·have h0:=hc.resolve_left (by simpa using he)
   obtain rfl:=List.eq_nil_of_length_eq_zero h0;obtain rfl:=List.eq_nil_of_length_eq_zero (he▸h0);rfl
  ·rw[a7a he,decide_eq_false he]
 ·have he:l1.length=l2.length:=by omega
  have h0:0<l1.length:=by omega
  obtain⟨b1,o1,d1,e1,-,-,k1⟩:=h1.some_ h0;obtain⟨b2,o2,d2,e2,-,-,k2⟩:=h2.some_ (by omega);simp only[Value.slice.injEq,true_and] at e1 e2;obtain⟨rfl,rfl⟩:=e1;obtain⟨rfl,rfl⟩:=e2;have hn1:=h1.len;have hn2:=h2.len;refine (AnyQ.slices_Equal Tryz.equalKe 3 isAgg82 sizeOf82 keE.enc (fun _=>rfl) (fun a b=>decide (a=b)) d1h b1 o1 l1.length c1 b2 o2 l2.length c2 l1 l2 w (yR _) (yR _) (by omega) (by omega) (a3t h1 (fun _=>rfl)) (a3t h2 (fun _=>rfl))).mono ?_;rintro e w'⟨rfl,q,rfl⟩;rw[List.take_length,List.take_length,a8a];exact⟨rfl,below_drewN (zR _ _) q⟩
theorem d4g (p1 k1 i1:Int)(p2 k2 i2:Int)(w:World):(binOp .neq 68 (.agg #[.int .i64 p1,.int .i64 k1,.int .i64 i1]) (.agg #[.int .i64 p2,.int .i64 k2,.int .i64 i2])).run prog w= .ok (.bool (!decide ((⟨p1,k1,i1⟩:Lf)=⟨p2,k2,i2⟩))) w:=by
 have u3:=underlying3;have a3:=isAgg3;have z3:=sizeOf3;have hS:prog.underlying 68=some (.struct (prog.fieldsOf 68)):=by kernel_rfl
 have hp:prog.stoodInHeld 68=false:=by kernel_rfl
 rw[run_neq_struct,show (10000:Nat)=9999+1 from rfl,run_equalIn_agg w 9999 68 _ _ hS hp];simp only[Program.fieldsOf,underlying68];clear hS;go_simp;by_cases h0:p1=p2 <;> by_cases h1:k1=k2 <;> by_cases h2:i1=i2 <;> simp[h0,h1,h2]
theorem d1i:NeqAt prog 68 (fun x:Lf=> .agg (lfE.enc x).toArray) (fun a b=>decide (a=b)):=by
 refine⟨fun a b w=> ?_,fun op p q a b w=>run_eqGuard_agg w op 68 p q _ _ (by kernel_rfl)⟩;obtain⟨p1,k1,i1⟩:=a;obtain⟨p2,k2,i2⟩:=b;exact d4g p1 k1 i1 p2 k2 i2 w
theorem d2w (a1 a2:Option Addr)(n c m d:Nat)(w:World)(h:n≠m∨n=0) :
 Calls prog 58 #[.slice a1 n c,.slice a2 m d] w fun e w'=>e= .returned (.bool (decide (n=m)))∧Below w.heap.size w w':=by
 by_cases hnm:n=m
 ·subst hnm
  obtain rfl:=h.resolve_left (by simp);go_enter func58,ntmps58;go_wp2_with fail;refine wp_loop_rounds 1 ?_;rw[rounds_succ];go_wp2_with fail;go_ret;exact⟨by simp,zC⟩
 ·have hne:((n:Int) != (m:Int))=true:=by simp;omega
  rw[decide_eq_false hnm];go_enter func58,ntmps58;go_wp2_with fail;go_ret;exact⟨rfl,zC⟩
theorem d4h (v1 v2:Value)(l1 l2:List Lf)(w:World)(h1:Lst lfE w.heap.size w v1 l1)(h2:Lst lfE w.heap.size w v2 l2) :
 Calls prog 58 #[v1,v2] w fun e w'=>e= .returned (.bool (decide (l1=l2)))∧Below w.heap.size w w':=by
 obtain⟨a1,c1,rfl,-⟩:=h1.form;obtain⟨a2,c2,rfl,-⟩:=h2.form;by_cases hc:l1.length≠l2.length∨l1.length=0
 ·have:=d2w a1 a2 l1.length c1 l2.length c2 w hc
  refine this.mono ?_;rintro e w'⟨rfl,hb⟩;refine⟨?_,hb⟩;by_cases he:l1.length=l2.length
  ·have h0:=hc.resolve_left (by simpa using he)
   obtain rfl:=List.eq_nil_of_length_eq_zero h0;obtain rfl:=List.eq_nil_of_length_eq_zero (he▸h0);rfl
  ·rw[a7a he,decide_eq_false he]
 ·have he:l1.length=l2.length:=by omega
  have h0:0<l1.length:=by omega
  obtain⟨b1,o1,d1,e1,-,-,k1⟩:=h1.some_ h0;obtain⟨b2,o2,d2,e2,-,-,k2⟩:=h2.some_ (by omega);simp only[Value.slice.injEq,true_and] at e1 e2;obtain⟨rfl,rfl⟩:=e1;obtain⟨rfl,rfl⟩:=e2;have hn1:=h1.len;have hn2:=h2.len;refine (AnyQ.slices_Equal Tryz.equalLf 3 isAgg68 sizeOf68 lfE.enc (fun _=>rfl) (fun a b=>decide (a=b)) d1i b1 o1 l1.length c1 b2 o2 l2.length c2 l1 l2 w (yR _) (yR _) (by omega) (by omega) (a3t h1 (fun _=>rfl)) (a3t h2 (fun _=>rfl))).mono ?_;rintro e w'⟨rfl,q,rfl⟩;rw[List.take_length,List.take_length,a8a];exact⟨rfl,below_drewN (zR _ _) q⟩
theorem b3f (pl:Pn)(ps:List Pc)(p:Pc):a4l a5s pl (ps++[p])=a4l a5s pl ps++(if (why pl p.id).isNone then a5s p else []):=by
 unfold a4l;rw[List.flatMap_append];simp
theorem b6y (pl:Pn)(ps:List Pc):(a4l a5s pl ps).length≤ps.length:=by
 refine a7n (Q:=fun ps=>(a4l a5s pl ps).length≤ps.length) (by simp[a4l]) (fun ps p h=> ?_) ps;rw[b3f,List.length_append,List.length_append];have hk:(a5s p).length≤1:=by unfold a5s;cases d0g p <;> simp
 split <;> simp <;> omega
theorem c8s (ev fv wv pv dv kv lv:Value)(l:List Pc)(pl:Pn)(w:World)(hL:Lst plE w.heap.size w pv l)(hF:Frm pv l.length)(hl:l.length≤100)(hok:∀p∈l,PcOk p∧p.cls.size≤1000)(hk:Lst keE w.heap.size w kv pl.keys)(hlf:Lst lfE w.heap.size w lv pl.left)(hff:Frm lv pl.left.length) :
 Calls prog 50 #[c0p ev fv wv pv,a2f dv kv lv] w fun e w'=>(a4l a5s pl (a1d l)=pl.keys∧e= .returned (.tuple #[])∨a4l a5s pl (a1d l)≠pl.keys∧e= .panicked (b9i 42))∧Below w.heap.size w w':=by
 have hokS:∀p∈a1d l,PcOk p∧p.cls.size≤1000:=fun p hp=>hok p ((a1q l).mem_iff.1 hp)
 have hlS:(a1d l).length=l.length:=(a1q l).length_eq;obtain⟨ps,hps⟩:∃ps,a1d l=ps:=⟨_,rfl⟩;rw[hps] at hokS hlS ⊢;obtain⟨ka,kc,rfl,-⟩:=hk.form;obtain⟨la,lc,rfl,-⟩:=hlf.form;go_enter func50,ntmps50;go_upto_region 1 with fail;have k2:=(Blk.new w #[ev,fv,wv,pv] 37).alloc (.cells #[dv,.slice ka pl.keys.length kc,.slice la pl.left.length lc] 45);have k3:=Blk.new (w.alloc (.cells #[ev,fv,wv,pv] 37)) #[dv,.slice ka pl.keys.length kc,.slice la pl.left.length lc] 45;have hb:Below w.heap.size w ((w.alloc (.cells #[ev,fv,wv,pv] 37)).alloc (.cells #[dv,.slice ka pl.keys.length kc,.slice la pl.left.length lc] 45)):=zC;rw[World.size_alloc] at k3;obtain⟨W,hW⟩:∃W,(w.alloc (.cells #[ev,fv,wv,pv] 37)).alloc (.cells #[dv,.slice ka pl.keys.length kc,.slice la pl.left.length lc] 45)=W:=⟨_,rfl⟩;rw[hW] at k2 k3 hb ⊢;clear hW;have hO:=a6v ev fv wv pv l W (hL.up hb) hF hl;rw[hps] at hO;obtain⟨m0,m1,m2,m3⟩:W.cell? ⟨w.heap.size,0,none⟩=some ev∧W.cell? ⟨w.heap.size,1,none⟩=some fv∧W.cell? ⟨w.heap.size,2,none⟩=some wv∧W.cell? ⟨w.heap.size,3,none⟩=some pv:=⟨k2.cell 0,k2.cell 1,k2.cell 2,k2.cell 3⟩;go_wp2_with (first
  |(go_at_call 44;refine hO.mono ?_;rintro e W1⟨v,rfl,hr1,hb1⟩;rw[←hlS] at hr1;obtain⟨va,vc,rfl,hvc⟩:=(a0b a2l hr1 (by omega)).form)
  |fail)
 have hbW1:Below w.heap.size w W1:=hb.trans (hb1.mono hb.size);have hLp:=a0b a2l hr1 (by omega);have k3':=k3.below hb1 k3.lt;have hk1:=hk.up hbW1;have hf1:=hlf.up hbW1;clear hO m0 m1 m2 m3 k2 k3 hr1 hL hF hps hb hb1 hk hlf;go_loopw [4,12] (fun vv kk wr=>∃k:Nat,k≤ps.length∧kk= .int .i64 (k:Nat)∧wr.ownsRow W1.heap.size 82 3 vv (a4l a5s pl (ps.take k)).length ((a4l a5s pl (ps.take k)).flatMap keE.enc)∧Below W1.heap.size W1 wr) (fun vv kk _=>ps.length-(intOf kk).toNat)
 case atStart=>exact⟨0,Nat.zero_le _,rfl,⟨by simp[a4l],.inl ⟨rfl,by simp[a4l]⟩⟩,zR _ _⟩
 case round =>
  obtain⟨k,hkl,rfl,hrow,hbr⟩:=hrel;by_cases hlt:k<ps.length
  ·have hltI:(k:Int)<(ps.length:Int):=by omega
   have hLr:=hLp.up hbr;obtain⟨b,off,cap,hv,-,hbl,hc⟩:=hLr.some_ (by omega);simp only[Value.slice.injEq,true_and] at hv;obtain⟨rfl,rfl⟩:=hv;obtain⟨p,hp⟩:∃p,ps[k]=p:=⟨_,rfl⟩;have hck:=hc k hlt;rw[hp] at hck;obtain⟨hpo,hpc⟩:=hokS p (hp▸List.getElem_mem hlt);have hKn:=b3f pl (ps.take k) p;rw[show ps.take k++[p]=ps.take (k+1) by rw[←hp,List.take_append_getElem hlt]] at hKn;have hKl:=b6y pl (ps.take k);rw[List.length_take] at hKl;obtain⟨id,x,y,cls,nm,wt,ds⟩:=p;obtain⟨d0,d1,d2,d3,d4,d5,d6⟩:wr.cell? ⟨b,off+k*7,none⟩=some (.int .i64 id)∧wr.cell? ⟨b,off+k*7+1,none⟩=some (.int .i64 x)∧wr.cell? ⟨b,off+k*7+2,none⟩=some (.int .i64 y)∧wr.cell? ⟨b,off+k*7+3,none⟩=some (.string cls)∧wr.cell? ⟨b,off+k*7+4,none⟩=some (.string nm)∧wr.cell? ⟨b,off+k*7+5,none⟩=some (.int .i64 wt)∧wr.cell? ⟨b,off+k*7+6,none⟩=some (.int .i64 ds):=⟨hck 0 (show 0<7 by decide),hck 1 (show 1<7 by decide),hck 2 (show 2<7 by decide),hck 3 (show 3<7 by decide),hck 4 (show 4<7 by decide),hck 5 (show 5<7 by decide),hck 6 (show 6<7 by decide)⟩;have hKy:=c4x ⟨id,x,y,cls,nm,wt,ds⟩ hpo.nm;unfold d4c at hKy;obtain⟨K,hK⟩:∃K,a4l a5s pl (ps.take k)=K:=⟨_,rfl⟩;rw[hK] at hrow hKn hKl;obtain⟨va,vc,rfl,-⟩:=(a0b b7x hrow (by omega)).form;have hzr:=hbr.size;clear hck hc hLr hK hp
   cases hko:d0g ⟨id,x,y,cls,nm,wt,ds⟩ with
   |none =>
    rw[hko] at hKy;simp only[Option.isSome_none] at hKy;have hkL:a5s ⟨id,x,y,cls,nm,wt,ds⟩=[]:=by unfold a5s;rw[hko];rfl
    simp only[hkL,ite_self,List.append_nil] at hKn;clear hko;go_wp2_with (first
     |(go_at_call 37;(with_reducible refine (hKy _).mono ?_);rintro e w8⟨kx,rfl,hkk,hb8⟩;have hb8':Below wr.heap.size wr w8:=((zR _ _).alloc (yR _) _).trans (hb8.mono (by simp)))
     |fail)
    go_roundw
    case rel =>
     have hb9:Below wr.heap.size wr (w8.alloc (.cells #[.int .i64 kx.n,.int .i64 kx.p,.string kx.c] 82)):=hb8'.alloc hb8'.size _;exact⟨k+1,by omega,by go_num,by rw[hKn];exact a1l hrow hb9,hbr.trans (hb9.mono hzr)⟩
    case measure=>simp[intOf];omega
   |some k0 =>
    rw[hko] at hKy;simp only[Option.isSome_some] at hKy;have hkL:a5s ⟨id,x,y,cls,nm,wt,ds⟩=[k0]:=by unfold a5s;rw[hko];rfl
    simp only[hkL] at hKn;clear hko;go_upto_region 6 with (first
     |(go_at_call 37;(with_reducible refine (hKy _).mono ?_);rintro e w8⟨kx,rfl,hkk,hb8⟩;have hb8':Below wr.heap.size wr w8:=((zR _ _).alloc (yR _) _).trans (hb8.mono (by simp)))
     |fail)
    obtain rfl:=hkk k0 rfl;have hb9:Below wr.heap.size wr (w8.alloc (.cells #[.int .i64 kx.n,.int .i64 kx.p,.string kx.c] 82)):=hb8'.alloc hb8'.size _;have kP9:=((Blk.new wr #[.int .i64 id,.int .i64 x,.int .i64 y,.string cls,.string nm,.int .i64 wt,.int .i64 ds] 66).below hb8 (by simp)).alloc (.cells #[.int .i64 kx.n,.int .i64 kx.p,.string kx.c] 82);have kK9:=Blk.new w8 #[.int .i64 kx.n,.int .i64 kx.p,.string kx.c] 82;have hzb:=hb8.size;simp only[World.size_alloc] at hzb;obtain⟨W9,hW9⟩:∃X,w8.alloc (.cells #[.int .i64 kx.n,.int .i64 kx.p,.string kx.c] 82)=X:=⟨_,rfl⟩;rw[hW9] at hb9 kP9 kK9 ⊢;obtain⟨BK,hBK⟩:∃X,w8.heap.size=X:=⟨_,rfl⟩;obtain⟨BP,hBP⟩:∃X,wr.heap.size=X:=⟨_,rfl⟩;rw[hBK] at kK9 ⊢;rw[hBP] at kP9 ⊢;have hb19:Below W1.heap.size W1 W9:=hbr.trans (hb9.mono hzr);have k39:=k3'.below hb19 k3'.lt;obtain⟨q0,q1,q2⟩:W9.cell? ⟨w.heap.size+1,0,none⟩=some dv∧W9.cell? ⟨w.heap.size+1,1,none⟩=some (.slice ka pl.keys.length kc)∧W9.cell? ⟨w.heap.size+1,2,none⟩=some (.slice la pl.left.length lc):=⟨k39.cell 0,k39.cell 1,k39.cell 2⟩;have r0:W9.cell? ⟨BP,0,none⟩=some (.int .i64 id):=kP9.cell 0;obtain⟨y0,y1,y2⟩:W9.cell? ⟨BK,0,none⟩=some (.int .i64 kx.n)∧W9.cell? ⟨BK,1,none⟩=some (.int .i64 kx.p)∧W9.cell? ⟨BK,2,none⟩=some (.string kx.c):=⟨kK9.cell 0,kK9.cell 1,kK9.cell 2⟩;have hWy:=b9j dv (.slice ka pl.keys.length kc) (.slice la pl.left.length lc) pl id W9 (hf1.up hb19) hff;have hrow9:=a1l hrow hb9;have hz9:=hb19.size;clear hW9 hb8' hKy d0 d1 d2 d3 d4 d5 d6 k39
    cases hwy:why pl id with
    |some i =>
     rw[hwy] at hWy hKn;simp only[b7y,Option.isNone_some,Bool.false_eq_true,if_false,List.append_nil] at hWy hKn;have hi0:¬((i:Nat):Int)<0:=by omega
     clear hwy;go_wp2_with (first
      |(go_at_call 107;(with_reducible refine hWy.mono ?_);rintro e w10⟨rfl,hb10⟩)
      |fail)
     go_roundw
     case rel=>exact⟨k+1,by omega,by go_num,by rw[hKn];exact a1l hrow9 hb10,hb19.trans (hb10.mono hz9)⟩
     case measure=>simp[intOf];omega
    |none =>
     rw[hwy] at hWy hKn;simp only[b7y,Option.isNone_none,if_true] at hWy hKn;clear hwy;go_wp2_with (first
      |(go_at_call 107;(with_reducible refine hWy.mono ?_);rintro e w10⟨rfl,hb10⟩
        have hz10:=hb10.size;obtain⟨t0,t1,t2⟩:w10.cell? ⟨BK,0,none⟩=some (.int .i64 kx.n)∧w10.cell? ⟨BK,1,none⟩=some (.int .i64 kx.p)∧w10.cell? ⟨BK,2,none⟩=some (.string kx.c):=⟨(kK9.below hb10 kK9.lt).cell 0,(kK9.below hb10 kK9.lt).cell 1,(kK9.below hb10 kK9.lt).cell 2⟩;have hrow10:=a1l hrow9 hb10)
      |(at_builtin;refine El.push b7x d3t (by rfl) _ _ (by rfl) (by rfl) hrow10 kx (by rfl) rfl (by omega) (by omega) ?_;intro v11 w11 hr11 hf11 hg11 hb11
        obtain⟨a11,c11,rfl⟩:=hf11)
      |fail)
     go_roundw
     case rel=>exact⟨k+1,by omega,by go_num,by rw[hKn];simpa using hr11,(hb19.trans (hb10.mono hz9)).trans hb11⟩
     case measure=>simp[intOf];omega
  ·obtain rfl:k=ps.length:=by omega
   have hge:¬(ps.length:Int)<(ps.length:Int):=by omega
   rw[List.take_length] at hrow;have k39:=k3'.below hbr k3'.lt;have c1:wr.cell? ⟨w.heap.size+1,1,none⟩=some (.slice ka pl.keys.length kc):=k39.cell 1;have hKl:=b6y pl ps;have hEq:=d2v u4 (.slice ka pl.keys.length kc) (a4l a5s pl ps) pl.keys wr (a0b b7x hrow (by omega)) (hk1.up hbr);obtain⟨K,hK⟩:∃K,a4l a5s pl ps=K:=⟨_,rfl⟩;rw[hK] at hEq hrow hKl;replace hK:=Lib.hid hK;obtain⟨va,vc,rfl,-⟩:=(a0b b7x hrow (by omega)).form;by_cases he:K=pl.keys
   ·rw[decide_eq_true he] at hEq
    replace he:=Lib.hid he;clear hrow;go_wp2_with (first
     |(go_at_call 57;(with_reducible refine hEq.mono ?_);rintro e w8⟨rfl,hb8⟩)
     |(go_at_call 106;refine (a2o 42 _).mono ?_;rintro e w9⟨rfl,rfl⟩)
     |fail)
    exact⟨rfl,_,results_none rfl _ _ _,.inl ⟨hK.out.trans he.out,rfl⟩,hbW1.trans ((hbr.trans (hb8.mono hbr.size)).mono hbW1.size)⟩
   ·rw[decide_eq_false he] at hEq
    clear hrow;go_wp2_with (first
     |(go_at_call 57;(with_reducible refine hEq.mono ?_);rintro e w8⟨rfl,hb8⟩)
     |(go_at_call 106;refine (a2j 42 _).mono ?_;rintro e w9⟨rfl,rfl⟩)
     |fail)
    exact⟨rfl,.inr ⟨fun h=>he (hK.out.symm.trans h),rfl⟩,hbW1.trans ((hbr.trans (hb8.mono hbr.size)).mono hbW1.size)⟩
theorem c0s (s:Sh)(f0:a0k s.ax)(f1:a0k s.ay)(hs:a1x s≠0)(ev fv wv:Value)(pa:Option Addr)(n pc:Nat)(w:World) :
 Calls prog 10 #[c0p ev fv wv (.slice pa n pc),shV s] w fun e w'=>e= .returned (.tuple #[a2f (.slice none 0 0) (.slice none 0 0) (.slice none 0 0),.int .i64 (a1x s)])∧Below w.heap.size w w':=by
 have hBg:=fun w=>a5t s ev fv wv pa n pc w f0 f1
 unfold a9d at hBg;rw[if_neg hs] at hBg;obtain⟨c,hc⟩:∃c,a1x s=c:=⟨_,rfl⟩;rw[hc] at hBg hs ⊢;have hc0:(c != 0)=true:=by simpa using hs
 clear hc hs;go_enter func10,ntmps10;go_wp2_with (first
  |(go_at_call 33;(with_reducible refine (hBg _).mono ?_);rintro e W1⟨rfl,hb1⟩
    have k3:=(Blk.new ((w.alloc (.cells #[ev,fv,wv,.slice pa n pc] 37)).alloc (.cells #[.int .i64 s.ax,.int .i64 s.ay,.int .i64 s.st,.int .i64 s.w,.int .i64 s.h,.int .i64 s.g] 28)) #[.slice none 0 0,.slice none 0 0,.slice none 0 0] 45).below hb1 (by simp);have hbw:Below w.heap.size w W1:=((((zR _ _).alloc (yR _) _).alloc (by simp) _).alloc (by simp;omega) _).trans (hb1.mono (by simp;omega));simp only[World.size_alloc] at k3;have r0:W1.cell? ⟨w.heap.size+1+1,0,none⟩=some (.slice none 0 0):=k3.cell 0;have r1:W1.cell? ⟨w.heap.size+1+1,1,none⟩=some (.slice none 0 0):=k3.cell 1;have r2:W1.cell? ⟨w.heap.size+1+1,2,none⟩=some (.slice none 0 0):=k3.cell 2;have z0:=k3.frozen 0;have z1:=k3.frozen 1;have z2:=k3.frozen 2;have hz:=hbw.size)
  |fail)
 have hgA:=((a0h W1 (w.heap.size+1+1) 0 (.slice none 0 0)).trans (a0h _ (w.heap.size+1+1) 1 (.slice none 0 0))).trans (a0h _ (w.heap.size+1+1) 2 (.slice none 0 0));have kA:=((k3.set 0 (.slice none 0 0)).set 1 (.slice none 0 0)).set 2 (.slice none 0 0);exact bodyPost_ret (a1o (by rfl) _ _ _ 45 _ (0,0) _ (by rfl) kA underlying45 (by rfl) (by kernel_rfl)) rfl ⟨rfl,hbw.grown hgA hz fun r e=>by cases e;omega⟩
def c2c (a b:Pn):Bool:=decide (a.dots=b.dots)&&(decide (a.keys=b.keys)&&decide (a.left=b.left))
theorem a8p (v1 v2:Value)(p1 p2:Pn)(w:World)(h1:PlanIn w v1 p1)(h2:PlanIn w v2 p2) :
 Calls prog 21 #[v1,v2] w fun e w'=>e= .returned (.bool (c2c p1 p2))∧Below w.heap.size w w':=by
 obtain⟨dv,kv,lv,rfl,⟨hd,-⟩,⟨hk,-⟩,hl,-⟩:=h1.ex;obtain⟨dv2,kv2,lv2,rfl,⟨hd2,-⟩,⟨hk2,-⟩,hl2,-⟩:=h2.ex;obtain⟨a1,c1,rfl,-⟩:=hd.form;obtain⟨a2,c2,rfl,-⟩:=hk.form;obtain⟨a3,c3,rfl,-⟩:=hl.form;obtain⟨a4,c4,rfl,-⟩:=hd2.form;obtain⟨a5,c5,rfl,-⟩:=hk2.form;obtain⟨a6,c6,rfl,-⟩:=hl2.form;have hb:Below w.heap.size w ((w.alloc (.cells #[.slice a1 p1.dots.length c1,.slice a2 p1.keys.length c2,.slice a3 p1.left.length c3] 45)).alloc (.cells #[.slice a4 p2.dots.length c4,.slice a5 p2.keys.length c5,.slice a6 p2.left.length c6] 45)):=zC;have k2:=(Blk.new w #[.slice a1 p1.dots.length c1,.slice a2 p1.keys.length c2,.slice a3 p1.left.length c3] 45).alloc (.cells #[.slice a4 p2.dots.length c4,.slice a5 p2.keys.length c5,.slice a6 p2.left.length c6] 45);have k3:=Blk.new (w.alloc (.cells #[.slice a1 p1.dots.length c1,.slice a2 p1.keys.length c2,.slice a3 p1.left.length c3] 45)) #[.slice a4 p2.dots.length c4,.slice a5 p2.keys.length c5,.slice a6 p2.left.length c6] 45;rw[World.size_alloc] at k3;go_enter func21,ntmps21;go_upto_region 1 with fail;obtain⟨W,hW⟩:∃W,(w.alloc (.cells #[.slice a1 p1.dots.length c1,.slice a2 p1.keys.length c2,.slice a3 p1.left.length c3] 45)).alloc (.cells #[.slice a4 p2.dots.length c4,.slice a5 p2.keys.length c5,.slice a6 p2.left.length c6] 45)=W:=⟨_,rfl⟩;rw[hW] at hb k2 k3 ⊢;clear hW;have e1:=fun X (h:Below w.heap.size w X)=>d2t _ _ p1.dots p2.dots X (hd.up h) (hd2.up h)
 have e2:=fun X (h:Below w.heap.size w X)=>d2v _ _ p1.keys p2.keys X (hk.up h) (hk2.up h)
 have e3:=fun X (h:Below w.heap.size w X)=>d4h _ _ p1.left p2.left X (hl.up h) (hl2.up h)
 obtain⟨b1,hb1⟩:∃b,decide (p1.dots=p2.dots)=b:=⟨_,rfl⟩;obtain⟨b2,hb2⟩:∃b,decide (p1.keys=p2.keys)=b:=⟨_,rfl⟩;obtain⟨b3,hb3⟩:∃b,decide (p1.left=p2.left)=b:=⟨_,rfl⟩;simp only[hb1,hb2,hb3] at e1 e2 e3;replace hb1:=Lib.hid hb1;replace hb2:=Lib.hid hb2;replace hb3:=Lib.hid hb3;obtain⟨m1,m2,m3⟩:W.cell? ⟨w.heap.size,0,none⟩=some (.slice a1 p1.dots.length c1)∧W.cell? ⟨w.heap.size,1,none⟩=some (.slice a2 p1.keys.length c2)∧W.cell? ⟨w.heap.size,2,none⟩=some (.slice a3 p1.left.length c3):=⟨k2.cell 0,k2.cell 1,k2.cell 2⟩;obtain⟨m4,m5,m6⟩:W.cell? ⟨w.heap.size+1,0,none⟩=some (.slice a4 p2.dots.length c4)∧W.cell? ⟨w.heap.size+1,1,none⟩=some (.slice a5 p2.keys.length c5)∧W.cell? ⟨w.heap.size+1,2,none⟩=some (.slice a6 p2.left.length c6):=⟨k3.cell 0,k3.cell 1,k3.cell 2⟩;clear hd hk hl hd2 hk2 hl2 h1 h2
 cases b1 <;> cases b2
 all_goals
  go_wp2_with (first
   |(go_at_call 56;(with_reducible refine (e1 _ hb).mono ?_);rintro e X1⟨rfl,hx1⟩
     have hw1:Below w.heap.size w X1:=hb.trans (hx1.mono hb.size);obtain⟨n2,n3⟩:X1.cell? ⟨w.heap.size,1,none⟩=some (.slice a2 p1.keys.length c2)∧X1.cell? ⟨w.heap.size,2,none⟩=some (.slice a3 p1.left.length c3):=⟨(k2.below hx1 k2.lt).cell 1,(k2.below hx1 k2.lt).cell 2⟩;obtain⟨n5,n6⟩:X1.cell? ⟨w.heap.size+1,1,none⟩=some (.slice a5 p2.keys.length c5)∧X1.cell? ⟨w.heap.size+1,2,none⟩=some (.slice a6 p2.left.length c6):=⟨(k3.below hx1 k3.lt).cell 1,(k3.below hx1 k3.lt).cell 2⟩)
   |(go_at_call 57;(with_reducible refine (e2 _ hw1).mono ?_);rintro e X2⟨rfl,hx2⟩
     have hw2:Below w.heap.size w X2:=hw1.trans (hx2.mono hw1.size);have q2:=(k2.below hx1 k2.lt).below hx2 (Nat.lt_of_lt_of_le k2.lt hx1.size);have q3:=(k3.below hx1 k3.lt).below hx2 (Nat.lt_of_lt_of_le k3.lt hx1.size);have o3:X2.cell? ⟨w.heap.size,2,none⟩=some (.slice a3 p1.left.length c3):=q2.cell 2;have o6:X2.cell? ⟨w.heap.size+1,2,none⟩=some (.slice a6 p2.left.length c6):=q3.cell 2)
   |(go_at_call 58;(with_reducible refine (e3 _ hw2).mono ?_);rintro e X3⟨rfl,hx3⟩
     have hw3:Below w.heap.size w X3:=hw2.trans (hx3.mono hw2.size))
   |fail)
 all_goals go_ret
 all_goals refine⟨by unfold c2c;rw[hb1.out,hb2.out,hb3.out];rfl,?_⟩
 all_goals first|assumption|exact zC
theorem b6z:inE.Ok:=⟨fun _=>rfl,by decide,fun x u hu=>by
 simp at hu;subst hu;rfl⟩
theorem d2x:inE.In prog 51:=El.in_of (z:= .int .i64 0) (s:=1) (bytes:=8) underlying51 (by kernel_rfl) rfl (by omega) rfl
theorem c5l (ev fv wv pv:Value)(l:List Pc)(w:World)(hL:Lst plE w.heap.size w pv l)(hF:Frm pv l.length)(hl:l.length≤100) :
 Calls prog 14 #[c0p ev fv wv pv] w fun e w'=>∃v,e= .returned v∧Lst inE w'.heap.size w' v ((a1d l).map Pc.id)∧Frm v ((a1d l).map Pc.id).length∧Below w.heap.size w w':=by
 have hlS:(a1d l).length=l.length:=(a1q l).length_eq;obtain⟨ps,hps⟩:∃ps,a1d l=ps:=⟨_,rfl⟩;rw[hps] at hlS ⊢;go_enter func14,ntmps14;go_upto_region 1 with fail;have k2:=Blk.new w #[ev,fv,wv,pv] 37;have hb:Below w.heap.size w (w.alloc (.cells #[ev,fv,wv,pv] 37)):=zC;obtain⟨W,hW⟩:∃W,w.alloc (.cells #[ev,fv,wv,pv] 37)=W:=⟨_,rfl⟩;rw[hW] at k2 hb ⊢;clear hW;have hO:=a6v ev fv wv pv l W (hL.up hb) hF hl;rw[hps] at hO;obtain⟨m0,m1,m2,m3⟩:W.cell? ⟨w.heap.size,0,none⟩=some ev∧W.cell? ⟨w.heap.size,1,none⟩=some fv∧W.cell? ⟨w.heap.size,2,none⟩=some wv∧W.cell? ⟨w.heap.size,3,none⟩=some pv:=⟨k2.cell 0,k2.cell 1,k2.cell 2,k2.cell 3⟩;go_wp2_with (first
  |(go_at_call 44;refine hO.mono ?_;rintro e W1⟨v,rfl,hr1,hb1⟩;rw[←hlS] at hr1;obtain⟨va,vc,rfl,hvc⟩:=(a0b a2l hr1 (by omega)).form)
  |fail)
 have hbW1:Below w.heap.size w W1:=hb.trans (hb1.mono hb.size);have hLp:=a0b a2l hr1 (by omega);clear hO m0 m1 m2 m3 k2 hr1 hL hF hps hb hb1;go_loopw [3,9] (fun vv kk wr=>∃k:Nat,k≤ps.length∧kk= .int .i64 (k:Nat)∧wr.ownsRow W1.heap.size 3 1 vv ((ps.take k).map Pc.id).length (((ps.take k).map Pc.id).flatMap inE.enc)∧Below W1.heap.size W1 wr) (fun vv kk _=>ps.length-(intOf kk).toNat)
 case atStart=>exact⟨0,Nat.zero_le _,rfl,⟨by simp,.inl ⟨rfl,by simp⟩⟩,zR _ _⟩
 case round =>
  obtain⟨k,hkl,rfl,hrow,hbr⟩:=hrel;by_cases hlt:k<ps.length
  ·have hltI:(k:Int)<(ps.length:Int):=by omega
   have hLr:=hLp.up hbr;obtain⟨b,off,cap,hv,-,hbl,hc⟩:=hLr.some_ (by omega);simp only[Value.slice.injEq,true_and] at hv;obtain⟨rfl,rfl⟩:=hv;obtain⟨p,hp⟩:∃p,ps[k]=p:=⟨_,rfl⟩;have hck:=hc k hlt;rw[hp] at hck;have hKn:(ps.take (k+1)).map Pc.id=(ps.take k).map Pc.id++[p.id]:=by rw[←hp,←List.take_append_getElem hlt,List.map_append];rfl
   have hKl:((ps.take k).map Pc.id).length≤1000:=by rw[List.length_map,List.length_take];omega
   obtain⟨id,x,y,cls,nm,wt,ds⟩:=p;obtain⟨d0,d1,d2,d3,d4,d5,d6⟩:wr.cell? ⟨b,off+k*7,none⟩=some (.int .i64 id)∧wr.cell? ⟨b,off+k*7+1,none⟩=some (.int .i64 x)∧wr.cell? ⟨b,off+k*7+2,none⟩=some (.int .i64 y)∧wr.cell? ⟨b,off+k*7+3,none⟩=some (.string cls)∧wr.cell? ⟨b,off+k*7+4,none⟩=some (.string nm)∧wr.cell? ⟨b,off+k*7+5,none⟩=some (.int .i64 wt)∧wr.cell? ⟨b,off+k*7+6,none⟩=some (.int .i64 ds):=⟨hck 0 (show 0<7 by decide),hck 1 (show 1<7 by decide),hck 2 (show 2<7 by decide),hck 3 (show 3<7 by decide),hck 4 (show 4<7 by decide),hck 5 (show 5<7 by decide),hck 6 (show 6<7 by decide)⟩;obtain⟨K,hK⟩:∃K,(ps.take k).map Pc.id=K:=⟨_,rfl⟩;rw[hK] at hrow hKn hKl;obtain⟨va,vc,rfl,-⟩:=(a0b b6z hrow (by omega)).form;have hzr:=hbr.size;clear hck hc hLr hK hp;go_upto_region 5 with fail;have kP:=Blk.new wr #[.int .i64 id,.int .i64 x,.int .i64 y,.string cls,.string nm,.int .i64 wt,.int .i64 ds] 66;have hbP:Below wr.heap.size wr (wr.alloc (.cells #[.int .i64 id,.int .i64 x,.int .i64 y,.string cls,.string nm,.int .i64 wt,.int .i64 ds] 66)):=(zR _ _).alloc (yR _) _;obtain⟨W9,hW9⟩:∃X,wr.alloc (.cells #[.int .i64 id,.int .i64 x,.int .i64 y,.string cls,.string nm,.int .i64 wt,.int .i64 ds] 66)=X:=⟨_,rfl⟩;rw[hW9] at kP hbP ⊢;obtain⟨BP,hBP⟩:∃X,wr.heap.size=X:=⟨_,rfl⟩;have hz9:=hbP.size;have hrow9:=a1l hrow hbP;have hb19:Below W1.heap.size W1 W9:=hbr.trans (hbP.mono hzr);rw[hBP] at kP ⊢;have r0:W9.cell? ⟨BP,0,none⟩=some (.int .i64 id):=kP.cell 0;clear hW9 d0 d1 d2 d3 d4 d5 d6 hBP;go_wp2_with (first
    |(at_builtin;refine El.push b6z d2x (by rfl) _ _ (by rfl) (by rfl) hrow9 id (by rfl) rfl (by omega) (by omega) ?_;intro v11 w11 hr11 hf11 hg11 hb11
      obtain⟨a11,c11,rfl⟩:=hf11)
    |fail)
   go_roundw
   case rel=>exact⟨k+1,by omega,by go_num,by rw[hKn];simpa using hr11,hb19.trans hb11⟩
   case measure=>simp[intOf];omega
  ·obtain rfl:k=ps.length:=by omega
   have hge:¬(ps.length:Int)<(ps.length:Int):=by omega
   rw[List.take_length] at hrow;go_wp2_with fail;go_ret;exact⟨u3,rfl,a0b b6z hrow (by rw[List.length_map];omega),(by have h:=a2b hrow;rw[List.length_map,hlS] at h;exact h),hbW1.trans (hbr.mono hbW1.size)⟩
def atD (x y:Int)(d:Dt):Bool:=decide (d.x=x)&&decide (d.y=y)
theorem c5m (d:Dt)(X Y:Nat)(x y:Int)(w:World)(hx:w.cell? ⟨X,0,none⟩=some (.int .i64 x))(hy:w.cell? ⟨Y,0,none⟩=some (.int .i64 y)) :
 Calls prog 46 #[.agg (b5y d).toArray,.pointer (some ⟨X,0,none⟩),.pointer (some ⟨Y,0,none⟩)] w fun e w'=>e= .returned (.bool (atD x y d))∧Below w.heap.size w w':=by
 obtain⟨dx,dy,dk,di⟩:=d;unfold atD;have hXl:=World.block_lt_of_cell? _ _ hx;have hYl:=World.block_lt_of_cell? _ _ hy;by_cases h1:dx=x
 ·subst h1
  by_cases h2:dy=y
  ·subst h2
   go_enter func46,ntmps46;go_wp2_with fail;go_ret;exact⟨by simp,zC⟩
  ·have hb:(dy==y)=false:=by simpa using h2
   rw[decide_eq_false h2];go_enter func46,ntmps46;go_wp2_with fail;go_ret;exact⟨by simp,zC⟩
 ·have hb:(dx==x)=false:=by simpa using h1
  rw[decide_eq_false h1];go_enter func46,ntmps46;go_wp2_with fail;go_ret;exact⟨by simp,zC⟩
def d4i (o:Option Dt):Value:=match o with|some d=> .tuple #[.int .i64 d.k,.int .i64 d.i]|none=> .tuple #[.int .i64 0,.int .i64 0]
theorem c0t (s:Sh)(dv kv lv:Value)(l:List Dt)(x y:Int)(w:World)(hl:Lst dtE w.heap.size w dv l)(hf:Frm dv l.length) :
 Calls prog 16 #[shV s,a2f dv kv lv,.int .i64 x,.int .i64 y] w fun e w'=>e= .returned (d4i (l.find? (atD x y)))∧Below w.heap.size w w':=by
 obtain⟨la,lc,rfl,-⟩:=hl.form;have hmf:∀(fn:Fn) (first cap:Array Value) (w:World),(Instr.makeFunc fn first cap).run prog w= .ok (.func fn first cap) w:=fun _ _ _ _=>rfl
 go_enter func16,ntmps16;go_upto_region 1 with fail;have k3:=((Blk.new (w.alloc (.cells #[.int .i64 s.ax,.int .i64 s.ay,.int .i64 s.st,.int .i64 s.w,.int .i64 s.h,.int .i64 s.g] 28)) #[.slice la l.length lc,kv,lv] 45).alloc (.cells #[.int .i64 x] 3)).alloc (.cells #[.int .i64 y] 3);have kX:=(Blk.new ((w.alloc (.cells #[.int .i64 s.ax,.int .i64 s.ay,.int .i64 s.st,.int .i64 s.w,.int .i64 s.h,.int .i64 s.g] 28)).alloc (.cells #[.slice la l.length lc,kv,lv] 45)) #[.int .i64 x] 3).alloc (.cells #[.int .i64 y] 3);have kY:=Blk.new (((w.alloc (.cells #[.int .i64 s.ax,.int .i64 s.ay,.int .i64 s.st,.int .i64 s.w,.int .i64 s.h,.int .i64 s.g] 28)).alloc (.cells #[.slice la l.length lc,kv,lv] 45)).alloc (.cells #[.int .i64 x] 3)) #[.int .i64 y] 3;have hb:Below w.heap.size w ((((w.alloc (.cells #[.int .i64 s.ax,.int .i64 s.ay,.int .i64 s.st,.int .i64 s.w,.int .i64 s.h,.int .i64 s.g] 28)).alloc (.cells #[.slice la l.length lc,kv,lv] 45)).alloc (.cells #[.int .i64 x] 3)).alloc (.cells #[.int .i64 y] 3)):=zC;simp only[World.size_alloc] at k3 kX kY;obtain⟨W,hW⟩:∃W,(((w.alloc (.cells #[.int .i64 s.ax,.int .i64 s.ay,.int .i64 s.st,.int .i64 s.w,.int .i64 s.h,.int .i64 s.g] 28)).alloc (.cells #[.slice la l.length lc,kv,lv] 45)).alloc (.cells #[.int .i64 x] 3)).alloc (.cells #[.int .i64 y] 3)=W:=⟨_,rfl⟩;rw[hW] at k3 kX kY hb ⊢;clear hW;have h0:=a5d (.slice la l.length lc) l W (hl.up hb) hf (atD x y) 46 #[.pointer (some ⟨w.heap.size+1+1,0,none⟩),.pointer (some ⟨w.heap.size+1+1+1,0,none⟩)] (enters_of func46 (by kernel_rfl) rfl)
  (fun X d hx=>(c5m d (w.heap.size+1+1) (w.heap.size+1+1+1) x y X ((kX.below hx kX.lt).cell 0) ((kY.below hx kY.lt).cell 0)).mono fun _ _ ⟨he,h⟩=>⟨he,hx.trans (h.mono hx.size)⟩)
 have c0:W.cell? ⟨w.heap.size+1,0,none⟩=some (.slice la l.length lc):=k3.cell 0;have hlW:=hl.up hb;clear hl;rcases c0j (atD x y) l with ⟨h1,h2⟩|⟨k,hk,h1,h2⟩
 ·rw[h1] at h0
  replace h0:Calls _ _ _ _ fun e w'=>e= .returned (.int .i64 (-1))∧Below W.heap.size W w':=h0
  replace h2:=Lib.hid h2;clear h1;go_wp2_with (first
   |(go_at_call 45;(with_reducible refine h0.mono ?_);rintro e w8⟨rfl,hb8⟩)
   |fail)
  exact bodyPost_ret (v:= .tuple #[.int .i64 0,.int .i64 0]) (by simp[results,results16,go_sem]) rfl ⟨by rw[h2.out];rfl,hb.trans (hb8.mono hb.size)⟩
 ·rw[h1] at h0
  replace h0:Calls _ _ _ _ fun e w'=>e= .returned (.int .i64 (k:Nat))∧Below W.heap.size W w':=h0
  obtain⟨b,off,cap,hv,hcap,hlb,hc⟩:=hlW.some_ (by omega);simp only[Value.slice.injEq,true_and] at hv;obtain⟨rfl,rfl⟩:=hv;obtain⟨d,hd⟩:∃d,l[k]=d:=⟨_,rfl⟩;rw[hd] at h2;replace h2:=Lib.hid h2;have hkI:(k:Int)<(l.length:Int):=by omega
  have hk0:¬(k:Int)<0:=by omega
  clear h1;go_upto_region 4 with (first
   |(go_at_call 45;(with_reducible refine h0.mono ?_);rintro e w8⟨rfl,hb8⟩
     have e0:w8.cell? ⟨w.heap.size+1,0,none⟩=some (.slice (some ⟨b,off,none⟩) l.length lc):=(k3.below hb8 k3.lt).cell 0;obtain⟨b',off',cap',hv',-,-,hc'⟩:=(hlW.up hb8).some_ (by omega);simp only[Value.slice.injEq,Option.some.injEq,Addr.mk.injEq,and_true,true_and] at hv';obtain⟨⟨rfl,rfl⟩,rfl⟩:=hv';have hck:=hc' k hk;rw[hd] at hck;have d2:w8.cell? ⟨b,off+k*4+2,none⟩=some (.int .i64 d.k):=hck 2 (show 2<4 by decide);have d3:w8.cell? ⟨b,off+k*4+3,none⟩=some (.int .i64 d.i):=hck 3 (show 3<4 by decide);clear hck hc')
   |fail)
  clear hc hd hlW c0;go_region;go_wp2_with fail;have hq:=hb.trans (hb8.mono hb.size);refine bodyPost_ret (v:= .tuple #[.int .i64 d.k,.int .i64 d.i]) (by simp[results,results16,go_sem]) rfl ⟨by rw[h2.out];rfl,?_⟩;first|exact hq|exact hq.drew|exact below_drewN hq _
end
section
open Go Go.RowKit Go.Shelf Go.Lib Go.Maps
attribute [local go_sem] Oper.semAt_some
attribute [local go_sem ↓] Go.wp_at_zero Go.wp_at_succ
abbrev idK:Ky Int:=⟨3,fun n=> .int .i64 n,fun n=> .int .i64 n,a0k⟩
abbrev boV:Ve Bool:=⟨4,.bool,false⟩
theorem c5n {p:Int}(h:a0k p):keyOf prog 3 (.int .i64 p)=some (.int .i64 p):=keyOf_int_mk underlying3 (a8z h)
theorem d2y:idK.Law prog:=⟨int_keyed underlying3,fun h=>c5n h,fun {v l} h=>by
 rw[keyOf_int underlying3] at h;unfold mapKey at h;rw[underlying3] at h
 cases v <;> simp at h
 obtain⟨⟨h1,h2⟩,h3⟩:=h;subst h1 h3;exact⟨_,d0a h2,rfl,rfl⟩,fun h=>by simpa using h⟩
theorem c2d (w:World):(zeroValue 4).run prog w= .ok (.bool false) w:=by kernel_rfl
theorem b9l {en:List (Int×Bool)}{W:World}{b n:Nat}(h:MapK prog idK boV W b n en){p:Int}(hp:a0k p):(Instr.lookup 169 (.map (some b)) (.int .i64 p) false).run prog W= .ok (.bool ((idG en p).getD false)) W:=by
 obtain⟨D,ho,-,-,-,hD⟩:=h;obtain⟨v,ps,hrun,hv⟩:=ho.lookup (int_keyed underlying3) underlying169 (c2d W) (plainElem_bool underlying4 false) (c5n hp);have hvb:∃c,v= .bool c∧D.atKey (.int .i64 p) (.lit (.bool false))= .lit (.bool c):=by
  unfold plainElem at hv;rw[underlying4] at hv;generalize D.atKey (.int .i64 p) (.lit (.bool false))=X at hv ⊢
  cases v <;> simp at hv
  exact⟨_,rfl,hv.1.symm⟩
 obtain⟨c,rfl,hc⟩:=hvb;have h2:=(hD p hp).2;simp only at h2;rw[hc] at h2;have h4:c=(idG en p).getD false:=by simpa using h2
 rw[hrun,h4]
theorem MapK.wpIn_store {α β:Type} [DecidableEq α]{F:Fence}{nF:Nat}{P:Program}{K:Ky α}{V:Ve β}{W:World}{b n:Nat}{l:List (α×β)}(L:K.Law P){ops:Array Oper}{rest:List Oper}{o:Oper}{a:Act}{Q:Exit→Act→World→Prop}(hg:o.guard=none)(m x v:Operand)(t:TypeId)(hop:o.op=Op.mapUpdate t m x v)(ht:P.underlying t=some (.map K.t V.t))
 (hm:a.eval m= .map (some b)) (h:MapK P K V W b n l) (hn:n<maxLen) {p:α} (hp:K.Ok p) (hx:a.eval x=K.val p) {y:β} {val:Value} (hv:a.eval v=val) (hval:plainElem (H:=Unit) P V.t val=some (.lit (V.lit y),[]))
 (hK:∀w',MapK P K V w' b (n+1) (c3e l p y)→W.grownBy w' (some b)→wpListIn F nF P ops Q rest (a.put o.dst undef) w'):wpListIn F nF P ops Q (o::rest) a W:=by
 obtain⟨D,ho,h1,h2,h4,h3⟩:=h;refine wpListIn_mapUpdate_own W hg m x v t hop K.t V.t L.law ht _ b n D hm ho hn (K.val p) val (K.kl p) hx hv (L.key hp) _ [] hval ?_;intro w' ho' hg';exact hK w' (MapK.store L (ho.tidy L.law) h1 h2 h4 h3 hp ho') hg'
def SetI (en:List (Int×Bool))(s:List Int):Prop:=∀p,(idG en p).getD false=decide (p∈s)
theorem SetI.nil:SetI [] []:=fun p=>by simp[idG]
theorem SetI.put {en:List (Int×Bool)}{s:List Int}(h:SetI en s)(p:Int):SetI (c3e en p true) (p::s):=fun q=>by
 rw[c3g];by_cases hq:q=p
 ·rw[if_pos hq];simp[hq]
 ·rw[if_neg hq,h q];simp[hq]
end
end Go.Proofs.YtfocdbjceedagaaGreatDoor
