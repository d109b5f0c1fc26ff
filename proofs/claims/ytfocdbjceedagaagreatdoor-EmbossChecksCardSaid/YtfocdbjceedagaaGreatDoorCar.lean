/-
  Parts.
-/
import Derived.Test.YtfocdbjceedagaaGreatDoorCan
import Derived.Test.YtfocdbjceedagaaGreatDoorCaq
set_option linter.unusedVariables false
set_option linter.unusedSimpArgs false
set_option maxHeartbeats 4000000
set_option maxRecDepth 100000
namespace Go.Proofs.YtfocdbjceedagaaGreatDoor
open Tryz
section
open Go Go.RowKit Go.Shelf Go.Lib
theorem c7p (a b:Bw):(a.toList=b.toList)=(a=b):=by
 rw[ByteArray.toList_eq,ByteArray.toList_eq];refine propext ⟨λh=> ?_,λh=>by rw[h]⟩
 cases a
 cases b;simp only at h;rw[Array.toList_inj.1 h]
theorem c0g {α:Type} [DecidableEq α]:∀l m:List α,Lib.allEq (λa b=>decide (a=b)) l m=decide (l=m)
 |[],[]=>by simp[Lib.allEq]
 |[],y::m=>by simp[Lib.allEq]
 |x::l,[]=>by simp[Lib.allEq]
 |x::l,y::m=>by
  have:=c0g l m;by_cases h:x=y <;> simp[Lib.allEq,this,h]
theorem c3r {α:Type} [DecidableEq α]{l m:List α}(h:l.length≠m.length):decide (l=m)=false:=decide_eq_false λe=>h (by rw[e])
theorem e2u (x1 y1 k1 i1:Int)(x2 y2 k2 i2:Int)(w:Wd):(binOp .neq 54 (.agg #[.int .i64 x1,.int .i64 y1,.int .i64 k1,.int .i64 i1]) (.agg #[.int .i64 x2,.int .i64 y2,.int .i64 k2,.int .i64 i2])).run prog w= .ok (.bool (!decide ((⟨x1,y1,k1,i1⟩:Dt)=⟨x2,y2,k2,i2⟩))) w:=by
 have u3:=underlying3;have a3:=isAgg3;have z3:=sizeOf3;have hS:prog.underlying 54=some (.struct (prog.fieldsOf 54)):=by kernel_rfl
 have hp:prog.stoodInHeld 54=false:=by kernel_rfl
 rw[run_neq_struct,show(10000:Nat)=9999+1 from rfl,run_equalIn_agg w 9999 54 _ _ hS hp];simp only[Program.fieldsOf,underlying54];clear hS;go_simp;by_cases h0:x1=x2 <;> by_cases h1:y1=y2 <;> by_cases h2:k1=k2 <;> by_cases h3:i1=i2 <;> simp[h0,h1,h2,h3]
theorem d8x :NeqAt prog 54 (λx:Dt=> .agg (dtE.enc x).toArray) (λa b=>decide (a=b)):=by
 refine⟨λa b w=> ?_,λop p q a b w=>run_eqGuard_agg w op 54 p q _ _ zM⟩;obtain⟨x1,y1,k1,i1⟩:=a;obtain⟨x2,y2,k2,i2⟩:=b;exact e2u x1 y1 k1 i1 x2 y2 k2 i2 w
theorem e0x (a1 a2:Option Addr)(n c m d:Nat)(w:Wd)(h:n≠m\/n=0) :
 Zc prog 56 #[.slice a1 n c,.slice a2 m d] w (.bool (decide (n=m))):=by
 by_cases rh:n=m
 ·subst rh
  obtain rfl:=h.resolve_left vM;go_enter func56,ntmps56;exact yhw
 ·have av:((n:Int) != (m:Int))=true:=by simp;omega
  rw[decide_eq_false rh];go_enter func56,ntmps56;exact yeo
theorem e0y (v1 v2:Vu)(l1 l2:List Dt)(w:Wd)(h1:Lst dtE w.heap.size w v1 l1)(h2:Lst dtE w.heap.size w v2 l2) :
 Zc prog 56 #[v1,v2] w (.bool (decide (l1=l2))):=by
 obtain⟨a1,c1,rfl,-⟩:=h1.form;obtain⟨a2,c2,rfl,-⟩:=h2.form;by_cases hc:l1.length≠l2.length\/l1.length=0
 ·have:=e0x a1 a2 l1.length c1 l2.length c2 w hc
  exact yca
 ·have he:l1.length=l2.length:=oM
  have h0:0<l1.length:=oM;obtain⟨b1,o1,d1,e1,-,-,k1⟩:=h1.some_ h0;obtain⟨b2,o2,d2,e2,-,-,k2⟩:=h2.some_ oM;simp only[Value.slice.injEq,true_and]at e1 e2;obtain⟨rfl,rfl⟩:=e1;obtain⟨rfl,rfl⟩:=e2;have eP:=h1.len;have iP:=h2.len;refine(AnyQ.slices_Equal Tryz.equalDt 4 isAgg54 sizeOf54 dtE.enc (λ_=>rfl) (λa b=>decide (a=b)) d8x b1 o1 l1.length c1 b2 o2 l2.length c2 l1 l2 w (yR _) (yR _) oM oM (a4a h1 (λ_=>rfl)) (a4a h2 (λ_=>rfl))).mono ?_;exact yfh
theorem d8y (n1 p1:Int)(c1:Bw)(n2 p2:Int)(c2:Bw)(w:Wd):(binOp .neq 82 (.agg #[.int .i64 n1,.int .i64 p1,.string c1]) (.agg #[.int .i64 n2,.int .i64 p2,.string c2])).run prog w= .ok (.bool (!decide ((⟨n1,p1,c1⟩:Ke)=⟨n2,p2,c2⟩))) w:=by
 have u3:=underlying3;have a3:=isAgg3;have z3:=sizeOf3;have u9:=underlying9;have a9:=isAgg9;have z9:=sizeOf9;have hS:prog.underlying 82=some (.struct (prog.fieldsOf 82)):=by kernel_rfl
 have hp:prog.stoodInHeld 82=false:=by kernel_rfl
 rw[run_neq_struct,show(10000:Nat)=9999+1 from rfl,run_equalIn_agg w 9999 82 _ _ hS hp];simp only[Program.fieldsOf,underlying82];clear hS;go_simp;by_cases h0:n1=n2 <;> by_cases h1:p1=p2 <;> by_cases h2:c1=c2 <;> simp[h0,h1,h2,c7p]
theorem d8z :NeqAt prog 82 (λx:Ke=> .agg (keE.enc x).toArray) (λa b=>decide (a=b)):=by
 refine⟨λa b w=> ?_,λop p q a b w=>run_eqGuard_agg w op 82 p q _ _ zM⟩;obtain⟨n1,p1,c1⟩:=a;obtain⟨n2,p2,c2⟩:=b;exact d8y n1 p1 c1 n2 p2 c2 w
theorem e0z (a1 a2:Option Addr)(n c m d:Nat)(w:Wd)(h:n≠m\/n=0) :
 Zc prog 57 #[.slice a1 n c,.slice a2 m d] w (.bool (decide (n=m))):=by
 by_cases rh:n=m
 ·subst rh
  obtain rfl:=h.resolve_left vM;go_enter func57,ntmps57;exact yhw
 ·have av:((n:Int) != (m:Int))=true:=by simp;omega
  rw[decide_eq_false rh];go_enter func57,ntmps57;exact yeo
theorem e1a (v1 v2:Vu)(l1 l2:List Ke)(w:Wd)(h1:Lst keE w.heap.size w v1 l1)(h2:Lst keE w.heap.size w v2 l2) :
 Zc prog 57 #[v1,v2] w (.bool (decide (l1=l2))):=by
 obtain⟨a1,c1,rfl,-⟩:=h1.form;obtain⟨a2,c2,rfl,-⟩:=h2.form;by_cases hc:l1.length≠l2.length\/l1.length=0
 ·have:=e0z a1 a2 l1.length c1 l2.length c2 w hc
  exact yca
 ·have he:l1.length=l2.length:=oM
  have h0:0<l1.length:=oM;obtain⟨b1,o1,d1,e1,-,-,k1⟩:=h1.some_ h0;obtain⟨b2,o2,d2,e2,-,-,k2⟩:=h2.some_ oM;simp only[Value.slice.injEq,true_and]at e1 e2;obtain⟨rfl,rfl⟩:=e1;obtain⟨rfl,rfl⟩:=e2;have eP:=h1.len;have iP:=h2.len;refine(AnyQ.slices_Equal Tryz.equalKe 3 isAgg82 sizeOf82 keE.enc (λ_=>rfl) (λa b=>decide (a=b)) d8z b1 o1 l1.length c1 b2 o2 l2.length c2 l1 l2 w (yR _) (yR _) oM oM (a4a h1 (λ_=>rfl)) (a4a h2 (λ_=>rfl))).mono ?_;exact yfh
theorem e1b (p1 k1 i1:Int)(p2 k2 i2:Int)(w:Wd):(binOp .neq 68 (.agg #[.int .i64 p1,.int .i64 k1,.int .i64 i1]) (.agg #[.int .i64 p2,.int .i64 k2,.int .i64 i2])).run prog w= .ok (.bool (!decide ((⟨p1,k1,i1⟩:Lf)=⟨p2,k2,i2⟩))) w:=by
 have u3:=underlying3;have a3:=isAgg3;have z3:=sizeOf3;have hS:prog.underlying 68=some (.struct (prog.fieldsOf 68)):=by kernel_rfl
 have hp:prog.stoodInHeld 68=false:=by kernel_rfl
 rw[run_neq_struct,show(10000:Nat)=9999+1 from rfl,run_equalIn_agg w 9999 68 _ _ hS hp];simp only[Program.fieldsOf,underlying68];clear hS;go_simp;by_cases h0:p1=p2 <;> by_cases h1:k1=k2 <;> by_cases h2:i1=i2 <;> simp[h0,h1,h2]
theorem d9a :NeqAt prog 68 (λx:Lf=> .agg (lfE.enc x).toArray) (λa b=>decide (a=b)):=by
 refine⟨λa b w=> ?_,λop p q a b w=>run_eqGuard_agg w op 68 p q _ _ zM⟩;obtain⟨p1,k1,i1⟩:=a;obtain⟨p2,k2,i2⟩:=b;exact e1b p1 k1 i1 p2 k2 i2 w
theorem e1d (a1 a2:Option Addr)(n c m d:Nat)(w:Wd)(h:n≠m\/n=0) :
 Zc prog 58 #[.slice a1 n c,.slice a2 m d] w (.bool (decide (n=m))):=by
 by_cases rh:n=m
 ·subst rh
  obtain rfl:=h.resolve_left vM;go_enter func58,ntmps58;exact yhw
 ·have av:((n:Int) != (m:Int))=true:=by simp;omega
  rw[decide_eq_false rh];go_enter func58,ntmps58;exact yeo
theorem e2v (v1 v2:Vu)(l1 l2:List Lf)(w:Wd)(h1:Lst lfE w.heap.size w v1 l1)(h2:Lst lfE w.heap.size w v2 l2) :
 Zc prog 58 #[v1,v2] w (.bool (decide (l1=l2))):=by
 obtain⟨a1,c1,rfl,-⟩:=h1.form;obtain⟨a2,c2,rfl,-⟩:=h2.form;by_cases hc:l1.length≠l2.length\/l1.length=0
 ·have:=e1d a1 a2 l1.length c1 l2.length c2 w hc
  exact yca
 ·have he:l1.length=l2.length:=oM
  have h0:0<l1.length:=oM;obtain⟨b1,o1,d1,e1,-,-,k1⟩:=h1.some_ h0;obtain⟨b2,o2,d2,e2,-,-,k2⟩:=h2.some_ oM;simp only[Value.slice.injEq,true_and]at e1 e2;obtain⟨rfl,rfl⟩:=e1;obtain⟨rfl,rfl⟩:=e2;have eP:=h1.len;have iP:=h2.len;refine(AnyQ.slices_Equal Tryz.equalLf 3 isAgg68 sizeOf68 lfE.enc (λ_=>rfl) (λa b=>decide (a=b)) d9a b1 o1 l1.length c1 b2 o2 l2.length c2 l1 l2 w (yR _) (yR _) oM oM (a4a h1 (λ_=>rfl)) (a4a h2 (λ_=>rfl))).mono ?_;exact yfh
theorem b5z (pl:Pn)(ps:List Pc)(p:Pc):a1p a2s pl (ps++[p])=a1p a2s pl ps++(if(why pl p.id).isNone then a2s p else []):=by
 unfold a1p;rw[List.flatMap_append];simp
theorem c0h (pl:Pn)(ps:List Pc):(a1p a2s pl ps).length<=ps.length:=by
 refine a4s (Q:=λps=>(a1p a2s pl ps).length<=ps.length) (by simp[a1p]) (λps p h=> ?_) ps;rw[b5z,List.length_append,List.length_append];have hk:(a2s p).length<=1:=by unfold a2s;cases c8u p <;> simp
 exact ykx
theorem d5p (ev fv wv pv dv kv lv:Vu)(l:List Pc)(pl:Pn)(w:Wd)(hL:Lst plE w.heap.size w pv l)(hF:Frm pv l.length)(hl:l.length<=100)(a7:∀p∈l,PcOk p/\p.cls.size<=1000)(hk:Lst keE w.heap.size w kv pl.keys)(cZ:Lst lfE w.heap.size w lv pl.left)(jZ:Frm lv pl.left.length) :
 Calls prog 50 #[b3t ev fv wv pv,a1t dv kv lv] w λe w'=>(a1p a2s pl (a0q l)=pl.keys/\e= .returned (.tuple #[])\/a1p a2s pl (a0q l)≠pl.keys/\e= .panicked (c3o 42))/\Below w.heap.size w w':=by
 have de:∀p∈a0q l,PcOk p/\p.cls.size<=1000:=λp hp=>a7 p ((a0v l).mem_iff.1 hp)
 have fp:(a0q l).length=l.length:=(a0v l).length_eq;obtain⟨ps,eT⟩:=zE (a0q l);rw[eT]at de fp ⊢;obtain⟨ka,kc,rfl,-⟩:=hk.form;obtain⟨la,lc,rfl,-⟩:=cZ.form;go_enter func50,ntmps50;go_upto_region 1 with fail;have k2:=(Blk.new w #[ev,fv,wv,pv] 37).alloc (.cells #[dv,.slice ka pl.keys.length kc,.slice la pl.left.length lc] 45);have k3:=Blk.new (w.alloc (.cells #[ev,fv,wv,pv] 37)) #[dv,.slice ka pl.keys.length kc,.slice la pl.left.length lc] 45;have hb:Below w.heap.size w ((w.alloc (.cells #[ev,fv,wv,pv] 37)).alloc (.cells #[dv,.slice ka pl.keys.length kc,.slice la pl.left.length lc] 45)):=zC;rw[World.size_alloc]at k3;obtain⟨W,hW⟩:=zE ((w.alloc (.cells #[ev,fv,wv,pv] 37)).alloc (.cells #[dv,.slice ka pl.keys.length kc,.slice la pl.left.length lc] 45));rw[hW]at k2 k3 hb ⊢;clear hW;have hO:=a8g ev fv wv pv l W (hL.up hb) hF hl;rw[eT]at hO;obtain⟨m0,m1,m2,m3⟩:=zN4 k2;go_wp2_with (first
  |(go_at_call 44;refine hO.mono ?_;rintro e W1⟨v,rfl,cK,aw⟩;rw[<-fp]at cK;obtain⟨va,vc,rfl,MG⟩:=(a0d a4f cK oM).form))
 have jJ:Below w.heap.size w W1:=hb.trans (aw.mono hb.size);have Dp:=a0d a4f cK oM;have qZ:=k3.below aw k3.lt;have jR:=hk.up jJ;have wT:=cZ.up jJ;clear hO m0 m1 m2 m3 k2 k3 cK hL hF eT hb aw hk cZ;go_loopw [4,12] (λvv kk wr=>∃k:Nat,k<=ps.length/\kk= .int .i64 (k:Nat)/\wr.ownsRow W1.heap.size 82 3 vv (a1p a2s pl (ps.take k)).length ((a1p a2s pl (ps.take k)).flatMap keE.enc)/\Below W1.heap.size W1 wr) (λvv kk _=>ps.length-(intOf kk).toNat)
 case atStart=>exact⟨0,Nat.zero_le _,rfl,⟨by simp[a1p],.inl ⟨rfl,by simp[a1p]⟩⟩,zR _ _⟩
 case round =>
  obtain⟨k,aR,rfl,ae,aL⟩:=hrel;by_cases ag:k<ps.length
  ·have aA:(k:Int)<(ps.length:Int):=oM
   have eB:=Dp.up aL;obtain⟨b,off,cap,hv,-,gV,hc⟩:=eB.some_ oM;simp only[Value.slice.injEq,true_and]at hv;obtain⟨rfl,rfl⟩:=hv;obtain⟨p,hp⟩:=zE (ps[k]);have aB:=hc k ag;rw[hp]at aB;obtain⟨dY,ie⟩:=de p (hp▸List.getElem_mem ag);have j3:=b5z pl (ps.take k) p;rw[show ps.take k++[p]=ps.take (k+1) by rw[<-hp,List.take_append_getElem ag]]at j3;have oO:=c0h pl (ps.take k);rw[List.length_take]at oO;obtain⟨id,x,y,cls,nm,wt,ds⟩:=p;obtain⟨d0,d1,d2,d3,d4,d5,d6⟩:=c1s aB;have cL:=d1a ⟨id,x,y,cls,nm,wt,ds⟩ dY.nm;unfold e0c at cL;obtain⟨K,hK⟩:=zE (a1p a2s pl (ps.take k));rw[hK]at ae j3 oO;obtain⟨va,vc,rfl,-⟩:=(a0d b4r ae oM).form;have mv:=aL.size;clear aB hc eB hK hp
   cases tu:c8u ⟨id,x,y,cls,nm,wt,ds⟩with
   |none =>
    rw[tu]at cL;simp only[Option.isSome_none]at cL;have rf:a2s ⟨id,x,y,cls,nm,wt,ds⟩=[]:=by unfold a2s;rw[tu];rfl
    simp only[rf,ite_self,List.append_nil]at j3;clear tu;go_wp2_with (first
     |(go_at_call 37;(with_reducible refine(cL _).mono ?_);rintro e w8⟨kx,rfl,jI,bf⟩;have iY:Below wr.heap.size wr w8:=((zR _ _).alloc (yR _) _).trans (bf.mono vM)))
    go_roundw
    case rel =>
     have br:Below wr.heap.size wr (w8.alloc (.cells #[.int .i64 kx.n,.int .i64 kx.p,.string kx.c] 82)):=iY.alloc iY.size _;exact⟨k+1,oM,by go_num,by rw[j3];exact a0r ae br,aL.trans (br.mono mv)⟩
    case measure=>simp[intOf];omega
   |some k0 =>
    rw[tu]at cL;simp only[Option.isSome_some]at cL;have rf:a2s ⟨id,x,y,cls,nm,wt,ds⟩=[k0]:=by unfold a2s;rw[tu];rfl
    simp only[rf]at j3;clear tu;go_upto_region 6 with(first
     |(go_at_call 37;(with_reducible refine(cL _).mono ?_);rintro e w8⟨kx,rfl,jI,bf⟩;have iY:Below wr.heap.size wr w8:=((zR _ _).alloc (yR _) _).trans (bf.mono vM)))
    obtain rfl:=jI k0 rfl;have br:Below wr.heap.size wr (w8.alloc (.cells #[.int .i64 kx.n,.int .i64 kx.p,.string kx.c] 82)):=iY.alloc iY.size _;have IY:=((Blk.new wr #[.int .i64 id,.int .i64 x,.int .i64 y,.string cls,.string nm,.int .i64 wt,.int .i64 ds] 66).below bf vM).alloc (.cells #[.int .i64 kx.n,.int .i64 kx.p,.string kx.c] 82);have uf:=Blk.new w8 #[.int .i64 kx.n,.int .i64 kx.p,.string kx.c] 82;have uT:=bf.size;simp only[World.size_alloc]at uT;obtain⟨W9,fP⟩:=zE (w8.alloc (.cells #[.int .i64 kx.n,.int .i64 kx.p,.string kx.c] 82));rw[fP]at br IY uf ⊢;obtain⟨BK,QJ⟩:=zE w8.heap.size;obtain⟨BP,pW⟩:=zE wr.heap.size;rw[QJ]at uf ⊢;rw[pW]at IY ⊢;have gX:Below W1.heap.size W1 W9:=aL.trans (br.mono mv);have FX:=qZ.below gX qZ.lt;obtain⟨q0,q1,q2⟩:=zN3 FX;have r0:W9.cell? ⟨BP,0,none⟩=some (.int .i64 id):=IY.cell 0;obtain⟨y0,y1,y2⟩:=zN3 uf;have gq:=c3p dv (.slice ka pl.keys.length kc) (.slice la pl.left.length lc) pl id W9 (wT.up gX) jZ;have bQ:=a0r ae br;have DJ:=gX.size;clear fP iY cL d0 d1 d2 d3 d4 d5 d6 FX
    cases jx:why pl id with
    |some i =>
     rw[jx]at gq j3;simp only[a8n,Option.isNone_some,Bool.false_eq_true,if_false,List.append_nil]at gq j3;have aT:¬((i:Nat):Int)<0:=oM;clear jx;go_wp2_with (first
      |(go_at_call 107;(with_reducible refine gq.mono ?_);rintro e gh⟨rfl,dt⟩))
     go_roundw
     case rel=>exact⟨k+1,oM,by go_num,by rw[j3];exact a0r bQ dt,gX.trans (dt.mono DJ)⟩
     case measure=>simp[intOf];omega
    |none =>
     rw[jx]at gq j3;simp only[a8n,Option.isNone_none,if_true]at gq j3;clear jx;go_wp2_with (first
      |(go_at_call 107;(with_reducible refine gq.mono ?_);rintro e gh⟨rfl,dt⟩
        have QK:=dt.size;obtain⟨t0,t1,t2⟩:gh.cell? ⟨BK,0,none⟩=some (.int .i64 kx.n)/\gh.cell? ⟨BK,1,none⟩=some (.int .i64 kx.p)/\gh.cell? ⟨BK,2,none⟩=some (.string kx.c):=⟨(uf.below dt uf.lt).cell 0,(uf.below dt uf.lt).cell 1,(uf.below dt uf.lt).cell 2⟩;have yw:=a0r bQ dt)
      |(at_builtin;refine El.push b4r e2b qM _ _ qM qM yw kx qM rfl oM oM ?_;intro v11 nQ iV yx sR fG
        obtain⟨QL,DK,rfl⟩:=yx))
     go_roundw
     case rel=>exact⟨k+1,oM,by go_num,by rw[j3];simpa using iV,(gX.trans (dt.mono DJ)).trans fG⟩
     case measure=>simp[intOf];omega
  ·obtain rfl:k=ps.length:=oM
   have aY:¬(ps.length:Int)<(ps.length:Int):=oM;rw[List.take_length]at ae;have FX:=qZ.below aL qZ.lt;have c1:wr.cell? ⟨w.heap.size+1,1,none⟩=some (.slice ka pl.keys.length kc):=FX.cell 1;have oO:=c0h pl ps;have lS:=e1a u4 (.slice ka pl.keys.length kc) (a1p a2s pl ps) pl.keys wr (a0d b4r ae oM) (jR.up aL);obtain⟨K,hK⟩:=zE (a1p a2s pl ps);rw[hK]at lS ae oO;replace hK:=Lib.hid hK;obtain⟨va,vc,rfl,-⟩:=(a0d b4r ae oM).form;by_cases he:K=pl.keys
   ·rw[decide_eq_true he]at lS
    replace he:=Lib.hid he;clear ae;go_wp2_with (first
     |(go_at_call 57;(with_reducible refine lS.mono ?_);rintro e w8⟨rfl,bf⟩)
     |(go_at_call 106;refine(a3o 42 _).mono ?_;rintro e w9⟨rfl,rfl⟩))
    exact⟨rfl,_,results_none rfl _ _ _,.inl ⟨hK.out.trans he.out,rfl⟩,jJ.trans ((aL.trans (bf.mono aL.size)).mono jJ.size)⟩
   ·rw[decide_eq_false he]at lS
    clear ae;go_wp2_with (first
     |(go_at_call 57;(with_reducible refine lS.mono ?_);rintro e w8⟨rfl,bf⟩)
     |(go_at_call 106;refine(a3e 42 _).mono ?_;rintro e w9⟨rfl,rfl⟩))
    exact⟨rfl,.inr ⟨λh=>he (hK.out.symm.trans h),rfl⟩,jJ.trans ((aL.trans (bf.mono aL.size)).mono jJ.size)⟩
def c0i (a b:Pn):Bool:=decide (a.dots=b.dots)&&(decide (a.keys=b.keys)&&decide (a.left=b.left))
theorem b0l (v1 v2:Vu)(p1 p2:Pn)(w:Wd)(h1:PlanIn w v1 p1)(h2:PlanIn w v2 p2) :
 Zc prog 21 #[v1,v2] w (.bool (c0i p1 p2)):=by
 obtain⟨dv,kv,lv,rfl,⟨hd,-⟩,⟨hk,-⟩,hl,-⟩:=h1.ex;obtain⟨vN,oP,QM,rfl,⟨dW,-⟩,⟨eD,-⟩,du,-⟩:=h2.ex;obtain⟨a1,c1,rfl,-⟩:=hd.form;obtain⟨a2,c2,rfl,-⟩:=hk.form;obtain⟨a3,c3,rfl,-⟩:=hl.form;obtain⟨a4,c4,rfl,-⟩:=dW.form;obtain⟨a5,c5,rfl,-⟩:=eD.form;obtain⟨a6,c6,rfl,-⟩:=du.form;have hb:Below w.heap.size w ((w.alloc (.cells #[.slice a1 p1.dots.length c1,.slice a2 p1.keys.length c2,.slice a3 p1.left.length c3] 45)).alloc (.cells #[.slice a4 p2.dots.length c4,.slice a5 p2.keys.length c5,.slice a6 p2.left.length c6] 45)):=zC;have k2:=(Blk.new w #[.slice a1 p1.dots.length c1,.slice a2 p1.keys.length c2,.slice a3 p1.left.length c3] 45).alloc (.cells #[.slice a4 p2.dots.length c4,.slice a5 p2.keys.length c5,.slice a6 p2.left.length c6] 45);have k3:=Blk.new (w.alloc (.cells #[.slice a1 p1.dots.length c1,.slice a2 p1.keys.length c2,.slice a3 p1.left.length c3] 45)) #[.slice a4 p2.dots.length c4,.slice a5 p2.keys.length c5,.slice a6 p2.left.length c6] 45;rw[World.size_alloc]at k3;go_enter func21,ntmps21;go_upto_region 1 with fail;obtain⟨W,hW⟩:=zE ((w.alloc (.cells #[.slice a1 p1.dots.length c1,.slice a2 p1.keys.length c2,.slice a3 p1.left.length c3] 45)).alloc (.cells #[.slice a4 p2.dots.length c4,.slice a5 p2.keys.length c5,.slice a6 p2.left.length c6] 45));rw[hW]at hb k2 k3 ⊢;clear hW;have e1:=λX (h:Below w.heap.size w X)=>e0y _ _ p1.dots p2.dots X (hd.up h) (dW.up h)
 have e2:=λX (h:Below w.heap.size w X)=>e1a _ _ p1.keys p2.keys X (hk.up h) (eD.up h)
 have e3:=λX (h:Below w.heap.size w X)=>e2v _ _ p1.left p2.left X (hl.up h) (du.up h)
 obtain⟨b1,aw⟩:=zE (decide (p1.dots=p2.dots));obtain⟨b2,az⟩:=zE (decide (p1.keys=p2.keys));obtain⟨b3,aV⟩:=zE (decide (p1.left=p2.left));simp only[aw,az,aV]at e1 e2 e3;replace aw:=Lib.hid aw;replace az:=Lib.hid az;replace aV:=Lib.hid aV;obtain⟨m1,m2,m3⟩:=zN3 k2;obtain⟨m4,m5,m6⟩:=zN3 k3;clear hd hk hl dW eD du h1 h2
 cases b1 <;> cases b2
 all_goals
  go_wp2_with (first
   |(go_at_call 56;(with_reducible refine(e1 _ hb).mono ?_);rintro e X1⟨rfl,gB⟩
     have aE:Below w.heap.size w X1:=hb.trans (gB.mono hb.size);obtain⟨n2,n3⟩:X1.cell? ⟨w.heap.size,1,none⟩=some (.slice a2 p1.keys.length c2)/\X1.cell? ⟨w.heap.size,2,none⟩=some (.slice a3 p1.left.length c3):=⟨(k2.below gB k2.lt).cell 1,(k2.below gB k2.lt).cell 2⟩;obtain⟨n5,n6⟩:X1.cell? ⟨w.heap.size+1,1,none⟩=some (.slice a5 p2.keys.length c5)/\X1.cell? ⟨w.heap.size+1,2,none⟩=some (.slice a6 p2.left.length c6):=⟨(k3.below gB k3.lt).cell 1,(k3.below gB k3.lt).cell 2⟩)
   |(go_at_call 57;(with_reducible refine(e2 _ aE).mono ?_);rintro e X2⟨rfl,mC⟩
     have gQ:Below w.heap.size w X2:=aE.trans (mC.mono aE.size);have q2:=(k2.below gB k2.lt).below mC (Nat.lt_of_lt_of_le k2.lt gB.size);have q3:=(k3.below gB k3.lt).below mC (Nat.lt_of_lt_of_le k3.lt gB.size);have o3:X2.cell? ⟨w.heap.size,2,none⟩=some (.slice a3 p1.left.length c3):=q2.cell 2;have o6:X2.cell? ⟨w.heap.size+1,2,none⟩=some (.slice a6 p2.left.length c6):=q3.cell 2)
   |(go_at_call 58;(with_reducible refine(e3 _ gQ).mono ?_);rintro e X3⟨rfl,ma⟩
     have wM:Below w.heap.size w X3:=gQ.trans (ma.mono gQ.size)))
 all_goals go_ret
 all_goals refine⟨by unfold c0i;rw[aw.out,az.out,aV.out];rfl,?_⟩
 all_goals first|assumption|exact zC
theorem c0j :inE.Ok:=⟨λ_=>rfl,jM,λx u hu=>by
 simp at hu;subst hu;rfl⟩
theorem e1e :inE.In prog 51:=El.in_of (z:= .int .i64 0) (s:=1) (bytes:=8) underlying51 zM rfl oM rfl
theorem d1e (ev fv wv pv:Vu)(l:List Pc)(w:Wd)(hL:Lst plE w.heap.size w pv l)(hF:Frm pv l.length)(hl:l.length<=100) :
 Calls prog 14 #[b3t ev fv wv pv] w λe w'=>∃v,e= .returned v/\Lst inE w'.heap.size w' v ((a0q l).map Pc.id)/\Frm v ((a0q l).map Pc.id).length/\Below w.heap.size w w':=by
 have fp:(a0q l).length=l.length:=(a0v l).length_eq;obtain⟨ps,eT⟩:=zE (a0q l);rw[eT]at fp ⊢;go_enter func14,ntmps14;go_upto_region 1 with fail;have k2:=Blk.new w #[ev,fv,wv,pv] 37;have hb:Below w.heap.size w (w.alloc (.cells #[ev,fv,wv,pv] 37)):=zC;obtain⟨W,hW⟩:=zE (w.alloc (.cells #[ev,fv,wv,pv] 37));rw[hW]at k2 hb ⊢;clear hW;have hO:=a8g ev fv wv pv l W (hL.up hb) hF hl;rw[eT]at hO;obtain⟨m0,m1,m2,m3⟩:=zN4 k2;go_wp2_with (first
  |(go_at_call 44;refine hO.mono ?_;rintro e W1⟨v,rfl,cK,aw⟩;rw[<-fp]at cK;obtain⟨va,vc,rfl,MG⟩:=(a0d a4f cK oM).form))
 have jJ:Below w.heap.size w W1:=hb.trans (aw.mono hb.size);have Dp:=a0d a4f cK oM;clear hO m0 m1 m2 m3 k2 cK hL hF eT hb aw;go_loopw [3,9] (λvv kk wr=>∃k:Nat,k<=ps.length/\kk= .int .i64 (k:Nat)/\wr.ownsRow W1.heap.size 3 1 vv ((ps.take k).map Pc.id).length (((ps.take k).map Pc.id).flatMap inE.enc)/\Below W1.heap.size W1 wr) (λvv kk _=>ps.length-(intOf kk).toNat)
 case atStart=>exact⟨0,Nat.zero_le _,rfl,⟨by simp,.inl ⟨rfl,by simp⟩⟩,zR _ _⟩
 case round =>
  obtain⟨k,aR,rfl,ae,aL⟩:=hrel;by_cases ag:k<ps.length
  ·have aA:(k:Int)<(ps.length:Int):=oM
   have eB:=Dp.up aL;obtain⟨b,off,cap,hv,-,gV,hc⟩:=eB.some_ oM;simp only[Value.slice.injEq,true_and]at hv;obtain⟨rfl,rfl⟩:=hv;obtain⟨p,hp⟩:=zE (ps[k]);have aB:=hc k ag;rw[hp]at aB;have j3:(ps.take (k+1)).map Pc.id=(ps.take k).map Pc.id++[p.id]:=by rw[<-hp,<-List.take_append_getElem ag,List.map_append];rfl
   have oO:((ps.take k).map Pc.id).length<=1000:=by rw[List.length_map,List.length_take];omega
   obtain⟨id,x,y,cls,nm,wt,ds⟩:=p;obtain⟨d0,d1,d2,d3,d4,d5,d6⟩:=c1s aB;obtain⟨K,hK⟩:=zE ((ps.take k).map Pc.id);rw[hK]at ae j3 oO;obtain⟨va,vc,rfl,-⟩:=(a0d c0j ae oM).form;have mv:=aL.size;clear aB hc eB hK hp;go_upto_region 5 with fail;have kP:=Blk.new wr #[.int .i64 id,.int .i64 x,.int .i64 y,.string cls,.string nm,.int .i64 wt,.int .i64 ds] 66;have ug:Below wr.heap.size wr (wr.alloc (.cells #[.int .i64 id,.int .i64 x,.int .i64 y,.string cls,.string nm,.int .i64 wt,.int .i64 ds] 66)):=(zR _ _).alloc (yR _) _;obtain⟨W9,fP⟩:=zE (wr.alloc (.cells #[.int .i64 id,.int .i64 x,.int .i64 y,.string cls,.string nm,.int .i64 wt,.int .i64 ds] 66));rw[fP]at kP ug ⊢;obtain⟨BP,pW⟩:=zE wr.heap.size;have DJ:=ug.size;have bQ:=a0r ae ug;have gX:Below W1.heap.size W1 W9:=aL.trans (ug.mono mv);rw[pW]at kP ⊢;have r0:W9.cell? ⟨BP,0,none⟩=some (.int .i64 id):=kP.cell 0;clear fP d0 d1 d2 d3 d4 d5 d6 pW;go_wp2_with (first
    |(at_builtin;refine El.push c0j e1e qM _ _ qM qM bQ id qM rfl oM oM ?_;intro v11 nQ iV yx sR fG
      obtain⟨QL,DK,rfl⟩:=yx))
   go_roundw
   case rel=>exact⟨k+1,oM,by go_num,by rw[j3];simpa using iV,gX.trans fG⟩
   case measure=>simp[intOf];omega
  ·obtain rfl:k=ps.length:=oM
   have aY:¬(ps.length:Int)<(ps.length:Int):=oM;rw[List.take_length]at ae;go_wp2_with fail;go_ret;exact⟨u3,rfl,a0d c0j ae (by rw[List.length_map];omega),(by have h:=a1u ae;rw[List.length_map,fp]at h;exact h),jJ.trans (aL.mono jJ.size)⟩
def atD (x y:Int)(d:Dt):Bool:=decide (d.x=x)&&decide (d.y=y)
theorem d1f (d:Dt)(X Y:Nat)(x y:Int)(w:Wd)(hx:w.cell? ⟨X,0,none⟩=some (.int .i64 x))(hy:w.cell? ⟨Y,0,none⟩=some (.int .i64 y)) :
 Zc prog 46 #[.agg (a2k d).toArray,.pointer (some ⟨X,0,none⟩),.pointer (some ⟨Y,0,none⟩)] w (.bool (atD x y d)):=by
 obtain⟨dx,dy,dk,di⟩:=d;unfold atD;have UC:=World.block_lt_of_cell? _ _ hx;have UD:=World.block_lt_of_cell? _ _ hy;by_cases h1:dx=x
 ·subst h1
  by_cases h2:dy=y
  ·subst h2
   go_enter func46,ntmps46;exact yeq
  ·have hb:(dy==y)=false:=by simpa using h2
   rw[decide_eq_false h2];go_enter func46,ntmps46;exact yeq
 ·have hb:(dx==x)=false:=by simpa using h1
  rw[decide_eq_false h1];go_enter func46,ntmps46;exact yeq
def e1f (o:Option Dt):Value:=match o with|some d=> .tuple #[.int .i64 d.k,.int .i64 d.i]|none=> .tuple #[.int .i64 0,.int .i64 0]
theorem c5z (s:Sh)(dv kv lv:Vu)(l:List Dt)(x y:Int)(w:Wd)(hl:Lst dtE w.heap.size w dv l)(hf:Frm dv l.length) :
 Zc prog 16 #[shV s,a1t dv kv lv,.int .i64 x,.int .i64 y] w (e1f (l.find? (atD x y))):=by
 obtain⟨la,lc,rfl,-⟩:=hl.form;have wF:∀(fn:Fn) (first cap:Array Value) (w:Wd),(Instr.makeFunc fn first cap).run prog w= .ok (.func fn first cap) w:=λ_ _ _ _=>rfl
 go_enter func16,ntmps16;go_upto_region 1 with fail;have k3:=((Blk.new (w.alloc (.cells #[.int .i64 s.ax,.int .i64 s.ay,.int .i64 s.st,.int .i64 s.w,.int .i64 s.h,.int .i64 s.g] 28)) #[.slice la l.length lc,kv,lv] 45).alloc (.cells #[.int .i64 x] 3)).alloc (.cells #[.int .i64 y] 3);have kX:=(Blk.new ((w.alloc (.cells #[.int .i64 s.ax,.int .i64 s.ay,.int .i64 s.st,.int .i64 s.w,.int .i64 s.h,.int .i64 s.g] 28)).alloc (.cells #[.slice la l.length lc,kv,lv] 45)) #[.int .i64 x] 3).alloc (.cells #[.int .i64 y] 3);have kY:=Blk.new (((w.alloc (.cells #[.int .i64 s.ax,.int .i64 s.ay,.int .i64 s.st,.int .i64 s.w,.int .i64 s.h,.int .i64 s.g] 28)).alloc (.cells #[.slice la l.length lc,kv,lv] 45)).alloc (.cells #[.int .i64 x] 3)) #[.int .i64 y] 3;have hb:Below w.heap.size w ((((w.alloc (.cells #[.int .i64 s.ax,.int .i64 s.ay,.int .i64 s.st,.int .i64 s.w,.int .i64 s.h,.int .i64 s.g] 28)).alloc (.cells #[.slice la l.length lc,kv,lv] 45)).alloc (.cells #[.int .i64 x] 3)).alloc (.cells #[.int .i64 y] 3)):=zC;simp only[World.size_alloc]at k3 kX kY;obtain⟨W,hW⟩:=zE ((((w.alloc (.cells #[.int .i64 s.ax,.int .i64 s.ay,.int .i64 s.st,.int .i64 s.w,.int .i64 s.h,.int .i64 s.g] 28)).alloc (.cells #[.slice la l.length lc,kv,lv] 45)).alloc (.cells #[.int .i64 x] 3)).alloc (.cells #[.int .i64 y] 3));rw[hW]at k3 kX kY hb ⊢;clear hW;have h0:=a6a (.slice la l.length lc) l W (hl.up hb) hf (atD x y) 46 #[.pointer (some ⟨w.heap.size+1+1,0,none⟩),.pointer (some ⟨w.heap.size+1+1+1,0,none⟩)] (enters_of func46 zM rfl)
  (λX d hx=>(d1f d (w.heap.size+1+1) (w.heap.size+1+1+1) x y X ((kX.below hx kX.lt).cell 0) ((kY.below hx kY.lt).cell 0)).mono λ_ _ ⟨he,h⟩=>⟨he,hx.trans (h.mono hx.size)⟩)
 have c0:W.cell? ⟨w.heap.size+1,0,none⟩=some (.slice la l.length lc):=k3.cell 0;have iX:=hl.up hb;clear hl;rcases c5j (atD x y) l with⟨h1,h2⟩|⟨k,hk,h1,h2⟩
 ·rw[h1]at h0
  replace h0:Calls _ _ _ _ λe w'=>e= .returned (.int .i64 (-1))/\Below W.heap.size W w':=h0
  replace h2:=Lib.hid h2;clear h1;go_wp2_with (first
   |(go_at_call 45;(with_reducible refine h0.mono ?_);rintro e w8⟨rfl,bf⟩))
  exact bodyPost_ret (v:= .tuple #[.int .i64 0,.int .i64 0]) (by simp[results,results16,go_sem]) rfl ⟨by rw[h2.out];rfl,hb.trans (bf.mono hb.size)⟩
 ·rw[h1]at h0
  replace h0:Calls _ _ _ _ λe w'=>e= .returned (.int .i64 (k:Nat))/\Below W.heap.size W w':=h0
  obtain⟨b,off,cap,hv,bY,sj,hc⟩:=iX.some_ oM;simp only[Value.slice.injEq,true_and]at hv;obtain⟨rfl,rfl⟩:=hv;obtain⟨d,hd⟩:=zE (l[k]);rw[hd]at h2;replace h2:=Lib.hid h2;have kt:(k:Int)<(l.length:Int):=oM;have iB:¬(k:Int)<0:=oM;clear h1;go_upto_region 4 with(first
   |(go_at_call 45;(with_reducible refine h0.mono ?_);rintro e w8⟨rfl,bf⟩
     have e0:w8.cell? ⟨w.heap.size+1,0,none⟩=some (.slice (some ⟨b,off,none⟩) l.length lc):=(k3.below bf k3.lt).cell 0;obtain⟨b',fh,aI,zX,-,-,gj⟩:=(iX.up bf).some_ oM;simp only[Value.slice.injEq,Option.some.injEq,Addr.mk.injEq,and_true,true_and]at zX;obtain⟨⟨rfl,rfl⟩,rfl⟩:=zX;have aB:=gj k hk;rw[hd]at aB;have d2:w8.cell? ⟨b,off+k*4+2,none⟩=some (.int .i64 d.k):=aB 2 (show 2<4 by decide);have d3:w8.cell? ⟨b,off+k*4+3,none⟩=some (.int .i64 d.i):=aB 3 (show 3<4 by decide);clear aB gj))
  clear hc hd iX c0;go_region;go_wp2_with fail;have hq:=hb.trans (bf.mono hb.size);refine bodyPost_ret (v:= .tuple #[.int .i64 d.k,.int .i64 d.i]) (by simp[results,results16,go_sem]) rfl ⟨by rw[h2.out];rfl,?_⟩;first|exact hq|exact hq.drew|exact below_drewN hq _
end
section
open Go Go.RowKit Go.Shelf
abbrev buE :El UInt8:=⟨5,1,λb=>[.int .u8 (b.toNat:Int)]⟩
theorem e2w :buE.Ok:=⟨λ_=>rfl,jM,λx u hu=>by
 simp at hu;subst hu;rfl⟩
theorem e3z :buE.In prog 116:=El.in_of (z:= .int .u8 0) (s:=1) (bytes:=1) underlying116 zM rfl oM rfl
theorem c7q {s:Bw}{k n:Nat}(h:a6r s k=some n):k<=s.size->k+(wordsL[n]!).size<=s.size:=by
 intro hk;obtain⟨hn,hp,-⟩:=List.findIdx?_eq_some_iff_getElem.1 h;have h1:=Lib.hasPrefix_le hp;rw[List.length_take,List.length_drop]at h1;rw[getElem!_pos wordsL n hn];have h2:(wordsL[n]).data.toList.length=(wordsL[n]).size:=by rw[Array.length_toList];rfl
 have h3:s.data.toList.length=s.size:=by rw[Array.length_toList];rfl
 omega
theorem c3s (af:Bool)(c:Nat):(cellAt af c).length<=3:=by
 unfold cellAt;repeat' split
 all_goals simp
theorem c3t (s:Bw)(hl:s.size<=1000)(w:Wd):Zc prog 97 #[.string s] w (.tuple #[.string (a4v s).1,.int .i64 (a4v s).2]):=by
 unfold a4v;have hR:=λX=>c3e s hl X
 cases hrt:a6h s with
 |false =>
  rw[hrt]at hR;clear hrt;go_enter func97,ntmps97;go_wp2_with (go_at_call 144;refine(hR _).mono ?_;rintro e w'⟨rfl,al⟩;obtain⟨p,rfl⟩:=a0c al;clear al);go_ret2;exact⟨rfl,zC⟩
 |true =>
 rw[hrt]at hR;replace hrt:=Lib.hid hrt;obtain⟨out,aP⟩:=zE (a3g s s.size 0 []);simp only[if_true];rw[aP];replace aP:=Lib.hid aP;go_enter func97,ntmps97;go_wp2_with (first
  |(go_at_call 144;refine(hR _).mono ?_;rintro e w1⟨rfl,aw⟩))
 clear hR;go_loopw [5,6] (λv k wr=>∃(n f:Nat) (l:List UInt8),k= .int .i64 n/\n<=s.size/\s.size-n<=f/\l.length<=3*n/\Hid (a3g s f n l=out)/\wr.ownsRow w1.heap.size 5 1 v l.length (l.flatMap buE.enc)/\Below w1.heap.size w1 wr) (λ_ k _=>s.size-(intOf k).toNat)
 case atStart=>exact⟨0,s.size,[],rfl,Nat.zero_le _,oM,Nat.zero_le _,aP,World.ownsRow_nil _ _ _ _,zR _ _⟩
 case round =>
  clear aP;obtain⟨n,f,l,rfl,hn,hf,im,aP,ae,aL⟩:=hrel;by_cases ag:n<s.size
  ·have aA:(n:Int)<(s.size:Int):=oM
   have qU:(n:Int)<=(s.size:Int):=oM;obtain⟨f,rfl⟩:∃f',f=f'+1:=⟨f-1,oM⟩;have cD:∀X,Zc prog 145 #[.string (s.extract n s.size)] X (.int .i64 (a8n (a6r s n))):=λX=>by
    rw[<-d5b];exact c3f _ (by rw[ByteArray.size_extract];omega) X
   cases hw:a6r s n with
   |some m =>
    have hm:=b9j hw;have dC:=c7q hw (Nat.le_of_lt ag);have iR:=c5k hm;have aq:=aP.out;rw[b2w ag hw]at aq;rw[hw]at cD;simp only[a8n]at cD;have hs:=d5c hm;have hx:=b9k hm;obtain⟨x,pt⟩:=zE (wordsL[m]!);obtain⟨u,MP⟩:=zE (a4m[m]!);rw[pt]at hx dC iR aq;rw[MP]at hs aq;replace aq:=Lib.hid aq;have hu:IntKind.u8.wrap (u.toNat:Int)=(u.toNat:Int):=by
     have:=u.toNat_lt;exact ydm
    have tj:(m:Int)<11:=oM;have om:(0:Int)<=(m:Int):=oM;have aE:IntKind.i64.wrap ((n:Int)+(x.size:Int))=(n:Int)+x.size:=a1i oM oM;have gQ:IntKind.i64.wrap ((n:Int)+(x.size:Int)-1)=(n:Int)+x.size-1:=a1i oM oM;have wM:IntKind.i64.wrap ((n:Int)+(x.size:Int)-1+1)=(n:Int)+x.size:=by rw[show(n:Int)+(x.size:Int)-1+1=(n:Int)+x.size by omega];exact aE
    clear hw pt MP aP;go_wp2_with (first
     |(go_at_call 145;with_reducible refine(cD _).mono ?_;rintro e w2⟨rfl,az⟩;have iL:=a0r ae az;have aG:=aL.trans (az.mono aL.size))
     |(go_at_call 146;refine(c3g _).mono ?_;rintro e w'⟨rfl,rfl⟩
       have aV:Below w2.heap.size w2 (w2.alloc (.cells d0t 3)):=(zR _ _).alloc (yR _) _;have gF:=a0r iL aV;have aN:=aG.trans (aV.mono aG.size);have lZ:=aN.size)
     |(go_at_call 147;refine(a8f _).mono ?_;rintro e w'⟨rfl,rfl⟩)
     |(at_builtin;refine El.push e2w e3z qM _ _ qM qM gF u qM vM lZ oM ?_;intro v4 w4 Fo IZ mH eC
       obtain⟨a4,c4,rfl⟩:=IZ))
    go_roundw
    case rel=>exact⟨n+x.size,f,l++[u],by go_num,oM,oM,by rw[List.length_append,List.length_singleton];omega,aq,a0r (by simpa using Fo) ((zR _ _).alloc (yR _) _),(aN.trans eC).alloc (aN.trans eC).size _⟩
    case measure=>simp[intOf];omega
   |none =>
    have a7:=b2u hrt.out n ag;have aq:=aP.out;rw[b2x ag hw]at aq;rw[hw]at cD;simp only[a8n]at cD;obtain⟨c,hc⟩:=zE ((s[n]'ag).toNat);have bK:32<=c/\c<=126:=by
     unfold okB at a7;rw[hc]at a7;simp at a7;omega
    have bg:=λX=>c3j s n ag c hc bK hl X
    have nD:=c3s (a4u s n) c;rw[getElem!_pos s n ag,hc]at aq;obtain⟨cs,dN⟩:=zE (cellAt (a4u s n) c);rw[dN]at bg aq nD;replace aq:=Lib.hid aq;clear hw hc dN a7 aP bK;go_wp2_with (first
     |(go_at_call 145;with_reducible refine(cD _).mono ?_;rintro e w2⟨rfl,az⟩;have iL:=a0r ae az;have aG:=aL.trans (az.mono aL.size))
     |(go_at_call 148;with_reducible refine(bg _).mono ?_;rintro e w3⟨B8,rfl,aV,k8⟩;have gF:=a0r iL aV;have aN:=aG.trans (aV.mono aG.size)))
    clear ae iL cD bg az aV aG aL;go_loopw [5,9] (λv i wx=>∃k:Nat,k<=cs.length/\i= .int .i64 (k:Nat)/\wx.ownsRow w1.heap.size 5 1 v (l++cs.take k).length ((l++cs.take k).flatMap buE.enc)/\Blk wx B8 (d8u cs) 3/\Below w1.heap.size w1 wx) (λ_ i _=>cs.length-(intOf i).toNat)
    case atStart=>exact⟨0,Nat.zero_le _,rfl,by rw[List.take_zero,List.append_nil];exact gF,k8,aN⟩
    case round =>
     clear gF k8 aN;obtain⟨k,hk,rfl,ae,k8,aN⟩:=hrel;by_cases aR:k<cs.length
     ·have kt:(k:Int)<(cs.length:Int):=oM
      obtain⟨u,hu⟩:=zE (cs[k]);have UE:wr.cell? ⟨B8,k,none⟩=some (.int .i64 (u.toNat:Int)):=(k8.cell k).trans (by simp[d8u,List.getElem?_eq_getElem aR,hu]);have hL:l++cs.take (k+1)=(l++cs.take k)++[u]:=by rw[List.take_succ_eq_append_getElem aR,hu,List.append_assoc]
      have hle:(l++cs.take k).length<=10000:=by rw[List.length_append,List.length_take];omega
      obtain⟨K,hK⟩:=zE (l++cs.take k);rw[hK]at ae hL hle;have UF:IntKind.u8.wrap (u.toNat:Int)=(u.toNat:Int):=by
       have:=u.toNat_lt;exact ydm
      have lZ:=aN.size;replace hL:=Lib.hid hL;clear hu hK;go_wp2_with (first
       |(at_builtin;refine El.push e2w e3z qM _ _ qM qM ae u qM rfl oM oM ?_;intro v4 w4 Fo IZ mH eC
         obtain⟨a4,c4,rfl⟩:=IZ;have I0:=k8.kept mH (a0n ae k8 jM)))
      go_roundw
      case rel=>exact⟨k+1,oM,by go_num,by rw[hL.out];simpa using Fo,I0,aN.trans eC⟩
      case measure=>simp[intOf];omega
     ·obtain rfl:k=cs.length:=oM
      have aY:¬(cs.length:Int)<(cs.length:Int):=oM;rw[List.take_length]at ae;have eP:IntKind.i64.wrap ((n:Int)+1)=(n:Int)+1:=a1i oM oM;go_wp2_with fail;go_roundw
      case rel=>exact⟨n+1,f,l++cs,by go_num,oM,oM,by rw[List.length_append];omega,aq,ae,aN⟩
      case measure=>simp[intOf];omega
  ·obtain rfl:n=s.size:=oM
   have hle:=aP.out;rw[b5j (yR _)]at hle;subst hle;have hb:=aw.trans (aL.mono aw.size);rcases ae.2 with⟨rfl,h2⟩|⟨g,cap,cur,rfl,-⟩
   ·obtain rfl:l=[]:=List.length_eq_zero_iff.1 h2
    clear aP;have mr:=Lib.run_convert_nil_bytes (P:=prog) wr 116 9 5 0 underlying116 underlying5 underlying9;go_wp2_with fail;go_ret2;exact⟨rfl,hb⟩
   ·have fL:=λsrc dst e h1 h2 h3=>run_convert_bytes_back (P:=prog) wr src dst e ⟨g,0,none⟩ cap l h1 h2 h3 (λj hj=>by
     have h5:=ae.cells (g:=g) rfl j (.int .u8 (l[j].toNat:Int)) (by have h6:=a9r e2w l j 0 hj (show 0<1 by decide);rw[show j*buE.s+0=j from Nat.mul_one j]at h6;exact h6);exact h5)
    have oQ:=fL 116 9 5 underlying116 underlying5 underlying9;clear fL ae aP;go_wp2_with fail;go_ret2;exact⟨rfl,hb⟩
end
section
open Go
section
variable {g:Int}{pf:Pc->Bool×List Dt}{kf:Pc->List Ke}{x:Pn}
theorem d7i :∀(qs:List Pc) (bT oR:List Int),qs.foldlM (a1m g pf x) bT=some oR->oR=(qs.map Pc.id).reverse++bT
 |[],bT,oR,h=>by
  cases h;simp
 |p::qs,bT,oR,h=>by
  rw[List.foldlM_cons]at h;obtain⟨s1,h1,h2⟩:∃s1,a1m g pf x bT p=some s1/\qs.foldlM (a1m g pf x) s1=some oR:=by
   cases hc:a1m g pf x bT p with
   |none=>rw[hc]at h;cases h
   |some s1=>rw[hc]at h;exact⟨s1,rfl,h⟩
  have hs:s1=p.id::bT:=by
   unfold a1m at h1;split at h1
   ·cases h1;rfl
   ·split at h1
    ·cases h1;rfl
    ·split at h1
     ·cases h1;rfl
     ·cases h1
  rw[d7i qs s1 oR h2,hs];simp
theorem e2x {ps qs rs:List Pc}{p:Pc}(h:a1r g pf x ps=true)(e:ps=qs++p::rs):∃s,a1m g pf x (qs.map Pc.id).reverse p=some s:=by
 unfold a1r at h;rw[e,List.foldlM_append,Option.isSome_iff_exists]at h;obtain⟨s,hs⟩:=h
 cases hq:qs.foldlM (a1m g pf x) []with
 |none=>rw[hq]at hs;cases hs
 |some b =>
  rw[hq]at hs;have hb:=d7i qs [] b hq;rw[List.append_nil]at hb;have tH:(p::rs).foldlM (a1m g pf x) b=some s:=hs;rw[List.foldlM_cons]at tH;rw[<-hb]
  cases hc:a1m g pf x b p with
  |none=>rw[hc]at tH;cases tH
  |some s1=>exact⟨s1,rfl⟩
theorem d5q {pl:Pn}{id:Int}{k:Nat}(h:why pl id=some k):∃y,pl.left[k]? =some y/\y.p=id:=by
 unfold why at h;obtain⟨hk,h1,-⟩:=List.findIdx?_eq_some_iff_getElem.1 h;exact⟨pl.left[k],List.getElem?_eq_getElem hk,by simpa using h1⟩
end
end
section
open Go.RowKit Go.Shelf
variable{b:Bool}{a r:Int}{s:Sh}
theorem c3u {n lo hi:Int}(h:inR lo n hi=b)(w:Wd):
 Calls prog 141 #[.int .i64 n,.int .i64 lo,.int .i64 hi] w λe w'=>e= .returned (.bool b)/\w=w':=by
 have h':=b0t n lo hi w;rw[h]at h';exact h'
theorem c7r (x y:Int):a1j x y=(inR (-16384) x 16384&&inR (-16384) y 16384):=rfl
theorem b6a (x y:Int)(w:Wd):
 Zc prog 90 #[.agg #[.int .i64 x,.int .i64 y]] w (.bool (a1j x y)):=by
 rw[c7r];obtain⟨c1,h1⟩:=zE (inR (-16384) x 16384);obtain⟨c2,h2⟩:=zE (inR (-16384) y 16384);rw[h1,h2];replace h1:=Lib.hid h1;replace h2:=Lib.hid h2
 cases c1 <;>
 ·go_enter func90,ntmps90
  go_wp2_with (go_at_call 141;refine(c3u (by first|with_reducible exact h1.out|with_reducible exact h2.out) _).mono ?_;rintro e w'⟨rfl,rfl⟩);go_ret;exact⟨by first|rfl|(simp;done),zC⟩
theorem a5t {x y:Int}(h:a1j x y=b)(w:Wd):
 Zc prog 90 #[.agg #[.int .i64 x,.int .i64 y]] w (.bool b):=by
 have h':=b6a x y w;rw[h]at h';exact h'
theorem d5r {b:Int}(hb:0<b):a / b=if a<a.tdiv b*b then a.tdiv b-1 else a.tdiv b:=by
 rw[c1w hb];have h1:=Int.mul_tdiv_add_tmod a b;rw[Int.mul_comm]at h1;split <;> split <;> omega
theorem a9i {b:Int}(hr:a / b=r)(w:Wd)(hb:0<b)(az:b<=1048576)(h0 : -1099511627776<=a)(h1:a<=1099511627776):
 Calls prog 143 #[.int .i64 a,.int .i64 b] w λe w'=>e= .returned (.int .i64 r)/\w=w':=by
 subst hr;obtain⟨q0,q1⟩:=b6n hb h0 h1;have ed:¬b=0:=oM;have he:=d5r (a:=a) hb;have hm:=Int.mul_tdiv_add_tmod a b;have m1:=Int.lt_tmod_of_pos a hb;have m2:=Int.tmod_lt_of_pos a hb;rw[Int.mul_comm]at hm;have p0 : -1099512676352<=a.tdiv b*b:=oM;have p1:a.tdiv b*b<=1099512676352:=oM;clear hm m1 m2;by_cases hs:a<a.tdiv b*b
 ·rw[if_pos hs]at he
  replace he:=Lib.hid he;go_enter func143,ntmps143;exact ygt
 ·rw[if_neg hs]at he
  replace he:=Lib.hid he;go_enter func143,ntmps143;exact ygt
theorem b7n (s:Sh)(x y i j:Int)(w:Wd)(hi:c1y s x=i)(hj:c1z s y=j)(hs:OkS s)(x0 : -1048576<=x)(x1:x<=1048576)(y0 : -1048576<=y)(y1:y<=1048576):
 Zc prog 92 #[shV s,.agg #[.int .i64 x,.int .i64 y]] w (.agg #[.int .i64 i,.int .i64 j]):=by
 obtain⟨ax,ay,st,W,H,G⟩:=s;obtain⟨s0,s1,-,-,-,-,a0,a1,b0,b1⟩:=hs;simp only[c1y,c1z]at hi hj s0 s1 a0 a1 b0 b1;replace hi:=Lib.hid hi;replace hj:=Lib.hid hj;go_enter func92,ntmps92;go_wp2_with fail;first|with_reducible refine a0h 18 zM zM ?_|with_reducible refine a0i 18 zM zM ?_
 simp only[zT];repeat(first|go_big_quiet_step ((go_at_call 143;exact Calls.grow_of_same (a9i (by first|with_reducible exact hi.out|with_reducible exact hj.out) _ oM oM oM oM)))|quiet_step ((go_at_call 143;exact Calls.grow_of_same (a9i (by first|with_reducible exact hi.out|with_reducible exact hj.out) _ oM oM oM oM))))
 refine wpQuiet_nil ?_;intro _ bh;obtain⟨p,bh⟩:=bh;subst bh;go_wp2_with fail;exact bodyPost_ret (v:= .agg #[.int .i64 i,.int .i64 j]) (by simp[results,results92,go_sem]) rfl ⟨rfl,zC⟩
theorem b3u (s:Sh)(i j:Int)(b:Bool)(w:Wd)(hb:onS s i j=b):
 Zc prog 93 #[shV s,.agg #[.int .i64 i,.int .i64 j]] w (.bool b):=by
 subst hb;have hr:=a5y (s:=s) (i:=i) (j:=j);obtain⟨r,he⟩:=zE (onS s i j);rw[he]at hr ⊢;obtain⟨ax,ay,st,sw,sh,sg⟩:=s;simp only at hr;clear he;by_cases h1:0<=i
 ·by_cases h2:i<sw
  ·by_cases h3:0<=j
   ·by_cases h4:j<sh
    ·obtain rfl:r=true:=hr.2 ⟨⟨h1,h2⟩,h3,h4⟩
     clear hr;go_enter func93,ntmps93;exact yeo
    ·exact ycv
   ·exact ycv
  ·exact ycv
 ·exact ycv
theorem c7s (h:s.st<1\/1024<s.st\/s.w<1\/80<s.w\/s.h<1\/80<s.h\/s.g<1\/4<s.g):a1h s=3:=by
 unfold a1h;rw[if_neg];intro h2;simp only[Bool.and_eq_true,a9s]at h2;omega
theorem c7t (s:Sh)(w:Wd)(hb:s.st<1\/1024<s.st\/s.w<1\/80<s.w\/s.h<1\/80<s.h\/s.g<1\/4<s.g):
 Zc prog 89 #[shV s] w (.int .i64 3):=by
 obtain⟨ax,ay,st,W,H,G⟩:=s;simp only at hb;have az:st<1\/(1<=st/\(1024<st\/(st<=1024/\(W<1\/(1<=W/\(80<W\/(W<=80/\(H<1\/(1<=H/\(80<H\/(H<=80/\(G<1\/(1<=G/\4<G))))))))))))):=oM;clear hb;rcases az with h|⟨h1,h|⟨h2,h|⟨h3,h|⟨h4,h|⟨h5,h|⟨h6,h|⟨h7,h⟩⟩⟩⟩⟩⟩⟩ <;>
 ·go_enter func89,ntmps89
  exact yeo
theorem c7u (s:Sh)(w:Wd)(hi:InS s)(h5:a1j s.ax s.ay=false):
 Zc prog 89 #[shV s] w (.int .i64 10):=by
 obtain⟨ax,ay,st,W,H,G⟩:=s;obtain⟨Fl,uZ,Br,wP,Fm,Aq,I1,I2⟩:=hi;simp only at Fl uZ Br wP Fm Aq I1 I2 h5;replace h5:=Lib.hid h5;go_enter func89,ntmps89;go_wp2_with (first|(go_at_call 90;refine(a5t (b:=false) (by with_reducible exact h5.out) _).mono ?_;rintro e w'⟨rfl,al⟩;obtain⟨p,rfl⟩:=a0c al;clear al)|(go_at_call 90;refine(b6a _ _ _).mono ?_;rintro e w'⟨rfl,al⟩;obtain⟨p,rfl⟩:=a0c al;clear al;generalize a1j _ _=b9)|fail);exact ybs
theorem c3v (s:Sh)(w:Wd)(b6:Bool)(hi:InS s)(h5:a1j s.ax s.ay=true)(h6:a1j (s.ax+s.w*s.st) (s.ay+s.h*s.st)=b6):
 Zc prog 89 #[shV s] w (.int .i64 (if b6 then 0 else 10)):=by
 obtain⟨ax,ay,st,W,H,G⟩:=s;obtain⟨Fl,uZ,Br,wP,Fm,Aq,I1,I2⟩:=hi;simp only at Fl uZ Br wP Fm Aq I1 I2 h5 h6;have m1:=Int.mul_le_mul (a:=W) (b:=st) (c:=80) (d:=1024) wP uZ oM oM;have m2:=Int.mul_le_mul (a:=H) (b:=st) (c:=80) (d:=1024) Aq uZ oM oM;have m3:=Int.mul_nonneg (a:=W) (b:=st) oM oM;have m4:=Int.mul_nonneg (a:=H) (b:=st) oM oM;have m1:W*st<=81920:=m1;have m2:H*st<=81920:=m2;have q5:(-16384<=ax/\ax<=16384) /\ -16384<=ay/\ay<=16384:=a2u.1 h5;obtain⟨⟨Oj,Ol⟩,Om,On⟩:=q5;replace h5:=Lib.hid h5;replace h6:=Lib.hid h6
 cases b6 <;>
 ·go_enter func89,ntmps89
  go_wp2_with (go_at_call 90;refine(a5t (by first|with_reducible exact h5.out|with_reducible exact h6.out) _).mono ?_;rintro e w'⟨rfl,al⟩;obtain⟨p,rfl⟩:=a0c al;clear al);go_ret;exact⟨by first|rfl|(simp;done),zC⟩
theorem b6b (s:Sh)(w:Wd):
 Zc prog 89 #[shV s] w (.int .i64 (a1h s)):=by
 by_cases hb:s.st<1\/1024<s.st\/s.w<1\/80<s.w\/s.h<1\/80<s.h\/s.g<1\/4<s.g
 ·rw[c7s hb]
  exact c7t s w hb
 ·have h:(1<=s.st/\s.st<=1024)/\(1<=s.w/\s.w<=80)/\(1<=s.h/\s.h<=80)/\(1<=s.g/\s.g<=4):=oM
  have hi:InS s:=⟨h.1.1,h.1.2,h.2.1.1,h.2.1.2,h.2.2.1.1,h.2.2.1.2,h.2.2.2.1,h.2.2.2.2⟩;rw[c9r h]
  cases h5:a1j s.ax s.ay with
  |false=>exact c7u s w hi h5
  |true=>exact c3v s w _ hi h5 rfl
theorem a9j (hr:a1h s=r)(w:Wd):
 Zc prog 89 #[shV s] w (.int .i64 r):=by
 have h:=b6b s w;rw[hr]at h;exact h
theorem d9b (s:Sh)(x y:Int)(w:Wd):
 Zc prog 95 #[shV s,.agg #[.int .i64 x,.int .i64 y]] w (.tuple #[.int .i64 (ofS s x y).1,.int .i64 (ofS s x y).2.1,.bool (ofS s x y).2.2]):=by
 obtain⟨b1,h1⟩:=zE (a1j x y);by_cases hc:a1h s=0
 ·have hs:=a4l hc
  obtain⟨i,hi⟩:=zE (c1y s x);obtain⟨j,hj⟩:=zE (c1z s y);obtain⟨b2,h2⟩:=zE (onS s i j);have hr:ofS s x y=if b1=true/\b2=true then(i,j,true)else(0,0,false):=by
   unfold ofS;simp only[hc,h1,hi,hj,h2,true_and]
  rw[hr];clear hr;replace hc:=Lib.hid hc
  cases b1 with
  |false =>
   replace h1:=Lib.hid h1;obtain⟨ax,ay,st,W,H,G⟩:=s;clear h2 hi hj;have sf:(if false=true/\b2=true then(i,j,true)else(0,0,false))=((0,0,false):Int×Int×Bool):=by simp
   rw[sf];clear sf;go_enter func95,ntmps95;go_wp2_with (first|(go_at_call 89;refine(a9j hc.out _).mono ?_;rintro e w'⟨rfl,al⟩;obtain⟨p,rfl⟩:=a0c al;clear al)|(go_at_call 90;refine(a5t h1.out _).mono ?_;rintro e w'⟨rfl,al⟩;obtain⟨p,rfl⟩:=a0c al;clear al));exact yit
  |true =>
   obtain⟨⟨x0,x1⟩,y0,y1⟩:=a2u.1 h1;replace h1:=Lib.hid h1;replace hi:=Lib.hid hi;replace hj:=Lib.hid hj;replace h2:=Lib.hid h2;obtain⟨ax,ay,st,W,H,G⟩:=s
   cases b2 <;>
   ·go_enter func95,ntmps95
    go_wp2_with (first|(go_at_call 89;refine(a9j hc.out _).mono ?_;rintro e w'⟨rfl,al⟩;obtain⟨p,rfl⟩:=a0c al;clear al)|(go_at_call 90;refine(a5t h1.out _).mono ?_;rintro e w'⟨rfl,al⟩;obtain⟨p,rfl⟩:=a0c al;clear al)|(go_at_call 92;refine(b7n ⟨ax,ay,st,W,H,G⟩ x y i j _ hi.out hj.out hs oM oM oM oM).mono ?_;rintro e w'⟨rfl,al⟩;obtain⟨p,rfl⟩:=a0c al;clear al)|(go_at_call 93;refine(b3u ⟨ax,ay,st,W,H,G⟩ i j _ _ h2.out).mono ?_;rintro e w'⟨rfl,al⟩;obtain⟨p,rfl⟩:=a0c al;clear al));first
     |exact bodyPost_ret (v:= .tuple #[.int .i64 0,.int .i64 0,.bool false]) (by simp[results,results95,go_sem]) rfl ⟨rfl,zC⟩
     |skip
    all_goals
     refine zR0 λp=> ?_
     go_wp2_with fail;exact bodyPost_ret (v:= .tuple #[.int .i64 i,.int .i64 j,.bool true]) (by simp[results,results95,go_sem]) rfl ⟨rfl,zC⟩
 ·have hr:ofS s x y=(0,0,false):=by unfold ofS;rw[if_neg (λh=>hc h.1)]
  rw[hr];clear hr;obtain⟨c,lI⟩:=zE (a1h s);rw[lI]at hc;replace lI:=Lib.hid lI;replace h1:=Lib.hid h1;obtain⟨ax,ay,st,W,H,G⟩:=s;go_enter func95,ntmps95;go_wp2_with (first|(go_at_call 89;refine(a9j lI.out _).mono ?_;rintro e w'⟨rfl,al⟩;obtain⟨p,rfl⟩:=a0c al;clear al)|(go_at_call 90;refine(a5t h1.out _).mono ?_;rintro e w'⟨rfl,al⟩;obtain⟨p,rfl⟩:=a0c al;clear al));exact yit
end
section
open Go Go.RowKit Go.Shelf
theorem b6c (a b:Int)(w:Wd)(ha:fits a)(hb:fits b) :
 Calls prog 149 #[.int .i64 a,.int .i64 b] w λe w'=>e= .returned (.int .i64 (apF a b))/\w=w':=by
 obtain⟨r,hr⟩:=zE (apF a b);rw[hr];unfold apF at hr;obtain⟨a0,a1⟩:=ha;obtain⟨b0,b1⟩:=hb;obtain⟨lo,jr⟩:=zE ((if a<=b then a else b));obtain⟨hi,tQ⟩:=zE ((if a<=b then b else a));have hle:lo<=hi:=by split at jr <;> split at tQ <;> omega
 have bB:(if 80<hi-lo then 80 else hi-lo)=r:=by
  rw[<-hr,<-jr,<-tQ];exact yiw
 have l0 : -9223372036854775808<=lo:=by rw[<-jr];split <;> omega
 have l1:hi<=9223372036854775807:=by rw[<-tQ];split <;> omega
 clear hr;have I3:min a b=lo:=by rw[<-jr];omega
 have I4:max a b=hi:=by rw[<-tQ];omega
 go_enter func149,ntmps149;go_upto_region 3 with fail;clear I3 I4 jr tQ a0 a1 b0 b1;by_cases I5:lo<0
 ·have aE:IntKind.i64.wrap (lo+80)=lo+80:=a1i oM oM
  have aY:¬(0<=lo):=oM;by_cases I6:lo+80<hi
  ·obtain rfl:r=80:=by rw[<-bB,if_pos oM]
   clear bB hle;exact ybd
  ·obtain rfl:r=hi-lo:=by rw[<-bB,if_neg oM]
   have gQ:IntKind.i64.wrap (hi-lo)=hi-lo:=a1i oM oM;clear bB hle;exact ybd
 ·have gQ:IntKind.i64.wrap (hi-lo)=hi-lo:=a1i oM oM
  have aY:0<=lo:=oM;by_cases I6:80<hi-lo
  ·obtain rfl:r=80:=by rw[<-bB,if_pos oM]
   clear bB hle;exact ybd
  ·obtain rfl:r=hi-lo:=by rw[<-bB,if_neg oM]
   clear bB hle;exact ybd
theorem b0m (va vb:Vu)(a b:List Dt)(w:Wd)(ha:Dts w.heap.size w va a)(hb:Dts w.heap.size w vb b) :
 Zc prog 100 #[va,vb] w (.int .i64 (a1x a b)):=by
 obtain⟨la,aa,ca,rfl,ra⟩:=ha.open_;obtain⟨lb,ab,cb,rfl,rb⟩:=hb.open_;go_enter func100,ntmps100;go_wp2_with fail;go_loopw [5,6] (λm i wr=>∃k:Nat,k<=a.length/\m= .int .i64 (a1x (a.take k) b)/\i= .int .i64 k/\Below w.heap.size w wr)
  (λ_ i _=>a.length-(intOf i).toNat)
 case atStart=>exact⟨0,Nat.zero_le _,rfl,rfl,zR _ _⟩
 case round =>
  obtain⟨k,hk,rfl,rfl,hB⟩:=hrel;have bu:=hB.size;by_cases ag:k<a.length
  ·have aA:(k:Int)<(a.length:Int):=oM
   obtain⟨bl,off,rfl,gV,ae,f0,f1⟩:=ra k ag;obtain⟨m0,om⟩:=zE (a1x (a.take k) b);have eS:=c2f (a:=a) (b:=b) ag;rw[om]at eS ⊢;obtain⟨d,hd⟩:=zE (a[k]);rw[hd]at ae f0 f1 eS;clear om hd;replace eS:=Lib.hid eS;go_wp2_with fail;go_loopw [5,7] (λm i wx=>∃j:Nat,j<=b.length/\m= .int .i64 (a4r d m0 (b.take j))/\i= .int .i64 j/\Below w.heap.size w wx)
    (λ_ i _=>b.length-(intOf i).toNat)
   case atStart=>exact⟨0,Nat.zero_le _,rfl,rfl,hB⟩
   case round =>
    clear hB;obtain⟨j,hj,rfl,rfl,hB⟩:=hrel;by_cases eL:j<b.length
    ·have nI:(j:Int)<(b.length:Int):=oM
     obtain⟨UG,C2,rfl,I7,iL,f2,f3⟩:=rb j eL;obtain⟨e0,e1,-,-⟩:=iL.below hB I7;obtain⟨c0,c1,-,-⟩:=ae.below hB gV;obtain⟨m1,cV⟩:=zE (a4r d m0 (b.take j));have uh:=c2e (d:=d) (m:=m0) eL;rw[cV]at uh ⊢;obtain⟨e,he⟩:=zE (b[j]);rw[he]at e0 e1 f2 f3 uh;clear cV he iL;have hx:=λX=>b6c d.x e.x X f0 f2
     have hy:=λX=>b6c d.y e.y X f1 f3
     obtain⟨px,hp⟩:=zE (apF d.x e.x);obtain⟨py,hq⟩:=zE (apF d.y e.y);rw[hp]at hx;rw[hq]at hy;have au:min m1 (max px py)=a4r d m0 (b.take (j+1)):=by
      rw[uh,<-hp,<-hq];unfold c2d apD;exact yiw
     replace au:=Lib.hid au;clear uh hp hq f0 f1 f2 f3;go_wp2_with fail;first|with_reducible refine a0u zM zM ?_|with_reducible refine a0x zM zM ?_
     repeat(first|go_big_quiet_step ((go_at_call 149;exact Calls.grow_of_same (hx _)))|quiet_step ((go_at_call 149;exact Calls.grow_of_same (hx _))))
     refine wpQuiet_nil ?_;intro _ bh;obtain⟨p,bh⟩:=bh;subst bh;go_wp2_with fail;first|with_reducible refine a0u zM zM ?_|with_reducible refine a0x zM zM ?_
     repeat(first|go_big_quiet_step ((go_at_call 149;exact Calls.grow_of_same (hy _)))|quiet_step ((go_at_call 149;exact Calls.grow_of_same (hy _))))
     refine wpQuiet_nil ?_;intro _ bh;obtain⟨p,bh⟩:=bh;subst bh;go_wp2_with fail;go_roundw
     case rel=>exact⟨j+1,oM,by first|(rw[<-au.out];done)|(rw[<-au.out];go_num),by go_num,Go.below_growBy' hB hB.size _⟩
     case measure=>simp[intOf];omega
    ·obtain rfl:j=b.length:=oM
     have aY:¬(b.length:Int)<(b.length:Int):=oM;rw[List.take_length];rw[<-eS.out];go_wp2_with fail;go_roundw
     case rel=>exact⟨k+1,oM,rfl,by go_num,hB⟩
     case measure=>simp[intOf];omega
  ·obtain rfl:k=a.length:=oM
   have aY:¬(a.length:Int)<(a.length:Int):=oM;rw[List.take_length];exact yko
end
section
open Go Go.Sort
variable {g:Int}{pf:Pc->Bool×List Dt}{kf:Pc->List Ke}
theorem d9c (hg:g<=4){a b:Dt}(h:a8v g a b=true):apD a b<g:=by
 unfold a8v at h;simp only[Bool.and_eq_true,decide_eq_true_eq]at h;obtain⟨-,h1,h2⟩:=h;unfold apD apF;exact yiw
end
section
open Go Go.Sort
variable{g id:Int}{l:List Dt}{out:List Pc}{k:Nat}{p:Pc}
theorem d1g (l:List Pc):Asc (ltOf a1o) (a0q l)/\Stb (ltOf a1o) l (a0q l):=by
 obtain⟨ho,ha,hs⟩:=a2v (lt:=ltOf a1o) swoP l.toArray (Nat.zero_le l.length) vM;have e1:=b7h l.toArray;have e2:=b7h (insertionSort (ltOf a1o) l.toArray 0 l.length);rw[ho.1]at e2;simp only[List.size_toArray]at e1 e2;unfold a0q;rw[<-e2];rw[e1]at hs;exact⟨c3h.2 ha,hs⟩
def a2i (p:Pc)(out:List Pc):Nat->Nat
 |0=>0
 |k+1=>match out[k]? with
  |some q=>if ltOf a1o p q then a2i p out k else k+1
  |none=>k+1
def d7j (p:Pc)(out:List Pc):List Pc:=out.take (a2i p out out.length)++p::out.drop (a2i p out out.length)
def a2e (l:List Pc):List Pc:=l.foldl (λout p=>d7j p out) []
theorem b3v (p:Pc)(out:List Pc):∀k,a2i p out k<=k
 |0=>yR _
 |k+1=>by
  unfold a2i;split
  ·split
   ·exact Nat.le_succ_of_le (b3v p out k)
   ·exact yR _
  ·exact yR _
theorem a8j (h:k<out.length)(hl:ltOf a1o p out[k]=true):a2i p out (k+1)=a2i p out k:=by
 conv=>lhs;unfold a2i
 rw[List.getElem?_eq_getElem h];simp only[hl,if_true]
theorem a8k (h:k<out.length)(hl:ltOf a1o p out[k]=false):a2i p out (k+1)=k+1:=by
 conv=>lhs;unfold a2i
 rw[List.getElem?_eq_getElem h];simp only[hl,Bool.false_eq_true,if_false]
theorem a9k (p:Pc)(out:List Pc):∀k,k<=out.length->∀j (hj:j<out.length),a2i p out k<=j->j<k->ltOf a1o p out[j]=true
 |0,_,j,hj,_,h=>by omega
 |k+1,hk,j,hj,h1,h2=>by
  have aR:k<out.length:=hk
  cases hl:ltOf a1o p out[k]with
  |true =>
   rw[a8j aR hl]at h1;rcases Nat.lt_or_ge j k with h|h
   ·exact a9k p out k oM j hj h1 h
   ·obtain rfl:j=k:=oM
    exact hl
  |false =>
   rw[a8k aR hl]at h1;omega
theorem b1i (p:Pc)(out:List Pc):∀k,k<=out.length->a2i p out k=0\/∃h:a2i p out k-1<out.length,ltOf a1o p out[a2i p out k-1]=false
 |0,_=> .inl rfl
 |k+1,hk=>by
  have aR:k<out.length:=hk
  cases hl:ltOf a1o p out[k]with
  |true =>
   rw[a8j aR hl];exact b1i p out k oM
  |false =>
   rw[a8k aR hl];exact .inr ⟨aR,hl⟩
theorem d5s (h:Asc (ltOf a1o) out):Asc (ltOf a1o) (d7j p out)/\Stb (ltOf a1o) (out++[p]) (d7j p out):=by
 obtain⟨n,hn⟩:=zE (a2i p out out.length);have hle:=b3v p out out.length;have h1:=a9k p out out.length (yR _);have h2:=b1i p out out.length (yR _);unfold d7j;rw[hn]at hle h1 h2 ⊢;have hb:∀x∈out.drop n,ltOf a1o p x=true:=λx hx=>by
  obtain⟨j,hj,rfl⟩:=List.getElem_of_mem hx;rw[List.length_drop]at hj;rw[List.getElem_drop];exact h1 (n+j) oM oM oM
 have ha:∀x∈out.take n,ltOf a1o p x=false:=λx hx=>by
  rcases h2 with h2|⟨h3,h4⟩
  ·rw[h2]at hx
   simp at hx
  ·obtain⟨j,hj,rfl⟩:=List.getElem_of_mem hx
   rw[List.length_take]at hj;rw[List.getElem_take];rcases Nat.lt_or_ge j (n-1)with h|h
   ·have h5:ltOf a1o out[n-1] out[j]=false:=(List.pairwise_iff_getElem.1 ‹Asc (ltOf a1o) out›) j (n-1) oM h3 h
    exact swoP.ntrans _ _ _ h4 h5
   ·have e:j=n-1:=oM
    subst e;exact h4
 have hs:out=out.take n++out.drop n:=(List.take_append_drop n out).symm;have hA:=h;unfold Asc at hA ⊢;rw[hs,List.pairwise_append]at hA;obtain⟨g1,g2,g3⟩:=hA;refine⟨?_,?_⟩
 ·rw[List.pairwise_append]
  refine⟨g1,List.pairwise_cons.2 ⟨λx hx=> ?_,g2⟩,λa hx b hy=> ?_⟩
  ·cases h6:ltOf a1o x p with
   |false=>rfl
   |true=>have:=swoP.trans _ _ _ h6 (hb x hx);rw[swoP.irrefl]at this;cases this
  ·rcases List.mem_cons.1 hy with rfl|hy
   ·exact ha a hx
   ·exact g3 a hx b hy
 ·have e:out++[p]=out.take n++(out.drop n++[p]):=by rw[<-List.append_assoc,<-hs]
  rw[e];refine(Stb.refl _).append ?_;exact Stb.swap swoP (V:=[p]) (λu hu v hv=>by rw[List.mem_singleton]at hv;subst hv;exact hb u hu)
theorem b6d (l:List Pc):a2e l=a0q l:=by
 have h:Asc (ltOf a1o) (a2e l)/\Stb (ltOf a1o) l (a2e l):=by
  refine a4s (Q:=λl=>Asc (ltOf a1o) (a2e l)/\Stb (ltOf a1o) l (a2e l)) ⟨List.Pairwise.nil,Stb.refl _⟩ ?_ l;intro l x ⟨h1,h2⟩;unfold a2e at h1 h2 ⊢;rw[List.foldl_append];obtain⟨g1,g2⟩:=d5s (p:=x) h1;exact⟨g1,(h2.append (Stb.refl [x])).trans g2⟩
 obtain⟨h1,h2⟩:=d1g l;exact Asc.unique swoP h.1 h1 (h.2.symm.trans h2)
theorem c0k (l:List Pc)(x:Pc):a2e (l++[x])=d7j x (a2e l):=by
 unfold a2e;rw[List.foldl_append];rfl
theorem c3w (l:List Pc):(a2e l).length=l.length:=by
 rw[b6d,(a0v l).length_eq]
/-! dots that are too near -/
def nrP (g:Int)(l:List Dt)(id:Int)(a:Dt):Bool:= !(decide (a.k=3)&&decide (a.i=id))&&decide (a1x [a] l<g)
theorem b3w (hg:g<=4){a b:Dt}:apD a b<g↔(max (a.x-b.x) (b.x-a.x)<g/\max (a.y-b.y) (b.y-a.y)<g):=by
 unfold apD apF;constructor
 ·intro h
  repeat' split at h
  all_goals omega
 ·rintro⟨h1,h2⟩
  exact yiw
theorem b3x (hg:g<=4)(a:Dt)(l:List Dt):a1x [a] l<g↔∃b∈l,apD a b<g:=by
 have h1:a1x [a] l<g↔a1x [a] l<=g-1:=oM;rw[h1,d0r];constructor
 ·rintro(h|⟨d,hd,e,he,h⟩)
  ·omega
  ·rw[List.mem_singleton]at hd
   subst hd;exact⟨e,he,oM⟩
 ·rintro⟨b,hb,h⟩
  exact .inr ⟨a,by simp,b,hb,oM⟩
theorem e1g (hg:g<=4)(hl:∀b∈l,b.k=3/\b.i=id)(a:Dt):nrP g l id a=l.any (a8v g a):=by
 unfold nrP;rw[Bool.eq_iff_iff];simp only[Bool.and_eq_true,Bool.not_eq_true',Bool.and_eq_false_iff,decide_eq_false_iff_not,decide_eq_true_eq,List.any_eq_true];rw[b3x hg];constructor
 ·rintro⟨h1,b,hb,h2⟩
  obtain⟨h3,h4⟩:=hl b hb;refine⟨b,hb,?_⟩;obtain⟨h5,h6⟩:=(b3w hg).1 h2;unfold a8v;simp only[Bool.and_eq_true,Bool.or_eq_true,decide_eq_true_eq];exact⟨h1.imp (λh=>by rw[h3];exact h) (λh=>by rw[h4];exact h),h5,h6⟩
 ·rintro⟨b,hb,h2⟩
  obtain⟨h3,h4⟩:=hl b hb;unfold a8v at h2;simp only[Bool.and_eq_true,Bool.or_eq_true,decide_eq_true_eq]at h2;obtain⟨h1,h5,h6⟩:=h2;rw[h3,h4]at h1;exact⟨h1,b,hb,(b3w hg).2 ⟨h5,h6⟩⟩
theorem c0l {α:Type}(f:α->Bool)(l:List α):l.find? f=(l.findIdx? f).bind λk=>l[k]? :=by
 induction l with
 |nil=>rfl
 |cons x l ih =>
  rw[List.find?_cons,List.findIdx?_cons]
  cases hf:f x with
  |true=>simp
  |false =>
   simp only[Bool.false_eq_true,if_false];rw[ih]
   cases l.findIdx? f <;> simp
theorem d1h (hg:g<=4)(hl:∀b∈l,b.k=3/\b.i=id)(D:List Dt):a5i g D l=(D.findIdx? (nrP g l id)).bind λk=>D[k]? :=by
 unfold a5i;rw[show(λa=>l.any (a8v g a))=nrP g l id from funext λa=>(e1g hg hl a).symm];exact c0l _ _
end
section
open Go Go.RowKit Go.Shelf Go.Lib Go.Maps
abbrev idK :Ky Int:=⟨3,λn=> .int .i64 n,λn=> .int .i64 n,fits⟩
abbrev boV :Ve Bool:=⟨4,.bool,false⟩
theorem d1i {p:Int}(h:fits p):keyOf prog 3 (.int .i64 p)=some (.int .i64 p):=keyOf_int_mk underlying3 (b2f h)
theorem e2d :idK.Law prog:=⟨int_keyed underlying3,λh=>d1i h,λ{v l} h=>by
 rw[keyOf_int underlying3]at h;unfold mapKey at h;rw[underlying3]at h
 cases v <;> simp at h
 obtain⟨⟨h1,h2⟩,h3⟩:=h;subst h1 h3;exact⟨_,d7b h2,rfl,rfl⟩,λh=>by simpa using h⟩
theorem c7v (w:Wd):(zeroValue 4).run prog w= .ok (.bool false) w:=by kernel_rfl
theorem c3x {en:List (Int×Bool)}{W:Wd}{b n:Nat}(h:MapK prog idK boV W b n en){p:Int}(hp:fits p):(Instr.lookup 169 (.map (some b)) (.int .i64 p) false).run prog W= .ok (.bool ((idG en p).getD false)) W:=by
 obtain⟨D,ho,-,-,-,hD⟩:=h;obtain⟨v,ps,fi,hv⟩:=ho.lookup (int_keyed underlying3) underlying169 (c7v W) (plainElem_bool underlying4 false) (d1i hp);have pU:∃c,v= .bool c/\D.atKey (.int .i64 p) (.lit (.bool false))= .lit (.bool c):=by
  unfold plainElem at hv;rw[underlying4]at hv;generalize D.atKey (.int .i64 p) (.lit (.bool false))=X at hv ⊢
  cases v <;> simp at hv
  exact⟨_,rfl,hv.1.symm⟩
 obtain⟨c,rfl,hc⟩:=pU;have h2:=(hD p hp).2;simp only at h2;rw[hc]at h2;have h4:c=(idG en p).getD false:=by simpa using h2
 rw[fi,h4]
theorem MapK.wpIn_store {α β:Type} [DecidableEq α]{F:Fence}{nF:Nat}{P:Program}{K:Ky α}{V:Ve β}{W:Wd}{b n:Nat}{l:List (α×β)}(L:K.Law P){ops:Array Oper}{rest:List Oper}{o:Oper}{a:Act}{Q:Exit->Act->World->Prop}(hg:o.guard=none)(m x v:Operand)(t:Td)(QN:o.op=Op.mapUpdate t m x v)(ht:P.underlying t=some (.map K.t V.t))
 (hm:a.eval m= .map (some b)) (h:MapK P K V W b n l) (hn:n<maxLen) {p:α} (hp:K.Ok p) (hx:a.eval x=K.val p) {y:β} {val:Vu} (hv:a.eval v=val) (gU:plainElem (H:=Unit) P V.t val=some (.lit (V.lit y),[]))
 (hK:∀w',MapK P K V w' b (n+1) (c9a l p y)->W.grownBy w' (some b)->wpListIn F nF P ops Q rest (a.put o.dst undef) w'):wpListIn F nF P ops Q (o::rest) a W:=by
 obtain⟨D,ho,h1,h2,h4,h3⟩:=h;refine wpListIn_mapUpdate_own W hg m x v t QN K.t V.t L.law ht _ b n D hm ho hn (K.val p) val (K.kl p) hx hv (L.key hp) _ [] gU ?_;intro w' lW QO;exact hK w' (MapK.store L (ho.tidy L.law) h1 h2 h4 h3 hp lW) QO
def SetI (en:List (Int×Bool))(s:List Int):Prop:=∀p,(idG en p).getD false=decide (p∈s)
theorem SetI.nil :SetI [] []:=λp=>by simp[idG]
theorem SetI.put {en:List (Int×Bool)}{s:List Int}(h:SetI en s)(p:Int):SetI (c9a en p true) (p::s):=λq=>by
 rw[c9c];by_cases hq:q=p
 ·rw[if_pos hq];simp[hq]
 ·rw[if_neg hq,h q];simp[hq]
def b4m (Bw Bc Bm:Nat)(W:Wd)(k:Nat):Prop:=(∃o,W.heap[k]? =some o/\a7a o=false)/\(k=Bw\/k=Bc\/k=Bm\/∃off len cap,W.cell? ⟨Bw,0,none⟩=some (.slice (some ⟨k,off,none⟩) len cap))
theorem c3y {Bw Bc Bm:Nat}{W:Wd}{k:Nat}(h:b4m Bw Bc Bm W k):k<W.heap.size:=by
 exact yik
theorem b7o (Bw Bc Bm:Nat)(W:Wd)(l:Nat)(o:Obj)(h:W.heap[l]? =some o)(ho:a7a o=true):¬b4m Bw Bc Bm W l:=by
 exact yig
theorem d5t (Bw Bc Bm:Nat)(W:Wd)(l k:Nat)(o o':Obj)(h:W.heap[l]? =some o)(ho:a7a o=true)(lW:a7a o'=true):b4m Bw Bc Bm (W.putObj l o') k↔b4m Bw Bc Bm W k:=by
 have ag:l<W.heap.size:=(Array.getElem?_eq_some_iff.1 h).1;have pC:(W.putObj l o').heap[l]? =some o':=World.putObj_heap_same ag;by_cases hk:k=l
 ·subst hk
  exact⟨λhc=>absurd hc (b7o Bw Bc Bm _ k o' pC lW),λhc=>absurd hc (b7o Bw Bc Bm W k o h ho)⟩
 ·have e1:(W.putObj l o').heap[k]? =W.heap[k]? :=World.putObj_heap_other hk
  have e2:(W.putObj l o').cell? ⟨Bw,0,none⟩=W.cell? ⟨Bw,0,none⟩:=by
   by_cases hb:Bw=l
   ·subst hb
    rw[a3u pC (a1s lW),a3u h (a1s ho)]
   ·exact a5s (World.putObj_heap_other hb)
  unfold b4m;simp only[e1,e2]
theorem c7w (Bw Bc Bm:Nat)(W:Wd)(k:Nat)(o:Obj)(h:b4m Bw Bc Bm (W.alloc o) k)(ho:a7a o=true):b4m Bw Bc Bm W k:=by
 have cP:(W.alloc o).heap[W.heap.size]? =some o:=World.alloc_heap_new W o;have hk:k≠W.heap.size:=λe=>b7o Bw Bc Bm _ k o (by rw[e];exact cP) ho h
 have ag:=c3y h;rw[World.size_alloc]at ag;have e1:(W.alloc o).heap[k]? =W.heap[k]? :=Below.heap_alloc W o k oM;obtain⟨⟨o',h1,h2⟩,h3⟩:=h;refine⟨⟨o',e1.symm.trans h1,h2⟩,h3.imp id (Or.imp id (Or.imp id ?_))⟩;rintro⟨off,len,cap,hc⟩;have hb:Bw<(W.alloc o).heap.size:=World.block_lt_of_cell? _ _ hc;rw[World.size_alloc]at hb;by_cases IW:Bw=W.heap.size
 ·rw[IW,a3u cP (a1s ho)]at hc
  cases hc
 ·exact⟨off,len,cap,by rw[<-a5s (Below.heap_alloc W o Bw oM)];exact hc⟩
structure DIr (n0:Nat)(w:Wd)(Bw Bc Bm:Nat)(L:List (Nat×Array Value×TypeId))(v:Vu)(c:Int)(m:Nat)(en:List (Int×Bool))(want:List Dt)(W:Wd):Prop where
 b:Blk W Bw #[v] 41
 row:W.ownsRow n0 54 4 v want.length (want.flatMap dtE.enc)
 c:Blk W Bc #[.int .i64 c] 3
 mp:MapK prog idK boV W Bm m en
 o:∀q∈L,Blk W q.1 q.2.1 q.2.2
 ne:∀q∈L,q.1≠Bw/\q.1≠Bc/\q.1≠Bm/\q.2.2≠54
 bw:n0<=Bw
 bc:n0<=Bc
 bm:n0<=Bm
 d1:Bw≠Bc
 d2:Bw≠Bm
 d3:Bc≠Bm
 bel:Below n0 w W
 nw:n0<=w.heap.size
section
variable {n0 Bw Bc Bm m:Nat}{w W W':Wd}{L:List (Nat×Array Value×TypeId)}{v:Vu}{c:Int}{en:List (Int×Bool)}{want:List Dt}
theorem DIr.hz (h:DIr n0 w Bw Bc Bm L v c m en want W):n0<=W.heap.size:=Nat.le_trans h.nw h.bel.size
theorem DIr.cm (h:DIr n0 w Bw Bc Bm L v c m en want W):b4m Bw Bc Bm W Bm:=by
 obtain⟨D,⟨es,clock,he,-⟩,-⟩:=h.mp;exact⟨⟨_,he,rfl⟩,.inr (.inr (.inl rfl))⟩
theorem DIr.cb (h:DIr n0 w Bw Bc Bm L v c m en want W):b4m Bw Bc Bm W Bw:=⟨⟨_,h.b,rfl⟩,.inl rfl⟩
theorem DIr.cc (h:DIr n0 w Bw Bc Bm L v c m en want W):b4m Bw Bc Bm W Bc:=⟨⟨_,h.c,rfl⟩,.inr (.inl rfl)⟩
theorem DIr.cr (h:DIr n0 w Bw Bc Bm L v c m en want W){k:Nat}(hk:v.ownBlock=some k):b4m Bw Bc Bm W k:=by
 rcases h.row.2 with⟨rfl,-⟩|⟨g,cap,cur,rfl,-,hg,-⟩
 ·cases hk
 ·cases hk
  exact⟨⟨_,hg,rfl⟩,.inr (.inr (.inr ⟨0,_,cap,h.b.cell 0⟩))⟩
theorem DIr.c_row (h:DIr n0 w Bw Bc Bm L v c m en want W)(hp:Blk W' Bw #[v] 41){k:Nat}(hc:b4m Bw Bc Bm W' k):k=Bw\/k=Bc\/k=Bm\/v.ownBlock=some k:=by
 obtain⟨-,rfl|rfl|rfl|⟨off,len,cap,ao⟩⟩:=hc
 ·exact .inl rfl
 ·exact .inr (.inl rfl)
 ·exact .inr (.inr (.inl rfl))
 ·refine .inr (.inr (.inr ?_))
  rw[hp.cell 0]at ao;have hv:v= .slice (some ⟨k,off,none⟩) len cap:=by simpa using ao
  rcases h.row.2 with⟨e,-⟩|⟨g,aI,cur,e,-⟩
  ·rw[e]at hv;cases hv
  ·rw[e]at hv
   simp only[Value.slice.injEq,Option.some.injEq,Addr.mk.injEq]at hv;rw[e,<-hv.1.1];rfl
theorem DIr.keep_row (h:DIr n0 w Bw Bc Bm L v c m en want W){row:Option Nat}(hg:W.grownBy W' row)(hr:∀r,row=some r->n0<=r/\r≠Bw/\r≠Bc/\r≠Bm/\v.ownBlock≠some r)(ho:∀q∈L,some q.1≠row):DIr n0 w Bw Bc Bm L v c m en want W':=by
 have hk:W'.ownsRow n0 54 4 v want.length (want.flatMap dtE.enc):=h.row.kept hg (by
  cases hb:v.ownBlock with
  |none=>exact .inl rfl
  |some b=>exact .inr λe=>(hr b e.symm).2.2.2.2 hb)
 exact⟨h.b.kept hg (λe=>(hr Bw e).2.1 rfl),hk,h.c.kept hg (λe=>(hr Bc e).2.2.1 rfl),h.mp.kept hg (λe=>(hr Bm e).2.2.2.1 rfl),λq hq=>(h.o q hq).kept hg (λe=>ho q hq e.symm),h.ne,h.bw,h.bc,h.bm,h.d1,h.d2,h.d3,h.bel.grown hg h.hz λr e=>(hr r e).1,h.nw⟩
theorem DIr.below (h:DIr n0 w Bw Bc Bm L v c m en want W)(hb:Below W.heap.size W W'):DIr n0 w Bw Bc Bm L v c m en want W':=h.keep_row (a2q none hb) (λr e=>by cases e) (λq _ e=>by cases e)
theorem DIr.turn (h:DIr n0 w Bw Bc Bm L v c m en want W){Z:Nat}(hz:n0<=Z)(hL:∀q∈L,q.1<Z){row:Option Nat}(hg:W.grownBy W' row)(hr:∀r,row=some r->Z<=r/\¬b4m Bw Bc Bm W r):DIr n0 w Bw Bc Bm L v c m en want W' :=
 h.keep_row hg (λr e=>⟨Nat.le_trans hz (hr r e).1,λe2=>(hr r e).2 (e2▸h.cb),λe2=>(hr r e).2 (e2▸h.cc),λe2=>(hr r e).2 (e2▸h.cm),λe2=>(hr r e).2 (h.cr e2)⟩) (λq hq e=>by
  have:=(hr _ e.symm).1;have:=hL q hq;omega)
theorem DIr.mine (h:DIr n0 w Bw Bc Bm L v c m en want W){row:Option Nat}{k:Nat}(hg:W.grownBy W' row)(hr:∀r,row=some r->¬b4m Bw Bc Bm W r)(hc:b4m Bw Bc Bm W' k):b4m Bw Bc Bm W k:=by
 rcases h.c_row (h.b.kept hg (λe=>hr _ e h.cb)) hc with rfl|rfl|rfl|hk
 ·exact h.cb
 ·exact h.cc
 ·exact h.cm
 ·exact h.cr hk
theorem DIr.keepP (h:DIr n0 w Bw Bc Bm L v c m en want W)(hb:Below W.heap.size W W'):KeepP (b4m Bw Bc Bm) n0 W W' :=
 ⟨⟨hb.size,λk hk _=>hb.block k hk,λk hc=> .inl (h.mine (a2q none hb) (λr e=>by cases e) hc)⟩,hb.mono h.hz⟩
theorem DIr.count (h:DIr n0 w Bw Bc Bm L v c m en want W)(c':Int):DIr n0 w Bw Bc Bm L v c' m en want (W.setCell ⟨Bc,0,none⟩ (.int .i64 c'))/\KeepP (b4m Bw Bc Bm) n0 W (W.setCell ⟨Bc,0,none⟩ (.int .i64 c')):=by
 have hg:=a0g W Bc 0 (.int .i64 c');have ag:=h.c.lt;have ae:(W.setCell ⟨Bc,0,none⟩ (.int .i64 c')).ownsRow n0 54 4 v want.length (want.flatMap dtE.enc):=a0s h.row hg λr e=>by
  cases e;exact⟨_,h.c,λcur e2=>by simp only[Obj.cells.injEq]at e2;exact absurd e2.2.1 jM⟩
 have hD:DIr n0 w Bw Bc Bm L v c' m en want (W.setCell ⟨Bc,0,none⟩ (.int .i64 c')) :=
  ⟨h.b.kept hg (λe=>by cases e;exact h.d1 rfl),ae,h.c.set 0 _,h.mp.kept hg (λe=>by cases e;exact h.d3 rfl),λq hq=>(h.o q hq).kept hg (λe=>by cases e;exact(h.ne q hq).2.1 rfl),h.ne,h.bw,h.bc,h.bm,h.d1,h.d2,h.d3,h.bel.grown hg h.hz λr e=>by cases e;exact h.bc,h.nw⟩
 refine⟨hD,⟨⟨hg.size,λk hk hn=>hg.block k hk λe=>hn (by cases e;exact h.cc),λk hc=> .inl ?_⟩,(show Below n0 W W from zR _ _).grown hg h.hz λr e=>by cases e;exact h.bc⟩⟩;exact ykd
theorem DIr.set (h:DIr n0 w Bw Bc Bm L v c m en want W){m':Nat}{iG:List (Int×Bool)}(hm:MapK prog idK boV W' Bm m' iG)(hg:W.grownBy W' (some Bm)):DIr n0 w Bw Bc Bm L v c m' iG want W'/\KeepP (b4m Bw Bc Bm) n0 W W':=by
 have ae:W'.ownsRow n0 54 4 v want.length (want.flatMap dtE.enc):=a0s h.row hg λr e=>by
  cases e;obtain⟨D,⟨es,clock,he,-⟩,-⟩:=h.mp;exact⟨_,he,λcur e2=>by cases e2⟩
 have hD:DIr n0 w Bw Bc Bm L v c m' iG want W' :=
  ⟨h.b.kept hg (λe=>by cases e;exact h.d2 rfl),ae,h.c.kept hg (λe=>by cases e;exact h.d3 rfl),hm,λq hq=>(h.o q hq).kept hg (λe=>by cases e;exact(h.ne q hq).2.2.1 rfl),h.ne,h.bw,h.bc,h.bm,h.d1,h.d2,h.d3,h.bel.grown hg h.hz λr e=>by cases e;exact h.bm,h.nw⟩
 refine⟨hD,⟨⟨hg.size,λk hk hn=>hg.block k hk λe=>hn (by cases e;exact h.cm),λk hc=> .inl ?_⟩,(show Below n0 W W from zR _ _).grown hg h.hz λr e=>by cases e;exact h.bm⟩⟩;exact ykd
theorem DIr.add (h:DIr n0 w Bw Bc Bm L v c m en want W){v':Vu}{l2:List Dt}(hg:W.grownBy W' v.ownBlock)(hr:W'.ownsRow n0 54 4 v' (want++l2).length ((want++l2).flatMap dtE.enc))(hv:v'.ownBlock=v.ownBlock\/∃b,v'.ownBlock=some b/\W.heap.size<=b) :
 Blk W' Bw #[v] 41/\DIr n0 w Bw Bc Bm L v' c m en (want++l2) (W'.setCell ⟨Bw,0,none⟩ v')/\KeepP (b4m Bw Bc Bm) n0 W (W'.setCell ⟨Bw,0,none⟩ v'):=by
 have jr:∀r,v.ownBlock=some r->n0<=r/\r<W.heap.size:=λr e=>h.row.lt r e
 have kb:Blk W' Bw #[v] 41:=h.b.kept hg (λe=>a0n h.row h.b jM e);have kc:Blk W' Bc #[.int .i64 c] 3:=h.c.kept hg (λe=>a0n h.row h.c jM e);have cf:=a0g W' Bw 0 v';have jD:∀r,v.ownBlock=some r->∃cur,W.heap[r]? =some (.cells cur 54 (0,0)):=λr e=>by
  rcases h.row.2 with⟨rfl,-⟩|⟨g,cap,cur,rfl,-,ub,-⟩
  ·cases e
  ·cases e
   exact⟨cur,ub⟩
 have km:MapK prog idK boV W' Bm m en:=h.mp.kept hg λe=>by
  obtain⟨cur,hc⟩:=jD _ e;obtain⟨D,⟨es,clock,he,-⟩,-⟩:=h.mp;rw[hc]at he
  cases he
 have ae:(W'.setCell ⟨Bw,0,none⟩ v').ownsRow n0 54 4 v' (want++l2).length ((want++l2).flatMap dtE.enc):=a0s hr cf λr e=>by
  cases e;exact⟨_,kb,λcur e2=>by simp only[Obj.cells.injEq]at e2;exact absurd e2.2.1 jM⟩
 have hD:DIr n0 w Bw Bc Bm L v' c m en (want++l2) (W'.setCell ⟨Bw,0,none⟩ v'):=by
  refine⟨kb.set 0 v',ae,kc.kept cf (λe=>by cases e;exact h.d1 rfl),km.kept cf (λe=>by cases e;exact h.d2 rfl),λq hq=> ?_,h.ne,h.bw,h.bc,h.bm,h.d1,h.d2,h.d3,?_,h.nw⟩
  ·refine((h.o q hq).kept hg (λe=> ?_)).kept cf (λe=> ?_)
   ·obtain⟨cur,hc⟩:=jD _ e
    have h2:=h.o q hq;unfold Blk at h2;rw[hc]at h2;simp only[Option.some.injEq,Obj.cells.injEq]at h2;exact absurd h2.2.1.symm (h.ne q hq).2.2.2
   ·cases e
    exact(h.ne q hq).1 rfl
  ·exact(h.bel.grown hg h.hz λr e=>(jr r e).1).grown cf (Nat.le_trans h.hz hg.size) λr e=>by cases e;exact h.bw
 refine⟨kb,hD,⟨⟨Nat.le_trans hg.size cf.size,λk hk hn=> ?_,λk hc=> ?_⟩,?_⟩⟩
 ·exact(cf.block k (Nat.lt_of_lt_of_le hk hg.size) λe=>hn (by cases e;exact h.cb)).trans (hg.block k hk λe=>hn (h.cr e.symm))
 ·rcases hD.c_row hD.b hc with rfl|rfl|rfl|hk
  ·exact .inl h.cb
  ·exact .inl h.cc
  ·exact .inl h.cm
  ·rcases hv with h1|⟨b,h1,h2⟩
   ·exact .inl (h.cr (h1▸hk))
   ·rw[h1]at hk
    cases hk;exact .inr h2
 ·exact((show Below n0 W W from zR _ _).grown hg h.hz λr e=>(jr r e).1).grown cf (Nat.le_trans h.hz hg.size) λr e=>by cases e;exact h.bw
end
abbrev cdN (s:Sh)(pl:Pn)(wd:List Dt)(qs:List Pc):Option CD:=qs.foldlM (a2l (pfS s) pl) ⟨wd,0,[]⟩
theorem a9l (s:Sh)(pl:Pn)(wd:List Dt)(qs:List Pc)(p:Pc):cdN s pl wd (qs++[p])=(cdN s pl wd qs).bind λst=>a2l (pfS s) pl st p:=by
 unfold cdN;rw[List.foldlM_append]
 cases h:List.foldlM (a2l (pfS s) pl) ⟨wd,0,[]⟩ qs <;> simp
theorem c6a (s:Sh)(pl:Pn)(wd:List Dt)(qs rs:List Pc)(p:Pc)(h:cdN s pl wd (qs++[p])=none):cdN s pl wd (qs++p::rs)=none:=by
 unfold cdN at h ⊢;rw[show qs++p::rs=(qs++[p])++rs by simp,List.foldlM_append,h];rfl
def CI (n0:Nat)(w:Wd)(Bw Bc Bm:Nat)(L:List (Nat×Array Value×TypeId))(s:Sh)(pl:Pn)(wd:List Dt)(pre:List (Pc×Value))(W:Wd):Prop :=
 ∃v m en st,cdN s pl wd (pre.map Prod.fst)=some st/\m<=pre.length/\st.left<=pre.length/\st.want.length<=wd.length+33*pre.length/\SetI en st.last/\DIr n0 w Bw Bc Bm L v (st.left:Nat) m en st.want W
theorem d1j {l:List Dt}{v:Vu}{W W':Wd}{Bm:Nat}{m:Nat}{en:List (Int×Bool)}(h:Lst dtE W.heap.size W v l)(hg:W.grownBy W' (some Bm))(hm:MapK prog idK boV W Bm m en):Lst dtE W'.heap.size W' v l:=by
 obtain⟨D,⟨es,clock,ho,-⟩,-⟩:=hm;obtain⟨a,cap,e,c1,c2,c3⟩:=h;refine⟨a,cap,e,c1,c2,λj hj=> ?_⟩;obtain⟨b,off,rfl,hb,hc⟩:=c3 j hj;refine⟨b,off,rfl,Nat.lt_of_lt_of_le hb hg.size,λi hi=> ?_⟩;have h0:=hc i hi;have av:b≠Bm:=λe=>by
  subst e;have h1:W.cell? ⟨b,off+j*dtE.s+i,none⟩=none:=a3u ho rfl;rw[h1]at h0;have h2:i<(dtE.enc l[j]).length:=hi;rw[List.getElem?_eq_getElem h2]at h0
  cases h0
 exact(a5s (hg.block b hb λe=>av (by cases e;rfl))).trans h0
def a4c (s:Sh)(n Bl Bm:Nat)(dv kv lv:Vu):List (Nat×Array Value×TypeId):=[(n+1,#[.int .i64 s.ax,.int .i64 s.ay,.int .i64 s.st,.int .i64 s.w,.int .i64 s.h,.int .i64 s.g],28),(n+1+1,#[dv,kv,lv],45),(Bl,#[.map (some Bm)],169)]
theorem a4k {s:Sh}{n Bl Bm:Nat}{dv kv lv:Vu}{Q:Nat×Array Value×TypeId->Prop}(h1:Q (n+1,#[.int .i64 s.ax,.int .i64 s.ay,.int .i64 s.st,.int .i64 s.w,.int .i64 s.h,.int .i64 s.g],28))(h2:Q (n+1+1,#[dv,kv,lv],45))(h3:Q (Bl,#[.map (some Bm)],169)):∀q∈a4c s n Bl Bm dv kv lv,Q q:=by
 intro q hq;unfold a4c at hq;rw[List.mem_cons,List.mem_cons,List.mem_singleton]at hq;rcases hq with rfl|rfl|rfl
 ·exact h1
 ·exact h2
 ·exact h3
theorem d5u (s:Sh)(f0:fits s.ax)(f1:fits s.ay)(hs:a1h s=0)(ev fv wv pv dv kv lv:Vu)(l:List Pc)(ws:List Wy)(pl:Pn)(w:Wd)(hL:Lst plE w.heap.size w pv l)(hF:Frm pv l.length)(hl:l.length<=100)(a7:∀p∈l,PcOk p/\p.cls.size<=1000)
 (hW:Wys w.heap.size w wv ws) (hid:∀y∈ws,fits y.id) (hlen:ws.length<=100) (aO:∀y∈ws,y.line.length<=100) (hPow:∀W,Below w.heap.size w W->Pow W)
 (hd:Lst dtE w.heap.size w dv pl.dots) (cZ:Lst lfE w.heap.size w lv pl.left) (jZ:Frm lv pl.left.length) :
 Calls prog 48 #[b3t ev fv wv pv,shV s,a1t dv kv lv] w λe w'=>(cdF (pfS s) pl (wdF s ws) (a0q l)=true/\e= .returned (.tuple #[])\/cdF (pfS s) pl (wdF s ws) (a0q l)=false/\e= .panicked (c3o 42))/\Below w.heap.size w w':=by
 have iD:=a4l hs;obtain⟨pa,pc,rfl,-⟩:=hL.form;obtain⟨da,dc,rfl,-⟩:=hd.form;obtain⟨la,lc,rfl,-⟩:=cZ.form;have gq:=λw4 (hb:Below w.heap.size w w4)=>(callsIn_wide (n:=3)).1 (d0a s wv ws w4 hs hid (hW.up hb hb.size) hlen aO)
 have jY:=λw4=>a5d s ev fv wv (.slice pa l.length pc) w4
 refine(callsIn_wide (n:=3)).1 ?_;refine a9g (f:=48) func48 rfl trivial rfl ?_;simp only[ntmps48,List.size_toArray,List.length_cons,List.length_nil,Nat.reduceAdd,Nat.reduceSub,Array.replicate_succ,Array.replicate_zero,List.push_toArray,List.append_toArray,List.nil_append,List.cons_append];refine AtFn.seq (AtFn.of (wpIn_wide.2 ?_));go_wp2_with fail;obtain⟨W1,aH,k1,k2,k3,aE,aW⟩:=d8w w #[ev,fv,wv,.slice pa l.length pc] #[.int .i64 s.ax,.int .i64 s.ay,.int .i64 s.st,.int .i64 s.w,.int .i64 s.h,.int .i64 s.g] #[.slice da pl.dots.length dc,kv,.slice la pl.left.length lc] 37 28 45;rw[aH];clear aH;refine AtFn.seq (AtFn.of (wpIn_wide.2 ?_));obtain⟨m0,m1,m2,m3⟩:=zN4 k1;obtain⟨s0,s1,s2,s3,s4,s5⟩:=zN6 k2;go_wp2_with (first
  |(go_at_call 34;(with_reducible refine(gq _ aE).mono ?_);rintro e W2⟨v,base,rfl,aD,ae,az⟩
    clear m0 m1 m2 m3 s0 s1 s2 s3 s4 s5;obtain⟨va,vc,rfl⟩:∃a c,v= .slice a (wdF s ws).length c:=by
     obtain⟨a,c,h,-⟩:=(a0d a4t ae (by have:=a7b iD ws;unfold wdF at this;omega)).form;exact⟨a,c,h⟩))
 have bF:=az.size;refine AtFn.seq (AtFn.of (wpIn_wide.2 ?_));go_wp2_with fail;have vp:= @run_makeMap prog;refine AtFn.seq (AtFn.of (wpIn_wide.2 ?_));go_wp2_with fail;clear vp;refine AtFn.seq (AtFn.seq (AtFn.of (wpIn_wide.2 ?_)));have DL:=((((Blk.new W2 #[.slice va (wdF s ws).length vc] 41).alloc (.cells #[.int .i64 0] 3)).alloc (.map #[] 0)).alloc (.cells #[.map (some (W2.heap.size+1+1))] 169));have ju:=(((Blk.new (W2.alloc (.cells #[.slice va (wdF s ws).length vc] 41)) #[.int .i64 0] 3).alloc (.map #[] 0)).alloc (.cells #[.map (some (W2.heap.size+1+1))] 169));have nG:=(MapK.made prog idK boV ((W2.alloc (.cells #[.slice va (wdF s ws).length vc] 41)).alloc (.cells #[.int .i64 0] 3))).alloc (.cells #[.map (some (W2.heap.size+1+1))] 169);have aR:=Blk.new (((W2.alloc (.cells #[.slice va (wdF s ws).length vc] 41)).alloc (.cells #[.int .i64 0] 3)).alloc (.map #[] 0)) #[.map (some (W2.heap.size+1+1))] 169;have rj:=((((b2a ae (Nat.le_trans aE.size aD)).alloc (.cells #[.slice va (wdF s ws).length vc] 41)).alloc (.cells #[.int .i64 0] 3)).alloc (.map #[] 0)).alloc (.cells #[.map (some (W2.heap.size+1+1))] 169);have dF:Below W1.heap.size W1 ((((W2.alloc (.cells #[.slice va (wdF s ws).length vc] 41)).alloc (.cells #[.int .i64 0] 3)).alloc (.map #[] 0)).alloc (.cells #[.map (some (W2.heap.size+1+1))] 169)):=(((az.alloc bF _).alloc uM _).alloc uM _).alloc uM _;simp only[World.size_alloc]at DL ju nG aR;obtain⟨W4,cQ⟩:=zE ((((W2.alloc (.cells #[.slice va (wdF s ws).length vc] 41)).alloc (.cells #[.int .i64 0] 3)).alloc (.map #[] 0)).alloc (.cells #[.map (some (W2.heap.size+1+1))] 169));have sI:W4.heap.size=W2.heap.size+1+1+1+1:=by rw[<-cQ];simp
 rw[cQ]at DL ju nG aR rj dF ⊢;clear cQ;have yz:=k2.below dF k2.lt;have DM:=k3.below dF k3.lt;have DN:=k1.below dF k1.lt;obtain⟨Bw,tm⟩:=zE W2.heap.size;rw[tm]at DL ju nG aR sI bF ⊢;have pY:Below w.heap.size w W4:=aE.trans (dF.mono aE.size);have sJ:DIr w.heap.size w Bw (Bw+1) (Bw+1+1) (a4c s w.heap.size (Bw+1+1+1) (Bw+1+1) (.slice da pl.dots.length dc) kv (.slice la pl.left.length lc)) (.slice va (wdF s ws).length vc) ((0:Nat):Int) 0 [] (wdF s ws) W4:=by
  refine⟨DL,rj,ju,nG,a4k yz DM aR,a4k ⟨?_,?_,?_,show(28:Nat)≠54 by decide⟩ ⟨?_,?_,?_,show(45:Nat)≠54 by decide⟩ ⟨?_,?_,?_,show(169:Nat)≠54 by decide⟩,oM,oM,oM,oM,oM,oM,pY,yR _⟩
  all_goals (simp only;omega)
 obtain⟨m0,m1,m2,m3⟩:=zN4 DN;obtain⟨s0,s1,s2,s3,s4,s5⟩:=zN6 yz;go_wp2_with (first
  |(go_at_call 35;(with_reducible refine(jY _).mono ?_);rintro e W5⟨rfl,km,ks,aZ⟩))
 rw[sI]at km ks aZ;have fI:Below w.heap.size w W5:=pY.trans (aZ.mono (by have:=pY.size;omega));have sK:=sJ.below (by rw[sI];exact aZ);have AG:=aZ.size;clear sJ m0 m1 m2 m3 s0 s1 s2 s3 s4 s5 k1 k2 k3 yz DM DN DL ju nG aR rj ae dF az jY gq aE tm aD;have hZ:∀q∈(a4c s w.heap.size (Bw+1+1+1) (Bw+1+1) (.slice da pl.dots.length dc) kv (.slice la pl.left.length lc)),q.1<W5.heap.size:=a4k (by simp only;omega) (by simp only;omega) (by simp only;omega);have bN:=b7j 2 oM s f0 f1 ev fv wv (.slice pa l.length pc) l hl a7 (b4m Bw (Bw+1) (Bw+1+1)) w.heap.size W5 (Bw+1+1+1+1) (Bw+1+1+1+1+1) km ks (hL.up fI) hF fI.size
  (λW k hb hc=>by
   have AI:=sK.below hb;rcases sK.c_row AI.b hc with rfl|rfl|rfl|hk
   ·exact⟨oM,oM⟩
   ·exact⟨oM,oM⟩
   ·exact⟨oM,oM⟩
   ·refine⟨λe=> ?_,λe=> ?_⟩
    ·subst e
     exact a0n sK.row km jM hk
    ·subst e
     exact a0n sK.row ks jM hk)
  (λW hb=>hPow W (fI.trans (hb.mono (yR _))))
 refine AtFn.block ?_;refine a7z (α:=Pc×Value) 19 9 (λx=>e0v s x) rfl oM rfl trivial (enters_of func84 zM rfl) (d5t Bw (Bw+1) (Bw+1+1)) (b7o Bw (Bw+1) (Bw+1+1)) (c7w Bw (Bw+1) (Bw+1+1)) (λk=>c3y) (n0:=w.heap.size) fI.size (Kx:=KxC s (a0q l)) (λpre x W l o o' h1 h2 h3=>KxC.put h1 (a1s h2) (a1s h3)) (S:=λxs=>xs.map Prod.fst=a0q l) (N:=101) (w0:=W5) bN (zR _ _)
  (λpre W=>CI w.heap.size w Bw (Bw+1) (Bw+1+1) (a4c s w.heap.size (Bw+1+1+1) (Bw+1+1) (.slice da pl.dots.length dc) kv (.slice la pl.left.length lc)) s pl (wdF s ws) pre W) ?hI ?hIC ?h0 (λch W=>ch=c3o 42/\cdF (pfS s) pl (wdF s ws) (a0q l)=false/\Below w.heap.size w W) ⟨_,func48⟩ trivial 92 (λx=> #[.int .i64 x.1.id,.int .i64 x.1.x,.int .i64 x.1.y,.string x.1.cls,.string x.1.nm,.int .i64 x.1.wt,.int .i64 x.1.ds,x.2,.bool (pfS s x.1).1]) (λpre x W o h=>h.alloc o) (λpre W k h hc=>c3y hc) ?assign ?body ?hpan ?done
 case hI =>
  rintro pre A A' row⟨v,m,en,st,h1,h2,h3,h4,h5,h6⟩ hg hr;exact⟨v,m,en,st,h1,h2,h3,h4,h5,h6.turn fI.size hZ hg hr⟩
 case hIC =>
  rintro pre A A' row k⟨v,m,en,st,h1,h2,h3,h4,h5,h6⟩ hg hr hc;exact h6.mine hg hr hc
 case h0=>exact⟨_,0,[],⟨wdF s ws,0,[]⟩,rfl,yR _,yR _,yR _,SetI.nil,sK⟩
 case assign =>
  exact ycs
 case body =>
  clear bN km ks sK;rintro ly pre⟨⟨id,x,y,cls,nm,wt,ds⟩,xv⟩ W B ⟨v,m,en,st,mr,hm,I8,I9,jF,hD⟩ ⟨⟨rs,q9⟩,ig,mo⟩ hB DE re ag;have mz:(⟨id,x,y,cls,nm,wt,ds⟩:Pc)∈a0q l:=by rw[q9];simp
  obtain⟨dY,ie⟩:=a7 _ ((a0v l).mem_iff.1 mz);have iR:=a7b iD ws;have fM:=a8h s ⟨id,x,y,cls,nm,wt,ds⟩;have au:cdN s pl (wdF s ws) ((pre++[((⟨id,x,y,cls,nm,wt,ds⟩:Pc),xv)]).map Prod.fst)=a2l (pfS s) pl st ⟨id,x,y,cls,nm,wt,ds⟩:=by
   rw[List.map_append];refine(a9l s pl (wdF s ws) (pre.map Prod.fst) _).trans ?_;rw[mr];rfl
  have aK:a2l (pfS s) pl st ⟨id,x,y,cls,nm,wt,ds⟩=none->cdF (pfS s) pl (wdF s ws) (a0q l)=false:=λh=>by
   rw[h,List.map_append]at au;have h2:=c6a s pl (wdF s ws) (pre.map Prod.fst) rs _ au;unfold cdF;have h3:List.foldlM (a2l (pfS s) pl) ⟨wdF s ws,0,[]⟩ (a0q l)=none:=by rw[q9];exact h2
   rw[h3]
  have Ja:KeepP (b4m Bw (Bw+1) (Bw+1+1)) w.heap.size W W:=⟨⟨yR _,λ_ _ _=>rfl,λk hc=> .inl hc⟩,zR _ _⟩;have gq:=λ(X:Wd) (hb:Below w.heap.size w X)=>c3p (.slice da pl.dots.length dc) kv (.slice la pl.left.length lc) pl id X (cZ.up hb) jZ
  obtain⟨⟨on,dl⟩,gS⟩:∃r,pfS s ⟨id,x,y,cls,nm,wt,ds⟩=r:=⟨_,rfl⟩;unfold a2l at au aK;simp only[gS]at hB ig mo fM au aK;obtain⟨xa,xc,rfl,-⟩:=ig.form;obtain⟨wn,lf,QP⟩:=st;simp only at I8 I9 jF hD au aK;have MK:=hD.hz;have b0:W.cell? ⟨B,0,none⟩=some (.int .i64 id):=hB.cell 0;have mh:Blk W (Bw+1+1+1) #[.map (some (Bw+1+1))] 169:=hD.o (Bw+1+1+1,#[.map (some (Bw+1+1))],169) (by unfold a4c;simp);have l0:W.cell? ⟨Bw+1+1+1,0,none⟩=some (.map (some (Bw+1+1))):=mh.cell 0;have oS:=c3x hD.mp dY.id;rw[jF id]at oS;by_cases bP:id∈QP
  ·rw[decide_eq_true bP]at oS
   rw[if_pos bP]at aK;clear au;gi_wp2_with (first
    |(refine⟨trivial,?_⟩;gi_at_call 106;refine(CallsIn.inRound ly (callsIn_wide.2 (a3e 42 _))).mono ?_;rintro e w9⟨rfl,rfl⟩))
   exact⟨by rw[<-q9];exact aK vM,hD.bel⟩
  ·rw[decide_eq_false bP]at oS
   rw[if_neg bP]at aK au;clear bP;gi_upto_region 8 with(first
    |(refine⟨trivial,?_⟩;gi_at_call 106;refine(CallsIn.inRound ly (callsIn_wide.2 (a3o 42 _))).mono ?_;rintro e w9⟨rfl,rfl⟩)
    |(gi_at_mapUpdate;refine MapK.wpIn_store e2d qM _ _ _ 169 qM underlying169 qM hD.mp oK dY.id qM (y:=true) qM (plainElem_bool underlying4 true) ?_;intro w7 tf nZ))
   obtain⟨i6,lU⟩:=hD.set tf nZ;have jd:=(lU.k.same B hB.lt (λh=>re _ h rfl)).trans hB;replace jd:Blk w7 B _ _:=jd;have oF:Blk w7 (w.heap.size+1+1) #[.slice da pl.dots.length dc,kv,.slice la pl.left.length lc] 45:=i6.o (w.heap.size+1+1,#[.slice da pl.dots.length dc,kv,.slice la pl.left.length lc],45) (by unfold a4c;simp);obtain⟨q0,q1,q2⟩:=zN3 oF;have r0:w7.cell? ⟨B,0,none⟩=some (.int .i64 id):=jd.cell 0;have iz:=jF.put id;have ui:=d1j ig nZ hD.mp;have lj:=gq w7 i6.bel;clear b0 l0 oS mh tf nZ gq
   cases jx:why pl id with
   |some k =>
    rw[jx]at lj aK au;simp only[a8n]at lj aK au;have iB:¬((k:Nat):Int)<0:=oM;have jR:(0:Int)<=(k:Nat):=oM;clear jx;by_cases aR:k=lf
    ·rw[if_pos aR]at au
     have kt:(((k:Nat):Int)==((lf:Nat):Int))=true:=by simp[aR]
     have mf:IntKind.i64.wrap ((lf:Int)+1)=((lf+1:Nat):Int):=by rw[a0j oM oM];omega
     clear aR aK;gi_wp2_with (first
      |(refine⟨trivial,?_⟩;gi_at_call 107;refine(CallsIn.inRound ly (callsIn_wide.2 lj)).mono ?_;rintro e w8⟨rfl,bf⟩
        have dn:=i6.below bf;have ng:=lU.trans (i6.keepP bf);have u0:w8.cell? ⟨Bw+1,0,none⟩=some (.int .i64 (lf:Nat)):=dn.c.cell 0;have u9:=dn.c.frozen 0)
      |(refine⟨trivial,?_⟩;gi_at_call 106;refine(CallsIn.inRound ly (callsIn_wide.2 (a3o 42 _))).mono ?_;rintro e w9⟨rfl,rfl⟩))
     obtain⟨Jb,yt⟩:=dn.count ((lf:Int)+1);exact⟨ng.trans yt,_,m+1,_,_,au,by simp;omega,by simp;omega,by simp;omega,iz,Jb⟩
    ·rw[if_neg aR]at aK
     have kt:(((k:Nat):Int)==((lf:Nat):Int))=false:=by simp;omega
     clear au aR;gi_wp2_with (first
      |(refine⟨trivial,?_⟩;gi_at_call 107;refine(CallsIn.inRound ly (callsIn_wide.2 lj)).mono ?_;rintro e w8⟨rfl,bf⟩
        have dn:=i6.below bf;have ng:=lU.trans (i6.keepP bf);have u0:w8.cell? ⟨Bw+1,0,none⟩=some (.int .i64 (lf:Nat)):=dn.c.cell 0)
      |(refine⟨trivial,?_⟩;gi_at_call 106;refine(CallsIn.inRound ly (callsIn_wide.2 (a3e 42 _))).mono ?_;rintro e w9⟨rfl,rfl⟩))
     exact⟨by rw[<-q9];exact aK vM,dn.bel⟩
   |none =>
    rw[jx]at lj aK au;simp only[a8n]at lj aK au;obtain⟨wa,wc,vC,-⟩:=(a0d a4t i6.row oM).form;subst vC;clear jx
    cases on
    ·rw[if_neg jM]at aK
     clear au;gi_wp2_with (first
      |(refine⟨trivial,?_⟩;gi_at_call 107;refine(CallsIn.inRound ly (callsIn_wide.2 lj)).mono ?_;rintro e w8⟨rfl,bf⟩
        have dn:=i6.below bf;have ng:=lU.trans (i6.keepP bf);have sL:=jd.below bf jd.lt;have u7:w8.cell? ⟨B,7,none⟩=some (.slice xa dl.length xc):=sL.cell 7;have u8:w8.cell? ⟨B,8,none⟩=some (.bool false):=sL.cell 8;have uw:w8.cell? ⟨Bw,0,none⟩=some (.slice wa wn.length wc):=dn.b.cell 0)
      |(refine⟨trivial,?_⟩;gi_at_call 106;refine(CallsIn.inRound ly (callsIn_wide.2 (a3e 42 _))).mono ?_;rintro e w9⟨rfl,rfl⟩))
     exact⟨by rw[<-q9];exact aK vM,dn.bel⟩
    ·rw[if_pos rfl]at au
     clear aK;gi_wp2_with (first
      |(refine⟨trivial,?_⟩;gi_at_call 107;refine(CallsIn.inRound ly (callsIn_wide.2 lj)).mono ?_;rintro e w8⟨rfl,bf⟩
        have dn:=i6.below bf;have ng:=lU.trans (i6.keepP bf);have sL:=jd.below bf jd.lt;have u7:w8.cell? ⟨B,7,none⟩=some (.slice xa dl.length xc):=sL.cell 7;have u8:w8.cell? ⟨B,8,none⟩=some (.bool true):=sL.cell 8;have uw:w8.cell? ⟨Bw,0,none⟩=some (.slice wa wn.length wc):=dn.b.cell 0)
      |(refine⟨trivial,?_⟩;gi_at_call 106;refine(CallsIn.inRound ly (callsIn_wide.2 (a3o 42 _))).mono ?_;rintro e w9⟨rfl,rfl⟩)
      |(gi_at_builtin;refine El.allIn a4t e0b qM _ _ qM w.heap.size qM wn dn.row dl qM (ui.up bf) mo oM dn.hz (λ_ _=>trivial) ?_
        intro v9 gh aU bD br bj;obtain⟨fW,jB,iW⟩:=dn.add bD aU (bj.imp (λe=>e) λe=>⟨_,e,yR _⟩);obtain⟨a9,n9,c9,rfl⟩:∃a n c,v9= .slice a n c:=by
         exact yhi
        have t0:gh.cell? ⟨Bw,0,none⟩=some (.slice wa wn.length wc):=fW.cell 0;have t9:=fW.frozen 0;clear aU bD br bj))
     exact⟨ng.trans iW,_,m+1,_,_,au,by simp;omega,by simp;omega,by simp;omega,iz,jB⟩
 case hpan =>
  exact yew
 case done =>
  rintro D xs W BZ hS⟨v,m,en,st,h1,-,-,h4,-,h6⟩ hK;have Jc:xs.length<=100:=by have:=congrArg List.length hS;rw[List.length_map,(a0v l).length_eq]at this;omega
  rw[hS]at h1;have iR:=a7b iD ws;obtain⟨wn,lf,yC⟩:=st;simp only at h4 h6;have hP:Blk W (w.heap.size+1+1) #[.slice da pl.dots.length dc,kv,.slice la pl.left.length lc] 45:=h6.o (w.heap.size+1+1,#[.slice da pl.dots.length dc,kv,.slice la pl.left.length lc],45) (by unfold a4c;simp);have c0:W.cell? ⟨w.heap.size+1+1,0,none⟩=some (.slice da pl.dots.length dc):=hP.cell 0;have c2:W.cell? ⟨w.heap.size+1+1,2,none⟩=some (.slice la pl.left.length lc):=hP.cell 2;have cl:W.cell? ⟨Bw+1,0,none⟩=some (.int .i64 (lf:Nat)):=h6.c.cell 0;have cw:W.cell? ⟨Bw,0,none⟩=some v:=h6.b.cell 0;have lS:=e0y v (.slice da pl.dots.length dc) wn pl.dots W (a0d a4t h6.row oM) (hd.up h6.bel);obtain⟨xa,xc,rfl,-⟩:=(a0d a4t h6.row oM).form;have bU:=h6.bel;have uT:=bU.size;have pz:cdF (pfS s) pl (wdF s ws) (a0q l)=(decide (lf=pl.left.length)&&decide (wn=pl.dots)):=by
   unfold cdF;have Jd:List.foldlM (a2l (pfS s) pl) ⟨wdF s ws,0,[]⟩ (a0q l)=some ⟨wn,lf,yC⟩:=h1;rw[Jd]
  have cI:∀(W9:Wd),Below W.heap.size W W9->(W9.heap[D]? =some (.deferred (some []))/\Below w.heap.size w (W9.putObj D (.deferred none))):=λW9 br=>by
   have yv:D<W.heap.size:=(Array.getElem?_eq_some_iff.1 hK).1;have fg:=grownBy_putObj' W9 D (.deferred none);exact⟨(br.block D yv).trans hK,(bU.trans (br.mono bU.size)).grown fg (Nat.le_trans bU.size br.size) λr e=>by cases e;have:=fI.size;omega⟩
  clear bN hS sK km ks h6 h1 hP hd cZ jZ hZ hPow hL hF;refine AtFn.of (wpIn_wide.2 ?_);by_cases jt:lf=pl.left.length
  ·have Je:(((lf:Nat):Int)==((pl.left.length:Nat):Int))=true:=by simp[jt]
   have ig:decide (lf=pl.left.length)=true:=decide_eq_true jt;clear jt;by_cases he:wn=pl.dots
   ·rw[decide_eq_true he]at lS
    rw[ig,decide_eq_true he]at pz;clear he ig;go_wp2_with (first
     |(go_at_call 56;(with_reducible refine lS.mono ?_);rintro e w8⟨rfl,bf⟩)
     |(go_at_call 106;refine(a3o 42 _).mono ?_;rintro e w9⟨rfl,rfl⟩))
    obtain⟨Am,cn⟩:=cI _ bf;refine⟨by simp,.inl ⟨_,_,rfl,run_takeDeferred Am,?_⟩⟩;exact⟨_,results_none rfl _ _ _,by first|exact .inl ⟨pz,rfl⟩|rfl,cn⟩
   ·rw[decide_eq_false he]at lS
    rw[ig,decide_eq_false he]at pz;clear he ig;go_wp2_with (first
     |(go_at_call 56;(with_reducible refine lS.mono ?_);rintro e w8⟨rfl,bf⟩)
     |(go_at_call 106;refine(a3e 42 _).mono ?_;rintro e w9⟨rfl,rfl⟩))
    obtain⟨Am,cn⟩:=cI _ bf;exact yix
  ·have Je:(((lf:Nat):Int)==((pl.left.length:Nat):Int))=false:=by simp;omega
   rw[decide_eq_false jt]at pz;clear jt;go_wp2_with (first
    |(go_at_call 106;refine(a3e 42 _).mono ?_;rintro e w9⟨rfl,rfl⟩))
   obtain⟨Am,cn⟩:=cI _ (zR _ _);exact yix
end
section
open Go Go.RowKit Go.Shelf Go.Lib
theorem c3z (v:Vu)(l:List Dt)(w:Wd)(h:Lst dtE w.heap.size w v l)(hf:Frm v l.length)(hl:l.length<=100000) :
 Calls prog 109 #[v] w λe w'=>∃u,e= .returned u/\w'.ownsRow w.heap.size 54 4 u l.length (l.flatMap dtE.enc)/\Below w.heap.size w w':=by
 rcases hf with rfl|⟨b,off,cap,rfl⟩
 ·obtain⟨a,cap,e,-⟩:=h.form
  simp only[Value.slice.injEq]at e;obtain⟨-,e,-⟩:=e;obtain rfl:=List.eq_nil_of_length_eq_zero e.symm;refine(AnyE.slices_Clone_nil Tryz.cloneDt 0 0 w).mono ?_;exact ykz
 ·obtain⟨i0,aT,bM,aW,bF⟩:=info_parts (P:=prog) (e:=54) (z:= .agg #[.int .i64 0,.int .i64 0,.int .i64 0,.int .i64 0]) (size:=4) (bytes:=32) zM
  refine(AnyE.slices_Clone Tryz.cloneDt i0 _ 4 32 aT bM aW bF qM oM sizeOf54 b off l.length cap (l.flatMap dtE.enc) w (a0w a4t l) oK oM (h.flat a4t) (a4q a4t l)).mono ?_;rintro e w'⟨u,rfl,hr,-,hb⟩;exact⟨u,rfl,hr,hb⟩
def a6d (k i:Int)(d:Dt):Bool:=decide (d.k≠k)||decide (d.i≠i)
theorem b1j (d:Dt)(B:Nat)(p k i:Int)(w:Wd)(h:Blk w B #[.int .i64 p,.int .i64 k,.int .i64 i] 68) :
 Zc prog 110 #[.agg (a2k d).toArray,.pointer (some ⟨B,0,none⟩)] w (.bool (a6d k i d)):=by
 obtain⟨dx,dy,dk,di⟩:=d;have nz:=h.lt;have c1:w.cell? ⟨B,1,none⟩=some (.int .i64 k):=h.cell 1;have c2:w.cell? ⟨B,2,none⟩=some (.int .i64 i):=h.cell 2;unfold a6d;by_cases h1:dk=k
 ·have aw:(dk != k)=false:=by simpa using h1
  by_cases h2:di=i
  ·have az:(di != i)=false:=by simpa using h2
   have hr:(decide (dk≠k)||decide (di≠i))=false:=by simp[h1,h2]
   rw[hr];clear h1 h2 hr h;go_enter func110,ntmps110;exact yeo
  ·have az:(di != i)=true:=by simpa using h2
   have hr:(decide (dk≠k)||decide (di≠i))=true:=by simp[h2]
   rw[hr];clear h1 h2 hr h;go_enter func110,ntmps110;exact yeo
 ·have aw:(dk != k)=true:=by simpa using h1
  have hr:(decide (dk≠k)||decide (di≠i))=true:=by simp[h1]
  rw[hr];clear h1 hr h;go_enter func110,ntmps110;exact yeo
end
section
open Go
variable{g:Int}
theorem e1h {a b:Dt}(ha:Sm a)(hb:Sm b):okW g a b=a5k g a b:=by
 unfold okW a5k;rw[b6q ha hb]
theorem b3y {α:Type}{p q:α->Bool}:∀ {l:List α},(∀x∈l,p x=q x)->l.all p=l.all q
 |[],_=>rfl
 |x::l,h=>by
  rw[List.all_cons,List.all_cons,h x (List.mem_cons_self ..),b3y λy hy=>h y (List.mem_cons_of_mem _ hy)]
theorem d9d {l:List Dt}(h:∀d∈l,Sm d):c3q g l=b1m g l:=by
 unfold c3q b1m;refine b3y λk hk=> ?_
 unfold b5y
 cases hl:l[k]? with
 |none=>simp
 |some a =>
  have ha:=h a (List.mem_of_getElem? hl);exact b3y λb hb=>e1h ha (h b (List.mem_of_mem_take hb))
end
section
open Go.RowKit Go.Shelf Go.Lib Go.Sort
variable{l:List Dt}{N base blk cap g i j n off:Nat}{W W' w:Wd}
theorem b3z (d:Array Dt)(t:Nat)(ht:t<d.size*4):(d.toList.flatMap dtE.enc)[t]? =some (flatK dtE.enc 4 d)[t]! :=by
 have hq:t / 4<d.toList.length:=by simp;omega
 have hr:t % 4<4:=Nat.mod_lt _ jM;have e1:t / 4*4+t % 4=t:=oM;have h2:=a9r a4t d.toList (t / 4) (t % 4) hq hr;rw[show dtE.s=4 from rfl,e1]at h2;rw[h2,get_flatK _ _ _ _ ht];have He:t / 4<d.size:=oM;rw[getElem!_pos d (t / 4) He];have hl:t % 4<(dtE.enc d[t / 4]).length:=hr;rw[getElem!_pos (dtE.enc d[t / 4]) (t % 4) hl];simp only[Array.getElem_toList];exact List.getElem?_eq_getElem hl
abbrev RowD (W:Wd)(blk off:Nat)(d:Array Dt):Prop:=HoldsK dtE.enc 4 W blk off d
theorem RowD.same {d:Array Dt}(h:RowD W blk off d)(hs:W'.heap[blk]? =W.heap[blk]?):RowD W' blk off d:=λj hj =>
 ⟨(b8r hs).trans (h j hj).1,(b2h hs _).trans (h j hj).2⟩
def RowBD (W:Wd)(blk N:Nat):Prop:=∃cur,Blk W blk cur 54/\cur.size=N
theorem RowBD.same (h:RowBD W blk N)(hs:W'.heap[blk]? =W.heap[blk]?):RowBD W' blk N:=by
 obtain⟨cur,h1,h2⟩:=h;exact⟨cur,hs.trans h1,h2⟩
theorem RowBD.setCells {blk N:Nat}:∀(vs:List Value) (o:Nat) (W:Wd),RowBD W blk N->RowBD (W.setCells blk o vs) blk N
 |[],_,_,h=>h
 |v::vs,o,W,⟨cur,h1,h2⟩=>RowBD.setCells vs (o+1) _ ⟨_,h1.set o v,by simpa using h2⟩
theorem RowBD.lt (h:RowBD W blk N):blk<W.heap.size:=h.choose_spec.1.lt
structure SoD (w:Wd)(blk off N:Nat)(n:Nat)(d:Array Dt)(W:Wd):Prop where
 row:RowD W blk off d
 rb:RowBD W blk N
 gr:w.grownBy W (some blk)
 sz:d.size=n
theorem SoD.below {d:Array Dt}(h:SoD w blk off N n d W)(hb:Below W.heap.size W W'):SoD w blk off N n d W' :=
 have e:=hb.block blk h.rb.lt
 ⟨h.row.same e,h.rb.same e,a2p h.gr (a2q _ hb),h.sz⟩
theorem c7x {d:Array Dt}(h:SoD w g 0 (cap*4) n d W)(hb:base<=g)(hc:n<=cap)(hm:cap<=maxLen):W.ownsRow base 54 4 (.slice (some ⟨g,0,none⟩) n cap) n (d.toList.flatMap dtE.enc):=by
 obtain⟨hr,⟨cur,hk,hs⟩,-,hz⟩:=h;have hlen:(d.toList.flatMap dtE.enc).length=n*4:=by rw[a0w a4t];simp[hz]
 refine⟨hlen,.inr ⟨g,cap,cur,rfl,hb,hk,hc,hm,hs,?_⟩⟩;refine List.ext_getElem? λt=> ?_
 by_cases ht:t<n*4
 ·rw[List.getElem?_take_of_lt ht,b3z d t (by rw[hz];exact ht)]
  exact yjw
 ·exact ykb
theorem c7y (h:w.ownsRow base 54 4 (.slice (some ⟨g,0,none⟩) l.length cap) l.length (l.flatMap dtE.enc)):SoD w g 0 (cap*4) l.length l.toArray w/\base<=g:=by
 rcases h.2 with⟨e,-⟩|⟨g',aI,cur,e,hb,hg,h1,h2,h3,h4⟩
 ·cases e
 ·simp only[Value.slice.injEq,Option.some.injEq,Addr.mk.injEq,and_true,true_and]at e
  obtain⟨rfl,rfl⟩:=e;refine⟨⟨λt ht=>⟨?_,(show Blk w g cur 54 from hg).frozen _⟩,⟨cur,hg,h3⟩,⟨rfl,rfl,rfl,yR _,λ_ _ _=>rfl⟩,by simp⟩,hb⟩;have qq:t<l.length*4:=by simpa using ht
  have h5:=b3z l.toArray t (by simpa using qq);simp only at h5;have h6:=h.cellAt t qq;rw[h5]at h6;simpa using h6
theorem c0m {α:Type}[Inhabited α](enc:α->List Value)(k:Nat)(hk:∀x,(enc x).length=k)(d:Array α)(i:Nat)(hi:i<d.size)(x:α):
 setMany (flatK enc k d) (i*k) (enc x)=flatK enc k (d.setIfInBounds i x):=by
 refine ext_get! vM λt ht=> ?_
 have qq:t<d.size*k:=by simpa using ht
 have k0:0<k:=by
  rcases Nat.eq_zero_or_pos k with h|h
  ·subst h;simp at qq
  ·exact h
 have hq:t / k<d.size:=(Nat.div_lt_iff_lt_mul k0).2 qq;rw[get_setMany _ _ _ t (by simpa using qq),get_flatK _ _ _ t qq,get_flatK _ _ _ t (by simpa using qq),hk];by_cases a:t / k=i
 ·rw[if_pos ((blk_iff k i t k0).2 a),show t-i*k=t % k from by subst a;rw[Nat.mod_eq_sub_div_mul],<-a,getElem!_set_same d (t / k) x hq]
 ·rw[if_neg (λh=>a ((blk_iff k i t k0).1 h))]
  have:(d.setIfInBounds i x)[t / k]! =d[t / k]! :=by
   rw[getElem!_pos _ (t / k) (by simpa using hq),getElem!_pos d (t / k) hq,Array.getElem_setIfInBounds,if_neg (λe=>a e.symm)]
  rw[this]
theorem SoD.store {d:Array Dt}(h:SoD w blk off N n d W)(hi:i<n)(x:Dt):SoD w blk off N n (d.setIfInBounds i x) (W.setCells blk (off+i*4) (dtE.enc x)):=by
 refine⟨?_,RowBD.setCells _ _ _ h.rb,a2p h.gr (a2b _ _ _ _),by simpa using h.sz⟩;have h1:=holds_setCells_c h.row (i*4) (dtE.enc x) (by rw[size_flatK,h.sz];show i*4+4<=n*4;omega);unfold RowD HoldsK;rw[<-c0m dtE.enc 4 (λ_=>rfl) d i (by rw[h.sz];exact hi) x];exact h1
structure DeD (q:Dt->Bool)(w:Wd)(blk N:Nat)(l:List Dt)(i j:Nat)(W:Wd):Prop where
 ex:∃d:Array Dt,SoD w blk 0 N l.length d W/\d.toList.take i=(l.take j).filter (λx=> !q x)/\d.toList.drop j=l.drop j
 ij:i<j
 jn:j<=l.length
theorem DeD.below {q:Dt->Bool}(h:DeD q w blk N l i j W)(hb:Below W.heap.size W W'):DeD q w blk N l i j W':=by
 obtain⟨⟨d,h1,h2,h3⟩,h4,h5⟩:=h;exact⟨⟨d,h1.below hb,h2,h3⟩,h4,h5⟩
theorem DeD.cell {q:Dt->Bool}(h:DeD q w blk N l i j W):(∀t,t<l.length*4->(W.cell? ⟨blk,t,none⟩).isSome=true)/\∀t,t<l.length*4->W.frozen? ⟨blk,t,none⟩=false:=by
 obtain⟨⟨d,h1,h2,h3⟩,h4,h5⟩:=h;have hh:=λt (ht:t<l.length*4)=>h1.row t (by rw[size_flatK,h1.sz];exact ht)
 simp only[Nat.zero_add]at hh;exact⟨λt ht=>by rw[(hh t ht).1];rfl,λt ht=>(hh t ht).2⟩
theorem DeD.lt {q:Dt->Bool}(h:DeD q w blk N l i j W):blk<W.heap.size:=by
 obtain⟨⟨d,h1,h2,h3⟩,h4,h5⟩:=h;exact h1.rb.lt
theorem DeD.skip {q:Dt->Bool}(h:DeD q w blk N l i j W)(hj:j<l.length){x:Dt}(hx:l[j]? =some x)(hn:q x=true):DeD q w blk N l i (j+1) W:=by
 obtain⟨⟨d,h1,h2,h3⟩,h4,h5⟩:=h;refine⟨⟨d,h1,?_,?_⟩,oM,hj⟩
 ·rw[h2,List.take_add_one,hx,List.filter_append]
  simp[hn]
 ·have:=congrArg (λl=>l.drop 1) h3
  simpa[List.drop_drop,Nat.add_comm]using this
theorem DeD.keep {q:Dt->Bool}(h:DeD q w blk N l i j W)(hj:j<l.length){x:Dt}(hx:l[j]? =some x)(hn:q x=false):DeD q w blk N l (i+1) (j+1) (W.setCells blk (0+i*4) (dtE.enc x)):=by
 obtain⟨⟨d,h1,h2,h3⟩,h4,h5⟩:=h;have hid:i<d.size:=by rw[h1.sz];omega
 refine⟨⟨d.setIfInBounds i x,h1.store oM x,?_,?_⟩,oM,hj⟩
 ·have e1:(d.setIfInBounds i x).toList=d.toList.set i x:=by simp
  rw[e1,List.take_set,List.take_add_one,List.getElem?_eq_getElem (by simpa using hid)];have hl:(d.toList.take i).length=i:=by simp;omega
  rw[List.set_append_right _ _ oM,hl,Nat.sub_self];simp only[Option.toList_some,List.set_cons_zero];rw[h2,List.take_add_one (l:=l),hx,List.filter_append];simp[hn]
 ·have e1:(d.setIfInBounds i x).toList=d.toList.set i x:=by simp
  rw[e1,List.drop_set_of_lt oM];have:=congrArg (λl=>l.drop 1) h3;simpa[List.drop_drop,Nat.add_comm]using this
theorem DeD.done {q:Dt->Bool}(h:DeD q w g (cap*4) l i l.length W)(hb:base<=g)(hc:l.length<=cap)(hm:cap<=maxLen)(vs:List Value)(hv:vs.length=(l.length-i)*4):
 i=(l.filter (λx=> !q x)).length/\(W.setCells g (0+i*4) vs).ownsRow base 54 4 (.slice (some ⟨g,0,none⟩) i cap) (l.filter (λx=> !q x)).length ((l.filter (λx=> !q x)).flatMap dtE.enc)/\w.grownBy (W.setCells g (0+i*4) vs) (some g):=by
 obtain⟨⟨d,h1,h2,h3⟩,h4,h5⟩:=h;rw[List.take_length]at h2;have hi:i=(l.filter (λx=> !q x)).length:=by
  rw[<-h2];have:=h1.sz;simp;omega
 refine⟨hi,?_,a2p h1.gr (a2b _ _ _ _)⟩;have ae:=c7x h1 hb hc hm;obtain⟨cur,hk,hs⟩:=RowBD.setCells vs (0+i*4) W h1.rb;refine⟨a0w a4t _,.inr ⟨g,cap,cur,by rw[<-hi],hb,hk,oM,hm,hs,?_⟩⟩;refine List.ext_getElem? λt=> ?_
 have hf:=a0w a4t (l.filter (λx=> !q x));rw[show dtE.s=4 from rfl]at hf;by_cases ht:t<(l.filter (λx=> !q x)).length*4
 ·rw[List.getElem?_take_of_lt ht]
  have c1:=hk.cell t;rw[World.cell?_setCells_out g vs (0+i*4) W ⟨g,t,none⟩ (λ_ _=> .inl (by show t<0+i*4;omega))]at c1;have c2:=(h1.row t (by rw[size_flatK,h1.sz];omega)).1;rw[Nat.zero_add,c1]at c2;have c3:=b3z d t (by rw[h1.sz];omega);have c4:(d.toList.flatMap dtE.enc)[t]? =((l.filter (λx=> !q x)).flatMap dtE.enc)[t]? :=by
   rw[<-h2,show d.toList.flatMap dtE.enc=(d.toList.take i).flatMap dtE.enc++(d.toList.drop i).flatMap dtE.enc from by rw[<-List.flatMap_append,List.take_append_drop]];refine List.getElem?_append_left ?_;rw[h2,hf];exact ht
  rw[<-c4,c3];simpa using c2
 ·exact ykb
end
end Go.Proofs.YtfocdbjceedagaaGreatDoor
