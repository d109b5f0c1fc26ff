/-
  Parts.
-/
import Derived.Test.YtfocdbjceedagaaGreatDoorYaw
import Derived.Test.YtfocdbjceedagaaGreatDoorYba
set_option linter.unusedVariables false
set_option linter.unusedSimpArgs false
set_option maxHeartbeats 4000000
set_option maxRecDepth 100000
namespace Go.Proofs.YtfocdbjceedagaaGreatDoor
open Tryz
section
open Go Go.RowKit
def exO:List Pc:=[⟨3,105,55,a7y,⟨#[79,97,107]⟩,9,1⟩,⟨1,105,105,a7y,⟨#[69,108,109]⟩,5,1⟩,⟨2,135,105,a7y,⟨#[]⟩,3,1⟩,⟨4,5,5,a7y,⟨#[]⟩,1,1⟩]
theorem b1v:a0t exL=exO:=by kernel_rfl
def exPl:Pn:=a2p exS30 [] exO
theorem b4s:exPl.left=[⟨2,3,1⟩,⟨4,0,0⟩]:=by decide +kernel
theorem c5z:exPl.keys=[⟨3,3,⟨#[32,21,1,5]⟩⟩,⟨1,1,⟨#[32,17,7,13]⟩⟩]:=by decide +kernel
theorem a8t:exPl.dots.length=17:=by decide +kernel
theorem c8v:exPl.dots.find? (atD 10 10)=some ⟨10,10,3,1⟩:=by decide +kernel
theorem c8w:exPl.dots.find? (atD 9 9)=none:=by decide +kernel
def b7g:Pn:=⟨exPl.dots.take 16,exPl.keys,exPl.left⟩
def b4t:Pn:=⟨exPl.dots,exPl.keys,[⟨2,3,3⟩,⟨4,0,0⟩]⟩
theorem c8x:c8i exPl exPl=true:=by decide +kernel
theorem c8y:c8i exPl b7g=false:=by decide +kernel
theorem d1f:b5y exS30.g (pfS exS30) a6t exPl (wdF exS30 []) exO=0:=by decide +kernel
theorem d1g:b5y exS30.g (pfS exS30) a6t b7g (wdF exS30 []) exO=42:=by decide +kernel
theorem d1h:b5y exS30.g (pfS exS30) a6t b4t (wdF exS30 []) exO=42:=by decide +kernel
theorem c8z:exO.map Pc.id=[3,1,2,4]:=rfl
end
section
open Go Go.RowKit Go.Shelf Go.Lib
attribute [local go_sem] Oper.semAt_some
attribute [local go_sem ↓] Go.wp_at_zero Go.wp_at_succ
theorem c6a (va vb:Value)(a:List Int)(w:World)(ha:Lst inE w.heap.size w va a)(hb:Lst inE w.heap.size w vb a)(hl:a.length≤100000) :
 Calls prog 13 #[va,vb] w fun e w'=>e= .returned (.bool true)∧Below w.heap.size w w':=by
 obtain⟨aa,ac,rfl,-⟩:=ha.form;obtain⟨ba,bc,rfl,-⟩:=hb.form;go_enter func13,ntmps13;go_wp2_with fail;go_loopw [5] (fun i wr=>∃k:Nat,k≤a.length∧i= .int .i64 k∧Below w.heap.size w wr) (fun i _=>a.length-(intOf i).toNat)
 case atStart=>exact⟨0,Nat.zero_le _,rfl,zR _ _⟩
 case round =>
  obtain⟨k,hk,rfl,hB⟩:=hrel;have hsz:=hB.size;have ha':=ha.up hB;have hb':=hb.up hB;by_cases hlt:k<a.length
  ·have hltI:(k:Int)<(a.length:Int):=by omega
   obtain⟨b1,o1,cap1,hv1,-,-,hc1⟩:=ha'.some_ (by omega);simp only[Value.slice.injEq,true_and] at hv1;obtain⟨rfl,rfl⟩:=hv1;obtain⟨b2,o2,cap2,hv2,-,-,hc2⟩:=hb'.some_ (by omega);simp only[Value.slice.injEq,true_and] at hv2;obtain⟨rfl,rfl⟩:=hv2;obtain⟨d,hd⟩:∃d,a[k]=d:=⟨_,rfl⟩;have h1:=hc1 k hlt 0 (show 0<1 by decide);have h2:=hc2 k hlt 0 (show 0<1 by decide);rw[hd] at h1 h2;have c1:wr.cell? ⟨b1,o1+k,none⟩=some (.int .i64 d):=by simpa [inE] using h1
   have c2:wr.cell? ⟨b2,o2+k,none⟩=some (.int .i64 d):=by simpa [inE] using h2
   clear h1 h2 hc1 hc2 hd;go_wp2_with fail;first|with_reducible refine a0v (by kernel_rfl) (by kernel_rfl) ?_|with_reducible refine a1a (by kernel_rfl) (by kernel_rfl) ?_
   repeat (first|go_big_quiet_step (fail)|quiet_step (fail))
   refine wpQuiet_nil ?_;intro _ hw_;obtain⟨p,hw_⟩:=hw_;subst hw_;go_wp2_with fail;go_roundw
   case rel=>exact⟨k+1,by omega,by go_num,(by repeat' (first|with_reducible (first|exact zR _ _|exact yR _|assumption|refine zG ?_ ?_ _|refine zA ?_ ?_ _|refine zS ?_ ?_ _|refine zD ?_|refine yA ?_|refine yG ?_|refine yS ?_|refine yD ?_)|omega|(dsimp only;omega)))⟩
   case measure=>first|(simp[intOf];done)|(simp[intOf];omega)
  ·obtain rfl:k=a.length:=by omega
   have hge:¬(a.length:Int)<(a.length:Int):=by omega
   go_wp2_with fail;go_ret;exact⟨rfl,hB⟩
theorem c6b {l:List Pc}{k:Nat}{id:Int}(h:∀p∈l.take k,p.id≠id)(hk:k<l.length)(hp:l[k].id=id):l.find? (fun p=>decide (p.id=id))=some l[k]:=by
 rw[List.find?_eq_some_iff_getElem];refine⟨by simp[hp],k,hk,rfl,fun j hj=> ?_⟩;have:=h l[j] (List.mem_take_iff_getElem.2 ⟨j,by omega,rfl⟩);simpa using this
theorem d1i (ev fv wv pv:Value)(l:List Pc)(id:Int)(w:World)(hL:Lst plE w.heap.size w pv l)(hl:l.length≤100000){p:Pc}(hp:l.find? (fun p=>decide (p.id=id))=some p) :
 Calls prog 24 #[.agg #[ev,fv,wv,pv],.int .i64 id] w fun e w'=>e= .returned (.tuple #[.agg (plE.enc p).toArray,.bool true])∧Below w.heap.size w w':=by
 obtain⟨pa,pc,rfl,-⟩:=hL.form;go_enter func24,ntmps24;go_upto_region 1 with fail;have kM:=(Blk.new w #[ev,fv,wv,.slice pa l.length pc] 37).alloc (.cells #[.int .i64 0,.int .i64 0,.int .i64 0,.string ⟨#[]⟩,.string ⟨#[]⟩,.int .i64 0,.int .i64 0] 66);have kP:=Blk.new (w.alloc (.cells #[ev,fv,wv,.slice pa l.length pc] 37)) #[.int .i64 0,.int .i64 0,.int .i64 0,.string ⟨#[]⟩,.string ⟨#[]⟩,.int .i64 0,.int .i64 0] 66;obtain⟨W1,hW1⟩:∃W1,(w.alloc (.cells #[ev,fv,wv,.slice pa l.length pc] 37)).alloc (.cells #[.int .i64 0,.int .i64 0,.int .i64 0,.string ⟨#[]⟩,.string ⟨#[]⟩,.int .i64 0,.int .i64 0] 66)=W1:=⟨_,rfl⟩;have hb1:Below w.heap.size w W1:=by rw[←hW1];exact ((zR _ _).alloc (yR _) _).alloc (by simp) _
 simp only[World.size_alloc] at kP;rw[hW1] at kM kP ⊢;clear hW1;have hL1:=hL.up hb1;obtain⟨m0,m1,m2,m3⟩:W1.cell? ⟨w.heap.size,0,none⟩=some ev∧W1.cell? ⟨w.heap.size,1,none⟩=some fv∧W1.cell? ⟨w.heap.size,2,none⟩=some wv∧W1.cell? ⟨w.heap.size,3,none⟩=some (.slice pa l.length pc):=⟨kM.cell 0,kM.cell 1,kM.cell 2,kM.cell 3⟩;clear kM hL;go_wp2_with fail;go_loopw [6] (fun i wr=>∃k:Nat,k≤l.length∧i= .int .i64 k∧wr=W1∧∀p∈l.take k,p.id≠id) (fun i _=>l.length-(intOf i).toNat)
 case atStart=>exact⟨0,Nat.zero_le _,rfl,rfl,by simp⟩
 case round =>
  obtain⟨k,hk,rfl,rfl,hno⟩:=hrel;by_cases hlt:k<l.length
  ·have hltI:(k:Int)<(l.length:Int):=by omega
   obtain⟨b1,o1,cap1,hv1,-,hlb,hc1⟩:=hL1.some_ (by omega);simp only[Value.slice.injEq,true_and] at hv1;obtain⟨rfl,rfl⟩:=hv1;have hsn:∀q∈l.take (k+1),q.id≠id∨q=l[k]:=fun q hq=>by
    rw[←List.take_append_getElem hlt] at hq;rcases List.mem_append.1 hq with h|h
    ·exact .inl (hno q h)
    ·exact .inr (by simpa using h)
   have hfn:l[k].id=id→p=l[k]:=fun h=>by
    have:=c6b hno hlt h;rw[hp] at this;exact Option.some.inj this
   have hck:=hc1 k hlt;obtain⟨⟨pi,px,py,pcl,pn,pw,pd⟩,hd⟩:∃d,l[k]=d:=⟨_,rfl⟩;rw[hd] at hck hsn hfn;simp only at hfn;obtain⟨d0,d1,d2,d3,d4,d5,d6⟩:wr.cell? ⟨b1,o1+k*7,none⟩=some (.int .i64 pi)∧wr.cell? ⟨b1,o1+k*7+1,none⟩=some (.int .i64 px)∧wr.cell? ⟨b1,o1+k*7+2,none⟩=some (.int .i64 py)∧wr.cell? ⟨b1,o1+k*7+3,none⟩=some (.string pcl)∧wr.cell? ⟨b1,o1+k*7+4,none⟩=some (.string pn)∧wr.cell? ⟨b1,o1+k*7+5,none⟩=some (.int .i64 pw)∧wr.cell? ⟨b1,o1+k*7+6,none⟩=some (.int .i64 pd):=⟨hck 0 (show 0<7 by decide),hck 1 (show 1<7 by decide),hck 2 (show 2<7 by decide),hck 3 (show 3<7 by decide),hck 4 (show 4<7 by decide),hck 5 (show 5<7 by decide),hck 6 (show 6<7 by decide)⟩;clear hck hc1 hd hlb;by_cases hid:pi=id
   ·have hq:=hfn hid
    subst hq;have hbq:(pi==id)=true:=by simpa using hid
    replace hp:=Lib.hid hp;clear hfn hsn hid hno;have f0:=kP.frozen 0;have f1:=kP.frozen 1;have f2:=kP.frozen 2;have f3:=kP.frozen 3;have f4:=kP.frozen 4;have f5:=kP.frozen 5;have f6:=kP.frozen 6;have g0:wr.cell? ⟨w.heap.size+1,0,none⟩=some (.int .i64 0):=kP.cell 0;have g1:wr.cell? ⟨w.heap.size+1,1,none⟩=some (.int .i64 0):=kP.cell 1;have g2:wr.cell? ⟨w.heap.size+1,2,none⟩=some (.int .i64 0):=kP.cell 2;have g3:wr.cell? ⟨w.heap.size+1,3,none⟩=some (.string ⟨#[]⟩):=kP.cell 3;have g4:wr.cell? ⟨w.heap.size+1,4,none⟩=some (.string ⟨#[]⟩):=kP.cell 4;have g5:wr.cell? ⟨w.heap.size+1,5,none⟩=some (.int .i64 0):=kP.cell 5;have g6:wr.cell? ⟨w.heap.size+1,6,none⟩=some (.int .i64 0):=kP.cell 6;have kF:=((((((kP.set 0 (.int .i64 pi)).set 1 (.int .i64 px)).set 2 (.int .i64 py)).set 3 (.string pcl)).set 4 (.string pn)).set 5 (.int .i64 pw)).set 6 (.int .i64 pd);simp only[List.setIfInBounds_toArray,List.set_cons_zero,List.set_cons_succ] at kF;go_wp2_with fail;refine bodyPost_ret (a1r (by rfl) _ _ _ 66 _ (0,0) _ (by rfl) kF underlying66 (by rfl) (by kernel_rfl)) rfl ⟨rfl,?_⟩;have hbb:∀i (v:Value) (X:World),Below w.heap.size w X→Below w.heap.size w (X.setCell ⟨w.heap.size+1,i,none⟩ v):=fun i v X h=>h.setCell (show w.heap.size≤w.heap.size+1 by omega) v
    exact hbb _ _ _ (hbb _ _ _ (hbb _ _ _ (hbb _ _ _ (hbb _ _ _ (hbb _ _ _ (hbb _ _ _ hb1))))))
   ·have hbq:(pi==id)=false:=by simpa using hid
    have hno':∀q∈l.take (k+1),q.id≠id:=fun q hq=>(hsn q hq).elim (fun h=>h) fun h=>by rw[h];exact hid
    clear hsn hfn hno;go_wp2_with fail;go_roundw
    case rel=>exact⟨k+1,by omega,by go_num,by first|rfl|trivial,hno'⟩
    case measure=>first|(simp[intOf];done)|(simp[intOf];omega)
  ·obtain rfl:k=l.length:=by omega
   exfalso;rw[List.take_length] at hno;have h1:=List.find?_some hp;exact hno p (List.mem_of_find?_eq_some hp) (by simpa using h1)
theorem a5x {α:Type}{E:El α}(hE:E.Ok){W:World}{base B:Nat}{l:List α}(h:Blk W B (l.flatMap E.enc).toArray E.t)(hb:base≤B)(hl:l.length≤1000000):W.ownsRow base E.t E.s (.slice (some ⟨B,0,none⟩) l.length l.length) l.length (l.flatMap E.enc):=by
 refine⟨a1c hE l,.inr ⟨B,l.length,(l.flatMap E.enc).toArray,rfl,hb,h,yR _,by unfold maxLen;omega,by simp[a1c hE l],?_⟩⟩;rw[←a1c hE l];exact List.take_length
theorem PlanIn.up {W W':World}{v:Value}{p:Pn}(h:PlanIn W v p)(hb:Below W.heap.size W W'):PlanIn W' v p:=by
 obtain⟨dv,kv,lv,rfl,⟨h1,h2⟩,⟨h3,h4⟩,h5,h6⟩:=h.ex;exact⟨dv,kv,lv,rfl,⟨h1.up hb,h2⟩,⟨h3.up hb,h4⟩,h5.up hb,h6⟩
theorem d2p (p1 k1 i1:Int)(p2 k2 i2:Int)(w:World):(binOp .eql 68 (.agg #[.int .i64 p1,.int .i64 k1,.int .i64 i1]) (.agg #[.int .i64 p2,.int .i64 k2,.int .i64 i2])).run prog w= .ok (.bool (decide ((⟨p1,k1,i1⟩:Lf)=⟨p2,k2,i2⟩))) w:=by
 have u3:=underlying3;have a3:=isAgg3;have z3:=sizeOf3;have hS:prog.underlying 68=some (.struct (prog.fieldsOf 68)):=by kernel_rfl
 have hp:prog.stoodInHeld 68=false:=by kernel_rfl
 rw[run_eql_struct,show (10000:Nat)=9999+1 from rfl,run_equalIn_agg w 9999 68 _ _ hS hp];simp only[Program.fieldsOf,underlying68];go_simp;by_cases h1:p1=p2 <;> by_cases h2:k1=k2 <;> by_cases h3:i1=i2 <;> simp[h1,h2,h3]
structure San (n1 B b3:Nat)(da ka la:Option Addr)(dc kc lc:Nat)(W:World):Prop where
 m:Blk W n1 #[.slice none 0 0,.slice none 0 0,.slice none 0 0,.slice (some ⟨B,0,none⟩) 4 4] 37
 s:Blk W (n1+1) #[.int .i64 exS30.ax,.int .i64 exS30.ay,.int .i64 exS30.st,.int .i64 exS30.w,.int .i64 exS30.h,.int .i64 exS30.g] 28
 p:Blk W b3 #[.slice da 17 dc,.slice ka 2 kc,.slice la 2 lc] 45
 L:Lst plE W.heap.size W (.slice (some ⟨B,0,none⟩) 4 4) exL
 P:PlanIn W (a4t (.slice da 17 dc) (.slice ka 2 kc) (.slice la 2 lc)) exPl
theorem San.up {n1 B b3:Nat}{da ka la:Option Addr}{dc kc lc:Nat}{W W':World}(h:San n1 B b3 da ka la dc kc lc W)(hb:Below W.heap.size W W'):San n1 B b3 da ka la dc kc lc W' :=
 ⟨h.m.below hb h.m.lt,h.s.below hb h.s.lt,h.p.below hb h.p.lt,h.L.up hb,h.P.up hb⟩
theorem San.cells {n1 B b3:Nat}{da ka la:Option Addr}{dc kc lc:Nat}{W:World}(h:San n1 B b3 da ka la dc kc lc W):(W.cell? ⟨n1,0,none⟩=some (.slice none 0 0)∧W.cell? ⟨n1,1,none⟩=some (.slice none 0 0)∧W.cell? ⟨n1,2,none⟩=some (.slice none 0 0)∧W.cell? ⟨n1,3,none⟩=some (.slice (some ⟨B,0,none⟩) 4 4))∧(W.cell? ⟨n1+1,0,none⟩=some (.int .i64 exS30.ax)∧W.cell? ⟨n1+1,1,none⟩=some (.int .i64 exS30.ay)∧W.cell? ⟨n1+1,2,none⟩=some (.int .i64 exS30.st)∧W.cell? ⟨n1+1,3,none⟩=some (.int .i64 exS30.w)∧W.cell? ⟨n1+1,4,none⟩=some (.int .i64 exS30.h)∧W.cell? ⟨n1+1,5,none⟩=some (.int .i64 exS30.g))∧(W.cell? ⟨b3,0,none⟩=some (.slice da 17 dc)∧W.cell? ⟨b3,1,none⟩=some (.slice ka 2 kc)∧W.cell? ⟨b3,2,none⟩=some (.slice la 2 lc)) :=
 ⟨⟨h.m.cell 0,h.m.cell 1,h.m.cell 2,h.m.cell 3⟩,⟨h.s.cell 0,h.s.cell 1,h.s.cell 2,h.s.cell 3,h.s.cell 4,h.s.cell 5⟩,⟨h.p.cell 0,h.p.cell 1,h.p.cell 2⟩⟩
theorem c9a (X:World)(v:Value)(h:Lst inE X.heap.size X v [3,1,2,4]):Calls prog 13 #[v,.slice (some ⟨X.heap.size,0,none⟩) 4 4] (X.alloc (.cells #[.int .i64 3,.int .i64 1,.int .i64 2,.int .i64 4] 3)) fun e w'=>e= .returned (.bool true)∧Below X.heap.size X w':=by
 have hb:Below X.heap.size X (X.alloc (.cells #[.int .i64 3,.int .i64 1,.int .i64 2,.int .i64 4] 3)):=(zR _ _).alloc (yR _) _;refine (c6a v (.slice (some ⟨X.heap.size,0,none⟩) 4 4) [3,1,2,4] _ (h.up hb) (a0b b6w (l:=[3,1,2,4]) (a5x b6w (l:=[3,1,2,4]) (Blk.new X _ _) (yR _) (by decide)) (by decide)) (by decide)).mono ?_;rintro e w'⟨rfl,h2⟩;exact⟨rfl,hb.trans (h2.mono hb.size)⟩
theorem San.parts {n1 B b3:Nat}{da ka la:Option Addr}{dc kc lc:Nat}{W:World}(h:San n1 B b3 da ka la dc kc lc W):(Lst dtE W.heap.size W (.slice da 17 dc) exPl.dots∧Frm (.slice da 17 dc) exPl.dots.length)∧(Lst keE W.heap.size W (.slice ka 2 kc) exPl.keys∧Frm (.slice ka 2 kc) exPl.keys.length)∧Lst lfE W.heap.size W (.slice la 2 lc) exPl.left∧Frm (.slice la 2 lc) exPl.left.length:=by
 obtain⟨dv,kv,lv,hpv,h1,h2,h3⟩:=h.P.ex;simp only[Value.agg.injEq,Array.mk.injEq,List.cons.injEq,and_true] at hpv;obtain⟨rfl,rfl,rfl⟩:=hpv;exact⟨h1,h2,h3⟩
theorem d4a {n1 B b3:Nat}{da ka la:Option Addr}{dc kc lc:Nat}{W:World}(h:San n1 B b3 da ka la dc kc lc W):Calls prog 16 #[shV exS30,a4t (.slice da 17 dc) (.slice ka 2 kc) (.slice la 2 lc),.int .i64 10,.int .i64 10] W fun e w'=>e= .returned (.tuple #[.int .i64 3,.int .i64 1])∧Below W.heap.size W w':=by
 have h1:=c1a exS30 (.slice da 17 dc) (.slice ka 2 kc) (.slice la 2 lc) exPl.dots 10 10 W h.parts.1.1 h.parts.1.2;rw[c8v] at h1;exact h1
theorem d4b {n1 B b3:Nat}{da ka la:Option Addr}{dc kc lc:Nat}{W:World}(h:San n1 B b3 da ka la dc kc lc W):Calls prog 16 #[shV exS30,a4t (.slice da 17 dc) (.slice ka 2 kc) (.slice la 2 lc),.int .i64 9,.int .i64 9] W fun e w'=>e= .returned (.tuple #[.int .i64 0,.int .i64 0])∧Below W.heap.size W w':=by
 have h1:=c1a exS30 (.slice da 17 dc) (.slice ka 2 kc) (.slice la 2 lc) exPl.dots 9 9 W h.parts.1.1 h.parts.1.2;rw[c8w] at h1;exact h1
theorem d1j:a2p exS30 [] (a0t exL)=exPl:=by rw[b1v];rfl
theorem a7z:a1w exS30=0:=by decide +kernel
theorem c9b:∀p∈exL,PcOk p∧p.cls.size≤1000:=by
 intro p hp;simp only[exL,List.mem_cons,List.not_mem_nil,or_false] at hp;rcases hp with rfl|rfl|rfl|rfl
 all_goals exact⟨⟨by decide,by decide,by decide,by decide,by decide⟩,by decide⟩
theorem d1k:∀d∈exPl.dots,Sm d:=b9g (a5h a7z) [] exO
theorem d0b:∀x∈exPl.left,a0i x.i:=by
 rw[b4s];intro x hx;simp only[List.mem_cons,List.not_mem_nil,or_false] at hx;rcases hx with rfl|rfl
 all_goals decide
theorem c2z {α:Type}{E:El α}{n0:Nat}{W:World}{a:Option Addr}{n m c k:Nat}{l:List α}(h:Lst E n0 W (.slice a n c) l)(hk:k≤l.length)(hm:(l.take k).length=m):Lst E n0 W (.slice a m c) (l.take k):=by
 obtain⟨a',c',e,h1,h2,h3⟩:=h;simp only[Value.slice.injEq] at e;obtain⟨rfl,-,rfl⟩:=e;have hlt:(l.take k).length≤l.length:=by rw[List.length_take];omega
 refine⟨a,c,by rw[hm],by omega,by omega,fun j hj=> ?_⟩;obtain⟨b,off,h4,h5,h6⟩:=h3 j (by omega);exact⟨b,off,h4,h5,fun i hi=>by rw[List.getElem_take];exact h6 i hi⟩
theorem c3a {α:Type}{a:Option Addr}{n m c k:Nat}{l:List α}(h:Frm (.slice a n c) l.length)(hn:n≠0)(hm:(l.take k).length=m):Frm (.slice a m c) (l.take k).length:=by
 rcases h with h|⟨b,o,c',h⟩
 ·simp only[Value.slice.injEq] at h
  exact absurd h.2.1 hn
 ·simp only[Value.slice.injEq] at h
  obtain⟨rfl,-,rfl⟩:=h;exact .inr ⟨b,o,c,by rw[hm]⟩
structure San2 (n1 B b3 BL:Nat)(da ka la:Option Addr)(dc kc lc:Nat)(W:World):Prop where
 b:San n1 B b3 da ka la dc kc lc W
 l:Blk W BL #[.slice da 16 dc,.slice ka 2 kc,.slice la 2 lc] 45
 o:Blk W (BL+1) #[.slice da 17 dc,.slice ka 2 kc,.slice (some ⟨BL+1+1,0,none⟩) 2 2] 45
 pl:PlanIn W (a4t (.slice da 16 dc) (.slice ka 2 kc) (.slice la 2 lc)) b7g
 po:PlanIn W (a4t (.slice da 17 dc) (.slice ka 2 kc) (.slice (some ⟨BL+1+1,0,none⟩) 2 2)) b4t
section
variable {n1 B b3 BL:Nat}{da ka la:Option Addr}{dc kc lc:Nat}{W W':World}
theorem San2.up (h:San2 n1 B b3 BL da ka la dc kc lc W)(hb:Below W.heap.size W W'):San2 n1 B b3 BL da ka la dc kc lc W' :=
 ⟨h.b.up hb,h.l.below hb h.l.lt,h.o.below hb h.o.lt,h.pl.up hb,h.po.up hb⟩
theorem San2.cells (h:San2 n1 B b3 BL da ka la dc kc lc W):(W.cell? ⟨BL,0,none⟩=some (.slice da 16 dc)∧W.cell? ⟨BL,1,none⟩=some (.slice ka 2 kc)∧W.cell? ⟨BL,2,none⟩=some (.slice la 2 lc))∧(W.cell? ⟨BL+1,0,none⟩=some (.slice da 17 dc)∧W.cell? ⟨BL+1,1,none⟩=some (.slice ka 2 kc)∧W.cell? ⟨BL+1,2,none⟩=some (.slice (some ⟨BL+1+1,0,none⟩) 2 2)) :=
 ⟨⟨h.l.cell 0,h.l.cell 1,h.l.cell 2⟩,⟨h.o.cell 0,h.o.cell 1,h.o.cell 2⟩⟩
theorem d2q (h:San2 n1 B b3 BL da ka la dc kc lc W):Calls prog 21 #[a4t (.slice da 17 dc) (.slice ka 2 kc) (.slice la 2 lc),a4t (.slice da 17 dc) (.slice ka 2 kc) (.slice la 2 lc)] W fun e w'=>e= .returned (.bool true)∧Below W.heap.size W w':=by
 have h1:=b3f _ _ exPl exPl W h.b.P h.b.P;rw[c8x] at h1;exact h1
theorem d2r (h:San2 n1 B b3 BL da ka la dc kc lc W):Calls prog 21 #[a4t (.slice da 17 dc) (.slice ka 2 kc) (.slice la 2 lc),a4t (.slice da 16 dc) (.slice ka 2 kc) (.slice la 2 lc)] W fun e w'=>e= .returned (.bool false)∧Below W.heap.size W w':=by
 have h1:=b3f _ _ exPl b7g W h.b.P h.pl;rw[c8y] at h1;exact h1
theorem c6c (W:World):Wys W.heap.size W (.slice none 0 0) []:=⟨none,0,rfl,fun j hj=>absurd hj (by simp)⟩
theorem d4c (h:San2 n1 B b3 BL da ka la dc kc lc W)(hPow:∀W',Below W.heap.size W W'→Pow W'):Calls prog 19 #[c6v (.slice none 0 0) (.slice none 0 0) (.slice none 0 0) (.slice (some ⟨B,0,none⟩) 4 4),shV exS30,a4t (.slice da 17 dc) (.slice ka 2 kc) (.slice la 2 lc)] W fun e w'=>e= .returned (.int .i64 0)∧Below W.heap.size W w' :=
 a7b exS30 (by decide) (by decide) a7z (.slice none 0 0) (.slice none 0 0) (.slice none 0 0) (.slice (some ⟨B,0,none⟩) 4 4) _ exL [] exPl W h.b.L (.inr ⟨_,_,_,rfl⟩) (by decide) c9b (c6c _) (by simp) (by simp) (by simp) hPow h.b.P d1k (by rw[a8t];decide) d0b 0 (by rw[b1v];exact d1f)
theorem d4d (h:San2 n1 B b3 BL da ka la dc kc lc W)(hPow:∀W',Below W.heap.size W W'→Pow W'):Calls prog 19 #[c6v (.slice none 0 0) (.slice none 0 0) (.slice none 0 0) (.slice (some ⟨B,0,none⟩) 4 4),shV exS30,a4t (.slice da 16 dc) (.slice ka 2 kc) (.slice la 2 lc)] W fun e w'=>e= .returned (.int .i64 42)∧Below W.heap.size W w' :=
 a7b exS30 (by decide) (by decide) a7z (.slice none 0 0) (.slice none 0 0) (.slice none 0 0) (.slice (some ⟨B,0,none⟩) 4 4) _ exL [] b7g W h.b.L (.inr ⟨_,_,_,rfl⟩) (by decide) c9b (c6c _) (by simp) (by simp) (by simp) hPow h.pl (fun d hd=>d1k d (List.mem_of_mem_take hd)) (Nat.le_trans (List.length_take_le 16 exPl.dots) (by decide)) d0b 42 (by rw[b1v];exact d1g)
theorem d4e (h:San2 n1 B b3 BL da ka la dc kc lc W)(hPow:∀W',Below W.heap.size W W'→Pow W'):Calls prog 19 #[c6v (.slice none 0 0) (.slice none 0 0) (.slice none 0 0) (.slice (some ⟨B,0,none⟩) 4 4),shV exS30,a4t (.slice da 17 dc) (.slice ka 2 kc) (.slice (some ⟨BL+1+1,0,none⟩) 2 2)] W fun e w'=>e= .returned (.int .i64 42)∧Below W.heap.size W w' :=
 a7b exS30 (by decide) (by decide) a7z (.slice none 0 0) (.slice none 0 0) (.slice none 0 0) (.slice (some ⟨B,0,none⟩) 4 4) _ exL [] b4t W h.b.L (.inr ⟨_,_,_,rfl⟩) (by decide) c9b (c6c _) (by simp) (by simp) (by simp) hPow h.po d1k (by show exPl.dots.length≤10000;rw[a8t];decide) (by
  intro x hx;simp only[b4t,List.mem_cons,List.not_mem_nil,or_false] at hx;rcases hx with rfl|rfl
  all_goals decide) 42 (by rw[b1v];exact d1h)
end
theorem c9c (w:World)(hPow:∀W,Below w.heap.size w W→Pow W):Calls prog 8 #[] w fun e w'=>e= .returned (.bool true)∧Below w.heap.size w w':=by
 go_enter func8,ntmps8;go_upto_region 2 with (first
  |(go_at_call 29;refine (c5y _).mono ?_;rintro e w1⟨B,rfl,hB,kB,hb1⟩)
  |fail)
 have km:=(Blk.new w1 #[.slice none 0 0,.slice none 0 0,.slice none 0 0,.slice (some ⟨B,0,none⟩) 4 4] 37).alloc (.cells #[.int .i64 exS30.ax,.int .i64 exS30.ay,.int .i64 exS30.st,.int .i64 exS30.w,.int .i64 exS30.h,.int .i64 exS30.g] 28);have ks:=Blk.new (w1.alloc (.cells #[.slice none 0 0,.slice none 0 0,.slice none 0 0,.slice (some ⟨B,0,none⟩) 4 4] 37)) #[.int .i64 exS30.ax,.int .i64 exS30.ay,.int .i64 exS30.st,.int .i64 exS30.w,.int .i64 exS30.h,.int .i64 exS30.g] 28;obtain⟨W2,hW2⟩:∃W2,(w1.alloc (.cells #[.slice none 0 0,.slice none 0 0,.slice none 0 0,.slice (some ⟨B,0,none⟩) 4 4] 37)).alloc (.cells #[.int .i64 exS30.ax,.int .i64 exS30.ay,.int .i64 exS30.st,.int .i64 exS30.w,.int .i64 exS30.h,.int .i64 exS30.g] 28)=W2:=⟨_,rfl⟩;have hb12:Below w1.heap.size w1 W2:=by rw[←hW2];exact ((zR _ _).alloc (yR _) _).alloc (by simp) _
 simp only[World.size_alloc] at ks;rw[hW2] at km ks ⊢;clear hW2;have hbw2:=hb1.trans (hb12.mono hb1.size);have hL2:Lst plE W2.heap.size W2 (.slice (some ⟨B,0,none⟩) 4 4) exL:=a0b a2h (a5x a2h (kB.below hb12 kB.lt) (yR B) (by decide)) (by decide);obtain⟨n1,hn1⟩:∃n,w1.heap.size=n:=⟨_,rfl⟩;rw[hn1] at km ks ⊢;have hwn:w.heap.size≤n1:=by have:=hb1.size;omega
 clear hn1 hb12 hb1 kB hB;have hWy:∀W:World,Wys W.heap.size W (.slice none 0 0) []:=fun W=>⟨none,0,rfl,fun j hj=>absurd hj (by simp)⟩
 have hMk:=a8q exS30 (by decide) (by decide) a7z (.slice none 0 0) (.slice none 0 0) (.slice none 0 0) (.slice (some ⟨B,0,none⟩) 4 4) exL [] W2 hL2 (.inr ⟨_,_,_,rfl⟩) (by decide) c9b (hWy _) (by simp) (by simp) (by simp) (fun W h=>hPow W (hbw2.trans (h.mono hbw2.size)));rw[d1j] at hMk;obtain⟨m0,m1,m2,m3⟩:W2.cell? ⟨n1,0,none⟩=some (.slice none 0 0)∧W2.cell? ⟨n1,1,none⟩=some (.slice none 0 0)∧W2.cell? ⟨n1,2,none⟩=some (.slice none 0 0)∧W2.cell? ⟨n1,3,none⟩=some (.slice (some ⟨B,0,none⟩) 4 4):=⟨km.cell 0,km.cell 1,km.cell 2,km.cell 3⟩;obtain⟨s0,s1,s2,s3,s4,s5⟩:W2.cell? ⟨n1+1,0,none⟩=some (.int .i64 exS30.ax)∧W2.cell? ⟨n1+1,1,none⟩=some (.int .i64 exS30.ay)∧W2.cell? ⟨n1+1,2,none⟩=some (.int .i64 exS30.st)∧W2.cell? ⟨n1+1,3,none⟩=some (.int .i64 exS30.w)∧W2.cell? ⟨n1+1,4,none⟩=some (.int .i64 exS30.h)∧W2.cell? ⟨n1+1,5,none⟩=some (.int .i64 exS30.g):=⟨ks.cell 0,ks.cell 1,ks.cell 2,ks.cell 3,ks.cell 4,ks.cell 5⟩;go_upto_region 3 with (first
  |(go_at_call 10;(with_reducible refine hMk.mono ?_);rintro e w3⟨v,rfl,hP,hb3⟩
    obtain⟨dv,kv,lv,rfl,⟨hd,hdf⟩,⟨hk,hkf⟩,hl,hlf⟩:=hP.ex;obtain⟨da,dc,e1,hdc⟩:=hd.form;obtain⟨ka,kc,e2,-⟩:=hk.form;obtain⟨la,lc,e3,-⟩:=hl.form;rw[a8t] at e1 hdc;rw[c5z] at e2;rw[b4s] at e3;subst e1 e2 e3)
  |fail)
 clear hMk m0 m1 m2 m3 s0 s1 s2 s3 s4 s5 hd hdf hk hkf hl hlf;have hb34:Below w3.heap.size w3 (w3.alloc (.cells #[.slice da 17 dc,.slice ka 2 kc,.slice la 2 lc] 45)):=(zR _ _).alloc (yR _) _;have hb24:=hb3.trans (hb34.mono hb3.size);have hS4:San n1 B w3.heap.size da ka la dc kc lc (w3.alloc (.cells #[.slice da 17 dc,.slice ka 2 kc,.slice la 2 lc] 45)):=⟨km.below hb24 km.lt,ks.below hb24 ks.lt,Blk.new _ _ _,hL2.up hb24,hP.up hb34⟩;have hbw4:=hbw2.trans (hb24.mono hbw2.size);obtain⟨W4,hW4⟩:∃W4,w3.alloc (.cells #[.slice da 17 dc,.slice ka 2 kc,.slice la 2 lc] 45)=W4:=⟨_,rfl⟩;obtain⟨b3,hb3'⟩:∃b,w3.heap.size=b:=⟨_,rfl⟩;rw[hW4] at hS4 hbw4;rw[hW4];rw[hb3'] at hS4;rw[hb3'];clear hW4 hb3' hb34 hb24 hP hb3 km ks hL2 hbw2;obtain⟨⟨m0,m1,m2,m3⟩,-,⟨p0,p1,p2⟩⟩:=hS4.cells;have hOr:=b6x (.slice none 0 0) (.slice none 0 0) (.slice none 0 0) (.slice (some ⟨B,0,none⟩) 4 4) exL W4 hS4.L (.inr ⟨_,_,_,rfl⟩) (by decide);rw[b1v,c8z] at hOr;go_upto_region 5 with (first
  |(go_at_call 14;(with_reducible refine hOr.mono ?_);rintro e w5⟨v5,rfl,hv5,-,hb5⟩)
  |(go_at_call 13;(with_reducible refine (c9a _ _ hv5).mono ?_);rintro e w6⟨rfl,hb6⟩)
  |fail)
 have hS6:=(hS4.up hb5).up hb6;have hbw6:=(hbw4.trans (hb5.mono hbw4.size)).trans (hb6.mono (Nat.le_trans hbw4.size hb5.size));clear hOr m0 m1 m2 m3 p0 p1 p2 hv5 hb5 hb6 hS4 hbw4;obtain⟨-,-,⟨p0,p1,p2⟩⟩:=hS6.cells;obtain⟨dv,kv,lv,hpv,-,⟨hk,-⟩,hl,-⟩:=hS6.P.ex;simp only[Value.agg.injEq,Array.mk.injEq,List.cons.injEq,and_true] at hpv;obtain⟨rfl,rfl,rfl⟩:=hpv;rw[c5z] at hk;rw[b4s] at hl;obtain⟨kb,ko,kc',hv1,-,-,hkc⟩:=hk.some_ (by decide);obtain⟨lb,lo,lc',hv2,-,-,hlc⟩:=hl.some_ (by decide);simp only[Value.slice.injEq] at hv1 hv2;obtain⟨rfl,-,rfl⟩:=hv1;obtain⟨rfl,-,rfl⟩:=hv2;obtain⟨l0,l1,l2,l3,l4,l5⟩:w6.cell? ⟨lb,lo,none⟩=some (.int .i64 2)∧w6.cell? ⟨lb,lo+1,none⟩=some (.int .i64 3)∧w6.cell? ⟨lb,lo+2,none⟩=some (.int .i64 1)∧w6.cell? ⟨lb,lo+3,none⟩=some (.int .i64 4)∧w6.cell? ⟨lb,lo+3+1,none⟩=some (.int .i64 0)∧w6.cell? ⟨lb,lo+3+2,none⟩=some (.int .i64 0):=⟨hlc 0 (by decide) 0 (show 0<3 by decide),hlc 0 (by decide) 1 (show 1<3 by decide),hlc 0 (by decide) 2 (show 2<3 by decide),hlc 1 (by decide) 0 (show 0<3 by decide),hlc 1 (by decide) 1 (show 1<3 by decide),hlc 1 (by decide) 2 (show 2<3 by decide)⟩;obtain⟨k0,k1,k2,k3,k4,k5⟩:w6.cell? ⟨kb,ko,none⟩=some (.int .i64 3)∧w6.cell? ⟨kb,ko+1,none⟩=some (.int .i64 3)∧w6.cell? ⟨kb,ko+2,none⟩=some (.string ⟨#[32,21,1,5]⟩)∧w6.cell? ⟨kb,ko+3,none⟩=some (.int .i64 1)∧w6.cell? ⟨kb,ko+3+1,none⟩=some (.int .i64 1)∧w6.cell? ⟨kb,ko+3+2,none⟩=some (.string ⟨#[32,17,7,13]⟩):=⟨hkc 0 (by decide) 0 (show 0<3 by decide),hkc 0 (by decide) 1 (show 1<3 by decide),hkc 0 (by decide) 2 (show 2<3 by decide),hkc 1 (by decide) 0 (show 0<3 by decide),hkc 1 (by decide) 1 (show 1<3 by decide),hkc 1 (by decide) 2 (show 2<3 by decide)⟩;have hq1:=fun w=>d2p 2 3 1 2 3 1 w
 have hq2:=fun w=>d2p 4 0 0 4 0 0 w
 clear hkc hlc hk hl;go_upto_region 6 with fail;clear p0 p1 p2 l0 l1 l2 l3 l4 l5 k0 k1 k2 k3 k4 k5 hq1 hq2;have c6:=hS6.cells;obtain⟨-,⟨s0,s1,s2,s3,s4,s5⟩,⟨p0,p1,p2⟩⟩:=c6;go_upto_region 8 with (first
  |(go_at_call 16;(with_reducible refine (d4a hS6).mono ?_);rintro e w7⟨rfl,hb7⟩;have hS7:=hS6.up hb7;have c7:=hS7.cells;obtain⟨-,⟨s0,s1,s2,s3,s4,s5⟩,⟨p0,p1,p2⟩⟩:=c7)
  |(go_at_call 16;(with_reducible refine (d4b hS7).mono ?_);rintro e w8⟨rfl,hb8⟩;have hS8:=hS7.up hb8)
  |fail)
 have hbw8:=(hbw6.trans (hb7.mono hbw6.size)).trans (hb8.mono (Nat.le_trans hbw6.size hb7.size));clear s0 s1 s2 s3 s4 s5 p0 p1 p2 hS6 hS7 hb7 hb8 hbw6;obtain⟨-,-,⟨p0,p1,p2⟩⟩:=hS8.cells;have hl:=hS8.parts.2.2.1;rw[b4s] at hl;obtain⟨lb',lo',lc',hv2,-,-,hlc⟩:=hl.some_ (by decide);simp only[Value.slice.injEq,Option.some.injEq,Addr.mk.injEq,and_true] at hv2;obtain⟨⟨rfl,rfl⟩,-,rfl⟩:=hv2;obtain⟨l3,l4,l5⟩:w8.cell? ⟨lb,lo+3,none⟩=some (.int .i64 4)∧w8.cell? ⟨lb,lo+3+1,none⟩=some (.int .i64 0)∧w8.cell? ⟨lb,lo+3+2,none⟩=some (.int .i64 0):=⟨hlc 1 (by decide) 0 (show 0<3 by decide),hlc 1 (by decide) 1 (show 1<3 by decide),hlc 1 (by decide) 2 (show 2<3 by decide)⟩;have hdI:(16:Int)≤(dc:Int):=by omega
 clear hlc hl;go_upto_region 12 with fail;have hb89:Below w8.heap.size w8 (((w8.alloc (.cells #[.slice da 16 dc,.slice (some ⟨kb,ko,none⟩) 2 kc,.slice (some ⟨lb,lo,none⟩) 2 lc] 45)).alloc (.cells #[.slice da 17 dc,.slice (some ⟨kb,ko,none⟩) 2 kc,.slice (some ⟨w8.heap.size+1+1,0,none⟩) 2 2] 45)).alloc (.cells #[.int .i64 2,.int .i64 3,.int .i64 3,.int .i64 4,.int .i64 0,.int .i64 0] 68)):=(((zR _ _).alloc (yR _) _).alloc (by simp) _).alloc (by simp;omega) _;have kL:=((Blk.new w8 #[.slice da 16 dc,.slice (some ⟨kb,ko,none⟩) 2 kc,.slice (some ⟨lb,lo,none⟩) 2 lc] 45).alloc (.cells #[.slice da 17 dc,.slice (some ⟨kb,ko,none⟩) 2 kc,.slice (some ⟨w8.heap.size+1+1,0,none⟩) 2 2] 45)).alloc (.cells #[.int .i64 2,.int .i64 3,.int .i64 3,.int .i64 4,.int .i64 0,.int .i64 0] 68);have kO:=(Blk.new (w8.alloc (.cells #[.slice da 16 dc,.slice (some ⟨kb,ko,none⟩) 2 kc,.slice (some ⟨lb,lo,none⟩) 2 lc] 45)) #[.slice da 17 dc,.slice (some ⟨kb,ko,none⟩) 2 kc,.slice (some ⟨w8.heap.size+1+1,0,none⟩) 2 2] 45).alloc (.cells #[.int .i64 2,.int .i64 3,.int .i64 3,.int .i64 4,.int .i64 0,.int .i64 0] 68);have kA:=Blk.new ((w8.alloc (.cells #[.slice da 16 dc,.slice (some ⟨kb,ko,none⟩) 2 kc,.slice (some ⟨lb,lo,none⟩) 2 lc] 45)).alloc (.cells #[.slice da 17 dc,.slice (some ⟨kb,ko,none⟩) 2 kc,.slice (some ⟨w8.heap.size+1+1,0,none⟩) 2 2] 45)) #[.int .i64 2,.int .i64 3,.int .i64 3,.int .i64 4,.int .i64 0,.int .i64 0] 68;simp only[World.size_alloc] at kO kA;obtain⟨W9,hW9⟩:∃W,((w8.alloc (.cells #[.slice da 16 dc,.slice (some ⟨kb,ko,none⟩) 2 kc,.slice (some ⟨lb,lo,none⟩) 2 lc] 45)).alloc (.cells #[.slice da 17 dc,.slice (some ⟨kb,ko,none⟩) 2 kc,.slice (some ⟨w8.heap.size+1+1,0,none⟩) 2 2] 45)).alloc (.cells #[.int .i64 2,.int .i64 3,.int .i64 3,.int .i64 4,.int .i64 0,.int .i64 0] 68)=W:=⟨_,rfl⟩;rw[hW9] at hb89 kL kO kA ⊢;have hbw9:=hbw8.trans (hb89.mono hbw8.size);have hS9:=hS8.up hb89;obtain⟨BL,hBL⟩:∃b,w8.heap.size=b:=⟨_,rfl⟩;rw[hBL] at kL kO kA ⊢;clear hW9 hBL hb89 hS8 hbw8 p0 p1 p2 l3 l4 l5;have hpt:=hS9.parts;have hSS:San2 n1 B b3 BL da (some ⟨kb,ko,none⟩) (some ⟨lb,lo,none⟩) dc kc lc W9 :=
  ⟨hS9,kL,kO,⟨_,_,_,rfl,⟨c2z (k:=16) hpt.1.1 (by rw[a8t];decide) (by rw[List.length_take,a8t];rfl),c3a hpt.1.2 (by decide) (by rw[List.length_take,a8t];rfl)⟩,hpt.2.1,hpt.2.2⟩,
   ⟨_,_,_,rfl,hpt.1,hpt.2.1,a0b c4q (l:=[⟨2,3,3⟩,⟨4,0,0⟩]) (a5x c4q (l:=[⟨2,3,3⟩,⟨4,0,0⟩]) kA (yR _) (by decide)) (by decide),.inr ⟨_,_,_,rfl⟩⟩⟩
 clear hpt kL kO kA hS9;obtain⟨-,-,⟨p0,p1,p2⟩⟩:=hSS.b.cells;obtain⟨⟨q0,q1,q2⟩,-⟩:=hSS.cells;go_upto_region 13 with (first
  |(go_at_call 21;(with_reducible refine (d2q hSS).mono ?_);rintro e w10⟨rfl,hb10⟩;have hS10:=hSS.up hb10;have c10:=hS10.b.cells;have d10:=hS10.cells;obtain⟨-,-,⟨p0,p1,p2⟩⟩:=c10;obtain⟨⟨q0,q1,q2⟩,-⟩:=d10)
  |(go_at_call 21;(with_reducible refine (d2r hS10).mono ?_);rintro e w11⟨rfl,hb11⟩)
  |fail)
 have hS11:=hS10.up hb11;have hbw11:=(hbw9.trans (hb10.mono hbw9.size)).trans (hb11.mono (Nat.le_trans hbw9.size hb10.size));clear p0 p1 p2 q0 q1 q2 hSS hS10 hb10 hb11 hbw9;obtain⟨⟨m0,m1,m2,m3⟩,⟨t0,t1,t2,t3,t4,t5⟩,⟨p0,p1,p2⟩⟩:=hS11.b.cells;have hP11:∀W,Below w11.heap.size w11 W→Pow W:=fun W h=>hPow W (hbw11.trans (h.mono hbw11.size))
 go_wp2_with (first
  |(go_at_call 19;(with_reducible refine (d4c hS11 hP11).mono ?_);rintro e w12⟨rfl,hb12⟩;have hS12:=hS11.up hb12;have hP12:∀W,Below w12.heap.size w12 W→Pow W:=fun W h=>hP11 W (hb12.trans (h.mono hb12.size));have c12:=hS12.b.cells;have d12:=hS12.cells;obtain⟨⟨m0,m1,m2,m3⟩,⟨t0,t1,t2,t3,t4,t5⟩,-⟩:=c12;obtain⟨⟨q0,q1,q2⟩,-⟩:=d12)
  |(go_at_call 19;(with_reducible refine (d4d hS12 hP12).mono ?_);rintro e w13⟨rfl,hb13⟩;have hS13:=hS12.up hb13;have hP13:∀W,Below w13.heap.size w13 W→Pow W:=fun W h=>hP12 W (hb13.trans (h.mono hb13.size));have c13:=hS13.b.cells;have d13:=hS13.cells;obtain⟨⟨m0,m1,m2,m3⟩,⟨t0,t1,t2,t3,t4,t5⟩,-⟩:=c13;obtain⟨-,⟨q0,q1,q2⟩⟩:=d13)
  |(go_at_call 19;(with_reducible refine (d4e hS13 hP13).mono ?_);rintro e w14⟨rfl,hb14⟩)
  |fail)
 go_ret;exact⟨rfl,hbw11.trans ((hb12.trans ((hb13.trans (hb14.mono hb13.size)).mono hb12.size)).mono hbw11.size)⟩
end
section
open Go.RowKit Go.Shelf
theorem b7h (n:Int)(w:World)(h0 : -9223372036854775808≤n)(h1:n≤9223372036854775807) :
 Calls prog 219 #[.int .i64 n] w fun e w'=>e= .returned (.int .u64 n.natAbs)∧w=w':=by
 by_cases h:n<0
 ·go_enter func219,ntmps219
  go_wp2
  go_ret;exact⟨a3g (by rw[IntKind.wrap_u64,IntKind.wrap_u64];omega),rfl⟩
 ·go_enter func219,ntmps219
  go_wp2
  go_ret;exact⟨a3g (by omega),rfl⟩
theorem b4u (n:Int)(w:World) :
 Calls prog 217 #[.int .i64 n] w fun e w'=>e= .returned (.int .i64 n.sign)∧w=w':=by
 rcases Int.lt_trichotomy n 0 with h|h|h
 ·have h1:¬(0<n):=by omega
  go_enter func217,ntmps217;go_wp2
  go_ret;exact⟨a3g (Int.sign_eq_neg_one_of_neg h).symm,rfl⟩
 ·subst h
  go_enter func217,ntmps217;go_wp2
  go_ret;exact⟨rfl,rfl⟩
 ·have h1:¬(n<0):=by omega
  go_enter func217,ntmps217;go_wp2
  go_ret;exact⟨a3g (Int.sign_eq_one_of_pos h).symm,rfl⟩
theorem a9k (a b:Nat)(w:World)(ha:a<18446744073709551616)(hb:b<18446744073709551616) :
 Calls prog 218 #[.int .u64 a,.int .u64 b] w fun e w'=>e= .returned (.agg #[.int .u64 (hiN a b),.int .u64 (loN a b)])∧Below w.heap.size w w':=by
 have hh:=d1d a b ha hb _ (c8u a b ha hb);rw[Int.add_comm (bits .and .u64 _ _)] at hh;have H:=Lib.hid hh;clear hh;go_enter func218,ntmps218;go_wp2
 refine bodyPost_ret (v:= .agg #[.int .u64 (hiN a b),.int .u64 (loN a b)]) ?_ rfl ⟨rfl,?_⟩
 ·rw[show hiN a b=_ from H.out.symm,show loN a b=_ from (d1e a b).symm];simp[results,results218,go_sem]
 ·exact (zR _ _).alloc (yR _) _
theorem d2s {W w1:World}(hb:Below W.heap.size W w1):(∀b o,b<W.heap.size→w1.cell? ⟨b,o,none⟩=W.cell? ⟨b,o,none⟩)∧(∀b o,b<W.heap.size→w1.frozen? ⟨b,o,none⟩=W.frozen? ⟨b,o,none⟩) :=
 ⟨fun b o h=>hb.cell (p:=⟨b,o,none⟩) h,fun b o h=>hb.frozen (p:=⟨b,o,none⟩) h⟩
theorem d2t (n:Int) : -1≤n.sign∧n.sign≤1:=by rcases c2y n with h|h|h <;> rw[h] <;> decide
theorem b3j (a b:Int) : -1≤a.sign*b.sign∧a.sign*b.sign≤1:=by rw[←Int.sign_mul];exact d2t _
theorem c9d (a b c d:Nat):c6w (hiN a b) (loN a b) (hiN c d) (loN c d)=c1e ((a*b:Nat):Int) ((c*d:Nat):Int):=c2w _ _
theorem a8a (a:Int)(a0 : -9223372036854775808≤a)(a1:a≤9223372036854775807):a.natAbs<18446744073709551616:=by omega
theorem a2w {B:Nat}{a w:World}(h:Below B a w):∀n,Below B a (w.drewN n)
 |0=>h
 |n+1=>by
  have:=a2w h n;exact⟨this.os,this.tape,this.output,this.size,this.block⟩
theorem a6o {w w1 w2:World}{o1 o2:Obj}(hb1:Below w.heap.size w w1)(hb2:Below (w1.alloc o1).heap.size (w1.alloc o1) w2)(n:Nat):Below w.heap.size w ((w2.alloc o2).drewN n):=by
 have h1:=hb1.size;have h2:=hb2.size;simp at h2;exact a2w (((hb1.alloc h1 o1).trans (hb2.mono (by simp;omega))).alloc (by omega) o2) n
theorem d1l (a b c d:Int)(h:c<a):c6w a b c d=1:=by unfold c6w;rw[a8s h,if_neg (by decide)]
theorem d1m (a b c d:Int)(h:a<c):c6w a b c d = -1:=by unfold c6w;rw[a8r h,if_neg (by decide)]
theorem b1w (a b d:Int):c6w a b a d=c1e b d:=by unfold c6w;rw[b1t,if_pos rfl]
theorem b3k (a b c d:Int)(w:World)(a0 : -9223372036854775808≤a)(a1:a≤9223372036854775807)(b0 : -9223372036854775808≤b)(b1:b≤9223372036854775807)
 (c0 : -9223372036854775808≤c) (c1:c≤9223372036854775807) (d0 : -9223372036854775808≤d) (d1:d≤9223372036854775807) :
 Calls prog 215 #[.int .i64 a,.int .i64 b,.int .i64 c,.int .i64 d] w fun e w'=>e= .returned (.int .i64 (c2x a b c d))∧Below w.heap.size w w':=by
 obtain⟨p0,p1⟩:=b3j a b;obtain⟨q0,q1⟩:=b3j c d;by_cases h:a.sign*b.sign=c.sign*d.sign
 ·have hb:(a.sign*b.sign != c.sign*d.sign)=false:=by simp[h]
  have HE:Hid (a.sign*b.sign*c6w (hiN a.natAbs b.natAbs) (loN a.natAbs b.natAbs) (hiN c.natAbs d.natAbs) (loN c.natAbs d.natAbs)=c2x a b c d):=by rw[c9d];exact c8t h
  clear h;go_enter func215,ntmps215;go_wp2_with (first|(go_at_call 217;refine (b4u _ _).mono ?_;rintro e w'⟨rfl,rfl⟩)|(go_at_call 219;refine (b7h _ _ (by assumption) (by assumption)).mono ?_;rintro e w'⟨rfl,rfl⟩));refine (a9k _ _ _ (a8a a a0 a1) (a8a b b0 b1)).mono ?_;rintro e w1⟨rfl,hb1⟩;go_wp2_with (first|(go_at_call 217;refine (b4u _ _).mono ?_;rintro e w'⟨rfl,rfl⟩)|(go_at_call 219;refine (b7h _ _ (by assumption) (by assumption)).mono ?_;rintro e w'⟨rfl,rfl⟩));refine (a9k _ _ _ (a8a c c0 c1) (a8a d d0 d1)).mono ?_;rintro e w2⟨rfl,hb2⟩;generalize hiN a.natAbs b.natAbs=x0 at *;generalize loN a.natAbs b.natAbs=x1 at *;generalize hiN c.natAbs d.natAbs=y0 at *;generalize loN c.natAbs d.natAbs=y1 at *;have hc0:w2.cell? ⟨w1.heap.size,0,none⟩=some (.int .u64 x0):=by rw[(d2s hb2).1 _ _ (by simp)];simp
  have hc1:w2.cell? ⟨w1.heap.size,1,none⟩=some (.int .u64 x1):=by rw[(d2s hb2).1 _ _ (by simp)];simp
  have hz:w1.heap.size<w2.heap.size:=by have:=hb2.size;simp at this;omega
  go_wp2_with fail;refine wp_loop_rounds 3 ?_;rw[rounds_succ];rcases Int.lt_trichotomy x0 y0 with hx|hx|hx
  ·have hn:¬y0<x0:=by omega
   have HF:=Lib.hid (d1m x0 x1 y0 y1 hx);go_wp2_with fail;go_quiet (fail)
   go_wp2_with fail;go_quiet (fail)
   go_wp2_with fail;go_ret;exact⟨a3g (by have h1:=HE.out;rw[HF.out] at h1;omega),by first|exact a6o hb1 hb2 _|exact a2w (a6o hb1 hb2 _) _⟩
  ·subst hx
   rcases Int.lt_trichotomy x1 y1 with hx|hx|hx
   ·have hn:¬y1<x1:=by omega
    have HF:=Lib.hid ((b1w x0 x1 y1).trans (a8r hx));go_wp2_with fail;go_quiet (fail)
    go_wp2_with fail;go_quiet (fail)
    go_wp2_with fail;rw[rounds_succ];go_wp2_with fail;go_quiet (fail)
    go_wp2_with fail;go_quiet (fail)
    go_wp2_with fail;go_ret;exact⟨a3g (by have h1:=HE.out;rw[HF.out] at h1;omega),by first|exact a6o hb1 hb2 _|exact a2w (a6o hb1 hb2 _) _⟩
   ·subst hx
    have HF:=Lib.hid ((b1w x0 x1 x1).trans (b1t x1));go_wp2_with fail;go_quiet (fail)
    go_wp2_with fail;go_quiet (fail)
    go_wp2_with fail;rw[rounds_succ];go_wp2_with fail;go_quiet (fail)
    go_wp2_with fail;go_quiet (fail)
    go_wp2_with fail;rw[rounds_succ];go_wp2_with fail;go_ret;exact⟨a3g (by have h1:=HE.out;rw[HF.out] at h1;omega),by first|exact a6o hb1 hb2 _|exact a2w (a6o hb1 hb2 _) _⟩
   ·have hn:¬x1<y1:=by omega
    have HF:=Lib.hid ((b1w x0 x1 y1).trans (a8s hx));go_wp2_with fail;go_quiet (fail)
    go_wp2_with fail;go_quiet (fail)
    go_wp2_with fail;rw[rounds_succ];go_wp2_with fail;go_quiet (fail)
    go_wp2_with fail;go_ret;exact⟨a3g (by have h1:=HE.out;rw[HF.out] at h1;omega),by first|exact a6o hb1 hb2 _|exact a2w (a6o hb1 hb2 _) _⟩
  ·have hn:¬x0<y0:=by omega
   have HF:=Lib.hid (d1l x0 x1 y0 y1 hx);go_wp2_with fail;go_quiet (fail)
   go_wp2_with fail;go_ret;exact⟨a3g (by have h1:=HE.out;rw[HF.out] at h1;omega),by first|exact a6o hb1 hb2 _|exact a2w (a6o hb1 hb2 _) _⟩
 ·have HE:=Lib.hid (c8s h)
  have hb:(a.sign*b.sign != c.sign*d.sign)=true:=by simp[h]
  clear h;go_enter func215,ntmps215;go_wp2_with (go_at_call 217;refine (b4u _ _).mono ?_;rintro e w'⟨rfl,rfl⟩);go_ret;exact⟨a3g HE.out,zR _ _⟩
end
end Go.Proofs.YtfocdbjceedagaaGreatDoor
