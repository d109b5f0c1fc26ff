/-
  Parts.
-/
import Derived.Test.YtfocdbjceedagaaGreatDoorXbc
set_option linter.unusedVariables false
set_option linter.unusedSimpArgs false
set_option maxHeartbeats 4000000
set_option maxRecDepth 100000
namespace Go.Proofs.YtfocdbjceedagaaGreatDoor
open Tryz
section
open Go.RowKit Go.Shelf
attribute [local go_sem] Oper.semAt_some
attribute [local go_sem ↓] Go.wp_at_zero Go.wp_at_succ
theorem SL.int {S:BS}{W:World}{b off n cap:Nat}(hT:TW S W)(h:SL S W 3 (.slice (some ⟨b,off,none⟩) n cap) n){k:Nat}(hk:k<n):∃x,W.cell? ⟨b,off+k,none⟩=some (.int .i64 x)∧a0k x:=by
 obtain⟨u0,c0,h0⟩:=h.cell hT a2t hk 0 .int rfl;obtain⟨x,rfl,fx⟩:=h0.i rfl;rw[Nat.mul_one,Nat.add_zero] at c0;exact⟨x,c0,fx⟩
theorem a3s {S:BS}{w:World}(hT:TW S w){ops:Array Oper}{o:Oper}{a:Act}{K:Act→World→Prop}{Q:Exit→Act→World→Prop}{E:Prop}(hgd:o.guard=none)(sO xO:Operand)(t:TypeId)(ho:o.op= .call { callee:= .builtin .append,args:= #[sO,xO],argTypes:= #[t,t] })
 {e:TypeId} {s:Nat} (ht:prog.underlying t=some (.slice e)) (he:ET e s) {sv xv:Value} {n m:Nat} (hsv:a.eval sO=sv) (hv:SL S w e sv n) (hxv:a.eval xO=xv) (hx:SL S w e xv m) (hl:n+m≤1000000)
 (h:∀v' S' w',SL S' w' e v' (n+m)→Ev noB S w S' w'→K (a.put o.dst v') w'):if Region.wanted o (yielded ops a.tmps)=true then Oper.wp prog o a w K Q else E:=by
 rw[if_pos (by simp[Region.wanted,hgd])];exact a9i (X:=noB) hT sO xO t ho ht he hsv hv hxv hx hl h
theorem b4t {S:BS}{w:World}{t e:TypeId}{s:Nat}(ht:prog.underlying t=some (.slice e))(he:ET e s){v:Value}{n k:Nat}(hv:SL S w e v n)(hk:k≤n) :
 ∃v',(Instr.sliceAt t v (some (.int .i64 (k:Nat))) none none).run prog w= .ok v' w∧SL S w e v' (n-k):=by
 obtain⟨i,z,hi,hz,hsz,-⟩:=he.info;have hv2:=hv;obtain⟨a,cap,rfl,hn,h⟩:=hv;have hkI:(0:Int)≤(k:Int)∧(k:Int)≤(n:Int):=by omega
 have hk2:¬n<k:=by omega
 have hr:(Instr.sliceAt t (.slice a n cap) (some (.int .i64 (k:Nat))) none none).run prog w= .ok (.slice (if cap=k then a else a.map (·.add (k*s))) (n-k) (cap-k)) w:=by
  simp[Instr.sliceAt,Instr.slice,Instr.sliceBounds,Instr.sliceBound,asIntOf,run_underlying ht,hkI,hk2,hk,sizeOf,typeInfo,hi,hsz,go_sem]
 refine⟨_,hr,?_⟩;rcases h with ⟨rfl,rfl⟩|⟨b,o,c,rfl,hb,hc,hl⟩
 ·have:k=0:=by omega
  subst this;have:n=0:=by omega
  subst this;exact hv2
 ·by_cases hck:cap=k
  ·rw[if_pos hck]
   exact hv2.drop he.size hk (.inr ⟨hck.symm,rfl⟩)
  ·rw[if_neg hck]
   have hx:(some (⟨b,o*a6y e,none⟩:Addr)).map (·.add (k*s))=some ⟨b,o*a6y e+k*s,none⟩:=by simp[Addr.add]
   rw[hx];exact hv2.drop he.size hk (.inl rfl)
theorem b2i {S:BS}{w:World}{t e:TypeId}{s:Nat}(ht:prog.underlying t=some (.slice e))(he:ET e s){v:Value}{n k:Nat}(hv:SL S w e v n)(hk:k≤n) :
 ∃v',(Instr.sliceAt t v none (some (.int .i64 (k:Nat))) none).run prog w= .ok v' w∧SL S w e v' k:=by
 obtain⟨i,z,hi,hz,hsz,-⟩:=he.info;have hv2:=hv;obtain⟨a,cap,rfl,hn,h⟩:=hv;have hkI:(0:Int)≤(k:Int)∧(k:Int)≤(cap:Int):=by omega
 have hk2:¬cap<k:=by omega
 have hr:(Instr.sliceAt t (.slice a n cap) none (some (.int .i64 (k:Nat))) none).run prog w= .ok (.slice (if cap=0 then a else a.map (·.add (0*s))) (k-0) (cap-0)) w:=by
  simp[Instr.sliceAt,Instr.slice,Instr.sliceBounds,Instr.sliceBound,asIntOf,run_underlying ht,hkI,hk2,hk,sizeOf,typeInfo,hi,hsz,go_sem]
 refine⟨_,hr,?_⟩;have hx:(if cap=0 then a else a.map (·.add (0*s)))=a:=by
  split
  ·rfl
  ·cases a with
   |none=>rfl
   |some ad=>simp[Addr.add]
 rw[hx,Nat.sub_zero,Nat.sub_zero];exact hv2.take hk
theorem a4i {S:BS}{w:World}{o:Oper}{a:Act}{K:Act→World→Prop}{Q:Exit→Act→World→Prop}(t:TypeId)(xO lO:Operand)(ho:o.op= .slice t xO (some lO) none none){e:TypeId}{s:Nat}(ht:prog.underlying t=some (.slice e))(he:ET e s){v:Value}{n k:Nat}
 (hx:a.eval xO=v) (hlo:a.eval lO= .int .i64 (k:Nat)) (hv:SL S w e v n) (hk:k≤n) (h:∀v',SL S w e v' (n-k)→K (a.put o.dst v') w):Oper.wp prog o a w K Q:=by
 obtain⟨v',hr,h2⟩:=b4t ht he hv hk;unfold Oper.wp execOp;simp only[ho,Option.map_some,Option.map_none,hx,hlo,Sem.run_bind,hr];simp only[Result.andThen_ok,Sem.run_pure];exact h v' h2
theorem b4u {S:BS}{w:World}{o:Oper}{a:Act}{K:Act→World→Prop}{Q:Exit→Act→World→Prop}(t:TypeId)(xO hO:Operand)(ho:o.op= .slice t xO none (some hO) none){e:TypeId}{s:Nat}(ht:prog.underlying t=some (.slice e))(he:ET e s){v:Value}{n k:Nat}
 (hx:a.eval xO=v) (hhi:a.eval hO= .int .i64 (k:Nat)) (hv:SL S w e v n) (hk:k≤n) (h:∀v',SL S w e v' k→K (a.put o.dst v') w):Oper.wp prog o a w K Q:=by
 obtain⟨v',hr,h2⟩:=b2i ht he hv hk;unfold Oper.wp execOp;simp only[ho,Option.map_some,Option.map_none,hx,hhi,Sem.run_bind,hr];simp only[Result.andThen_ok,Sem.run_pure];exact h v' h2
theorem a2p {S:BS}{w:World}{ops:Array Oper}{rest:List Oper}{o:Oper}{a:Act}{Q:Exit→Act→World→Prop}(hgd:o.guard=none)(t:TypeId)(xO hO:Operand)(ho:o.op= .slice t xO none (some hO) none){e:TypeId}{s:Nat}(ht:prog.underlying t=some (.slice e))(he:ET e s){v:Value}{n k:Nat}
 (hx:a.eval xO=v) (hhi:a.eval hO= .int .i64 (k:Nat)) (hv:SL S w e v n) (hk:k≤n) (h:∀v',SL S w e v' k→wpList prog ops Q rest (a.put o.dst v') w):wpList prog ops Q (o::rest) a w :=
 wpList_plain hgd fun _ hK=>b4u t xO hO ho ht he hx hhi hv hk fun v' h2=>hK _ _ (h v' h2)
def FPu (lv ov:Value)(n q:Nat)(x:Int)(i:Nat)(v:Value)(S:BS)(w:World):Prop :=
 match i with
 |0=>v=ov
 |1=>v= .int .i64 x
 |2=>SL S w 3 v 1
 |3=>SL S w 3 v (q+1)
 |4=>v=lv
 |5=>v= .int .i64 (q:Nat)
 |6=>SL S w 3 v (n-q)
 |_=>False
theorem FPu.kept {lv ov:Value}{n q:Nat}{x:Int}{i:Nat}{v:Value}{S S':BS}{w w':World}(h:FPu lv ov n q x i v S w)(hg:Ev noB S w S' w'):FPu lv ov n q x i v S' w':=by
 unfold FPu at *;split at h
 all_goals first|exact h|exact hg.sl h
theorem b4v (S:BS)(w:World)(hT:TW S w)(lv:Value)(n:Nat)(hsl:SL S w 3 lv n)(hn:n≤1000)(x:Int)(fx:a0k x) :
 Calls prog 164 #[lv,.int .i64 x] w fun e w'=>∃S' v,e= .returned v∧(∃n',SL S' w' 3 v n'∧n'≤n+1)∧Ev noB S w S' w':=by
 obtain⟨a,cap,hlv,hnc⟩:=hsl.form;by_cases hn0:n=0
 ·subst hn0
  subst hlv;go_enter func164,ntmps164;go_wp2_with fail;refine wp_loop_rounds 1 ?_;rw[rounds_succ];obtain⟨wr,hwr⟩:∃W,W=w:=⟨_,rfl⟩;have evr:Ev noB S w S wr:=by rw[hwr];exact Ev.refl hT
  rw[←hwr];clear hwr;go_upto_region 6 with fail;have hA1:=Ev.alloc (X:=noB) evr.ok (b3c (S:=S) (W:=wr) (e:=3));have slE:SL (fun b=>S b∨b=wr.heap.size) (wr.alloc (.cells #[] 3)) 3 (.slice (some ⟨wr.heap.size,0,none⟩) 0 0) 0:=SL.blk (.inr rfl) (Blk.new _ _ _) (by simp);have hslA:=(evr.trans hA1).sl hsl;go_upto_region 7 with (first
   |(refine a2p (by rfl) 51 _ _ (by rfl) underlying51 a2t (by rfl) (by rfl) hslA (yR 0) ?_;intro v38 h38)
   |(at_builtin;refine a1b (X:=noB) hA1.ok (by rfl) _ _ 51 (by rfl) underlying51 a2t (by rfl) slE (by rfl) h38 (by omega) ?_;intro v6 S6 W6 hsl6 he6)
   |fail)
  have ev6:=(evr.trans hA1).trans he6;have hslL:=ev6.sl hsl;rw[Nat.zero_add] at hsl6;refine Go.wp_region_reln 7 (by kernel_rfl) (by kernel_rfl) (fun _ g W=>Ev noB S6 W6 g W) (fun g W g' W'=>Ev noB g W g' W') (FPu (Value.slice a 0 cap) v6 0 0 x) (fun _ _ _ _ _ _ h g=>h.kept g) S6 (Ev.drew ev6.ok) ?_ ?_
  ·clear hslA slE hA1 he6 evr
   intro i o hi ho c bb g W hc hM hA hD K hK;match i,hi,ho with
   |0,_,ho =>
    cases ho;have f6:bb.tmps[6]?.getD undef=v6:=a0a (v:=v6) (hA.at_ (k:=6) (by kernel_rfl));go_simp;exact hK v6 g W rfl (Ev.refl hM.ok) hM
   |1,_,ho =>
    cases ho;have f1:bb.tmps[1]?.getD undef= .int .i64 x:=a0a (v:= .int .i64 x) (hA.at_ (k:=1) (by kernel_rfl));go_simp;exact hK (.int .i64 x) g W rfl (Ev.refl hM.ok) hM
   |2,_,ho =>
    cases ho;have f41:bb.tmps[41]?.getD undef= .int .i64 x:=a0a (v:= .int .i64 x) (a0f hD 1 41 (by kernel_rfl) rfl rfl);have hE:=Ev.alloc (X:=noB) hM.ok (c0o (S:=g) (W:=W) fx);go_simp;exact hK (.slice (some ⟨W.heap.size,0,none⟩) 1 1) _ _ (SL.blk (.inr rfl) (Blk.new _ _ _) (by show 1*1≤1;omega)) hE (hM.trans hE)
   |3,_,ho =>
    cases ho;have f40:bb.eval (.tmp 40)=v6:=a0f hD 0 40 (by kernel_rfl) rfl rfl;have f42:SL g W 3 (bb.eval (.tmp 42)) 1:=a0f hD 2 42 (by kernel_rfl) rfl rfl;exact a3s hM.ok rfl _ _ 51 rfl underlying51 a2t f40 (hM.sl hsl6) rfl f42 (by omega) (fun v' S' w' h1 h2=>hK v' S' w' h1 h2 (hM.trans h2))
   |4,_,ho =>
    cases ho;have f0:bb.tmps[0]?.getD undef=(Value.slice a 0 cap):=a0a (v:=(Value.slice a 0 cap)) (hA.at_ (k:=0) (by kernel_rfl));go_simp;exact hK (Value.slice a 0 cap) g W rfl (Ev.refl hM.ok) hM
   |5,_,ho =>
    cases ho;have f5:bb.tmps[5]?.getD undef= .int .i64 ((0:Nat):Int):=a0a (v:= .int .i64 ((0:Nat):Int)) (hA.at_ (k:=5) (by kernel_rfl));go_simp;exact hK (.int .i64 ((0:Nat):Int)) g W rfl (Ev.refl hM.ok) hM
   |6,_,ho =>
    cases ho;have f44:bb.eval (.tmp 44)=(Value.slice a 0 cap):=a0f hD 4 44 (by kernel_rfl) rfl rfl;have f45:bb.eval (.tmp 45)= .int .i64 ((0:Nat):Int):=a0f hD 5 45 (by kernel_rfl) rfl rfl;rw[if_pos (by simp[Region.wanted])];exact a4i 51 _ _ rfl underlying51 a2t f44 f45 (hM.sl hslL) (yR 0) (fun v' h1=>hK v' g W h1 (Ev.refl hM.ok) hM)
   |i+7,hi,_=>exact absurd hi (by omega)
  ·intro bb g W hM hA hall
   have h3:SL g W 3 (bb.eval (.tmp 43)) (0+1):=hall 3 (by omega) _ _ rfl rfl;have h6:SL g W 3 (bb.eval (.tmp 46)) (0-0):=hall 6 (by omega) _ _ rfl rfl;obtain⟨va,hva⟩:∃v,bb.eval (.tmp 43)=v:=⟨_,rfl⟩;obtain⟨vb,hvb⟩:∃v,bb.eval (.tmp 46)=v:=⟨_,rfl⟩;rw[hva] at h3;rw[hvb] at h6;have hfr:=hA.frame [T,T,T,T,T,T,T,T,T,T,T,T,T,T,T,T,T,T,T,T,T,T,T,T,T,T,T,T,T,T,T,T,T,T,T,T,T,T,T,T,F,F,F,F,F,F,F,T] _ rfl (by kernel_rfl);clear hall hA;obtain⟨f,hf⟩:∃f:Nat→Value,(fun k=>bb.tmps.getD k undef)=f:=⟨_,rfl⟩;have g43:f 43=va:=by rw[←hf,←hva];rfl
   have g46:f 46=vb:=by rw[←hf,←hvb];rfl
   rw[hf] at hfr;clear hf hva hvb;subst hfr;simp only[a2k,g43,g46,Nat.reduceAdd];clear g43 g46;simp only[List.drop_succ_cons,List.drop_zero];go_wp2_with (first
    |(at_builtin;refine a1b (X:=noB) hM.ok (by rfl) _ _ 51 (by rfl) underlying51 a2t (by rfl) h3 (by rfl) h6 (by omega) ?_;intro v9 S9 w9 hsl9 he9)
    |fail)
   go_ret;exact⟨S9,_,rfl,⟨0+1+(0-0),hsl9,by omega⟩,(ev6.trans hM).trans he9⟩
 ·obtain⟨b,off,cap',hab,-,-⟩:=hsl.some_ (by omega)
  rw[hlv] at hab;simp only[Value.slice.injEq,true_and] at hab;obtain⟨rfl,rfl⟩:=hab;subst hlv;go_enter func164,ntmps164;go_wp2_with fail;go_loopw [5] (fun kk wr=>∃t:Nat,t≤n∧kk= .int .i64 (t:Nat)∧Below w.heap.size w wr) (fun kk _=>(intOf kk).toNat)
  case atStart=>exact⟨n,yR _,rfl,zR _ _⟩
  case round =>
   obtain⟨t,ht,rfl,hB⟩:=hrel;have evr:=Ev.of_below (X:=noB) hT hB;have hslr:=evr.sl hsl;have hstop:t=0∨(0<t∧∃y,wr.cell? ⟨b,off+(t-1),none⟩=some (.int .i64 y)):=by
    by_cases h:t=0
    ·exact .inl h
    ·obtain⟨y,c0,fy⟩:=SL.int evr.ok hslr (k:=t-1) (by omega)
     exact .inr ⟨by omega,y,c0⟩
   have hin:t<n→∃z,wr.cell? ⟨b,off+t,none⟩=some (.int .i64 z):=fun h=>by
    obtain⟨y,c0,fy⟩:=SL.int evr.ok hslr h;exact⟨y,c0⟩
   rcases hstop with h0|⟨h0,y,cy⟩
   ·have hpos:¬(0:Int)<(t:Int):=by omega
    clear h0;by_cases htn:t<n
    ·obtain⟨z,cz⟩:=hin htn
     have htnI:(t:Int)<(n:Int):=by omega
     by_cases hzx:z=x
     ·subst hzx
      go_wp2_with fail;go_ret;exact⟨S,_,rfl,⟨n,hslr,by omega⟩,evr⟩
     ·have hzb:(z==x)=false:=by simpa using hzx
      go_upto_region 6 with fail;clear hin cz;have hA1:=Ev.alloc (X:=noB) evr.ok (b3c (S:=S) (W:=wr) (e:=3));have slE:SL (fun b=>S b∨b=wr.heap.size) (wr.alloc (.cells #[] 3)) 3 (.slice (some ⟨wr.heap.size,0,none⟩) 0 0) 0:=SL.blk (.inr rfl) (Blk.new _ _ _) (by simp);have hslA:=(evr.trans hA1).sl hsl;go_upto_region 7 with (first
       |(refine a2p (by rfl) 51 _ _ (by rfl) underlying51 a2t (by rfl) (by rfl) hslA ht ?_;intro v38 h38)
       |(at_builtin;refine a1b (X:=noB) hA1.ok (by rfl) _ _ 51 (by rfl) underlying51 a2t (by rfl) slE (by rfl) h38 (by omega) ?_;intro v6 S6 W6 hsl6 he6)
       |fail)
      have ev6:=(evr.trans hA1).trans he6;have hslL:=ev6.sl hsl;rw[Nat.zero_add] at hsl6;refine Go.wp_region_reln 7 (by kernel_rfl) (by kernel_rfl) (fun _ g W=>Ev noB S6 W6 g W) (fun g W g' W'=>Ev noB g W g' W') (FPu (Value.slice (some ⟨b,off,none⟩) n cap) v6 n t x) (fun _ _ _ _ _ _ h g=>h.kept g) S6 (Ev.drew ev6.ok) ?_ ?_
      ·clear hslA slE hA1 he6 evr
       intro i o hi ho c bb g W hc hM hA hD K hK;match i,hi,ho with
       |0,_,ho =>
        cases ho;have f6:bb.tmps[6]?.getD undef=v6:=a0a (v:=v6) (hA.at_ (k:=6) (by kernel_rfl));go_simp;exact hK v6 g W rfl (Ev.refl hM.ok) hM
       |1,_,ho =>
        cases ho;have f1:bb.tmps[1]?.getD undef= .int .i64 x:=a0a (v:= .int .i64 x) (hA.at_ (k:=1) (by kernel_rfl));go_simp;exact hK (.int .i64 x) g W rfl (Ev.refl hM.ok) hM
       |2,_,ho =>
        cases ho;have f41:bb.tmps[41]?.getD undef= .int .i64 x:=a0a (v:= .int .i64 x) (a0f hD 1 41 (by kernel_rfl) rfl rfl);have hE:=Ev.alloc (X:=noB) hM.ok (c0o (S:=g) (W:=W) fx);go_simp;exact hK (.slice (some ⟨W.heap.size,0,none⟩) 1 1) _ _ (SL.blk (.inr rfl) (Blk.new _ _ _) (by show 1*1≤1;omega)) hE (hM.trans hE)
       |3,_,ho =>
        cases ho;have f40:bb.eval (.tmp 40)=v6:=a0f hD 0 40 (by kernel_rfl) rfl rfl;have f42:SL g W 3 (bb.eval (.tmp 42)) 1:=a0f hD 2 42 (by kernel_rfl) rfl rfl;exact a3s hM.ok rfl _ _ 51 rfl underlying51 a2t f40 (hM.sl hsl6) rfl f42 (by omega) (fun v' S' w' h1 h2=>hK v' S' w' h1 h2 (hM.trans h2))
       |4,_,ho =>
        cases ho;have f0:bb.tmps[0]?.getD undef=(Value.slice (some ⟨b,off,none⟩) n cap):=a0a (v:=(Value.slice (some ⟨b,off,none⟩) n cap)) (hA.at_ (k:=0) (by kernel_rfl));go_simp;exact hK (Value.slice (some ⟨b,off,none⟩) n cap) g W rfl (Ev.refl hM.ok) hM
       |5,_,ho =>
        cases ho;have f5:bb.tmps[5]?.getD undef= .int .i64 (t:Nat):=a0a (v:= .int .i64 (t:Nat)) (hA.at_ (k:=5) (by kernel_rfl));go_simp;exact hK (.int .i64 (t:Nat)) g W rfl (Ev.refl hM.ok) hM
       |6,_,ho =>
        cases ho;have f44:bb.eval (.tmp 44)=(Value.slice (some ⟨b,off,none⟩) n cap):=a0f hD 4 44 (by kernel_rfl) rfl rfl;have f45:bb.eval (.tmp 45)= .int .i64 (t:Nat):=a0f hD 5 45 (by kernel_rfl) rfl rfl;rw[if_pos (by simp[Region.wanted])];exact a4i 51 _ _ rfl underlying51 a2t f44 f45 (hM.sl hslL) ht (fun v' h1=>hK v' g W h1 (Ev.refl hM.ok) hM)
       |i+7,hi,_=>exact absurd hi (by omega)
      ·intro bb g W hM hA hall
       have h3:SL g W 3 (bb.eval (.tmp 43)) (t+1):=hall 3 (by omega) _ _ rfl rfl;have h6:SL g W 3 (bb.eval (.tmp 46)) (n-t):=hall 6 (by omega) _ _ rfl rfl;obtain⟨va,hva⟩:∃v,bb.eval (.tmp 43)=v:=⟨_,rfl⟩;obtain⟨vb,hvb⟩:∃v,bb.eval (.tmp 46)=v:=⟨_,rfl⟩;rw[hva] at h3;rw[hvb] at h6;have hfr:=hA.frame [T,T,T,T,T,T,T,T,T,T,T,T,T,T,T,T,T,T,T,T,T,T,T,T,T,T,T,T,T,T,T,T,T,T,T,T,T,T,T,T,F,F,F,F,F,F,F,T] _ rfl (by kernel_rfl);clear hall hA;obtain⟨f,hf⟩:∃f:Nat→Value,(fun k=>bb.tmps.getD k undef)=f:=⟨_,rfl⟩;have g43:f 43=va:=by rw[←hf,←hva];rfl
       have g46:f 46=vb:=by rw[←hf,←hvb];rfl
       rw[hf] at hfr;clear hf hva hvb;subst hfr;simp only[a2k,g43,g46,Nat.reduceAdd];clear g43 g46;simp only[List.drop_succ_cons,List.drop_zero];go_wp2_with (first
        |(at_builtin;refine a1b (X:=noB) hM.ok (by rfl) _ _ 51 (by rfl) underlying51 a2t (by rfl) h3 (by rfl) h6 (by omega) ?_;intro v9 S9 w9 hsl9 he9)
        |fail)
       go_ret;exact⟨S9,_,rfl,⟨t+1+(n-t),hsl9,by omega⟩,(ev6.trans hM).trans he9⟩
    ·exfalso
     omega
   ·have hpos:(0:Int)<(t:Int):=by omega
    have htI:(t:Int)-1<(n:Int):=by omega
    have htJ:0≤(t:Int)-1:=by omega
    by_cases hyx:x≤y
    ·go_wp2_with fail
     go_roundw
     case rel=>exact⟨t-1,by omega,by first|rfl|(congr 1;omega),hB⟩
     case measure=>simp[intOf];try omega
    ·by_cases htn:t<n
     ·obtain⟨z,cz⟩:=hin htn
      have htnI:(t:Int)<(n:Int):=by omega
      by_cases hzx:z=x
      ·subst hzx
       go_wp2_with fail;go_ret;exact⟨S,_,rfl,⟨n,hslr,by omega⟩,evr⟩
      ·have hzb:(z==x)=false:=by simpa using hzx
       go_upto_region 6 with fail;clear hin cz cy;have hA1:=Ev.alloc (X:=noB) evr.ok (b3c (S:=S) (W:=wr) (e:=3));have slE:SL (fun b=>S b∨b=wr.heap.size) (wr.alloc (.cells #[] 3)) 3 (.slice (some ⟨wr.heap.size,0,none⟩) 0 0) 0:=SL.blk (.inr rfl) (Blk.new _ _ _) (by simp);have hslA:=(evr.trans hA1).sl hsl;go_upto_region 7 with (first
        |(refine a2p (by rfl) 51 _ _ (by rfl) underlying51 a2t (by rfl) (by rfl) hslA ht ?_;intro v38 h38)
        |(at_builtin;refine a1b (X:=noB) hA1.ok (by rfl) _ _ 51 (by rfl) underlying51 a2t (by rfl) slE (by rfl) h38 (by omega) ?_;intro v6 S6 W6 hsl6 he6)
        |fail)
       have ev6:=(evr.trans hA1).trans he6;have hslL:=ev6.sl hsl;rw[Nat.zero_add] at hsl6;refine Go.wp_region_reln 7 (by kernel_rfl) (by kernel_rfl) (fun _ g W=>Ev noB S6 W6 g W) (fun g W g' W'=>Ev noB g W g' W') (FPu (Value.slice (some ⟨b,off,none⟩) n cap) v6 n t x) (fun _ _ _ _ _ _ h g=>h.kept g) S6 (Ev.drew ev6.ok) ?_ ?_
       ·clear hslA slE hA1 he6 evr
        intro i o hi ho c bb g W hc hM hA hD K hK;match i,hi,ho with
        |0,_,ho =>
         cases ho;have f6:bb.tmps[6]?.getD undef=v6:=a0a (v:=v6) (hA.at_ (k:=6) (by kernel_rfl));go_simp;exact hK v6 g W rfl (Ev.refl hM.ok) hM
        |1,_,ho =>
         cases ho;have f1:bb.tmps[1]?.getD undef= .int .i64 x:=a0a (v:= .int .i64 x) (hA.at_ (k:=1) (by kernel_rfl));go_simp;exact hK (.int .i64 x) g W rfl (Ev.refl hM.ok) hM
        |2,_,ho =>
         cases ho;have f41:bb.tmps[41]?.getD undef= .int .i64 x:=a0a (v:= .int .i64 x) (a0f hD 1 41 (by kernel_rfl) rfl rfl);have hE:=Ev.alloc (X:=noB) hM.ok (c0o (S:=g) (W:=W) fx);go_simp;exact hK (.slice (some ⟨W.heap.size,0,none⟩) 1 1) _ _ (SL.blk (.inr rfl) (Blk.new _ _ _) (by show 1*1≤1;omega)) hE (hM.trans hE)
        |3,_,ho =>
         cases ho;have f40:bb.eval (.tmp 40)=v6:=a0f hD 0 40 (by kernel_rfl) rfl rfl;have f42:SL g W 3 (bb.eval (.tmp 42)) 1:=a0f hD 2 42 (by kernel_rfl) rfl rfl;exact a3s hM.ok rfl _ _ 51 rfl underlying51 a2t f40 (hM.sl hsl6) rfl f42 (by omega) (fun v' S' w' h1 h2=>hK v' S' w' h1 h2 (hM.trans h2))
        |4,_,ho =>
         cases ho;have f0:bb.tmps[0]?.getD undef=(Value.slice (some ⟨b,off,none⟩) n cap):=a0a (v:=(Value.slice (some ⟨b,off,none⟩) n cap)) (hA.at_ (k:=0) (by kernel_rfl));go_simp;exact hK (Value.slice (some ⟨b,off,none⟩) n cap) g W rfl (Ev.refl hM.ok) hM
        |5,_,ho =>
         cases ho;have f5:bb.tmps[5]?.getD undef= .int .i64 (t:Nat):=a0a (v:= .int .i64 (t:Nat)) (hA.at_ (k:=5) (by kernel_rfl));go_simp;exact hK (.int .i64 (t:Nat)) g W rfl (Ev.refl hM.ok) hM
        |6,_,ho =>
         cases ho;have f44:bb.eval (.tmp 44)=(Value.slice (some ⟨b,off,none⟩) n cap):=a0f hD 4 44 (by kernel_rfl) rfl rfl;have f45:bb.eval (.tmp 45)= .int .i64 (t:Nat):=a0f hD 5 45 (by kernel_rfl) rfl rfl;rw[if_pos (by simp[Region.wanted])];exact a4i 51 _ _ rfl underlying51 a2t f44 f45 (hM.sl hslL) ht (fun v' h1=>hK v' g W h1 (Ev.refl hM.ok) hM)
        |i+7,hi,_=>exact absurd hi (by omega)
       ·intro bb g W hM hA hall
        have h3:SL g W 3 (bb.eval (.tmp 43)) (t+1):=hall 3 (by omega) _ _ rfl rfl;have h6:SL g W 3 (bb.eval (.tmp 46)) (n-t):=hall 6 (by omega) _ _ rfl rfl;obtain⟨va,hva⟩:∃v,bb.eval (.tmp 43)=v:=⟨_,rfl⟩;obtain⟨vb,hvb⟩:∃v,bb.eval (.tmp 46)=v:=⟨_,rfl⟩;rw[hva] at h3;rw[hvb] at h6;have hfr:=hA.frame [T,T,T,T,T,T,T,T,T,T,T,T,T,T,T,T,T,T,T,T,T,T,T,T,T,T,T,T,T,T,T,T,T,T,T,T,T,T,T,T,F,F,F,F,F,F,F,T] _ rfl (by kernel_rfl);clear hall hA;obtain⟨f,hf⟩:∃f:Nat→Value,(fun k=>bb.tmps.getD k undef)=f:=⟨_,rfl⟩;have g43:f 43=va:=by rw[←hf,←hva];rfl
        have g46:f 46=vb:=by rw[←hf,←hvb];rfl
        rw[hf] at hfr;clear hf hva hvb;subst hfr;simp only[a2k,g43,g46,Nat.reduceAdd];clear g43 g46;simp only[List.drop_succ_cons,List.drop_zero];go_wp2_with (first
         |(at_builtin;refine a1b (X:=noB) hM.ok (by rfl) _ _ 51 (by rfl) underlying51 a2t (by rfl) h3 (by rfl) h6 (by omega) ?_;intro v9 S9 w9 hsl9 he9)
         |fail)
        go_ret;exact⟨S9,_,rfl,⟨t+1+(n-t),hsl9,by omega⟩,(ev6.trans hM).trans he9⟩
     ·have htnI:¬(t:Int)<(n:Int):=by omega
      go_upto_region 6 with fail;clear hin cy;have hA1:=Ev.alloc (X:=noB) evr.ok (b3c (S:=S) (W:=wr) (e:=3));have slE:SL (fun b=>S b∨b=wr.heap.size) (wr.alloc (.cells #[] 3)) 3 (.slice (some ⟨wr.heap.size,0,none⟩) 0 0) 0:=SL.blk (.inr rfl) (Blk.new _ _ _) (by simp);have hslA:=(evr.trans hA1).sl hsl;go_upto_region 7 with (first
       |(refine a2p (by rfl) 51 _ _ (by rfl) underlying51 a2t (by rfl) (by rfl) hslA ht ?_;intro v38 h38)
       |(at_builtin;refine a1b (X:=noB) hA1.ok (by rfl) _ _ 51 (by rfl) underlying51 a2t (by rfl) slE (by rfl) h38 (by omega) ?_;intro v6 S6 W6 hsl6 he6)
       |fail)
      have ev6:=(evr.trans hA1).trans he6;have hslL:=ev6.sl hsl;rw[Nat.zero_add] at hsl6;refine Go.wp_region_reln 7 (by kernel_rfl) (by kernel_rfl) (fun _ g W=>Ev noB S6 W6 g W) (fun g W g' W'=>Ev noB g W g' W') (FPu (Value.slice (some ⟨b,off,none⟩) n cap) v6 n t x) (fun _ _ _ _ _ _ h g=>h.kept g) S6 (Ev.drew ev6.ok) ?_ ?_
      ·clear hslA slE hA1 he6 evr
       intro i o hi ho c bb g W hc hM hA hD K hK;match i,hi,ho with
       |0,_,ho =>
        cases ho;have f6:bb.tmps[6]?.getD undef=v6:=a0a (v:=v6) (hA.at_ (k:=6) (by kernel_rfl));go_simp;exact hK v6 g W rfl (Ev.refl hM.ok) hM
       |1,_,ho =>
        cases ho;have f1:bb.tmps[1]?.getD undef= .int .i64 x:=a0a (v:= .int .i64 x) (hA.at_ (k:=1) (by kernel_rfl));go_simp;exact hK (.int .i64 x) g W rfl (Ev.refl hM.ok) hM
       |2,_,ho =>
        cases ho;have f41:bb.tmps[41]?.getD undef= .int .i64 x:=a0a (v:= .int .i64 x) (a0f hD 1 41 (by kernel_rfl) rfl rfl);have hE:=Ev.alloc (X:=noB) hM.ok (c0o (S:=g) (W:=W) fx);go_simp;exact hK (.slice (some ⟨W.heap.size,0,none⟩) 1 1) _ _ (SL.blk (.inr rfl) (Blk.new _ _ _) (by show 1*1≤1;omega)) hE (hM.trans hE)
       |3,_,ho =>
        cases ho;have f40:bb.eval (.tmp 40)=v6:=a0f hD 0 40 (by kernel_rfl) rfl rfl;have f42:SL g W 3 (bb.eval (.tmp 42)) 1:=a0f hD 2 42 (by kernel_rfl) rfl rfl;exact a3s hM.ok rfl _ _ 51 rfl underlying51 a2t f40 (hM.sl hsl6) rfl f42 (by omega) (fun v' S' w' h1 h2=>hK v' S' w' h1 h2 (hM.trans h2))
       |4,_,ho =>
        cases ho;have f0:bb.tmps[0]?.getD undef=(Value.slice (some ⟨b,off,none⟩) n cap):=a0a (v:=(Value.slice (some ⟨b,off,none⟩) n cap)) (hA.at_ (k:=0) (by kernel_rfl));go_simp;exact hK (Value.slice (some ⟨b,off,none⟩) n cap) g W rfl (Ev.refl hM.ok) hM
       |5,_,ho =>
        cases ho;have f5:bb.tmps[5]?.getD undef= .int .i64 (t:Nat):=a0a (v:= .int .i64 (t:Nat)) (hA.at_ (k:=5) (by kernel_rfl));go_simp;exact hK (.int .i64 (t:Nat)) g W rfl (Ev.refl hM.ok) hM
       |6,_,ho =>
        cases ho;have f44:bb.eval (.tmp 44)=(Value.slice (some ⟨b,off,none⟩) n cap):=a0f hD 4 44 (by kernel_rfl) rfl rfl;have f45:bb.eval (.tmp 45)= .int .i64 (t:Nat):=a0f hD 5 45 (by kernel_rfl) rfl rfl;rw[if_pos (by simp[Region.wanted])];exact a4i 51 _ _ rfl underlying51 a2t f44 f45 (hM.sl hslL) ht (fun v' h1=>hK v' g W h1 (Ev.refl hM.ok) hM)
       |i+7,hi,_=>exact absurd hi (by omega)
      ·intro bb g W hM hA hall
       have h3:SL g W 3 (bb.eval (.tmp 43)) (t+1):=hall 3 (by omega) _ _ rfl rfl;have h6:SL g W 3 (bb.eval (.tmp 46)) (n-t):=hall 6 (by omega) _ _ rfl rfl;obtain⟨va,hva⟩:∃v,bb.eval (.tmp 43)=v:=⟨_,rfl⟩;obtain⟨vb,hvb⟩:∃v,bb.eval (.tmp 46)=v:=⟨_,rfl⟩;rw[hva] at h3;rw[hvb] at h6;have hfr:=hA.frame [T,T,T,T,T,T,T,T,T,T,T,T,T,T,T,T,T,T,T,T,T,T,T,T,T,T,T,T,T,T,T,T,T,T,T,T,T,T,T,T,F,F,F,F,F,F,F,T] _ rfl (by kernel_rfl);clear hall hA;obtain⟨f,hf⟩:∃f:Nat→Value,(fun k=>bb.tmps.getD k undef)=f:=⟨_,rfl⟩;have g43:f 43=va:=by rw[←hf,←hva];rfl
       have g46:f 46=vb:=by rw[←hf,←hvb];rfl
       rw[hf] at hfr;clear hf hva hvb;subst hfr;simp only[a2k,g43,g46,Nat.reduceAdd];clear g43 g46;simp only[List.drop_succ_cons,List.drop_zero];go_wp2_with (first
        |(at_builtin;refine a1b (X:=noB) hM.ok (by rfl) _ _ 51 (by rfl) underlying51 a2t (by rfl) h3 (by rfl) h6 (by omega) ?_;intro v9 S9 w9 hsl9 he9)
        |fail)
       go_ret;exact⟨S9,_,rfl,⟨t+1+(n-t),hsl9,by omega⟩,(ev6.trans hM).trans he9⟩
theorem c0v {S:BS}{W:World}{id:Int}(hi:a0k id):TB S W 140 #[.int .i64 id,.string ⟨#[]⟩,.string ⟨#[]⟩,.int .i64 0,.int .i64 0]:=b9f rfl rfl fun i u ct h1 h2=>by
 match i,h1,h2 with
 |0,h1,h2=>cases h1;cases h2;exact CT.ok_int hi
 |1,h1,h2=>cases h1;cases h2;exact CT.ok_str (by decide)
 |2,h1,h2=>cases h1;cases h2;exact CT.ok_str (by decide)
 |3,h1,h2=>cases h1;cases h2;exact CT.ok_int ⟨by decide,by decide⟩
 |4,h1,h2=>cases h1;cases h2;exact CT.ok_int ⟨by decide,by decide⟩
 |i+5,h1,_=>simp at h1
theorem SL.edge {S:BS}{W:World}{b off n cap:Nat}(hT:TW S W)(h:SL S W 206 (.slice (some ⟨b,off,none⟩) n cap) n){k:Nat}(hk:k<n):∃id l r lv m,W.cell? ⟨b,off+k*4,none⟩=some (.int .i64 id)∧W.cell? ⟨b,off+k*4+1,none⟩=some lv∧W.cell? ⟨b,off+k*4+2,none⟩=some (.int .i64 l)∧W.cell? ⟨b,off+k*4+3,none⟩=some (.int .i64 r)∧a0k id∧a0k l∧a0k r∧SL S W 26 lv m∧m≤100:=by
 obtain⟨u0,c0,h0⟩:=h.cell hT a1u hk 0 .int rfl;obtain⟨u1,c1,h1⟩:=h.cell hT a1u hk 1 (.sl 26) rfl;obtain⟨u2,c2,h2⟩:=h.cell hT a1u hk 2 .int rfl;obtain⟨u3,c3,h3⟩:=h.cell hT a1u hk 3 .int rfl;obtain⟨id,rfl,f0⟩:=h0.i rfl;obtain⟨m,hm,hl⟩:=h1.l rfl;obtain⟨l,rfl,f2⟩:=h2.i rfl;obtain⟨r,rfl,f3⟩:=h3.i rfl;exact⟨id,l,r,u1,m,c0,c1,c2,c3,f0,f2,f3,hl,hm⟩
theorem b7d (S:BS)(w:World)(hT:TW S w)(ev:Value)(m:Nat)(hse:SL S w 206 ev m)(hm:m≤100) :
 Calls prog 131 #[ev] w fun e w'=>∃S' v,e= .returned v∧(∃n',SL S' w' 140 v n'∧n'≤200)∧Ev noB S w S' w':=by
 obtain⟨ea,ecap,rfl,hec⟩:=hse.form;go_enter func131,ntmps131;go_wp2_with fail;go_loopw [3,4] (fun v kk wr=>∃(k n:Nat) (S':BS),k≤m∧kk= .int .i64 (k:Nat)∧n≤2*k∧SL S' wr 3 v n∧Ev noB S w S' wr) (fun _ kk _=>m-(intOf kk).toNat)
 case atStart=>exact⟨0,0,S,Nat.zero_le _,rfl,by omega,SL.nil _ _ _,Ev.refl hT⟩
 case round =>
  obtain⟨k,n,S1,hk,rfl,hn,hsv,hev⟩:=hrel;by_cases hlt:k<m
  ·have hltI:(k:Int)<(m:Int):=by omega
   obtain⟨b,off,cap',hab,-,-⟩:=hse.some_ (by omega);simp only[Value.slice.injEq,true_and] at hab;obtain⟨rfl,rfl⟩:=hab;obtain⟨id,l,r,lv,q,c0,c1,c2,c3,f0,f1,f2,hlv,hq⟩:=SL.edge hev.ok (hev.sl hse) hlt;have hl2:=hlv;clear hlv c0 c1;by_cases hl0:l=0
   ·have hlb:(l != 0)=false:=by simp[hl0]
    go_upto_region 7 with fail;clear c2;by_cases hr0:r=0
    ·have hrb:(r != 0)=false:=by simp[hr0]
     go_wp2_with fail;go_roundw
     case rel=>exact⟨k+1,n,S1,by omega,by go_num,by omega,hsv,hev⟩
     case measure=>simp[intOf];omega
    ·have hrb:(r != 0)=true:=by simp[hr0]
     go_wp2_with (first
      |(go_at_call 164;refine (b4v S1 _ hev.ok _ n hsv (by omega) r f2).mono ?_;rintro e W2⟨S2,v2,rfl,⟨n2,hs2,hn2⟩,he2⟩)
      |fail)
     go_roundw
     case rel=>exact⟨k+1,n2,S2,by omega,by go_num,by omega,hs2,hev.trans he2⟩
     case measure=>simp[intOf];omega
   ·have hlb:(l != 0)=true:=by simp[hl0]
    go_upto_region 7 with (first
     |(go_at_call 164;refine (b4v S1 _ hev.ok _ n hsv (by omega) l f1).mono ?_;rintro e W2⟨S2,v2,rfl,⟨n2,hs2,hn2⟩,he2⟩)
     |fail)
    have hev2:=hev.trans he2;clear c2 c3 f2;obtain⟨id',l',r',lv',q',-,-,-,c3,-,-,f2,-,-⟩:=SL.edge hev2.ok (hev2.sl hse) hlt;by_cases hr0:r'=0
    ·have hrb:(r' != 0)=false:=by simp[hr0]
     go_wp2_with fail;go_roundw
     case rel=>exact⟨k+1,n2,S2,by omega,by go_num,by omega,hs2,hev2⟩
     case measure=>simp[intOf];omega
    ·have hrb:(r' != 0)=true:=by simp[hr0]
     go_wp2_with (first
      |(go_at_call 164;refine (b4v S2 _ hev2.ok _ n2 hs2 (by omega) r' f2).mono ?_;rintro e W3⟨S3,v3,rfl,⟨n3,hs3,hn3⟩,he3⟩)
      |fail)
     go_roundw
     case rel=>exact⟨k+1,n3,S3,by omega,by go_num,by omega,hs3,hev2.trans he3⟩
     case measure=>simp[intOf];omega
  ·obtain rfl:k=m:=by omega
   have hge:¬(k:Int)<(k:Int):=by omega
   obtain⟨ia,icap,rfl,hic⟩:=hsv.form;go_wp2_with fail;go_loopw [5,6] (fun v kk wx=>∃(t:Nat) (S':BS),t≤n∧kk= .int .i64 (t:Nat)∧SL S' wx 140 v t∧Ev noB S w S' wx∧SL S' wx 3 (.slice ia n icap) n) (fun _ kk _=>n-(intOf kk).toNat)
   case atStart=>exact⟨0,S1,Nat.zero_le _,rfl,SL.nil _ _ _,hev,hsv⟩
   case round =>
    clear hsv hev;obtain⟨t,S2,ht,rfl,hsf,hev,hsv⟩:=hrel;by_cases hlt2:t<n
    ·have hltI:(t:Int)<(n:Int):=by omega
     obtain⟨b2,off2,cap2,hab2,-,-⟩:=hsv.some_ (by omega);simp only[Value.slice.injEq,true_and] at hab2;obtain⟨rfl,rfl⟩:=hab2;obtain⟨y,cy,fy⟩:=SL.int hev.ok hsv hlt2;go_wp2_with (first
      |(at_builtin;refine a0w hev.ok (by rfl) _ _ 33 (by rfl) underlying33 a1m (by rfl) hsf (by rfl) rfl (c0v fy) rfl (by omega) ?_;intro v9 S9 w9 hsl9 he9)
      |fail)
     go_roundw
     case rel=>exact⟨t+1,S9,by omega,by go_num,hsl9,hev.trans he9,he9.sl hsv⟩
     case measure=>simp[intOf];omega
    ·obtain rfl:t=n:=by omega
     have hge2:¬(t:Int)<(t:Int):=by omega
     go_wp2_with fail;go_ret;exact⟨S2,_,rfl,⟨t,hsf,by omega⟩,hev⟩
end
section
def c0w (a b:Int):Int:=(a-b).sign
theorem a8r {a b:Int}(h:a<b):c0w a b = -1:=by unfold c0w;rw[Int.sign_eq_neg_one_of_neg (by omega)]
theorem b1q (a:Int):c0w a a=0:=by unfold c0w;rw[Int.sub_self];rfl
theorem a8s {a b:Int}(h:b<a):c0w a b=1:=by unfold c0w;rw[Int.sign_eq_one_of_pos (by omega)]
def c6x (h l h' l':Int):Int:=if c0w h h'=0 then c0w l l' else c0w h h'
theorem c2l (p q:Nat):c6x (p / 18446744073709551616:Nat) (p % 18446744073709551616:Nat) (q / 18446744073709551616:Nat) (q % 18446744073709551616:Nat)=c0w p q:=by
 unfold c6x;rcases Nat.lt_trichotomy (p / 18446744073709551616) (q / 18446744073709551616) with h|h|h
 ·rw[a8r (by omega),if_neg (by decide),a8r (by omega)]
 ·rw[h,b1q,if_pos rfl]
  rcases Nat.lt_trichotomy (p % 18446744073709551616) (q % 18446744073709551616) with h2|h2|h2
  ·rw[a8r (by omega),a8r (by omega)]
  ·have:p=q:=by omega
   rw[this,b1q,b1q]
  ·rw[a8s (by omega),a8s (by omega)]
 ·rw[a8s (by omega),if_neg (by decide),a8s (by omega)]
def c2m (a b c d:Int):Int:=(a*b-c*d).sign
theorem b1r (n:Int):(n<0∧n.sign = -1)∨(n=0∧n.sign=0)∨(0<n∧n.sign=1):=by
 rcases Int.lt_trichotomy n 0 with h|h|h
 ·exact .inl ⟨h,Int.sign_eq_neg_one_of_neg h⟩
 ·exact .inr (.inl ⟨h,by rw[h];rfl⟩)
 ·exact .inr (.inr ⟨h,Int.sign_eq_one_of_pos h⟩)
theorem c2n (n:Int):n.sign = -1∨n.sign=0∨n.sign=1:=by
 rcases b1r n with h|h|h <;> simp[h.2]
theorem c9g {a b c d:Int}(h:a.sign*b.sign≠c.sign*d.sign):(a.sign*b.sign-c.sign*d.sign).sign=c2m a b c d:=by
 unfold c2m;rw[←Int.sign_mul,←Int.sign_mul] at *;generalize a*b=x at *;generalize c*d=y at *;rcases b1r x with ⟨h1,e1⟩|⟨h1,e1⟩|⟨h1,e1⟩ <;> rcases b1r y with ⟨h2,e2⟩|⟨h2,e2⟩|⟨h2,e2⟩ <;> rw[e1,e2] at h ⊢ <;>
  first
  |exact absurd rfl h
  |(rw[Int.sign_eq_neg_one_of_neg (a:=x-y) (by omega)];rfl)
  |(rw[Int.sign_eq_one_of_pos (a:=x-y) (by omega)];rfl)
theorem c9h {a b c d:Int}(h:a.sign*b.sign=c.sign*d.sign):a.sign*b.sign*c0w ((a.natAbs*b.natAbs:Nat):Int) ((c.natAbs*d.natAbs:Nat):Int)=c2m a b c d:=by
 unfold c2m c0w;rw[←Int.natAbs_mul,←Int.natAbs_mul];rw[←Int.sign_mul,←Int.sign_mul] at h;rw[←Int.sign_mul];generalize a*b=x at *;generalize c*d=y at *;rcases b1r x with ⟨h1,e1⟩|⟨h1,e1⟩|⟨h1,e1⟩ <;> rcases b1r y with ⟨h2,e2⟩|⟨h2,e2⟩|⟨h2,e2⟩ <;> rw[e1,e2] at h <;> try omega
 ·rw[e1,show ((x.natAbs:Int)) = -x from by omega,show ((y.natAbs:Int)) = -y from by omega,show -x - -y = -(x-y) from by omega,Int.sign_neg]
  omega
 ·rw[e1,h1,h2];rfl
 ·rw[e1,show ((x.natAbs:Int))=x from by omega,show ((y.natAbs:Int))=y from by omega,Int.one_mul]
/-! ### roots -/
/-! ### greatest common divisors -/
end
section
open Go
theorem a5w (x:Nat)(h:x<18446744073709551616):IntKind.u64.wrap (x:Int)=(x:Int):=IntWalk.u64_in _ (by omega)
theorem b0a (a:Nat)(ha:a<18446744073709551616):bits .and .u64 (a:Int) 4294967295=((a % 4294967296:Nat):Int):=by
 have h:=bits_and_u64_nat a 4294967295 ha (by decide);have e:a &&& 4294967295=a % 4294967296:=Nat.and_two_pow_sub_one_eq_mod a 32;rw[e] at h;exact h
theorem c9i (a b:Nat)(ha:a<18446744073709551616)(hb:b<18446744073709551616) :
 IntKind.u64.wrap (IntKind.u64.wrap ((a:Int) / 4294967296*bits .and .u64 (b:Int) 4294967295)+IntKind.u64.wrap (bits .and .u64 (a:Int) 4294967295*bits .and .u64 (b:Int) 4294967295) / 4294967296) =
  (((a / 4294967296)*(b % 4294967296)+(a % 4294967296)*(b % 4294967296) / 4294967296:Nat):Int):=by
 obtain⟨h1,h2,-,-⟩:=Lib.mul64_hi a b ha hb;have h3:=Lib.half_mul_le (a:=a / 4294967296) (b:=b % 4294967296) (by omega) (by omega);rw[b0a a ha,b0a b hb,show ((a:Int) / 4294967296)=((a / 4294967296:Nat):Int) from rfl,←Int.natCast_mul,←Int.natCast_mul,a5w _ (by omega),a5w _ h1];rw[show ((((a % 4294967296)*(b % 4294967296):Nat):Int) / 4294967296)=(((a % 4294967296)*(b % 4294967296) / 4294967296:Nat):Int) from rfl,←Int.natCast_add,a5w _ h2]
theorem d1p (a b:Nat)(ha:a<18446744073709551616)(hb:b<18446744073709551616)(T:Int)
 (hT:T=(((a / 4294967296)*(b % 4294967296)+(a % 4294967296)*(b % 4294967296) / 4294967296:Nat):Int)) :
 IntKind.u64.wrap (IntKind.u64.wrap (IntKind.u64.wrap ((a:Int) / 4294967296*((b:Int) / 4294967296))+T / 4294967296) +
  IntKind.u64.wrap (bits .and .u64 T 4294967295+IntKind.u64.wrap (bits .and .u64 (a:Int) 4294967295*((b:Int) / 4294967296))) / 4294967296)=((a*b / 18446744073709551616:Nat):Int):=by
 subst hT;obtain⟨h1,h2,h3,h4⟩:=Lib.mul64_hi a b ha hb;have h5:=Lib.half_mul_le (a:=a / 4294967296) (b:=b / 4294967296) (by omega) (by omega);have h6:=Lib.half_mul_le (a:=a % 4294967296) (b:=b / 4294967296) (by omega) (by omega);have hq:a*b / 18446744073709551616<18446744073709551616:=by
  have:a*b<18446744073709551616*18446744073709551616:=Nat.mul_lt_mul'' ha hb;exact Nat.div_lt_of_lt_mul this
 rw[b0a _ h2,b0a a ha,show ((a:Int) / 4294967296)=((a / 4294967296:Nat):Int) from rfl,show ((b:Int) / 4294967296)=((b / 4294967296:Nat):Int) from rfl,
  ←Int.natCast_mul,←Int.natCast_mul,a5w _ (by omega),a5w _ (by omega),←Int.natCast_add,a5w _ (by omega)]
 generalize (a / 4294967296)*(b % 4294967296)+(a % 4294967296)*(b % 4294967296) / 4294967296=t at *;rw[show (((t:Nat):Int) / 4294967296)=((t / 4294967296:Nat):Int) from rfl,←Int.natCast_add,a5w _ (by omega)];rw[show ((((t % 4294967296+a % 4294967296*(b / 4294967296):Nat)):Int) / 4294967296)=(((t % 4294967296+a % 4294967296*(b / 4294967296)) / 4294967296:Nat):Int) from rfl,←Int.natCast_add,h4,a5w _ hq]
theorem d1q (a b:Nat):IntKind.u64.wrap ((a:Int)*(b:Int))=((a*b % 18446744073709551616:Nat):Int):=by
 rw[IntKind.wrap_u64,←Int.natCast_mul];rfl
def hiN (a b:Nat):Int:=((a*b / 18446744073709551616:Nat):Int)
def loN (a b:Nat):Int:=((a*b % 18446744073709551616:Nat):Int)
end
end Go.Proofs.YtfocdbjceedagaaGreatDoor
