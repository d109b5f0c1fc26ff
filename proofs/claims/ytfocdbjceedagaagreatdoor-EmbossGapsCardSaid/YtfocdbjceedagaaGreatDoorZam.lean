/-
  Parts.
-/
import Derived.Test.YtfocdbjceedagaaGreatDoorZal
set_option linter.unusedVariables false
set_option linter.unusedSimpArgs false
set_option maxHeartbeats 8000000
set_option maxRecDepth 100000
namespace Go.Proofs.YtfocdbjceedagaaGreatDoor
open Tryz
section
open Go.RowKit Go.Shelf Go.Maps
attribute [local go_sem] Oper.semAt_some
structure WO (w:World)(s:Sh)(Bs mb Bm:Nat)(en:List (Spot×Int))(N:Nat)(ds:List Nat)(W:World):Prop where
 map:∃n,n≤N∧MapIs W mb n en
 sheet:Blk W Bs #[.int .i64 s.ax,.int .i64 s.ay,.int .i64 s.st,.int .i64 s.w,.int .i64 s.h,.int .i64 s.g] 28
 box:Blk W Bm #[.map (some mb)] 117
 below:Below w.heap.size w W
 marks:Marks Bm ds W
theorem WO.grown {w:World}{s:Sh}{Bs mb Bm N:Nat}{en:List (Spot×Int)}{ds:List Nat}{W W':World}(h:WO w s Bs mb Bm en N ds W)(hg:W.grownBy W' none):WO w s Bs mb Bm en N ds W':=by
 obtain⟨⟨n,hn,hM⟩,h1,h2,h3,h4⟩:=h
 exact⟨⟨n,hn,hM.kept hg (by simp)⟩,h1.kept hg (by simp),h2.kept hg (by simp),h3.grown hg h3.size (fun k e=>by cases e),h4.kept hg (fun r e=>by cases e)⟩
theorem Marks.below {Bm:Nat}{ds:List Nat}{W W':World}(h:Marks Bm ds W)(hb:Below W.heap.size W W'):Marks Bm ds W' :=
 ⟨fun D hD=>(hb.block D (Array.getElem?_eq_some_iff.1 (h.is D hD)).1).trans (h.is D hD),h.high,h.nd⟩
theorem WO.more {w:World}{s:Sh}{Bs mb Bm N N':Nat}{en en':List (Spot×Int)}{ds:List Nat}{W:World}(h:WO w s Bs mb Bm en N ds W)(hN:N≤N')(he:en=en'):WO w s Bs mb Bm en' N' ds W:=by
 subst he
 obtain⟨⟨n,hn,hM⟩,h1,h2,h3,h4⟩:=h
 exact⟨⟨n,Nat.le_trans hn hN,hM⟩,h1,h2,h3,h4⟩
theorem nb1 (t:Nat):t*8000200≤(t+1)*8000200:=Nat.mul_le_mul_right _ (Nat.le_succ t)
theorem nb2 (t:Nat):t*8000200≤t*8000200+0*80001:=Nat.le_add_right _ _
theorem nb3 {t k:Nat}(h:k≤100):t*8000200+k*80001≤(t+1)*8000200:=by omega
theorem nb4 {t k N:Nat}(ht:t≤100)(hk:k≤100)(h:t*8000200+k*80001=N):N≤900000000:=by omega
theorem nb5 {t k N:Nat}(h:t*8000200+k*80001=N):N+80001=t*8000200+(k+1)*80001:=by omega
def ORel (w:World)(s:Sh)(mb Bm:Nat)(ws:List Wy)(u:Value)(dd:List Deferred)(W:World):Prop :=
 ∃(t:Nat) (ds:List Nat),t≤ws.length∧u= .int .i64 t∧dd=ds.map mark∧WO w s w.heap.size mb Bm (waysE s [] ((ws.map Wy.key).take t)) (t*8000200) ds W
def IRel (w:World)(s:Sh)(mb Bm Bw:Nat)(id:Int)(line:List Spot)(way:Array Value)(en0:List (Spot×Int))(t:Nat)(u:Value)(dd:List Deferred)(W:World):Prop :=
 ∃(k:Nat) (ds:List Nat),k≤line.length∧u= .int .i64 k∧dd=ds.map mark∧WO w s w.heap.size mb Bm (wayPut s id line en0 k) (t*8000200+k*80001) ds W∧Blk W Bw way 149
theorem ways_in (s:Sh)(sv:Value)(ws:List Wy)(w:World)(hc:checkS s=0)(hid:∀y∈ws,fits y.id)(hW:Wys w.heap.size w sv ws)(hlen:ws.length≤100)(hpl:∀y∈ws,y.line.length≤100) :
 CallsIn Fence.wide 3 prog 34 #[shV s,sv] w fun e w'=>∃v base,e= .returned v∧w.heap.size≤base∧w'.ownsRow base 54 4 v (dotsS 2 (waysE s [] (ws.map Wy.key))).length ((dotsS 2 (waysE s [] (ws.map Wy.key))).flatMap encD)∧Below w.heap.size w w':=by
 have hs:=okS_of hc
 have hEl:=waysE_length hs (ws.map Wy.key)
 obtain⟨ax,ay,st,sw,sh,sg⟩:=s
 have hs':=hs
 obtain⟨s0,s1,u0,u1,v0,v1,a0,a1,b0,b1⟩:=hs'
 simp only at s0 s1 u0 u1 v0 v1 a0 a1 b0 b1
 have fax:fits ax:=⟨by omega,by omega⟩
 have fay:fits ay:=⟨by omega,by omega⟩
 have hcH:=Lib.hid hc
 clear hc
 obtain⟨wa,wcap,rfl,hrows⟩:=hW
 have hlenI:(ws.length:Int)≤100:=by omega
 refine callsIn_of_wp_marks func34 rfl trivial ?_ rfl
 simp only[ntmps34,List.size_toArray,List.length_cons,List.length_nil,Nat.reduceAdd,Nat.reduceSub,Array.replicate_succ,Array.replicate_zero,List.push_toArray,List.append_toArray,List.nil_append,List.cons_append]
 refine wpIn_wide.2 ?_
 have hmm:= @run_makeMap prog
 go_wp2_with (go_at_call 22;refine (check_eq hcH.out _ fax fay).mono ?_;rintro e w'⟨rfl,hb_⟩;obtain⟨p,rfl⟩:=grow_of_below hb_;clear hb_)
 clear hmm
 have hB1:Below w.heap.size w ((((w.alloc (.cells #[.int .i64 ax,.int .i64 ay,.int .i64 st,.int .i64 sw,.int .i64 sh,.int .i64 sg] 28)).growBy p).alloc (.map #[] 0)).alloc (.cells #[.map (some (w.heap.size+1+p.objs.size))] 117)):=(by repeat' (first|with_reducible (first|exact zR _ _|exact yR _|assumption|refine zG ?_ ?_ _|refine zA ?_ ?_ _|refine zS ?_ ?_ _|refine zD ?_|refine yA ?_|refine yG ?_|refine yS ?_|refine yD ?_)|omega|(dsimp only;omega)))
 have kS:=((((Blk.new w #[.int .i64 ax,.int .i64 ay,.int .i64 st,.int .i64 sw,.int .i64 sh,.int .i64 sg] 28).grow p).alloc (.map #[] 0)).alloc (.cells #[.map (some (w.heap.size+1+p.objs.size))] 117))
 have kM:=(MapIs.made ((w.alloc (.cells #[.int .i64 ax,.int .i64 ay,.int .i64 st,.int .i64 sw,.int .i64 sh,.int .i64 sg] 28)).growBy p)).alloc (.cells #[.map (some (w.heap.size+1+p.objs.size))] 117)
 have kB:=Blk.new (((w.alloc (.cells #[.int .i64 ax,.int .i64 ay,.int .i64 st,.int .i64 sw,.int .i64 sh,.int .i64 sg] 28)).growBy p).alloc (.map #[] 0)) #[.map (some (w.heap.size+1+p.objs.size))] 117
 obtain⟨W1,hW1⟩:∃W1,((((w.alloc (.cells #[.int .i64 ax,.int .i64 ay,.int .i64 st,.int .i64 sw,.int .i64 sh,.int .i64 sg] 28)).growBy p).alloc (.map #[] 0)).alloc (.cells #[.map (some (w.heap.size+1+p.objs.size))] 117))=W1:=⟨_,rfl⟩
 rw[hW1] at hB1 kS kM kB ⊢
 have hsz:((w.alloc (.cells #[.int .i64 ax,.int .i64 ay,.int .i64 st,.int .i64 sw,.int .i64 sh,.int .i64 sg] 28)).growBy p).heap.size=w.heap.size+1+p.objs.size:=by show ((w.alloc _).heap++p.objs).size=_;rw[Array.size_append,World.size_alloc]
 rw[World.size_alloc,hsz] at kB
 rw[hsz] at kM
 have hMge:w.heap.size<w.heap.size+1+p.objs.size:=by omega
 have hMB:w.heap.size+1+p.objs.size<w.heap.size+1+p.objs.size+1:=by omega
 clear hW1 hsz
 generalize w.heap.size+1+p.objs.size+1=Bm at *
 generalize w.heap.size+1+p.objs.size=mb at *
 have kO:WO w ⟨ax,ay,st,sw,sh,sg⟩ w.heap.size mb Bm (waysE ⟨ax,ay,st,sw,sh,sg⟩ [] ((ws.map Wy.key).take 0)) (0*8000200) [] W1:=⟨⟨0,Nat.zero_le _,by simpa [waysE] using kM⟩,kS,kB,hB1,Marks.nil _ _⟩
 clear kS kB kM hB1
 refine wp_loop (fun a' W=>∃(u6 u7 u8 u9 u10 u11 u12 u19 u20 u21 u22 u23 u24 u25 u26 u27 u28 u29 u30 u31 u32 u33 u34 u35 u36 u37 u38 u39 u40 u41 u42 u43 u44 u45 u46 u47 u48 u49 u50 u51 u52 u53 u54 u55 u56 u57 u58 u59 u60 u61 u62 u63 u64 u65 u66 u67 u68 u69 u70 u71 u72 u73 u74 u75 u76:Value) (dd:List Deferred),ORel w ⟨ax,ay,st,sw,sh,sg⟩ mb Bm ws u19 dd W∧a'={ tmps:= #[shV ⟨ax,ay,st,sw,sh,sg⟩,.slice wa ws.length wcap,.pointer (some ⟨w.heap.size,0,none⟩),undef,.slice none 0 0,.pointer (some ⟨Bm,0,none⟩),u6,u7,u8,u9,u10,u11,u12,.agg #[.int .i64 ax,.int .i64 ay,.int .i64 st,.int .i64 sw,.int .i64 sh,.int .i64 sg],.int .i64 0,.bool false,.map (some mb),.slice wa ws.length wcap,.int .i64 (ws.length:Nat),u19,u20,u21,u22,u23,u24,u25,u26,u27,u28,u29,u30,u31,u32,u33,u34,u35,u36,u37,u38,u39,u40,u41,u42,u43,u44,u45,u46,u47,u48,u49,u50,u51,u52,u53,u54,u55,u56,u57,u58,u59,u60,u61,u62,u63,u64,u65,u66,u67,u68,u69,u70,u71,u72,u73,u74,u75,u76,undef,undef],defers:=dd }) (fun a' _=>ws.length-(intOf (a'.tmps.getD 19 undef)).toNat) ?_ ?_
 ·(repeat apply Exists.intro)
  refine⟨⟨0,[],Nat.zero_le _,rfl,rfl,kO⟩,rfl⟩
 clear kO
 rintro _ wr⟨u6,u7,u8,u9,u10,u11,u12,u19,u20,u21,u22,u23,u24,u25,u26,u27,u28,u29,u30,u31,u32,u33,u34,u35,u36,u37,u38,u39,u40,u41,u42,u43,u44,u45,u46,u47,u48,u49,u50,u51,u52,u53,u54,u55,u56,u57,u58,u59,u60,u61,u62,u63,u64,u65,u66,u67,u68,u69,u70,u71,u72,u73,u74,u75,u76,dd,⟨t,ds,ht,rfl,rfl,hO⟩,rfl⟩
 by_cases hlt:t<ws.length
 ·have hltI:(t:Int)<(ws.length:Int):=by omega
  obtain⟨b,off,rfl,hb,hy⟩:=hrows t hlt
  have hB:=hO.below
  have hsz:=hB.size
  have hy':=hy.below hB hb
  have hidy:=hid _ (List.getElem_mem hlt)
  have hply:=hpl _ (List.getElem_mem hlt)
  have hnext:=waysE_take ⟨ax,ay,st,sw,sh,sg⟩ (ws.map Wy.key) t (by simpa using hlt)
  rw[List.getElem_map] at hnext
  obtain⟨y,hye⟩:∃y,ws[t]=y:=⟨_,rfl⟩
  rw[hye] at hy' hidy hply hnext
  have hptw:=hy.pts
  rw[hye] at hptw
  have hrowsH:=Lib.hid hrows
  clear hye hy hrows
  obtain⟨id,line,lv,lvl,cls,nm,stb,wt,di⟩:=y
  obtain⟨c0,c1,c2,c3,c4,c5,c6,c7,hpt⟩:=hy'
  simp only at c0 c1 c2 c3 c4 c5 c6 c7 hpt hidy hply hptw
  simp only[Wy.key] at hnext
  have hpt':=hpt
  obtain⟨la,lcap,rfl,-⟩:=hpt'
  have hpts:∀j,(h:j<line.length)→∃b off,la=some ⟨b,off,none⟩∧b<w.heap.size∧w.cell? ⟨b,off+j*2,none⟩=some (.int .i64 line[j].1)∧w.cell? ⟨b,off+j*2+1,none⟩=some (.int .i64 line[j].2):=by
   obtain⟨a',c',e',f'⟩:=hptw
   cases e'
   exact f'
  replace hpts:=Lib.hid hpts
  clear hptw
  obtain⟨en0,hen0⟩:∃en,waysE ⟨ax,ay,st,sw,sh,sg⟩ [] ((ws.map Wy.key).take t)=en:=⟨_,rfl⟩
  obtain⟨enT,henT⟩:∃en,waysE ⟨ax,ay,st,sw,sh,sg⟩ [] ((ws.map Wy.key).take (t+1))=en:=⟨_,rfl⟩
  rw[hen0] at hO hnext
  rw[henT] at hnext
  replace henT:=Lib.hid henT
  clear hen0
  have hplI:(line.length:Int)≤100:=by omega
  obtain⟨r,hr⟩:∃r,rightL line=r:=⟨_,rfl⟩
  have hcon:=fun X (h:Below w.heap.size wr X)=>contains_any (.slice la line.length lcap) line w.heap.size X (hpt.below h) (Nat.le_trans hsz h.size) (by omega)
  rw[hr] at hcon hnext
  replace hr:=Lib.hid hr
  have hhid:=Lib.hid hid
  have hhpl:=Lib.hid hpl
  clear hid hpl
  obtain⟨t8,ht8⟩:∃t8,ws.length-t=t8:=⟨_,rfl⟩
  replace ht8:=Lib.hid ht8
  have kW0:=Blk.new wr #[.int .i64 id,.slice la line.length lcap,.int .i64 lvl,.string cls,.string nm,.bool stb,.int .i64 wt,.int .i64 di] 149
  have hO1:=hO.grown (World.grownBy_alloc wr (.cells #[.int .i64 id,.slice la line.length lcap,.int .i64 lvl,.string cls,.string nm,.bool stb,.int .i64 wt,.int .i64 di] 149) none)
  have hszw:Bm<wr.heap.size:=hO.box.lt
  cases r with
  |false =>
   simp only[Bool.false_eq_true,if_false] at hnext
   replace hnext:=Lib.hid hnext
   go_wp2_with (go_at_call 80;refine (hcon _ (by repeat' (first|with_reducible (first|exact zR _ _|exact yR _|assumption|refine zG ?_ ?_ _|refine zA ?_ ?_ _|refine zS ?_ ?_ _|refine zD ?_|refine yA ?_|refine yG ?_|refine yS ?_|refine yD ?_)|omega|(dsimp only;omega)))).mono ?_;rintro e w'⟨rfl,hb_⟩;obtain⟨p,rfl⟩:=grow_of_below hb_;clear hb_)
   have hO2:=hO1.grown (grownBy_growBy _ p)
   rw[←hnext.out] at hO2
   have hrel:ORel w ⟨ax,ay,st,sw,sh,sg⟩ mb Bm ws (.int .i64 ((t+1:Nat):Int)) (ds.map mark) ((wr.alloc (.cells #[.int .i64 id,.slice la line.length lcap,.int .i64 lvl,.string cls,.string nm,.bool stb,.int .i64 wt,.int .i64 di] 149)).growBy p):=⟨t+1,ds,hlt,rfl,rfl,hO2.more (nb1 t) henT.out.symm⟩
   rw[show ((t+1:Nat):Int)=(t:Int)+1 from rfl] at hrel
   refine⟨?_,?measure⟩
   ·(repeat apply Exists.intro)
    refine⟨hrel,?_⟩
    repeat' (first|exact rfl|apply And.intro)
   case measure=>simp[intOf];omega
  |true =>
   simp only[if_true] at hnext
   replace hnext:=Lib.hid hnext
   go_wp2_with (go_at_call 80;refine (hcon _ (by repeat' (first|with_reducible (first|exact zR _ _|exact yR _|assumption|refine zG ?_ ?_ _|refine zA ?_ ?_ _|refine zS ?_ ?_ _|refine zD ?_|refine yA ?_|refine yG ?_|refine yS ?_|refine yD ?_)|omega|(dsimp only;omega)))).mono ?_;rintro e w'⟨rfl,hb_⟩;obtain⟨p,rfl⟩:=grow_of_below hb_;clear hb_)
   have hO2:=hO1.grown (grownBy_growBy _ p)
   have kW2:=kW0.grow p
   obtain⟨W2,hW2⟩:∃W2,(wr.alloc (.cells #[.int .i64 id,.slice la line.length lcap,.int .i64 lvl,.string cls,.string nm,.bool stb,.int .i64 wt,.int .i64 di] 149)).growBy p=W2:=⟨_,rfl⟩
   rw[hW2] at hO2 kW2 ⊢
   have hBw:w.heap.size≤wr.heap.size:=hsz
   have hbelow2:Below w.heap.size wr W2:=by rw[←hW2];exact (by repeat' (first|with_reducible (first|exact zR _ _|exact yR _|assumption|refine zG ?_ ?_ _|refine zA ?_ ?_ _|refine zS ?_ ?_ _|refine zD ?_|refine yA ?_|refine yG ?_|refine yS ?_|refine yD ?_)|omega|(dsimp only;omega)))
   have hpt2:=hpt.below hbelow2
   clear hW2 c0 c1 c2 c3 c4 c5 c6 c7 hpt hcon kW0 hO1 hO hbelow2 hB
   generalize wr.heap.size=Bw at *
   refine wp_loop (fun a' W=>∃(u8 u9 u10 u11 u12 u20 u21 u22 u23 u24 u25 u26 u29 u30 u31 u32 u33 u34 u35 u36 u37 u38 u39 u40 u41 u42 u43 u44 u45 u46 u47 u48 u49 u50 u51 u52 u53 u54 u55 u56 u57 u58 u59 u60 u61 u62 u63 u64 u65 u66 u67 u68 u69 u70 u71 u72 u73 u74 u75:Value) (dd:List Deferred),IRel w ⟨ax,ay,st,sw,sh,sg⟩ mb Bm Bw id line #[.int .i64 id,.slice la line.length lcap,.int .i64 lvl,.string cls,.string nm,.bool stb,.int .i64 wt,.int .i64 di] en0 t u29 dd W∧a'={ tmps:= #[shV ⟨ax,ay,st,sw,sh,sg⟩,.slice (some ⟨b,off,none⟩) ws.length wcap,.pointer (some ⟨w.heap.size,0,none⟩),undef,.slice none 0 0,.pointer (some ⟨Bm,0,none⟩),u6,.pointer (some ⟨Bw,0,none⟩),u8,u9,u10,u11,u12,.agg #[.int .i64 ax,.int .i64 ay,.int .i64 st,.int .i64 sw,.int .i64 sh,.int .i64 sg],.int .i64 0,.bool false,.map (some mb),.slice (some ⟨b,off,none⟩) ws.length wcap,.int .i64 (ws.length:Nat),.int .i64 (t:Nat),u20,u21,u22,u23,u24,u25,u26,.slice la line.length lcap,.int .i64 (line.length:Nat),u29,u30,u31,u32,u33,u34,u35,u36,u37,u38,u39,u40,u41,u42,u43,u44,u45,u46,u47,u48,u49,u50,u51,u52,u53,u54,u55,u56,u57,u58,u59,u60,u61,u62,u63,u64,u65,u66,u67,u68,u69,u70,u71,u72,u73,u74,u75,u76,undef,undef],defers:=dd }) (fun a' _=>line.length-(intOf (a'.tmps.getD 29 undef)).toNat) ?_ ?_
   ·(repeat apply Exists.intro)
    refine⟨⟨0,ds,Nat.zero_le _,rfl,rfl,hO2.more (nb2 t) rfl,kW2⟩,rfl⟩
   clear hO2 kW2 hpt2
   rintro _ wi⟨u8,u9,u10,u11,u12,u20,u21,u22,u23,u24,u25,u26,u29,u30,u31,u32,u33,u34,u35,u36,u37,u38,u39,u40,u41,u42,u43,u44,u45,u46,u47,u48,u49,u50,u51,u52,u53,u54,u55,u56,u57,u58,u59,u60,u61,u62,u63,u64,u65,u66,u67,u68,u69,u70,u71,u72,u73,u74,u75,dd,⟨k,ds2,hk,rfl,rfl,hO,kW⟩,rfl⟩
   by_cases hltk:k<line.length
   ·have hltkI:(k:Int)<(line.length:Int):=by omega
    obtain⟨bl,lo,rfl,hbl,d0,d1⟩:=hpts.out k hltk
    obtain⟨m,hm⟩:∃m,min (k+1) (line.length-1)=m:=⟨_,rfl⟩
    have hmlt:m<line.length:=by omega
    have hmltI:(m:Int)<(line.length:Int):=by omega
    have hminI:min ((k:Int)+1) ((line.length:Int)-1)=(m:Int):=by omega
    obtain⟨bl',lo',e',-,d2,d3⟩:=hpts.out m hmlt
    simp only[Option.some.injEq,Addr.mk.injEq,and_true] at e'
    obtain⟨rfl,rfl⟩:=e'
    have hwl:wayLine ⟨ax,ay,st,sw,sh,sg⟩ line k=lineL ⟨ax,ay,st,sw,sh,sg⟩ line[k] line[m]:=by
     unfold wayLine
     rw[hm,List.getD_eq_getElem?_getD,List.getD_eq_getElem?_getD,List.getElem?_eq_getElem hltk,List.getElem?_eq_getElem hmlt]
     rfl
    have hrp:=List.all_eq_true.1 hr.out _ (List.getElem_mem hltk)
    have hrq:=List.all_eq_true.1 hr.out _ (List.getElem_mem hmlt)
    obtain⟨pk,hpk⟩:∃p,line[k]=p:=⟨_,rfl⟩
    obtain⟨qk,hqk⟩:∃p,line[m]=p:=⟨_,rfl⟩
    rw[hpk] at d0 d1 hwl hrp
    rw[hqk] at d2 d3 hwl hrq
    have hsucc:=wayPut_succ ⟨ax,ay,st,sw,sh,sg⟩ id line en0 k
    rw[hwl] at hsucc
    clear hpk hqk hwl hm
    obtain⟨px,py⟩:=pk
    obtain⟨qx,qy⟩:=qk
    simp only at d0 d1 d2 d3 hrp hrq
    obtain⟨⟨p0,p1⟩,p2,p3⟩:=rightP_iff.1 hrp
    obtain⟨⟨q0,q1⟩,q2,q3⟩:=rightP_iff.1 hrq
    clear hrp hrq
    have hBi:=hO.below
    have hszi:=hBi.size
    replace d0:=(hBi.cell (p:=⟨bl,lo+k*2,none⟩) hbl).trans d0
    replace d1:=(hBi.cell (p:=⟨bl,lo+k*2+1,none⟩) hbl).trans d1
    replace d2:=(hBi.cell (p:=⟨bl,lo+m*2,none⟩) hbl).trans d2
    replace d3:=(hBi.cell (p:=⟨bl,lo+m*2+1,none⟩) hbl).trans d3
    obtain⟨i0,hi0⟩:∃i,dotX ⟨ax,ay,st,sw,sh,sg⟩ px=i:=⟨_,rfl⟩
    obtain⟨j0,hj0⟩:∃i,dotY ⟨ax,ay,st,sw,sh,sg⟩ py=i:=⟨_,rfl⟩
    obtain⟨i1,hi1⟩:∃i,dotX ⟨ax,ay,st,sw,sh,sg⟩ qx=i:=⟨_,rfl⟩
    obtain⟨j1,hj1⟩:∃i,dotY ⟨ax,ay,st,sw,sh,sg⟩ qy=i:=⟨_,rfl⟩
    have n0:Near (i0,j0):=near_dot hs (by omega) (by omega) (by omega) (by omega) hi0 hj0
    have n1:Near (i1,j1):=near_dot hs (by omega) (by omega) (by omega) (by omega) hi1 hj1
    have hll:lineL ⟨ax,ay,st,sw,sh,sg⟩ (px,py) (qx,qy)=upto (lineS (i0,j0) (i1,j1)) (lineN (i0,j0) (i1,j1)+1).toNat:=by
     unfold lineL dotOf
     simp only
     rw[hi0,hj0,hi1,hj1]
    rw[hll] at hsucc
    clear hll
    replace hi0:=Lib.hid hi0
    replace hj0:=Lib.hid hj0
    replace hi1:=Lib.hid hi1
    replace hj1:=Lib.hid hj1
    replace hsucc:=Lib.hid hsucc
    obtain⟨en1,hen1⟩:∃en,wayPut ⟨ax,ay,st,sw,sh,sg⟩ id line en0 k=en:=⟨_,rfl⟩
    rw[hen1] at hO
    replace hen1:=Lib.hid hen1
    obtain⟨N,hN⟩:∃N,t*8000200+k*80001=N:=⟨_,rfl⟩
    rw[hN] at hO
    have hNb:N≤900000000:=nb4 (by omega) (by omega) hN
    replace hN:=Lib.hid hN
    have kI:WI ⟨ax,ay,st,sw,sh,sg⟩ id w w.heap.size mb Bm Bw N _ en1 [] wi:=⟨hO.map,hO.sheet,hO.box,kW,hBi⟩
    have hMk:=hO.marks
    have s0':wi.cell? ⟨w.heap.size,0,none⟩=some (.int .i64 ax):=kI.sheet.cell 0
    have s1':wi.cell? ⟨w.heap.size,1,none⟩=some (.int .i64 ay):=kI.sheet.cell 1
    have s2':wi.cell? ⟨w.heap.size,2,none⟩=some (.int .i64 st):=kI.sheet.cell 2
    have s3':wi.cell? ⟨w.heap.size,3,none⟩=some (.int .i64 sw):=kI.sheet.cell 3
    have s4':wi.cell? ⟨w.heap.size,4,none⟩=some (.int .i64 sh):=kI.sheet.cell 4
    have s5':wi.cell? ⟨w.heap.size,5,none⟩=some (.int .i64 sg):=kI.sheet.cell 5
    have w1:wi.cell? ⟨Bw,1,none⟩=some (.slice (some ⟨bl,lo,none⟩) line.length lcap):=kW.cell 1
    clear hO kW hBi
    go_wp2_with fail
    first|with_reducible refine wp_region_grow_tail2 16 (by kernel_rfl) (by kernel_rfl) ?_|with_reducible refine wp_region_grow_tail 16 (by kernel_rfl) (by kernel_rfl) ?_
    simp only[List.take_succ_cons,List.take_zero,List.drop_succ_cons,List.drop_zero]
    repeat (first|go_big_quiet_step ((go_at_call 83;exact Calls.grow_of (of_any ⟨ax,ay,st,sw,sh,sg⟩ _ _ _ _ _ (by first|with_reducible exact hi0.out|with_reducible exact hi1.out) (by first|with_reducible exact hj0.out|with_reducible exact hj1.out) hs (by omega) (by omega) (by omega) (by omega))))|quiet_step ((go_at_call 83;exact Calls.grow_of (of_any ⟨ax,ay,st,sw,sh,sg⟩ _ _ _ _ _ (by first|with_reducible exact hi0.out|with_reducible exact hi1.out) (by first|with_reducible exact hj0.out|with_reducible exact hj1.out) hs (by omega) (by omega) (by omega) (by omega)))))
    refine wpQuiet_nil ?_
    intro _ hw_
    obtain⟨p,hw_⟩:=hw_
    subst hw_
    have kIX:=WI.grown (WI.grown kI (World.grownBy_alloc wi (.cells #[.int .i64 px,.int .i64 py] 26) none)) (grownBy_growBy _ p)
    have kX:=(hMk.kept (World.grownBy_alloc wi (.cells #[.int .i64 px,.int .i64 py] 26) none) (fun r e=>by cases e)).kept (grownBy_growBy _ p) (fun r e=>by cases e)
    obtain⟨X,hX⟩:∃X,(wi.alloc (.cells #[.int .i64 px,.int .i64 py] 26)).growBy p=X:=⟨_,rfl⟩
    rw[hX] at kIX kX ⊢
    have hszX:wi.heap.size≤X.heap.size:=by rw[←hX];simp;omega
    clear hX kI d0 d1 d2 d3 s0' s1' s2' s3' s4' s5' w1 hMk
    generalize wi.heap.size=xold at *
    go_wp2_with (go_at_call 82;refine (line_any _ _ _ _ _).mono ?_;rintro e w'⟨rfl,rfl⟩)
    have kA:=(Blk.new X #[.int .i64 i0,.int .i64 j0] 122).alloc (.cells #[.int .i64 i1,.int .i64 j1] 122)
    have kBb:=Blk.new (X.alloc (.cells #[.int .i64 i0,.int .i64 j0] 122)) #[.int .i64 i1,.int .i64 j1] 122
    have kIY:=WI.grown (WI.grown kIX (World.grownBy_alloc X (.cells #[.int .i64 i0,.int .i64 j0] 122) none)) (World.grownBy_alloc _ (.cells #[.int .i64 i1,.int .i64 j1] 122) none)
    have kY1:=(kX.kept (World.grownBy_alloc X (.cells #[.int .i64 i0,.int .i64 j0] 122) none) (fun r e=>by cases e)).kept (World.grownBy_alloc _ (.cells #[.int .i64 i1,.int .i64 j1] 122) none) (fun r e=>by cases e)
    rw[World.size_alloc] at kBb
    have hY2:((X.alloc (.cells #[.int .i64 i0,.int .i64 j0] 122)).alloc (.cells #[.int .i64 i1,.int .i64 j1] 122)).heap.size=X.heap.size+2:=by simp
    obtain⟨Y,hYe⟩:∃Y,(X.alloc (.cells #[.int .i64 i0,.int .i64 j0] 122)).alloc (.cells #[.int .i64 i1,.int .i64 j1] 122)=Y:=⟨_,rfl⟩
    rw[hYe] at kA kBb kIY hY2 kY1 ⊢
    have xM:mb<X.heap.size:=by obtain⟨n,_,h⟩:=kIX.map;exact h.lt
    clear hYe kIX kX
    have yS:=kIY.sheet.lt
    have yB:=kIY.box.lt
    have yW:=kIY.way.lt
    have yM:mb<Y.heap.size:=by omega
    have hYs:=kIY.below.size
    have hDs:∀D∈ds2,D<Y.heap.size:=fun D hD=>(Array.getElem?_eq_some_iff.1 (kY1.is D hD)).1
    obtain⟨EXF,hEF⟩:∃f:World→Prop,f=fun W=>Marks Bm ds2 W:=⟨_,rfl⟩
    have hEx0:EXF Y:=by rw[hEF];exact kY1
    have hExG:∀A A' row,EXF A→A.grownBy A' row→(∀r,row=some r→r=mb∨Y.heap.size≤r)→EXF A':=by
     rw[hEF]
     intro A A' row h hg hr
     exact⟨fun D hD=>(hg.block D (Array.getElem?_eq_some_iff.1 (h.is D hD)).1 (fun e=>by have:=h.high D hD;have:=hDs D hD;rcases hr D e.symm with h1|h1 <;> omega)).trans (h.is D hD),h.high,h.nd⟩
    clear kY1
    refine (wpIn_wide (n:=3)).1 (wpIn_rangeFunc_box 51 10 (fun x:NSpot=>spotV x.1) (fun x=> #[.int .i64 x.1.1,.int .i64 x.1.2]) 122 rfl (by omega) rfl trivial (enters_of func139 (by kernel_rfl) rfl)
     (line_stops 2 (by omega) X.heap.size (X.heap.size+1) (i0,j0) (i1,j1) n0 n1 Y kA kBb) keepB_t (keepB_b kA.lt kBb.lt) (zR _ _) (fun _=>rfl)
     (fun pre W=>(WI ⟨ax,ay,st,sw,sh,sg⟩ id w w.heap.size mb Bm Bw N (#[.int .i64 id,.slice (some ⟨bl,lo,none⟩) line.length lcap,.int .i64 lvl,.string cls,.string nm,.bool stb,.int .i64 wt,.int .i64 di]) en1 pre W∧Y.heap.size≤W.heap.size)∧EXF W) (OwnFrom.and (WI.sized yS yM yB yW hYs) (fun _ A A' row h hg hr=>hExG A A' row h hg (fun r e=> .inr (hr r e).1))) ⟨⟨kIY,yR _⟩,hEx0⟩ ?assign ?body ?done)
    case assign =>
     rintro l pre x W K⟨⟨hI,hYW⟩,hEx⟩ hK
     obtain⟨⟨x0,x1⟩,hx⟩:=x
     gi_wp2
     exact hK _ _ ((KeepsOthers.alloc _ _).from _) (keepB_grown (World.grownBy_alloc W _ none) (by omega) (by omega) (by simp) (by simp)) ⟨⟨WI.grown hI (World.grownBy_alloc W _ none),by simp;omega⟩,hExG _ _ none hEx (World.grownBy_alloc W _ none) (fun r e=>by cases e)⟩ ⟨W.heap.size,hYW,Blk.new W _ _,by first|rfl|simp⟩
    case body =>
     clear hpts hnext henT hrowsH hhid hhpl ht8 hr hen1 hsucc hN hi0 hj0 hi1 hj1 hEl
     rintro l pre x Bx W⟨⟨hI,hYW⟩,hEx⟩ hBx bX hlt
     obtain⟨⟨n,hn,hM⟩,kS,kB,kW',hBel⟩:=hI
     obtain⟨D,hown,hnd,hfit,hkeys⟩:=hM
     obtain⟨⟨x0,x1⟩,hx⟩:=x
     have hlt2:pre.length<4194304:=by have:=lineN_le n0 n1;omega
     have h11:1≤3-1-1:=by omega
     have hfn27:Fence.wide.fn 67:=trivial
     have hsn:=linePut_snoc ⟨ax,ay,st,sw,sh,sg⟩ id en1 pre ⟨(x0,x1),hx⟩
     obtain⟨en,hen⟩:∃en,linePut ⟨ax,ay,st,sw,sh,sg⟩ id en1 pre=en:=⟨_,rfl⟩
     rw[hen] at hnd hfit hkeys hsn
     obtain⟨hk1,hk2⟩:=hkeys (x0,x1) hx
     obtain⟨b2,hb2⟩:∃b,hasK en (x0,x1)=b:=⟨_,rfl⟩
     obtain⟨o,ho⟩:∃o,(idOf en (x0,x1)).getD 0=o:=⟨_,rfl⟩
     obtain⟨b1,hb1⟩:∃b,onS ⟨ax,ay,st,sw,sh,sg⟩ x0 x1=b:=⟨_,rfl⟩
     rw[hb2] at hk1
     rw[ho] at hk2
     replace hk2:=Lib.hid hk2
     simp only[wput,hb1,hb2,ho] at hsn
     replace hb1:=Lib.hid hb1
     have hMH:=Lib.hid (show MapIs W mb n en from ⟨D,hown,hnd,hfit,hkeys⟩)
     have hkH:=Lib.hid hkeys
     clear hkeys hen hb2 ho
     have cB:W.cell? ⟨Bm,0,none⟩=some (.map (some mb)):=kB.cell 0
     have cW:W.cell? ⟨Bw,0,none⟩=some (.int .i64 id):=kW'.cell 0
     have cX0:W.cell? ⟨Bx,0,none⟩=some (.int .i64 x0):=bX.cell 0
     have cX1:W.cell? ⟨Bx,1,none⟩=some (.int .i64 x1):=bX.cell 1
     have c0:W.cell? ⟨w.heap.size,0,none⟩=some (.int .i64 ax):=kS.cell 0
     have c1:W.cell? ⟨w.heap.size,1,none⟩=some (.int .i64 ay):=kS.cell 1
     have c2:W.cell? ⟨w.heap.size,2,none⟩=some (.int .i64 st):=kS.cell 2
     have c3:W.cell? ⟨w.heap.size,3,none⟩=some (.int .i64 sw):=kS.cell 3
     have c4:W.cell? ⟨w.heap.size,4,none⟩=some (.int .i64 sh):=kS.cell 4
     have c5:W.cell? ⟨w.heap.size,5,none⟩=some (.int .i64 sg):=kS.cell 5
     have hend0:∀(a9:Act) p en2,linePut ⟨ax,ay,st,sw,sh,sg⟩ id en1 (pre++[⟨(x0,x1),hx⟩])=en2→en=en2→ownPostG Y.heap.size (KeepB X.heap.size (X.heap.size+1)) (fun pre W=>(WI ⟨ax,ay,st,sw,sh,sg⟩ id w w.heap.size mb Bm Bw N (#[.int .i64 id,.slice (some ⟨bl,lo,none⟩) line.length lcap,.int .i64 lvl,.string cls,.string nm,.bool stb,.int .i64 wt,.int .i64 di]) en1 pre W∧Y.heap.size≤W.heap.size)∧EXF W) (fun _ _ _=>False) (pre++[⟨(x0,x1),hx⟩]) W Exit.normal a9 (W.growBy p):=by
      rintro a9 p en2 e1 rfl
      have hg:=grownBy_growBy W p
      exact⟨KeepsFrom.of_grownBy hg (fun j e=>by cases e),keepB_grown hg (by omega) (by omega) (by simp) (by simp),⟨⟨⟨n,by simp;omega,by rw[e1];exact hMH.out.kept hg (by simp)⟩,kS.kept hg (by simp),kB.kept hg (by simp),kW'.kept hg (by simp),hBel.grown hg hBel.size (fun k e=>by cases e)⟩,Nat.le_trans hYW hg.size⟩,hExG _ _ none hEx hg (fun r e=>by cases e)⟩
     have hend1:∀(a9:Act) p w9,w9.ownsMap prog 122 (plainElem prog 3) mb (n+1) (D.put (klS (x0,x1)) (.lit (.int .i64 id)))→(W.growBy p).grownBy w9 (some mb)→linePut ⟨ax,ay,st,sw,sh,sg⟩ id en1 (pre++[⟨(x0,x1),hx⟩])=putE en (x0,x1) id→ownPostG Y.heap.size (KeepB X.heap.size (X.heap.size+1)) (fun pre W=>(WI ⟨ax,ay,st,sw,sh,sg⟩ id w w.heap.size mb Bm Bw N (#[.int .i64 id,.slice (some ⟨bl,lo,none⟩) line.length lcap,.int .i64 lvl,.string cls,.string nm,.bool stb,.int .i64 wt,.int .i64 di]) en1 pre W∧Y.heap.size≤W.heap.size)∧EXF W) (fun _ _ _=>False) (pre++[⟨(x0,x1),hx⟩]) W Exit.normal a9 w9:=by
      intro a9 p w9 hown9 hg9 e1
      have hg:=grownBy_growBy W p
      have hne:∀b,mb≠b→(some mb:Option Nat)≠some b:=fun b h e=>h (by cases e;rfl)
      have hsz:W.heap.size≤(W.growBy p).heap.size:=hg.size
      exact⟨(KeepsFrom.of_grownBy hg (fun j e=>by cases e)).trans (KeepsFrom.of_grownBy hg9 (fun j e=>by cases e;exact yM)),
       keepB_t (keepB_grown hg (by omega) (by omega) (by simp) (by simp)) (keepB_grown hg9 (by omega) (by omega) (hne _ (by omega)) (hne _ (by omega))),
       ⟨⟨⟨n+1,by simp;omega,by rw[e1];exact MapIs.store (W:=W) hown.isMap hnd hfit hkH.out hx hown9⟩,(kS.kept hg (by simp)).kept hg9 (hne _ (by omega)),(kB.kept hg (by simp)).kept hg9 (hne _ (by omega)),(kW'.kept hg (by simp)).kept hg9 (hne _ (by omega)),(hBel.grown hg hBel.size (fun k e=>by cases e)).grown hg9 (Nat.le_trans hBel.size hsz) (fun k e=>by cases e;omega)⟩,Nat.le_trans (Nat.le_trans hYW hsz) hg9.size⟩,hExG _ _ _ (hExG _ _ none hEx hg (fun r e=>by cases e)) hg9 (fun r e=>by cases e;exact .inl rfl)⟩
     cases b1 with
     |false =>
      simp only[Bool.false_and,Bool.false_eq_true,if_false] at hsn
      replace hsn:=Lib.hid hsn
      cases b2 <;>
      ·gi_wp2_with (first|(gi_at_lookup;refine wpListIn_lookup_own_ok_int _ (by rfl) _ _ 117 (by rfl) 122 3 .i64 spotLaw underlying117 underlying3 (zeroInt _) mb n D (by rfl) hown (spotV (x0,x1)) (klS (x0,x1)) (by rfl) (keyOf_spot hx) ?_;intro c hat hwc;obtain rfl:c=o:=(by rw[hk2.out] at hat;simpa using hat.symm);clear hat hwc;go_frame)|(gi_at_call 67;refine (CallsIn.inRound l ((callsIn_wide (n:=3-1-1-1)).2 (on_any ⟨ax,ay,st,sw,sh,sg⟩ x0 x1 _ _ hb1.out hs))).mono ?_;rintro e w'⟨rfl,hb_⟩;obtain⟨p,rfl⟩:=grow_of_below hb_;clear hb_)|gi_in)
       exact hend0 _ _ _ hsn.out rfl
     |true =>
      cases b2 with
      |false =>
       simp at hsn
       replace hsn:=Lib.hid hsn
       gi_wp2_with (first|(gi_at_lookup;refine wpListIn_lookup_own_ok_int _ (by rfl) _ _ 117 (by rfl) 122 3 .i64 spotLaw underlying117 underlying3 (zeroInt _) mb n D (by rfl) hown (spotV (x0,x1)) (klS (x0,x1)) (by rfl) (keyOf_spot hx) ?_;intro c hat hwc;obtain rfl:c=o:=(by rw[hk2.out] at hat;simpa using hat.symm);clear hat hwc;go_frame)|(gi_at_call 67;refine (CallsIn.inRound l ((callsIn_wide (n:=3-1-1-1)).2 (on_any ⟨ax,ay,st,sw,sh,sg⟩ x0 x1 _ _ hb1.out hs))).mono ?_;rintro e w'⟨rfl,hb_⟩;obtain⟨p,rfl⟩:=grow_of_below hb_;clear hb_)|(gi_at_mapUpdate;refine wpListIn_mapUpdate_own _ (by rfl) _ _ _ 117 (by rfl) 122 3 spotLaw underlying117 _ mb n D (by rfl) (hown.kept (grownBy_growBy W p) (by simp)) (by unfold maxLen;omega) _ _ (klS (x0,x1)) (by rfl) (by rfl) (keyOf_spot hx) _ [] (plainElem_int underlying3 (lit_wf hidy)) ?_;intro w9 hown9 hgrow9)|gi_in)
       exact hend1 _ _ _ (by assumption) (by assumption) hsn.out
      |true =>
       by_cases hio:id<o
       ·simp[hio] at hsn
        replace hsn:=Lib.hid hsn
        gi_wp2_with (first|(gi_at_lookup;refine wpListIn_lookup_own_ok_int _ (by rfl) _ _ 117 (by rfl) 122 3 .i64 spotLaw underlying117 underlying3 (zeroInt _) mb n D (by rfl) hown (spotV (x0,x1)) (klS (x0,x1)) (by rfl) (keyOf_spot hx) ?_;intro c hat hwc;obtain rfl:c=o:=(by rw[hk2.out] at hat;simpa using hat.symm);clear hat hwc;go_frame)|(gi_at_call 67;refine (CallsIn.inRound l ((callsIn_wide (n:=3-1-1-1)).2 (on_any ⟨ax,ay,st,sw,sh,sg⟩ x0 x1 _ _ hb1.out hs))).mono ?_;rintro e w'⟨rfl,hb_⟩;obtain⟨p,rfl⟩:=grow_of_below hb_;clear hb_)|(gi_at_mapUpdate;refine wpListIn_mapUpdate_own _ (by rfl) _ _ _ 117 (by rfl) 122 3 spotLaw underlying117 _ mb n D (by rfl) (hown.kept (grownBy_growBy W p) (by simp)) (by unfold maxLen;omega) _ _ (klS (x0,x1)) (by rfl) (by rfl) (keyOf_spot hx) _ [] (plainElem_int underlying3 (lit_wf hidy)) ?_;intro w9 hown9 hgrow9)|gi_in)
        exact hend1 _ _ _ (by assumption) (by assumption) hsn.out
       ·simp[hio] at hsn
        replace hsn:=Lib.hid hsn
        gi_wp2_with (first|(gi_at_lookup;refine wpListIn_lookup_own_ok_int _ (by rfl) _ _ 117 (by rfl) 122 3 .i64 spotLaw underlying117 underlying3 (zeroInt _) mb n D (by rfl) hown (spotV (x0,x1)) (klS (x0,x1)) (by rfl) (keyOf_spot hx) ?_;intro c hat hwc;obtain rfl:c=o:=(by rw[hk2.out] at hat;simpa using hat.symm);clear hat hwc;go_frame)|(gi_at_call 67;refine (CallsIn.inRound l ((callsIn_wide (n:=3-1-1-1)).2 (on_any ⟨ax,ay,st,sw,sh,sg⟩ x0 x1 _ _ hb1.out hs))).mono ?_;rintro e w'⟨rfl,hb_⟩;obtain⟨p,rfl⟩:=grow_of_below hb_;clear hb_)|(gi_at_mapUpdate;refine wpListIn_mapUpdate_own _ (by rfl) _ _ _ 117 (by rfl) 122 3 spotLaw underlying117 _ mb n D (by rfl) (hown.kept (grownBy_growBy W p) (by simp)) (by unfold maxLen;omega) _ _ (klS (x0,x1)) (by rfl) (by rfl) (keyOf_spot hx) _ [] (plainElem_int underlying3 (lit_wf hidy)) ?_;intro w9 hown9 hgrow9)|gi_in)
        exact hend0 _ _ _ hsn.out rfl
    case done =>
     rintro D1 ys W3 hD1 rfl⟨⟨hI,hYW⟩,hEx⟩ hK1
     rw[hEF] at hEx
     have hys:(upto (lineS (i0,j0) (i1,j1)) (lineN (i0,j0) (i1,j1)+1).toNat).length≤80001:=by rw[upto_length];exact lineN_le n0 n1
     obtain⟨⟨n,hn,hM⟩,h1,h2,kW',h4⟩:=hI
     have hMk3:Marks Bm (D1::ds2) W3:=hEx.cons hK1 (by omega) (fun hm=>by have:=hDs D1 hm;omega)
     have hrel:IRel w ⟨ax,ay,st,sw,sh,sg⟩ mb Bm Bw id line _ en0 t (.int .i64 ((k+1:Nat):Int)) ((D1::ds2).map mark) W3 :=
      ⟨k+1,D1::ds2,hltk,rfl,rfl,⟨⟨n,by have:=nb5 hN.out;omega,by rw[hsucc.out,hen1.out];exact hM⟩,h1,h2,h4,hMk3⟩,kW'⟩
     rw[show ((k+1:Nat):Int)=(k:Int)+1 from rfl] at hrel
     clear hExG hEx0 hEF kIY kA kBb hM h1 h2 h4 hK1 hEx hMk3
     go_wp2_with fail
     refine⟨?_,?measure⟩
     ·(repeat apply Exists.intro)
      refine⟨hrel,?_⟩
      repeat' (first|exact rfl|apply And.intro)
     case measure=>simp[intOf];omega
   ·obtain rfl:k=line.length:=by omega
    have hgek:¬((line.length:Nat):Int)<(line.length:Int):=by omega
    go_wp2_with fail
    have hrel:ORel w ⟨ax,ay,st,sw,sh,sg⟩ mb Bm ws (.int .i64 ((t+1:Nat):Int)) (ds2.map mark) wi:=⟨t+1,ds2,hlt,rfl,rfl,hO.more (nb3 hply) (hnext.out.symm.trans henT.out.symm)⟩
    rw[show ((t+1:Nat):Int)=(t:Int)+1 from rfl] at hrel
    refine⟨?_,?measure⟩
    ·(repeat apply Exists.intro)
     refine⟨hrel,?_⟩
     repeat' (first|exact rfl|apply And.intro)
    case measure=>simp[intOf];omega
 ·obtain rfl:t=ws.length:=by omega
  have hge:¬((ws.length:Nat):Int)<(ws.length:Int):=by omega
  obtain⟨⟨n,hn,hM⟩,h1,h2,h3,h4⟩:=hO
  rw[List.take_of_length_le (by simp)] at hM
  have cB:wr.cell? ⟨Bm,0,none⟩=some (.map (some mb)):=h2.cell 0
  have hord:=ordered_all 2 mb n _ wr hM (by omega) (by omega)
  go_wp2_with (go_at_call 68;refine hord.mono ?_;rintro e w9⟨v,base,rfl,hbase,hrow,hb9⟩)
  refine leaves_marks (Bm:=Bm) (fun W=>W.ownsRow base 54 4 v (dotsS 2 (waysE ⟨ax,ay,st,sw,sh,sg⟩ [] (ws.map Wy.key))).length ((dotsS 2 (waysE ⟨ax,ay,st,sw,sh,sg⟩ [] (ws.map Wy.key))).flatMap encD)∧Below w.heap.size w W) ?_ ?_ ds w9 (h4.below hb9) ⟨hrow,h3.trans (hb9.mono h3.size)⟩
  ·rintro W D⟨k1,k2⟩ hBD hD
   have hg1:=grownBy_putObj' W D (.deferred none)
   exact⟨ownsRow_turn k1 hg1 (fun r e=>by cases e;exact⟨_,hD,fun cur e=>by cases e⟩),k2.grown hg1 k2.size (fun k e=>by cases e;omega)⟩
  ·rintro W⟨k1,k2⟩
   exact⟨_,results_tmp rfl _ _ _,v,base,rfl,Nat.le_trans h3.size hbase,k1,k2⟩
end
end Go.Proofs.YtfocdbjceedagaaGreatDoor
