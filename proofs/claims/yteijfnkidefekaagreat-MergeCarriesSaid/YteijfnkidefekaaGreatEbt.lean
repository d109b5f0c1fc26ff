/-
  Parts.
-/
import Derived.Test.YteijfnkidefekaaGreatEbm
import Derived.Test.YteijfnkidefekaaGreatEbr
set_option linter.unusedVariables false
set_option linter.unusedSimpArgs false
set_option linter.unusedSectionVars false
set_option maxHeartbeats 8000000
set_option maxRecDepth 100000
namespace Go.Proofs.YteijfnkidefekaaGreat
open Tryz
section
open Go Go.RowKit Go.Shelf Go.Lib
variable{n0:Nat}{P:Program}{w:Wd}
def a6v {α:Type}(s1 s2 s3:Bool)(a l r:α):α×Bool :=
 if s1=true\/s2=true then(l,true)else if s3=true then(r,true)else(a,false)
theorem a4c {fn:Func}{p u:Tmp}{ty:Td}(h:fn.results= #[.cell p ty,.tmp u])(tmps:Array Value)(w:Wd)(g:Nat)(t:Td)(cs:Array Value)(fr:Nat×Nat)(d:TypeDesc)
 (hp:tmps.getD p undef= .pointer (some ⟨g,0,none⟩)) (hg:w.heap[g]? =some (.cells cs t fr)) (hu:P.underlying ty=some d) (hd:(match d with | .struct _ | .array _ _=>true|_=>false)=true) (hi:(P.info? ty).map (·.size)=some cs.size) :
 (results fn tmps).run P w= .ok (.tuple #[.agg cs,tmps.getD u undef]) w:=by
 rw[results_cell_tmp h,hp];simp[asAddr,run_loadVar_row w g t ty cs fr d hg hu hd hi,Result.andThen]
theorem c4s (b1 b2 b3:Bool)(a l r:Tg)(w:Wd)(h1:∀X,Below w.heap.size w X->Zc prog 53 #[a2f l,a2f r] X (.bool b1))
 (h2:∀X,Below w.heap.size w X->Zc prog 53 #[a2f r,a2f a] X (.bool b2)) (h3:∀X,Below w.heap.size w X->Zc prog 53 #[a2f l,a2f a] X (.bool b3)) :
 Zc prog 75 #[.agg #[.int .i64 a.k,.pointer a.e,.pointer a.f,.pointer a.w,.pointer a.p,.int .i64 l.k,.pointer l.e,.pointer l.f,.pointer l.w,.pointer l.p,.int .i64 r.k,.pointer r.e,.pointer r.f,.pointer r.w,.pointer r.p],.func (.func 53) #[] #[]] w (.tuple #[a2f (a6v b1 b2 b3 a l r).1,.bool (a6v b1 b2 b3 a l r).2]):=by
 obtain⟨a0,a1,a2,a3,a4⟩:=a;obtain⟨l0,l1,l2,l3,l4⟩:=l;obtain⟨r0,r1,r2,r3,r4⟩:=r;unfold a6v;unfold a2f at *;simp only at *;have kk:∀(cs:Array Value) (v0:Int) (v1 v2 v3 v4:Option Addr),Blk ((w.alloc (.cells cs 153)).alloc (.cells #[.int .i64 v0,.pointer v1,.pointer v2,.pointer v3,.pointer v4] 124)) (w.heap.size+1) #[.int .i64 v0,.pointer v1,.pointer v2,.pointer v3,.pointer v4] 124:=λcs v0 v1 v2 v3 v4=>by
  have:=Blk.new (w.alloc (.cells cs 153)) #[.int .i64 v0,.pointer v1,.pointer v2,.pointer v3,.pointer v4] 124;rw[World.size_alloc]at this;exact this
 replace kk:=Lib.hid kk
 cases b1 <;> cases b2 <;> cases b3
 all_goals
  simp only[Bool.false_eq_true,or_false,or_true,false_or,true_or,if_true,if_false,ite_true,ite_false];go_enter func75,ntmps75;go_wp2_with (first
   |(go_at_call 53;(with_reducible refine(h1 _ (by exact zC)).mono ?_);rintro e w'⟨rfl,aE⟩;obtain⟨q,rfl⟩:=a0j aE;clear aE)
   |(go_at_call 53;(with_reducible refine(h2 _ (by exact zC)).mono ?_);rintro e w'⟨rfl,aE⟩;obtain⟨q,rfl⟩:=a0j aE;clear aE)
   |(go_at_call 53;(with_reducible refine(h3 _ (by exact zC)).mono ?_);rintro e w'⟨rfl,aE⟩;obtain⟨q,rfl⟩:=a0j aE;clear aE))
 all_goals exact bodyPost_ret (a4c qM _ _ _ 124 _ (0,0) _ qM ((kk.out _ _ _ _ _ _).grow _) underlying124 qM zM) rfl ⟨rfl,zC⟩
def TgP (n0:Nat)(W:Wd)(t:Tg)(o:Option Pc):Prop :=
 (o=none/\t=tgZ)\/∃p b off,o=some p/\t=⟨3,none,none,none,some ⟨b,off,none⟩⟩/\AtC plE W b off p/\b<n0
theorem TgP.below {W W':Wd}{t:Tg}{o:Option Pc}(h:TgP n0 W t o)(hb:Below n0 W W'):TgP n0 W' t o :=
 h.imp id λ⟨p,b,off,h1,h2,h3,h4⟩=>⟨p,b,off,h1,h2,h3.below hb h4,h4⟩
theorem c2m {t u:Tg}{o q:Option Pc}(h1:TgP n0 w t o)(h2:TgP n0 w u q):Zc prog 53 #[a2f t,a2f u] w (.bool (decide (o=q))):=by
 rcases h1 with⟨rfl,rfl⟩|⟨p,b,off,rfl,rfl,a1,-⟩
 ·rcases h2 with⟨rfl,rfl⟩|⟨p2,b2,tY,rfl,rfl,a2,-⟩
  ·refine(c1r w).mono ?_
   rintro e w'⟨rfl,hb⟩;exact⟨rfl,hb⟩
  ·refine(a4u tgZ _ w (by show(0:Int)≠3;decide)).mono ?_
   rintro e w'⟨rfl,hb⟩;exact⟨rfl,hb⟩
 ·rcases h2 with⟨rfl,rfl⟩|⟨p2,b2,tY,rfl,rfl,a2,-⟩
  ·refine(a4u _ tgZ w (by show(3:Int)≠0;decide)).mono ?_
   rintro e w'⟨rfl,hb⟩;exact⟨rfl,hb⟩
  ·refine(a9v p p2 b off b2 tY w a1 a2).mono ?_
   rintro e w'⟨rfl,hb⟩;refine⟨?_,hb⟩;rw[show decide (some p=some p2)=decide (p=p2)from decide_eq_decide.2 ⟨λh=>Option.some.inj h,λh=>congrArg some h⟩]
abbrev b6h (pv:Vu):Array Value:= #[.slice none 0 0,.slice none 0 0,.slice none 0 0,pv]
def d0c (n0 M:Nat)(w:Wd)(pv:Vu)(l:List Pc)(w':Wd):Prop :=
 ∃iJ w1,Blk w' M (b6h iJ) 32/\w'.ownsRow n0 48 7 iJ l.length (l.flatMap plE.enc)/\w.grownBy w1 pv.ownBlock/\w1.grownBy w' (some M)
theorem El.step_pushR {α:Type}{E:El α}{st:Td}(hE:E.Ok)(hI:E.In P st){ops:Array Oper}{o:Oper}{a:Act}{l:List α}{K:Act->World->Prop}{Q:Exit->Act->World->Prop}{Z:Prop}(bP:o.guard=none)(sO xO:Operand)(ho:o.op= .call { callee:= .builtin .append,args:= #[sO,xO],argTypes:= #[st,st] })
 {base:Nat} {v:Vu} (hs:a.eval sO=v) (ag:w.ownsRow base E.t E.s v l.length (l.flatMap E.enc)) (x:α) {H:Nat} (hx:a.eval xO= .slice (some ⟨H,0,none⟩) 1 1) (hH:w.heap.size=H) (dz:base<=w.heap.size) (hl:l.length<=100000)
 (h:∀a' c' w',w'.ownsRow base E.t E.s (.slice a' (l++[x]).length c') (l++[x]).length ((l++[x]).flatMap E.enc)->w.grownBy w' v.ownBlock->Below base w w'->K (a.put o.dst (.slice a' (l++[x]).length c')) w') :
 if Region.wanted o (yielded ops a.tmps)=true then Oper.wp P o a (w.alloc (.cells (E.enc x).toArray E.t)) K Q else Z:=by
 subst hH;obtain⟨i,z,hi,hz,aM,mq,fI⟩:=hI.info;have hlen:=hE.len x;refine step_append_lies _ bP sO xO st ho base E.t i z E.s i.bytes hI.under hi hz aM rfl fI hE.pos v l.length _ hs (ag.alloc _) ⟨w.heap.size,0,none⟩ 1 1 (E.enc x) hx (by rw[hlen,Nat.one_mul]) (World.news_of_block (heap_alloc_new _ _)) (hE.one x) xM gM (Nat.le_trans (Nat.mul_le_mul (Nat.add_le_add_right hl 1) mq) jM) uM _ rfl ?_;intro g cap w' aA hg cG ab;have dL:w.grownBy w' v.ownBlock:=by
  exact yco
 have ah:Below base w w':=⟨dL.os,dL.tape,dL.output,dL.size,λk hk=>dL.block k xM (λe=>by have:=(ag.lt k e.symm).1;omega)⟩;have h2:=h (some ⟨g,0,none⟩) cap w' (by simpa[List.flatMap_append]using aA) dL ah;rw[show(l++[x]).length=l.length+1 by simp]at h2;exact h2
theorem c8y {n1:Nat}{t:Tg}{o:Option Pc}(h:TgP n1 w t o)(M:Nat)(pv:Vu)(l:List Pc)(kM:Blk w M (b6h pv) 32)(hr:w.ownsRow n0 48 7 pv l.length (l.flatMap plE.enc))(hn:n0<=w.heap.size)(hl:l.length<=1000):
 Calls prog 76 #[.pointer (some ⟨M,0,none⟩),a2f t] w λe w'=>e= .returned (.tuple #[])/\d0c n0 M w pv (l++o.toList) w':=by
 rcases h with⟨rfl,rfl⟩|⟨p,b,off,rfl,rfl,a1,bz⟩
 ·have hb:Below w.heap.size w (w.alloc (.cells #[.int .i64 0,.pointer none,.pointer none,.pointer none,.pointer none] 124)):=(zR _ _).alloc (yR _) _
  unfold a2f tgZ;go_enter func76,ntmps76;go_wp2_with fail;refine⟨rfl,_,results_none rfl _ _ _,rfl,pv,_,kM.below hb kM.lt,?_,a1i _ (by exact zC),⟨rfl,rfl,rfl,yR _,λ_ _ _=>rfl⟩⟩;exact a0c hr (by exact zC)
 ·obtain⟨id,x,y,cls,nm,wt,ds⟩:=p
  have hb:Below w.heap.size w (w.alloc (.cells #[.int .i64 3,.pointer none,.pointer none,.pointer none,.pointer (some ⟨b,off,none⟩)] 124)):=(zR _ _).alloc (yR _) _;have bS:b<w.heap.size:=World.block_lt_of_cell? w ⟨b,off+0,none⟩ (a1 0 jM);unfold a2f;go_enter func76,ntmps76;go_upto_region 13 with fail;refine a0n (λW1 ao=> ?_);have jy:Below w.heap.size w W1:=by rw[ao];exact zC
  have kT:Blk W1 w.heap.size #[.int .i64 3,.pointer none,.pointer none,.pointer none,.pointer (some ⟨b,off,none⟩)] 124:=by rw[ao];exact Blk.new _ _ _
  clear ao hb;have fH:=kM.below jy kM.lt;have aN:=a0c hr jy;obtain⟨va,vc,rfl,-⟩:=(a0g a2n hr xM).form;have c3:W1.cell? ⟨M,3,none⟩=some (.slice va l.length vc):=fH.cell 3;have f3:=fH.frozen 3;have t4:W1.cell? ⟨w.heap.size,4,none⟩=some (.pointer (some ⟨b,off,none⟩)):=kT.cell 4;have b1:=a1.below jy bS;obtain⟨d0,d1,d2,d3,d4,d5,d6⟩:=b0e b1;have aH:=jy.size;clear a1 b1 kT;obtain⟨X,hX⟩:=zE w.heap.size;rw[hX]at t4 ⊢;have mH:W1.drew.ownsRow n0 48 7 (.slice va l.length vc) l.length (l.flatMap plE.enc):=a0c aN (zR _ _).drew;have sw:Blk W1.drew M (b6h (.slice va l.length vc)) 32:=fH.below (zR _ _).drew fH.lt;have fK:=a0y mH sw jM;go_region_law (refine El.step_pushR a2n b9t qM _ _ qM qM mH ⟨id,x,y,cls,nm,wt,ds⟩ qM qM (by show n0<=W1.heap.size;omega) xM ?_;intro fh eG dx ee bl fJ;have fj:=sw.kept bl fK;have f311:=fj.frozen 3;have GP:dx.cell? ⟨M,3,none⟩=some (.slice va l.length vc):=fj.cell 3)
  all_goals
   try go_simp
   go_wp2_with fail;have aB:=a0d dx M 3 (.slice fh (l.length+1) eG);have Ap:dx.ownsRow n0 48 7 (.slice fh (l.length+1) eG) (l++[(⟨id,x,y,cls,nm,wt,ds⟩:Pc)]).length ((l++[(⟨id,x,y,cls,nm,wt,ds⟩:Pc)]).flatMap plE.enc):=by
    have:=ee;rw[show(l++[(⟨id,x,y,cls,nm,wt,ds⟩:Pc)]).length=l.length+1 by simp]at this ⊢;exact this
   have GQ:=a0y Ap fj jM;have wG:=jy.drew;refine⟨rfl,_,results_none rfl _ _ _,rfl,_,dx,fj.set 3 _,Ap.kept aB (.inr GQ),?_,aB⟩;exact⟨bl.os.trans wG.os,bl.tape.trans wG.tape,bl.output.trans wG.output,Nat.le_trans wG.size bl.size,λk hk an=>(bl.block k (by have:=wG.size;omega) an).trans (wG.block k hk)⟩
end
section
open Go Go.RowKit Go.Shelf Go.Lib Go.Maps
variable{i:Int}{P:List Pc}{c n0:Nat}{x:Option Addr}{p:Pc}{W W' w:Wd}
def a2p (P:List Pc)(i:Int):Option Pc:=P.find? λp=>p.id==i
def a6c (a l r:Option Pc):Option Pc×Bool:=a6v (decide (l=r)) (decide (r=a)) (decide (l=a)) a l r
def b6i (A L R:List Pc)(S:List Int):List Pc:=S.filterMap λi=>(a6c (a2p A i) (a2p L i) (a2p R i)).1
def a7y (A L R:List Pc)(S:List Int):List Int:=S.filter λi=> !(a6c (a2p A i) (a2p L i) (a2p R i)).2
abbrev thP (x:Option Addr)(P:List Pc):List (Int×Tg):=a1e (a1z none none none x [] [] [] P) []
theorem c4t (P:List Pc):ids (a1d [] [] [] P)=P.map Pc.id:=by simp[ids,a1d]
theorem b6j (x:Option Addr)(P:List Pc)(i:Int):i∈(thP x P).map (·.1)↔i∈P.map Pc.id:=by
 rw[b3f,a5w,c4t];simp
theorem b9h (hn:(P.map Pc.id).Nodup){k:Nat}(hk:k<P.length):a2p P P[k].id=some P[k]:=by
 unfold a2p
 cases h:P.find? (λp=>p.id==P[k].id)with
 |none =>
  have:=List.find?_eq_none.1 h P[k] (List.getElem_mem hk);simp at this
 |some q =>
  have h1:=List.mem_of_find?_eq_some h;have h2:q.id=P[k].id:=by simpa using List.find?_some h
  rw[a2z Pc.id hn h1 (List.getElem_mem hk) h2]
theorem b9i (h:i∉P.map Pc.id):a2p P i=none:=by
 unfold a2p;rw[List.find?_eq_none];intro p hp;simpa using λe=>h (List.mem_map.2 ⟨p,hp,e⟩)
theorem c2n (h:Lst plE n0 w (.slice x P.length c) P)(hn:(P.map Pc.id).Nodup)(i:Int):TgP n0 w (a6e (thP x P) i) (a2p P i):=by
 have dp:(ids (a1d [] [] [] P)).Nodup:=by rw[c4t];exact hn
 rcases a5z (x0:=none) (x1:=none) (x2:=none) (x3:=x) dp i with⟨k,hk,-⟩|⟨k,hk,-⟩|⟨k,hk,-⟩|⟨k,hk,rfl,e⟩|⟨h1,e⟩
 ·exact absurd hk (Nat.not_lt_zero k)
 ·exact absurd hk (Nat.not_lt_zero k)
 ·exact absurd hk (Nat.not_lt_zero k)
 ·rw[e,b9h hn hk]
  obtain⟨b,off,cap,hv,-,ab,hc⟩:=h.some_ xM;simp only[Value.slice.injEq,true_and]at hv;obtain⟨rfl,-⟩:=hv;exact .inr ⟨P[k],b,off+k*7,rfl,rfl,λi hi=>hc k hk i hi,ab⟩
 ·rw[c4t]at h1
  rw[e,b9i h1];exact .inl ⟨rfl,rfl⟩
theorem c2o (A L R:List Pc)(S:List Int)(k:Nat)(hk:k<S.length):b6i A L R (S.take (k+1))=b6i A L R (S.take k)++(a6c (a2p A S[k]) (a2p L S[k]) (a2p R S[k])).1.toList:=by
 unfold b6i;rw[<-List.take_append_getElem hk,List.filterMap_append];simp only[List.filterMap_cons,List.filterMap_nil]
 cases h:(a6c (a2p A S[k]) (a2p L S[k]) (a2p R S[k])).1 <;> simp
theorem c2p (A L R:List Pc)(S:List Int)(k:Nat)(hk:k<S.length):a7y A L R (S.take (k+1))=a7y A L R (S.take k)++(if(a6c (a2p A S[k]) (a2p L S[k]) (a2p R S[k])).2=true then []else [S[k]]):=by
 unfold a7y;rw[<-List.take_append_getElem hk,List.filter_append];simp only[List.filter_cons,List.filter_nil]
 cases h:(a6c (a2p A S[k]) (a2p L S[k]) (a2p R S[k])).2 <;> simp
theorem TgP.pick {ta tl tr:Tg}{a l r:Option Pc}(ha:TgP n0 W ta a)(hl:TgP n0 W tl l)(hr:TgP n0 W tr r)(b1 b2 b3:Bool):TgP n0 W (a6v b1 b2 b3 ta tl tr).1 (a6v b1 b2 b3 a l r).1/\(a6v b1 b2 b3 ta tl tr).2=(a6v b1 b2 b3 a l r).2:=by
 unfold a6v;split
 ·exact⟨hl,rfl⟩
 ·split
  ·exact⟨hr,rfl⟩
  ·exact⟨ha,rfl⟩
theorem a8w (h:a2p P i=some p):p∈P/\p.id=i:=⟨List.mem_of_find?_eq_some h,by simpa using List.find?_some h⟩
theorem c2q {a l r:Option Pc}(h:(a6c a l r).1=some p):a=some p\/l=some p\/r=some p:=by
 unfold a6c a6v at h;split at h
 ·exact .inr (.inl h)
 ·split at h
  ·exact .inr (.inr h)
  ·exact .inl h
theorem c4u {A L R:List Pc}{S:List Int}(h:p∈b6i A L R S):p∈A\/p∈L\/p∈R:=by
 unfold b6i at h;obtain⟨i,-,hp⟩:=List.mem_filterMap.1 h;rcases c2q hp with h|h|h
 ·exact .inl (a8w h).1
 ·exact .inr (.inl (a8w h).1)
 ·exact .inr (.inr (a8w h).1)
theorem c7z {a:Option Addr}{l:List Pc}(h:W.ownsRow n0 48 7 (.slice a l.length c) l.length (l.flatMap plE.enc))(hl:l.length<=1000)(hf:∀p∈l,a0l p.id):MapV W.heap.size W (.slice none 0 0) (.slice none 0 0) (.slice none 0 0) (.slice a l.length c) [] [] [] l :=
 { e:=Lst.nil _ _ _,ef:= .inl rfl,el:=λx hx=>by cases hx
   f:=Lst.nil _ _ _,ff:= .inl rfl
   w:=Lst.nil _ _ _,wf:= .inl rfl,wl:=λx hx=>by cases hx
   p:=a0g a2n h xM,pf:=a0o h
   ne:=Nat.zero_le _,nf:=Nat.zero_le _,nw:=Nat.zero_le _,np:=hl
   ei:=λx hx=>by cases hx
   fi:=λx hx=>by cases hx
   wi:=λx hx=>by cases hx
   pi:=hf }
theorem c2r {a l r:Option Pc}(h:(a6c a l r).2=false):(a6c a l r).1=a/\(a=none->l≠none):=by
 unfold a6c a6v at *;split at h
 ·cases h
 ·rename_i h1
  split at h
  ·cases h
  ·rename_i h2
   rw[if_neg h1,if_neg h2];refine⟨rfl,λe e2=> ?_⟩;simp only[decide_eq_true_eq]at h2;exact h2 (by rw[e,e2])
abbrev cfE :El Int:=⟨106,2,λi=>[.int .i64 3,.int .i64 i]⟩
theorem c8z:cfE.Ok:=⟨λ_=>rfl,jM,λx u hu=>by
 simp at hu;rcases hu with rfl|rfl <;> rfl⟩
theorem c9w:cfE.In prog 102:=El.in_of (z:= .agg #[.int .i64 0,.int .i64 0]) (s:=2) (bytes:=16) underlying102 zM rfl xM rfl
abbrev boV :Vh Bool:=⟨4,λb=> .bool b,false⟩
theorem c2s (mb:Option Nat)(W:Wd):Calls prog 74 #[.map mb] W λe w'=>e= .returned (.func (.func 109) #[] #[.pointer (some ⟨W.heap.size,0,none⟩)])/\w'=W.alloc (.cells #[.map mb] 148) :=
 (callsIn_wide (n:=5)).1 (AnyZI.keys_in Tryz.keysB Fence.wide 5 trivial rfl mb W)
theorem b6k {β:Type}{V:Vh β}(B b n:Nat)(en:List (Int×β))(W:Wd)(hB:W.cell? ⟨B,0,none⟩=some (.map (some b)))(hm:MapH prog inKy V W b n en)(hl:en.length<=100000):
 Calls prog 51 #[.func (.func 109) #[] #[.pointer (some ⟨B,0,none⟩)]] W λe w'=>∃v,e= .returned v/\w'.ownsRow W.heap.size 3 1 v en.length ((sortI (en.map (·.1))).map (Value.int .i64))/\Below W.heap.size W w':=by
 obtain⟨D,ho,hp,hs⟩:=hm.perm;have de:SeqGives Fence.wide 2 prog 109 #[.pointer (some ⟨B,0,none⟩)] encZ (λss=>ss.Perm (intKeys D)) (Maps.size D) W :=
  AnyZI.keys_gives (ρ:=Tryz.keysB_ren) { Tryz.keysB with } Fence.wide _ trivial rfl xM B b n D W (World.block_lt_of_cell? _ _ hB) hB ho
 have cS:=AnyZI.sorted_in Tryz.sortedI Fence.wide 5 trivial trivial trivial trivial rfl xM (b7c _) (enters_of func72 zM rfl) 109 #[.pointer (some ⟨B,0,none⟩)] trivial (enters_of func109 zM rfl) _ _ (by rw[hs];unfold maxLen;omega) (by rw[hs];omega) _ de;exact ydp
structure PMap (n0:Nat)(W:Wd)(x:Option Addr)(c:Nat)(P:List Pc):Prop where
 m:MapV n0 W (.slice none 0 0) (.slice none 0 0) (.slice none 0 0) (.slice x P.length c) [] [] [] P
 n:(P.map Pc.id).Nodup
 l:P.length<=10
theorem PMap.up (h:PMap W.heap.size W x c P)(hb:Below W.heap.size W W'):PMap W'.heap.size W' x c P:=⟨h.m.up hb,h.n,h.l⟩
theorem PMap.below (h:PMap n0 W x c P)(hb:Below n0 W W'):PMap n0 W' x c P:=⟨h.m.below hb,h.n,h.l⟩
theorem PMap.things (h:PMap w.heap.size w x c P)(X:Wd)(hb:Below w.heap.size w X):
 Calls prog 17 #[.agg (b6h (.slice x P.length c))] X λe w'=>∃b,e= .returned (.tuple #[.map (some b),.bool true])/\X.heap.size<=b/\(∃n,MapH prog inKy tgV w' b n (thP x P))/\Below X.heap.size X w':=by
 have:=a3p none none none x 0 0 0 c [] [] [] P X (h.m.at_ hb);rw[show decide (ids (a1d [] [] [] P)).Nodup=true by rw[c4t];exact decide_eq_true h.n]at this;exact this
theorem b6l (x:Option Addr)(P:List Pc):(thP x P).length<=P.length:=by
 have:=(a8q (a1z none none none x [] [] [] P) []).1;unfold a1z tgE tgF tgY tgP at this;simpa[thP,a1z,tgE,tgF,tgY,tgP]using this
def KU (kf:Nat->List Int)(k:Nat)(i:Int):Prop:=∃j,j<k/\i∈kf j
structure MpI (BO:Nat)(sv:Vu)(S:List Int)(out:List Pc)(bad:List Int)(pv bv:Vu)(W0 W:Wd):Prop where
 o:Blk W BO (b6h pv) 32
 p:W.ownsRow BO 48 7 pv out.length (out.flatMap plE.enc)
 b:W.ownsRow BO 106 2 bv bad.length (bad.flatMap cfE.enc)
 s:W.ownsRow BO 3 1 sv S.length (S.flatMap nE.enc)
 bel:Below BO W0 W
def MpL (BO:Nat)(sv:Vu)(S:List Int)(A L R:List Pc)(W0:Wd)(k:Nat)(bv:Vu)(W:Wd):Prop:=∃pv,MpI BO sv S (b6i A L R (S.take k)) (a7y A L R (S.take k)) pv bv W0 W
abbrev c8n (W:Wd)(BH b1 b2 b3:Nat):Prop:=Blk W BH #[.map (some b1),.map (some b2),.map (some b3)] 62
structure InQ (kf:Nat->List Int)(k bi:Nat)(D:DataW Value)(W5:Wd)(left:Lit->Bool)(cnt m:Nat)(em:List (Int×Bool))(W:Wd):Prop where
 h:MapH prog inKy boV W bi m em
 n:m+cnt<=10*k+10
 l:em.length<=m
 lo:∀i,KU kf k i->i∈em.map (·.1)
 hi:∀i,i∈em.map (·.1)->KU kf (k+1) i
 d:∀p,a0l p->has D (.int .i64 p)=true->left (.int .i64 p)=false->p∈em.map (·.1)
 b:Below bi W5 W
def InL (kf:Nat->List Int)(k bi BH b1 b2 b3 mb IT mn:Nat)(D:DataW Value)(W5:Wd)(W:Wd):Prop :=
 ∃left cnt m em,W.ranges prog 3 c0n mb IT mn D left cnt/\InQ kf k bi D W5 left cnt m em W/\c8n W BH b1 b2 b3
structure OuQ (kf:Nat->List Int)(k bi BH b1 b2 b3:Nat)(W5:Wd)(n:Nat)(en:List (Int×Bool))(W:Wd):Prop where
 h:MapH prog inKy boV W bi n en
 nn:n<=10*k
 l:en.length<=n
 u:∀i,i∈en.map (·.1)↔KU kf k i
 b:Below bi W5 W
 k:c8n W BH b1 b2 b3
def OuL (kf:Nat->List Int)(bi BH b1 b2 b3:Nat)(W5:Wd)(k:Nat)(W:Wd):Prop:=∃n en,OuQ kf k bi BH b1 b2 b3 W5 n en W
def c9a (A L R:List Pc)(w:Wd)(e:Ending)(w':Wd):Prop :=
 Below w.heap.size w w'/\∃S a0 d0 a1 d1 a2 d2 a3 d3 P' ba bc,e= .returned (.tuple #[.agg #[.slice a0 0 d0,.slice a1 0 d1,.slice a2 0 d2,.slice a3 (List.length P') d3],.slice ba (a7y A L R S).length bc])/\MapV w'.heap.size w' (.slice a0 0 d0) (.slice a1 0 d1) (.slice a2 0 d2) (.slice a3 P'.length d3) [] [] [] P'/\(b6i A L R S).Perm P'/\Inc Pc.id P' /\
  Lst cfE w'.heap.size w' (.slice ba (a7y A L R S).length bc) (a7y A L R S)/\S.Nodup/\S.Pairwise (·<=·)/\∀i,i∈S↔i∈A.map Pc.id\/i∈L.map Pc.id\/i∈R.map Pc.id
theorem c8a (A L R:List Pc)(xa xl xr:Option Addr)(ca cl cr:Nat)(w:Wd)(hA:PMap w.heap.size w xa ca A)(hL:PMap w.heap.size w xl cl L)(hR:PMap w.heap.size w xr cr R):
 Calls prog 39 #[.agg (b6h (.slice xa A.length ca)),.agg (b6h (.slice xl L.length cl)),.agg (b6h (.slice xr R.length cr))] w (c9a A L R w):=by
 have GR:=hA.things;have GS:=hL.things;have GU:=hR.things;unfold b6h at *;obtain⟨vA,JL⟩:∃v:Value,.slice xa A.length ca=v:=⟨_,rfl⟩;obtain⟨vL,wH⟩:∃v:Value,.slice xl L.length cl=v:=⟨_,rfl⟩;obtain⟨vR,wI⟩:∃v:Value,.slice xr R.length cr=v:=⟨_,rfl⟩;have kA:=(((Blk.new w #[.slice none 0 0,.slice none 0 0,.slice none 0 0,.slice xa A.length ca] 32).alloc (.cells #[.slice none 0 0,.slice none 0 0,.slice none 0 0,.slice xl L.length cl] 32)).alloc (.cells #[.slice none 0 0,.slice none 0 0,.slice none 0 0,.slice xr R.length cr] 32)).alloc (.cells #[.slice none 0 0,.slice none 0 0,.slice none 0 0,.slice none 0 0] 32);have kL:=((Blk.new (w.alloc (.cells #[.slice none 0 0,.slice none 0 0,.slice none 0 0,.slice xa A.length ca] 32)) #[.slice none 0 0,.slice none 0 0,.slice none 0 0,.slice xl L.length cl] 32).alloc (.cells #[.slice none 0 0,.slice none 0 0,.slice none 0 0,.slice xr R.length cr] 32)).alloc (.cells #[.slice none 0 0,.slice none 0 0,.slice none 0 0,.slice none 0 0] 32);have kR:=(Blk.new ((w.alloc (.cells #[.slice none 0 0,.slice none 0 0,.slice none 0 0,.slice xa A.length ca] 32)).alloc (.cells #[.slice none 0 0,.slice none 0 0,.slice none 0 0,.slice xl L.length cl] 32)) #[.slice none 0 0,.slice none 0 0,.slice none 0 0,.slice xr R.length cr] 32).alloc (.cells #[.slice none 0 0,.slice none 0 0,.slice none 0 0,.slice none 0 0] 32);have kO:=Blk.new (((w.alloc (.cells #[.slice none 0 0,.slice none 0 0,.slice none 0 0,.slice xa A.length ca] 32)).alloc (.cells #[.slice none 0 0,.slice none 0 0,.slice none 0 0,.slice xl L.length cl] 32)).alloc (.cells #[.slice none 0 0,.slice none 0 0,.slice none 0 0,.slice xr R.length cr] 32)) #[.slice none 0 0,.slice none 0 0,.slice none 0 0,.slice none 0 0] 32;have bE:Below w.heap.size w ((((w.alloc (.cells #[.slice none 0 0,.slice none 0 0,.slice none 0 0,.slice xa A.length ca] 32)).alloc (.cells #[.slice none 0 0,.slice none 0 0,.slice none 0 0,.slice xl L.length cl] 32)).alloc (.cells #[.slice none 0 0,.slice none 0 0,.slice none 0 0,.slice xr R.length cr] 32)).alloc (.cells #[.slice none 0 0,.slice none 0 0,.slice none 0 0,.slice none 0 0] 32)):=by exact zC
 simp only[World.size_alloc]at kA kL kR kO;rw[JL]at GR;rw[wH]at GS;rw[wI]at GU;rw[JL,wH,wI]at kA kL kR kO bE ⊢;go_enter func39,ntmps39;go_upto_region 1 with fail;obtain⟨W0,dH⟩:=zE ((((w.alloc (.cells #[.slice none 0 0,.slice none 0 0,.slice none 0 0,vA] 32)).alloc (.cells #[.slice none 0 0,.slice none 0 0,.slice none 0 0,vL] 32)).alloc (.cells #[.slice none 0 0,.slice none 0 0,.slice none 0 0,vR] 32)).alloc (.cells #[.slice none 0 0,.slice none 0 0,.slice none 0 0,.slice none 0 0] 32));have dm:W0.heap.size=w.heap.size+1+1+1+1:=by rw[<-dH];simp
 rw[dH]at kA kL kR kO bE ⊢;clear dH;obtain⟨X0,rQ⟩:=zE w.heap.size;obtain⟨X1,mG⟩:=zE (X0+1);obtain⟨X2,Cx⟩:=zE (X1+1);obtain⟨X3,JM⟩:=zE (X2+1);rw[rQ]at kA kL kR kO dm ⊢;rw[mG]at kL kR kO dm ⊢;rw[Cx]at kR kO dm ⊢;rw[JM]at kO dm ⊢;obtain⟨m0,m1,m2,m3⟩:=zN4 kA;go_upto_region 2 with(first
  |(go_at_call 17;(with_reducible refine(GR _ bE).mono ?_);rintro e W1⟨b1,rfl,gG,⟨n1,bR⟩,ah⟩))
 have et:=bE.trans (ah.mono xM);have aH:=ah.size;replace kL:=kL.below ah kL.lt;replace kR:=kR.below ah kR.lt;replace kO:=kO.below ah kO.lt;clear m0 m1 m2 m3 kA GR;obtain⟨m0,m1,m2,m3⟩:=zN4 kL;go_upto_region 3 with(first
  |(go_at_call 17;(with_reducible refine(GS _ et).mono ?_);rintro e W2⟨b2,rfl,dC,⟨n2,ij⟩,aq⟩))
 have a8:=et.trans (aq.mono xM);have bn:=aq.size;replace kR:=kR.below aq kR.lt;replace kO:=kO.below aq kO.lt;replace bR:=bR.below aq bR.lt;clear m0 m1 m2 m3 kL GS;obtain⟨m0,m1,m2,m3⟩:=zN4 kR;go_upto_region 4 with(first
  |(go_at_call 17;(with_reducible refine(GU _ a8).mono ?_);rintro e W3⟨b3,rfl,jY,⟨n3,jT⟩,b9⟩))
 have aK:=a8.trans (b9.mono xM);have gm:=b9.size;replace kO:=kO.below b9 kO.lt;replace bR:=bR.below b9 bR.lt;replace ij:=ij.below b9 ij.lt;clear m0 m1 m2 m3 kR GU;have q1:=bR.lt;have q2:=ij.lt;have q3:=jT.lt;have oV:= @run_makeMap prog;go_upto_region 7 with fail;clear oV;obtain⟨W4,cU⟩:=zE (W3.alloc (.map #[] 0));have hI:=MapH.made prog inKy boV W3;have bh:Below W3.heap.size W3 (W3.alloc (.map #[] 0)):=(zR _ _).alloc (yR _) _;have oy:(W3.alloc (.map #[] 0)).heap.size=W3.heap.size+1:=by simp
 rw[cU]at hI bh oy ⊢;clear cU;obtain⟨bi,JN⟩:=zE W3.heap.size;rw[JN]at hI oy bh ⊢;replace kO:=kO.below bh (by have:=kO.lt;omega);replace bR:=bR.below bh (by have:=bR.lt;omega);replace ij:=ij.below bh (by have:=ij.lt;omega);replace jT:=jT.below bh (by have:=jT.lt;omega);have lV:=aK.trans (bh.mono (by have:=aK.size;omega));obtain⟨bf,rq⟩:∃f:Nat->Nat,f=λk=>match k with|0=>b1|1=>b2|_=>b3:=⟨_,rfl⟩
 obtain⟨nf,bZ⟩:∃f:Nat->Nat,f=λk=>match k with|0=>n1|1=>n2|_=>n3:=⟨_,rfl⟩
 obtain⟨ef,mU⟩:∃f:Nat->List (Int×Tg),f=λk=>match k with|0=>thP xa A|1=>thP xl L|_=>thP xr R:=⟨_,rfl⟩
 have vD:∀k,k<3->MapH prog inKy tgV W4 (bf k) (nf k) (ef k)/\bf k<bi:=λk hk=>by
  subst rq bZ mU;match k,hk with
  |0,_=>exact⟨bR,(by omega:b1<bi)⟩
  |1,_=>exact⟨ij,(by omega:b2<bi)⟩
  |2,_=>exact⟨jT,(by omega:b3<bi)⟩
 have kH:=Blk.new W4 #[.map (some b1),.map (some b2),.map (some b3)] 62;have aI:Below W4.heap.size W4 (W4.alloc (.cells #[.map (some b1),.map (some b2),.map (some b3)] 62)):=(zR _ _).alloc (yR _) _;have ou:(W4.alloc (.cells #[.map (some b1),.map (some b2),.map (some b3)] 62)).heap.size=W4.heap.size+1:=by simp
 go_wp2_with fail;obtain⟨W5,bL⟩:=zE (W4.alloc (.cells #[.map (some b1),.map (some b2),.map (some b3)] 62));rw[bL]at kH aI ou ⊢;clear bL;rw[oy]at kH aI ou;obtain⟨BH,JO⟩:=zE (bi+1);rw[JO]at kH aI ou ⊢;have JP:=hI.below aI xM;have js:∀k,k<3->MapH prog inKy tgV W5 (bf k) (nf k) (ef k)/\bf k<bi:=λk hk=>⟨(vD k hk).1.below aI (by have:=(vD k hk).2;omega),(vD k hk).2⟩
 have JQ:∀X,Blk X BH #[.map (some b1),.map (some b2),.map (some b3)] 62->∀k,k<3->X.cell? ⟨BH,k,none⟩=some (.map (some (bf k))):=λX h k hk=>by
  subst rq;match k,hk with
  |0,_=>exact h.cell 0
  |1,_=>exact h.cell 1
  |2,_=>exact h.cell 2
 have qv:∀k,k<3->(ef k).length<=10:=λk hk=>by
  subst mU;match k,hk with
  |0,_=>exact Nat.le_trans (b6l _ _) hA.l
  |1,_=>exact Nat.le_trans (b6l _ _) hL.l
  |2,_=>exact Nat.le_trans (b6l _ _) hR.l
 obtain⟨kf,wJ⟩:∃f:Nat->List Int,f=λk=>(ef k).map (·.1):=⟨_,rfl⟩
 have GV:bi<BH:=xM;replace rq:=Lib.hid rq;replace bZ:=Lib.hid bZ;replace mU:=Lib.hid mU;clear hI vD bR ij jT;go_loopw [57] (λkk wr=>∃k:Nat,k<=3/\kk= .int .i64 (k:Nat)/\OuL kf bi BH b1 b2 b3 W5 k wr) (λkk _=>3-(intOf kk).toNat)
 case atStart=>exact⟨0,xM,rfl,0,[],JP,xM,yR _,λi=>⟨λh=>by simp at h,λ⟨j,hj,_⟩=>absurd hj (Nat.not_lt_zero j)⟩,zR _ _,kH⟩
 case round =>
  clear kH JP;obtain⟨k,hk,rfl,JR⟩:=hrel;by_cases ab:k<3
  ·have aj:(k:Int)<3:=xM
   obtain⟨n,en,hR⟩:=JR;have cC:=JQ _ hR.k k ab;obtain⟨JS,pK⟩:=js k ab;have GW:=JS.below hR.b pK;obtain⟨D,aA,tO,qJ,aM,oK⟩:=GW;have hlen:=qv k ab;obtain⟨mb,jE⟩:=zE (bf k);obtain⟨mn,mE⟩:=zE (nf k);obtain⟨me,mT⟩:=zE (ef k);rw[jE]at cC aA pK;rw[mE]at aA;rw[mT]at tO qJ aM oK hlen;have ng:kf k=me.map (·.1):=by rw[wJ];simp only[mT]
   go_wp2_with (first|(at_range;refine wpList_range_own _ rfl _ 62 rfl 3 124 inKyL.law underlying62 _ mb mn _ rfl aA ?_;intro w7 uN wm OX)|fail);try go_frame
   have JT:=hR.h.kept wm vM;have nY:Below bi W5 w7:=hR.b.grown wm (by have:=hR.b.size;omega) (λk e=>by cases e);have dX:=hR.b.size;obtain⟨IT,OZ⟩:=zE wr.heap.size;rw[OZ]at uN OX dX ⊢;have JU:=hR.k.kept wm vM;have O0:bi<IT:=xM;have GX:IT≠BH:=xM;have qK:∀p,a0l p->has D (.int .i64 p)=b2c me p:=λp hp=>(oK p hp).1
   have ai:InL kf k bi BH b1 b2 b3 mb IT mn D W5 w7:=⟨_,_,n,en,uN,⟨JT,by have:=hR.nn;omega,hR.l,λi h=>(hR.u i).2 h,λi h=>by obtain⟨j,hj,hi⟩:=(hR.u i).1 h;exact⟨j,xM,hi⟩,λp hp h1 h2=>(by rw[h1]at h2;cases h2),nY⟩,JU⟩;replace qK:=Lib.hid qK;replace qJ:=Lib.hid qJ;replace ng:=Lib.hid ng;replace aM:=Lib.hid aM;replace wJ:=Lib.hid wJ;clear hR aA wm oK JS cC JT nY JU uN tO;go_loopw [] (λwq=>InL kf k bi BH b1 b2 b3 mb IT mn D W5 wq) (λwq=>wq.rangeLeft mb IT)
   case atStart=>exact ai
   case round =>
    clear ai;obtain⟨left,cnt,m,em,Cy,hQ,Cz⟩:=hrel;go_wp2_with (first
     |(at_next;refine wpList_next_ranges _ rfl _ rfl 3 inKyL.law c0n (λx:Int=>Value.int .i64 x) id (λkey kl hk=>by obtain⟨x,_,hx,_⟩:=inKyL.inv hk;exact⟨x,hx⟩) (λv _ _=>⟨v,rfl⟩) mb IT mn _ _ _ rfl Cy ?_ ?_))
    ·intro gV rS
     have aa:∀i,i∈em.map (·.1)↔KU kf (k+1) i:=λi=>⟨hQ.hi i,λ⟨j,hj,hi⟩=>by
      by_cases gq:j=k
      ·subst gq
       rw[ng.out]at hi;obtain⟨e,he,rfl⟩:=List.mem_map.1 hi;have Aq:=qJ.out e he;exact hQ.d _ Aq (by rw[qK.out _ Aq];exact hasG_iff.2 hi) (rS _)
      ·exact hQ.lo i ⟨j,xM,hi⟩⟩
     have cY:OuL kf bi BH b1 b2 b3 W5 (k+1) wr:=⟨m,em,hQ.h,by have:=hQ.n;omega,hQ.l,aa,hQ.b,Cz⟩;clear rS aa hQ Cz Cy;go_wp2_with fail;go_roundw
     case rel=>exact⟨k+1,xM,by go_num,cY⟩
     case measure=>simp[intOf];omega
    ·intro x7 c kl yd yp w3 GY sx mJ hv uz Ar eL fM cX pA
     obtain⟨x',fx,ex,rfl⟩:=inKyL.inv sx;obtain rfl:x7=x':=inKyL.vinj ex;have hh:b2c me x7=true:=by rw[<-qK.out x7 fx];exact has_true_of_atKey uz
     have JV:x7∈kf k:=by rw[ng.out];exact hasG_iff.1 hh
     have JW:=hQ.h.kept fM uM;have JX:c8n w3 BH b1 b2 b3:=Cz.kept fM (by simpa using GX);have dF:Below bi W5 w3:=hQ.b.grown fM (by have:=hQ.b.size;omega) (λk e=>by cases e;omega);have qe:m+cnt<=10*k+10:=hQ.n;go_wp2_with (first
      |(at_mapUpdate;refine JW.wp_store inKyL qM _ _ _ 148 qM underlying148 qM gM fx qM (y:=true) qM ?_;intro w9 sF aU))
     have uO:=Ar.kept aU uM uM;have JY:c8n w9 BH b1 b2 b3:=JX.kept aU uM;have oU:Below bi W5 w9:=dF.trans (a0f aU (by have:=dF.size;omega) (λr e=>by cases e;omega));have eY:∀i,i∈(a7a em x7 true).map (·.1)↔i=x7\/i∈em.map (·.1):=λi=>by
      exact yia
     have gH:InL kf k bi BH b1 b2 b3 mb IT mn D W5 w9:=⟨_,GY,m+1,_,uO,⟨sF,xM,by have:=hQ.l;rw[a5d];split <;> omega,λi hi=>(eY i).2 (.inr (hQ.lo i hi)),λi hi=>((eY i).1 hi).elim (λe=>⟨k,xM,e▸JV⟩) (hQ.hi i),λp hp h1 h2=>by
      rw[show(Lit.int .i64 p).sameKey (.int .i64 x7)=decide (p=x7)from inKyL.same hp fx]at h2
      cases hl:left (.int .i64 p)
      ·exact(eY p).2 (.inr (hQ.d p hp h1 hl))
      ·rw[hl]at h2
       exact(eY p).2 (.inl (by simpa using h2)),oU⟩,JY⟩
     have qf:w9.rangeLeft mb IT<wr.rangeLeft mb IT:=by
      rw[uO.left_eq,Cy.left_eq];exact eL
     clear hQ JW JX dF sF aU fM cX pA uz hv mJ sx hh JV eY uO JY oU Ar Cy Cz;try go_frame
     go_wp2_with fail;go_roundw
     case rel=>exact gH
     case measure=>exact qf
  ·obtain rfl:k=3:=xM
   have aT:¬(3:Int)<3:=xM;obtain⟨n,en,hR⟩:=JR;have GZ:=hR.h;have JZ:=hR.u;have G0:=hR.b;have O1:=hR.nn;have pg:=hR.l;clear hR;have dX:=G0.size;have kB:=Blk.new wr a1s 32;have bC:Below wr.heap.size wr (wr.alloc (.cells a1s 32)):=(zR _ _).alloc (yR _) _;have uB:(wr.alloc (.cells a1s 32)).heap.size=wr.heap.size+1:=by simp
   have CA:=GZ.alloc (.cells a1s 32);unfold a1s at kB bC uB CA;have O2:en.length<=100:=xM;go_upto_region 17 with fail;obtain⟨W6,fU⟩:=zE (wr.alloc (.cells #[.slice none 0 0,.slice none 0 0,.slice none 0 0,.slice none 0 0] 32));rw[fU]at kB bC uB CA ⊢;clear fU;obtain⟨BO,dW⟩:=zE wr.heap.size;rw[dW]at kB uB ⊢;have kK:=Blk.new W6 #[.map (some bi)] 148;have jR:=b6k (BO+1) bi n en _ (uB▸kK.cell 0) (CA.alloc (.cells #[.map (some bi)] 148)) xM;have tO:=GZ.nodup;obtain⟨S,hS⟩:=zE (sortI (en.map (·.1)));have JD:en.length=S.length:=by rw[<-hS,(a1g _).length_eq,List.length_map]
   have nX:S.Nodup:=by rw[<-hS];exact(a1g _).nodup_iff.2 tO
   have uP:S.Pairwise (·<=·):=by rw[<-hS];exact b4e _
   have qL:∀i,i∈S↔KU kf 3 i:=λi=>by rw[<-hS,(a1g _).mem_iff];exact JZ i
   rw[hS,a8u,JD]at jR;have jC:Below W6.heap.size W6 (W6.alloc (.cells #[.map (some bi)] 148)):=(zR _ _).alloc (yR _) _;go_wp2_with (first
    |(go_at_call 74;(with_reducible refine(c2s (some bi) _).mono ?_);rintro e W7⟨rfl,rfl⟩)
    |(go_at_call 51;(with_reducible refine jR.mono ?_);rintro e W8⟨v,rfl,pG,iD⟩;obtain⟨sa,sc,rfl⟩:=a2v pG))
   have O3:(W6.alloc (.cells #[.map (some bi)] 148)).heap.size=W6.heap.size+1:=by simp
   have J0:=(kB.alloc (.cells #[.map (some bi)] 148)).below iD xM;have uC:=iD.size;have gP:Below bi W5 W8:=G0.trans (((bC.mono xM).trans (jC.mono xM)).trans (iD.mono xM));have J1:W8.ownsRow BO 3 1 (.slice sa S.length sc) S.length (S.flatMap nE.enc):=a3n pG xM;have qE:Below w.heap.size w W8:=lV.trans (((aI.mono (by have:=lV.size;omega)).trans (gP.mono (by have:=aK.size;omega))));have M1:MapH prog inKy tgV W8 b1 n1 (thP xa A):=by
    have:=(js 0 xM).1.below gP (js 0 xM).2;exact yjp
   have M2:MapH prog inKy tgV W8 b2 n2 (thP xl L):=by
    have:=(js 1 xM).1.below gP (js 1 xM).2;exact yjp
   have M3:MapH prog inKy tgV W8 b3 n3 (thP xr R):=by
    have:=(js 2 xM).1.below gP (js 2 xM).2;exact yjp
   have CB:∀i,i∈S↔i∈A.map Pc.id\/i∈L.map Pc.id\/i∈R.map Pc.id:=λi=>by
    rw[qL i,<-b6j xa A,<-b6j xl L,<-b6j xr R];constructor
    ·rintro⟨j,hj,hi⟩
     rw[wJ]at hi;simp only[mU.out]at hi;match j,hj with
     |0,_=>exact .inl hi
     |1,_=>exact .inr (.inl hi)
     |2,_=>exact .inr (.inr hi)
    ·intro h
     rw[wJ];simp only[mU.out];rcases h with h|h|h
     ·exact⟨0,xM,h⟩
     ·exact⟨1,xM,h⟩
     ·exact⟨2,xM,h⟩
   have G4:∀i∈S,a0l i:=λi hi=>by
    rcases(CB i).1 hi with h|h|h
    ·obtain⟨p,hp,rfl⟩:=List.mem_map.1 h;exact hA.m.pi p hp
    ·obtain⟨p,hp,rfl⟩:=List.mem_map.1 h;exact hL.m.pi p hp
    ·obtain⟨p,hp,rfl⟩:=List.mem_map.1 h;exact hR.m.pi p hp
   have gY:b1<BO:=xM;have oX:b2<BO:=xM;have Iu:b3<BO:=xM;have J2:w.heap.size<=BO:=xM;have O4:Blk W8 X3 #[.slice none 0 0,.slice none 0 0,.slice none 0 0,.slice none 0 0] 32:=(kO.below aI xM).below gP xM;have G5:X3<BO:=xM;have gp:w.heap.size<X3:=xM;replace CB:=Lib.hid CB;replace G4:=Lib.hid G4;replace nX:=Lib.hid nX;replace uP:=Lib.hid uP;clear rq bZ mU wJ qL js JQ qv GZ JZ G0 CA kB kK jR pG iD jC bC gP aI bh kO lV aK b9 a8 aq et ah bE dm aH bn gm q1 q2 q3 gG dC jY oy JN rQ mG Cx JM ou JO GV dX uB O3 O1 pg tO hS dW;go_loopw [19,74] (λbv kk wq=>∃k:Nat,k<=S.length/\kk= .int .i64 (k:Nat)/\MpL BO (.slice sa S.length sc) S A L R W8 k bv wq) (λbv kk _=>S.length-(intOf kk).toNat)
   case atStart=>exact⟨0,xM,rfl,.slice none 0 0,J0,World.ownsRow_nil _ _ _ _,World.ownsRow_nil _ _ _ _,J1,zR _ _⟩
   case round =>
    clear J0 J1;obtain⟨k,eK,rfl,Bf⟩:=hrel;by_cases ab:k<S.length
    ·have aj:(k:Int)<(S.length:Int):=xM
     obtain⟨pv,hI⟩:=Bf;obtain⟨g,rfl,wD,gO,cj,du⟩:=a3b nOk hI.s xM ab;obtain⟨i,hi⟩:=zE (S[k]);have iR:a0l i:=G4.out i (hi▸List.getElem_mem ab);rw[hi]at cj;have cS:wr.cell? ⟨g,k,none⟩=some (.int .i64 i):=by have:=cj 0 jM;simpa using this
     have lY:=c2o A L R S k ab;have ir:=c2p A L R S k ab;rw[hi]at lY ir;have O5:=hI.bel.size;have l1:=(M1.below hI.bel gY).look inKyL underlying62 (a7i wr) iR;have l2:=(M2.below hI.bel oX).look inKyL underlying62 (a7i wr) iR;have l3:=(M3.below hI.bel Iu).look inKyL underlying62 (a7i wr) iR;have cQ:Below w.heap.size w wr:=qE.trans (hI.bel.mono J2);have T1:=c2n (hA.m.p.below cQ) hA.n i;have T2:=c2n (hL.m.p.below cQ) hL.n i;have T3:=c2n (hR.m.p.below cQ) hR.n i;unfold a6e at T1 T2 T3;obtain⟨ta,J3⟩:=zE ((idG (thP xa A) i).getD tgZ);obtain⟨tl,eU⟩:=zE ((idG (thP xl L) i).getD tgZ);obtain⟨tr,J4⟩:=zE ((idG (thP xr R) i).getD tgZ);rw[J3]at l1 T1;rw[eU]at l2 T2;rw[J4]at l3 T3;obtain⟨oa,qG⟩:=zE (a2p A i);obtain⟨ol,oR⟩:=zE (a2p L i);obtain⟨or,G6⟩:=zE (a2p R i);rw[qG]at T1;rw[oR]at T2;rw[G6]at T3;rw[qG,oR,G6]at lY ir;have gi:=c4s (decide (ol=or)) (decide (or=oa)) (decide (ol=oa)) ta tl tr wr (λX hX=>c2m (T2.below (hX.mono cQ.size)) (T3.below (hX.mono cQ.size))) (λX hX=>c2m (T3.below (hX.mono cQ.size)) (T1.below (hX.mono cQ.size))) (λX hX=>c2m (T2.below (hX.mono cQ.size)) (T1.below (hX.mono cQ.size)));obtain⟨CC,wK⟩:=T1.pick T2 T3 (decide (ol=or)) (decide (or=oa)) (decide (ol=oa));have pB:a6v (decide (ol=or)) (decide (or=oa)) (decide (ol=oa)) oa ol or=a6c oa ol or:=rfl;rw[pB]at CC wK;rw[wK]at gi;obtain⟨tc,xQ⟩:=zE ((a6v (decide (ol=or)) (decide (or=oa)) (decide (ol=oa)) ta tl tr).1);rw[xQ]at gi CC;obtain⟨oc,kV⟩:=zE ((a6c oa ol or).1);obtain⟨ok,iZ⟩:=zE ((a6c oa ol or).2);rw[kV]at CC lY;rw[iZ]at gi ir;simp only at l1 l2 l3;unfold a2f at l1 l2 l3 gi;replace eU:=Lib.hid eU;obtain⟨a0,a1,a2,a3,a4⟩:=ta;obtain⟨e0,e1,e2,e3,e4⟩:=tl;obtain⟨r0,r1,r2,r3,r4⟩:=tr;obtain⟨t0,t1,t2,t3,t4⟩:=tc;simp only at l1 l2 l3 gi;replace xQ:=Lib.hid xQ;replace kV:=Lib.hid kV;replace iZ:=Lib.hid iZ;replace lY:=Lib.hid lY;replace ir:=Lib.hid ir;clear cj du J3 J4 qG oR G6 wK pB;go_upto_region 21 with(first
      |(go_at_call 75;(with_reducible refine gi.mono ?_);rintro e W9⟨rfl,eS⟩))
     have kT:=Blk.new W9 #[.int .i64 t0,.pointer t1,.pointer t2,.pointer t3,.pointer t4] 124;have iw:Below wr.heap.size wr (W9.alloc (.cells #[.int .i64 t0,.pointer t1,.pointer t2,.pointer t3,.pointer t4] 124)):=eS.alloc eS.size _;have As:(W9.alloc (.cells #[.int .i64 t0,.pointer t1,.pointer t2,.pointer t3,.pointer t4] 124)).heap.size=W9.heap.size+1:=by simp
     obtain⟨CY,Au⟩:=zE (W9.alloc (.cells #[.int .i64 t0,.pointer t1,.pointer t2,.pointer t3,.pointer t4] 124));rw[Au]at kT iw As ⊢;clear Au;obtain⟨BT,CD⟩:=zE W9.heap.size;rw[CD]at kT As ⊢;have wE:=eS.size;have CE:=hI.o.below iw hI.o.lt;have Av:=a0c hI.p iw;have G7:=a0c hI.b iw;have G8:=a0c hI.s iw;have Q1:=hI.o.lt;have Aw:Below BO W8 CY:=hI.bel.trans (iw.mono xM);have J5:=CC.below (iw.mono cQ.size);have Bz:(b6i A L R (S.take k)).length<=1000:=by
      unfold b6i;refine Nat.le_trans (List.length_filterMap_le _ _) ?_;rw[List.length_take];omega
     have hAdd:=c8y J5 BO pv _ CE Av xM Bz;obtain⟨O6,O8,O9,Pa,Pb⟩:=zN5 kT;unfold a2f at hAdd;simp only at hAdd;clear l1 l2 l3 cS gi;go_upto_region 22 with(first
      |(go_at_call 76;(with_reducible refine hAdd.mono ?_);rintro e fk⟨rfl,pz,Q2,CF,G9,bl,lZ⟩))
     have Ha:∀q,pv.ownBlock=some q->q≠BT:=λq hq e=>by
      have:=(hI.p.lt q hq).2;omega
     have uQ:=(kT.kept bl (λe=>Ha BT e rfl)).kept lZ (λe=>by cases e;omega);have Hc:=CE.kept bl (a0y Av CE jM);have Hd:=G7.kept bl (a2d G7 Av jM);have wL:=Hd.kept lZ (.inr (a0y Hd Hc jM));have He:=G8.kept bl (a2d G8 Av jM);have J6:=He.kept lZ (.inr (a0y He Hc jM));have Pd:=bl.size;have Pe:=lZ.size;have uR:Below BO W8 fk:=(Aw.trans (a0f bl xM (λq hq=>(hI.p.lt q hq).1))).trans (a0f lZ xM (λq hq=>by cases hq;omega));rw[<-lY.out]at G9;clear Av hAdd O6 O8 O9 Pa Pb bl lZ CE Hc G7 Hd G8 He Aw kT
     cases ok
     ·rw[if_neg jM]at ir
      obtain⟨jI,bz⟩:=c2r iZ.out;have Hf:oc=oa:=kV.out.symm.trans jI;have bS:(a7y A L R (S.take k)).length<=1000:=by
       unfold a7y;refine Nat.le_trans (List.length_filter_le _ _) ?_;rw[List.length_take];omega
      obtain⟨ba,bc,rfl⟩:=a2v wL;have J7:=a0y wL CF jM;have J8:fk.cell? ⟨BT,0,none⟩=some (.int .i64 t0):=uQ.cell 0;have cK:∀(mL dx:Wd) (fh:Option Addr) (eG:Nat),Below fk.heap.size fk mL->dx.ownsRow BO 106 2 (.slice fh (a7y A L R (S.take k)++[i]).length eG) (a7y A L R (S.take k)++[i]).length ((a7y A L R (S.take k)++[i]).flatMap cfE.enc)->mL.grownBy dx (Value.slice ba (a7y A L R (S.take k)).length bc).ownBlock->MpL BO (.slice (some ⟨g,0,none⟩) S.length sc) S A L R W8 (k+1) (.slice fh (a7y A L R (S.take k)++[i]).length eG) dx:=λmL dx fh eG hB hr hg=>by
       have uS:=a0c wL hB;have J9:=CF.below hB CF.lt;have Ka:=a0c G9 hB;have Kb:=a0c J6 hB;refine⟨pz,J9.kept hg (a0y uS J9 jM),Ka.kept hg (a2d Ka uS jM),by rw[ir.out];exact hr,Kb.kept hg (a2d Kb uS jM),(uR.trans (hB.mono xM)).trans (a0f hg (by have:=hB.size;omega) (λq hq=>(uS.lt q hq).1))⟩
      rcases J5 with⟨ck,dp⟩|⟨p,pb,po,ck,dp,-,-⟩
      ·unfold tgZ at dp
       simp only[Tg.mk.injEq]at dp;obtain⟨rfl,rfl,rfl,rfl,rfl⟩:=dp;have Hg:e0=3:=by
        rcases T2 with⟨h1,-⟩|⟨p,pb,po,-,h2,-,-⟩
        ·exact absurd h1 (bz (Hf▸ck))
        ·simp only[Tg.mk.injEq]at h2
         exact h2.1
       subst Hg;have uT:Below fk.heap.size fk (fk.alloc (.cells #[.int .i64 0,.int .i64 i] 106)):=(zR _ _).alloc (yR _) _;have kC:=Blk.new fk #[.int .i64 0,.int .i64 i] 106;have kv:(fk.alloc (.cells #[.int .i64 0,.int .i64 i] 106)).heap.size=fk.heap.size+1:=by simp
       go_upto_region 24 with fail;obtain⟨mL,oL⟩:=zE (fk.alloc (.cells #[.int .i64 0,.int .i64 i] 106));rw[oL]at uT kC kv ⊢;clear oL;obtain⟨BC,Ax⟩:=zE fk.heap.size;rw[Ax]at kC kv ⊢;have c0:mL.cell? ⟨BC,0,none⟩=some (.int .i64 0):=kC.cell 0;have f0:=kC.frozen 0;have l2:=(M2.below (uR.trans (uT.mono xM)) oX).look inKyL underlying62 (a7i mL) iR;simp only[eU.out]at l2;unfold a2f at l2;simp only at l2;have Q3:=b7k 3 e1 e2 e3 e4 mL;have Kc:=kC.set 0 (.int .i64 3);have Kd:=a0d mL BC 0 (.int .i64 3);clear J8 uQ;go_upto_region 26 with fail;obtain⟨Hh,uU⟩:=zE (mL.setCell ⟨BC,0,none⟩ (.int .i64 3));rw[uU]at Kc Kd ⊢;have uV:Hh.heap.size=BC+1:=by rw[<-uU,World.size_setCell];exact kv
       clear uU;have kG:Below fk.heap.size fk Hh:=uT.trans (a0f Kd xM (λq hq=>by cases hq;omega));have Pf:=a0c wL kG;obtain⟨d0,d1⟩:=zN2 Kc;clear c0 f0 l2;go_wp2_with (first
        |(at_builtin;refine El.push c8z c9w qM _ _ qM qM Pf i qM uV xM xM ?_;intro v11 dx ee gh bl fJ
          obtain⟨fh,eG,rfl⟩:=gh))
       have gH:=cK Hh dx fh eG kG (by rw[show(a7y A L R (S.take k)++[i]).length=(a7y A L R (S.take k)).length+1 by simp];simpa using ee) bl;exact yez
      ·simp only[Tg.mk.injEq]at dp
       obtain⟨rfl,rfl,rfl,rfl,rfl⟩:=dp;have uT:Below fk.heap.size fk (fk.alloc (.cells #[.int .i64 3,.int .i64 i] 106)):=(zR _ _).alloc (yR _) _;have kC:=Blk.new fk #[.int .i64 3,.int .i64 i] 106;have uS:=a0c wL uT;have kv:(fk.alloc (.cells #[.int .i64 3,.int .i64 i] 106)).heap.size=fk.heap.size+1:=by simp
       go_upto_region 24 with fail;obtain⟨mL,oL⟩:=zE (fk.alloc (.cells #[.int .i64 3,.int .i64 i] 106));rw[oL]at uT kC uS kv ⊢;clear oL;obtain⟨BC,Ax⟩:=zE fk.heap.size;have Pg:Below fk.heap.size fk mL:=uT;rw[Ax]at kC kv ⊢;obtain⟨c0,c1⟩:=zN2 kC;clear J8 uQ;go_wp2_with (first
        |(at_builtin;refine El.push c8z c9w qM _ _ qM qM uS i qM kv xM xM ?_;intro v11 dx ee gh bl fJ
          obtain⟨fh,eG,rfl⟩:=gh))
       have gH:=cK mL dx fh eG Pg (by rw[show(a7y A L R (S.take k)++[i]).length=(a7y A L R (S.take k)).length+1 by simp];simpa using ee) bl;exact yez
     ·rw[if_pos rfl,List.append_nil]at ir
      have gH:MpL BO (.slice (some ⟨g,0,none⟩) S.length sc) S A L R W8 (k+1) u19 fk:=⟨pz,CF,G9,by rw[ir.out];exact wL,J6,uR⟩;go_wp2_with fail;exact yjg
    ·obtain rfl:k=S.length:=xM
     have aT:¬(S.length:Int)<(S.length:Int):=xM;obtain⟨pv,hI⟩:=Bf;rw[List.take_length]at hI;have Bz:(b6i A L R S).length<=1000:=by
      unfold b6i;refine Nat.le_trans (List.length_filterMap_le _ _) ?_;omega
     obtain⟨va,vc,rfl⟩:=a2v hI.p;have cQ:Below w.heap.size w wr:=qE.trans (hI.bel.mono J2);have O5:=hI.bel.size;have Ph:MapV wr.heap.size wr (.slice none 0 0) (.slice none 0 0) (.slice none 0 0) (.slice va (b6i A L R S).length vc) [] [] [] (b6i A L R S):=c7z hI.p Bz (λp hp=>(c4u hp).elim (hA.m.pi p) (λh=>h.elim (hL.m.pi p) (hR.m.pi p)));have Pj:=a7x _ _ _ _ _ _ _ _ wr Ph;obtain⟨m0,m1,m2,m3⟩:=zN4 hI.o;have Ke:=O4.below hI.bel G5;go_wp2_with (first
      |(go_at_call 9;(with_reducible refine Pj.mono ?_);rintro e Pk⟨g0,d0,g1,d1,g2,d2,g3,d3,E',F',Y',P',rfl,uA,se,CG⟩
        have sy:=Ke.below CG Ke.lt;obtain⟨z0,z1,z2,z3⟩:=zN4 sy;have y0:=sy.frozen 0;have y1:=sy.frozen 1;have y2:=sy.frozen 2;have y3:=sy.frozen 3))
     have qN:(a7y A L R S).length<=1000:=by
      unfold a7y;refine Nat.le_trans (List.length_filter_le _ _) ?_;omega
     have Ay:=cQ.trans (CG.mono cQ.size);obtain rfl:E'=[]:=by
      have:=se.e.1.length_eq;exact yib
     obtain rfl:F'=[]:=by
      have:=se.f.1.length_eq;exact yib
     obtain rfl:Y'=[]:=by
      have:=se.w.1.length_eq;exact yib
     obtain⟨kF,oF,gF,zF⟩:=a4b Pk X3 _ _ _ _ (.slice g0 0 d0) (.slice g1 0 d1) (.slice g2 0 d2) (.slice g3 P'.length d3) sy;have bN:=a0c hI.b CG;have bF:=a0i bN gF sy jM;have cD:=(uA.off (Bs:=λk=>k=X3) (λB h=>h▸a1w sy) (λk hk=>oF k hk)).mono (Nat.le_of_eq zF.symm);obtain⟨ba,bc,rfl⟩:=a2v bF;have Q4:=CG.size;refine bodyPost_ret (a4c qM _ _ _ 32 _ (0,0) _ qM kF underlying32 qM zM) rfl ⟨Ay.trans (a0f gF Ay.size (λq hq=>by cases hq;omega)),S,g0,d0,g1,d1,g2,d2,g3,d3,P',ba,bc,rfl,cD,se.p.1,se.p.2,a0g c8z bF xM,nX.out,uP.out,CB.out⟩
theorem c2t (a b:Option Addr)(c d:Nat)(w:Wd):Zc prog 110 #[.slice a 0 c,.slice b 0 d] w (.bool true):=by
 go_enter func110,ntmps110;go_wp2_with fail;go_loopw [5] (λv wr=>v= .int .i64 0/\Below w.heap.size w wr) (λv wr=>0)
 case atStart=>exact⟨rfl,zR _ _⟩
 case round =>
  obtain⟨rfl,hb⟩:=hrel;go_wp2_with fail;go_ret;exact⟨rfl,hb⟩
theorem b0b (a b:Option Addr)(c d:Nat)(w:Wd):Zc prog 78 #[.agg #[.int .i64 0,.slice a 0 c,.int .i64 0,.string ⟨#[]⟩,.string ⟨#[]⟩,.bool false,.int .i64 0,.int .i64 0],.agg #[.int .i64 0,.slice b 0 d,.int .i64 0,.string ⟨#[]⟩,.string ⟨#[]⟩,.bool false,.int .i64 0,.int .i64 0]] w (.bool true):=by
 go_enter func78,ntmps78;go_wp2_with (first
  |(go_at_call 110;(with_reducible refine(c2t _ _ _ _ _).mono ?_);rintro e w'⟨rfl,aE⟩;obtain⟨q,rfl⟩:=a0j aE;clear aE))
 go_ret;exact⟨rfl,zC⟩
theorem b0c (a1 b1 c1:Int)(d1 e1:Bw)(f1 g1:Int)(w:Wd):(binOp .neq 48 (.agg #[.int .i64 a1,.int .i64 b1,.int .i64 c1,.string d1,.string e1,.int .i64 f1,.int .i64 g1]) (.agg #[.int .i64 a1,.int .i64 b1,.int .i64 c1,.string d1,.string e1,.int .i64 f1,.int .i64 g1])).run prog w= .ok (.bool false) w:=by
 rw[c7n];simp
def zw (a:Option Addr)(c:Nat):Wq:=⟨0,a,0,c,[],0,⟨#[]⟩,⟨#[]⟩,false,0,0⟩
theorem a8x (Y Y2:List Wq)(P:List Pc)(hY:∀y∈Y,∃a c,y=zw a c)(fW:∀y∈Y2,∃a c,y=zw a c)(Q5:Y2.length=Y.length)(a0 a1 a2 a3 u0 u1 u2 u3:Option Addr)(d0 d1 d2 d3 v0 v1 v2 v3:Nat)(w:Wd)(h2:Lst wqE w.heap.size w (.slice a2 Y.length d2) Y)(h3:Lst plE w.heap.size w (.slice a3 P.length d3) P)(k2:Lst wqE w.heap.size w (.slice u2 Y.length v2) Y2)(k3:Lst plE w.heap.size w (.slice u3 P.length v3) P)(Q6:Y.length<=1000)(Bd:P.length<=1000):
 Zc prog 40 #[.agg #[.slice a0 0 d0,.slice a1 0 d1,.slice a2 Y.length d2,.slice a3 P.length d3],.agg #[.slice u0 0 v0,.slice u1 0 v1,.slice u2 Y.length v2,.slice u3 P.length v3]] w (.bool true):=by
 have kA:=(Blk.new w #[.slice a0 0 d0,.slice a1 0 d1,.slice a2 Y.length d2,.slice a3 P.length d3] 32).alloc (.cells #[.slice u0 0 v0,.slice u1 0 v1,.slice u2 Y.length v2,.slice u3 P.length v3] 32);have kB:=Blk.new (w.alloc (.cells #[.slice a0 0 d0,.slice a1 0 d1,.slice a2 Y.length d2,.slice a3 P.length d3] 32)) #[.slice u0 0 v0,.slice u1 0 v1,.slice u2 Y.length v2,.slice u3 P.length v3] 32;have bE:Below w.heap.size w ((w.alloc (.cells #[.slice a0 0 d0,.slice a1 0 d1,.slice a2 Y.length d2,.slice a3 P.length d3] 32)).alloc (.cells #[.slice u0 0 v0,.slice u1 0 v1,.slice u2 Y.length v2,.slice u3 P.length v3] 32)):=by exact zC
 rw[World.size_alloc]at kB;go_enter func40,ntmps40;go_upto_region 1 with fail;obtain⟨W0,dH⟩:=zE ((w.alloc (.cells #[.slice a0 0 d0,.slice a1 0 d1,.slice a2 Y.length d2,.slice a3 P.length d3] 32)).alloc (.cells #[.slice u0 0 v0,.slice u1 0 v1,.slice u2 Y.length v2,.slice u3 P.length v3] 32));rw[dH]at kA kB bE ⊢;clear dH;have Kf:=bE.size;obtain⟨BA,Kg⟩:=zE w.heap.size;obtain⟨BB,Pm⟩:=zE (BA+1);have Kh:Below w.heap.size w W0:=bE;rw[Kg]at kA kB ⊢;rw[Pm]at kB ⊢;have cells:∀X,Below W0.heap.size W0 X->(X.cell? ⟨BA,0,none⟩=some (.slice a0 0 d0)/\X.cell? ⟨BA,1,none⟩=some (.slice a1 0 d1)/\X.cell? ⟨BA,2,none⟩=some (.slice a2 Y.length d2)/\X.cell? ⟨BA,3,none⟩=some (.slice a3 P.length d3))/\X.cell? ⟨BB,0,none⟩=some (.slice u0 0 v0)/\X.cell? ⟨BB,1,none⟩=some (.slice u1 0 v1)/\X.cell? ⟨BB,2,none⟩=some (.slice u2 Y.length v2)/\X.cell? ⟨BB,3,none⟩=some (.slice u3 P.length v3):=λX hX=>by
  have h1:=kA.below hX kA.lt;have h2:=kB.below hX kB.lt;exact⟨⟨h1.cell 0,h1.cell 1,h1.cell 2,h1.cell 3⟩,h2.cell 0,h2.cell 1,h2.cell 2,h2.cell 3⟩
 obtain⟨⟨c0,c1,c2,c3⟩,e0,e1,e2,e3⟩:=cells W0 (zR _ _);obtain⟨ny,sk⟩:=zE Y.length;obtain⟨np,iK⟩:=zE P.length;rw[sk]at c2 e2;rw[iK]at c3 e3;clear bE;go_upto_region 4 with fail;clear c0 c1 c2 c3 e0 e1 e2 e3;rw[sk,iK]at cells;go_loopw [5] (λv wr=>v= .int .i64 0/\Below W0.heap.size W0 wr) (λv wr=>0)
 case atStart=>exact⟨rfl,zR _ _⟩
 case round =>
  obtain⟨rfl,ah⟩:=hrel;obtain⟨⟨c0,c1,c2,c3⟩,e0,e1,e2,e3⟩:=cells wr ah;go_upto_region 10 with fail;clear c0 c1 c2 c3 e0 e1 e2 e3;obtain⟨Q7,hq⟩:∃W,W=wr:=⟨_,rfl⟩;subst hq;go_loopw [7] (λv wq=>v= .int .i64 0/\Below W0.heap.size W0 wq) (λv wq=>0)
  case atStart=>exact⟨rfl,ah⟩
  case round =>
   clear ah;obtain⟨rfl,ah⟩:=hrel;obtain⟨⟨c0,c1,c2,c3⟩,e0,e1,e2,e3⟩:=cells wr ah;go_upto_region 15 with fail;clear c0 c1 c2 c3 e0 e1 e2 e3;obtain⟨rL,hq⟩:∃W,W=wr:=⟨_,rfl⟩;subst hq;go_loopw [8] (λv wq=>∃k:Nat,k<=ny/\v= .int .i64 (k:Nat)/\Below W0.heap.size W0 wq) (λv wq=>ny-(intOf v).toNat)
   case atStart=>exact⟨0,Nat.zero_le _,rfl,ah⟩
   case round =>
    clear ah;obtain⟨k,hk,rfl,ah⟩:=hrel;obtain⟨⟨c0,c1,c2,c3⟩,e0,e1,e2,e3⟩:=cells wr ah;have al:=Kh.trans (ah.mono Kf);by_cases ab:k<ny
    ·have aj:(k:Int)<(ny:Int):=xM
     obtain⟨b,off,cp,hv,-,bS,hc⟩:=h2.some_ xM;obtain⟨b',dK,Hi,jO,-,ik,cB⟩:=k2.some_ xM;simp only[Value.slice.injEq,true_and]at hv jO;obtain⟨rfl,rfl⟩:=hv;obtain⟨rfl,-,rfl⟩:=jO;obtain⟨ya,yc,hy⟩:=hY (Y[k]'(by omega)) (List.getElem_mem _);obtain⟨za,zc,wh⟩:=fW (Y2[k]'(by omega)) (List.getElem_mem _);have g1:AtC wqE wr b (off+k*8) (zw ya yc):=by
      have:=hc k xM;rw[hy]at this;exact AtC.below (n:=w.heap.size) this al bS
     have g2:AtC wqE wr b' (dK+k*8) (zw za zc):=by
      have:=cB k xM;rw[wh]at this;exact AtC.below (n:=w.heap.size) this al ik
     unfold zw at g1 g2;obtain⟨p0,p1,p2,p3,p4,p5,p6,p7⟩:=b4h g1;obtain⟨r0,r1,r2,r3,r4,r5,r6,r7⟩:=b4h g2;clear g1 g2 hc cB hy wh;go_upto_region 17 with fail;first|with_reducible refine a0q zM zM ?_|with_reducible refine a0v zM zM ?_
     repeat(first|go_big_quiet_step ((go_at_call 78;exact Calls.grow_of (b0b ya za yc zc _)))|quiet_step ((go_at_call 78;exact Calls.grow_of (b0b ya za yc zc _))))
     refine wpQuiet_nil ?_;intro _ bI;obtain⟨p,bI⟩:=bI;subst bI;have aJ:Below wr.heap.size wr (wr.growBy p):=below_growBy wr p;go_wp2_with fail;go_roundw
     case rel=>exact⟨k+1,xM,by go_num,ah.trans (aJ.mono ah.size)⟩
     case measure=>simp[intOf];omega
    ·obtain rfl:k=ny:=xM
     have aT:¬(k:Int)<(k:Int):=xM;go_upto_region 21 with fail;clear c0 c1 c2 c3 e0 e1 e2 e3;obtain⟨Q8,hq⟩:∃W,W=wr:=⟨_,rfl⟩;subst hq;go_loopw [10] (λv wq=>∃q:Nat,q<=np/\v= .int .i64 (q:Nat)/\Below W0.heap.size W0 wq) (λv wq=>np-(intOf v).toNat)
     case atStart=>exact⟨0,Nat.zero_le _,rfl,ah⟩
     case round =>
      clear ah al;obtain⟨q,hq,rfl,ah⟩:=hrel;obtain⟨⟨c0,c1,c2,c3⟩,e0,e1,e2,e3⟩:=cells wr ah;have al:=Kh.trans (ah.mono Kf);by_cases eL:q<np
      ·have aj:(q:Int)<(np:Int):=xM
       obtain⟨b,off,cp,hv,-,bS,hc⟩:=h3.some_ xM;obtain⟨b',dK,Hi,jO,-,ik,cB⟩:=k3.some_ xM;simp only[Value.slice.injEq,true_and]at hv jO;obtain⟨rfl,rfl⟩:=hv;obtain⟨rfl,rfl⟩:=jO;obtain⟨y,hy⟩:=zE (P[q]'(by omega));have g1:AtC plE wr b (off+q*7) y:=by
        have:=hc q xM;rw[hy]at this;exact AtC.below (n:=w.heap.size) this al bS
       have g2:AtC plE wr b' (dK+q*7) y:=by
        have:=cB q xM;rw[hy]at this;exact AtC.below (n:=w.heap.size) this al ik
       obtain⟨pi,px,py,pc,pn,pw,pd⟩:=y;obtain⟨p0,p1,p2,p3,p4,p5,p6⟩:=b0e g1;obtain⟨r0,r1,r2,r3,r4,r5,r6⟩:=b0e g2;clear g1 g2 hc cB hy;have Az:=b0c pi px py pc pn pw pd;have bP:=run_eqGuard_agg (P:=prog);go_upto_region 23 with fail;refine zR0 λp=> ?_
       have aJ:Below wr.heap.size wr (wr.growBy p):=below_growBy wr p;go_wp2_with fail;go_roundw
       case rel=>exact⟨q+1,xM,by go_num,ah.trans (aJ.mono ah.size)⟩
       case measure=>simp[intOf];omega
      ·obtain rfl:q=np:=xM
       have tZ:¬(q:Int)<(q:Int):=xM;go_wp2_with fail;go_ret;exact⟨rfl,Kg▸al⟩
end
end Go.Proofs.YteijfnkidefekaaGreat
