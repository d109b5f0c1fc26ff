/-
  Parts.
-/
import Derived.Test.YtfocdbjceedagaaGreatDoorMag
import Derived.Shelf.SlSortCmp.NoneTotal
set_option linter.unusedVariables false
set_option linter.unusedSimpArgs false
set_option maxHeartbeats 1000000
namespace Go.Proofs.YtfocdbjceedagaaGreatDoor
open Tryz
section
open Go.RowKit Go.Shelf Go.Deep
variable{l:List Dt}{b cap n off:Nat}{W:World}
theorem Dts.take (h:Dts n W (.slice (some ⟨b,off,none⟩) l.length cap) l)(k c:Nat)(hk:k<=l.length):Dts n W (.slice (some ⟨b,off,none⟩) k c) (l.take k):=by
 rcases h with⟨h1,-⟩|⟨b',off',cap',h1,hb,hl,hf,hc⟩
 ·simp at h1
 ·simp only[Value.slice.injEq,Option.some.injEq,Addr.mk.injEq,true_and,and_true]at h1
  obtain⟨⟨rfl,rfl⟩,rfl⟩:=h1;refine .inr ⟨b,off,c,by rw[List.length_take,Nat.min_eq_left hk],hb,by rw[List.length_take];omega,λd hd=>hf d (List.mem_of_mem_take hd),λj hj=> ?_⟩;rw[List.length_take]at hj;rw[List.getElem_take];exact hc j oM
theorem Dts.drop (h:Dts n W (.slice (some ⟨b,off,none⟩) l.length cap) l)(k c o2 m:Nat)(hk:k<=l.length)(ho:o2=off+k*4\/k=l.length)(hm:m=l.length-k):Dts n W (.slice (some ⟨b,o2,none⟩) m c) (l.drop k):=by
 subst hm;rcases h with⟨h1,-⟩|⟨b',off',cap',h1,hb,hl,hf,hc⟩
 ·simp at h1
 ·simp only[Value.slice.injEq,Option.some.injEq,Addr.mk.injEq,true_and,and_true]at h1
  obtain⟨⟨rfl,rfl⟩,rfl⟩:=h1;refine .inr ⟨b,o2,c,by rw[List.length_drop],hb,by rw[List.length_drop];omega,λd hd=>hf d (List.mem_of_mem_drop hd),λj hj=> ?_⟩;rw[List.length_drop]at hj;rcases ho with rfl|ho
  ·rw[List.getElem_drop]
   have:=hc (k+j) oM;rw[show off+k*4+j*4=off+(k+j)*4 from by omega];exact this
  ·omega
end
section
open Go.RowKit Go.Shelf
variable{b:Act}{k:Nat}{s:Sh}{v:Value}
theorem a0a (h:b.eval (.tmp k)=v):b.tmps[k]?.getD undef=v:=by
 rw[<-h];simp[Act.eval]
theorem a3x (h:b.eval (.tmp k)=v)(hk:k<b.tmps.size):b.tmps[k]? =some v:=by
 have h2:=a0a h;rw[Array.getElem?_eq_getElem hk]at h2 ⊢;exact congrArg some h2
theorem a0p (w:World):w.grownBy w none:=a0s (zR _ _)
theorem b2g (W:World):W.grownBy W.drew none:=⟨rfl,rfl,rfl,yR _,λ_ _ _=>rfl⟩
def a6i (s:Sh)(ps:List a0m)(k:Nat):List a9d:=b3o s (ps.getD k (0,0)) (ps.getD (min (k+1) (ps.length-1)) (0,0))
def a6j (s:Sh)(id:Int)(ps:List a0m)(en:List (a0m×Int))(t:Nat):List (a0m×Int):=(List.range t).foldl (λen k=>a3e s id en (a6i s ps k)) en
theorem a7o (s:Sh)(id:Int)(ps:List a0m)(en:List (a0m×Int))(t:Nat):a6j s id ps en (t+1)=a3e s id (a6j s id ps en t) (a6i s ps t):=by
 unfold a6j;rw[List.range_succ,List.foldl_append];rfl
def a4b (ps:List a0m):Bool:=ps.all λp=>a1f p.1 p.2
def a3r (s:Sh)(en:List (a0m×Int))(ws:List (Int×List a0m)):List (a0m×Int):=ws.foldl (λen w=>if a4b w.2 then a6j s w.1 w.2 en w.2.length else en) en
theorem c5r (s:Sh)(en:List (a0m×Int))(ws:List (Int×List a0m))(w:Int×List a0m):a3r s en (ws++[w])=if a4b w.2 then a6j s w.1 w.2 (a3r s en ws) w.2.length else a3r s en ws:=by
 unfold a3r;rw[List.foldl_append];rfl
theorem b4m (s:Sh)(ws:List (Int×List a0m))(t:Nat)(h:t<ws.length):a3r s [] (ws.take (t+1))=if a4b ws[t].2 then a6j s ws[t].1 ws[t].2 (a3r s [] (ws.take t)) ws[t].2.length else a3r s [] (ws.take t):=by
 rw[List.take_add_one,List.getElem?_eq_getElem h];exact c5r _ _ _ _
/-! ### what ways contribute,one by one -/
def a9a (s:Sh)(en:List (a0m×Int))(c:a0m×Int):List (a0m×Int):=c8i s c.2 en c.1
def d7v (s:Sh)(w:Int×List a0m):List (a0m×Int):=if a4b w.2 then((List.range w.2.length).flatMap (a6i s w.2)).map (λd=>(d.1,w.1))else []
theorem a9z (s:Sh)(id:Int)(l:List a9d)(en:List (a0m×Int)):a3e s id en l=(l.map (λd=>(d.1,id))).foldl (a9a s) en:=by
 unfold a3e;rw[List.foldl_map];rfl
theorem c1s (s:Sh)(id:Int)(ps:List a0m)(en:List (a0m×Int))(t:Nat):a6j s id ps en t=(((List.range t).flatMap (a6i s ps)).map (λd=>(d.1,id))).foldl (a9a s) en:=by
 induction t with
 |zero=>rfl
 |succ t ih =>
  rw[a7o,ih,a9z,List.range_succ,List.flatMap_append,List.map_append,List.foldl_append];simp
theorem a9g (s:Sh):∀(ws:List (Int×List a0m)) (en:List (a0m×Int)),a3r s en ws=(ws.flatMap (d7v s)).foldl (a9a s) en
 |[],en=>rfl
 |w::ws,en=>by
  rw[List.flatMap_cons,List.foldl_append,<-a9g s ws];unfold a3r;rw[List.foldl_cons];congr 1;unfold d7v;split
  ·rw[c1s]
  ·rfl
theorem a8j (en:List (a0m×Int))(p:a0m):b0q en p=(a7a en p).isSome:=by
 unfold b0q a7a;rw[Option.isSome_map,Bool.eq_iff_iff,List.find?_isSome,List.any_eq_true]
def d2k (id:Int):Option Int->Int
 |none=>id
 |some o=>if id<o then id else o
theorem c8r (s:Sh)(id:Int)(en:List (a0m×Int))(d q:a0m):a7a (c8i s id en d) q=if q=d/\onS s d.1 d.2=true then some (d2k id (a7a en d))else a7a en q:=by
 unfold c8i;rw[a8j]
 cases hon:onS s d.1 d.2 with
 |false=>simp
 |true =>
  cases ho:a7a en d with
  |none =>
   simp only[Option.isSome_none,Bool.not_false,Bool.true_or,Bool.and_self,if_true,b5o,and_true,d2k]
  |some o =>
   simp only[Option.isSome_some,Bool.not_true,Bool.false_or,Bool.true_and,Option.getD_some,and_true,d2k,decide_eq_true_eq];split
   ·rw[b5o]
   ·split
    ·rename_i h;rw[h];exact ho
    ·rfl
theorem a9h (s:Sh)(en:List (a0m×Int))(c:a0m×Int)(h:(en.map (·.1)).Nodup):((a9a s en c).map (·.1)).Nodup:=by
 unfold a9a c8i;split
 ·rw[a6a]
  split
  ·exact h
  ·rename_i hk
   rw[List.nodup_append];refine⟨h,by simp,λa ha b hb=> ?_⟩;obtain rfl:b=c.1:=by simpa using hb
   exact λe=>hk (a2h.2 (e▸ha))
 ·exact h
theorem a9i (s:Sh):∀(l:List (a0m×Int)) (en:List (a0m×Int)),(en.map (·.1)).Nodup->((l.foldl (a9a s) en).map (·.1)).Nodup
 |[],_,h=>h
 |c::l,en,h=>a9i s l (a9a s en c) (a9h s en c h)
/-! ### how many entries there are -/
theorem b5w :∀(n:Nat) (l:List Nat),l.Nodup->(∀x∈l,x<n)->l.length<=n
 |0,l,_,h=>by
  match l,h with
  |[],_=>simp
  |x::_,h=>exact absurd (h x List.mem_cons_self) oM
 |n+1,l,hn,h=>by
  by_cases hm:n∈l
  ·have h1:=b5w n (l.erase n) (hn.erase n) (λx hx=>by
    have:=h x (List.mem_of_mem_erase hx);have hne:x≠n:=λe=>by subst e;exact(List.Nodup.not_mem_erase hn) hx
    omega)
   have h2:=List.length_erase_of_mem hm;omega
  ·have h1:=b5w n l hn (λx hx=>by
    have:=h x hx;have hne:x≠n:=λe=>hm (e▸hx)
    omega)
   omega
theorem d6a (s:Sh)(en:List (a0m×Int))(c:a0m×Int)(h:∀p∈en.map (·.1),onS s p.1 p.2=true):∀p∈(a9a s en c).map (·.1),onS s p.1 p.2=true:=by
 intro p hp;unfold a9a c8i at hp;split at hp
 ·rename_i hc
  rw[a6a]at hp;split at hp
  ·exact h p hp
  ·rcases List.mem_append.1 hp with hp|hp
   ·exact h p hp
   ·obtain rfl:p=c.1:=by simpa using hp
    simp only[Bool.and_eq_true]at hc;exact hc.1
 ·exact h p hp
theorem b2h (s:Sh):∀(l:List (a0m×Int)) (en:List (a0m×Int)),(∀p∈en.map (·.1),onS s p.1 p.2=true)->∀p∈(l.foldl (a9a s) en).map (·.1),onS s p.1 p.2=true
 |[],_,h=>h
 |c::l,en,h=>b2h s l (a9a s en c) (d6a s en c h)
theorem b8q (hs:OkS s){en:List (a0m×Int)}(hn:(en.map (·.1)).Nodup)(h:∀p∈en.map (·.1),onS s p.1 p.2=true):en.length<=6480:=by
 have key:∀l:List a0m,l.Nodup->(∀p∈l,onS s p.1 p.2=true)->l.length<=6480:=by
  intro l hl hon;have h1:(l.map λp=>p.1.toNat*81+p.2.toNat).Nodup:=by
   rw[List.nodup_iff_pairwise_ne,List.pairwise_map];have hl':∀ {a b:a0m},[a,b].Sublist l->a≠b:=List.pairwise_iff_forall_sublist.1 (List.nodup_iff_pairwise_ne.1 hl);refine List.pairwise_iff_forall_sublist.2 (λ{a b} hab e=> ?_);have ha:=a6c.1 (hon a (hab.subset vM));have hb:=a6c.1 (hon b (hab.subset vM));have w1:=hs.w1;have v1:=hs.h1;exact hl' hab (Prod.ext oM oM)
  have h2:=b5w 6480 _ h1 (λx hx=>by
   obtain⟨p,hp,rfl⟩:=List.mem_map.1 hx;have ha:=a6c.1 (hon p hp);have w1:=hs.w1;have v1:=hs.h1;omega)
  simpa using h2
 have:=key _ hn h;simpa using this
theorem b0a (hs:OkS s)(ws:List (Int×List a0m)):(a3r s [] ws).length<=6480:=by
 rw[a9g];exact b8q hs (a9i _ _ _ vM) (b2h _ _ _ vM)
/-! ### a move -/
end
section
open Go.RowKit Go.Shelf Go.Maps
attribute [local go_sem] Oper.semAt_some
variable{Bm b n₀ n₁ o:Nat}{sv:Value}{A B W:World}
def Pts (n₀:Nat)(W:World)(sv:Value)(ps:List a0m):Prop :=
 ∃a cap,sv= .slice a ps.length cap/\∀j,(h:j<ps.length)->∃b off,a=some ⟨b,off,none⟩/\b<n₀/\W.cell? ⟨b,off+j*2,none⟩=some (.int .i64 ps[j].1)/\W.cell? ⟨b,off+j*2+1,none⟩=some (.int .i64 ps[j].2)
theorem Pts.below (h:Below n₀ A B){ps:List a0m}:Pts n₀ A sv ps->Pts n₀ B sv ps
 |⟨a,cap,e,f⟩=>⟨a,cap,e,λj hj=>by
  obtain⟨b,off,h1,h2,h3,h4⟩:=f j hj;exact⟨b,off,h1,h2,(h.cell (p:=⟨b,off+j*2,none⟩) h2).trans h3,(h.cell (p:=⟨b,off+j*2+1,none⟩) h2).trans h4⟩⟩
theorem Pts.mono (h:n₀<=n₁){ps:List a0m}:Pts n₀ W sv ps->Pts n₁ W sv ps
 |⟨a,cap,e,f⟩=>⟨a,cap,e,λj hj=>by
  obtain⟨b,off,h1,h2,h3⟩:=f j hj;exact⟨b,off,h1,oM,h3⟩⟩
structure Wy where
 id:Int
 line:List a0m
 lv:Value
 lvl:Int
 cls:ByteArray
 nm:ByteArray
 st:Bool
 wt:Int
 di:Int
abbrev Wy.key (y:Wy):Int×List a0m:=(y.id,y.line)
structure WyAt (n₀:Nat)(W:World)(b o:Nat)(y:Wy):Prop where
 c0:W.cell? ⟨b,o,none⟩=some (.int .i64 y.id)
 c1:W.cell? ⟨b,o+1,none⟩=some y.lv
 c2:W.cell? ⟨b,o+2,none⟩=some (.int .i64 y.lvl)
 c3:W.cell? ⟨b,o+3,none⟩=some (.string y.cls)
 c4:W.cell? ⟨b,o+4,none⟩=some (.string y.nm)
 c5:W.cell? ⟨b,o+5,none⟩=some (.bool y.st)
 c6:W.cell? ⟨b,o+6,none⟩=some (.int .i64 y.wt)
 c7:W.cell? ⟨b,o+7,none⟩=some (.int .i64 y.di)
 pts:Pts n₀ W y.lv y.line
theorem WyAt.below (h:Below n₀ A B){y:Wy}(hb:b<n₀)(r:WyAt n₀ A b o y):WyAt n₀ B b o y :=
 ⟨(h.cell (p:=⟨b,o,none⟩) hb).trans r.c0,(h.cell (p:=⟨b,o+1,none⟩) hb).trans r.c1,(h.cell (p:=⟨b,o+2,none⟩) hb).trans r.c2,(h.cell (p:=⟨b,o+3,none⟩) hb).trans r.c3,
  (h.cell (p:=⟨b,o+4,none⟩) hb).trans r.c4,(h.cell (p:=⟨b,o+5,none⟩) hb).trans r.c5,(h.cell (p:=⟨b,o+6,none⟩) hb).trans r.c6,(h.cell (p:=⟨b,o+7,none⟩) hb).trans r.c7,r.pts.below h⟩
def Wys (n₀:Nat)(W:World)(sv:Value)(ws:List Wy):Prop :=
 ∃a cap,sv= .slice a ws.length cap/\∀j,(h:j<ws.length)->∃b off,a=some ⟨b,off,none⟩/\b<n₀/\WyAt n₀ W b (off+j*8) ws[j]
theorem Wys.below (h:Below n₀ A B){ws:List Wy}:Wys n₀ A sv ws->Wys n₀ B sv ws
 |⟨a,cap,e,f⟩=>⟨a,cap,e,λj hj=>by
  obtain⟨b,off,h1,h2,h3⟩:=f j hj;exact⟨b,off,h1,h2,h3.below h h2⟩⟩
theorem WyAt.mono (h:n₀<=n₁){y:Wy}(r:WyAt n₀ W b o y):WyAt n₁ W b o y:=⟨r.c0,r.c1,r.c2,r.c3,r.c4,r.c5,r.c6,r.c7,r.pts.mono h⟩
theorem Wys.mono (h:n₀<=n₁){ws:List Wy}:Wys n₀ W sv ws->Wys n₁ W sv ws
 |⟨a,cap,e,f⟩=>⟨a,cap,e,λj hj=>by
  obtain⟨b,off,h1,h2,h3⟩:=f j hj;exact⟨b,off,h1,oM,h3.mono h⟩⟩
theorem Wys.up {ws:List Wy}(h:Wys n₀ A sv ws)(hb:Below n₀ A B)(hn:n₀<=B.heap.size):Wys B.heap.size B sv ws:=(h.below hb).mono hn
theorem b8r (lv:Value)(ps:List a0m)(n₀:Nat)(W:World)(h:Pts n₀ W lv ps)(hn:n₀<=W.heap.size)(hl:ps.length<=1000):
 Calls prog 80 #[lv,.func (.func 81) #[] #[]] W λe w'=>e= .returned (.bool (!a4b ps))/\Below W.heap.size W w':=by
 have e31:∀args w,(callFunc 81 args).run prog w= .ok (.enter 81 args) w:=enters_of func81 zM rfl;have hr:(ps.any λx=> !a1f x.1 x.2)= !a4b ps:=by
  unfold a4b;rw[List.any_eq_not_all_not];simp
 obtain⟨a,cap,rfl,f⟩:=h;by_cases h0:ps=[]
 ·subst h0
  rw[<-hr];simp only[List.any_nil];have hem:∀w,Calls prog 138 #[.slice a 0 cap,.func (.func 81) #[] #[]] w λe w'=>e= .returned (.int .i64 (-1))/\w=w':=by
   intro w;go_enter func138,ntmps138;exact ygs
  go_enter func80,ntmps80;go_wp2_with (go_at_call 138;refine(hem _).mono ?_;rintro e w'⟨rfl,rfl⟩);go_ret;exact⟨rfl,zR _ _⟩
 ·have hpos:0<ps.length:=List.length_pos_iff.2 h0
  obtain⟨b,off,rfl,hb,-⟩:=f 0 hpos;have h:=AnyQ.slices_ContainsFunc Go.Proofs.Tryz.pointsContains 2 isAgg26 sizeOf26 a5u (λ_=>rfl) (λx=> !a1f x.1 x.2) 81 #[] e31 b off ps.length cap ps W
   (λW' x hb=>(b1u x.1 x.2 W').mono λ_ _ ⟨he,hb2⟩=>⟨he,hb.trans (hb2.mono hb.size)⟩) (yR _) oM oM (λj hj i v hi=>by
    obtain⟨b',off',e,-,c0,c1⟩:=f j hj;simp only[Option.some.injEq,Addr.mk.injEq,and_true]at e;obtain⟨rfl,rfl⟩:=e;rw[getElem!_pos ps j hj]at hi;match i,hi with
    |0,hi=>exact c0.trans hi
    |1,hi=>exact c1.trans hi
    |i+2,hi=>simp at hi)
  rw[List.take_length,hr]at h;exact h
def mark (D:Nat):Deferred:={ target:= .collected D,args:= #[] }
structure Marks (Bm:Nat)(ds:List Nat)(W:World):Prop where
 is:∀D∈ds,W.heap[D]? =some (.deferred (some []))
 high:∀D∈ds,Bm<D
 nd:ds.Nodup
theorem Marks.nil (Bm:Nat)(W:World):Marks Bm [] W:=⟨by simp,by simp,by simp⟩
theorem Marks.kept {ds:List Nat}{W':World}{row:Option Nat}(h:Marks Bm ds W)(hg:W.grownBy W' row)(hr:∀r,row=some r->r<=Bm\/W.heap.size<=r):Marks Bm ds W' :=
 ⟨λD hD=>(hg.block D (Array.getElem?_eq_some_iff.1 (h.is D hD)).1 (λe=>by
  have h1:=(Array.getElem?_eq_some_iff.1 (h.is D hD)).1;have h2:=h.high D hD;rcases hr D e.symm with h3|h3 <;> omega)).trans (h.is D hD),h.high,h.nd⟩
theorem Marks.cons {D:Nat}{ds:List Nat}(h:Marks Bm ds W)(hD:W.heap[D]? =some (.deferred (some [])))(h1:Bm<D)(h2:D∉ds):Marks Bm (D::ds) W :=
 ⟨λE hE=>by rcases List.mem_cons.1 hE with rfl|hE;exact hD;exact h.is E hE,λE hE=>by rcases List.mem_cons.1 hE with rfl|hE;exact h1;exact h.high E hE,List.nodup_cons.2 ⟨h2,h.nd⟩⟩
theorem b0b {F:Fence}{n:Nat}{P:Program}{fn:Func}{tmps:Array Value}{R:Ending->World->Prop}{Bm:Nat}(Pr:World->Prop)
 (hPr:∀W D,Pr W->Bm<D->W.heap[D]? =some (.deferred (some []))->Pr (W.putObj D (.deferred none))) (hend:∀W,Pr W->LeavesIn F n P fn tmps R [] .returning W) :
 ∀(ds:List Nat) (W:World),Marks Bm ds W->Pr W->LeavesInM F n P fn tmps R (ds.map mark) .returning W
 |[],W,_,hp=>hend W hp
 |D::ds,W,hm,hp=>by
  have hD:=hm.is D List.mem_cons_self;have hh:=hm.high D List.mem_cons_self;have hnd:=List.nodup_cons.1 hm.nd;refine⟨by simp,.inl ⟨D,_,rfl,run_takeDeferred hD,?_⟩⟩;refine b0b Pr hPr hend ds _ ⟨λE hE=> ?_,λE hE=>hm.high E (List.mem_cons_of_mem _ hE),hnd.2⟩ (hPr W D hp hh hD);exact(World.putObj_heap_other (o:= .deferred none) (w:=W) (show E≠D from λe=>hnd.1 (e▸hE))).trans (hm.is E (List.mem_cons_of_mem _ hE))
end
section
open Go.RowKit Go.Shelf Go.Sort Go.Lib Go.Maps
attribute [local go_sem] Oper.semAt_some
attribute [local go_sem ↓] Go.wp_at_zero Go.wp_at_succ
theorem b5x (fv:Value)(w:World):Calls prog 161 #[.slice none 0 0,fv] w λe w'=>e= .returned (.tuple #[])/\w'=w:=by
 have h:=AnyF.slices_SortFunc_none Go.Proofs.Tryz.sortSpot none 0 fv w;exact h
theorem b2i (Bm b nn:Nat)(w:World)(hBm:Bm<w.heap.size)(hm:w.cell? ⟨Bm,0,none⟩=some (.map (some b)))(hM:MapIs w b nn [])(hnn:nn<=4294967296) :
 Calls prog 123 #[.func (.func 162) #[] #[.pointer (some ⟨Bm,0,none⟩)],.func (.func 125) #[] #[]] w λe w'=>e= .returned (.slice none 0 0)/\Below w.heap.size w w':=by
 have eg:∀args w,(callFunc 162 args).run prog w= .ok (.enter 162 args) w:=enters_of func162 zM rfl;have hcol:=(callsIn_wide (n:=3)).1 (b4a _ 3 trivial trivial rfl (yR _) 162 #[.pointer (some ⟨Bm,0,none⟩)] trivial eg _ _ nn hnn w (b3z _ 1 trivial rfl (yR _) Bm b nn [] w hBm hm hM));go_enter func123,ntmps123;go_wp2_with (go_at_call 160;refine hcol.mono ?_;rintro e w1⟨v,ss,rfl,⟨hs1,hs2⟩,hrow,hnl,hb1⟩;obtain rfl:v= .slice none 0 0:=hnl.2 (List.eq_nil_iff_forall_not_mem.2 (λp hp=>by simpa using (hs2 p).1 hp)));clear hcol;go_wp2_with (go_at_call 161;refine(b5x _ _).mono ?_;rintro e w2⟨rfl,rfl⟩);go_ret;exact⟨rfl,hb1⟩
theorem b8s (kind:Int)(b nn:Nat)(w:World)(hM:MapIs w b nn [])(hnn:nn<=4294967296) :
 Calls prog 68 #[.map (some b),.int .i64 kind] w λe w'=>e= .returned (.slice none 0 0)/\Below w.heap.size w w':=by
 have hkeys:=λmb W=>(callsIn_wide (n:=1)).1 (c7x _ 1 trivial rfl mb W)
 have hsf:=b2i w.heap.size b nn (w.alloc (.cells #[.map (some b)] 117)) vM vM (hM.alloc _) hnn;simp only[World.size_alloc]at hsf;go_enter func68,ntmps68;go_wp2_with (first|(go_at_call 124;refine(hkeys _ _).mono ?_;rintro e w1⟨rfl,rfl⟩)|(go_at_call 123;refine hsf.mono ?_;rintro e w2⟨rfl,hb2⟩));have hB2:RowKit.Below w.heap.size w w2:=Below.trans (b:=w.alloc (.cells #[.map (some b)] 117)) zC (hb2.mono zC);refine wp_loop_rounds 1 ?_;rw[rounds_succ];go_wp2_with fail;go_ret;exact⟨rfl,hB2⟩
theorem c1t (kind:Int)(b nn:Nat)(en:List (a0m×Int))(w:World)(hM:MapIs w b nn en)(hnn:nn<=4294967296)(hlen:en.length<=8388608) :
 Calls prog 68 #[.map (some b),.int .i64 kind] w λe w'=>∃v base,e= .returned v/\w.heap.size<=base/\w'.ownsRow base 54 4 v (a1h kind en).length ((a1h kind en).flatMap a2c)/\RowKit.Below w.heap.size w w':=by
 by_cases hne:en=[]
 ·subst hne
  refine(b8s kind b nn w hM hnn).mono ?_;rintro e w'⟨rfl,hb⟩;have hl:(a1h kind []).length=0:=a4i _ _;have h0:a1h kind []=[]:=List.eq_nil_of_length_eq_zero hl;rw[h0];exact⟨_,w'.heap.size,rfl,hb.size,⟨by simp,.inl ⟨rfl,rfl⟩⟩,hb⟩
 ·exact b1s kind b nn en w hM hnn hne hlen
end
end Go.Proofs.YtfocdbjceedagaaGreatDoor
