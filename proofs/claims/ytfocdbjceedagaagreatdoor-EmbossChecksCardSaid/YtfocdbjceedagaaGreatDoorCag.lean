/-
  Parts.
-/
import Derived.Test.YtfocdbjceedagaaGreatDoorCae
import Derived.Shelf.SlSortCmp.NoneTotal
set_option linter.unusedVariables false
set_option linter.unusedSimpArgs false
set_option maxHeartbeats 1000000
namespace Go.Proofs.YtfocdbjceedagaaGreatDoor
open Tryz
section
open Go.RowKit Go.Shelf Go.Lib Go.Sort
variable{l:List Pc}{base cap g:Nat}{w:Wd}
def a0q (l:List Pc):List Pc:=(insertionSort (ltOf a1o) l.toArray 0 l.length).toList
theorem c9y:a0q []=[]:=by
 unfold a0q insertionSort;rw[insOuter_stop _ _ _ _ _ vM]
theorem c5l (d:Array Pc)(t:Nat)(ht:t<d.size*7):(d.toList.flatMap plE.enc)[t]? =some (flatK plE.enc 7 d)[t]! :=by
 have hq:t / 7<d.toList.length:=by simp;omega
 have hr:t % 7<7:=Nat.mod_lt _ jM;have e1:t / 7*7+t % 7=t:=oM;have h2:=a9r a4f d.toList (t / 7) (t % 7) hq hr;rw[show plE.s=7 from rfl,e1]at h2;rw[h2,get_flatK _ _ _ _ ht];have He:t / 7<d.size:=oM;rw[getElem!_pos d (t / 7) He];have hl:t % 7<(plE.enc d[t / 7]).length:=hr;rw[getElem!_pos (plE.enc d[t / 7]) (t % 7) hl];simp only[Array.getElem_toList];exact List.getElem?_eq_getElem hl
theorem b5k (h:w.ownsRow base 66 7 (.slice (some ⟨g,0,none⟩) l.length cap) l.length (l.flatMap plE.enc)):SoW w g 0 (cap*7) l.length l.toArray w/\base<=g:=by
 rcases h.2 with⟨e,-⟩|⟨g',aI,cur,e,hb,hg,h1,h2,h3,h4⟩
 ·cases e
 ·simp only[Value.slice.injEq,Option.some.injEq,Addr.mk.injEq,and_true,true_and]at e
  obtain⟨rfl,rfl⟩:=e;refine⟨⟨λt ht=>⟨?_,(show Blk w g cur 66 from hg).frozen _⟩,⟨cur,hg,h3⟩,⟨rfl,rfl,rfl,yR _,λ_ _ _=>rfl⟩,by simp⟩,hb⟩;have qq:t<l.length*7:=by simpa using ht
  have h5:=c5l l.toArray t (by simpa using qq);simp only at h5;have h6:=h.cellAt t qq;rw[h5]at h6;simpa using h6
theorem b5l {W:Wd}{n:Nat}{d:Array Pc}(h:SoW w g 0 (cap*7) n d W)(hb:base<=g)(hc:n<=cap)(hm:cap<=maxLen):W.ownsRow base 66 7 (.slice (some ⟨g,0,none⟩) n cap) n (d.toList.flatMap plE.enc):=by
 obtain⟨hr,⟨cur,hk,hs⟩,-,hz⟩:=h;have hlen:(d.toList.flatMap plE.enc).length=n*7:=by rw[a0w a4f];simp[hz]
 refine⟨hlen,.inr ⟨g,cap,cur,rfl,hb,hk,hc,hm,hs,?_⟩⟩;refine List.ext_getElem? λt=> ?_
 by_cases ht:t<n*7
 ·rw[List.getElem?_take_of_lt ht,c5l d t (by rw[hz];exact ht)]
  exact yjw
 ·exact ykb
theorem c2o (a:Option Addr)(n c:Nat)(fv:Vu)(w:Wd):Calls prog 170 #[.slice a n c,.int .i64 0,.int .i64 0,fv] w λe w'=>e= .returned (.tuple #[])/\w=w':=by
 go_enter func170,ntmps170;go_wp2_with fail;refine wp_loop_rounds 1 ?_;rw[rounds_succ];go_wp2_with fail;go_end0;exact⟨rfl,rfl⟩
theorem b5m (v fv:Vu)(n:Nat)(hn:n<=19)(w:Wd)(K:World->Prop)(h:Calls prog 170 #[v,.int .i64 0,.int .i64 (n:Nat),fv] w λe w'=>e= .returned (.tuple #[])/\K w'):
 Calls prog 150 #[v,.int .i64 (n:Nat),fv] w λe w'=>e= .returned (.tuple #[])/\K w':=by
 have CC:¬(20:Int)<=(n:Int):=oM;have OF:¬(20:Int)<(n:Int):=oM;have mixed:prog.follows .mixedOrders=true:=by kernel_rfl
 go_enter func150,ntmps150;go_wp2_with fail;refine wp_loop_rounds 1 ?_;rw[rounds_succ];go_wp2_with (go_at_call 170;refine h.mono ?_;rintro e w1⟨rfl,hK⟩);refine wp_loop_rounds 1 ?_;rw[rounds_succ];go_wp2_with fail;go_end0;exact⟨rfl,hK⟩
theorem d8c {fv:Vu}(hl:l.length<=19)(ae:w.ownsRow base 66 7 (.slice (some ⟨g,0,none⟩) l.length cap) l.length (l.flatMap plE.enc))(hc:l.length<=cap)(hm:cap<=maxLen)
 (Hf:SoW w g 0 (cap*7) l.length l.toArray w->Calls prog 170 #[.slice (some ⟨g,0,none⟩) l.length cap,.int .i64 0,.int .i64 (l.length:Nat),fv] w λe w'=>e= .returned (.tuple #[])/\SoW w g 0 (cap*7) l.length (insertionSort (ltOf a1o) l.toArray 0 l.length) w') :
 Calls prog 150 #[.slice (some ⟨g,0,none⟩) l.length cap,.int .i64 (l.length:Nat),fv] w λe w'=>e= .returned (.tuple #[])/\w'.ownsRow base 66 7 (.slice (some ⟨g,0,none⟩) l.length cap) l.length ((a0q l).flatMap plE.enc)/\w.grownBy w' (some g):=by
 obtain⟨hS,hb⟩:=b5k ae;refine b5m _ fv l.length hl w _ ((Hf hS).mono ?_);rintro e w'⟨rfl,h⟩;exact⟨rfl,b5l h hb hc hm,h.gr⟩
theorem b9l (base:Nat)(v:Vu)(l:List Pc)(w:Wd)(hl:l.length<=19)(ae:w.ownsRow base 66 7 v l.length (l.flatMap plE.enc)):
 Calls prog 102 #[v,.func (.func 103) #[] #[]] w λe w'=>e= .returned (.tuple #[])/\w'.ownsRow base 66 7 v l.length ((a0q l).flatMap plE.enc)/\w.grownBy w' v.ownBlock:=by
 rcases ae.2 with⟨rfl,h0⟩|⟨g,cap,cur,rfl,hb,hg,h1,h2,h3,h4⟩
 ·obtain rfl:=List.eq_nil_of_length_eq_zero h0
  have c1:=b5m (.slice none 0 0) (.func (.func 103) #[] #[]) 0 oM w (λw'=>w=w') (c2o none 0 0 _ w);have bB:=Lib.hid ae;clear ae h0;go_enter func102,ntmps102;go_wp2_with (go_at_call 150;refine c1.mono ?_;rintro e w1⟨rfl,rfl⟩);go_end0;exact⟨rfl,by rw[c9y];exact bB.out,⟨rfl,rfl,rfl,yR _,λ_ _ _=>rfl⟩⟩
 ·have c1:=d8c hl ae h1 h2 (λhS=>c2l g 0 cap (cap*7) l.length l.toArray w hS oM)
  clear ae hg h3 h4;go_enter func102,ntmps102;go_wp2_with (go_at_call 150;refine c1.mono ?_;rintro e w1⟨rfl,bB,cf⟩);go_end0;exact⟨rfl,bB,cf⟩
end
section
open Go.RowKit Go.Shelf Go.Deep
variable{l:List Dt}{b cap n off:Nat}{W:Wd}
theorem Dts.take (h:Dts n W (.slice (some ⟨b,off,none⟩) l.length cap) l)(k c:Nat)(hk:k<=l.length):Dts n W (.slice (some ⟨b,off,none⟩) k c) (l.take k):=by
 rcases h with⟨h1,-⟩|⟨b',fh,aI,h1,hb,hl,hf,hc⟩
 ·simp at h1
 ·simp only[Value.slice.injEq,Option.some.injEq,Addr.mk.injEq,true_and,and_true]at h1
  obtain⟨⟨rfl,rfl⟩,rfl⟩:=h1;refine .inr ⟨b,off,c,by rw[List.length_take,Nat.min_eq_left hk],hb,by rw[List.length_take];omega,λd hd=>hf d (List.mem_of_mem_take hd),λj hj=> ?_⟩;rw[List.length_take]at hj;rw[List.getElem_take];exact hc j oM
theorem Dts.drop (h:Dts n W (.slice (some ⟨b,off,none⟩) l.length cap) l)(k c o2 m:Nat)(hk:k<=l.length)(ho:o2=off+k*4\/k=l.length)(hm:m=l.length-k):Dts n W (.slice (some ⟨b,o2,none⟩) m c) (l.drop k):=by
 subst hm;rcases h with⟨h1,-⟩|⟨b',fh,aI,h1,hb,hl,hf,hc⟩
 ·simp at h1
 ·simp only[Value.slice.injEq,Option.some.injEq,Addr.mk.injEq,true_and,and_true]at h1
  obtain⟨⟨rfl,rfl⟩,rfl⟩:=h1;refine .inr ⟨b,o2,c,by rw[List.length_drop],hb,by rw[List.length_drop];omega,λd hd=>hf d (List.mem_of_mem_drop hd),λj hj=> ?_⟩;rw[List.length_drop]at hj;rcases ho with rfl|ho
  ·rw[List.getElem_drop]
   have:=hc (k+j) oM;rw[show off+k*4+j*4=off+(k+j)*4 from by omega];exact this
  ·omega
end
section
open Go.RowKit Go.Shelf
variable{b:Act}{k:Nat}{s:Sh}{v:Vu}
theorem a0a (h:b.eval (.tmp k)=v):b.tmps[k]?.getD undef=v:=by
 rw[<-h];simp[Act.eval]
theorem a3l (h:b.eval (.tmp k)=v)(hk:k<b.tmps.size):b.tmps[k]? =some v:=by
 have h2:=a0a h;rw[Array.getElem?_eq_getElem hk]at h2 ⊢;exact congrArg some h2
theorem a0o (w:Wd):w.grownBy w none:=a0t (zR _ _)
theorem b2y (W:Wd):W.grownBy W.drew none:=⟨rfl,rfl,rfl,yR _,λ_ _ _=>rfl⟩
def a6s (s:Sh)(ps:List a0l)(k:Nat):List a9t:=b4p s (ps.getD k (0,0)) (ps.getD (min (k+1) (ps.length-1)) (0,0))
def a6t (s:Sh)(id:Int)(ps:List a0l)(en:List (a0l×Int))(t:Nat):List (a0l×Int):=(List.range t).foldl (λen k=>a3p s id en (a6s s ps k)) en
theorem a8c (s:Sh)(id:Int)(ps:List a0l)(en:List (a0l×Int))(t:Nat):a6t s id ps en (t+1)=a3p s id (a6t s id ps en t) (a6s s ps t):=by
 unfold a6t;rw[List.range_succ,List.foldl_append];rfl
def a4n (ps:List a0l):Bool:=ps.all λp=>a1j p.1 p.2
def a4b (s:Sh)(en:List (a0l×Int))(ws:List (Int×List a0l)):List (a0l×Int):=ws.foldl (λen w=>if a4n w.2 then a6t s w.1 w.2 en w.2.length else en) en
theorem c6v (s:Sh)(en:List (a0l×Int))(ws:List (Int×List a0l))(w:Int×List a0l):a4b s en (ws++[w])=if a4n w.2 then a6t s w.1 w.2 (a4b s en ws) w.2.length else a4b s en ws:=by
 unfold a4b;rw[List.foldl_append];rfl
theorem b5n (s:Sh)(ws:List (Int×List a0l))(t:Nat)(h:t<ws.length):a4b s [] (ws.take (t+1))=if a4n ws[t].2 then a6t s ws[t].1 ws[t].2 (a4b s [] (ws.take t)) ws[t].2.length else a4b s [] (ws.take t):=by
 rw[List.take_add_one,List.getElem?_eq_getElem h];exact c6v _ _ _ _
/-! ### what ways contribute,one by one -/
def a9q (s:Sh)(en:List (a0l×Int))(c:a0l×Int):List (a0l×Int):=c9q s c.2 en c.1
def d8d (s:Sh)(w:Int×List a0l):List (a0l×Int):=if a4n w.2 then((List.range w.2.length).flatMap (a6s s w.2)).map (λd=>(d.1,w.1))else []
theorem b0v (s:Sh)(id:Int)(l:List a9t)(en:List (a0l×Int)):a3p s id en l=(l.map (λd=>(d.1,id))).foldl (a9q s) en:=by
 unfold a3p;rw[List.foldl_map];rfl
theorem c2p (s:Sh)(id:Int)(ps:List a0l)(en:List (a0l×Int))(t:Nat):a6t s id ps en t=(((List.range t).flatMap (a6s s ps)).map (λd=>(d.1,id))).foldl (a9q s) en:=by
 induction t with
 |zero=>rfl
 |succ t ih =>
  rw[a8c,ih,b0v,List.range_succ,List.flatMap_append,List.map_append,List.foldl_append];simp
theorem a7h (s:Sh):∀(ws:List (Int×List a0l)) (en:List (a0l×Int)),a4b s en ws=(ws.flatMap (d8d s)).foldl (a9q s) en
 |[],en=>rfl
 |w::ws,en=>by
  rw[List.flatMap_cons,List.foldl_append,<-a7h s ws];unfold a4b;rw[List.foldl_cons];congr 1;unfold d8d;split
  ·rw[c2p]
  ·rfl
theorem a8y (en:List (a0l×Int))(p:a0l):b1k en p=(a7q en p).isSome:=by
 unfold b1k a7q;rw[Option.isSome_map,Bool.eq_iff_iff,List.find?_isSome,List.any_eq_true]
def d4m (id:Int):Option Int->Int
 |none=>id
 |some o=>if id<o then id else o
theorem c9z (s:Sh)(id:Int)(en:List (a0l×Int))(d q:a0l):a7q (c9q s id en d) q=if q=d/\onS s d.1 d.2=true then some (d4m id (a7q en d))else a7q en q:=by
 unfold c9q;rw[a8y]
 cases dp:onS s d.1 d.2 with
 |false=>simp
 |true =>
  cases ho:a7q en d with
  |none =>
   simp only[Option.isSome_none,Bool.not_false,Bool.true_or,Bool.and_self,if_true,b6l,and_true,d4m]
  |some o =>
   simp only[Option.isSome_some,Bool.not_true,Bool.false_or,Bool.true_and,Option.getD_some,and_true,d4m,decide_eq_true_eq];split
   ·rw[b6l]
   ·split
    ·rename_i h;rw[h];exact ho
    ·rfl
theorem a9x (s:Sh)(en:List (a0l×Int))(c:a0l×Int)(h:(en.map (·.1)).Nodup):((a9q s en c).map (·.1)).Nodup:=by
 unfold a9q c9q;split
 ·rw[a6n]
  split
  ·exact h
  ·rename_i hk
   rw[List.nodup_append];refine⟨h,by simp,λa ha b hb=> ?_⟩;obtain rfl:b=c.1:=by simpa using hb
   exact λe=>hk (a2t.2 (e▸ha))
 ·exact h
theorem a9y (s:Sh):∀(l:List (a0l×Int)) (en:List (a0l×Int)),(en.map (·.1)).Nodup->((l.foldl (a9q s) en).map (·.1)).Nodup
 |[],_,h=>h
 |c::l,en,h=>a9y s l (a9q s en c) (a9x s en c h)
/-! ### how many entries there are -/
theorem b6r :∀(n:Nat) (l:List Nat),l.Nodup->(∀x∈l,x<n)->l.length<=n
 |0,l,_,h=>by
  match l,h with
  |[],_=>simp
  |x::_,h=>exact absurd (h x List.mem_cons_self) oM
 |n+1,l,hn,h=>by
  by_cases hm:n∈l
  ·have h1:=b6r n (l.erase n) (hn.erase n) (λx hx=>by
    have:=h x (List.mem_of_mem_erase hx);have av:x≠n:=λe=>by subst e;exact(List.Nodup.not_mem_erase hn) hx
    omega)
   have h2:=List.length_erase_of_mem hm;omega
  ·have h1:=b6r n l hn (λx hx=>by
    have:=h x hx;have av:x≠n:=λe=>hm (e▸hx)
    omega)
   omega
theorem d8e (s:Sh)(en:List (a0l×Int))(c:a0l×Int)(h:∀p∈en.map (·.1),onS s p.1 p.2=true):∀p∈(a9q s en c).map (·.1),onS s p.1 p.2=true:=by
 intro p hp;unfold a9q c9q at hp;split at hp
 ·rename_i hc
  rw[a6n]at hp;split at hp
  ·exact h p hp
  ·rcases List.mem_append.1 hp with hp|hp
   ·exact h p hp
   ·obtain rfl:p=c.1:=by simpa using hp
    simp only[Bool.and_eq_true]at hc;exact hc.1
 ·exact h p hp
theorem b2z (s:Sh):∀(l:List (a0l×Int)) (en:List (a0l×Int)),(∀p∈en.map (·.1),onS s p.1 p.2=true)->∀p∈(l.foldl (a9q s) en).map (·.1),onS s p.1 p.2=true
 |[],_,h=>h
 |c::l,en,h=>b2z s l (a9q s en c) (d8e s en c h)
theorem b9m (hs:OkS s){en:List (a0l×Int)}(hn:(en.map (·.1)).Nodup)(h:∀p∈en.map (·.1),onS s p.1 p.2=true):en.length<=6480:=by
 have key:∀l:List a0l,l.Nodup->(∀p∈l,onS s p.1 p.2=true)->l.length<=6480:=by
  intro l hl dp;have h1:(l.map λp=>p.1.toNat*81+p.2.toNat).Nodup:=by
   rw[List.nodup_iff_pairwise_ne,List.pairwise_map];have pC:∀ {a b:a0l},[a,b].Sublist l->a≠b:=List.pairwise_iff_forall_sublist.1 (List.nodup_iff_pairwise_ne.1 hl);refine List.pairwise_iff_forall_sublist.2 (λ{a b} bL e=> ?_);have ha:=a5y.1 (dp a (bL.subset vM));have hb:=a5y.1 (dp b (bL.subset vM));have w1:=hs.w1;have v1:=hs.h1;exact pC bL (Prod.ext oM oM)
  have h2:=b6r 6480 _ h1 (λx hx=>by
   obtain⟨p,hp,rfl⟩:=List.mem_map.1 hx;have ha:=a5y.1 (dp p hp);have w1:=hs.w1;have v1:=hs.h1;omega)
  simpa using h2
 have:=key _ hn h;simpa using this
theorem b0w (hs:OkS s)(ws:List (Int×List a0l)):(a4b s [] ws).length<=6480:=by
 rw[a7h];exact b9m hs (a9y _ _ _ vM) (b2z _ _ _ vM)
/-! ### a move -/
end
section
open Go.RowKit Go.Shelf Go.Maps
variable{Bm b n₀ dQ o:Nat}{sv:Vu}{A B W:Wd}
def Pts (n₀:Nat)(W:Wd)(sv:Vu)(ps:List a0l):Prop :=
 ∃a cap,sv= .slice a ps.length cap/\∀j,(h:j<ps.length)->∃b off,a=some ⟨b,off,none⟩/\b<n₀/\W.cell? ⟨b,off+j*2,none⟩=some (.int .i64 ps[j].1)/\W.cell? ⟨b,off+j*2+1,none⟩=some (.int .i64 ps[j].2)
theorem Pts.below (h:Below n₀ A B){ps:List a0l}:Pts n₀ A sv ps->Pts n₀ B sv ps
 |⟨a,cap,e,f⟩=>⟨a,cap,e,λj hj=>by
  obtain⟨b,off,h1,h2,h3,h4⟩:=f j hj;exact⟨b,off,h1,h2,(h.cell (p:=⟨b,off+j*2,none⟩) h2).trans h3,(h.cell (p:=⟨b,off+j*2+1,none⟩) h2).trans h4⟩⟩
theorem Pts.mono (h:n₀<=dQ){ps:List a0l}:Pts n₀ W sv ps->Pts dQ W sv ps
 |⟨a,cap,e,f⟩=>⟨a,cap,e,λj hj=>by
  obtain⟨b,off,h1,h2,h3⟩:=f j hj;exact⟨b,off,h1,oM,h3⟩⟩
structure Wy where
 id:Int
 line:List a0l
 lv:Value
 lvl:Int
 cls:ByteArray
 nm:ByteArray
 st:Bool
 wt:Int
 di:Int
abbrev Wy.key (y:Wy):Int×List a0l:=(y.id,y.line)
structure WyAt (n₀:Nat)(W:Wd)(b o:Nat)(y:Wy):Prop where
 c0:W.cell? ⟨b,o,none⟩=some (.int .i64 y.id)
 c1:W.cell? ⟨b,o+1,none⟩=some y.lv
 c2:W.cell? ⟨b,o+2,none⟩=some (.int .i64 y.lvl)
 c3:W.cell? ⟨b,o+3,none⟩=some (.string y.cls)
 c4:W.cell? ⟨b,o+4,none⟩=some (.string y.nm)
 c5:W.cell? ⟨b,o+5,none⟩=some (.bool y.st)
 c6:W.cell? ⟨b,o+6,none⟩=some (.int .i64 y.wt)
 c7:W.cell? ⟨b,o+7,none⟩=some (.int .i64 y.di)
 pts:Pts n₀ W y.lv y.line
theorem WyAt.below (h:Below n₀ A B){y:Wy}(hb:b<n₀)(r:WyAt n₀ A b o y):WyAt n₀ B b o y :=
 ⟨(h.cell (p:=⟨b,o,none⟩) hb).trans r.c0,(h.cell (p:=⟨b,o+1,none⟩) hb).trans r.c1,(h.cell (p:=⟨b,o+2,none⟩) hb).trans r.c2,(h.cell (p:=⟨b,o+3,none⟩) hb).trans r.c3,
  (h.cell (p:=⟨b,o+4,none⟩) hb).trans r.c4,(h.cell (p:=⟨b,o+5,none⟩) hb).trans r.c5,(h.cell (p:=⟨b,o+6,none⟩) hb).trans r.c6,(h.cell (p:=⟨b,o+7,none⟩) hb).trans r.c7,r.pts.below h⟩
def Wys (n₀:Nat)(W:Wd)(sv:Vu)(ws:List Wy):Prop :=
 ∃a cap,sv= .slice a ws.length cap/\∀j,(h:j<ws.length)->∃b off,a=some ⟨b,off,none⟩/\b<n₀/\WyAt n₀ W b (off+j*8) ws[j]
theorem Wys.below (h:Below n₀ A B){ws:List Wy}:Wys n₀ A sv ws->Wys n₀ B sv ws
 |⟨a,cap,e,f⟩=>⟨a,cap,e,λj hj=>by
  obtain⟨b,off,h1,h2,h3⟩:=f j hj;exact⟨b,off,h1,h2,h3.below h h2⟩⟩
theorem WyAt.mono (h:n₀<=dQ){y:Wy}(r:WyAt n₀ W b o y):WyAt dQ W b o y:=⟨r.c0,r.c1,r.c2,r.c3,r.c4,r.c5,r.c6,r.c7,r.pts.mono h⟩
theorem Wys.mono (h:n₀<=dQ){ws:List Wy}:Wys n₀ W sv ws->Wys dQ W sv ws
 |⟨a,cap,e,f⟩=>⟨a,cap,e,λj hj=>by
  obtain⟨b,off,h1,h2,h3⟩:=f j hj;exact⟨b,off,h1,oM,h3.mono h⟩⟩
theorem Wys.up {ws:List Wy}(h:Wys n₀ A sv ws)(hb:Below n₀ A B)(hn:n₀<=B.heap.size):Wys B.heap.size B sv ws:=(h.below hb).mono hn
theorem b9n (lv:Vu)(ps:List a0l)(n₀:Nat)(W:Wd)(h:Pts n₀ W lv ps)(hn:n₀<=W.heap.size)(hl:ps.length<=1000):
 Zc prog 80 #[lv,.func (.func 81) #[] #[]] W (.bool (!a4n ps)):=by
 have OG:∀args w,(callFunc 81 args).run prog w= .ok (.enter 81 args) w:=enters_of func81 zM rfl;have hr:(ps.any λx=> !a1j x.1 x.2)= !a4n ps:=by
  unfold a4n;rw[List.any_eq_not_all_not];simp
 obtain⟨a,cap,rfl,f⟩:=h;by_cases h0:ps=[]
 ·subst h0
  rw[<-hr];simp only[List.any_nil];have OH:∀w,Calls prog 138 #[.slice a 0 cap,.func (.func 81) #[] #[]] w λe w'=>e= .returned (.int .i64 (-1))/\w=w':=by
   intro w;go_enter func138,ntmps138;exact yho
  go_enter func80,ntmps80;go_wp2_with (go_at_call 138;refine(OH _).mono ?_;rintro e w'⟨rfl,rfl⟩);go_ret;exact⟨rfl,zR _ _⟩
 ·have dR:0<ps.length:=List.length_pos_iff.2 h0
  obtain⟨b,off,rfl,hb,-⟩:=f 0 dR;have h:=AnyQ.slices_ContainsFunc Go.Proofs.Tryz.pointsContains 2 isAgg26 sizeOf26 a6j (λ_=>rfl) (λx=> !a1j x.1 x.2) 81 #[] OG b off ps.length cap ps W
   (λW' x hb=>(b2m x.1 x.2 W').mono λ_ _ ⟨he,az⟩=>⟨he,hb.trans (az.mono hb.size)⟩) (yR _) oM oM (λj hj i v hi=>by
    obtain⟨b',fh,e,-,c0,c1⟩:=f j hj;simp only[Option.some.injEq,Addr.mk.injEq,and_true]at e;obtain⟨rfl,rfl⟩:=e;rw[getElem!_pos ps j hj]at hi;match i,hi with
    |0,hi=>exact c0.trans hi
    |1,hi=>exact c1.trans hi
    |i+2,hi=>simp at hi)
  rw[List.take_length,hr]at h;exact h
def mark (D:Nat):Deferred:={ target:= .collected D,args:= #[] }
structure Marks (Bm:Nat)(ds:List Nat)(W:Wd):Prop where
 is:∀D∈ds,W.heap[D]? =some (.deferred (some []))
 high:∀D∈ds,Bm<D
 nd:ds.Nodup
theorem Marks.nil (Bm:Nat)(W:Wd):Marks Bm [] W:=⟨by simp,by simp,by simp⟩
theorem Marks.kept {ds:List Nat}{W':Wd}{row:Option Nat}(h:Marks Bm ds W)(hg:W.grownBy W' row)(hr:∀r,row=some r->r<=Bm\/W.heap.size<=r):Marks Bm ds W' :=
 ⟨λD hD=>(hg.block D (Array.getElem?_eq_some_iff.1 (h.is D hD)).1 (λe=>by
  have h1:=(Array.getElem?_eq_some_iff.1 (h.is D hD)).1;have h2:=h.high D hD;rcases hr D e.symm with h3|h3 <;> omega)).trans (h.is D hD),h.high,h.nd⟩
theorem Marks.cons {D:Nat}{ds:List Nat}(h:Marks Bm ds W)(hD:W.heap[D]? =some (.deferred (some [])))(h1:Bm<D)(h2:D∉ds):Marks Bm (D::ds) W :=
 ⟨λE hE=>by rcases List.mem_cons.1 hE with rfl|hE;exact hD;exact h.is E hE,λE hE=>by rcases List.mem_cons.1 hE with rfl|hE;exact h1;exact h.high E hE,List.nodup_cons.2 ⟨h2,h.nd⟩⟩
theorem b0x {F:Fence}{n:Nat}{P:Program}{fn:Func}{tmps:Array Value}{R:Ending->World->Prop}{Bm:Nat}(Pr:World->Prop)
 (LC:∀W D,Pr W->Bm<D->W.heap[D]? =some (.deferred (some []))->Pr (W.putObj D (.deferred none))) (dC:∀W,Pr W->LeavesIn F n P fn tmps R [] .returning W) :
 ∀(ds:List Nat) (W:Wd),Marks Bm ds W->Pr W->LeavesInM F n P fn tmps R (ds.map mark) .returning W
 |[],W,_,hp=>dC W hp
 |D::ds,W,hm,hp=>by
  have hD:=hm.is D List.mem_cons_self;have hh:=hm.high D List.mem_cons_self;have il:=List.nodup_cons.1 hm.nd;refine⟨by simp,.inl ⟨D,_,rfl,run_takeDeferred hD,?_⟩⟩;refine b0x Pr LC dC ds _ ⟨λE hE=> ?_,λE hE=>hm.high E (List.mem_cons_of_mem _ hE),il.2⟩ (LC W D hp hh hD);exact(World.putObj_heap_other (o:= .deferred none) (w:=W) (show E≠D from λe=>il.1 (e▸hE))).trans (hm.is E (List.mem_cons_of_mem _ hE))
end
section
open Go.RowKit Go.Shelf Go.Sort Go.Lib Go.Maps
theorem b6s (fv:Vu)(w:Wd):Calls prog 161 #[.slice none 0 0,fv] w λe w'=>e= .returned (.tuple #[])/\w'=w:=by
 have h:=AnyF.slices_SortFunc_none Go.Proofs.Tryz.sortSpot none 0 fv w;exact h
theorem b3a (Bm b nn:Nat)(w:Wd)(uY:Bm<w.heap.size)(hm:w.cell? ⟨Bm,0,none⟩=some (.map (some b)))(hM:MapIs w b nn [])(iQ:nn<=4294967296) :
 Zc prog 123 #[.func (.func 162) #[] #[.pointer (some ⟨Bm,0,none⟩)],.func (.func 125) #[] #[]] w (.slice none 0 0):=by
 have eg:∀args w,(callFunc 162 args).run prog w= .ok (.enter 162 args) w:=enters_of func162 zM rfl;have qj:=(callsIn_wide (n:=3)).1 (b5b _ 3 trivial trivial rfl (yR _) 162 #[.pointer (some ⟨Bm,0,none⟩)] trivial eg _ _ nn iQ w (b5a _ 1 trivial rfl (yR _) Bm b nn [] w uY hm hM));go_enter func123,ntmps123;go_wp2_with (go_at_call 160;refine qj.mono ?_;rintro e w1⟨v,ss,rfl,⟨fB,cH⟩,ae,iO,aw⟩;obtain rfl:v= .slice none 0 0:=iO.2 (List.eq_nil_iff_forall_not_mem.2 (λp hp=>by simpa using (cH p).1 hp)));clear qj;go_wp2_with (go_at_call 161;refine(b6s _ _).mono ?_;rintro e w2⟨rfl,rfl⟩);go_ret;exact⟨rfl,aw⟩
theorem b9o (kind:Int)(b nn:Nat)(w:Wd)(hM:MapIs w b nn [])(iQ:nn<=4294967296) :
 Zc prog 68 #[.map (some b),.int .i64 kind] w (.slice none 0 0):=by
 have aQ:=λmb W=>(callsIn_wide (n:=1)).1 (c9f _ 1 trivial rfl mb W)
 have gA:=b3a w.heap.size b nn (w.alloc (.cells #[.map (some b)] 117)) vM vM (hM.alloc _) iQ;try simp only[World.size_alloc]at gA
 go_enter func68,ntmps68;go_wp2_with (first|(go_at_call 124;refine(aQ _ _).mono ?_;rintro e w1⟨rfl,rfl⟩)|(go_at_call 123;refine gA.mono ?_;rintro e w2⟨rfl,az⟩));have aG:RowKit.Below w.heap.size w w2:=Below.trans (b:=w.alloc (.cells #[.map (some b)] 117)) zC (az.mono zC);refine wp_loop_rounds 1 ?_;rw[rounds_succ];go_wp2_with fail;go_ret;exact⟨rfl,aG⟩
theorem c2q (kind:Int)(b nn:Nat)(en:List (a0l×Int))(w:Wd)(hM:MapIs w b nn en)(iQ:nn<=4294967296)(hlen:en.length<=8388608) :
 Calls prog 68 #[.map (some b),.int .i64 kind] w λe w'=>∃v base,e= .returned v/\w.heap.size<=base/\w'.ownsRow base 54 4 v (a1k kind en).length ((a1k kind en).flatMap a2k)/\RowKit.Below w.heap.size w w':=by
 by_cases av:en=[]
 ·subst av
  refine(b9o kind b nn w hM iQ).mono ?_;rintro e w'⟨rfl,hb⟩;have hl:(a1k kind []).length=0:=a3z _ _;have h0:a1k kind []=[]:=List.eq_nil_of_length_eq_zero hl;rw[h0];exact⟨_,w'.heap.size,rfl,hb.size,⟨by simp,.inl ⟨rfl,rfl⟩⟩,hb⟩
 ·exact b2k kind b nn en w hM iQ av hlen
end
end Go.Proofs.YtfocdbjceedagaaGreatDoor
