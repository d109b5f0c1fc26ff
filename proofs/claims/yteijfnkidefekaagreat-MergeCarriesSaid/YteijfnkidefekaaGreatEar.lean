/-
  Parts.
-/
import Derived.Test.YteijfnkidefekaaGreatEaq
import Derived.Test.YteijfnkidefekaaGreatEas
set_option linter.unusedVariables false
set_option linter.unusedSimpArgs false
set_option linter.unusedSectionVars false
set_option maxHeartbeats 8000000
set_option maxRecDepth 100000
namespace Go.Proofs.YteijfnkidefekaaGreat
open Tryz
section
open Go Go.RowKit Go.Shelf Go.Lib Go.Maps
theorem c5w {n:Int}(h:a0l n):(Lit.int .i64 n).wf=true:=by
 obtain⟨h0,h1⟩:=h;simp[Lit.wf,IntKind.min,IntKind.max,IntKind.signed,IntKind.bits];omega
theorem c1o {n:Int}(h:(Lit.int .i64 n).wf=true):a0l n:=by
 exact yjz
abbrev inKy :Ky Int:=⟨3,λn=> .int .i64 n,λn=> .int .i64 n,a0l⟩
theorem c5x {p:Int}(h:a0l p):keyOf prog 3 (.int .i64 p)=some (.int .i64 p):=keyOf_int_mk underlying3 (c5w h)
theorem inKyL :inKy.Law prog:=⟨int_keyed underlying3,λh=>c5x h,λ{v l} h=>by
 rw[keyOf_int underlying3]at h;unfold mapKey at h;rw[underlying3]at h
 cases v <;> simp at h
 obtain⟨⟨h1,h2⟩,h3⟩:=h;subst h1 h3;exact⟨_,c1o h2,rfl,rfl⟩,λh=>by simpa using h⟩
structure Tg where
 k:Int
 e:Option Addr
 f:Option Addr
 w:Option Addr
 p:Option Addr
def tgZ :Tg:=⟨0,none,none,none,none⟩
abbrev a2f (t:Tg):Value:= .agg #[.int .i64 t.k,.pointer t.e,.pointer t.f,.pointer t.w,.pointer t.p]
abbrev tgV :Vh Tg:=⟨124,a2f,tgZ⟩
theorem a7i (w:Wd):(zeroValue 124).run prog w= .ok (a2f tgZ) w:=by kernel_rfl
def adr (a:Option Addr)(k:Nat):Option Addr:=a.map λx=>⟨x.block,x.off+k,none⟩
def tgE (a:Option Addr)(E:List Eg):List (Int×Tg):=E.mapIdx λi x=>(x.id,⟨4,adr a (i*4),none,none,none⟩)
def tgF (a:Option Addr)(E:List Fc):List (Int×Tg):=E.mapIdx λi x=>(x.id,⟨1,none,adr a (i*5),none,none⟩)
def tgY (a:Option Addr)(E:List Wq):List (Int×Tg):=E.mapIdx λi x=>(x.id,⟨2,none,none,adr a (i*8),none⟩)
def tgP (a:Option Addr)(E:List Pc):List (Int×Tg):=E.mapIdx λi x=>(x.id,⟨3,none,none,none,adr a (i*7)⟩)
def a1e {β:Type}(l en:List (Int×β)):List (Int×β):=l.foldl (λen q=>a7a en q.1 q.2) en
section
variable {β:Type}
theorem b8m (l en:List (Int×β))(q:Int×β):a1e (l++[q]) en=a7a (a1e l en) q.1 q.2:=by
 unfold a1e;rw[List.foldl_append];rfl
theorem a4m (l m en:List (Int×β)):a1e (l++m) en=a1e m (a1e l en):=by
 unfold a1e;rw[List.foldl_append]
theorem a4t {l en:List (Int×β)}{k:Nat}{q:Int×β}(h:l[k]? =some q):a1e (l.take (k+1)) en=a7a (a1e (l.take k) en) q.1 q.2:=by
 rw[List.take_add_one,h];exact b8m _ _ _
theorem b3f (l:List (Int×β)):∀(en:List (Int×β)) (i:Int),i∈(a1e l en).map (·.1)↔i∈l.map (·.1)\/i∈en.map (·.1):=by
 induction l with
 |nil=>intro en i;simp[a1e]
 |cons q l ih =>
  intro en i;have h1:=ih (a7a en q.1 q.2) i;show i∈(a1e l (a7a en q.1 q.2)).map (·.1)↔_;rw[h1,List.map_cons,List.mem_cons];have h2:i∈(a7a en q.1 q.2).map (·.1)↔i=q.1\/i∈en.map (·.1):=by
   exact yia
  rw[h2];constructor
  ·rintro(h|h|h)
   ·exact .inl (.inr h)
   ·exact .inl (.inl h)
   ·exact .inr h
  ·rintro((h|h)|h)
   ·exact .inr (.inl h)
   ·exact .inl h
   ·exact .inr (.inr h)
theorem a8q (l:List (Int×β)):∀en:List (Int×β),(a1e l en).length<=l.length+en.length/\((a1e l en).length=l.length+en.length↔(l.map (·.1)).Nodup/\∀q∈l,q.1∉en.map (·.1)):=by
 induction l with
 |nil=>intro en;simp[a1e]
 |cons q l ih =>
  intro en;obtain⟨h1,h2⟩:=ih (a7a en q.1 q.2);have hl:=a5d en q.1 q.2;show(a1e l (a7a en q.1 q.2)).length<=_/\((a1e l (a7a en q.1 q.2)).length=_↔_);have hm:∀i,i∈(a7a en q.1 q.2).map (·.1)↔i=q.1\/i∈en.map (·.1):=λi=>by
   exact yia
  by_cases hq:b2c en q.1=true
  ·rw[if_pos hq]at hl
   rw[List.length_cons];refine⟨xM,⟨λh=>by omega,λh=> ?_⟩⟩;exact absurd (hasG_iff.1 hq) (h.2 q List.mem_cons_self)
  ·rw[if_neg hq]at hl
   rw[List.length_cons];refine⟨xM,?_⟩;have e:(a1e l (a7a en q.1 q.2)).length=l.length+1+en.length↔(a1e l (a7a en q.1 q.2)).length=l.length+(a7a en q.1 q.2).length:=xM;rw[e,h2,List.map_cons,List.nodup_cons];constructor
   ·rintro⟨a,b⟩
    refine⟨⟨λb8=> ?_,a⟩,λr hr=> ?_⟩
    ·obtain⟨r,hr,e2⟩:=List.mem_map.1 b8
     exact b r hr ((hm _).2 (.inl e2))
    ·rcases List.mem_cons.1 hr with rfl|hr
     ·exact λh=>hq (hasG_iff.2 h)
     ·exact λh=>b r hr ((hm _).2 (.inr h))
   ·rintro⟨⟨a,b⟩,c⟩
    refine⟨b,λr hr h=> ?_⟩;rcases(hm _).1 h with h|h
    ·exact a (List.mem_map.2 ⟨r,hr,h⟩)
    ·exact c r (List.mem_cons_of_mem _ hr) h
theorem b7b (l:List (Int×β)):∀(en:List (Int×β)) (i:Int),i∉l.map (·.1)->idG (a1e l en) i=idG en i:=by
 induction l with
 |nil=>intro en i _;rfl
 |cons q l ih =>
  intro en i hi;rw[List.map_cons,List.mem_cons,not_or]at hi;show idG (a1e l (a7a en q.1 q.2)) i=_;rw[ih _ _ hi.2,b4l,if_neg hi.1]
theorem c1p (l:List (Int×β))(hn:(l.map (·.1)).Nodup):∀(en:List (Int×β)),∀q∈l,idG (a1e l en) q.1=some q.2:=by
 induction l with
 |nil=>intro en q hq;cases hq
 |cons r l ih =>
  intro en q hq;rw[List.map_cons,List.nodup_cons]at hn;show idG (a1e l (a7a en r.1 r.2)) q.1=_;rcases List.mem_cons.1 hq with rfl|hq
  ·rw[b7b l _ _ hn.1,b4l,if_pos rfl]
  ·exact ih hn.2 _ q hq
end
def a1z (a0 a1 a2 a3:Option Addr)(E:List Eg)(F:List Fc)(Y:List Wq)(P:List Pc):List (Int×Tg):=tgE a0 E++(tgF a1 F++(tgY a2 Y++tgP a3 P))
theorem a5w (a0 a1 a2 a3:Option Addr)(E:List Eg)(F:List Fc)(Y:List Wq)(P:List Pc):(a1z a0 a1 a2 a3 E F Y P).map (·.1)=ids (a1d E F Y P):=by
 unfold a1z ids a1d tgE tgF tgY tgP;simp only[List.map_append,List.map_map];congr 1
 ·refine List.ext_getElem vM λi h1 h2=>by simp[Eg.key]
 congr 1
 ·refine List.ext_getElem vM λi h1 h2=>by simp
 congr 1
 ·refine List.ext_getElem vM λi h1 h2=>by simp[Wq.key]
 ·refine List.ext_getElem vM λi h1 h2=>by simp
theorem a3p (x0 x1 x2 x3:Option Addr)(c0 c1 c2 c3:Nat)(E:List Eg)(Fa:List Fc)(Y:List Wq)(P:List Pc)(w:Wd)(hM:MapV w.heap.size w (.slice x0 E.length c0) (.slice x1 Fa.length c1) (.slice x2 Y.length c2) (.slice x3 P.length c3) E Fa Y P) :
 Calls prog 17 #[.agg #[.slice x0 E.length c0,.slice x1 Fa.length c1,.slice x2 Y.length c2,.slice x3 P.length c3]] w λe w'=>∃b,e= .returned (.tuple #[.map (some b),.bool (decide (ids (a1d E Fa Y P)).Nodup)])/\w.heap.size<=b/\(∃n,MapH prog inKy tgV w' b n (a1e (a1z x0 x1 x2 x3 E Fa Y P) []))/\Below w.heap.size w w':=by
 have an:=hM.ne;have bZ:=hM.nf;have je:=hM.nw;have iK:=hM.np;have oV:= @run_makeMap prog;have kM:=(Blk.new w #[.slice x0 E.length c0,.slice x1 Fa.length c1,.slice x2 Y.length c2,.slice x3 P.length c3] 32).alloc (.map #[] 0);have hA0:=MapH.made prog inKy tgV (w.alloc (.cells #[.slice x0 E.length c0,.slice x1 Fa.length c1,.slice x2 Y.length c2,.slice x3 P.length c3] 32));rw[World.size_alloc]at hA0;have ah:Below w.heap.size w ((w.alloc (.cells #[.slice x0 E.length c0,.slice x1 Fa.length c1,.slice x2 Y.length c2,.slice x3 P.length c3] 32)).alloc (.map #[] 0)):=by exact zC
 go_enter func17,ntmps17;go_upto_region 2 with fail;obtain⟨W1,ao⟩:=zE ((w.alloc (.cells #[.slice x0 E.length c0,.slice x1 Fa.length c1,.slice x2 Y.length c2,.slice x3 P.length c3] 32)).alloc (.map #[] 0));rw[ao]at kM hA0 ah ⊢;clear ao oV;obtain⟨BM,bu⟩:=zE w.heap.size;obtain⟨mb,jE⟩:=zE (BM+1);rw[bu]at kM hA0 ⊢;rw[jE]at hA0 ⊢;obtain⟨k0,k1,k2,k3⟩:=zN4 kM;clear kM;go_wp2_with fail;go_loopw [13] (λvk wr=>∃k:Nat,vk= .int .i64 (k:Nat)/\k<=E.length/\Hid (MapH prog inKy tgV wr mb (k) (a1e ((tgE x0 E).take k) [])/\Below BM w wr)/\wr.cell? ⟨BM,0,none⟩=some (.slice x0 E.length c0)/\wr.cell? ⟨BM,1,none⟩=some (.slice x1 Fa.length c1)/\wr.cell? ⟨BM,2,none⟩=some (.slice x2 Y.length c2)/\wr.cell? ⟨BM,3,none⟩=some (.slice x3 P.length c3)) (λvk _=>E.length+1-(intOf vk).toNat)
 case atStart=>exact⟨0,rfl,xM,Lib.hid ⟨hA0,bu▸ah⟩,k0,k1,k2,k3⟩
 case round =>
  clear hA0 k0 k1 k2 k3;obtain⟨k,rfl,hk,hR,k0,k1,k2,k3⟩:=hrel;by_cases ab:k<E.length
  ·have aj:(k:Int)<(E.length:Int):=xM
   obtain⟨b,o,d,e,-,bS,hc⟩:=hM.e.some_ xM;simp only[Value.slice.injEq,true_and]at e;obtain⟨ha,-⟩:=e;have hid:a0l E[k].id:=hM.ei _ (List.getElem_mem ab);have mB:w.cell? ⟨b,o+k*4,none⟩=some (.int .i64 E[k].id):=hc k ab 0 jM;have tM:wr.cell? ⟨b,o+k*4,none⟩=some (.int .i64 E[k].id):=(hR.out.2.cell (p:=⟨b,o+k*4,none⟩) (bu▸bS)).trans mB;have kk:wr.cell? ⟨BM,0,none⟩=some (.slice (some ⟨b,o,none⟩) E.length c0):=by rw[<-ha];exact k0
   have hq:(tgE x0 E)[k]? =some (E[k].id,(⟨4,some ⟨b,o+k*4,none⟩,none,none,none⟩:Tg)):=by
    unfold tgE;exact yfo
   have gj:=a4t (en:=[]) hq;obtain⟨ki,jb⟩:=zE (E[k].id);rw[jb]at hid tM gj;replace gj:=Lib.hid gj;replace hid:=Lib.hid hid;have kx:=Lib.hid (And.intro k0 (And.intro k1 (And.intro k2 k3)));have tN:=bu▸bS;clear hq mB ha k0 k1 k2 k3 hc jb;go_upto_region 5 with fail;refine c8j λp=> ?_
   have hA1:MapH prog inKy tgV (wr.growBy p) mb (k) (a1e ((tgE x0 E).take k) []):=hR.out.1.kept (a1n _ _) vM;have jy:Below BM w (wr.growBy p):=a1k hR.out.2 (bu▸hR.out.2.size) p;have D4:=(below_growBy wr p);go_wp2_with (first
    |(at_mapUpdate;refine hA1.wp_store inKyL qM _ _ _ 62 qM underlying62 qM gM hid.out qM (y:=⟨4,some ⟨b,o+k*4,none⟩,none,none,none⟩) qM ?_;intro w9 sF aU))
   exact yaj
  ·have aT:¬(k:Int)<(E.length:Int):=xM
   obtain rfl:k=E.length:=xM;have ai:=hR.out;have nR:(tgE x0 E).take E.length=tgE x0 E:=List.take_of_length_le (by simp[tgE]);rw[nR]at ai;obtain⟨Bi,qg⟩:=zE (a1e (tgE x0 E) []);rw[qg]at ai;replace qg:=Lib.hid qg;clear hR nR;go_wp2_with fail;go_loopw [32] (λvk wr=>∃k:Nat,vk= .int .i64 (k:Nat)/\k<=Fa.length/\Hid (MapH prog inKy tgV wr mb (E.length+k) (a1e ((tgF x1 Fa).take k) Bi)/\Below BM w wr)/\wr.cell? ⟨BM,0,none⟩=some (.slice x0 E.length c0)/\wr.cell? ⟨BM,1,none⟩=some (.slice x1 Fa.length c1)/\wr.cell? ⟨BM,2,none⟩=some (.slice x2 Y.length c2)/\wr.cell? ⟨BM,3,none⟩=some (.slice x3 P.length c3)) (λvk _=>Fa.length+1-(intOf vk).toNat)
   case atStart=>exact⟨0,rfl,xM,Lib.hid ai,k0,k1,k2,k3⟩
   case round =>
    clear ai k0 k1 k2 k3;obtain⟨k,rfl,hk,hR,k0,k1,k2,k3⟩:=hrel;by_cases ab:k<Fa.length
    ·have aj:(k:Int)<(Fa.length:Int):=xM
     obtain⟨b,o,d,e,-,bS,hc⟩:=hM.f.some_ xM;simp only[Value.slice.injEq,true_and]at e;obtain⟨ha,-⟩:=e;have hid:a0l Fa[k].id:=hM.fi _ (List.getElem_mem ab);have mB:w.cell? ⟨b,o+k*5,none⟩=some (.int .i64 Fa[k].id):=hc k ab 0 jM;have tM:wr.cell? ⟨b,o+k*5,none⟩=some (.int .i64 Fa[k].id):=(hR.out.2.cell (p:=⟨b,o+k*5,none⟩) (bu▸bS)).trans mB;have kk:wr.cell? ⟨BM,1,none⟩=some (.slice (some ⟨b,o,none⟩) Fa.length c1):=by rw[<-ha];exact k1
     have hq:(tgF x1 Fa)[k]? =some (Fa[k].id,(⟨1,none,some ⟨b,o+k*5,none⟩,none,none⟩:Tg)):=by
      unfold tgF;exact yfo
     have gj:=a4t (en:=Bi) hq;obtain⟨ki,jb⟩:=zE (Fa[k].id);rw[jb]at hid tM gj;replace gj:=Lib.hid gj;replace hid:=Lib.hid hid;have kx:=Lib.hid (And.intro k0 (And.intro k1 (And.intro k2 k3)));have tN:=bu▸bS;clear hq mB ha k0 k1 k2 k3 hc jb;go_upto_region 10 with fail;refine c8j λp=> ?_
     have hA1:MapH prog inKy tgV (wr.growBy p) mb (E.length+k) (a1e ((tgF x1 Fa).take k) Bi):=hR.out.1.kept (a1n _ _) vM;have jy:Below BM w (wr.growBy p):=a1k hR.out.2 (bu▸hR.out.2.size) p;have D4:=(below_growBy wr p);go_wp2_with (first
      |(at_mapUpdate;refine hA1.wp_store inKyL qM _ _ _ 62 qM underlying62 qM gM hid.out qM (y:=⟨1,none,some ⟨b,o+k*5,none⟩,none,none⟩) qM ?_;intro w9 sF aU))
     exact yaj
    ·have aT:¬(k:Int)<(Fa.length:Int):=xM
     obtain rfl:k=Fa.length:=xM;have ai:=hR.out;have nR:(tgF x1 Fa).take Fa.length=tgF x1 Fa:=List.take_of_length_le (by simp[tgF]);rw[nR]at ai;obtain⟨iN,qh⟩:=zE (a1e (tgF x1 Fa) Bi);rw[qh]at ai;replace qh:=Lib.hid qh;clear hR nR;go_wp2_with fail;go_loopw [51] (λvk wr=>∃k:Nat,vk= .int .i64 (k:Nat)/\k<=Y.length/\Hid (MapH prog inKy tgV wr mb (E.length+Fa.length+k) (a1e ((tgY x2 Y).take k) iN)/\Below BM w wr)/\wr.cell? ⟨BM,0,none⟩=some (.slice x0 E.length c0)/\wr.cell? ⟨BM,1,none⟩=some (.slice x1 Fa.length c1)/\wr.cell? ⟨BM,2,none⟩=some (.slice x2 Y.length c2)/\wr.cell? ⟨BM,3,none⟩=some (.slice x3 P.length c3)) (λvk _=>Y.length+1-(intOf vk).toNat)
     case atStart=>exact⟨0,rfl,xM,Lib.hid ai,k0,k1,k2,k3⟩
     case round =>
      clear ai k0 k1 k2 k3;obtain⟨k,rfl,hk,hR,k0,k1,k2,k3⟩:=hrel;by_cases ab:k<Y.length
      ·have aj:(k:Int)<(Y.length:Int):=xM
       obtain⟨b,o,d,e,-,bS,hc⟩:=hM.w.some_ xM;simp only[Value.slice.injEq,true_and]at e;obtain⟨ha,-⟩:=e;have hid:a0l Y[k].id:=hM.wi _ (List.getElem_mem ab);have mB:w.cell? ⟨b,o+k*8,none⟩=some (.int .i64 Y[k].id):=hc k ab 0 jM;have tM:wr.cell? ⟨b,o+k*8,none⟩=some (.int .i64 Y[k].id):=(hR.out.2.cell (p:=⟨b,o+k*8,none⟩) (bu▸bS)).trans mB;have kk:wr.cell? ⟨BM,2,none⟩=some (.slice (some ⟨b,o,none⟩) Y.length c2):=by rw[<-ha];exact k2
       have hq:(tgY x2 Y)[k]? =some (Y[k].id,(⟨2,none,none,some ⟨b,o+k*8,none⟩,none⟩:Tg)):=by
        unfold tgY;exact yfo
       have gj:=a4t (en:=iN) hq;obtain⟨ki,jb⟩:=zE (Y[k].id);rw[jb]at hid tM gj;replace gj:=Lib.hid gj;replace hid:=Lib.hid hid;have kx:=Lib.hid (And.intro k0 (And.intro k1 (And.intro k2 k3)));have tN:=bu▸bS;clear hq mB ha k0 k1 k2 k3 hc jb;go_upto_region 15 with fail;refine c8j λp=> ?_
       have hA1:MapH prog inKy tgV (wr.growBy p) mb (E.length+Fa.length+k) (a1e ((tgY x2 Y).take k) iN):=hR.out.1.kept (a1n _ _) vM;have jy:Below BM w (wr.growBy p):=a1k hR.out.2 (bu▸hR.out.2.size) p;have D4:=(below_growBy wr p);go_wp2_with (first
        |(at_mapUpdate;refine hA1.wp_store inKyL qM _ _ _ 62 qM underlying62 qM gM hid.out qM (y:=⟨2,none,none,some ⟨b,o+k*8,none⟩,none⟩) qM ?_;intro w9 sF aU))
       exact yaj
      ·have aT:¬(k:Int)<(Y.length:Int):=xM
       obtain rfl:k=Y.length:=xM;have ai:=hR.out;have nR:(tgY x2 Y).take Y.length=tgY x2 Y:=List.take_of_length_le (by simp[tgY]);rw[nR]at ai;obtain⟨Bj,qi⟩:=zE (a1e (tgY x2 Y) iN);rw[qi]at ai;replace qi:=Lib.hid qi;clear hR nR;go_wp2_with fail;go_loopw [70] (λvk wr=>∃k:Nat,vk= .int .i64 (k:Nat)/\k<=P.length/\Hid (MapH prog inKy tgV wr mb (E.length+Fa.length+Y.length+k) (a1e ((tgP x3 P).take k) Bj)/\Below BM w wr)/\wr.cell? ⟨BM,0,none⟩=some (.slice x0 E.length c0)/\wr.cell? ⟨BM,1,none⟩=some (.slice x1 Fa.length c1)/\wr.cell? ⟨BM,2,none⟩=some (.slice x2 Y.length c2)/\wr.cell? ⟨BM,3,none⟩=some (.slice x3 P.length c3)) (λvk _=>P.length+1-(intOf vk).toNat)
       case atStart=>exact⟨0,rfl,xM,Lib.hid ai,k0,k1,k2,k3⟩
       case round =>
        clear ai k0 k1 k2 k3;obtain⟨k,rfl,hk,hR,k0,k1,k2,k3⟩:=hrel;by_cases ab:k<P.length
        ·have aj:(k:Int)<(P.length:Int):=xM
         obtain⟨b,o,d,e,-,bS,hc⟩:=hM.p.some_ xM;simp only[Value.slice.injEq,true_and]at e;obtain⟨ha,-⟩:=e;have hid:a0l P[k].id:=hM.pi _ (List.getElem_mem ab);have mB:w.cell? ⟨b,o+k*7,none⟩=some (.int .i64 P[k].id):=hc k ab 0 jM;have tM:wr.cell? ⟨b,o+k*7,none⟩=some (.int .i64 P[k].id):=(hR.out.2.cell (p:=⟨b,o+k*7,none⟩) (bu▸bS)).trans mB;have kk:wr.cell? ⟨BM,3,none⟩=some (.slice (some ⟨b,o,none⟩) P.length c3):=by rw[<-ha];exact k3
         have hq:(tgP x3 P)[k]? =some (P[k].id,(⟨3,none,none,none,some ⟨b,o+k*7,none⟩⟩:Tg)):=by
          unfold tgP;exact yfo
         have gj:=a4t (en:=Bj) hq;obtain⟨ki,jb⟩:=zE (P[k].id);rw[jb]at hid tM gj;replace gj:=Lib.hid gj;replace hid:=Lib.hid hid;have kx:=Lib.hid (And.intro k0 (And.intro k1 (And.intro k2 k3)));have tN:=bu▸bS;clear hq mB ha k0 k1 k2 k3 hc jb;go_upto_region 20 with fail;refine c8j λp=> ?_
         have hA1:MapH prog inKy tgV (wr.growBy p) mb (E.length+Fa.length+Y.length+k) (a1e ((tgP x3 P).take k) Bj):=hR.out.1.kept (a1n _ _) vM;have jy:Below BM w (wr.growBy p):=a1k hR.out.2 (bu▸hR.out.2.size) p;have D4:=(below_growBy wr p);go_wp2_with (first
          |(at_mapUpdate;refine hA1.wp_store inKyL qM _ _ _ 62 qM underlying62 qM gM hid.out qM (y:=⟨3,none,none,none,some ⟨b,o+k*7,none⟩⟩) qM ?_;intro w9 sF aU))
         exact yaj
        ·have aT:¬(k:Int)<(P.length:Int):=xM
         obtain rfl:k=P.length:=xM;have ai:=hR.out;have nR:(tgP x3 P).take P.length=tgP x3 P:=List.take_of_length_le (by simp[tgP]);rw[nR]at ai;obtain⟨D5,qj⟩:=zE (a1e (tgP x3 P) Bj);rw[qj]at ai;replace qj:=Lib.hid qj;clear hR nR;obtain⟨nn,qk⟩:=zE (E.length+Fa.length+Y.length+P.length);have pA:D5=a1e (a1z x0 x1 x2 x3 E Fa Y P) []:=by rw[<-qj.out,<-qi.out,<-qh.out,<-qg.out];unfold a1z;rw[a4m,a4m,a4m]
         have ab:(a1z x0 x1 x2 x3 E Fa Y P).length=E.length+Fa.length+Y.length+P.length:=by simp[a1z,tgE,tgF,tgY,tgP];omega
         have bY:=a8q (a1z x0 x1 x2 x3 E Fa Y P) [];rw[<-pA,ab,a5w]at bY;have lQ:decide (((D5.length:Nat):Int)=(E.length:Int)+(Fa.length:Int)+(Y.length:Int)+(P.length:Int))=decide (ids (a1d E Fa Y P)).Nodup:=by
          rw[decide_eq_decide];have:=bY.2;simp only[List.length_nil,Nat.add_zero,List.map_nil,List.not_mem_nil,not_false_eq_true,implies_true,and_true]at this;rw[<-this];omega
         obtain⟨r,hr⟩:=zE (decide (ids (a1d E Fa Y P)).Nodup);rw[hr]at lQ;replace hr:=Lib.hid hr;obtain⟨m4,rM⟩:=zE D5.length;have Qh:∀(q:Growth) (ty:Td),(Builtin.len_ #[62] ty #[.map (some mb)]).run prog (wr.growBy q)= .ok (.int .i64 (m4:Nat)) (wr.growBy q):=λq ty=>by rw[<-rM];exact(ai.1.kept (a1n _ _) vM).run_len underlying62 ty
         rw[rM]at lQ;have Mo:m4<=10000:=by have:=bY.1;simp at this;omega
         rw[pA]at ai;have bB:IntKind.i64.wrap ((E.length:Int)+(Fa.length:Int))=(E.length:Int)+(Fa.length:Int):=by rw[IntKind.wrap_i64];omega
         have dQ:IntKind.i64.wrap ((E.length:Int)+(Fa.length:Int)+(Y.length:Int))=(E.length:Int)+(Fa.length:Int)+(Y.length:Int):=by rw[IntKind.wrap_i64];omega
         have gp:IntKind.i64.wrap ((E.length:Int)+(Fa.length:Int)+(Y.length:Int)+(P.length:Int))=(E.length:Int)+(Fa.length:Int)+(Y.length:Int)+(P.length:Int):=by rw[IntKind.wrap_i64];omega
         clear qk pA ab bY rM;replace ai:=Lib.hid ai;replace lQ:=Lib.hid lQ;go_upto_region 22 with fail;refine zR0 λp=> ?_
         go_wp2_with fail;refine bodyPost_ret (results_tmp2 qM _ _ _) rfl ⟨mb,?_,xM,⟨_,ai.out.1.kept (a1n _ _) vM⟩,?_⟩
         ·rw[<-hr.out]at lQ
          rw[<-lQ.out];rfl
         ·try rw[bu]
          exact a1k ai.out.2 (by rw[<-bu];exact ai.out.2.size) p
end
section
open Go Go.RowKit Go.Shelf Go.Lib Go.Maps Go.Sort
theorem MapH.perm {β:Type}{V:Vh β}{W:Wd}{b n:Nat}{en:List (Int×β)}(h:MapH prog inKy V W b n en):∃D:DataW Value,W.ownsMap prog 3 c0n b n D/\(en.map (·.1)).Perm (intKeys D)/\Maps.size D=en.length:=by
 obtain⟨D,ho,tO,iZ,aM,hD⟩:=h;obtain⟨es,hE,AY,-⟩:=ho.entries (int_keyed underlying3);obtain⟨Mq,IL,Mr⟩:=ho.keysOf;obtain rfl:es=Mq:=by rw[hE]at IL;simpa using IL
 subst hE;have hk:∀p∈es,∃x,p.1= .int .i64 x/\(Lit.int .i64 x).wf=true:=λp hp=>by
  obtain⟨v,hv⟩:=Mr p hp;obtain⟨x,-,hx,hw⟩:=Maps.keyOf_i64 underlying3 hv;exact⟨x,hx,hw⟩
 refine⟨_,ho,perm_intKeys AY (λp hp=>by obtain⟨x,hx,-⟩:=hk p hp;exact⟨x,hx⟩) tO λx=> ?_,aM⟩;by_cases hx:a0l x
 ·rw[(hD x hx).1]
  exact hasG_iff.symm
 ·constructor
  ·intro h1
   obtain⟨e,he,rfl⟩:=List.mem_map.1 h1;exact absurd (iZ e he) hx
  ·intro h1
   rw[has_eq,List.any_eq_true]at h1;obtain⟨p,hp,hs⟩:=h1;obtain⟨a,ha,hw⟩:=hk p hp;rw[ha]at hs;have:a=x:=by simpa[Lit.sameKey]using hs
   subst this;exact absurd (c1o hw) hx
abbrev sortI (l:List Int):List Int:=l.mergeSort leI
theorem b7c (m:Nat):AnyZI.SortsIn prog Tryz.sortedI_ren Fence.wide m :=
 ⟨λblk off cap ss W hH D6 aM=>callsIn_wide.2 (AnyM.slices_Sort_int Tryz.sortI blk off cap ss W hH D6 aM),
  λp cap W=>callsIn_wide.2 (AnyM.slices_Sort_int_none Tryz.sortI p cap W)⟩
theorem c1q (mb:Option Nat)(W:Wd):Calls prog 52 #[.map mb] W λe w'=>e= .returned (.func (.func 94) #[] #[.pointer (some ⟨W.heap.size,0,none⟩)])/\w'=W.alloc (.cells #[.map mb] 62) :=
 (callsIn_wide (n:=5)).1 (AnyZI.keys_in Tryz.keysT Fence.wide 5 trivial rfl mb W)
theorem b5d {V:Vh Tg}(B b n:Nat)(en:List (Int×Tg))(W:Wd)(hB:W.cell? ⟨B,0,none⟩=some (.map (some b)))(hm:MapH prog inKy V W b n en)(hl:en.length<=100000) :
 Calls prog 51 #[.func (.func 94) #[] #[.pointer (some ⟨B,0,none⟩)]] W λe w'=>∃v,e= .returned v/\w'.ownsRow W.heap.size 3 1 v en.length ((sortI (en.map (·.1))).map (Value.int .i64))/\Below W.heap.size W w':=by
 obtain⟨D,ho,hp,hs⟩:=hm.perm;have de:SeqGives Fence.wide 2 prog 94 #[.pointer (some ⟨B,0,none⟩)] encZ (λss=>ss.Perm (intKeys D)) (Maps.size D) W :=
  AnyZI.keys_gives (ρ:=Tryz.keysT_ren) { Tryz.keysT with } Fence.wide _ trivial rfl xM B b n D W (World.block_lt_of_cell? _ _ hB) hB ho
 have cS:=AnyZI.sorted_in Tryz.sortedI Fence.wide 5 trivial trivial trivial trivial rfl xM (b7c _) (enters_of func72 zM rfl) 94 #[.pointer (some ⟨B,0,none⟩)] trivial (enters_of func94 zM rfl) _ _ (by rw[hs];unfold maxLen;omega) (by rw[hs];omega) _ de;exact ydp
end
section
open Go Go.RowKit Go.Shelf Go.Lib
theorem b5e (x y:Wq)(w:Wd)(hx:Ln w.heap.size w x.sl x.line)(hy:Ln w.heap.size w y.sl y.line):Zc prog 96 #[vWq x,vWq y] w (.bool (decide (x.key=y.key))):=by
 obtain⟨e0,e1,e2,e3,e4,e5,e6,e7,e8,e9,bH⟩:=x;obtain⟨u0,u1,u2,u3,u4,u5,u6,u7,u8,u9,u10⟩:=y;have ah:Below w.heap.size w ((w.alloc (.cells #[.int .i64 e0,.slice e1 e2 e3,.int .i64 e5,.string e6,.string e7,.bool e8,.int .i64 e9,.int .i64 bH] 46)).alloc (.cells #[.int .i64 u0,.slice u1 u2 u3,.int .i64 u5,.string u6,.string u7,.bool u8,.int .i64 u9,.int .i64 u10] 46)):=by exact zC
 obtain⟨tl,eU⟩:=zE (decide (e4=u4));obtain⟨t0,rk⟩:=zE ((e0==u0));obtain⟨t5,vE⟩:=zE ((e5==u5));obtain⟨t6,mO⟩:=zE (decide (e6=u6));obtain⟨t7,H5⟩:=zE (decide (e7=u7));obtain⟨t8,H6⟩:=zE ((e8==u8));obtain⟨t9,oY⟩:=zE ((e9==u9));obtain⟨t10,pR⟩:=zE ((bH==u10));have hr:decide ((⟨e0,e1,e2,e3,e4,e5,e6,e7,e8,e9,bH⟩:Wq).key=(⟨u0,u1,u2,u3,u4,u5,u6,u7,u8,u9,u10⟩:Wq).key)=(tl&&t0&&t5&&t6&&t7&&t8&&t9&&t10):=by
  exact yfs
 obtain⟨r,aL⟩:=zE (decide ((⟨e0,e1,e2,e3,e4,e5,e6,e7,e8,e9,bH⟩:Wq).key=(⟨u0,u1,u2,u3,u4,u5,u6,u7,u8,u9,u10⟩:Wq).key));rw[aL]at hr ⊢;replace hr:=Lib.hid hr;clear aL;have hq:∀X,Below w.heap.size w X->Zc prog 23 #[.slice e1 e2 e3,.slice u1 u2 u3] X (.bool tl):=λX hb=>eU▸b0y (.slice e1 e2 e3) (.slice u1 u2 u3) e4 u4 X ((hx.lst.below hb).mono hb.size) ((hy.lst.below hb).mono hb.size)
 clear eU;clear hx hy;go_enter func96,ntmps96;go_upto_region 1 with fail;refine zR0 λp=> ?_
 go_wp2_with (first
  |(go_at_call 23;(with_reducible refine(hq _ (by exact zC)).mono ?_);rintro e w'⟨rfl,aE⟩;obtain⟨q,rfl⟩:=a0j aE;clear aE))
 all_goals (go_ret;refine⟨?_,zC⟩;rw[hr.out];clear hr;simp_all [a3o])
theorem a4u (t u:Tg)(w:Wd)(h:t.k≠u.k):Zc prog 53 #[a2f t,a2f u] w (.bool false):=by
 obtain⟨t0,t1,t2,t3,t4⟩:=t;obtain⟨u0,u1,u2,u3,u4⟩:=u;have an:(t0 != u0)=true:=by simpa using h
 clear h;go_enter func53,ntmps53;exact ybd
theorem c1r (w:Wd):Zc prog 53 #[a2f tgZ,a2f tgZ] w (.bool true):=by
 unfold a2f tgZ;go_enter func53,ntmps53;exact ybd
def AtC {α:Type}(E:El α)(W:Wd)(b o:Nat)(x:α):Prop:=∀i,i<E.s->W.cell? ⟨b,o+i,none⟩=(E.enc x)[i]?
theorem AtC.below {α:Type}{E:El α}{W W':Wd}{b o n:Nat}{x:α}(h:AtC E W b o x)(hb:Below n W W')(hn:b<n):AtC E W' b o x:=λi hi=>(hb.cell (p:=⟨b,o+i,none⟩) hn).trans (h i hi)
theorem c3w (x y:Wq)(b1 o1 b2 o2:Nat)(w:Wd)(h1:AtC wqE w b1 o1 x)(h2:AtC wqE w b2 o2 y)(hx:Ln w.heap.size w x.sl x.line)(hy:Ln w.heap.size w y.sl y.line) :
 Zc prog 53 #[a2f ⟨2,none,none,some ⟨b1,o1,none⟩,none⟩,a2f ⟨2,none,none,some ⟨b2,o2,none⟩,none⟩] w (.bool (decide (x.key=y.key))):=by
 obtain⟨r,hr⟩:=zE (decide (x.key=y.key));have hc:∀X,Below w.heap.size w X->Zc prog 96 #[vWq x,vWq y] X (.bool r):=λX hb=>hr▸b5e x y X ((hx.below hb).mono hb.size) ((hy.below hb).mono hb.size)
 rw[hr];clear hr hx hy;obtain⟨e0,e1,e2,e3,e4,e5,e6,e7,e8,e9,bH⟩:=x;obtain⟨u0,u1,u2,u3,u4,u5,u6,u7,u8,u9,u10⟩:=y;obtain⟨a0,a1,a2,a3,a4,a5,a6,a7⟩:=b4h h1;obtain⟨c0,c1,c2,c3,c4,c5,c6,c7⟩:=b4h h2;clear h1 h2;go_enter func53,ntmps53;go_upto_region 9 with fail;first|with_reducible refine a0q zM zM ?_|with_reducible refine a0v zM zM ?_
 repeat(first|go_big_quiet_step ((go_at_call 96;exact Calls.grow_of (hc _ (by exact zC))))|quiet_step ((go_at_call 96;exact Calls.grow_of (hc _ (by exact zC)))))
 exact ydz
theorem c8s (a1 b1 c1:Int)(d1 e1:Bw)(f1 g1 a2 b2 c2:Int)(d2 e2:Bw)(f2 g2:Int)(w:Wd):(binOp .eql 48 (.agg #[.int .i64 a1,.int .i64 b1,.int .i64 c1,.string d1,.string e1,.int .i64 f1,.int .i64 g1]) (.agg #[.int .i64 a2,.int .i64 b2,.int .i64 c2,.string d2,.string e2,.int .i64 f2,.int .i64 g2])).run prog w= .ok (.bool (decide ((⟨a1,b1,c1,d1,e1,f1,g1⟩:Pc)=⟨a2,b2,c2,d2,e2,f2,g2⟩))) w:=by
 have u3:=underlying3;have a3:=isAgg3;have z3:=sizeOf3;have u9:=underlying9;have a9:=isAgg9;have z9:=sizeOf9;have up:=underlying41;have ap:=isAgg41;have zp:=sizeOf41;have hS:prog.underlying 48=some (.struct (prog.fieldsOf 48)):=by kernel_rfl
 have hp:prog.stoodInHeld 48=false:=by kernel_rfl
 rw[run_eql_struct,show(10000:Nat)=9999+1 from rfl,run_equalIn_agg w 9999 48 _ _ hS hp];exact yek
theorem a9v (x y:Pc)(b1 o1 b2 o2:Nat)(w:Wd)(h1:AtC plE w b1 o1 x)(h2:AtC plE w b2 o2 y) :
 Zc prog 53 #[a2f ⟨3,none,none,none,some ⟨b1,o1,none⟩⟩,a2f ⟨3,none,none,none,some ⟨b2,o2,none⟩⟩] w (.bool (decide (x=y))):=by
 obtain⟨e0,e1,e2,e3,e4,e5,e6⟩:=x;obtain⟨u0,u1,u2,u3,u4,u5,u6⟩:=y;have hq:=c8s e0 e1 e2 e3 e4 e5 e6 u0 u1 u2 u3 u4 u5 u6;have hg:=run_eqGuard_agg (P:=prog);obtain⟨r,hr⟩:=zE (decide ((⟨e0,e1,e2,e3,e4,e5,e6⟩:Pc)=⟨u0,u1,u2,u3,u4,u5,u6⟩));rw[hr]at hq ⊢;clear hr;obtain⟨a0,a1,a2,a3,a4,a5,a6⟩:=b0e h1;obtain⟨c0,c1,c2,c3,c4,c5,c6⟩:=b0e h2;clear h1 h2;go_enter func53,ntmps53;go_upto_region 11 with fail;refine zR0 λp=> ?_
 exact ybd
end
end Go.Proofs.YteijfnkidefekaaGreat
