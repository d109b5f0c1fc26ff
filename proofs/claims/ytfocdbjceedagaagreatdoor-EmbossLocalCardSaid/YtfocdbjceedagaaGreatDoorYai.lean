/-
  Parts.
-/
import Derived.Test.YtfocdbjceedagaaGreatDoorYah
import Derived.Laws.ResultCell
set_option linter.unusedVariables false
set_option linter.unusedSimpArgs false
set_option maxHeartbeats 8000000
set_option maxRecDepth 100000
namespace Go.Proofs.YtfocdbjceedagaaGreatDoor
open Tryz
section
open Go Go.RowKit Go.Shelf Go.Lib
attribute [local go_sem] Oper.semAt_some
attribute [local go_sem ↓] Go.wp_at_zero Go.wp_at_succ
abbrev dtE:El Dt:=⟨54,4,a7l⟩
theorem a6s:dtE.Ok:=⟨fun _=>rfl,by decide,fun x u hu=>by
 simp at hu;rcases hu with rfl|rfl|rfl|rfl <;> rfl⟩
theorem d1w:dtE.In prog 41:=El.in_of (z:= .agg #[.int .i64 0,.int .i64 0,.int .i64 0,.int .i64 0]) (s:=4) (bytes:=32) underlying41 (by kernel_rfl) rfl (by omega) rfl
abbrev lfE:El Lf:=⟨68,3,fun l=>[.int .i64 l.p,.int .i64 l.k,.int .i64 l.i]⟩
theorem c4q:lfE.Ok:=⟨fun _=>rfl,by decide,fun x u hu=>by
 simp at hu;rcases hu with rfl|rfl|rfl <;> rfl⟩
theorem d4i:lfE.In prog 43:=El.in_of (z:= .agg #[.int .i64 0,.int .i64 0,.int .i64 0]) (s:=3) (bytes:=24) underlying43 (by kernel_rfl) rfl (by omega) rfl
abbrev keE:El Ke:=⟨82,3,fun k=>[.int .i64 k.n,.int .i64 k.p,.string k.c]⟩
theorem c6s:keE.Ok:=⟨fun _=>rfl,by decide,fun x u hu=>by
 simp at hu;rcases hu with rfl|rfl|rfl <;> rfl⟩
theorem d4j:keE.In prog 42:=El.in_of (z:= .agg #[.int .i64 0,.int .i64 0,.string ⟨#[]⟩]) (s:=3) (bytes:=32) underlying42 (by kernel_rfl) rfl (by omega) rfl
abbrev dtV (d:Dt):Value:= .agg #[.int .i64 d.x,.int .i64 d.y,.int .i64 d.k,.int .i64 d.i]
structure Sm (d:Dt):Prop where
 x0 : -1000000≤d.x
 x1:d.x≤1000000
 y0 : -1000000≤d.y
 y1:d.y≤1000000
instance:Inhabited Lf:=⟨⟨0,0,0⟩⟩
instance:Inhabited Ke:=⟨⟨0,0,⟨#[]⟩⟩⟩
def a6j (g:Int)(a b:Dt):Bool:=(decide (a.k≠b.k)||decide (a.i≠b.i))&&(decide (max (IntKind.i64.wrap (a.x-b.x)) (IntKind.i64.wrap (b.x-a.x))<g)&&decide (max (IntKind.i64.wrap (a.y-b.y)) (IntKind.i64.wrap (b.y-a.y))<g))
theorem b3w {g:Int}{a b:Dt}(ha:Sm a)(hb:Sm b):a6j g a b=b8p g a b:=by
 obtain⟨a0,a1,a2,a3⟩:=ha;obtain⟨b0,b1,b2,b3⟩:=hb;unfold a6j b8p;rw[a0s (x:=a.x-b.x) (by omega) (by omega),a0s (x:=b.x-a.x) (by omega) (by omega),a0s (x:=a.y-b.y) (by omega) (by omega),a0s (x:=b.y-a.y) (by omega) (by omega)]
theorem b2s (a b:Dt)(g:Int)(w:World) :
 Calls prog 88 #[dtV a,dtV b,.int .i64 g] w fun e w'=>e= .returned (.bool (a6j g a b))∧Below w.heap.size w w':=by
 obtain⟨ax,ay,ak,ai⟩:=a;obtain⟨bx,b_y,bk,bi⟩:=b;obtain⟨r,hr⟩:∃r,a6j g ⟨ax,ay,ak,ai⟩ ⟨bx,b_y,bk,bi⟩=r:=⟨_,rfl⟩;rw[hr];unfold a6j at hr;simp only at hr;obtain⟨u1,e1⟩:∃u,IntKind.i64.wrap (ax-bx)=u:=⟨_,rfl⟩;obtain⟨u2,e2⟩:∃u,IntKind.i64.wrap (bx-ax)=u:=⟨_,rfl⟩;obtain⟨u3,e3⟩:∃u,IntKind.i64.wrap (ay-b_y)=u:=⟨_,rfl⟩;obtain⟨u4,e4⟩:∃u,IntKind.i64.wrap (b_y-ay)=u:=⟨_,rfl⟩;rw[e1,e2,e3,e4] at hr;obtain⟨tk,htk⟩:∃t,(!(ak==bk))=t:=⟨_,rfl⟩;obtain⟨ti,hti⟩:∃t,(!(ai==bi))=t:=⟨_,rfl⟩;obtain⟨tx,htx⟩:∃t,decide (max u1 u2<g)=t:=⟨_,rfl⟩;obtain⟨ty,hty⟩:∃t,decide (max u3 u4<g)=t:=⟨_,rfl⟩;have k1:decide (ak≠bk)=tk:=by rw[←htk];exact Bool.eq_iff_iff.2 (by simp)
 have k2:decide (ai≠bi)=ti:=by rw[←hti];exact Bool.eq_iff_iff.2 (by simp)
 rw[k1,k2,htx,hty] at hr;clear k1 k2;replace hr:=Lib.hid hr;go_enter func88,ntmps88;go_wp2_with fail
 all_goals (go_ret;refine⟨?_,(by repeat' (first|with_reducible (first|exact zR _ _|exact yR _|assumption|refine zG ?_ ?_ _|refine zA ?_ ?_ _|refine zS ?_ ?_ _|refine zD ?_|refine yA ?_|refine yG ?_|refine yS ?_|refine yD ?_)|omega|(dsimp only;omega)))⟩;have h2:=hr.out;clear hr;first|(simp_all [bne];done)|(cases tk <;> cases ti <;> simp_all [bne]))
def b8e (o:Option Nat):Int:=match o with|some k=>(k:Nat)|none => -1
theorem a4p {α:Type}(p:α→Bool)(d:α):∀(l:List α)(i:Nat),Lib.idxByFrom (fun _ y=>p y) d l i=match l.findIdx? p with|some k=>((i+k:Nat):Int)|none => -1
 |[],i=>rfl
 |y::l,i=>by
  unfold Lib.idxByFrom;rw[List.findIdx?_cons]
  cases h:p y with
  |true=>simp
  |false =>
   rw[a4p p d l (i+1)]
   cases l.findIdx? p with
   |none=>rfl
   |some k=>show ((i+1+k:Nat):Int)=((i+(k+1):Nat):Int);congr 1;omega
theorem a5c {α:Type}(p:α→Bool)(d:α)(l:List α):Lib.idxBy (fun _ y=>p y) l d=b8e (l.findIdx? p):=by
 unfold Lib.idxBy;rw[a4p]
 cases l.findIdx? p <;> simp[b8e]
theorem c1y (a b:Dt)(g:Int)(A G:Nat)(w:World)(hA:Blk w A #[.int .i64 a.x,.int .i64 a.y,.int .i64 a.k,.int .i64 a.i] 54)(hG:w.cell? ⟨G,0,none⟩=some (.int .i64 g)) :
 Calls prog 87 #[dtV b,.pointer (some ⟨A,0,none⟩),.pointer (some ⟨G,0,none⟩)] w fun e w'=>e= .returned (.bool (a6j g a b))∧Below w.heap.size w w':=by
 have h0:=b2s a b g;obtain⟨ax,ay,ak,ai⟩:=a;obtain⟨bx,b_y,bk,bi⟩:=b;obtain⟨r,hr⟩:∃r,a6j g ⟨ax,ay,ak,ai⟩ ⟨bx,b_y,bk,bi⟩=r:=⟨_,rfl⟩;rw[hr] at h0 ⊢;clear hr;have c0:=hA.cell 0;have c1:=hA.cell 1;have c2:=hA.cell 2;have c3:=hA.cell 3;simp only at c0 c1 c2 c3;replace c0:w.cell? ⟨A,0,none⟩=some (.int .i64 ax):=c0;replace c1:w.cell? ⟨A,1,none⟩=some (.int .i64 ay):=c1;replace c2:w.cell? ⟨A,2,none⟩=some (.int .i64 ak):=c2;replace c3:w.cell? ⟨A,3,none⟩=some (.int .i64 ai):=c3;go_enter func87,ntmps87;go_wp2_with (go_at_call 88;refine (h0 _).mono ?_;rintro e w'⟨rfl,hb_⟩;obtain⟨p,rfl⟩:=a0c hb_;clear hb_);go_ret;exact⟨rfl,(by repeat' (first|with_reducible (first|exact zR _ _|exact yR _|assumption|refine zG ?_ ?_ _|refine zA ?_ ?_ _|refine zS ?_ ?_ _|refine zD ?_|refine yA ?_|refine yG ?_|refine yS ?_|refine yD ?_)|omega|(dsimp only;omega)))⟩
theorem a3r {α:Type} [Inhabited α]{E:El α}{W:World}{n0 b off cap:Nat}{l:List α}(h:Lst E n0 W (.slice (some ⟨b,off,none⟩) l.length cap) l)(hlen:∀x,(E.enc x).length=E.s):∀j,j<l.length→∀i v,(E.enc l[j]!)[i]? =some v→W.cell? ⟨b,off+j*E.s+i,none⟩=some v:=by
 intro j hj i v hv;obtain⟨b',off',cap',e,-,-,hc⟩:=h.some_ (by omega);simp only[Value.slice.injEq,Option.some.injEq,Addr.mk.injEq] at e;obtain⟨⟨rfl,rfl,-⟩,-,-⟩:=e;have hi:=(List.getElem?_eq_some_iff.1 hv).1;rw[hlen] at hi;rw[getElem!_pos l j hj] at hv;rw[←hv];exact hc j hj i hi
theorem c9v {α:Type}{E:El α}{W:World}{n0 b off cap:Nat}{l:List α}(h:Lst E n0 W (.slice (some ⟨b,off,none⟩) l.length cap) l)(hl:l≠[]):b<n0:=by
 obtain⟨b',off',cap',e,-,hb,-⟩:=h.some_ (List.length_pos_iff.2 hl);simp only[Value.slice.injEq,Option.some.injEq,Addr.mk.injEq] at e;obtain⟨⟨rfl,rfl,-⟩,-,-⟩:=e;exact hb
theorem c7u (a:Option Addr)(c:Nat)(fv:Value)(w:World):Calls prog 45 #[.slice a 0 c,fv] w fun e w'=>e= .returned (.int .i64 (-1))∧Below w.heap.size w w':=by
 go_enter func45,ntmps45;go_wp2_with fail;refine wp_loop_rounds 1 ?_;rw[rounds_succ];go_wp2_with fail;go_ret;exact⟨rfl,(by repeat' (first|with_reducible (first|exact zR _ _|exact yR _|assumption|refine zG ?_ ?_ _|refine zA ?_ ?_ _|refine zS ?_ ?_ _|refine zD ?_|refine yA ?_|refine yG ?_|refine yS ?_|refine yD ?_)|omega|(dsimp only;omega)))⟩
theorem c7v (a:Option Addr)(c:Nat)(fv:Value)(w:World):Calls prog 152 #[.slice a 0 c,fv] w fun e w'=>e= .returned (.int .i64 (-1))∧Below w.heap.size w w':=by
 go_enter func152,ntmps152;go_wp2_with fail;refine wp_loop_rounds 1 ?_;rw[rounds_succ];go_wp2_with fail;go_ret;exact⟨rfl,(by repeat' (first|with_reducible (first|exact zR _ _|exact yR _|assumption|refine zG ?_ ?_ _|refine zA ?_ ?_ _|refine zS ?_ ?_ _|refine zD ?_|refine yA ?_|refine yG ?_|refine yS ?_|refine yD ?_)|omega|(dsimp only;omega)))⟩
theorem a5d (v:Value)(l:List Dt)(w:World)(h:Lst dtE w.heap.size w v l)(hf:Frm v l.length)(p:Dt→Bool)(g:Nat)(lb:Array Value)(eg:∀args w,(callFunc g args).run prog w= .ok (.enter g args) w)(hp:PredBelow prog g lb (fun x:Dt=> .agg (a7l x).toArray) p w) :
 Calls prog 45 #[v,.func (.func g) #[] lb] w fun e w'=>e= .returned (.int .i64 (b8e (l.findIdx? p)))∧Below w.heap.size w w':=by
 by_cases hl:l=[]
 ·subst hl
  obtain⟨a,c,rfl,-⟩:=h.form;exact c7u a c _ w
 ·rcases hf with rfl|⟨b,off,cap,rfl⟩
  ·obtain⟨a,c,e,-⟩:=h.form
   simp only[Value.slice.injEq] at e;exact absurd (List.eq_nil_of_length_eq_zero e.2.1.symm) hl
  ·have hlen:=h.len
   refine (AnyQ.slices_IndexFunc Tryz.dotsIndex 4 isAgg54 sizeOf54 a7l (fun _=>rfl) p g lb eg b off l.length cap l w hp (yR _) (by omega) (c9v h hl) (a3r h (fun _=>rfl))).mono ?_;rintro e w'⟨rfl,hb⟩;rw[List.take_length,a5c];exact⟨rfl,hb⟩
theorem b8r (v:Value)(l:List Lf)(w:World)(h:Lst lfE w.heap.size w v l)(hf:Frm v l.length)(p:Lf→Bool)(g:Nat)(lb:Array Value)(eg:∀args w,(callFunc g args).run prog w= .ok (.enter g args) w)(hp:PredBelow prog g lb (fun x:Lf=> .agg (lfE.enc x).toArray) p w) :
 Calls prog 152 #[v,.func (.func g) #[] lb] w fun e w'=>e= .returned (.int .i64 (b8e (l.findIdx? p)))∧Below w.heap.size w w':=by
 by_cases hl:l=[]
 ·subst hl
  obtain⟨a,c,rfl,-⟩:=h.form;exact c7v a c _ w
 ·rcases hf with rfl|⟨b,off,cap,rfl⟩
  ·obtain⟨a,c,e,-⟩:=h.form
   simp only[Value.slice.injEq] at e;exact absurd (List.eq_nil_of_length_eq_zero e.2.1.symm) hl
  ·have hlen:=h.len
   refine (AnyQ.slices_IndexFunc Tryz.leftIndex 3 isAgg68 sizeOf68 lfE.enc (fun _=>rfl) p g lb eg b off l.length cap l w hp (yR _) (by omega) (c9v h hl) (a3r h (fun _=>rfl))).mono ?_;rintro e w'⟨rfl,hb⟩;rw[List.take_length,a5c];exact⟨rfl,hb⟩
theorem d0m {α:Type}(p:α→Bool)(l:List α):decide (0≤b8e (l.findIdx? p))=l.any p:=by
 cases h:l.findIdx? p with
 |none =>
  rw[List.findIdx?_eq_none_iff] at h;rw[List.any_eq_false.2 (by simpa using h)];rfl
 |some k =>
  obtain⟨hk,h1,-⟩:=List.findIdx?_eq_some_iff_getElem.1 h;rw[List.any_eq_true.2 ⟨_,List.getElem_mem hk,h1⟩];show decide ((0:Int)≤(k:Nat))=true;exact decide_eq_true (by omega)
theorem b2f (v:Value)(l:List Dt)(w:World)(h:Lst dtE w.heap.size w v l)(hf:Frm v l.length)(p:Dt→Bool)(g:Nat)(lb:Array Value)(eg:∀args w,(callFunc g args).run prog w= .ok (.enter g args) w)(hp:PredBelow prog g lb (fun x:Dt=> .agg (a7l x).toArray) p w) :
 Calls prog 86 #[v,.func (.func g) #[] lb] w fun e w'=>e= .returned (.bool (l.any p))∧Below w.heap.size w w':=by
 have h0:=a5d v l w h hf p g lb eg hp;rw[←d0m];obtain⟨r,hr⟩:∃r,b8e (l.findIdx? p)=r:=⟨_,rfl⟩;rw[hr] at h0 ⊢;clear hr hp h;obtain⟨a,n,c,rfl⟩:∃a n c,v= .slice a n c:=by rcases hf with rfl|⟨b,off,cap,rfl⟩ <;> exact⟨_,_,_,rfl⟩
 clear hf;go_enter func86,ntmps86;go_wp2_with (go_at_call 45;refine (h0).mono ?_;rintro e w'⟨rfl,hb_⟩;obtain⟨p,rfl⟩:=a0c hb_;clear hb_);go_ret;exact⟨rfl,(by repeat' (first|with_reducible (first|exact zR _ _|exact yR _|assumption|refine zG ?_ ?_ _|refine zA ?_ ?_ _|refine zS ?_ ?_ _|refine zD ?_|refine yA ?_|refine yG ?_|refine yS ?_|refine yD ?_)|omega|(dsimp only;omega)))⟩
theorem c1z (a:Dt)(g:Int)(O G:Nat)(ov:Value)(o:List Dt)(n0:Nat)(w:World)(hO:w.cell? ⟨O,0,none⟩=some ov)(ho:Lst dtE w.heap.size w ov o)(hf:Frm ov o.length)(hG:w.cell? ⟨G,0,none⟩=some (.int .i64 g)) :
 Calls prog 85 #[dtV a,.pointer (some ⟨O,0,none⟩),.pointer (some ⟨G,0,none⟩)] w fun e w'=>e= .returned (.bool (o.any (a6j g a)))∧Below w.heap.size w w':=by
 obtain⟨oa,oc,rfl,-⟩:=ho.form;obtain⟨ax,ay,ak,ai⟩:=a;have hb1:Below w.heap.size w (w.alloc (.cells #[.int .i64 ax,.int .i64 ay,.int .i64 ak,.int .i64 ai] 54)):=(zR _ _).alloc (yR _) _;have h0:=b2f (.slice oa o.length oc) o (w.alloc (.cells #[.int .i64 ax,.int .i64 ay,.int .i64 ak,.int .i64 ai] 54)) (ho.up hb1) hf (a6j g ⟨ax,ay,ak,ai⟩) 87 #[.pointer (some ⟨w.heap.size,0,none⟩),.pointer (some ⟨G,0,none⟩)] (enters_of func87 (by kernel_rfl) rfl)
  (fun W x hb=>(c1y ⟨ax,ay,ak,ai⟩ x g w.heap.size G W ((Blk.new w #[.int .i64 ax,.int .i64 ay,.int .i64 ak,.int .i64 ai] 54).below hb (by simp)) ((hb.cell (p:=⟨G,0,none⟩) (by have:=World.block_lt_of_cell? _ _ hG;simp only[World.size_alloc];simp only at this;omega)).trans ((hb1.cell (p:=⟨G,0,none⟩) (World.block_lt_of_cell? _ _ hG)).trans hG))).mono fun _ _ ⟨he,h⟩=>⟨he,hb.trans (h.mono hb.size)⟩)
 obtain⟨r,hr⟩:∃r,o.any (a6j g ⟨ax,ay,ak,ai⟩)=r:=⟨_,rfl⟩;rw[hr] at h0 ⊢;clear hr;go_enter func85,ntmps85;go_wp2_with (go_at_call 86;refine (h0).mono ?_;rintro e w'⟨rfl,hb_⟩;obtain⟨p,rfl⟩:=a0c hb_;clear hb_);go_ret;exact⟨rfl,(by repeat' (first|with_reducible (first|exact zR _ _|exact yR _|assumption|refine zG ?_ ?_ _|refine zA ?_ ?_ _|refine zS ?_ ?_ _|refine zD ?_|refine yA ?_|refine yG ?_|refine yS ?_|refine yD ?_)|omega|(dsimp only;omega)))⟩
theorem a1r {P:Program}{fn:Func}{p u:Tmp}{ty:TypeId}(h:fn.results= #[.cell p ty,.tmp u])(tmps:Array Value)(w:World)(g:Nat)(t:TypeId)(cs:Array Value)(fr:Nat×Nat)(d:TypeDesc)
 (hp:tmps.getD p undef= .pointer (some ⟨g,0,none⟩)) (hg:w.heap[g]? =some (.cells cs t fr)) (hu:P.underlying ty=some d) (hd:(match d with | .struct _ | .array _ _=>true|_=>false)=true) (hi:(P.info? ty).map (·.size)=some cs.size) :
 (results fn tmps).run P w= .ok (.tuple #[.agg cs,tmps.getD u undef]) w:=by
 rw[results_cell_tmp h,hp];simp[asAddr,run_loadVar_row w g t ty cs fr d hg hu hd hi,Result.andThen]
def c0n (g:Int)(l o:List Dt):Option Dt:=l.find? fun a=>o.any (a6j g a)
def c4r (o:Option Dt):Value:=match o with|some d=> .tuple #[dtV d,.bool true]|none=> .tuple #[dtV ⟨0,0,0,0⟩,.bool false]
theorem c0o {α:Type}(p:α→Bool)(l:List α):(l.findIdx? p=none∧l.find? p=none)∨∃k,∃h:k<l.length,l.findIdx? p=some k∧l.find? p=some l[k]:=by
 cases h:l.findIdx? p with
 |none =>
  left;rw[List.findIdx?_eq_none_iff] at h;exact⟨rfl,List.find?_eq_none.2 (by simpa using h)⟩
 |some k =>
  right;obtain⟨hk,h1,h2⟩:=List.findIdx?_eq_some_iff_getElem.1 h;refine⟨k,hk,rfl,?_⟩;rw[List.find?_eq_some_iff_getElem];exact⟨h1,k,hk,rfl,fun j hj=>by simpa using h2 j hj⟩
theorem b0x (g:Int)(lv ov:Value)(l o:List Dt)(w:World)(hl:Lst dtE w.heap.size w lv l)(hlf:Frm lv l.length)(ho:Lst dtE w.heap.size w ov o)(hof:Frm ov o.length) :
 Calls prog 36 #[lv,ov,.int .i64 g] w fun e w'=>e= .returned (c4r (c0n g l o))∧Below w.heap.size w w':=by
 obtain⟨oa,oc,rfl,-⟩:=ho.form;obtain⟨la,lc,rfl,-⟩:=hl.form;obtain⟨W,hW⟩:∃W,((w.alloc (.cells #[.slice oa o.length oc] 41)).alloc (.cells #[.int .i64 g] 3)).alloc (.cells #[.int .i64 0,.int .i64 0,.int .i64 0,.int .i64 0] 54)=W:=⟨_,rfl⟩;have hb:Below w.heap.size w W:=by rw[←hW];exact (by repeat' (first|with_reducible (first|exact zR _ _|exact yR _|assumption|refine zG ?_ ?_ _|refine zA ?_ ?_ _|refine zS ?_ ?_ _|refine zD ?_|refine yA ?_|refine yG ?_|refine yS ?_|refine yD ?_)|omega|(dsimp only;omega)))
 have kO:Blk W w.heap.size #[.slice oa o.length oc] 41:=by rw[←hW];exact ((Blk.new _ _ _).alloc _).alloc _
 have kG:Blk W (w.heap.size+1) #[.int .i64 g] 3:=by rw[←hW];have:=(Blk.new (w.alloc (.cells #[.slice oa o.length oc] 41)) #[.int .i64 g] 3).alloc (.cells #[.int .i64 0,.int .i64 0,.int .i64 0,.int .i64 0] 54);rwa [World.size_alloc] at this
 have h0:=a5d (.slice la l.length lc) l W (hl.up hb) hlf (fun a=>o.any (a6j g a)) 85 #[.pointer (some ⟨w.heap.size,0,none⟩),.pointer (some ⟨w.heap.size+1,0,none⟩)] (enters_of func85 (by kernel_rfl) rfl)
  (fun X x hx=>(c1z x g w.heap.size (w.heap.size+1) (.slice oa o.length oc) o 0 X ((kO.below hx kO.lt).cell 0) ((ho.up hb).up hx) hof ((kG.below hx kG.lt).cell 0)).mono fun _ _ ⟨he,h⟩=>⟨he,hx.trans (h.mono hx.size)⟩)
 have hlW:=hl.up hb;unfold c0n;rcases c0o (fun a=>o.any (a6j g a)) l with ⟨h1,h2⟩|⟨k,hk,h1,h2⟩
 ·rw[h1] at h0
  rw[h2];replace h0:Calls _ _ _ _ fun e w'=>e= .returned (.int .i64 (-1))∧Below W.heap.size W w':=h0
  rw[←hW] at h0;clear h1 h2 hW hb kO kG hlW;go_enter func36,ntmps36;go_wp2_with (go_at_call 45;refine (h0).mono ?_;rintro e w'⟨rfl,hb_⟩;obtain⟨p,rfl⟩:=a0c hb_;clear hb_);have k2:Blk ((((w.alloc (.cells #[.slice oa o.length oc] 41)).alloc (.cells #[.int .i64 g] 3)).alloc (.cells #[.int .i64 0,.int .i64 0,.int .i64 0,.int .i64 0] 54)).growBy p) (w.heap.size+1+1) #[.int .i64 0,.int .i64 0,.int .i64 0,.int .i64 0] 54:=by have:=(Blk.new ((w.alloc (.cells #[.slice oa o.length oc] 41)).alloc (.cells #[.int .i64 g] 3)) #[.int .i64 0,.int .i64 0,.int .i64 0,.int .i64 0] 54).grow p;simp only[World.size_alloc] at this;exact this
  exact bodyPost_ret (a1r (by rfl) _ _ _ 54 _ (0,0) _ (by rfl) k2 underlying54 (by rfl) (by kernel_rfl)) rfl ⟨rfl,(by repeat' (first|with_reducible (first|exact zR _ _|exact yR _|assumption|refine zG ?_ ?_ _|refine zA ?_ ?_ _|refine zS ?_ ?_ _|refine zD ?_|refine yA ?_|refine yG ?_|refine yS ?_|refine yD ?_)|omega|(dsimp only;omega)))⟩
 ·rw[h1] at h0
  rw[h2];replace h0:Calls _ _ _ _ fun e w'=>e= .returned (.int .i64 (k:Nat))∧Below W.heap.size W w':=h0
  obtain⟨b,off,cap,hv,-,hlb,hc⟩:=hlW.some_ (by omega);simp only[Value.slice.injEq,true_and] at hv;obtain⟨rfl,rfl⟩:=hv;obtain⟨d,hd⟩:∃d,l[k]=d:=⟨_,rfl⟩;have hck:=hc k hk;rw[hd] at hck;rw[hd];obtain⟨dx,dy,dk,di⟩:=d;have c0:W.cell? ⟨b,off+k*4,none⟩=some (.int .i64 dx):=hck 0 (show 0<4 by decide);have c1:W.cell? ⟨b,off+k*4+1,none⟩=some (.int .i64 dy):=hck 1 (show 1<4 by decide);have c2:W.cell? ⟨b,off+k*4+2,none⟩=some (.int .i64 dk):=hck 2 (show 2<4 by decide);have c3:W.cell? ⟨b,off+k*4+3,none⟩=some (.int .i64 di):=hck 3 (show 3<4 by decide);have hkI:(k:Int)<(l.length:Int):=by omega
  have hk0:¬(k:Int)<0:=by omega
  have k2:Blk W (w.heap.size+1+1) #[.int .i64 0,.int .i64 0,.int .i64 0,.int .i64 0] 54:=by rw[←hW];have:=Blk.new ((w.alloc (.cells #[.slice oa o.length oc] 41)).alloc (.cells #[.int .i64 g] 3)) #[.int .i64 0,.int .i64 0,.int .i64 0,.int .i64 0] 54;simp only[World.size_alloc] at this;exact this
  have x0:=k2.cell 0;have x1:=k2.cell 1;have x2:=k2.cell 2;have x3:=k2.cell 3;have z0:=k2.frozen 0;have z1:=k2.frozen 1;have z2:=k2.frozen 2;have z3:=k2.frozen 3;replace x0:W.cell? ⟨w.heap.size+1+1,0,none⟩=some (.int .i64 0):=x0;replace x1:W.cell? ⟨w.heap.size+1+1,1,none⟩=some (.int .i64 0):=x1;replace x2:W.cell? ⟨w.heap.size+1+1,2,none⟩=some (.int .i64 0):=x2;replace x3:W.cell? ⟨w.heap.size+1+1,3,none⟩=some (.int .i64 0):=x3;have kF:=(((k2.set 0 (.int .i64 dx)).set 1 (.int .i64 dy)).set 2 (.int .i64 dk)).set 3 (.int .i64 di);clear h1 h2 kO kG hlW hck hc hl ho hd;go_enter func36,ntmps36;go_upto_region 1 with fail;clear hW;go_wp2_with (go_at_call 45;refine (h0).mono ?_;rintro e w'⟨rfl,hb_⟩;obtain⟨p,rfl⟩:=a0c hb_;clear hb_);have hsz:=hb.size;exact bodyPost_ret (a1r (by rfl) _ _ _ 54 _ (0,0) _ (by rfl) (kF.grow p) underlying54 (by rfl) (by kernel_rfl)) rfl ⟨rfl,(by repeat' (first|with_reducible (first|exact zR _ _|exact yR _|assumption|refine zG ?_ ?_ _|refine zA ?_ ?_ _|refine zS ?_ ?_ _|refine zD ?_|refine yA ?_|refine yG ?_|refine yS ?_|refine yD ?_)|omega|(dsimp only;omega)))⟩
end
section
open Go Go.RowKit Go.Shelf
attribute [local go_sem] Oper.semAt_some
theorem b6b (s:ByteArray)(pos:Nat)(h:pos<s.size)(ha:¬(s[pos]'h).toNat<128):128≤(Utf8.decode s pos).1:=by
 have e:s.get! (pos+0)=s[pos]'h:=by
  show s.get! pos=_;simp[ByteArray.get!,getElem!_pos,h];rfl
 unfold Utf8.decode;simp only[e];rw[if_neg ha];have hr:128≤Utf8.runeError:=by decide
 repeat' split
 all_goals first|exact hr|(simp only[ge_iff_le,decide_eq_true_eq,Bool.and_eq_true] at *;omega)
theorem b2g {P:Program}(w:World)(s:ByteArray)(pos:Nat)(ty:TypeId)(h:pos<s.size) :
 (Instr.next (.pointer (some ⟨w.heap.size,0,none⟩)) true ty).run P (w.iter s pos) =
  .ok (.tuple #[.bool true,.int .i64 pos,.int .i32 (Utf8.decode s pos).1]) (w.iter s (pos+(Utf8.decode s pos).2)):=by
 simp only[Instr.next,getObj,setObj,Sem.run_bind,Sem.run,World.iter_heap,Result.andThen,h,if_true,World.iter_set];simp[goInt,Sem.run,World.iter_heap,World.iter_set]
def okB (c:UInt8):Bool:=decide (32≤c.toNat)&&decide (c.toNat≤126)&&decide (c.toNat≠34)
def a6k (s:ByteArray):Bool:=s.data.toList.all okB
theorem b6c {s:ByteArray}(h:a6k s=true)(i:Nat)(hi:i<s.size):okB (s[i]'hi)=true:=by
 unfold a6k at h;rw[List.all_eq_true] at h;exact h _ (Array.mem_toList_iff.2 (Array.getElem_mem hi))
theorem c4s {s:ByteArray}(h:∀i (hi:i<s.size),okB (s[i]'hi)=true):a6k s=true:=by
 unfold a6k;rw[List.all_eq_true];intro c hc;obtain⟨i,hi,rfl⟩:=List.getElem_of_mem hc;exact h i (by simpa using hi)
theorem b6d {s:ByteArray}(i:Nat)(hi:i<s.size)(h:okB (s[i]'hi)=false):a6k s=false:=by
 cases hr:a6k s with
 |false=>rfl
 |true=>rw[b6c hr i hi] at h;cases h
theorem b6e (s:ByteArray)(hl:s.size≤1000000)(w:World):Calls prog 113 #[.string s] w fun e w'=>e= .returned (.bool (a6k s))∧Below w.heap.size w w':=by
 obtain⟨r,hr⟩:∃r,a6k s=r:=⟨_,rfl⟩;rw[hr];go_enter func113,ntmps113;go_wp2_with fail;go_loopw [7] (fun _ W=>∃n:Nat,n≤s.size∧W=w.iter s n∧∀i (hi:i<n) (hs:i<s.size),okB (s[i]'hs)=true) (fun _ W=>a9w w.heap.size s W)
 case atStart=>exact⟨0,Nat.zero_le _,rfl,fun i hi=>absurd hi (Nat.not_lt_zero _)⟩
 case round =>
  obtain⟨n,hn,rfl,hok⟩:=hrel;have hokH:=Lib.hid hok;clear hok;by_cases hlt:n<s.size
  ·by_cases ha:(s[n]'hlt).toNat<128
   ·have hr':∀ty,(Instr.next (.pointer (some ⟨w.heap.size,0,none⟩)) true ty).run prog (w.iter s n)= .ok (.tuple #[.bool true,.int .i64 n,.int .i32 (s[n]'hlt).toNat]) (w.iter s (n+1)):=fun ty=>run_next_ascii w s n ty hlt ha
    obtain⟨u,hu⟩:∃u,s[n]'hlt=u:=⟨_,rfl⟩;obtain⟨c,hc⟩:∃c,u.toNat=c:=⟨_,rfl⟩;rw[hu,hc] at hr';rw[hu,hc] at ha;by_cases hk:okB u=true
    ·have hk2:=hk
     unfold okB at hk2;rw[hc] at hk2;simp only[Bool.and_eq_true,decide_eq_true_eq] at hk2;obtain⟨⟨q0,q1⟩,q2⟩:=hk2;have k0:¬(c:Int)<32:=by omega
     have k1:¬(126:Int)<c:=by omega
     have k2:¬(c:Int)=34:=by omega
     have hnext:Hid (∀i (hi:i<n+1) (hs:i<s.size),okB (s[i]'hs)=true):=fun i hi hs=>by
      by_cases h9:i=n
      ·subst h9;rw[hu];exact hk
      ·exact hokH.out i (by omega) hs
     clear hk hc hu q0 q1 q2;go_wp2_with fail;go_roundw
     case rel=>exact⟨n+1,by omega,rfl,hnext.out⟩
     case measure=>rw[a5a,a5a];omega
    ·have hno:=b6d n hlt (by rw[hu];simpa using hk)
     rw[hr] at hno;subst hno;have hk2:c<32∨126<c∨c=34:=by
      unfold okB at hk;rw[hc] at hk;simp only[Bool.and_eq_true,decide_eq_true_eq,not_and] at hk;omega
     clear hk hc hu hr;rcases hk2 with h9|h9|h9
     ·have k0:(c:Int)<32:=by omega
      go_wp2_with fail;go_ret;exact⟨rfl,(zR _ _).alloc (yR _) _⟩
     ·have k0:¬(c:Int)<32:=by omega
      have k1:(126:Int)<c:=by omega
      go_wp2_with fail;go_ret;exact⟨rfl,(zR _ _).alloc (yR _) _⟩
     ·subst h9
      go_wp2_with fail;go_ret;exact⟨rfl,(zR _ _).alloc (yR _) _⟩
   ·have hr':∀ty,(Instr.next (.pointer (some ⟨w.heap.size,0,none⟩)) true ty).run prog (w.iter s n)= .ok (.tuple #[.bool true,.int .i64 n,.int .i32 (Utf8.decode s n).1]) (w.iter s (n+(Utf8.decode s n).2)):=fun ty=>b2g w s n ty hlt
    have hd:=b6b s n hlt ha;have hno:=b6d n hlt (by unfold okB;rw[Bool.and_eq_false_iff,Bool.and_eq_false_iff];exact .inl (.inr (decide_eq_false (by omega))));rw[hr] at hno;subst hno;obtain⟨c,hc⟩:∃c,(Utf8.decode s n).1=c:=⟨_,rfl⟩;rw[hc] at hr' hd;have k0:¬(c:Int)<32:=by omega
    have k1:(126:Int)<c:=by omega
    clear hc hr ha hd;go_wp2_with fail;go_ret;exact⟨rfl,(zR _ _).alloc (yR _) _⟩
  ·obtain rfl:n=s.size:=by omega
   have hr':∀ty,(Instr.next (.pointer (some ⟨w.heap.size,0,none⟩)) true ty).run prog (w.iter s s.size)= .ok (.tuple #[.bool false]) (w.iter s s.size):=fun ty=>run_next_end w s s.size ty (by omega)
   have hyes:=c4s (s:=s) fun i hi=>hokH.out i hi hi
   rw[hr] at hyes;subst hyes;clear hr;go_wp2_with fail;go_ret;exact⟨rfl,(zR _ _).alloc (yR _) _⟩
end
section
open Go.RowKit Go.Shelf Go.Lib Go.Sort
attribute [local go_sem] Oper.semAt_some
attribute [local go_sem ↓] Go.wp_at_zero Go.wp_at_succ
theorem b8s (blk off cap N n:Nat)(d:Array Pc)(w:World)(hW:SoW w blk off N n d w)(hn:n≤1000) :
 Calls prog 170 #[.slice (some ⟨blk,off,none⟩) n cap,.int .i64 0,.int .i64 (n:Nat),.func (.func 103) #[] #[]] w fun e w'=>e= .returned (.tuple #[])∧SoW w blk off N n (insertionSort (ltOf a8d) d 0 n) w':=by
 have mixed:prog.follows .mixedOrders=true:=by kernel_rfl
 have HW:Hid (SoW w blk off N n d w):=hW;clear hW;go_enter func170,ntmps170;go_wp2_with fail;go_loopw [8] (fun vi wr=>∃(i:Nat) (dk:Array Pc),vi= .int .i64 (i:Nat)∧1≤i∧i≤n+1∧Hid (SoW w blk off N n dk wr)∧Hid (insOuter (ltOf a8d) 0 n i dk=insOuter (ltOf a8d) 0 n 1 d)) (fun vi _=>n+1-(intOf vi).toNat)
 case atStart=>exact⟨1,d,rfl,by omega,by omega,HW,rfl⟩
 case round =>
  obtain⟨i,dk,rfl,hi1,hin,HR,HO⟩:=hrel;by_cases hlt:i<n
  ·have hltI:(i:Int)<(n:Int):=by omega
   go_wp2_with fail;go_loopw [9] (fun vj wr2=>∃(j:Nat) (dj:Array Pc),vj= .int .i64 (j:Nat)∧j≤i∧Hid (SoW w blk off N n dj wr2)∧Hid (insInner (ltOf a8d) 0 j dj=insInner (ltOf a8d) 0 i dk)) (fun vj _=>(intOf vj).toNat)
   case atStart=>exact⟨i,dk,rfl,by omega,HR,rfl⟩
   case round =>
    obtain⟨j,dj,rfl,hji,HJ,HI⟩:=hrel;have out:Hid ((j=0∨ltOf a8d dj[j]! dj[j-1]! =false)→insOuter (ltOf a8d) 0 n (i+1) dj=insOuter (ltOf a8d) 0 n 1 d):=fun hs=>by
     rw[←HO.out,insOuter_go _ _ _ _ _ hlt,←HI.out,insInner_stop _ _ _ _ (hs.imp (fun e=>by omega) id)]
    by_cases hj0:0<j
    ·have hj0I:(0:Int)<(j:Int):=by omega
     obtain⟨jp,rfl⟩:∃jp,j=jp+1:=⟨j-1,by omega⟩;have hjn:jp+1<dj.size:=by rw[HJ.out.sz];omega
     obtain⟨xj,hxj⟩:∃x,dj[jp+1]! =x:=⟨_,rfl⟩;obtain⟨xp,hxp⟩:∃x,dj[jp]! =x:=⟨_,rfl⟩;obtain⟨a0,a1,a2,a3,a4,a5,a6⟩:=hxj▸HJ.out.row.pc hjn;obtain⟨b0,b1,b2,b3,b4,b5,b6⟩:=hxp▸HJ.out.row.pc (j:=jp) (by omega);have HX:Hid (dj[jp+1]! =xj∧dj[jp]! =xp):=⟨hxj,hxp⟩;obtain⟨cv,hcv⟩:∃c,a8d xj xp=c:=⟨_,rfl⟩;have hcmp:∀W,Calls prog 103 #[plV xj,plV xp] W fun e w'=>e= .returned (.int .i64 cv)∧Below W.heap.size W w':=fun W=>by rw[←hcv];exact c3q xj xp W
     have HC:Hid (a8d xj xp=cv):=hcv;clear hxj hxp hcv;obtain⟨i1,x1,y1,cl1,n1,wt1,d1⟩:=xj;obtain⟨i2,x2,y2,cl2,n2,wt2,d2⟩:=xp;have hwp:IntKind.i64.wrap (jp:Int)=(jp:Int):=by rw[IntKind.wrap_i64];omega
     have hjnI:(jp:Int)+1<(n:Int):=by omega
     have hjnI2:(jp:Int)<(n:Int):=by omega
     have hp0:(0:Int)≤(jp:Int)+1:=by omega
     have he0:((jp:Int)+1).toNat=jp+1:=by omega
     by_cases hlv:cv<0
     ·go_wp2_with fail
      first|with_reducible refine a0v (by kernel_rfl) (by kernel_rfl) ?_|with_reducible refine a1a (by kernel_rfl) (by kernel_rfl) ?_
      repeat (first|go_big_quiet_step ((go_at_call 103;exact Calls.grow_of (hcmp _)))|quiet_step ((go_at_call 103;exact Calls.grow_of (hcmp _))))
      refine wpQuiet_nil ?_;intro _ hw_;obtain⟨p,hw_⟩:=hw_;subst hw_;go_upto_region 6 with fail;obtain⟨W2,hW2⟩:∃W,wr.growBy p=W:=⟨_,rfl⟩;rw[hW2];have HJ2:SoW w blk off N n dj W2:=by rw[←hW2];exact HJ.out.below (below_growBy _ _)
      clear a0 a1 a2 a3 a4 a5 a6 b0 b1 b2 b3 b4 b5 b6 hW2 hcmp;obtain⟨a0,a1,a2,a3,a4,a5,a6⟩:=HX.out.1▸HJ2.row.pc hjn;obtain⟨b0,b1,b2,b3,b4,b5,b6⟩:=HX.out.2▸HJ2.row.pc (j:=jp) (by omega);obtain⟨f0,f1,f2,f3,f4,f5,f6⟩:=HJ2.row.pf hjn;obtain⟨g0,g1,g2,g3,g4,g5,g6⟩:=HJ2.row.pf (j:=jp) (by omega);have HJ3:=Lib.hid (HJ2.swap (j:=jp) (by omega));have hjj:jp+1<n:=by omega
      replace HJ2:=Lib.hid HJ2;simp only at a0 a1 a2 a3 a4 a5 a6 b0 b1 b2 b3 b4 b5 b6;go_big_region_o
      all_goals go_wp2_with fail
      go_roundw
      case rel =>
       refine⟨jp,swp dj (jp+1) jp,by go_num,by omega,?_,?_⟩
       ·have h3:=HJ3.out
        unfold d0d at h3;rw[HX.out.1,HX.out.2,c7b] at h3;exact Lib.hid h3.drew
       ·show _=_
        have h4:=insInner_go (ltOf a8d) 0 (jp+1) dj (by omega) (by rw[HX.out.1,show jp+1-1=jp from rfl,HX.out.2,d3g,HC.out];exact hlv);rw[←HI.out,h4];rfl
      case measure=>first|(simp[intOf];done)|(simp[intOf];omega)
     ·go_wp2_with fail
      first|with_reducible refine a0v (by kernel_rfl) (by kernel_rfl) ?_|with_reducible refine a1a (by kernel_rfl) (by kernel_rfl) ?_
      repeat (first|go_big_quiet_step ((go_at_call 103;exact Calls.grow_of (hcmp _)))|quiet_step ((go_at_call 103;exact Calls.grow_of (hcmp _))))
      refine wpQuiet_nil ?_;intro _ hw_;obtain⟨p,hw_⟩:=hw_;subst hw_;go_wp2_with fail;go_roundw
      case rel=>exact⟨i+1,dj,by go_num,by omega,by omega,HJ.out.below (below_growBy _ _),out.out (.inr (by show decide _=false;rw[HX.out.1,show jp+1-1=jp from rfl,HX.out.2,HC.out];exact decide_eq_false (by omega)))⟩
      case measure=>first|(simp[intOf];done)|(simp[intOf];omega)
    ·obtain rfl:j=0:=by omega
     have hj0I:¬(0:Int)<((0:Nat):Int):=by omega
     have hSo:=out.out (.inl rfl);go_wp2_with fail;go_big_region_o
     all_goals go_wp2_with fail
     go_roundw
     case rel=>exact⟨i+1,dj,by go_num,by omega,by omega,Lib.hid HJ.out.drew,hSo⟩
     case measure=>first|(simp[intOf];done)|(simp[intOf];omega)
  ·have hgeI:¬(i:Int)<(n:Int):=by omega
   go_wp2_with fail;go_end0;have h5:=HO.out;rw[insOuter_stop _ _ _ _ _ hlt] at h5;refine⟨rfl,?_⟩;unfold insertionSort;rw[←h5];exact HR.out
def a0t (l:List Pc):List Pc:=(insertionSort (ltOf a8d) l.toArray 0 l.length).toList
theorem c4t:a0t []=[]:=by
 unfold a0t insertionSort;rw[insOuter_stop _ _ _ _ _ (by simp)]
theorem c0p (d:Array Pc)(t:Nat)(ht:t<d.size*7):(d.toList.flatMap plE.enc)[t]? =some (flatK plE.enc 7 d)[t]! :=by
 have hq:t / 7<d.toList.length:=by simp;omega
 have hr:t % 7<7:=Nat.mod_lt _ (by decide);have e1:t / 7*7+t % 7=t:=by omega
 have h2:=b0d a2h d.toList (t / 7) (t % 7) hq hr;rw[show plE.s=7 from rfl,e1] at h2;rw[h2,get_flatK _ _ _ _ ht];have hqa:t / 7<d.size:=by omega
 rw[getElem!_pos d (t / 7) hqa];have hl:t % 7<(plE.enc d[t / 7]).length:=hr;rw[getElem!_pos (plE.enc d[t / 7]) (t % 7) hl];simp only[Array.getElem_toList];exact List.getElem?_eq_getElem hl
theorem c2a {w:World}{base g cap:Nat}{l:List Pc}(h:w.ownsRow base 66 7 (.slice (some ⟨g,0,none⟩) l.length cap) l.length (l.flatMap plE.enc)):SoW w g 0 (cap*7) l.length l.toArray w∧base≤g:=by
 rcases h.2 with ⟨e,-⟩|⟨g',cap',cur,e,hb,hg,h1,h2,h3,h4⟩
 ·cases e
 ·simp only[Value.slice.injEq,Option.some.injEq,Addr.mk.injEq,and_true,true_and] at e
  obtain⟨rfl,rfl⟩:=e;refine⟨⟨fun t ht=>⟨?_,(show Blk w g cur 66 from hg).frozen _⟩,⟨cur,hg,h3⟩,⟨rfl,rfl,rfl,yR _,fun _ _ _=>rfl⟩,by simp⟩,hb⟩;have ht':t<l.length*7:=by simpa using ht
  have h5:=c0p l.toArray t (by simpa using ht');simp only at h5;have h6:=h.cellAt t ht';rw[h5] at h6;simpa using h6
theorem c2b {w W:World}{base g cap n:Nat}{d:Array Pc}(h:SoW w g 0 (cap*7) n d W)(hb:base≤g)(hc:n≤cap)(hm:cap≤maxLen):W.ownsRow base 66 7 (.slice (some ⟨g,0,none⟩) n cap) n (d.toList.flatMap plE.enc):=by
 obtain⟨hr,⟨cur,hk,hs⟩,-,hz⟩:=h;have hlen:(d.toList.flatMap plE.enc).length=n*7:=by rw[a1c a2h];simp[hz]
 refine⟨hlen,.inr ⟨g,cap,cur,rfl,hb,hk,hc,hm,hs,?_⟩⟩;refine List.ext_getElem? fun t=> ?_
 by_cases ht:t<n*7
 ·rw[List.getElem?_take_of_lt ht,c0p d t (by rw[hz];exact ht)]
  have h1:=(hr t (by rw[size_flatK,hz];exact ht)).1;rw[Nat.zero_add,hk.cell t] at h1;simpa using h1
 ·rw[List.getElem?_eq_none (by simp;omega),List.getElem?_eq_none (by omega)]
theorem b8t (a:Option Addr)(n c:Nat)(fv:Value)(w:World):Calls prog 170 #[.slice a n c,.int .i64 0,.int .i64 0,fv] w fun e w'=>e= .returned (.tuple #[])∧w=w':=by
 go_enter func170,ntmps170;go_wp2_with fail;refine wp_loop_rounds 1 ?_;rw[rounds_succ];go_wp2_with fail;go_end0;exact⟨rfl,rfl⟩
theorem b2t (v fv:Value)(n:Nat)(hn:n≤19)(w:World)(K:World→Prop)(h:Calls prog 170 #[v,.int .i64 0,.int .i64 (n:Nat),fv] w fun e w'=>e= .returned (.tuple #[])∧K w') :
 Calls prog 150 #[v,.int .i64 (n:Nat),fv] w fun e w'=>e= .returned (.tuple #[])∧K w':=by
 have hnI:¬(20:Int)≤(n:Int):=by omega
 have hnI2:¬(20:Int)<(n:Int):=by omega
 have mixed:prog.follows .mixedOrders=true:=by kernel_rfl
 go_enter func150,ntmps150;go_wp2_with fail;refine wp_loop_rounds 1 ?_;rw[rounds_succ];go_wp2_with (go_at_call 170;refine h.mono ?_;rintro e w1⟨rfl,hK⟩);refine wp_loop_rounds 1 ?_;rw[rounds_succ];go_wp2_with fail;go_end0;exact⟨rfl,hK⟩
theorem d0n {base g cap:Nat}{l:List Pc}{w:World}{fv:Value}(hl:l.length≤19)(hrow:w.ownsRow base 66 7 (.slice (some ⟨g,0,none⟩) l.length cap) l.length (l.flatMap plE.enc))(hc:l.length≤cap)(hm:cap≤maxLen)
 (hins:SoW w g 0 (cap*7) l.length l.toArray w→Calls prog 170 #[.slice (some ⟨g,0,none⟩) l.length cap,.int .i64 0,.int .i64 (l.length:Nat),fv] w fun e w'=>e= .returned (.tuple #[])∧SoW w g 0 (cap*7) l.length (insertionSort (ltOf a8d) l.toArray 0 l.length) w') :
 Calls prog 150 #[.slice (some ⟨g,0,none⟩) l.length cap,.int .i64 (l.length:Nat),fv] w fun e w'=>e= .returned (.tuple #[])∧w'.ownsRow base 66 7 (.slice (some ⟨g,0,none⟩) l.length cap) l.length ((a0t l).flatMap plE.enc)∧w.grownBy w' (some g):=by
 obtain⟨hS,hb⟩:=c2a hrow;refine b2t _ fv l.length hl w _ ((hins hS).mono ?_);rintro e w'⟨rfl,h⟩;exact⟨rfl,c2b h hb hc hm,h.gr⟩
theorem b6f (base:Nat)(v:Value)(l:List Pc)(w:World)(hl:l.length≤19)(hrow:w.ownsRow base 66 7 v l.length (l.flatMap plE.enc)) :
 Calls prog 102 #[v,.func (.func 103) #[] #[]] w fun e w'=>e= .returned (.tuple #[])∧w'.ownsRow base 66 7 v l.length ((a0t l).flatMap plE.enc)∧w.grownBy w' v.ownBlock:=by
 rcases hrow.2 with ⟨rfl,h0⟩|⟨g,cap,cur,rfl,hb,hg,h1,h2,h3,h4⟩
 ·obtain rfl:=List.eq_nil_of_length_eq_zero h0
  have c1:=b2t (.slice none 0 0) (.func (.func 103) #[] #[]) 0 (by omega) w (fun w'=>w=w') (b8t none 0 0 _ w);have hr2:=Lib.hid hrow;clear hrow h0;go_enter func102,ntmps102;go_wp2_with (go_at_call 150;refine c1.mono ?_;rintro e w1⟨rfl,rfl⟩);go_end0;exact⟨rfl,by rw[c4t];exact hr2.out,⟨rfl,rfl,rfl,yR _,fun _ _ _=>rfl⟩⟩
 ·have c1:=d0n hl hrow h1 h2 (fun hS=>b8s g 0 cap (cap*7) l.length l.toArray w hS (by omega))
  clear hrow hg h3 h4;go_enter func102,ntmps102;go_wp2_with (go_at_call 150;refine c1.mono ?_;rintro e w1⟨rfl,hr2,hg2⟩);go_end0;exact⟨rfl,hr2,hg2⟩
end
end Go.Proofs.YtfocdbjceedagaaGreatDoor
