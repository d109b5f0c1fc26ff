/-
  Parts.
-/
import Derived.Test.YtfocdbjceedagaaGreatDoorYaj
import Derived.Test.YtfocdbjceedagaaGreatDoorYam
set_option linter.unusedVariables false
set_option linter.unusedSimpArgs false
set_option maxHeartbeats 4000000
set_option maxRecDepth 100000
namespace Go.Proofs.YtfocdbjceedagaaGreatDoor
open Tryz
section
open Go Go.RowKit Go.Shelf Go.Lib
attribute [local go_sem] Oper.semAt_some
attribute [local go_sem ↓] Go.wp_at_zero Go.wp_at_succ
theorem c7y {n:ByteArray}(h:n≠⟨#[]⟩):n.toList.isEmpty=false:=by
 cases hc:n.toList.isEmpty with
 |false=>rfl
 |true =>
  rw[List.isEmpty_iff,ByteArray.toList_eq] at hc;refine absurd ?_ h
  cases n;simp only at hc;rw[Array.toList_eq_nil_iff] at hc;rw[hc]
def d0q (p:Pc):Option Ke:=if p.nm=⟨#[]⟩ then none else if (b0y p.nm).2=0 then some ⟨p.id,p.id,(b0y p.nm).1⟩ else none
def a6t (p:Pc):List Ke:=(d0q p).toList
abbrev keV (k:Ke):Value:= .agg #[.int .i64 k.n,.int .i64 k.p,.string k.c]
def d3r (o:Option Ke)(w:World)(e:Ending)(w':World):Prop:=∃k,e= .returned (.tuple #[keV k,.bool o.isSome])∧(∀x,o=some x→k=x)∧Below w.heap.size w w'
theorem c4y (p:Pc)(hp:p.nm.size≤1000)(w:World) :
 Calls prog 37 #[plV p] w (d3r (d0q p) w):=by
 have hW:=c4w p.nm hp;unfold d0q;obtain⟨id,x,y,cl,nm,wt,ds⟩:=p;simp only at hW ⊢;by_cases hn:nm=⟨#[]⟩
 ·subst hn
  rw[if_pos rfl];go_enter func37,ntmps37;go_wp2_with fail;have k2:Blk ((w.alloc (.cells #[.int .i64 id,.int .i64 x,.int .i64 y,.string cl,.string ⟨#[]⟩,.int .i64 wt,.int .i64 ds] 66)).alloc (.cells #[.int .i64 0,.int .i64 0,.string ⟨#[]⟩] 82)) (w.heap.size+1) #[.int .i64 0,.int .i64 0,.string ⟨#[]⟩] 82:=by have:=Blk.new (w.alloc (.cells #[.int .i64 id,.int .i64 x,.int .i64 y,.string cl,.string ⟨#[]⟩,.int .i64 wt,.int .i64 ds] 66)) #[.int .i64 0,.int .i64 0,.string ⟨#[]⟩] 82;rwa [World.size_alloc] at this
  exact bodyPost_ret (a1r (by rfl) _ _ _ 82 _ (0,0) _ (by rfl) k2 underlying82 (by rfl) (by kernel_rfl)) rfl ⟨⟨0,0,⟨#[]⟩⟩,rfl,(fun x h=>nomatch h),(by repeat' (first|with_reducible (first|exact zR _ _|exact yR _|assumption|refine zG ?_ ?_ _|refine zA ?_ ?_ _|refine zS ?_ ?_ _|refine zD ?_|refine yA ?_|refine yG ?_|refine yS ?_|refine yD ?_)|omega|(dsimp only;omega)))⟩
 ·rw[if_neg hn]
  have hne:=c7y hn;obtain⟨c,hc⟩:∃c,(b0y nm).1=c:=⟨_,rfl⟩;obtain⟨er,her⟩:∃c,(b0y nm).2=c:=⟨_,rfl⟩;rw[hc,her] at hW ⊢;clear hc her hn;by_cases h0:er=0
  ·subst h0
   rw[if_pos rfl];go_enter func37,ntmps37;go_wp2_with (go_at_call 64;refine (hW _).mono ?_;rintro e w'⟨rfl,hb_⟩;obtain⟨p,rfl⟩:=a0c hb_;clear hb_);have k2:Blk (((w.alloc (.cells #[.int .i64 id,.int .i64 x,.int .i64 y,.string cl,.string nm,.int .i64 wt,.int .i64 ds] 66)).alloc (.cells #[.int .i64 id,.int .i64 id,.string c] 82)).growBy p) (w.heap.size+1) #[.int .i64 id,.int .i64 id,.string c] 82:=by have:=(Blk.new (w.alloc (.cells #[.int .i64 id,.int .i64 x,.int .i64 y,.string cl,.string nm,.int .i64 wt,.int .i64 ds] 66)) #[.int .i64 id,.int .i64 id,.string c] 82).grow p;rwa [World.size_alloc] at this
   exact bodyPost_ret (a1r (by rfl) _ _ _ 82 _ (0,0) _ (by rfl) k2 underlying82 (by rfl) (by kernel_rfl)) rfl ⟨⟨id,id,c⟩,rfl,(fun x h=>by cases h;rfl),(by repeat' (first|with_reducible (first|exact zR _ _|exact yR _|assumption|refine zG ?_ ?_ _|refine zA ?_ ?_ _|refine zS ?_ ?_ _|refine zD ?_|refine yA ?_|refine yG ?_|refine yS ?_|refine yD ?_)|omega|(dsimp only;omega)))⟩
  ·rw[if_neg h0]
   have h0b:(er==0)=false:=by simpa using h0
   go_enter func37,ntmps37;go_wp2_with (go_at_call 64;refine (hW _).mono ?_;rintro e w'⟨rfl,hb_⟩;obtain⟨p,rfl⟩:=a0c hb_;clear hb_);have k2:Blk (((w.alloc (.cells #[.int .i64 id,.int .i64 x,.int .i64 y,.string cl,.string nm,.int .i64 wt,.int .i64 ds] 66)).alloc (.cells #[.int .i64 id,.int .i64 id,.string c] 82)).growBy p) (w.heap.size+1) #[.int .i64 id,.int .i64 id,.string c] 82:=by have:=(Blk.new (w.alloc (.cells #[.int .i64 id,.int .i64 x,.int .i64 y,.string cl,.string nm,.int .i64 wt,.int .i64 ds] 66)) #[.int .i64 id,.int .i64 id,.string c] 82).grow p;rwa [World.size_alloc] at this
   exact bodyPost_ret (a1r (by rfl) _ _ _ 82 _ (0,0) _ (by rfl) k2 underlying82 (by rfl) (by kernel_rfl)) rfl ⟨⟨id,id,c⟩,rfl,(fun x h=>nomatch h),(by repeat' (first|with_reducible (first|exact zR _ _|exact yR _|assumption|refine zG ?_ ?_ _|refine zA ?_ ?_ _|refine zS ?_ ?_ _|refine zD ?_|refine yA ?_|refine yG ?_|refine yS ?_|refine yD ?_)|omega|(dsimp only;omega)))⟩
def c0q (s:Sh)(n:Nat):Int:=if a1w s=0 then if 80<n then 2 else 0 else a1w s
theorem b6l (s:Sh)(ev fv wv:Value)(pa:Option Addr)(n pc:Nat)(w:World)(f0:a0i s.ax)(f1:a0i s.ay) :
 Calls prog 33 #[.agg #[ev,fv,wv,.slice pa n pc],shV s] w fun e w'=>e= .returned (.int .i64 (c0q s n))∧Below w.heap.size w w':=by
 unfold c0q;obtain⟨r,hr⟩:∃r,a1w s=r:=⟨_,rfl⟩;have hC:=fun w=>a4x hr w f0 f1
 rw[hr];clear hr f0 f1;obtain⟨ax,ay,st,sw,sh,sg⟩:=s;by_cases h0:r=0
 ·subst h0
  rw[if_pos rfl];by_cases hn:80<n
  ·rw[if_pos hn]
   have hnI:(80:Int)<(n:Int):=by omega
   go_enter func33,ntmps33;go_wp2_with (go_at_call 22;refine (hC _).mono ?_;rintro e w'⟨rfl,hb_⟩;obtain⟨p,rfl⟩:=a0c hb_;clear hb_);go_ret;exact⟨rfl,(by repeat' (first|with_reducible (first|exact zR _ _|exact yR _|assumption|refine zG ?_ ?_ _|refine zA ?_ ?_ _|refine zS ?_ ?_ _|refine zD ?_|refine yA ?_|refine yG ?_|refine yS ?_|refine yD ?_)|omega|(dsimp only;omega)))⟩
  ·rw[if_neg hn]
   have hnI:¬(80:Int)<(n:Int):=by omega
   go_enter func33,ntmps33;go_wp2_with (go_at_call 22;refine (hC _).mono ?_;rintro e w'⟨rfl,hb_⟩;obtain⟨p,rfl⟩:=a0c hb_;clear hb_);go_ret;exact⟨rfl,(by repeat' (first|with_reducible (first|exact zR _ _|exact yR _|assumption|refine zG ?_ ?_ _|refine zA ?_ ?_ _|refine zS ?_ ?_ _|refine zD ?_|refine yA ?_|refine yG ?_|refine yS ?_|refine yD ?_)|omega|(dsimp only;omega)))⟩
 ·rw[if_neg h0]
  go_enter func33,ntmps33;go_wp2_with (go_at_call 22;refine (hC _).mono ?_;rintro e w'⟨rfl,hb_⟩;obtain⟨p,rfl⟩:=a0c hb_;clear hb_);go_ret;exact⟨rfl,(by repeat' (first|with_reducible (first|exact zR _ _|exact yR _|assumption|refine zG ?_ ?_ _|refine zA ?_ ?_ _|refine zS ?_ ?_ _|refine zD ?_|refine yA ?_|refine yG ?_|refine yS ?_|refine yD ?_)|omega|(dsimp only;omega)))⟩
theorem c2g {W:World}{base base':Nat}{e:TypeId}{s:Nat}{v:Value}{n:Nat}{xs:List Value}(h:W.ownsRow base e s v n xs)(hb:base'≤base):W.ownsRow base' e s v n xs:=by
 obtain⟨h1,h2|⟨g,cap,cur,h2,h3,h4⟩⟩:=h
 ·exact⟨h1,.inl h2⟩
 ·exact⟨h1,.inr ⟨g,cap,cur,h2,Nat.le_trans hb h3,h4⟩⟩
theorem c4z {w W W1 W2:World}{u:Value}{l:List Pc}(hb1:Below w.heap.size w W)(hr:W1.ownsRow W.heap.size 66 7 u l.length (l.flatMap plE.enc))(hb2:Below W.heap.size W W1)(hr2:W2.ownsRow W.heap.size 66 7 u l.length ((a0t l).flatMap plE.enc))(hg:W1.grownBy W2 u.ownBlock) :
 w.heap.size≤W.heap.size∧W2.ownsRow w.heap.size 66 7 u l.length ((a0t l).flatMap plE.enc)∧Below w.heap.size w W2:=by
 have h1:=hb1.trans (hb2.mono hb1.size);exact⟨hb1.size,c2g hr2 hb1.size,h1.trans (a1i hg h1.size (fun k e=>Nat.le_trans hb1.size (hr.lt k e).1))⟩
theorem a6u (ev fv wv pv:Value)(l:List Pc)(w:World)(h:Lst plE w.heap.size w pv l)(hf:Frm pv l.length)(hl:l.length≤19) :
 Calls prog 44 #[.agg #[ev,fv,wv,pv]] w fun e w'=>∃v,e= .returned v∧w'.ownsRow w.heap.size 66 7 v l.length ((a0t l).flatMap plE.enc)∧Below w.heap.size w w':=by
 have hb1:Below w.heap.size w (w.alloc (.cells #[ev,fv,wv,pv] 37)):=(zR _ _).alloc (yR _) _;have hC:=b8g pv l _ (h.up hb1) hf (by omega);obtain⟨pa,pc,rfl,-⟩:=h.form;have hS:=fun v W1 hr=>b6f (w.alloc (.cells #[ev,fv,wv,.slice pa l.length pc] 37)).heap.size v l W1 hl hr
 go_enter func44,ntmps44;go_upto_region 2 with (first
  |(go_at_call 101;refine hC.mono ?_;rintro e w1⟨u,rfl,hr1,hb2⟩)
  |fail)
 have hS2:=hS u w1 hr1;clear hS hC h;go_wp2_with (first
  |(go_at_call 102;refine hS2.mono ?_;rintro e w2⟨rfl,hr2,hg2⟩)
  |fail)
 go_ret;exact⟨u,rfl,(c4z hb1 hr1 hb2 hr2 hg2).2⟩
end
section
open Go Go.RowKit
def a5t:Obj→Bool
 |.loop _=>true
 |.deferred _=>true
 |_=>false
theorem a1q {o:Obj}(h:a5t o=true):o.isCells=false:=by
 cases o <;> first|rfl|cases h
def c2h (P:Program)(l:Nat)(R:Ending→World→Prop):Exit→Act→World→Prop
 |.normal,_,w=>∃v w',(Instr.endRound l none).run P w= .ok v w'∧R (.returned v) w'
 |.panic ch,a,w=>a.defers=[]∧R (.panicked ch) w
 |_,_,_=>False
theorem b6m {F:Fence}{n:Nat}{P:Program}{l:Nat}{f:FuncId}{tmps:Array Value}{assign body:Code}{w:World}{R:Ending→World→Prop}(hF:F.fn f)(hf:∀ch w,R (.panicked ch) w→∃fn,P.funcs[f]? =some fn)
 (h:assign.wpIn (F.inRound l) n P (Exit.then (fun a₁ w₁=>∃w₂,(Instr.beginRound l).run P w₁= .ok () w₂∧body.wpIn (F.inRound l) n P (c2h P l R) a₁ w₂) (fun _ _ _=>False)) { tmps:=tmps,defers:=[] } w) :
 RoundIn F n P l f tmps assign body w R:=by
 refine⟨hF,fun c cs hr=> ?_⟩;let b:Frame:={ (default:Frame) with fn:=f,kind:= .normal,roundOf:=some l }
 have hb0:Frame.round l f tmps assign body .normal=b.atR { tmps:=tmps,defers:=[] } [.code assign,.beginRound,.code body]:=by simp[Frame.round,Frame.atR,b]
 have hr':(F.inRound l).room ((c::cs).length+1+n):=hr;have hF':(F.inRound l).fn b.fn:=hF;obtain⟨e,a₁,w₁,hq,harr⟩:=h b [.beginRound,.code body] (c::cs) rfl hF' hr';rw[←hb0] at harr
 cases e <;> try exact hq.elim
 obtain⟨w₂,hbr,hbody⟩:=hq;have s1:StepsIn (Machine.fenced P (F.inRound l)) P (lone (b.atR a₁ [.beginRound,.code body]) (c::cs) w₁) (lone (b.atR a₁ [.code body]) (c::cs) w₂) :=
  .one (fenced_calm (fr:=b.atR a₁ [.beginRound,.code body]) hF' hr' rfl) (stepR_beginRound rfl hbr)
 obtain⟨e₂,a₂,w₃,hq₂,harr₂⟩:=hbody b [] (c::cs) rfl hF' hr';have s2:=StepsIn.trans harr s1
 cases e₂ <;> try exact hq₂.elim
 case normal =>
  obtain⟨v,w₄,hend,hR⟩:=hq₂;exact⟨.returned v,w₄,hR,s2.trans (StepsIn.trans harr₂ (.one (fenced_calm (fr:=b.atR a₂ []) hF' hr' rfl) (stepR_round_end rfl rfl hend)))⟩
 case panic ch =>
  obtain⟨hd,hR⟩:=hq₂;obtain⟨todo,hs⟩:=harr₂;have hleave:Frame.leaving P { b.atR a₂ todo with mode:= .panicking ch } w₃ (.panicked ch):=⟨rfl,hd,hf ch w₃ hR⟩;have hl:(lone { b.atR a₂ todo with mode:= .panicking ch } (c::cs) w₃).fenced P (F.inRound l):=fenced_leaving hF' hr' hleave;exact⟨.panicked ch,w₃,hR,s2.trans (StepsIn.trans hs (.one hl (step_leave_panicked hleave)))⟩
structure KeepP (C:World→Nat→Prop)(n0:Nat)(A B:World):Prop where
 k:KeepC C A B
 b:Below n0 A B
def d2d {α:Type}(F:Fence)(n:Nat)(P:Program)(g:Nat)(lb:Array Value)(encs:α→Array Value)(C:World→Nat→Prop)(n0:Nat)(Kx:List α→α→World→Prop)(S:List α→Prop)(N:Nat)(w:World):Prop :=
 ∀(l:Nat) (J:List α→World→Prop) (Jp:List PanicEntry→World→Prop) (W:World),Below w.heap.size w W →
  (∀s A A' row,J s A→A.grownBy A' row→(∀r,row=some r→W.heap.size≤r∧¬C A r)→J s A')→(∀s A A' row k,J s A→A.grownBy A' row→(∀r,row=some r→¬C A r)→C A' k→C A k)→(∀k,C W k→k<W.heap.size) →
  (∀pre x W1,J pre W1→Kx pre x W1→pre.length<N→YieldAt F (n-1) P l (encs x) W1 fun e W'=>(e= .returned (.bool true)∧J (pre++[x]) W'∧KeepP C n0 W1 W')∨∃ch,e= .panicked ch∧Jp ch W')→J [] W →
  CallsIn F n P g (#[.func (.yield l) #[] #[]]++lb) W fun e W'=>((∃v,e= .returned v)∧∃xs,S xs∧J xs W')∨∃ch,e= .panicked ch∧Jp ch W'
end
section
open Go.RowKit Go.Shelf Go.Maps
attribute [local go_sem] Oper.semAt_some
theorem d0r {s:Sh}{x y i j:Int}{b:Bool}(h:ofS s x y=(i,j,b))(w:World)(f0:a0i s.ax)(f1:a0i s.ay) :
 Calls prog 62 #[shV s,.agg #[.int .i64 x,.int .i64 y]] w fun e w'=>e= .returned (.tuple #[.int .i64 i,.int .i64 j,.bool b])∧Below w.heap.size w w':=by
 have h1:=d0f s x y w f0 f1;rw[h] at h1;exact h1
theorem b4a {s:Sh}{x y i j:Int}(h:ofS s x y=(i,j,true)):a1w s=0∧onS s i j=true:=by
 unfold ofS at h;split at h
 ·rename_i h1
  simp only[Prod.mk.injEq,and_true] at h;obtain⟨h2,h3⟩:=h;rw[←h2,←h3];exact⟨h1.1,h1.2.2⟩
 ·simp at h
abbrev plC (id x y wt di:Int)(cls name:ByteArray):Array Value:= #[.int .i64 id,.int .i64 x,.int .i64 y,.string cls,.string name,.int .i64 wt,.int .i64 di]
theorem c0r (s:Sh)(id x y wt di num i j:Int)(cls name:ByteArray)(w:World)(f0:a0i s.ax)(f1:a0i s.ay)(hof:ofS s x y=(i,j,false)) :
 Calls prog 23 #[shV s,.agg (plC id x y wt di cls name),.int .i64 num] w fun e w'=>e= .returned (.tuple #[.slice none 0 0,.bool false])∧Below w.heap.size w w':=by
 obtain⟨ax,ay,st,sw,sh,sg⟩:=s;replace hof:=Lib.hid hof;go_enter func23,ntmps23;go_wp2_with (first
  |(go_at_call 62;refine (d0r hof.out _ f0 f1).mono ?_;rintro e w'⟨rfl,hb_⟩;obtain⟨p,rfl⟩:=a0c hb_;clear hb_)
  |fail)
 go_ret2;exact⟨rfl,(by repeat' (first|with_reducible (first|exact zR _ _|exact yR _|assumption|refine zG ?_ ?_ _|refine zA ?_ ?_ _|refine zS ?_ ?_ _|refine zD ?_|refine yA ?_|refine yG ?_|refine yS ?_|refine yD ?_)|omega|(dsimp only;omega)))⟩
theorem b6n (s:Sh)(id x y wt di num i j:Int)(cls name txt cells:ByteArray)(D:Nat→Nat→Bool)(m:Nat)(w:World)(f0:a0i s.ax)(f1:a0i s.ay)(hof:ofS s x y=(i,j,true))(hid:a0i id)
 (hn0:1≤num) (hn1:num≤999) (hcl:cls.size≤1048576) (hm:m<7) (hsum:(b5j cls.data.toList).tmod 7=m) (hce:cells.size≤16)
 (hitoa:∀W,Below w.heap.size w W→Calls prog 65 #[.int .i64 num] W fun e W'=>e= .returned (.string txt)∧Below W.heap.size W W')
 (hwr:∀W,Calls prog 64 #[.string txt] W fun e W'=>e= .returned (.tuple #[.string cells,.int .i64 0])∧Below W.heap.size W W')
 (hdots:∀k (h:k<cells.size) W,Calls prog 66 #[.int .u8 (cells[k]).toNat] W fun e W'=>e= .returned (.agg #[.bool (D k 0),.bool (D k 1),.bool (D k 2),.bool (D k 3),.bool (D k 4),.bool (D k 5)])∧Below W.heap.size W W') 
 (hne:a5i i j id (a8e m) D cells.size≠[]) :
 Calls prog 23 #[shV s,.agg (plC id x y wt di cls name),.int .i64 num] w fun e w'=>Below w.heap.size w w' ∧
  (((∀p∈(a5i i j id (a8e m) D cells.size).map (·.1),onS s p.1 p.2=true)∧∃v base,e= .returned (.tuple #[v,.bool true])∧w.heap.size≤base∧w'.ownsRow base 54 4 v (a1u 3 (a5i i j id (a8e m) D cells.size)).length ((a1u 3 (a5i i j id (a8e m) D cells.size)).flatMap a7l)) ∨
  ((∃p∈(a5i i j id (a8e m) D cells.size).map (·.1),onS s p.1 p.2=false)∧e= .returned (.tuple #[.slice none 0 0,.bool false]))):=by
 obtain⟨hck,hon⟩:=b4a hof;have hs:=a5h hck;obtain⟨ax,ay,st,sw,sh,sg⟩:=s;have hs':=hs;obtain⟨s0,s1,u0,u1,v0,v1,a0,a1,b0,b1⟩:=hs';simp only at s0 s1 u0 u1 v0 v1 a0 a1 b0 b1;have hij:(0≤i∧i≤80)∧(0≤j∧j≤80):=by
  simp only[onS,inR] at hon;simp only[Bool.and_eq_true,decide_eq_true_eq] at hon;omega
 obtain⟨⟨i0,i1⟩,j0,j1⟩:=hij;have hwin:inR 1 num 999=true:=by simp only[inR];simp;omega
 replace hwin:=Lib.hid hwin;replace hof:=Lib.hid hof;replace hsum:=Lib.hid hsum;clear hon hck;go_enter func23,ntmps23;go_wp2_with (first
  |(go_at_call 62;refine (d0r hof.out _ f0 f1).mono ?_;rintro e w'⟨rfl,hb_⟩;obtain⟨p,rfl⟩:=a0c hb_;clear hb_)
  |(go_at_call 59;refine (a2f hwin.out _).mono ?_;rintro e w'⟨rfl,rfl⟩)
  |fail)
 rw[run_bytes_of_string _ 9 116 5 cls underlying9 underlying116 underlying5];generalize grownCap _ _ _ _=cap;have kS:=((Blk.new w (shC ⟨ax,ay,st,sw,sh,sg⟩) 28).alloc (.cells (plC id x y wt di cls name) 66)).grow p;have kP:=(Blk.new (w.alloc (.cells (shC ⟨ax,ay,st,sw,sh,sg⟩) 28)) (plC id x y wt di cls name) 66).grow p;rw[World.size_alloc] at kP;have hB:Below w.heap.size w (((w.alloc (.cells (shC ⟨ax,ay,st,sw,sh,sg⟩) 28)).alloc (.cells (plC id x y wt di cls name) 66)).growBy p):=(by repeat' (first|with_reducible (first|exact zR _ _|exact yR _|assumption|refine zG ?_ ?_ _|refine zA ?_ ?_ _|refine zS ?_ ?_ _|refine zD ?_|refine yA ?_|refine yG ?_|refine yS ?_|refine yD ?_)|omega|(dsimp only;omega)));obtain⟨V,hV⟩:∃V,((w.alloc (.cells (shC ⟨ax,ay,st,sw,sh,sg⟩) 28)).alloc (.cells (plC id x y wt di cls name) 66)).growBy p=V:=⟨_,rfl⟩;rw[hV] at kS kP hB ⊢;clear hV p;have hBs:w.heap.size<V.heap.size:=kS.lt;have hBp:w.heap.size+1<V.heap.size:=kP.lt;obtain⟨Bs,hBse⟩:∃b,w.heap.size=b:=⟨_,rfl⟩;obtain⟨Bp,hBpe⟩:∃b,w.heap.size+1=b:=⟨_,rfl⟩;have kB:∀k,(V.drew.alloc (.cells (bytesRow cls cap) 5 ((bytesRow cls cap).size,(bytesRow cls cap).size+1))).cell? ⟨V.heap.size,k,none⟩=(bytesRow cls cap)[k]? :=fun k=>World.cell?_alloc_mark V.drew (bytesRow cls cap) 5 ((bytesRow cls cap).size,(bytesRow cls cap).size+1) k
 have kS1:=kS.drew.alloc (.cells (bytesRow cls cap) 5 ((bytesRow cls cap).size,(bytesRow cls cap).size+1));have kP1:=kP.drew.alloc (.cells (bytesRow cls cap) 5 ((bytesRow cls cap).size,(bytesRow cls cap).size+1));have hB1:Below w.heap.size w (V.drew.alloc (.cells (bytesRow cls cap) 5 ((bytesRow cls cap).size,(bytesRow cls cap).size+1))):=(hB.drew).alloc (Nat.le_of_lt hBs) _;obtain⟨W1,hW1⟩:∃W1,V.drew.alloc (.cells (bytesRow cls cap) 5 ((bytesRow cls cap).size,(bytesRow cls cap).size+1))=W1:=⟨_,rfl⟩;rw[hW1] at kB kS1 kP1 hB1;simp only[Result.andThen];rw[Oper.upon_value,hW1,hBpe,hBse];rw[hBse] at kS1;rw[hBpe] at kP1;have hsB:Bs<W1.heap.size:=kS1.lt;have hpB:Bp<W1.heap.size:=kP1.lt;generalize V.heap.size=Bb at *;have hBw:=Lib.hid hBse;have hBv:=Lib.hid hBpe;clear hBse hBpe hW1 kS kP hB;go_wp2_with fail;go_loop [11,42] (fun acc k=>∃n:Nat,n≤cls.size∧k= .int .i64 n∧acc= .int .i64 (b5j (cls.data.toList.take n))) (fun _ k=>cls.size-(intOf k).toNat)
 case atStart=>exact⟨0,Nat.zero_le _,rfl,rfl⟩
 case round =>
  obtain⟨n,hn,rfl,rfl⟩:=hrel;have hle:=c4n (cls.data.toList.take n);have hll:(cls.data.toList.take n).length≤n:=List.length_take_le _ _;by_cases hlt:n<cls.size
  ·have hcell:W1.cell? ⟨Bb,n,none⟩=some (.int .u8 (cls[n]).toNat):=by rw[kB n];exact b5w cls cap n hlt
   have hsn:=c4m (cls.data.toList.take n) cls[n];rw[←c1u cls n hlt] at hsn;have hb8:=(cls[n]).toNat_lt;obtain⟨c,hcc⟩:∃c,(cls[n]).toNat=c:=⟨_,rfl⟩;rw[hcc] at hcell hb8 hsn;obtain⟨acc,hacc⟩:∃a,b5j (cls.data.toList.take n)=a:=⟨_,rfl⟩;rw[hacc] at hle hsn ⊢;replace hsn:=Lib.hid hsn;clear kB hcc hacc;go_wp2_with fail;go_round
   case rel=>exact⟨n+1,by omega,by go_num,by rw[hsn.out]⟩
   case measure=>simp[intOf];omega
  ·have hT:b5j (cls.data.toList.take n)=b5j cls.data.toList:=by rw[List.take_of_length_le (by simp;omega)]
   rw[hT] at hle ⊢;have hT2:=hsum.out;obtain⟨T,hTe⟩:∃T,b5j cls.data.toList=T:=⟨_,rfl⟩;rw[hTe] at hle hT2 ⊢;clear kB hT hTe hsum;have hmm:= @run_makeMap prog;go_wp2_with (first|(go_at_call 63;refine (b8o _).mono ?_;rintro e w'⟨rfl,hb_⟩;obtain⟨p,rfl⟩:=a0c hb_;clear hb_)|(refine a2c (by rfl) 119 _ _ (by rfl) _ _ (.agg (d3h m)) (by rfl) (by rfl) (c7o m hm _) ?_)|fail);clear hmm;have kI:PI ⟨ax,ay,st,sw,sh,sg⟩ (plC id x y wt di cls name) w Bs Bp W1.heap.size 0 [] ((W1.alloc (.map #[] 0)).growBy p) :=
    ⟨⟨0,yR _,(MapIs.made W1).grow p⟩,(kS1.alloc _).grow p,(kP1.alloc _).grow p,a4u (hB1.alloc hB1.size _) (b3n hB1.size) p,hB1.size,Nat.ne_of_lt hsB,Nat.ne_of_lt hpB⟩
   obtain⟨W2,hW2⟩:∃W2,(W1.alloc (.map #[] 0)).growBy p=W2:=⟨_,rfl⟩;rw[hW2] at kI ⊢;obtain⟨mb,hmb⟩:∃mb,W1.heap.size=mb:=⟨_,rfl⟩;rw[hmb] at kI hsB hpB ⊢;clear hW2 hmb hB1 kP1 kS1 p;obtain⟨r,hr⟩:∃r,a8e m=r:=⟨_,rfl⟩;rw[hr] at hne;unfold d3h;rw[hr];replace hr:=Lib.hid hr;go_loopw [56] (fun k W=>∃n:Nat,n≤9∧k= .int .i64 n∧PI ⟨ax,ay,st,sw,sh,sg⟩ (plC id x y wt di cls name) w Bs Bp mb n (c4o i j id r n) W) (fun k _=>9-(intOf k).toNat)
   case atStart=>exact⟨0,by omega,rfl,kI⟩
   case round =>
    obtain⟨n,hn,rfl,hI⟩:=hrel;by_cases hn9:n<9
    ·have hbd:(0≤(n:Int).tmod 3∧(n:Int).tmod 3≤2)∧(0≤(n:Int).tdiv 3∧(n:Int).tdiv 3≤2):=by rw[Int.tmod_eq_emod_of_nonneg (by omega),Int.tdiv_eq_ediv_of_nonneg (by omega)];omega
     have hsE:c4o i j id r (n+1)=upE (r n) (c4o i j id r n) (b3r i j n) id:=rfl;unfold b3r at hsE;have hrun:=c7p r n hn9;obtain⟨u,hu⟩:∃u,r n=u:=⟨_,rfl⟩;obtain⟨ka,hka⟩:∃a,(n:Int).tmod 3=a:=⟨_,rfl⟩;obtain⟨kb,hkb⟩:∃a,(n:Int).tdiv 3=a:=⟨_,rfl⟩;obtain⟨en,hen⟩:∃en,c4o i j id r n=en:=⟨_,rfl⟩;rw[hu,hka,hkb,hen] at hsE;rw[hka,hkb] at hbd;rw[hu] at hrun;rw[hen] at hI;obtain⟨⟨A0,A1⟩,B0,B1⟩:=hbd;have c0:wr.cell? ⟨Bp,0,none⟩=some (.int .i64 id):=hI.place.cell 0;obtain⟨⟨k,hk,hM⟩,hI1,hI2,hI3,hI4,hI5,hI6⟩:=hI;have hIH:=Lib.hid (show PI ⟨ax,ay,st,sw,sh,sg⟩ (plC id x y wt di cls name) w Bs Bp mb n en wr from ⟨⟨k,hk,hM⟩,hI1,hI2,hI3,hI4,hI5,hI6⟩);clear hI1 hI2 hI3 hI4 hI5 hI6 hen hu;obtain⟨Dm,hown,hnd,hfit,hkeys⟩:=hM;have hkH:=Lib.hid hkeys;have hfp:a7g (i+ka-1,j+kb-1):=⟨by show _≤_∧_≤_;simp only;omega,by show _≤_∧_≤_;simp only;omega⟩;replace hsE:=Lib.hid hsE;replace hrun:=Lib.hid hrun;clear hkeys
     cases u with
     |false =>
      go_wp2_with (first|(refine a2c (by rfl) 118 _ _ (by rfl) _ _ (.bool false) (by rfl) (by rfl) (hrun.out _) ?_)|fail);go_roundw
      case rel=>exact⟨n+1,by omega,by go_num,by rw[hsE.out];exact hIH.out.up (by omega)⟩
      case measure=>simp[intOf];omega
     |true =>
      go_wp2_with (first|(refine a2c (by rfl) 118 _ _ (by rfl) _ _ (.bool true) (by rfl) (by rfl) (hrun.out _) ?_)|(at_mapUpdate;refine wpList_mapUpdate_own _ (by rfl) _ _ _ 117 (by rfl) 122 3 spotLaw underlying117 _ mb k Dm (by rfl) hown (by unfold maxLen;omega) _ _ (klS (i+ka-1,j+kb-1)) (by rfl) (by rfl) (a1n hfp) _ [] (plainElem_int underlying3 (a8x hid)) ?_;intro w9 hown9 hgrow9)|fail);go_roundw
      case rel=>exact⟨n+1,by omega,by go_num,by rw[hsE.out];exact hIH.out.put hk hown.isMap hnd hfit hkH.out hfp hown9 hgrow9⟩
      case measure=>simp[intOf];omega
    ·obtain rfl:n=9:=by omega
     go_wp2_with (first
      |(go_at_call 65;refine (hitoa _ hI.below).mono ?_;rintro e w'⟨rfl,hb_⟩;obtain⟨p,rfl⟩:=a0c hb_;clear hb_)
      |(go_at_call 64;refine (hwr _).mono ?_;rintro e w'⟨rfl,hb_⟩;obtain⟨p,rfl⟩:=a0c hb_;clear hb_)
      |fail)
     refine a0g (fun W3 hW3=> ?_);have hI3:PI ⟨ax,ay,st,sw,sh,sg⟩ (plC id x y wt di cls name) w Bs Bp mb 9 (c4o i j id r 9) W3:=by rw[hW3];exact hI.grow _
     clear hW3 hI kI;obtain⟨e9,he9⟩:∃e,c4o i j id r 9=e:=⟨_,rfl⟩;have hpe:a5i i j id r D cells.size=b0s i j id D e9 cells.size:=by unfold a5i;rw[he9]
     have h9:e9.length≤9:=by rw[←he9];exact b0t i j id r 9
     rw[hpe] at hne;rw[he9] at hI3;rw[←hr.out] at hpe;replace hpe:=Lib.hid hpe;clear he9;go_loopw [84] (fun k W=>∃n:Nat,n≤cells.size∧k= .int .i64 n∧PI ⟨ax,ay,st,sw,sh,sg⟩ (plC id x y wt di cls name) w Bs Bp mb (9+6*n) (b0s i j id D e9 n) W) (fun k _=>cells.size-(intOf k).toNat)
     case atStart=>exact⟨0,by omega,rfl,hI3⟩
     case round =>
      clear hI3 hn hn9;rename_i n _;obtain⟨n,hn,rfl,hI⟩:=hrel;by_cases hnc:n<cells.size
      ·have hIH:=Lib.hid hI
       clear hI;go_wp2_with (first
        |(go_at_call 66;refine (hdots n hnc _).mono ?_;rintro e w'⟨rfl,hb_⟩;obtain⟨p,rfl⟩:=a0c hb_;clear hb_)
        |fail)
       refine a0g (fun W4 hW4=> ?_);have hI4:PI ⟨ax,ay,st,sw,sh,sg⟩ (plC id x y wt di cls name) w Bs Bp mb (9+6*n) (b0s i j id D e9 n) W4:=by rw[hW4];exact hIH.out.grow _
       clear hW4 hIH;obtain⟨e0,he0⟩:∃e,b0s i j id D e9 n=e:=⟨_,rfl⟩;obtain⟨d,hd⟩:∃d,D n=d:=⟨_,rfl⟩;have hpn:b0s i j id D e9 (n+1)=c6r i j id n d e0 6:=by rw[←he0,←hd];rfl
       rw[hd];rw[he0] at hI4;replace hpn:=Lib.hid hpn;clear he0 hd;go_loopw [91] (fun q W=>∃t:Nat,t≤6∧q= .int .i64 t∧PI ⟨ax,ay,st,sw,sh,sg⟩ (plC id x y wt di cls name) w Bs Bp mb (9+6*n+t) (c6r i j id n d e0 t) W) (fun q _=>6-(intOf q).toNat)
       case atStart=>exact⟨0,by omega,rfl,hI4⟩
       case round =>
        clear hI4;obtain⟨t,ht,rfl,hI⟩:=hrel;by_cases ht6:t<6
        ·have hbd:(0≤(t:Int).tmod 3∧(t:Int).tmod 3≤2)∧(0≤(t:Int).tdiv 3∧(t:Int).tdiv 3≤2):=by rw[Int.tmod_eq_emod_of_nonneg (by omega),Int.tdiv_eq_ediv_of_nonneg (by omega)];omega
         have hsE:c6r i j id n d e0 (t+1)=upE (d t) (c6r i j id n d e0 t) (a9v i j n t) id:=rfl;unfold a9v at hsE;have hrun:=c7q d t ht6;obtain⟨u,hu⟩:∃u,d t=u:=⟨_,rfl⟩;obtain⟨ka,hka⟩:∃a,(t:Int).tmod 3=a:=⟨_,rfl⟩;obtain⟨kb,hkb⟩:∃a,(t:Int).tdiv 3=a:=⟨_,rfl⟩;obtain⟨en,hen⟩:∃en,c6r i j id n d e0 t=en:=⟨_,rfl⟩;rw[hu,hka,hkb,hen] at hsE;rw[hka,hkb] at hbd;rw[hu] at hrun;rw[hen] at hI;obtain⟨⟨A0,A1⟩,B0,B1⟩:=hbd;have c0:wr.cell? ⟨Bp,0,none⟩=some (.int .i64 id):=hI.place.cell 0;obtain⟨⟨k,hk,hM⟩,hI1,hI2,hI3,hI4,hI5,hI6⟩:=hI;have hIH:=Lib.hid (show PI ⟨ax,ay,st,sw,sh,sg⟩ (plC id x y wt di cls name) w Bs Bp mb (9+6*n+t) en wr from ⟨⟨k,hk,hM⟩,hI1,hI2,hI3,hI4,hI5,hI6⟩);clear hI1 hI2 hI3 hI4 hI5 hI6 hen hu;obtain⟨Dm,hown,hnd,hfit,hkeys⟩:=hM;have hkH:=Lib.hid hkeys;have hfp:a7g (i+3+3*n+kb,j+1-ka):=⟨by show _≤_∧_≤_;simp only;omega,by show _≤_∧_≤_;simp only;omega⟩;replace hsE:=Lib.hid hsE;replace hrun:=Lib.hid hrun;clear hkeys hdots hitoa hwr
         cases u with
         |false =>
          go_wp2_with (first|(refine a2c (by rfl) 126 _ _ (by rfl) _ _ (.bool false) (by rfl) (by rfl) (hrun.out _) ?_)|fail);go_roundw
          case rel=>exact⟨t+1,by omega,by go_num,by rw[hsE.out];exact hIH.out.up (by omega)⟩
          case measure=>simp[intOf];omega
         |true =>
          go_wp2_with (first|(refine a2c (by rfl) 126 _ _ (by rfl) _ _ (.bool true) (by rfl) (by rfl) (hrun.out _) ?_)|(at_mapUpdate;refine wpList_mapUpdate_own _ (by rfl) _ _ _ 117 (by rfl) 122 3 spotLaw underlying117 _ mb k Dm (by rfl) hown (by unfold maxLen;omega) _ _ (klS (i+3+3*n+kb,j+1-ka)) (by rfl) (by rfl) (a1n hfp) _ [] (plainElem_int underlying3 (a8x hid)) ?_;intro w9 hown9 hgrow9)|fail);go_roundw
          case rel=>exact⟨t+1,by omega,by go_num,by rw[hsE.out];exact hIH.out.put hk hown.isMap hnd hfit hkH.out hfp hown9 hgrow9⟩
          case measure=>simp[intOf];omega
        ·obtain rfl:t=6:=by omega
         rw[←hpn.out] at hI;go_wp2_with fail;go_roundw
         case rel=>exact⟨n+1,by omega,by go_num,hI.up (by omega)⟩
         case measure=>simp[intOf];omega
      ·obtain rfl:n=cells.size:=by omega
       have hle:=a8y i j id D e9 cells.size;obtain⟨en,hen⟩:∃en,b0s i j id D e9 cells.size=en:=⟨_,rfl⟩;rw[hen] at hle hI hne;have hpe2:=hpe.out;rw[hen] at hpe2;replace hpe2:=Lib.hid hpe2;obtain⟨W5,hW5⟩:∃W,wr=W:=⟨_,rfl⟩;rw[hW5] at hI ⊢;have hIH:=Lib.hid hI;obtain⟨⟨nn,hnn,Dm,hown,hnd,hfit,hkeys⟩,hI1,hI2,hI3,hI4,hI5,hI6⟩:=hI;have hI1l:=hI1.lt;have hI2l:=hI2.lt;have hMl:mb<W5.heap.size:=MapIs.lt ⟨Dm,hown,hnd,hfit,hkeys⟩;have hwl:=hI3.size;have hkH:=Lib.hid hkeys;clear hkeys hI1 hI2 hI3 hdots hitoa hwr hpe hen;go_wp2_with (first|(at_range;refine wpList_range_own _ rfl _ 117 rfl 122 3 spotLaw underlying117 _ mb nn _ rfl hown ?_;intro w0 hrg0 hg0 hs0)|fail);go_frame
       have hI0:=hIH.out.grown hg0;go_loopw [22] (fun _ wr=>∃(left:Lit→Bool) (cnt:Nat) (ss:List a0o),wr.ranges prog 122 (plainElem prog 3) mb W5.heap.size nn Dm left cnt∧CollS en left ss∧(∀p∈ss,onS ⟨ax,ay,st,sw,sh,sg⟩ p.1 p.2=true)∧PI ⟨ax,ay,st,sw,sh,sg⟩ (plC id x y wt di cls name) w Bs Bp mb (9+6*cells.size) en wr)
        (fun _ wr=>wr.rangeLeft mb W5.heap.size)
       case atStart=>exact⟨_,_,[],hrg0,CollS.start (fun p hp=>(hkH.out p hp).1),by simp,hI0⟩
       case round =>
        clear hI0 hrg0 hs0;rename_i wr0 _;obtain⟨left,cnt,ss,hrg,hC,hss,hI⟩:=hrel;have hlf:wr.rangeLeft mb W5.heap.size=cnt:=hrg.left_eq;go_wp2_with (first|(at_next;refine wpList_next_ranges _ rfl _ rfl 122 spotLaw (plainElem prog 3) a4e (fun v:Value=>v) (fun key kl hk=>by obtain⟨x,_,hx,_⟩:=a3l hk;exact⟨x,hx⟩) (fun v _ _=>⟨v,rfl⟩) mb W5.heap.size nn _ _ _ rfl hrg ?_ ?_)|fail)
        ·intro hc0 hl0
         have hall:=hC.all hl0 hfit;have hkeysOn:∀p∈en.map (·.1),onS ⟨ax,ay,st,sw,sh,sg⟩ p.1 p.2=true:=fun p hp=>hss p ((hall.2 p).2 hp)
         have hI3:=hI.below;obtain⟨kk,hkk,hMM⟩:=hI.map;have hord:=b0m 3 mb kk en wr hMM (by omega) hne (by omega);have hs3:=hI3.size;clear hrg hC hl0 hall hMM;go_wp2_with (first|(go_at_call 68;refine hord.mono ?_;rintro e w9⟨v,base,rfl,hbase,hrow,hb9⟩)|fail);go_ret2;rw[hpe2.out];exact⟨hI3.trans (hb9.mono hs3),.inl ⟨hkeysOn,v,base,rfl,Nat.le_trans hs3 hbase,hrow⟩⟩
        ·intro x0 x1 c kl yd yp w2 cnt2 hkey hlk hv hat hrg2 hlt2 hg2 hs2 hen2
         obtain⟨x',fx,ex,rfl⟩:=a3l hkey;obtain rfl:(x0,x1)=x':=by simp at ex;exact Prod.ext ex.1 ex.2
         have hhas:a9n en (x0,x1)=true:=by rw[←(hkH.out (x0,x1) fx).1];exact has_true_of_atKey hat
         have hI2:=hI.turn hg2 (by omega) (by omega) (by omega) (by omega);have c0:w2.cell? ⟨Bs,0,none⟩=some (.int .i64 ax):=hI2.sheet.cell 0;have c1:w2.cell? ⟨Bs,1,none⟩=some (.int .i64 ay):=hI2.sheet.cell 1;have c2:w2.cell? ⟨Bs,2,none⟩=some (.int .i64 st):=hI2.sheet.cell 2;have c3:w2.cell? ⟨Bs,3,none⟩=some (.int .i64 sw):=hI2.sheet.cell 3;have c4:w2.cell? ⟨Bs,4,none⟩=some (.int .i64 sh):=hI2.sheet.cell 4;have c5:w2.cell? ⟨Bs,5,none⟩=some (.int .i64 sg):=hI2.sheet.cell 5;obtain⟨b,hb⟩:∃b,onS ⟨ax,ay,st,sw,sh,sg⟩ x0 x1=b:=⟨_,rfl⟩;replace hb:=Lib.hid hb;have hC2:=Lib.hid (hC.step fx hlk hhas);have hI2':=Lib.hid hI2;have hrg2':=Lib.hid hrg2;clear hs2 hkey hC hI hI2 hrg hrg2 hfit hlk hv hat
         cases b with
         |false =>
          go_wp2_with (first|(go_at_call 67;refine (b0k ⟨ax,ay,st,sw,sh,sg⟩ x0 x1 _ _ hb.out hs).mono ?_;rintro e w'⟨rfl,hb_⟩;obtain⟨p,rfl⟩:=a0c hb_;clear hb_)|fail);go_ret2;rw[hpe2.out];exact⟨a4u (hI2'.out.below.alloc hI2'.out.below.size _) (b3n hI2'.out.below.size) _,.inr ⟨⟨(x0,x1),a2i.1 hhas,hb.out⟩,rfl⟩⟩
         |true =>
          go_wp2_with (first|(go_at_call 67;refine (b0k ⟨ax,ay,st,sw,sh,sg⟩ x0 x1 _ _ hb.out hs).mono ?_;rintro e w'⟨rfl,hb_⟩;obtain⟨p,rfl⟩:=a0c hb_;clear hb_)|fail);have hrg3:=(hrg2'.out.alloc (.cells #[.int .i64 x0,.int .i64 x1] 122)).kept (a0z _ p) (by simp) (by simp);go_roundw
          case rel=>exact⟨_,cnt2,ss++[(x0,x1)],hrg3,hC2.out,fun p hp=>by rcases List.mem_append.1 hp with h|h;exact hss p h;(obtain rfl:p=(x0,x1):=by simpa using h);exact hb.out,(hI2'.out.grown (World.grownBy_alloc w2 _ none)).grow _⟩
          case measure=>rw[hlf,hrg3.left_eq];exact hlt2
end
section
open Go.RowKit Go.Shelf
attribute [local go_sem] Oper.semAt_some
attribute [local go_sem ↓] Go.wp_at_zero Go.wp_at_succ
structure Small (p:a0o):Prop where
 x0:0≤p.1
 x1:p.1≤20
 y0:0≤p.2
 y1:p.2≤20
structure DW (n₀:Nat)(w:World)(sv:Value)(xs:List Int)(K:Nat)(W:World):Prop where
 bD:∃j,j≤K∧Blk W n₀ #[sv,.int .i64 (min j xs.length:Nat)] 137
 below:Below n₀ w W
 ints:Ints n₀ W sv xs
theorem DW.kept {n₀:Nat}{w W W':World}{sv:Value}{xs:List Int}{K:Nat}{row:Option Nat}(h:DW n₀ w sv xs K W)(hg:W.grownBy W' row)(hr:∀r,row=some r→n₀<r):DW n₀ w sv xs K W':=by
 obtain⟨⟨j,hj,hD⟩,hB,hI⟩:=h;have hlt:=hD.lt;have hb:Below n₀ W W':=Below.of_grown hg (by omega) (fun r e=>by have:=hr r e;omega);exact⟨⟨j,hj,hD.kept hg (fun e=>by have:=hr _ e;omega)⟩,hB.trans hb,hI.below hb⟩
theorem DW.lt {n₀:Nat}{w W:World}{sv:Value}{xs:List Int}{K:Nat}(h:DW n₀ w sv xs K W):n₀<W.heap.size:=by obtain⟨⟨j,hj,hD⟩,-⟩:=h;exact hD.lt
theorem DW.alloc {n₀:Nat}{w W:World}{sv:Value}{xs:List Int}{K:Nat}(h:DW n₀ w sv xs K W)(o:Obj):DW n₀ w sv xs K (W.alloc o):=h.kept (World.grownBy_alloc W o none) (by simp)
theorem DW.drew {n₀:Nat}{w W:World}{sv:Value}{xs:List Int}{K:Nat}(h:DW n₀ w sv xs K W):DW n₀ w sv xs K W.drew:=by
 obtain⟨⟨j,hj,hD⟩,hB,hI⟩:=h;exact⟨⟨j,hj,hD.drew⟩,hB.drew,hI⟩
theorem DW.call {n₀:Nat}{w W:World}{sv:Value}{xs:List Int}{K:Nat}(h:DW n₀ w sv xs K W)(hk:K≤1000)(m:Int)(hm1:1≤m)(hm2:m≤4611686018427387904) :
 Calls prog 73 #[.pointer (some ⟨n₀,0,none⟩),.int .i64 m] W fun e W'=>∃v,e= .returned (.int .i64 v)∧0≤v∧v<m∧DW n₀ w sv xs (K+1) W'∧W.grownBy W' (some n₀):=by
 obtain⟨⟨j,hj,hD⟩,hB,hI⟩:=h;refine (c0m n₀ n₀ j xs sv m _ W rfl hm1 hm2 (yR _) hI hD (by omega)).mono ?_;rintro e W'⟨p,rfl,rfl⟩;have hlt:=hD.lt;have hn:=c0l xs j hm1;have hg:=a3a W n₀ 1 (.int .i64 (min (j+1) xs.length:Nat)) p;have hb:Below n₀ W ((W.setCell ⟨n₀,1,none⟩ (.int .i64 (min (j+1) xs.length:Nat))).growBy p):=Below.of_grown hg (by omega) (fun r e=>by cases e;omega);refine⟨_,rfl,hn.1,hn.2,⟨⟨j+1,by omega,?_⟩,hB.trans hb,hI.below hb⟩,hg⟩;have:=(hD.set 1 (.int .i64 (min (j+1) xs.length:Nat))).grow p;simpa using this
end
section
open Go.RowKit Go.Shelf
def Wy.cellL (y:Wy):List Value:=[.int .i64 y.id,y.lv,.int .i64 y.lvl,.string y.cls,.string y.nm,.bool y.st,.int .i64 y.wt,.int .i64 y.di]
structure GoodW (y:Wy):Prop where
 id:a0i y.id
 len:y.line.length≤3
 small:∀p∈y.line,Small p
theorem a6c {W W':World}{base n₀:Nat}{e:TypeId}{size:Nat}{v:Value}{k:Nat}{xs:List Value}{row:Option Nat}(h:W.ownsRow base e size v k xs)(hg:W.grownBy W' row)(hb:n₀<base)(hr:∀r,row=some r→r=n₀):W'.ownsRow base e size v k xs:=by
 refine h.kept hg ?_;rcases h.2 with ⟨rfl,_⟩|⟨g,cap,cur,rfl,hbase,_⟩
 ·exact .inl rfl
 ·refine .inr fun e'=> ?_
  have:=hr g (by simpa [Value.ownBlock] using e'.symm);omega
structure MR (n₀:Nat)(w:World)(sv:Value)(xs:List Int)(K:Nat)(v:Value)(ys:List Wy)(W:World):Prop where
 dw:DW n₀ w sv xs K W
 row:W.ownsRow (n₀+1) 149 8 v ys.length (ys.flatMap Wy.cellL)
 lines:∀y∈ys,W.ownsRow (n₀+1) 26 2 y.lv y.line.length (y.line.flatMap b2b)
variable {n₀ K:Nat}{w W W':World}{sv v:Value}{xs:List Int}{ys:List Wy}
theorem MR.grown (h:MR n₀ w sv xs K v ys W)(hg:W.grownBy W' none):MR n₀ w sv xs K v ys W' :=
 ⟨h.dw.kept hg (by simp),a6c h.row hg (Nat.lt_succ_self _) (by simp),fun y hy=>a6c (h.lines y hy) hg (Nat.lt_succ_self _) (by simp)⟩
theorem MR.alloc (h:MR n₀ w sv xs K v ys W)(o:Obj):MR n₀ w sv xs K v ys (W.alloc o):=h.grown (World.grownBy_alloc W o none)
theorem b2w (W:World):W.grownBy W.drew none:=⟨rfl,rfl,rfl,yR _,fun _ _ _=>rfl⟩
theorem MR.drew (h:MR n₀ w sv xs K v ys W):MR n₀ w sv xs K v ys W.drew:=h.grown (b2w W)
theorem MR.more {K':Nat}(h:MR n₀ w sv xs K v ys W)(hK:K≤K'):MR n₀ w sv xs K' v ys W:=by
 obtain⟨⟨⟨j,hj,hD⟩,h2,h3⟩,h4,h5⟩:=h;exact⟨⟨⟨j,by omega,hD⟩,h2,h3⟩,h4,h5⟩
theorem MR.call (h:MR n₀ w sv xs K v ys W)(hk:K≤1000)(m:Int)(hm1:1≤m)(hm2:m≤4611686018427387904) :
 Calls prog 73 #[.pointer (some ⟨n₀,0,none⟩),.int .i64 m] W fun e W'=>∃x,e= .returned (.int .i64 x)∧0≤x∧x<m∧MR n₀ w sv xs (K+1) v ys W'∧W.grownBy W' (some n₀):=by
 refine (h.dw.call hk m hm1 hm2).mono ?_;rintro e W'⟨x,rfl,h0,h1,h2,hg⟩;exact⟨x,rfl,h0,h1,⟨h2,a6c h.row hg (Nat.lt_succ_self _) (fun r e=>by cases e;rfl),fun y hy=>a6c (h.lines y hy) hg (Nat.lt_succ_self _) (fun r e=>by cases e;rfl)⟩,hg⟩
theorem MR.lt (h:MR n₀ w sv xs K v ys W):n₀<W.heap.size:=h.dw.lt
abbrev d3s:Value:= .string ⟨#[112,97,116,104]⟩
abbrev wyC (id:Int)(lv:Value)(lvl wt:Int)(stb:Bool):Array Value:= #[.int .i64 id,lv,.int .i64 lvl,d3s,.string ⟨#[]⟩,.bool stb,.int .i64 wt,.int .i64 1]
theorem a6l (W:World)(b i:Nat)(v:Value):W.grownBy (W.setCell ⟨b,i,none⟩ v) (some b) :=
 ⟨rfl,rfl,rfl,by simp,fun k hk hne=>Below.heap_setCell _ _ _ _ (fun e=>hne (by rw[e]))⟩
theorem b1c {W:World}{b1 b2:Nat}{e1 e2:TypeId}{s1 s2 k1 k2:Nat}{v1 v2:Value}{x1 x2:List Value}(h1:W.ownsRow b1 e1 s1 v1 k1 x1)(h2:W.ownsRow b2 e2 s2 v2 k2 x2)(hne:e1≠e2):∀r,v2.ownBlock=some r→v1.ownBlock≠some r:=by
 intro r hr hr1;rcases h1.2 with ⟨rfl,_⟩|⟨g,cap,cur,rfl,_,hgb,_⟩
 ·cases hr1
 ·rcases h2.2 with ⟨rfl,_⟩|⟨g',cap',cur',rfl,_,hgb',_⟩
  ·cases hr
  ·cases hr
   cases hr1;rw[hgb] at hgb'
   cases hgb';exact hne rfl
theorem a3b {W W':World}{b1:Nat}{e1:TypeId}{s1 k1:Nat}{v1:Value}{x1:List Value}{row:Option Nat}(h1:W.ownsRow b1 e1 s1 v1 k1 x1)(hg:W.grownBy W' row)(hr:∀r,row=some r→v1.ownBlock≠some r):W'.ownsRow b1 e1 s1 v1 k1 x1:=by
 refine h1.kept hg ?_;rcases h1.2 with ⟨rfl,_⟩|⟨g,cap,cur,rfl,_⟩
 ·exact .inl rfl
 ·exact .inr fun e'=>hr g (by simpa [Value.ownBlock] using e'.symm) rfl
theorem b1d {W:World}{b1 B:Nat}{e1 t:TypeId}{s1 k1:Nat}{v1:Value}{x1:List Value}{c:Array Value}(h1:W.ownsRow b1 e1 s1 v1 k1 x1)(hB:Blk W B c t)(hne:e1≠t):v1.ownBlock≠some B :=
 a0r h1 hB (fun e=>hne e.symm)
structure MP (n₀:Nat)(w:World)(sv:Value)(xs:List Int)(K:Nat)(v:Value)(ys:List Wy)(B:Nat)(id:Int)(lv:Value)(lvl wt:Int)(stb:Bool)(ps:List a0o)(W:World):Prop where
 mr:MR n₀ w sv xs K v ys W
 box:Blk W B (wyC id lv lvl wt stb) 149
 far:n₀<B
 own:v.ownBlock≠some B
 line:W.ownsRow (n₀+1) 26 2 lv ps.length (ps.flatMap b2b)
 apart:∀y∈ys,∀r,lv.ownBlock=some r→y.lv.ownBlock≠some r
variable {B:Nat}{id lvl wt:Int}{lv:Value}{stb:Bool}{ps:List a0o}
theorem MP.grown (h:MP n₀ w sv xs K v ys B id lv lvl wt stb ps W)(hg:W.grownBy W' none):MP n₀ w sv xs K v ys B id lv lvl wt stb ps W' :=
 ⟨h.mr.grown hg,h.box.kept hg (by simp),h.far,h.own,a6c h.line hg (Nat.lt_succ_self _) (by simp),h.apart⟩
theorem MP.alloc (h:MP n₀ w sv xs K v ys B id lv lvl wt stb ps W)(o:Obj):MP n₀ w sv xs K v ys B id lv lvl wt stb ps (W.alloc o):=h.grown (World.grownBy_alloc W o none)
theorem MP.drew (h:MP n₀ w sv xs K v ys B id lv lvl wt stb ps W):MP n₀ w sv xs K v ys B id lv lvl wt stb ps W.drew:=h.grown (b2w W)
theorem MP.more {K':Nat}(h:MP n₀ w sv xs K v ys B id lv lvl wt stb ps W)(hK:K≤K'):MP n₀ w sv xs K' v ys B id lv lvl wt stb ps W:=⟨h.mr.more hK,h.box,h.far,h.own,h.line,h.apart⟩
theorem MP.call (h:MP n₀ w sv xs K v ys B id lv lvl wt stb ps W)(hk:K≤1000)(m:Int)(hm1:1≤m)(hm2:m≤4611686018427387904) :
 Calls prog 73 #[.pointer (some ⟨n₀,0,none⟩),.int .i64 m] W fun e W'=>∃x,e= .returned (.int .i64 x)∧0≤x∧x<m∧MP n₀ w sv xs (K+1) v ys B id lv lvl wt stb ps W'∧W.grownBy W' (some n₀):=by
 refine (h.mr.call hk m hm1 hm2).mono ?_;rintro e W'⟨x,rfl,h0,h1,h2,hg⟩;have hf:=h.far;exact⟨x,rfl,h0,h1,⟨h2,h.box.kept hg (fun e=>by cases e;omega),hf,h.own,a6c h.line hg (Nat.lt_succ_self _) (fun r e=>by cases e;rfl),h.apart⟩,hg⟩
theorem MR.set {c:Array Value}(h:MR n₀ w sv xs K v ys W)(hB:Blk W B c 149)(hf:n₀<B)(hne:v.ownBlock≠some B)(i:Nat)(x:Value):MR n₀ w sv xs K v ys (W.setCell ⟨B,i,none⟩ x):=by
 have hg:=a6l W B i x;exact⟨h.dw.kept hg (fun r e=>by cases e;exact hf),a3b h.row hg (fun r e=>by cases e;exact hne),fun y hy=>a3b (h.lines y hy) hg (fun r e=>by cases e;exact b1d (h.lines y hy) hB (by decide))⟩
theorem MP.set (h:MP n₀ w sv xs K v ys B id lv lvl wt stb ps W){id' lvl' wt':Int}{lv':Value}{stb':Bool}(i:Nat)(x:Value)(hc:(wyC id lv lvl wt stb).setIfInBounds i x=wyC id' lv' lvl' wt' stb')(hl:lv'=lv) :
 MP n₀ w sv xs K v ys B id' lv' lvl' wt' stb' ps (W.setCell ⟨B,i,none⟩ x):=by
 subst hl;have hg:=a6l W B i x;exact⟨h.mr.set h.box h.far h.own i x,by rw[←hc];exact h.box.set i x,h.far,h.own,a3b h.line hg (fun r e=>by cases e;exact b1d h.line h.box (by decide)),h.apart⟩
end
end Go.Proofs.YtfocdbjceedagaaGreatDoor
