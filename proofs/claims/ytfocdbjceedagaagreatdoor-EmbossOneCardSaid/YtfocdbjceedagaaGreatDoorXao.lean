/-
  Parts.
-/
import Derived.Test.YtfocdbjceedagaaGreatDoorXan
set_option linter.unusedVariables false
set_option linter.unusedSimpArgs false
set_option maxHeartbeats 4000000
set_option maxRecDepth 100000
namespace Go.Proofs.YtfocdbjceedagaaGreatDoor
open Tryz
section
open Go Go.RowKit Go.Shelf Go.Lib
attribute [local go_sem] Oper.semAt_some
attribute [local go_sem ↓] Go.wp_at_zero Go.wp_at_succ
theorem c8e {n:ByteArray}(h:n≠⟨#[]⟩):n.toList.isEmpty=false:=by
 cases hc:n.toList.isEmpty with
 |false=>rfl
 |true =>
  rw[List.isEmpty_iff,ByteArray.toList_eq] at hc;refine absurd ?_ h
  cases n;simp only at hc;rw[Array.toList_eq_nil_iff] at hc;rw[hc]
def d0g (p:Pc):Option Ke:=if p.nm=⟨#[]⟩ then none else if (a7s p.nm).2=0 then some ⟨p.id,p.id,(a7s p.nm).1⟩ else none
def a5s (p:Pc):List Ke:=(d0g p).toList
abbrev keV (k:Ke):Value:= .agg #[.int .i64 k.n,.int .i64 k.p,.string k.c]
def d4c (o:Option Ke)(w:World)(e:Ending)(w':World):Prop:=∃k,e= .returned (.tuple #[keV k,.bool o.isSome])∧(∀x,o=some x→k=x)∧Below w.heap.size w w'
theorem c4x (p:Pc)(hp:p.nm.size≤1000)(w:World) :
 Calls prog 37 #[plV p] w (d4c (d0g p) w):=by
 have hW:=c4w p.nm hp;unfold d0g;obtain⟨id,x,y,cl,nm,wt,ds⟩:=p;simp only at hW ⊢;by_cases hn:nm=⟨#[]⟩
 ·subst hn
  rw[if_pos rfl];go_enter func37,ntmps37;go_wp2_with fail;have k2:Blk ((w.alloc (.cells #[.int .i64 id,.int .i64 x,.int .i64 y,.string cl,.string ⟨#[]⟩,.int .i64 wt,.int .i64 ds] 66)).alloc (.cells #[.int .i64 0,.int .i64 0,.string ⟨#[]⟩] 82)) (w.heap.size+1) #[.int .i64 0,.int .i64 0,.string ⟨#[]⟩] 82:=by have:=Blk.new (w.alloc (.cells #[.int .i64 id,.int .i64 x,.int .i64 y,.string cl,.string ⟨#[]⟩,.int .i64 wt,.int .i64 ds] 66)) #[.int .i64 0,.int .i64 0,.string ⟨#[]⟩] 82;rwa [World.size_alloc] at this
  exact bodyPost_ret (a1o (by rfl) _ _ _ 82 _ (0,0) _ (by rfl) k2 underlying82 (by rfl) (by kernel_rfl)) rfl ⟨⟨0,0,⟨#[]⟩⟩,rfl,(fun x h=>nomatch h),zC⟩
 ·rw[if_neg hn]
  have hne:=c8e hn;obtain⟨c,hc⟩:∃c,(a7s nm).1=c:=⟨_,rfl⟩;obtain⟨er,her⟩:∃c,(a7s nm).2=c:=⟨_,rfl⟩;rw[hc,her] at hW ⊢;clear hc her hn;by_cases h0:er=0
  ·subst h0
   rw[if_pos rfl];go_enter func37,ntmps37;go_wp2_with (go_at_call 64;refine (hW _).mono ?_;rintro e w'⟨rfl,hb_⟩;obtain⟨p,rfl⟩:=a0e hb_;clear hb_);have k2:Blk (((w.alloc (.cells #[.int .i64 id,.int .i64 x,.int .i64 y,.string cl,.string nm,.int .i64 wt,.int .i64 ds] 66)).alloc (.cells #[.int .i64 id,.int .i64 id,.string c] 82)).growBy p) (w.heap.size+1) #[.int .i64 id,.int .i64 id,.string c] 82:=by have:=(Blk.new (w.alloc (.cells #[.int .i64 id,.int .i64 x,.int .i64 y,.string cl,.string nm,.int .i64 wt,.int .i64 ds] 66)) #[.int .i64 id,.int .i64 id,.string c] 82).grow p;rwa [World.size_alloc] at this
   exact bodyPost_ret (a1o (by rfl) _ _ _ 82 _ (0,0) _ (by rfl) k2 underlying82 (by rfl) (by kernel_rfl)) rfl ⟨⟨id,id,c⟩,rfl,(fun x h=>by cases h;rfl),zC⟩
  ·rw[if_neg h0]
   have h0b:(er==0)=false:=by simpa using h0
   go_enter func37,ntmps37;go_wp2_with (go_at_call 64;refine (hW _).mono ?_;rintro e w'⟨rfl,hb_⟩;obtain⟨p,rfl⟩:=a0e hb_;clear hb_);have k2:Blk (((w.alloc (.cells #[.int .i64 id,.int .i64 x,.int .i64 y,.string cl,.string nm,.int .i64 wt,.int .i64 ds] 66)).alloc (.cells #[.int .i64 id,.int .i64 id,.string c] 82)).growBy p) (w.heap.size+1) #[.int .i64 id,.int .i64 id,.string c] 82:=by have:=(Blk.new (w.alloc (.cells #[.int .i64 id,.int .i64 x,.int .i64 y,.string cl,.string nm,.int .i64 wt,.int .i64 ds] 66)) #[.int .i64 id,.int .i64 id,.string c] 82).grow p;rwa [World.size_alloc] at this
   exact bodyPost_ret (a1o (by rfl) _ _ _ 82 _ (0,0) _ (by rfl) k2 underlying82 (by rfl) (by kernel_rfl)) rfl ⟨⟨id,id,c⟩,rfl,(fun x h=>nomatch h),zC⟩
def a9d (s:Sh)(n:Nat):Int:=if a1x s=0 then if 80<n then 2 else 0 else a1x s
theorem a5t (s:Sh)(ev fv wv:Value)(pa:Option Addr)(n pc:Nat)(w:World)(f0:a0k s.ax)(f1:a0k s.ay) :
 Calls prog 33 #[.agg #[ev,fv,wv,.slice pa n pc],shV s] w fun e w'=>e= .returned (.int .i64 (a9d s n))∧Below w.heap.size w w':=by
 unfold a9d;obtain⟨r,hr⟩:∃r,a1x s=r:=⟨_,rfl⟩;have hC:=fun w=>a7j hr w f0 f1
 rw[hr];clear hr f0 f1;obtain⟨ax,ay,st,sw,sh,sg⟩:=s;by_cases h0:r=0
 ·subst h0
  rw[if_pos rfl];by_cases hn:80<n
  ·rw[if_pos hn]
   have hnI:(80:Int)<(n:Int):=by omega
   go_enter func33,ntmps33;go_wp2_with (go_at_call 22;refine (hC _).mono ?_;rintro e w'⟨rfl,hb_⟩;obtain⟨p,rfl⟩:=a0e hb_;clear hb_);go_ret;exact⟨rfl,zC⟩
  ·rw[if_neg hn]
   have hnI:¬(80:Int)<(n:Int):=by omega
   go_enter func33,ntmps33;go_wp2_with (go_at_call 22;refine (hC _).mono ?_;rintro e w'⟨rfl,hb_⟩;obtain⟨p,rfl⟩:=a0e hb_;clear hb_);go_ret;exact⟨rfl,zC⟩
 ·rw[if_neg h0]
  go_enter func33,ntmps33;go_wp2_with (go_at_call 22;refine (hC _).mono ?_;rintro e w'⟨rfl,hb_⟩;obtain⟨p,rfl⟩:=a0e hb_;clear hb_);go_ret;exact⟨rfl,zC⟩
theorem a8h {W:World}{base base':Nat}{e:TypeId}{s:Nat}{v:Value}{n:Nat}{xs:List Value}(h:W.ownsRow base e s v n xs)(hb:base'≤base):W.ownsRow base' e s v n xs:=by
 obtain⟨h1,h2|⟨g,cap,cur,h2,h3,h4⟩⟩:=h
 ·exact⟨h1,.inl h2⟩
 ·exact⟨h1,.inr ⟨g,cap,cur,h2,Nat.le_trans hb h3,h4⟩⟩
theorem c4y {w W W1 W2:World}{u:Value}{l:List Pc}(hb1:Below w.heap.size w W)(hr:W1.ownsRow W.heap.size 66 7 u l.length (l.flatMap plE.enc))(hb2:Below W.heap.size W W1)(hr2:W2.ownsRow W.heap.size 66 7 u l.length ((a1d l).flatMap plE.enc))(hg:W1.grownBy W2 u.ownBlock) :
 w.heap.size≤W.heap.size∧W2.ownsRow w.heap.size 66 7 u l.length ((a1d l).flatMap plE.enc)∧Below w.heap.size w W2:=by
 have h1:=hb1.trans (hb2.mono hb1.size);exact⟨hb1.size,a8h hr2 hb1.size,h1.trans (a1i hg h1.size (fun k e=>Nat.le_trans hb1.size (hr.lt k e).1))⟩
theorem a6v (ev fv wv pv:Value)(l:List Pc)(w:World)(h:Lst plE w.heap.size w pv l)(hf:Frm pv l.length)(hl:l.length≤100) :
 Calls prog 44 #[.agg #[ev,fv,wv,pv]] w fun e w'=>∃v,e= .returned v∧w'.ownsRow w.heap.size 66 7 v l.length ((a1d l).flatMap plE.enc)∧Below w.heap.size w w':=by
 have hb1:Below w.heap.size w (w.alloc (.cells #[ev,fv,wv,pv] 37)):=(zR _ _).alloc (yR _) _;have hC:=b8b pv l _ (h.up hb1) hf (by omega);obtain⟨pa,pc,rfl,-⟩:=h.form;have hS:=fun v W1 hr=>b8l (w.alloc (.cells #[ev,fv,wv,.slice pa l.length pc] 37)).heap.size v l W1 (by omega) hr
 go_enter func44,ntmps44;go_upto_region 2 with (first
  |(go_at_call 101;refine hC.mono ?_;rintro e w1⟨u,rfl,hr1,hb2⟩)
  |fail)
 have hS2:=hS u w1 hr1;clear hS hC h;go_wp2_with (first
  |(go_at_call 102;refine hS2.mono ?_;rintro e w2⟨rfl,hr2,hg2⟩)
  |fail)
 go_ret;exact⟨u,rfl,(c4y hb1 hr1 hb2 hr2 hg2).2⟩
end
section
open Go Go.RowKit
def a5u:Obj→Bool
 |.loop _=>true
 |.deferred _=>true
 |_=>false
theorem a1s {o:Obj}(h:a5u o=true):o.isCells=false:=by
 cases o <;> first|rfl|cases h
def c1v (P:Program)(l:Nat)(R:Ending→World→Prop):Exit→Act→World→Prop
 |.normal,_,w=>∃v w',(Instr.endRound l none).run P w= .ok v w'∧R (.returned v) w'
 |.panic ch,a,w=>a.defers=[]∧R (.panicked ch) w
 |_,_,_=>False
theorem b6n {F:Fence}{n:Nat}{P:Program}{l:Nat}{f:FuncId}{tmps:Array Value}{assign body:Code}{w:World}{R:Ending→World→Prop}(hF:F.fn f)(hf:∀ch w,R (.panicked ch) w→∃fn,P.funcs[f]? =some fn)
 (h:assign.wpIn (F.inRound l) n P (Exit.then (fun a₁ w₁=>∃w₂,(Instr.beginRound l).run P w₁= .ok () w₂∧body.wpIn (F.inRound l) n P (c1v P l R) a₁ w₂) (fun _ _ _=>False)) { tmps:=tmps,defers:=[] } w) :
 RoundIn F n P l f tmps assign body w R:=by
 refine⟨hF,fun c cs hr=> ?_⟩;let b:Frame:={ (default:Frame) with fn:=f,kind:= .normal,roundOf:=some l }
 have hb0:Frame.round l f tmps assign body .normal=b.atR { tmps:=tmps,defers:=[] } [.code assign,.beginRound,.code body]:=by simp[Frame.round,Frame.atR,b]
 have hr':(F.inRound l).room ((c::cs).length+1+n):=hr;have hF':(F.inRound l).fn b.fn:=hF;obtain⟨e,a₁,w₁,hq,harr⟩:=h b [.beginRound,.code body] (c::cs) rfl hF' hr';rw[←hb0] at harr
 cases e <;> try exact hq.elim
 obtain⟨w₂,hbr,hbody⟩:=hq;have s1:StepsIn (Machine.fenced P (F.inRound l)) P (lone (b.atR a₁ [.beginRound,.code body]) (c::cs) w₁) (lone (b.atR a₁ [.code body]) (c::cs) w₂) :=
  .one (fenced_calm (fr:=b.atR a₁ [.beginRound,.code body]) hF' hr' rfl) (stepR_beginRound rfl hbr)
 obtain⟨e₂,a₂,w₃,hq₂,harr₂⟩:=hbody b [] (c::cs) rfl hF' hr';have s2:=StepsIn.trans harr s1
 cases e₂ <;> try exact hq₂.elim
 case normal =>
  obtain⟨v,w₄,hend,hR⟩:=hq₂;exact⟨.returned v,w₄,hR,s2.trans (StepsIn.trans harr₂ (.one (fenced_calm (fr:=b.atR a₂ []) hF' hr' rfl) (stepR_round_end rfl rfl hend)))⟩
 case panic ch =>
  obtain⟨hd,hR⟩:=hq₂;obtain⟨todo,hs⟩:=harr₂;have hleave:Frame.leaving P { b.atR a₂ todo with mode:= .panicking ch } w₃ (.panicked ch):=⟨rfl,hd,hf ch w₃ hR⟩;have hl:(lone { b.atR a₂ todo with mode:= .panicking ch } (c::cs) w₃).fenced P (F.inRound l):=fenced_leaving hF' hr' hleave;exact⟨.panicked ch,w₃,hR,s2.trans (StepsIn.trans hs (.one hl (step_leave_panicked hleave)))⟩
structure KeepP (C:World→Nat→Prop)(n0:Nat)(A B:World):Prop where
 k:KeepC C A B
 b:Below n0 A B
def d2n {α:Type}(F:Fence)(n:Nat)(P:Program)(g:Nat)(lb:Array Value)(encs:α→Array Value)(C:World→Nat→Prop)(n0:Nat)(Kx:List α→α→World→Prop)(S:List α→Prop)(N:Nat)(w:World):Prop :=
 ∀(l:Nat) (J:List α→World→Prop) (Jp:List PanicEntry→World→Prop) (W:World),Below w.heap.size w W →
  (∀s A A' row,J s A→A.grownBy A' row→(∀r,row=some r→W.heap.size≤r∧¬C A r)→J s A')→(∀s A A' row k,J s A→A.grownBy A' row→(∀r,row=some r→¬C A r)→C A' k→C A k)→(∀k,C W k→k<W.heap.size) →
  (∀pre x W1,J pre W1→Kx pre x W1→pre.length<N→YieldAt F (n-1) P l (encs x) W1 fun e W'=>(e= .returned (.bool true)∧J (pre++[x]) W'∧KeepP C n0 W1 W')∨∃ch,e= .panicked ch∧Jp ch W')→J [] W →
  CallsIn F n P g (#[.func (.yield l) #[] #[]]++lb) W fun e W'=>((∃v,e= .returned v)∧∃xs,S xs∧J xs W')∨∃ch,e= .panicked ch∧Jp ch W'
end
section
open Go.RowKit Go.Shelf Go.Maps
attribute [local go_sem] Oper.semAt_some
theorem d1b {s:Sh}{x y i j:Int}{b:Bool}(h:ofS s x y=(i,j,b))(w:World)(f0:a0k s.ax)(f1:a0k s.ay) :
 Calls prog 62 #[shV s,.agg #[.int .i64 x,.int .i64 y]] w fun e w'=>e= .returned (.tuple #[.int .i64 i,.int .i64 j,.bool b])∧Below w.heap.size w w':=by
 have h1:=d0q s x y w f0 f1;rw[h] at h1;exact h1
theorem c0k {s:Sh}{x y i j:Int}(h:ofS s x y=(i,j,true)):a1x s=0∧onS s i j=true:=by
 unfold ofS at h;split at h
 ·rename_i h1
  simp only[Prod.mk.injEq,and_true] at h;obtain⟨h2,h3⟩:=h;rw[←h2,←h3];exact⟨h1.1,h1.2.2⟩
 ·simp at h
abbrev plC (id x y wt di:Int)(cls name:ByteArray):Array Value:= #[.int .i64 id,.int .i64 x,.int .i64 y,.string cls,.string name,.int .i64 wt,.int .i64 di]
theorem c8f (s:Sh)(id x y wt di num i j:Int)(cls name:ByteArray)(w:World)(f0:a0k s.ax)(f1:a0k s.ay)(hof:ofS s x y=(i,j,false)) :
 Calls prog 23 #[shV s,.agg (plC id x y wt di cls name),.int .i64 num] w fun e w'=>e= .returned (.tuple #[.slice none 0 0,.bool false])∧Below w.heap.size w w':=by
 obtain⟨ax,ay,st,sw,sh,sg⟩:=s;replace hof:=Lib.hid hof;go_enter func23,ntmps23;go_wp2_with (first
  |(go_at_call 62;refine (d1b hof.out _ f0 f1).mono ?_;rintro e w'⟨rfl,hb_⟩;obtain⟨p,rfl⟩:=a0e hb_;clear hb_)
  |fail)
 go_ret2;exact⟨rfl,zC⟩
theorem c4z (s:Sh)(id x y wt di num i j:Int)(cls name txt cells:ByteArray)(D:Nat→Nat→Bool)(m:Nat)(w:World)(f0:a0k s.ax)(f1:a0k s.ay)(hof:ofS s x y=(i,j,true))(hid:a0k id)
 (hn0:1≤num) (hn1:num≤999) (hcl:cls.size≤1048576) (hm:m<7) (hsum:(b5o cls.data.toList).tmod 7=m) (hce:cells.size≤16)
 (hitoa:∀W,Below w.heap.size w W→Calls prog 65 #[.int .i64 num] W fun e W'=>e= .returned (.string txt)∧Below W.heap.size W W')
 (hwr:∀W,Calls prog 64 #[.string txt] W fun e W'=>e= .returned (.tuple #[.string cells,.int .i64 0])∧Below W.heap.size W W')
 (hdots:∀k (h:k<cells.size) W,Calls prog 66 #[.int .u8 (cells[k]).toNat] W fun e W'=>e= .returned (.agg #[.bool (D k 0),.bool (D k 1),.bool (D k 2),.bool (D k 3),.bool (D k 4),.bool (D k 5)])∧Below W.heap.size W W') 
 (hne:a5r i j id (b0v m) D cells.size≠[]) :
 Calls prog 23 #[shV s,.agg (plC id x y wt di cls name),.int .i64 num] w fun e w'=>Below w.heap.size w w' ∧
  (((∀p∈(a5r i j id (b0v m) D cells.size).map (·.1),onS s p.1 p.2=true)∧∃v base,e= .returned (.tuple #[v,.bool true])∧w.heap.size≤base∧w'.ownsRow base 54 4 v (a2d 3 (a5r i j id (b0v m) D cells.size)).length ((a2d 3 (a5r i j id (b0v m) D cells.size)).flatMap b5y)) ∨
  ((∃p∈(a5r i j id (b0v m) D cells.size).map (·.1),onS s p.1 p.2=false)∧e= .returned (.tuple #[.slice none 0 0,.bool false]))):=by
 obtain⟨hck,hon⟩:=c0k hof;have hs:=a6o hck;obtain⟨ax,ay,st,sw,sh,sg⟩:=s;have hs':=hs;obtain⟨s0,s1,u0,u1,v0,v1,a0,a1,b0,b1⟩:=hs';simp only at s0 s1 u0 u1 v0 v1 a0 a1 b0 b1;have hij:(0≤i∧i≤80)∧(0≤j∧j≤80):=by
  simp only[onS,inR] at hon;simp only[Bool.and_eq_true,decide_eq_true_eq] at hon;omega
 obtain⟨⟨i0,i1⟩,j0,j1⟩:=hij;have hwin:inR 1 num 999=true:=by simp only[inR];simp;omega
 replace hwin:=Lib.hid hwin;replace hof:=Lib.hid hof;replace hsum:=Lib.hid hsum;clear hon hck;go_enter func23,ntmps23;go_wp2_with (first
  |(go_at_call 62;refine (d1b hof.out _ f0 f1).mono ?_;rintro e w'⟨rfl,hb_⟩;obtain⟨p,rfl⟩:=a0e hb_;clear hb_)
  |(go_at_call 59;refine (a2i hwin.out _).mono ?_;rintro e w'⟨rfl,rfl⟩)
  |fail)
 rw[run_bytes_of_string _ 9 116 5 cls underlying9 underlying116 underlying5];generalize grownCap _ _ _ _=cap;have kS:=((Blk.new w (shC ⟨ax,ay,st,sw,sh,sg⟩) 28).alloc (.cells (plC id x y wt di cls name) 66)).grow p;have kP:=(Blk.new (w.alloc (.cells (shC ⟨ax,ay,st,sw,sh,sg⟩) 28)) (plC id x y wt di cls name) 66).grow p;rw[World.size_alloc] at kP;have hB:Below w.heap.size w (((w.alloc (.cells (shC ⟨ax,ay,st,sw,sh,sg⟩) 28)).alloc (.cells (plC id x y wt di cls name) 66)).growBy p):=zC;obtain⟨V,hV⟩:∃V,((w.alloc (.cells (shC ⟨ax,ay,st,sw,sh,sg⟩) 28)).alloc (.cells (plC id x y wt di cls name) 66)).growBy p=V:=⟨_,rfl⟩;rw[hV] at kS kP hB ⊢;clear hV p;have hBs:w.heap.size<V.heap.size:=kS.lt;have hBp:w.heap.size+1<V.heap.size:=kP.lt;obtain⟨Bs,hBse⟩:∃b,w.heap.size=b:=⟨_,rfl⟩;obtain⟨Bp,hBpe⟩:∃b,w.heap.size+1=b:=⟨_,rfl⟩;have kB:∀k,(V.drew.alloc (.cells (bytesRow cls cap) 5 ((bytesRow cls cap).size,(bytesRow cls cap).size+1))).cell? ⟨V.heap.size,k,none⟩=(bytesRow cls cap)[k]? :=fun k=>World.cell?_alloc_mark V.drew (bytesRow cls cap) 5 ((bytesRow cls cap).size,(bytesRow cls cap).size+1) k
 have kS1:=kS.drew.alloc (.cells (bytesRow cls cap) 5 ((bytesRow cls cap).size,(bytesRow cls cap).size+1));have kP1:=kP.drew.alloc (.cells (bytesRow cls cap) 5 ((bytesRow cls cap).size,(bytesRow cls cap).size+1));have hB1:Below w.heap.size w (V.drew.alloc (.cells (bytesRow cls cap) 5 ((bytesRow cls cap).size,(bytesRow cls cap).size+1))):=(hB.drew).alloc (Nat.le_of_lt hBs) _;obtain⟨W1,hW1⟩:∃W1,V.drew.alloc (.cells (bytesRow cls cap) 5 ((bytesRow cls cap).size,(bytesRow cls cap).size+1))=W1:=⟨_,rfl⟩;rw[hW1] at kB kS1 kP1 hB1;simp only[Result.andThen];rw[Oper.upon_value,hW1,hBpe,hBse];rw[hBse] at kS1;rw[hBpe] at kP1;have hsB:Bs<W1.heap.size:=kS1.lt;have hpB:Bp<W1.heap.size:=kP1.lt;generalize V.heap.size=Bb at *;have hBw:=Lib.hid hBse;have hBv:=Lib.hid hBpe;clear hBse hBpe hW1 kS kP hB;go_wp2_with fail;go_loop [11,42] (fun acc k=>∃n:Nat,n≤cls.size∧k= .int .i64 n∧acc= .int .i64 (b5o (cls.data.toList.take n))) (fun _ k=>cls.size-(intOf k).toNat)
 case atStart=>exact⟨0,Nat.zero_le _,rfl,rfl⟩
 case round =>
  obtain⟨n,hn,rfl,rfl⟩:=hrel;have hle:=c4p (cls.data.toList.take n);have hll:(cls.data.toList.take n).length≤n:=List.length_take_le _ _;by_cases hlt:n<cls.size
  ·have hcell:W1.cell? ⟨Bb,n,none⟩=some (.int .u8 (cls[n]).toNat):=by rw[kB n];exact b6f cls cap n hlt
   have hsn:=c4o (cls.data.toList.take n) cls[n];rw[←c1m cls n hlt] at hsn;have hb8:=(cls[n]).toNat_lt;obtain⟨c,hcc⟩:∃c,(cls[n]).toNat=c:=⟨_,rfl⟩;rw[hcc] at hcell hb8 hsn;obtain⟨acc,hacc⟩:∃a,b5o (cls.data.toList.take n)=a:=⟨_,rfl⟩;rw[hacc] at hle hsn ⊢;replace hsn:=Lib.hid hsn;clear kB hcc hacc;go_wp2_with fail;go_round
   case rel=>exact⟨n+1,by omega,by go_num,by rw[hsn.out]⟩
   case measure=>simp[intOf];omega
  ·have hT:b5o (cls.data.toList.take n)=b5o cls.data.toList:=by rw[List.take_of_length_le (by simp;omega)]
   rw[hT] at hle ⊢;have hT2:=hsum.out;obtain⟨T,hTe⟩:∃T,b5o cls.data.toList=T:=⟨_,rfl⟩;rw[hTe] at hle hT2 ⊢;clear kB hT hTe hsum;have hmm:= @run_makeMap prog;go_wp2_with (first|(go_at_call 63;refine (b8o _).mono ?_;rintro e w'⟨rfl,hb_⟩;obtain⟨p,rfl⟩:=a0e hb_;clear hb_)|(refine a2a (by rfl) 119 _ _ (by rfl) _ _ (.agg (d3s m)) (by rfl) (by rfl) (c7v m hm _) ?_)|fail);clear hmm;have kI:PI ⟨ax,ay,st,sw,sh,sg⟩ (plC id x y wt di cls name) w Bs Bp W1.heap.size 0 [] ((W1.alloc (.map #[] 0)).growBy p) :=
    ⟨⟨0,yR _,(MapIs.made W1).grow p⟩,(kS1.alloc _).grow p,(kP1.alloc _).grow p,a4v (hB1.alloc hB1.size _) (b3n hB1.size) p,hB1.size,Nat.ne_of_lt hsB,Nat.ne_of_lt hpB⟩
   obtain⟨W2,hW2⟩:∃W2,(W1.alloc (.map #[] 0)).growBy p=W2:=⟨_,rfl⟩;rw[hW2] at kI ⊢;obtain⟨mb,hmb⟩:∃mb,W1.heap.size=mb:=⟨_,rfl⟩;rw[hmb] at kI hsB hpB ⊢;clear hW2 hmb hB1 kP1 kS1 p;obtain⟨r,hr⟩:∃r,b0v m=r:=⟨_,rfl⟩;rw[hr] at hne;unfold d3s;rw[hr];replace hr:=Lib.hid hr;go_loopw [56] (fun k W=>∃n:Nat,n≤9∧k= .int .i64 n∧PI ⟨ax,ay,st,sw,sh,sg⟩ (plC id x y wt di cls name) w Bs Bp mb n (c4q i j id r n) W) (fun k _=>9-(intOf k).toNat)
   case atStart=>exact⟨0,by omega,rfl,kI⟩
   case round =>
    obtain⟨n,hn,rfl,hI⟩:=hrel;by_cases hn9:n<9
    ·have hbd:(0≤(n:Int).tmod 3∧(n:Int).tmod 3≤2)∧(0≤(n:Int).tdiv 3∧(n:Int).tdiv 3≤2):=by rw[Int.tmod_eq_emod_of_nonneg (by omega),Int.tdiv_eq_ediv_of_nonneg (by omega)];omega
     have hsE:c4q i j id r (n+1)=upE (r n) (c4q i j id r n) (b3u i j n) id:=rfl;unfold b3u at hsE;have hrun:=c7w r n hn9;obtain⟨u,hu⟩:∃u,r n=u:=⟨_,rfl⟩;obtain⟨ka,hka⟩:∃a,(n:Int).tmod 3=a:=⟨_,rfl⟩;obtain⟨kb,hkb⟩:∃a,(n:Int).tdiv 3=a:=⟨_,rfl⟩;obtain⟨en,hen⟩:∃en,c4q i j id r n=en:=⟨_,rfl⟩;rw[hu,hka,hkb,hen] at hsE;rw[hka,hkb] at hbd;rw[hu] at hrun;rw[hen] at hI;obtain⟨⟨A0,A1⟩,B0,B1⟩:=hbd;have c0:wr.cell? ⟨Bp,0,none⟩=some (.int .i64 id):=hI.place.cell 0;obtain⟨⟨k,hk,hM⟩,hI1,hI2,hI3,hI4,hI5,hI6⟩:=hI;have hIH:=Lib.hid (show PI ⟨ax,ay,st,sw,sh,sg⟩ (plC id x y wt di cls name) w Bs Bp mb n en wr from ⟨⟨k,hk,hM⟩,hI1,hI2,hI3,hI4,hI5,hI6⟩);clear hI1 hI2 hI3 hI4 hI5 hI6 hen hu;obtain⟨Dm,hown,hnd,hfit,hkeys⟩:=hM;have hkH:=Lib.hid hkeys;have hfp:a7d (i+ka-1,j+kb-1):=⟨by show _≤_∧_≤_;simp only;omega,by show _≤_∧_≤_;simp only;omega⟩;replace hsE:=Lib.hid hsE;replace hrun:=Lib.hid hrun;clear hkeys
     cases u with
     |false =>
      go_wp2_with (first|(refine a2a (by rfl) 118 _ _ (by rfl) _ _ (.bool false) (by rfl) (by rfl) (hrun.out _) ?_)|fail);go_roundw
      case rel=>exact⟨n+1,by omega,by go_num,by rw[hsE.out];exact hIH.out.up (by omega)⟩
      case measure=>simp[intOf];omega
     |true =>
      go_wp2_with (first|(refine a2a (by rfl) 118 _ _ (by rfl) _ _ (.bool true) (by rfl) (by rfl) (hrun.out _) ?_)|(at_mapUpdate;refine wpList_mapUpdate_own _ (by rfl) _ _ _ 117 (by rfl) 122 3 spotLaw underlying117 _ mb k Dm (by rfl) hown (by unfold maxLen;omega) _ _ (klS (i+ka-1,j+kb-1)) (by rfl) (by rfl) (a1p hfp) _ [] (plainElem_int underlying3 (a8z hid)) ?_;intro w9 hown9 hgrow9)|fail);go_roundw
      case rel=>exact⟨n+1,by omega,by go_num,by rw[hsE.out];exact hIH.out.put hk hown.isMap hnd hfit hkH.out hfp hown9 hgrow9⟩
      case measure=>simp[intOf];omega
    ·obtain rfl:n=9:=by omega
     go_wp2_with (first
      |(go_at_call 65;refine (hitoa _ hI.below).mono ?_;rintro e w'⟨rfl,hb_⟩;obtain⟨p,rfl⟩:=a0e hb_;clear hb_)
      |(go_at_call 64;refine (hwr _).mono ?_;rintro e w'⟨rfl,hb_⟩;obtain⟨p,rfl⟩:=a0e hb_;clear hb_)
      |fail)
     refine a0g (fun W3 hW3=> ?_);have hI3:PI ⟨ax,ay,st,sw,sh,sg⟩ (plC id x y wt di cls name) w Bs Bp mb 9 (c4q i j id r 9) W3:=by rw[hW3];exact hI.grow _
     clear hW3 hI kI;obtain⟨e9,he9⟩:∃e,c4q i j id r 9=e:=⟨_,rfl⟩;have hpe:a5r i j id r D cells.size=b0w i j id D e9 cells.size:=by unfold a5r;rw[he9]
     have h9:e9.length≤9:=by rw[←he9];exact b0x i j id r 9
     rw[hpe] at hne;rw[he9] at hI3;rw[←hr.out] at hpe;replace hpe:=Lib.hid hpe;clear he9;go_loopw [84] (fun k W=>∃n:Nat,n≤cells.size∧k= .int .i64 n∧PI ⟨ax,ay,st,sw,sh,sg⟩ (plC id x y wt di cls name) w Bs Bp mb (9+6*n) (b0w i j id D e9 n) W) (fun k _=>cells.size-(intOf k).toNat)
     case atStart=>exact⟨0,by omega,rfl,hI3⟩
     case round =>
      clear hI3 hn hn9;rename_i n _;obtain⟨n,hn,rfl,hI⟩:=hrel;by_cases hnc:n<cells.size
      ·have hIH:=Lib.hid hI
       clear hI;go_wp2_with (first
        |(go_at_call 66;refine (hdots n hnc _).mono ?_;rintro e w'⟨rfl,hb_⟩;obtain⟨p,rfl⟩:=a0e hb_;clear hb_)
        |fail)
       refine a0g (fun W4 hW4=> ?_);have hI4:PI ⟨ax,ay,st,sw,sh,sg⟩ (plC id x y wt di cls name) w Bs Bp mb (9+6*n) (b0w i j id D e9 n) W4:=by rw[hW4];exact hIH.out.grow _
       clear hW4 hIH;obtain⟨e0,he0⟩:∃e,b0w i j id D e9 n=e:=⟨_,rfl⟩;obtain⟨d,hd⟩:∃d,D n=d:=⟨_,rfl⟩;have hpn:b0w i j id D e9 (n+1)=c6u i j id n d e0 6:=by rw[←he0,←hd];rfl
       rw[hd];rw[he0] at hI4;replace hpn:=Lib.hid hpn;clear he0 hd;go_loopw [91] (fun q W=>∃t:Nat,t≤6∧q= .int .i64 t∧PI ⟨ax,ay,st,sw,sh,sg⟩ (plC id x y wt di cls name) w Bs Bp mb (9+6*n+t) (c6u i j id n d e0 t) W) (fun q _=>6-(intOf q).toNat)
       case atStart=>exact⟨0,by omega,rfl,hI4⟩
       case round =>
        clear hI4;obtain⟨t,ht,rfl,hI⟩:=hrel;by_cases ht6:t<6
        ·have hbd:(0≤(t:Int).tmod 3∧(t:Int).tmod 3≤2)∧(0≤(t:Int).tdiv 3∧(t:Int).tdiv 3≤2):=by rw[Int.tmod_eq_emod_of_nonneg (by omega),Int.tdiv_eq_ediv_of_nonneg (by omega)];omega
         have hsE:c6u i j id n d e0 (t+1)=upE (d t) (c6u i j id n d e0 t) (a9x i j n t) id:=rfl;unfold a9x at hsE;have hrun:=c7x d t ht6;obtain⟨u,hu⟩:∃u,d t=u:=⟨_,rfl⟩;obtain⟨ka,hka⟩:∃a,(t:Int).tmod 3=a:=⟨_,rfl⟩;obtain⟨kb,hkb⟩:∃a,(t:Int).tdiv 3=a:=⟨_,rfl⟩;obtain⟨en,hen⟩:∃en,c6u i j id n d e0 t=en:=⟨_,rfl⟩;rw[hu,hka,hkb,hen] at hsE;rw[hka,hkb] at hbd;rw[hu] at hrun;rw[hen] at hI;obtain⟨⟨A0,A1⟩,B0,B1⟩:=hbd;have c0:wr.cell? ⟨Bp,0,none⟩=some (.int .i64 id):=hI.place.cell 0;obtain⟨⟨k,hk,hM⟩,hI1,hI2,hI3,hI4,hI5,hI6⟩:=hI;have hIH:=Lib.hid (show PI ⟨ax,ay,st,sw,sh,sg⟩ (plC id x y wt di cls name) w Bs Bp mb (9+6*n+t) en wr from ⟨⟨k,hk,hM⟩,hI1,hI2,hI3,hI4,hI5,hI6⟩);clear hI1 hI2 hI3 hI4 hI5 hI6 hen hu;obtain⟨Dm,hown,hnd,hfit,hkeys⟩:=hM;have hkH:=Lib.hid hkeys;have hfp:a7d (i+3+3*n+kb,j+1-ka):=⟨by show _≤_∧_≤_;simp only;omega,by show _≤_∧_≤_;simp only;omega⟩;replace hsE:=Lib.hid hsE;replace hrun:=Lib.hid hrun;clear hkeys hdots hitoa hwr
         cases u with
         |false =>
          go_wp2_with (first|(refine a2a (by rfl) 126 _ _ (by rfl) _ _ (.bool false) (by rfl) (by rfl) (hrun.out _) ?_)|fail);go_roundw
          case rel=>exact⟨t+1,by omega,by go_num,by rw[hsE.out];exact hIH.out.up (by omega)⟩
          case measure=>simp[intOf];omega
         |true =>
          go_wp2_with (first|(refine a2a (by rfl) 126 _ _ (by rfl) _ _ (.bool true) (by rfl) (by rfl) (hrun.out _) ?_)|(at_mapUpdate;refine wpList_mapUpdate_own _ (by rfl) _ _ _ 117 (by rfl) 122 3 spotLaw underlying117 _ mb k Dm (by rfl) hown (by unfold maxLen;omega) _ _ (klS (i+3+3*n+kb,j+1-ka)) (by rfl) (by rfl) (a1p hfp) _ [] (plainElem_int underlying3 (a8z hid)) ?_;intro w9 hown9 hgrow9)|fail);go_roundw
          case rel=>exact⟨t+1,by omega,by go_num,by rw[hsE.out];exact hIH.out.put hk hown.isMap hnd hfit hkH.out hfp hown9 hgrow9⟩
          case measure=>simp[intOf];omega
        ·obtain rfl:t=6:=by omega
         rw[←hpn.out] at hI;go_wp2_with fail;go_roundw
         case rel=>exact⟨n+1,by omega,by go_num,hI.up (by omega)⟩
         case measure=>simp[intOf];omega
      ·obtain rfl:n=cells.size:=by omega
       have hle:=a9c i j id D e9 cells.size;obtain⟨en,hen⟩:∃en,b0w i j id D e9 cells.size=en:=⟨_,rfl⟩;rw[hen] at hle hI hne;have hpe2:=hpe.out;rw[hen] at hpe2;replace hpe2:=Lib.hid hpe2;obtain⟨W5,hW5⟩:∃W,wr=W:=⟨_,rfl⟩;rw[hW5] at hI ⊢;have hIH:=Lib.hid hI;obtain⟨⟨nn,hnn,Dm,hown,hnd,hfit,hkeys⟩,hI1,hI2,hI3,hI4,hI5,hI6⟩:=hI;have hI1l:=hI1.lt;have hI2l:=hI2.lt;have hMl:mb<W5.heap.size:=MapIs.lt ⟨Dm,hown,hnd,hfit,hkeys⟩;have hwl:=hI3.size;have hkH:=Lib.hid hkeys;clear hkeys hI1 hI2 hI3 hdots hitoa hwr hpe hen;go_wp2_with (first|(at_range;refine wpList_range_own _ rfl _ 117 rfl 122 3 spotLaw underlying117 _ mb nn _ rfl hown ?_;intro w0 hrg0 hg0 hs0)|fail);go_frame
       have hI0:=hIH.out.grown hg0;go_loopw [22] (fun _ wr=>∃(left:Lit→Bool) (cnt:Nat) (ss:List a0r),wr.ranges prog 122 (plainElem prog 3) mb W5.heap.size nn Dm left cnt∧CollS en left ss∧(∀p∈ss,onS ⟨ax,ay,st,sw,sh,sg⟩ p.1 p.2=true)∧PI ⟨ax,ay,st,sw,sh,sg⟩ (plC id x y wt di cls name) w Bs Bp mb (9+6*cells.size) en wr)
        (fun _ wr=>wr.rangeLeft mb W5.heap.size)
       case atStart=>exact⟨_,_,[],hrg0,CollS.start (fun p hp=>(hkH.out p hp).1),by simp,hI0⟩
       case round =>
        clear hI0 hrg0 hs0;rename_i wr0 _;obtain⟨left,cnt,ss,hrg,hC,hss,hI⟩:=hrel;have hlf:wr.rangeLeft mb W5.heap.size=cnt:=hrg.left_eq;go_wp2_with (first|(at_next;refine wpList_next_ranges _ rfl _ rfl 122 spotLaw (plainElem prog 3) a4e (fun v:Value=>v) (fun key kl hk=>by obtain⟨x,_,hx,_⟩:=a3p hk;exact⟨x,hx⟩) (fun v _ _=>⟨v,rfl⟩) mb W5.heap.size nn _ _ _ rfl hrg ?_ ?_)|fail)
        ·intro hc0 hl0
         have hall:=hC.all hl0 hfit;have hkeysOn:∀p∈en.map (·.1),onS ⟨ax,ay,st,sw,sh,sg⟩ p.1 p.2=true:=fun p hp=>hss p ((hall.2 p).2 hp)
         have hI3:=hI.below;obtain⟨kk,hkk,hMM⟩:=hI.map;have hord:=b0l 3 mb kk en wr hMM (by omega) hne (by omega);have hs3:=hI3.size;clear hrg hC hl0 hall hMM;go_wp2_with (first|(go_at_call 68;refine hord.mono ?_;rintro e w9⟨v,base,rfl,hbase,hrow,hb9⟩)|fail);go_ret2;rw[hpe2.out];exact⟨hI3.trans (hb9.mono hs3),.inl ⟨hkeysOn,v,base,rfl,Nat.le_trans hs3 hbase,hrow⟩⟩
        ·intro x0 x1 c kl yd yp w2 cnt2 hkey hlk hv hat hrg2 hlt2 hg2 hs2 hen2
         obtain⟨x',fx,ex,rfl⟩:=a3p hkey;obtain rfl:(x0,x1)=x':=by simp at ex;exact Prod.ext ex.1 ex.2
         have hhas:a9p en (x0,x1)=true:=by rw[←(hkH.out (x0,x1) fx).1];exact has_true_of_atKey hat
         have hI2:=hI.turn hg2 (by omega) (by omega) (by omega) (by omega);have c0:w2.cell? ⟨Bs,0,none⟩=some (.int .i64 ax):=hI2.sheet.cell 0;have c1:w2.cell? ⟨Bs,1,none⟩=some (.int .i64 ay):=hI2.sheet.cell 1;have c2:w2.cell? ⟨Bs,2,none⟩=some (.int .i64 st):=hI2.sheet.cell 2;have c3:w2.cell? ⟨Bs,3,none⟩=some (.int .i64 sw):=hI2.sheet.cell 3;have c4:w2.cell? ⟨Bs,4,none⟩=some (.int .i64 sh):=hI2.sheet.cell 4;have c5:w2.cell? ⟨Bs,5,none⟩=some (.int .i64 sg):=hI2.sheet.cell 5;obtain⟨b,hb⟩:∃b,onS ⟨ax,ay,st,sw,sh,sg⟩ x0 x1=b:=⟨_,rfl⟩;replace hb:=Lib.hid hb;have hC2:=Lib.hid (hC.step fx hlk hhas);have hI2':=Lib.hid hI2;have hrg2':=Lib.hid hrg2;clear hs2 hkey hC hI hI2 hrg hrg2 hfit hlk hv hat
         cases b with
         |false =>
          go_wp2_with (first|(go_at_call 67;refine (b0g ⟨ax,ay,st,sw,sh,sg⟩ x0 x1 _ _ hb.out hs).mono ?_;rintro e w'⟨rfl,hb_⟩;obtain⟨p,rfl⟩:=a0e hb_;clear hb_)|fail);go_ret2;rw[hpe2.out];exact⟨a4v (hI2'.out.below.alloc hI2'.out.below.size _) (b3n hI2'.out.below.size) _,.inr ⟨⟨(x0,x1),a2m.1 hhas,hb.out⟩,rfl⟩⟩
         |true =>
          go_wp2_with (first|(go_at_call 67;refine (b0g ⟨ax,ay,st,sw,sh,sg⟩ x0 x1 _ _ hb.out hs).mono ?_;rintro e w'⟨rfl,hb_⟩;obtain⟨p,rfl⟩:=a0e hb_;clear hb_)|fail);have hrg3:=(hrg2'.out.alloc (.cells #[.int .i64 x0,.int .i64 x1] 122)).kept (a1a _ p) (by simp) (by simp);go_roundw
          case rel=>exact⟨_,cnt2,ss++[(x0,x1)],hrg3,hC2.out,fun p hp=>by rcases List.mem_append.1 hp with h|h;exact hss p h;(obtain rfl:p=(x0,x1):=by simpa using h);exact hb.out,(hI2'.out.grown (World.grownBy_alloc w2 _ none)).grow _⟩
          case measure=>rw[hlf,hrg3.left_eq];exact hlt2
end
section
open Go.RowKit Go.Shelf
def a8i (s:Sh)(ps:List a0r)(k:Nat):List a8f:=c7o s (ps.getD k (0,0)) (ps.getD (min (k+1) (ps.length-1)) (0,0))
def a7t (s:Sh)(id:Int)(ps:List a0r)(en:List (a0r×Int))(t:Nat):List (a0r×Int):=(List.range t).foldl (fun en k=>a3z s id en (a8i s ps k)) en
theorem b1c (s:Sh)(id:Int)(ps:List a0r)(en:List (a0r×Int))(t:Nat):a7t s id ps en (t+1)=a3z s id (a7t s id ps en t) (a8i s ps t):=by
 unfold a7t;rw[List.range_succ,List.foldl_append];rfl
def a9e (ps:List a0r):Bool:=ps.all fun p=>a3a p.1 p.2
def a4m (s:Sh)(en:List (a0r×Int))(ws:List (Int×List a0r)):List (a0r×Int):=ws.foldl (fun en w=>if a9e w.2 then a7t s w.1 w.2 en w.2.length else en) en
theorem c1w (s:Sh)(en:List (a0r×Int))(ws:List (Int×List a0r))(w:Int×List a0r):a4m s en (ws++[w])=if a9e w.2 then a7t s w.1 w.2 (a4m s en ws) w.2.length else a4m s en ws:=by
 unfold a4m;rw[List.foldl_append];rfl
theorem c1x (s:Sh)(ws:List (Int×List a0r))(t:Nat)(h:t<ws.length):a4m s [] (ws.take (t+1))=if a9e ws[t].2 then a7t s ws[t].1 ws[t].2 (a4m s [] (ws.take t)) ws[t].2.length else a4m s [] (ws.take t):=by
 rw[List.take_add_one,List.getElem?_eq_getElem h];exact c1w _ _ _ _
/-! ### what ways contribute,one by one -/
def b2g (s:Sh)(en:List (a0r×Int))(c:a0r×Int):List (a0r×Int):=c6t s c.2 en c.1
def d1c (s:Sh)(w:Int×List a0r):List (a0r×Int):=if a9e w.2 then ((List.range w.2.length).flatMap (a8i s w.2)).map (fun d=>(d.1,w.1)) else []
theorem b6o (s:Sh)(id:Int)(l:List a8f)(en:List (a0r×Int)):a3z s id en l=(l.map (fun d=>(d.1,id))).foldl (b2g s) en:=by
 unfold a3z;rw[List.foldl_map];rfl
theorem b8t (s:Sh)(id:Int)(ps:List a0r)(en:List (a0r×Int))(t:Nat):a7t s id ps en t=(((List.range t).flatMap (a8i s ps)).map (fun d=>(d.1,id))).foldl (b2g s) en:=by
 induction t with
 |zero=>rfl
 |succ t ih =>
  rw[b1c,ih,b6o,List.range_succ,List.flatMap_append,List.map_append,List.foldl_append];simp
theorem a6e (s:Sh):∀(ws:List (Int×List a0r))(en:List (a0r×Int)),a4m s en ws=(ws.flatMap (d1c s)).foldl (b2g s) en
 |[],en=>rfl
 |w::ws,en=>by
  rw[List.flatMap_cons,List.foldl_append,←a6e s ws];unfold a4m;rw[List.foldl_cons];congr 1;unfold d1c;split
  ·rw[b8t]
  ·rfl
theorem a7u (en:List (a0r×Int))(p:a0r):a9p en p=(a6k en p).isSome:=by
 unfold a9p a6k;rw[Option.isSome_map,Bool.eq_iff_iff,List.find?_isSome,List.any_eq_true]
def c8g (id:Int):Option Int→Int
 |none=>id
 |some o=>if id<o then id else o
theorem c5a (s:Sh)(id:Int)(en:List (a0r×Int))(d q:a0r):a6k (c6t s id en d) q=if q=d∧onS s d.1 d.2=true then some (c8g id (a6k en d)) else a6k en q:=by
 unfold c6t;rw[a7u]
 cases hon:onS s d.1 d.2 with
 |false=>simp
 |true =>
  cases ho:a6k en d with
  |none =>
   simp only[Option.isSome_none,Bool.not_false,Bool.true_or,Bool.and_self,if_true,b3q,and_true,c8g]
  |some o =>
   simp only[Option.isSome_some,Bool.not_true,Bool.false_or,Bool.true_and,Option.getD_some,and_true,c8g,decide_eq_true_eq];split
   ·rw[b3q]
   ·split
    ·rename_i h;rw[h];exact ho
    ·rfl
theorem a8j (s:Sh)(en:List (a0r×Int))(c:a0r×Int)(h:(en.map (·.1)).Nodup):((b2g s en c).map (·.1)).Nodup:=by
 unfold b2g c6t;split
 ·rw[a5n]
  split
  ·exact h
  ·rename_i hk
   rw[List.nodup_append];refine⟨h,by simp,fun a ha b hb=> ?_⟩;obtain rfl:b=c.1:=by simpa using hb
   exact fun e=>hk (a2m.2 (e▸ha))
 ·exact h
theorem b2y (s:Sh):∀(l:List (a0r×Int))(en:List (a0r×Int)),(en.map (·.1)).Nodup→((l.foldl (b2g s) en).map (·.1)).Nodup
 |[],_,h=>h
 |c::l,en,h=>b2y s l (b2g s en c) (a8j s en c h)
/-! ### how many entries there are -/
theorem b3z:∀(n:Nat)(l:List Nat),l.Nodup→(∀x∈l,x<n)→l.length≤n
 |0,l,_,h=>by
  match l,h with
  |[],_=>simp
  |x::_,h=>exact absurd (h x List.mem_cons_self) (by omega)
 |n+1,l,hn,h=>by
  by_cases hm:n∈l
  ·have h1:=b3z n (l.erase n) (hn.erase n) (fun x hx=>by
    have:=h x (List.mem_of_mem_erase hx);have hne:x≠n:=fun e=>by subst e;exact (List.Nodup.not_mem_erase hn) hx
    omega)
   have h2:=List.length_erase_of_mem hm;omega
  ·have h1:=b3z n l hn (fun x hx=>by
    have:=h x hx;have hne:x≠n:=fun e=>hm (e▸hx)
    omega)
   omega
theorem d1d (s:Sh)(en:List (a0r×Int))(c:a0r×Int)(h:∀p∈en.map (·.1),onS s p.1 p.2=true):∀p∈(b2g s en c).map (·.1),onS s p.1 p.2=true:=by
 intro p hp;unfold b2g c6t at hp;split at hp
 ·rename_i hc
  rw[a5n] at hp;split at hp
  ·exact h p hp
  ·rcases List.mem_append.1 hp with hp|hp
   ·exact h p hp
   ·obtain rfl:p=c.1:=by simpa using hp
    simp only[Bool.and_eq_true] at hc;exact hc.1
 ·exact h p hp
theorem b8u (s:Sh):∀(l:List (a0r×Int))(en:List (a0r×Int)),(∀p∈en.map (·.1),onS s p.1 p.2=true)→∀p∈(l.foldl (b2g s) en).map (·.1),onS s p.1 p.2=true
 |[],_,h=>h
 |c::l,en,h=>b8u s l (b2g s en c) (d1d s en c h)
theorem c5b {s:Sh}(hs:OkS s){en:List (a0r×Int)}(hn:(en.map (·.1)).Nodup)(h:∀p∈en.map (·.1),onS s p.1 p.2=true):en.length≤6480:=by
 have key:∀l:List a0r,l.Nodup→(∀p∈l,onS s p.1 p.2=true)→l.length≤6480:=by
  intro l hl hon;have h1:(l.map fun p=>p.1.toNat*81+p.2.toNat).Nodup:=by
   rw[List.nodup_iff_pairwise_ne,List.pairwise_map];have hl':∀ {a b:a0r},[a,b].Sublist l→a≠b:=List.pairwise_iff_forall_sublist.1 (List.nodup_iff_pairwise_ne.1 hl);refine List.pairwise_iff_forall_sublist.2 (fun {a b} hab e=> ?_);have ha:=b0h.1 (hon a (hab.subset (by simp)));have hb:=b0h.1 (hon b (hab.subset (by simp)));have w1:=hs.w1;have v1:=hs.h1;exact hl' hab (Prod.ext (by omega) (by omega))
  have h2:=b3z 6480 _ h1 (fun x hx=>by
   obtain⟨p,hp,rfl⟩:=List.mem_map.1 hx;have ha:=b0h.1 (hon p hp);have w1:=hs.w1;have v1:=hs.h1;omega)
  simpa using h2
 have:=key _ hn h;simpa using this
theorem a9f {s:Sh}(hs:OkS s)(ws:List (Int×List a0r)):(a4m s [] ws).length≤6480:=by
 rw[a6e];exact c5b hs (b2y _ _ _ (by simp)) (b8u _ _ _ (by simp))
/-! ### a move -/
end
end Go.Proofs.YtfocdbjceedagaaGreatDoor
