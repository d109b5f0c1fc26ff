/-
  Parts.
-/
import Derived.Test.YteijfnkidefekaaGreatEax
set_option linter.unusedVariables false
set_option linter.unusedSimpArgs false
set_option linter.unusedSectionVars false
set_option maxHeartbeats 60000000
set_option maxRecDepth 100000
namespace Go.Proofs.YteijfnkidefekaaGreat
open Tryz
section
open Go Go.RowKit Go.Shelf
theorem c3y {W:Wd}{base jk:Nat}{e:Td}{s:Nat}{v:Vu}{n:Nat}{xs:List Value}(h:W.ownsRow base e s v n xs)(hb:jk<=base):W.ownsRow jk e s v n xs:=by
 exact yhw
def a5i (l:List Pc):Nat:=l.countP (λp=>decide (p.nm.size≠0))
structure OddR (ne nf nw:Nat)(l:List Pc)(ne' nf' nw':Nat)(l':List Pc):Prop where
 e:ne'<=ne+1
 f:nf'<=nf+1
 w:nw'<=nw+1
 p:l'.length<=l.length+82
 n:a5i l'<=a5i l+1
 ok:(∀p∈l,PcOk p)->∀p∈l',PcOk p
 cl:(∀p∈l,p.cls.size<=1000)->∀p∈l',p.cls.size<=1000
theorem OddR.refl (ne nf nw:Nat)(l:List Pc):OddR ne nf nw l ne nf nw l:=⟨xM,xM,xM,xM,xM,λh=>h,λh=>h⟩
abbrev qC (q0 q1 q2:Int):Array Value:= #[.int .i64 q0,.int .i64 q1,.int .i64 q2]
theorem b3j :∀(l:List Pc) (p:Nat) (y:Pc),a5i (l.set p y)<=a5i l+1
 |[],p,y=>by simp[a5i]
 |x::l,0,y=>by
  unfold a5i;rw[List.set_cons_zero,List.countP_cons,List.countP_cons];split <;> split <;> omega
 |x::l,p+1,y=>by
  have ih:=b3j l p y;unfold a5i at ih ⊢;rw[List.set_cons_succ,List.countP_cons,List.countP_cons];omega
theorem a8r (a b:List Pc):a5i (a++b)=a5i a+a5i b:=by unfold a5i;rw[List.countP_append]
theorem OddR.set {ne nf nw:Nat}{l:List Pc}{p:Nat}(hp:p<l.length){y:Pc}(hy:PcOk l[p]->PcOk y)(hc:l[p].cls.size<=1000->y.cls.size<=1000):OddR ne nf nw l ne nf nw (l.set p y) :=
 ⟨xM,xM,xM,by rw[List.length_set];omega,b3j l p y,λh q hq=>(List.mem_or_eq_of_mem_set hq).elim (h q) (λe=>e▸hy (h _ (List.getElem_mem hp))),λh q hq=>(List.mem_or_eq_of_mem_set hq).elim (h q) (λe=>e▸hc (h _ (List.getElem_mem hp)))⟩
theorem OddR.push {ne nf nw:Nat}{l:List Pc}{y:Pc}(hy:PcOk y)(hc:y.cls.size<=1000):OddR ne nf nw l ne nf nw (l++[y]) :=
 ⟨xM,xM,xM,by simp,by rw[a8r];have:a5i [y]<=1:=by{ unfold a5i;exact List.countP_le_length };omega,λh q hq=>(List.mem_append.1 hq).elim (h q) (λe=>by rw[List.mem_singleton]at e;exact e▸hy),λh q hq=>(List.mem_append.1 hq).elim (h q) (λe=>by rw[List.mem_singleton]at e;exact e▸hc)⟩
theorem OddR.del {ne nf nw:Nat}{l:List Pc}{p:Nat}(hp:p<l.length):OddR ne nf nw l ne nf nw (l.take p++l.drop (p+1)):=by
 have hs:(l.take p++l.drop (p+1)).Sublist l:=by
  conv=>rhs;rw[<-List.take_append_drop p l]
  refine List.Sublist.append (List.Sublist.refl _) ?_;rw[List.drop_eq_getElem_cons hp];exact List.sublist_cons_self _ _
 exact⟨xM,xM,xM,Nat.le_trans hs.length_le xM,Nat.le_trans (hs.countP_le) (Nat.le_succ _),λh q hq=>h q (hs.subset hq),λh q hq=>h q (hs.subset hq)⟩
theorem c7p {W:Wd}{base:Nat}{pa:Option Addr}{pc:Nat}{l:List Pc}(h:W.ownsRow base 48 7 (.slice pa l.length pc) l.length (l.flatMap plE.enc))(hl:l≠[]):∃g,pa=some ⟨g,0,none⟩/\l.length<=pc:=by
 rcases h.2 with⟨e,h0⟩|⟨g,cap,cur,e,hb,hgb,hc,-⟩
 ·exact absurd (List.eq_nil_of_length_eq_zero h0) hl
 ·simp only[Value.slice.injEq,true_and]at e
  obtain⟨rfl,rfl⟩:=e;exact⟨g,rfl,hc⟩
theorem OP.cellP {S0 S:BS}{W0 W:Wd}{L:a5g}{T:SlL}{g pc:Nat}{l:List Pc}(h:OP S0 W0 S W L T (.slice (some ⟨g,0,none⟩) l.length pc) l)(hl:l.length<=100000){p i:Nat}(hp:p<l.length)(hi:i<7):W.cell? ⟨g,p*7+i,none⟩=(plE.enc l[p])[i]?/\W.frozen? ⟨g,p*7+i,none⟩=false:=by
 obtain⟨b',dK,bk,e,-,-,hc⟩:=(a0g a2n h.row xM).some_ xM;simp only[Value.slice.injEq,Option.some.injEq,Addr.mk.injEq]at e;obtain⟨⟨rfl,rfl,-⟩,-,-⟩:=e;have h1:=hc p hp i hi;rw[Nat.zero_add]at h1;exact⟨h1,h.row.frozenAt _⟩
theorem c3z {W:Wd}{base g pc:Nat}{l:List Pc}(h:W.ownsRow base 48 7 (.slice (some ⟨g,0,none⟩) l.length pc) l.length (l.flatMap plE.enc)){k:Nat}(hk:k<=l.length):W.ownsRow base 48 7 (.slice (some ⟨g,0,none⟩) k pc) (l.take k).length ((l.take k).flatMap plE.enc):=by
 have eK:(l.take k).length=k:=by rw[List.length_take];omega
 have hf:(l.take k).flatMap plE.enc=(l.flatMap plE.enc).take (k*7):=by
  have e:(l.take k).flatMap plE.enc++(l.drop k).flatMap plE.enc=l.flatMap plE.enc:=by rw[<-List.flatMap_append,List.take_append_drop]
  rw[<-e,List.take_left' (by rw[a0t a2n,eK])]
 rw[eK];rcases h.2 with⟨e,h0⟩|⟨g',cap,cur,e,hb,hgb,hc,hm,hs,ht⟩
 ·cases e
 ·simp only[Value.slice.injEq,Option.some.injEq,Addr.mk.injEq,true_and,and_true]at e
  obtain⟨rfl,rfl⟩:=e;refine⟨by rw[a0t a2n,eK],.inr ⟨g,pc,cur,rfl,hb,hgb,xM,hm,hs,?_⟩⟩;rw[hf,<-ht,List.take_take,Nat.min_eq_left (Nat.mul_le_mul_right _ hk)]
theorem c4a {W:Wd}{base:Nat}{e:Td}{s:Nat}{v:Vu}{n:Nat}{xs:List Value}(h:W.ownsRow base e s v n xs):Frm v n:=by
 exact yjo
theorem Frm.or {a:Option Addr}{n cap:Nat}(h:Frm (.slice a n cap) n):(a=none/\n=0/\cap=0)\/∃b o,a=some ⟨b,o,none⟩:=by
 rcases h with hf|⟨b,o,c,hf⟩
 ·simp only[Value.slice.injEq]at hf
  exact .inl hf
 ·simp only[Value.slice.injEq]at hf
  exact .inr ⟨b,o,hf.1⟩
section
variable {α:Type}{E:El α}{W:Wd}{n0:Nat}{a:Option Addr}{cap k:Nat}{l:List α}
theorem c1s (hL:Lst E n0 W (.slice a l.length cap) l)(hF:Frm (.slice a l.length cap) l.length)(hk:k<=l.length):Lst E n0 W (.slice (if cap=k then a else a.map (·.add (k*E.s))) (l.length-k) (cap-k)) (l.drop k)/\Frm (.slice (if cap=k then a else a.map (·.add (k*E.s))) (l.length-k) (cap-k)) (l.drop k).length:=by
 rw[List.length_drop];have hc:l.length<=cap:=by
  obtain⟨a0,c0,e,hc⟩:=hL.form;simp only[Value.slice.injEq]at e;omega
 split
 ·rename_i he
  subst he;have h0:l.drop cap=[]:=List.drop_eq_nil_of_le hc;have h1:l.length-cap=0:=xM;rw[h0,h1,Nat.sub_self];rcases hF.or with⟨rfl,-,-⟩|⟨b,o,rfl⟩
  ·exact⟨Lst.nil _ _ _,.inl rfl⟩
  ·exact⟨⟨_,_,rfl,yR _,by simp,λj hj=>by simp at hj⟩,.inr ⟨_,_,_,rfl⟩⟩
 ·rename_i he
  rcases hF.or with⟨rfl,h0,rfl⟩|⟨b,o,rfl⟩
  ·omega
  ·have h1:=Lst.drop hL k hk
   have e:(Option.map (λx:Addr=>x.add (k*E.s)) (some ⟨b,o,none⟩))=some ⟨b,o+k*E.s,none⟩:=by rw[Option.map_some,Addr.add_lit]
   rw[e];exact⟨h1,.inr ⟨b,o+k*E.s,cap-k,rfl⟩⟩
end
theorem OP.setRow2 {S0 S:BS}{W0 W:Wd}{L:a5g}{T:SlL}{g cap:Nat}{l:List Pc}(h:OP S0 W0 S W L T (.slice (some ⟨g,0,none⟩) l.length cap) l){p i j:Nat}(hp:p<l.length)(hi:i<7)(hj:j<7){y1 y:Pc}{u v:Vu}(Bn:plE.enc y1=(plE.enc l[p]).set i u)(he:plE.enc y=(plE.enc y1).set j v) :
 OP S0 W0 S ((W.setCell ⟨g,p*7+i,none⟩ u).setCell ⟨g,p*7+j,none⟩ v) L T (.slice (some ⟨g,0,none⟩) l.length cap) (l.set p y):=by
 have h1:=h.setRow hp hi Bn;have h2:OP S0 W0 S (W.setCell ⟨g,p*7+i,none⟩ u) L T (.slice (some ⟨g,0,none⟩) (l.set p y1).length cap) (l.set p y1):=by rw[List.length_set];exact h1
 have h3:=h2.setRow (p:=p) (y:=y) (u:=v) (by rw[List.length_set];exact hp) hj (by rw[List.getElem_set_self];exact he);rw[List.set_set,List.length_set]at h3;exact h3
section
variable {α:Type}{E:El α}{P:Program}{st:Td}
theorem El.append_joinO (hE:E.Ok)(hI:E.In P st)(W:Wd)(base:Nat)(v xv:Vu)(l l2:List α)(ty:Td)(hv:W.ownsRow base E.t E.s v l.length (l.flatMap E.enc))(iC:∃g c,v= .slice (some ⟨g,0,none⟩) l.length c){n0:Nat}(hx:Lst E n0 W xv l2)(hf:Frm xv l2.length)(hl:l.length+l2.length<=100000)(hb:base<=W.heap.size) :
 ∃v' W',(Builtin.append_ #[st,st] ty #[v,xv]).run P W= .ok v' W'/\W'.ownsRow base E.t E.s v' (l++l2).length ((l++l2).flatMap E.enc)/\W.grownBy W' v.ownBlock/\Below base W W'/\(∃g cap,v'= .slice (some ⟨g,0,none⟩) (l++l2).length cap)/\(v'.ownBlock=v.ownBlock\/v'.ownBlock=some W.heap.size):=by
 obtain⟨i0,z,bV,dm,aH,bn,gm⟩:=hI.info;obtain⟨g,c,rfl⟩:=iC;by_cases an:l2=[]
 ·subst an
  have hs:Src P i0.size st xv 0 [] W:=by
   exact yen
  have dZ:l.length+0<=c:=by
   exact yej
  have hr:=run_append_room_src (P:=P) W st st ty E.t i0 hI.under bV g 0 l.length c xv 0 [] hs dZ vM vM;refine⟨_,_,hr,?_,?_,?_,⟨g,c,?_⟩,.inl rfl⟩
  ·rw[List.append_nil];exact hv
  ·exact⟨rfl,rfl,rfl,yR _,λ_ _ _=>rfl⟩
  ·exact⟨rfl,rfl,rfl,yR _,λ_ _=>rfl⟩
  ·rw[List.append_nil];rfl
 ·have jW:0<l2.length:=List.length_pos_iff.2 an
  obtain⟨b,off,cap,rfl,dq,bz,-⟩:=hx.some_ jW;have eM:∀j u,(l2.flatMap E.enc)[j]? =some u->W.cell? ((⟨b,off,none⟩:Addr).add j)=some u:=λj u hj=>by
   exact yij
  obtain⟨v',W',hr,aA,hg,-,AO⟩:=run_append_own_at (P:=P) W base st ty E.t i0 _ E.s i0.bytes hI.under bV dm aH rfl gm hE.pos _ l.length _ hv ⟨b,off,none⟩ l2.length cap (l2.flatMap E.enc) (a0t hE l2) eM (a2q hE l2) gM (Nat.le_trans (Nat.mul_le_mul (show l.length+l2.length<=100000 by omega) bn) jM) hb;have mY:∃g cap,v'= .slice (some ⟨g,0,none⟩) (l++l2).length cap:=by
   exact yif
  refine⟨v',W',hr,?_,hg,a0f hg hb (λk e=>(hv.lt k e).1),mY,AO⟩;exact yiw
theorem El.joinO (hE:E.Ok)(hI:E.In P st){ops:Array Oper}{rest:List Oper}{o:Oper}{a:Act}{w:Wd}{Q:Exit->Act->World->Prop}(bP:o.guard=none)(s x:Operand)
 (ho:o.op= .call { callee:= .builtin .append,args:= #[s,x],argTypes:= #[st,st] })
 (base:Nat) {v:Vu} (hs:a.eval s=v) (l:List α) (hv:w.ownsRow base E.t E.s v l.length (l.flatMap E.enc)) (iC:∃g c,v= .slice (some ⟨g,0,none⟩) l.length c) {xv:Vu} (l2:List α) (aO:a.eval x=xv) {n0:Nat} (hx:Lst E n0 w xv l2) (hf:Frm xv l2.length) (hl:l.length+l2.length<=100000) (hb:base<=w.heap.size)
 (h:∀v' w',w'.ownsRow base E.t E.s v' (l++l2).length ((l++l2).flatMap E.enc)->w.grownBy w' v.ownBlock->(∃g cap,v'= .slice (some ⟨g,0,none⟩) (l++l2).length cap)->(∀g,v'.ownBlock=some g->v.ownBlock=some g\/w.heap.size<=g)->wpList P ops Q rest (a.put o.dst v') w') :
 wpList P ops Q (o::rest) a w:=by
 obtain⟨v',w',hr,h2,h3,h4,h5,h6⟩:=El.append_joinO hE hI w base v xv l l2 o.type hv iC hx hf hl hb;refine wpList_plain bP λK hK=> ?_
 unfold Oper.wp execOp;simp only[ho,resolve,invoke,builtin,Sem.run_bind,Sem.run_pure,Result.andThen_ok,List.map_toArray,List.map_cons,List.map_nil,hs,aO,hr];refine hK _ _ (h v' w' h2 h3 h5 λg e=> ?_);rcases h6 with h6|h6
 ·exact .inl (h6▸e)
 ·rw[h6]at e
  cases e;exact .inr (yR _)
theorem El.pushAt (hE:E.Ok)(hI:E.In P st){ops:Array Oper}{rest:List Oper}{o:Oper}{a:Act}{w:Wd}{l:List α}{Q:Exit->Act->World->Prop}(bP:o.guard=none)(sO xO:Operand)(ho:o.op= .call { callee:= .builtin .append,args:= #[sO,xO],argTypes:= #[st,st] })
 {base:Nat} {v:Vu} (hs:a.eval sO=v) (ag:w.ownsRow base E.t E.s v l.length (l.flatMap E.enc)) (x:α) {H:Nat} (hx:a.eval xO= .slice (some ⟨H,0,none⟩) 1 1) (hH:Blk w H (E.enc x).toArray E.t) (dz:base<=w.heap.size) (hl:l.length<=100000)
 (h:∀v' w',w'.ownsRow base E.t E.s v' (l++[x]).length ((l++[x]).flatMap E.enc)->w.grownBy w' v.ownBlock->(∀g,v'.ownBlock=some g->v.ownBlock=some g\/w.heap.size<=g)->wpList P ops Q rest (a.put o.dst v') w') :
 wpList P ops Q (o::rest) a w:=by
 obtain⟨i,z,hi,hz,aM,mq,fI⟩:=hI.info;have hlen:=hE.len x;refine wpList_append_lies _ bP sO xO st ho base E.t i z E.s i.bytes hI.under hi hz aM rfl fI hE.pos v l.length _ hs ag ⟨H,0,none⟩ 1 1 (E.enc x) hx (by rw[hlen,Nat.one_mul]) (World.news_of_block hH) (hE.one x) xM gM (Nat.le_trans (Nat.mul_le_mul (Nat.add_le_add_right hl 1) mq) jM) dz _ rfl ?_;intro g cap w' aA hg cG ab;refine h _ w' (by simpa[List.flatMap_append]using aA) hg λg' e=> ?_
 simp only[Value.ownBlock,Option.some.injEq]at e;subst e;rcases cG with h1|h1
 ·exact .inl h1
 ·exact .inr (by rw[h1];exact yR _)
end
theorem OP.store {S0 S:BS}{W0 W:Wd}{L:a5g}{T:SlL}{ov:Vu}{l:List Pc}(h:OP S0 W0 S W L T ov l){e:Td}{b off n cap s:Nat}(he:ET e s)(hv:SL S W e (.slice (some ⟨b,off,none⟩) n cap) n)(ho:Own W0.heap.size (.slice (some ⟨b,off,none⟩) n cap))(k i:Nat)(ct:CT)(p8:(a2g e)[i]? =some ct)(u:Vu)(hu:ct.ok S W u) :
 OP S0 W0 S (W.setCell ⟨b,off+k*s+i,none⟩ u) L T ov l/\W.frozen? ⟨b,off+k*s+i,none⟩=false:=by
 obtain⟨h1,h2⟩:=SL.store (X:=noB) h.b.tw he hv k i ct p8 u hu;exact⟨h.evo h1 ((zR _ W).grown (a0u W b _ u) h.b.size (λq e=>by cases e;exact ho _ _ _ rfl)),h2⟩
theorem SL.face5 {S:BS}{W:Wd}{b off n cap:Nat}(hT:TW S W)(h:SL S W 43 (.slice (some ⟨b,off,none⟩) n cap) n){k:Nat}(hk:k<n):∃id cs ns wt ds,W.cell? ⟨b,off+k*5,none⟩=some (.int .i64 id)/\W.cell? ⟨b,off+k*5+1,none⟩=some (.string cs)/\W.cell? ⟨b,off+k*5+2,none⟩=some (.string ns)/\W.cell? ⟨b,off+k*5+3,none⟩=some (.int .i64 wt)/\W.cell? ⟨b,off+k*5+4,none⟩=some (.int .i64 ds)/\a0l id/\cs.size<=30/\ns.size<=30/\a0l wt/\a0l ds:=by
 obtain⟨u0,c0,h0⟩:=h.cell hT a1f hk 0 .int rfl;obtain⟨u1,c1,h1⟩:=h.cell hT a1f hk 1 .str rfl;obtain⟨u2,c2,h2⟩:=h.cell hT a1f hk 2 .str rfl;obtain⟨u3,c3,h3⟩:=h.cell hT a1f hk 3 .int rfl;obtain⟨u4,c4,h4⟩:=h.cell hT a1f hk 4 .int rfl;obtain⟨id,rfl,f0⟩:=h0.i rfl;obtain⟨cs,rfl,f1⟩:=h1.s rfl;obtain⟨ns,rfl,f2⟩:=h2.s rfl;obtain⟨wt,rfl,f3⟩:=h3.i rfl;obtain⟨ds,rfl,f4⟩:=h4.i rfl;exact⟨id,cs,ns,wt,ds,c0,c1,c2,c3,c4,f0,f1,f2,f3,f4⟩
abbrev mZ :Array Value:= #[.slice none 0 0,.slice none 0 0,.slice none 0 0,.slice none 0 0]
abbrev c8m :Array Value:= #[.string ⟨#[]⟩,.string ⟨#[70,105,101,108,100]⟩,.string ⟨#[119,111,111,100]⟩,.string ⟨#[97,98,99,100,101,102,103,104,105,106,107,108,109]⟩,.string ⟨#[108,97,107,101]⟩]
theorem Own.sliceG {m n c:Nat}{a:Option Addr}(h:Own m (.slice a n c))(n':Nat):Own m (.slice a n' c):=λa' k' c' e=>by
 cases e;exact h a' n c rfl
theorem b8n {a:Nat}{m:Int}(h:a<=1000):a0l (Int.tmod (a:Int) m):=by
 have h1:(Int.tmod (a:Int) m).natAbs<=a:=by
  rw[Int.natAbs_tmod];simpa using Nat.mod_le a m.natAbs
 exact⟨xM,xM⟩
def FG1 (BO k n p q nf fb fo gJ:Nat)(s:Bw)(i:Nat)(v:Vu)(g:BS)(w:Wd):Prop :=
 match i with
 |0=>v= .pointer (some ⟨BO,1,none⟩)
 |1=>v= .slice (some ⟨fb,fo,none⟩) nf gJ
 |2=>v= .int .i64 (k:Nat)
 |3=>v= .pointer (some ⟨BO,1,none⟩)
 |4=>v= .slice (some ⟨fb,fo,none⟩) nf gJ
 |5=>v= .int .i64 (nf:Nat)
 |6=>v= .int .i64 (p:Nat)
 |7=>∃Z,v= .slice (some ⟨Z,0,none⟩) 5 5/\Blk w Z c8m 9/\¬g Z
 |8=>v= .int .i64 (n:Nat)
 |9=>v= .int .i64 (q:Nat)
 |10=>∃Z,v= .pointer (some ⟨Z,q,none⟩)/\Blk w Z c8m 9/\¬g Z
 |11=>v= .string s
 |_=>False
theorem FG1.kept {BO k n p q nf fb fo gJ:Nat}{s:Bw}{i:Nat}{v:Vu}{g g':BS}{w w':Wd}(h:FG1 BO k n p q nf fb fo gJ s i v g w)(hg:Ev noB g w g' w'):FG1 BO k n p q nf fb fo gJ s i v g' w':=by
 unfold FG1 at *;split at h
 all_goals first|exact h|(obtain⟨Z,h1,h2,h3⟩:=h;exact⟨Z,h1,hg.blk h2 h3 (λh=>h),hg.not h2.lt h3⟩)|(exact h)
def FG9 (BO n k nw:Nat)(iO:Option Addr)(gN:Nat)(s:Bw)(i:Nat)(v:Vu)(g:BS)(w:Wd):Prop :=
 match i with
 |0=>v= .pointer (some ⟨BO,2,none⟩)
 |1=>v= .slice iO nw gN
 |2=>v= .int .i64 (n:Nat)
 |3=>∃x,v= .int .i64 x/\a0l x
 |4=>v= .int .i64 (n:Nat)
 |5=>∃x,v= .int .i64 x/\a0l x
 |6=>∃x,v= .agg #[.int .i64 x,.int .i64 20]/\a0l x
 |7=>v= .agg #[.int .i64 55,.int .i64 65]
 |8=>SL g w 41 v 2
 |9=>v= .int .i64 (k:Nat)
 |10=>∃x,v= .int .i64 x/\a0l x
 |11=>v= .int .i64 (k:Nat)
 |12=>v= .string s
 |13=>v= .int .i64 (n:Nat)
 |14=>∃x,v= .int .i64 x/\a0l x
 |15=>v= .int .i64 (k:Nat)
 |16=>∃x,v= .int .i64 x/\a0l x
 |17=>∃x,v= .int .i64 x/\a0l x
 |18=>∃a cF wt ds sv,v= .agg #[.int .i64 a,sv,.int .i64 cF,.string ⟨#[112,97,116,104]⟩,.string s,.bool false,.int .i64 wt,.int .i64 ds]/\a0l a/\a0l cF/\a0l wt/\a0l ds/\SL g w 41 sv 2
 |19=>SL g w 46 v 1
 |_=>False
theorem FG9.kept {BO n k nw:Nat}{iO:Option Addr}{gN:Nat}{s:Bw}{i:Nat}{v:Vu}{g g':BS}{w w':Wd}(h:FG9 BO n k nw iO gN s i v g w)(hg:Ev noB g w g' w'):FG9 BO n k nw iO gN s i v g' w':=by
 unfold FG9 at *;split at h
 all_goals first|exact h|(exact h)|(exact hg.sl h)|(obtain⟨a,cF,wt,ds,sv,h1,h2,h3,h4,h5,h6⟩:=h;exact⟨a,cF,wt,ds,sv,h1,h2,h3,h4,h5,hg.sl h6⟩)
abbrev c7q :Array Value:= #[.int .i64 0,.int .i64 1073741824,.int .i64 1073741825,.int .i64 70]
def FG14 (BO n k q:Nat)(jl:Option Addr)(l:List Pc)(iP:Nat)(s:Bw)(z:Int)(i:Nat)(v:Vu)(g:BS)(w:Wd):Prop :=
 match i with
 |0=>v= .pointer (some ⟨BO,3,none⟩)
 |1=>v= .slice jl l.length iP
 |2=>∃Z,v= .slice (some ⟨Z,0,none⟩) 4 4/\Blk w Z c7q 3/\¬g Z
 |3=>v= .int .i64 (n:Nat)
 |4=>v= .int .i64 (q:Nat)
 |5=>∃Z,v= .pointer (some ⟨Z,q,none⟩)/\Blk w Z c7q 3/\¬g Z
 |6=>v= .int .i64 z
 |7=>v= .int .i64 (n:Nat)
 |8=>∃x,v= .int .i64 x/\a0l x
 |9=>∃x,v= .int .i64 x/\a0l x
 |10=>v= .int .i64 (n:Nat)
 |11=>∃x,v= .int .i64 x/\a0l x
 |12=>∃x,v= .int .i64 x/\a0l x
 |13=>v= .int .i64 (k:Nat)
 |14=>∃x,v= .int .i64 x/\a0l x
 |15=>∃x,v= .int .i64 x/\a0l x
 |16=>∃x y,v= .agg #[.int .i64 x,.int .i64 y]/\a0l x/\a0l y
 |17=>v= .int .i64 (k:Nat)
 |18=>v= .string s
 |19=>v= .int .i64 (n:Nat)
 |20=>∃x,v= .int .i64 x/\a0l x
 |21=>∃x,v= .int .i64 x/\a0l x
 |22=>∃y:Pc,v=plV y/\PcOk y/\y.cls.size<=1000
 |23=>∃H y,v= .slice (some ⟨H,0,none⟩) 1 1/\Blk w H (plE.enc y).toArray 48/\¬g H/\PcOk y/\y.cls.size<=1000
 |_=>False
theorem FG14.kept {BO n k q:Nat}{jl:Option Addr}{l:List Pc}{iP:Nat}{s:Bw}{z:Int}{i:Nat}{v:Vu}{g g':BS}{w w':Wd}(h:FG14 BO n k q jl l iP s z i v g w)(hg:Ev noB g w g' w'):FG14 BO n k q jl l iP s z i v g' w':=by
 unfold FG14 at *;split at h
 all_goals first|exact h|(obtain⟨Z,h1,h2,h3⟩:=h;exact⟨Z,h1,hg.blk h2 h3 (λh=>h),hg.not h2.lt h3⟩)|(exact h)|(obtain⟨Z,y,h1,h2,h3,h4⟩:=h;exact⟨Z,y,h1,hg.blk h2 h3 (λh=>h),hg.not h2.lt h3,h4⟩)
structure OO (w:Wd)(BO BR BQ BM:Nat)(q0 q1 q2:Int)(M0:Array Value)(S:BS)(W:Wd)(ev fv wv pv:Vu)(ne nf nw:Nat)(l:List Pc):Prop where
 p:OP noB w S W [(BO,#[ev,fv,wv,pv],32),(BR,mZ,32),(BQ,qC q0 q1 q2,119),(BM,M0,32)] [(71,ev,ne),(43,fv,nf),(46,wv,nw)] pv l
 oe:Own w.heap.size ev
 of:Own w.heap.size fv
 ow:Own w.heap.size wv
def a0z (kk:Nat):Prop:=∀(U:BS) (w:Wd) (ev fv wv pv:Vu) (ne nf nw:Nat) (l:List Pc) (hI:MapI U w ev fv wv pv ne nf nw l) (q0 q1 q2:Int) (cN:a0l q0) (cH:a0l q1) (cI:a0l q2),q0 % 17=(kk:Int) ->
    Calls prog 46 #[.agg #[ev,fv,wv,pv],.agg (qC q0 q1 q2)] w λe w'=>∃S' iH iI mD iJ ne' nf' nw' l',e= .returned (.agg #[iH,iI,mD,iJ])/\MapR w.heap.size S' w' iH iI mD iJ ne' nf' nw' l'/\OddR ne nf nw l ne' nf' nw' l'/\Ev noB noB w S' w'
theorem a1c {P:Prop}(h:P:=by
 unfold a0z;intro U w ev fv wv pv ne nf nw l hI q0 q1 q2 cN cH cI jh;have bZ:=hI.nf;have an:=hI.ne;have je:=hI.nw;have iK:=hI.np;go_enter func46,ntmps46;go_upto_region 1 with fail;refine a0n (λW1 ao=> ?_);have h1:=(((OY.init (TW.none w)).box #[ev,fv,wv,pv] 32).box (qC q0 q1 q2) 119).box #[.slice none 0 0,.slice none 0 0,.slice none 0 0,.slice none 0 0] 32;obtain⟨ea,ec,rfl,sX⟩:=hI.e.form;obtain⟨fa,fc,rfl,IH⟩:=hI.f.form;obtain⟨wa,wc,rfl,DE⟩:=hI.w.form;obtain⟨pa,pc,rfl,AZ⟩:=hI.p.form;obtain⟨BM,bu⟩:=zE w.heap.size;simp only[World.size_alloc]at h1;rw[<-ao,bu]at h1;rw[bu];obtain⟨BQ,tP⟩:=zE (BM+1);obtain⟨BR,fC⟩:=zE (BM+1+1);rw[fC,tP]at h1;rw[fC,tP];have yu:=hI.up h1.bel;obtain⟨m0,m1,m2,m3⟩:=a1o h1.b2;clear ao;go_upto_region 2 with(first
  |(go_at_call 90;(with_reducible refine(b8b U W1 _ _ _ _ ne nf nw l yu).mono ?_);rintro e WC⟨SC,Qj,Qk,Ql,Qm,rfl,hR,bg⟩;obtain⟨rO,rP,rfl,Mz⟩:=hR.e.form;obtain⟨vZ,gJ,rfl,MA⟩:=hR.f.form;obtain⟨iO,gN,rfl,MB⟩:=hR.w.form;obtain⟨jl,iP,rfl,MC⟩:=(a0g a2n hR.row xM).form))
 have nX:∀b,SC b->w.heap.size<=b:=λb hb=>(bg.new b hb).elim (λh=>h.elim) (λh=>Nat.le_trans h1.size h)
 have IW:OP noB w _ WC _ _ _ l:=⟨((((h1.evn bg).add (a8i hR.w)).add (a8i hR.f)).add (a8i hR.e)),c3y hR.row h1.size,λg hg hs=>hs.elim (λh=>h.elim) (λh=>hR.off g hg h),by simp⟩;refine a0n (λWD IX=> ?_);have EB:=IW.box #[.slice rO ne rP,.slice vZ nf gJ,.slice iO nw gN,.slice jl l.length iP] 32 jM;obtain⟨BO,dW⟩:=zE WC.heap.size;rw[<-IX,dW]at EB;rw[dW];have hO:OO w BO BR BQ BM q0 q1 q2 _ _ WD _ _ _ _ ne nf nw l:=⟨EB,a4i hR.e nX,a4i hR.f nX,a4i hR.w nX⟩;clear EB IW hR bg nX IX dW h1 yu m0 m1 m2 m3;obtain⟨S9,IY⟩:∃S:BS,(λb=>False\/SC b)=S:=⟨_,rfl⟩;rw[IY]at hO;clear IY hI;obtain⟨n,hn,MD⟩:∃n:Nat,q1 % 60=(n:Int)/\n<60:=⟨(q1 % 60).toNat,xM,xM⟩;obtain⟨k,hk,ME⟩:∃n:Nat,q2 % 64=(n:Int)/\n<64:=⟨(q2 % 64).toNat,xM,xM⟩;obtain⟨r,hr,yz⟩:∃n:Nat,q0 % 17=(n:Int)/\n<17:=⟨(q0 % 17).toNat,xM,xM⟩;have D9:=Lib.hid (Int.ofNat_inj.1 (hr.symm.trans jh));clear jh;have dy:=a3w q1 60 WD cH jM jM;have b8:=a3w q2 64 WD cI jM jM;have gC:=a3w q0 17 WD cN jM jM;rw[hn]at dy;rw[hk]at b8;rw[hr]at gC;obtain⟨i0,i1,i2⟩:=zN3 hO.p.b.b2;go_upto_block 0 with(first
  |(go_at_call 85;(with_reducible refine dy.mono ?_);rintro e W'⟨rfl,rfl⟩)
  |(go_at_call 85;(with_reducible refine b8.mono ?_);rintro e W'⟨rfl,rfl⟩)
  |(go_at_call 85;(with_reducible refine gC.mono ?_);rintro e W'⟨rfl,rfl⟩))
 clear dy b8 gC hr hn hk bu tP fC;generalize nd: #[Value.slice ea ne ec,.slice fa nf fc,.slice wa nw wc,.slice pa l.length pc]=M0 at hO;go_cut [] (λwx=>∃S iH iI mD iJ ne' nf' nw' l',OO w BO BR BQ BM q0 q1 q2 M0 S wx iH iI mD iJ ne' nf' nw' l'/\OddR ne nf nw l ne' nf' nw' l')
 case rest =>
  obtain⟨S',iH,iI,mD,iJ,ne',nf',nw',l',eV,hR⟩:=hcut;obtain⟨e1,c1,rfl,-⟩:=eV.p.b.s0.form;obtain⟨e2,c2,rfl,-⟩:=eV.p.b.s1.form;obtain⟨e3,c3,rfl,-⟩:=eV.p.b.s2.form;obtain⟨e4,c4,rfl,-⟩:=(a0g a2n eV.p.row (by have:=hR.p;omega)).form;obtain⟨b0,b1,b2,b3⟩:=a1o eV.p.b.b0;obtain⟨r0,r1,r2,r3⟩:=a1o eV.p.b.b1;have z0:=eV.p.b.b1.frozen 0;have z1:=eV.p.b.b1.frozen 1;have z2:=eV.p.b.b1.frozen 2;have z3:=eV.p.b.b1.frozen 3;have hX:=((((eV.p.tail.put (i:=0) (v:= .slice e1 ne' c1) rfl rfl).put (i:=1) (v:= .slice e2 nf' c2) rfl rfl).put (i:=2) (v:= .slice e3 nw' c3) rfl rfl).put (i:=3) (v:= .slice e4 l'.length c4) (c':= #[.slice e1 ne' c1,.slice e2 nf' c2,.slice e3 nw' c3,.slice e4 l'.length c4]) rfl rfl);go_wp2_with fail;exact bodyPost_ret (results_cell_row qM _ _ BR 32 _ (0,0) _ qM hX.b.b0 underlying32 qM zM) rfl ⟨S',_,_,_,_,ne',nf',nw',l',rfl,⟨hX.b.s0,hX.b.s1,hX.b.s2,hX.row,hX.off⟩,hR,hX.b.o.ev⟩
 case first =>
  obtain⟨b0,b1,b2,b3⟩:=a1o hO.p.b.b0;clear nd;obtain rfl:=D9.out;exact zCase):P:=h
theorem odd10_anyK0.zCase {P:Prop}(h:P:=by
 go_wp2_with (first
  |(go_at_call 91;(with_reducible refine(c3x S9 WD hO.p.b.tw _ _ ne nf hO.p.b.s0 hO.p.b.s1 an bZ q1 q2 _ cH cI (by first|exact a1a _|exact a2a _)).mono ?_);rintro e WE⟨SE,pq,pr,MF,MG,rfl,gw,sJ,eW,EC,tU⟩;obtain⟨a1,a2,rfl,-⟩:=gw.form;obtain⟨a3,a4,rfl,-⟩:=sJ.form;have Bp:=((hO.p.evn tU).add (a8i sJ)).add (a8i gw);obtain⟨y0,y1,y2,y3⟩:=a1o Bp.b.b0;have x0:=Bp.b.b0.frozen 0;have x1:=Bp.b.b0.frozen 1))
 go_meet;exact⟨_,_,_,_,_,MF,MG,nw,l,⟨((Bp.put (i:=0) rfl rfl).put (i:=1) rfl rfl).sub vM,a4i gw (λb hb=>(tU.new b hb).elim (λh=>h.elim) (λh=>Nat.le_trans hO.p.b.size h)),a4i sJ (λb hb=>(tU.new b hb).elim (λh=>h.elim) (λh=>Nat.le_trans hO.p.b.size h)),hO.ow⟩,⟨eW,EC,xM,xM,xM,λh=>h,λh=>h⟩⟩):P:=h
open odd10_anyK0 in
theorem b3k :a0z 0:=a1c
theorem odd10_anyK1.zQ {P:Prop}(h:P:=by
  obtain⟨q,hq,xR⟩:∃q:Nat,Int.tmod (n:Int) 5=(q:Int)/\q<5:=⟨n % 5,by rw[Int.tmod_eq_emod_of_nonneg xM];omega,xM⟩;have lu:(n:Int) % 5=(q:Int):=by rw[<-hq,Int.tmod_eq_emod_of_nonneg xM]
  have Iw:(q:Int)<5:=xM;obtain⟨s,hs,hc⟩:∃s:ByteArray,s.size<=30/\(#[.string ⟨#[]⟩,.string ⟨#[70,105,101,108,100]⟩,.string ⟨#[119,111,111,100]⟩,.string ⟨#[97,98,99,100,101,102,103,104,105,106,107,108,109]⟩,.string ⟨#[108,97,107,101]⟩]:Array Value)[q]? =some (.string s):=by
   match q,xR with
   |0,_=>exact⟨_,jM,rfl⟩
   |1,_=>exact⟨_,jM,rfl⟩
   |2,_=>exact⟨_,jM,rfl⟩
   |3,_=>exact⟨_,jM,rfl⟩
   |4,_=>exact⟨_,jM,rfl⟩
  have tS:∀W Z,Blk W Z c8m 9->W.cell? ⟨Z,q,none⟩=some (.string s):=λW Z h=>(h.cell q).trans hc
  have yB:=hO.oe;have we:=hO.of;have yC:=hO.ow;have hP:=hO.p;go_upto_region 9 with fail;clear ai hc hO c0 c1 c2 c3 c4 i0 i1 i2 b0 b1 b2 b3;refine Go.wp_region_reln 12 zM zM (λ_ g W=>OP noB w g W [(BO,#[.slice rO ne rP,.slice (some ⟨fb,fo,none⟩) nf gJ,.slice iO nw gN,.slice jl l.length iP],32),(BR,mZ,32),(BQ,qC q0 q1 q2,119),(BM,M0,32)] [(71,.slice rO ne rP,ne),(43,.slice (some ⟨fb,fo,none⟩) nf gJ,nf),(46,.slice iO nw gN,nw)] (.slice jl l.length iP) l) (λg W g' W'=>Ev noB g W g' W') (FG1 BO k n p q nf fb fo gJ s) (λ_ _ _ _ _ _ h g=>h.kept g) S9 (hP.up (zR _ _).drew) ?_ ?_
  ·intro i o hi ho c bb g W hc hM hA hD K hK
   match i,hi,ho with
   |0,_,ho =>
    exact ygi
   |1,_,ho =>
    cases ho;have f49:=a0a (v:= .pointer (some ⟨BO,1,none⟩)) (a0e hD 0 49 zM rfl rfl);exact yfq
   |2,_,ho =>
    exact ybk
   |3,_,ho =>
    exact ygi
   |4,_,ho =>
    cases ho;have f52:=a0a (v:= .pointer (some ⟨BO,1,none⟩)) (a0e hD 3 52 zM rfl rfl);exact yfq
   |5,_,ho =>
    cases ho;have f53:=a0a (v:= .slice (some ⟨fb,fo,none⟩) nf gJ) (a0e hD 4 53 zM rfl rfl);go_simp;exact hK (.int .i64 (nf:Nat)) g W rfl (Ev.refl hM.b.tw) hM
   |6,_,ho =>
    cases ho;have f51:=a0a (v:= .int .i64 (k:Nat)) (a0e hD 2 51 zM rfl rfl);have f54:=a0a (v:= .int .i64 (nf:Nat)) (a0e hD 5 54 zM rfl rfl);go_simp;exact hK (.int .i64 (p:Nat)) g W rfl (Ev.refl hM.b.tw) hM
   |7,_,ho =>
    cases ho;go_simp;have hb:Below W.heap.size W (W.alloc (.cells c8m 9)):=(zR _ _).alloc (yR _) _;exact hK (.slice (some ⟨W.heap.size,0,none⟩) 5 5) g _ ⟨_,rfl,Blk.new _ _ _,λhs=>Nat.lt_irrefl _ (hM.b.tw.lt hs)⟩ (Ev.of_below hM.b.tw hb) (hM.up hb)
   |8,_,ho =>
    exact yaw
   |9,_,ho =>
    cases ho;have f57:=a0a (v:= .int .i64 (n:Nat)) (a0e hD 8 57 zM rfl rfl);go_simp;exact hK (.int .i64 (q:Nat)) g W rfl (Ev.refl hM.b.tw) hM
   |10,_,ho =>
    cases ho;have f56:=a0e hD 7 56 zM rfl rfl;have f58:=a0a (v:= .int .i64 (q:Nat)) (a0e hD 9 58 zM rfl rfl);obtain⟨Z,MH,MI,MJ⟩:=f56;have f56:=a0a MH;go_simp;exact hK _ g W ⟨Z,rfl,MI,MJ⟩ (Ev.refl hM.b.tw) hM
   |11,_,ho =>
    cases ho;have f59:=a0e hD 10 59 zM rfl rfl;obtain⟨Z,MK,ML,n59⟩:=f59;have f59:=a0a MK;have ct:=tS W Z ML;go_simp;exact hK (.string s) g W rfl (Ev.refl hM.b.tw) hM
   |i+12,hi,_=>exact absurd hi xM
  ·intro bb g W hM hA aa
   have h50:bb.eval (.tmp 50)= .slice (some ⟨fb,fo,none⟩) nf gJ:=aa 1 xM _ _ rfl rfl;have h55:bb.eval (.tmp 55)= .int .i64 (p:Nat):=aa 6 xM _ _ rfl rfl;have h60:bb.eval (.tmp 60)= .string s:=aa 11 xM _ _ rfl rfl;have az:=hA.frame (rT 49 (rF 12 (rT 313 ([])))) _ rfl zM;clear aa hA;obtain⟨f,hf⟩:=zDt bb;have xP:f 50= .slice (some ⟨fb,fo,none⟩) nf gJ:=by rw[<-hf,<-h50];rfl
   have Bq:f 55= .int .i64 (p:Nat):=by rw[<-hf,<-h55];rfl
   have yE:f 60= .string s:=by rw[<-hf,<-h60];rfl
   rw[hf]at az;clear hf h50 h55 h60;subst az;simp only[rT,rF,a1j,xP,Bq,yE,Nat.reduceAdd];clear xP Bq yE;simp only[zU];obtain⟨Eb,MM,Qn,Qo,Qp,d0,d1,d2,d3,d4,-⟩:=SL.face5 hM.b.tw hM.b.s1 H8;obtain⟨hX,z9⟩:=hM.store a1f hM.b.s1 we p 1 .str rfl (.string s) (CT.ok_str hs);go_wp2_with fail;go_meet;exact⟨_,_,_,_,_,_,_,_,_,⟨hX,yB,we,yC⟩,OddR.refl _ _ _ _⟩):P:=h
theorem odd10_anyK1.zCase {P:Prop}(h:P:=by exact zP1):P:=h
open odd10_anyK1 in
theorem b3l :a0z 1:=a1c
end
end Go.Proofs.YteijfnkidefekaaGreat
