/-
  Parts.
-/
import Derived.Test.YtfocdbjceedagaaGreatDoorXbu
import Derived.ChangeSlices
import Derived.Lib.LaidTab
set_option linter.unusedVariables false
set_option linter.unusedSimpArgs false
set_option maxRecDepth 100000
namespace Go.Proofs.YtfocdbjceedagaaGreatDoor
open Tryz
section
open Go Go.RowKit Go.Shelf Go.Lib
attribute [local go_sem] Oper.semAt_some
attribute [local go_sem ↓] Go.wp_at_zero Go.wp_at_succ
theorem c2v (af:Bool)(c:Nat):(cellAt af c).length≤3:=by
 unfold cellAt;repeat' split
 all_goals simp
theorem a8x (s:ByteArray):∀(f k:Nat) (l:List UInt8),(a3h s f k l).length≤l.length+3*f
 |0,_,l=>by simp[a3h]
 |f+1,k,l=>by
  unfold a3h;split
  ·split
   ·rename_i n _
    have:=a8x s f (k+(wordsL[n]!).size) (l++[a5e[n]!]);rw[List.length_append,List.length_singleton] at this;omega
   ·have:=a8x s f (k+1) (l++cellAt (b1b s k) (s[k]!).toNat)
    have h2:=c2v (b1b s k) (s[k]!).toNat;rw[List.length_append] at this;omega
  ·omega
theorem c2w (s:ByteArray):(a7s s).1.size≤3*s.size:=by
 unfold a7s;split
 ·have:=a8x s s.size 0 []
  rw[List.length_nil,Nat.zero_add] at this;exact this
 ·exact Nat.zero_le _
theorem c9u {p:Pc}(h:p.nm.size≤1000):∀k∈a5s p,k.c.size≤3000:=by
 unfold a5s d0g;intro k hk;split at hk
 ·simp at hk
 ·split at hk
  ·simp only[Option.toList_some,List.mem_singleton] at hk
   subst hk;have:=c2w p.nm;simp only;omega
  ·simp at hk
theorem c2x {g:Int}{pf:Pc→Bool×List Dt}{kf:Pc→List Ke}(wd:List Dt)(qs:List Pc):∀k∈(a1t g pf kf wd qs).keys,∃p∈qs,k∈kf p:=by
 refine a7n (Q:=fun qs=>∀k∈(a1t g pf kf wd qs).keys,∃p∈qs,k∈kf p) (by simp[a1t]) ?_ qs;intro l x ih;rw[a2n]
 cases ho:b5n g pf (a1t g pf kf wd l).dots x with
 |some z =>
  rw[a3c ho];intro k hk;obtain⟨p,hp,h⟩:=ih k hk;exact⟨p,by simp[hp],h⟩
 |none =>
  rw[a3j ho];intro k hk;rcases List.mem_append.1 hk with hk|hk
  ·obtain⟨p,hp,h⟩:=ih k hk
   exact⟨p,by simp[hp],h⟩
  ·exact⟨x,by simp,hk⟩
theorem c6n {s:Sh}{ws:List Wy}{l:List Pc}(hl:∀p∈l,PcOk p)(hw:∀y∈ws,a0k y.id):∀x∈(a3f s ws (a1d l)).left,a0k x.i :=
 c2u _ (c6g s ws) (c6h s) (d1z s ws hw) _ fun p hp=>(hl p ((a1q l).mem_iff.1 hp)).id
theorem d0n {s:Sh}(hs:OkS s){ws:List Wy}{l:List Pc}(hl:l.length≤100)(hok:∀p∈l,PcOk p)(hw:∀y∈ws,a0k y.id):PlW 0 (a3f s ws (a1d l)):=by
 obtain⟨h1,h2,h3⟩:=b4j s ws (a1d l);have h4:=b1k hs ws;have h5:(a1d l).length=l.length:=(a1q l).length_eq;refine⟨fun d hd=> ?_,by omega,fun k hk=> ?_,by omega,c6n hok hw,by omega⟩
 ·have ho:onS s d.x d.y=true:=by
   rcases b0o _ _ d hd with h|⟨p,-,h⟩
   ·exact d2r s _ d h
   ·exact c8n s p d h
  obtain⟨⟨h0,h1⟩,h2,h3⟩:=b0h.1 ho;have:=hs.w1;have:=hs.h1;exact⟨⟨by omega,by omega⟩,by omega,by omega⟩
 ·obtain⟨p,hp,hk2⟩:=c2x _ _ k hk
  have:=c9u (hok p ((a1q l).mem_iff.1 hp)).nm k hk2;omega
theorem d3n:PlW 0 ⟨[],[],[]⟩:=⟨fun _ h=>by simp at h,by simp,fun _ h=>by simp at h,by simp,fun _ h=>by simp at h,by simp⟩
theorem c9v (W:World):PlanIn W (a2f (.slice none 0 0) (.slice none 0 0) (.slice none 0 0)) ⟨[],[],[]⟩ :=
 ⟨_,_,_,rfl,⟨⟨_,_,rfl,yR _,by simp,fun k hk=>by simp at hk⟩,.inl rfl⟩,⟨⟨_,_,rfl,yR _,by simp,fun k hk=>by simp at hk⟩,.inl rfl⟩,⟨_,_,rfl,yR _,by simp,fun k hk=>by simp at hk⟩,.inl rfl⟩
theorem c9w (s:Sh)(f0:a0k s.ax)(f1:a0k s.ay)(ev fv wv:Value)(pa:Option Addr)(n pc:Nat)(c:Int)(hc:a9d s n=c)(hs:c≠0)(w:World) :
 Calls prog 10 #[c0p ev fv wv (.slice pa n pc),shV s] w fun e w'=>e= .returned (.tuple #[a2f (.slice none 0 0) (.slice none 0 0) (.slice none 0 0),.int .i64 c])∧Below w.heap.size w w':=by
 have hBg:=fun w=>a5t s ev fv wv pa n pc w f0 f1
 rw[hc] at hBg;have hc0:(c != 0)=true:=by simpa using hs
 clear hc hs;go_enter func10,ntmps10;go_wp2_with (first
  |(go_at_call 33;(with_reducible refine (hBg _).mono ?_);rintro e W1⟨rfl,hb1⟩
    have k3:=(Blk.new ((w.alloc (.cells #[ev,fv,wv,.slice pa n pc] 37)).alloc (.cells #[.int .i64 s.ax,.int .i64 s.ay,.int .i64 s.st,.int .i64 s.w,.int .i64 s.h,.int .i64 s.g] 28)) #[.slice none 0 0,.slice none 0 0,.slice none 0 0] 45).below hb1 (by simp);have hbw:Below w.heap.size w W1:=((((zR _ _).alloc (yR _) _).alloc (by simp) _).alloc (by simp;omega) _).trans (hb1.mono (by simp;omega));simp only[World.size_alloc] at k3;have r0:W1.cell? ⟨w.heap.size+1+1,0,none⟩=some (.slice none 0 0):=k3.cell 0;have r1:W1.cell? ⟨w.heap.size+1+1,1,none⟩=some (.slice none 0 0):=k3.cell 1;have r2:W1.cell? ⟨w.heap.size+1+1,2,none⟩=some (.slice none 0 0):=k3.cell 2;have z0:=k3.frozen 0;have z1:=k3.frozen 1;have z2:=k3.frozen 2;have hz:=hbw.size)
  |fail)
 have hgA:=((a0h W1 (w.heap.size+1+1) 0 (.slice none 0 0)).trans (a0h _ (w.heap.size+1+1) 1 (.slice none 0 0))).trans (a0h _ (w.heap.size+1+1) 2 (.slice none 0 0));have kA:=((k3.set 0 (.slice none 0 0)).set 1 (.slice none 0 0)).set 2 (.slice none 0 0);exact bodyPost_ret (a1o (by rfl) _ _ _ 45 _ (0,0) _ (by rfl) kA underlying45 (by rfl) (by kernel_rfl)) rfl ⟨rfl,hbw.grown hgA hz fun r e=>by cases e;omega⟩
theorem d2b (s:Sh)(f0:a0k s.ax)(f1:a0k s.ay)(hs:a1x s=0)(ev fv wv pv:Value)(l:List Pc)(ws:List Wy)(w:World)(hM:MapOd w wv pv l ws)(hPow:∀W,Below w.heap.size w W→Pow W) :
 Calls prog 10 #[c0p ev fv wv pv,shV s] w fun e w'=>∃v pl c,e= .returned (.tuple #[v,.int .i64 c])∧PlanIn w' v pl∧PlW 0 pl∧Below w.heap.size w w':=by
 obtain⟨pa,pc,rfl,-⟩:=hM.p.form;by_cases hl:l.length≤80
 ·refine (a8o s f0 f1 hs ev fv wv (.slice pa l.length pc) l ws w hM.p hM.frm hl hM.ok hM.w (fun y hy=>(hM.wo y hy).1) hM.wl (fun y hy=>(hM.wo y hy).2) hPow).mono ?_
  rintro e w'⟨v,rfl,h1,h2⟩;exact⟨v,_,0,rfl,h1,d0n (a6o hs) hM.len (fun p hp=>(hM.ok p hp).1) (fun y hy=>(hM.wo y hy).1),h2⟩
 ·refine (c9w s f0 f1 ev fv wv pa l.length pc 2 (by unfold a9d;rw[if_pos hs,if_pos (by omega)]) (by decide) w).mono ?_
  rintro e w'⟨rfl,h2⟩;exact⟨_,_,2,rfl,c9v w',d3n,h2⟩
end
section
open Go
section
variable {g:Int}{pf:Pc→Bool×List Dt}{kf:Pc→List Ke}{x:Pn}
theorem c6o:∀(rs:List Pc) (st st':CD),rs.foldlM (a2q pf x) st=some st'→∃D,st'.want=st.want++D∧(∀d∈D,∃q∈rs,d∈(pf q).2)∧st'.last=(rs.map Pc.id).reverse++st.last
 |[],st,st',h=>by
  cases h;exact⟨[],by simp,by simp,by simp⟩
 |p::rs,st,st',h=>by
  rw[List.foldlM_cons] at h;obtain⟨s1,h1,h2⟩:∃s1,a2q pf x st p=some s1∧rs.foldlM (a2q pf x) s1=some st':=by
   cases hc:a2q pf x st p with
   |none=>rw[hc] at h;cases h
   |some s1=>rw[hc] at h;exact⟨s1,rfl,h⟩
  obtain⟨D,e1,e2,e3⟩:=c6o rs s1 st' h2;have hs:(∃D0,s1.want=st.want++D0∧∀d∈D0,d∈(pf p).2)∧s1.last=p.id::st.last:=by
   unfold a2q at h1;split at h1
   ·cases h1
   ·split at h1
    ·split at h1
     ·cases h1
      exact⟨⟨[],by simp,by simp⟩,rfl⟩
     ·cases h1
    ·split at h1
     ·cases h1
      exact⟨⟨_,rfl,fun d hd=>hd⟩,rfl⟩
     ·cases h1
  obtain⟨⟨D0,e4,e5⟩,e6⟩:=hs;refine⟨D0++D,by rw[e1,e4,List.append_assoc],fun d hd=> ?_,by rw[e3,e6];simp⟩;rcases List.mem_append.1 hd with hd|hd
  ·exact⟨p,by simp,e5 d hd⟩
  ·obtain⟨q,hq,h3⟩:=e2 d hd
   exact⟨q,List.mem_cons_of_mem _ hq,h3⟩
theorem d0o:∀(qs:List Pc) (bef bef':List Int),qs.foldlM (a2e g pf x) bef=some bef'→bef'=(qs.map Pc.id).reverse++bef
 |[],bef,bef',h=>by
  cases h;simp
 |p::qs,bef,bef',h=>by
  rw[List.foldlM_cons] at h;obtain⟨s1,h1,h2⟩:∃s1,a2e g pf x bef p=some s1∧qs.foldlM (a2e g pf x) s1=some bef':=by
   cases hc:a2e g pf x bef p with
   |none=>rw[hc] at h;cases h
   |some s1=>rw[hc] at h;exact⟨s1,rfl,h⟩
  have hs:s1=p.id::bef:=by
   unfold a2e at h1;split at h1
   ·cases h1;rfl
   ·split at h1
    ·cases h1;rfl
    ·split at h1
     ·cases h1;rfl
     ·cases h1
  rw[d0o qs s1 bef' h2,hs];simp
theorem d4r {ps qs rs:List Pc}{p:Pc}(h:a2v g pf x ps=true)(e:ps=qs++p::rs):∃s,a2e g pf x (qs.map Pc.id).reverse p=some s:=by
 unfold a2v at h;rw[e,List.foldlM_append,Option.isSome_iff_exists] at h;obtain⟨s,hs⟩:=h
 cases hq:qs.foldlM (a2e g pf x) [] with
 |none=>rw[hq] at hs;cases hs
 |some b =>
  rw[hq] at hs;have hb:=d0o qs [] b hq;rw[List.append_nil] at hb;have hs':(p::rs).foldlM (a2e g pf x) b=some s:=hs;rw[List.foldlM_cons] at hs';rw[←hb]
  cases hc:a2e g pf x b p with
  |none=>rw[hc] at hs';cases hs'
  |some s1=>exact⟨s1,rfl⟩
theorem c9x {pl:Pn}{id:Int}{k:Nat}(h:why pl id=some k):∃y,pl.left[k]? =some y∧y.p=id:=by
 unfold why at h;obtain⟨hk,h1,-⟩:=List.findIdx?_eq_some_iff_getElem.1 h;exact⟨pl.left[k],List.getElem?_eq_getElem hk,by simpa using h1⟩
theorem d2c {a b:Pn}(h:a.left.map Lf.p=b.left.map Lf.p)(id:Int):why a id=why b id:=by
 unfold why;have e:∀l:List Lf,l.findIdx? (fun y=>decide (y.p=id))=(l.map Lf.p).findIdx? (fun y=>decide (y=id)):=fun l=>by
  rw[List.findIdx?_map];rfl
 rw[e,e,h]
theorem c6p (wd:List Dt)(hw:∀d∈wd,d.k=2)(ps:List Pc)(hk:∀p∈ps,∀d∈(pf p).2,d.k=3∧d.i=p.id)(hn:(ps.map Pc.id).Nodup)(hx:a7m g pf kf x wd ps=0) :
 x.dots=(a1t g pf kf wd ps).dots∧x.keys=(a1t g pf kf wd ps).keys∧x.left.map Lf.p=(a1t g pf kf wd ps).left.map Lf.p:=by
 unfold a7m at hx;split at hx
 rotate_left 1
 ·cases hx
 rename_i hcd;split at hx
 rotate_left 1
 ·cases hx
 rename_i hgp;split at hx
 rotate_left 1
 ·cases hx
 rename_i hky;split at hx
 rotate_left 1
 ·cases hx
 rename_i hre;clear hx;unfold cdF at hcd;split at hcd
 ·cases hcd
 rename_i st hst;simp only[Bool.and_eq_true,decide_eq_true_eq] at hcd;obtain⟨hleft,hwant⟩:=hcd;have key:∃s,ps.foldlM (a2q pf x) ⟨wd,0,[]⟩=some s∧s.want=(a1t g pf kf wd ps).dots∧s.left=(a1t g pf kf wd ps).left.length∧(x.left.take s.left).map Lf.p=(a1t g pf kf wd ps).left.map Lf.p:=by
  refine b2q (Q:=fun qs=>∃s,qs.foldlM (a2q pf x) ⟨wd,0,[]⟩=some s∧s.want=(a1t g pf kf wd qs).dots∧s.left=(a1t g pf kf wd qs).left.length∧(x.left.take s.left).map Lf.p=(a1t g pf kf wd qs).left.map Lf.p) ps ⟨_,rfl,rfl,rfl,rfl⟩ ?_;rintro qs p rs e⟨s,h1,h2,h3,h4⟩
  -- one step on
  have hst':=hst;rw[e,List.foldlM_append,h1] at hst';have hst2:(p::rs).foldlM (a2q pf x) s=some st:=hst';rw[List.foldlM_cons] at hst2;obtain⟨s1,g1,g2⟩:∃s1,a2q pf x s p=some s1∧rs.foldlM (a2q pf x) s1=some st:=by
   cases hc:a2q pf x s p with
   |none=>rw[hc] at hst2;cases hst2
   |some s1=>rw[hc] at hst2;exact⟨s1,rfl,hst2⟩
  obtain⟨D,d1,d2,-⟩:=c6o rs s1 st g2;have hl0:=(c6o qs _ s h1);obtain⟨-,-,-,hlast⟩:=hl0;have hn':=hn;rw[e,List.map_append,List.map_cons] at hn';obtain⟨hnq,hnp,hnd⟩:=List.nodup_append.1 hn';obtain⟨hpr,-⟩:=List.nodup_cons.1 hnp;have hnot:p.id∉(qs.map Pc.id).reverse:=fun hm=>hnd _ (List.mem_reverse.1 hm) _ (by simp) rfl
  refine⟨s1,by rw[List.foldlM_append,h1];show (a2q pf x s p >>= fun s=>pure s)=_;rw[g1];rfl,?_⟩;unfold a2q at g1;rw[hlast] at g1;rw[if_neg (by simpa using hnot)] at g1;rw[a2n]
  cases hy:why x p.id with
  |some k =>
   rw[hy] at g1;simp only at g1;split at g1
   rotate_left 1
   ·cases g1
   rename_i hks
   cases g1;obtain⟨y,hy1,hy2⟩:=c9x hy
   cases ho:b5n g pf (a1t g pf kf wd qs).dots p with
   |some z =>
    rw[a3c ho];refine⟨h2,by simp[h3],?_⟩;have hkl:s.left<x.left.length:=by rw[←hks];exact (List.getElem?_eq_some_iff.1 hy1).1
    rw[←List.take_append_getElem hkl,List.map_append,h4,List.map_append];congr 1;have:x.left[s.left]=y:=by
     rw[hks,List.getElem?_eq_getElem hkl] at hy1;exact Option.some.inj hy1
    simp[this,hy2,c4a ho]
   |none =>
    exfalso;obtain⟨o1,o2⟩:=c4c ho;obtain⟨s2,hs2⟩:=d4r hre e;unfold a2e at hs2;rw[hy] at hs2;simp only[Option.bind_some,hy1] at hs2;rw[if_neg hnot] at hs2;split at hs2
    rotate_left 1
    ·cases hs2
    rename_i hok;unfold b7w at hok;split at hok
    ·rw[o1] at hok;cases hok
    ·simp only[Bool.and_eq_true,Bool.or_eq_true,decide_eq_true_eq] at hok
     obtain⟨⟨-,hkind⟩,hcl⟩:=hok;unfold a4g at hcl;rw[List.find?_isSome] at hcl;obtain⟨d,hd,hd2⟩:=hcl;obtain⟨hdm,hdk⟩:=List.mem_filter.1 hd;simp only[Bool.and_eq_true,decide_eq_true_eq] at hdk;have hdq:d∈(a1t g pf kf wd qs).dots:=by
      rw[←hwant,d1] at hdm;rcases List.mem_append.1 hdm with h|h
      ·rw[←h2];exact h
      ·obtain⟨q,hq,hdq⟩:=d2 d h
       obtain⟨e1,e2⟩:=hk q (by rw[e];simp[hq]) d hdq;rcases hkind with h5|⟨⟨h5,h6⟩,h7⟩
       ·exfalso
        have h9:=hdk.1;omega
       ·exfalso
        rcases List.mem_cons.1 h7 with h8|h8
        ·exact h6 h8
        ·rw[List.mem_reverse] at h8
         rw[←hdk.2,e2] at h8;exact hnd _ h8 q.id (by simp;exact .inr ⟨q,hq,rfl⟩) rfl
     have hno:=b8g o2 d hdq;obtain⟨b,hb,hb2⟩:=List.any_eq_true.1 hd2;rw[hno b hb] at hb2
     cases hb2
  |none =>
   rw[hy] at g1;simp only at g1;split at g1
   rotate_left 1
   ·cases g1
   rename_i hon
   cases g1
   cases ho:b5n g pf (a1t g pf kf wd qs).dots p with
   |none =>
    rw[a3j ho];exact⟨by simp[h2],h3,h4⟩
   |some z =>
    exfalso;unfold b5n at ho;rw[if_pos hon] at ho;obtain⟨d,hd,-⟩:=Option.map_eq_some_iff.1 ho;have hdm:=List.mem_of_find?_eq_some hd;have hdn:=List.find?_some hd;obtain⟨b,hb,hb2⟩:=List.any_eq_true.1 hdn;have hpw:=c4b.1 hgp;rw[←hwant,d1] at hpw;simp only at hpw;rw[h2,List.append_assoc,List.pairwise_append] at hpw;have h5:=hpw.2.2 d hdm b (List.mem_append_left _ hb);obtain⟨e1,-⟩:=hk p (by rw[e];simp) b hb;unfold c3z at h5;rw[c1k,hb2,e1] at h5;simp at h5
 obtain⟨s,h1,h2,h3,h4⟩:=key;obtain rfl:s=st:=Option.some.inj (h1.symm.trans hst);rw[hleft,List.take_length] at h4;refine⟨by rw[←hwant,h2],?_,h4⟩;rw[←hky,←c4d wd ps hn];unfold a4l;congr 1;funext p
 rw[d2c h4]
end
end
end Go.Proofs.YtfocdbjceedagaaGreatDoor
namespace Go
section
open Go.RowKit
section
variable {P:Program}{ops:Array Oper}
def Region.relAB (ops:Array Oper)(n sz:Nat):Bool :=
 decide (n=ops.size)&&(List.range n).all (Region.headB ops n sz)&&Region.seqB .any ops (ops.size-n) n (Array.replicate n true++Array.replicate (ops.size-n) false)
theorem c2y {Q:Exit→Act→World→Prop}{a:Act}{l:List Oper}{n:Nat}(hn:n=l.toArray.size)
 (hh:∀i,i<n→∃o d,HeadOk l.toArray n a.tmps.size i o d) (hseq:Region.seqB .any l.toArray (l.toArray.size-n) n (Array.replicate n true++Array.replicate (l.toArray.size-n) false)=true)
 (I:Nat→World→Prop) (G:World→World→Prop) (F:Nat→Value→World→Prop) (hF:∀i v w w',F i v w→G w w'→F i v w')
 (hstep:∀i o,i<n→l.toArray[i]? =some o→∀c b w',c<n→I c w'→Agree l.toArray n a b→(∀e∈o.after,Region.binds .any e=true→a5k l.toArray F e.on b w') →
  ∀K:Act→World→Prop,(∀v w'',F i v w''→G w' w''→I (c+1) w''→K (b.put o.dst v) w'')→Oper.wp P o b w' K Q)
 (htail:∀b w',I n w'→Agree l.toArray n a b→(∀i,i<n→a5k l.toArray F i b w')→wpList P l.toArray Q (l.drop n) b w') :
 ∀(f c:Nat) (s:Array Bool) (b:Act) (w':World),c+f=n→b5m s n=c→HeadInv .any l.toArray n s→I c w'→Agree l.toArray n a b→(∀j,j<n→s.getD j false=true→a5k l.toArray F j b w') →
  wpAny P .any l.toArray Q (f+(l.toArray.size-n)) s b w':=by
 intro f;induction f with
 |zero =>
  intro c s b w' hcf hcnt inv hI hA hL;obtain rfl:c=n:=by omega
  have hall:=a9s hcnt;have hsl:s=Array.replicate c true++Array.replicate (l.toArray.size-c) false:=by
   apply Array.ext
   ·rw[inv.size];simp;simp at hn;omega
   ·intro i h1 h2
    by_cases hi:i<c
    ·have:=hall i hi
     rw[Array.getElem_append_left (by simpa using hi)];simpa [Array.getD,h1] using this
    ·have:=inv.tail i (by omega) (by rw[←inv.size];exact h1)
     rw[Array.getElem_append_right (by simp;omega)];simpa [Array.getD,h1] using this
  rw[Nat.zero_add,hsl];have h:=wpAny_of_seq (P:=P) (md:= .any) (Q':=Q) (ops:=l.toArray) (l.drop c) c (Array.replicate c true++Array.replicate (l.toArray.size-c) false) b w' (fun j=>by simp[List.getElem?_drop])
   (by rw[List.length_drop,show l.length=l.toArray.size from by simp];exact hseq) (htail b w' hI hA (fun i hi=>hL i hi (hall i hi)))
  rw[List.length_drop,show l.length=l.toArray.size from by simp] at h;exact h
 |succ f ih =>
  intro c s b w' hcf hcnt inv hI hA hL;obtain⟨i0,hi0,hf0⟩:=a7f (s:=s) (n:=n) (by omega);have hne:=b5q hh inv (i0+1) i0 (by omega) hi0 hf0;rw[show f+1+(l.toArray.size-n)=f+(l.toArray.size-n)+1 from by omega];refine⟨fun h=>absurd h hne,fun i hi=> ?_⟩;have hlt0:i0<s.size:=by rw[inv.size];omega
  obtain⟨hun,oi,hoi,haf⟩:=mem_ready.1 hi;have hin:i<n:=by rw[hn];exact (Array.getElem?_eq_some_iff.1 hoi).1
  obtain⟨o,d,ho⟩:=hh i hin;obtain rfl:oi=o:=Option.some.inj (hoi.symm.trans ho.op);have hlt:i<s.size:=by rw[inv.size];omega
  have hd:d<b.tmps.size:=by rw[hA.size];exact ho.lt
  unfold wpOp;simp only[hoi];rw[if_pos (by simp[Region.wanted,ho.guard])];refine .inl (hstep i oi hin hoi c b w' (by omega) hI hA (fun e he hb=>hL e.on (by have:=ho.after e he hb;omega) (haf e he hb)) _ ?_);intro v w'' h1 h2 h3;rw[ho.dst];have hoth:∀k,k≠d→(b.put (some d) v).eval (.tmp k)=b.eval (.tmp k):=fun k hk=>Act.eval_put (fun d' e=>by cases e;intro e2;cases e2;exact hk rfl)
  refine ih (c+1) _ _ _ (by omega) ?_ (inv.set hi hin) h3 ⟨by rw[Act.put_defers',hA.defers],by rw[Act.put_size,hA.size],fun k hk=> ?_⟩ ?_
  ·rw[a9t hlt (getD_both hun) hin,hcnt]
  ·rw[hoth k (fun e=>hk i oi hin hoi (by rw[ho.dst,e]))]
   exact hA.same k hk
  ·intro j hj hlj o' d' ho' hd'
   by_cases hji:j=i
   ·subst hji
    obtain rfl:o'=oi:=Option.some.inj (ho'.symm.trans hoi);obtain rfl:d'=d:=Option.some.inj (hd'.symm.trans ho.dst);rw[Act.eval_put_same hd];exact h1
   ·have hne':d'≠d:=fun e=>ho.other j o' hj hji ho' (by rw[hd',e])
    rw[hoth d' hne'];rw[getD_set_ne false (fun e=>hji e.symm)] at hlj;exact hF j _ _ _ (hL j hj hlj o' d' ho' hd') h2
theorem wp_region_relA {id:Nat}{Q:Exit→Act→World→Prop}{a:Act}{w:World}{l:List Oper}(n:Nat)(hm:P.follows .mixedOrders=true)(hB:Region.relAB l.toArray n a.tmps.size=true)
 (I:Nat→World→Prop) (G:World→World→Prop) (F:Nat→Value→World→Prop) (hF:∀i v w w',F i v w→G w w'→F i v w') (h0:I 0 w.drew)
 (hstep:∀i o,i<n→l.toArray[i]? =some o→∀c b w',c<n→I c w'→Agree l.toArray n a b→(∀e∈o.after,Region.binds .any e=true→a5k l.toArray F e.on b w') →
  ∀K:Act→World→Prop,(∀v w'',F i v w''→G w' w''→I (c+1) w''→K (b.put o.dst v) w'')→Oper.wp P o b w' K Q)
 (htail:∀b w',I n w'→Agree l.toArray n a b→(∀i,i<n→a5k l.toArray F i b w')→wpList P l.toArray Q (l.drop n) b w') :
 (Code.region id l.toArray true).wp P Q a w:=by
 simp only[Region.relAB,Bool.and_eq_true,decide_eq_true_eq] at hB;obtain⟨⟨hn,hh⟩,hseq⟩:=hB;have hh':∀i,i<n→∃o d,HeadOk l.toArray n a.tmps.size i o d:=fun i hi=>Region.headB_spec (List.all_eq_true.1 hh i (List.mem_range.2 hi))
 have inv0:HeadInv .any l.toArray n (Array.replicate l.toArray.size false) :=
  ⟨by simp,fun j oj _ hl=>(by rw[getD_replicate_false] at hl;cases hl),fun t _ ht=>getD_in (by simpa using ht) (getD_replicate_false _ _)⟩
 refine wp_region_any hm ?_;have h:=c2y (P:=P) (Q:=Q) (a:=a) hn hh' hseq I G F hF hstep htail n 0 _ a w.drew (by omega) (a7g n) inv0 h0 (Agree.refl _ _ _) (fun j hj hl=>by rw[getD_replicate_false] at hl;cases hl);rw[show n+(l.toArray.size-n)=l.toArray.size from by omega] at h;exact h
end
end
end Go
namespace Go.Proofs.YtfocdbjceedagaaGreatDoor
open Tryz
section
open Go.RowKit Go.Shelf
section
variable {H:Type}{enc:TypeId×Value→H}{P:Program}{W:World}{base:Nat}{sp:Nat→Bool}{hd:Bool}{t e:TypeId}{v:Value}
theorem c6q {fuel:Nat}{x:DataW H×List MemPlace}(ht:P.underlying t=some (.slice e))(he:P.underlying e=some (.int .i64))(hc:P.cellsOf e=1)
 (h:DataW.trod enc P W base sp hd fuel t [v]=some x):∃xs,Intz W.heap.size W v xs:=by
 rcases Go.ChangeShapes.open_ints ht he hc h with ⟨h1,-⟩|⟨a,len,cap,zs,h1,-,h2,h2m,h3,-,h4,h5⟩
 ·obtain rfl:v= .slice none 0 0:=by simpa using h1
  exact⟨[],Intz.nil _ _⟩
 ·obtain rfl:v= .slice (some a) len cap:=by simpa using h1
  have hz:len≤zs.length:=by rw[h3];split <;> omega
  refine⟨zs.take len,⟨some a,cap,by rw[List.length_take,Nat.min_eq_left hz],fun j hj=> ?_⟩,?_⟩
  ·have hj':j<len:=by rw[List.length_take] at hj;omega
   obtain⟨b,off,rfl,h6⟩:=Go.ints_at h4 (by omega);have h7:=h6 j (by omega);have hg:zs.getD j 0=zs[j]:=by rw[List.getD_eq_getElem?_getD,List.getElem?_eq_getElem (by omega)];rfl
   rw[List.getElem_take];rw[hg] at h7;exact⟨b,off,rfl,World.block_lt_of_cell? _ _ h7,c8a _ (h5 _ (List.getElem_mem _)),h7⟩
  ·rw[List.length_take,Nat.min_eq_left hz]
   unfold maxLen at h2m;show len≤9223372036854775807;omega
theorem d2d {t2:TypeId}(ht2:P.underlying t2=some (.slice t))(hc2:P.cellsOf t=1)(ht:P.underlying t=some (.slice e))(he:P.underlying e=some (.int .i64))(hc:P.cellsOf e=1)(hv:∀cs,v≠.agg cs)
 (h:∃d p,DataW.Trod enc P W base sp hd t2 v d p):∃rows,Mat W.heap.size W v rows∧b4d rows.length:=by
 obtain⟨d,p,fuel,h⟩:=h;have hcs:v.cells.toList=[v]:=by cases v <;> first|rfl|exact absurd rfl (hv _)
 rw[hcs] at h;rcases Go.Deep.open_slice1 ht2 hc2 h with ⟨h1,-⟩|⟨a,len,cap,m,n,V,D,Pl,h1,-,h2,h2m,h3,-,h4⟩
 ·obtain rfl:v= .slice none 0 0:=by simpa using h1
  exact⟨[],⟨none,0,rfl,yR _,fun j hj=>by simp at hj⟩,Nat.zero_le _⟩
 ·obtain rfl:v= .slice (some a) len cap:=by simpa using h1
  have hm:len≤m:=by rw[h3];split <;> omega
  have each:∀i,i<len→∃r:Value×List Int,W.cell? (a.add i)=some r.1∧Intz W.heap.size W r.1 r.2:=fun i hi=>by
   obtain⟨h5,h6⟩:=h4 i (by omega);obtain⟨xs,hx⟩:=c6q ht he hc h6;exact⟨(V i,xs),h5,hx⟩
  have inh:Inhabited (Value×List Int):=⟨(.bool false,[])⟩;obtain⟨f,hf⟩:=Go.Deep.choose_lt each;refine⟨(List.range len).map f,⟨some a,cap,by simp,by simpa using h2,fun j hj=> ?_⟩,?_⟩
  ·have hj':j<len:=by simpa using hj
   obtain⟨c0,hi⟩:=hf j hj';have hspot:a.spot=none:=by
    have d0:=(hf 0 (by omega)).1;simpa [Addr.add] using World.cell?_spot d0
   obtain⟨b,off,spot⟩:=a;simp only at hspot;subst hspot;rw[Go.WideShapes.add_plain] at c0;have hg:((List.range len).map f)[j]=f j:=by simp
   rw[hg];exact⟨b,off,rfl,World.block_lt_of_cell? _ _ c0,c0,hi⟩
  ·rw[List.length_map,List.length_range]
   unfold maxLen at h2m;show len≤9223372036854775807;omega
end
section
variable {P:Program}{W:World}{r:Reach}{base:Nat}{t:TypeId}{v:Value}
end
section
variable {P:Program}{W:World}{r:Reach}{base:Nat}{t:TypeId}{v:Value}
theorem a1h (ht:P.underlying t=some (.int .i64))(h:Cell.okWide P W r base t v):∃x,v= .int .i64 x∧a0k x:=by
 unfold Cell.okWide at h;rw[ht] at h
 cases v <;> simp[Cell.ok,ht] at h
 rename_i k n;obtain⟨rfl,h2⟩:=h;refine⟨n,rfl,?_⟩;simp[IntKind.has,IntKind.min,IntKind.max,IntKind.signed,IntKind.bits] at h2;exact⟨by omega,by omega⟩
theorem b5l (ht:P.underlying t=some (.int .u8))(h:Cell.okWide P W r base t v):∃x,v= .int .u8 x∧0≤x∧x≤255:=by
 unfold Cell.okWide at h;rw[ht] at h
 cases v <;> simp[Cell.ok,ht] at h
 rename_i k n;obtain⟨rfl,h2⟩:=h;refine⟨n,rfl,?_⟩;simp[IntKind.has,IntKind.min,IntKind.max,IntKind.signed,IntKind.bits] at h2;exact⟨by omega,by omega⟩
theorem b1y (hrow:(match P.underlying t with|some (.struct _)|some (.array _ _)=>true|_=>false)=true)(h:Value.okWide P W r base t v):∃cs,v= .agg cs∧cs.size=P.cellsOf t∧Row.okWide P W r base t cs:=by
 unfold Value.okWide at h;split at hrow <;> simp_all
end
section
variable {H:Type}{enc:TypeId×Value→H}{P:Program}{W:World}{base:Nat}{sp:Nat→Bool}{hd:Bool}{t e:TypeId}{v:Value}
theorem b7u {ts:List TypeId}{vs:List Value}{ds:List (DataW H)}{ps:List MemPlace}(h:DataW.TrodAll enc P W base sp hd (t::ts) (v::vs) ds ps):∃d p,DataW.Trod enc P W base sp hd t v d p:=by
 cases ds with
 |nil=>exact h.elim
 |cons d ds=>obtain⟨p,q,h1,-,-⟩:=h;exact⟨d,p,h1⟩
theorem c9y {t2:TypeId}{fuel:Nat}{x:DataW H×List MemPlace}(ht2:P.underlying t2=some (.slice t))(hc2:P.cellsOf t=1)(ht:P.underlying t=some (.slice e))(he:P.underlying e=some (.int .i64))(hc:P.cellsOf e=1)
 (h:DataW.trod enc P W base sp hd fuel t2 [v]=some x):∃rows,Mat W.heap.size W v rows∧b4d rows.length:=by
 have hv:∀cs,v≠.agg cs:=by
  rcases Go.Deep.open_slice1 ht2 hc2 h with ⟨h1,-⟩|⟨a,len,cap,m,n,V,D,Pl,h1,-⟩
  ·obtain rfl:v= .slice none 0 0:=by simpa using h1
   intro cs hcs
   cases hcs
  ·obtain rfl:v= .slice (some a) len cap:=by simpa using h1
   intro cs hcs
   cases hcs
 have hcs:v.cells.toList=[v]:=by cases v <;> first|rfl|exact absurd rfl (hv _)
 exact d2d ht2 hc2 ht he hc hv ⟨x.1,x.2,fuel,by rw[hcs];exact h⟩
end
theorem c9z {H:Type}{enc:TypeId×Value→H}{W:World}{r:Reach}{base base2:Nat}{sp:Nat→Bool}{hd:Bool}{v:Value}(h:Value.okWide prog W r base 30 v)(ht:∃d p,DataW.Trod enc prog W base2 sp hd 30 v d p) :
 ∃rv rows q0 q1 q2 b0 b1 b2 b3 raw,v= .agg (a8w rv q0 q1 q2 b0 b1 b2 b3 raw)∧Mat W.heap.size W rv rows∧(a0k q0∧a0k q1∧a0k q2)∧((0≤b0∧b0≤255)∧(0≤b1∧b1≤255)∧(0≤b2∧b2≤255)∧(0≤b3∧b3≤255))∧a0k raw.ax∧a0k raw.ay:=by
 obtain⟨cs,rfl,hn,ts,hts,-,hcell⟩:=b1y (by kernel_rfl) h;obtain rfl:ts=[22,3,3,3,5,5,5,5,3,3,3,3,3,3]:=Option.some.inj (hts.symm.trans (by kernel_rfl));have hn':cs.size=14:=hn.trans (by kernel_rfl);obtain⟨l⟩:=cs;match l,hn',hcell,ht with
 |[c0,c1,c2,c3,c4,c5,c6,c7,c8,c9,c10,c11,c12,c13],_,hcell,⟨d,p,fuel,ht⟩ =>
  have hfs:prog.underlying 30=some (.struct (prog.fieldsOf 30)):=by kernel_rfl
  obtain⟨xs,n,-,-,hl,hxl,hf'⟩:=DataW.trod_struct hfs ht;have hf0:(prog.fieldsOf 30)[0]?.map (fun f=>(f.offset,f.type))=some (0,22):=by kernel_rfl
  obtain⟨f,hfe,hft⟩:=Option.map_eq_some_iff.1 hf0;simp only[Prod.mk.injEq] at hft;have h0':=hf' 0 f hfe;rw[hft.1,hft.2,show prog.cellsOf 22=1 from by kernel_rfl] at h0';have hsz:(prog.fieldsOf 30).size=4:=by kernel_rfl
  rw[List.getElem?_eq_getElem (by rw[hxl,hsz];decide)] at h0';obtain⟨rows,hM,-⟩:=c9y (t2:=22) (t:=51) underlying22 (by kernel_rfl) underlying51 underlying3 (by kernel_rfl) (v:=c0) h0';clear h0' hf' hxl hl ht hfs hfe hf0 hft hsz h;obtain⟨u0,k0,g0⟩:=hcell 0 c0 rfl;obtain⟨u1,k1,g1⟩:=hcell 1 c1 rfl;obtain⟨u2,k2,g2⟩:=hcell 2 c2 rfl;obtain⟨u3,k3,g3⟩:=hcell 3 c3 rfl;obtain⟨u4,k4,g4⟩:=hcell 4 c4 rfl;obtain⟨u5,k5,g5⟩:=hcell 5 c5 rfl;obtain⟨u6,k6,g6⟩:=hcell 6 c6 rfl;obtain⟨u7,k7,g7⟩:=hcell 7 c7 rfl;obtain⟨u8,k8,g8⟩:=hcell 8 c8 rfl;obtain⟨u9,k9,g9⟩:=hcell 9 c9 rfl;obtain⟨u10,k10,g10⟩:=hcell 10 c10 rfl;obtain⟨u11,k11,g11⟩:=hcell 11 c11 rfl;obtain⟨u12,k12,g12⟩:=hcell 12 c12 rfl;obtain⟨u13,k13,g13⟩:=hcell 13 c13 rfl
  cases k0;cases k1;cases k2;cases k3;cases k4;cases k5;cases k6;cases k7;cases k8;cases k9;cases k10;cases k11;cases k12;cases k13;obtain⟨q0,rfl,f1⟩:=a1h underlying3 g1;obtain⟨q1,rfl,f2⟩:=a1h underlying3 g2;obtain⟨q2,rfl,f3⟩:=a1h underlying3 g3;obtain⟨b0,rfl,f4⟩:=b5l underlying5 g4;obtain⟨b1,rfl,f5⟩:=b5l underlying5 g5;obtain⟨b2,rfl,f6⟩:=b5l underlying5 g6;obtain⟨b3,rfl,f7⟩:=b5l underlying5 g7;obtain⟨r8,rfl,f8⟩:=a1h underlying3 g8;obtain⟨r9,rfl,f9⟩:=a1h underlying3 g9;obtain⟨r10,rfl,f10⟩:=a1h underlying3 g10;obtain⟨r11,rfl,f11⟩:=a1h underlying3 g11;obtain⟨r12,rfl,f12⟩:=a1h underlying3 g12;obtain⟨r13,rfl,f13⟩:=a1h underlying3 g13;exact⟨c0,rows,q0,q1,q2,b0,b1,b2,b3,⟨r8,r9,r10,r11,r12,r13⟩,rfl,hM,⟨f1,f2,f3⟩,⟨f4,f5,f6,f7⟩,f8,f9⟩
theorem laidMet.tl {P:Program}{W:World}{a:String×DataW Unit}{rest:List (String×DataW Unit)}(h:laidMet P (a::rest) W):laidMet P rest W:=by
 obtain⟨ps,hl,hn,hb⟩:=h;obtain⟨n,d⟩:=a;obtain⟨g,t,cs,fuel,p,q,-,-,-,-,hr,rfl⟩:=hl;exact⟨q,hr,(List.nodup_append.1 hn).2.1,fun b off hm=>hb b off (List.mem_append_right _ hm)⟩
end
end Go.Proofs.YtfocdbjceedagaaGreatDoor
