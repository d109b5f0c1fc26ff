/-
  Parts.
-/
import Derived.Test.YtfocdbjceedagaaGreatDoorXaw
set_option linter.unusedVariables false
set_option linter.unusedSimpArgs false
set_option maxHeartbeats 4000000
set_option maxRecDepth 100000
namespace Go.Proofs.YtfocdbjceedagaaGreatDoor
open Tryz
section
open Go.RowKit Go.Shelf Go.Lib Go.Sort
attribute [local go_sem] Oper.semAt_some
attribute [local go_sem ↓] Go.wp_at_zero Go.wp_at_succ
theorem b1o (d:Array Dt)(t:Nat)(ht:t<d.size*4):(d.toList.flatMap dtE.enc)[t]? =some (flatK dtE.enc 4 d)[t]! :=by
 have hq:t / 4<d.toList.length:=by simp;omega
 have hr:t % 4<4:=Nat.mod_lt _ (by decide);have e1:t / 4*4+t % 4=t:=by omega
 have h2:=b0d a6m d.toList (t / 4) (t % 4) hq hr;rw[show dtE.s=4 from rfl,e1] at h2;rw[h2,get_flatK _ _ _ _ ht];have hqa:t / 4<d.size:=by omega
 rw[getElem!_pos d (t / 4) hqa];have hl:t % 4<(dtE.enc d[t / 4]).length:=hr;rw[getElem!_pos (dtE.enc d[t / 4]) (t % 4) hl];simp only[Array.getElem_toList];exact List.getElem?_eq_getElem hl
abbrev RowD (W:World)(blk off:Nat)(d:Array Dt):Prop:=HoldsK dtE.enc 4 W blk off d
theorem RowD.same {W W':World}{blk off:Nat}{d:Array Dt}(h:RowD W blk off d)(hs:W'.heap[blk]? =W.heap[blk]?):RowD W' blk off d:=fun j hj =>
 ⟨(b5r hs).trans (h j hj).1,(b0f hs _).trans (h j hj).2⟩
def RowBD (W:World)(blk N:Nat):Prop:=∃cur,Blk W blk cur 54∧cur.size=N
theorem RowBD.same {W W':World}{blk N:Nat}(h:RowBD W blk N)(hs:W'.heap[blk]? =W.heap[blk]?):RowBD W' blk N:=by
 obtain⟨cur,h1,h2⟩:=h;exact⟨cur,hs.trans h1,h2⟩
theorem RowBD.setCells {blk N:Nat}:∀(vs:List Value)(o:Nat)(W:World),RowBD W blk N→RowBD (W.setCells blk o vs) blk N
 |[],_,_,h=>h
 |v::vs,o,W,⟨cur,h1,h2⟩=>RowBD.setCells vs (o+1) _ ⟨_,h1.set o v,by simpa using h2⟩
theorem RowBD.lt {W:World}{blk N:Nat}(h:RowBD W blk N):blk<W.heap.size:=h.choose_spec.1.lt
structure SoD (w:World)(blk off N:Nat)(n:Nat)(d:Array Dt)(W:World):Prop where
 row:RowD W blk off d
 rb:RowBD W blk N
 gr:w.grownBy W (some blk)
 sz:d.size=n
theorem SoD.below {w:World}{blk off N n:Nat}{d:Array Dt}{W W':World}(h:SoD w blk off N n d W)(hb:Below W.heap.size W W'):SoD w blk off N n d W' :=
 have e:=hb.block blk h.rb.lt
 ⟨h.row.same e,h.rb.same e,a2g h.gr (a2h _ hb),h.sz⟩
theorem c2f {w W:World}{base g cap n:Nat}{d:Array Dt}(h:SoD w g 0 (cap*4) n d W)(hb:base≤g)(hc:n≤cap)(hm:cap≤maxLen):W.ownsRow base 54 4 (.slice (some ⟨g,0,none⟩) n cap) n (d.toList.flatMap dtE.enc):=by
 obtain⟨hr,⟨cur,hk,hs⟩,-,hz⟩:=h;have hlen:(d.toList.flatMap dtE.enc).length=n*4:=by rw[a1c a6m];simp[hz]
 refine⟨hlen,.inr ⟨g,cap,cur,rfl,hb,hk,hc,hm,hs,?_⟩⟩;refine List.ext_getElem? fun t=> ?_
 by_cases ht:t<n*4
 ·rw[List.getElem?_take_of_lt ht,b1o d t (by rw[hz];exact ht)]
  have h1:=(hr t (by rw[size_flatK,hz];exact ht)).1;rw[Nat.zero_add,hk.cell t] at h1;simpa using h1
 ·rw[List.getElem?_eq_none (by simp;omega),List.getElem?_eq_none (by omega)]
theorem c2g {w:World}{base g cap:Nat}{l:List Dt}(h:w.ownsRow base 54 4 (.slice (some ⟨g,0,none⟩) l.length cap) l.length (l.flatMap dtE.enc)):SoD w g 0 (cap*4) l.length l.toArray w∧base≤g:=by
 rcases h.2 with ⟨e,-⟩|⟨g',cap',cur,e,hb,hg,h1,h2,h3,h4⟩
 ·cases e
 ·simp only[Value.slice.injEq,Option.some.injEq,Addr.mk.injEq,and_true,true_and] at e
  obtain⟨rfl,rfl⟩:=e;refine⟨⟨fun t ht=>⟨?_,(show Blk w g cur 54 from hg).frozen _⟩,⟨cur,hg,h3⟩,⟨rfl,rfl,rfl,yR _,fun _ _ _=>rfl⟩,by simp⟩,hb⟩;have ht':t<l.length*4:=by simpa using ht
  have h5:=b1o l.toArray t (by simpa using ht');simp only at h5;have h6:=h.cellAt t ht';rw[h5] at h6;simpa using h6
theorem b7a {α:Type} [Inhabited α](enc:α→List Value)(k:Nat)(hk:∀x,(enc x).length=k)(d:Array α)(i:Nat)(hi:i<d.size)(x:α) :
 setMany (flatK enc k d) (i*k) (enc x)=flatK enc k (d.setIfInBounds i x):=by
 refine ext_get! (by simp) fun t ht=> ?_
 have ht':t<d.size*k:=by simpa using ht
 have k0:0<k:=by
  rcases Nat.eq_zero_or_pos k with h|h
  ·subst h;simp at ht'
  ·exact h
 have hq:t / k<d.size:=(Nat.div_lt_iff_lt_mul k0).2 ht';rw[get_setMany _ _ _ t (by simpa using ht'),get_flatK _ _ _ t ht',get_flatK _ _ _ t (by simpa using ht'),hk];by_cases a:t / k=i
 ·rw[if_pos ((blk_iff k i t k0).2 a),show t-i*k=t % k from by subst a;rw[Nat.mod_eq_sub_div_mul],←a,getElem!_set_same d (t / k) x hq]
 ·rw[if_neg (fun h=>a ((blk_iff k i t k0).1 h))]
  have:(d.setIfInBounds i x)[t / k]! =d[t / k]! :=by
   rw[getElem!_pos _ (t / k) (by simpa using hq),getElem!_pos d (t / k) hq,Array.getElem_setIfInBounds,if_neg (fun e=>a e.symm)]
  rw[this]
theorem SoD.store {w:World}{blk off N n i:Nat}{d:Array Dt}{W:World}(h:SoD w blk off N n d W)(hi:i<n)(x:Dt):SoD w blk off N n (d.setIfInBounds i x) (W.setCells blk (off+i*4) (dtE.enc x)):=by
 refine⟨?_,RowBD.setCells _ _ _ h.rb,a2g h.gr (a1w _ _ _ _),by simpa using h.sz⟩;have h1:=holds_setCells_c h.row (i*4) (dtE.enc x) (by rw[size_flatK,h.sz];show i*4+4≤n*4;omega);unfold RowD HoldsK;rw[←b7a dtE.enc 4 (fun _=>rfl) d i (by rw[h.sz];exact hi) x];exact h1
structure DeD (q:Dt→Bool)(w:World)(blk N:Nat)(l:List Dt)(i j:Nat)(W:World):Prop where
 ex:∃d:Array Dt,SoD w blk 0 N l.length d W∧d.toList.take i=(l.take j).filter (fun x=> !q x)∧d.toList.drop j=l.drop j
 ij:i<j
 jn:j≤l.length
theorem DeD.below {q:Dt→Bool}{w:World}{blk N i j:Nat}{l:List Dt}{W W':World}(h:DeD q w blk N l i j W)(hb:Below W.heap.size W W'):DeD q w blk N l i j W':=by
 obtain⟨⟨d,h1,h2,h3⟩,h4,h5⟩:=h;exact⟨⟨d,h1.below hb,h2,h3⟩,h4,h5⟩
theorem DeD.cell {q:Dt→Bool}{w:World}{blk N i j:Nat}{l:List Dt}{W:World}(h:DeD q w blk N l i j W):(∀t,t<l.length*4→(W.cell? ⟨blk,t,none⟩).isSome=true)∧∀t,t<l.length*4→W.frozen? ⟨blk,t,none⟩=false:=by
 obtain⟨⟨d,h1,h2,h3⟩,h4,h5⟩:=h;have hh:=fun t (ht:t<l.length*4)=>h1.row t (by rw[size_flatK,h1.sz];exact ht)
 simp only[Nat.zero_add] at hh;exact⟨fun t ht=>by rw[(hh t ht).1];rfl,fun t ht=>(hh t ht).2⟩
theorem DeD.lt {q:Dt→Bool}{w:World}{blk N i j:Nat}{l:List Dt}{W:World}(h:DeD q w blk N l i j W):blk<W.heap.size:=by
 obtain⟨⟨d,h1,h2,h3⟩,h4,h5⟩:=h;exact h1.rb.lt
theorem DeD.skip {q:Dt→Bool}{w:World}{blk N i j:Nat}{l:List Dt}{W:World}(h:DeD q w blk N l i j W)(hj:j<l.length){x:Dt}(hx:l[j]? =some x)(hn:q x=true):DeD q w blk N l i (j+1) W:=by
 obtain⟨⟨d,h1,h2,h3⟩,h4,h5⟩:=h;refine⟨⟨d,h1,?_,?_⟩,by omega,hj⟩
 ·rw[h2,List.take_add_one,hx,List.filter_append]
  simp[hn]
 ·have:=congrArg (fun l=>l.drop 1) h3
  simpa [List.drop_drop,Nat.add_comm] using this
theorem DeD.keep {q:Dt→Bool}{w:World}{blk N i j:Nat}{l:List Dt}{W:World}(h:DeD q w blk N l i j W)(hj:j<l.length){x:Dt}(hx:l[j]? =some x)(hn:q x=false):DeD q w blk N l (i+1) (j+1) (W.setCells blk (0+i*4) (dtE.enc x)):=by
 obtain⟨⟨d,h1,h2,h3⟩,h4,h5⟩:=h;have hid:i<d.size:=by rw[h1.sz];omega
 refine⟨⟨d.setIfInBounds i x,h1.store (by omega) x,?_,?_⟩,by omega,hj⟩
 ·have e1:(d.setIfInBounds i x).toList=d.toList.set i x:=by simp
  rw[e1,List.take_set,List.take_add_one,List.getElem?_eq_getElem (by simpa using hid)];have hl:(d.toList.take i).length=i:=by simp;omega
  rw[List.set_append_right _ _ (by omega),hl,Nat.sub_self];simp only[Option.toList_some,List.set_cons_zero];rw[h2,List.take_add_one (l:=l),hx,List.filter_append];simp[hn]
 ·have e1:(d.setIfInBounds i x).toList=d.toList.set i x:=by simp
  rw[e1,List.drop_set_of_lt (by omega)];have:=congrArg (fun l=>l.drop 1) h3;simpa [List.drop_drop,Nat.add_comm] using this
theorem DeD.done {q:Dt→Bool}{w:World}{base g cap i:Nat}{l:List Dt}{W:World}(h:DeD q w g (cap*4) l i l.length W)(hb:base≤g)(hc:l.length≤cap)(hm:cap≤maxLen)(vs:List Value)(hv:vs.length=(l.length-i)*4) :
 i=(l.filter (fun x=> !q x)).length∧(W.setCells g (0+i*4) vs).ownsRow base 54 4 (.slice (some ⟨g,0,none⟩) i cap) (l.filter (fun x=> !q x)).length ((l.filter (fun x=> !q x)).flatMap dtE.enc)∧w.grownBy (W.setCells g (0+i*4) vs) (some g):=by
 obtain⟨⟨d,h1,h2,h3⟩,h4,h5⟩:=h;rw[List.take_length] at h2;have hi:i=(l.filter (fun x=> !q x)).length:=by
  rw[←h2];have:=h1.sz;simp;omega
 refine⟨hi,?_,a2g h1.gr (a1w _ _ _ _)⟩;have hrow:=c2f h1 hb hc hm;obtain⟨cur,hk,hs⟩:=RowBD.setCells vs (0+i*4) W h1.rb;refine⟨a1c a6m _,.inr ⟨g,cap,cur,by rw[←hi],hb,hk,by omega,hm,hs,?_⟩⟩;refine List.ext_getElem? fun t=> ?_
 have hf:=a1c a6m (l.filter (fun x=> !q x));rw[show dtE.s=4 from rfl] at hf;by_cases ht:t<(l.filter (fun x=> !q x)).length*4
 ·rw[List.getElem?_take_of_lt ht]
  have c1:=hk.cell t;rw[World.cell?_setCells_out g vs (0+i*4) W ⟨g,t,none⟩ (fun _ _=> .inl (by show t<0+i*4;omega))] at c1;have c2:=(h1.row t (by rw[size_flatK,h1.sz];omega)).1;rw[Nat.zero_add,c1] at c2;have c3:=b1o d t (by rw[h1.sz];omega);have c4:(d.toList.flatMap dtE.enc)[t]? =((l.filter (fun x=> !q x)).flatMap dtE.enc)[t]? :=by
   rw[←h2,show d.toList.flatMap dtE.enc=(d.toList.take i).flatMap dtE.enc++(d.toList.drop i).flatMap dtE.enc from by rw[←List.flatMap_append,List.take_append_drop]];refine List.getElem?_append_left ?_;rw[h2,hf];exact ht
  rw[←c4,c3];simpa using c2
 ·rw[List.getElem?_eq_none (by simp;omega),List.getElem?_eq_none (by omega)]
end
section
open Go Go.RowKit Go.Shelf Go.Lib Go.Sort
attribute [local go_sem] Oper.semAt_some
attribute [local go_sem ↓] Go.wp_at_zero Go.wp_at_succ
theorem b7b (w:World)(b o n c:Nat)(ty:TypeId)(hn:0<n)(hc:∀j,j<n*4→(w.cell? ⟨b,o+j,none⟩).isSome=true)(hf:∀j,j<n*4→w.frozen? ⟨b,o+j,none⟩=false) :
 ∃vs,vs.length=n*4∧(Builtin.clear_ #[41] ty #[.slice (some ⟨b,o,none⟩) n c]).run prog w= .ok (.tuple #[]) (w.setCells b o vs):=by
 obtain⟨zs,hzs⟩:∃zs,(Builtin.zeroCells (Value.agg #[.int .i64 0,.int .i64 0,.int .i64 0,.int .i64 0]).cells n).toList=zs:=⟨_,rfl⟩;have hlen:zs.length=n*4:=by rw[←hzs,Array.length_toList,size_zeroCells];rfl
 have h1:∀v∈zs,v.oneCell'=true:=by
  intro v hv;rw[←hzs] at hv;simp only[Builtin.zeroCells,Array.toList_map,List.mem_map] at hv;obtain⟨i,-,rfl⟩:=hv;have:i % 4<4:=Nat.mod_lt _ (by decide);show Value.oneCell' ((#[Value.int .i64 0,.int .i64 0,.int .i64 0,.int .i64 0]:Array Value)[i % 4]!)=true;obtain⟨k,hk⟩:∃k,i % 4=k:=⟨_,rfl⟩;rw[hk] at this ⊢;match k,this with
  |0,_=>rfl
  |1,_=>rfl
  |2,_=>rfl
  |3,_=>rfl
 have hst:=run_storeCells_cells (P:=prog) b o zs 0 w (by simpa [hlen] using hc) (by simpa [hlen] using hf) h1;simp only[Nat.add_zero] at hst;obtain⟨m,rfl⟩:∃m,n=m+1:=⟨n-1,by omega⟩;refine⟨zs,hlen,?_⟩;have hu:=run_underlying (P:=prog) underlying41;simp only[Builtin.clear_];simp[hu,zeroValue54,hzs,hst]
theorem c2h (W:World)(blk o:Nat)(x y k i:Int):W.setCells blk o (dtE.enc ⟨x,y,k,i⟩)=((((W.setCell ⟨blk,o,none⟩ (.int .i64 x)).setCell ⟨blk,o+1,none⟩ (.int .i64 y)).setCell ⟨blk,o+2,none⟩ (.int .i64 k)).setCell ⟨blk,o+3,none⟩ (.int .i64 i)):=by
 simp only[World.setCells,Nat.add_assoc,Nat.reduceAdd]
theorem DeD.at_ {q:Dt→Bool}{w:World}{blk N i j:Nat}{l:List Dt}{W:World}(h:DeD q w blk N l i j W)(hj:j<l.length){x:Dt}(hx:l[j]? =some x):W.cell? ⟨blk,0+j*4,none⟩=some (.int .i64 x.x)∧W.cell? ⟨blk,0+j*4+1,none⟩=some (.int .i64 x.y)∧W.cell? ⟨blk,0+j*4+2,none⟩=some (.int .i64 x.k)∧W.cell? ⟨blk,0+j*4+3,none⟩=some (.int .i64 x.i):=by
 obtain⟨⟨d,h1,h2,h3⟩,h4,h5⟩:=h;have h6:d.toList[j]? =l[j]? :=by
  have:=congrArg (fun l=>l[0]?) h3;simpa using this
 rw[hx] at h6;have hjd:j<d.size:=by rw[h1.sz];exact hj
 have h8:d[j]! =x:=by
  rw[getElem!_pos d j hjd];simpa [hjd] using h6
 subst h8;exact⟨(HoldsK.cell h1.row hjd (c:=0) (by omega)).1,(HoldsK.cell h1.row hjd (c:=1) (by omega)).1,(HoldsK.cell h1.row hjd (c:=2) (by omega)).1,(HoldsK.cell h1.row hjd (c:=3) (by omega)).1⟩
theorem DeD.fr {q:Dt→Bool}{w:World}{blk N i j:Nat}{l:List Dt}{W:World}(h:DeD q w blk N l i j W){k:Nat}(hk:k<l.length):W.frozen? ⟨blk,0+k*4,none⟩=false∧W.frozen? ⟨blk,0+k*4+1,none⟩=false∧W.frozen? ⟨blk,0+k*4+2,none⟩=false∧W.frozen? ⟨blk,0+k*4+3,none⟩=false:=by
 obtain⟨⟨d,h1,h2,h3⟩,h4,h5⟩:=h;have hjd:k<d.size:=by rw[h1.sz];exact hk
 exact⟨(HoldsK.cell h1.row hjd (c:=0) (by omega)).2,(HoldsK.cell h1.row hjd (c:=1) (by omega)).2,(HoldsK.cell h1.row hjd (c:=2) (by omega)).2,(HoldsK.cell h1.row hjd (c:=3) (by omega)).2⟩
theorem c5p (q:Dt→Bool)(l:List Dt):(l.findIdx? q=none∧l.filter (fun x=> !q x)=l)∨∃i:Nat,l.findIdx? q=some i∧i<l.length∧(l.take (i+1)).filter (fun x=> !q x)=l.take i:=by
 cases h:l.findIdx? q with
 |none =>
  left;rw[List.findIdx?_eq_none_iff] at h;exact⟨rfl,List.filter_eq_self.2 fun x hx=>by simp[h x hx]⟩
 |some i =>
  right;obtain⟨hi,h1,h2⟩:=List.findIdx?_eq_some_iff_getElem.1 h;refine⟨i,rfl,hi,?_⟩;rw[List.take_add_one,List.getElem?_eq_getElem hi,List.filter_append];have e1:(l.take i).filter (fun x=> !q x)=l.take i:=List.filter_eq_self.2 fun x hx=>by
   obtain⟨j,hj⟩:=List.mem_iff_getElem?.1 hx;rw[List.getElem?_take] at hj;split at hj
   ·obtain⟨hjl,rfl⟩:=List.getElem?_eq_some_iff.1 hj
    simp[h2 j (by assumption)]
   ·cases hj
  rw[e1];simp[h1]
theorem DeD.gr {q:Dt→Bool}{w:World}{blk N i j:Nat}{l:List Dt}{W:World}(h:DeD q w blk N l i j W):w.grownBy W (some blk):=by
 obtain⟨⟨d,h1,h2,h3⟩,h4,h5⟩:=h;exact h1.gr
theorem a9l (base:Nat)(v:Value)(l:List Dt)(B:Nat)(p k i0:Int)(w:World)(hl:l.length≤100000)(hBk:Blk w B #[.int .i64 p,.int .i64 k,.int .i64 i0] 68)(hrow:w.ownsRow base 54 4 v l.length (l.flatMap dtE.enc)) :
 Calls prog 108 #[v,.func (.func 110) #[] #[.pointer (some ⟨B,0,none⟩)]] w fun e w'=>∃u,e= .returned u∧w'.ownsRow base 54 4 u (l.filter (fun x=> !a4c k i0 x)).length ((l.filter (fun x=> !a4c k i0 x)).flatMap dtE.enc)∧w.grownBy w' v.ownBlock∧u.ownBlock=v.ownBlock:=by
 rcases hrow.2 with ⟨rfl,h0⟩|⟨g,cap,cur,rfl,hb,hg,h1,h2,h3,h4⟩
 ·obtain rfl:=List.eq_nil_of_length_eq_zero h0
  have hr2:=Lib.hid hrow;have c0:Calls prog 45 #[.slice none 0 0,.func (.func 110) #[] #[.pointer (some ⟨B,0,none⟩)]] w fun e w'=>e= .returned (.int .i64 (-1))∧w=w':=by
   clear hrow h0 hr2;go_enter func45,ntmps45;go_wp2_with fail;refine wp_loop_rounds 1 ?_;rw[rounds_succ];go_wp2_with fail;go_ret;exact⟨rfl,rfl⟩
  clear hrow h0;go_enter func108,ntmps108;go_wp2_with (go_at_call 45;refine c0.mono ?_;rintro e w1⟨rfl,rfl⟩);go_ret;exact⟨_,rfl,hr2.out,⟨rfl,rfl,rfl,yR _,fun _ _ _=>rfl⟩,rfl⟩
 ·obtain⟨hS,hbg⟩:=c2g hrow
  have hgl:g<w.heap.size:=hS.rb.lt;have c1:=a5d (.slice (some ⟨g,0,none⟩) l.length cap) l w (a0b a6m hrow (by omega)) (a2b hrow) (a4c k i0) 110 #[.pointer (some ⟨B,0,none⟩)] (enters_of func110 (by kernel_rfl) rfl) (fun X d hx=>(a9k d B p k i0 X (hBk.below hx hBk.lt)).mono fun _ _ ⟨he,h⟩=>⟨he,hx.trans (h.mono hx.size)⟩);have hgB:g≠B:=fun e=>a0s hrow hBk (by decide) (by rw[←e];rfl)
  rcases c5p (a4c k i0) l with ⟨hi,hfl⟩|⟨i,hi,hil,hft⟩
  ·rw[hi] at c1
   replace c1:Calls _ _ _ _ fun e w'=>e= .returned (.int .i64 (-1))∧Below w.heap.size w w':=c1
   rw[hfl];have hr2:=Lib.hid hrow;clear hS hrow hg hfl hi h3 h4;go_enter func108,ntmps108;go_wp2_with (go_at_call 45;refine c1.mono ?_;rintro e w1⟨rfl,hb1⟩);go_ret;exact⟨_,rfl,a1l hr2.out hb1,⟨hb1.os,hb1.tape,hb1.output,hb1.size,fun k hk _=>hb1.block k hk⟩,rfl⟩
  ·rw[hi] at c1
   replace c1:Calls _ _ _ _ fun e w'=>e= .returned (.int .i64 (i:Nat))∧Below w.heap.size w w':=c1
   have hiI:((i:Int) == -1)=false:=by simp
   have hD0:DeD (a4c k i0) w g (cap*4) l i (i+1) w:=⟨⟨l.toArray,hS,by simpa using hft.symm,by simp⟩,by omega,by omega⟩;replace hD0:=Lib.hid hD0;clear hS hrow hg h3 h4 hft hi;have mixed:prog.follows .mixedOrders=true:=by kernel_rfl
   go_enter func108,ntmps108;go_wp2_with (go_at_call 45;refine c1.mono ?_;rintro e w1⟨rfl,hb1⟩);have hD1:=Lib.hid (hD0.out.below hb1);clear hD0 hb1 c1;go_loopw [5,6] (fun vi vj wr=>∃i j:Nat,vi= .int .i64 (i:Nat)∧vj= .int .i64 (j:Nat)∧Hid (DeD (a4c k i0) w g (cap*4) l i j wr)) (fun _ vj _=>l.length-(intOf vj).toNat)
   case atStart=>exact⟨i,i+1,rfl,by go_num,hD1⟩
   case round =>
    clear hD1 hil hiI;obtain⟨i,j,rfl,rfl,HD⟩:=hrel;have hij:=HD.out.ij;have hjn:=HD.out.jn;by_cases hlt:j<l.length
    ·have hltI:(j:Int)<(l.length:Int):=by omega
     have hiI2:(i:Int)<(l.length:Int):=by omega
     obtain⟨x,hx⟩:∃x,l[j]? =some x:=⟨_,List.getElem?_eq_getElem hlt⟩;obtain⟨a0,a1,a2,a3⟩:=HD.out.at_ hlt hx;obtain⟨q,hq⟩:∃q,a4c k i0 x=q:=⟨_,rfl⟩;have hcl:∀W,w.grownBy W (some g)→Calls prog 110 #[dtV x,.pointer (some ⟨B,0,none⟩)] W fun e w'=>e= .returned (.bool q)∧Below W.heap.size W w':=fun W hg=>by rw[←hq];exact a9k x B p k i0 W (hBk.kept hg fun e=>by cases e;exact hgB rfl)
     have HX:Hid (l[j]? =some x∧a4c k i0 x=q):=⟨hx,hq⟩;clear hx hq;obtain⟨i1,x1,y1,d1⟩:=x;simp only[Nat.zero_add] at a0 a1 a2 a3;go_upto_region 8 with fail;have kX:=Blk.new wr #[.int .i64 i1,.int .i64 x1,.int .i64 y1,.int .i64 d1] 54;have hDX:=HD.out.below (show Below wr.heap.size wr (wr.alloc (.cells #[.int .i64 i1,.int .i64 x1,.int .i64 y1,.int .i64 d1] 54)) from (zR _ _).alloc (yR _) _);have hgx:=HD.out.lt;obtain⟨BX,hBX⟩:∃b,wr.heap.size=b:=⟨_,rfl⟩;obtain⟨W1,hW1⟩:∃W,wr.alloc (.cells #[.int .i64 i1,.int .i64 x1,.int .i64 y1,.int .i64 d1] 54)=W:=⟨_,rfl⟩;rw[hW1] at kX hDX;rw[hW1];rw[hBX] at kX hgx;rw[hBX];have hgrX:=hDX.gr;clear hW1 hBX HD a0 a1 a2 a3;replace hDX:=Lib.hid hDX;have x0:W1.cell? ⟨BX,0,none⟩=some (.int .i64 i1):=kX.cell 0;have x1_:W1.cell? ⟨BX,1,none⟩=some (.int .i64 x1):=kX.cell 1;have x2:W1.cell? ⟨BX,2,none⟩=some (.int .i64 y1):=kX.cell 2;have x3:W1.cell? ⟨BX,3,none⟩=some (.int .i64 d1):=kX.cell 3
     cases q
     ·go_upto_region 9 with (first|(go_at_call 110;(with_reducible refine (hcl _ hgrX).mono ?_);rintro e w2⟨rfl,hb2⟩;have kX2:=kX.below hb2 kX.lt;have hD2:=Lib.hid (hDX.out.below hb2);clear hb2 x0 x1_ x2 x3)|fail)
      have x0:w2.cell? ⟨BX,0,none⟩=some (.int .i64 i1):=kX2.cell 0;have x1_:w2.cell? ⟨BX,1,none⟩=some (.int .i64 x1):=kX2.cell 1;have x2:w2.cell? ⟨BX,2,none⟩=some (.int .i64 y1):=kX2.cell 2;have x3:w2.cell? ⟨BX,3,none⟩=some (.int .i64 d1):=kX2.cell 3;obtain⟨f0,f1,f2,f3⟩:=hD2.out.fr (k:=i) (by omega);obtain⟨c1,c2⟩:=hD2.out.cell;have s0:=c1 (i*4) (by omega);have s1:=c1 (i*4+1) (by omega);have s2:=c1 (i*4+2) (by omega);have s3:=c1 (i*4+3) (by omega);have hK:=hD2.out.keep hlt HX.out.1 HX.out.2;rw[c2h] at hK;simp only[Nat.zero_add] at f0 f1 f2 f3 hK;obtain⟨v0,s0⟩:=Option.isSome_iff_exists.1 s0;obtain⟨v1,s1⟩:=Option.isSome_iff_exists.1 s1;obtain⟨v2,s2⟩:=Option.isSome_iff_exists.1 s2;obtain⟨v3,s3⟩:=Option.isSome_iff_exists.1 s3;have hwi:IntKind.i64.wrap ((i:Int)+1)=(i:Int)+1:=a0u (by omega) (by omega);clear c1 c2 hD2 hDX kX kX2 hcl;replace hK:=Lib.hid hK;go_wp2_with fail;go_roundw
      case rel=>exact⟨i+1,j+1,by go_num,by go_num,hK⟩
      case measure=>first|(simp[intOf];done)|(simp[intOf];omega)
     ·go_wp2_with (first|(go_at_call 110;(with_reducible refine (hcl _ hgrX).mono ?_);rintro e w2⟨rfl,hb2⟩;have hD2:=Lib.hid (hDX.out.below hb2);clear hb2 x0 x1_ x2 x3)|fail)
      go_roundw
      case rel=>exact⟨i,j+1,by go_num,by go_num,Lib.hid (hD2.out.skip hlt HX.out.1 HX.out.2)⟩
      case measure=>first|(simp[intOf];done)|(simp[intOf];omega)
    ·obtain rfl:j=l.length:=by omega
     have hgeI:¬(l.length:Int)<(l.length:Int):=by omega
     obtain⟨c1,c2⟩:=HD.out.cell;have hiI3:(i:Int)≤(l.length:Int):=by omega
     obtain⟨vs,hvs,hcr⟩:=b7b wr g (i*4) (l.length-i) (cap-i) 0 (by omega) (fun t ht=>c1 _ (by omega)) (fun t ht=>c2 _ (by omega));clear c1 c2;have hiC:(i:Int)≤(cap:Int):=by omega
     have hend:=Lib.hid (HD.out.done hb h1 h2 vs hvs);go_wp2_with fail;go_ret;obtain⟨-,e2,e3⟩:=hend.out;rw[Nat.zero_add] at e2 e3;exact⟨_,rfl,e2,e3,rfl⟩
end
section
open Go Go.RowKit Go.Shelf Go.Lib Go.Maps
def b9n (Bm:Nat)(W:World)(k:Nat):Prop:=(∃o,W.heap[k]? =some o∧a5u o=false)∧k=Bm
theorem b9o {Bm:Nat}{W:World}{k:Nat}(h:b9n Bm W k):k<W.heap.size:=by
 obtain⟨⟨o,ho,-⟩,-⟩:=h;exact (Array.getElem?_eq_some_iff.1 ho).1
theorem b4m (Bm:Nat)(W:World)(l:Nat)(o:Obj)(h:W.heap[l]? =some o)(ho:a5u o=true):¬b9n Bm W l:=by
 rintro⟨⟨o',h',hc⟩,-⟩;rw[h] at h'
 cases h';rw[ho] at hc
 cases hc
theorem c8x (Bm:Nat)(W:World)(l k:Nat)(o o':Obj)(h:W.heap[l]? =some o)(ho:a5u o=true)(ho':a5u o'=true):b9n Bm (W.putObj l o') k↔b9n Bm W k:=by
 have hlt:l<W.heap.size:=(Array.getElem?_eq_some_iff.1 h).1;have hl':(W.putObj l o').heap[l]? =some o':=World.putObj_heap_same hlt;by_cases hk:k=l
 ·subst hk
  exact⟨fun hc=>absurd hc (b4m Bm _ k o' hl' ho'),fun hc=>absurd hc (b4m Bm W k o h ho)⟩
 ·have e1:(W.putObj l o').heap[k]? =W.heap[k]? :=World.putObj_heap_other hk
  unfold b9n;simp only[e1]
theorem c2i (Bm:Nat)(W:World)(k:Nat)(o:Obj)(h:b9n Bm (W.alloc o) k)(ho:a5u o=true):b9n Bm W k:=by
 have hnew:(W.alloc o).heap[W.heap.size]? =some o:=World.alloc_heap_new W o;have hk:k≠W.heap.size:=fun e=>b4m Bm _ k o (by rw[e];exact hnew) ho h
 have hlt:=b9o h;rw[World.size_alloc] at hlt;have e1:(W.alloc o).heap[k]? =W.heap[k]? :=Below.heap_alloc W o k (by omega);obtain⟨⟨o',h1,h2⟩,h3⟩:=h;exact⟨⟨o',e1.symm.trans h1,h2⟩,h3⟩
structure RRr (n0:Nat)(w:World)(Bm:Nat)(L:List (Nat×Array Value×TypeId))(m:Nat)(en:List (Int×Bool))(W:World):Prop where
 mp:MapK prog idK boV W Bm m en
 o:∀q∈L,Blk W q.1 q.2.1 q.2.2
 ne:∀q∈L,q.1≠Bm
 bm:n0≤Bm
 bel:Below n0 w W
 nw:n0≤w.heap.size
section
variable {n0 Bm m:Nat}{w W W':World}{L:List (Nat×Array Value×TypeId)}{en:List (Int×Bool)}
theorem RRr.hz (h:RRr n0 w Bm L m en W):n0≤W.heap.size:=Nat.le_trans h.nw h.bel.size
theorem RRr.cm (h:RRr n0 w Bm L m en W):b9n Bm W Bm:=by
 obtain⟨D,⟨es,clock,he,-⟩,-⟩:=h.mp;exact⟨⟨_,he,rfl⟩,rfl⟩
theorem RRr.turn (h:RRr n0 w Bm L m en W){Z:Nat}(hz:n0≤Z)(hL:∀q∈L,q.1<Z){row:Option Nat}(hg:W.grownBy W' row)(hr:∀r,row=some r→Z≤r∧¬b9n Bm W r):RRr n0 w Bm L m en W' :=
 ⟨h.mp.kept hg (fun e=>(hr Bm e).2 h.cm),fun q hq=>(h.o q hq).kept hg (fun e=>by have:=(hr _ e).1;have:=hL q hq;omega),h.ne,h.bm,h.bel.grown hg h.hz fun r e=>Nat.le_trans hz (hr r e).1,h.nw⟩
theorem RRr.mine (h:RRr n0 w Bm L m en W){k:Nat}(hc:b9n Bm W' k):b9n Bm W k:=by
 obtain⟨-,rfl⟩:=hc;exact h.cm
theorem RRr.below (h:RRr n0 w Bm L m en W)(hb:Below W.heap.size W W'):RRr n0 w Bm L m en W' :=
 ⟨h.mp.below hb h.mp.lt,fun q hq=>(h.o q hq).below hb (h.o q hq).lt,h.ne,h.bm,h.bel.trans (hb.mono h.hz),h.nw⟩
theorem RRr.keepP (h:RRr n0 w Bm L m en W)(hb:Below W.heap.size W W'):KeepP (b9n Bm) n0 W W' :=
 ⟨⟨hb.size,fun k hk _=>hb.block k hk,fun k hc=> .inl (h.mine hc)⟩,hb.mono h.hz⟩
theorem RRr.set (h:RRr n0 w Bm L m en W){m':Nat}{en':List (Int×Bool)}(hm:MapK prog idK boV W' Bm m' en')(hg:W.grownBy W' (some Bm)):RRr n0 w Bm L m' en' W'∧KeepP (b9n Bm) n0 W W' :=
 ⟨⟨hm,fun q hq=>(h.o q hq).kept hg (fun e=>h.ne q hq (by cases e;rfl)),h.ne,h.bm,h.bel.grown hg h.hz fun r e=>by cases e;exact h.bm,h.nw⟩,
  ⟨⟨hg.size,fun k hk hn=>hg.block k hk fun e=>hn (by cases e;exact h.cm),fun k hc=> .inl (h.mine hc)⟩,(show Below n0 W W from zR _ _).grown hg h.hz fun r e=>by cases e;exact h.bm⟩⟩
end
abbrev crN (s:Sh)(pl:Pn)(qs:List Pc):Option (List Int):=qs.foldlM (a2e s.g (pfS s) pl) []
theorem c8y (s:Sh)(pl:Pn)(qs:List Pc)(p:Pc):crN s pl (qs++[p])=(crN s pl qs).bind fun st=>a2e s.g (pfS s) pl st p:=by
 unfold crN;rw[List.foldlM_append]
 cases h:List.foldlM (a2e s.g (pfS s) pl) [] qs <;> simp
theorem c8z (s:Sh)(pl:Pn)(qs rs:List Pc)(p:Pc)(h:crN s pl (qs++[p])=none):crN s pl (qs++p::rs)=none:=by
 unfold crN at h ⊢;rw[show qs++p::rs=(qs++[p])++rs by simp,List.foldlM_append,h];rfl
def RC (n0:Nat)(w:World)(Bm:Nat)(L:List (Nat×Array Value×TypeId))(s:Sh)(pl:Pn)(pre:List (Pc×Value))(W:World):Prop :=
 ∃m en st,crN s pl (pre.map Prod.fst)=some st∧m≤pre.length∧SetI en st∧RRr n0 w Bm L m en W
end
end Go.Proofs.YtfocdbjceedagaaGreatDoor
