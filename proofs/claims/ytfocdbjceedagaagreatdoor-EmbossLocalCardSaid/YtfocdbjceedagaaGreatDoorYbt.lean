/-
  Parts.
-/
import Derived.Test.YtfocdbjceedagaaGreatDoorYbs
import Derived.ChangeSlices
import Derived.Lib.LaidTab
set_option linter.unusedVariables false
set_option linter.unusedSimpArgs false
set_option maxHeartbeats 1000000
set_option maxRecDepth 100000
namespace Go.Proofs.YtfocdbjceedagaaGreatDoor
open Tryz
section
open Go Go.RowKit Go.Shelf Go.Lib
attribute [local go_sem] Oper.semAt_some
attribute [local go_sem ↓] Go.wp_at_zero Go.wp_at_succ
section
variable {α:Type}{E:El α}{W:World}{n0:Nat}{a:Option Addr}{cap k:Nat}{l:List α}
theorem c6k (hL:Lst E n0 W (.slice a l.length cap) l)(hF:Frm (.slice a l.length cap) l.length)(hk:k≤l.length):Lst E n0 W (.slice a k cap) (l.take k)∧Frm (.slice a k cap) (l.take k).length:=by
 refine⟨hL.take k hk,?_⟩;rw[List.length_take,Nat.min_eq_left hk];rcases hF.or with ⟨rfl,h0,rfl⟩|⟨b,o,rfl⟩
 ·obtain rfl:k=0:=by omega
  exact .inl rfl
 ·exact .inr ⟨b,o,cap,rfl⟩
end
structure NeR (wr:World)(B6:Nat)(v:Value)(l:List Pc)(W:World):Prop where
 bel:Below wr.heap.size wr W
 c:W.cell? ⟨B6,3,none⟩=some v
 v:Lst plE W.heap.size W v l
theorem NeR.up {wr W W':World}{B6:Nat}{v:Value}{l:List Pc}(h:NeR wr B6 v l W)(hb:Below W.heap.size W W'):NeR wr B6 v l W':=⟨h.bel.trans (hb.mono h.bel.size),a1z hb h.c,h.v.up hb⟩
section
variable {P:Program}{α:Type}{E:El α}{st:TypeId}
theorem El.all (hE:E.Ok)(hI:E.In P st){ops:Array Oper}{rest:List Oper}{o:Oper}{a:Act}{w:World}{Q:Exit→Act→World→Prop}(hgd:o.guard=none)(s x:Operand)
 (ho:o.op= .call { callee:= .builtin .append,args:= #[s,x],argTypes:= #[st,st] }) (base:Nat) {v:Value} (hs:a.eval s=v) (l:List α) (hv:w.ownsRow base E.t E.s v l.length (l.flatMap E.enc)) {xv:Value} (l2:List α) (hxv:a.eval x=xv) {n0:Nat} (hx:Lst E n0 w xv l2) (hf:Frm xv l2.length) (hl:l.length+l2.length≤100000) (hb:base≤w.heap.size)
 (h:∀v' w',w'.ownsRow base E.t E.s v' (l++l2).length ((l++l2).flatMap E.enc)→Below base w w'→wpList P ops Q rest (a.put o.dst v') w') :
 wpList P ops Q (o::rest) a w:=by
 obtain⟨v',w',hr,h2,h3,h4,h5⟩:=El.append_all hE hI w base v xv l l2 o.type hv hx hf hl hb;refine wpList_plain hgd fun K hK=> ?_
 unfold Oper.wp execOp;simp only[ho,resolve,invoke,builtin,Sem.run_bind,Sem.run_pure,Result.andThen_ok,List.map_toArray,List.map_cons,List.map_nil,hs,hxv,hr];exact hK _ _ (h v' w' h2 h4)
end
theorem c6l (s:Sh)(id x y wt di num:Int)(cls name:ByteArray)(w:World)(f0:a0i s.ax)(f1:a0i s.ay)(hid:a0i id)(hcl:cls.size≤1000)(htab:Pow w) :
 Calls prog 23 #[shV s,.agg (plC id x y wt di cls name),.int .i64 num] w fun e w'=>∃v,e= .returned (.tuple #[v,.bool (plF s x y id cls num).1])∧Lst dtE w'.heap.size w' v (plF s x y id cls num).2∧Frm v (plF s x y id cls num).2.length∧Dts w'.heap.size w' v (plF s x y id cls num).2∧Below w.heap.size w w':=by
 obtain⟨⟨i,j,b⟩,hof⟩:∃p,ofS s x y=p:=⟨_,rfl⟩
 cases b with
 |false =>
  rw[c0w hof (.inl rfl)];refine (c0r s id x y wt di num i j cls name w f0 f1 hof).mono ?_;rintro e w'⟨rfl,hb⟩;exact⟨_,rfl,Lst.nil _ _ _,.inl rfl,.inl ⟨rfl,rfl⟩,hb⟩
 |true =>
  by_cases hr:num<1∨999<num
  ·rw[c0w hof (.inr hr)]
   refine (b1m s id x y wt di num i j cls name w f0 f1 hof hr).mono ?_;rintro e w'⟨rfl,hb⟩;exact⟨_,rfl,Lst.nil _ _ _,.inl rfl,.inl ⟨rfl,rfl⟩,hb⟩
  ·obtain⟨n,rfl⟩:∃n:Nat,num=n:=⟨num.toNat,by omega⟩
   rw[c5f hof (by omega) (by omega)];unfold b6t;rw[Int.toNat_natCast];obtain⟨hm,hsum⟩:=c9z cls;have hs:=a5h (b4a hof).1;have hit:∀W,Below w.heap.size w W→Calls prog 65 #[.int .i64 (n:Nat)] W fun e W'=>e= .returned (.string (a8h n))∧Below W.heap.size W W':=fun W hW=>by
    refine (Tryz.strconv_Itoa (n:Nat) (by omega) (by omega) W (htab.below hW)).mono ?_;rintro e W'⟨rfl,k,os,rfl⟩;refine⟨?_,?_⟩
    ·unfold a8h Lib.itoa
     rw[if_neg (by omega),Int.toNat_natCast]
    ·refine⟨rfl,rfl,rfl,?_,fun q hq=> ?_⟩
     ·show W.heap.size≤(W.heap++os).size
      rw[Array.size_append];omega
     ·show (W.heap++os)[q]? =W.heap[q]?
      rw[Array.getElem?_append_left hq]
   have hwr:∀W,Calls prog 64 #[.string (a8h n)] W fun e W'=>e= .returned (.tuple #[.string (a1f n),.int .i64 0])∧Below W.heap.size W W':=fun W=>b2r (a8h n) (b0w n) (by rw[a5r];have:=a3u 2 n (by omega);omega) W
   have hdots:∀k (h:k<(a1f n).size) W,Calls prog 66 #[.int .u8 ((a1f n)[k]).toNat] W fun e W'=>e= .returned (.agg #[.bool (a2s n k 0),.bool (a2s n k 1),.bool (a2s n k 2),.bool (a2s n k 3),.bool (a2s n k 4),.bool (a2s n k 5)])∧Below W.heap.size W W':=fun k hk W=>by
    rw[a2k n k hk 0,a2k n k hk 1,a2k n k hk 2,a2k n k hk 3,a2k n k hk 4,a2k n k hk 5];exact c9x _ (b1k n k hk) W
   refine (b6n s id x y wt di n i j cls name (a8h n) (a1f n) (a2s n) (plM cls) w f0 f1 hof hid (by omega) (by omega) (by omega) hm hsum (by have:=a7r n (by omega);omega) hit hwr hdots (b1l i j id _ n)).mono ?_;have hkeys:∀p,p∈(a5i i j id (a8e (plM cls)) (a2s n) (a1f n).size).map (·.1)↔p∈a2j i j (a8e (plM cls)) (a2s n) (a1f n).size:=fun p=>by
    rw[a4r,a5u];simp
   have hpl:=a9e i j (a8e (plM cls)) n (by omega);rintro e w'⟨hb,⟨h,v,base,rfl,-,hrow⟩|⟨⟨p,hp,h⟩,rfl⟩⟩
   ·have hall:∀p∈a2j i j (a8e (plM cls)) (a2s n) (a1f n).size,onS s p.1 p.2=true:=fun p hp=>h p ((hkeys p).2 hp)
    rw[if_pos (List.all_eq_true.2 hall)];rw[a4r,←b1i hall] at hrow;exact⟨v,rfl,a0b a6s hrow (by have:=a5e id (a2j i j (a8e (plM cls)) (a2s n) (a1f n).size);simp only;omega),a2d hrow,d0t hs (by omega) hall hrow,hb⟩
   ·rw[if_neg (fun hc=>by have:=List.all_eq_true.1 hc p ((hkeys p).1 hp);rw[h] at this;cases this)]
    exact⟨_,rfl,Lst.nil _ _ _,.inl rfl,.inl ⟨rfl,rfl⟩,hb⟩
theorem Dts.up30 {W W':World}{v:Value}{l:List Dt}(h:Dts W.heap.size W v l)(hb:Below W.heap.size W W'):Dts W'.heap.size W' v l:=(h.below hb).mono hb.size
def FLe (wr:World)(l:List Pc)(pa:Option Addr)(B6 pc k:Nat)(i:Nat)(v:Value)(w:World):Prop :=
 match i with
 |0=>∃Z,v= .slice (some ⟨Z,0,none⟩) 0 0∧wr.heap.size≤Z∧Blk w Z #[] 66
 |1=>v= .pointer (some ⟨B6,3,none⟩)
 |2=>v= .slice pa l.length pc
 |3=>v= .int .i64 (k:Nat)
 |4=>v= .slice pa k pc
 |5=>∃g c,v= .slice (some ⟨g,0,none⟩) (l.take k).length c∧w.ownsRow wr.heap.size 66 7 v (l.take k).length ((l.take k).flatMap plE.enc)
 |6=>v= .pointer (some ⟨B6,3,none⟩)
 |7=>v= .slice pa l.length pc
 |8=>v= .int .i64 (k:Nat)
 |9=>v= .int .i64 ((k:Nat)+1)
 |10=>Lst plE w.heap.size w v (l.drop (k+1))∧Frm v (l.drop (k+1)).length
 |_=>False
theorem FLe.kept {wr:World}{l:List Pc}{pa:Option Addr}{B6 pc k:Nat}{i:Nat}{v:Value}{w w':World}(h:FLe wr l pa B6 pc k i v w)(hg:Below w.heap.size w w'):FLe wr l pa B6 pc k i v w':=by
 unfold FLe at *;split at h
 all_goals first|exact h|(obtain⟨Z,h1,h2,h3⟩:=h;exact⟨Z,h1,h2,h3.below hg h3.lt⟩)|(obtain⟨g,c,h1,h2⟩:=h;exact⟨g,c,h1,a1k h2 hg⟩)|(exact⟨h.1.up hg,h.2⟩)
structure LoR (wr:World)(bs bp bq:Nat)(g:Int)(dv kv lv dv2 kv2 lv2:Value)(D D2:List Dt)(W:World):Prop where
 bel:Below wr.heap.size wr W
 g:W.cell? ⟨bs,5,none⟩=some (.int .i64 g)
 p:W.cell? ⟨bp,0,none⟩=some dv∧W.cell? ⟨bp,1,none⟩=some kv∧W.cell? ⟨bp,2,none⟩=some lv
 q:W.cell? ⟨bq,0,none⟩=some dv2∧W.cell? ⟨bq,1,none⟩=some kv2∧W.cell? ⟨bq,2,none⟩=some lv2
 d:Lst dtE W.heap.size W dv D
 d2:Lst dtE W.heap.size W dv2 D2
theorem LoR.up {wr W W':World}{bs bp bq:Nat}{g:Int}{dv kv lv dv2 kv2 lv2:Value}{D D2:List Dt}(h:LoR wr bs bp bq g dv kv lv dv2 kv2 lv2 D D2 W)(hb:Below W.heap.size W W'):LoR wr bs bp bq g dv kv lv dv2 kv2 lv2 D D2 W' :=
 ⟨h.bel.trans (hb.mono h.bel.size),a1z hb h.g,⟨a1z hb h.p.1,a1z hb h.p.2.1,a1z hb h.p.2.2⟩,⟨a1z hb h.q.1,a1z hb h.q.2.1,a1z hb h.q.2.2⟩,h.d.up hb,h.d2.up hb⟩
theorem c6m (l:List Dt)(k i:Int):(a7w l k i).length≤l.length:=List.length_filter_le _ _
theorem c1i (l:List Dt)(k:Int):(a4c l k).length≤l.length:=List.length_filter_le _ _
theorem c1j {l:List Dt}{k i:Int}(h:∀d∈l,a0i d.x∧a0i d.y):∀d∈a7w l k i,a0i d.x∧a0i d.y:=fun d hd=>h d (List.mem_filter.1 hd).1
theorem b8a {l:List Dt}{k:Int}(h:∀d∈l,a0i d.x∧a0i d.y):∀d∈a4c l k,a0i d.x∧a0i d.y:=fun d hd=>h d (List.mem_filter.1 hd).1
def FLo (bs bp bq:Nat)(g id:Int)(dv kv lv dv2 kv2 lv2:Value)(D D2:List Dt)(i:Nat)(v:Value)(w:World):Prop :=
 match i with
 |0=>v= .agg #[dv,kv,lv]
 |1=>v= .int .i64 id
 |2=>Dts w.heap.size w v (a7w D 3 id)
 |3=>v= .agg #[dv2,kv2,lv2]
 |4=>v= .int .i64 id
 |5=>Dts w.heap.size w v (a7w D2 3 id)
 |6=>v= .bool true
 |_=>False
theorem FLo.kept {bs bp bq:Nat}{g id:Int}{dv kv lv dv2 kv2 lv2:Value}{D D2:List Dt}{i:Nat}{v:Value}{w w':World}(h:FLo bs bp bq g id dv kv lv dv2 kv2 lv2 D D2 i v w)(hg:Below w.heap.size w w'):FLo bs bp bq g id dv kv lv dv2 kv2 lv2 D D2 i v w':=by
 unfold FLo at *;split at h
 all_goals first|exact h|(exact Dts.up30 h hg)
def FLw (bs bp bq:Nat)(g id:Int)(dv kv lv dv2 kv2 lv2:Value)(D D2:List Dt)(i:Nat)(v:Value)(w:World):Prop :=
 match i with
 |0=>v= .bool true
 |1=>v= .bool true
 |2=>v= .agg #[dv,kv,lv]
 |3=>Dts w.heap.size w v (a4c D 2)
 |4=>v= .agg #[dv2,kv2,lv2]
 |5=>Dts w.heap.size w v (a4c D2 2)
 |6=>v= .bool true
 |7=>v= .bool true
 |_=>False
theorem FLw.kept {bs bp bq:Nat}{g id:Int}{dv kv lv dv2 kv2 lv2:Value}{D D2:List Dt}{i:Nat}{v:Value}{w w':World}(h:FLw bs bp bq g id dv kv lv dv2 kv2 lv2 D D2 i v w)(hg:Below w.heap.size w w'):FLw bs bp bq g id dv kv lv dv2 kv2 lv2 D D2 i v w':=by
 unfold FLw at *;split at h
 all_goals first|exact h|(exact Dts.up30 h hg)
def FLa (bs:Nat)(g:Int)(cv lw:Value)(C L:List Dt)(r:Bool)(i:Nat)(v:Value)(w:World):Prop :=
 match i with
 |0=>v= .bool false
 |1=>v= .bool false
 |2=>v=undef
 |3=>v= .bool false
 |4=>v= .bool false
 |5=>v=undef
 |6=>v=undef
 |7=>v=undef
 |8=>v=undef
 |9=>v=undef
 |10=>v=undef
 |_=>False
theorem FLa.kept {bs:Nat}{g:Int}{cv lw:Value}{C L:List Dt}{r:Bool}{i:Nat}{v:Value}{w w':World}(h:FLa bs g cv lw C L r i v w)(hg:Below w.heap.size w w'):FLa bs g cv lw C L r i v w':=by
 unfold FLa at *;split at h
 all_goals first|exact h
def FLb (bs:Nat)(g:Int)(cv lw:Value)(C L:List Dt)(r:Bool)(i:Nat)(v:Value)(w:World):Prop :=
 match i with
 |0=>v= .bool true
 |1=>v= .bool true
 |2=>v= .bool false
 |3=>v= .bool false
 |4=>v= .bool false
 |5=>v=undef
 |6=>v=undef
 |7=>v=undef
 |8=>v=undef
 |9=>v=undef
 |10=>v=undef
 |_=>False
theorem FLb.kept {bs:Nat}{g:Int}{cv lw:Value}{C L:List Dt}{r:Bool}{i:Nat}{v:Value}{w w':World}(h:FLb bs g cv lw C L r i v w)(hg:Below w.heap.size w w'):FLb bs g cv lw C L r i v w':=by
 unfold FLb at *;split at h
 all_goals first|exact h
def FLc (bs:Nat)(g:Int)(cv lw:Value)(C L:List Dt)(r:Bool)(i:Nat)(v:Value)(w:World):Prop :=
 match i with
 |0=>v= .bool true
 |1=>v= .bool true
 |2=>v= .bool true
 |3=>v= .bool true
 |4=>v= .bool true
 |5=>v=cv
 |6=>v=lw
 |7=>v= .int .i64 (a1x C L)
 |8=>v= .pointer (some ⟨bs,5,none⟩)
 |9=>v= .int .i64 g
 |10=>v= .bool r
 |_=>False
theorem FLc.kept {bs:Nat}{g:Int}{cv lw:Value}{C L:List Dt}{r:Bool}{i:Nat}{v:Value}{w w':World}(h:FLc bs g cv lw C L r i v w)(hg:Below w.heap.size w w'):FLc bs g cv lw C L r i v w':=by
 unfold FLc at *;split at h
 all_goals first|exact h
end
section
open Go.RowKit Go.Shelf
section
variable {H:Type}{enc:TypeId×Value→H}{P:Program}{W:World}{base:Nat}{sp:Nat→Bool}{hd:Bool}{t e:TypeId}{v:Value}
theorem c6n {fuel:Nat}{x:DataW H×List MemPlace}(ht:P.underlying t=some (.slice e))(he:P.underlying e=some (.int .i64))(hc:P.cellsOf e=1)
 (h:DataW.trod enc P W base sp hd fuel t [v]=some x):∃xs,Intz W.heap.size W v xs:=by
 rcases Go.ChangeShapes.open_ints ht he hc h with ⟨h1,-⟩|⟨a,len,cap,zs,h1,-,h2,h2m,h3,-,h4,h5⟩
 ·obtain rfl:v= .slice none 0 0:=by simpa using h1
  exact⟨[],Intz.nil _ _⟩
 ·obtain rfl:v= .slice (some a) len cap:=by simpa using h1
  have hz:len≤zs.length:=by rw[h3];split <;> omega
  refine⟨zs.take len,⟨some a,cap,by rw[List.length_take,Nat.min_eq_left hz],fun j hj=> ?_⟩,?_⟩
  ·have hj':j<len:=by rw[List.length_take] at hj;omega
   obtain⟨b,off,rfl,h6⟩:=Go.ints_at h4 (by omega);have h7:=h6 j (by omega);have hg:zs.getD j 0=zs[j]:=by rw[List.getD_eq_getElem?_getD,List.getElem?_eq_getElem (by omega)];rfl
   rw[List.getElem_take];rw[hg] at h7;exact⟨b,off,rfl,World.block_lt_of_cell? _ _ h7,c7t _ (h5 _ (List.getElem_mem _)),h7⟩
  ·rw[List.length_take,Nat.min_eq_left hz]
   unfold maxLen at h2m;show len≤9223372036854775807;omega
theorem d1t {t2:TypeId}(ht2:P.underlying t2=some (.slice t))(hc2:P.cellsOf t=1)(ht:P.underlying t=some (.slice e))(he:P.underlying e=some (.int .i64))(hc:P.cellsOf e=1)(hv:∀cs,v≠.agg cs)
 (h:∃d p,DataW.Trod enc P W base sp hd t2 v d p):∃rows,Mat W.heap.size W v rows∧b4d rows.length:=by
 obtain⟨d,p,fuel,h⟩:=h;have hcs:v.cells.toList=[v]:=by cases v <;> first|rfl|exact absurd rfl (hv _)
 rw[hcs] at h;rcases Go.Deep.open_slice1 ht2 hc2 h with ⟨h1,-⟩|⟨a,len,cap,m,n,V,D,Pl,h1,-,h2,h2m,h3,-,h4⟩
 ·obtain rfl:v= .slice none 0 0:=by simpa using h1
  exact⟨[],⟨none,0,rfl,yR _,fun j hj=>by simp at hj⟩,Nat.zero_le _⟩
 ·obtain rfl:v= .slice (some a) len cap:=by simpa using h1
  have hm:len≤m:=by rw[h3];split <;> omega
  have each:∀i,i<len→∃r:Value×List Int,W.cell? (a.add i)=some r.1∧Intz W.heap.size W r.1 r.2:=fun i hi=>by
   obtain⟨h5,h6⟩:=h4 i (by omega);obtain⟨xs,hx⟩:=c6n ht he hc h6;exact⟨(V i,xs),h5,hx⟩
  have inh:Inhabited (Value×List Int):=⟨(.bool false,[])⟩;obtain⟨f,hf⟩:=Go.Deep.choose_lt each;refine⟨(List.range len).map f,⟨some a,cap,by simp,by simpa using h2,fun j hj=> ?_⟩,?_⟩
  ·have hj':j<len:=by simpa using hj
   obtain⟨c0,hi⟩:=hf j hj';have hspot:a.spot=none:=by
    have d0:=(hf 0 (by omega)).1;simpa [Addr.add] using World.cell?_spot d0
   obtain⟨b,off,spot⟩:=a;simp only at hspot;subst hspot;rw[Go.WideShapes.add_plain] at c0;have hg:((List.range len).map f)[j]=f j:=by simp
   rw[hg];exact⟨b,off,rfl,World.block_lt_of_cell? _ _ c0,c0,hi⟩
  ·rw[List.length_map,List.length_range]
   unfold maxLen at h2m;show len≤9223372036854775807;omega
end
section
variable {P:Program}{W:World}{r:Reach}{base:Nat}{t:TypeId}{v:Value}
end
section
variable {P:Program}{W:World}{r:Reach}{base:Nat}{t:TypeId}{v:Value}
theorem a2n (ht:P.underlying t=some (.int .i64))(h:Cell.okWide P W r base t v):∃x,v= .int .i64 x∧a0i x:=by
 unfold Cell.okWide at h;rw[ht] at h
 cases v <;> simp[Cell.ok,ht] at h
 rename_i k n;obtain⟨rfl,h2⟩:=h;refine⟨n,rfl,?_⟩;simp[IntKind.has,IntKind.min,IntKind.max,IntKind.signed,IntKind.bits] at h2;exact⟨by omega,by omega⟩
theorem b5h (ht:P.underlying t=some (.int .u8))(h:Cell.okWide P W r base t v):∃x,v= .int .u8 x∧0≤x∧x≤255:=by
 unfold Cell.okWide at h;rw[ht] at h
 cases v <;> simp[Cell.ok,ht] at h
 rename_i k n;obtain⟨rfl,h2⟩:=h;refine⟨n,rfl,?_⟩;simp[IntKind.has,IntKind.min,IntKind.max,IntKind.signed,IntKind.bits] at h2;exact⟨by omega,by omega⟩
theorem b9z (hrow:(match P.underlying t with|some (.struct _)|some (.array _ _)=>true|_=>false)=true)(h:Value.okWide P W r base t v):∃cs,v= .agg cs∧cs.size=P.cellsOf t∧Row.okWide P W r base t cs:=by
 unfold Value.okWide at h;split at hrow <;> simp_all
end
section
variable {H:Type}{enc:TypeId×Value→H}{P:Program}{W:World}{base:Nat}{sp:Nat→Bool}{hd:Bool}{t e:TypeId}{v:Value}
theorem b8b {ts:List TypeId}{vs:List Value}{ds:List (DataW H)}{ps:List MemPlace}(h:DataW.TrodAll enc P W base sp hd (t::ts) (v::vs) ds ps):∃d p,DataW.Trod enc P W base sp hd t v d p:=by
 cases ds with
 |nil=>exact h.elim
 |cons d ds=>obtain⟨p,q,h1,-,-⟩:=h;exact⟨d,p,h1⟩
theorem c9o {t2:TypeId}{fuel:Nat}{x:DataW H×List MemPlace}(ht2:P.underlying t2=some (.slice t))(hc2:P.cellsOf t=1)(ht:P.underlying t=some (.slice e))(he:P.underlying e=some (.int .i64))(hc:P.cellsOf e=1)
 (h:DataW.trod enc P W base sp hd fuel t2 [v]=some x):∃rows,Mat W.heap.size W v rows∧b4d rows.length:=by
 have hv:∀cs,v≠.agg cs:=by
  rcases Go.Deep.open_slice1 ht2 hc2 h with ⟨h1,-⟩|⟨a,len,cap,m,n,V,D,Pl,h1,-⟩
  ·obtain rfl:v= .slice none 0 0:=by simpa using h1
   intro cs hcs
   cases hcs
  ·obtain rfl:v= .slice (some a) len cap:=by simpa using h1
   intro cs hcs
   cases hcs
 have hcs:v.cells.toList=[v]:=by cases v <;> first|rfl|exact absurd rfl (hv _)
 exact d1t ht2 hc2 ht he hc hv ⟨x.1,x.2,fuel,by rw[hcs];exact h⟩
end
theorem c9p {H:Type}{enc:TypeId×Value→H}{W:World}{r:Reach}{base base2:Nat}{sp:Nat→Bool}{hd:Bool}{v:Value}(h:Value.okWide prog W r base 30 v)(ht:∃d p,DataW.Trod enc prog W base2 sp hd 30 v d p) :
 ∃rv rows q0 q1 q2 b0 b1 b2 b3 raw,v= .agg (a9q rv q0 q1 q2 b0 b1 b2 b3 raw)∧Mat W.heap.size W rv rows∧(a0i q0∧a0i q1∧a0i q2)∧((0≤b0∧b0≤255)∧(0≤b1∧b1≤255)∧(0≤b2∧b2≤255)∧(0≤b3∧b3≤255))∧a0i raw.ax∧a0i raw.ay:=by
 obtain⟨cs,rfl,hn,ts,hts,-,hcell⟩:=b9z (by kernel_rfl) h;obtain rfl:ts=[22,3,3,3,5,5,5,5,3,3,3,3,3,3]:=Option.some.inj (hts.symm.trans (by kernel_rfl));have hn':cs.size=14:=hn.trans (by kernel_rfl);obtain⟨l⟩:=cs;match l,hn',hcell,ht with
 |[c0,c1,c2,c3,c4,c5,c6,c7,c8,c9,c10,c11,c12,c13],_,hcell,⟨d,p,fuel,ht⟩ =>
  have hfs:prog.underlying 30=some (.struct (prog.fieldsOf 30)):=by kernel_rfl
  obtain⟨xs,n,-,-,hl,hxl,hf'⟩:=DataW.trod_struct hfs ht;have hf0:(prog.fieldsOf 30)[0]?.map (fun f=>(f.offset,f.type))=some (0,22):=by kernel_rfl
  obtain⟨f,hfe,hft⟩:=Option.map_eq_some_iff.1 hf0;simp only[Prod.mk.injEq] at hft;have h0':=hf' 0 f hfe;rw[hft.1,hft.2,show prog.cellsOf 22=1 from by kernel_rfl] at h0';have hsz:(prog.fieldsOf 30).size=4:=by kernel_rfl
  rw[List.getElem?_eq_getElem (by rw[hxl,hsz];decide)] at h0';obtain⟨rows,hM,-⟩:=c9o (t2:=22) (t:=51) underlying22 (by kernel_rfl) underlying51 underlying3 (by kernel_rfl) (v:=c0) h0';clear h0' hf' hxl hl ht hfs hfe hf0 hft hsz h;obtain⟨u0,k0,g0⟩:=hcell 0 c0 rfl;obtain⟨u1,k1,g1⟩:=hcell 1 c1 rfl;obtain⟨u2,k2,g2⟩:=hcell 2 c2 rfl;obtain⟨u3,k3,g3⟩:=hcell 3 c3 rfl;obtain⟨u4,k4,g4⟩:=hcell 4 c4 rfl;obtain⟨u5,k5,g5⟩:=hcell 5 c5 rfl;obtain⟨u6,k6,g6⟩:=hcell 6 c6 rfl;obtain⟨u7,k7,g7⟩:=hcell 7 c7 rfl;obtain⟨u8,k8,g8⟩:=hcell 8 c8 rfl;obtain⟨u9,k9,g9⟩:=hcell 9 c9 rfl;obtain⟨u10,k10,g10⟩:=hcell 10 c10 rfl;obtain⟨u11,k11,g11⟩:=hcell 11 c11 rfl;obtain⟨u12,k12,g12⟩:=hcell 12 c12 rfl;obtain⟨u13,k13,g13⟩:=hcell 13 c13 rfl
  cases k0;cases k1;cases k2;cases k3;cases k4;cases k5;cases k6;cases k7;cases k8;cases k9;cases k10;cases k11;cases k12;cases k13;obtain⟨q0,rfl,f1⟩:=a2n underlying3 g1;obtain⟨q1,rfl,f2⟩:=a2n underlying3 g2;obtain⟨q2,rfl,f3⟩:=a2n underlying3 g3;obtain⟨b0,rfl,f4⟩:=b5h underlying5 g4;obtain⟨b1,rfl,f5⟩:=b5h underlying5 g5;obtain⟨b2,rfl,f6⟩:=b5h underlying5 g6;obtain⟨b3,rfl,f7⟩:=b5h underlying5 g7;obtain⟨r8,rfl,f8⟩:=a2n underlying3 g8;obtain⟨r9,rfl,f9⟩:=a2n underlying3 g9;obtain⟨r10,rfl,f10⟩:=a2n underlying3 g10;obtain⟨r11,rfl,f11⟩:=a2n underlying3 g11;obtain⟨r12,rfl,f12⟩:=a2n underlying3 g12;obtain⟨r13,rfl,f13⟩:=a2n underlying3 g13;exact⟨c0,rows,q0,q1,q2,b0,b1,b2,b3,⟨r8,r9,r10,r11,r12,r13⟩,rfl,hM,⟨f1,f2,f3⟩,⟨f4,f5,f6,f7⟩,f8,f9⟩
theorem laidMet.tl {P:Program}{W:World}{a:String×DataW Unit}{rest:List (String×DataW Unit)}(h:laidMet P (a::rest) W):laidMet P rest W:=by
 obtain⟨ps,hl,hn,hb⟩:=h;obtain⟨n,d⟩:=a;obtain⟨g,t,cs,fuel,p,q,-,-,-,-,hr,rfl⟩:=hl;exact⟨q,hr,(List.nodup_append.1 hn).2.1,fun b off hm=>hb b off (List.mem_append_right _ hm)⟩
end
end Go.Proofs.YtfocdbjceedagaaGreatDoor
