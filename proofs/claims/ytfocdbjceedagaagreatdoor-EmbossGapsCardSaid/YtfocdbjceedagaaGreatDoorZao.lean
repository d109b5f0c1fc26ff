/-
  Parts.
-/
import Derived.Test.YtfocdbjceedagaaGreatDoorZan
set_option linter.unusedVariables false
set_option linter.unusedSimpArgs false
namespace Go.Proofs.YtfocdbjceedagaaGreatDoor
open Tryz
section
open Go.RowKit Go.Shelf
attribute [local go_sem] Oper.semAt_some
attribute [local go_sem ↓] Go.wp_at_zero Go.wp_at_succ
theorem outB_byte (s:ByteArray)(hd:Digs s):∀n,n≤s.size→∀c∈outB s n,c.toNat=60∨c.toNat=26∨c.toNat=1∨c.toNat=3∨c.toNat=9∨c.toNat=25∨c.toNat=17∨c.toNat=11∨c.toNat=27∨c.toNat=19∨c.toNat=10
 |0,_,c,hc=>by cases hc
 |n+1,h,c,hc=>by
  unfold outB at hc
  rcases List.mem_append.1 hc with hc|hc
  ·split at hc
   ·rw[List.mem_singleton.1 hc]
    exact .inl rfl
   ·exact outB_byte s hd n (by omega) c hc
  ·rw[List.mem_singleton.1 hc]
   obtain⟨h0,h1⟩:=hd n (by omega)
   have hg:s[n]! =s[n]'(by omega):=getElem!_pos s n (by omega)
   rw[hg]
   obtain⟨k,hk⟩:∃k,(s[n]'(by omega)).toNat=k:=⟨_,rfl⟩
   rw[hk] at h0 h1 ⊢
   rcases (show k=48∨k=49∨k=50∨k=51∨k=52∨k=53∨k=54∨k=55∨k=56∨k=57 from by omega) with rfl|rfl|rfl|rfl|rfl|rfl|rfl|rfl|rfl|rfl <;> decide
def cellsN (n:Nat):ByteArray:=⟨(outB (txtN n) (txtN n).size).toArray⟩
theorem cellsN_size (n:Nat):(cellsN n).size=(outB (txtN n) (txtN n).size).length:=by
 show (outB (txtN n) (txtN n).size).toArray.size=_
 simp
theorem cellsN_byte (n k:Nat)(hk:k<(cellsN n).size):((cellsN n)[k]'hk).toNat=60∨((cellsN n)[k]'hk).toNat=26∨((cellsN n)[k]'hk).toNat=1∨((cellsN n)[k]'hk).toNat=3∨((cellsN n)[k]'hk).toNat=9∨((cellsN n)[k]'hk).toNat=25∨((cellsN n)[k]'hk).toNat=17∨((cellsN n)[k]'hk).toNat=11∨((cellsN n)[k]'hk).toNat=27∨((cellsN n)[k]'hk).toNat=19∨((cellsN n)[k]'hk).toNat=10:=by
 have hl:k<(outB (txtN n) (txtN n).size).length:=by rw[←cellsN_size];exact hk
 exact outB_byte (txtN n) (txtN_digs n) _ (yR _) _ (List.getElem_mem hl)
theorem cellsN_le (n:Nat)(h:n≤999):(cellsN n).size≤4:=by
 have h1:=outB_len (txtN n) (txtN n).size
 have h2:=decDigits_len 2 n (by omega)
 rw[cellsN_size]
 rw[txtN_size] at h1 ⊢
 omega
def cellD (n k q:Nat):Bool:=dotB ((cellsN n)[k]!).toNat q
theorem cellD_at (n k:Nat)(hk:k<(cellsN n).size)(q:Nat):cellD n k q=dotB ((cellsN n)[k]'hk).toNat q:=by
 unfold cellD
 rw[getElem!_pos (cellsN n) k hk]
structure PX (s:Sh)(pl:Array Value)(w:World)(B3 B4 base:Nat)(lv:Value)(l:List Spot)(W:World):Prop where
 sheet:Blk W B3 (shC s) 28
 place:Blk W B4 pl 66
 l3:B3<base
 l4:B4<base
 lw:w.heap.size≤base
 row:W.ownsRow base 26 2 lv l.length (l.flatMap encS)
 below:Below w.heap.size w W
 lb:base≤W.heap.size
section
variable {s:Sh}{pl:Array Value}{w W W':World}{B3 B4 base:Nat}{lv:Value}{l:List Spot}
theorem PX.grown (h:PX s pl w B3 B4 base lv l W)(hg:W.grownBy W' none):PX s pl w B3 B4 base lv l W' :=
 ⟨h.sheet.kept hg (by simp),h.place.kept hg (by simp),h.l3,h.l4,h.lw,row_other h.row hg (by simp),h.below.grown hg h.below.size (fun k e=>by cases e),Nat.le_trans h.lb hg.size⟩
theorem PX.alloc (h:PX s pl w B3 B4 base lv l W)(o:Obj):PX s pl w B3 B4 base lv l (W.alloc o):=h.grown (World.grownBy_alloc W o none)
theorem PX.up (h:PX s pl w B3 B4 base lv l W)(hb:Below W.heap.size W W'):PX s pl w B3 B4 base lv l W':=h.grown (grownBy_of_below hb)
end
structure PY (s:Sh)(pl:Array Value)(w:World)(B3 B4 base:Nat)(Bd:Nat)(d:Nat→Bool)(lv:Value)(l:List Spot)(W:World):Prop where
 px:PX s pl w B3 B4 base lv l W
 box:Blk W Bd #[.bool (d 0),.bool (d 1),.bool (d 2),.bool (d 3),.bool (d 4),.bool (d 5)] 126
theorem PY.cell {s:Sh}{pl:Array Value}{w W:World}{B3 B4 base Bd:Nat}{d:Nat→Bool}{lv:Value}{l:List Spot}(h:PY s pl w B3 B4 base Bd d lv l W)(n:Nat)(hn:n<6):W.cell? ⟨Bd,n,none⟩=some (.bool (d n)):=by
 rw[h.box.cell]
 match n,hn with
 |0,_=>rfl
 |1,_=>rfl
 |2,_=>rfl
 |3,_=>rfl
 |4,_=>rfl
 |5,_=>rfl
structure PZ (s:Sh)(pl:Array Value)(w:World)(B3 B4 base:Nat)(lv:Value)(l:List Spot)(v:Value)(ds:List Dt)(W:World):Prop where
 px:PX s pl w B3 B4 base lv l W
 out:W.ownsRow base 54 4 v ds.length (ds.flatMap encD)
section
variable {s:Sh}{pl:Array Value}{w W W':World}{B3 B4 base:Nat}{lv:Value}{l:List Spot}{v v':Value}{ds ds':List Dt}
theorem PZ.grown (h:PZ s pl w B3 B4 base lv l v ds W)(hg:W.grownBy W' none):PZ s pl w B3 B4 base lv l v ds W':=⟨h.px.grown hg,row_other h.out hg (by simp)⟩
theorem PZ.put (h:PZ s pl w B3 B4 base lv l v ds W)(hg:W.grownBy W' v.ownBlock)(hown:W'.ownsRow base 54 4 v' ds'.length (ds'.flatMap encD)):PZ s pl w B3 B4 base lv l v' ds' W':=by
 have hne:∀B,B<base→v.ownBlock≠some B:=fun B hB e=>by have:=(h.out.lt _ e).1;omega
 exact⟨⟨h.px.sheet.kept hg (hne _ h.px.l3),h.px.place.kept hg (hne _ h.px.l4),h.px.l3,h.px.l4,h.px.lw,row_other h.px.row hg (rows_apartR h.px.row h.out (by decide)),h.px.below.grown hg h.px.below.size (fun r e=>by have:=(h.out.lt _ e).1;have:=h.px.lw;omega),Nat.le_trans h.px.lb hg.size⟩,hown⟩
end
theorem Lst.one {n0:Nat}{W:World}{v:Value}{l:List Int}(h:Lst inE n0 W v l){k:Nat}(hk:k<l.length):∃b off c x,v= .slice (some ⟨b,off,none⟩) l.length c∧l[k]? =some x∧W.cell? ⟨b,off+k,none⟩=some (.int .i64 x):=by
 obtain⟨b,off,c,e,h1,h2,h3⟩:=h.some_ (by omega)
 refine⟨b,off,c,l[k],e,List.getElem?_eq_getElem hk,?_⟩
 have:=h3 k hk 0 (by decide)
 simpa using this
end
section
open Go.RowKit Go.Shelf
attribute [local go_sem] Oper.semAt_some
def Pow (W : World) : Prop := Lib.TabIs prog W "internal/strconv.uint64pow10" .u64 Lib.pow10Tab
theorem Pow.below {W W':World}(h:Pow W)(hb:Below W.heap.size W W'):Pow W':=by
 unfold Pow Lib.TabIs World.var? at *
 obtain⟨g,hg,h2⟩:=Option.bind_eq_some_iff.1 h
 rw[hg]
 have hlt:g<W.heap.size:=by
  cases ho:W.heap[g]? with
  |none=>rw[ho] at h2;cases h2
  |some o=>exact (Array.getElem?_eq_some_iff.1 ho).1
 show (match W'.heap[g]? with|some (.cells cs _ _)=>some cs|_=>none)=_
 rw[hb.block g hlt]
 exact h2
def plM (cls:ByteArray):Nat:=((sumB cls.data.toList).tmod 7).toNat
theorem plM_lt (cls:ByteArray):plM cls<7∧(sumB cls.data.toList).tmod 7=plM cls:=by
 have h:=(sumB_le cls.data.toList).1
 have h1:=Int.tmod_nonneg 7 h
 have h2:=Int.tmod_lt_of_pos (sumB cls.data.toList) (b:=7) (by omega)
 unfold plM
 omega
def plPts (i j:Int)(cls:ByteArray)(num:Int):List Spot:=placePts i j (symB (plM cls)) (cellD num.toNat) (cellsN num.toNat).size
def plF (s:Sh)(x y id:Int)(cls:ByteArray)(num:Int):Bool×List Dt :=
 if (ofS s x y).2.2&&decide (1≤num)&&decide (num≤999)&&(plPts (ofS s x y).1 (ofS s x y).2.1 cls num).all (fun p=>onS s p.1 p.2) then (true,outP id (plPts (ofS s x y).1 (ofS s x y).2.1 cls num)) else (false,[])
theorem plF_no {s:Sh}{x y id:Int}{cls:ByteArray}{num i j:Int}{b:Bool}(h:ofS s x y=(i,j,b))(hno:b=false∨num<1∨999<num):plF s x y id cls num=(false,[]):=by
 unfold plF
 rw[h]
 rw[if_neg]
 rcases hno with rfl|h|h
 ·simp
 ·rw[decide_eq_false (show ¬1≤num by omega)];simp
 ·rw[decide_eq_false (show ¬num≤999 by omega)];simp
theorem plF_yes {s:Sh}{x y id:Int}{cls:ByteArray}{num i j:Int}(h:ofS s x y=(i,j,true))(h0:1≤num)(h1:num≤999):plF s x y id cls num=if (plPts i j cls num).all (fun p=>onS s p.1 p.2) then (true,outP id (plPts i j cls num)) else (false,[]):=by
 unfold plF
 rw[h]
 simp only[decide_eq_true h0,decide_eq_true h1,Bool.true_and]
theorem placePts_len (i j:Int)(r:Nat→Bool)(n:Nat)(hn:n≤999):(placePts i j r (cellD n) (cellsN n).size).length≤33:=by
 have h1:=cellPts_len i j (cellD n) (symPts i j r 9) (cellsN n).size
 have h2:=symPts_len i j r 9
 have h3:=cellsN_le n hn
 unfold placePts
 omega
theorem outB_first (s:ByteArray):∀n,(outB s (n+1))[0]? =some 60
 |0=>by simp[outB]
 |n+1=>by
  have h:=outB_first s n
  rw[outB,if_neg (by omega),List.getElem?_append_left (by obtain⟨h1,-⟩:=List.getElem?_eq_some_iff.1 h;exact h1)]
  exact h
theorem cellD_first (n:Nat):cellD n 0 2=true∧1≤(cellsN n).size:=by
 have hl:0<(Lib.decDigits n).length:=by rw[Lib.decDigits];split <;> simp
 have hs:0<(txtN n).size:=by rw[txtN_size];exact hl
 obtain⟨k,hk⟩:∃k,(txtN n).size=k+1:=⟨(txtN n).size-1,by omega⟩
 have hf:=outB_first (txtN n) k
 rw[←hk] at hf
 obtain⟨h0,h1⟩:=List.getElem?_eq_some_iff.1 hf
 have hz:0<(cellsN n).size:=by rw[cellsN_size];exact h0
 refine⟨?_,hz⟩
 rw[cellD_at n 0 hz 2]
 have h2:(cellsN n)[0]'hz=60:=h1
 rw[h2]
 decide
theorem dotPts_some (i j:Int)(k:Nat)(d:Nat→Bool)(l:List Spot)(h:d 2=true):dotPts i j k d l 6≠[]:=by
 simp only[dotPts,h,if_true]
 simp
theorem cellPts_some (i j:Int)(D:Nat→Nat→Bool)(l:List Spot)(h:D 0 2=true):∀n,cellPts i j D l (n+1)≠[]
 |0=>by rw[cellPts];exact dotPts_some _ _ _ _ _ h
 |n+1=>by
  have ih:=cellPts_some i j D l h n
  rw[cellPts]
  simp only[dotPts]
  simp[ih]
theorem placeE_some (i j id:Int)(r:Nat→Bool)(n:Nat):placeE i j id r (cellD n) (cellsN n).size≠[]:=by
 obtain⟨h1,h2⟩:=cellD_first n
 obtain⟨k,hk⟩:∃k,(cellsN n).size=k+1:=⟨(cellsN n).size-1,by omega⟩
 have h3:=cellPts_some i j (cellD n) (symPts i j r 9) h1 k
 rw[placeE_pts]
 unfold placePts
 rw[hk]
 obtain⟨q,hq⟩:=List.exists_mem_of_ne_nil _ h3
 intro he
 have h4:=(fold_keys (id:=id) q (cellPts i j (cellD n) (symPts i j r 9) (k+1)) []).2 (.inl hq)
 rw[he] at h4
 simp at h4
theorem place_range (s:Sh)(id x y wt di num i j:Int)(cls name:ByteArray)(w:World)(f0:fits s.ax)(f1:fits s.ay)(hof:ofS s x y=(i,j,true))(hno:num<1∨999<num) :
 Calls prog 23 #[shV s,.agg (plC id x y wt di cls name),.int .i64 num] w fun e w'=>e= .returned (.tuple #[.slice none 0 0,.bool false])∧Below w.heap.size w w':=by
 obtain⟨ax,ay,st,sw,sh,sg⟩:=s
 replace hof:=Lib.hid hof
 have hwin:inR 1 num 999=false:=by unfold inR;rcases hno with h|h <;> simp <;> omega
 replace hwin:=Lib.hid hwin
 clear hno
 go_enter func23,ntmps23
 go_wp2_with (first|(go_at_call 62;refine (of_eq hof.out _ f0 f1).mono ?_;rintro e w'⟨rfl,hb_⟩;obtain⟨p,rfl⟩:=grow_of_below hb_;clear hb_)|(go_at_call 59;refine (within_eq hwin.out _).mono ?_;rintro e w'⟨rfl,rfl⟩)|fail)
 go_ret2
 exact⟨rfl,(by repeat' (first|with_reducible (first|exact zR _ _|exact yR _|assumption|refine zG ?_ ?_ _|refine zA ?_ ?_ _|refine zS ?_ ?_ _|refine zD ?_|refine yA ?_|refine yG ?_|refine yS ?_|refine yD ?_)|omega|(dsimp only;omega)))⟩
theorem dts_out {s:Sh}{W:World}{base:Nat}{v:Value}{id:Int}{ps:List Spot}(hs:OkS s)(hl:ps.length≤1000)(hon:∀p∈ps,onS s p.1 p.2=true)(h:W.ownsRow base 54 4 v (outP id ps).length ((outP id ps).flatMap encD)):Dts W.heap.size W v (outP id ps) :=
 dts_of_row h (by have:=outP_length id ps;omega) (fun d hd=>by
  have h9:=onS_iff.1 (outP_mem hon d hd)
  have w1:=hs.w1
  have v1:=hs.h1
  try simp only at h9
  exact⟨⟨by omega,by omega⟩,by omega,by omega⟩)
theorem place_dts (s:Sh)(id x y wt di num:Int)(cls name:ByteArray)(w:World)(f0:fits s.ax)(f1:fits s.ay)(hid:fits id)(hcl:cls.size≤1000)(htab:Pow w) :
 Calls prog 23 #[shV s,.agg (plC id x y wt di cls name),.int .i64 num] w fun e w'=>∃v,e= .returned (.tuple #[v,.bool (plF s x y id cls num).1])∧Dts w'.heap.size w' v (plF s x y id cls num).2∧Below w.heap.size w w':=by
 obtain⟨⟨i,j,b⟩,hof⟩:∃p,ofS s x y=p:=⟨_,rfl⟩
 cases b with
 |false =>
  rw[plF_no hof (.inl rfl)]
  refine (place_no s id x y wt di num i j cls name w f0 f1 hof).mono ?_
  rintro e w'⟨rfl,hb⟩
  exact⟨_,rfl,.inl ⟨rfl,rfl⟩,hb⟩
 |true =>
  by_cases hr:num<1∨999<num
  ·rw[plF_no hof (.inr hr)]
   refine (place_range s id x y wt di num i j cls name w f0 f1 hof hr).mono ?_
   rintro e w'⟨rfl,hb⟩
   exact⟨_,rfl,.inl ⟨rfl,rfl⟩,hb⟩
  ·obtain⟨n,rfl⟩:∃n:Nat,num=n:=⟨num.toNat,by omega⟩
   rw[plF_yes hof (by omega) (by omega)]
   unfold plPts
   rw[Int.toNat_natCast]
   obtain⟨hm,hsum⟩:=plM_lt cls
   have hs:=okS_of (ofS_true hof).1
   have hit:∀W,Below w.heap.size w W→Calls prog 65 #[.int .i64 (n:Nat)] W fun e W'=>e= .returned (.string (txtN n))∧Below W.heap.size W W':=fun W hW=>by
    refine (Tryz.strconv_Itoa (n:Nat) (by omega) (by omega) W (htab.below hW)).mono ?_
    rintro e W'⟨rfl,k,os,rfl⟩
    refine⟨?_,?_⟩
    ·unfold txtN Lib.itoa
     rw[if_neg (by omega),Int.toNat_natCast]
    ·refine⟨rfl,rfl,rfl,?_,fun q hq=> ?_⟩
     ·show W.heap.size≤(W.heap++os).size
      rw[Array.size_append]
      omega
     ·show (W.heap++os)[q]? =W.heap[q]?
      rw[Array.getElem?_append_left hq]
   have hwr:∀W,Calls prog 64 #[.string (txtN n)] W fun e W'=>e= .returned (.tuple #[.string (cellsN n),.int .i64 0])∧Below W.heap.size W W':=fun W=>write_digs (txtN n) (txtN_digs n) (by rw[txtN_size];have:=decDigits_len 2 n (by omega);omega) W
   have hdots:∀k (h:k<(cellsN n).size) W,Calls prog 66 #[.int .u8 ((cellsN n)[k]).toNat] W fun e W'=>e= .returned (.agg #[.bool (cellD n k 0),.bool (cellD n k 1),.bool (cellD n k 2),.bool (cellD n k 3),.bool (cellD n k 4),.bool (cellD n k 5)])∧Below W.heap.size W W':=fun k hk W=>by
    rw[cellD_at n k hk 0,cellD_at n k hk 1,cellD_at n k hk 2,cellD_at n k hk 3,cellD_at n k hk 4,cellD_at n k hk 5]
    exact cd_any _ (cellsN_byte n k hk) W
   refine (place_yes s id x y wt di n i j cls name (txtN n) (cellsN n) (cellD n) (plM cls) w f0 f1 hof hid (by omega) (by omega) (by omega) hm hsum (by have:=cellsN_le n (by omega);omega) hit hwr hdots (placeE_some i j id _ n)).mono ?_
   have hkeys:∀p,p∈(placeE i j id (symB (plM cls)) (cellD n) (cellsN n).size).map (·.1)↔p∈placePts i j (symB (plM cls)) (cellD n) (cellsN n).size:=fun p=>by
    rw[placeE_pts,fold_keys]
    simp
   have hpl:=placePts_len i j (symB (plM cls)) n (by omega)
   rintro e w'⟨hb,⟨h,v,base,rfl,-,hrow⟩|⟨⟨p,hp,h⟩,rfl⟩⟩
   ·have hall:∀p∈placePts i j (symB (plM cls)) (cellD n) (cellsN n).size,onS s p.1 p.2=true:=fun p hp=>h p ((hkeys p).2 hp)
    rw[if_pos (List.all_eq_true.2 hall)]
    rw[placeE_pts,←outP_dots hall] at hrow
    exact⟨v,rfl,dts_out hs (by omega) hall hrow,hb⟩
   ·rw[if_neg (fun hc=>by have:=List.all_eq_true.1 hc p ((hkeys p).1 hp);rw[h] at this;cases this)]
    exact⟨_,rfl,.inl ⟨rfl,rfl⟩,hb⟩
end
section
open Go.RowKit Go.Shelf
structure CT where
 k:Nat
 e:TypeId
abbrev CT.int:CT:=⟨0,0⟩
abbrev CT.str:CT:=⟨1,0⟩
abbrev CT.bool:CT:=⟨2,0⟩
abbrev CT.sl (e:TypeId):CT:=⟨3,e⟩
abbrev CT.any:CT:=⟨4,0⟩
def cellsT (t:TypeId):List CT :=
 if t=3 then [.int]
 else if t=26 then [.int,.int]
 else if t=245 then [.int,.int,.int]
 else if t=206 then [.int,.sl 26,.int,.int]
 else if t=249 then [.int,.sl 245,.int,.int]
 else if t=140 then [.int,.str,.str,.int,.int]
 else if t=149 then [.int,.sl 26,.int,.str,.str,.bool,.int,.int]
 else if t=66 then [.int,.int,.int,.str,.any,.int,.int]
 else []
abbrev sizeT (t:TypeId):Nat:=(cellsT t).length
abbrev BS:=Nat→Prop
def SL (S:BS)(W:World)(e:TypeId)(v:Value)(n:Nat):Prop :=
 ∃a cap,v= .slice a n cap∧n≤cap∧((a=none∧cap=0)∨∃b o c,a=some ⟨b,o*sizeT e,none⟩∧S b∧Blk W b c e∧(o+cap)*sizeT e≤c.size)
structure CT.ok (S:BS)(W:World)(ct:CT)(v:Value):Prop where
 lt:ct.k<5
 i:ct.k=0→∃x,v= .int .i64 x∧fits x
 s:ct.k=1→∃s:ByteArray,v= .string s∧s.size≤30
 b:ct.k=2→∃b,v= .bool b
 l:ct.k=3→∃n,n≤100∧SL S W ct.e v n
 a:ct.k=4→∃s:ByteArray,v= .string s
theorem CT.ok_int {S:BS}{W:World}{x:Int}(h:fits x):CT.int.ok S W (.int .i64 x):=⟨by decide,fun _=>⟨x,rfl,h⟩,fun e=>absurd e (by decide),fun e=>absurd e (by decide),fun e=>absurd e (by decide),fun e=>absurd e (by decide)⟩
theorem CT.ok_str {S:BS}{W:World}{s:ByteArray}(h:s.size≤30):CT.str.ok S W (.string s):=⟨by decide,fun e=>absurd e (by decide),fun _=>⟨s,rfl,h⟩,fun e=>absurd e (by decide),fun e=>absurd e (by decide),fun e=>absurd e (by decide)⟩
theorem CT.ok_bool {S:BS}{W:World}(b:Bool):CT.bool.ok S W (.bool b):=⟨by decide,fun e=>absurd e (by decide),fun e=>absurd e (by decide),fun _=>⟨b,rfl⟩,fun e=>absurd e (by decide),fun e=>absurd e (by decide)⟩
theorem CT.ok_sl {S:BS}{W:World}{e:TypeId}{v:Value}{n:Nat}(h:SL S W e v n)(hn:n≤100):(CT.sl e).ok S W v:=⟨by show 3<5;decide,fun e=>absurd e (by show ¬3=0;decide),fun e=>absurd e (by show ¬3=1;decide),fun e=>absurd e (by show ¬3=2;decide),fun _=>⟨n,hn,h⟩,fun e=>absurd e (by show ¬3=4;decide)⟩
def TB (S:BS)(W:World)(e:TypeId)(c:Array Value):Prop:=∀(i:Nat)(u:Value)(ct:CT),c[i]? =some u→(cellsT e)[i % sizeT e]? =some ct→ct.ok S W u
def TW (S:BS)(W:World):Prop:=∀b,S b→∃c e,Blk W b c e∧TB S W e c
def Shp (S:BS)(W W':World):Prop:=∀b c e,S b→Blk W b c e→∃c',Blk W' b c' e∧c'.size=c.size
theorem Shp.refl (S:BS)(W:World):Shp S W W:=fun _ c _ _ h=>⟨c,h,rfl⟩
theorem Shp.trans {S S1:BS}{W W1 W2:World}(h1:Shp S W W1)(h2:Shp S1 W1 W2)(hs:∀b,S b→S1 b):Shp S W W2:=fun b c e hb hc=>by
 obtain⟨c1,k1,s1⟩:=h1 b c e hb hc
 obtain⟨c2,k2,s2⟩:=h2 b c1 e (hs b hb) k1
 exact⟨c2,k2,s2.trans s1⟩
theorem SL.mono {S S':BS}{W W':World}{e:TypeId}{v:Value}{n:Nat}(h:SL S W e v n)(hs:∀b,S b→S' b)(hsh:Shp S W W'):SL S' W' e v n:=by
 obtain⟨a,cap,rfl,hn,h|⟨b,o,c,rfl,hb,hc,hl⟩⟩:=h
 ·exact⟨a,cap,rfl,hn,.inl h⟩
 ·obtain⟨c',hc',hz⟩:=hsh b c e hb hc
  exact⟨_,cap,rfl,hn,.inr ⟨b,o,c',rfl,hs b hb,hc',by omega⟩⟩
theorem CT.ok.mono {S S':BS}{W W':World}{ct:CT}{v:Value}(h:ct.ok S W v)(hs:∀b,S b→S' b)(hsh:Shp S W W'):ct.ok S' W' v :=
 ⟨h.lt,h.i,h.s,h.b,fun e=>by obtain⟨n,hn,h⟩:=h.l e;exact⟨n,hn,h.mono hs hsh⟩,h.a⟩
theorem TB.mono {S S':BS}{W W':World}{e:TypeId}{c:Array Value}(h:TB S W e c)(hs:∀b,S b→S' b)(hsh:Shp S W W'):TB S' W' e c:=fun i u ct h1 h2=>(h i u ct h1 h2).mono hs hsh
structure Ev (X:BS)(S:BS)(W:World)(S':BS)(W':World):Prop where
 sub:∀b,S b→S' b
 new:∀b,S' b→S b∨W.heap.size≤b
 os:W'.os=W.os
 tape:W'.tape=W.tape
 output:W'.output=W.output
 size:W.heap.size≤W'.heap.size
 rest:∀b,b<W.heap.size→¬S b→¬X b→W'.heap[b]? =W.heap[b]?
 shape:Shp S W W'
 ok:TW S' W'
theorem TW.lt {S:BS}{W:World}(h:TW S W){b:Nat}(hb:S b):b<W.heap.size:=by
 obtain⟨c,e,hc,-⟩:=h b hb
 exact hc.lt
theorem Ev.refl {X S:BS}{W:World}(h:TW S W):Ev X S W S W:=⟨fun _ h=>h,fun _ h=> .inl h,rfl,rfl,rfl,yR _,fun _ _ _ _=>rfl,Shp.refl _ _,h⟩
theorem Ev.trans {X S S1 S2:BS}{W W1 W2:World}(h1:Ev X S W S1 W1)(h2:Ev X S1 W1 S2 W2):Ev X S W S2 W2 :=
 ⟨fun b h=>h2.sub b (h1.sub b h),fun b h=>by
  rcases h2.new b h with h|h
  ·exact h1.new b h
  ·exact .inr (Nat.le_trans h1.size h),h2.os.trans h1.os,h2.tape.trans h1.tape,h2.output.trans h1.output,Nat.le_trans h1.size h2.size,fun b hb hn hx=>by
  have hn1:¬S1 b:=fun h=>by
   rcases h1.new b h with h|h
   ·exact hn h
   ·omega
  exact (h2.rest b (Nat.lt_of_lt_of_le hb h1.size) hn1 hx).trans (h1.rest b hb hn hx),h1.shape.trans h2.shape h1.sub,h2.ok⟩
theorem Ev.below {X S S':BS}{W W':World}(h:Ev X S W S' W'){n:Nat}(hS:∀b,S b→n≤b)(hX:∀b,X b→n≤b)(hn:n≤W.heap.size):Below n W W' :=
 ⟨h.os,h.tape,h.output,h.size,fun b hb=>h.rest b (by omega) (fun hs=>by have:=hS b hs;omega) (fun hs=>by have:=hX b hs;omega)⟩
theorem Ev.sl {X S S':BS}{W W':World}(h:Ev X S W S' W'){e:TypeId}{v:Value}{n:Nat}(hs:SL S W e v n):SL S' W' e v n:=hs.mono h.sub h.shape
theorem Ev.ct {X S S':BS}{W W':World}(h:Ev X S W S' W'){ct:CT}{v:Value}(hs:ct.ok S W v):ct.ok S' W' v:=hs.mono h.sub h.shape
theorem Ev.blk {X S S':BS}{W W':World}(h:Ev X S W S' W'){b:Nat}{c:Array Value}{t:TypeId}(hb:Blk W b c t)(hn:¬S b)(hx:¬X b):Blk W' b c t:=(h.rest b hb.lt hn hx).trans hb
theorem Ev.not {X S S':BS}{W W':World}(h:Ev X S W S' W'){b:Nat}(hb:b<W.heap.size)(hn:¬S b):¬S' b:=fun hs=>by
 rcases h.new b hs with h|h
 ·exact hn h
 ·omega
theorem Ev.of_grown {X S:BS}{W W':World}{row:Option Nat}(hT:TW S W)(hg:W.grownBy W' row)(hr:∀r,row=some r→¬S r∧X r):Ev X S W S W':=by
 have hsame:∀b,S b→W'.heap[b]? =W.heap[b]? :=fun b hb=>hg.block b (hT.lt hb) (fun e=>(hr b e.symm).1 hb)
 have hsh:Shp S W W':=fun b c e hb hc=>⟨c,(hsame b hb).trans hc,rfl⟩
 refine⟨fun _ h=>h,fun _ h=> .inl h,hg.os,hg.tape,hg.output,hg.size,fun b hb _ hx=>hg.block b hb (fun e=>hx (hr b e.symm).2),hsh,fun b hb=> ?_⟩
 obtain⟨c,e,hc,ht⟩:=hT b hb
 exact⟨c,e,(hsame b hb).trans hc,ht.mono (fun _ h=>h) hsh⟩
theorem Ev.of_below {X S:BS}{W W':World}(hT:TW S W)(h:Below W.heap.size W W'):Ev X S W S W':=Ev.of_grown hT (grownBy_of_below h) (fun r e=>by cases e)
theorem Ev.drew {X S:BS}{W:World}(hT:TW S W):Ev X S W S W.drew:=Ev.of_grown hT (drew_grown7 W) (fun r e=>by cases e)
theorem TW.of_same {S:BS}{W W':World}(hT:TW S W)(h:∀b,S b→W'.heap[b]? =W.heap[b]?):TW S W':=by
 have hsh:Shp S W W':=fun b c e hb hc=>⟨c,(h b hb).trans hc,rfl⟩
 intro b hb
 obtain⟨c,e,hc,ht⟩:=hT b hb
 exact⟨c,e,(h b hb).trans hc,ht.mono (fun _ h=>h) hsh⟩
theorem TW.none (W:World):TW (fun _=>False) W:=fun _ h=>h.elim
theorem Ev.alloc {X S:BS}{W:World}(hT:TW S W){c:Array Value}{e:TypeId}(hc:TB S W e c):Ev X S W (fun b=>S b∨b=W.heap.size) (W.alloc (.cells c e)):=by
 have hsh:Shp S W (W.alloc (.cells c e)):=fun b c' e' hb hc'=>⟨c',hc'.alloc _,rfl⟩
 refine⟨fun _ h=> .inl h,fun b h=>by rcases h with h|rfl;exact .inl h;exact .inr (yR _),rfl,rfl,rfl,by simp,fun b hb _ _=>(World.grownBy_alloc W _ none).block b hb (by simp),hsh,fun b hb=> ?_⟩
 rcases hb with hb|rfl
 ·obtain⟨c',e',hc',ht⟩:=hT b hb
  exact⟨c',e',hc'.alloc _,ht.mono (fun _ h=> .inl h) hsh⟩
 ·exact⟨c,e,Blk.new W c e,hc.mono (fun _ h=> .inl h) hsh⟩
theorem Ev.set {X S:BS}{W:World}(hT:TW S W){b:Nat}{c:Array Value}{e:TypeId}(hb:S b)(hc:Blk W b c e)(i:Nat)(v:Value)(hv:∀ct,(cellsT e)[i % sizeT e]? =some ct→ct.ok S W v):Ev X S W S (W.setCell ⟨b,i,none⟩ v):=by
 have hsh:Shp S W (W.setCell ⟨b,i,none⟩ v):=fun b' c' e' hb' hc'=>by
  by_cases h:b'=b
  ·subst h
   obtain⟨rfl,rfl⟩:c'=c∧e'=e:=by
    unfold Blk at hc hc'
    rw[hc] at hc'
    cases hc'
    exact⟨rfl,rfl⟩
   exact⟨_,hc'.set i v,by simp⟩
  ·exact⟨c',hc'.other h i v,rfl⟩
 refine⟨fun _ h=>h,fun _ h=> .inl h,rfl,rfl,rfl,by simp,fun b' _ hn _=>Below.heap_setCell _ _ _ _ (fun e=>hn (by simp at e;exact e▸hb)),hsh,fun b' hb'=> ?_⟩
 by_cases h:b'=b
 ·subst h
  obtain⟨c0,e0,hc0,ht⟩:=hT b' hb'
  obtain⟨rfl,rfl⟩:c0=c∧e0=e:=by
   unfold Blk at hc hc0
   rw[hc] at hc0
   cases hc0
   exact⟨rfl,rfl⟩
  refine⟨_,e0,hc0.set i v,fun j u ct h1 h2=> ?_⟩
  rw[Array.getElem?_setIfInBounds] at h1
  split at h1
  ·rename_i hij
   subst hij
   split at h1
   ·cases h1
    exact (hv ct h2).mono (fun _ h=>h) hsh
   ·cases h1
  ·exact (ht j u ct h1 h2).mono (fun _ h=>h) hsh
 ·obtain⟨c0,e0,hc0,ht⟩:=hT b' hb'
  exact⟨c0,e0,hc0.other h i v,ht.mono (fun _ h=>h) hsh⟩
theorem Ev.setCells {X S:BS}{b:Nat}{e:TypeId}(hb:S b):∀(vs:List Value)(o:Nat)(W:World)(c:Array Value),TW S W→Blk W b c e→(∀j u ct,vs[j]? =some u→(cellsT e)[(o+j) % sizeT e]? =some ct→ct.ok S W u)→Ev X S W S (W.setCells b o vs)
 |[],o,W,c,hT,hc,hv=>Ev.refl hT
 |v::r,o,W,c,hT,hc,hv=>by
  have h1:=Ev.set (X:=X) hT hb hc o v (fun ct h=>hv 0 v ct rfl (by simpa using h))
  exact h1.trans (Ev.setCells hb r (o+1) _ _ h1.ok (hc.set o v) (fun j u ct h2 h3=>h1.ct (hv (j+1) u ct (by simpa using h2) (by rw[show o+(j+1)=o+1+j from by omega];exact h3))))
structure ET (e:TypeId)(s:Nat):Prop where
 size:sizeT e=s
 pos:0<s
 info:∃i z,prog.info? e=some i∧i.zero=some z∧i.size=s∧i.bytes≤1000∧z.cells.size=s∧∀S W (j:Nat) u ct,z.cells[j]? =some u→(cellsT e)[j]? =some ct→CT.ok S W ct u
theorem CT.ok.one {S:BS}{W:World}{ct:CT}{u:Value}(h:ct.ok S W u):u.oneCell'=true:=by
 have hk:=h.lt
 rcases (show ct.k=0∨ct.k=1∨ct.k=2∨ct.k=3∨ct.k=4 from by omega) with e|e|e|e|e
 ·obtain⟨x,rfl,-⟩:=h.i e;rfl
 ·obtain⟨x,rfl,-⟩:=h.s e;rfl
 ·obtain⟨x,rfl⟩:=h.b e;rfl
 ·obtain⟨n,-,a,cap,rfl,-⟩:=h.l e;rfl
 ·obtain⟨x,rfl⟩:=h.a e;rfl
theorem SL.cells {S:BS}{W:World}{e:TypeId}{v:Value}{n s:Nat}(hT:TW S W)(he:ET e s)(h:SL S W e v n):∃(a:Option Addr)(cap:Nat)(news:List Value),v= .slice a n cap∧n≤cap∧news.length=n*s∧(∀j u,news[j]? =some u→∃ad,a=some ad∧W.cell? (ad.add j)=some u)∧(∀j u ct,news[j]? =some u→(cellsT e)[j % s]? =some ct→ct.ok S W u)∧(∀u∈news,u.oneCell'=true)∧(a=none→n=0):=by
 have hs:=he.size
 have hp:=he.pos
 obtain⟨a,cap,rfl,hn,⟨rfl,rfl⟩|⟨b,o,c,rfl,hb,hc,hl⟩⟩:=h
 ·obtain rfl:n=0:=by omega
  exact⟨none,0,[],rfl,yR _,by simp,by simp,by simp,by simp,fun _=>rfl⟩
 ·rw[hs] at hl ⊢
  obtain⟨c0,e0,hc0,ht⟩:=hT b hb
  obtain⟨rfl,rfl⟩:c0=c∧e0=e:=by
   unfold Blk at hc hc0
   rw[hc] at hc0
   cases hc0
   exact⟨rfl,rfl⟩
  have hle:(o+n)*s≤c0.size:=Nat.le_trans (Nat.mul_le_mul_right s (by omega)) hl
  rw[Nat.add_mul] at hle
  have hget:∀j u,((c0.toList.drop (o*s)).take (n*s))[j]? =some u→c0[o*s+j]? =some u:=fun j u h=>by
   rw[List.getElem?_take] at h
   split at h
   ·rw[List.getElem?_drop] at h
    simpa using h
   ·cases h
  have hty:∀j u ct,((c0.toList.drop (o*s)).take (n*s))[j]? =some u→(cellsT e0)[j % s]? =some ct→ct.ok S W u:=fun j u ct h1 h2 =>
   ht (o*s+j) u ct (hget j u h1) (by rw[hs,Nat.mul_comm,Nat.mul_add_mod];exact h2)
  refine⟨_,cap,(c0.toList.drop (o*s)).take (n*s),rfl,hn,by simp;omega,fun j u hj=>⟨_,rfl,?_⟩,hty,fun u hu=> ?_,fun h=>by cases h⟩
  ·rw[Go.WideShapes.add_plain]
   exact (hc.cell _).trans (hget j u hj)
  ·obtain⟨j,hj,rfl⟩:=List.getElem_of_mem hu
   have hm:j % s<(cellsT e0).length:=by rw[show (cellsT e0).length=s from hs];exact Nat.mod_lt _ hp
   exact (hty j _ _ (List.getElem?_eq_getElem hj) (List.getElem?_eq_getElem hm)).one
theorem append_tw {X S:BS}{W:World}(hT:TW S W){t e ty:TypeId}{s:Nat}(ht:prog.underlying t=some (.slice e))(he:ET e s){sv xv:Value}{n m:Nat}(hv:SL S W e sv n)(hx:SL S W e xv m)(hl:n+m≤1000000) :
 ∃v' S' W',(Builtin.append_ #[t,t] ty #[sv,xv]).run prog W= .ok v' W'∧SL S' W' e v' (n+m)∧Ev X S W S' W':=by
 obtain⟨i,z,hi,hz,hsz,hby,hzs,hzt⟩:=he.info
 have hp:=he.pos
 have hss:=he.size
 obtain⟨xa,xc,news,rfl,hxn,hnl,hnc,hnt,hn1,hx0⟩:=hx.cells hT he
 have hsrc:Src prog i.size t (.slice xa m xc) m news W:=by
  cases xa with
  |none =>
   obtain rfl:=hx0 rfl
   obtain rfl:news=[]:=List.eq_nil_of_length_eq_zero (by simpa using hnl)
   exact Src.ofNil W ht xc
  |some ad=>exact Src.ofSlice W ht ad m xc news (by rw[hsz];exact hnl) (fun j u hj=>by obtain⟨ad',h,hc⟩:=hnc j u hj;cases h;exact hc) hn1
 have hv':=hv
 obtain⟨a,cap,olds,rfl,hnc',hol,hoc,hot,ho1,ha0⟩:=hv.cells hT he
 by_cases hroom:n+m≤cap
 ·obtain⟨a2,cap2,h2,-,h3⟩:=hv'
  cases h2
  rcases h3 with ⟨rfl,rfl⟩|⟨b,o,c,rfl,hb,hc,hcl⟩
  ·obtain rfl:n=0:=by omega
   obtain rfl:m=0:=by omega
   refine⟨.slice none 0 0,S,W,?_,⟨none,0,rfl,yR _,.inl ⟨rfl,rfl⟩⟩,Ev.refl hT⟩
   simp[Builtin.append_,run_underlying ht,sizeOf,typeInfo,hi,hsrc.len,hsrc.cells]
  ·rw[hss] at hcl ⊢
   have hmul:(n+m)*s≤cap*s:=Nat.mul_le_mul_right s hroom
   rw[Nat.add_mul] at hmul hcl
   have hcell:∀j,j<news.length→(W.cell? ⟨b,o*s+n*i.size+j,none⟩).isSome=true:=fun j hj=>by
    rw[hc.cell,hsz,Array.getElem?_eq_getElem (by omega)]
    rfl
   have hr:=run_append_room_src (P:=prog) W t t ty e i ht hi b (o*s) n cap (.slice xa m xc) m news hsrc hroom hcell (fun j hj=>hc.frozen _)
   refine⟨_,S,_,hr,?_,?_⟩
   ·have hE:=Ev.setCells (X:=X) hb news (o*s+n*i.size) W c hT hc (fun j u ct h1 h2=>hnt j u ct h1 (by
     rw[hss,hsz,←Nat.add_mul,Nat.mul_comm,Nat.mul_add_mod] at h2
     exact h2))
    exact hE.sl ⟨_,cap,rfl,hroom,.inr ⟨b,o,c,by rw[hss],hb,hc,by rw[hss,Nat.add_mul];omega⟩⟩
   ·exact Ev.setCells hb news (o*s+n*i.size) W c hT hc (fun j u ct h1 h2=>hnt j u ct h1 (by
     rw[hss,hsz,←Nat.add_mul,Nat.mul_comm,Nat.mul_add_mod] at h2
     exact h2))
 ·have hold:(Builtin.firstCells i.size n (.slice a n cap)).run prog W.drew= .ok olds.toArray W.drew:=by
   cases a with
   |none =>
    obtain rfl:=ha0 rfl
    obtain rfl:olds=[]:=List.eq_nil_of_length_eq_zero (by simpa using hol)
    exact run_firstCells_none W.drew _ _ _ _
   |some ad=>exact run_firstCells_some W.drew i.size n ad n cap olds (by rw[hsz];exact hol) (fun j u hj=>by obtain⟨ad',h,hc⟩:=hoc j u hj;cases h;simpa using hc)
  have hge:=grownCap_ge W (n+m) cap e
  have hcap:Builtin.nextslicecap (n+m) cap*i.bytes≤281474976710656:=growslice_fits (by omega) (Nat.le_trans (Nat.mul_le_mul hl hby) (by decide))
  have hr:=run_append_grow_src (P:=prog) W t t ty e i z ht hi hz a n cap olds hold (.slice xa m xc) m news hsrc (by omega) (by omega) hcap
  have hTd:=(Ev.drew (X:=X) hT).ok
  have hdr:=Ev.drew (X:=X) hT
  have hB:TB S W.drew e ((olds++news).toArray++Builtin.zeroCells z.cells (grownCap W (n+m) cap e-(n+m))):=by
   intro j u ct h1 h2
   rw[hss] at h2
   rw[Array.getElem?_append] at h1
   split at h1
   ·rw[List.getElem?_toArray,List.getElem?_append] at h1
    split at h1
    ·exact hdr.ct (hot j u ct h1 h2)
    ·rename_i h3 h4
     refine hdr.ct (hnt _ u ct h1 ?_)
     rw[hol] at h4 ⊢
     have:(j-n*s) % s=j % s:=by
      conv=>rhs;rw[show j=(j-n*s)+s*n from by rw[Nat.mul_comm s n];omega]
      rw[Nat.add_mul_mod_self_left]
     rw[this]
     exact h2
   ·rename_i h3
    simp only[List.size_toArray,List.length_append,hol,hnl,←Nat.add_mul] at h1 h3
    unfold Builtin.zeroCells at h1
    rw[Array.getElem?_map] at h1
    obtain⟨k,hk,rfl⟩:=Option.map_eq_some_iff.1 h1
    obtain⟨hk1,hk2⟩:=Array.getElem?_eq_some_iff.1 hk
    simp only[Array.getElem_range] at hk2
    have hm:(j-(n+m)*s) % s=j % s:=by
     conv=>rhs;rw[show j=(j-(n+m)*s)+s*(n+m) from by rw[Nat.mul_comm s];omega]
     rw[Nat.add_mul_mod_self_left]
    rw[←hk2,hzs,hm]
    have hlt:j % s<z.cells.size:=by rw[hzs];exact Nat.mod_lt _ hp
    refine hzt S _ (j % s) _ ct ?_ h2
    rw[getElem!_pos z.cells (j % s) hlt,Array.getElem?_eq_getElem hlt]
  have hA:=Ev.alloc (X:=X) hTd hB
  refine⟨_,_,_,hr,?_,hdr.trans hA⟩
  refine⟨_,_,rfl,hge,.inr ⟨W.heap.size,0,_,by rw[Nat.zero_mul],.inr rfl,Blk.new W.drew _ _,?_⟩⟩
  rw[hss,Nat.zero_add]
  simp only[Array.size_append,List.size_toArray,List.length_append,hol,hnl,size_zeroCells,hzs,←Nat.add_mul]
  exact Nat.mul_le_mul_right s (by omega)
theorem wp_append_tw {X S:BS}{w:World}(hT:TW S w){o:Oper}{a:Act}{K:Act→World→Prop}{Q:Exit→Act→World→Prop}(sO xO:Operand)(t:TypeId)(ho:o.op= .call { callee:= .builtin .append,args:= #[sO,xO],argTypes:= #[t,t] })
 {e:TypeId} {s:Nat} (ht:prog.underlying t=some (.slice e)) (he:ET e s) {sv xv:Value} {n m:Nat} (hsv:a.eval sO=sv) (hv:SL S w e sv n) (hxv:a.eval xO=xv) (hx:SL S w e xv m) (hl:n+m≤1000000)
 (h:∀v' S' w',SL S' w' e v' (n+m)→Ev X S w S' w'→K (a.put o.dst v') w'):Oper.wp prog o a w K Q:=by
 obtain⟨v',S',w',hr,h2,h3⟩:=append_tw (X:=X) hT (ty:=o.type) ht he hv hx hl
 unfold Oper.wp execOp
 simp only[ho,resolve,invoke,builtin,Sem.run_bind,Sem.run_pure,Result.andThen_ok,List.map_toArray,List.map_cons,List.map_nil,hsv,hxv,hr]
 exact h v' S' w' h2 h3
theorem wpList_append_tw {X S:BS}{w:World}(hT:TW S w){ops:Array Oper}{rest:List Oper}{o:Oper}{a:Act}{Q:Exit→Act→World→Prop}(hgd:o.guard=none)(sO xO:Operand)(t:TypeId)(ho:o.op= .call { callee:= .builtin .append,args:= #[sO,xO],argTypes:= #[t,t] })
 {e:TypeId} {s:Nat} (ht:prog.underlying t=some (.slice e)) (he:ET e s) {sv xv:Value} {n m:Nat} (hsv:a.eval sO=sv) (hv:SL S w e sv n) (hxv:a.eval xO=xv) (hx:SL S w e xv m) (hl:n+m≤1000000)
 (h:∀v' S' w',SL S' w' e v' (n+m)→Ev X S w S' w'→wpList prog ops Q rest (a.put o.dst v') w'):wpList prog ops Q (o::rest) a w :=
 wpList_plain hgd fun _ hK=>wp_append_tw hT sO xO t ho ht he hsv hv hxv hx hl fun v' S' w' h2 h3=>hK _ _ (h v' S' w' h2 h3)
end
end Go.Proofs.YtfocdbjceedagaaGreatDoor
