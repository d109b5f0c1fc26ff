/-
  Parts.
-/
import Derived.Test.YtfocdbjceedagaaGreatDoorZag
import Derived.Laws.IdiomStrings
import Derived.OrdersIn
set_option linter.unusedVariables false
set_option linter.unusedSimpArgs false
set_option maxHeartbeats 4000000
set_option maxRecDepth 100000
namespace Go.Proofs.YtfocdbjceedagaaGreatDoor
open Tryz
section
open Go.RowKit Go.Shelf Go.Maps
attribute [local go_sem] Oper.semAt_some
def sumB (l:List UInt8):Int:=(l.map fun c=>(c.toNat:Int)).sum
theorem sumB_snoc (l:List UInt8)(c:UInt8):sumB (l++[c])=sumB l+c.toNat:=by simp[sumB]
theorem sumB_le (l:List UInt8):0≤sumB l∧sumB l≤255*l.length:=by
 induction l with
 |nil=>simp[sumB]
 |cons c l ih =>
  have h:sumB (c::l)=c.toNat+sumB l:=by simp[sumB]
  have:=c.toNat_lt
  rw[h]
  simp only[List.length_cons]
  omega
theorem take_snocB (s:ByteArray)(k:Nat)(h:k<s.size):s.data.toList.take (k+1)=s.data.toList.take k++[s[k]]:=by
 rw[List.take_succ_eq_append_getElem (by simpa using h)];rfl
theorem bytesRow_get (s:ByteArray)(cap k:Nat)(h:k<s.size):(bytesRow s cap)[k]? =some (.int .u8 (s[k]).toNat):=by
 unfold bytesRow
 have h2:k<(s.data.map (fun b=>Value.int .u8 b.toNat)).size:=by simpa using h
 rw[Array.getElem?_append_left h2,Array.getElem?_eq_getElem h2]
 simp
 rfl
def symB (m k:Nat):Bool:=match symC[m*9+k]? with|some (.bool b)=>b|_=>false
def symR (m:Nat):Array Value:= #[.bool (symB m 0),.bool (symB m 1),.bool (symB m 2),.bool (symB m 3),.bool (symB m 4),.bool (symB m 5),.bool (symB m 6),.bool (symB m 7),.bool (symB m 8)]
theorem symR_run (m:Nat)(hm:m<7)(w:World):(Instr.index 119 (.agg symC) (.int .i64 m)).run prog w= .ok (.agg (symR m)) w:=by
 rcases (show m=0∨m=1∨m=2∨m=3∨m=4∨m=5∨m=6 from by omega) with rfl|rfl|rfl|rfl|rfl|rfl|rfl <;> kernel_rfl
theorem row9_run (r:Nat→Bool)(k:Nat)(hk:k<9)(w:World):(Instr.index 118 (.agg #[.bool (r 0),.bool (r 1),.bool (r 2),.bool (r 3),.bool (r 4),.bool (r 5),.bool (r 6),.bool (r 7),.bool (r 8)]) (.int .i64 k)).run prog w= .ok (.bool (r k)) w:=by
 rcases (show k=0∨k=1∨k=2∨k=3∨k=4∨k=5∨k=6∨k=7∨k=8 from by omega) with rfl|rfl|rfl|rfl|rfl|rfl|rfl|rfl|rfl <;> kernel_rfl
theorem row6_run (r:Nat→Bool)(k:Nat)(hk:k<6)(w:World):(Instr.index 126 (.agg #[.bool (r 0),.bool (r 1),.bool (r 2),.bool (r 3),.bool (r 4),.bool (r 5)]) (.int .i64 k)).run prog w= .ok (.bool (r k)) w:=by
 rcases (show k=0∨k=1∨k=2∨k=3∨k=4∨k=5 from by omega) with rfl|rfl|rfl|rfl|rfl|rfl <;> kernel_rfl
theorem wpList_index_run {P:Program}{ops:Array Oper}{rest:List Oper}{o:Oper}{a:Act}{w:World}{Q:Exit→Act→World→Prop}(hg:o.guard=none)(t:TypeId)(x y:Operand)(ho:o.op= .index t x y)(vx vy v:Value)(hx:a.eval x=vx)(hy:a.eval y=vy)
 (hv:(Instr.index t vx vy).run P w= .ok v w) (h:wpList P ops Q rest (a.put o.dst v) w):wpList P ops Q (o::rest) a w:=by
 refine wpList_plain hg fun K hK=> ?_
 unfold Oper.wp execOp
 simp only[ho,hx,hy,Sem.run_bind,hv]
 simp only[Result.andThen_ok,Sem.run_pure]
 exact hK _ _ h
def upE (up:Bool)(en:List (Spot×Int))(p:Spot)(id:Int):List (Spot×Int):=if up then putE en p id else en
def symSpot (i j:Int)(k:Nat):Spot:=(i+(k:Int).tmod 3-1,j+(k:Int).tdiv 3-1)
def symE (i j id:Int)(r:Nat→Bool):Nat→List (Spot×Int)
 |0=>[]
 |k+1=>upE (r k) (symE i j id r k) (symSpot i j k) id
def cellSpot (i j:Int)(k n:Nat):Spot:=(i+3+3*k+(n:Int).tdiv 3,j+1-(n:Int).tmod 3)
def dotE (i j id:Int)(k:Nat)(d:Nat→Bool)(en:List (Spot×Int)):Nat→List (Spot×Int)
 |0=>en
 |n+1=>upE (d n) (dotE i j id k d en n) (cellSpot i j k n) id
def cellE (i j id:Int)(D:Nat→Nat→Bool)(en:List (Spot×Int)):Nat→List (Spot×Int)
 |0=>en
 |k+1=>dotE i j id k (D k) (cellE i j id D en k) 6
def placeE (i j id:Int)(r:Nat→Bool)(D:Nat→Nat→Bool)(n:Nat):List (Spot×Int):=cellE i j id D (symE i j id r 9) n
abbrev shC (s:Sh):Array Value:= #[.int .i64 s.ax,.int .i64 s.ay,.int .i64 s.st,.int .i64 s.w,.int .i64 s.h,.int .i64 s.g]
structure PI (s:Sh)(pl:Array Value)(w:World)(Bs Bp mb n:Nat)(en:List (Spot×Int))(W:World):Prop where
 map:∃k,k≤n∧MapIs W mb k en
 sheet:Blk W Bs (shC s) 28
 place:Blk W Bp pl 66
 below:Below w.heap.size w W
 le:w.heap.size≤mb
 nes:Bs≠mb
 nep:Bp≠mb
section
variable {s:Sh}{pl:Array Value}{w W:World}{Bs Bp mb n:Nat}{en:List (Spot×Int)}
theorem PI.grown {W':World}(h:PI s pl w Bs Bp mb n en W)(hg:W.grownBy W' none):PI s pl w Bs Bp mb n en W':=by
 obtain⟨⟨k,hk,hM⟩,h1,h2,h3,h4,h5,h6⟩:=h
 exact⟨⟨k,hk,hM.kept hg (by simp)⟩,h1.kept hg (by simp),h2.kept hg (by simp),h3.grown hg h3.size (fun k e=>by cases e),h4,h5,h6⟩
theorem PI.grow (h:PI s pl w Bs Bp mb n en W)(p:Growth):PI s pl w Bs Bp mb n en (W.growBy p):=h.grown (grownBy_growBy W p)
theorem PI.up {n':Nat}(h:PI s pl w Bs Bp mb n en W)(hn:n≤n'):PI s pl w Bs Bp mb n' en W:=by
 obtain⟨⟨k,hk,hM⟩,h1,h2,h3,h4,h5,h6⟩:=h
 exact⟨⟨k,by omega,hM⟩,h1,h2,h3,h4,h5,h6⟩
theorem PI.put {W':World}{D:DataW Unit}{k:Nat}{p:Spot}{x:Int}(h:PI s pl w Bs Bp mb n en W)(hk:k≤n)(hD:IsMap D)(h1:(en.map (·.1)).Nodup)(h2:∀e∈en,FitS e.1)
 (h3:∀p,FitS p→has D (klS p)=hasK en p∧D.atKey (klS p) (.lit (.int .i64 0))= .lit (.int .i64 ((idOf en p).getD 0))) (hp:FitS p)
 (ho:W'.ownsMap prog 122 (plainElem prog 3) mb (k+1) (D.put (klS p) (.lit (.int .i64 x)))) (hg:W.grownBy W' (some mb)):PI s pl w Bs Bp mb (n+1) (putE en p x) W' :=
 ⟨⟨k+1,by omega,MapIs.store (W:=W) hD h1 h2 h3 hp ho⟩,h.sheet.kept hg (fun e=>h.nes (Option.some.inj e).symm),h.place.kept hg (fun e=>h.nep (Option.some.inj e).symm),h.below.grown hg h.below.size (fun k e=>by cases e;exact h.le),h.le,h.nes,h.nep⟩
theorem PI.turn {W':World}{q:Nat}(h:PI s pl w Bs Bp mb n en W)(hg:W.grownBy W' (some q))(h1:q≠Bs)(h2:q≠Bp)(h3:q≠mb)(h4:w.heap.size≤q):PI s pl w Bs Bp mb n en W':=by
 obtain⟨⟨k,hk,hM⟩,k1,k2,k3,k4,k5,k6⟩:=h
 exact⟨⟨k,hk,hM.kept hg (fun e=>h3 (Option.some.inj e))⟩,k1.kept hg (fun e=>h1 (Option.some.inj e)),k2.kept hg (fun e=>h2 (Option.some.inj e)),k3.grown hg k3.size (fun k e=>by cases e;exact h4),k4,k5,k6⟩
end
theorem upE_length (u:Bool)(en:List (Spot×Int))(p:Spot)(id:Int):(upE u en p id).length≤en.length+1:=by
 unfold upE
 split
 ·exact putE_length _ _ _
 ·omega
theorem symE_length (i j id:Int)(r:Nat→Bool):∀k,(symE i j id r k).length≤k
 |0=>yR _
 |k+1=>Nat.le_trans (upE_length _ _ _ _) (by have:=symE_length i j id r k;omega)
theorem dotE_length (i j id:Int)(k:Nat)(d:Nat→Bool)(en:List (Spot×Int)):∀n,(dotE i j id k d en n).length≤en.length+n
 |0=>yR _
 |n+1=>Nat.le_trans (upE_length _ _ _ _) (by have:=dotE_length i j id k d en n;omega)
theorem cellE_length (i j id:Int)(D:Nat→Nat→Bool)(en:List (Spot×Int)):∀k,(cellE i j id D en k).length≤en.length+6*k
 |0=>yR _
 |k+1=>Nat.le_trans (dotE_length i j id k (D k) _ 6) (by have:=cellE_length i j id D en k;omega)
theorem Dts.up {n:Nat}{A B:World}{sv:Value}{l:List Dt}(h:Dts n A sv l)(hb:Below n A B)(hn:n≤B.heap.size):Dts B.heap.size B sv l:=(h.below hb).mono hn
end
section
open Go.RowKit Go.Shelf
attribute [local go_sem] Oper.semAt_some
def Digs (s:ByteArray):Prop:=∀i (h:i<s.size),48≤(s[i]).toNat∧(s[i]).toNat≤57
def iterLeft (b:Nat)(s:ByteArray)(w:World):Nat:=match w.heap[b]? with|some (.stringIter _ p)=>s.size-p|_=>0
theorem iterLeft_is (w:World)(s:ByteArray)(n:Nat):iterLeft w.heap.size s (w.iter s n)=s.size-n:=by
 unfold iterLeft
 rw[World.iter_heap]
theorem right_digs (s:ByteArray)(hd:Digs s)(hl:s.size≤1000000)(w:World):Calls prog 113 #[.string s] w fun e w'=>e= .returned (.bool true)∧Below w.heap.size w w':=by
 go_enter func113,ntmps113
 go_wp2_with fail
 go_loopw [7] (fun _ W=>∃n:Nat,n≤s.size∧W=w.iter s n) (fun _ W=>iterLeft w.heap.size s W)
 case atStart=>exact⟨0,Nat.zero_le _,rfl⟩
 case round =>
  obtain⟨n,hn,rfl⟩:=hrel
  by_cases hlt:n<s.size
  ·obtain⟨h0,h1⟩:=hd n hlt
   have hr:∀ty,(Instr.next (.pointer (some ⟨w.heap.size,0,none⟩)) true ty).run prog (w.iter s n)= .ok (.tuple #[.bool true,.int .i64 n,.int .i32 (s[n]'hlt).toNat]) (w.iter s (n+1)):=fun ty=>run_next_ascii w s n ty hlt (by omega)
   obtain⟨c,hc⟩:∃c,(s[n]'hlt).toNat=c:=⟨_,rfl⟩
   rw[hc] at h0 h1 hr
   clear hc hd
   have k0:¬(c:Int)<32:=by omega
   have k1:¬(126:Int)<c:=by omega
   have k2:¬(c:Int)=34:=by omega
   go_wp2_with fail
   go_roundw
   case rel=>exact⟨n+1,by omega,rfl⟩
   case measure=>rw[iterLeft_is,iterLeft_is];omega
  ·obtain rfl:n=s.size:=by omega
   have hr:∀ty,(Instr.next (.pointer (some ⟨w.heap.size,0,none⟩)) true ty).run prog (w.iter s s.size)= .ok (.tuple #[.bool false]) (w.iter s s.size):=fun ty=>run_next_end w s s.size ty (by omega)
   go_wp2_with fail
   go_ret
   exact⟨rfl,(zR _ _).alloc (yR _) _⟩
theorem words_no (l:List UInt8)(c:UInt8)(r:List UInt8)(h:l=c::r)(hc:c.toNat≤57):∀x∈wordsL,Lib.hasPrefix l x.data.toList=false:=by
 subst h
 have h2:∀a:UInt8,97≤a.toNat→(a==c)=false:=fun a ha=>by
  rw[beq_eq_false_iff_ne]
  intro e
  subst e
  omega
 intro x hx
 simp only[wordsL,List.mem_cons,List.not_mem_nil,or_false] at hx
 rcases hx with rfl|rfl|rfl|rfl|rfl|rfl|rfl|rfl|rfl|rfl|rfl <;>
 ·unfold Lib.hasPrefix
  simp only[List.isPrefixOf_cons_cons]
  rw[h2 _ (by decide)]
  rfl
theorem write1_digs (x s:ByteArray)(k:Nat)(sb kb:Nat)(w:World)(hk0:k<s.size)(hl:s.size≤1000000)(hs:w.cell? ⟨sb,0,none⟩=some (.string s))(hk:w.cell? ⟨kb,0,none⟩=some (.int .i64 k)) :
 Calls prog 116 #[.string x,.pointer (some ⟨sb,0,none⟩),.pointer (some ⟨kb,0,none⟩)] w fun e w'=>e= .returned (.bool (Lib.hasPrefix ((s.data.toList.drop k).take (s.size-k)) x.data.toList))∧w'=w:=by
 go_enter func116,ntmps116
 go_wp2_with (go_at_call 117;refine (Tryz.strings_HasPrefix _ _ _).mono ?_;rintro e w'⟨rfl,rfl⟩)
 go_ret
 exact⟨rfl,rfl⟩
theorem digs_head (s:ByteArray)(k:Nat)(h:k<s.size):∃r,(s.data.toList.drop k).take (s.size-k)=s[k]::r:=by
 have h2:k<s.data.toList.length:=by simpa using h
 rw[List.drop_eq_getElem_cons h2,show s.size-k=(s.size-k-1)+1 from by omega,List.take_succ_cons]
 exact⟨_,rfl⟩
theorem index_digs (s:ByteArray)(k sb kb:Nat)(w:World)(hd:Digs s)(hk0:k<s.size)(hl:s.size≤1000000)(hs:w.cell? ⟨sb,0,none⟩=some (.string s))(hk:w.cell? ⟨kb,0,none⟩=some (.int .i64 k)) :
 Calls prog 114 #[.slice (some ⟨w.heap.size,0,none⟩) 11 11,.func (.func 116) #[] #[.pointer (some ⟨sb,0,none⟩),.pointer (some ⟨kb,0,none⟩)]] (w.alloc (.cells wordsC 9)) fun e w'=>e= .returned (.int .i64 (-1))∧∃q,w'=(w.alloc (.cells wordsC 9)).drewN q:=by
 have hc:∀j,j<wordsL.length→(w.alloc (.cells wordsC 9)).cell? ⟨w.heap.size,0+j,none⟩=some (Value.string wordsL[j]!):=by
  intro j hj
  refine (cell_of_block (heap_alloc_last w _) (0+j)).trans ?_
  match j,hj with
  |0,_=>rfl
  |1,_=>rfl
  |2,_=>rfl
  |3,_=>rfl
  |4,_=>rfl
  |5,_=>rfl
  |6,_=>rfl
  |7,_=>rfl
  |8,_=>rfl
  |9,_=>rfl
  |10,_=>rfl
  |j+11,h=>exact absurd h (by simp[wordsL])
 have hp:PredAt prog 116 #[.pointer (some ⟨sb,0,none⟩),.pointer (some ⟨kb,0,none⟩)] Value.string (fun x=>Lib.hasPrefix ((s.data.toList.drop k).take (s.size-k)) x.data.toList) (w.alloc (.cells wordsC 9)):=by
  intro W x hb
  have lt1:sb<w.heap.size:=World.block_lt_of_cell? _ _ hs
  have lt2:kb<w.heap.size:=World.block_lt_of_cell? _ _ hk
  refine (write1_digs x s k sb kb W hk0 hl ?_ ?_).mono ?_
  ·rw[hb.cell (p:=⟨sb,0,none⟩) (by rw[World.size_alloc];simp only;omega),World.cell?_alloc_lt w _ _ lt1];exact hs
  ·rw[hb.cell (p:=⟨kb,0,none⟩) (by rw[World.size_alloc];simp only;omega),World.cell?_alloc_lt w _ _ lt2];exact hk
  ·rintro e w'⟨rfl,rfl⟩
   exact⟨rfl,0,rfl⟩
 refine (Tryz.slices_IndexFunc_f114 Value.string (fun x=>Lib.hasPrefix ((s.data.toList.drop k).take (s.size-k)) x.data.toList) 116 _ (enters_of func116 (by kernel_rfl) rfl) w.heap.size 0 11 11 wordsL _ hp (by decide) (by decide) hc).mono ?_
 rintro e w'⟨rfl,h⟩
 refine⟨?_,h⟩
 obtain⟨r,hr⟩:=digs_head s k hk0
 have h2:Lib.idxBy (fun _ y=>Lib.hasPrefix ((s.data.toList.drop k).take (s.size-k)) y.data.toList) (wordsL.take 11) default = -1:=idx_none _ 0 (fun x hx=>words_no _ _ _ hr (hd k hk0).2 x (List.mem_of_mem_take hx))
 rw[h2]
theorem sign_digs (c:Int)(h0:48≤c)(h1:c≤57)(w:World):Calls prog 120 #[.string ⟨#[32,44,39,45,46]⟩,.int .u8 c] w fun e w'=>e= .returned (.int .i64 (-1))∧w'=w:=by
 refine (Tryz.strings_IndexByte _ _ _).mono ?_
 rintro e w'⟨rfl,rfl⟩
 have:∀n:Nat,n<10→Lib.indexByte (⟨#[32,44,39,45,46]⟩:ByteArray).data.toList ((48+(n:Int)).toNat.toUInt8) = -1:=by decide +kernel
 have h2:=this (c-48).toNat (by omega)
 rw[show 48+(((c-48).toNat:Nat):Int)=c from by omega] at h2
 exact⟨by rw[h2],rfl⟩
def letB (c:Nat):Nat:=match c with|48=>26|49=>1|50=>3|51=>9|52=>25|53=>17|54=>11|55=>27|56=>19|_=>10
def lettersB:ByteArray:=⟨#[1,3,9,25,17,11,27,19,10,26,5,7,13,29,21,15,31,23,14,30,37,39,58,45,61,53]⟩
def outB (s:ByteArray):Nat→List UInt8
 |0=>[]
 |n+1=>(if n=0 then [60] else outB s n)++[(letB (s[n]!).toNat).toUInt8]
theorem outB_len (s:ByteArray):∀n,(outB s n).length≤n+1
 |0=>Nat.zero_le _
 |n+1=>by
  unfold outB
  have:=outB_len s n
  split <;> simp <;> omega
theorem wrap_in9 {x:Int}(h0 : -9223372036854775808≤x)(h1:x≤9223372036854775807):IntKind.i64.wrap x=x:=by
 simp[IntKind.wrap,IntKind.bits,IntKind.signed]
 omega
theorem letters_at (c:Nat)(h0:48≤c)(h1:c≤57)(hh:(((c:Int)-48+9) % 10).toNat<lettersB.size):((lettersB[(((c:Int)-48+9) % 10).toNat]'hh).toNat:Int)=(letB c:Nat):=by
 rcases (show c=48∨c=49∨c=50∨c=51∨c=52∨c=53∨c=54∨c=55∨c=56∨c=57 from by omega) with rfl|rfl|rfl|rfl|rfl|rfl|rfl|rfl|rfl|rfl <;> rfl
theorem letB_lt (c:Nat):letB c<256:=by
 unfold letB
 split <;> omega
theorem BW.byteN {B sb b kb:Nat}{s:ByteArray}{k:Int}{l:List UInt8}{w0 w:World}(h:BW B sb b kb s k l w0 w)(c:Nat)(hc:c<256)(hl:l.length+1≤140737488355328) :
 Calls prog 118 #[.pointer (some ⟨b,0,none⟩),.int .u8 c] w fun e w'=>e= .returned .nilIface∧BW B sb b kb s k (l++[c.toUInt8]) w0 w' :=
 h.byte' c.toUInt8 c (by simp;omega) hl
def kOf (v:Value)(W:World):Nat:=match v with | .pointer (some a)=>(match W.cell? a with|some x=>(intOf x).toNat|none=>0)|_=>0
theorem BW.kOf {B sb b kb:Nat}{s:ByteArray}{k:Int}{l:List UInt8}{w0 w:World}(h:BW B sb b kb s k l w0 w):kOf (.pointer (some ⟨kb,0,none⟩)) w=k.toNat:=by
 unfold Go.Proofs.YtfocdbjceedagaaGreatDoor.kOf
 simp only[h.ck,intOf]
theorem write_digs (s:ByteArray)(hd:Digs s)(hl:s.size≤1000)(w:World):Calls prog 64 #[.string s] w fun e w'=>e= .returned (.tuple #[.string ⟨(outB s s.size).toArray⟩,.int .i64 0])∧Below w.heap.size w w':=by
 go_enter func64,ntmps64
 go_wp2_with (first
  |(go_at_call 113;refine (right_digs s hd (by omega) _).mono ?_;rintro e w'⟨rfl,hb_⟩;obtain⟨p,rfl⟩:=grow_of_below hb_;clear hb_)
  |fail)
 have hB:=BW.start w s p
 obtain⟨W,hW⟩:∃W,((((w.alloc (.cells #[.string s] 9)).growBy p).alloc (.cells #[.pointer none,.slice none 0 0] 178)).alloc (.cells #[.int .i64 0] 3))=W:=⟨_,rfl⟩
 obtain⟨b,hb⟩:∃b,w.heap.size+1+p.objs.size=b:=⟨_,rfl⟩
 rw[hW] at hB ⊢
 rw[hb] at hB ⊢
 obtain⟨kb,hkb⟩:∃kb,b+1=kb:=⟨_,rfl⟩
 obtain⟨sb,hsb⟩:∃sb,w.heap.size=sb:=⟨_,rfl⟩
 rw[hkb] at hB ⊢
 rw[hsb] at hB ⊢
 replace hsb:=Lib.hid hsb
 clear hkb hb hW
 go_loopw [5] (fun v wr=>∃(n kb:Nat),v= .pointer (some ⟨kb,0,none⟩)∧n≤s.size∧BW sb sb b kb s n (outB s n) w wr) (fun v wr=>s.size-kOf v wr)
 case atStart=>exact⟨0,kb,rfl,Nat.zero_le _,hB⟩
 case round =>
  clear hB
  obtain⟨n,kb,rfl,hn,hB⟩:=hrel
  have hcs:=hB.cs
  have hck:=hB.ck
  have hfk:=hB.fk
  have hkn:=Lib.hid (hB.kOf)
  have hol:=outB_len s n
  by_cases hlt:n<s.size
  ·have hltI:(n:Int)<(s.size:Int):=by omega
   obtain⟨d0,d1⟩:=hd n hlt
   have hout:outB s (n+1)=(if n=0 then [60] else outB s n)++[(letB (s[n]'hlt).toNat).toUInt8]:=by
    show (if n=0 then [60] else outB s n)++[(letB (s[n]!).toNat).toUInt8]=_
    rw[getElem!_pos s n hlt]
   have hix:=index_digs s n sb kb
   obtain⟨c,hc⟩:∃c,(s[n]'hlt).toNat=c:=⟨_,rfl⟩
   rw[hc] at d0 d1 hout
   have hlz:(lettersB.size:Int)=26:=rfl
   have hla:=letters_at c d0 d1
   have hlb:=letB_lt c
   by_cases hn0:n=0
   ·subst hn0
    simp only[if_true] at hout
    replace hout:=Lib.hid hout
    have h60:∀q,Calls prog 118 #[.pointer (some ⟨b,0,none⟩),.int .u8 60] ((wr.alloc (.cells wordsC 9)).drewN q) fun e w'=>e= .returned .nilIface∧BW sb sb b kb s 0 ([]++[60]) w w':=fun q=>((hB.alloc _).drewN q).byte' 60 60 rfl (by omega)
    clear hB
    go_wp2_with (first
     |(refine wpList_index_as (by rfl) 9 _ _ (by rfl) s .i64 0 (by rfl) (by rfl) underlying9 c (by omega) (by omega) (by rw[←hc];rfl) ?_)
     |(refine wpList_index_as (by rfl) 9 _ _ (by rfl) lettersB .u8 (((c:Int)-48+9) % 10) (by rfl) (by rfl) underlying9 (letB c:Nat) (by omega) (by omega) (hla _) ?_)
     |(go_at_call 115;refine (words_any _).mono ?_;rintro e w'⟨rfl,rfl⟩)
     |(go_at_call 114;refine (hix _ hd hlt (by omega) hcs hck).mono ?_;rintro e w'⟨rfl,q,rfl⟩)
     |(go_at_call 120;refine (sign_digs c (by omega) (by omega) _).mono ?_;rintro e w'⟨rfl,rfl⟩)
     |(go_at_call 119;refine (digit_any c true (by simp;omega) _).mono ?_;rintro e w'⟨rfl,rfl⟩)
     |(go_at_call 118;with_reducible refine (h60 q).mono ?_;rintro e w1⟨rfl,hB1⟩;have cs1:=hB1.cs;have ck1:=hB1.ck;have fk1:=hB1.fk)
     |(go_at_call 118;with_reducible refine (hB1.byteN (letB c) hlb (by simp)).mono ?_;rintro e w2⟨rfl,hB2⟩;have cs2:=hB2.cs;have ck2:=hB2.ck;have fk2:=hB2.fk)
     |fail)
    refine⟨⟨1,w2.heap.size,rfl,by omega,?_⟩,?_⟩
    ·rw[hout.out]
     exact hB2.newk 1
    ·rw[(hB2.newk 1).kOf,hkn.out]
     simp
     omega
   ·have hn1:0<(n:Int):=by omega
    have hn2:¬(n:Int)≤0:=by omega
    obtain⟨e0,e1⟩:=hd (n-1) (by omega)
    have hw0:IntKind.i64.wrap ((n:Int)-1)=(n:Int)-1:=wrap_in9 (by omega) (by omega)
    have hw1:IntKind.i64.wrap ((n:Int)+1)=(n:Int)+1:=wrap_in9 (by omega) (by omega)
    rw[if_neg hn0] at hout
    replace hout:=Lib.hid hout
    have hlt1:∀q,Calls prog 118 #[.pointer (some ⟨b,0,none⟩),.int .u8 (letB c:Nat)] ((wr.alloc (.cells wordsC 9)).drewN q) fun e w'=>e= .returned .nilIface∧BW sb sb b kb s n (outB s n++[(letB c).toUInt8]) w w':=fun q=>((hB.alloc _).drewN q).byteN (letB c) hlb (by omega)
    clear hB
    go_wp2_with (first
     |(refine wpList_index_as (by rfl) 9 _ _ (by rfl) s .i64 (n:Nat) (by rfl) (by rfl) underlying9 c (by omega) (by omega) (by rw[←hc];rfl) ?_)
     |(refine wpList_index_as (by rfl) 9 _ _ (by rfl) lettersB .u8 (((c:Int)-48+9) % 10) (by rfl) (by rfl) underlying9 (letB c:Nat) (by omega) (by omega) (hla _) ?_)
     |(go_at_call 115;refine (words_any _).mono ?_;rintro e w'⟨rfl,rfl⟩)
     |(go_at_call 114;refine (hix _ hd hlt (by omega) hcs hck).mono ?_;rintro e w'⟨rfl,q,rfl⟩)
     |(go_at_call 120;refine (sign_digs c (by omega) (by omega) _).mono ?_;rintro e w'⟨rfl,rfl⟩)
     |(go_at_call 119;with_reducible refine (digit_any c true (by simp;omega) _).mono ?_;rintro e w'⟨rfl,rfl⟩)
     |(go_at_call 119;with_reducible refine (digit_any _ true (by simp;omega) _).mono ?_;rintro e w'⟨rfl,rfl⟩)
     |(go_at_call 118;with_reducible refine (hlt1 q).mono ?_;rintro e w2⟨rfl,hB2⟩;have cs2:=hB2.cs;have ck2:=hB2.ck;have fk2:=hB2.fk)
     |fail)
    refine⟨⟨n+1,w2.heap.size,rfl,by omega,?_⟩,?_⟩
    ·rw[hout.out]
     exact hB2.newk _
    ·rw[(hB2.newk _).kOf,hkn.out]
     simp
     omega
  ·obtain rfl:n=s.size:=by omega
   go_wp2_with (first
    |(go_at_call 121;refine (Tryz.Builder_String_any_k sb b (outB s s.size) _ hB.bld hB.le).mono ?_;rintro e w3⟨rfl,hI3,hb3,ho3⟩)
    |fail)
   go_ret2
   exact⟨rfl,by rw[hsb.out];exact hB.below.trans hb3⟩
end
section
open Go
structure Lf where
 p:Int
 k:Int
 i:Int
deriving DecidableEq
structure Ke where
 n:Int
 p:Int
 c:ByteArray
deriving DecidableEq
structure Pn where
 dots:List Dt
 keys:List Ke
 left:List Lf
def nearD (g:Int)(a b:Dt):Bool:=(decide (a.k≠b.k)||decide (a.i≠b.i))&&(decide (max (a.x-b.x) (b.x-a.x)<g)&&decide (max (a.y-b.y) (b.y-a.y)<g))
def clashD (g:Int)(l o:List Dt):Option Dt:=l.find? fun a=>o.any (nearD g a)
section
variable (g:Int)(pf:Pc→Bool×List Dt)(kf:Pc→List Ke)
def outD (dots:List Dt)(p:Pc):Option Lf :=
 if (pf p).1 then (clashD g dots (pf p).2).map fun d=>⟨p.id,d.k,d.i⟩ else some ⟨p.id,0,0⟩
def makeStep (pl:Pn)(p:Pc):Pn :=
 match outD g pf pl.dots p with
 |some x=>{ pl with left:=pl.left++[x] }
 |none=>{ pl with dots:=pl.dots++(pf p).2,keys:=pl.keys++kf p }
def makeF (wd:List Dt)(ps:List Pc):Pn:=ps.foldl (makeStep g pf kf) ⟨wd,[],[]⟩
def why (pl:Pn)(id:Int):Option Nat:=pl.left.findIdx? fun l=>decide (l.p=id)
structure CD where
 want:List Dt
 left:Nat
 last:List Int
def cdStep (pl:Pn)(st:CD)(p:Pc):Option CD :=
 if p.id∈st.last then none
 else match why pl p.id with
  |some k=>if k=st.left then some ⟨st.want,st.left+1,p.id::st.last⟩ else none
  |none=>if (pf p).1 then some ⟨st.want++(pf p).2,st.left,p.id::st.last⟩ else none
def cdF (pl:Pn)(wd:List Dt)(ps:List Pc):Bool :=
 match ps.foldlM (cdStep pf pl) ⟨wd,0,[]⟩ with
 |none=>false
 |some st=>decide (st.left=pl.left.length)&&decide (st.want=pl.dots)
def okGap (a b:Dt):Bool:=(decide (a.k≠3)&&decide (b.k≠3))|| !nearD g a b
def gapsF (l:List Dt):Bool:=(List.range l.length).all fun k=>(l.take k).all fun b=>match l[k]? with|some a=>okGap g a b|none=>true
def keysF (pl:Pn)(ps:List Pc):List Ke:=ps.flatMap fun p=>if (why pl p.id).isNone then kf p else []
def crOk (pl:Pn)(bef:List Int)(p:Pc)(l:Lf):Bool :=
 if l.k=0∧l.i=0 then !(pf p).1
 else (pf p).1&&(decide (l.k=2)||(decide (l.k=3)&&decide (l.i≠p.id)&&decide (l.i∈p.id::bef)))&&(clashD g (pl.dots.filter fun d=>decide (d.k=l.k)&&decide (d.i=l.i)) (pf p).2).isSome
def crStep (pl:Pn)(bef:List Int)(p:Pc):Option (List Int) :=
 match (why pl p.id).bind fun k=>pl.left[k]? with
 |none=>some (p.id::bef)
 |some l=>if p.id∈bef then some (p.id::bef) else if crOk g pf pl bef p l then some (p.id::bef) else none
def reasonsF (pl:Pn)(ps:List Pc):Bool:=(ps.foldlM (crStep g pf pl) []).isSome
def checkP (pl:Pn)(wd:List Dt)(ps:List Pc):Int :=
 if cdF pf pl wd ps then if gapsF g pl.dots then if keysF kf pl ps=pl.keys then if reasonsF g pf pl ps then 0 else 42 else 42 else 41 else 42
end
section
variable {g:Int}{pf:Pc→Bool×List Dt}{kf:Pc→List Ke}
theorem makeF_snoc (wd:List Dt)(qs:List Pc)(p:Pc):makeF g pf kf wd (qs++[p])=makeStep g pf kf (makeF g pf kf wd qs) p:=by
 unfold makeF
 rw[List.foldl_append]
 rfl
theorem makeStep_out {pl:Pn}{p:Pc}{x:Lf}(h:outD g pf pl.dots p=some x):makeStep g pf kf pl p={ pl with left:=pl.left++[x] }:=by
 unfold makeStep
 rw[h]
theorem makeStep_in {pl:Pn}{p:Pc}(h:outD g pf pl.dots p=none):makeStep g pf kf pl p={ pl with dots:=pl.dots++(pf p).2,keys:=pl.keys++kf p }:=by
 unfold makeStep
 rw[h]
theorem outD_p {dots:List Dt}{p:Pc}{x:Lf}(h:outD g pf dots p=some x):x.p=p.id:=by
 unfold outD at h
 split at h
 ·obtain⟨d,-,rfl⟩:=Option.map_eq_some_iff.1 h
  rfl
 ·cases h
  rfl
theorem snoc_ind {α:Type}{Q:List α→Prop}(h0:Q [])(hs:∀l x,Q l→Q (l++[x]))(l:List α):Q l:=by
 have h:∀l:List α,Q l.reverse:=by
  intro l
  induction l with
  |nil=>exact h0
  |cons x l ih=>rw[List.reverse_cons];exact hs _ x ih
 have:=h l.reverse
 rwa [List.reverse_reverse] at this
theorem make_ext (wd:List Dt)(qs:List Pc):∀rs:List Pc,∃D K L,makeF g pf kf wd (qs++rs)=⟨(makeF g pf kf wd qs).dots++D,(makeF g pf kf wd qs).keys++K,(makeF g pf kf wd qs).left++L⟩∧(∀x∈L,x.p∈rs.map Pc.id)∧(∀d∈D,∃p∈rs,d∈(pf p).2):=by
 refine snoc_ind ⟨[],[],[],by simp,by simp,by simp⟩ fun rs p ih=> ?_
 ·obtain⟨D,K,L,h,hL,hD⟩:=ih
  rw[←List.append_assoc,makeF_snoc,h]
  cases ho:outD g pf ((makeF g pf kf wd qs).dots++D) p with
  |some x =>
   rw[makeStep_out ho]
   refine⟨D,K,L++[x],by simp,fun y hy=> ?_,fun d hd=> ?_⟩
   ·rcases List.mem_append.1 hy with hy|hy
    ·have:=hL y hy
     simp only[List.map_append,List.mem_append]
     exact .inl this
    ·rw[List.mem_singleton] at hy
     subst hy
     rw[outD_p ho]
     simp
   ·obtain⟨q,hq,h2⟩:=hD d hd
    exact⟨q,List.mem_append_left _ hq,h2⟩
  |none =>
   rw[makeStep_in ho]
   refine⟨D++(pf p).2,K++kf p,L,by simp,fun y hy=> ?_,fun d hd=> ?_⟩
   ·have:=hL y hy
    simp only[List.map_append,List.mem_append]
    exact .inl this
   ·rcases List.mem_append.1 hd with hd|hd
    ·obtain⟨q,hq,h2⟩:=hD d hd
     exact⟨q,List.mem_append_left _ hq,h2⟩
    ·exact⟨p,by simp,hd⟩
theorem make_left (wd:List Dt)(qs:List Pc):∀x∈(makeF g pf kf wd qs).left,x.p∈qs.map Pc.id:=by
 obtain⟨D,K,L,h,hL,-⟩:=make_ext (g:=g) (pf:=pf) (kf:=kf) wd [] qs
 rw[List.nil_append] at h
 rw[h]
 simpa [makeF] using hL
theorem make_dots (wd:List Dt)(qs:List Pc):∀d∈(makeF g pf kf wd qs).dots,d∈wd∨∃p∈qs,d∈(pf p).2:=by
 obtain⟨D,K,L,h,-,hD⟩:=make_ext (g:=g) (pf:=pf) (kf:=kf) wd [] qs
 rw[List.nil_append] at h
 rw[h]
 intro d hd
 rcases List.mem_append.1 hd with h1|h1
 ·exact .inl (by simpa [makeF] using h1)
 ·exact .inr (hD d h1)
theorem findIdx_app {α:Type}(f:α→Bool)(a b:List α)(x:α)(ha:∀y∈a,f y=false)(hx:f x=true):(a++x::b).findIdx? f=some a.length:=by
 induction a with
 |nil=>simp[List.findIdx?_cons,hx]
 |cons y a ih =>
  rw[List.cons_append,List.findIdx?_cons,ha y (by simp),ih (fun z hz=>ha z (List.mem_cons_of_mem _ hz))]
  simp
theorem why_out (wd:List Dt){qs rs:List Pc}{p:Pc}{x:Lf}(hn:((qs++p::rs).map Pc.id).Nodup)(ho:outD g pf (makeF g pf kf wd qs).dots p=some x) :
 why (makeF g pf kf wd (qs++p::rs)) p.id=some (makeF g pf kf wd qs).left.length∧(makeF g pf kf wd (qs++p::rs)).left[(makeF g pf kf wd qs).left.length]? =some x:=by
 obtain⟨D,K,L,h,hL,-⟩:=make_ext (g:=g) (pf:=pf) (kf:=kf) wd (qs++[p]) rs
 rw[List.append_assoc,List.singleton_append] at h
 rw[h,makeF_snoc,makeStep_out ho]
 simp only[List.append_assoc,List.singleton_append]
 refine⟨?_,by simp⟩
 unfold why
 refine findIdx_app _ _ _ _ (fun y hy=> ?_) (by simp[outD_p ho])
 have h1:=make_left wd qs y hy
 refine decide_eq_false fun e=> ?_
 rw[e] at h1
 rw[List.map_append,List.map_cons] at hn
 exact (List.nodup_append.1 hn).2.2 _ h1 _ (by simp) rfl
theorem why_in (wd:List Dt){qs rs:List Pc}{p:Pc}(hn:((qs++p::rs).map Pc.id).Nodup)(ho:outD g pf (makeF g pf kf wd qs).dots p=none) :
 why (makeF g pf kf wd (qs++p::rs)) p.id=none:=by
 obtain⟨D,K,L,h,hL,-⟩:=make_ext (g:=g) (pf:=pf) (kf:=kf) wd (qs++[p]) rs
 rw[List.append_assoc,List.singleton_append] at h
 rw[h,makeF_snoc,makeStep_in ho]
 unfold why
 rw[List.findIdx?_eq_none_iff]
 intro y hy
 refine decide_eq_false fun e=> ?_
 rw[List.map_append,List.map_cons] at hn
 have h2:=List.nodup_append.1 hn
 rcases List.mem_append.1 hy with hy|hy
 ·have h1:=make_left wd qs y hy
  rw[e] at h1
  exact h2.2.2 _ h1 _ (by simp) rfl
 ·have h1:=hL y hy
  rw[e] at h1
  exact (List.nodup_cons.1 h2.2.1).1 h1
theorem all_prefix {α:Type}{Q:List α→Prop}(ps:List α)(h0:Q [])(hs:∀qs p rs,ps=qs++p::rs→Q qs→Q (qs++[p])):Q ps:=by
 have h:∀n,n≤ps.length→Q (ps.take n):=by
  intro n
  induction n with
  |zero=>exact fun _=>by simpa using h0
  |succ n ih =>
   intro hn
   have hl:n<ps.length:=hn
   rw[List.take_add_one,List.getElem?_eq_getElem hl]
   refine hs (ps.take n) ps[n] (ps.drop (n+1)) ?_ (ih (by omega))
   rw[←List.drop_eq_getElem_cons hl,List.take_append_drop]
 have:=h ps.length (yR _)
 rwa [List.take_length] at this
theorem cd_make (wd:List Dt)(ps:List Pc)(hn:(ps.map Pc.id).Nodup):cdF pf (makeF g pf kf wd ps) wd ps=true:=by
 have h:ps.foldlM (cdStep pf (makeF g pf kf wd ps)) ⟨wd,0,[]⟩=some ⟨(makeF g pf kf wd ps).dots,(makeF g pf kf wd ps).left.length,(ps.map Pc.id).reverse⟩:=by
  refine all_prefix (Q:=fun qs=>qs.foldlM (cdStep pf (makeF g pf kf wd ps)) ⟨wd,0,[]⟩=some ⟨(makeF g pf kf wd qs).dots,(makeF g pf kf wd qs).left.length,(qs.map Pc.id).reverse⟩) ps rfl ?_
  intro qs p rs e ih
  have hn':=hn
  rw[e] at hn'
  have hnot:p.id∉(qs.map Pc.id).reverse:=by
   rw[List.mem_reverse]
   intro hm
   rw[List.map_append,List.map_cons] at hn'
   exact (List.nodup_append.1 hn').2.2 _ hm _ (by simp) rfl
  rw[List.foldlM_append,ih]
  show (cdStep pf (makeF g pf kf wd ps) _ p >>= fun s=>pure s)=_
  unfold cdStep
  rw[if_neg hnot]
  cases ho:outD g pf (makeF g pf kf wd qs).dots p with
  |some x =>
   obtain⟨h1,-⟩:=why_out (kf:=kf) wd hn' ho
   rw[←e] at h1
   rw[h1,makeF_snoc,makeStep_out ho]
   simp
  |none =>
   have h1:=why_in (kf:=kf) wd hn' ho
   rw[←e] at h1
   have h2:(pf p).1=true:=by
    cases hp:(pf p).1
    ·unfold outD at ho
     rw[hp] at ho
     simp at ho
    ·rfl
   rw[h1,makeF_snoc,makeStep_in ho]
   simp[h2]
 unfold cdF
 rw[h]
 simp
theorem nearD_comm (g:Int)(a b:Dt):nearD g a b=nearD g b a:=by
 unfold nearD
 rw[show decide (a.k≠b.k)=decide (b.k≠a.k) from decide_eq_decide.2 ne_comm,show decide (a.i≠b.i)=decide (b.i≠a.i) from decide_eq_decide.2 ne_comm,Int.max_comm (a.x-b.x),Int.max_comm (a.y-b.y)]
theorem gaps_pair {l:List Dt}:gapsF g l=true↔l.Pairwise fun b a=>okGap g a b=true:=by
 unfold gapsF
 rw[List.all_eq_true]
 rw[List.pairwise_iff_getElem]
 constructor
 ·intro h i j hi hj hij
  have h1:=h j (by simpa using hj)
  rw[List.all_eq_true] at h1
  have h2:=h1 l[i] (List.mem_take_iff_getElem.2 ⟨i,by omega,rfl⟩)
  rw[List.getElem?_eq_getElem hj] at h2
  exact h2
 ·intro h k hk
  have hk':k<l.length:=by simpa using hk
  rw[List.all_eq_true]
  intro b hb
  obtain⟨i,hi,rfl⟩:=List.mem_take_iff_getElem.1 hb
  rw[List.getElem?_eq_getElem hk']
  exact h i k (by omega) hk' (by omega)
theorem clashD_none {l o:List Dt}(h:clashD g l o=none):∀a∈l,∀b∈o,nearD g a b=false:=by
 unfold clashD at h
 rw[List.find?_eq_none] at h
 intro a ha b hb
 have h1:=h a ha
 simp only[List.any_eq_true,not_exists,not_and,Bool.not_eq_true] at h1
 exact h1 b hb
theorem outD_none {dots:List Dt}{p:Pc}(h:outD g pf dots p=none):(pf p).1=true∧clashD g dots (pf p).2=none:=by
 unfold outD at h
 split at h
 ·rename_i hp
  exact⟨hp,by simpa using h⟩
 ·cases h
theorem gaps_make (wd:List Dt)(hw:∀d∈wd,d.k=2)(ps:List Pc)(hk:∀p∈ps,∀d∈(pf p).2,d.k=3∧d.i=p.id):gapsF g (makeF g pf kf wd ps).dots=true:=by
 rw[gaps_pair]
 refine all_prefix (Q:=fun qs=>(makeF g pf kf wd qs).dots.Pairwise fun b a=>okGap g a b=true) ps ?_ ?_
 ·show wd.Pairwise _
  rw[List.pairwise_iff_getElem]
  intro i j hi hj _
  have h1:=hw _ (List.getElem_mem hi)
  have h2:=hw _ (List.getElem_mem hj)
  simp[okGap,h1,h2]
 ·intro qs p rs e ih
  rw[makeF_snoc]
  cases ho:outD g pf (makeF g pf kf wd qs).dots p with
  |some x=>rw[makeStep_out ho];exact ih
  |none =>
   rw[makeStep_in ho]
   obtain⟨-,hc⟩:=outD_none ho
   have hkp:=hk p (by rw[e];simp)
   rw[List.pairwise_append]
   refine⟨ih,?_,fun b hb a ha=> ?_⟩
   ·rw[List.pairwise_iff_getElem]
    intro i j hi hj _
    obtain⟨h1,h2⟩:=hkp _ (List.getElem_mem hi)
    obtain⟨h3,h4⟩:=hkp _ (List.getElem_mem hj)
    simp[okGap,nearD,h1,h2,h3,h4]
   ·have h1:=clashD_none hc b hb a ha
    unfold okGap
    rw[nearD_comm,h1]
    simp
theorem keys_make (wd:List Dt)(ps:List Pc)(hn:(ps.map Pc.id).Nodup):keysF kf (makeF g pf kf wd ps) ps=(makeF g pf kf wd ps).keys:=by
 refine all_prefix (Q:=fun qs=>keysF kf (makeF g pf kf wd ps) qs=(makeF g pf kf wd qs).keys) ps rfl ?_
 intro qs p rs e ih
 have hn':=hn
 rw[e] at hn'
 rw[makeF_snoc]
 unfold keysF at ih ⊢
 rw[List.flatMap_append,ih]
 cases ho:outD g pf (makeF g pf kf wd qs).dots p with
 |some x =>
  obtain⟨h1,-⟩:=why_out (kf:=kf) wd hn' ho
  rw[←e] at h1
  rw[makeStep_out ho]
  simp[h1]
 |none =>
  have h1:=why_in (kf:=kf) wd hn' ho
  rw[←e] at h1
  rw[makeStep_in ho]
  simp[h1]
theorem reasons_make (wd:List Dt)(hw:∀d∈wd,d.k=2)(ps:List Pc)(hk:∀p∈ps,∀d∈(pf p).2,d.k=3∧d.i=p.id)(hn:(ps.map Pc.id).Nodup):reasonsF g pf (makeF g pf kf wd ps) ps=true:=by
 have h:ps.foldlM (crStep g pf (makeF g pf kf wd ps)) []=some (ps.map Pc.id).reverse:=by
  refine all_prefix (Q:=fun qs=>qs.foldlM (crStep g pf (makeF g pf kf wd ps)) []=some (qs.map Pc.id).reverse) ps rfl ?_
  intro qs p rs e ih
  have hn':=hn
  rw[e] at hn'
  have hnot:p.id∉(qs.map Pc.id).reverse:=by
   rw[List.mem_reverse]
   intro hm
   rw[List.map_append,List.map_cons] at hn'
   exact (List.nodup_append.1 hn').2.2 _ hm _ (by simp) rfl
  rw[List.foldlM_append,ih]
  show (crStep g pf (makeF g pf kf wd ps) _ p >>= fun s=>pure s)=_
  unfold crStep
  have hrev:((qs++[p]).map Pc.id).reverse=p.id::(qs.map Pc.id).reverse:=by simp
  rw[hrev]
  cases ho:outD g pf (makeF g pf kf wd qs).dots p with
  |none =>
   have h1:=why_in (kf:=kf) wd hn' ho
   rw[←e] at h1
   rw[h1]
   rfl
  |some x =>
   obtain⟨h1,h2⟩:=why_out (kf:=kf) wd hn' ho
   rw[←e] at h1 h2
   rw[h1]
   show (match (makeF g pf kf wd ps).left[(makeF g pf kf wd qs).left.length]? with
    |none=>some (p.id::(qs.map Pc.id).reverse)
    |some l=>if p.id∈(qs.map Pc.id).reverse then some (p.id::(qs.map Pc.id).reverse) else if crOk g pf (makeF g pf kf wd ps) (qs.map Pc.id).reverse p l then some (p.id::(qs.map Pc.id).reverse) else none).bind (fun s=>some s)=_
   rw[h2]
   simp only
   rw[if_neg hnot,if_pos]
   ·rfl
   unfold outD at ho
   unfold crOk
   by_cases hp:(pf p).1=true
   ·rw[if_pos hp] at ho
    obtain⟨d,hd,rfl⟩:=Option.map_eq_some_iff.1 ho
    have hdm:=List.mem_of_find?_eq_some hd
    have hdn:=List.find?_some hd
    have hin:d.k=2∨(d.k=3∧d.i∈qs.map Pc.id):=by
     rcases make_dots (kf:=kf) wd qs d hdm with h3|⟨q,hq,h3⟩
     ·exact .inl (hw d h3)
     ·obtain⟨h4,h5⟩:=hk q (by rw[e];simp[hq]) d h3
      exact .inr ⟨h4,by rw[h5];exact List.mem_map_of_mem hq⟩
    rw[if_neg (by rintro⟨h3,-⟩;simp only at h3;omega)]
    simp only[Bool.and_eq_true,Bool.or_eq_true,decide_eq_true_eq]
    refine⟨⟨hp,?_⟩,?_⟩
    ·rcases hin with h3|⟨h3,h4⟩
     ·exact .inl h3
     ·refine .inr ⟨⟨h3,fun h5=>hnot ?_⟩,?_⟩
      ·rw[List.mem_reverse,←h5];exact h4
      ·exact List.mem_cons_of_mem _ (by rw[List.mem_reverse];exact h4)
    ·unfold clashD
     rw[List.find?_isSome]
     obtain⟨D,K,L,h6,-,-⟩:=make_ext (g:=g) (pf:=pf) (kf:=kf) wd qs (p::rs)
     rw[←e] at h6
     exact⟨d,List.mem_filter.2 ⟨by rw[h6];exact List.mem_append_left _ hdm,by simp⟩,hdn⟩
   ·rw[if_neg hp] at ho
    cases ho
    simp[hp]
 unfold reasonsF
 rw[h]
 rfl
theorem check_make (wd:List Dt)(hw:∀d∈wd,d.k=2)(ps:List Pc)(hk:∀p∈ps,∀d∈(pf p).2,d.k=3∧d.i=p.id)(hn:(ps.map Pc.id).Nodup):checkP g pf kf (makeF g pf kf wd ps) wd ps=0:=by
 unfold checkP
 rw[if_pos (cd_make wd ps hn),if_pos (gaps_make wd hw ps hk),if_pos (keys_make wd ps hn),if_pos (reasons_make wd hw ps hk hn)]
end
end
section
open Go.RowKit Go.Shelf Go.Lib Go.Sort
attribute [local go_sem] Oper.semAt_some
attribute [local go_sem ↓] Go.wp_at_zero Go.wp_at_succ
theorem ownsRow_base {W:World}{b b':Nat}{e:TypeId}{s:Nat}{v:Value}{n:Nat}{xs:List Value}(h:W.ownsRow b e s v n xs)(hb:b'≤b):W.ownsRow b' e s v n xs:=by
 refine⟨h.1,h.2.imp id ?_⟩
 rintro⟨g,cap,cur,h1,h2,h3⟩
 exact⟨g,cap,cur,h1,by omega,h3⟩
theorem below_of_grown {n:Nat}{w w':World}{o:Option Nat}(hg:w.grownBy w' o)(hn:n≤w.heap.size)(h:∀k,o=some k→n≤k):Below n w w' :=
 ⟨hg.os,hg.tape,hg.output,hg.size,fun k hk=>hg.block k (Nat.lt_of_lt_of_le hk hn) (fun e=>by have:=h k e.symm;omega)⟩
end
section
open Go Go.RowKit Go.Shelf
section
variable {α:Type}{E:El α}{P:Program}{st:TypeId}
theorem El.append_join (hE:E.Ok)(hI:E.In P st)(W:World)(base:Nat)(v xv:Value)(l l2:List α)(ty:TypeId)(hv:W.ownsRow base E.t E.s v l.length (l.flatMap E.enc))(hsm:∃g c,v= .slice (some ⟨g,0,none⟩) l.length c){n0:Nat}(hx:Lst E n0 W xv l2)(hf:Frm xv l2.length)(hl:l.length+l2.length≤100000)(hb:base≤W.heap.size) :
 ∃v' W',(Builtin.append_ #[st,st] ty #[v,xv]).run P W= .ok v' W'∧W'.ownsRow base E.t E.s v' (l++l2).length ((l++l2).flatMap E.enc)∧W.grownBy W' v.ownBlock∧Below base W W'∧∃g cap,v'= .slice (some ⟨g,0,none⟩) (l++l2).length cap:=by
 obtain⟨i0,z,hi0,hz0,hz1,hz2,hz3⟩:=hI.info
 obtain⟨g,c,rfl⟩:=hsm
 by_cases hne:l2=[]
 ·subst hne
  have hs:Src P i0.size st xv 0 [] W:=by
   rcases hf with rfl|⟨b,off,cap,rfl⟩
   ·exact Src.ofNil W hI.under 0
   ·exact Src.ofSlice W hI.under _ 0 cap [] (by simp) (by simp) (by simp)
  have hlc:l.length+0≤c:=by
   rcases hv.2 with ⟨e,-⟩|⟨g',cap',cur,e,-,-,h1,-⟩
   ·cases e
   ·simp only[Value.slice.injEq,true_and] at e
    omega
  have hr:=run_append_room_src (P:=P) W st st ty E.t i0 hI.under hi0 g 0 l.length c xv 0 [] hs hlc (by simp) (by simp)
  refine⟨_,_,hr,?_,?_,?_,g,c,?_⟩
  ·rw[List.append_nil];exact hv
  ·exact⟨rfl,rfl,rfl,yR _,fun _ _ _=>rfl⟩
  ·exact⟨rfl,rfl,rfl,yR _,fun _ _=>rfl⟩
  ·rw[List.append_nil];rfl
 ·have hpos:0<l2.length:=List.length_pos_iff.2 hne
  obtain⟨b,off,cap,rfl,hcap,hbn,-⟩:=hx.some_ hpos
  have hnews:∀j u,(l2.flatMap E.enc)[j]? =some u→W.cell? ((⟨b,off,none⟩:Addr).add j)=some u:=fun j u hj=>by
   rw[Addr.add_lit]
   exact hx.flat hE j u hj
  obtain⟨v',W',hr,hown,hg,-,-⟩:=run_append_own_at (P:=P) W base st ty E.t i0 _ E.s i0.bytes hI.under hi0 hz0 hz1 rfl hz3 hE.pos _ l.length _ hv ⟨b,off,none⟩ l2.length cap (l2.flatMap E.enc) (flat_length hE l2) hnews (flat_one hE l2) (by unfold maxLen;omega) (Nat.le_trans (Nat.mul_le_mul (show l.length+l2.length≤100000 by omega) hz2) (by decide)) hb
  have hform:∃g cap,v'= .slice (some ⟨g,0,none⟩) (l++l2).length cap:=by
   rw[List.length_append]
   rcases hown.2 with ⟨-,e⟩|⟨g',cap',cur,e,-⟩
   ·omega
   ·exact⟨g',cap',e⟩
  refine⟨v',W',hr,?_,hg,below_of_grown hg hb (fun k e=>(hv.lt k e).1),hform⟩
  rw[List.length_append,List.flatMap_append]
  exact hown
theorem El.step_join (hE:E.Ok)(hI:E.In P st){o:Oper}{a:Act}{w:World}{K:Act→World→Prop}{Q:Exit→Act→World→Prop}(s x:Operand)
 (ho:o.op= .call { callee:= .builtin .append,args:= #[s,x],argTypes:= #[st,st] })
 (base:Nat) {v:Value} (hs:a.eval s=v) (l:List α) (hv:w.ownsRow base E.t E.s v l.length (l.flatMap E.enc)) (hsm:∃g c,v= .slice (some ⟨g,0,none⟩) l.length c) {xv:Value} (l2:List α) (hxv:a.eval x=xv) {n0:Nat} (hx:Lst E n0 w xv l2) (hf:Frm xv l2.length) (hl:l.length+l2.length≤100000) (hb:base≤w.heap.size)
 (h:∀v' w',w'.ownsRow base E.t E.s v' (l++l2).length ((l++l2).flatMap E.enc)→w.grownBy w' v.ownBlock→Below base w w'→(∃g cap,v'= .slice (some ⟨g,0,none⟩) (l++l2).length cap)→K (a.put o.dst v') w') :
 Oper.wp P o a w K Q:=by
 obtain⟨v',w',hr,h2,h3,h4,h5⟩:=El.append_join hE hI w base v xv l l2 o.type hv hsm hx hf hl hb
 unfold Oper.wp execOp
 simp only[ho,resolve,invoke,builtin,Sem.run_bind,Sem.run_pure,Result.andThen_ok,List.map_toArray,List.map_cons,List.map_nil,hs,hxv,hr]
 exact h v' w' h2 h3 h4 h5
theorem El.join (hE:E.Ok)(hI:E.In P st){ops:Array Oper}{rest:List Oper}{o:Oper}{a:Act}{w:World}{Q:Exit→Act→World→Prop}(hgd:o.guard=none)(s x:Operand)
 (ho:o.op= .call { callee:= .builtin .append,args:= #[s,x],argTypes:= #[st,st] })
 (base:Nat) {v:Value} (hs:a.eval s=v) (l:List α) (hv:w.ownsRow base E.t E.s v l.length (l.flatMap E.enc)) (hsm:∃g c,v= .slice (some ⟨g,0,none⟩) l.length c) {xv:Value} (l2:List α) (hxv:a.eval x=xv) {n0:Nat} (hx:Lst E n0 w xv l2) (hf:Frm xv l2.length) (hl:l.length+l2.length≤100000) (hb:base≤w.heap.size)
 (h:∀v' w',w'.ownsRow base E.t E.s v' (l++l2).length ((l++l2).flatMap E.enc)→w.grownBy w' v.ownBlock→Below base w w'→(∃g cap,v'= .slice (some ⟨g,0,none⟩) (l++l2).length cap)→wpList P ops Q rest (a.put o.dst v') w') :
 wpList P ops Q (o::rest) a w :=
 wpList_plain hgd fun _ hK=>El.step_join hE hI s x ho base hs l hv hsm l2 hxv hx hf hl hb fun v' w' h1 h2 h3 h4=>hK _ _ (h v' w' h1 h2 h3 h4)
end
end
end Go.Proofs.YtfocdbjceedagaaGreatDoor
