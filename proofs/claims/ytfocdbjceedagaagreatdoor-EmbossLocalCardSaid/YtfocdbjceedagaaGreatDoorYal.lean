/-
  Parts.
-/
import Derived.Test.YtfocdbjceedagaaGreatDoorYah
import Derived.Shelf.SlSortCmp.NoneTotal
set_option linter.unusedVariables false
set_option linter.unusedSimpArgs false
set_option maxHeartbeats 2000000
set_option maxRecDepth 100000
namespace Go.Proofs.YtfocdbjceedagaaGreatDoor
open Tryz
section
open Go.RowKit Go.Shelf
attribute [local go_sem] Oper.semAt_some
def c9w (c n:Nat):Bool:=c / 2 ^ n % 2==1
theorem d3i (w:World):Calls prog 66 #[.int .u8 60] w fun e w'=>e= .returned (.agg #[.bool false,.bool false,.bool true,.bool true,.bool true,.bool true])∧Below w.heap.size w w':=by
 have q0:bits BinOp.and IntKind.u8 60 1=0:=by decide +kernel
 have q1:bits BinOp.and IntKind.u8 60 2=0:=by decide +kernel
 have q2:bits BinOp.and IntKind.u8 60 4=4:=by decide +kernel
 have q3:bits BinOp.and IntKind.u8 60 8=8:=by decide +kernel
 have q4:bits BinOp.and IntKind.u8 60 16=16:=by decide +kernel
 have q5:bits BinOp.and IntKind.u8 60 32=32:=by decide +kernel
 go_enter func66,ntmps66;go_wp2_with fail;refine wp_loop_rounds 7 ?_;rw[rounds_succ];go_wp2_with fail;rw[rounds_succ];go_wp2_with fail;rw[rounds_succ];go_wp2_with fail;rw[rounds_succ];go_wp2_with fail;rw[rounds_succ];go_wp2_with fail;rw[rounds_succ];go_wp2_with fail;rw[rounds_succ];go_wp2_with fail;exact bodyPost_ret (v:= .agg #[.bool false,.bool false,.bool true,.bool true,.bool true,.bool true]) (by simp[results,results66,go_sem]) rfl ⟨rfl,(by repeat' (first|with_reducible (first|exact zR _ _|exact yR _|assumption|refine zG ?_ ?_ _|refine zA ?_ ?_ _|refine zS ?_ ?_ _|refine zD ?_|refine yA ?_|refine yG ?_|refine yS ?_|refine yD ?_)|omega|(dsimp only;omega)))⟩
theorem d3j (w:World):Calls prog 66 #[.int .u8 26] w fun e w'=>e= .returned (.agg #[.bool false,.bool true,.bool false,.bool true,.bool true,.bool false])∧Below w.heap.size w w':=by
 have q0:bits BinOp.and IntKind.u8 26 1=0:=by decide +kernel
 have q1:bits BinOp.and IntKind.u8 26 2=2:=by decide +kernel
 have q2:bits BinOp.and IntKind.u8 26 4=0:=by decide +kernel
 have q3:bits BinOp.and IntKind.u8 26 8=8:=by decide +kernel
 have q4:bits BinOp.and IntKind.u8 26 16=16:=by decide +kernel
 have q5:bits BinOp.and IntKind.u8 26 32=0:=by decide +kernel
 go_enter func66,ntmps66;go_wp2_with fail;refine wp_loop_rounds 7 ?_;rw[rounds_succ];go_wp2_with fail;rw[rounds_succ];go_wp2_with fail;rw[rounds_succ];go_wp2_with fail;rw[rounds_succ];go_wp2_with fail;rw[rounds_succ];go_wp2_with fail;rw[rounds_succ];go_wp2_with fail;rw[rounds_succ];go_wp2_with fail;exact bodyPost_ret (v:= .agg #[.bool false,.bool true,.bool false,.bool true,.bool true,.bool false]) (by simp[results,results66,go_sem]) rfl ⟨rfl,(by repeat' (first|with_reducible (first|exact zR _ _|exact yR _|assumption|refine zG ?_ ?_ _|refine zA ?_ ?_ _|refine zS ?_ ?_ _|refine zD ?_|refine yA ?_|refine yG ?_|refine yS ?_|refine yD ?_)|omega|(dsimp only;omega)))⟩
theorem d4q (w:World):Calls prog 66 #[.int .u8 1] w fun e w'=>e= .returned (.agg #[.bool true,.bool false,.bool false,.bool false,.bool false,.bool false])∧Below w.heap.size w w':=by
 have q0:bits BinOp.and IntKind.u8 1 1=1:=by decide +kernel
 have q1:bits BinOp.and IntKind.u8 1 2=0:=by decide +kernel
 have q2:bits BinOp.and IntKind.u8 1 4=0:=by decide +kernel
 have q3:bits BinOp.and IntKind.u8 1 8=0:=by decide +kernel
 have q4:bits BinOp.and IntKind.u8 1 16=0:=by decide +kernel
 have q5:bits BinOp.and IntKind.u8 1 32=0:=by decide +kernel
 go_enter func66,ntmps66;go_wp2_with fail;refine wp_loop_rounds 7 ?_;rw[rounds_succ];go_wp2_with fail;rw[rounds_succ];go_wp2_with fail;rw[rounds_succ];go_wp2_with fail;rw[rounds_succ];go_wp2_with fail;rw[rounds_succ];go_wp2_with fail;rw[rounds_succ];go_wp2_with fail;rw[rounds_succ];go_wp2_with fail;exact bodyPost_ret (v:= .agg #[.bool true,.bool false,.bool false,.bool false,.bool false,.bool false]) (by simp[results,results66,go_sem]) rfl ⟨rfl,(by repeat' (first|with_reducible (first|exact zR _ _|exact yR _|assumption|refine zG ?_ ?_ _|refine zA ?_ ?_ _|refine zS ?_ ?_ _|refine zD ?_|refine yA ?_|refine yG ?_|refine yS ?_|refine yD ?_)|omega|(dsimp only;omega)))⟩
theorem d4r (w:World):Calls prog 66 #[.int .u8 3] w fun e w'=>e= .returned (.agg #[.bool true,.bool true,.bool false,.bool false,.bool false,.bool false])∧Below w.heap.size w w':=by
 have q0:bits BinOp.and IntKind.u8 3 1=1:=by decide +kernel
 have q1:bits BinOp.and IntKind.u8 3 2=2:=by decide +kernel
 have q2:bits BinOp.and IntKind.u8 3 4=0:=by decide +kernel
 have q3:bits BinOp.and IntKind.u8 3 8=0:=by decide +kernel
 have q4:bits BinOp.and IntKind.u8 3 16=0:=by decide +kernel
 have q5:bits BinOp.and IntKind.u8 3 32=0:=by decide +kernel
 go_enter func66,ntmps66;go_wp2_with fail;refine wp_loop_rounds 7 ?_;rw[rounds_succ];go_wp2_with fail;rw[rounds_succ];go_wp2_with fail;rw[rounds_succ];go_wp2_with fail;rw[rounds_succ];go_wp2_with fail;rw[rounds_succ];go_wp2_with fail;rw[rounds_succ];go_wp2_with fail;rw[rounds_succ];go_wp2_with fail;exact bodyPost_ret (v:= .agg #[.bool true,.bool true,.bool false,.bool false,.bool false,.bool false]) (by simp[results,results66,go_sem]) rfl ⟨rfl,(by repeat' (first|with_reducible (first|exact zR _ _|exact yR _|assumption|refine zG ?_ ?_ _|refine zA ?_ ?_ _|refine zS ?_ ?_ _|refine zD ?_|refine yA ?_|refine yG ?_|refine yS ?_|refine yD ?_)|omega|(dsimp only;omega)))⟩
theorem d4s (w:World):Calls prog 66 #[.int .u8 9] w fun e w'=>e= .returned (.agg #[.bool true,.bool false,.bool false,.bool true,.bool false,.bool false])∧Below w.heap.size w w':=by
 have q0:bits BinOp.and IntKind.u8 9 1=1:=by decide +kernel
 have q1:bits BinOp.and IntKind.u8 9 2=0:=by decide +kernel
 have q2:bits BinOp.and IntKind.u8 9 4=0:=by decide +kernel
 have q3:bits BinOp.and IntKind.u8 9 8=8:=by decide +kernel
 have q4:bits BinOp.and IntKind.u8 9 16=0:=by decide +kernel
 have q5:bits BinOp.and IntKind.u8 9 32=0:=by decide +kernel
 go_enter func66,ntmps66;go_wp2_with fail;refine wp_loop_rounds 7 ?_;rw[rounds_succ];go_wp2_with fail;rw[rounds_succ];go_wp2_with fail;rw[rounds_succ];go_wp2_with fail;rw[rounds_succ];go_wp2_with fail;rw[rounds_succ];go_wp2_with fail;rw[rounds_succ];go_wp2_with fail;rw[rounds_succ];go_wp2_with fail;exact bodyPost_ret (v:= .agg #[.bool true,.bool false,.bool false,.bool true,.bool false,.bool false]) (by simp[results,results66,go_sem]) rfl ⟨rfl,(by repeat' (first|with_reducible (first|exact zR _ _|exact yR _|assumption|refine zG ?_ ?_ _|refine zA ?_ ?_ _|refine zS ?_ ?_ _|refine zD ?_|refine yA ?_|refine yG ?_|refine yS ?_|refine yD ?_)|omega|(dsimp only;omega)))⟩
theorem d3k (w:World):Calls prog 66 #[.int .u8 25] w fun e w'=>e= .returned (.agg #[.bool true,.bool false,.bool false,.bool true,.bool true,.bool false])∧Below w.heap.size w w':=by
 have q0:bits BinOp.and IntKind.u8 25 1=1:=by decide +kernel
 have q1:bits BinOp.and IntKind.u8 25 2=0:=by decide +kernel
 have q2:bits BinOp.and IntKind.u8 25 4=0:=by decide +kernel
 have q3:bits BinOp.and IntKind.u8 25 8=8:=by decide +kernel
 have q4:bits BinOp.and IntKind.u8 25 16=16:=by decide +kernel
 have q5:bits BinOp.and IntKind.u8 25 32=0:=by decide +kernel
 go_enter func66,ntmps66;go_wp2_with fail;refine wp_loop_rounds 7 ?_;rw[rounds_succ];go_wp2_with fail;rw[rounds_succ];go_wp2_with fail;rw[rounds_succ];go_wp2_with fail;rw[rounds_succ];go_wp2_with fail;rw[rounds_succ];go_wp2_with fail;rw[rounds_succ];go_wp2_with fail;rw[rounds_succ];go_wp2_with fail;exact bodyPost_ret (v:= .agg #[.bool true,.bool false,.bool false,.bool true,.bool true,.bool false]) (by simp[results,results66,go_sem]) rfl ⟨rfl,(by repeat' (first|with_reducible (first|exact zR _ _|exact yR _|assumption|refine zG ?_ ?_ _|refine zA ?_ ?_ _|refine zS ?_ ?_ _|refine zD ?_|refine yA ?_|refine yG ?_|refine yS ?_|refine yD ?_)|omega|(dsimp only;omega)))⟩
theorem d3l (w:World):Calls prog 66 #[.int .u8 17] w fun e w'=>e= .returned (.agg #[.bool true,.bool false,.bool false,.bool false,.bool true,.bool false])∧Below w.heap.size w w':=by
 have q0:bits BinOp.and IntKind.u8 17 1=1:=by decide +kernel
 have q1:bits BinOp.and IntKind.u8 17 2=0:=by decide +kernel
 have q2:bits BinOp.and IntKind.u8 17 4=0:=by decide +kernel
 have q3:bits BinOp.and IntKind.u8 17 8=0:=by decide +kernel
 have q4:bits BinOp.and IntKind.u8 17 16=16:=by decide +kernel
 have q5:bits BinOp.and IntKind.u8 17 32=0:=by decide +kernel
 go_enter func66,ntmps66;go_wp2_with fail;refine wp_loop_rounds 7 ?_;rw[rounds_succ];go_wp2_with fail;rw[rounds_succ];go_wp2_with fail;rw[rounds_succ];go_wp2_with fail;rw[rounds_succ];go_wp2_with fail;rw[rounds_succ];go_wp2_with fail;rw[rounds_succ];go_wp2_with fail;rw[rounds_succ];go_wp2_with fail;exact bodyPost_ret (v:= .agg #[.bool true,.bool false,.bool false,.bool false,.bool true,.bool false]) (by simp[results,results66,go_sem]) rfl ⟨rfl,(by repeat' (first|with_reducible (first|exact zR _ _|exact yR _|assumption|refine zG ?_ ?_ _|refine zA ?_ ?_ _|refine zS ?_ ?_ _|refine zD ?_|refine yA ?_|refine yG ?_|refine yS ?_|refine yD ?_)|omega|(dsimp only;omega)))⟩
theorem d3m (w:World):Calls prog 66 #[.int .u8 11] w fun e w'=>e= .returned (.agg #[.bool true,.bool true,.bool false,.bool true,.bool false,.bool false])∧Below w.heap.size w w':=by
 have q0:bits BinOp.and IntKind.u8 11 1=1:=by decide +kernel
 have q1:bits BinOp.and IntKind.u8 11 2=2:=by decide +kernel
 have q2:bits BinOp.and IntKind.u8 11 4=0:=by decide +kernel
 have q3:bits BinOp.and IntKind.u8 11 8=8:=by decide +kernel
 have q4:bits BinOp.and IntKind.u8 11 16=0:=by decide +kernel
 have q5:bits BinOp.and IntKind.u8 11 32=0:=by decide +kernel
 go_enter func66,ntmps66;go_wp2_with fail;refine wp_loop_rounds 7 ?_;rw[rounds_succ];go_wp2_with fail;rw[rounds_succ];go_wp2_with fail;rw[rounds_succ];go_wp2_with fail;rw[rounds_succ];go_wp2_with fail;rw[rounds_succ];go_wp2_with fail;rw[rounds_succ];go_wp2_with fail;rw[rounds_succ];go_wp2_with fail;exact bodyPost_ret (v:= .agg #[.bool true,.bool true,.bool false,.bool true,.bool false,.bool false]) (by simp[results,results66,go_sem]) rfl ⟨rfl,(by repeat' (first|with_reducible (first|exact zR _ _|exact yR _|assumption|refine zG ?_ ?_ _|refine zA ?_ ?_ _|refine zS ?_ ?_ _|refine zD ?_|refine yA ?_|refine yG ?_|refine yS ?_|refine yD ?_)|omega|(dsimp only;omega)))⟩
theorem d3n (w:World):Calls prog 66 #[.int .u8 27] w fun e w'=>e= .returned (.agg #[.bool true,.bool true,.bool false,.bool true,.bool true,.bool false])∧Below w.heap.size w w':=by
 have q0:bits BinOp.and IntKind.u8 27 1=1:=by decide +kernel
 have q1:bits BinOp.and IntKind.u8 27 2=2:=by decide +kernel
 have q2:bits BinOp.and IntKind.u8 27 4=0:=by decide +kernel
 have q3:bits BinOp.and IntKind.u8 27 8=8:=by decide +kernel
 have q4:bits BinOp.and IntKind.u8 27 16=16:=by decide +kernel
 have q5:bits BinOp.and IntKind.u8 27 32=0:=by decide +kernel
 go_enter func66,ntmps66;go_wp2_with fail;refine wp_loop_rounds 7 ?_;rw[rounds_succ];go_wp2_with fail;rw[rounds_succ];go_wp2_with fail;rw[rounds_succ];go_wp2_with fail;rw[rounds_succ];go_wp2_with fail;rw[rounds_succ];go_wp2_with fail;rw[rounds_succ];go_wp2_with fail;rw[rounds_succ];go_wp2_with fail;exact bodyPost_ret (v:= .agg #[.bool true,.bool true,.bool false,.bool true,.bool true,.bool false]) (by simp[results,results66,go_sem]) rfl ⟨rfl,(by repeat' (first|with_reducible (first|exact zR _ _|exact yR _|assumption|refine zG ?_ ?_ _|refine zA ?_ ?_ _|refine zS ?_ ?_ _|refine zD ?_|refine yA ?_|refine yG ?_|refine yS ?_|refine yD ?_)|omega|(dsimp only;omega)))⟩
theorem d3o (w:World):Calls prog 66 #[.int .u8 19] w fun e w'=>e= .returned (.agg #[.bool true,.bool true,.bool false,.bool false,.bool true,.bool false])∧Below w.heap.size w w':=by
 have q0:bits BinOp.and IntKind.u8 19 1=1:=by decide +kernel
 have q1:bits BinOp.and IntKind.u8 19 2=2:=by decide +kernel
 have q2:bits BinOp.and IntKind.u8 19 4=0:=by decide +kernel
 have q3:bits BinOp.and IntKind.u8 19 8=0:=by decide +kernel
 have q4:bits BinOp.and IntKind.u8 19 16=16:=by decide +kernel
 have q5:bits BinOp.and IntKind.u8 19 32=0:=by decide +kernel
 go_enter func66,ntmps66;go_wp2_with fail;refine wp_loop_rounds 7 ?_;rw[rounds_succ];go_wp2_with fail;rw[rounds_succ];go_wp2_with fail;rw[rounds_succ];go_wp2_with fail;rw[rounds_succ];go_wp2_with fail;rw[rounds_succ];go_wp2_with fail;rw[rounds_succ];go_wp2_with fail;rw[rounds_succ];go_wp2_with fail;exact bodyPost_ret (v:= .agg #[.bool true,.bool true,.bool false,.bool false,.bool true,.bool false]) (by simp[results,results66,go_sem]) rfl ⟨rfl,(by repeat' (first|with_reducible (first|exact zR _ _|exact yR _|assumption|refine zG ?_ ?_ _|refine zA ?_ ?_ _|refine zS ?_ ?_ _|refine zD ?_|refine yA ?_|refine yG ?_|refine yS ?_|refine yD ?_)|omega|(dsimp only;omega)))⟩
theorem d3p (w:World):Calls prog 66 #[.int .u8 10] w fun e w'=>e= .returned (.agg #[.bool false,.bool true,.bool false,.bool true,.bool false,.bool false])∧Below w.heap.size w w':=by
 have q0:bits BinOp.and IntKind.u8 10 1=0:=by decide +kernel
 have q1:bits BinOp.and IntKind.u8 10 2=2:=by decide +kernel
 have q2:bits BinOp.and IntKind.u8 10 4=0:=by decide +kernel
 have q3:bits BinOp.and IntKind.u8 10 8=8:=by decide +kernel
 have q4:bits BinOp.and IntKind.u8 10 16=0:=by decide +kernel
 have q5:bits BinOp.and IntKind.u8 10 32=0:=by decide +kernel
 go_enter func66,ntmps66;go_wp2_with fail;refine wp_loop_rounds 7 ?_;rw[rounds_succ];go_wp2_with fail;rw[rounds_succ];go_wp2_with fail;rw[rounds_succ];go_wp2_with fail;rw[rounds_succ];go_wp2_with fail;rw[rounds_succ];go_wp2_with fail;rw[rounds_succ];go_wp2_with fail;rw[rounds_succ];go_wp2_with fail;exact bodyPost_ret (v:= .agg #[.bool false,.bool true,.bool false,.bool true,.bool false,.bool false]) (by simp[results,results66,go_sem]) rfl ⟨rfl,(by repeat' (first|with_reducible (first|exact zR _ _|exact yR _|assumption|refine zG ?_ ?_ _|refine zA ?_ ?_ _|refine zS ?_ ?_ _|refine zD ?_|refine yA ?_|refine yG ?_|refine yS ?_|refine yD ?_)|omega|(dsimp only;omega)))⟩
theorem c9x (c:Nat)(h:c=60∨c=26∨c=1∨c=3∨c=9∨c=25∨c=17∨c=11∨c=27∨c=19∨c=10)(w:World):Calls prog 66 #[.int .u8 c] w fun e w'=>e= .returned (.agg #[.bool (c9w c 0),.bool (c9w c 1),.bool (c9w c 2),.bool (c9w c 3),.bool (c9w c 4),.bool (c9w c 5)])∧Below w.heap.size w w':=by
 rcases h with rfl|rfl|rfl|rfl|rfl|rfl|rfl|rfl|rfl|rfl|rfl
 ·exact d3i w
 ·exact d3j w
 ·exact d4q w
 ·exact d4r w
 ·exact d4s w
 ·exact d3k w
 ·exact d3l w
 ·exact d3m w
 ·exact d3n w
 ·exact d3o w
 ·exact d3p w
end
section
open Go.RowKit Go.Shelf
def a8j (s:Sh)(ps:List a0o)(k:Nat):List a8f:=c7m s (ps.getD k (0,0)) (ps.getD (min (k+1) (ps.length-1)) (0,0))
def a7o (s:Sh)(id:Int)(ps:List a0o)(en:List (a0o×Int))(t:Nat):List (a0o×Int):=(List.range t).foldl (fun en k=>a3x s id en (a8j s ps k)) en
theorem b0z (s:Sh)(id:Int)(ps:List a0o)(en:List (a0o×Int))(t:Nat):a7o s id ps en (t+1)=a3x s id (a7o s id ps en t) (a8j s ps t):=by
 unfold a7o;rw[List.range_succ,List.foldl_append];rfl
def a8z (ps:List a0o):Bool:=ps.all fun p=>a2b p.1 p.2
def a4k (s:Sh)(en:List (a0o×Int))(ws:List (Int×List a0o)):List (a0o×Int):=ws.foldl (fun en w=>if a8z w.2 then a7o s w.1 w.2 en w.2.length else en) en
theorem c2e (s:Sh)(en:List (a0o×Int))(ws:List (Int×List a0o))(w:Int×List a0o):a4k s en (ws++[w])=if a8z w.2 then a7o s w.1 w.2 (a4k s en ws) w.2.length else a4k s en ws:=by
 unfold a4k;rw[List.foldl_append];rfl
theorem c2f (s:Sh)(ws:List (Int×List a0o))(t:Nat)(h:t<ws.length):a4k s [] (ws.take (t+1))=if a8z ws[t].2 then a7o s ws[t].1 ws[t].2 (a4k s [] (ws.take t)) ws[t].2.length else a4k s [] (ws.take t):=by
 rw[List.take_add_one,List.getElem?_eq_getElem h];exact c2e _ _ _ _
/-! ### what ways contribute,one by one -/
def a9a (s:Sh)(en:List (a0o×Int))(c:a0o×Int):List (a0o×Int):=c6q s c.2 en c.1
def d2c (s:Sh)(w:Int×List a0o):List (a0o×Int):=if a8z w.2 then ((List.range w.2.length).flatMap (a8j s w.2)).map (fun d=>(d.1,w.1)) else []
theorem b6h (s:Sh)(id:Int)(l:List a8f)(en:List (a0o×Int)):a3x s id en l=(l.map (fun d=>(d.1,id))).foldl (a9a s) en:=by
 unfold a3x;rw[List.foldl_map];rfl
theorem b8w (s:Sh)(id:Int)(ps:List a0o)(en:List (a0o×Int))(t:Nat):a7o s id ps en t=(((List.range t).flatMap (a8j s ps)).map (fun d=>(d.1,id))).foldl (a9a s) en:=by
 induction t with
 |zero=>rfl
 |succ t ih =>
  rw[b0z,ih,b6h,List.range_succ,List.flatMap_append,List.map_append,List.foldl_append];simp
theorem a8k (s:Sh):∀(ws:List (Int×List a0o))(en:List (a0o×Int)),a4k s en ws=(ws.flatMap (d2c s)).foldl (a9a s) en
 |[],en=>rfl
 |w::ws,en=>by
  rw[List.flatMap_cons,List.foldl_append,←a8k s ws];unfold a4k;rw[List.foldl_cons];congr 1;unfold d2c;split
  ·rw[b8w]
  ·rfl
theorem a7p (en:List (a0o×Int))(p:a0o):a9n en p=(a5m en p).isSome:=by
 unfold a9n a5m;rw[Option.isSome_map,Bool.eq_iff_iff,List.find?_isSome,List.any_eq_true]
def c7x (id:Int):Option Int→Int
 |none=>id
 |some o=>if id<o then id else o
theorem b1a (s:Sh)(id:Int)(en:List (a0o×Int))(d q:a0o):a5m (c6q s id en d) q=if q=d∧onS s d.1 d.2=true then some (c7x id (a5m en d)) else a5m en q:=by
 unfold c6q;rw[a7p]
 cases hon:onS s d.1 d.2 with
 |false=>simp
 |true =>
  cases ho:a5m en d with
  |none =>
   simp only[Option.isSome_none,Bool.not_false,Bool.true_or,Bool.and_self,if_true,b3p,and_true,c7x]
  |some o =>
   simp only[Option.isSome_some,Bool.not_true,Bool.false_or,Bool.true_and,Option.getD_some,and_true,c7x,decide_eq_true_eq];split
   ·rw[b3p]
   ·split
    ·rename_i h;rw[h];exact ho
    ·rfl
def SameE (a b:List (a0o×Int)):Prop:=∀p,a5m a p=a5m b p
theorem SameE.put {s:Sh}{a b:List (a0o×Int)}(h:SameE a b)(c:a0o×Int):SameE (a9a s a c) (a9a s b c):=by
 intro q;unfold a9a;rw[b1a,b1a,h q,h c.1]
theorem a8l (s:Sh)(en:List (a0o×Int))(c:a0o×Int)(h:(en.map (·.1)).Nodup):((a9a s en c).map (·.1)).Nodup:=by
 unfold a9a c6q;split
 ·rw[a5n]
  split
  ·exact h
  ·rename_i hk
   rw[List.nodup_append];refine⟨h,by simp,fun a ha b hb=> ?_⟩;obtain rfl:b=c.1:=by simpa using hb
   exact fun e=>hk (a2i.2 (e▸ha))
 ·exact h
theorem a8m (s:Sh):∀(l:List (a0o×Int))(en:List (a0o×Int)),(en.map (·.1)).Nodup→((l.foldl (a9a s) en).map (·.1)).Nodup
 |[],_,h=>h
 |c::l,en,h=>a8m s l (a9a s en c) (a8l s en c h)
/-! ### how many entries there are -/
theorem b3x:∀(n:Nat)(l:List Nat),l.Nodup→(∀x∈l,x<n)→l.length≤n
 |0,l,_,h=>by
  match l,h with
  |[],_=>simp
  |x::_,h=>exact absurd (h x List.mem_cons_self) (by omega)
 |n+1,l,hn,h=>by
  by_cases hm:n∈l
  ·have h1:=b3x n (l.erase n) (hn.erase n) (fun x hx=>by
    have:=h x (List.mem_of_mem_erase hx);have hne:x≠n:=fun e=>by subst e;exact (List.Nodup.not_mem_erase hn) hx
    omega)
   have h2:=List.length_erase_of_mem hm;omega
  ·have h1:=b3x n l hn (fun x hx=>by
    have:=h x hx;have hne:x≠n:=fun e=>hm (e▸hx)
    omega)
   omega
theorem d0p (s:Sh)(en:List (a0o×Int))(c:a0o×Int)(h:∀p∈en.map (·.1),onS s p.1 p.2=true):∀p∈(a9a s en c).map (·.1),onS s p.1 p.2=true:=by
 intro p hp;unfold a9a c6q at hp;split at hp
 ·rename_i hc
  rw[a5n] at hp;split at hp
  ·exact h p hp
  ·rcases List.mem_append.1 hp with hp|hp
   ·exact h p hp
   ·obtain rfl:p=c.1:=by simpa using hp
    simp only[Bool.and_eq_true] at hc;exact hc.1
 ·exact h p hp
theorem b3y (s:Sh):∀(l:List (a0o×Int))(en:List (a0o×Int)),(∀p∈en.map (·.1),onS s p.1 p.2=true)→∀p∈(l.foldl (a9a s) en).map (·.1),onS s p.1 p.2=true
 |[],_,h=>h
 |c::l,en,h=>b3y s l (a9a s en c) (d0p s en c h)
theorem b6i {s:Sh}(hs:OkS s){en:List (a0o×Int)}(hn:(en.map (·.1)).Nodup)(h:∀p∈en.map (·.1),onS s p.1 p.2=true):en.length≤6480:=by
 have key:∀l:List a0o,l.Nodup→(∀p∈l,onS s p.1 p.2=true)→l.length≤6480:=by
  intro l hl hon;have h1:(l.map fun p=>p.1.toNat*81+p.2.toNat).Nodup:=by
   rw[List.nodup_iff_pairwise_ne,List.pairwise_map];have hl':∀ {a b:a0o},[a,b].Sublist l→a≠b:=List.pairwise_iff_forall_sublist.1 (List.nodup_iff_pairwise_ne.1 hl);refine List.pairwise_iff_forall_sublist.2 (fun {a b} hab e=> ?_);have ha:=a8g.1 (hon a (hab.subset (by simp)));have hb:=a8g.1 (hon b (hab.subset (by simp)));have w1:=hs.w1;have v1:=hs.h1;exact hl' hab (Prod.ext (by omega) (by omega))
  have h2:=b3x 6480 _ h1 (fun x hx=>by
   obtain⟨p,hp,rfl⟩:=List.mem_map.1 hx;have ha:=a8g.1 (hon p hp);have w1:=hs.w1;have v1:=hs.h1;omega)
  simpa using h2
 have:=key _ hn h;simpa using this
theorem a9b {s:Sh}(hs:OkS s)(ws:List (Int×List a0o)):(a4k s [] ws).length≤6480:=by
 rw[a8k];exact b6i hs (a8m _ _ _ (by simp)) (b3y _ _ _ (by simp))
/-! ### a move -/
/-! ### the entries of a way,and its dots -/
structure LineDots (s:Sh)(A B:a0o)(L:List Dt):Prop where
 len:L.length=(a4y A B+1).toNat
 on:∀k,(h:k<L.length)→onS s L[k].x L[k].y=true∧L[k].k=2∧L[k].i=4
 up:∀k,(h:k+1<L.length)→L[k].y<L[k+1].y∨(L[k].y=L[k+1].y∧L[k].x<L[k+1].x)
 first:∃k,∃h:k<L.length,L[k].x=A.1∧L[k].y=A.2
 last:∃k,∃h:k<L.length,L[k].x=B.1∧L[k].y=B.2
 near:∀k,(h:k<L.length)→1<L.length→a1x [L[k]] (L.take k++L.drop (k+1))=1
end
section
open Go.RowKit Go.Shelf Go.Maps
attribute [local go_sem] Oper.semAt_some
def Pts (n₀:Nat)(W:World)(sv:Value)(ps:List a0o):Prop :=
 ∃a cap,sv= .slice a ps.length cap∧∀j,(h:j<ps.length)→∃b off,a=some ⟨b,off,none⟩∧b<n₀∧W.cell? ⟨b,off+j*2,none⟩=some (.int .i64 ps[j].1)∧W.cell? ⟨b,off+j*2+1,none⟩=some (.int .i64 ps[j].2)
theorem Pts.below {n₀:Nat}{A B:World}(h:Below n₀ A B){sv:Value}{ps:List a0o}:Pts n₀ A sv ps→Pts n₀ B sv ps
 |⟨a,cap,e,f⟩=>⟨a,cap,e,fun j hj=>by
  obtain⟨b,off,h1,h2,h3,h4⟩:=f j hj;exact⟨b,off,h1,h2,(h.cell (p:=⟨b,off+j*2,none⟩) h2).trans h3,(h.cell (p:=⟨b,off+j*2+1,none⟩) h2).trans h4⟩⟩
theorem Pts.mono {n₀ n₁:Nat}(h:n₀≤n₁){W:World}{sv:Value}{ps:List a0o}:Pts n₀ W sv ps→Pts n₁ W sv ps
 |⟨a,cap,e,f⟩=>⟨a,cap,e,fun j hj=>by
  obtain⟨b,off,h1,h2,h3⟩:=f j hj;exact⟨b,off,h1,by omega,h3⟩⟩
structure Wy where
 id:Int
 line:List a0o
 lv:Value
 lvl:Int
 cls:ByteArray
 nm:ByteArray
 st:Bool
 wt:Int
 di:Int
abbrev Wy.cells (y:Wy):Array Value:= #[.int .i64 y.id,y.lv,.int .i64 y.lvl,.string y.cls,.string y.nm,.bool y.st,.int .i64 y.wt,.int .i64 y.di]
abbrev Wy.key (y:Wy):Int×List a0o:=(y.id,y.line)
structure WyAt (n₀:Nat)(W:World)(b o:Nat)(y:Wy):Prop where
 c0:W.cell? ⟨b,o,none⟩=some (.int .i64 y.id)
 c1:W.cell? ⟨b,o+1,none⟩=some y.lv
 c2:W.cell? ⟨b,o+2,none⟩=some (.int .i64 y.lvl)
 c3:W.cell? ⟨b,o+3,none⟩=some (.string y.cls)
 c4:W.cell? ⟨b,o+4,none⟩=some (.string y.nm)
 c5:W.cell? ⟨b,o+5,none⟩=some (.bool y.st)
 c6:W.cell? ⟨b,o+6,none⟩=some (.int .i64 y.wt)
 c7:W.cell? ⟨b,o+7,none⟩=some (.int .i64 y.di)
 pts:Pts n₀ W y.lv y.line
theorem WyAt.below {n₀:Nat}{A B:World}(h:Below n₀ A B){b o:Nat}{y:Wy}(hb:b<n₀)(r:WyAt n₀ A b o y):WyAt n₀ B b o y :=
 ⟨(h.cell (p:=⟨b,o,none⟩) hb).trans r.c0,(h.cell (p:=⟨b,o+1,none⟩) hb).trans r.c1,(h.cell (p:=⟨b,o+2,none⟩) hb).trans r.c2,(h.cell (p:=⟨b,o+3,none⟩) hb).trans r.c3,
  (h.cell (p:=⟨b,o+4,none⟩) hb).trans r.c4,(h.cell (p:=⟨b,o+5,none⟩) hb).trans r.c5,(h.cell (p:=⟨b,o+6,none⟩) hb).trans r.c6,(h.cell (p:=⟨b,o+7,none⟩) hb).trans r.c7,r.pts.below h⟩
def Wys (n₀:Nat)(W:World)(sv:Value)(ws:List Wy):Prop :=
 ∃a cap,sv= .slice a ws.length cap∧∀j,(h:j<ws.length)→∃b off,a=some ⟨b,off,none⟩∧b<n₀∧WyAt n₀ W b (off+j*8) ws[j]
theorem Wys.below {n₀:Nat}{A B:World}(h:Below n₀ A B){sv:Value}{ws:List Wy}:Wys n₀ A sv ws→Wys n₀ B sv ws
 |⟨a,cap,e,f⟩=>⟨a,cap,e,fun j hj=>by
  obtain⟨b,off,h1,h2,h3⟩:=f j hj;exact⟨b,off,h1,h2,h3.below h h2⟩⟩
theorem WyAt.mono {n₀ n₁:Nat}(h:n₀≤n₁){W:World}{b o:Nat}{y:Wy}(r:WyAt n₀ W b o y):WyAt n₁ W b o y:=⟨r.c0,r.c1,r.c2,r.c3,r.c4,r.c5,r.c6,r.c7,r.pts.mono h⟩
theorem Wys.mono {n₀ n₁:Nat}(h:n₀≤n₁){W:World}{sv:Value}{ws:List Wy}:Wys n₀ W sv ws→Wys n₁ W sv ws
 |⟨a,cap,e,f⟩=>⟨a,cap,e,fun j hj=>by
  obtain⟨b,off,h1,h2,h3⟩:=f j hj;exact⟨b,off,h1,by omega,h3.mono h⟩⟩
theorem Wys.up {n₀:Nat}{A B:World}{sv:Value}{ws:List Wy}(h:Wys n₀ A sv ws)(hb:Below n₀ A B)(hn:n₀≤B.heap.size):Wys B.heap.size B sv ws:=(h.below hb).mono hn
theorem b6j (lv:Value)(ps:List a0o)(n₀:Nat)(W:World)(h:Pts n₀ W lv ps)(hn:n₀≤W.heap.size)(hl:ps.length≤1000) :
 Calls prog 80 #[lv,.func (.func 81) #[] #[]] W fun e w'=>e= .returned (.bool (!a8z ps))∧Below W.heap.size W w':=by
 have e31:∀args w,(callFunc 81 args).run prog w= .ok (.enter 81 args) w:=enters_of func81 (by kernel_rfl) rfl;have hr:(ps.any fun x=> !a2b x.1 x.2)= !a8z ps:=by
  unfold a8z;rw[List.any_eq_not_all_not];simp
 obtain⟨a,cap,rfl,f⟩:=h;by_cases h0:ps=[]
 ·subst h0
  rw[←hr];simp only[List.any_nil];have hem:∀w,Calls prog 138 #[.slice a 0 cap,.func (.func 81) #[] #[]] w fun e w'=>e= .returned (.int .i64 (-1))∧w=w':=by
   intro w;go_enter func138,ntmps138;go_wp2_with fail;refine wp_loop_rounds 1 ?_;rw[rounds_succ];go_wp2_with fail;go_ret;exact⟨rfl,rfl⟩
  go_enter func80,ntmps80;go_wp2_with (go_at_call 138;refine (hem _).mono ?_;rintro e w'⟨rfl,rfl⟩);go_ret;exact⟨rfl,zR _ _⟩
 ·have hpos:0<ps.length:=List.length_pos_iff.2 h0
  obtain⟨b,off,rfl,hb,-⟩:=f 0 hpos;have h:=AnyQ.slices_ContainsFunc Go.Proofs.Tryz.pointsContains 2 isAgg26 sizeOf26 b2b (fun _=>rfl) (fun x=> !a2b x.1 x.2) 81 #[] e31 b off ps.length cap ps W
   (fun W' x hb=>(b0o x.1 x.2 W').mono fun _ _ ⟨he,hb2⟩=>⟨he,hb.trans (hb2.mono hb.size)⟩) (yR _) (by omega) (by omega) (fun j hj i v hi=>by
    obtain⟨b',off',e,-,c0,c1⟩:=f j hj;simp only[Option.some.injEq,Addr.mk.injEq,and_true] at e;obtain⟨rfl,rfl⟩:=e;rw[getElem!_pos ps j hj] at hi;match i,hi with
    |0,hi=>exact c0.trans hi
    |1,hi=>exact c1.trans hi
    |i+2,hi=>simp at hi)
  rw[List.take_length,hr] at h;exact h
def mark (D:Nat):Deferred:={ target:= .collected D,args:= #[] }
structure Marks (Bm:Nat)(ds:List Nat)(W:World):Prop where
 is:∀D∈ds,W.heap[D]? =some (.deferred (some []))
 high:∀D∈ds,Bm<D
 nd:ds.Nodup
theorem Marks.nil (Bm:Nat)(W:World):Marks Bm [] W:=⟨by simp,by simp,by simp⟩
theorem Marks.kept {Bm:Nat}{ds:List Nat}{W W':World}{row:Option Nat}(h:Marks Bm ds W)(hg:W.grownBy W' row)(hr:∀r,row=some r→r≤Bm∨W.heap.size≤r):Marks Bm ds W' :=
 ⟨fun D hD=>(hg.block D (Array.getElem?_eq_some_iff.1 (h.is D hD)).1 (fun e=>by
  have h1:=(Array.getElem?_eq_some_iff.1 (h.is D hD)).1;have h2:=h.high D hD;rcases hr D e.symm with h3|h3 <;> omega)).trans (h.is D hD),h.high,h.nd⟩
theorem Marks.cons {Bm D:Nat}{ds:List Nat}{W:World}(h:Marks Bm ds W)(hD:W.heap[D]? =some (.deferred (some [])))(h1:Bm<D)(h2:D∉ds):Marks Bm (D::ds) W :=
 ⟨fun E hE=>by rcases List.mem_cons.1 hE with rfl|hE;exact hD;exact h.is E hE,fun E hE=>by rcases List.mem_cons.1 hE with rfl|hE;exact h1;exact h.high E hE,List.nodup_cons.2 ⟨h2,h.nd⟩⟩
theorem a9c {F:Fence}{n:Nat}{P:Program}{fn:Func}{tmps:Array Value}{R:Ending→World→Prop}{Bm:Nat}(Pr:World→Prop)
 (hPr:∀W D,Pr W→Bm<D→W.heap[D]? =some (.deferred (some []))→Pr (W.putObj D (.deferred none))) (hend:∀W,Pr W→LeavesIn F n P fn tmps R [] .returning W) :
 ∀(ds:List Nat) (W:World),Marks Bm ds W→Pr W→LeavesInM F n P fn tmps R (ds.map mark) .returning W
 |[],W,_,hp=>hend W hp
 |D::ds,W,hm,hp=>by
  have hD:=hm.is D List.mem_cons_self;have hh:=hm.high D List.mem_cons_self;have hnd:=List.nodup_cons.1 hm.nd;refine⟨by simp,.inl ⟨D,_,rfl,run_takeDeferred hD,?_⟩⟩;refine a9c Pr hPr hend ds _ ⟨fun E hE=> ?_,fun E hE=>hm.high E (List.mem_cons_of_mem _ hE),hnd.2⟩ (hPr W D hp hh hD);exact (World.putObj_heap_other (o:= .deferred none) (w:=W) (show E≠D from fun e=>hnd.1 (e▸hE))).trans (hm.is E (List.mem_cons_of_mem _ hE))
end
section
open Go.RowKit Go.Shelf Go.Deep
structure InArea (s:Sh)(x y:Int):Prop where
 x0:s.ax≤x
 x1:x<s.ax+s.w*s.st
 y0:s.ay≤y
 y1:y<s.ay+s.h*s.st
theorem MadeS.prod {s:Sh}(h:MadeS s):(120≤s.w*s.st∧s.w*s.st≤680)∧(90≤s.h*s.st∧s.h*s.st≤510):=by
 have:=h.t0;have:=h.w0;have:=h.h0;have m1:=Int.mul_le_mul (a:=s.w) (b:=s.st) (c:=40) (d:=17) h.w1 h.t1 (by omega) (by omega);have m2:=Int.mul_le_mul (a:=s.h) (b:=s.st) (c:=30) (d:=17) h.h1 h.t1 (by omega) (by omega);have m3:=Int.mul_le_mul (a:=20) (b:=6) (c:=s.w) (d:=s.st) h.w0 h.t0 (by omega) (by omega);have m4:=Int.mul_le_mul (a:=15) (b:=6) (c:=s.h) (d:=s.st) h.h0 h.t0 (by omega) (by omega);exact⟨⟨m3,m1⟩,m4,m2⟩
theorem InArea.on {s:Sh}{x y:Int}(h:InArea s x y)(hm:MadeS s):onS s (c1q s x) (c1r s y)=true:=by
 have:=hm.t0;rw[a8g];unfold c1q c1r;refine⟨⟨Int.ediv_nonneg (by have:=h.x0;omega) (by omega),Int.ediv_lt_of_lt_mul (by omega) (by have:=h.x1;omega)⟩,Int.ediv_nonneg (by have:=h.y0;omega) (by omega),Int.ediv_lt_of_lt_mul (by omega) (by have:=h.y1;omega)⟩
theorem InArea.right {s:Sh}{x y:Int}(h:InArea s x y)(hm:MadeS s):a2b x y=true:=by
 obtain⟨⟨-,p1⟩,-,p2⟩:=hm.prod;obtain⟨x0,x1,y0,y1⟩:=h;obtain⟨a0,a1,b0,b1,-⟩:=hm;exact a3h.2 (by omega)
theorem InArea.of {s:Sh}{x y:Int}(h:InArea s x y)(hm:MadeS s):ofS s x y=(c1q s x,c1r s y,true):=by
 unfold ofS;rw[if_pos ⟨hm.check,h.right hm,h.on hm⟩]
theorem LineDots.pos {s:Sh}{A B:a0o}{L:List Dt}(h:LineDots s A B L):0<L.length:=by
 obtain⟨k,hk,-⟩:=h.first;omega
theorem Dts.take {n:Nat}{W:World}{b off cap:Nat}{l:List Dt}(h:Dts n W (.slice (some ⟨b,off,none⟩) l.length cap) l)(k c:Nat)(hk:k≤l.length):Dts n W (.slice (some ⟨b,off,none⟩) k c) (l.take k):=by
 rcases h with ⟨h1,-⟩|⟨b',off',cap',h1,hb,hl,hf,hc⟩
 ·simp at h1
 ·simp only[Value.slice.injEq,Option.some.injEq,Addr.mk.injEq,true_and,and_true] at h1
  obtain⟨⟨rfl,rfl⟩,rfl⟩:=h1;refine .inr ⟨b,off,c,by rw[List.length_take,Nat.min_eq_left hk],hb,by rw[List.length_take];omega,fun d hd=>hf d (List.mem_of_mem_take hd),fun j hj=> ?_⟩;rw[List.length_take] at hj;rw[List.getElem_take];exact hc j (by omega)
theorem Dts.drop {n:Nat}{W:World}{b off cap:Nat}{l:List Dt}(h:Dts n W (.slice (some ⟨b,off,none⟩) l.length cap) l)(k c o2 m:Nat)(hk:k≤l.length)(ho:o2=off+k*4∨k=l.length)(hm:m=l.length-k):Dts n W (.slice (some ⟨b,o2,none⟩) m c) (l.drop k):=by
 subst hm;rcases h with ⟨h1,-⟩|⟨b',off',cap',h1,hb,hl,hf,hc⟩
 ·simp at h1
 ·simp only[Value.slice.injEq,Option.some.injEq,Addr.mk.injEq,true_and,and_true] at h1
  obtain⟨⟨rfl,rfl⟩,rfl⟩:=h1;refine .inr ⟨b,o2,c,by rw[List.length_drop],hb,by rw[List.length_drop];omega,fun d hd=>hf d (List.mem_of_mem_drop hd),fun j hj=> ?_⟩;rw[List.length_drop] at hj;rcases ho with rfl|ho
  ·rw[List.getElem_drop]
   have:=hc (k+j) (by omega);rw[show off+k*4+j*4=off+(k+j)*4 from by omega];exact this
  ·omega
end
section
open Go.RowKit Go.Shelf Go.Sort Go.Lib Go.Maps
attribute [local go_sem] Oper.semAt_some
attribute [local go_sem ↓] Go.wp_at_zero Go.wp_at_succ
theorem b3z (fv:Value)(w:World):Calls prog 161 #[.slice none 0 0,fv] w fun e w'=>e= .returned (.tuple #[])∧w'=w:=by
 have h:=AnyF.slices_SortFunc_none Go.Proofs.Tryz.sortSpot none 0 fv w;exact h
theorem b1b (Bm b nn:Nat)(w:World)(hBm:Bm<w.heap.size)(hm:w.cell? ⟨Bm,0,none⟩=some (.map (some b)))(hM:MapIs w b nn [])(hnn:nn≤4294967296) :
 Calls prog 123 #[.func (.func 162) #[] #[.pointer (some ⟨Bm,0,none⟩)],.func (.func 125) #[] #[]] w fun e w'=>e= .returned (.slice none 0 0)∧Below w.heap.size w w':=by
 have eg:∀args w,(callFunc 162 args).run prog w= .ok (.enter 162 args) w:=enters_of func162 (by kernel_rfl) rfl;have hcol:=(callsIn_wide (n:=3)).1 (b2n _ 3 trivial trivial rfl (yR _) 162 #[.pointer (some ⟨Bm,0,none⟩)] trivial eg _ _ nn hnn w (b2m _ 1 trivial rfl (yR _) Bm b nn [] w hBm hm hM));go_enter func123,ntmps123;go_wp2_with (go_at_call 160;refine hcol.mono ?_;rintro e w1⟨v,ss,rfl,⟨hs1,hs2⟩,hrow,hnl,hb1⟩;obtain rfl:v= .slice none 0 0:=hnl.2 (List.eq_nil_iff_forall_not_mem.2 (fun p hp=>by simpa using (hs2 p).1 hp)));clear hcol;go_wp2_with (go_at_call 161;refine (b3z _ _).mono ?_;rintro e w2⟨rfl,rfl⟩);go_ret;exact⟨rfl,hb1⟩
theorem b6k (kind:Int)(b nn:Nat)(w:World)(hM:MapIs w b nn [])(hnn:nn≤4294967296) :
 Calls prog 68 #[.map (some b),.int .i64 kind] w fun e w'=>e= .returned (.slice none 0 0)∧Below w.heap.size w w':=by
 have hkeys:=fun mb W=>(callsIn_wide (n:=1)).1 (c3s _ 1 trivial rfl mb W)
 have hsf:=b1b w.heap.size b nn (w.alloc (.cells #[.map (some b)] 117)) (by simp) (by simp) (hM.alloc _) hnn;simp only[World.size_alloc] at hsf;go_enter func68,ntmps68;go_wp2_with (first|(go_at_call 124;refine (hkeys _ _).mono ?_;rintro e w1⟨rfl,rfl⟩)|(go_at_call 123;refine hsf.mono ?_;rintro e w2⟨rfl,hb2⟩));have hB2:RowKit.Below w.heap.size w w2:=Below.trans (b:=w.alloc (.cells #[.map (some b)] 117)) (by repeat' (first|with_reducible (first|exact zR _ _|exact yR _|assumption|refine zG ?_ ?_ _|refine zA ?_ ?_ _|refine zS ?_ ?_ _|refine zD ?_|refine yA ?_|refine yG ?_|refine yS ?_|refine yD ?_)|omega|(dsimp only;omega))) (hb2.mono (by repeat' (first|with_reducible (first|exact zR _ _|exact yR _|assumption|refine zG ?_ ?_ _|refine zA ?_ ?_ _|refine zS ?_ ?_ _|refine zD ?_|refine yA ?_|refine yG ?_|refine yS ?_|refine yD ?_)|omega|(dsimp only;omega))));refine wp_loop_rounds 1 ?_;rw[rounds_succ];go_wp2_with fail;go_ret;exact⟨rfl,hB2⟩
theorem b8x (kind:Int)(b nn:Nat)(en:List (a0o×Int))(w:World)(hM:MapIs w b nn en)(hnn:nn≤4294967296)(hlen:en.length≤8388608) :
 Calls prog 68 #[.map (some b),.int .i64 kind] w fun e w'=>∃v base,e= .returned v∧w.heap.size≤base∧w'.ownsRow base 54 4 v (a1u kind en).length ((a1u kind en).flatMap a7l)∧RowKit.Below w.heap.size w w':=by
 by_cases hne:en=[]
 ·subst hne
  refine (b6k kind b nn w hM hnn).mono ?_;rintro e w'⟨rfl,hb⟩;have hl:(a1u kind []).length=0:=a4f _ _;have h0:a1u kind []=[]:=List.eq_nil_of_length_eq_zero hl;rw[h0];exact⟨_,w'.heap.size,rfl,hb.size,⟨by simp,.inl ⟨rfl,rfl⟩⟩,hb⟩
 ·exact b0m kind b nn en w hM hnn hne hlen
end
section
open Go.RowKit Go.Shelf
attribute [local go_sem] Oper.semAt_some
attribute [local go_sem ↓] Go.wp_at_zero Go.wp_at_succ
theorem Lst.one {n0:Nat}{W:World}{v:Value}{l:List Int}(h:Lst inE n0 W v l){k:Nat}(hk:k<l.length):∃b off c x,v= .slice (some ⟨b,off,none⟩) l.length c∧l[k]? =some x∧W.cell? ⟨b,off+k,none⟩=some (.int .i64 x):=by
 obtain⟨b,off,c,e,h1,h2,h3⟩:=h.some_ (by omega);refine⟨b,off,c,l[k],e,List.getElem?_eq_getElem hk,?_⟩;have:=h3 k hk 0 (by decide);simpa using this
end
end Go.Proofs.YtfocdbjceedagaaGreatDoor
