/-
  Parts.
-/
import Derived.Test.YtfocdbjceedagaaGreatDoorXal
set_option linter.unusedVariables false
set_option linter.unusedSimpArgs false
set_option maxHeartbeats 2000000
set_option maxRecDepth 100000
namespace Go.Proofs.YtfocdbjceedagaaGreatDoor
open Tryz
section
open Go Go.RowKit Go.Shelf
attribute [local go_sem] Oper.semAt_some
theorem b6j (s:ByteArray)(pos:Nat)(h:pos<s.size)(ha:¬(s[pos]'h).toNat<128):128≤(Utf8.decode s pos).1:=by
 have e:s.get! (pos+0)=s[pos]'h:=by
  show s.get! pos=_;simp[ByteArray.get!,getElem!_pos,h];rfl
 unfold Utf8.decode;simp only[e];rw[if_neg ha];have hr:128≤Utf8.runeError:=by decide
 repeat' split
 all_goals first|exact hr|(simp only[ge_iff_le,decide_eq_true_eq,Bool.and_eq_true] at *;omega)
theorem b2f {P:Program}(w:World)(s:ByteArray)(pos:Nat)(ty:TypeId)(h:pos<s.size) :
 (Instr.next (.pointer (some ⟨w.heap.size,0,none⟩)) true ty).run P (w.iter s pos) =
  .ok (.tuple #[.bool true,.int .i64 pos,.int .i32 (Utf8.decode s pos).1]) (w.iter s (pos+(Utf8.decode s pos).2)):=by
 simp only[Instr.next,getObj,setObj,Sem.run_bind,Sem.run,World.iter_heap,Result.andThen,h,if_true,World.iter_set];simp[goInt,Sem.run,World.iter_heap,World.iter_set]
def okB (c:UInt8):Bool:=decide (32≤c.toNat)&&decide (c.toNat≤126)&&decide (c.toNat≠34)
def a6p (s:ByteArray):Bool:=s.data.toList.all okB
theorem b6k {s:ByteArray}(h:a6p s=true)(i:Nat)(hi:i<s.size):okB (s[i]'hi)=true:=by
 unfold a6p at h;rw[List.all_eq_true] at h;exact h _ (Array.mem_toList_iff.2 (Array.getElem_mem hi))
theorem c4t {s:ByteArray}(h:∀i (hi:i<s.size),okB (s[i]'hi)=true):a6p s=true:=by
 unfold a6p;rw[List.all_eq_true];intro c hc;obtain⟨i,hi,rfl⟩:=List.getElem_of_mem hc;exact h i (by simpa using hi)
theorem b6l {s:ByteArray}(i:Nat)(hi:i<s.size)(h:okB (s[i]'hi)=false):a6p s=false:=by
 cases hr:a6p s with
 |false=>rfl
 |true=>rw[b6k hr i hi] at h;cases h
theorem b6m (s:ByteArray)(hl:s.size≤1000000)(w:World):Calls prog 113 #[.string s] w fun e w'=>e= .returned (.bool (a6p s))∧Below w.heap.size w w':=by
 obtain⟨r,hr⟩:∃r,a6p s=r:=⟨_,rfl⟩;rw[hr];go_enter func113,ntmps113;go_wp2_with fail;go_loopw [7] (fun _ W=>∃n:Nat,n≤s.size∧W=w.iter s n∧∀i (hi:i<n) (hs:i<s.size),okB (s[i]'hs)=true) (fun _ W=>a9y w.heap.size s W)
 case atStart=>exact⟨0,Nat.zero_le _,rfl,fun i hi=>absurd hi (Nat.not_lt_zero _)⟩
 case round =>
  obtain⟨n,hn,rfl,hok⟩:=hrel;have hokH:=Lib.hid hok;clear hok;by_cases hlt:n<s.size
  ·by_cases ha:(s[n]'hlt).toNat<128
   ·have hr':∀ty,(Instr.next (.pointer (some ⟨w.heap.size,0,none⟩)) true ty).run prog (w.iter s n)= .ok (.tuple #[.bool true,.int .i64 n,.int .i32 (s[n]'hlt).toNat]) (w.iter s (n+1)):=fun ty=>run_next_ascii w s n ty hlt ha
    obtain⟨u,hu⟩:∃u,s[n]'hlt=u:=⟨_,rfl⟩;obtain⟨c,hc⟩:∃c,u.toNat=c:=⟨_,rfl⟩;rw[hu,hc] at hr';rw[hu,hc] at ha;by_cases hk:okB u=true
    ·have hk2:=hk
     unfold okB at hk2;rw[hc] at hk2;simp only[Bool.and_eq_true,decide_eq_true_eq] at hk2;obtain⟨⟨q0,q1⟩,q2⟩:=hk2;have k0:¬(c:Int)<32:=by omega
     have k1:¬(126:Int)<c:=by omega
     have k2:¬(c:Int)=34:=by omega
     have hnext:Hid (∀i (hi:i<n+1) (hs:i<s.size),okB (s[i]'hs)=true):=fun i hi hs=>by
      by_cases h9:i=n
      ·subst h9;rw[hu];exact hk
      ·exact hokH.out i (by omega) hs
     clear hk hc hu q0 q1 q2;go_wp2_with fail;go_roundw
     case rel=>exact⟨n+1,by omega,rfl,hnext.out⟩
     case measure=>rw[a4z,a4z];omega
    ·have hno:=b6l n hlt (by rw[hu];simpa using hk)
     rw[hr] at hno;subst hno;have hk2:c<32∨126<c∨c=34:=by
      unfold okB at hk;rw[hc] at hk;simp only[Bool.and_eq_true,decide_eq_true_eq,not_and] at hk;omega
     clear hk hc hu hr;rcases hk2 with h9|h9|h9
     ·have k0:(c:Int)<32:=by omega
      go_wp2_with fail;go_ret;exact⟨rfl,(zR _ _).alloc (yR _) _⟩
     ·have k0:¬(c:Int)<32:=by omega
      have k1:(126:Int)<c:=by omega
      go_wp2_with fail;go_ret;exact⟨rfl,(zR _ _).alloc (yR _) _⟩
     ·subst h9
      go_wp2_with fail;go_ret;exact⟨rfl,(zR _ _).alloc (yR _) _⟩
   ·have hr':∀ty,(Instr.next (.pointer (some ⟨w.heap.size,0,none⟩)) true ty).run prog (w.iter s n)= .ok (.tuple #[.bool true,.int .i64 n,.int .i32 (Utf8.decode s n).1]) (w.iter s (n+(Utf8.decode s n).2)):=fun ty=>b2f w s n ty hlt
    have hd:=b6j s n hlt ha;have hno:=b6l n hlt (by unfold okB;rw[Bool.and_eq_false_iff,Bool.and_eq_false_iff];exact .inl (.inr (decide_eq_false (by omega))));rw[hr] at hno;subst hno;obtain⟨c,hc⟩:∃c,(Utf8.decode s n).1=c:=⟨_,rfl⟩;rw[hc] at hr' hd;have k0:¬(c:Int)<32:=by omega
    have k1:(126:Int)<c:=by omega
    clear hc hr ha hd;go_wp2_with fail;go_ret;exact⟨rfl,(zR _ _).alloc (yR _) _⟩
  ·obtain rfl:n=s.size:=by omega
   have hr':∀ty,(Instr.next (.pointer (some ⟨w.heap.size,0,none⟩)) true ty).run prog (w.iter s s.size)= .ok (.tuple #[.bool false]) (w.iter s s.size):=fun ty=>run_next_end w s s.size ty (by omega)
   have hyes:=c4t (s:=s) fun i hi=>hokH.out i hi hi
   rw[hr] at hyes;subst hyes;clear hr;go_wp2_with fail;go_ret;exact⟨rfl,(zR _ _).alloc (yR _) _⟩
end
section
open Go.RowKit Go.Shelf
attribute [local go_sem] Oper.semAt_some
def d0f (c n:Nat):Bool:=c / 2 ^ n % 2==1
theorem d3u (w:World):Calls prog 66 #[.int .u8 60] w fun e w'=>e= .returned (.agg #[.bool false,.bool false,.bool true,.bool true,.bool true,.bool true])∧Below w.heap.size w w':=by
 have q0:bits BinOp.and IntKind.u8 60 1=0:=by decide +kernel
 have q1:bits BinOp.and IntKind.u8 60 2=0:=by decide +kernel
 have q2:bits BinOp.and IntKind.u8 60 4=4:=by decide +kernel
 have q3:bits BinOp.and IntKind.u8 60 8=8:=by decide +kernel
 have q4:bits BinOp.and IntKind.u8 60 16=16:=by decide +kernel
 have q5:bits BinOp.and IntKind.u8 60 32=32:=by decide +kernel
 go_enter func66,ntmps66;go_wp2_with fail;refine wp_loop_rounds 7 ?_;rw[rounds_succ];go_wp2_with fail;rw[rounds_succ];go_wp2_with fail;rw[rounds_succ];go_wp2_with fail;rw[rounds_succ];go_wp2_with fail;rw[rounds_succ];go_wp2_with fail;rw[rounds_succ];go_wp2_with fail;rw[rounds_succ];go_wp2_with fail;exact bodyPost_ret (v:= .agg #[.bool false,.bool false,.bool true,.bool true,.bool true,.bool true]) (by simp[results,results66,go_sem]) rfl ⟨rfl,zC⟩
theorem d3v (w:World):Calls prog 66 #[.int .u8 26] w fun e w'=>e= .returned (.agg #[.bool false,.bool true,.bool false,.bool true,.bool true,.bool false])∧Below w.heap.size w w':=by
 have q0:bits BinOp.and IntKind.u8 26 1=0:=by decide +kernel
 have q1:bits BinOp.and IntKind.u8 26 2=2:=by decide +kernel
 have q2:bits BinOp.and IntKind.u8 26 4=0:=by decide +kernel
 have q3:bits BinOp.and IntKind.u8 26 8=8:=by decide +kernel
 have q4:bits BinOp.and IntKind.u8 26 16=16:=by decide +kernel
 have q5:bits BinOp.and IntKind.u8 26 32=0:=by decide +kernel
 go_enter func66,ntmps66;go_wp2_with fail;refine wp_loop_rounds 7 ?_;rw[rounds_succ];go_wp2_with fail;rw[rounds_succ];go_wp2_with fail;rw[rounds_succ];go_wp2_with fail;rw[rounds_succ];go_wp2_with fail;rw[rounds_succ];go_wp2_with fail;rw[rounds_succ];go_wp2_with fail;rw[rounds_succ];go_wp2_with fail;exact bodyPost_ret (v:= .agg #[.bool false,.bool true,.bool false,.bool true,.bool true,.bool false]) (by simp[results,results66,go_sem]) rfl ⟨rfl,zC⟩
theorem d4x (w:World):Calls prog 66 #[.int .u8 1] w fun e w'=>e= .returned (.agg #[.bool true,.bool false,.bool false,.bool false,.bool false,.bool false])∧Below w.heap.size w w':=by
 have q0:bits BinOp.and IntKind.u8 1 1=1:=by decide +kernel
 have q1:bits BinOp.and IntKind.u8 1 2=0:=by decide +kernel
 have q2:bits BinOp.and IntKind.u8 1 4=0:=by decide +kernel
 have q3:bits BinOp.and IntKind.u8 1 8=0:=by decide +kernel
 have q4:bits BinOp.and IntKind.u8 1 16=0:=by decide +kernel
 have q5:bits BinOp.and IntKind.u8 1 32=0:=by decide +kernel
 go_enter func66,ntmps66;go_wp2_with fail;refine wp_loop_rounds 7 ?_;rw[rounds_succ];go_wp2_with fail;rw[rounds_succ];go_wp2_with fail;rw[rounds_succ];go_wp2_with fail;rw[rounds_succ];go_wp2_with fail;rw[rounds_succ];go_wp2_with fail;rw[rounds_succ];go_wp2_with fail;rw[rounds_succ];go_wp2_with fail;exact bodyPost_ret (v:= .agg #[.bool true,.bool false,.bool false,.bool false,.bool false,.bool false]) (by simp[results,results66,go_sem]) rfl ⟨rfl,zC⟩
theorem d4y (w:World):Calls prog 66 #[.int .u8 3] w fun e w'=>e= .returned (.agg #[.bool true,.bool true,.bool false,.bool false,.bool false,.bool false])∧Below w.heap.size w w':=by
 have q0:bits BinOp.and IntKind.u8 3 1=1:=by decide +kernel
 have q1:bits BinOp.and IntKind.u8 3 2=2:=by decide +kernel
 have q2:bits BinOp.and IntKind.u8 3 4=0:=by decide +kernel
 have q3:bits BinOp.and IntKind.u8 3 8=0:=by decide +kernel
 have q4:bits BinOp.and IntKind.u8 3 16=0:=by decide +kernel
 have q5:bits BinOp.and IntKind.u8 3 32=0:=by decide +kernel
 go_enter func66,ntmps66;go_wp2_with fail;refine wp_loop_rounds 7 ?_;rw[rounds_succ];go_wp2_with fail;rw[rounds_succ];go_wp2_with fail;rw[rounds_succ];go_wp2_with fail;rw[rounds_succ];go_wp2_with fail;rw[rounds_succ];go_wp2_with fail;rw[rounds_succ];go_wp2_with fail;rw[rounds_succ];go_wp2_with fail;exact bodyPost_ret (v:= .agg #[.bool true,.bool true,.bool false,.bool false,.bool false,.bool false]) (by simp[results,results66,go_sem]) rfl ⟨rfl,zC⟩
theorem d4z (w:World):Calls prog 66 #[.int .u8 9] w fun e w'=>e= .returned (.agg #[.bool true,.bool false,.bool false,.bool true,.bool false,.bool false])∧Below w.heap.size w w':=by
 have q0:bits BinOp.and IntKind.u8 9 1=1:=by decide +kernel
 have q1:bits BinOp.and IntKind.u8 9 2=0:=by decide +kernel
 have q2:bits BinOp.and IntKind.u8 9 4=0:=by decide +kernel
 have q3:bits BinOp.and IntKind.u8 9 8=8:=by decide +kernel
 have q4:bits BinOp.and IntKind.u8 9 16=0:=by decide +kernel
 have q5:bits BinOp.and IntKind.u8 9 32=0:=by decide +kernel
 go_enter func66,ntmps66;go_wp2_with fail;refine wp_loop_rounds 7 ?_;rw[rounds_succ];go_wp2_with fail;rw[rounds_succ];go_wp2_with fail;rw[rounds_succ];go_wp2_with fail;rw[rounds_succ];go_wp2_with fail;rw[rounds_succ];go_wp2_with fail;rw[rounds_succ];go_wp2_with fail;rw[rounds_succ];go_wp2_with fail;exact bodyPost_ret (v:= .agg #[.bool true,.bool false,.bool false,.bool true,.bool false,.bool false]) (by simp[results,results66,go_sem]) rfl ⟨rfl,zC⟩
theorem d3w (w:World):Calls prog 66 #[.int .u8 25] w fun e w'=>e= .returned (.agg #[.bool true,.bool false,.bool false,.bool true,.bool true,.bool false])∧Below w.heap.size w w':=by
 have q0:bits BinOp.and IntKind.u8 25 1=1:=by decide +kernel
 have q1:bits BinOp.and IntKind.u8 25 2=0:=by decide +kernel
 have q2:bits BinOp.and IntKind.u8 25 4=0:=by decide +kernel
 have q3:bits BinOp.and IntKind.u8 25 8=8:=by decide +kernel
 have q4:bits BinOp.and IntKind.u8 25 16=16:=by decide +kernel
 have q5:bits BinOp.and IntKind.u8 25 32=0:=by decide +kernel
 go_enter func66,ntmps66;go_wp2_with fail;refine wp_loop_rounds 7 ?_;rw[rounds_succ];go_wp2_with fail;rw[rounds_succ];go_wp2_with fail;rw[rounds_succ];go_wp2_with fail;rw[rounds_succ];go_wp2_with fail;rw[rounds_succ];go_wp2_with fail;rw[rounds_succ];go_wp2_with fail;rw[rounds_succ];go_wp2_with fail;exact bodyPost_ret (v:= .agg #[.bool true,.bool false,.bool false,.bool true,.bool true,.bool false]) (by simp[results,results66,go_sem]) rfl ⟨rfl,zC⟩
theorem d3x (w:World):Calls prog 66 #[.int .u8 17] w fun e w'=>e= .returned (.agg #[.bool true,.bool false,.bool false,.bool false,.bool true,.bool false])∧Below w.heap.size w w':=by
 have q0:bits BinOp.and IntKind.u8 17 1=1:=by decide +kernel
 have q1:bits BinOp.and IntKind.u8 17 2=0:=by decide +kernel
 have q2:bits BinOp.and IntKind.u8 17 4=0:=by decide +kernel
 have q3:bits BinOp.and IntKind.u8 17 8=0:=by decide +kernel
 have q4:bits BinOp.and IntKind.u8 17 16=16:=by decide +kernel
 have q5:bits BinOp.and IntKind.u8 17 32=0:=by decide +kernel
 go_enter func66,ntmps66;go_wp2_with fail;refine wp_loop_rounds 7 ?_;rw[rounds_succ];go_wp2_with fail;rw[rounds_succ];go_wp2_with fail;rw[rounds_succ];go_wp2_with fail;rw[rounds_succ];go_wp2_with fail;rw[rounds_succ];go_wp2_with fail;rw[rounds_succ];go_wp2_with fail;rw[rounds_succ];go_wp2_with fail;exact bodyPost_ret (v:= .agg #[.bool true,.bool false,.bool false,.bool false,.bool true,.bool false]) (by simp[results,results66,go_sem]) rfl ⟨rfl,zC⟩
theorem d3y (w:World):Calls prog 66 #[.int .u8 11] w fun e w'=>e= .returned (.agg #[.bool true,.bool true,.bool false,.bool true,.bool false,.bool false])∧Below w.heap.size w w':=by
 have q0:bits BinOp.and IntKind.u8 11 1=1:=by decide +kernel
 have q1:bits BinOp.and IntKind.u8 11 2=2:=by decide +kernel
 have q2:bits BinOp.and IntKind.u8 11 4=0:=by decide +kernel
 have q3:bits BinOp.and IntKind.u8 11 8=8:=by decide +kernel
 have q4:bits BinOp.and IntKind.u8 11 16=0:=by decide +kernel
 have q5:bits BinOp.and IntKind.u8 11 32=0:=by decide +kernel
 go_enter func66,ntmps66;go_wp2_with fail;refine wp_loop_rounds 7 ?_;rw[rounds_succ];go_wp2_with fail;rw[rounds_succ];go_wp2_with fail;rw[rounds_succ];go_wp2_with fail;rw[rounds_succ];go_wp2_with fail;rw[rounds_succ];go_wp2_with fail;rw[rounds_succ];go_wp2_with fail;rw[rounds_succ];go_wp2_with fail;exact bodyPost_ret (v:= .agg #[.bool true,.bool true,.bool false,.bool true,.bool false,.bool false]) (by simp[results,results66,go_sem]) rfl ⟨rfl,zC⟩
theorem d3z (w:World):Calls prog 66 #[.int .u8 27] w fun e w'=>e= .returned (.agg #[.bool true,.bool true,.bool false,.bool true,.bool true,.bool false])∧Below w.heap.size w w':=by
 have q0:bits BinOp.and IntKind.u8 27 1=1:=by decide +kernel
 have q1:bits BinOp.and IntKind.u8 27 2=2:=by decide +kernel
 have q2:bits BinOp.and IntKind.u8 27 4=0:=by decide +kernel
 have q3:bits BinOp.and IntKind.u8 27 8=8:=by decide +kernel
 have q4:bits BinOp.and IntKind.u8 27 16=16:=by decide +kernel
 have q5:bits BinOp.and IntKind.u8 27 32=0:=by decide +kernel
 go_enter func66,ntmps66;go_wp2_with fail;refine wp_loop_rounds 7 ?_;rw[rounds_succ];go_wp2_with fail;rw[rounds_succ];go_wp2_with fail;rw[rounds_succ];go_wp2_with fail;rw[rounds_succ];go_wp2_with fail;rw[rounds_succ];go_wp2_with fail;rw[rounds_succ];go_wp2_with fail;rw[rounds_succ];go_wp2_with fail;exact bodyPost_ret (v:= .agg #[.bool true,.bool true,.bool false,.bool true,.bool true,.bool false]) (by simp[results,results66,go_sem]) rfl ⟨rfl,zC⟩
theorem d4a (w:World):Calls prog 66 #[.int .u8 19] w fun e w'=>e= .returned (.agg #[.bool true,.bool true,.bool false,.bool false,.bool true,.bool false])∧Below w.heap.size w w':=by
 have q0:bits BinOp.and IntKind.u8 19 1=1:=by decide +kernel
 have q1:bits BinOp.and IntKind.u8 19 2=2:=by decide +kernel
 have q2:bits BinOp.and IntKind.u8 19 4=0:=by decide +kernel
 have q3:bits BinOp.and IntKind.u8 19 8=0:=by decide +kernel
 have q4:bits BinOp.and IntKind.u8 19 16=16:=by decide +kernel
 have q5:bits BinOp.and IntKind.u8 19 32=0:=by decide +kernel
 go_enter func66,ntmps66;go_wp2_with fail;refine wp_loop_rounds 7 ?_;rw[rounds_succ];go_wp2_with fail;rw[rounds_succ];go_wp2_with fail;rw[rounds_succ];go_wp2_with fail;rw[rounds_succ];go_wp2_with fail;rw[rounds_succ];go_wp2_with fail;rw[rounds_succ];go_wp2_with fail;rw[rounds_succ];go_wp2_with fail;exact bodyPost_ret (v:= .agg #[.bool true,.bool true,.bool false,.bool false,.bool true,.bool false]) (by simp[results,results66,go_sem]) rfl ⟨rfl,zC⟩
theorem d4b (w:World):Calls prog 66 #[.int .u8 10] w fun e w'=>e= .returned (.agg #[.bool false,.bool true,.bool false,.bool true,.bool false,.bool false])∧Below w.heap.size w w':=by
 have q0:bits BinOp.and IntKind.u8 10 1=0:=by decide +kernel
 have q1:bits BinOp.and IntKind.u8 10 2=2:=by decide +kernel
 have q2:bits BinOp.and IntKind.u8 10 4=0:=by decide +kernel
 have q3:bits BinOp.and IntKind.u8 10 8=8:=by decide +kernel
 have q4:bits BinOp.and IntKind.u8 10 16=0:=by decide +kernel
 have q5:bits BinOp.and IntKind.u8 10 32=0:=by decide +kernel
 go_enter func66,ntmps66;go_wp2_with fail;refine wp_loop_rounds 7 ?_;rw[rounds_succ];go_wp2_with fail;rw[rounds_succ];go_wp2_with fail;rw[rounds_succ];go_wp2_with fail;rw[rounds_succ];go_wp2_with fail;rw[rounds_succ];go_wp2_with fail;rw[rounds_succ];go_wp2_with fail;rw[rounds_succ];go_wp2_with fail;exact bodyPost_ret (v:= .agg #[.bool false,.bool true,.bool false,.bool true,.bool false,.bool false]) (by simp[results,results66,go_sem]) rfl ⟨rfl,zC⟩
theorem d2m (c:Nat)(h:c=60∨c=26∨c=1∨c=3∨c=9∨c=25∨c=17∨c=11∨c=27∨c=19∨c=10)(w:World):Calls prog 66 #[.int .u8 c] w fun e w'=>e= .returned (.agg #[.bool (d0f c 0),.bool (d0f c 1),.bool (d0f c 2),.bool (d0f c 3),.bool (d0f c 4),.bool (d0f c 5)])∧Below w.heap.size w w':=by
 rcases h with rfl|rfl|rfl|rfl|rfl|rfl|rfl|rfl|rfl|rfl|rfl
 ·exact d3u w
 ·exact d3v w
 ·exact d4x w
 ·exact d4y w
 ·exact d4z w
 ·exact d3w w
 ·exact d3x w
 ·exact d3y w
 ·exact d3z w
 ·exact d4a w
 ·exact d4b w
end
end Go.Proofs.YtfocdbjceedagaaGreatDoor
