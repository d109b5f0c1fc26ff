/-
  Chapter 29: braille.Write at a text of digits.
  Chapter 29: hachureref28 at texts of digits; hachureref29.symbol, decimal.
  Chapter 29: hachureref28.contraction, cells at texts of digits.
  Chapter 29: hachureref28.cells, Write at texts of digits.
-/
import Derived.Test.YtjfdbigkbgolmaaGreatDoorZg
import Derived.Test.YtjfdbigkbgolmaaGreatDoorZo
import Derived.Test.YtjfdbigkbgolmaaGreatDoorZe
import Derived.Test.YtjfdbigkbgolmaaGreatDoorZX
import Derived.Laws.RangeString
namespace Go.Proofs.YtjfdbigkbgolmaaGreatDoor
set_option linter.unusedVariables false
set_option linter.unusedSimpArgs false
open Go.RowKit Go.Shelf
attribute [local go_sem] Oper.semAt_some

/-- a text of digits -/
def Digs (s : ByteArray) : Prop := ∀ i (h : i < s.size), 48 ≤ (s[i]).toNat ∧ (s[i]).toNat ≤ 57

def iterLeft (b : Nat) (s : ByteArray) (w : World) : Nat := match w.heap[b]? with | some (.stringIter _ p) => s.size - p | _ => 0
theorem iterLeft_is (w : World) (s : ByteArray) (n : Nat) : iterLeft w.heap.size s (w.iter s n) = s.size - n := by
  unfold iterLeft
  rw [World.iter_heap]

set_option maxRecDepth 100000 in
set_option maxHeartbeats 2000000 in
theorem right_digs (s : ByteArray) (hd : Digs s) (hl : s.size ≤ 1000000) (w : World) : Calls Tryz.prog 69 #[.string s] w fun e w' => e = .returned (.bool true) ∧ Below w.heap.size w w' := by
  go_enter Tryz.func69, Tryz.ntmps69
  go_wp2_with fail
  go_loopw [7] (fun _ W => ∃ n : Nat, n ≤ s.size ∧ W = w.iter s n) (fun _ W => iterLeft w.heap.size s W)
  case atStart => exact ⟨0, Nat.zero_le _, rfl⟩
  case round =>
    obtain ⟨n, hn, rfl⟩ := hrel
    by_cases hlt : n < s.size
    · obtain ⟨h0, h1⟩ := hd n hlt
      have hr : ∀ ty, (Instr.next (.pointer (some ⟨w.heap.size, 0, none⟩)) true ty).run Tryz.prog (w.iter s n) = .ok (.tuple #[.bool true, .int .i64 n, .int .i32 (s[n]'hlt).toNat]) (w.iter s (n + 1)) := fun ty => run_next_ascii w s n ty hlt (by omega)
      obtain ⟨c, hc⟩ : ∃ c, (s[n]'hlt).toNat = c := ⟨_, rfl⟩
      rw [hc] at h0 h1 hr
      clear hc hd
      have k0 : ¬ (c : Int) < 32 := by omega
      have k1 : ¬ (126 : Int) < c := by omega
      have k2 : ¬ (c : Int) = 34 := by omega
      go_wp2_with fail
      go_roundw
      case rel => exact ⟨n + 1, by omega, rfl⟩
      case measure => rw [iterLeft_is, iterLeft_is]; omega
    · obtain rfl : n = s.size := by omega
      have hr : ∀ ty, (Instr.next (.pointer (some ⟨w.heap.size, 0, none⟩)) true ty).run Tryz.prog (w.iter s s.size) = .ok (.tuple #[.bool false]) (w.iter s s.size) := fun ty => run_next_end w s s.size ty (by omega)
      go_wp2_with fail
      go_ret
      exact ⟨rfl, (Below.refl _ _).alloc (Nat.le_refl _) _⟩

/-- no word begins with a digit -/
theorem words_no (l : List UInt8) (c : UInt8) (r : List UInt8) (h : l = c :: r) (hc : c.toNat ≤ 57) : ∀ x ∈ wordsL, Lib.hasPrefix l x.data.toList = false := by
  subst h
  have h2 : ∀ a : UInt8, 97 ≤ a.toNat → (a == c) = false := fun a ha => by
    rw [beq_eq_false_iff_ne]
    intro e
    subst e
    omega
  intro x hx
  simp only [wordsL, List.mem_cons, List.not_mem_nil, or_false] at hx
  rcases hx with rfl | rfl | rfl | rfl | rfl | rfl | rfl | rfl | rfl | rfl | rfl <;>
  · unfold Lib.hasPrefix
    simp only [List.isPrefixOf_cons_cons]
    rw [h2 _ (by decide)]
    rfl

set_option maxRecDepth 100000 in
set_option maxHeartbeats 2000000 in
theorem write1_digs (x s : ByteArray) (k : Nat) (sb kb : Nat) (w : World) (hk0 : k < s.size) (hl : s.size ≤ 1000000) (hs : w.cell? ⟨sb, 0, none⟩ = some (.string s)) (hk : w.cell? ⟨kb, 0, none⟩ = some (.int .i64 k)) :
    Calls Tryz.prog 72 #[.string x, .pointer (some ⟨sb, 0, none⟩), .pointer (some ⟨kb, 0, none⟩)] w fun e w' => e = .returned (.bool (Lib.hasPrefix ((s.data.toList.drop k).take (s.size - k)) x.data.toList)) ∧ w' = w := by
  go_enter Tryz.func72, Tryz.ntmps72
  go_wp2_with (go_at_call 73; refine (Tryz.strings_HasPrefix _ _ _).mono ?_; rintro e w' ⟨rfl, rfl⟩)
  go_ret
  exact ⟨rfl, rfl⟩

theorem digs_head (s : ByteArray) (k : Nat) (h : k < s.size) : ∃ r, (s.data.toList.drop k).take (s.size - k) = s[k] :: r := by
  have h2 : k < s.data.toList.length := by simpa using h
  rw [List.drop_eq_getElem_cons h2, show s.size - k = (s.size - k - 1) + 1 from by omega, List.take_succ_cons]
  exact ⟨_, rfl⟩

/-- no word stands where a digit stands -/
theorem index_digs (s : ByteArray) (k sb kb : Nat) (w : World) (hd : Digs s) (hk0 : k < s.size) (hl : s.size ≤ 1000000) (hs : w.cell? ⟨sb, 0, none⟩ = some (.string s)) (hk : w.cell? ⟨kb, 0, none⟩ = some (.int .i64 k)) :
    Calls Tryz.prog 70 #[.slice (some ⟨w.heap.size, 0, none⟩) 11 11, .func (.func 72) #[] #[.pointer (some ⟨sb, 0, none⟩), .pointer (some ⟨kb, 0, none⟩)]] (w.alloc (.cells wordsC 9)) fun e w' => e = .returned (.int .i64 (-1)) ∧ ∃ q, w' = (w.alloc (.cells wordsC 9)).drewN q := by
  have hc : ∀ j, j < wordsL.length → (w.alloc (.cells wordsC 9)).cell? ⟨w.heap.size, 0 + j, none⟩ = some (Value.string wordsL[j]!) := by
    intro j hj
    refine (cell_of_block (heap_alloc_last w _) (0 + j)).trans ?_
    match j, hj with
    | 0, _ => rfl
    | 1, _ => rfl
    | 2, _ => rfl
    | 3, _ => rfl
    | 4, _ => rfl
    | 5, _ => rfl
    | 6, _ => rfl
    | 7, _ => rfl
    | 8, _ => rfl
    | 9, _ => rfl
    | 10, _ => rfl
    | j + 11, h => exact absurd h (by simp [wordsL])
  have hp : PredAt Tryz.prog 72 #[.pointer (some ⟨sb, 0, none⟩), .pointer (some ⟨kb, 0, none⟩)] Value.string (fun x => Lib.hasPrefix ((s.data.toList.drop k).take (s.size - k)) x.data.toList) (w.alloc (.cells wordsC 9)) := by
    intro W x hb
    have lt1 : sb < w.heap.size := World.block_lt_of_cell? _ _ hs
    have lt2 : kb < w.heap.size := World.block_lt_of_cell? _ _ hk
    refine (write1_digs x s k sb kb W hk0 hl ?_ ?_).mono ?_
    · rw [hb.cell (p := ⟨sb, 0, none⟩) (by rw [World.size_alloc]; simp only; omega), World.cell?_alloc_lt w _ _ lt1]; exact hs
    · rw [hb.cell (p := ⟨kb, 0, none⟩) (by rw [World.size_alloc]; simp only; omega), World.cell?_alloc_lt w _ _ lt2]; exact hk
    · rintro e w' ⟨rfl, rfl⟩
      exact ⟨rfl, 0, rfl⟩
  refine (Tryz.slices_IndexFunc_f70 Value.string (fun x => Lib.hasPrefix ((s.data.toList.drop k).take (s.size - k)) x.data.toList) 72 _ (enters_of Tryz.func72 (by kernel_rfl) rfl) w.heap.size 0 11 11 wordsL _ hp (by decide) (by decide) hc).mono ?_
  rintro e w' ⟨rfl, h⟩
  refine ⟨?_, h⟩
  obtain ⟨r, hr⟩ := digs_head s k hk0
  have h2 : Lib.idxBy (fun _ y => Lib.hasPrefix ((s.data.toList.drop k).take (s.size - k)) y.data.toList) (wordsL.take 11) default = -1 := idx_none _ 0 (fun x hx => words_no _ _ _ hr (hd k hk0).2 x (List.mem_of_mem_take hx))
  rw [h2]

theorem sign_digs (c : Int) (h0 : 48 ≤ c) (h1 : c ≤ 57) (w : World) : Calls Tryz.prog 75 #[.string ⟨#[32, 44, 39, 45, 46]⟩, .int .u8 c] w fun e w' => e = .returned (.int .i64 (-1)) ∧ w' = w := by
  refine (Tryz.strings_IndexByte _ _ _).mono ?_
  rintro e w' ⟨rfl, rfl⟩
  have : ∀ n : Nat, n < 10 → Lib.indexByte (⟨#[32, 44, 39, 45, 46]⟩ : ByteArray).data.toList ((48 + (n : Int)).toNat.toUInt8) = -1 := by decide +kernel
  have h2 := this (c - 48).toNat (by omega)
  rw [show 48 + (((c - 48).toNat : Nat) : Int) = c from by omega] at h2
  exact ⟨by rw [h2], rfl⟩

/-- the letter's cell for a digit -/
def letB (c : Nat) : Nat := match c with | 48 => 26 | 49 => 1 | 50 => 3 | 51 => 9 | 52 => 25 | 53 => 17 | 54 => 11 | 55 => 27 | 56 => 19 | _ => 10
def lettersB : ByteArray := ⟨#[1, 3, 9, 25, 17, 11, 27, 19, 10, 26, 5, 7, 13, 29, 21, 15, 31, 23, 14, 30, 37, 39, 58, 45, 61, 53]⟩
theorem letB_at (n : Nat) (h : n < 10) : lettersB.data[((n + 9) % 10)]? = some ((letB (48 + n)).toUInt8) := by
  match n, h with
  | 0, _ => rfl
  | 1, _ => rfl
  | 2, _ => rfl
  | 3, _ => rfl
  | 4, _ => rfl
  | 5, _ => rfl
  | 6, _ => rfl
  | 7, _ => rfl
  | 8, _ => rfl
  | 9, _ => rfl
/-- what is written of a text's first bytes -/
def outB (s : ByteArray) : Nat → List UInt8
  | 0 => []
  | n + 1 => (if n = 0 then [60] else outB s n) ++ [(letB (s[n]!).toNat).toUInt8]
theorem outB_len (s : ByteArray) : ∀ n, (outB s n).length ≤ n + 1
  | 0 => Nat.zero_le _
  | n + 1 => by
    unfold outB
    have := outB_len s n
    split <;> simp <;> omega

theorem wrap_in9 {x : Int} (h0 : -9223372036854775808 ≤ x) (h1 : x ≤ 9223372036854775807) : IntKind.i64.wrap x = x := by
  simp [IntKind.wrap, IntKind.bits, IntKind.signed]
  omega
theorem letters_at (c : Nat) (h0 : 48 ≤ c) (h1 : c ≤ 57) (hh : (((c : Int) - 48 + 9) % 10).toNat < lettersB.size) : ((lettersB[(((c : Int) - 48 + 9) % 10).toNat]'hh).toNat : Int) = (letB c : Nat) := by
  rcases (show c = 48 ∨ c = 49 ∨ c = 50 ∨ c = 51 ∨ c = 52 ∨ c = 53 ∨ c = 54 ∨ c = 55 ∨ c = 56 ∨ c = 57 from by omega) with rfl | rfl | rfl | rfl | rfl | rfl | rfl | rfl | rfl | rfl <;> rfl
theorem letB_lt (c : Nat) : letB c < 256 := by
  unfold letB
  split <;> omega
theorem BW.byteN {B sb b kb : Nat} {s : ByteArray} {k : Int} {l : List UInt8} {w0 w : World} (h : BW B sb b kb s k l w0 w) (c : Nat) (hc : c < 256) (hl : l.length + 1 ≤ 140737488355328) :
    Calls Tryz.prog 54 #[.pointer (some ⟨b, 0, none⟩), .int .u8 c] w fun e w' => e = .returned .nilIface ∧ BW B sb b kb s k (l ++ [c.toUInt8]) w0 w' :=
  h.byte' c.toUInt8 c (by simp; omega) hl
def kOf (v : Value) (W : World) : Nat := match v with | .pointer (some a) => (match W.cell? a with | some x => (intOf x).toNat | none => 0) | _ => 0
theorem BW.kOf {B sb b kb : Nat} {s : ByteArray} {k : Int} {l : List UInt8} {w0 w : World} (h : BW B sb b kb s k l w0 w) : kOf (.pointer (some ⟨kb, 0, none⟩)) w = k.toNat := by
  unfold Go.Proofs.YtjfdbigkbgolmaaGreatDoor.kOf
  simp only [h.ck, intOf]

set_option maxRecDepth 100000 in
set_option maxHeartbeats 4000000 in
theorem write_digs (s : ByteArray) (hd : Digs s) (hl : s.size ≤ 1000) (w : World) : Calls Tryz.prog 30 #[.string s] w fun e w' => e = .returned (.tuple #[.string ⟨(outB s s.size).toArray⟩, .int .i64 0]) ∧ Below w.heap.size w w' := by
  go_enter Tryz.func30, Tryz.ntmps30
  go_wp2_with (first
    | (go_at_call 69; refine (right_digs s hd (by omega) _).mono ?_; rintro e w' ⟨rfl, hb_⟩; obtain ⟨p, rfl⟩ := grow_of_below hb_; clear hb_)
    | fail)
  have hB := BW.start w s p
  obtain ⟨W, hW⟩ : ∃ W, ((((w.alloc (.cells #[.string s] 9)).growBy p).alloc (.cells #[.pointer none, .slice none 0 0] 113)).alloc (.cells #[.int .i64 0] 3)) = W := ⟨_, rfl⟩
  obtain ⟨b, hb⟩ : ∃ b, w.heap.size + 1 + p.objs.size = b := ⟨_, rfl⟩
  rw [hW] at hB ⊢
  rw [hb] at hB ⊢
  obtain ⟨kb, hkb⟩ : ∃ kb, b + 1 = kb := ⟨_, rfl⟩
  obtain ⟨sb, hsb⟩ : ∃ sb, w.heap.size = sb := ⟨_, rfl⟩
  rw [hkb] at hB ⊢
  rw [hsb] at hB ⊢
  replace hsb := Lib.hid hsb
  clear hkb hb hW
  go_loopw [5] (fun v wr => ∃ (n kb : Nat), v = .pointer (some ⟨kb, 0, none⟩) ∧ n ≤ s.size ∧ BW sb sb b kb s n (outB s n) w wr) (fun v wr => s.size - kOf v wr)
  case atStart => exact ⟨0, kb, rfl, Nat.zero_le _, hB⟩
  case round =>
    clear hB
    obtain ⟨n, kb, rfl, hn, hB⟩ := hrel
    have hcs := hB.cs
    have hck := hB.ck
    have hfk := hB.fk
    have hkn := Lib.hid (hB.kOf)
    have hol := outB_len s n
    by_cases hlt : n < s.size
    · have hltI : (n : Int) < (s.size : Int) := by omega
      obtain ⟨d0, d1⟩ := hd n hlt
      have hout : outB s (n + 1) = (if n = 0 then [60] else outB s n) ++ [(letB (s[n]'hlt).toNat).toUInt8] := by
        show (if n = 0 then [60] else outB s n) ++ [(letB (s[n]!).toNat).toUInt8] = _
        rw [getElem!_pos s n hlt]
      have hix := index_digs s n sb kb
      obtain ⟨c, hc⟩ : ∃ c, (s[n]'hlt).toNat = c := ⟨_, rfl⟩
      rw [hc] at d0 d1 hout
      have hlz : (lettersB.size : Int) = 26 := rfl
      have hla := letters_at c d0 d1
      have hlb := letB_lt c
      by_cases hn0 : n = 0
      · subst hn0
        simp only [if_true] at hout
        replace hout := Lib.hid hout
        have h60 : ∀ q, Calls Tryz.prog 54 #[.pointer (some ⟨b, 0, none⟩), .int .u8 60] ((wr.alloc (.cells wordsC 9)).drewN q) fun e w' => e = .returned .nilIface ∧ BW sb sb b kb s 0 ([] ++ [60]) w w' := fun q => ((hB.alloc _).drewN q).byte' 60 60 rfl (by omega)
        clear hB
        go_wp2_with (first
          | (refine wpList_index_as (by rfl) 9 _ _ (by rfl) s .i64 0 (by rfl) (by rfl) Tryz.underlying9 c (by omega) (by omega) (by rw [← hc]; rfl) ?_)
          | (refine wpList_index_as (by rfl) 9 _ _ (by rfl) lettersB .u8 (((c : Int) - 48 + 9) % 10) (by rfl) (by rfl) Tryz.underlying9 (letB c : Nat) (by omega) (by omega) (hla _) ?_)
          | (go_at_call 71; refine (words_any _).mono ?_; rintro e w' ⟨rfl, rfl⟩)
          | (go_at_call 70; refine (hix _ hd hlt (by omega) hcs hck).mono ?_; rintro e w' ⟨rfl, q, rfl⟩)
          | (go_at_call 75; refine (sign_digs c (by omega) (by omega) _).mono ?_; rintro e w' ⟨rfl, rfl⟩)
          | (go_at_call 74; refine (digit_any c true (by simp; omega) _).mono ?_; rintro e w' ⟨rfl, rfl⟩)
          | (go_at_call 54; with_reducible refine (h60 q).mono ?_; rintro e w1 ⟨rfl, hB1⟩; have cs1 := hB1.cs; have ck1 := hB1.ck; have fk1 := hB1.fk)
          | (go_at_call 54; with_reducible refine (hB1.byteN (letB c) hlb (by simp)).mono ?_; rintro e w2 ⟨rfl, hB2⟩; have cs2 := hB2.cs; have ck2 := hB2.ck; have fk2 := hB2.fk)
          | fail)
        refine ⟨⟨1, w2.heap.size, rfl, by omega, ?_⟩, ?_⟩
        · rw [hout.out]
          exact hB2.newk 1
        · rw [(hB2.newk 1).kOf, hkn.out]
          simp
          omega
      · have hn1 : 0 < (n : Int) := by omega
        have hn2 : ¬ (n : Int) ≤ 0 := by omega
        obtain ⟨e0, e1⟩ := hd (n - 1) (by omega)
        have hw0 : IntKind.i64.wrap ((n : Int) - 1) = (n : Int) - 1 := wrap_in9 (by omega) (by omega)
        have hw1 : IntKind.i64.wrap ((n : Int) + 1) = (n : Int) + 1 := wrap_in9 (by omega) (by omega)
        rw [if_neg hn0] at hout
        replace hout := Lib.hid hout
        have hlt1 : ∀ q, Calls Tryz.prog 54 #[.pointer (some ⟨b, 0, none⟩), .int .u8 (letB c : Nat)] ((wr.alloc (.cells wordsC 9)).drewN q) fun e w' => e = .returned .nilIface ∧ BW sb sb b kb s n (outB s n ++ [(letB c).toUInt8]) w w' := fun q => ((hB.alloc _).drewN q).byteN (letB c) hlb (by omega)
        clear hB
        go_wp2_with (first
          | (refine wpList_index_as (by rfl) 9 _ _ (by rfl) s .i64 (n : Nat) (by rfl) (by rfl) Tryz.underlying9 c (by omega) (by omega) (by rw [← hc]; rfl) ?_)
          | (refine wpList_index_as (by rfl) 9 _ _ (by rfl) lettersB .u8 (((c : Int) - 48 + 9) % 10) (by rfl) (by rfl) Tryz.underlying9 (letB c : Nat) (by omega) (by omega) (hla _) ?_)
          | (go_at_call 71; refine (words_any _).mono ?_; rintro e w' ⟨rfl, rfl⟩)
          | (go_at_call 70; refine (hix _ hd hlt (by omega) hcs hck).mono ?_; rintro e w' ⟨rfl, q, rfl⟩)
          | (go_at_call 75; refine (sign_digs c (by omega) (by omega) _).mono ?_; rintro e w' ⟨rfl, rfl⟩)
          | (go_at_call 74; with_reducible refine (digit_any c true (by simp; omega) _).mono ?_; rintro e w' ⟨rfl, rfl⟩)
          | (go_at_call 74; with_reducible refine (digit_any _ true (by simp; omega) _).mono ?_; rintro e w' ⟨rfl, rfl⟩)
          | (go_at_call 54; with_reducible refine (hlt1 q).mono ?_; rintro e w2 ⟨rfl, hB2⟩; have cs2 := hB2.cs; have ck2 := hB2.ck; have fk2 := hB2.fk)
          | fail)
        refine ⟨⟨n + 1, w2.heap.size, rfl, by omega, ?_⟩, ?_⟩
        · rw [hout.out]
          exact hB2.newk _
        · rw [(hB2.newk _).kOf, hkn.out]
          simp
          omega
    · obtain rfl : n = s.size := by omega
      go_wp2_with (first
        | (go_at_call 55; refine (Tryz.Builder_String_any_k sb b (outB s s.size) _ hB.bld hB.le).mono ?_; rintro e w3 ⟨rfl, hI3, hb3, ho3⟩)
        | fail)
      go_ret2
      exact ⟨rfl, by rw [hsb.out]; exact hB.below.trans hb3⟩
end Go.Proofs.YtjfdbigkbgolmaaGreatDoor
namespace Go.Proofs.YtjfdbigkbgolmaaGreatDoor
set_option linter.unusedVariables false
set_option linter.unusedSimpArgs false
open Go.RowKit Go.Shelf
attribute [local go_sem] Oper.semAt_some

theorem digit28_any (c : Int) (b : Bool) (hb : (decide (48 ≤ c) && decide (c ≤ 57)) = b) (w : World) : Calls Tryz.prog 110 #[.int .u8 c] w fun e w' => e = .returned (.bool b) ∧ w = w' := by
  by_cases h0 : 48 ≤ c
  · by_cases h1 : c ≤ 57
    · have : b = true := by rw [← hb]; simp [h0, h1]
      subst this
      clear hb
      go_enter Tryz.func110, Tryz.ntmps110
      go_wp2_with fail
      go_ret
      exact ⟨rfl, rfl⟩
    · have : b = false := by rw [← hb]; simp [h1]
      subst this
      clear hb
      go_enter Tryz.func110, Tryz.ntmps110
      go_wp2_with fail
      go_ret
      exact ⟨rfl, rfl⟩
  · have : b = false := by rw [← hb]; simp [h0]
    subst this
    clear hb
    go_enter Tryz.func110, Tryz.ntmps110
    go_wp2_with fail
    go_ret
    exact ⟨rfl, rfl⟩

def letC : Array Value := #[.int .i64 1, .int .i64 3, .int .i64 9, .int .i64 25, .int .i64 17, .int .i64 11, .int .i64 27, .int .i64 19, .int .i64 10, .int .i64 26, .int .i64 5, .int .i64 7, .int .i64 13, .int .i64 29, .int .i64 21, .int .i64 15, .int .i64 31, .int .i64 23, .int .i64 14, .int .i64 30, .int .i64 37, .int .i64 39, .int .i64 58, .int .i64 45, .int .i64 61, .int .i64 53]
set_option maxRecDepth 100000 in
theorem letters28_any (w : World) : Calls Tryz.prog 111 #[] w fun e w' => e = .returned (.slice (some ⟨w.heap.size, 0, none⟩) 26 26) ∧ w' = w.alloc (.cells letC 3) := by
  go_enter Tryz.func111, Tryz.ntmps111
  go_wp2_with fail
  go_ret
  exact ⟨rfl, rfl⟩
set_option maxRecDepth 100000 in
theorem words28_any (w : World) : Calls Tryz.prog 85 #[] w fun e w' => e = .returned (.slice (some ⟨w.heap.size, 0, none⟩) 11 11) ∧ w' = w.alloc (.cells wordsC 9) := by
  go_enter Tryz.func85, Tryz.ntmps85
  go_wp2_with fail
  go_ret
  exact ⟨rfl, rfl⟩

set_option maxRecDepth 100000 in
set_option maxHeartbeats 2000000 in
theorem right28_digs (s : ByteArray) (hd : Digs s) (hl : s.size ≤ 1000) (w : World) : Calls Tryz.prog 82 #[.string s] w fun e w' => e = .returned (.bool true) ∧ Below w.heap.size w w' := by
  go_enter Tryz.func82, Tryz.ntmps82
  go_wp2_with fail
  go_loop [3] (fun k => ∃ n : Nat, n ≤ s.size ∧ k = .int .i64 n) (fun k => s.size - (intOf k).toNat)
  case atStart => exact ⟨0, Nat.zero_le _, rfl⟩
  case round =>
    obtain ⟨n, hn, rfl⟩ := hrel
    by_cases hlt : n < s.size
    · obtain ⟨h0, h1⟩ := hd n hlt
      obtain ⟨c, hc⟩ : ∃ c, (s[n]'hlt).toNat = c := ⟨_, rfl⟩
      rw [hc] at h0 h1
      have k0 : ¬ (c : Int) < 32 := by omega
      have k1 : ¬ (126 : Int) < c := by omega
      have k2 : ¬ (c : Int) = 34 := by omega
      have hltI : (n : Int) < (s.size : Int) := by omega
      go_wp2_with (first | (refine wpList_index_as (by rfl) 9 _ _ (by rfl) s .i64 (n : Nat) (by rfl) (by rfl) Tryz.underlying9 c (by omega) (by omega) (by rw [← hc]; rfl) ?_) | fail)
      go_round
      case rel => exact ⟨n + 1, by omega, by go_num⟩
      case measure => simp [intOf]; omega
    · go_wp2_with fail
      go_ret
      exact ⟨rfl, (by repeat' (first | with_reducible exact Below.refl _ _ | with_reducible exact Nat.le_refl _ | with_reducible assumption | with_reducible refine Go.below_growBy' ?_ ?_ _ | with_reducible refine Below.alloc ?_ ?_ _ | with_reducible refine Below.setCell ?_ ?_ _ | with_reducible refine Below.drew ?_ | with_reducible refine Go.le_alloc ?_ | with_reducible refine Go.le_growBy ?_ | with_reducible refine Go.le_setCell ?_ | with_reducible refine Go.le_drew ?_ | omega | (dsimp only; omega)))⟩
end Go.Proofs.YtjfdbigkbgolmaaGreatDoor
namespace Go.Proofs.YtjfdbigkbgolmaaGreatDoor
set_option linter.unusedVariables false
set_option linter.unusedSimpArgs false
open Go.RowKit Go.Shelf
attribute [local go_sem] Oper.semAt_some

theorem word_no (t : ByteArray) (h0 : 0 < t.size) (hc : (t[0]'h0).toNat ≤ 57) (x : ByteArray) (hx : x ∈ wordsL) : ¬ t.extract 0 x.size = x := by
  intro h
  have hz : 0 < x.size ∧ ∀ hh : 0 < x.size, 97 ≤ (x[0]'hh).toNat := by
    simp only [wordsL, List.mem_cons, List.not_mem_nil, or_false] at hx
    rcases hx with rfl | rfl | rfl | rfl | rfl | rfl | rfl | rfl | rfl | rfl | rfl <;> exact ⟨by decide, by decide⟩
  have h2 := hz.2 hz.1
  have h3 : (x[0]'hz.1) = t[0]'h0 := by
    have h4 : ∀ (y : ByteArray) (hy : y = x) (hh : 0 < y.size), (y[0]'hh) = x[0]'hz.1 := by intro y hy hh; subst hy; rfl
    have h5 := h4 _ h (by rw [h]; exact hz.1)
    rw [← h5, ByteArray.getElem_extract]
  rw [h3] at h2
  omega
theorem bytes_ne {a b : ByteArray} (h : ¬ a = b) : (a.toList == b.toList) = false := by
  rw [beq_eq_false_iff_ne, ByteArray.toList_eq, ByteArray.toList_eq]
  intro e
  exact h (ByteArray.ext (Array.toList_inj.1 e))
theorem word_mem (n : Nat) (h : n < 11) : wordsL[n]! ∈ wordsL ∧ (wordsL[n]!).size ≤ 4 := by
  match n, h with
  | 0, _ => exact ⟨by simp [wordsL], by decide⟩
  | 1, _ => exact ⟨by simp [wordsL], by decide⟩
  | 2, _ => exact ⟨by simp [wordsL], by decide⟩
  | 3, _ => exact ⟨by simp [wordsL], by decide⟩
  | 4, _ => exact ⟨by simp [wordsL], by decide⟩
  | 5, _ => exact ⟨by simp [wordsL], by decide⟩
  | 6, _ => exact ⟨by simp [wordsL], by decide⟩
  | 7, _ => exact ⟨by simp [wordsL], by decide⟩
  | 8, _ => exact ⟨by simp [wordsL], by decide⟩
  | 9, _ => exact ⟨by simp [wordsL], by decide⟩
  | 10, _ => exact ⟨by simp [wordsL], by decide⟩
theorem words_cell (w : World) (j : Nat) (hj : j < 11) : (w.alloc (.cells wordsC 9)).cell? ⟨w.heap.size, j, none⟩ = some (Value.string wordsL[j]!) := by
  refine (cell_of_block (heap_alloc_last w _) j).trans ?_
  match j, hj with
  | 0, _ => rfl
  | 1, _ => rfl
  | 2, _ => rfl
  | 3, _ => rfl
  | 4, _ => rfl
  | 5, _ => rfl
  | 6, _ => rfl
  | 7, _ => rfl
  | 8, _ => rfl
  | 9, _ => rfl
  | 10, _ => rfl

set_option maxRecDepth 100000 in
set_option maxHeartbeats 2000000 in
theorem contr28_digs (t : ByteArray) (h0 : 0 < t.size) (hc : (t[0]'h0).toNat ≤ 57) (hl : t.size ≤ 1000) (w : World) : Calls Tryz.prog 83 #[.string t] w fun e w' => e = .returned (.int .i64 (-1)) ∧ Below w.heap.size w w' := by
  have hno := word_no t h0 hc
  clear hc
  go_enter Tryz.func83, Tryz.ntmps83
  go_wp2_with (first | (go_at_call 85; refine (words28_any _).mono ?_; rintro e w' ⟨rfl, rfl⟩) | fail)
  have hcell := words_cell w
  have hb : Below w.heap.size w (w.alloc (.cells wordsC 9)) := (by repeat' (first | with_reducible exact Below.refl _ _ | with_reducible exact Nat.le_refl _ | with_reducible assumption | with_reducible refine Go.below_growBy' ?_ ?_ _ | with_reducible refine Below.alloc ?_ ?_ _ | with_reducible refine Below.setCell ?_ ?_ _ | with_reducible refine Below.drew ?_ | with_reducible refine Go.le_alloc ?_ | with_reducible refine Go.le_growBy ?_ | with_reducible refine Go.le_setCell ?_ | with_reducible refine Go.le_drew ?_ | omega | (dsimp only; omega)))
  obtain ⟨W, hW⟩ : ∃ W, w.alloc (.cells wordsC 9) = W := ⟨_, rfl⟩
  rw [hW] at hcell hb ⊢
  clear hW
  obtain ⟨B, hB⟩ : ∃ B, w.heap.size = B := ⟨_, rfl⟩
  rw [hB] at hcell ⊢
  replace hB := Lib.hid hB
  go_loopw [4] (fun k W => ∃ n : Nat, n ≤ 11 ∧ k = .int .i64 n ∧ (∀ j, j < 11 → W.cell? ⟨B, j, none⟩ = some (Value.string wordsL[j]!)) ∧ Below w.heap.size w W) (fun k _ => 11 - (intOf k).toNat)
  case atStart => exact ⟨0, by omega, rfl, hcell, hb⟩
  case round =>
    clear hcell hb
    obtain ⟨n, hn, rfl, hcell, hb⟩ := hrel
    have hcH := Lib.hid hcell
    by_cases hlt : n < 11
    · have hc1 := hcell n hlt
      obtain ⟨hm, hs4⟩ := word_mem n hlt
      have hx := bytes_ne (hno _ hm)
      obtain ⟨x, hxe⟩ : ∃ x, wordsL[n]! = x := ⟨_, rfl⟩
      rw [hxe] at hc1 hx hs4
      clear hcell hno hm hxe
      have hltI : (n : Int) < 11 := by omega
      by_cases hge : x.size ≤ t.size
      · go_wp2_with fail
        go_quiet (fail)
        go_wp2_with fail
        go_roundw
        case rel => exact ⟨n + 1, by omega, by go_num, hcH.out, drewN_below hb _⟩
        case measure => simp [intOf]; omega
      · go_wp2_with fail
        go_quiet (fail)
        go_wp2_with fail
        go_roundw
        case rel => exact ⟨n + 1, by omega, by go_num, hcH.out, drewN_below hb _⟩
        case measure => simp [intOf]; omega
    · obtain rfl : n = 11 := by omega
      clear hcell
      go_wp2_with fail
      go_ret
      exact ⟨rfl, hb⟩
end Go.Proofs.YtjfdbigkbgolmaaGreatDoor
namespace Go.Proofs.YtjfdbigkbgolmaaGreatDoor
set_option linter.unusedVariables false
set_option linter.unusedSimpArgs false
open Go.RowKit Go.Shelf
attribute [local go_sem] Oper.semAt_some

@[local simp] theorem l0 : letC[0]? = some (.int .i64 1) := rfl
@[local simp] theorem l1 : letC[1]? = some (.int .i64 3) := rfl
@[local simp] theorem l2 : letC[2]? = some (.int .i64 9) := rfl
@[local simp] theorem l3 : letC[3]? = some (.int .i64 25) := rfl
@[local simp] theorem l4 : letC[4]? = some (.int .i64 17) := rfl
@[local simp] theorem l5 : letC[5]? = some (.int .i64 11) := rfl
@[local simp] theorem l6 : letC[6]? = some (.int .i64 27) := rfl
@[local simp] theorem l7 : letC[7]? = some (.int .i64 19) := rfl
@[local simp] theorem l8 : letC[8]? = some (.int .i64 10) := rfl
@[local simp] theorem l9 : letC[9]? = some (.int .i64 26) := rfl
attribute [local go_sem] l0 l1 l2 l3 l4 l5 l6 l7 l8 l9

theorem blk_new2 (w : World) (cs : Array Value) : Blk ((w.alloc (.cells letC 3)).alloc (.cells cs 3)) (w.heap.size + 1) cs 3 := by
  have h := Blk.new (w.alloc (.cells letC 3)) cs 3
  rw [World.size_alloc] at h
  exact h
set_option maxRecDepth 100000 in
set_option maxHeartbeats 4000000 in
theorem cells28_zero (s : ByteArray) (h0 : 0 < s.size) (c : Nat) (hc : (s[0]'h0).toNat = c) (c0 : 48 ≤ c) (c1 : c ≤ 57) (hl : s.size ≤ 1000) (w : World) :
    Calls Tryz.prog 86 #[.string s, .int .i64 0] w fun e w' => ∃ B, e = .returned (.slice (some ⟨B, 0, none⟩) 2 2) ∧ Below w.heap.size w w' ∧ Blk w' B #[.int .i64 60, .int .i64 (letB c : Nat)] 3 := by
  have hlt : (0 : Int) < (s.size : Int) := by omega
  rcases (show c = 48 ∨ c = 49 ∨ c = 50 ∨ c = 51 ∨ c = 52 ∨ c = 53 ∨ c = 54 ∨ c = 55 ∨ c = 56 ∨ c = 57 from by omega) with rfl | rfl | rfl | rfl | rfl | rfl | rfl | rfl | rfl | rfl <;>
  · go_enter Tryz.func86, Tryz.ntmps86
    go_wp2_with (first
      | (refine wpList_index_as (by rfl) 9 _ _ (by rfl) s .i64 0 (by rfl) (by rfl) Tryz.underlying9 _ (by omega) (by omega) (by rw [← hc]; rfl) ?_)
      | (go_at_call 111; refine (letters28_any _).mono ?_; rintro e w' ⟨rfl, rfl⟩)
      | (go_at_call 110; refine (digit28_any _ true (by decide) _).mono ?_; rintro e w' ⟨rfl, rfl⟩)
      | fail)
    go_ret
    exact ⟨_, rfl, (by repeat' (first | with_reducible exact Below.refl _ _ | with_reducible exact Nat.le_refl _ | with_reducible assumption | with_reducible refine Go.below_growBy' ?_ ?_ _ | with_reducible refine Below.alloc ?_ ?_ _ | with_reducible refine Below.setCell ?_ ?_ _ | with_reducible refine Below.drew ?_ | with_reducible refine Go.le_alloc ?_ | with_reducible refine Go.le_growBy ?_ | with_reducible refine Go.le_setCell ?_ | with_reducible refine Go.le_drew ?_ | omega | (dsimp only; omega))), blk_new2 _ _⟩

set_option maxRecDepth 100000 in
set_option maxHeartbeats 4000000 in
theorem cells28_pos (s : ByteArray) (n : Nat) (hn0 : 0 < n) (h0 : n < s.size) (c : Nat) (hc : (s[n]'h0).toNat = c) (c0 : 48 ≤ c) (c1 : c ≤ 57) (d : Nat) (hd : (s[n - 1]'(by omega)).toNat = d) (d0 : 48 ≤ d) (d1 : d ≤ 57) (hl : s.size ≤ 1000) (w : World) :
    Calls Tryz.prog 86 #[.string s, .int .i64 n] w fun e w' => ∃ B, e = .returned (.slice (some ⟨B, 0, none⟩) 1 1) ∧ Below w.heap.size w w' ∧ Blk w' B #[.int .i64 (letB c : Nat)] 3 := by
  have hlt : (n : Int) < (s.size : Int) := by omega
  have hp : 0 < (n : Int) := by omega
  have hw0 : IntKind.i64.wrap ((n : Int) - 1) = (n : Int) - 1 := wrap_in9 (by omega) (by omega)
  rcases (show c = 48 ∨ c = 49 ∨ c = 50 ∨ c = 51 ∨ c = 52 ∨ c = 53 ∨ c = 54 ∨ c = 55 ∨ c = 56 ∨ c = 57 from by omega) with rfl | rfl | rfl | rfl | rfl | rfl | rfl | rfl | rfl | rfl <;>
  · go_enter Tryz.func86, Tryz.ntmps86
    go_wp2_with (first
      | (refine wpList_index_as (by rfl) 9 _ _ (by rfl) s .i64 (n : Nat) (by rfl) (by rfl) Tryz.underlying9 _ (by omega) (by omega) (by rw [← hc]; rfl) ?_)
      | (refine wpList_index_as (by rfl) 9 _ _ (by rfl) s .i64 ((n : Int) - 1) (by rfl) (by rfl) Tryz.underlying9 d (by omega) (by omega) (by rw [← hd]; congr 2; congr 1; omega) ?_)
      | (go_at_call 111; refine (letters28_any _).mono ?_; rintro e w' ⟨rfl, rfl⟩)
      | (go_at_call 110; with_reducible refine (digit28_any d true (by simp; omega) _).mono ?_; rintro e w' ⟨rfl, rfl⟩)
      | (go_at_call 110; refine (digit28_any _ true (by decide) _).mono ?_; rintro e w' ⟨rfl, rfl⟩)
      | fail)
    go_ret
    exact ⟨_, rfl, (by repeat' (first | with_reducible exact Below.refl _ _ | with_reducible exact Nat.le_refl _ | with_reducible assumption | with_reducible refine Go.below_growBy' ?_ ?_ _ | with_reducible refine Below.alloc ?_ ?_ _ | with_reducible refine Below.setCell ?_ ?_ _ | with_reducible refine Below.drew ?_ | with_reducible refine Go.le_alloc ?_ | with_reducible refine Go.le_growBy ?_ | with_reducible refine Go.le_setCell ?_ | with_reducible refine Go.le_drew ?_ | omega | (dsimp only; omega))), blk_new2 _ _⟩
end Go.Proofs.YtjfdbigkbgolmaaGreatDoor
