/-
  Chapter 29: braille.Write at a text of digits.
-/
import Derived.Test.YtjfdbigkbgolmaaDoorQ6
import Derived.Laws.RangeString
namespace Go.Proofs.YtjfdbigkbgolmaaDoor
set_option linter.unusedVariables false
set_option linter.unusedSimpArgs false
open Go.RowKit Go.Shelf
attribute [local go_sem] Oper.semAt_some

/-- a text of digits -/
def Digs (s : ByteArray) : Prop := ∀ i (h : i < s.size), 48 ≤ (s[i]).toNat ∧ (s[i]).toNat ≤ 57

def iterLeft (b : Nat) (s : ByteArray) (w : World) : Nat := match w.heap[b]? with | some (.stringIter _ p) => s.size - p | _ => 0
theorem iterLeft_is (w : World) (s : ByteArray) (n : Nat) : iterLeft w.heap.size s (w.iter s n) = s.size - n := by
  unfold iterLeft
  rw [World.iter_heap]

set_option maxRecDepth 100000 in
set_option maxHeartbeats 2000000 in
theorem right_digs (s : ByteArray) (hd : Digs s) (hl : s.size ≤ 1000000) (w : World) : Calls Tryd.prog 52 #[.string s] w fun e w' => e = .returned (.bool true) ∧ Below w.heap.size w w' := by
  go_enter Tryd.func52, Tryd.ntmps52
  go_wp2_with fail
  go_loopw [7] (fun _ W => ∃ n : Nat, n ≤ s.size ∧ W = w.iter s n) (fun _ W => iterLeft w.heap.size s W)
  case atStart => exact ⟨0, Nat.zero_le _, rfl⟩
  case round =>
    obtain ⟨n, hn, rfl⟩ := hrel
    by_cases hlt : n < s.size
    · obtain ⟨h0, h1⟩ := hd n hlt
      have hr : ∀ ty, (Instr.next (.pointer (some ⟨w.heap.size, 0, none⟩)) true ty).run Tryd.prog (w.iter s n) = .ok (.tuple #[.bool true, .int .i64 n, .int .i32 (s[n]'hlt).toNat]) (w.iter s (n + 1)) := fun ty => run_next_ascii w s n ty hlt (by omega)
      obtain ⟨c, hc⟩ : ∃ c, (s[n]'hlt).toNat = c := ⟨_, rfl⟩
      rw [hc] at h0 h1 hr
      clear hc hd
      have k0 : ¬ (c : Int) < 32 := by omega
      have k1 : ¬ (126 : Int) < c := by omega
      have k2 : ¬ (c : Int) = 34 := by omega
      go_wp2_with fail
      go_roundw
      case rel => exact ⟨n + 1, by omega, rfl⟩
      case measure => rw [iterLeft_is, iterLeft_is]; omega
    · obtain rfl : n = s.size := by omega
      have hr : ∀ ty, (Instr.next (.pointer (some ⟨w.heap.size, 0, none⟩)) true ty).run Tryd.prog (w.iter s s.size) = .ok (.tuple #[.bool false]) (w.iter s s.size) := fun ty => run_next_end w s s.size ty (by omega)
      go_wp2_with fail
      go_ret
      exact ⟨rfl, (Below.refl _ _).alloc (Nat.le_refl _) _⟩

/-- no word begins with a digit -/
theorem words_no (l : List UInt8) (c : UInt8) (r : List UInt8) (h : l = c :: r) (hc : c.toNat ≤ 57) : ∀ x ∈ wordsL, Lib.hasPrefix l x.data.toList = false := by
  subst h
  have h2 : ∀ a : UInt8, 97 ≤ a.toNat → (a == c) = false := fun a ha => by
    rw [beq_eq_false_iff_ne]
    intro e
    subst e
    omega
  intro x hx
  simp only [wordsL, List.mem_cons, List.not_mem_nil, or_false] at hx
  rcases hx with rfl | rfl | rfl | rfl | rfl | rfl | rfl | rfl | rfl | rfl | rfl <;>
  · unfold Lib.hasPrefix
    simp only [List.isPrefixOf_cons_cons]
    rw [h2 _ (by decide)]
    rfl

set_option maxRecDepth 100000 in
set_option maxHeartbeats 2000000 in
theorem write1_digs (x s : ByteArray) (k : Nat) (sb kb : Nat) (w : World) (hk0 : k < s.size) (hl : s.size ≤ 1000000) (hs : w.cell? ⟨sb, 0, none⟩ = some (.string s)) (hk : w.cell? ⟨kb, 0, none⟩ = some (.int .i64 k)) :
    Calls Tryd.prog 55 #[.string x, .pointer (some ⟨sb, 0, none⟩), .pointer (some ⟨kb, 0, none⟩)] w fun e w' => e = .returned (.bool (Lib.hasPrefix ((s.data.toList.drop k).take (s.size - k)) x.data.toList)) ∧ w' = w := by
  go_enter Tryd.func55, Tryd.ntmps55
  go_wp2_with (go_at_call 56; refine (Tryd.strings_HasPrefix _ _ _).mono ?_; rintro e w' ⟨rfl, rfl⟩)
  go_ret
  exact ⟨rfl, rfl⟩

theorem digs_head (s : ByteArray) (k : Nat) (h : k < s.size) : ∃ r, (s.data.toList.drop k).take (s.size - k) = s[k] :: r := by
  have h2 : k < s.data.toList.length := by simpa using h
  rw [List.drop_eq_getElem_cons h2, show s.size - k = (s.size - k - 1) + 1 from by omega, List.take_succ_cons]
  exact ⟨_, rfl⟩

/-- no word stands where a digit stands -/
theorem index_digs (s : ByteArray) (k sb kb : Nat) (w : World) (hd : Digs s) (hk0 : k < s.size) (hl : s.size ≤ 1000000) (hs : w.cell? ⟨sb, 0, none⟩ = some (.string s)) (hk : w.cell? ⟨kb, 0, none⟩ = some (.int .i64 k)) :
    Calls Tryd.prog 53 #[.slice (some ⟨w.heap.size, 0, none⟩) 11 11, .func (.func 55) #[] #[.pointer (some ⟨sb, 0, none⟩), .pointer (some ⟨kb, 0, none⟩)]] (w.alloc (.cells wordsC 9)) fun e w' => e = .returned (.int .i64 (-1)) ∧ ∃ q, w' = (w.alloc (.cells wordsC 9)).drewN q := by
  have hc : ∀ j, j < wordsL.length → (w.alloc (.cells wordsC 9)).cell? ⟨w.heap.size, 0 + j, none⟩ = some (Value.string wordsL[j]!) := by
    intro j hj
    refine (cell_of_block (heap_alloc_last w _) (0 + j)).trans ?_
    match j, hj with
    | 0, _ => rfl
    | 1, _ => rfl
    | 2, _ => rfl
    | 3, _ => rfl
    | 4, _ => rfl
    | 5, _ => rfl
    | 6, _ => rfl
    | 7, _ => rfl
    | 8, _ => rfl
    | 9, _ => rfl
    | 10, _ => rfl
    | j + 11, h => exact absurd h (by simp [wordsL])
  have hp : PredAt Tryd.prog 55 #[.pointer (some ⟨sb, 0, none⟩), .pointer (some ⟨kb, 0, none⟩)] Value.string (fun x => Lib.hasPrefix ((s.data.toList.drop k).take (s.size - k)) x.data.toList) (w.alloc (.cells wordsC 9)) := by
    intro W x hb
    have lt1 : sb < w.heap.size := World.block_lt_of_cell? _ _ hs
    have lt2 : kb < w.heap.size := World.block_lt_of_cell? _ _ hk
    refine (write1_digs x s k sb kb W hk0 hl ?_ ?_).mono ?_
    · rw [hb.cell (p := ⟨sb, 0, none⟩) (by rw [World.size_alloc]; simp only; omega), World.cell?_alloc_lt w _ _ lt1]; exact hs
    · rw [hb.cell (p := ⟨kb, 0, none⟩) (by rw [World.size_alloc]; simp only; omega), World.cell?_alloc_lt w _ _ lt2]; exact hk
    · rintro e w' ⟨rfl, rfl⟩
      exact ⟨rfl, 0, rfl⟩
  refine (Tryd.slices_IndexFunc_f53 Value.string (fun x => Lib.hasPrefix ((s.data.toList.drop k).take (s.size - k)) x.data.toList) 55 _ (enters_of Tryd.func55 (by kernel_rfl) rfl) w.heap.size 0 11 11 wordsL _ hp (by decide) (by decide) hc).mono ?_
  rintro e w' ⟨rfl, h⟩
  refine ⟨?_, h⟩
  obtain ⟨r, hr⟩ := digs_head s k hk0
  have h2 : Lib.idxBy (fun _ y => Lib.hasPrefix ((s.data.toList.drop k).take (s.size - k)) y.data.toList) (wordsL.take 11) default = -1 := idx_none _ 0 (fun x hx => words_no _ _ _ hr (hd k hk0).2 x (List.mem_of_mem_take hx))
  rw [h2]

theorem sign_digs (c : Int) (h0 : 48 ≤ c) (h1 : c ≤ 57) (w : World) : Calls Tryd.prog 59 #[.string ⟨#[32, 44, 39, 45, 46]⟩, .int .u8 c] w fun e w' => e = .returned (.int .i64 (-1)) ∧ w' = w := by
  refine (Tryd.strings_IndexByte _ _ _).mono ?_
  rintro e w' ⟨rfl, rfl⟩
  have : ∀ n : Nat, n < 10 → Lib.indexByte (⟨#[32, 44, 39, 45, 46]⟩ : ByteArray).data.toList ((48 + (n : Int)).toNat.toUInt8) = -1 := by decide +kernel
  have h2 := this (c - 48).toNat (by omega)
  rw [show 48 + (((c - 48).toNat : Nat) : Int) = c from by omega] at h2
  exact ⟨by rw [h2], rfl⟩

/-- the letter's cell for a digit -/
def letB (c : Nat) : Nat := match c with | 48 => 26 | 49 => 1 | 50 => 3 | 51 => 9 | 52 => 25 | 53 => 17 | 54 => 11 | 55 => 27 | 56 => 19 | _ => 10
def lettersB : ByteArray := ⟨#[1, 3, 9, 25, 17, 11, 27, 19, 10, 26, 5, 7, 13, 29, 21, 15, 31, 23, 14, 30, 37, 39, 58, 45, 61, 53]⟩
theorem letB_at (n : Nat) (h : n < 10) : lettersB.data[((n + 9) % 10)]? = some ((letB (48 + n)).toUInt8) := by
  match n, h with
  | 0, _ => rfl
  | 1, _ => rfl
  | 2, _ => rfl
  | 3, _ => rfl
  | 4, _ => rfl
  | 5, _ => rfl
  | 6, _ => rfl
  | 7, _ => rfl
  | 8, _ => rfl
  | 9, _ => rfl
/-- what is written of a text's first bytes -/
def outB (s : ByteArray) : Nat → List UInt8
  | 0 => []
  | n + 1 => (if n = 0 then [60] else outB s n) ++ [(letB (s[n]!).toNat).toUInt8]
theorem outB_len (s : ByteArray) : ∀ n, (outB s n).length ≤ n + 1
  | 0 => Nat.zero_le _
  | n + 1 => by
    unfold outB
    have := outB_len s n
    split <;> simp <;> omega

theorem wrap_in9 {x : Int} (h0 : -9223372036854775808 ≤ x) (h1 : x ≤ 9223372036854775807) : IntKind.i64.wrap x = x := by
  simp [IntKind.wrap, IntKind.bits, IntKind.signed]
  omega
theorem letters_at (c : Nat) (h0 : 48 ≤ c) (h1 : c ≤ 57) (hh : (((c : Int) - 48 + 9) % 10).toNat < lettersB.size) : ((lettersB[(((c : Int) - 48 + 9) % 10).toNat]'hh).toNat : Int) = (letB c : Nat) := by
  rcases (show c = 48 ∨ c = 49 ∨ c = 50 ∨ c = 51 ∨ c = 52 ∨ c = 53 ∨ c = 54 ∨ c = 55 ∨ c = 56 ∨ c = 57 from by omega) with rfl | rfl | rfl | rfl | rfl | rfl | rfl | rfl | rfl | rfl <;> rfl
theorem letB_lt (c : Nat) : letB c < 256 := by
  unfold letB
  split <;> omega
theorem BW.byteN {B sb b kb : Nat} {s : ByteArray} {k : Int} {l : List UInt8} {w0 w : World} (h : BW B sb b kb s k l w0 w) (c : Nat) (hc : c < 256) (hl : l.length + 1 ≤ 140737488355328) :
    Calls Tryd.prog 57 #[.pointer (some ⟨b, 0, none⟩), .int .u8 c] w fun e w' => e = .returned .nilIface ∧ BW B sb b kb s k (l ++ [c.toUInt8]) w0 w' :=
  h.byte' c.toUInt8 c (by simp; omega) hl
def kOf (v : Value) (W : World) : Nat := match v with | .pointer (some a) => (match W.cell? a with | some x => (intOf x).toNat | none => 0) | _ => 0
theorem BW.kOf {B sb b kb : Nat} {s : ByteArray} {k : Int} {l : List UInt8} {w0 w : World} (h : BW B sb b kb s k l w0 w) : kOf (.pointer (some ⟨kb, 0, none⟩)) w = k.toNat := by
  unfold Go.Proofs.YtjfdbigkbgolmaaDoor.kOf
  simp only [h.ck, intOf]

set_option maxRecDepth 100000 in
set_option maxHeartbeats 4000000 in
theorem write_digs (s : ByteArray) (hd : Digs s) (hl : s.size ≤ 1000) (w : World) : Calls Tryd.prog 37 #[.string s] w fun e w' => e = .returned (.tuple #[.string ⟨(outB s s.size).toArray⟩, .int .i64 0]) ∧ Below w.heap.size w w' := by
  go_enter Tryd.func37, Tryd.ntmps37
  go_wp2_with (first
    | (go_at_call 52; refine (right_digs s hd (by omega) _).mono ?_; rintro e w' ⟨rfl, hb_⟩; obtain ⟨p, rfl⟩ := grow_of_below hb_; clear hb_)
    | fail)
  have hB := BW.start w s p
  obtain ⟨W, hW⟩ : ∃ W, ((((w.alloc (.cells #[.string s] 9)).growBy p).alloc (.cells #[.pointer none, .slice none 0 0] 103)).alloc (.cells #[.int .i64 0] 3)) = W := ⟨_, rfl⟩
  obtain ⟨b, hb⟩ : ∃ b, w.heap.size + 1 + p.objs.size = b := ⟨_, rfl⟩
  rw [hW] at hB ⊢
  rw [hb] at hB ⊢
  obtain ⟨kb, hkb⟩ : ∃ kb, b + 1 = kb := ⟨_, rfl⟩
  obtain ⟨sb, hsb⟩ : ∃ sb, w.heap.size = sb := ⟨_, rfl⟩
  rw [hkb] at hB ⊢
  rw [hsb] at hB ⊢
  replace hsb := Lib.hid hsb
  clear hkb hb hW
  go_loopw [5] (fun v wr => ∃ (n kb : Nat), v = .pointer (some ⟨kb, 0, none⟩) ∧ n ≤ s.size ∧ BW sb sb b kb s n (outB s n) w wr) (fun v wr => s.size - kOf v wr)
  case atStart => exact ⟨0, kb, rfl, Nat.zero_le _, hB⟩
  case round =>
    clear hB
    obtain ⟨n, kb, rfl, hn, hB⟩ := hrel
    have hcs := hB.cs
    have hck := hB.ck
    have hfk := hB.fk
    have hkn := Lib.hid (hB.kOf)
    have hol := outB_len s n
    by_cases hlt : n < s.size
    · have hltI : (n : Int) < (s.size : Int) := by omega
      obtain ⟨d0, d1⟩ := hd n hlt
      have hout : outB s (n + 1) = (if n = 0 then [60] else outB s n) ++ [(letB (s[n]'hlt).toNat).toUInt8] := by
        show (if n = 0 then [60] else outB s n) ++ [(letB (s[n]!).toNat).toUInt8] = _
        rw [getElem!_pos s n hlt]
      have hix := index_digs s n sb kb
      obtain ⟨c, hc⟩ : ∃ c, (s[n]'hlt).toNat = c := ⟨_, rfl⟩
      rw [hc] at d0 d1 hout
      have hlz : (lettersB.size : Int) = 26 := rfl
      have hla := letters_at c d0 d1
      have hlb := letB_lt c
      by_cases hn0 : n = 0
      · subst hn0
        simp only [if_true] at hout
        replace hout := Lib.hid hout
        have h60 : ∀ q, Calls Tryd.prog 57 #[.pointer (some ⟨b, 0, none⟩), .int .u8 60] ((wr.alloc (.cells wordsC 9)).drewN q) fun e w' => e = .returned .nilIface ∧ BW sb sb b kb s 0 ([] ++ [60]) w w' := fun q => ((hB.alloc _).drewN q).byte' 60 60 rfl (by omega)
        clear hB
        go_wp2_with (first
          | (refine wpList_index_as (by rfl) 9 _ _ (by rfl) s .i64 0 (by rfl) (by rfl) Tryd.underlying9 c (by omega) (by omega) (by rw [← hc]; rfl) ?_)
          | (refine wpList_index_as (by rfl) 9 _ _ (by rfl) lettersB .u8 (((c : Int) - 48 + 9) % 10) (by rfl) (by rfl) Tryd.underlying9 (letB c : Nat) (by omega) (by omega) (hla _) ?_)
          | (go_at_call 54; refine (words_any _).mono ?_; rintro e w' ⟨rfl, rfl⟩)
          | (go_at_call 53; refine (hix _ hd hlt (by omega) hcs hck).mono ?_; rintro e w' ⟨rfl, q, rfl⟩)
          | (go_at_call 59; refine (sign_digs c (by omega) (by omega) _).mono ?_; rintro e w' ⟨rfl, rfl⟩)
          | (go_at_call 58; refine (digit_any c true (by simp; omega) _).mono ?_; rintro e w' ⟨rfl, rfl⟩)
          | (go_at_call 57; with_reducible refine (h60 q).mono ?_; rintro e w1 ⟨rfl, hB1⟩; have cs1 := hB1.cs; have ck1 := hB1.ck; have fk1 := hB1.fk)
          | (go_at_call 57; with_reducible refine (hB1.byteN (letB c) hlb (by simp)).mono ?_; rintro e w2 ⟨rfl, hB2⟩; have cs2 := hB2.cs; have ck2 := hB2.ck; have fk2 := hB2.fk)
          | fail)
        refine ⟨⟨1, w2.heap.size, rfl, by omega, ?_⟩, ?_⟩
        · rw [hout.out]
          exact hB2.newk 1
        · rw [(hB2.newk 1).kOf, hkn.out]
          simp
          omega
      · have hn1 : 0 < (n : Int) := by omega
        have hn2 : ¬ (n : Int) ≤ 0 := by omega
        obtain ⟨e0, e1⟩ := hd (n - 1) (by omega)
        have hw0 : IntKind.i64.wrap ((n : Int) - 1) = (n : Int) - 1 := wrap_in9 (by omega) (by omega)
        have hw1 : IntKind.i64.wrap ((n : Int) + 1) = (n : Int) + 1 := wrap_in9 (by omega) (by omega)
        rw [if_neg hn0] at hout
        replace hout := Lib.hid hout
        have hlt1 : ∀ q, Calls Tryd.prog 57 #[.pointer (some ⟨b, 0, none⟩), .int .u8 (letB c : Nat)] ((wr.alloc (.cells wordsC 9)).drewN q) fun e w' => e = .returned .nilIface ∧ BW sb sb b kb s n (outB s n ++ [(letB c).toUInt8]) w w' := fun q => ((hB.alloc _).drewN q).byteN (letB c) hlb (by omega)
        clear hB
        go_wp2_with (first
          | (refine wpList_index_as (by rfl) 9 _ _ (by rfl) s .i64 (n : Nat) (by rfl) (by rfl) Tryd.underlying9 c (by omega) (by omega) (by rw [← hc]; rfl) ?_)
          | (refine wpList_index_as (by rfl) 9 _ _ (by rfl) lettersB .u8 (((c : Int) - 48 + 9) % 10) (by rfl) (by rfl) Tryd.underlying9 (letB c : Nat) (by omega) (by omega) (hla _) ?_)
          | (go_at_call 54; refine (words_any _).mono ?_; rintro e w' ⟨rfl, rfl⟩)
          | (go_at_call 53; refine (hix _ hd hlt (by omega) hcs hck).mono ?_; rintro e w' ⟨rfl, q, rfl⟩)
          | (go_at_call 59; refine (sign_digs c (by omega) (by omega) _).mono ?_; rintro e w' ⟨rfl, rfl⟩)
          | (go_at_call 58; with_reducible refine (digit_any c true (by simp; omega) _).mono ?_; rintro e w' ⟨rfl, rfl⟩)
          | (go_at_call 58; with_reducible refine (digit_any _ true (by simp; omega) _).mono ?_; rintro e w' ⟨rfl, rfl⟩)
          | (go_at_call 57; with_reducible refine (hlt1 q).mono ?_; rintro e w2 ⟨rfl, hB2⟩; have cs2 := hB2.cs; have ck2 := hB2.ck; have fk2 := hB2.fk)
          | fail)
        refine ⟨⟨n + 1, w2.heap.size, rfl, by omega, ?_⟩, ?_⟩
        · rw [hout.out]
          exact hB2.newk _
        · rw [(hB2.newk _).kOf, hkn.out]
          simp
          omega
    · obtain rfl : n = s.size := by omega
      go_wp2_with (first
        | (go_at_call 60; refine (Tryd.Builder_String_any_k sb b (outB s s.size) _ hB.bld hB.le).mono ?_; rintro e w3 ⟨rfl, hI3, hb3, ho3⟩)
        | fail)
      go_ret2
      exact ⟨rfl, by rw [hsb.out]; exact hB.below.trans hb3⟩
end Go.Proofs.YtjfdbigkbgolmaaDoor
