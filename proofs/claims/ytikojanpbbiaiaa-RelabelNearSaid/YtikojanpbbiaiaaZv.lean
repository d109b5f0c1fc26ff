/-
  Chapter 24: RelabelReach walked.
-/
import Derived.Test.YtikojanpbbiaiaaZt
import Derived.Test.YtikojanpbbiaiaaZu

namespace Go.Proofs.Ytikojanpbbiaiaa
set_option linter.unusedVariables false
set_option linter.unusedSimpArgs false
open Go Go.RowKit Go.Shelf Go.Lib
attribute [local go_sem] Oper.semAt_some
attribute [local go_sem ↓] Go.wp_at_zero Go.wp_at_succ

/-- a list of labels as it lies, each a key -/
structure LV (W : World) (v : Value) (l : List Lb) : Prop where
  L : Lst lbE W.heap.size W v l
  f : Frm v l.length
  le : l.length ≤ 17
  key : ∀ x ∈ l, LbKey x
theorem LV.up {W W' : World} {v : Value} {l : List Lb} (h : LV W v l) (hb : Below W.heap.size W W') : LV W' v l := ⟨h.L.up hb, h.f, h.le, h.key⟩
theorem LV.row {W : World} {base : Nat} {v : Value} {l : List Lb} (h : W.ownsRow base 39 6 v l.length (l.flatMap lbE.enc)) (hl : l.length ≤ 17) (hk : ∀ x ∈ l, LbKey x) : LV W v l := ⟨lst_of_row lbOk h (by omega), frm_row h, hl, hk⟩
theorem Frm.or {a : Option Addr} {n cap : Nat} (h : Frm (.slice a n cap) n) : (a = none ∧ n = 0 ∧ cap = 0) ∨ ∃ b o, a = some ⟨b, o, none⟩ := by
  rcases h with hf | ⟨b, o, c, hf⟩
  · simp only [Value.slice.injEq] at hf
    exact .inl hf
  · simp only [Value.slice.injEq] at hf
    exact .inr ⟨b, o, hf.1⟩
theorem LV.form {W : World} {v : Value} {l : List Lb} (h : LV W v l) : ∃ a cap, v = .slice a l.length cap ∧ l.length ≤ cap ∧ (a = none → cap = 0) := by
  obtain ⟨a, cap, e, hc⟩ := h.L.form
  refine ⟨a, cap, e, hc, fun ha => ?_⟩
  have hf := h.f
  rw [e] at hf
  rcases hf.or with ⟨-, -, hc⟩ | ⟨b, o, hb⟩
  · exact hc
  · rw [hb] at ha; cases ha
section
variable {W : World} {n0 : Nat} {a : Option Addr} {cap k : Nat} {l : List Lb}
theorem lst_head (hL : Lst lbE n0 W (.slice a l.length cap) l) (hF : Frm (.slice a l.length cap) l.length) (hk : k ≤ l.length) : Lst lbE n0 W (.slice a k cap) (l.take k) ∧ Frm (.slice a k cap) (l.take k).length := by
  refine ⟨hL.take k hk, ?_⟩
  rw [List.length_take, Nat.min_eq_left hk]
  rcases hF.or with ⟨rfl, h0, rfl⟩ | ⟨b, o, rfl⟩
  · obtain rfl : k = 0 := by omega
    exact .inl rfl
  · exact .inr ⟨b, o, cap, rfl⟩
theorem lst_tail (hL : Lst lbE n0 W (.slice a l.length cap) l) (hF : Frm (.slice a l.length cap) l.length) (hk : k ≤ l.length) : Lst lbE n0 W (.slice (if cap = k then a else a.map (·.add (k * 6))) (l.length - k) (cap - k)) (l.drop k) ∧ Frm (.slice (if cap = k then a else a.map (·.add (k * 6))) (l.length - k) (cap - k)) (l.drop k).length := by
  rw [List.length_drop]
  have hc : l.length ≤ cap := by
    obtain ⟨a0, c0, e, hc⟩ := hL.form
    simp only [Value.slice.injEq] at e
    omega
  split
  · rename_i he
    subst he
    have h0 : l.drop cap = [] := List.drop_eq_nil_of_le hc
    have h1 : l.length - cap = 0 := by omega
    rw [h0, h1, Nat.sub_self]
    rcases hF.or with ⟨rfl, -, -⟩ | ⟨b, o, rfl⟩
    · exact ⟨Lst.nil _ _ _, .inl rfl⟩
    · exact ⟨⟨_, _, rfl, Nat.le_refl _, by simp, fun j hj => by simp at hj⟩, .inr ⟨_, _, _, rfl⟩⟩
  · rename_i he
    rcases hF.or with ⟨rfl, h0, rfl⟩ | ⟨b, o, rfl⟩
    · omega
    · have h1 := Lst.drop hL k hk
      have e : (Option.map (fun x : Addr => x.add (k * 6)) (some ⟨b, o, none⟩)) = some ⟨b, o + k * 6, none⟩ := by rw [Option.map_some, Addr.add_lit]
      rw [e]
      exact ⟨h1, .inr ⟨b, o + k * 6, cap - k, rfl⟩⟩
end
/-- what the region that leaves one out reads -/
structure LoR (wr : World) (v : Value) (l : List Lb) (W : World) : Prop where
  bel : Below wr.heap.size wr W
  v : LV W v l
theorem LoR.up {wr W W' : World} {v : Value} {l : List Lb} (h : LoR wr v l W) (hb : Below W.heap.size W W') : LoR wr v l W' := ⟨h.bel.trans (hb.mono h.bel.size), h.v.up hb⟩

def FLo (wr : World) (la : List Lb) (aa : Option Addr) (ca k : Nat) (i : Nat) (v : Value) (w : World) : Prop :=
  match i with
  | 0 => ∃ Z, v = .slice (some ⟨Z, 0, none⟩) 0 0 ∧ wr.heap.size ≤ Z ∧ Blk w Z #[] 39
  | 1 => v = .slice aa la.length ca
  | 2 => v = .int .i64 (k : Nat)
  | 3 => v = .slice aa k ca
  | 4 => ∃ g c, v = .slice (some ⟨g, 0, none⟩) (la.take k).length c ∧ w.ownsRow wr.heap.size 39 6 v (la.take k).length ((la.take k).flatMap lbE.enc)
  | 5 => v = .slice aa la.length ca
  | 6 => v = .int .i64 (k : Nat)
  | 7 => v = .int .i64 ((k : Nat) + 1)
  | 8 => Lst lbE w.heap.size w v (la.drop (k + 1)) ∧ Frm v (la.drop (k + 1)).length
  | _ => False
theorem FLo.kept {wr : World} {la : List Lb} {aa : Option Addr} {ca k : Nat} {i : Nat} {v : Value} {w w' : World} (h : FLo wr la aa ca k i v w) (hg : Below w.heap.size w w') : FLo wr la aa ca k i v w' := by
  unfold FLo at *
  split at h
  all_goals first | exact h | (obtain ⟨Z, h1, h2, h3⟩ := h; exact ⟨Z, h1, h2, h3.below hg h3.lt⟩) | (obtain ⟨g, c, h1, h2⟩ := h; exact ⟨g, c, h1, ownsRow_up h2 hg⟩) | (exact ⟨h.1.up hg, h.2⟩)
/-- what the region that puts one in reads -/
structure MoR (wr : World) (al : Option Addr) (cl gb ob : Nat) (ll : List Lb) (i2 x2 y2 r2 u2 : Int) (t2 : ByteArray) (W : World) : Prop where
  bel : Below wr.heap.size wr W
  l : Lst lbE wr.heap.size W (.slice al ll.length cl) ll
  lc : LC W gb ob i2 x2 y2 r2 t2 u2
theorem MoR.up {wr W W' : World} {al : Option Addr} {cl gb ob : Nat} {ll : List Lb} {i2 x2 y2 r2 u2 : Int} {t2 : ByteArray} (h : MoR wr al cl gb ob ll i2 x2 y2 r2 u2 t2 W) (hb : Below wr.heap.size W W') (hg : gb < wr.heap.size) : MoR wr al cl gb ob ll i2 x2 y2 r2 u2 t2 W' :=
  ⟨h.bel.trans hb, h.l.below hb, h.lc.below hb hg⟩
abbrev stM (s : Array Bool) : Nat := if s.getD 9 false then 1 else 0
theorem stM_other (s : Array Bool) (i : Nat) (h1 : i ≠ 9) : stM (s.setIfInBounds i true) = stM s := by
  unfold stM
  rw [getD_set_ne false h1]

def FMo (wr : World) (ll lb : List Lb) (al : Option Addr) (cl cb gb ob k : Nat) (i2 x2 y2 r2 u2 : Int) (t2 : ByteArray) (i : Nat) (v : Value) (g : Nat) (w : World) : Prop :=
  match i with
  | 0 => ∃ Z, v = .slice (some ⟨Z, 0, none⟩) 0 0 ∧ wr.heap.size ≤ Z ∧ (g = 0 → Blk w Z #[] 39)
  | 1 => v = .slice al ll.length cl
  | 2 => v = .int .i64 (k : Nat)
  | 3 => v = .slice al k cl
  | 4 => ∃ gu c, v = .slice (some ⟨gu, 0, none⟩) (ll.take k).length c ∧ (g = 0 → w.ownsRow wr.heap.size 39 6 v (ll.take k).length ((ll.take k).flatMap lbE.enc))
  | 5 => v = .slice (some ⟨gb, ob, none⟩) lb.length cb
  | 6 => v = .pointer (some ⟨gb, ob, none⟩)
  | 7 => v = .agg #[.int .i64 i2, .int .i64 x2, .int .i64 y2, .int .i64 r2, .string t2, .int .i64 u2]
  | 8 => ∃ L, v = .slice (some ⟨L, 0, none⟩) 1 1 ∧ wr.heap.size ≤ L ∧ (g = 0 → Blk w L #[.int .i64 i2, .int .i64 x2, .int .i64 y2, .int .i64 r2, .string t2, .int .i64 u2] 39)
  | 9 => ∃ gu c, v = .slice (some ⟨gu, 0, none⟩) (ll.take k ++ [(⟨i2, x2, y2, r2, t2, u2⟩ : Lb)]).length c ∧ 1 ≤ g ∧ (g = 1 → w.ownsRow wr.heap.size 39 6 v (ll.take k ++ [(⟨i2, x2, y2, r2, t2, u2⟩ : Lb)]).length ((ll.take k ++ [(⟨i2, x2, y2, r2, t2, u2⟩ : Lb)]).flatMap lbE.enc))
  | 10 => v = .slice al ll.length cl
  | 11 => v = .int .i64 (k : Nat)
  | 12 => Lst lbE wr.heap.size w v (ll.drop k) ∧ Frm v (ll.drop k).length
  | _ => False
theorem FMo.kept {wr : World} {ll lb : List Lb} {al : Option Addr} {cl cb gb ob k : Nat} {i2 x2 y2 r2 u2 : Int} {t2 : ByteArray} {i : Nat} {v : Value} {g g' : Nat} {w w' : World} (h : FMo wr ll lb al cl cb gb ob k i2 x2 y2 r2 u2 t2 i v g w) (hg : g ≤ g' ∧ (g' = g → Below w.heap.size w w') ∧ Below wr.heap.size w w') : FMo wr ll lb al cl cb gb ob k i2 x2 y2 r2 u2 t2 i v g' w' := by
  unfold FMo at *
  split at h
  all_goals first | exact h | (obtain ⟨Z, h1, h2, h3⟩ := h; exact ⟨Z, h1, h2, fun e => by have e0 : g = 0 := (by omega); exact (h3 e0).below (hg.2.1 (by omega)) (h3 e0).lt⟩) | (obtain ⟨gu, c, h1, h2⟩ := h; exact ⟨gu, c, h1, fun e => by have e0 : g = 0 := (by omega); exact ownsRow_up (h2 e0) (hg.2.1 (by omega))⟩) | (obtain ⟨gu, c, h1, h2, h3⟩ := h; exact ⟨gu, c, h1, by omega, fun e => by have e0 : g = 1 := (by omega); exact ownsRow_up (h3 e0) (hg.2.1 (by omega))⟩) | (exact ⟨h.1.below hg.2.2, h.2⟩)
/-- what the region that compares both answers reads -/
structure PrR (wr : World) (BP : Nat) (u v : Value) (W : World) : Prop where
  bel : Below wr.heap.size wr W
  k : Blk W BP #[u, v] 52
theorem PrR.up {wr W W' : World} {BP : Nat} {u v : Value} (h : PrR wr BP u v W) (hb : Below W.heap.size W W') : PrR wr BP u v W' := ⟨h.bel.trans (hb.mono h.bel.size), h.k.below hb h.k.lt⟩
abbrev idsL (lu lv : List Lb) : List Int := (reachL lu lv lv.length).map Lb.id

def FPr (wr : World) (BP cu cv : Nat) (au av : Option Addr) (lu lv : List Lb) (i : Nat) (v : Value) (w : World) : Prop :=
  match i with
  | 0 => v = .pointer (some ⟨BP, 0, none⟩)
  | 1 => v = .slice au lu.length cu
  | 2 => v = .pointer (some ⟨BP, 1, none⟩)
  | 3 => v = .slice av lv.length cv
  | 4 => w.ownsRow wr.heap.size 3 1 v (idsL lu lv).length ((idsL lu lv).flatMap inE.enc)
  | 5 => v = .pointer (some ⟨BP, 0, none⟩)
  | 6 => v = .slice au lu.length cu
  | 7 => v = .pointer (some ⟨BP, 1, none⟩)
  | 8 => v = .slice av lv.length cv
  | 9 => w.ownsRow wr.heap.size 3 1 v (idsL lu lv).length ((idsL lu lv).flatMap inE.enc)
  | _ => False
theorem FPr.kept {wr : World} {BP cu cv : Nat} {au av : Option Addr} {lu lv : List Lb} {i : Nat} {v : Value} {w w' : World} (h : FPr wr BP cu cv au av lu lv i v w) (hg : Below w.heap.size w w') : FPr wr BP cu cv au av lu lv i v w' := by
  unfold FPr at *
  split at h
  all_goals first | exact h | (exact ownsRow_up h hg)
/-- the pairs that are compared -/
theorem pairs6 {W : World} {T : Nat} {va vl vm vb : Value} {la ll lm lb : List Lb} (hT : Blk W T #[va, vb, va, vl, vl, va, va, vm, vm, va, va, va] 52) (Va : LV W va la) (Vl : LV W vl ll) (Vm : LV W vm lm) (Vb : LV W vb lb) :
    ∀ k, k < 6 → ∃ (au av : Option Addr) (cu cv : Nat) (lu lv : List Lb), W.cell? ⟨T, k * 2, none⟩ = some (.slice au lu.length cu) ∧ W.cell? ⟨T, k * 2 + 1, none⟩ = some (.slice av lv.length cv) ∧ LV W (.slice au lu.length cu) lu ∧ LV W (.slice av lv.length cv) lv := by
  obtain ⟨a1, c1, rfl, -⟩ := Va.form
  obtain ⟨a2, c2, rfl, -⟩ := Vl.form
  obtain ⟨a3, c3, rfl, -⟩ := Vm.form
  obtain ⟨a4, c4, rfl, -⟩ := Vb.form
  intro k hk
  have hc := fun i => hT.cell i
  match k, hk with
  | 0, _ => exact ⟨a1, a4, c1, c4, la, lb, hc 0, hc 1, Va, Vb⟩
  | 1, _ => exact ⟨a1, a2, c1, c2, la, ll, hc 2, hc 3, Va, Vl⟩
  | 2, _ => exact ⟨a2, a1, c2, c1, ll, la, hc 4, hc 5, Vl, Va⟩
  | 3, _ => exact ⟨a1, a3, c1, c3, la, lm, hc 6, hc 7, Va, Vm⟩
  | 4, _ => exact ⟨a3, a1, c3, c1, lm, la, hc 8, hc 9, Vm, Va⟩
  | 5, _ => exact ⟨a1, a1, c1, c1, la, la, hc 10, hc 11, Va, Va⟩
theorem lbIn_key {x : Lb} (h : LbIn x) : LbKey (cutLb x) := ⟨h.id, h.x, h.y, h.r, by
  unfold cutLb
  show (x.txt.extract 0 (min x.txt.size 10)).size ≤ maxLen
  rw [ByteArray.size_extract]
  unfold maxLen
  omega, h.u⟩
set_option maxRecDepth 100000 in
set_option maxHeartbeats 8000000 in
theorem law_any (a1 a2 : Option Addr) (n1 n2 c1 c2 : Nat) (l1 l2 : List Lb) (x0 x1 : Int) (h0 : 0 ≤ x0) (h1 : 0 ≤ x1) (h0' : x0 ≤ 255) (h1' : x1 ≤ 255) (w : World) (hA : Lst lbE w.heap.size w (.slice a1 l1.length c1) l1) (hB : Lst lbE w.heap.size w (.slice a2 l2.length c2) l2) (e1 : l1.length = min n1 8) (e2 : l2.length = min n2 8) (k1 : ∀ y ∈ l1, LbIn y) (k2 : ∀ y ∈ l2, LbIn y) :
    Calls Try.prog 5 #[.slice a1 n1 c1, .slice a2 n2 c2, .agg #[.int .u8 x0, .int .u8 x1]] w fun e w' => e = .returned (.bool true) ∧ Below w.heap.size w w' := by
  have hb0 : Below w.heap.size w (w.alloc (.cells #[.int .u8 x0, .int .u8 x1] 50)) := (Below.refl _ _).alloc (Nat.le_refl _) _
  have kW := Blk.new w #[.int .u8 x0, .int .u8 x1] 50
  have hA0 := hA.up hb0
  have hB0 := hB.up hb0
  go_enter Try.func5, Try.ntmps5
  go_upto_region 1 with fail
  obtain ⟨W0, hW0⟩ : ∃ W, w.alloc (.cells #[.int .u8 x0, .int .u8 x1] 50) = W := ⟨_, rfl⟩
  obtain ⟨BW, hBW⟩ : ∃ b, w.heap.size = b := ⟨_, rfl⟩
  have hbel := hb0
  rw [hW0] at kW hA0 hB0 hbel
  rw [hBW] at kW
  rw [hW0, hBW]
  clear hW0 hb0 hA hB
  go_upto_region 3 with (first
    | (go_at_call 6; (with_reducible refine (sanity_any _).mono ?_); rintro e w1 ⟨rfl, hb1⟩; have hA1 := hA0.up hb1; have hB1 := hB0.up hb1; have kW1 := kW.below hb1 kW.lt; have hbel1 := hbel.trans (hb1.mono hbel.size))
    | (go_at_call 15; (with_reducible refine (cut_any a1 n1 c1 l1 _ hA1 e1).mono ?_); rintro e w2 ⟨u2, rfl, hr2, hb2⟩; have hB2 := hB1.up hb2; have kW2 := kW1.below hb2 kW1.lt; have hbel2 := hbel1.trans (hb2.mono hbel1.size))
    | (go_at_call 15; (with_reducible refine (cut_any a2 n2 c2 l2 _ hB2 e2).mono ?_); rintro e w3 ⟨u3, rfl, hr3, hb3⟩; have hr2' := ownsRow_up hr2 hb3; have kW3 := kW2.below hb3 kW2.lt; have hbel3 := hbel2.trans (hb3.mono hbel2.size))
    | fail)
  have hla : (l1.map cutLb).length ≤ 8 := by rw [List.length_map]; omega
  have hlb : (l2.map cutLb).length ≤ 8 := by rw [List.length_map]; omega
  have ka : ∀ x ∈ l1.map cutLb, LbKey x := by
    intro x hx
    obtain ⟨y, hy, rfl⟩ := List.mem_map.1 hx
    exact lbIn_key (k1 y hy)
  have kb : ∀ x ∈ l2.map cutLb, LbKey x := by
    intro x hx
    obtain ⟨y, hy, rfl⟩ := List.mem_map.1 hx
    exact lbIn_key (k2 y hy)
  obtain ⟨la, hla_⟩ : ∃ l, l1.map cutLb = l := ⟨_, rfl⟩
  obtain ⟨lb, hlb_⟩ : ∃ l, l2.map cutLb = l := ⟨_, rfl⟩
  rw [hla_] at hla ka hr2'
  rw [hlb_] at hlb kb hr3
  have Va := LV.row hr2' (by omega) ka
  have Vb := LV.row hr3 (by omega) kb
  clear hla_ hlb_ ka kb hr2 hr2' hr3 hb1 hb2 hb3 hA1 hB1 hA0 hB0 hB2 kW kW1 kW2 hbel hbel1 hbel2 k1 k2 e1 e2
  obtain ⟨aa, ca, rfl, hca, hna⟩ := Va.form
  obtain ⟨ab, cb, rfl, hcb, hnb⟩ := Vb.form
  have z0 : w3.cell? ⟨BW, 0, none⟩ = some (.int .u8 x0) := kW3.cell 0
  go_upto_if 22 with fail
  go_cut [8] (fun v wx => ∃ ll : List Lb, ll.length ≤ 8 ∧ LV wx v ll ∧ Below w3.heap.size w3 wx)
  case first =>
    by_cases hl0 : 0 < la.length
    · have hl0I : (0 : Int) < (la.length : Int) := by omega
      have hlaI : ¬ (la.length : Int) = 0 := by omega
      have hx0 : wrap64 x0 = x0 := IntWalk.wrap64_in _ (by omega)
      go_upto_region 6 with fail
      obtain ⟨k, hk, hkl⟩ : ∃ k : Nat, x0 % (la.length : Int) = (k : Int) ∧ k < la.length := ⟨(x0 % (la.length : Int)).toNat, by have := Int.emod_nonneg x0 hlaI; omega, by have h2 := Int.emod_nonneg x0 hlaI; have := Int.emod_lt_of_pos x0 hl0I; omega⟩
      rw [hk]
      have hk1 : (k : Int) + 1 ≤ (la.length : Int) := by omega
      have hk0 : (k : Int) ≤ (ca : Int) := by omega
      have hk2 : (0 : Int) ≤ (k : Int) + 1 := by omega
      have hk3 : ((k : Int) + 1).toNat = k + 1 := by omega
      have hwk : IntKind.i64.wrap ((k : Int) + 1) = (k : Int) + 1 := wrap_in7 (by omega) (by omega)
      refine Go.wp_region_rel 9 (by kernel_rfl) (by kernel_rfl) (fun _ W => LoR w3 (.slice aa la.length ca) la W) (fun w w' => Below w.heap.size w w') (FLo w3 la aa ca k) (fun _ _ _ _ h g => h.kept g) ⟨(Below.refl _ _).drew, Va.up (Below.refl _ _).drew⟩ ?step6 ?tail6
      case step6 =>
        clear Va Vb
        intro i o hi ho c bb W hc hM hA hD K hK
        match i, hi, ho with
        | 0, _, ho =>
          cases ho
          go_simp
          exact hK (.slice (some ⟨W.heap.size, 0, none⟩) 0 0) _ ⟨_, rfl, hM.bel.size, Blk.new _ _ _⟩ ((Below.refl _ _).alloc (Nat.le_refl _) _) (hM.up ((Below.refl _ _).alloc (Nat.le_refl _) _))
        | 1, _, ho =>
          cases ho
          have f0 : bb.tmps[0]?.getD undef = .slice aa la.length ca := evalAt (v := .slice aa la.length ca) (hA.at_ (k := 0) (by kernel_rfl))
          go_simp
          exact hK (.slice aa la.length ca) W rfl (Below.refl _ _) hM
        | 2, _, ho =>
          cases ho
          have f9 : bb.tmps[9]?.getD undef = .int .i64 (k : Nat) := evalAt (v := .int .i64 (k : Nat)) (hA.at_ (k := 9) (by kernel_rfl))
          go_simp
          exact hK (.int .i64 (k : Nat)) W rfl (Below.refl _ _) hM
        | 3, _, ho =>
          cases ho
          have f30 : bb.tmps[30]?.getD undef = .slice aa la.length ca := evalAt (v := .slice aa la.length ca) (dep_at hD 1 30 (by kernel_rfl) rfl rfl)
          have f31 : bb.tmps[31]?.getD undef = .int .i64 (k : Nat) := evalAt (v := .int .i64 (k : Nat)) (dep_at hD 2 31 (by kernel_rfl) rfl rfl)
          go_simp
          exact hK (.slice aa k ca) W rfl (Below.refl _ _) hM
        | 4, _, ho =>
          cases ho
          have f29 := dep_at hD 0 29 (by kernel_rfl) rfl rfl
          have f32 : bb.tmps[32]?.getD undef = .slice aa k ca := evalAt (v := .slice aa k ca) (dep_at hD 3 32 (by kernel_rfl) rfl rfl)
          obtain ⟨Z, h1, h2, h3⟩ := f29
          obtain ⟨hL, hF⟩ := lst_head (k := k) hM.v.L hM.v.f (by omega)
          refine El.step_fresh lbOk lbIn _ _ (by rfl) _ Z h1 (fresh_row h3 h2) _ (la.take k) (evalEq f32) hL hF (by rw [List.length_take]; omega) hM.bel.size ?_
          rintro v9 w9 hr9 hb9 ⟨g, c, e9, -⟩
          exact hK v9 w9 ⟨g, c, e9, hr9⟩ hb9 (hM.up hb9)
        | 5, _, ho =>
          cases ho
          have f0 : bb.tmps[0]?.getD undef = .slice aa la.length ca := evalAt (v := .slice aa la.length ca) (hA.at_ (k := 0) (by kernel_rfl))
          go_simp
          exact hK (.slice aa la.length ca) W rfl (Below.refl _ _) hM
        | 6, _, ho =>
          cases ho
          have f9 : bb.tmps[9]?.getD undef = .int .i64 (k : Nat) := evalAt (v := .int .i64 (k : Nat)) (hA.at_ (k := 9) (by kernel_rfl))
          go_simp
          exact hK (.int .i64 (k : Nat)) W rfl (Below.refl _ _) hM
        | 7, _, ho =>
          cases ho
          have f35 : bb.tmps[35]?.getD undef = .int .i64 (k : Nat) := evalAt (v := .int .i64 (k : Nat)) (dep_at hD 6 35 (by kernel_rfl) rfl rfl)
          go_simp
          exact hK (.int .i64 ((k : Nat) + 1)) W rfl (Below.refl _ _) hM
        | 8, _, ho =>
          cases ho
          have f34 : bb.tmps[34]?.getD undef = .slice aa la.length ca := evalAt (v := .slice aa la.length ca) (dep_at hD 5 34 (by kernel_rfl) rfl rfl)
          have f36 : bb.tmps[36]?.getD undef = .int .i64 ((k : Nat) + 1) := evalAt (v := .int .i64 ((k : Nat) + 1)) (dep_at hD 7 36 (by kernel_rfl) rfl rfl)
          have hT := lst_tail (k := k + 1) hM.v.L hM.v.f (by omega)
          go_simp
          exact hK _ W hT (Below.refl _ _) hM
        | i + 9, hi, _ => exact absurd hi (by omega)
      case tail6 =>
        intro bb W' hM hA hall
        obtain ⟨g, c, h33, hr33⟩ := (show ∃ g c, bb.eval (.tmp 33) = .slice (some ⟨g, 0, none⟩) (la.take k).length c ∧ W'.ownsRow w3.heap.size 39 6 (bb.eval (.tmp 33)) (la.take k).length ((la.take k).flatMap lbE.enc) from hall 4 (by omega) _ _ rfl rfl)
        obtain ⟨hL37, hF37⟩ := (show Lst lbE W'.heap.size W' (bb.eval (.tmp 37)) (la.drop (k + 1)) ∧ Frm (bb.eval (.tmp 37)) (la.drop (k + 1)).length from hall 8 (by omega) _ _ rfl rfl)
        obtain ⟨v37, hv37⟩ : ∃ v, bb.eval (.tmp 37) = v := ⟨_, rfl⟩
        rw [h33] at hr33
        rw [hv37] at hL37 hF37
        have hfr := hA.frame [true, true, true, true, true, true, true, true, true, true, true, true, true, true, true, true, true, true, true, true, true, true, true, true, true, true, true, true, true, false, false, false, false, false, false, false, false, false, true, true, true, true, true, true, true, true, true, true, true, true, true, true, true, true, true, true, true, true, true, true, true, true, true, true, true, true, true, true, true, true, true, true, true, true, true, true, true, true, true, true, true, true, true, true, true, true, true, true, true, true, true, true, true, true, true, true, true, true, true, true, true, true] _ rfl (by kernel_rfl)
        clear hall hA
        obtain ⟨f, hf⟩ : ∃ f : Nat → Value, (fun k => bb.tmps.getD k undef) = f := ⟨_, rfl⟩
        have g33 : f 33 = .slice (some ⟨g, 0, none⟩) (la.take k).length c := by rw [← hf, ← h33]; rfl
        have g37 : f 37 = v37 := by rw [← hf, ← hv37]; rfl
        rw [hf] at hfr
        clear hf h33 hv37
        subst hfr
        simp only [pickL, g33, g37, Nat.reduceAdd]
        clear g33 g37
        simp only [List.drop_succ_cons, List.drop_zero]
        have hbx := hM.bel
        have hkk : ∀ x ∈ la.take k ++ la.drop (k + 1), LbKey x := fun x hx => Va.key x (by
          rcases List.mem_append.1 hx with h | h
          · exact List.mem_of_mem_take h
          · exact List.mem_of_mem_drop h)
        have hlen : (la.take k ++ la.drop (k + 1)).length ≤ 8 := by rw [List.length_append, List.length_take, List.length_drop]; omega
        have hsum : (la.take k).length + (la.drop (k + 1)).length ≤ 100000 := by rw [List.length_append] at hlen; omega
        clear hM Va
        refine El.join lbOk lbIn (by rfl) _ _ (by rfl) w3.heap.size (by rfl) (la.take k) hr33 ⟨_, _, rfl⟩ (la.drop (k + 1)) (by rfl) hL37 hF37 hsum hbx.size ?_
        rintro v9 w9 hr9 hg9 hb9 -
        go_wp2_with fail
        go_meet
        exact ⟨_, hlen, LV.row hr9 (by omega) hkk, hbx.trans hb9⟩
    · have hl0I : ¬ (0 : Int) < (la.length : Int) := by omega
      go_wp2_with fail
      go_meet
      exact ⟨la, hla, Va, Below.refl _ _⟩
  case rest =>
    obtain ⟨ll, hll, Vl, hb4⟩ := hcut
    have Va4 := Va.up hb4
    have Vb4 := Vb.up hb4
    have kW4 := kW3.below hb4 kW3.lt
    have hbel4 := hbel3.trans (hb4.mono hbel3.size)
    obtain ⟨al, cl, rfl, hcl, hnl⟩ := Vl.form
    have z1 : wc.cell? ⟨BW, 1, none⟩ = some (.int .u8 x1) := kW4.cell 1
    clear z0 Va Vb kW3 hbel3 hb4
    go_upto_if 42 with fail
    go_cut [10] (fun v wx => ∃ lm : List Lb, lm.length ≤ 17 ∧ LV wx v lm ∧ Below wc.heap.size wc wx)
    case first =>
      by_cases hl0 : 0 < lb.length
      · have hl0I : (0 : Int) < (lb.length : Int) := by omega
        have hn1 : (0 : Int) < (ll.length : Int) + 1 := by omega
        have hn2 : ¬ (ll.length : Int) + 1 = 0 := by omega
        have hwn : IntKind.i64.wrap ((ll.length : Int) + 1) = (ll.length : Int) + 1 := wrap_in7 (by omega) (by omega)
        have hx1 : wrap64 x1 = x1 := IntWalk.wrap64_in _ (by omega)
        go_upto_region 10 with fail
        obtain ⟨k, hk, hkl⟩ : ∃ k : Nat, x1 % ((ll.length : Int) + 1) = (k : Int) ∧ k ≤ ll.length := ⟨(x1 % ((ll.length : Int) + 1)).toNat, by have := Int.emod_nonneg x1 hn2; omega, by have h2 := Int.emod_nonneg x1 hn2; have := Int.emod_lt_of_pos x1 hn1; omega⟩
        rw [hk]
        have hk1 : (k : Int) ≤ (ll.length : Int) := by omega
        have hk0 : (k : Int) ≤ (cl : Int) := by omega
        obtain ⟨gb, ob, cap', i2, x2, y2, r2, t2, u2, hv, hget, hbl, hlc⟩ := Vb4.L.get hl0
        simp only [Value.slice.injEq, true_and] at hv
        obtain ⟨rfl, rfl⟩ := hv
        rw [show ob + 0 * 6 = ob from by omega] at hlc
        have hFl := Vl.f
        refine Go.wp_region_set 13 (by kernel_rfl) (by kernel_rfl) stM (fun _ W => MoR wc al cl gb ob ll i2 x2 y2 r2 u2 t2 W) (fun g w g' w' => g ≤ g' ∧ (g' = g → Below w.heap.size w w') ∧ Below wc.heap.size w w') (FMo wc ll lb al cl cb gb ob k i2 x2 y2 r2 u2 t2) (fun _ _ _ _ _ _ h g => h.kept g) ⟨(Below.refl _ _).drew, Vl.L.below (Below.refl _ _).drew, hlc.below (Below.refl _ _).drew hbl⟩ ?step10 ?tail10
        case step10 =>
          clear Va4 Vb4 Vl
          intro i o hi ho s bb W inv hun haf hM hA hD K hK
          have hst := stM_other s
          obtain ⟨g, hg⟩ : ∃ g, stM s = g := ⟨_, rfl⟩
          rw [hg] at hD hK hst
          have hsz : s.size = 15 := inv.size
          have c4 : s.getD 9 false = true → s.getD 4 false = true := fun h => closed_at inv 9 4 rfl h (by kernel_rfl)
          have un4 : s.getD 4 false = false → s.getD 9 false = false := fun h => by
            cases e : s.getD 9 false with
            | false => rfl
            | true => have := c4 e; rw [h] at this; cases this
          have h9 : s.getD 9 false = false → g = 0 := fun h => by
            rw [← hg]
            unfold stM
            rw [h]
            rfl
          have hst1 : 1 = stM (s.setIfInBounds 9 true) := by
            unfold stM
            rw [show (s.setIfInBounds 9 true).getD 9 false = true from by simp [hsz]]
            rfl
          replace hst1 := Lib.hid hst1
          have hgb := hbl
          clear c4 hg hsz inv hlc
          match i, hi, ho with
          | 0, _, ho =>
            cases ho
            go_simp
            exact hK (.slice (some ⟨W.heap.size, 0, none⟩) 0 0) g _ ⟨_, rfl, hM.bel.size, fun _ => Blk.new _ _ _⟩ ⟨Nat.le_refl _, fun _ => (Below.refl _ _).alloc (Nat.le_refl _) _, (Below.refl _ _).alloc hM.bel.size _⟩ (hM.up ((Below.refl _ _).alloc hM.bel.size _) hgb) (hst _ (by decide)).symm
          | 1, _, ho =>
            cases ho
            have f8 : bb.tmps[8]?.getD undef = .slice al ll.length cl := evalAt (v := .slice al ll.length cl) (hA.at_ (k := 8) (by kernel_rfl))
            go_simp
            exact hK (.slice al ll.length cl) g W rfl (⟨Nat.le_refl _, fun _ => Below.refl _ _, Below.refl _ _⟩) hM (hst _ (by decide)).symm
          | 2, _, ho =>
            cases ho
            have f11 : bb.tmps[11]?.getD undef = .int .i64 (k : Nat) := evalAt (v := .int .i64 (k : Nat)) (hA.at_ (k := 11) (by kernel_rfl))
            go_simp
            exact hK (.int .i64 (k : Nat)) g W rfl (⟨Nat.le_refl _, fun _ => Below.refl _ _, Below.refl _ _⟩) hM (hst _ (by decide)).symm
          | 3, _, ho =>
            cases ho
            have f51 : bb.tmps[51]?.getD undef = .slice al ll.length cl := evalAt (v := .slice al ll.length cl) (dep_atN hD 1 51 (by kernel_rfl) rfl rfl)
            have f52 : bb.tmps[52]?.getD undef = .int .i64 (k : Nat) := evalAt (v := .int .i64 (k : Nat)) (dep_atN hD 2 52 (by kernel_rfl) rfl rfl)
            go_simp
            exact hK (.slice al k cl) g W rfl (⟨Nat.le_refl _, fun _ => Below.refl _ _, Below.refl _ _⟩) hM (hst _ (by decide)).symm
          | 4, _, ho =>
            cases ho
            have f50 := dep_atN hD 0 50 (by kernel_rfl) rfl rfl
            have f53 : bb.tmps[53]?.getD undef = .slice al k cl := evalAt (v := .slice al k cl) (dep_atN hD 3 53 (by kernel_rfl) rfl rfl)
            obtain ⟨Z, h1, h2, h3⟩ := f50
            have hg0 := h9 (un4 hun)
            obtain ⟨hL, hF⟩ := lst_head (k := k) hM.l hFl (by omega)
            refine El.step_fresh lbOk lbIn _ _ (by rfl) _ Z h1 (fresh_row (h3 hg0) h2) _ (ll.take k) (evalEq f53) hL hF (by rw [List.length_take]; omega) hM.bel.size ?_
            rintro v9 w9 hr9 hb9 ⟨gu, c, e9, -⟩
            exact hK v9 g w9 ⟨gu, c, e9, fun _ => hr9⟩ ⟨Nat.le_refl _, fun _ => hb9, hb9.mono hM.bel.size⟩ (hM.up (hb9.mono hM.bel.size) hgb) (hst _ (by decide)).symm
          | 5, _, ho =>
            cases ho
            have f1 : bb.tmps[1]?.getD undef = .slice (some ⟨gb, ob, none⟩) lb.length cb := evalAt (v := .slice (some ⟨gb, ob, none⟩) lb.length cb) (hA.at_ (k := 1) (by kernel_rfl))
            go_simp
            exact hK (.slice (some ⟨gb, ob, none⟩) lb.length cb) g W rfl (⟨Nat.le_refl _, fun _ => Below.refl _ _, Below.refl _ _⟩) hM (hst _ (by decide)).symm
          | 6, _, ho =>
            cases ho
            have f55 : bb.tmps[55]?.getD undef = .slice (some ⟨gb, ob, none⟩) lb.length cb := evalAt (v := .slice (some ⟨gb, ob, none⟩) lb.length cb) (dep_atN hD 5 55 (by kernel_rfl) rfl rfl)
            go_simp
            exact hK (.pointer (some ⟨gb, ob, none⟩)) g W rfl (⟨Nat.le_refl _, fun _ => Below.refl _ _, Below.refl _ _⟩) hM (hst _ (by decide)).symm
          | 7, _, ho =>
            cases ho
            have f56 : bb.tmps[56]?.getD undef = .pointer (some ⟨gb, ob, none⟩) := evalAt (v := .pointer (some ⟨gb, ob, none⟩)) (dep_atN hD 6 56 (by kernel_rfl) rfl rfl)
            have z0 : W.cell? ⟨gb, ob, none⟩ = some (.int .i64 i2) := hM.lc.c0
            have z1 : W.cell? ⟨gb, ob + 1, none⟩ = some (.int .i64 x2) := hM.lc.c1
            have z2 : W.cell? ⟨gb, ob + 2, none⟩ = some (.int .i64 y2) := hM.lc.c2
            have z3 : W.cell? ⟨gb, ob + 3, none⟩ = some (.int .i64 r2) := hM.lc.c3
            have z4 : W.cell? ⟨gb, ob + 4, none⟩ = some (.string t2) := hM.lc.c4
            have z5 : W.cell? ⟨gb, ob + 5, none⟩ = some (.int .i64 u2) := hM.lc.c5
            go_simp
            exact hK (.agg #[.int .i64 i2, .int .i64 x2, .int .i64 y2, .int .i64 r2, .string t2, .int .i64 u2]) g W rfl (⟨Nat.le_refl _, fun _ => Below.refl _ _, Below.refl _ _⟩) hM (hst _ (by decide)).symm
          | 8, _, ho =>
            cases ho
            have f57 : bb.tmps[57]?.getD undef = .agg #[.int .i64 i2, .int .i64 x2, .int .i64 y2, .int .i64 r2, .string t2, .int .i64 u2] := evalAt (v := .agg #[.int .i64 i2, .int .i64 x2, .int .i64 y2, .int .i64 r2, .string t2, .int .i64 u2]) (dep_atN hD 7 57 (by kernel_rfl) rfl rfl)
            go_simp
            exact hK (.slice (some ⟨W.heap.size, 0, none⟩) 1 1) g _ ⟨_, rfl, hM.bel.size, fun _ => Blk.new _ _ _⟩ ⟨Nat.le_refl _, fun _ => (Below.refl _ _).alloc (Nat.le_refl _) _, (Below.refl _ _).alloc hM.bel.size _⟩ (hM.up ((Below.refl _ _).alloc hM.bel.size _) hgb) (hst _ (by decide)).symm
          | 9, _, ho =>
            cases ho
            have f54 := dep_atN hD 4 54 (by kernel_rfl) rfl rfl
            have f58 := dep_atN hD 8 58 (by kernel_rfl) rfl rfl
            obtain ⟨gu, c, h1, h2⟩ := f54
            obtain ⟨L, k1, k2, k3⟩ := f58
            have hg0 := h9 hun
            refine El.step_join lbOk lbIn _ _ (by rfl) wc.heap.size rfl (ll.take k) (h2 hg0) ⟨_, _, h1⟩ [(⟨i2, x2, y2, r2, t2, u2⟩ : Lb)] k1 (Lst.single lbOk (k3 hg0)) (.inr ⟨_, _, _, rfl⟩) (by rw [List.length_take]; simp; omega) hM.bel.size ?_
            rintro v9 w9 hr9 hg9 hb9 ⟨gu, c, e9⟩
            exact hK v9 1 w9 ⟨gu, c, e9, Nat.le_refl _, fun _ => hr9⟩ ⟨by omega, fun e => by omega, hb9⟩ (hM.up hb9 hgb) (hst1.out)
          | 10, _, ho =>
            cases ho
            have f8 : bb.tmps[8]?.getD undef = .slice al ll.length cl := evalAt (v := .slice al ll.length cl) (hA.at_ (k := 8) (by kernel_rfl))
            go_simp
            exact hK (.slice al ll.length cl) g W rfl (⟨Nat.le_refl _, fun _ => Below.refl _ _, Below.refl _ _⟩) hM (hst _ (by decide)).symm
          | 11, _, ho =>
            cases ho
            have f11 : bb.tmps[11]?.getD undef = .int .i64 (k : Nat) := evalAt (v := .int .i64 (k : Nat)) (hA.at_ (k := 11) (by kernel_rfl))
            go_simp
            exact hK (.int .i64 (k : Nat)) g W rfl (⟨Nat.le_refl _, fun _ => Below.refl _ _, Below.refl _ _⟩) hM (hst _ (by decide)).symm
          | 12, _, ho =>
            cases ho
            have f60 : bb.tmps[60]?.getD undef = .slice al ll.length cl := evalAt (v := .slice al ll.length cl) (dep_atN hD 10 60 (by kernel_rfl) rfl rfl)
            have f61 : bb.tmps[61]?.getD undef = .int .i64 (k : Nat) := evalAt (v := .int .i64 (k : Nat)) (dep_atN hD 11 61 (by kernel_rfl) rfl rfl)
            have hT := lst_tail (k := k) hM.l hFl (by omega)
            go_simp
            exact hK _ g W hT ⟨Nat.le_refl _, fun _ => Below.refl _ _, Below.refl _ _⟩ hM (hst _ (by decide)).symm
          | i + 13, hi, _ => exact absurd hi (by omega)
        case tail10 =>
          intro bb s W' hs hM hA hall
          have hg1 : stM s = 1 := by unfold stM; rw [hs 9 (by omega)]; rfl
          rw [hg1] at hall
          obtain ⟨g, c, h59, -, hr59⟩ := (show ∃ gu c, bb.eval (.tmp 59) = .slice (some ⟨gu, 0, none⟩) (ll.take k ++ [(⟨i2, x2, y2, r2, t2, u2⟩ : Lb)]).length c ∧ 1 ≤ 1 ∧ (1 = 1 → W'.ownsRow wc.heap.size 39 6 (bb.eval (.tmp 59)) (ll.take k ++ [(⟨i2, x2, y2, r2, t2, u2⟩ : Lb)]).length ((ll.take k ++ [(⟨i2, x2, y2, r2, t2, u2⟩ : Lb)]).flatMap lbE.enc)) from hall 9 (by omega) _ _ rfl rfl)
          replace hr59 := hr59 rfl
          obtain ⟨hL62, hF62⟩ := (show Lst lbE wc.heap.size W' (bb.eval (.tmp 62)) (ll.drop k) ∧ Frm (bb.eval (.tmp 62)) (ll.drop k).length from hall 12 (by omega) _ _ rfl rfl)
          obtain ⟨v62, hv62⟩ : ∃ v, bb.eval (.tmp 62) = v := ⟨_, rfl⟩
          rw [h59] at hr59
          rw [hv62] at hL62 hF62
          have hfr := hA.frame [true, true, true, true, true, true, true, true, true, true, true, true, true, true, true, true, true, true, true, true, true, true, true, true, true, true, true, true, true, true, true, true, true, true, true, true, true, true, true, true, true, true, true, true, true, true, true, true, true, true, false, false, false, false, false, false, false, false, false, false, false, false, false, true, true, true, true, true, true, true, true, true, true, true, true, true, true, true, true, true, true, true, true, true, true, true, true, true, true, true, true, true, true, true, true, true, true, true, true, true, true, true] _ rfl (by kernel_rfl)
          clear hall hA
          obtain ⟨f, hf⟩ : ∃ f : Nat → Value, (fun k => bb.tmps.getD k undef) = f := ⟨_, rfl⟩
          have g59 : f 59 = .slice (some ⟨g, 0, none⟩) (ll.take k ++ [(⟨i2, x2, y2, r2, t2, u2⟩ : Lb)]).length c := by rw [← hf, ← h59]; rfl
          have g62 : f 62 = v62 := by rw [← hf, ← hv62]; rfl
          rw [hf] at hfr
          clear hf h59 hv62
          subst hfr
          simp only [pickL, g59, g62, Nat.reduceAdd]
          clear g59 g62
          simp only [List.drop_succ_cons, List.drop_zero]
          have hbx := hM.bel
          have hkk : ∀ x ∈ (ll.take k ++ [(⟨i2, x2, y2, r2, t2, u2⟩ : Lb)]) ++ ll.drop k, LbKey x := fun x hx => by
            rcases List.mem_append.1 hx with h | h
            · rcases List.mem_append.1 h with h | h
              · exact Vl.key x (List.mem_of_mem_take h)
              · exact Vb4.key x (List.mem_of_getElem? (by rw [List.mem_singleton.1 h]; exact hget))
            · exact Vl.key x (List.mem_of_mem_drop h)
          have hlen : ((ll.take k ++ [(⟨i2, x2, y2, r2, t2, u2⟩ : Lb)]) ++ ll.drop k).length ≤ 17 := by simp only [List.length_append, List.length_take, List.length_drop, List.length_singleton]; omega
          have hsum : (ll.take k ++ [(⟨i2, x2, y2, r2, t2, u2⟩ : Lb)]).length + (ll.drop k).length ≤ 100000 := by rw [List.length_append] at hlen; omega
          clear hM Va4 Vb4 Vl
          refine El.join lbOk lbIn (by rfl) _ _ (by rfl) wc.heap.size (by rfl) (ll.take k ++ [(⟨i2, x2, y2, r2, t2, u2⟩ : Lb)]) hr59 ⟨_, _, rfl⟩ (ll.drop k) (by rfl) hL62 hF62 hsum hbx.size ?_
          rintro v9 w9 hr9 hg9 hb9 -
          go_wp2_with fail
          go_meet
          exact ⟨_, hlen, LV.row hr9 (by omega) hkk, hbx.trans hb9⟩
      · have hl0I : ¬ (0 : Int) < (lb.length : Int) := by omega
        go_wp2_with fail
        go_meet
        exact ⟨ll, by omega, Vl, Below.refl _ _⟩
    case rest =>
      obtain ⟨lm, hlm, Vm, hb5⟩ := hcut
      have Va5 := Va4.up hb5
      have Vb5 := Vb4.up hb5
      have Vl5 := Vl.up hb5
      have hbel5 := hbel4.trans (hb5.mono hbel4.size)
      obtain ⟨am, cm, rfl, -⟩ := Vm.form
      clear z1 Va4 Vb4 Vl kW4 hbel4 hb5
      have hbT : Below wc.heap.size wc (wc.alloc (.cells #[.slice aa la.length ca, .slice ab lb.length cb, .slice aa la.length ca, .slice al ll.length cl, .slice al ll.length cl, .slice aa la.length ca, .slice aa la.length ca, .slice am lm.length cm, .slice am lm.length cm, .slice aa la.length ca, .slice aa la.length ca, .slice aa la.length ca] 52)) := (Below.refl _ _).alloc (Nat.le_refl _) _
      have kT := Blk.new wc #[.slice aa la.length ca, .slice ab lb.length cb, .slice aa la.length ca, .slice al ll.length cl, .slice al ll.length cl, .slice aa la.length ca, .slice aa la.length ca, .slice am lm.length cm, .slice am lm.length cm, .slice aa la.length ca, .slice aa la.length ca, .slice aa la.length ca] 52
      have hp6 := pairs6 kT (Va5.up hbT) (Vl5.up hbT) (Vm.up hbT) (Vb5.up hbT)
      have hbel6 := hbel5.trans (hbT.mono hbel5.size)
      clear Va5 Vb5 Vl5 Vm hbel5 hbT kT
      go_wp2_with fail
      obtain ⟨T, hT⟩ : ∃ b, wc.heap.size = b := ⟨_, rfl⟩
      obtain ⟨WT, hWT⟩ : ∃ W, wc.alloc (.cells #[.slice aa la.length ca, .slice ab lb.length cb, .slice aa la.length ca, .slice al ll.length cl, .slice al ll.length cl, .slice aa la.length ca, .slice aa la.length ca, .slice am lm.length cm, .slice am lm.length cm, .slice aa la.length ca, .slice aa la.length ca, .slice aa la.length ca] 52) = W := ⟨_, rfl⟩
      rw [hWT] at hp6 hbel6
      rw [hT] at hp6
      rw [hWT, hT]
      clear hWT hT
      go_loopw [84] (fun kk wr => ∃ k : Nat, k ≤ 6 ∧ kk = .int .i64 (k : Nat) ∧ Below WT.heap.size WT wr) (fun kk _ => 6 - (intOf kk).toNat)
      case atStart => exact ⟨0, by omega, rfl, Below.refl _ _⟩
      case round =>
        obtain ⟨k, hk, rfl, hB⟩ := hrel
        have hsz := hB.size
        by_cases hlt : k < 6
        · have hltI : (k : Int) < 6 := by omega
          obtain ⟨au, av, cu, cv, lu, lv, c0, c1, Vu, Vv⟩ := hp6 k hlt
          have d0 := cell_below hB c0
          have d1 := cell_below hB c1
          have Vu2 := Vu.up hB
          have Vv2 := Vv.up hB
          have hbel7 := hbel6.trans (hB.mono hbel6.size)
          clear hp6 c0 c1 Vu Vv
          go_upto_region 14 with fail
          have hbP : Below wr.heap.size wr (wr.alloc (.cells #[.slice au lu.length cu, .slice av lv.length cv] 52)) := (Below.refl _ _).alloc (Nat.le_refl _) _
          have kP := Blk.new wr #[.slice au lu.length cu, .slice av lv.length cv] 52
          obtain ⟨BP, hBP⟩ : ∃ b, wr.heap.size = b := ⟨_, rfl⟩
          have Vu3 := Vu2.up hbP
          have Vv3 := Vv2.up hbP
          have hB3 := hB.trans (hbP.mono hsz)
          have hbel8 := hbel7.trans (hbP.mono hbel7.size)
          obtain ⟨WP, hWP⟩ : ∃ W, wr.alloc (.cells #[.slice au lu.length cu, .slice av lv.length cv] 52) = W := ⟨_, rfl⟩
          rw [hWP] at kP Vu3 Vv3 hB3 hbel8
          rw [hBP] at kP
          rw [hWP, hBP]
          clear hWP hBP hbP hB hsz hbel7 Vu2 Vv2 d0 d1
          have hR1 : ∀ W, Below WP.heap.size WP W → Calls Try.prog 17 #[.slice au lu.length cu, .slice av lv.length cv] W fun e w' => ∃ u, e = .returned u ∧ w'.ownsRow W.heap.size 3 1 u (idsL lu lv).length ((idsL lu lv).flatMap inE.enc) ∧ Below W.heap.size W w' := fun W hb => reach_any _ _ lu lv W (Vu3.up hb).L (Vv3.up hb).L (by have := Vu3.le; omega) (by have := Vv3.le; omega) Vu3.key Vv3.key
          have hR2 : ∀ W, Below WP.heap.size WP W → Calls Try.prog 18 #[.slice au lu.length cu, .slice av lv.length cv] W fun e w' => ∃ u, e = .returned u ∧ w'.ownsRow W.heap.size 3 1 u (idsL lu lv).length ((idsL lu lv).flatMap inE.enc) ∧ Below W.heap.size W w' := fun W hb => reach24_any _ _ lu lv W (Vu3.up hb).L (Vv3.up hb).L (by have := Vu3.le; omega) (by have := Vv3.le; omega)
          have hid17 : (idsL lu lv).length ≤ 1000000 := by unfold idsL; rw [List.length_map]; have := reachL_len lu lv lv.length; have := Vv3.le; omega
          refine Go.wp_region_rel 10 (by kernel_rfl) (by kernel_rfl) (fun _ W => PrR WP BP (.slice au lu.length cu) (.slice av lv.length cv) W) (fun w w' => Below w.heap.size w w') (FPr WP BP cu cv au av lu lv) (fun _ _ _ _ h g => h.kept g) ⟨(Below.refl _ _).drew, kP.drew⟩ ?step14 ?tail14
          case step14 =>
            clear kP Vu3 Vv3
            intro i o hi ho c bb W hc hM hA hD K hK
            match i, hi, ho with
            | 0, _, ho =>
              cases ho
              have f13 : bb.tmps[13]?.getD undef = .pointer (some ⟨BP, 0, none⟩) := evalAt (v := .pointer (some ⟨BP, 0, none⟩)) (hA.at_ (k := 13) (by kernel_rfl))
              go_simp
              exact hK (.pointer (some ⟨BP, 0, none⟩)) W rfl (Below.refl _ _) hM
            | 1, _, ho =>
              cases ho
              have f88 : bb.tmps[88]?.getD undef = .pointer (some ⟨BP, 0, none⟩) := evalAt (v := .pointer (some ⟨BP, 0, none⟩)) (dep_at hD 0 88 (by kernel_rfl) rfl rfl)
              have z0 : W.cell? ⟨BP, 0, none⟩ = some (.slice au lu.length cu) := hM.k.cell 0
              go_simp
              exact hK (.slice au lu.length cu) W rfl (Below.refl _ _) hM
            | 2, _, ho =>
              cases ho
              have f13 : bb.tmps[13]?.getD undef = .pointer (some ⟨BP, 0, none⟩) := evalAt (v := .pointer (some ⟨BP, 0, none⟩)) (hA.at_ (k := 13) (by kernel_rfl))
              go_simp
              exact hK (.pointer (some ⟨BP, 1, none⟩)) W rfl (Below.refl _ _) hM
            | 3, _, ho =>
              cases ho
              have f90 : bb.tmps[90]?.getD undef = .pointer (some ⟨BP, 1, none⟩) := evalAt (v := .pointer (some ⟨BP, 1, none⟩)) (dep_at hD 2 90 (by kernel_rfl) rfl rfl)
              have z0 : W.cell? ⟨BP, 1, none⟩ = some (.slice av lv.length cv) := hM.k.cell 1
              go_simp
              exact hK (.slice av lv.length cv) W rfl (Below.refl _ _) hM
            | 4, _, ho =>
              cases ho
              have f89 : bb.tmps[89]?.getD undef = .slice au lu.length cu := evalAt (v := .slice au lu.length cu) (dep_at hD 1 89 (by kernel_rfl) rfl rfl)
              have f91 : bb.tmps[91]?.getD undef = .slice av lv.length cv := evalAt (v := .slice av lv.length cv) (dep_at hD 3 91 (by kernel_rfl) rfl rfl)
              go_simp
              refine (hR1 W hM.bel).mono ?_
              rintro e W' ⟨u', rfl, hr, hb⟩
              go_simp
              exact hK u' W' (ownsRow_base hr hM.bel.size) hb (hM.up hb)
            | 5, _, ho =>
              cases ho
              have f13 : bb.tmps[13]?.getD undef = .pointer (some ⟨BP, 0, none⟩) := evalAt (v := .pointer (some ⟨BP, 0, none⟩)) (hA.at_ (k := 13) (by kernel_rfl))
              go_simp
              exact hK (.pointer (some ⟨BP, 0, none⟩)) W rfl (Below.refl _ _) hM
            | 6, _, ho =>
              cases ho
              have f93 : bb.tmps[93]?.getD undef = .pointer (some ⟨BP, 0, none⟩) := evalAt (v := .pointer (some ⟨BP, 0, none⟩)) (dep_at hD 5 93 (by kernel_rfl) rfl rfl)
              have z0 : W.cell? ⟨BP, 0, none⟩ = some (.slice au lu.length cu) := hM.k.cell 0
              go_simp
              exact hK (.slice au lu.length cu) W rfl (Below.refl _ _) hM
            | 7, _, ho =>
              cases ho
              have f13 : bb.tmps[13]?.getD undef = .pointer (some ⟨BP, 0, none⟩) := evalAt (v := .pointer (some ⟨BP, 0, none⟩)) (hA.at_ (k := 13) (by kernel_rfl))
              go_simp
              exact hK (.pointer (some ⟨BP, 1, none⟩)) W rfl (Below.refl _ _) hM
            | 8, _, ho =>
              cases ho
              have f95 : bb.tmps[95]?.getD undef = .pointer (some ⟨BP, 1, none⟩) := evalAt (v := .pointer (some ⟨BP, 1, none⟩)) (dep_at hD 7 95 (by kernel_rfl) rfl rfl)
              have z0 : W.cell? ⟨BP, 1, none⟩ = some (.slice av lv.length cv) := hM.k.cell 1
              go_simp
              exact hK (.slice av lv.length cv) W rfl (Below.refl _ _) hM
            | 9, _, ho =>
              cases ho
              have f94 : bb.tmps[94]?.getD undef = .slice au lu.length cu := evalAt (v := .slice au lu.length cu) (dep_at hD 6 94 (by kernel_rfl) rfl rfl)
              have f96 : bb.tmps[96]?.getD undef = .slice av lv.length cv := evalAt (v := .slice av lv.length cv) (dep_at hD 8 96 (by kernel_rfl) rfl rfl)
              go_simp
              refine (hR2 W hM.bel).mono ?_
              rintro e W' ⟨u', rfl, hr, hb⟩
              go_simp
              exact hK u' W' (ownsRow_base hr hM.bel.size) hb (hM.up hb)
            | i + 10, hi, _ => exact absurd hi (by omega)
          case tail14 =>
            intro bb W' hM hA hall
            have hr92 : W'.ownsRow WP.heap.size 3 1 (bb.eval (.tmp 92)) (idsL lu lv).length ((idsL lu lv).flatMap inE.enc) := hall 4 (by omega) _ _ rfl rfl
            have hr97 : W'.ownsRow WP.heap.size 3 1 (bb.eval (.tmp 97)) (idsL lu lv).length ((idsL lu lv).flatMap inE.enc) := hall 9 (by omega) _ _ rfl rfl
            obtain ⟨v92, hv92⟩ : ∃ v, bb.eval (.tmp 92) = v := ⟨_, rfl⟩
            obtain ⟨v97, hv97⟩ : ∃ v, bb.eval (.tmp 97) = v := ⟨_, rfl⟩
            rw [hv92] at hr92
            rw [hv97] at hr97
            have hfr := hA.frame [true, true, true, true, true, true, true, true, true, true, true, true, true, true, true, true, true, true, true, true, true, true, true, true, true, true, true, true, true, true, true, true, true, true, true, true, true, true, true, true, true, true, true, true, true, true, true, true, true, true, true, true, true, true, true, true, true, true, true, true, true, true, true, true, true, true, true, true, true, true, true, true, true, true, true, true, true, true, true, true, true, true, true, true, true, true, true, true, false, false, false, false, false, false, false, false, false, false, true, true, true, true] _ rfl (by kernel_rfl)
            clear hall hA
            obtain ⟨f, hf⟩ : ∃ f : Nat → Value, (fun k => bb.tmps.getD k undef) = f := ⟨_, rfl⟩
            have g92 : f 92 = v92 := by rw [← hf, ← hv92]; rfl
            have g97 : f 97 = v97 := by rw [← hf, ← hv97]; rfl
            rw [hf] at hfr
            clear hf hv92 hv97
            subst hfr
            simp only [pickL, g92, g97, Nat.reduceAdd]
            clear g92 g97
            simp only [List.drop_succ_cons, List.drop_zero]
            have hbx := hM.bel
            have hsame := same9_any v92 v97 _ _ W' _ _ (lst_of_row inOk hr92 hid17) (lst_of_row inOk hr97 hid17)
            rw [decide_eq_true rfl] at hsame
            have hB4 := hB3.trans (hbx.mono hB3.size)
            clear hM kP hR1 hR2 Vu3 Vv3 hr92 hr97
            go_wp2_with (first
              | (go_at_call 16; (with_reducible refine hsame.mono ?_); rintro e w9 ⟨rfl, hb9⟩)
              | fail)
            go_roundw
            case rel => exact ⟨k + 1, by omega, by go_num, hB4.trans (hb9.mono hB4.size)⟩
            case measure => simp [intOf]; omega
        · obtain rfl : k = 6 := by omega
          have hbel7 := hbel6.trans (hB.mono hbel6.size)
          go_wp2_with fail
          go_ret
          exact ⟨rfl, hbel7⟩
end Go.Proofs.Ytikojanpbbiaiaa
