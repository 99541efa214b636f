/- Laws of frames, guards, navigation: plain Lean, no program in sight. -/
import Derived.Test.YtghkpailmdlhgaaFr
set_option linter.unusedVariables false
set_option linter.unusedSimpArgs false
namespace Go.Proofs.Ytghkpailmdlhgaa
open Go.RowKit Go.Eng
theorem withinN_ind {l : List Fr} {top : Int} (P : Int → Prop) (h0 : P top) (hs : ∀ k : Int, 0 ≤ k → k < l.length → P (l.getD k.toNat default).par → P k) : ∀ (n : Nat) (k : Int), withinN l n k top = true → P k
  | 0, k, h => by cases h
  | n + 1, k, h => by
    simp only [withinN] at h
    by_cases c : k < 0 ∨ (l.length : Int) ≤ k
    · rw [if_pos c] at h; cases h
    · rw [if_neg c] at h
      by_cases e : k = top
      · rw [e]; exact h0
      · rw [if_neg e] at h
        exact hs k (by omega) (by omega) (withinN_ind P h0 hs n _ h)
theorem within_ind {l : List Fr} {k top : Int} (P : Int → Prop) (h0 : P top) (hs : ∀ k : Int, 0 ≤ k → k < l.length → P (l.getD k.toNat default).par → P k) (h : withinFr l k top = true) : P k := withinN_ind P h0 hs _ k h
theorem within_le {l : List Fr} (hc : checkFr l = 0) {k top : Int} (h : withinFr l k top = true) : top ≤ k :=
  within_ind (fun k => top ≤ k) (Int.le_refl _) (fun k h0 h1 h2 => by have := parent_lt hc h0 h1; omega) h
theorem within_self {l : List Fr} {k : Int} (h0 : 0 ≤ k) (h1 : k < l.length) : withinFr l k k = true := by
  unfold withinFr
  obtain ⟨n, hn⟩ : ∃ n, l.length = n + 1 := ⟨l.length - 1, by omega⟩
  have : withinN l l.length k k = withinN l (n + 1) k k := by rw [hn]
  rw [this]
  simp only [withinN]
  have c : ¬ (k < 0 ∨ (l.length : Int) ≤ k) := by omega
  rw [if_neg c]
  simp
theorem and7 : ∀ a b : Fin 8, bits .andNot .i64 (a.1 : Int) b.1 = 0 → bits .and .i64 (b.1 : Int) 2 = 0 → bits .and .i64 (a.1 : Int) 2 = 0 := by decide
theorem and_down {a b : Int} (ha : 0 ≤ a ∧ a ≤ 7) (hb : 0 ≤ b ∧ b ≤ 7) (h : bits .andNot .i64 a b = 0) (h2 : bits .and .i64 b 2 = 0) : bits .and .i64 a 2 = 0 := by
  have := and7 ⟨a.toNat, by omega⟩ ⟨b.toNat, by omega⟩
  simp only [Int.toNat_of_nonneg ha.1, Int.toNat_of_nonneg hb.1] at this
  exact this h h2
/-- What a checked frame's own row says of it and of its parent. -/
theorem row_of {l : List Fr} (hc : checkFr l = 0) {k : Int} (h0 : 0 ≤ k) (h1 : k < l.length) : 0 ≤ (l.getD k.toNat default).may ∧ (l.getD k.toNat default).may ≤ 7 := by
  have := range_bounds (frErr_parts (check_at hc (i := k.toNat) (by omega))).2.1
  exact ⟨this.2.2.1, this.2.2.2.1⟩
theorem form_of {l : List Fr} (hc : checkFr l = 0) {k : Int} (h0 : 0 < k) (h1 : k < l.length) : 0 ≤ (l.getD k.toNat default).par ∧ (l.getD k.toNat default).par < k ∧ bits .andNot .i64 (l.getD k.toNat default).may (l.getD (l.getD k.toNat default).par.toNat default).may = 0 ∧
    ((l.getD (l.getD k.toNat default).par.toNat default).gone = true → (l.getD k.toNat default).gone = true) := by
  obtain ⟨h2, h3, h4⟩ := frErr_parts (check_at hc (i := k.toNat) (by omega))
  have h5 := who_bounds h2
  have h6 : decide (0 < ((k.toNat : Nat) : Int)) = true := decide_eq_true (by omega)
  rw [h6, Bool.true_and] at h4
  simp only [frForm, Bool.or_eq_false_iff, Bool.not_eq_false', decide_eq_true_eq] at h4
  refine ⟨by omega, by omega, h4.1, fun hg => ?_⟩
  have h7 := h4.2
  rw [hg] at h7
  simpa using h7
theorem may_down {l : List Fr} (hc : checkFr l = 0) {k top : Int} (ht0 : 0 ≤ top) (ht : top < l.length) (h : withinFr l k top = true) (h2 : bits .and .i64 (l.getD top.toNat default).may 2 = 0) : bits .and .i64 (l.getD k.toNat default).may 2 = 0 := by
  have h3 : 0 ≤ k ∧ (k < l.length → bits .and .i64 (l.getD k.toNat default).may 2 = 0) := by
    refine within_ind (fun k => 0 ≤ k ∧ (k < l.length → bits .and .i64 (l.getD k.toNat default).may 2 = 0)) ⟨ht0, fun _ => h2⟩ (fun k h0 h1 hp => ⟨h0, fun _ => ?_⟩) h
    have := parent_lt hc h0 h1
    have hp0 := hp.1
    obtain ⟨p0, p1, pf, _⟩ := form_of hc (by omega) h1
    exact and_down (row_of hc h0 h1) (row_of hc p0 (by omega)) pf (hp.2 (by omega))
  refine h3.2 ?_
  have h0 := h3.1
  by_cases q : k < l.length
  · exact q
  · rw [within_out (by omega)] at h; cases h
theorem May_1 {l : List Fr} {a b : Int} (hc : checkFr l = 0) (hA : holdsFr l a = 0) (hB : holdsFr l b = 0) : MayFr l a b 1 = if (l.getD a.toNat default).org = (l.getD b.toNat default).org then 0 else 7 := by
  rw [May_is ⟨hc, hA, hB⟩, if_neg (by omega), ask1]; simp only [decide_eq_true_eq]
theorem May_2 {l : List Fr} {a b : Int} (hc : checkFr l = 0) (hA : holdsFr l a = 0) (hB : holdsFr l b = 0) : MayFr l a b 2 = 0 := May_0 ⟨hc, hA, hB⟩ (by omega) rfl
theorem May_3' {l : List Fr} {a b : Int} (hc : checkFr l = 0) (hA : holdsFr l a = 0) (hB : holdsFr l b = 0) : MayFr l a b 3 = if bits .and .i64 (l.getD a.toNat default).may 2 = 0 then 7 else 0 := by
  rw [May_is ⟨hc, hA, hB⟩, if_neg (by omega)]
  show (if (!decide (bits .and .i64 (l.getD a.toNat default).may 2 = 0)) = true then (0 : Int) else 7) = _
  by_cases h : bits .and .i64 (l.getD a.toNat default).may 2 = 0
  · rw [if_pos h, if_neg (by rw [decide_eq_true h]; simp)]
  · rw [if_neg h, if_pos (by rw [decide_eq_false h]; rfl)]
theorem May_45 {l : List Fr} {a b w : Int} (hw : w = 4 ∨ w = 5) (hc : checkFr l = 0) (hA : holdsFr l a = 0) (hB : holdsFr l b = 0) : MayFr l a b w = if a ≠ b ∧ withinFr l b a = true then 0 else 7 := by
  rw [May_is ⟨hc, hA, hB⟩, if_neg (by omega), ask45 hw]
  by_cases h : a ≠ b ∧ withinFr l b a = true
  · rw [if_pos h, if_pos (by simp [h.1, h.2])]
  · rw [if_neg h, if_neg (fun h2 => h (by simpa using h2))]
theorem one_1 {l : List Fr} {a b : Int} (hc : checkFr l = 0) (hA : holdsFr l a = 0) (hB : holdsFr l b = 0) : ((!decide (MayFr l a b 1 = MayFr l b a 1) || !decide (MayFr l a b 2 = 0)) || !decide (MayFr l a a 1 = 0)) = false := by
  rw [May_2 hc hA hB, May_1 hc hA hB, May_1 hc hB hA, May_1 hc hA hA]
  simp [eq_comm]
theorem one_2 {l : List Fr} {a b : Int} (hc : checkFr l = 0) (hA : holdsFr l a = 0) (hB : holdsFr l b = 0) : (decide (MayFr l a b 4 = 0) && decide (MayFr l b a 4 = 0)) = false := by
  rw [May_45 (.inl rfl) hc hA hB, May_45 (.inl rfl) hc hB hA]
  by_cases h1 : a ≠ b ∧ withinFr l b a = true
  · by_cases h2 : b ≠ a ∧ withinFr l a b = true
    · have := within_le hc h1.2
      have := within_le hc h2.2
      exact absurd (by omega : a = b) h1.1
    · rw [if_neg h2]; simp
  · rw [if_neg h1]; simp
theorem one_3 {l : List Fr} {a b : Int} (hc : checkFr l = 0) (hA : holdsFr l a = 0) (hB : holdsFr l b = 0) : ((!withinFr l b a || decide (MayFr l a a 3 = 0)) || decide (MayFr l b a 3 = 7)) = true := by
  rw [May_3' hc hA hA, May_3' hc hB hA]
  have h1 := holds_in hA
  cases hw : withinFr l b a with
  | false => rfl
  | true =>
    by_cases h2 : bits .and .i64 (l.getD a.toNat default).may 2 = 0
    · rw [if_pos h2, if_pos (may_down hc h1.1 h1.2.1 hw h2)]; rfl
    · rw [if_neg h2]; rfl
end Go.Proofs.Ytghkpailmdlhgaa
