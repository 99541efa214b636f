/- Frames: the laws themselves, in plain Lean. -/
import Derived.Test.YtghkpailmdlhgaaFu
set_option linter.unusedVariables false
set_option linter.unusedSimpArgs false
namespace Go.Proofs.Ytghkpailmdlhgaa
open Go.RowKit Go.Eng
/-! How many are in all together. -/
def kidsSum (l : List Fr) : Nat → Int
  | 0 => 0
  | n + 1 => if (l.getD n default).gone = true then kidsSum l n else kidsSum l n + ((l.countP (kidP n) : Nat) : Int)
def liveP (f : Fr) : Bool := !f.gone
def inP (l : List Fr) (n : Nat) (f : Fr) : Bool := (!f.gone && decide (0 ≤ f.par ∧ f.par < n)) && !(l.getD f.par.toNat default).gone
theorem countP_or {α : Type} (p q : α → Bool) : ∀ l : List α, (∀ f, (p f && q f) = false) → l.countP (fun f => p f || q f) = l.countP p + l.countP q
  | [], _ => rfl
  | x :: r, h => by
    simp only [List.countP_cons, countP_or p q r h]
    have := h x
    cases hp : p x <;> cases hq : q x <;> simp_all <;> omega
theorem countP_ext {α : Type} {p q : α → Bool} {l : List α} (d : α) (h : ∀ i, i < l.length → p (l.getD i d) = q (l.getD i d)) : l.countP p = l.countP q := by
  refine List.countP_congr fun x hx => ?_
  obtain ⟨i, hi, rfl⟩ := List.mem_iff_getElem.1 hx
  have := h i hi
  rw [getD_lt hi] at this
  rw [this]
theorem kids_in (l : List Fr) : ∀ n, kidsSum l n = ((l.countP (inP l n) : Nat) : Int)
  | 0 => by
    have : l.countP (inP l 0) = 0 := List.countP_eq_zero.2 fun f _ => by
      simp only [inP, Bool.and_eq_true, decide_eq_true_eq, not_and, Bool.not_eq_true', Bool.not_eq_false]
      omega
    rw [this]; rfl
  | n + 1 => by
    rw [kidsSum, kids_in l n]
    by_cases hg : (l.getD n default).gone = true
    · rw [if_pos hg]
      congr 1
      refine countP_ext default fun i hi => ?_
      simp only [inP]
      by_cases e : (l.getD i default).par = n
      · have : (l.getD i default).par.toNat = n := by omega
        rw [this, hg]; simp
      · have : (0 ≤ (l.getD i default).par ∧ (l.getD i default).par < ((n + 1 : Nat) : Int)) ↔ (0 ≤ (l.getD i default).par ∧ (l.getD i default).par < (n : Int)) := by omega
        rw [decide_eq_decide.2 this]
    · rw [if_neg hg]
      have h1 : l.countP (inP l (n + 1)) = l.countP (fun f => inP l n f || kidP n f) := countP_ext default fun i hi => by
        simp only [inP, kidP]
        by_cases e : (l.getD i default).par = n
        · have : (l.getD i default).par.toNat = n := by omega
          have hg' : (l.getD n default).gone = false := by simpa using hg
          rw [this, hg', e]
          rw [decide_eq_true (by omega : (0 : Int) ≤ n ∧ (n : Int) < ((n + 1 : Nat) : Int)), decide_eq_false (by omega : ¬ ((0 : Int) ≤ n ∧ (n : Int) < (n : Int))), decide_eq_true rfl]
          simp
        · have : (0 ≤ (l.getD i default).par ∧ (l.getD i default).par < ((n + 1 : Nat) : Int)) ↔ (0 ≤ (l.getD i default).par ∧ (l.getD i default).par < (n : Int)) := by omega
          have hd : decide (0 ≤ (l.getD i default).par ∧ (l.getD i default).par < ((n + 1 : Nat) : Int)) = decide (0 ≤ (l.getD i default).par ∧ (l.getD i default).par < (n : Int)) := decide_eq_decide.2 this
          rw [hd, decide_eq_false e]
          simp
      rw [h1, countP_or]
      · simp
      · intro f
        simp only [inP, kidP]
        by_cases e : f.par = n
        · rw [decide_eq_false (by omega : ¬ (0 ≤ f.par ∧ f.par < (n : Int)))]; simp
        · rw [decide_eq_false e]; simp
theorem kids_all {l : List Fr} (hc : checkFr l = 0) (hn : l.length ≠ 0) (h0 : (l.getD 0 default).gone = false) : kidsSum l l.length = -1 + ((l.countP liveP : Nat) : Int) := by
  rw [kids_in]
  have hq : ∀ i, i < l.length → inP l l.length (l.getD i default) = (liveP (l.getD i default) && decide (0 < i)) := fun i hi => by
    have hw := who_bounds (frErr_parts (check_at hc hi)).1
    simp only [inP, liveP]
    by_cases e : i = 0
    · rw [decide_eq_false (by omega : ¬ (0 ≤ (l.getD i default).par ∧ (l.getD i default).par < (l.length : Int))), decide_eq_false (by omega)]; simp
    · rw [decide_eq_true (by omega : 0 ≤ (l.getD i default).par ∧ (l.getD i default).par < (l.length : Int)), decide_eq_true (by omega)]
      cases hg : (l.getD i default).gone with
      | true => simp
      | false =>
        cases hp : (l.getD (l.getD i default).par.toNat default).gone with
        | false => simp
        | true => rw [gone_up hc hi (by omega) hp] at hg; cases hg
  cases l with
  | nil => simp at hn
  | cons f r =>
    have h1 := hq 0 (by simp)
    rw [decide_eq_false (by omega), Bool.and_false] at h1
    have h1' : inP (f :: r) (f :: r).length f = false := h1
    have h0' : liveP f = true := by
      have : f.gone = false := h0
      simp [liveP, this]
    have h2 : r.countP (inP (f :: r) (f :: r).length) = r.countP liveP := countP_ext default fun i hi => by
      have := hq (i + 1) (by simp; omega)
      rw [decide_eq_true (by omega), Bool.and_true] at this
      simpa using this
    rw [List.countP_cons, List.countP_cons, h2, h1', h0']
    simp; omega

/-! Who is in another one. -/
theorem sub_refl8 : ∀ a : Fin 8, bits .andNot .i64 (a.1 : Int) a.1 = 0 := by decide
theorem sub_trans8 : ∀ a b c : Fin 8, bits .andNot .i64 (a.1 : Int) b.1 = 0 → bits .andNot .i64 (b.1 : Int) c.1 = 0 → bits .andNot .i64 (a.1 : Int) c.1 = 0 := by decide
theorem and8 : ∀ a b : Fin 8, 0 ≤ bits .and .i64 (a.1 : Int) b.1 ∧ bits .and .i64 (a.1 : Int) b.1 ≤ 7 ∧ bits .andNot .i64 (bits .and .i64 (a.1 : Int) b.1) b.1 = 0 ∧ bits .andNot .i64 (bits .and .i64 (a.1 : Int) b.1) a.1 = 0 := by decide
theorem sub_refl {a : Int} (ha : 0 ≤ a ∧ a ≤ 7) : bits .andNot .i64 a a = 0 := by
  have := sub_refl8 ⟨a.toNat, by omega⟩
  simp only at this
  rwa [Int.toNat_of_nonneg ha.1] at this
theorem sub_trans {a b c : Int} (ha : 0 ≤ a ∧ a ≤ 7) (hb : 0 ≤ b ∧ b ≤ 7) (hc : 0 ≤ c ∧ c ≤ 7) (h1 : bits .andNot .i64 a b = 0) (h2 : bits .andNot .i64 b c = 0) : bits .andNot .i64 a c = 0 := by
  have := sub_trans8 ⟨a.toNat, by omega⟩ ⟨b.toNat, by omega⟩ ⟨c.toNat, by omega⟩
  simp only at this
  rw [Int.toNat_of_nonneg ha.1, Int.toNat_of_nonneg hb.1, Int.toNat_of_nonneg hc.1] at this
  exact this h1 h2
theorem and_parts {a b : Int} (ha : 0 ≤ a ∧ a ≤ 7) (hb : 0 ≤ b ∧ b ≤ 7) : 0 ≤ bits .and .i64 a b ∧ bits .and .i64 a b ≤ 7 ∧ bits .andNot .i64 (bits .and .i64 a b) b = 0 ∧ bits .andNot .i64 (bits .and .i64 a b) a = 0 := by
  have := and8 ⟨a.toNat, by omega⟩ ⟨b.toNat, by omega⟩
  simp only at this
  rwa [Int.toNat_of_nonneg ha.1, Int.toNat_of_nonneg hb.1] at this
theorem within_sub {l : List Fr} (hc : checkFr l = 0) {k top : Int} (ht0 : 0 ≤ top) (ht : top < l.length) (hk : k < l.length) (h : withinFr l k top = true) : bits .andNot .i64 (l.getD k.toNat default).may (l.getD top.toNat default).may = 0 := by
  have h3 : 0 ≤ k ∧ (k < l.length → bits .andNot .i64 (l.getD k.toNat default).may (l.getD top.toNat default).may = 0) := by
    refine within_ind (fun k => 0 ≤ k ∧ (k < l.length → bits .andNot .i64 (l.getD k.toNat default).may (l.getD top.toNat default).may = 0)) ⟨ht0, fun _ => sub_refl (row_of hc ht0 ht)⟩ (fun k h0 h1 hp => ⟨h0, fun _ => ?_⟩) h
    have := parent_lt hc h0 h1
    have hp0 := hp.1
    obtain ⟨p0, p1, pf, _⟩ := form_of hc (by omega) h1
    exact sub_trans (row_of hc h0 h1) (row_of hc p0 (by omega)) (row_of hc ht0 ht) pf (hp.2 (by omega))
  exact h3.2 hk
theorem within_trans {l : List Fr} (hc : checkFr l = 0) {a b c : Int} (h1 : withinFr l a b = true) (h2 : withinFr l b c = true) : withinFr l a c = true := by
  refine within_ind (fun a => withinFr l a c = true) h2 (fun k h0 h1 hp => ?_) h1
  rw [within_in hc (by omega), hp]; simp
theorem firstErr_zero {f : Nat → Int} : ∀ (n i : Nat), (∀ j, i ≤ j → j < i + n → f j = 0) → firstErr f i n = 0
  | 0, _, _ => rfl
  | n + 1, i, h => by
    rw [firstErr, if_neg (by rw [h i (Nat.le_refl _) (by omega)]; simp)]
    exact firstErr_zero n (i + 1) fun j h1 h2 => h j (by omega) (by omega)
theorem check_of {l : List Fr} (h8 : l.length ≤ 8) (h : ∀ i, i < l.length → frErr l i = 0) : checkFr l = 0 := by
  unfold checkFr
  rw [if_neg (by omega)]
  exact firstErr_zero _ _ fun j _ hj => h j (by omega)
/-- The same but for marks and places: right, if the marks go down. -/
theorem check_like {l m : List Fr} (hc : checkFr l = 0) (hlen : m.length = l.length) (hp : ∀ i, i < l.length → (m.getD i default).par = (l.getD i default).par ∧ (m.getD i default).may = (l.getD i default).may)
    (hr : ∀ i, i < l.length → (0 ≤ (m.getD i default).org ∧ (m.getD i default).org ≤ 9) ∧ 0 ≤ (m.getD i default).turn ∧ (m.getD i default).turn ≤ 1000)
    (hg : ∀ i, 0 < i → i < l.length → (m.getD (l.getD i default).par.toNat default).gone = true → (m.getD i default).gone = true) : checkFr m = 0 := by
  have h8 := check_len hc
  refine check_of (by omega) fun i hi => ?_
  rw [hlen] at hi
  obtain ⟨h1, h2, h3⟩ := frErr_parts (check_at hc hi)
  have hw := who_bounds h1
  have hb := range_bounds h2
  have e1 : frWho i (m.getD i default) = false := by unfold frWho at h1 ⊢; rw [(hp i hi).1]; exact h1
  have e2 : frRange (m.getD i default) = false := by
    have := hr i hi
    simp only [frRange, Bool.or_eq_false_iff, decide_eq_false_iff_not, (hp i hi).2]
    omega
  refine frErr_0 e1 e2 ?_
  by_cases h0 : i = 0
  · rw [decide_eq_false (by omega)]; rfl
  · rw [decide_eq_true (by omega), Bool.true_and] at h3 ⊢
    rw [(hp i hi).1]
    have hpl : (l.getD i default).par.toNat < l.length := by omega
    simp only [frForm, Bool.or_eq_false_iff, Bool.not_eq_false', decide_eq_true_eq, (hp i hi).2, (hp _ hpl).2] at h3 ⊢
    refine ⟨h3.1, ?_⟩
    cases hpg : (m.getD (l.getD i default).par.toNat default).gone with
    | false => rfl
    | true => rw [hg i (by omega) hi hpg]; rfl
theorem par_in {l : List Fr} (hc : checkFr l = 0) {i : Nat} (h0 : 0 < i) (hi : i < l.length) : 0 ≤ (l.getD i default).par ∧ (l.getD i default).par < i := by
  have := who_bounds (frErr_parts (check_at hc hi)).1
  omega
theorem within_at {l : List Fr} (hc : checkFr l = 0) {i : Nat} (hi : i < l.length) (k : Int) : withinFr l i k = (decide ((i : Int) = k) || withinFr l (l.getD i default).par k) := by
  have := within_in hc (k := (i : Int)) (top := k) (by omega)
  simpa using this
theorem gone_check {l : List Fr} (hc : checkFr l = 0) {k : Int} (hk : holdsFr l k = 0) : checkFr (goneFr l k) = 0 := by
  have hB := holds_in hk
  have hat := fun j (hj : j < l.length) => goneFr_at hc ⟨hB.1, hB.2.1⟩ hj
  refine check_like hc (goneFr_len l k) (fun i hi => by rw [hat i hi]; exact ⟨rfl, rfl⟩) (fun i hi => ?_) (fun i h0 hi hg => ?_)
  · rw [hat i hi]
    have := range_bounds (frErr_parts (check_at hc hi)).2.1
    exact ⟨⟨this.1, this.2.1⟩, this.2.2.2.2.1, this.2.2.2.2.2⟩
  · have hp := par_in hc h0 hi
    rw [hat _ (by omega)] at hg
    rw [hat i hi]
    simp only [dFr, Bool.or_eq_true] at hg ⊢
    rcases hg with hg | hg
    · exact .inl (gone_up hc hi hp.1 hg)
    · right
      rw [within_at hc hi, Bool.or_eq_true]
      right
      rwa [show (((l.getD i default).par.toNat : Nat) : Int) = (l.getD i default).par by omega] at hg
theorem gone_holds {l : List Fr} (hc : checkFr l = 0) {k : Int} (hk : holdsFr l k = 0) : holdsFr (goneFr l k) k = 5 := by
  have hB := holds_in hk
  have hat := goneFr_at hc ⟨hB.1, hB.2.1⟩ (j := k.toNat) (by omega)
  refine holds_5 (by rw [goneFr_len]; omega) ?_
  rw [hat]
  simp only [dFr, Bool.or_eq_true]
  right
  rw [show ((k.toNat : Nat) : Int) = k by omega]
  exact within_self hB.1 hB.2.1
theorem disc_ok {l : List Fr} {k : Int} (h : (discardFr l k).2 = 0) : checkFr l = 0 ∧ holdsFr l k = 0 ∧ discardFr l k = (goneFr l k, 0) := by
  by_cases hc : checkFr l = 0
  · by_cases hk : holdsFr l k = 0
    · exact ⟨hc, hk, disc_3 hc hk⟩
    · rw [disc_2 hc hk] at h; exact absurd h hk
  · rw [disc_1 hc] at h; exact absurd h hc
theorem attach_ok {l : List Fr} {p org may : Int} (h : (attachFr l p org may).2 = 0) : checkFr l = 0 ∧ holdsFr l p = 0 ∧ attachBad org may = false ∧ ¬ bits .and .i64 (l.getD p.toNat default).may 4 = 0 ∧ ¬ l.length = 8 ∧ attachFr l p org may = (l ++ [newFr l p org may], 0) := by
  by_cases hc : checkFr l = 0
  · by_cases hk : holdsFr l p = 0
    · by_cases hb : attachBad org may = true
      · rw [attach_3 hc hk hb] at h; simp at h
      · have hb' : attachBad org may = false := by simpa using hb
        by_cases h4 : bits .and .i64 (l.getD p.toNat default).may 4 = 0
        · rw [attach_4 hc hk hb' h4] at h; simp at h
        · by_cases h8 : l.length = 8
          · rw [attach_5 hc hk hb' h4 h8] at h; simp at h
          · exact ⟨hc, hk, hb', h4, h8, attach_6 hc hk hb' h4 h8⟩
    · rw [attach_2 hc hk] at h; exact absurd h hk
  · rw [attach_1 hc] at h; exact absurd h hc
theorem bad_in {org may : Int} (h : attachBad org may = false) : 0 ≤ org ∧ org ≤ 9 ∧ 0 ≤ may ∧ may ≤ 7 := by
  simp only [attachBad, Bool.or_eq_false_iff, decide_eq_false_iff_not] at h
  omega
theorem attach_check {l : List Fr} {p org may : Int} (h : (attachFr l p org may).2 = 0) : checkFr (l ++ [newFr l p org may]) = 0 := by
  obtain ⟨hc, hk, hb, h4, h8, _⟩ := attach_ok h
  have hB := holds_in hk
  have hr := bad_in hb
  have hl := check_len hc
  have hpm := row_of hc hB.1 hB.2.1
  have hap := and_parts (a := may) (b := (l.getD p.toNat default).may) ⟨hr.2.2.1, hr.2.2.2⟩ hpm
  refine check_of (by simp; omega) fun i hi => ?_
  simp only [List.length_append, List.length_cons, List.length_nil] at hi
  by_cases e : i < l.length
  · have hgi : (l ++ [newFr l p org may]).getD i default = l.getD i default := by rw [getD_app, if_pos e]
    obtain ⟨h1, h2, h3⟩ := frErr_parts (check_at hc e)
    have hw := who_bounds h1
    refine frErr_0 (by rw [hgi]; exact h1) (by rw [hgi]; exact h2) ?_
    rw [hgi]
    by_cases h0 : i = 0
    · rw [decide_eq_false (by omega)]; rfl
    · have : (l ++ [newFr l p org may]).getD (l.getD i default).par.toNat default = l.getD (l.getD i default).par.toNat default := by rw [getD_app, if_pos (by omega)]
      rw [this]; exact h3
  · have ei : i = l.length := by omega
    subst ei
    have hgi : (l ++ [newFr l p org may]).getD l.length default = newFr l p org may := by rw [getD_app, if_neg (Nat.lt_irrefl _), Nat.sub_self]; rfl
    refine frErr_0 ?_ ?_ ?_
    · rw [hgi]
      unfold frWho
      rw [show (newFr l p org may).par = p from rfl]
      simp only [Bool.or_eq_false_iff, decide_eq_false_iff_not]
      refine ⟨⟨by omega, by omega⟩, ?_⟩
      rw [decide_eq_false (by omega : ¬ p < 0), decide_eq_false (by omega : ¬ ((l.length : Nat) : Int) = 0)]; rfl
    · rw [hgi]
      unfold frRange
      rw [show (newFr l p org may).org = org from rfl, show (newFr l p org may).may = bits .and .i64 may (l.getD p.toNat default).may from rfl, show (newFr l p org may).turn = 0 from rfl]
      simp only [Bool.or_eq_false_iff, decide_eq_false_iff_not]
      omega
    · rw [hgi]
      have : (l ++ [newFr l p org may]).getD (newFr l p org may).par.toNat default = l.getD p.toNat default := by
        show (l ++ [newFr l p org may]).getD p.toNat default = _
        rw [getD_app, if_pos (by omega)]
      rw [this, Bool.and_eq_false_iff]
      right
      unfold frForm
      rw [hB.2.2, Bool.false_and, Bool.or_false, Bool.not_eq_false', decide_eq_true_eq]
      exact hap.2.2.1

/-! What one may. -/
theorem May_what {l : List Fr} {a b : Int} (h : ¬ framedFr l [a, b] = 0) (w w' : Int) : MayFr l a b w = MayFr l a b w' := by rw [may_err h, may_err h]
theorem May_4_5 (l : List Fr) (a b : Int) : MayFr l a b 4 = MayFr l a b 5 := by
  by_cases h : framedFr l [a, b] = 0
  · obtain ⟨h1, h2, h3⟩ := framed2_0 h
    rw [May_45 (.inl rfl) h1 h2 h3, May_45 (.inr rfl) h1 h2 h3]
  · exact May_what h _ _
theorem May_ok {l : List Fr} {a b w : Int} (h : MayFr l a b w = 0) : checkFr l = 0 ∧ holdsFr l a = 0 ∧ holdsFr l b = 0 := by
  by_cases hf : framedFr l [a, b] = 0
  · exact framed2_0 hf
  · rw [may_err hf] at h; exact absurd h hf
theorem May_down {l : List Fr} {a b c : Int} (h : MayFr l a b 4 = 0) (hC : holdsFr l c = 0) (hw : withinFr l c b = true) : MayFr l a c 4 = 0 := by
  obtain ⟨hc, hA, hB⟩ := May_ok h
  rw [May_45 (.inl rfl) hc hA hB] at h
  rw [May_45 (.inl rfl) hc hA hC]
  by_cases q : a ≠ b ∧ withinFr l b a = true
  · refine if_pos ⟨fun e => ?_, within_trans hc hw q.2⟩
    subst e
    have h1 := within_le hc hw
    have h2 := within_le hc q.2
    exact q.1 (by omega)
  · rw [if_neg q] at h; cases h
theorem May_gone1 {l : List Fr} {a b w : Int} (h : ¬ holdsFr l b = 0) : ¬ MayFr l a b w = 0 := fun h1 => h (May_ok h1).2.2
theorem May_gone2 {l : List Fr} {a b w : Int} (h : ¬ holdsFr l b = 0) : ¬ MayFr l b a w = 0 := fun h1 => h (May_ok h1).2.1

/-! Who went elsewhere. -/
theorem nav_ok {l : List Fr} {k o : Int} (h : (navFr l k o).2 = 0) : checkFr l = 0 ∧ holdsFr l k = 0 ∧ navBad o = false ∧ ¬ (l.getD k.toNat default).turn = 1000 ∧ navFr l k o = (navPre l k o l.length, 0) := by
  by_cases hc : checkFr l = 0
  · by_cases hk : holdsFr l k = 0
    · by_cases hb : navBad o = true
      · rw [nav_3 hc hk hb] at h; simp at h
      · have hb' : navBad o = false := by simpa using hb
        by_cases ht : (l.getD k.toNat default).turn = 1000
        · rw [nav_4 hc hk hb' ht] at h; simp at h
        · exact ⟨hc, hk, hb', ht, nav_5 hc hk hb' ht⟩
    · rw [nav_2 hc hk] at h; exact absurd h hk
  · rw [nav_1 hc] at h; exact absurd h hc
theorem nFr_self {l : List Fr} {k o : Int} (hk : 0 ≤ k) : nFr l k o k.toNat = { l.getD k.toNat default with org := o, turn := (l.getD k.toNat default).turn + 1 } := by rw [nFr, if_pos (by omega)]
theorem nFr_other {l : List Fr} {k o : Int} {i : Nat} (h : ¬ (i : Int) = k) : nFr l k o i = { l.getD i default with gone := (l.getD i default).gone || withinFr l i k } := by
  rw [nFr, if_neg h]
  split
  · rename_i hw; rw [hw]; simp
  · rename_i hw
    have hw : withinFr l i k = false := by simpa using hw
    rw [hw, Bool.or_false]
theorem nav_check {l : List Fr} {k o : Int} (hc : checkFr l = 0) (hk : holdsFr l k = 0) (hb : navBad o = false) (ht : ¬ (l.getD k.toNat default).turn = 1000) : checkFr (navPre l k o l.length) = 0 := by
  have hB := holds_in hk
  have hat := fun j (hj : j < l.length) => navPre_at l k o hj
  have hT := turn_le hc hB.1 hB.2.1
  simp only [navBad, Bool.or_eq_false_iff, decide_eq_false_iff_not] at hb
  refine check_like hc (navPre_len l k o _) (fun i hi => ?_) (fun i hi => ?_) (fun i h0 hi hg => ?_)
  · rw [hat i hi, nFr]; split
    · exact ⟨rfl, rfl⟩
    · split <;> exact ⟨rfl, rfl⟩
  · rw [hat i hi]
    have := range_bounds (frErr_parts (check_at hc hi)).2.1
    by_cases e : (i : Int) = k
    · have e' : k.toNat = i := by omega
      rw [e'] at ht hT
      rw [nFr, if_pos e]
      exact ⟨⟨by show 0 ≤ o; omega, by show o ≤ 9; omega⟩, by show 0 ≤ (l.getD i default).turn + 1; omega, by show (l.getD i default).turn + 1 ≤ 1000; omega⟩
    · rw [nFr_other e]
      exact ⟨⟨this.1, this.2.1⟩, this.2.2.2.2.1, this.2.2.2.2.2⟩
  · have hp := par_in hc h0 hi
    have hpi : (((l.getD i default).par.toNat : Nat) : Int) = (l.getD i default).par := by omega
    rw [hat _ (by omega)] at hg
    rw [hat i hi]
    -- the parent is not the one that goes, or it stays
    by_cases ep : (((l.getD i default).par.toNat : Nat) : Int) = k
    · rw [nFr, if_pos ep] at hg
      have e' : (l.getD i default).par.toNat = k.toNat := by omega
      rw [e'] at hg
      have : (l.getD k.toNat default).gone = true := hg
      rw [hB.2.2] at this; cases this
    · rw [nFr_other ep] at hg
      simp only [Bool.or_eq_true] at hg
      by_cases e : (i : Int) = k
      · -- whose parent is gone is gone
        exfalso
        have e' : k.toNat = i := by omega
        rcases hg with hg | hg
        · have := gone_up hc hi hp.1 hg
          rw [← e', hB.2.2] at this; cases this
        · have := within_le hc hg
          omega
      · rw [nFr_other e]
        simp only [Bool.or_eq_true]
        rcases hg with hg | hg
        · exact .inl (gone_up hc hi hp.1 hg)
        · right
          rw [within_at hc hi, Bool.or_eq_true]
          right
          rwa [hpi] at hg
theorem nav_holds {l : List Fr} {k o : Int} (hk : holdsFr l k = 0) : holdsFr (navPre l k o l.length) k = 0 := by
  have hB := holds_in hk
  refine holds_0 (by rw [navPre_len]; omega) ?_
  rw [navPre_at l k o (by omega), nFr_self hB.1]
  exact hB.2.2
end Go.Proofs.Ytghkpailmdlhgaa
namespace Go.Proofs.Ytghkpailmdlhgaa
open Go.RowKit Go.Eng
def NvInv (l : List Fr) (k : Int) (nw : List Fr) : Prop := checkFr nw = 0 ∧ holdsFr nw k = 0 ∧ nw.length = l.length ∧ (l.getD k.toNat default).turn ≤ (nw.getD k.toNat default).turn ∧ (nw.getD k.toNat default).may = (l.getD k.toNat default).may
theorem nav_step {l nw : List Fr} {k o : Int} (h : NvInv l k nw) (h0 : (navFr nw k o).2 = 0) : NvInv l k (navFr nw k o).1 ∧ stillFr (navFr nw k o).1 k (l.getD k.toNat default).turn = false ∧ ((navFr nw k o).1.getD k.toNat default).org = o := by
  obtain ⟨hc, hk, hb, ht, he⟩ := nav_ok h0
  have hB := holds_in hk
  rw [he]
  have hat : (navPre nw k o nw.length).getD k.toNat default = { nw.getD k.toNat default with org := o, turn := (nw.getD k.toNat default).turn + 1 } := by rw [navPre_at nw k o (by omega), nFr_self hB.1]
  obtain ⟨h1, h2, h3, h4, h5⟩ := h
  refine ⟨⟨nav_check hc hk hb ht, nav_holds hk, by rw [navPre_len]; exact h3, ?_, ?_⟩, ?_, ?_⟩
  · show _ ≤ ((navPre nw k o nw.length).getD k.toNat default).turn
    rw [hat]; show _ ≤ (nw.getD k.toNat default).turn + 1; omega
  · show ((navPre nw k o nw.length).getD k.toNat default).may = _
    rw [hat]; exact h5
  · unfold stillFr
    rw [show ((navPre nw k o nw.length), (0 : Int)).1 = navPre nw k o nw.length from rfl, hat, Bool.and_eq_false_iff]
    right
    show decide ((nw.getD k.toNat default).turn + 1 = _) = false
    exact decide_eq_false (by omega)
  · show ((navPre nw k o nw.length).getD k.toNat default).org = o
    rw [hat]
theorem nav_other {l nw : List Fr} {k o : Int} (h : NvInv l k nw) (h0 : (navFr nw k o).2 = 0) {j : Nat} (hj : j < nw.length) (hjk : ¬ (j : Int) = k) :
    ((navFr nw k o).1.getD j default).gone = ((nw.getD j default).gone || withinFr nw j k) ∧ ((navFr nw k o).1.getD j default).org = (nw.getD j default).org ∧ ((navFr nw k o).1.getD j default).turn = (nw.getD j default).turn := by
  obtain ⟨hc, hk, hb, ht, he⟩ := nav_ok h0
  rw [he]
  show ((navPre nw k o nw.length).getD j default).gone = _ ∧ ((navPre nw k o nw.length).getD j default).org = _ ∧ ((navPre nw k o nw.length).getD j default).turn = _
  rw [navPre_at nw k o hj, nFr_other hjk]
  exact ⟨rfl, rfl, rfl⟩
end Go.Proofs.Ytghkpailmdlhgaa
namespace Go.Proofs.Ytghkpailmdlhgaa
open Go.RowKit Go.Eng
theorem may_1 {l : List Fr} {k org may : Int} (h : (attachFr l k org may).2 = 0) :
    (((((!decide (checkFr (attachFr l k org may).1 = 0) || !decide (((attachFr l k org may).1.length : Int) = (l.length : Int) + 1)) || !decide (bits .andNot .i64 ((attachFr l k org may).1.getD l.length default).may (l.getD (Int.toNat k) default).may = 0)) ||
      !decide (bits .andNot .i64 ((attachFr l k org may).1.getD l.length default).may may = 0)) || decide (bits .and .i64 (l.getD (Int.toNat k) default).may 4 = 0)) || !(eqFr ((attachFr l k org may).1.take l.length) l)) = false := by
  have hck := attach_check h
  obtain ⟨hc, hk, hb, h4, h8, he⟩ := attach_ok h
  have hB := holds_in hk
  have hr := bad_in hb
  have hap := and_parts (a := may) (b := (l.getD k.toNat default).may) ⟨hr.2.2.1, hr.2.2.2⟩ (row_of hc hB.1 hB.2.1)
  have hgi : (l ++ [newFr l k org may]).getD l.length default = newFr l k org may := by rw [getD_app, if_neg (Nat.lt_irrefl _), Nat.sub_self]; rfl
  have htk : (l ++ [newFr l k org may]).take l.length = l := List.take_left
  have hm : (newFr l k org may).may = bits .and .i64 may (l.getD k.toNat default).may := rfl
  rw [he]
  show (((((!decide (checkFr (l ++ [newFr l k org may]) = 0) || !decide (((l ++ [newFr l k org may]).length : Int) = (l.length : Int) + 1)) || !decide (bits .andNot .i64 ((l ++ [newFr l k org may]).getD l.length default).may (l.getD (Int.toNat k) default).may = 0)) ||
      !decide (bits .andNot .i64 ((l ++ [newFr l k org may]).getD l.length default).may may = 0)) || decide (bits .and .i64 (l.getD (Int.toNat k) default).may 4 = 0)) || !(eqFr ((l ++ [newFr l k org may]).take l.length) l)) = false
  rw [hck, hgi, htk, hm, hap.2.2.1, hap.2.2.2, decide_eq_false h4]
  simp [eqFr]
end Go.Proofs.Ytghkpailmdlhgaa
