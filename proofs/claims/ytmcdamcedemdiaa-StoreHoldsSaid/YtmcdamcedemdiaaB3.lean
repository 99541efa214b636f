/- The document's look at a store: the same. -/
import Derived.Test.YtmcdamcedemdiaaB2
set_option linter.unusedVariables false
set_option linter.unusedSimpArgs false
namespace Go.Proofs.Ytmcdamcedemdiaa
open Go.RowKit Go.Eng
theorem rng_ref (n : Nd) : (((!inI n.uses 0 1000000) || (!inI n.tag 0 99)) || (!inI n.mark (-1000000) 1000000)) = rangeBad n := by
  unfold inI rangeBad
  rw [Bool.eq_iff_iff]
  simp only [Bool.or_eq_true, Bool.not_eq_true', Bool.and_eq_false_iff, decide_eq_false_iff_not, decide_eq_true_eq]
  omega
theorem who_ref (k : Int) (N : Nat) : (!inI k (-1) ((N : Int) - 1)) = whoBad (N : Int) k := by
  unfold inI whoBad
  rw [Bool.eq_iff_iff]
  simp only [Bool.or_eq_true, Bool.not_eq_true', Bool.and_eq_false_iff, decide_eq_false_iff_not, decide_eq_true_eq]
  omega
theorem who_two {N : Int} {n : Nd} (h1 : ∀ k ∈ n.kids, whoBad N k = false) (h2 : (whoBad N n.par || whoBad N n.host) = false) : ∀ k ∈ n.kids ++ [n.par, n.host], whoBad N k = false := fun k hk => by
  simp only [Bool.or_eq_false_iff] at h2
  simp only [List.mem_append, List.mem_cons, List.not_mem_nil, or_false] at hk
  rcases hk with hk | rfl | rfl
  · exact h1 k hk
  · exact h2.1
  · exact h2.2
theorem who_par {N : Int} {n : Nd} (h0 : rangeBad n = false) (h2 : (whoBad N n.par || whoBad N n.host) = true) : nodeErr N n = 4 := by
  simp only [Bool.or_eq_true] at h2
  rcases h2 with h | h
  · exact nodeErr_4 h0 (k := n.par) (by simp) h
  · exact nodeErr_4 h0 (k := n.host) (by simp) h
def cleanB (n : Nd) : Bool := ((((decide (n.tag = 0) && decide (n.mark = 0)) && decide (n.par = -1)) && decide (n.host = -1)) && decide ((n.kids.length : Int) = 0)) && (!n.closed)
theorem form_ref (n : Nd) : formBad n = (((!n.used) && (!cleanB n)) || (n.used && decide (n.uses = 0))) := by
  have e : decide (0 < (n.kids.length : Int)) = !decide ((n.kids.length : Int) = 0) := by
    rw [← decide_not, Bool.eq_iff_iff, decide_eq_true_iff, decide_eq_true_iff]; omega
  unfold formBad cleanB
  rw [e]
  cases decide (n.tag = 0) <;> cases decide (n.mark = 0) <;> cases decide (n.par = -1) <;> cases decide (n.host = -1) <;> cases n.closed <;> cases decide ((n.kids.length : Int) = 0) <;> rfl
theorem form2_ref {N : Int} {n : Nd} (h : (whoBad N n.par || whoBad N n.host) = false) : formBad2 n = ((decide (n.host = -1) && n.closed) || ((!decide (n.host = -1)) && (!decide (n.par = -1)))) := by
  simp only [whoBad, Bool.or_eq_false_iff, decide_eq_false_iff_not] at h
  have e1 : decide (n.host < 0) = decide (n.host = -1) := by rw [Bool.eq_iff_iff, decide_eq_true_iff, decide_eq_true_iff]; omega
  have e2 : decide (0 ≤ n.host) = !decide (n.host = -1) := by rw [← decide_not, Bool.eq_iff_iff, decide_eq_true_iff, decide_eq_true_iff]; omega
  have e3 : decide (0 ≤ n.par) = !decide (n.par = -1) := by rw [← decide_not, Bool.eq_iff_iff, decide_eq_true_iff, decide_eq_true_iff]; omega
  unfold formBad2
  rw [e1, e2, e3]
theorem err_a {N : Int} {n : Nd} (h : rangeBad n = false) (h4 : ∀ k ∈ n.kids ++ [n.par, n.host], whoBad N k = false) (ha : ((!n.used) && (!cleanB n)) = true) : nodeErr N n = 3 := nodeErr_3 h h4 (by rw [form_ref, ha, Bool.true_or])
theorem err_b {N : Int} {n : Nd} (h : rangeBad n = false) (h4 : ∀ k ∈ n.kids ++ [n.par, n.host], whoBad N k = false) (hb : (n.used && decide (n.uses = 0)) = true) : nodeErr N n = 3 := nodeErr_3 h h4 (by rw [form_ref, hb, Bool.or_true])
theorem err_c {N : Int} {n : Nd} (h : rangeBad n = false) (hw : (whoBad N n.par || whoBad N n.host) = false) (h4 : ∀ k ∈ n.kids ++ [n.par, n.host], whoBad N k = false) (hc : (decide (n.host = -1) && n.closed) = true) : nodeErr N n = 3 := nodeErr_3' h h4 (by rw [form2_ref hw, hc, Bool.true_or])
theorem err_d {N : Int} {n : Nd} (h : rangeBad n = false) (hw : (whoBad N n.par || whoBad N n.host) = false) (h4 : ∀ k ∈ n.kids ++ [n.par, n.host], whoBad N k = false) (hd : ((!decide (n.host = -1)) && (!decide (n.par = -1))) = true) : nodeErr N n = 3 := nodeErr_3' h h4 (by rw [form2_ref hw, hd, Bool.or_true])
theorem err_0 {N : Int} {n : Nd} (h : rangeBad n = false) (hw : (whoBad N n.par || whoBad N n.host) = false) (h4 : ∀ k ∈ n.kids ++ [n.par, n.host], whoBad N k = false) (ha : ((!n.used) && (!cleanB n)) = false) (hb : (n.used && decide (n.uses = 0)) = false)
    (hc : (decide (n.host = -1) && n.closed) = false) (hd : ((!decide (n.host = -1)) && (!decide (n.par = -1))) = false) : nodeErr N n = 0 := nodeErr_0 h h4 (by rw [form_ref, ha, hb]; rfl) (by rw [form2_ref hw, hc, hd]; rfl)

/-! Lines. -/
def lineN (l : List Nd) : Nat → Int → List Int
  | 0, _ => []
  | n + 1, k => if 0 ≤ k ∧ k < (l.length : Int) then k :: lineN l n (runder (l.getD k.toNat default)) else []
def line (l : List Nd) (k : Int) : List Int := lineN l (l.length + 1) k
theorem line_s {l : List Nd} {k0 k : Int} {acc : List Int} (h : line l k0 = acc ++ lineN l (l.length + 1 - acc.length) k) (hk : 0 ≤ k ∧ k < (l.length : Int)) (ha : acc.length ≤ l.length) :
    line l k0 = (acc ++ [k]) ++ lineN l (l.length + 1 - (acc ++ [k]).length) (runder (l.getD k.toNat default)) := by
  have e : l.length + 1 - acc.length = (l.length + 1 - (acc ++ [k]).length) + 1 := by simp only [List.length_append, List.length_cons, List.length_nil]; omega
  rw [h, e, lineN, if_pos hk, List.append_assoc]; rfl
theorem line_e {l : List Nd} {k0 k : Int} {acc : List Int} (h : line l k0 = acc ++ lineN l (l.length + 1 - acc.length) k) (hk : ((decide (0 ≤ k) && decide (k < (l.length : Int))) && decide ((acc.length : Int) ≤ (l.length : Int))) = false) (ha : acc.length ≤ l.length + 1) : acc = line l k0 := by
  have : lineN l (l.length + 1 - acc.length) k = [] := by
    cases hm : l.length + 1 - acc.length with
    | zero => rfl
    | succ m =>
      rw [lineN, if_neg]
      intro hh
      rw [decide_eq_true hh.1, decide_eq_true hh.2, decide_eq_true (by omega)] at hk
      cases hk
  rw [h, this, List.append_nil]
theorem runder_above {l : List Nd} (h : nodesErr l = 0) {k : Int} (hk : 0 ≤ k ∧ k < (l.length : Int)) : runder (l.getD k.toNat default) = above (l.getD k.toNat default) := by
  have := (nodesErr_at h (i := k.toNat) (by omega)).host
  unfold runder above
  by_cases e : (l.getD k.toNat default).host = -1
  · rw [if_neg (not_not_intro e), if_neg (by omega)]
  · rw [if_pos e, if_pos (by omega)]
theorem line_len {l : List Nd} (h : nodesErr l = 0) : ∀ (m : Nat) (k : Int), -1 ≤ k ∧ k < (l.length : Int) → (lineN l m k).length ≤ m ∧ ((lineN l m k).length = m ↔ m = 0 ∨ 0 ≤ upN l (m - 1) k)
  | 0, k, _ => ⟨Nat.le_refl _, by simp [lineN]⟩
  | m + 1, k, hk => by
    by_cases q : 0 ≤ k
    · rw [lineN, if_pos ⟨q, hk.2⟩, runder_above h ⟨q, hk.2⟩]
      obtain ⟨h1, h2⟩ := line_len h m _ (above_in h ⟨q, hk.2⟩)
      refine ⟨by simp only [List.length_cons]; omega, ?_⟩
      simp only [List.length_cons, Nat.add_right_cancel_iff, h2, Nat.add_sub_cancel]
      cases m with
      | zero => simp [upN, q]
      | succ m =>
        have e := upN_add (l := l) 1 k m
        rw [Nat.add_comm 1 m] at e
        rw [e]
        have : upN l 1 k = above (l.getD k.toNat default) := by show up1 l k = _; rw [up1, if_neg (by omega)]
        rw [this]
        simp
    · rw [lineN, if_neg (by omega)]
      refine ⟨by simp, ?_⟩
      have : ¬ 0 ≤ upN l m k := fun hh => q (upN_le (a := 0) (Nat.zero_le _) hh)
      simp [this]
theorem line_long {l : List Nd} (h : nodesErr l = 0) {i : Nat} (hi : i < l.length) : decide ((l.length : Int) < ((line l (i : Int)).length : Int)) = !decide (upN l l.length (i : Int) < 0) := by
  have := line_len h (l.length + 1) (i : Int) (by omega)
  rw [← decide_not, Bool.eq_iff_iff, decide_eq_true_iff, decide_eq_true_iff]
  unfold line
  simp only [Nat.add_sub_cancel] at this
  omega

/-! The links, node by node. -/
structure RLink (l : List Nd) (i m : Nat) : Prop where
  kid : ∀ q, q < m → ∀ c ∈ (l.getD q default).kids, c ≠ -1 ∧ (c = (i : Int) → (l.getD i default).used = true ∧ (l.getD i default).par = (q : Int))
  host : ∀ q, q < m → (l.getD q default).host = (i : Int) → (l.getD i default).used = true
def RL (l : List Nd) (i : Nat) : Prop := RLink l i l.length ∧ link2 l i = true
def kidR (l : List Nd) (i q : Nat) (c : Int) : Prop := c ≠ -1 ∧ (c = (i : Int) → (l.getD i default).used = true ∧ (l.getD i default).par = (q : Int))
theorem rlink_0 (l : List Nd) (i : Nat) : RLink l i 0 := ⟨fun q h => absurd h (Nat.not_lt_zero _), fun q h => absurd h (Nat.not_lt_zero _)⟩
theorem rlink_s {l : List Nd} {i m j : Nat} (h : RLink l i m) (hk : ∀ q, q < j → kidR l i m ((l.getD m default).kids.getD q 0)) (hj : (l.getD m default).kids.length ≤ j) (hh : (l.getD m default).host = (i : Int) → (l.getD i default).used = true) : RLink l i (m + 1) := by
  refine ⟨fun q hq c hc => ?_, fun q hq => ?_⟩
  · by_cases e : q < m
    · exact h.kid q e c hc
    · have : q = m := by omega
      subst this
      obtain ⟨p, hp, rfl⟩ := getD_of_mem 0 hc
      exact hk p (by omega)
  · by_cases e : q < m
    · exact h.host q e
    · have : q = m := by omega
      subst this; exact hh
theorem rl_links {l : List Nd} (hN : nodesErr l = 0) (h : ∀ i, i < l.length → RL l i) : (0 : Int) = if linksB l = true then 0 else 6 := by
  refine links_0 (fun q hq => ?_) fun q hq => (h q hq).2
  have hn := nodesErr_at hN hq
  refine link1_of (List.all_eq_true.2 fun c hc => ?_) ?_
  · have h1 := hn.kids c hc
    have h2 := ((h q hq).1.kid q hq c hc).1
    have h3 := (h c.toNat (by omega)).1.kid q hq c hc
    obtain ⟨h4, h5⟩ := h3.2 (by omega)
    rw [kidOk, h4, h5, decide_eq_true rfl, Bool.and_true, Bool.and_true, decide_eq_true_iff]
    omega
  · have h1 := hn.host
    by_cases q0 : (l.getD q default).host < 0
    · exact .inl q0
    · exact .inr ((h (l.getD q default).host.toNat (by omega)).1.host q hq (by omega))
theorem cnt_kid_y {A ks : List Int} {i j : Nat} (hj : j < ks.length) (e : ks.getD j 0 = (i : Int)) : ((List.count (i : Int) (A ++ ks.take j) : Nat) : Int) + 1 = ((List.count (i : Int) (A ++ ks.take (j + 1)) : Nat) : Int) := by
  rw [take_s 0 hj, ← List.append_assoc, List.count_append (l₁ := A ++ ks.take j), e]; simp
theorem cnt_kid_n {A ks : List Int} {i j : Nat} (hj : j < ks.length) (e : ¬ ks.getD j 0 = (i : Int)) : ((List.count (i : Int) (A ++ ks.take j) : Nat) : Int) = ((List.count (i : Int) (A ++ ks.take (j + 1)) : Nat) : Int) := by
  rw [take_s 0 hj, ← List.append_assoc, List.count_append (l₁ := A ++ ks.take j), List.count_singleton]
  have : (ks.getD j 0 == (i : Int)) = false := by simpa using e
  rw [this]; rfl
theorem cnt_flat {l : List Nd} {i j k : Nat} (hk : k < l.length) (hj : (l.getD k default).kids.length ≤ j) : ((List.count (i : Int) ((l.take k).flatMap Nd.kids ++ (l.getD k default).kids.take j) : Nat) : Int) = ((List.count (i : Int) ((l.take (k + 1)).flatMap Nd.kids) : Nat) : Int) := by
  rw [flat_take_s hk, List.take_of_length_le hj]
theorem cnt_host_y {l : List Nd} {i k : Nat} (hk : k < l.length) (e : (l.getD k default).host = (i : Int)) : ((List.count (i : Int) ((l.take k).map Nd.host) : Nat) : Int) + 1 = ((List.count (i : Int) ((l.take (k + 1)).map Nd.host) : Nat) : Int) := by
  rw [map_take_s default hk, List.count_append, e]; simp
theorem cnt_host_n {l : List Nd} {i k : Nat} (hk : k < l.length) (e : ¬ (l.getD k default).host = (i : Int)) : ((List.count (i : Int) ((l.take k).map Nd.host) : Nat) : Int) = ((List.count (i : Int) ((l.take (k + 1)).map Nd.host) : Nat) : Int) := by
  rw [map_take_s default hk, List.count_append, List.count_singleton]
  have : ((l.getD k default).host == (i : Int)) = false := by simpa using e
  rw [this]; rfl
theorem link1_neg {l : List Nd} {q : Nat} {c : Int} (hc : c ∈ (l.getD q default).kids) (h : c < 0) : link1 l q = false := link1_kid hc (by
  simp only [kidOk, decide_eq_false (show ¬ 0 ≤ c by omega), Bool.false_and])
theorem link1_self {l : List Nd} {i q : Nat} {c : Int} (hc : c ∈ (l.getD q default).kids) (e : c = (i : Int)) (h : ((!(l.getD i default).used) || (!decide ((l.getD i default).par = (q : Int)))) = true) : link1 l q = false := link1_kid hc (by
  subst e
  simp only [kidOk, Int.toNat_natCast]
  cases hx : (l.getD i default).used <;> cases hz : decide ((l.getD i default).par = (q : Int)) <;> simp_all)
theorem self_ok {l : List Nd} {i q : Nat} (h : ((!(l.getD i default).used) || (!decide ((l.getD i default).par = (q : Int)))) = false) : (l.getD i default).used = true ∧ (l.getD i default).par = (q : Int) := by
  simp only [Bool.or_eq_false_iff, Bool.not_eq_false', decide_eq_true_eq] at h; exact h
theorem link1_h {l : List Nd} {i q : Nat} (e : (l.getD q default).host = (i : Int)) (h : (l.getD i default).used = false) : link1 l q = false := link1_host (by omega) (by rw [e]; exact h)
theorem link2_ref {l : List Nd} (hN : nodesErr l = 0) {i : Nat} (hi : i < l.length) : link2 l i = !(((decide (1 < (((l.flatMap Nd.kids).count (i : Int) : Nat) : Int)) || decide (1 < (((l.map Nd.host).count (i : Int) : Nat) : Int))) || (decide (0 < (((l.flatMap Nd.kids).count (i : Int) : Nat) : Int)) != (!decide ((l.getD i default).par = -1)))) || decide ((l.length : Int) < ((line l (i : Int)).length : Int))) := by
  have hp := (nodesErr_at hN hi).par
  rw [line_long hN hi]
  unfold link2 kcnt rcnt
  have e3 : decide (0 ≤ (l.getD i default).par) = !decide ((l.getD i default).par = -1) := by rw [← decide_not, Bool.eq_iff_iff, decide_eq_true_iff, decide_eq_true_iff]; omega
  rw [e3]
  generalize List.count (i : Int) (l.flatMap Nd.kids) = A
  generalize List.count (i : Int) (l.map Nd.host) = B
  generalize decide (upN l l.length (i : Int) < 0) = u
  generalize decide ((l.getD i default).par = -1) = p
  have e1 : decide (A ≤ 1) = !decide ((1 : Int) < (A : Int)) := by rw [← decide_not, Bool.eq_iff_iff, decide_eq_true_iff, decide_eq_true_iff]; omega
  have e2 : decide (B ≤ 1) = !decide ((1 : Int) < (B : Int)) := by rw [← decide_not, Bool.eq_iff_iff, decide_eq_true_iff, decide_eq_true_iff]; omega
  have e4 : decide (0 < A) = decide ((0 : Int) < (A : Int)) := by rw [Bool.eq_iff_iff, decide_eq_true_iff, decide_eq_true_iff]; omega
  rw [e1, e2, e4]
  cases decide ((1 : Int) < (A : Int)) <;> cases decide ((1 : Int) < (B : Int)) <;> cases decide ((0 : Int) < (A : Int)) <;> cases p <;> cases u <;> rfl
end Go.Proofs.Ytmcdamcedemdiaa
