/- Stores: what the program's store functions compute, in plain Lean. -/
import Derived.Test.YtmcdamcedemdiaaB0
set_option linter.unusedVariables false
set_option linter.unusedSimpArgs false
namespace Go.Proofs.Ytmcdamcedemdiaa
open Go.RowKit Go.Eng
/-! Rows. -/
theorem getD_lt {α : Type} {l : List α} {d : α} {i : Nat} (h : i < l.length) : l.getD i d = l[i] := by simp [List.getD_eq_getElem?_getD, h]
theorem mem_getD {α : Type} {l : List α} {d : α} {i : Nat} (h : i < l.length) : l.getD i d ∈ l := by rw [getD_lt h]; exact List.getElem_mem _
theorem getD_of_mem {α : Type} {l : List α} (d : α) {x : α} (h : x ∈ l) : ∃ i, i < l.length ∧ l.getD i d = x := by
  obtain ⟨i, hi, e⟩ := List.mem_iff_getElem.1 h
  exact ⟨i, hi, by rw [getD_lt hi]; exact e⟩
theorem take_s {α : Type} {l : List α} (d : α) {i : Nat} (h : i < l.length) : l.take (i + 1) = l.take i ++ [l.getD i d] := by
  rw [List.take_add_one, List.getElem?_eq_getElem h, getD_lt h]; rfl
/-- Two rows are the same up to i. -/
def samePre {α : Type} (d : α) (l m : List α) (i : Nat) : Prop := l.length = m.length ∧ ∀ j, j < i → l.getD j d = m.getD j d
theorem samePre_0 {α : Type} {d : α} {l m : List α} (h : l.length = m.length) : samePre d l m 0 := ⟨h, fun _ h => absurd h (Nat.not_lt_zero _)⟩
theorem samePre_s {α : Type} {d : α} {l m : List α} {i : Nat} (h : samePre d l m i) (e : l.getD i d = m.getD i d) : samePre d l m (i + 1) :=
  ⟨h.1, fun j hj => by
    by_cases q : j < i
    · exact h.2 j q
    · have : j = i := by omega
      subst this; exact e⟩
theorem samePre_eq {α : Type} {d : α} {l m : List α} {i : Nat} (h : samePre d l m i) (hi : l.length ≤ i) : l = m := by
  refine List.ext_getElem h.1 fun j h1 h2 => ?_
  have := h.2 j (by omega)
  rwa [getD_lt h1, getD_lt h2] at this
theorem samePre_ne {α : Type} {d : α} {l m : List α} {i : Nat} (h : l.getD i d ≠ m.getD i d) : l ≠ m := fun e => h (by rw [e])
def eqInt (l m : List Int) : Bool := decide (l = m)
/-- Rows held against each other, element by element. -/
def eqF {α : Type} (p : α → α → Bool) : List α → List α → Bool
  | [], [] => true
  | x :: l, y :: m => p x y && eqF p l m
  | _, _ => false
theorem eqF_len {α : Type} {p : α → α → Bool} : ∀ {l m : List α}, ¬ l.length = m.length → eqF p l m = false
  | [], [], h => absurd rfl h
  | x :: l, y :: m, h => by
    rw [eqF, eqF_len (l := l) (m := m) (by simpa using h), Bool.and_false]
  | [], _ :: _, _ => rfl
  | _ :: _, [], _ => rfl
theorem eqF_bad {α : Type} {p : α → α → Bool} (d : α) : ∀ {l m : List α} {i : Nat}, i < l.length → l.length = m.length → p (l.getD i d) (m.getD i d) = false → eqF p l m = false
  | x :: l, y :: m, 0, _, _, h => by
    have : p x y = false := h
    rw [eqF, this, Bool.false_and]
  | x :: l, y :: m, i + 1, hi, hl, h => by
    rw [eqF, eqF_bad d (l := l) (m := m) (i := i) (by simpa using hi) (by simpa using hl) (by simpa using h), Bool.and_false]
  | [], _, _, hi, _, _ => by simp at hi
  | _ :: _, [], _, _, hl, _ => by simp at hl
theorem eqF_all {α : Type} {p : α → α → Bool} (d : α) : ∀ {l m : List α}, l.length = m.length → (∀ i, i < l.length → p (l.getD i d) (m.getD i d) = true) → eqF p l m = true
  | [], [], _, _ => rfl
  | x :: l, y :: m, hl, h => by
    have h0 : p x y = true := h 0 (by simp)
    rw [eqF, h0, eqF_all d (l := l) (m := m) (by simpa using hl) fun i hi => by simpa using h (i + 1) (by simpa using hi)]
    rfl
  | [], _ :: _, hl, _ => by simp at hl
  | _ :: _, [], hl, _ => by simp at hl
theorem eqF_iff {α : Type} {p : α → α → Bool} (hp : ∀ x y, p x y = true ↔ x = y) : ∀ {l m : List α}, eqF p l m = true ↔ l = m
  | [], [] => by simp [eqF]
  | x :: l, y :: m => by rw [eqF, Bool.and_eq_true, hp, eqF_iff hp (l := l) (m := m), List.cons.injEq]
  | [], _ :: _ => by simp [eqF]
  | _ :: _, [] => by simp [eqF]
theorem eqF_dec {α : Type} [DecidableEq α] (l m : List α) : eqF (fun x y => decide (x = y)) l m = decide (l = m) := by
  rw [Bool.eq_iff_iff, eqF_iff (fun x y => decide_eq_true_iff), decide_eq_true_iff]
def pre {α : Type} (d : α) (p : α → α → Bool) (l m : List α) (i : Nat) : Prop := l.length = m.length ∧ ∀ j, j < i → p (l.getD j d) (m.getD j d) = true
theorem pre_s {α : Type} {d : α} {p : α → α → Bool} {l m : List α} {i : Nat} (h : pre d p l m i) (e : p (l.getD i d) (m.getD i d) = true) : pre d p l m (i + 1) := ⟨h.1, fun j hj => by
  by_cases q : j < i
  · exact h.2 j q
  · have : j = i := by omega
    subst this; exact e⟩
/-- The first one of which it is so; -1: none. -/
def idxF {α : Type} (p : α → Bool) (l : List α) : Int := match l.findIdx? p with | some i => (i : Int) | none => -1
theorem idxF_hit {α : Type} {p : α → Bool} (d : α) {l : List α} {i : Nat} (hi : i < l.length) (h : ∀ j, j < i → p (l.getD j d) = false) (e : p (l.getD i d) = true) : idxF p l = (i : Int) := by
  have : l.findIdx? p = some i := by
    rw [List.findIdx?_eq_some_iff_getElem]
    refine ⟨hi, by rw [getD_lt hi] at e; exact e, fun j hj => ?_⟩
    have := h j hj
    rw [getD_lt (show j < l.length by omega)] at this
    rw [this]; simp
  simp only [idxF, this]
theorem idxF_none {α : Type} {p : α → Bool} (d : α) {l : List α} {i : Nat} (h : ∀ j, j < i → p (l.getD j d) = false) (hi : l.length ≤ i) : idxF p l = -1 := by
  have : l.findIdx? p = none := by
    rw [List.findIdx?_eq_none_iff]
    intro x hx
    obtain ⟨j, hj, rfl⟩ := getD_of_mem d hx
    exact h j (by omega)
  simp only [idxF, this]
theorem idxF_s {α : Type} {p : α → Bool} {d : α} {l : List α} {i : Nat} (h : ∀ j, j < i → p (l.getD j d) = false) (e : p (l.getD i d) = false) : ∀ j, j < i + 1 → p (l.getD j d) = false := fun j hj => by
  by_cases q : j < i
  · exact h j q
  · have : j = i := by omega
    subst this; exact e
theorem idxF_cases {α : Type} (p : α → Bool) (d : α) (l : List α) : (idxF p l = -1 ∧ ∀ x ∈ l, p x = false) ∨ ∃ i : Nat, idxF p l = (i : Int) ∧ i < l.length ∧ p (l.getD i d) = true ∧ ∀ j, j < i → p (l.getD j d) = false := by
  cases h : l.findIdx? p with
  | none => exact .inl ⟨by simp only [idxF, h], fun x hx => List.findIdx?_eq_none_iff.1 h x hx⟩
  | some i =>
    obtain ⟨hi, h1, h2⟩ := List.findIdx?_eq_some_iff_getElem.1 h
    refine .inr ⟨i, by simp only [idxF, h], hi, by rw [getD_lt hi]; exact h1, fun j hj => ?_⟩
    rw [getD_lt (show j < l.length by omega)]
    simpa using h2 j hj
theorem idxF_any {α : Type} (p : α → Bool) (l : List α) : decide (0 ≤ idxF p l) = l.any p := by
  cases l with
  | nil => rfl
  | cons y r =>
    rw [Bool.eq_iff_iff, decide_eq_true_iff, List.any_eq_true]
    rcases idxF_cases p y (y :: r) with ⟨h, h2⟩ | ⟨i, h, hi, hp, _⟩
    · rw [h]
      exact ⟨fun h => absurd h (by decide), fun ⟨x, hx, hp⟩ => by rw [h2 x hx] at hp; cases hp⟩
    · rw [h]
      exact ⟨fun _ => ⟨_, mem_getD hi, hp⟩, fun _ => Int.natCast_nonneg _⟩
/-- The first error of a row of checks. -/
def firstErr (f : Nat → Int) : Nat → Nat → Int
  | _, 0 => 0
  | i, n + 1 => if f i ≠ 0 then f i else firstErr f (i + 1) n
theorem firstErr_step {f : Nat → Int} {i n : Nat} (h : i < n) : firstErr f i (n - i) = if f i ≠ 0 then f i else firstErr f (i + 1) (n - (i + 1)) := by
  have e : n - i = (n - (i + 1)) + 1 := by omega
  rw [e]; rfl
theorem firstErr_hit {f : Nat → Int} {i n : Nat} {r e : Int} (hi : i < n) (h : r = firstErr f i (n - i)) (he : f i = e) (h0 : e ≠ 0) : r = e := by
  rw [h, firstErr_step hi, if_pos (by rw [he]; exact h0), he]
theorem firstErr_next {f : Nat → Int} {i n : Nat} {r : Int} (hi : i < n) (h : r = firstErr f i (n - i)) (he : f i = 0) : r = firstErr f (i + 1) (n - (i + 1)) := by
  rw [h, firstErr_step hi, if_neg (by rw [he]; simp)]
theorem firstErr_end {f : Nat → Int} {i n : Nat} {r : Int} (hi : n ≤ i) (h : r = firstErr f i (n - i)) : r = 0 := by
  rw [h, Nat.sub_eq_zero_of_le hi]; rfl
theorem firstErr_all {f : Nat → Int} : ∀ (n i : Nat), firstErr f i n = 0 → ∀ j, i ≤ j → j < i + n → f j = 0
  | 0, _, _, _, h1, h2 => by omega
  | n + 1, i, h, j, h1, h2 => by
    simp only [firstErr] at h
    by_cases q : f i ≠ 0
    · rw [if_pos q] at h; exact absurd h q
    · rw [if_neg q] at h
      by_cases e : j = i
      · subst e; simpa using q
      · exact firstErr_all n (i + 1) h j (by omega) (by omega)
theorem firstErr_zero {f : Nat → Int} : ∀ (n i : Nat), (∀ j, i ≤ j → j < i + n → f j = 0) → firstErr f i n = 0
  | 0, _, _ => rfl
  | n + 1, i, h => by
    rw [firstErr, if_neg (by rw [h i (Nat.le_refl _) (by omega)]; simp)]
    exact firstErr_zero n (i + 1) fun j h1 h2 => h j (by omega) (by omega)

theorem nd_same (x y : Nd) : ((((((((x.used == y.used) && (decide (x.uses = y.uses))) && (decide (x.tag = y.tag))) && (decide (x.mark = y.mark))) && (decide (x.par = y.par))) && (decide (x.host = y.host))) && (x.closed == y.closed)) && (eqInt x.kids y.kids)) = decide (x = y) := by
  cases x; cases y
  simp only [Nd.mk.injEq, eqInt]
  rw [Bool.eq_iff_iff]
  simp only [Bool.and_eq_true, decide_eq_true_eq, beq_iff_eq]
  grind
theorem nd_diff (x y : Nd) : ((((((((x.used != y.used) || (!decide (x.uses = y.uses))) || (!decide (x.tag = y.tag))) || (!decide (x.mark = y.mark))) || (!decide (x.par = y.par))) || (!decide (x.host = y.host))) || (x.closed != y.closed)) || (!(eqInt x.kids y.kids))) = !decide (x = y) := by
  rw [← nd_same]
  simp only [Bool.not_and, bne]

/-! A node by itself. -/
def inI (x lo hi : Int) : Bool := decide (lo ≤ x) && decide (x ≤ hi)
theorem inI_t {x lo hi : Int} : inI x lo hi = true ↔ lo ≤ x ∧ x ≤ hi := by simp [inI]
theorem inI_f {x lo hi : Int} : inI x lo hi = false ↔ ¬ (lo ≤ x ∧ x ≤ hi) := by rw [← inI_t]; simp
def above (n : Nd) : Int := if 0 ≤ n.host then n.host else n.par
def runder (n : Nd) : Int := if n.host ≠ -1 then n.host else n.par
def rangeBad (n : Nd) : Bool := decide (n.uses < 0) || decide (1000000 < n.uses) || decide (n.tag < 0) || decide (99 < n.tag) || decide (n.mark < -1000000) || decide (1000000 < n.mark)
def whoBad (N k : Int) : Bool := decide (k < -1) || decide (N ≤ k)
def formBad (n : Nd) : Bool := ((!n.used) && ((!decide (n.tag = 0)) || (!decide (n.mark = 0)) || (!decide (n.par = -1)) || (!decide (n.host = -1)) || n.closed || decide (0 < (n.kids.length : Int)))) || (n.used && decide (n.uses = 0))
def formBad2 (n : Nd) : Bool := (decide (n.host < 0) && n.closed) || (decide (0 ≤ n.host) && decide (0 ≤ n.par))
def nodeErr (N : Int) (n : Nd) : Int :=
  if rangeBad n = true then 2 else if (n.kids ++ [n.par, n.host]).any (whoBad N) = true then 4 else if formBad n = true then 3 else if formBad2 n = true then 3 else 0
theorem nodeErr_2 {N : Int} {n : Nd} (h : rangeBad n = true) : nodeErr N n = 2 := by unfold nodeErr; rw [if_pos h]
theorem nodeErr_4 {N : Int} {n : Nd} (h : rangeBad n = false) {k : Int} (hk : k ∈ n.kids ++ [n.par, n.host]) (h4 : whoBad N k = true) : nodeErr N n = 4 := by
  unfold nodeErr; rw [if_neg (ff h), if_pos (List.any_eq_true.2 ⟨k, hk, h4⟩)]
theorem nodeErr_w {N : Int} {n : Nd} (h : rangeBad n = false) (h4 : ∀ k ∈ n.kids ++ [n.par, n.host], whoBad N k = false) : nodeErr N n = if formBad n = true then 3 else if formBad2 n = true then 3 else 0 := by
  unfold nodeErr; rw [if_neg (ff h), if_neg]
  rw [List.any_eq_true]
  rintro ⟨k, hk, hb⟩
  rw [h4 k hk] at hb; cases hb
theorem nodeErr_3 {N : Int} {n : Nd} (h : rangeBad n = false) (h4 : ∀ k ∈ n.kids ++ [n.par, n.host], whoBad N k = false) (h3 : formBad n = true) : nodeErr N n = 3 := by rw [nodeErr_w h h4, if_pos h3]
theorem nodeErr_3' {N : Int} {n : Nd} (h : rangeBad n = false) (h4 : ∀ k ∈ n.kids ++ [n.par, n.host], whoBad N k = false) (h3 : formBad2 n = true) : nodeErr N n = 3 := by rw [nodeErr_w h h4, if_pos h3]; split <;> rfl
theorem nodeErr_0 {N : Int} {n : Nd} (h : rangeBad n = false) (h4 : ∀ k ∈ n.kids ++ [n.par, n.host], whoBad N k = false) (h3 : formBad n = false) (h5 : formBad2 n = false) : nodeErr N n = 0 := by rw [nodeErr_w h h4, if_neg (ff h3), if_neg (ff h5)]
/-- A node that passes. -/
structure Node1 (N : Int) (n : Nd) : Prop where
  uses : 0 ≤ n.uses ∧ n.uses ≤ 1000000
  tag : 0 ≤ n.tag ∧ n.tag ≤ 99
  mark : -1000000 ≤ n.mark ∧ n.mark ≤ 1000000
  kids : ∀ k ∈ n.kids, -1 ≤ k ∧ k < N
  par : -1 ≤ n.par ∧ n.par < N
  host : -1 ≤ n.host ∧ n.host < N
  free : n.used = false → n.tag = 0 ∧ n.mark = 0 ∧ n.par = -1 ∧ n.host = -1 ∧ n.closed = false ∧ n.kids = []
  use : n.used = true → n.uses ≠ 0
  closed : n.closed = true → 0 ≤ n.host
  one : 0 ≤ n.host → n.par = -1
theorem node1_of {N : Int} {n : Nd} (h : nodeErr N n = 0) : Node1 N n := by
  unfold nodeErr at h
  split at h; · cases h
  rename_i h1
  split at h; · cases h
  rename_i h2
  split at h; · cases h
  rename_i h3
  split at h; · cases h
  rename_i h4
  simp only [rangeBad, Bool.or_eq_true, decide_eq_true_eq] at h1
  have h2' : ∀ k ∈ n.kids ++ [n.par, n.host], -1 ≤ k ∧ k < N := fun k hk => by
    by_cases hb : whoBad N k = true
    · exact absurd (List.any_eq_true.2 ⟨k, hk, hb⟩) h2
    · simp only [whoBad, Bool.or_eq_true, decide_eq_true_eq] at hb; omega
  simp only [formBad, formBad2, Bool.or_eq_true, Bool.and_eq_true, Bool.not_eq_true', decide_eq_true_eq, decide_eq_false_iff_not] at h3 h4
  have hp := h2' n.par (by simp)
  have hh := h2' n.host (by simp)
  refine ⟨by omega, by omega, by omega, fun k hk => h2' k (by simp [hk]), hp, hh, fun hu => ?_, fun hu h0 => h3 (.inr ⟨hu, h0⟩), fun hc => ?_, fun h0 => ?_⟩
  · have h5 : ∀ {p : Prop} [Decidable p], (p → False) → ¬ p := fun h => h
    have hn := fun q => h3 (.inl ⟨hu, q⟩)
    refine ⟨?_, ?_, ?_, ?_, ?_, ?_⟩
    · exact Classical.byContradiction fun q => hn (.inl (.inl (.inl (.inl (.inl q)))))
    · exact Classical.byContradiction fun q => hn (.inl (.inl (.inl (.inl (.inr q)))))
    · exact Classical.byContradiction fun q => hn (.inl (.inl (.inl (.inr q))))
    · exact Classical.byContradiction fun q => hn (.inl (.inl (.inr q)))
    · exact Bool.eq_false_iff.2 fun q => hn (.inl (.inr q))
    · exact List.eq_nil_of_length_eq_zero (Nat.eq_zero_of_not_pos fun q => hn (.inr (by omega)))
  · exact Classical.byContradiction fun q => h4 (.inl ⟨by omega, hc⟩)
  · exact Classical.byContradiction fun q => h4 (.inr ⟨h0, by omega⟩)
theorem node1_err {N : Int} {n : Nd} (h : Node1 N n) : nodeErr N n = 0 := by
  refine nodeErr_0 ?_ (fun k hk => ?_) ?_ ?_
  · have h1 := h.uses; have h2 := h.tag; have h3 := h.mark
    simp only [rangeBad, Bool.or_eq_false_iff, decide_eq_false_iff_not]; omega
  · have : -1 ≤ k ∧ k < N := by
      simp only [List.mem_append, List.mem_cons, List.not_mem_nil, or_false] at hk
      rcases hk with hk | rfl | rfl
      · exact h.kids k hk
      · exact h.par
      · exact h.host
    simp only [whoBad, Bool.or_eq_false_iff, decide_eq_false_iff_not]; omega
  · cases hu : n.used with
    | true => have := h.use hu; simp [formBad, hu, this]
    | false => obtain ⟨h1, h2, h3, h4, h5, h6⟩ := h.free hu; simp [formBad, hu, h1, h2, h3, h4, h5, h6]
  · have h1 := h.closed; have h2 := h.one
    by_cases q : 0 ≤ n.host
    · have := h2 q; simp [formBad2, q, this]; intro; omega
    · have : n.closed = false := by cases hc : n.closed with | false => rfl | true => exact absurd (h1 hc) q
      simp [formBad2, q, this]

/-! Links. -/
def errAt (l : List Nd) (i : Nat) : Int := nodeErr (l.length : Int) (l.getD i default)
def nodesErr (l : List Nd) : Int := firstErr (errAt l) 0 l.length
def kidOk (l : List Nd) (i : Nat) (c : Int) : Bool := decide (0 ≤ c) && (l.getD c.toNat default).used && decide ((l.getD c.toNat default).par = (i : Int))
def kcnt (l : List Nd) (k : Int) : Nat := (l.flatMap Nd.kids).count k
def rcnt (l : List Nd) (k : Int) : Nat := (l.map Nd.host).count k
def up1 (l : List Nd) (k : Int) : Int := if k < 0 then k else above (l.getD k.toNat default)
def upN (l : List Nd) : Nat → Int → Int
  | 0, k => k
  | n + 1, k => up1 l (upN l n k)
def link1 (l : List Nd) (i : Nat) : Bool := (l.getD i default).kids.all (kidOk l i) && (decide ((l.getD i default).host < 0) || (l.getD (l.getD i default).host.toNat default).used)
def link2 (l : List Nd) (i : Nat) : Bool := decide (kcnt l i ≤ 1) && (decide (0 < kcnt l i) == decide (0 ≤ (l.getD i default).par)) && decide (rcnt l i ≤ 1) && decide (upN l l.length i < 0)
def linksB (l : List Nd) : Bool := (List.range l.length).all fun i => link1 l i && link2 l i
def checkSt (l : List Nd) : Int := if 24 < l.length then 1 else if nodesErr l ≠ 0 then nodesErr l else if linksB l = true then 0 else 6
theorem linksB_iff {l : List Nd} : linksB l = true ↔ ∀ i, i < l.length → link1 l i = true ∧ link2 l i = true := by
  simp only [linksB, List.all_eq_true, List.mem_range, Bool.and_eq_true]
end Go.Proofs.Ytmcdamcedemdiaa
