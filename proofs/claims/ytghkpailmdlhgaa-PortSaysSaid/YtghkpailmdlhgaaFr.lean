/- Frames: what the program's frame functions compute, in plain Lean. -/
import Derived.Test.YtghkpailmdlhgaaFacts
set_option linter.unusedVariables false
namespace Go.Proofs.Ytghkpailmdlhgaa
open Go.RowKit Go.Eng
structure Fr where
  par : Int
  org : Int
  may : Int
  turn : Int
  gone : Bool
  deriving DecidableEq, Inhabited
def frCell (f : Fr) : Nat → SV
  | 0 => .v (.int .i64 f.par)
  | 1 => .v (.int .i64 f.org)
  | 2 => .v (.int .i64 f.may)
  | 3 => .v (.int .i64 f.turn)
  | _ => .v (.bool f.gone)
def frRow (l : List Fr) : SV := rowOf frCell 5 default l
def inCell (x : Int) (_ : Nat) : SV := iv x
def inRow (l : List Int) : SV := rowOf inCell 1 0 l
def okFr (f : Fr) : Prop := okInt f.par ∧ okInt f.org ∧ okInt f.may ∧ okInt f.turn
theorem opens47 : Opens Try.prog 47 5 okFr frCell := fun enc w base spare held fuel cs x h hlt => by
  obtain ⟨hl, hf⟩ := struct_at Try.underlying47 (by kernel_rfl) (by kernel_rfl) h hlt
  obtain ⟨x0, o0, u0, hu0, p0, r0⟩ := hf 0 _ rfl (opens_int Try.underlying3)
  obtain ⟨x1, o1, u1, hu1, p1, r1⟩ := hf 1 _ rfl (opens_int Try.underlying3)
  obtain ⟨x2, o2, u2, hu2, p2, r2⟩ := hf 2 _ rfl (opens_int Try.underlying3)
  obtain ⟨x3, o3, u3, hu3, p3, r3⟩ := hf 3 _ rfl (opens_int Try.underlying3)
  obtain ⟨x4, _, u4, hu4, p4, r4⟩ := hf 4 _ rfl (opens_bool Try.underlying4)
  refine ⟨hl, ⟨x0, x1, x2, x3, x4⟩, ⟨o0, o1, o2, o3⟩, fun i hi => ?_⟩
  match i, hi with
  | 0, _ => exact ⟨_, hu0, p0, r0⟩
  | 1, _ => exact ⟨_, hu1, p1, r1⟩
  | 2, _ => exact ⟨_, hu2, p2, r2⟩
  | 3, _ => exact ⟨_, hu3, p3, r3⟩
  | 4, _ => exact ⟨_, hu4, p4, r4⟩
theorem opens27 : Opens Try.prog 27 1 (fun l : List Fr => l.length ≤ maxLen ∧ ∀ x ∈ l, okFr x) fun l _ => frRow l := opens_slice default Try.underlying27 opens47 co47 (by decide)
theorem opens24 : Opens Try.prog 24 1 (fun l : List Int => l.length ≤ maxLen ∧ ∀ x ∈ l, okInt x) fun l _ => inRow l := opens_slice 0 Try.underlying24 (opens_int Try.underlying3) co3 (by decide)
theorem zero47 : ZeroOk Try.prog 47 5 (frCell ⟨0, 0, 0, 0, false⟩) := by
  refine ⟨_, Try.zeroValue47, rfl, fun t ht => ?_⟩
  match t, ht with
  | 0, _ => exact ⟨_, rfl, rfl, fun _ _ => rfl⟩
  | 1, _ => exact ⟨_, rfl, rfl, fun _ _ => rfl⟩
  | 2, _ => exact ⟨_, rfl, rfl, fun _ _ => rfl⟩
  | 3, _ => exact ⟨_, rfl, rfl, fun _ _ => rfl⟩
  | 4, _ => exact ⟨_, rfl, rfl, fun _ _ => rfl⟩

/-- The first error of a row of checks. -/
def firstErr (f : Nat → Int) : Nat → Nat → Int
  | _, 0 => 0
  | i, n + 1 => if f i ≠ 0 then f i else firstErr f (i + 1) n
def holdsFr (l : List Fr) (k : Int) : Int := if (decide (k < 0) || decide ((l.length : Int) ≤ k)) = true then 4 else if (l.getD k.toNat default).gone = true then 5 else 0
def frWho (i : Nat) (f : Fr) : Bool := f.par < -1 || f.par ≥ i || (decide (f.par < 0) != decide ((i : Int) = 0))
def frRange (f : Fr) : Bool := f.org < 0 || f.org > 9 || f.may < 0 || f.may > 7 || f.turn < 0 || f.turn > 1000
def frForm (f p : Fr) : Bool := !decide (bits .andNot .i64 f.may p.may = 0) || (p.gone && !f.gone)
def frErr (l : List Fr) (i : Nat) : Int :=
  if frWho i (l.getD i default) = true then 4 else if frRange (l.getD i default) = true then 2 else if (decide (0 < (i : Int)) && frForm (l.getD i default) (l.getD (l.getD i default).par.toNat default)) = true then 3 else 0
def checkFr (l : List Fr) : Int := if 8 < l.length then 1 else firstErr (frErr l) 0 l.length
/-- Is k in top, at any depth? The program's own way, so many steps at most. -/
def withinN (l : List Fr) : Nat → Int → Int → Bool
  | 0, _, _ => false
  | n + 1, k, top => if k < 0 ∨ (l.length : Int) ≤ k then false else if k = top then true else withinN l n (l.getD k.toNat default).par top
def withinFr (l : List Fr) (k top : Int) : Bool := withinN l l.length k top
theorem firstErr_step {f : Nat → Int} {i n : Nat} (h : i < n) : firstErr f i (n - i) = if f i ≠ 0 then f i else firstErr f (i + 1) (n - (i + 1)) := by
  have e : n - i = (n - (i + 1)) + 1 := by omega
  rw [e]; rfl
end Go.Proofs.Ytghkpailmdlhgaa
namespace Go.Proofs.Ytghkpailmdlhgaa
open Go.RowKit Go.Eng
theorem firstErr_hit {f : Nat → Int} {i n : Nat} {r e : Int} (hi : i < n) (h : r = firstErr f i (n - i)) (he : f i = e) (h0 : e ≠ 0) : r = e := by
  rw [h, firstErr_step hi, if_pos (by rw [he]; exact h0), he]
theorem firstErr_next {f : Nat → Int} {i n : Nat} {r : Int} (hi : i < n) (h : r = firstErr f i (n - i)) (he : f i = 0) : r = firstErr f (i + 1) (n - (i + 1)) := by
  rw [h, firstErr_step hi, if_neg (by rw [he]; simp)]
theorem firstErr_end {f : Nat → Int} {i n : Nat} {r : Int} (hi : n ≤ i) (h : r = firstErr f i (n - i)) : r = 0 := by
  rw [h, Nat.sub_eq_zero_of_le hi]; rfl
theorem frErr_4 {l : List Fr} {i : Nat} (h : frWho i (l.getD i default) = true) : frErr l i = 4 := by unfold frErr; rw [if_pos h]
theorem frErr_2 {l : List Fr} {i : Nat} (h : frWho i (l.getD i default) = false) (h2 : frRange (l.getD i default) = true) : frErr l i = 2 := by unfold frErr; rw [if_neg (ff h), if_pos h2]
theorem frErr_3 {l : List Fr} {i : Nat} (h : frWho i (l.getD i default) = false) (h2 : frRange (l.getD i default) = false) (h3 : (decide (0 < (i : Int)) && frForm (l.getD i default) (l.getD (l.getD i default).par.toNat default)) = true) : frErr l i = 3 := by
  unfold frErr; rw [if_neg (ff h), if_neg (ff h2), if_pos h3]
theorem frErr_0 {l : List Fr} {i : Nat} (h : frWho i (l.getD i default) = false) (h2 : frRange (l.getD i default) = false) (h3 : (decide (0 < (i : Int)) && frForm (l.getD i default) (l.getD (l.getD i default).par.toNat default)) = false) : frErr l i = 0 := by
  unfold frErr; rw [if_neg (ff h), if_neg (ff h2), if_neg (ff h3)]
theorem par_ok {i : Nat} {p : Int} (h : (decide (p < 0) != decide ((i : Int) = 0)) = false) (g : decide (0 < (i : Int)) = true) : 0 ≤ p := by
  have g' : (0 : Int) < i := by simpa using g
  by_cases q : p < 0
  · rw [decide_eq_true q, decide_eq_false (by omega)] at h; simp at h
  · omega
theorem dlt (i : Nat) : decide (0 < (i : Int)) = decide (0 < i) := by rw [Bool.eq_iff_iff]; simp
theorem checkFr_1 {l : List Fr} (h : 8 < (l.length : Int)) : checkFr l = 1 := by unfold checkFr; rw [if_pos (by omega)]
theorem checkFr_s {l : List Fr} (h : ¬ 8 < (l.length : Int)) : checkFr l = firstErr (frErr l) 0 (l.length - 0) := by unfold checkFr; rw [if_neg (by omega)]; rfl
theorem withinN_step {l : List Fr} {i : Nat} {x top : Int} (h : i < l.length) :
    withinN l (l.length - i) x top = if x < 0 ∨ (l.length : Int) ≤ x then false else if x = top then true else withinN l (l.length - (i + 1)) (l.getD x.toNat default).par top := by
  have e : l.length - i = (l.length - (i + 1)) + 1 := by omega
  rw [e]; rfl
end Go.Proofs.Ytghkpailmdlhgaa
namespace Go.Proofs.Ytghkpailmdlhgaa
open Go.RowKit Go.Eng
/-- Two rows are the same up to i. -/
def samePre {α : Type} [Inhabited α] (d : α) (l m : List α) (i : Nat) : Prop := l.length = m.length ∧ ∀ j, j < i → l.getD j d = m.getD j d
theorem samePre_0 {α : Type} [Inhabited α] {d : α} {l m : List α} (h : l.length = m.length) : samePre d l m 0 := ⟨h, fun _ h => absurd h (Nat.not_lt_zero _)⟩
theorem samePre_s {α : Type} [Inhabited α] {d : α} {l m : List α} {i : Nat} (h : samePre d l m i) (e : l.getD i d = m.getD i d) : samePre d l m (i + 1) :=
  ⟨h.1, fun j hj => by
    by_cases q : j < i
    · exact h.2 j q
    · have : j = i := by omega
      subst this; exact e⟩
theorem samePre_eq {α : Type} [Inhabited α] {d : α} {l m : List α} {i : Nat} (h : samePre d l m i) (hi : l.length ≤ i) : l = m := by
  refine List.ext_getElem h.1 fun j h1 h2 => ?_
  have := h.2 j (by omega)
  simpa [List.getD_eq_getElem?_getD, h1, h2] using this
theorem samePre_ne {α : Type} [Inhabited α] {d : α} {l m : List α} {i : Nat} (h : l.getD i d ≠ m.getD i d) : l ≠ m := fun e => h (by rw [e])
def eqInt (l m : List Int) : Bool := decide (l = m)
end Go.Proofs.Ytghkpailmdlhgaa
namespace Go.Proofs.Ytghkpailmdlhgaa
theorem names_lit {i : Nat} (h : i < 9) : ([0, 1, 2, 3, 4, 5, 6, 7, 8] : List Int).getD i 0 = (i : Int) := by
  match i, h with
  | 0, _ => rfl
  | 1, _ => rfl
  | 2, _ => rfl
  | 3, _ => rfl
  | 4, _ => rfl
  | 5, _ => rfl
  | 6, _ => rfl
  | 7, _ => rfl
  | 8, _ => rfl
end Go.Proofs.Ytghkpailmdlhgaa
namespace Go.Proofs.Ytghkpailmdlhgaa
open Go.RowKit Go.Eng
/-! Guards: what one frame may ask of another. -/
def arrG (l : List Int) : Nat → SV := fun t => iv (l.getD t 0)
theorem zero64 : ZeroOk Try.prog 64 2 (arrG [0, 0]) := ⟨_, Try.zeroValue64, rfl, fun t ht => match t, ht with
  | 0, _ => ⟨_, rfl, rfl, fun _ _ => rfl⟩
  | 1, _ => ⟨_, rfl, rfl, fun _ _ => rfl⟩⟩
def inI (x lo hi : Int) : Bool := decide (lo ≤ x) && decide (x ≤ hi)
theorem inI_t {x lo hi : Int} : inI x lo hi = true ↔ lo ≤ x ∧ x ≤ hi := by simp [inI]
theorem inI_f {x lo hi : Int} : inI x lo hi = false ↔ ¬ (lo ≤ x ∧ x ≤ hi) := by rw [← inI_t]; simp
/-- A row of holdings, the first error. -/
def framedFr (l : List Fr) (ks : List Int) : Int := ks.foldl (fun r k => if r = 0 then holdsFr l k else r) (checkFr l)
theorem foldl_take_s {α β : Type} (f : β → α → β) (b : β) (d : α) (l : List α) (i : Nat) (h : i < l.length) : (l.take (i + 1)).foldl f b = f ((l.take i).foldl f b) (l.getD i d) := by
  rw [List.take_add_one, List.foldl_append]
  simp [List.getElem?_eq_getElem h, List.getD_eq_getElem?_getD]
theorem take_all {α β : Type} (f : β → α → β) (b : β) (l : List α) (i : Nat) (h : l.length ≤ i) : (l.take i).foldl f b = l.foldl f b := by rw [List.take_of_length_le h]
theorem holds_4 {l : List Fr} {k : Int} (h : ¬ (0 ≤ k ∧ k ≤ (l.length : Int) - 1)) : holdsFr l k = 4 := by
  unfold holdsFr; rw [if_pos (by rw [Bool.or_eq_true, decide_eq_true_eq, decide_eq_true_eq]; omega)]
theorem holds_5 {l : List Fr} {k : Int} (h : 0 ≤ k ∧ k ≤ (l.length : Int) - 1) (g : (l.getD k.toNat default).gone = true) : holdsFr l k = 5 := by
  unfold holdsFr; rw [if_neg (by rw [Bool.or_eq_true, decide_eq_true_eq, decide_eq_true_eq]; omega), if_pos g]
theorem holds_0 {l : List Fr} {k : Int} (h : 0 ≤ k ∧ k ≤ (l.length : Int) - 1) (g : (l.getD k.toNat default).gone = false) : holdsFr l k = 0 := by
  unfold holdsFr; rw [if_neg (by rw [Bool.or_eq_true, decide_eq_true_eq, decide_eq_true_eq]; omega), if_neg (ff g)]
theorem holds_in {l : List Fr} {k : Int} (h : holdsFr l k = 0) : 0 ≤ k ∧ k < (l.length : Int) ∧ (l.getD k.toNat default).gone = false := by
  unfold holdsFr at h
  split at h
  · cases h
  · rename_i h1
    rw [Bool.or_eq_true, decide_eq_true_eq, decide_eq_true_eq] at h1
    split at h
    · cases h
    · rename_i h2
      exact ⟨by omega, by omega, by simpa using h2⟩
/-- Frames that pass the check. -/
theorem check_len {l : List Fr} (h : checkFr l = 0) : l.length ≤ 8 := by
  unfold checkFr at h
  split at h
  · cases h
  · omega
theorem firstErr_all {f : Nat → Int} : ∀ (n i : Nat), firstErr f i n = 0 → ∀ j, i ≤ j → j < i + n → f j = 0
  | 0, _, _, _, h1, h2 => by omega
  | n + 1, i, h, j, h1, h2 => by
    simp only [firstErr] at h
    by_cases q : f i ≠ 0
    · rw [if_pos q] at h; exact absurd h q
    · rw [if_neg q] at h
      by_cases e : j = i
      · subst e; simpa using q
      · exact firstErr_all n (i + 1) h j (by omega) (by omega)
theorem check_at {l : List Fr} (h : checkFr l = 0) {i : Nat} (hi : i < l.length) : frErr l i = 0 := by
  have h8 := check_len h
  unfold checkFr at h
  rw [if_neg (by omega)] at h
  exact firstErr_all _ 0 h i (Nat.zero_le _) (by omega)
theorem frErr_parts {l : List Fr} {i : Nat} (h : frErr l i = 0) : frWho i (l.getD i default) = false ∧ frRange (l.getD i default) = false ∧ (decide (0 < (i : Int)) && frForm (l.getD i default) (l.getD (l.getD i default).par.toNat default)) = false := by
  unfold frErr at h
  split at h
  · cases h
  · rename_i h1
    split at h
    · cases h
    · rename_i h2
      split at h
      · cases h
      · rename_i h3
        exact ⟨by simpa using h1, by simpa using h2, by simpa using h3⟩
theorem who_bounds {i : Nat} {f : Fr} (h : frWho i f = false) : -1 ≤ f.par ∧ f.par < i ∧ (f.par < 0 ↔ i = 0) := by
  simp only [frWho, Bool.or_eq_false_iff, decide_eq_false_iff_not] at h
  obtain ⟨⟨h1, h2⟩, h3⟩ := h
  refine ⟨by omega, by omega, ?_⟩
  have : (decide (f.par < 0)) = (decide ((i : Int) = 0)) := by simpa using h3
  have := decide_eq_decide.1 this
  omega
theorem range_bounds {f : Fr} (h : frRange f = false) : 0 ≤ f.org ∧ f.org ≤ 9 ∧ 0 ≤ f.may ∧ f.may ≤ 7 ∧ 0 ≤ f.turn ∧ f.turn ≤ 1000 := by
  simp only [frRange, Bool.or_eq_false_iff, decide_eq_false_iff_not] at h
  omega
theorem parent_lt {l : List Fr} (h : checkFr l = 0) {k : Int} (h0 : 0 ≤ k) (hk : k < l.length) : -1 ≤ (l.getD k.toNat default).par ∧ (l.getD k.toNat default).par < k := by
  have := who_bounds (frErr_parts (check_at h (i := k.toNat) (by omega))).1
  omega
/-- Enough steps are enough. -/
theorem withinN_enough {l : List Fr} (h : checkFr l = 0) (top : Int) : ∀ (n : Nat) (k : Int) (m m' : Nat), k < n → k < m → k < m' → withinN l m k top = withinN l m' k top
  | 0, k, m, m', hn, hm, hm' => by
    cases m with
    | zero => cases m' with
      | zero => rfl
      | succ m' => simp only [withinN]; rw [if_pos (by omega)]
    | succ m => cases m' with
      | zero => simp only [withinN]; rw [if_pos (by omega)]
      | succ m' => simp only [withinN]; rw [if_pos (by omega), if_pos (by omega)]
  | n + 1, k, m, m', hn, hm, hm' => by
    by_cases q : k < 0
    · exact withinN_enough h top 0 k m m' (by omega) hm hm'
    · obtain ⟨m, rfl⟩ : ∃ a, m = a + 1 := ⟨m - 1, by omega⟩
      obtain ⟨m', rfl⟩ : ∃ a, m' = a + 1 := ⟨m' - 1, by omega⟩
      simp only [withinN]
      by_cases e : (l.length : Int) ≤ k
      · rw [if_pos (Or.inr e), if_pos (Or.inr e)]
      · have c0 : ¬(k < 0 ∨ (l.length : Int) ≤ k) := by omega
        simp only [if_neg c0]
        have := parent_lt h (by omega) (by omega : k < l.length)
        split
        · rfl
        · exact withinN_enough h top n _ m m' (by omega) (by omega) (by omega)
theorem within_out {l : List Fr} {k top : Int} (h : ¬ (0 ≤ k ∧ k ≤ (l.length : Int) - 1)) : withinFr l k top = false := by
  unfold withinFr
  cases l.length with
  | zero => rfl
  | succ n => simp only [withinN]; rw [if_pos (by omega)]
theorem within_in {l : List Fr} (hc : checkFr l = 0) {k top : Int} (h : 0 ≤ k ∧ k ≤ (l.length : Int) - 1) : withinFr l k top = (decide (k = top) || withinFr l (l.getD k.toNat default).par top) := by
  have hp := parent_lt hc h.1 (by omega)
  unfold withinFr
  obtain ⟨n, hn⟩ : ∃ n, l.length = n + 1 := ⟨l.length - 1, by omega⟩
  have e1 : withinN l l.length k top = withinN l (n + 1) k top := by rw [hn]
  rw [e1, withinN_enough hc top (n + 1) (l.getD k.toNat default).par l.length n (by omega) (by omega) (by omega)]
  show (if _ then _ else _) = _
  have c0 : ¬(k < 0 ∨ (l.length : Int) ≤ k) := by omega
  rw [if_neg c0]
  by_cases e : k = top
  · simp [e]
  · rw [if_neg e]; simp [e]
theorem or7 : ∀ a : Fin 8, ∀ b : Fin 8, decide (bits .or .i64 (a.1 : Int) b.1 = b.1) = decide (bits .andNot .i64 (a.1 : Int) b.1 = 0) := by decide
theorem or_andNot {a b : Int} (ha : 0 ≤ a ∧ a ≤ 7) (hb : 0 ≤ b ∧ b ≤ 7) : decide (bits .or .i64 a b = b) = decide (bits .andNot .i64 a b = 0) := by
  have := or7 ⟨a.toNat, by omega⟩ ⟨b.toNat, by omega⟩
  simp only [Int.toNat_of_nonneg ha.1, Int.toNat_of_nonneg hb.1] at this
  exact this
theorem half7 : ∀ a : Fin 8, decide (Int.tmod (Int.tdiv (a.1 : Int) 2) 2 = 0) = decide (bits .and .i64 (a.1 : Int) 2 = 0) := by decide
theorem half_and {a : Int} (ha : 0 ≤ a ∧ a ≤ 7) : decide (Int.tmod (Int.tdiv a 2) 2 = 0) = decide (bits .and .i64 a 2 = 0) := by
  have := half7 ⟨a.toNat, by omega⟩
  simp only [Int.toNat_of_nonneg ha.1] at this
  exact this
def askKv : List (Int × Value) := [(1, .func (.func 90) #[] #[]), (2, .func (.func 91) #[] #[]), (3, .func (.func 92) #[] #[]), (4, .func (.func 93) #[] #[]), (5, .func (.func 93) #[] #[])]
def askB (l : List Fr) (a b what : Int) : Bool :=
  if what = 1 then decide ((l.getD a.toNat default).org = (l.getD b.toNat default).org) else if what = 2 then true else if what = 3 then !decide (bits .and .i64 (l.getD a.toNat default).may 2 = 0) else !decide (a = b) && withinFr l b a
def mayFr (l : List Fr) (a b what : Int) : Int :=
  if holdsFr l a ≠ 0 then holdsFr l a else if holdsFr l b ≠ 0 then holdsFr l b else if what < 1 ∨ 5 < what then 3 else if askB l a b what = true then 0 else 7
def MayFr (l : List Fr) (a b what : Int) : Int := if checkFr l ≠ 0 then checkFr l else mayFr l a b what
theorem ask_some {what : Int} (h : (mget askKv what).isSome = true) : 1 ≤ what ∧ what ≤ 5 := by
  simp only [mget, askKv, List.find?_cons, List.find?_nil] at h
  by_cases h1 : (1 : Int) = what
  · omega
  by_cases h2 : (2 : Int) = what
  · omega
  by_cases h3 : (3 : Int) = what
  · omega
  by_cases h4 : (4 : Int) = what
  · omega
  by_cases h5 : (5 : Int) = what
  · omega
  simp [h1, h2, h3, h4, h5] at h
theorem ask_none {what : Int} (h : (mget askKv what).isSome = false) : what < 1 ∨ 5 < what := by
  by_cases q : 1 ≤ what ∧ what ≤ 5
  · have : what = 1 ∨ what = 2 ∨ what = 3 ∨ what = 4 ∨ what = 5 := by omega
    rcases this with rfl | rfl | rfl | rfl | rfl <;> simp [mget, askKv] at h
  · omega
end Go.Proofs.Ytghkpailmdlhgaa
namespace Go.Proofs.Ytghkpailmdlhgaa
open Go.RowKit Go.Eng
theorem may_first {l : List Fr} {a b what : Int} {i : Nat} (hi : i < 2) (h : ∀ j, j < i → holdsFr l (([a, b] : List Int).getD j 0) = 0) (hn : ¬ holdsFr l (([a, b] : List Int).getD i 0) = 0) : mayFr l a b what = holdsFr l (([a, b] : List Int).getD i 0) := by
  match i, hi, h, hn with
  | 0, _, h, hn => unfold mayFr; rw [if_pos (by exact hn)]; rfl
  | 1, _, h, hn =>
    have h0 : holdsFr l a = 0 := h 0 (by omega)
    unfold mayFr; rw [if_neg (by rw [h0]; simp), if_pos (by exact hn)]; rfl
theorem may_both {l : List Fr} {a b : Int} {i : Nat} (hi : 2 ≤ i) (h : ∀ j, j < i → holdsFr l (([a, b] : List Int).getD j 0) = 0) : holdsFr l a = 0 ∧ holdsFr l b = 0 := ⟨h 0 (by omega), h 1 (by omega)⟩
theorem may_is {l : List Fr} {a b what : Int} (h : holdsFr l a = 0 ∧ holdsFr l b = 0) : mayFr l a b what = if what < 1 ∨ 5 < what then 3 else if askB l a b what = true then 0 else 7 := by
  unfold mayFr; rw [if_neg (by rw [h.1]; simp), if_neg (by rw [h.2]; simp)]
theorem may_3 {l : List Fr} {a b what : Int} (h : holdsFr l a = 0 ∧ holdsFr l b = 0) (hn : (mget askKv what).isSome = false) : mayFr l a b what = 3 := by
  rw [may_is h, if_pos (ask_none hn)]
theorem may_7 {l : List Fr} {a b what : Int} (h : holdsFr l a = 0 ∧ holdsFr l b = 0) (hn : (mget askKv what).isSome = true) (hb : askB l a b what = false) : mayFr l a b what = 7 := by
  have := ask_some hn
  rw [may_is h, if_neg (by omega), if_neg (ff hb)]
theorem may_0 {l : List Fr} {a b what : Int} (h : holdsFr l a = 0 ∧ holdsFr l b = 0) (hn : (mget askKv what).isSome = true) (hb : askB l a b what = true) : mayFr l a b what = 0 := by
  have := ask_some hn
  rw [may_is h, if_neg (by omega), if_pos hb]
end Go.Proofs.Ytghkpailmdlhgaa
namespace Go.Proofs.Ytghkpailmdlhgaa
open Go.RowKit Go.Eng
/-! The reference's row checks are the program's. -/
theorem rwho_eq {i : Nat} {p : Int} : ((decide ((i : Int) = 0) && !decide (p = -1)) || (decide (0 < (i : Int)) && !inI p 0 ((i : Int) - 1))) = (decide (p < -1) || decide (p ≥ i) || (decide (p < 0) != decide ((i : Int) = 0))) := by
  rw [Bool.eq_iff_iff]
  simp only [Bool.or_eq_true, Bool.and_eq_true, Bool.not_eq_true', decide_eq_true_eq, decide_eq_false_iff_not, inI_f, bne_iff_ne, ne_eq, decide_eq_decide]
  omega
theorem rrange_eq {f : Fr} : ((!inI f.org 0 9 || !inI f.may 0 7) || !inI f.turn 0 1000) = frRange f := by
  rw [Bool.eq_iff_iff]
  simp only [frRange, Bool.or_eq_true, Bool.not_eq_true', decide_eq_true_eq, inI_f]
  omega
theorem rform_eq {f p : Fr} (hf : 0 ≤ f.may ∧ f.may ≤ 7) (hp : 0 ≤ p.may ∧ p.may ≤ 7) : (!decide (bits .or .i64 f.may p.may = p.may) || (p.gone && !f.gone)) = frForm f p := by
  rw [or_andNot hf hp]; rfl
/-- Frames ahead of i are in range: so their askings are. -/
def okPre (l : List Fr) (i : Nat) : Prop := ∀ j, j < i → frRange (l.getD j default) = false
theorem okPre_s {l : List Fr} {i : Nat} (h : okPre l i) (e : frRange (l.getD i default) = false) : okPre l (i + 1) := fun j hj => by
  by_cases q : j < i
  · exact h j q
  · have : j = i := by omega
    subst this; exact e
end Go.Proofs.Ytghkpailmdlhgaa
namespace Go.Proofs.Ytghkpailmdlhgaa
open Go.RowKit Go.Eng
theorem framed2 (l : List Fr) (a b : Int) : framedFr l [a, b] = if checkFr l ≠ 0 then checkFr l else if holdsFr l a ≠ 0 then holdsFr l a else holdsFr l b := by
  simp only [framedFr, List.foldl_cons, List.foldl_nil]
  by_cases h1 : checkFr l = 0
  · rw [if_pos h1, if_neg (not_not_intro h1)]
    by_cases h2 : holdsFr l a = 0
    · rw [if_pos h2, if_neg (not_not_intro h2)]
    · rw [if_neg h2, if_pos h2]
  · rw [if_neg h1, if_neg h1, if_pos h1]
theorem framed2_0 {l : List Fr} {a b : Int} (h : framedFr l [a, b] = 0) : checkFr l = 0 ∧ holdsFr l a = 0 ∧ holdsFr l b = 0 := by
  rw [framed2] at h
  split at h
  · rename_i h1; exact absurd h h1
  · rename_i h1
    split at h
    · rename_i h2; exact absurd h h2
    · rename_i h2; exact ⟨by simpa using h1, by simpa using h2, h⟩
theorem may_err {l : List Fr} {a b what : Int} (h : ¬ framedFr l [a, b] = 0) : MayFr l a b what = framedFr l [a, b] := by
  rw [framed2] at h ⊢
  unfold MayFr mayFr
  by_cases h1 : checkFr l = 0
  · rw [if_neg (not_not_intro h1)] at h ⊢
    rw [if_neg (not_not_intro h1)]
    by_cases h2 : holdsFr l a = 0
    · rw [if_neg (not_not_intro h2)] at h ⊢
      rw [if_neg (not_not_intro h2), if_pos h]
    · rw [if_pos h2, if_pos h2]
  · rw [if_pos h1, if_pos h1]
theorem May_is {l : List Fr} {a b what : Int} (h : checkFr l = 0 ∧ holdsFr l a = 0 ∧ holdsFr l b = 0) : MayFr l a b what = if what < 1 ∨ 5 < what then 3 else if askB l a b what = true then 0 else 7 := by
  unfold MayFr; rw [if_neg (not_not_intro h.1), may_is h.2]
theorem ask1 {l : List Fr} {a b : Int} : askB l a b 1 = decide ((l.getD a.toNat default).org = (l.getD b.toNat default).org) := rfl
theorem ask3 {l : List Fr} {a b : Int} (hc : checkFr l = 0) (ha : 0 ≤ a ∧ a < (l.length : Int)) : askB l a b 3 = !decide (Int.tmod (Int.tdiv (l.getD a.toNat default).may 2) 2 = 0) := by
  have := range_bounds (frErr_parts (check_at hc (i := a.toNat) (by omega))).2.1
  rw [half_and ⟨this.2.2.1, this.2.2.2.1⟩]; rfl
theorem ask45 {l : List Fr} {a b what : Int} (h : what = 4 ∨ what = 5) : askB l a b what = !(decide (a = b) || !withinFr l b a) := by
  rcases h with rfl | rfl <;> simp [askB]
end Go.Proofs.Ytghkpailmdlhgaa
namespace Go.Proofs.Ytghkpailmdlhgaa
open Go.RowKit Go.Eng
theorem May_7 {l : List Fr} {a b what : Int} (h : checkFr l = 0 ∧ holdsFr l a = 0 ∧ holdsFr l b = 0) (hw : 1 ≤ what ∧ what ≤ 5) (hb : askB l a b what = false) : MayFr l a b what = 7 := by
  rw [May_is h, if_neg (by omega), if_neg (ff hb)]
theorem May_0 {l : List Fr} {a b what : Int} (h : checkFr l = 0 ∧ holdsFr l a = 0 ∧ holdsFr l b = 0) (hw : 1 ≤ what ∧ what ≤ 5) (hb : askB l a b what = true) : MayFr l a b what = 0 := by
  rw [May_is h, if_neg (by omega), if_pos hb]
theorem May_3 {l : List Fr} {a b what : Int} (h : checkFr l = 0 ∧ holdsFr l a = 0 ∧ holdsFr l b = 0) (hw : what < 1 ∨ 5 < what) : MayFr l a b what = 3 := by
  rw [May_is h, if_pos hw]
end Go.Proofs.Ytghkpailmdlhgaa
