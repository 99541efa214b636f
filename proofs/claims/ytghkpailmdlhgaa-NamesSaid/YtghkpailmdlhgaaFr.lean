/- Frames: what the program's frame functions compute, in plain Lean. -/
import Derived.Test.YtghkpailmdlhgaaFacts
set_option linter.unusedVariables false
namespace Go.Proofs.Ytghkpailmdlhgaa
open Go.RowKit Go.Eng
structure Fr where
  par : Int
  org : Int
  may : Int
  turn : Int
  gone : Bool
  deriving DecidableEq, Inhabited
def frCell (f : Fr) : Nat → SV
  | 0 => .v (.int .i64 f.par)
  | 1 => .v (.int .i64 f.org)
  | 2 => .v (.int .i64 f.may)
  | 3 => .v (.int .i64 f.turn)
  | _ => .v (.bool f.gone)
def frRow (l : List Fr) : SV := rowOf frCell 5 default l
def inCell (x : Int) (_ : Nat) : SV := iv x
def inRow (l : List Int) : SV := rowOf inCell 1 0 l
def okFr (f : Fr) : Prop := okInt f.par ∧ okInt f.org ∧ okInt f.may ∧ okInt f.turn
theorem opens47 : Opens Try.prog 47 5 okFr frCell := fun enc w base spare held fuel cs x h hlt => by
  obtain ⟨hl, hf⟩ := struct_at Try.underlying47 (by kernel_rfl) (by kernel_rfl) h hlt
  obtain ⟨x0, o0, u0, hu0, p0, r0⟩ := hf 0 _ rfl (opens_int Try.underlying3)
  obtain ⟨x1, o1, u1, hu1, p1, r1⟩ := hf 1 _ rfl (opens_int Try.underlying3)
  obtain ⟨x2, o2, u2, hu2, p2, r2⟩ := hf 2 _ rfl (opens_int Try.underlying3)
  obtain ⟨x3, o3, u3, hu3, p3, r3⟩ := hf 3 _ rfl (opens_int Try.underlying3)
  obtain ⟨x4, _, u4, hu4, p4, r4⟩ := hf 4 _ rfl (opens_bool Try.underlying4)
  refine ⟨hl, ⟨x0, x1, x2, x3, x4⟩, ⟨o0, o1, o2, o3⟩, fun i hi => ?_⟩
  match i, hi with
  | 0, _ => exact ⟨_, hu0, p0, r0⟩
  | 1, _ => exact ⟨_, hu1, p1, r1⟩
  | 2, _ => exact ⟨_, hu2, p2, r2⟩
  | 3, _ => exact ⟨_, hu3, p3, r3⟩
  | 4, _ => exact ⟨_, hu4, p4, r4⟩
theorem opens27 : Opens Try.prog 27 1 (fun l : List Fr => l.length ≤ maxLen ∧ ∀ x ∈ l, okFr x) fun l _ => frRow l := opens_slice default Try.underlying27 opens47 co47 (by decide)
theorem opens24 : Opens Try.prog 24 1 (fun l : List Int => l.length ≤ maxLen ∧ ∀ x ∈ l, okInt x) fun l _ => inRow l := opens_slice 0 Try.underlying24 (opens_int Try.underlying3) co3 (by decide)
theorem zero47 : ZeroOk Try.prog 47 5 (frCell ⟨0, 0, 0, 0, false⟩) := by
  refine ⟨_, Try.zeroValue47, rfl, fun t ht => ?_⟩
  match t, ht with
  | 0, _ => exact ⟨_, rfl, rfl, fun _ _ => rfl⟩
  | 1, _ => exact ⟨_, rfl, rfl, fun _ _ => rfl⟩
  | 2, _ => exact ⟨_, rfl, rfl, fun _ _ => rfl⟩
  | 3, _ => exact ⟨_, rfl, rfl, fun _ _ => rfl⟩
  | 4, _ => exact ⟨_, rfl, rfl, fun _ _ => rfl⟩

/-- The first error of a row of checks. -/
def firstErr (f : Nat → Int) : Nat → Nat → Int
  | _, 0 => 0
  | i, n + 1 => if f i ≠ 0 then f i else firstErr f (i + 1) n
def holdsFr (l : List Fr) (k : Int) : Int := if (decide (k < 0) || decide ((l.length : Int) ≤ k)) = true then 4 else if (l.getD k.toNat default).gone = true then 5 else 0
def frWho (i : Nat) (f : Fr) : Bool := f.par < -1 || f.par ≥ i || (decide (f.par < 0) != decide ((i : Int) = 0))
def frRange (f : Fr) : Bool := f.org < 0 || f.org > 9 || f.may < 0 || f.may > 7 || f.turn < 0 || f.turn > 1000
def frForm (f p : Fr) : Bool := !decide (bits .andNot .i64 f.may p.may = 0) || (p.gone && !f.gone)
def frErr (l : List Fr) (i : Nat) : Int :=
  if frWho i (l.getD i default) = true then 4 else if frRange (l.getD i default) = true then 2 else if (decide (0 < (i : Int)) && frForm (l.getD i default) (l.getD (l.getD i default).par.toNat default)) = true then 3 else 0
def checkFr (l : List Fr) : Int := if 8 < l.length then 1 else firstErr (frErr l) 0 l.length
/-- Is k in top, at any depth? The program's own way, so many steps at most. -/
def withinN (l : List Fr) : Nat → Int → Int → Bool
  | 0, _, _ => false
  | n + 1, k, top => if k < 0 ∨ (l.length : Int) ≤ k then false else if k = top then true else withinN l n (l.getD k.toNat default).par top
def withinFr (l : List Fr) (k top : Int) : Bool := withinN l l.length k top
theorem firstErr_step {f : Nat → Int} {i n : Nat} (h : i < n) : firstErr f i (n - i) = if f i ≠ 0 then f i else firstErr f (i + 1) (n - (i + 1)) := by
  have e : n - i = (n - (i + 1)) + 1 := by omega
  rw [e]; rfl
end Go.Proofs.Ytghkpailmdlhgaa
namespace Go.Proofs.Ytghkpailmdlhgaa
open Go.RowKit Go.Eng
theorem firstErr_hit {f : Nat → Int} {i n : Nat} {r e : Int} (hi : i < n) (h : r = firstErr f i (n - i)) (he : f i = e) (h0 : e ≠ 0) : r = e := by
  rw [h, firstErr_step hi, if_pos (by rw [he]; exact h0), he]
theorem firstErr_next {f : Nat → Int} {i n : Nat} {r : Int} (hi : i < n) (h : r = firstErr f i (n - i)) (he : f i = 0) : r = firstErr f (i + 1) (n - (i + 1)) := by
  rw [h, firstErr_step hi, if_neg (by rw [he]; simp)]
theorem firstErr_end {f : Nat → Int} {i n : Nat} {r : Int} (hi : n ≤ i) (h : r = firstErr f i (n - i)) : r = 0 := by
  rw [h, Nat.sub_eq_zero_of_le hi]; rfl
theorem frErr_4 {l : List Fr} {i : Nat} (h : frWho i (l.getD i default) = true) : frErr l i = 4 := by unfold frErr; rw [if_pos h]
theorem frErr_2 {l : List Fr} {i : Nat} (h : frWho i (l.getD i default) = false) (h2 : frRange (l.getD i default) = true) : frErr l i = 2 := by unfold frErr; rw [if_neg (ff h), if_pos h2]
theorem frErr_3 {l : List Fr} {i : Nat} (h : frWho i (l.getD i default) = false) (h2 : frRange (l.getD i default) = false) (h3 : (decide (0 < (i : Int)) && frForm (l.getD i default) (l.getD (l.getD i default).par.toNat default)) = true) : frErr l i = 3 := by
  unfold frErr; rw [if_neg (ff h), if_neg (ff h2), if_pos h3]
theorem frErr_0 {l : List Fr} {i : Nat} (h : frWho i (l.getD i default) = false) (h2 : frRange (l.getD i default) = false) (h3 : (decide (0 < (i : Int)) && frForm (l.getD i default) (l.getD (l.getD i default).par.toNat default)) = false) : frErr l i = 0 := by
  unfold frErr; rw [if_neg (ff h), if_neg (ff h2), if_neg (ff h3)]
theorem par_ok {i : Nat} {p : Int} (h : (decide (p < 0) != decide ((i : Int) = 0)) = false) (g : decide (0 < (i : Int)) = true) : 0 ≤ p := by
  have g' : (0 : Int) < i := by simpa using g
  by_cases q : p < 0
  · rw [decide_eq_true q, decide_eq_false (by omega)] at h; simp at h
  · omega
theorem dlt (i : Nat) : decide (0 < (i : Int)) = decide (0 < i) := by rw [Bool.eq_iff_iff]; simp
theorem checkFr_1 {l : List Fr} (h : 8 < (l.length : Int)) : checkFr l = 1 := by unfold checkFr; rw [if_pos (by omega)]
theorem checkFr_s {l : List Fr} (h : ¬ 8 < (l.length : Int)) : checkFr l = firstErr (frErr l) 0 (l.length - 0) := by unfold checkFr; rw [if_neg (by omega)]; rfl
theorem withinN_step {l : List Fr} {i : Nat} {x top : Int} (h : i < l.length) :
    withinN l (l.length - i) x top = if x < 0 ∨ (l.length : Int) ≤ x then false else if x = top then true else withinN l (l.length - (i + 1)) (l.getD x.toNat default).par top := by
  have e : l.length - i = (l.length - (i + 1)) + 1 := by omega
  rw [e]; rfl
end Go.Proofs.Ytghkpailmdlhgaa
namespace Go.Proofs.Ytghkpailmdlhgaa
open Go.RowKit Go.Eng
/-- Two rows are the same up to i. -/
def samePre {α : Type} [Inhabited α] (d : α) (l m : List α) (i : Nat) : Prop := l.length = m.length ∧ ∀ j, j < i → l.getD j d = m.getD j d
theorem samePre_0 {α : Type} [Inhabited α] {d : α} {l m : List α} (h : l.length = m.length) : samePre d l m 0 := ⟨h, fun _ h => absurd h (Nat.not_lt_zero _)⟩
theorem samePre_s {α : Type} [Inhabited α] {d : α} {l m : List α} {i : Nat} (h : samePre d l m i) (e : l.getD i d = m.getD i d) : samePre d l m (i + 1) :=
  ⟨h.1, fun j hj => by
    by_cases q : j < i
    · exact h.2 j q
    · have : j = i := by omega
      subst this; exact e⟩
theorem samePre_eq {α : Type} [Inhabited α] {d : α} {l m : List α} {i : Nat} (h : samePre d l m i) (hi : l.length ≤ i) : l = m := by
  refine List.ext_getElem h.1 fun j h1 h2 => ?_
  have := h.2 j (by omega)
  simpa [List.getD_eq_getElem?_getD, h1, h2] using this
theorem samePre_ne {α : Type} [Inhabited α] {d : α} {l m : List α} {i : Nat} (h : l.getD i d ≠ m.getD i d) : l ≠ m := fun e => h (by rw [e])
def eqInt (l m : List Int) : Bool := decide (l = m)
end Go.Proofs.Ytghkpailmdlhgaa
namespace Go.Proofs.Ytghkpailmdlhgaa
theorem names_lit {i : Nat} (h : i < 9) : ([0, 1, 2, 3, 4, 5, 6, 7, 8] : List Int).getD i 0 = (i : Int) := by
  match i, h with
  | 0, _ => rfl
  | 1, _ => rfl
  | 2, _ => rfl
  | 3, _ => rfl
  | 4, _ => rfl
  | 5, _ => rfl
  | 6, _ => rfl
  | 7, _ => rfl
  | 8, _ => rfl
end Go.Proofs.Ytghkpailmdlhgaa
