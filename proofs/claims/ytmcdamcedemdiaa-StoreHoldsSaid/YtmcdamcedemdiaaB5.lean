/- Rows: what is struck, what is repeated. -/
import Derived.Test.YtmcdamcedemdiaaB4
set_option linter.unusedVariables false
set_option linter.unusedSimpArgs false
namespace Go.Proofs.Ytmcdamcedemdiaa
open Go.RowKit Go.Eng
/-- What stays, behind it what stood there. -/
def keptL {α : Type} (p : α → Bool) (l : List α) (j : Nat) : List α := (l.take j).filter fun x => !p x
def delA {α : Type} (p : α → Bool) (l : List α) (j : Nat) : List α := keptL p l j ++ l.drop (keptL p l j).length
theorem kept_le {α : Type} (p : α → Bool) (l : List α) (j : Nat) : (keptL p l j).length ≤ min j l.length := by
  refine Nat.le_trans (List.length_filter_le _ _) ?_
  rw [List.length_take]; exact Nat.le_refl _
theorem delA_len {α : Type} (p : α → Bool) (l : List α) (j : Nat) : (delA p l j).length = l.length := by
  have := kept_le p l j
  simp only [delA, List.length_append, List.length_drop]; omega
theorem delA_at {α : Type} {p : α → Bool} (d : α) {l : List α} {j : Nat} (h : j < l.length) : (delA p l j).getD j d = l.getD j d := by
  have := kept_le p l j
  simp only [delA, List.getD_eq_getElem?_getD]
  rw [List.getElem?_append_right (by omega), List.getElem?_drop]
  congr 2; omega
theorem kept_no {α : Type} {p : α → Bool} (d : α) {l : List α} {j : Nat} (h : j < l.length) (hp : p (l.getD j d) = false) : keptL p l (j + 1) = keptL p l j ++ [l.getD j d] := by
  rw [keptL, keptL, take_s d h, List.filter_append]; simp only [List.filter_cons, List.filter_nil, hp]; simp
theorem kept_yes {α : Type} {p : α → Bool} (d : α) {l : List α} {j : Nat} (h : j < l.length) (hp : p (l.getD j d) = true) : keptL p l (j + 1) = keptL p l j := by
  rw [keptL, keptL, take_s d h, List.filter_append]; simp only [List.filter_cons, List.filter_nil, hp]; simp
theorem delA_no {α : Type} {p : α → Bool} (d : α) {l : List α} {j : Nat} (h : j < l.length) (hp : p (l.getD j d) = false) : (delA p l j).set (keptL p l j).length (l.getD j d) = delA p l (j + 1) := by
  have hk := kept_le p l j
  rw [delA, delA, kept_no d h hp, List.set_append_right _ _ (Nat.le_refl _), Nat.sub_self]
  have : l.drop (keptL p l j).length = l.getD (keptL p l j).length d :: l.drop ((keptL p l j).length + 1) := by
    rw [List.drop_eq_getElem_cons (by omega), getD_lt (by omega)]
  rw [this]
  simp
theorem delA_yes {α : Type} {p : α → Bool} (d : α) {l : List α} {j : Nat} (h : j < l.length) (hp : p (l.getD j d) = true) : delA p l j = delA p l (j + 1) := by
  rw [delA, delA, kept_yes d h hp]
theorem kept_0 {α : Type} {p : α → Bool} (d : α) {l : List α} {i : Nat} (hi : i < l.length) (hp : p (l.getD i d) = true) (hall : ∀ j, j < i → p (l.getD j d) = false) : keptL p l (i + 1) = l.take i := by
  rw [kept_yes d hi hp, keptL, List.filter_eq_self]
  intro x hx
  obtain ⟨j, hj, rfl⟩ := getD_of_mem d hx
  rw [List.length_take] at hj
  have : (l.take i).getD j d = l.getD j d := by simp only [List.getD_eq_getElem?_getD, List.getElem?_take, if_pos (show j < i by omega)]
  rw [this, hall j (by omega)]; rfl
theorem delA_0 {α : Type} {p : α → Bool} (d : α) {l : List α} {i : Nat} (hi : i < l.length) (hp : p (l.getD i d) = true) (hall : ∀ j, j < i → p (l.getD j d) = false) : l = delA p l (i + 1) := by
  rw [delA, kept_0 d hi hp hall, List.length_take, Nat.min_eq_left (Nat.le_of_lt hi), List.take_append_drop]
theorem kept_all {α : Type} {p : α → Bool} {l : List α} {j : Nat} (h : l.length ≤ j) : keptL p l j = l.filter fun x => !p x := by rw [keptL, List.take_of_length_le h]
theorem del_none {α : Type} {p : α → Bool} {l : List α} (h : idxF p l = -1) (d : α) : l = l.filter fun x => !p x := by
  rcases idxF_cases p d l with ⟨_, h2⟩ | ⟨i, h2, _⟩
  · exact (List.filter_eq_self.2 fun x hx => by rw [h2 x hx]; rfl).symm
  · rw [h2] at h; omega
theorem del_end {α : Type} {p : α → Bool} {l : List α} {j : Nat} (h : l.length ≤ j) (z : List α) : (ovr (delA p l j) (keptL p l j).length z).take (keptL p l j).length = l.filter fun x => !p x := by
  rw [ovr, List.append_assoc, List.take_append_of_le_length (by rw [List.length_take, delA_len]; have := kept_le p l j; omega), List.take_take, Nat.min_self, delA, List.take_append_of_le_length (Nat.le_refl _), List.take_length, kept_all h]
/-- The first n of many filled. -/
def fillL {α : Type} (z o : α) (n m : Nat) : List α := List.replicate n z ++ List.replicate (m - n) o
theorem fillL_len {α : Type} (z o : α) {n m : Nat} (h : n ≤ m) : (fillL z o n m).length = m := by simp [fillL]; omega
theorem fillL_0 {α : Type} (z o : α) (m : Nat) : ovr (List.replicate m o) 0 (([z] : List α).take (List.replicate m o).length) = fillL z o (Nat.min 1 m) m := by
  cases m with
  | zero => rfl
  | succ m => simp [ovr, fillL, List.take, Nat.min_def, List.drop_replicate]
theorem fillL_s {α : Type} (z o : α) {n m : Nat} (h : n ≤ m) : ovr (fillL z o n m) n ((((fillL z o n m).drop 0).take n).take ((fillL z o n m).length - n)) = fillL z o (n + Nat.min n ((fillL z o n m).length - n)) m := by
  rw [fillL_len z o h]
  have h1 : (((fillL z o n m).drop 0).take n).take (m - n) = List.replicate (Nat.min n (m - n)) z := by
    have h0 : ((fillL z o n m).drop 0).take n = List.replicate n z := by rw [List.drop_zero, fillL, List.take_append_of_le_length (by simp), List.take_of_length_le (by simp)]
    rw [h0, List.take_replicate]
    exact congrArg (fun q => List.replicate q z) (Nat.min_comm _ _)
  rw [h1, ovr, List.length_replicate, fillL, List.take_append_of_le_length (by simp), List.take_of_length_le (by simp), List.drop_append]
  have h2 : Nat.min n (m - n) ≤ m - n := Nat.min_le_right _ _
  generalize Nat.min n (m - n) = q at *
  simp only [List.drop_replicate, List.length_replicate, fillL]
  have e1 : n - (n + q) = 0 := by omega
  have e2 : m - n - (n + q - n) = m - (n + q) := by omega
  rw [e1, e2, List.replicate_zero, List.nil_append, List.replicate_append_replicate]
theorem mul_small {y : Int} (h : 0 ≤ y ∧ y ≤ 24) : IntKind.i64.wrap y = y ∧ IntKind.u64.wrap y = y := by
  constructor
  · exact wrap_in (by omega) (by omega)
  · unfold IntKind.wrap
    simp [IntKind.signed, IntKind.bits]
    omega
end Go.Proofs.Ytmcdamcedemdiaa
