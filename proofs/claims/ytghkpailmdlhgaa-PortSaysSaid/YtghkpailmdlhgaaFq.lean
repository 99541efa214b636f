/- Ports: the document's way leads to the same. -/
import Derived.Test.YtghkpailmdlhgaaFp
set_option linter.unusedVariables false
set_option linter.unusedSimpArgs false
namespace Go.Proofs.Ytghkpailmdlhgaa
open Go.RowKit Go.Eng
theorem below_eq {x n : Int} : (!belowI x n) = (decide (x < 0) || decide (n ≤ x)) := by
  rw [Bool.eq_iff_iff]
  simp only [belowI, Bool.or_eq_true, Bool.not_eq_true', Bool.and_eq_false_iff, decide_eq_false_iff_not, decide_eq_true_eq]
  omega
theorem turn_eq {x : Int} : (!inI x 0 1000) = (decide (x < 0) || decide (1000 < x)) := by
  rw [Bool.eq_iff_iff]
  simp only [inI, Bool.or_eq_true, Bool.not_eq_true', Bool.and_eq_false_iff, decide_eq_false_iff_not, decide_eq_true_eq]
  omega
variable {l : List Pt} {fr k o t : Int}
theorem passR_eq {to th : Int} : changedR l fr k o t (doPass l fr to th (Int.toNat k)) = passR l fr k o t to th := by
  by_cases h : ownedPo l fr k o t = 0
  · rw [passR, if_neg (not_not_intro h)]
    by_cases h1 : (!belowI to fr) = true
    · rw [if_pos (below_eq.symm.trans h1), ch_err h (by rw [doPass, if_pos h1]; exact (by decide : ¬ (4 : Int) = 0)), doPass, if_pos h1]
    · rw [if_neg (fun z => h1 (below_eq.trans z))]
      by_cases h2 : (!inI th 0 1000) = true
      · rw [if_pos (turn_eq.symm.trans h2), ch_err h (by rw [doPass, if_neg h1, if_pos h2]; exact (by decide : ¬ (2 : Int) = 0)), doPass, if_neg h1, if_pos h2]
      · rw [if_neg (fun z => h2 (turn_eq.trans z)), ch_ok h (by rw [doPass, if_neg h1, if_neg h2]), doPass, if_neg h1, if_neg h2]
  · rw [passR, if_pos h, ch_bad rfl h]
theorem pushR_eq {g : List Cl} : changedR l fr k o t (doPush l k g) = pushR l fr k o t g := by
  by_cases h : ownedPo l fr k o t = 0
  · rw [pushR, if_neg (not_not_intro h)]
    by_cases h1 : (copyR g).2 = 0
    · rw [if_neg (not_not_intro h1)]
      by_cases h2 : (l.getD (Int.toNat (l.getD (Int.toNat k) default).mate) default).shut = true
      · rw [if_pos h2, ch_err h (by rw [doPush, if_neg (not_not_intro h1), if_pos h2]; exact (by decide : ¬ (5 : Int) = 0)), doPush, if_neg (not_not_intro h1), if_pos h2]
      · rw [if_neg h2]
        by_cases h3 : ((l.getD (Int.toNat (l.getD (Int.toNat k) default).mate) default).came.length : Int) = 16
        · rw [if_pos h3, ch_err h (by rw [doPush, if_neg (not_not_intro h1), if_neg h2, if_pos h3]; exact (by decide : ¬ (1 : Int) = 0)), doPush, if_neg (not_not_intro h1), if_neg h2, if_pos h3]
        · rw [if_neg h3, ch_ok h (by rw [doPush, if_neg (not_not_intro h1), if_neg h2, if_neg h3]), doPush, if_neg (not_not_intro h1), if_neg h2, if_neg h3]
          rfl
    · rw [if_pos h1, ch_err h (by rw [doPush, if_pos h1]; exact h1), doPush, if_pos h1]
  · rw [pushR, if_pos h, ch_bad rfl h]
theorem shutR_eq : changedR l fr k o t (shutL l (Int.toNat k), 0) = shutR l fr k o t := by
  by_cases h : ownedPo l fr k o t = 0
  · rw [shutR, if_neg (not_not_intro h), ch_ok h rfl]
  · rw [shutR, if_pos h, ch_bad rfl h]
/-- What is pulled. -/
def chG (l : List Pt) (fr k o t : Int) (x : List Cl) : List Cl := if ownedPo l fr k o t ≠ 0 then x else (doPull l k x).2.1
def dpl (l : List Pt) (k : Int) (x : List Cl) : List Pt × Int := ((doPull l k x).1, (doPull l k x).2.2)
theorem chG_bad {x : List Cl} {e : Int} (h : ownedPo l fr k o t = e) (he : e ≠ 0) : chG l fr k o t x = x := by subst h; rw [chG, if_pos he]
theorem chG_ok {x : List Cl} (h : ownedPo l fr k o t = 0) : chG l fr k o t x = (doPull l k x).2.1 := by rw [chG, if_neg (not_not_intro h)]
theorem pullR_eq : (changedR l fr k o t (dpl l k [])).1 = (pullR l fr k o t).1 ∧ chG l fr k o t [] = (pullR l fr k o t).2.1 ∧ (changedR l fr k o t (dpl l k [])).2 = (pullR l fr k o t).2.2 := by
  by_cases h : ownedPo l fr k o t = 0
  · by_cases h1 : ((l.getD (Int.toNat k) default).came.length : Int) = 0
    · have e1 : doPull l k [] = (l, [], 8) := by rw [doPull, if_pos h1]
      rw [chG_ok h, dpl, e1, pullR, if_neg (not_not_intro h), if_pos h1, ch_err h (by exact (by decide : ¬ (8 : Int) = 0))]
      exact ⟨rfl, rfl, rfl⟩
    · have e1 : (doPull l k []).2.2 = 0 := by rw [doPull, if_neg h1]
      rw [chG_ok h, pullR, if_neg (not_not_intro h), if_neg h1, ch_ok h (by exact e1), dpl, doPull, if_neg h1]
      exact ⟨rfl, rfl, rfl⟩
  · rw [pullR, if_pos h, ch_bad rfl h, chG_bad rfl h]
    exact ⟨rfl, rfl, rfl⟩
theorem openR_e (h : ¬ checkPo l fr = 0) : openR l fr o t = ([], 0, checkPo l fr) := by rw [openR, if_pos h]
theorem openR_4 (h : checkPo l fr = 0) (h1 : (!belowI o fr) = true) : openR l fr o t = ([], 0, 4) := by rw [openR, if_neg (not_not_intro h), if_pos (below_eq.symm.trans h1)]
theorem openR_2 (h : checkPo l fr = 0) (h1 : (!belowI o fr) = false) (h2 : (!inI t 0 1000) = true) : openR l fr o t = ([], 0, 2) := by rw [openR, if_neg (not_not_intro h), if_neg (ff (below_eq.symm.trans h1)), if_pos (turn_eq.symm.trans h2)]
theorem openR_1 (h : checkPo l fr = 0) (h1 : (!belowI o fr) = false) (h2 : (!inI t 0 1000) = false) (h3 : 10 < (l.length : Int)) : openR l fr o t = ([], 0, 1) := by rw [openR, if_neg (not_not_intro h), if_neg (ff (below_eq.symm.trans h1)), if_neg (ff (turn_eq.symm.trans h2)), if_pos (by omega)]
def opened (l : List Pt) (o t : Int) (i : Nat) : List Pt := l ++ ([⟨o, t, (l.length : Int) + 1, [], false⟩, ⟨o, t, (l.length : Int), [], false⟩] : List Pt).take i
theorem openR_0 (h : checkPo l fr = 0) (h1 : (!belowI o fr) = false) (h2 : (!inI t 0 1000) = false) (h3 : ¬ 10 < (l.length : Int)) : openR l fr o t = (opened l o t 2, (l.length : Int), 0) := by rw [openR, if_neg (not_not_intro h), if_neg (ff (below_eq.symm.trans h1)), if_neg (ff (turn_eq.symm.trans h2)), if_neg (by omega)]; rfl
theorem opened_s {i : Nat} (h : i < 2) : opened l o t i ++ [⟨o, t, (l.length : Int) + 1 - (i : Int), [], false⟩] = opened l o t (i + 1) := by
  match i, h with
  | 0, _ => simp [opened]
  | 1, _ => simp [opened]
theorem opened_len (i : Nat) : (opened l o t i).length ≤ l.length + 2 := by
  simp only [opened, List.length_append, List.length_take, List.length_cons, List.length_nil]; omega
end Go.Proofs.Ytghkpailmdlhgaa
