/- Frames attached, discarded, counted; navigation: plain Lean. -/
import Derived.Test.YtghkpailmdlhgaaFs
set_option linter.unusedVariables false
set_option linter.unusedSimpArgs false
namespace Go.Proofs.Ytghkpailmdlhgaa
open Go.RowKit Go.Eng
def attachBad (org may : Int) : Bool := ((decide (org < 0) || decide (9 < org)) || decide (may < 0)) || decide (7 < may)
def newFr (l : List Fr) (p org may : Int) : Fr := ⟨p, org, bits .and .i64 may (l.getD p.toNat default).may, 0, false⟩
def attachFr (l : List Fr) (p org may : Int) : List Fr × Int :=
  if checkFr l ≠ 0 then ([], checkFr l) else if holdsFr l p ≠ 0 then ([], holdsFr l p) else if attachBad org may = true then ([], 2) else
  if bits .and .i64 (l.getD p.toNat default).may 4 = 0 then ([], 7) else if l.length = 8 then ([], 1) else (l ++ [newFr l p org may], 0)
theorem attach_1 {l : List Fr} {p org may : Int} (h : ¬ checkFr l = 0) : attachFr l p org may = ([], checkFr l) := by unfold attachFr; rw [if_pos h]
theorem attach_2 {l : List Fr} {p org may : Int} (hc : checkFr l = 0) (h : ¬ holdsFr l p = 0) : attachFr l p org may = ([], holdsFr l p) := by unfold attachFr; rw [if_neg (not_not_intro hc), if_pos h]
theorem attach_3 {l : List Fr} {p org may : Int} (hc : checkFr l = 0) (h0 : holdsFr l p = 0) (h : attachBad org may = true) : attachFr l p org may = ([], 2) := by unfold attachFr; rw [if_neg (not_not_intro hc), if_neg (not_not_intro h0), if_pos h]
theorem attach_4 {l : List Fr} {p org may : Int} (hc : checkFr l = 0) (h0 : holdsFr l p = 0) (h1 : attachBad org may = false) (h : bits .and .i64 (l.getD p.toNat default).may 4 = 0) : attachFr l p org may = ([], 7) := by
  unfold attachFr; rw [if_neg (not_not_intro hc), if_neg (not_not_intro h0), if_neg (ff h1), if_pos h]
theorem attach_5 {l : List Fr} {p org may : Int} (hc : checkFr l = 0) (h0 : holdsFr l p = 0) (h1 : attachBad org may = false) (h2 : ¬ bits .and .i64 (l.getD p.toNat default).may 4 = 0) (h : l.length = 8) : attachFr l p org may = ([], 1) := by
  unfold attachFr; rw [if_neg (not_not_intro hc), if_neg (not_not_intro h0), if_neg (ff h1), if_neg h2, if_pos h]
theorem attach_6 {l : List Fr} {p org may : Int} (hc : checkFr l = 0) (h0 : holdsFr l p = 0) (h1 : attachBad org may = false) (h2 : ¬ bits .and .i64 (l.getD p.toNat default).may 4 = 0) (h : ¬ l.length = 8) : attachFr l p org may = (l ++ [newFr l p org may], 0) := by
  unfold attachFr; rw [if_neg (not_not_intro hc), if_neg (not_not_intro h0), if_neg (ff h1), if_neg h2, if_neg h]
end Go.Proofs.Ytghkpailmdlhgaa
namespace Go.Proofs.Ytghkpailmdlhgaa
open Go.RowKit Go.Eng
theorem countP_take_s {α : Type} (p : α → Bool) (d : α) (l : List α) (i : Nat) (h : i < l.length) : (l.take (i + 1)).countP p = (l.take i).countP p + if p (l.getD i d) = true then 1 else 0 := by
  rw [List.take_add_one, List.countP_append]
  simp [List.getElem?_eq_getElem h, List.getD_eq_getElem?_getD]
def kidP (k : Int) (f : Fr) : Bool := decide (f.par = k) && !f.gone
def lenFr (l : List Fr) (k : Int) : Int × Int := if checkFr l ≠ 0 then (0, checkFr l) else if holdsFr l k ≠ 0 then (0, holdsFr l k) else (((l.countP (kidP k) : Nat) : Int), 0)
theorem len_1 {l : List Fr} {k : Int} (h : ¬ checkFr l = 0) : lenFr l k = (0, checkFr l) := by unfold lenFr; rw [if_pos h]
theorem len_2 {l : List Fr} {k : Int} (hc : checkFr l = 0) (h : ¬ holdsFr l k = 0) : lenFr l k = (0, holdsFr l k) := by unfold lenFr; rw [if_neg (not_not_intro hc), if_pos h]
theorem len_3 {l : List Fr} {k : Int} (hc : checkFr l = 0) (h : holdsFr l k = 0) : lenFr l k = (((l.countP (kidP k) : Nat) : Int), 0) := by unfold lenFr; rw [if_neg (not_not_intro hc), if_neg (not_not_intro h)]
/-- A frame gone with all in it: the program's own way. -/
def setGone (l : List Fr) (i : Nat) : List Fr := l.set i { l.getD i default with gone := true }
def goneTest (l : List Fr) (i : Nat) : Bool := decide (0 ≤ (l.getD i default).par) && (l.getD (l.getD i default).par.toNat default).gone
def goneStep (l : List Fr) (i : Nat) : List Fr := if goneTest l i = true then setGone l i else l
def goneK (l : List Fr) (k : Int) : Nat → List Fr
  | 0 => setGone l k.toNat
  | i + 1 => goneStep (goneK l k i) i
theorem setGone_len (l : List Fr) (i : Nat) : (setGone l i).length = l.length := by simp [setGone]
theorem goneK_len (l : List Fr) (k : Int) : ∀ i, (goneK l k i).length = l.length
  | 0 => setGone_len l _
  | i + 1 => by
    unfold goneK goneStep
    split
    · rw [setGone_len, goneK_len l k i]
    · exact goneK_len l k i
/-- Nothing turns but the mark. -/
def sameBut (f g : Fr) : Prop := f.par = g.par ∧ f.org = g.org ∧ f.may = g.may ∧ f.turn = g.turn
theorem setGone_same (l : List Fr) (i j : Nat) : sameBut ((setGone l i).getD j default) (l.getD j default) := by
  unfold setGone
  simp only [List.getD_eq_getElem?_getD, List.getElem?_set]
  by_cases e : i = j
  · subst e
    rw [if_pos rfl]
    by_cases h : i < l.length
    · simp only [if_pos h, Option.getD_some]
      exact ⟨rfl, rfl, rfl, rfl⟩
    · rw [if_neg h, List.getElem?_eq_none (by omega)]
      exact ⟨rfl, rfl, rfl, rfl⟩
  · rw [if_neg e]
    exact ⟨rfl, rfl, rfl, rfl⟩
theorem goneK_same (l : List Fr) (k : Int) (j : Nat) : ∀ i, sameBut ((goneK l k i).getD j default) (l.getD j default)
  | 0 => setGone_same l _ j
  | i + 1 => by
    have ih := goneK_same l k j i
    unfold goneK goneStep
    split
    · have := setGone_same (goneK l k i) i j
      exact ⟨this.1.trans ih.1, this.2.1.trans ih.2.1, this.2.2.1.trans ih.2.2.1, this.2.2.2.trans ih.2.2.2⟩
    · exact ih
def goneFr (l : List Fr) (k : Int) : List Fr := goneK l k l.length
def discardFr (l : List Fr) (k : Int) : List Fr × Int := if checkFr l ≠ 0 then ([], checkFr l) else if holdsFr l k ≠ 0 then ([], holdsFr l k) else (goneFr l k, 0)
theorem disc_1 {l : List Fr} {k : Int} (h : ¬ checkFr l = 0) : discardFr l k = ([], checkFr l) := by unfold discardFr; rw [if_pos h]
theorem disc_2 {l : List Fr} {k : Int} (hc : checkFr l = 0) (h : ¬ holdsFr l k = 0) : discardFr l k = ([], holdsFr l k) := by unfold discardFr; rw [if_neg (not_not_intro hc), if_pos h]
theorem disc_3 {l : List Fr} {k : Int} (hc : checkFr l = 0) (h : holdsFr l k = 0) : discardFr l k = (goneFr l k, 0) := by unfold discardFr; rw [if_neg (not_not_intro hc), if_neg (not_not_intro h)]
theorem goneK_par {l : List Fr} (hc : checkFr l = 0) (k : Int) (i j : Nat) (hj : j < l.length) : ((goneK l k i).getD j default).par < l.length := by
  have h1 := (goneK_same l k j i).1
  have := (who_bounds (frErr_parts (check_at hc hj)).1).2.1
  omega
end Go.Proofs.Ytghkpailmdlhgaa
