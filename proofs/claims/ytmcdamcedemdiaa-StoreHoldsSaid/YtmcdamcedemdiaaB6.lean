/- Stores: new ones. -/
import Derived.Test.YtmcdamcedemdiaaB5
set_option linter.unusedVariables false
set_option linter.unusedSimpArgs false
namespace Go.Proofs.Ytmcdamcedemdiaa
open Go.RowKit Go.Eng
def nd1 : Nd := ⟨false, 0, 0, 0, -1, [], -1, false⟩
def newSt (n : Int) : List Nd × Int := if n < 0 ∨ 24 < n then ([], 2) else (List.replicate n.toNat nd1, 0)
theorem new_1 {n : Int} (h : (decide (n < 0) || decide (24 < n)) = true) : newSt n = ([], 2) := if_pos (by simpa using h)
theorem new_2 {n : Int} (h : (decide (n < 0) || decide (24 < n)) = false) : newSt n = (List.replicate n.toNat nd1, 0) := if_neg (by rw [Bool.or_eq_false_iff, decide_eq_false_iff_not, decide_eq_false_iff_not] at h; omega)
theorem set_same {α : Type} {d : α} : ∀ {l : List α} {i : Nat} {y : α}, i < l.length → y = l.getD i d → l.set i y = l
  | _ :: _, 0, _, _, h => by rw [h]; rfl
  | x :: l, i + 1, y, hi, h => by rw [List.set_cons_succ, set_same (l := l) (i := i) (by simpa using hi) (h.trans (by rw [List.getD_cons_succ]))]
theorem set_kids {l : List Nd} {i : Nat} (h : i < l.length) : l.set i { (l.getD i default) with kids := (l.getD i default).kids } = l := set_same h rfl
theorem mk_1 {l : List Nd} {g : Int} (h : ¬ checkSt l = 0) : mkSt l g = ([], ⟨0, 0⟩, checkSt l) := if_pos h
theorem mk_2 {l : List Nd} {g : Int} (h : checkSt l = 0) (h2 : g < 0 ∨ 99 < g) : mkSt l g = ([], ⟨0, 0⟩, 2) := by unfold mkSt; rw [if_neg (not_not_intro h), if_pos h2]
theorem mk_3 {l : List Nd} {g : Int} (h : checkSt l = 0) (h2 : ¬ (g < 0 ∨ 99 < g)) (h3 : idxF roomB l < 0) : mkSt l g = ([], ⟨0, 0⟩, 1) := by unfold mkSt; rw [if_neg (not_not_intro h), if_neg h2, if_pos h3]
theorem mk_4 {l : List Nd} {g : Int} (h : checkSt l = 0) (h2 : ¬ (g < 0 ∨ 99 < g)) (h3 : ¬ idxF roomB l < 0) : mkSt l g = (mkAt l (idxF roomB l).toNat g, ⟨idxF roomB l, (l.getD (idxF roomB l).toNat default).uses + 1⟩, 0) := by unfold mkSt; rw [if_neg (not_not_intro h), if_neg h2, if_neg h3]
theorem getD_setS {α : Type} {l : List α} {i : Nat} {y d : α} (h : i < l.length) : (l.set i y).getD i d = y := by simp [List.getD_eq_getElem?_getD, h]
/-- Used, of a tag; not yet counted. -/
def mkTag (l : List Nd) (k : Nat) (tag : Int) : List Nd := l.set k { (l.getD k default) with used := true, tag := tag }
theorem mkTag_eq {l : List Nd} {k : Nat} {g : Int} (h : k < l.length) : (l.set k { (l.getD k default) with used := true }).set k { ((l.set k { (l.getD k default) with used := true }).getD k default) with tag := g } = mkTag l k g := by
  rw [getD_setS h, List.set_set, mkTag]
theorem mkTag_uses {l : List Nd} {k : Nat} {g : Int} (h : k < l.length) : ((mkTag l k g).getD k default).uses = (l.getD k default).uses := by rw [mkTag, getD_setS h]
theorem mkTag_len {l : List Nd} {k : Nat} {g : Int} : (mkTag l k g).length = l.length := List.length_set
theorem mkAt_eq {l : List Nd} {k : Nat} {g : Int} (h : k < l.length) : (mkTag l k g).set k { ((mkTag l k g).getD k default) with uses := ((mkTag l k g).getD k default).uses + 1 } = mkAt l k g := by
  rw [mkTag, getD_setS h, List.set_set, mkAt]
theorem mkAt_uses {l : List Nd} {k : Nat} {g : Int} (h : k < l.length) : ((mkAt l k g).getD k default).uses = (l.getD k default).uses + 1 := by rw [mkAt, getD_setS h]
theorem mkAt_len {l : List Nd} {k : Nat} {g : Int} : (mkAt l k g).length = l.length := List.length_set
theorem roomB_lt {n : Nd} (h : roomB n = true) : n.used = false ∧ n.uses < 1000000 := by
  simpa [roomB] using h
theorem uses_ok {l : List Nd} (h : checkSt l = 0) {i : Nat} (hi : i < l.length) : 0 ≤ (l.getD i default).uses ∧ (l.getD i default).uses ≤ 1000000 := (nodesErr_at (checkSt_nodes h) hi).uses
/-- Counted; not yet used. -/
def mkU (l : List Nd) (k : Nat) : List Nd := l.set k { (l.getD k default) with uses := (l.getD k default).uses + 1 }
theorem mkU_len {l : List Nd} {k : Nat} : (mkU l k).length = l.length := List.length_set
theorem mkU_at {l : List Nd} {k : Nat} {g : Int} (h : k < l.length) : ((mkU l k).set k { ((mkU l k).getD k default) with used := true }).set k { (((mkU l k).set k { ((mkU l k).getD k default) with used := true }).getD k default) with tag := g } = mkAt l k g := by
  rw [getD_setS (by rw [mkU_len]; exact h), List.set_set, mkU, getD_setS h, List.set_set, mkAt]
theorem room_b {n : Nd} (h : n.uses ≤ 1000000) : ((!n.used) && !decide (n.uses = 1000000)) = roomB n := by
  unfold roomB
  rw [show (!decide (n.uses = 1000000)) = decide (n.uses < 1000000) by rw [← decide_not, Bool.eq_iff_iff, decide_eq_true_iff, decide_eq_true_iff]; omega]
theorem mk_hit {l : List Nd} {g : Int} {k : Nat} (h : checkSt l = 0) (h2 : ¬ (g < 0 ∨ 99 < g)) (hk : k < l.length) (h3 : ∀ j, j < k → roomB (l.getD j default) = false) (h4 : roomB (l.getD k default) = true) : mkSt l g = (mkAt l k g, ⟨k, (l.getD k default).uses + 1⟩, 0) := by
  have e := idxF_hit default hk h3 h4
  rw [mk_4 h h2 (by omega), e, Int.toNat_natCast]
theorem mk_no {l : List Nd} {g : Int} {k : Nat} (h : checkSt l = 0) (h2 : ¬ (g < 0 ∨ 99 < g)) (hk : l.length ≤ k) (h3 : ∀ j, j < k → roomB (l.getD j default) = false) : mkSt l g = ([], ⟨0, 0⟩, 1) := by
  have e := idxF_none default h3 hk
  exact mk_3 h h2 (by omega)
end Go.Proofs.Ytmcdamcedemdiaa
