/- Stores: what a hand holds. -/
import Derived.Test.YtmcdamcedemdiaaB9
set_option linter.unusedVariables false
set_option linter.unusedSimpArgs false
namespace Go.Proofs.Ytmcdamcedemdiaa
open Go.RowKit Go.Eng
/-- A hand's node is there, or is gone for ever. -/
structure HoldSt (s : List Nd) (h : Hd) (tag : Int) (gone : Bool) : Prop where
  ok : checkSt s = 0
  pl : 0 ≤ h.pl ∧ h.pl < (s.length : Int)
  use : 1 ≤ h.use ∧ h.use ≤ (s.getD h.pl.toNat default).uses
  live : gone = false → (s.getD h.pl.toNat default).used = true ∧ (s.getD h.pl.toNat default).uses = h.use ∧ (s.getD h.pl.toNat default).tag = tag
  dead : gone = true → (s.getD h.pl.toNat default).used = false ∨ ¬ (s.getD h.pl.toNat default).uses = h.use
theorem mk_ok {l : List Nd} {g : Int} (e : (mkSt l g).2.2 = 0) : checkSt l = 0 ∧ (0 ≤ g ∧ g ≤ 99) ∧ ∃ k : Nat, k < l.length ∧ roomB (l.getD k default) = true ∧ mkSt l g = (mkAt l k g, ⟨(k : Int), (l.getD k default).uses + 1⟩, 0) := by
  have h1 : checkSt l = 0 := Classical.byContradiction fun q => by rw [mk_1 q] at e; exact q e
  have h2 : ¬ (g < 0 ∨ 99 < g) := fun q => by rw [mk_2 h1 q] at e; cases e
  refine ⟨h1, by omega, ?_⟩
  rcases idxF_cases roomB default l with ⟨a, _⟩ | ⟨i, a, hi, hp, ha⟩
  · rw [mk_3 h1 h2 (by omega)] at e; cases e
  · exact ⟨i, hi, hp, mk_hit h1 h2 hi ha hp⟩
theorem hold_new {l : List Nd} {g : Int} (e : (mkSt l g).2.2 = 0) : HoldSt (mkSt l g).1 (mkSt l g).2.1 g false := by
  obtain ⟨h1, hg, k, hk, hr, q⟩ := mk_ok e
  have hu := uses_ok h1 hk
  have hat : (mkAt l k g).getD k default = { (l.getD k default) with used := true, tag := g, uses := (l.getD k default).uses + 1 } := getD_setS hk
  rw [q]
  refine ⟨mk_keep h1 hk hr hg, ?_, ?_, fun _ => ?_, fun q => (by cases q)⟩
  · show 0 ≤ (k : Int) ∧ (k : Int) < ((mkAt l k g).length : Int)
    rw [mkAt_len]; omega
  · show 1 ≤ (l.getD k default).uses + 1 ∧ (l.getD k default).uses + 1 ≤ ((mkAt l k g).getD k default).uses
    rw [hat]; show 1 ≤ (l.getD k default).uses + 1 ∧ (l.getD k default).uses + 1 ≤ (l.getD k default).uses + 1; omega
  · show ((mkAt l k g).getD k default).used = true ∧ ((mkAt l k g).getD k default).uses = (l.getD k default).uses + 1 ∧ ((mkAt l k g).getD k default).tag = g
    rw [hat]; exact ⟨rfl, rfl, rfl⟩
theorem hold_mk {s : List Nd} {h : Hd} {tag g : Int} {gone : Bool} (H : HoldSt s h tag gone) (e : (mkSt s g).2.2 = 0) : HoldSt (mkSt s g).1 h tag gone ∧ ¬ (mkSt s g).2.1 = h := by
  obtain ⟨h1, hg, k, hk, hr, q⟩ := mk_ok e
  have hat : (mkAt s k g).getD k default = { (s.getD k default) with used := true, tag := g, uses := (s.getD k default).uses + 1 } := getD_setS hk
  have hok := mk_keep h1 hk hr hg
  have hpl : 0 ≤ h.pl ∧ h.pl < ((mkAt s k g).length : Int) := by rw [mkAt_len]; exact H.pl
  have huse := H.use
  obtain ⟨r1, r2⟩ := roomB_lt hr
  rw [q]
  by_cases c : h.pl.toNat = k
  · rw [c] at huse
    refine ⟨⟨hok, hpl, ?_, fun a => ?_, fun _ => .inr ?_⟩, fun a => ?_⟩
    · show _ ∧ _ ≤ ((mkAt s k g).getD h.pl.toNat default).uses
      rw [c, hat]; show 1 ≤ h.use ∧ h.use ≤ (s.getD k default).uses + 1; omega
    · have := (H.live a).1; rw [c, r1] at this; cases this
    · show ¬ ((mkAt s k g).getD h.pl.toNat default).uses = h.use
      rw [c, hat]; show ¬ (s.getD k default).uses + 1 = h.use; omega
    · have a : (s.getD k default).uses + 1 = h.use := congrArg Hd.use a
      omega
  · have hne : (mkAt s k g).getD h.pl.toNat default = s.getD h.pl.toNat default := by unfold mkAt; rw [getD_sets hk, if_neg c]
    refine ⟨⟨hok, hpl, ?_, fun a => ?_, fun a => ?_⟩, fun a => c ?_⟩
    · show _ ∧ _ ≤ ((mkAt s k g).getD h.pl.toNat default).uses
      rw [hne]; exact huse
    · show ((mkAt s k g).getD h.pl.toNat default).used = true ∧ ((mkAt s k g).getD h.pl.toNat default).uses = h.use ∧ ((mkAt s k g).getD h.pl.toNat default).tag = tag
      rw [hne]; exact H.live a
    · show ((mkAt s k g).getD h.pl.toNat default).used = false ∨ ¬ ((mkAt s k g).getD h.pl.toNat default).uses = h.use
      rw [hne]; exact H.dead a
    · have a : (k : Int) = h.pl := congrArg Hd.pl a
      omega
theorem hold_fr {s : List Nd} {h : Hd} {tag p u : Int} {gone : Bool} (H : HoldSt s h tag gone) (e : (freeSt s ⟨p, u⟩).2 = 0) : HoldSt (freeSt s ⟨p, u⟩).1 h tag (gone || decide (p = h.pl)) := by
  have q : (findSt s ⟨p, u⟩).2 = 0 := Classical.byContradiction fun q => by rw [free_1 q] at e; exact q e
  have b : freeBad s p = false := Bool.eq_false_iff.2 fun b => by rw [free_2 q b] at e; cases e
  have hin := holds_in (find_ok q).2.1
  have hp : 0 ≤ p ∧ p < (s.length : Int) := ⟨hin.1, hin.2.1⟩
  have hk : p.toNat < s.length := by omega
  have hh := H.pl
  rw [free_3 q b]
  have hok := fr_keep H.ok hp b
  by_cases c : p = h.pl
  · subst c
    have hat : (s.set h.pl.toNat (⟨false, (s.getD h.pl.toNat default).uses, 0, 0, -1, [], -1, false⟩ : Nd)).getD h.pl.toNat default = ⟨false, (s.getD h.pl.toNat default).uses, 0, 0, -1, [], -1, false⟩ := getD_setS hk
    refine ⟨hok, by rw [List.length_set]; exact H.pl, ?_, fun a => ?_, fun _ => .inl ?_⟩
    · show _ ∧ _ ≤ ((s.set h.pl.toNat (⟨false, (s.getD h.pl.toNat default).uses, 0, 0, -1, [], -1, false⟩ : Nd)).getD h.pl.toNat default).uses
      rw [hat]; exact H.use
    · rw [decide_eq_true rfl, Bool.or_true] at a; cases a
    · show ((s.set h.pl.toNat (⟨false, (s.getD h.pl.toNat default).uses, 0, 0, -1, [], -1, false⟩ : Nd)).getD h.pl.toNat default).used = false
      rw [hat]
  · have hne : (s.set p.toNat (⟨false, (s.getD p.toNat default).uses, 0, 0, -1, [], -1, false⟩ : Nd)).getD h.pl.toNat default = s.getD h.pl.toNat default := by rw [getD_sets hk, if_neg (by omega)]
    rw [decide_eq_false c, Bool.or_false]
    refine ⟨hok, by rw [List.length_set]; exact H.pl, ?_, fun a => ?_, fun a => ?_⟩
    · show _ ∧ _ ≤ ((s.set p.toNat (⟨false, (s.getD p.toNat default).uses, 0, 0, -1, [], -1, false⟩ : Nd)).getD h.pl.toNat default).uses
      rw [hne]; exact H.use
    · have := H.live a; rw [← hne] at this; exact this
    · have := H.dead a; rw [← hne] at this; exact this
theorem hold_5 {s : List Nd} {h : Hd} {tag : Int} (H : HoldSt s h tag true) : holdsSt s h = 5 := by
  have h1 := H.pl; have h2 := H.use
  refine holds_5 ?_ ?_
  · simp only [holdsWho, Bool.or_eq_false_iff, decide_eq_false_iff_not]; omega
  · simp only [holdsGone, Bool.or_eq_true, Bool.not_eq_true', decide_eq_false_iff_not]; exact H.dead rfl
theorem hold_f {s : List Nd} {h : Hd} {tag : Int} (H : HoldSt s h tag false) : (findSt s h).2 = 0 ∧ (findSt s h).1.tag = tag := by
  have h1 := H.pl; have h2 := H.use
  obtain ⟨a, b, c⟩ := H.live rfl
  have : holdsSt s h = 0 := by
    refine holds_0 ?_ ?_
    · simp only [holdsWho, Bool.or_eq_false_iff, decide_eq_false_iff_not]; omega
    · simp only [holdsGone, a, b, decide_true, Bool.not_true, Bool.or_self]
  rw [find_3 H.ok this]; exact ⟨rfl, c⟩
theorem hold_no {s : List Nd} {h : Hd} {tag : Int} {g : Bool} (H : HoldSt s h tag g) : (!decide (checkSt s = 0) || (g && !decide (holdsSt s h = 5))) = false := by
  rw [decide_eq_true H.ok]
  cases g with
  | false => rfl
  | true => rw [decide_eq_true (hold_5 H)]; rfl
theorem hold_no2 {s : List Nd} {h : Hd} {tag : Int} {g : Bool} (H : HoldSt s h tag g) : (!g && (!decide ((findSt s h).2 = 0) || !decide ((findSt s h).1.tag = tag))) = false := by
  cases g with
  | false => rw [decide_eq_true (hold_f H).1, decide_eq_true (hold_f H).2]; rfl
  | true => rfl
theorem hold_g1 {s : List Nd} {h : Hd} {tag a : Int} {g b : Bool} (H : HoldSt s h tag (g || b)) (e : a = 0) : HoldSt s h tag (g || (decide (a = 0) && b)) := by rw [decide_eq_true e, Bool.true_and]; exact H
theorem hold_g0 {s : List Nd} {h : Hd} {tag a : Int} {g b : Bool} (H : HoldSt s h tag g) (e : ¬ a = 0) : HoldSt s h tag (g || (decide (a = 0) && b)) := by rw [decide_eq_false e, Bool.false_and, Bool.or_false]; exact H
end Go.Proofs.Ytmcdamcedemdiaa
