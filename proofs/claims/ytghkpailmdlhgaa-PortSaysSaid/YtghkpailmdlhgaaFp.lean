/- Ports: what the program's port functions compute, in plain Lean. -/
import Derived.Test.YtghkpailmdlhgaaFd
set_option linter.unusedVariables false
set_option linter.unusedSimpArgs false
namespace Go.Proofs.Ytghkpailmdlhgaa
open Go.RowKit Go.Eng
structure Pt where
  owner : Int
  turn : Int
  mate : Int
  came : List (List Cl)
  shut : Bool
  deriving DecidableEq, Inhabited
def gsRow (l : List (List Cl)) : SV := rowOf grG 1 [] l
def ptCell (p : Pt) : Nat → SV
  | 0 => iv p.owner
  | 1 => iv p.turn
  | 2 => iv p.mate
  | 3 => gsRow p.came
  | _ => bv p.shut
def ptRow (l : List Pt) : SV := rowOf ptCell 5 default l
def okGr (l : List Cl) : Prop := l.length ≤ maxLen ∧ ∀ x ∈ l, okCl x
def okPt (p : Pt) : Prop := okInt p.owner ∧ okInt p.turn ∧ okInt p.mate ∧ (p.came.length ≤ maxLen ∧ ∀ x ∈ p.came, okGr x)
theorem opens59 : Opens Try.prog 59 1 (fun l : List (List Cl) => l.length ≤ maxLen ∧ ∀ x ∈ l, okGr x) fun l _ => gsRow l := opens_slice [] Try.underlying59 opens35 co35 (by decide)
theorem opens71 : Opens Try.prog 71 5 okPt ptCell := fun enc w base spare held fuel cs x h hlt => by
  obtain ⟨hl, hf⟩ := struct_at Try.underlying71 (by kernel_rfl) (by kernel_rfl) h hlt
  obtain ⟨x0, o0, u0, hu0, p0, r0⟩ := hf 0 _ rfl (opens_int Try.underlying3)
  obtain ⟨x1, o1, u1, hu1, p1, r1⟩ := hf 1 _ rfl (opens_int Try.underlying3)
  obtain ⟨x2, o2, u2, hu2, p2, r2⟩ := hf 2 _ rfl (opens_int Try.underlying3)
  obtain ⟨x3, o3, u3, hu3, p3, r3⟩ := hf 3 _ rfl opens59
  obtain ⟨x4, o4, u4, hu4, p4, r4⟩ := hf 4 _ rfl (opens_bool Try.underlying4)
  refine ⟨hl, ⟨x0, x1, x2, x3, x4⟩, ⟨o0, o1, o2, o3⟩, fun i hi => ?_⟩
  match i, hi with
  | 0, _ => exact ⟨_, hu0, p0, r0⟩
  | 1, _ => exact ⟨_, hu1, p1, r1⟩
  | 2, _ => exact ⟨_, hu2, p2, r2⟩
  | 3, _ => exact ⟨_, hu3, p3, r3⟩
  | 4, _ => exact ⟨_, hu4, p4, r4⟩
theorem opens60 : Opens Try.prog 60 1 (fun l : List Pt => l.length ≤ maxLen ∧ ∀ x ∈ l, okPt x) fun l _ => ptRow l := opens_slice default Try.underlying60 opens71 co71 (by decide)
theorem zero71 : ZeroOk Try.prog 71 5 (cmpG [iv 0, iv 0, iv 0, .v (.slice none 0 0), bv false]) := by
  refine ⟨_, Try.zeroValue71, rfl, fun t ht => ?_⟩
  match t, ht with
  | 0, _ => exact ⟨_, rfl, rfl, fun _ _ => rfl⟩
  | 1, _ => exact ⟨_, rfl, rfl, fun _ _ => rfl⟩
  | 2, _ => exact ⟨_, rfl, rfl, fun _ _ => rfl⟩
  | 3, _ => exact ⟨_, rfl, rfl, fun _ _ => rfl⟩
  | 4, _ => exact ⟨_, rfl, rfl, fun _ _ => rfl⟩
/-! Are they some? -/
def gErr (c : List (List Cl)) (j : Nat) : Int := checkGr (c.getD j [])
def poWho (l : List Pt) (fr : Int) (p : Pt) : Bool := decide (p.owner < 0) || decide (fr ≤ p.owner) || decide (p.mate < 0) || decide ((l.length : Int) ≤ p.mate)
def poForm (l : List Pt) (i : Nat) (p : Pt) : Bool := decide (p.mate = (i : Int)) || !decide ((l.getD (Int.toNat p.mate) default).mate = (i : Int))
def poTurn (p : Pt) : Bool := decide (p.turn < 0) || decide (1000 < p.turn)
def poMany (p : Pt) : Bool := decide (16 < (p.came.length : Int)) || (p.shut && decide (0 < (p.came.length : Int)))
def poErr (l : List Pt) (fr : Int) (i : Nat) : Int :=
  if poWho l fr (l.getD i default) = true then 4 else if poForm l i (l.getD i default) = true then 3 else if poTurn (l.getD i default) = true then 2 else if poMany (l.getD i default) = true then 1 else
    firstErr (gErr (l.getD i default).came) 0 (l.getD i default).came.length
def checkPo (l : List Pt) (fr : Int) : Int := if 12 < l.length then 1 else firstErr (poErr l fr) 0 l.length
theorem checkPo_1 {l : List Pt} {fr : Int} (h : 12 < (l.length : Int)) : checkPo l fr = 1 := by unfold checkPo; rw [if_pos (by omega)]
theorem checkPo_s {l : List Pt} {fr : Int} (h : ¬ 12 < (l.length : Int)) : checkPo l fr = firstErr (poErr l fr) 0 (l.length - 0) := by unfold checkPo; rw [if_neg (by omega)]; rfl
theorem checkPo_len {l : List Pt} {fr : Int} (h : checkPo l fr = 0) : l.length ≤ 12 := by
  unfold checkPo at h
  split at h
  · cases h
  · omega
theorem checkPo_at {l : List Pt} {fr : Int} (h : checkPo l fr = 0) {i : Nat} (hi : i < l.length) : poErr l fr i = 0 := by
  unfold checkPo at h
  split at h
  · cases h
  · exact firstErr_all _ _ h i (Nat.zero_le _) (by omega)
theorem po_4 {l : List Pt} {fr : Int} {i : Nat} (h : poWho l fr (l.getD i default) = true) : poErr l fr i = 4 := by unfold poErr; rw [if_pos h]
theorem po_3 {l : List Pt} {fr : Int} {i : Nat} (h : poWho l fr (l.getD i default) = false) (h1 : poForm l i (l.getD i default) = true) : poErr l fr i = 3 := by unfold poErr; rw [if_neg (ff h), if_pos h1]
theorem po_2 {l : List Pt} {fr : Int} {i : Nat} (h : poWho l fr (l.getD i default) = false) (h1 : poForm l i (l.getD i default) = false) (h2 : poTurn (l.getD i default) = true) : poErr l fr i = 2 := by unfold poErr; rw [if_neg (ff h), if_neg (ff h1), if_pos h2]
theorem po_1 {l : List Pt} {fr : Int} {i : Nat} (h : poWho l fr (l.getD i default) = false) (h1 : poForm l i (l.getD i default) = false) (h2 : poTurn (l.getD i default) = false) (h3 : poMany (l.getD i default) = true) : poErr l fr i = 1 := by unfold poErr; rw [if_neg (ff h), if_neg (ff h1), if_neg (ff h2), if_pos h3]
theorem po_s {l : List Pt} {fr : Int} {i : Nat} (h : poWho l fr (l.getD i default) = false) (h1 : poForm l i (l.getD i default) = false) (h2 : poTurn (l.getD i default) = false) (h3 : poMany (l.getD i default) = false) :
    poErr l fr i = firstErr (gErr (l.getD i default).came) 0 ((l.getD i default).came.length - 0) := by unfold poErr; rw [if_neg (ff h), if_neg (ff h1), if_neg (ff h2), if_neg (ff h3)]; rfl
theorem po_parts {l : List Pt} {fr : Int} (h : checkPo l fr = 0) {i : Nat} (hi : i < l.length) : (0 ≤ (l.getD i default).owner ∧ (l.getD i default).owner < fr) ∧ (0 ≤ (l.getD i default).mate ∧ (l.getD i default).mate < (l.length : Int)) ∧
    (l.getD i default).mate ≠ (i : Int) ∧ (l.getD (Int.toNat (l.getD i default).mate) default).mate = (i : Int) ∧ (0 ≤ (l.getD i default).turn ∧ (l.getD i default).turn ≤ 1000) ∧ (l.getD i default).came.length ≤ 16 ∧ ((l.getD i default).shut = true → (l.getD i default).came = []) ∧
    ∀ g ∈ (l.getD i default).came, checkGr g = 0 := by
  have h1 := checkPo_at h hi
  unfold poErr at h1
  split at h1
  · cases h1
  split at h1
  · cases h1
  split at h1
  · cases h1
  split at h1
  · cases h1
  rename_i a b c d
  simp only [poWho, poForm, poTurn, poMany, Bool.or_eq_true, Bool.and_eq_true, decide_eq_true_eq, Bool.not_eq_true', decide_eq_false_iff_not, not_or, not_and, Classical.not_not] at a b c d
  refine ⟨by omega, by omega, b.1, b.2, by omega, by omega, fun hs => ?_, fun g hg => ?_⟩
  · exact List.eq_nil_of_length_eq_zero (by have := d.2 hs; omega)
  · obtain ⟨j, hj, rfl⟩ := List.mem_iff_getElem.1 hg
    have := firstErr_all _ _ h1 j (Nat.zero_le _) (by omega)
    unfold gErr at this
    rwa [getD_lt hj] at this
def belowI (x n : Int) : Bool := decide (0 ≤ x) && decide (x < n)
theorem rpo_who {l : List Pt} {fr : Int} {p : Pt} : (!belowI p.owner fr || !inI p.mate 0 ((l.length : Int) - 1)) = poWho l fr p := by
  rw [Bool.eq_iff_iff]
  simp only [belowI, inI, poWho, Bool.or_eq_true, Bool.not_eq_true', Bool.and_eq_false_iff, decide_eq_false_iff_not, decide_eq_true_eq]
  omega
theorem rpo_turn {p : Pt} : (!inI p.turn 0 1000) = poTurn p := by
  rw [Bool.eq_iff_iff]
  simp only [inI, poTurn, Bool.or_eq_true, Bool.not_eq_true', Bool.and_eq_false_iff, decide_eq_false_iff_not, decide_eq_true_eq]
  omega
theorem rpo_many {p : Pt} : (decide (16 < (p.came.length : Int)) || (decide (0 < (p.came.length : Int)) && p.shut)) = poMany p := by rw [poMany, Bool.and_comm p.shut]
theorem poWho_no {l : List Pt} {fr : Int} {p : Pt} (h : poWho l fr p = false) : 0 ≤ p.owner ∧ p.owner < fr ∧ 0 ≤ p.mate ∧ p.mate < (l.length : Int) := by
  simp only [poWho, Bool.or_eq_false_iff, decide_eq_false_iff_not] at h
  omega
def ownedPo (l : List Pt) (fr k o t : Int) : Int :=
  if checkPo l fr ≠ 0 then checkPo l fr else if (decide (k < 0) || decide ((l.length : Int) ≤ k)) = true then 4 else
  if (!decide ((l.getD (Int.toNat k) default).owner = o) || !decide ((l.getD (Int.toNat k) default).turn = t)) = true then 7 else if (l.getD (Int.toNat k) default).shut = true then 5 else 0
theorem owned_ok {l : List Pt} {fr k o t : Int} (h : ownedPo l fr k o t = 0) : checkPo l fr = 0 ∧ (0 ≤ k ∧ k < (l.length : Int)) ∧ (l.getD (Int.toNat k) default).shut = false := by
  unfold ownedPo at h
  split at h
  · exact absurd h ‹_›
  split at h
  · cases h
  split at h
  · cases h
  split at h
  · cases h
  rename_i a b c d
  simp only [Bool.or_eq_true, decide_eq_true_eq, not_or] at b
  exact ⟨Classical.not_not.1 a, by omega, by simpa using d⟩
def openR (l : List Pt) (fr o t : Int) : List Pt × Int × Int :=
  if checkPo l fr ≠ 0 then ([], 0, checkPo l fr) else if (decide (o < 0) || decide (fr ≤ o)) = true then ([], 0, 4) else if (decide (t < 0) || decide (1000 < t)) = true then ([], 0, 2) else if 12 < (l.length : Int) + 2 then ([], 0, 1) else
    (l ++ [⟨o, t, (l.length : Int) + 1, [], false⟩, ⟨o, t, (l.length : Int), [], false⟩], (l.length : Int), 0)
def passL (l : List Pt) (i : Nat) (to th : Int) : List Pt :=
  (l.set i { (l.getD i default) with owner := to }).set i { ((l.set i { (l.getD i default) with owner := to }).getD i default) with turn := th }
def passR (l : List Pt) (fr k o t to th : Int) : List Pt × Int :=
  if ownedPo l fr k o t ≠ 0 then ([], ownedPo l fr k o t) else if (decide (to < 0) || decide (fr ≤ to)) = true then ([], 4) else if (decide (th < 0) || decide (1000 < th)) = true then ([], 2) else (passL l (Int.toNat k) to th, 0)
def pushR (l : List Pt) (fr k o t : Int) (g : List Cl) : List Pt × Int :=
  if ownedPo l fr k o t ≠ 0 then ([], ownedPo l fr k o t) else if (copyR g).2 ≠ 0 then ([], (copyR g).2) else if (l.getD (Int.toNat (l.getD (Int.toNat k) default).mate) default).shut = true then ([], 5) else if ((l.getD (Int.toNat (l.getD (Int.toNat k) default).mate) default).came.length : Int) = 16 then ([], 1) else
    (l.set (Int.toNat (l.getD (Int.toNat k) default).mate) { (l.getD (Int.toNat (l.getD (Int.toNat k) default).mate) default) with came := (l.getD (Int.toNat (l.getD (Int.toNat k) default).mate) default).came ++ [(copyR g).1] }, 0)
def pullR (l : List Pt) (fr k o t : Int) : List Pt × List Cl × Int :=
  if ownedPo l fr k o t ≠ 0 then ([], [], ownedPo l fr k o t) else if ((l.getD (Int.toNat k) default).came.length : Int) = 0 then ([], [], 8) else
    (l.set (Int.toNat k) { (l.getD (Int.toNat k) default) with came := (l.getD (Int.toNat k) default).came.drop 1 }, (l.getD (Int.toNat k) default).came.getD 0 [], 0)
def shutL (l : List Pt) (i : Nat) : List Pt :=
  (l.set i { (l.getD i default) with shut := true }).set i { ((l.set i { (l.getD i default) with shut := true }).getD i default) with came := [] }
def shutR (l : List Pt) (fr k o t : Int) : List Pt × Int :=
  if ownedPo l fr k o t ≠ 0 then ([], ownedPo l fr k o t) else (shutL l (Int.toNat k), 0)
/-! The document's way: one port of a copy is changed. -/
def doPass (l : List Pt) (fr to th : Int) (i : Nat) : List Pt × Int := if (!belowI to fr) = true then (l, 4) else if (!inI th 0 1000) = true then (l, 2) else (passL l i to th, 0)
def doPush (l : List Pt) (k : Int) (g : List Cl) : List Pt × Int :=
  if (copyR g).2 ≠ 0 then (l, (copyR g).2) else if (l.getD (Int.toNat (l.getD (Int.toNat k) default).mate) default).shut = true then (l, 5) else if ((l.getD (Int.toNat (l.getD (Int.toNat k) default).mate) default).came.length : Int) = 16 then (l, 1) else
    (l.set (Int.toNat (l.getD (Int.toNat k) default).mate) { (l.getD (Int.toNat (l.getD (Int.toNat k) default).mate) default) with came := [] ++ (l.getD (Int.toNat (l.getD (Int.toNat k) default).mate) default).came ++ [(copyR g).1] }, 0)
def doPull (l : List Pt) (k : Int) (x : List Cl) : List Pt × List Cl × Int :=
  if ((l.getD (Int.toNat k) default).came.length : Int) = 0 then (l, x, 8) else
    (l.set (Int.toNat k) { (l.getD (Int.toNat k) default) with came := [] ++ (l.getD (Int.toNat k) default).came.drop 1 }, (l.getD (Int.toNat k) default).came.getD 0 [], 0)
def changedR (l : List Pt) (fr k o t : Int) (d : List Pt × Int) : List Pt × Int := if ownedPo l fr k o t ≠ 0 then ([], ownedPo l fr k o t) else if d.2 ≠ 0 then ([], d.2) else (d.1, 0)
theorem own_err {l : List Pt} {fr k o t : Int} (h : ¬ checkPo l fr = 0) : ownedPo l fr k o t = checkPo l fr := by rw [ownedPo, if_pos h]
theorem rown_k {l : List Pt} {k : Int} : (!inI k 0 ((l.length : Int) - 1)) = (decide (k < 0) || decide ((l.length : Int) ≤ k)) := by
  rw [Bool.eq_iff_iff]
  simp only [inI, Bool.or_eq_true, Bool.not_eq_true', Bool.and_eq_false_iff, decide_eq_false_iff_not, decide_eq_true_eq]
  omega
theorem own_4 {l : List Pt} {fr k o t : Int} (h : checkPo l fr = 0) (h1 : (!inI k 0 ((l.length : Int) - 1)) = true) : ownedPo l fr k o t = 4 := by rw [ownedPo, if_neg (not_not_intro h), if_pos (rown_k.symm.trans h1)]
theorem own_7 {l : List Pt} {fr k o t : Int} (h : checkPo l fr = 0) (h1 : (!inI k 0 ((l.length : Int) - 1)) = false) (h2 : (!decide ((l.getD (Int.toNat k) default).owner = o) || !decide ((l.getD (Int.toNat k) default).turn = t)) = true) : ownedPo l fr k o t = 7 := by
  rw [ownedPo, if_neg (not_not_intro h), if_neg (ff (rown_k.symm.trans h1)), if_pos h2]
theorem own_5 {l : List Pt} {fr k o t : Int} (h : checkPo l fr = 0) (h1 : (!inI k 0 ((l.length : Int) - 1)) = false) (h2 : (!decide ((l.getD (Int.toNat k) default).owner = o) || !decide ((l.getD (Int.toNat k) default).turn = t)) = false) (h3 : (l.getD (Int.toNat k) default).shut = true) : ownedPo l fr k o t = 5 := by
  rw [ownedPo, if_neg (not_not_intro h), if_neg (ff (rown_k.symm.trans h1)), if_neg (ff h2), if_pos h3]
theorem own_0 {l : List Pt} {fr k o t : Int} (h : checkPo l fr = 0) (h1 : (!inI k 0 ((l.length : Int) - 1)) = false) (h2 : (!decide ((l.getD (Int.toNat k) default).owner = o) || !decide ((l.getD (Int.toNat k) default).turn = t)) = false) (h3 : (l.getD (Int.toNat k) default).shut = false) : ownedPo l fr k o t = 0 := by
  rw [ownedPo, if_neg (not_not_intro h), if_neg (ff (rown_k.symm.trans h1)), if_neg (ff h2), if_neg (ff h3)]
theorem ch_bad {l : List Pt} {fr k o t e : Int} {d : List Pt × Int} (h : ownedPo l fr k o t = e) (he : e ≠ 0) : changedR l fr k o t d = ([], e) := by subst h; rw [changedR, if_pos he]
theorem ch_err {l : List Pt} {fr k o t : Int} {d : List Pt × Int} (h : ownedPo l fr k o t = 0) (he : ¬ d.2 = 0) : changedR l fr k o t d = ([], d.2) := by rw [changedR, if_neg (not_not_intro h), if_pos he]
theorem ch_ok {l : List Pt} {fr k o t : Int} {d : List Pt × Int} (h : ownedPo l fr k o t = 0) (he : d.2 = 0) : changedR l fr k o t d = (d.1, 0) := by rw [changedR, if_neg (not_not_intro h), if_neg (not_not_intro he)]
def eqPt (x y : Pt) : Bool := decide (x.owner = y.owner) && decide (x.turn = y.turn) && decide (x.mate = y.mate) && (x.shut == y.shut) && eqF eqGr x.came y.came
theorem eqPt_iff {x y : Pt} : eqPt x y = true ↔ x = y := by
  unfold eqPt
  have h : eqF eqGr x.came y.came = true ↔ x.came = y.came := eqF_iff fun _ _ => eqGr_iff
  simp only [Bool.and_eq_true, decide_eq_true_eq, beq_iff_eq, h]
  cases x; cases y
  simp only [Pt.mk.injEq]
  exact ⟨fun ⟨⟨⟨⟨a, b⟩, c⟩, d⟩, e⟩ => ⟨a, b, c, e, d⟩, fun ⟨a, b, c, e, d⟩ => ⟨⟨⟨⟨a, b⟩, c⟩, d⟩, e⟩⟩
theorem eqPts_rfl (l : List Pt) : eqF eqPt l l = true := (eqF_iff fun _ _ => eqPt_iff).2 rfl
theorem set_same {α : Type} {d : α} : ∀ {l : List α} {i : Nat} {y : α}, i < l.length → y = l.getD i d → l.set i y = l
  | _ :: _, 0, _, _, h => by rw [h]; rfl
  | x :: l, i + 1, y, hi, h => by rw [List.set_cons_succ, set_same (l := l) (i := i) (by simpa using hi) (h.trans (by rw [List.getD_cons_succ]))]
theorem mem_getG {l : List (List Cl)} {i : Nat} (h : i < l.length) : l.getD i [] ∈ l := by rw [getD_lt h]; exact List.getElem_mem _
theorem set_kids {g : List Cl} {i : Nat} (h : i < g.length) : g.set i { (g.getD i default) with kids := (g.getD i default).kids } = g := set_same h rfl
theorem set_came {l : List Pt} {i : Nat} (h : i < l.length) : l.set i { (l.getD i default) with came := (l.getD i default).came } = l := set_same h rfl
end Go.Proofs.Ytghkpailmdlhgaa
