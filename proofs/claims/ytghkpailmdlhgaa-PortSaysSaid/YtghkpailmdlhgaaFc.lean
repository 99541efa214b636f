/- Graphs of values: what the program's clone functions compute, in plain Lean. -/
import Derived.Test.YtghkpailmdlhgaaFu
set_option linter.unusedVariables false
set_option linter.unusedSimpArgs false
namespace Go.Proofs.Ytghkpailmdlhgaa
open Go.RowKit Go.Eng
structure Cl where
  n : Int
  kids : List Int
  deriving DecidableEq, Inhabited
def clCell (c : Cl) : Nat → SV
  | 0 => iv c.n
  | _ => inRow c.kids
def clRow (l : List Cl) : SV := rowOf clCell 2 default l
def grG (l : List Cl) : Nat → SV := fun _ => clRow l
def cmpG (l : List SV) : Nat → SV := fun t => l.getD t .junk
def okCl (c : Cl) : Prop := okInt c.n ∧ c.kids.length ≤ maxLen ∧ ∀ x ∈ c.kids, okInt x
theorem opens43 : Opens Try.prog 43 2 okCl clCell := fun enc w base spare held fuel cs x h hlt => by
  obtain ⟨hl, hf⟩ := struct_at Try.underlying43 (by kernel_rfl) (by kernel_rfl) h hlt
  obtain ⟨x0, o0, u0, hu0, p0, r0⟩ := hf 0 _ rfl (opens_int Try.underlying3)
  obtain ⟨x1, o1, u1, hu1, p1, r1⟩ := hf 1 _ rfl opens24
  refine ⟨hl, ⟨x0, x1⟩, ⟨o0, o1⟩, fun i hi => ?_⟩
  match i, hi with
  | 0, _ => exact ⟨_, hu0, p0, r0⟩
  | 1, _ => exact ⟨_, hu1, p1, r1⟩
theorem opens33 : Opens Try.prog 33 1 (fun l : List Cl => l.length ≤ maxLen ∧ ∀ x ∈ l, okCl x) fun l _ => clRow l := opens_slice default Try.underlying33 opens43 co43 (by decide)
theorem opens35 : Opens Try.prog 35 1 (fun l : List Cl => l.length ≤ maxLen ∧ ∀ x ∈ l, okCl x) grG := fun enc w base spare held fuel cs x h hlt => by
  obtain ⟨hl, hf⟩ := struct_at Try.underlying35 (by kernel_rfl) (by kernel_rfl) h hlt
  obtain ⟨x0, o0, u0, hu0, p0, r0⟩ := hf 0 _ rfl opens33
  refine ⟨hl, x0, o0, fun i hi => ?_⟩
  match i, hi with
  | 0, _ => exact ⟨_, hu0, p0, r0⟩
theorem zero43 : ZeroOk Try.prog 43 2 (cmpG [iv 0, .v (.slice none 0 0)]) := by
  refine ⟨_, Try.zeroValue43, rfl, fun t ht => ?_⟩
  match t, ht with
  | 0, _ => exact ⟨_, rfl, rfl, fun _ _ => rfl⟩
  | 1, _ => exact ⟨_, rfl, rfl, fun _ _ => rfl⟩
theorem zero35 : ZeroOk Try.prog 35 1 (cmpG [.v (.slice none 0 0)]) := by
  refine ⟨_, Try.zeroValue35, rfl, fun t ht => ?_⟩
  match t, ht with
  | 0, _ => exact ⟨_, rfl, rfl, fun _ _ => rfl⟩
theorem zero24 : ZeroOk Try.prog 24 1 (cmpG [.v (.slice none 0 0)]) := by
  refine ⟨_, Try.zeroValue24, rfl, fun t ht => ?_⟩
  match t, ht with
  | 0, _ => exact ⟨_, rfl, rfl, fun _ _ => rfl⟩

/-! Is it one? -/
def kidErr (n : Nat) (ks : List Int) (j : Nat) : Int := if (decide (ks.getD j 0 < 0) || decide ((n : Int) ≤ ks.getD j 0)) = true then 4 else 0
def clErr (g : List Cl) (i : Nat) : Int :=
  if (decide ((g.getD i default).n < -1000000) || decide (1000000 < (g.getD i default).n)) = true then 2 else if 8 < (g.getD i default).kids.length then 1 else firstErr (kidErr g.length (g.getD i default).kids) 0 (g.getD i default).kids.length
def checkGr (g : List Cl) : Int := if 24 < g.length then 1 else firstErr (clErr g) 0 g.length
theorem checkGr_1 {g : List Cl} (h : 24 < (g.length : Int)) : checkGr g = 1 := by unfold checkGr; rw [if_pos (by omega)]
theorem checkGr_s {g : List Cl} (h : ¬ 24 < (g.length : Int)) : checkGr g = firstErr (clErr g) 0 (g.length - 0) := by unfold checkGr; rw [if_neg (by omega)]; rfl
theorem clErr_2 {g : List Cl} {i : Nat} (h : (decide ((g.getD i default).n < -1000000) || decide (1000000 < (g.getD i default).n)) = true) : clErr g i = 2 := by unfold clErr; rw [if_pos h]
theorem clErr_1 {g : List Cl} {i : Nat} (h : (decide ((g.getD i default).n < -1000000) || decide (1000000 < (g.getD i default).n)) = false) (h1 : 8 < ((g.getD i default).kids.length : Int)) : clErr g i = 1 := by unfold clErr; rw [if_neg (ff h), if_pos (by omega)]
theorem clErr_s {g : List Cl} {i : Nat} (h : (decide ((g.getD i default).n < -1000000) || decide (1000000 < (g.getD i default).n)) = false) (h1 : ¬ 8 < ((g.getD i default).kids.length : Int)) : clErr g i = firstErr (kidErr g.length (g.getD i default).kids) 0 ((g.getD i default).kids.length - 0) := by
  unfold clErr; rw [if_neg (ff h), if_neg (by omega)]; rfl
theorem kidErr_4 {n : Nat} {ks : List Int} {j : Nat} (h : (decide (ks.getD j 0 < 0) || decide ((n : Int) ≤ ks.getD j 0)) = true) : kidErr n ks j = 4 := by unfold kidErr; rw [if_pos h]
theorem kidErr_0 {n : Nat} {ks : List Int} {j : Nat} (h : (decide (ks.getD j 0 < 0) || decide ((n : Int) ≤ ks.getD j 0)) = false) : kidErr n ks j = 0 := by unfold kidErr; rw [if_neg (ff h)]
theorem inI_bad {x : Int} : (!inI x (-1000000) 1000000) = (decide (x < -1000000) || decide (1000000 < x)) := by
  rw [Bool.eq_iff_iff]
  simp only [inI, Bool.not_eq_true', Bool.and_eq_false_iff, decide_eq_false_iff_not, Bool.or_eq_true, decide_eq_true_eq]
  omega
theorem inI_kid {x : Int} {n : Nat} : (!inI x 0 ((n : Int) - 1)) = (decide (x < 0) || decide ((n : Int) ≤ x)) := by
  rw [Bool.eq_iff_iff]
  simp only [inI, Bool.not_eq_true', Bool.and_eq_false_iff, decide_eq_false_iff_not, Bool.or_eq_true, decide_eq_true_eq]
  omega
theorem checkGr_len {g : List Cl} (h : checkGr g = 0) : g.length ≤ 24 := by
  unfold checkGr at h
  split at h
  · cases h
  · omega
theorem checkGr_at {g : List Cl} (h : checkGr g = 0) {i : Nat} (hi : i < g.length) : clErr g i = 0 := by
  unfold checkGr at h
  split at h
  · cases h
  · exact firstErr_all _ _ h i (Nat.zero_le _) (by omega)
theorem cl_parts {g : List Cl} (h : checkGr g = 0) {i : Nat} (hi : i < g.length) : (-1000000 ≤ (g.getD i default).n ∧ (g.getD i default).n ≤ 1000000) ∧ (g.getD i default).kids.length ≤ 8 ∧ ∀ k ∈ (g.getD i default).kids, 0 ≤ k ∧ k < (g.length : Int) := by
  have h1 := checkGr_at h hi
  unfold clErr at h1
  split at h1
  · cases h1
  · rename_i h2
    split at h1
    · cases h1
    · rename_i h3
      simp only [Bool.or_eq_true, decide_eq_true_eq, not_or] at h2
      refine ⟨by omega, by omega, fun k hk => ?_⟩
      obtain ⟨j, hj, rfl⟩ := List.mem_iff_getElem.1 hk
      have h4 := firstErr_all _ _ h1 j (Nat.zero_le _) (by omega)
      unfold kidErr at h4
      split at h4
      · cases h4
      · rename_i h5
        rw [getD_lt hj] at h5
        simp only [Bool.or_eq_true, decide_eq_true_eq, not_or] at h5
        omega

/-! The order in which the cells are first met. -/
def addKid (o : List Int) (k : Int) : List Int := if k ∈ o then o else o ++ [k]
def addKids (o ks : List Int) : List Int := ks.foldl addKid o
def kidsAt (g : List Cl) (o : List Int) (i : Nat) : List Int := (g.getD (o.getD i 0).toNat default).kids
def bfsAt (g : List Cl) : Nat → List Int
  | 0 => [0]
  | i + 1 => if i < (bfsAt g i).length then addKids (bfsAt g i) (kidsAt g (bfsAt g i) i) else bfsAt g i
def bfs (g : List Cl) : List Int := bfsAt g g.length
def idx (o : List Int) (k : Int) : Int := ((o.idxOf k : Nat) : Int)
def cpCell (g : List Cl) (o : List Int) (k : Int) : Cl := ⟨(g.getD k.toNat default).n, (g.getD k.toNat default).kids.map (idx o)⟩
def copyGr (g : List Cl) : List Cl := if g = [] then [] else (bfs g).map (cpCell g (bfs g))
def copyR (g : List Cl) : List Cl × Int := if checkGr g ≠ 0 then ([], checkGr g) else (copyGr g, 0)
theorem copyR_e {g : List Cl} (h : ¬ checkGr g = 0) : copyR g = ([], checkGr g) := by unfold copyR; rw [if_pos h]
theorem copyR_o {g : List Cl} (h : checkGr g = 0) : copyR g = (copyGr g, 0) := by unfold copyR; rw [if_neg (not_not_intro h)]
def good (n : Nat) (o : List Int) : Prop := o.Nodup ∧ ∀ k ∈ o, 0 ≤ k ∧ k < (n : Int)
theorem addKid_pre (o : List Int) (k : Int) : o <+: addKid o k := by
  unfold addKid; split
  · exact List.prefix_rfl
  · exact List.prefix_append _ _
theorem addKid_mem (o : List Int) (k : Int) : k ∈ addKid o k := by
  unfold addKid; split
  · assumption
  · simp
theorem addKids_pre : ∀ (ks o : List Int), o <+: addKids o ks
  | [], o => List.prefix_rfl
  | k :: ks, o => (addKid_pre o k).trans (addKids_pre ks (addKid o k))
theorem addKids_mem : ∀ (ks o : List Int), ∀ k ∈ ks, k ∈ addKids o ks
  | k :: ks, o, x, hx => by
    rcases List.mem_cons.1 hx with rfl | hx
    · exact (addKids_pre ks (addKid o x)).subset (addKid_mem o x)
    · exact addKids_mem ks (addKid o k) x hx
theorem addKid_good {n : Nat} {o : List Int} {k : Int} (h : good n o) (hk : 0 ≤ k ∧ k < (n : Int)) : good n (addKid o k) := by
  unfold addKid; split
  · exact h
  · rename_i hm
    refine ⟨List.nodup_append.2 ⟨h.1, by simp, fun a ha b hb => ?_⟩, fun x hx => ?_⟩
    · have : b = k := by simpa using hb
      subst this
      exact fun e => hm (e ▸ ha)
    · rcases List.mem_append.1 hx with hx | hx
      · exact h.2 x hx
      · have : x = k := by simpa using hx
        subst this; exact hk
theorem addKids_good {n : Nat} : ∀ {ks o : List Int}, good n o → (∀ k ∈ ks, 0 ≤ k ∧ k < (n : Int)) → good n (addKids o ks)
  | [], o, h, _ => h
  | k :: ks, o, h, hk => addKids_good (ks := ks) (addKid_good h (hk k (.head _))) fun x hx => hk x (.tail _ hx)
theorem nodup_bound : ∀ (n : Nat) (l : List Int), l.Nodup → (∀ k ∈ l, 0 ≤ k ∧ k < (n : Int)) → l.length ≤ n
  | 0, l, _, h => by
    cases l with
    | nil => simp
    | cons x r => have := h x (.head _); omega
  | n + 1, l, hd, h => by
    have h1 := nodup_bound n (l.erase (n : Int)) (hd.erase _) fun k hk => by
      have := (List.Nodup.mem_erase_iff hd).1 hk
      have := h k this.2
      omega
    have h2 := List.length_erase (a := (n : Int)) (l := l)
    split at h2 <;> omega
theorem good_len {n : Nat} {o : List Int} (h : good n o) : o.length ≤ n := nodup_bound n o h.1 h.2
theorem kidsAt_in {g : List Cl} (hc : checkGr g = 0) {o : List Int} (h : good g.length o) {i : Nat} (hi : i < o.length) : (kidsAt g o i).length ≤ 8 ∧ ∀ k ∈ kidsAt g o i, 0 ≤ k ∧ k < (g.length : Int) := by
  have hm : o.getD i 0 ∈ o := by rw [getD_lt hi]; exact List.getElem_mem _
  have := h.2 _ hm
  exact (cl_parts hc (i := (o.getD i 0).toNat) (by omega)).2
theorem bfsAt_good {g : List Cl} (hc : checkGr g = 0) (h0 : g ≠ []) : ∀ i, good g.length (bfsAt g i)
  | 0 => ⟨by simp [bfsAt], fun k hk => by
      have : k = 0 := by simpa [bfsAt] using hk
      have : 0 < g.length := List.length_pos_iff.2 h0
      omega⟩
  | i + 1 => by
    have ih := bfsAt_good hc h0 i
    rw [bfsAt]
    split
    · rename_i hi
      exact addKids_good ih (kidsAt_in hc ih hi).2
    · exact ih
theorem bfsAt_pre (g : List Cl) (i : Nat) : bfsAt g i <+: bfsAt g (i + 1) := by
  rw [bfsAt]; split
  · exact addKids_pre _ _
  · exact List.prefix_rfl
theorem bfsAt_le (g : List Cl) {i j : Nat} (h : i ≤ j) : bfsAt g i <+: bfsAt g j := by
  obtain ⟨d, rfl⟩ := Nat.exists_eq_add_of_le h
  clear h
  induction d with
  | zero => exact List.prefix_rfl
  | succ d ih => exact ih.trans (bfsAt_pre g (i + d))
theorem bfs_stop {g : List Cl} {i : Nat} (h : (bfsAt g i).length ≤ i) : ∀ d, bfsAt g (i + d) = bfsAt g i
  | 0 => rfl
  | d + 1 => by
    have ih := bfs_stop h d
    rw [← Nat.add_assoc, bfsAt, if_neg (by rw [ih]; omega), ih]
theorem bfs_eq {g : List Cl} {i : Nat} (h : (bfsAt g i).length ≤ i) (hi : i ≤ g.length) : bfs g = bfsAt g i := by
  unfold bfs
  obtain ⟨d, hd⟩ := Nat.exists_eq_add_of_le hi
  rw [hd]; exact bfs_stop h d
theorem pre_getD {o o' : List Int} (h : o <+: o') {i : Nat} (hi : i < o.length) : o'.getD i 0 = o.getD i 0 := by
  obtain ⟨t, rfl⟩ := h
  rw [getD_app, if_pos hi]
theorem kidsAt_pre (g : List Cl) {o o' : List Int} (h : o <+: o') {i : Nat} (hi : i < o.length) : kidsAt g o' i = kidsAt g o i := by unfold kidsAt; rw [pre_getD h hi]
/-- All kids of those that were seen to are there. -/
theorem bfsAt_closed (g : List Cl) : ∀ i, ∀ j, j < i → j < (bfsAt g i).length → ∀ k ∈ kidsAt g (bfsAt g i) j, k ∈ bfsAt g i
  | i + 1, j, hj, hl, k, hk => by
    have hp := bfsAt_pre g i
    by_cases hlen : j < (bfsAt g i).length
    · rw [kidsAt_pre g hp hlen] at hk
      by_cases e : j < i
      · exact hp.subset (bfsAt_closed g i j e hlen k hk)
      · have : j = i := by omega
        subst this
        rw [bfsAt, if_pos hlen]
        exact addKids_mem _ _ k hk
    · -- the list doesn't grow past a place that was seen to
      exfalso
      rw [bfsAt] at hl
      split at hl
      · omega
      · omega
theorem bfs_closed {g : List Cl} (hc : checkGr g = 0) (h0 : g ≠ []) {j : Nat} (hj : j < (bfs g).length) : ∀ k ∈ kidsAt g (bfs g) j, k ∈ bfs g :=
  bfsAt_closed g g.length j (Nat.lt_of_lt_of_le hj (good_len (bfsAt_good hc h0 g.length))) hj
theorem bfs_closed' {g : List Cl} (hc : checkGr g = 0) (h0 : g ≠ []) {x : Int} (hx : x ∈ bfs g) : ∀ k ∈ (g.getD x.toNat default).kids, k ∈ bfs g := fun k hk => by
  obtain ⟨j, hj, rfl⟩ := List.mem_iff_getElem.1 hx
  refine bfs_closed hc h0 hj k ?_
  unfold kidsAt
  rw [getD_lt hj]; exact hk
/-- The map of places. -/
def plc (o : List Int) : List (Int × Int) := o.zipIdx.map fun p => (p.1, (p.2 : Int))
theorem kget_plcN : ∀ (o : List Int) (n : Nat) (k : Int), kget ((o.zipIdx n).map fun p => (p.1, (p.2 : Int))) k = if k ∈ o then some (((o.idxOf k + n : Nat)) : Int) else none
  | [], _, _ => rfl
  | x :: r, n, k => by
    simp only [List.zipIdx_cons, List.map_cons, kget, List.find?_cons]
    by_cases e : x = k
    · subst e; simp
    · have ih := kget_plcN r (n + 1) k
      simp only [kget] at ih
      have e' : ¬ k = x := fun h => e h.symm
      have e2 : (x == k) = false := by simpa using e
      simp only [decide_eq_false e, ih, List.mem_cons, e', false_or, List.idxOf_cons, e2, cond_false]
      split
      · congr 2; omega
      · rfl
theorem kget_plc (o : List Int) (k : Int) : kget (plc o) k = if k ∈ o then some (idx o k) else none := by
  have := kget_plcN o 0 k
  simpa [plc, idx] using this
theorem kput_plcN : ∀ (o : List Int) (n : Nat) (k : Int), k ∉ o → kput ((o.zipIdx n).map fun p => (p.1, (p.2 : Int))) k ((o.length + n : Nat) : Int) = ((o ++ [k]).zipIdx n).map fun p => (p.1, (p.2 : Int))
  | [], n, k, _ => by simp [kput]
  | x :: r, n, k, h => by
    simp only [List.mem_cons, not_or] at h
    have ih := kput_plcN r (n + 1) k h.2
    simp only [List.zipIdx_cons, List.map_cons, kput, if_neg (fun e : x = k => h.1 e.symm), List.cons_append, List.length_cons]
    rw [show r.length + 1 + n = r.length + (n + 1) by omega, ih]
theorem kput_plc {o : List Int} {k : Int} (h : k ∉ o) : kput (plc o) k ((o.length : Nat) : Int) = plc (o ++ [k]) := by
  have := kput_plcN o 0 k h
  simpa [plc] using this
theorem kget_some {o : List Int} {k : Int} (h : (kget (plc o) k).isSome = true) : k ∈ o := by
  rw [kget_plc] at h
  split at h
  · assumption
  · cases h
theorem kget_none {o : List Int} {k : Int} (h : (kget (plc o) k).isSome = false) : k ∉ o := by
  rw [kget_plc] at h
  split at h
  · cases h
  · assumption
theorem kget_idx {o : List Int} {k : Int} (h : k ∈ o) : (kget (plc o) k).getD 0 = idx o k := by rw [kget_plc, if_pos h]; rfl
theorem addKids_s {o ks : List Int} {j : Nat} (h : j < ks.length) : addKids o (ks.take (j + 1)) = addKid (addKids o (ks.take j)) (ks.getD j 0) := foldl_take_s addKid o 0 ks j h
theorem map_take_s {α β : Type} (f : α → β) (d : α) (l : List α) (i : Nat) (h : i < l.length) : (l.take (i + 1)).map f = (l.take i).map f ++ [f (l.getD i d)] := by
  rw [List.take_add_one, List.map_append]
  simp [List.getElem?_eq_getElem h, List.getD_eq_getElem?_getD]
end Go.Proofs.Ytghkpailmdlhgaa
namespace Go.Proofs.Ytghkpailmdlhgaa
open Go.RowKit Go.Eng
def idxI (l : List Int) (k : Int) : Int := if k ∈ l then idx l k else -1
theorem idxI_s {l : List Int} {k : Int} {i : Nat} (h : ∀ j, j < i → ¬ l.getD j 0 = k) (e : ¬ l.getD i 0 = k) : ∀ j, j < i + 1 → ¬ l.getD j 0 = k := fun j hj => by
  by_cases q : j < i
  · exact h j q
  · have : j = i := by omega
    subst this; exact e
theorem idxOf_first {k : Int} : ∀ {l : List Int} {i : Nat}, i < l.length → (∀ j, j < i → ¬ l.getD j 0 = k) → l.getD i 0 = k → l.idxOf k = i
  | x :: r, 0, _, _, e => by
    have : x = k := e
    simp [List.idxOf_cons, this]
  | x :: r, i + 1, hi, h, e => by
    have h0 : ¬ x = k := h 0 (by omega)
    have e2 : (x == k) = false := by simpa using h0
    have ih := idxOf_first (l := r) (i := i) (by simpa using hi) (fun j hj => by simpa using h (j + 1) (by omega)) (by simpa using e)
    simp [List.idxOf_cons, e2, ih]
theorem idxI_hit {l : List Int} {k : Int} {i : Nat} (hi : i < l.length) (h : ∀ j, j < i → ¬ l.getD j 0 = k) (e : l.getD i 0 = k) : idxI l k = (i : Int) := by
  have hm : k ∈ l := by rw [← e, getD_lt hi]; exact List.getElem_mem _
  rw [idxI, if_pos hm, idx, idxOf_first hi h e]
theorem idxI_none {l : List Int} {k : Int} {i : Nat} (h : ∀ j, j < i → ¬ l.getD j 0 = k) (hi : l.length ≤ i) : idxI l k = -1 := by
  rw [idxI, if_neg]
  intro hm
  obtain ⟨j, hj, e⟩ := List.mem_iff_getElem.1 hm
  exact h j (by omega) (by rw [getD_lt hj]; exact e)
def eqCl (x y : Cl) : Bool := decide (x.n = y.n) && eqInt x.kids y.kids
theorem eqCl_iff {x y : Cl} : eqCl x y = true ↔ x = y := by
  obtain ⟨a, b⟩ := x
  obtain ⟨c, d⟩ := y
  simp [eqCl, eqInt]
end Go.Proofs.Ytghkpailmdlhgaa
namespace Go.Proofs.Ytghkpailmdlhgaa
open Go.RowKit Go.Eng
/-- Rows held against each other, element by element. -/
def eqF {α : Type} (p : α → α → Bool) : List α → List α → Bool
  | [], [] => true
  | x :: l, y :: m => p x y && eqF p l m
  | _, _ => false
theorem eqF_len {α : Type} {p : α → α → Bool} : ∀ {l m : List α}, ¬ l.length = m.length → eqF p l m = false
  | [], [], h => absurd rfl h
  | x :: l, y :: m, h => by
    rw [eqF, eqF_len (l := l) (m := m) (by simpa using h), Bool.and_false]
  | [], _ :: _, _ => rfl
  | _ :: _, [], _ => rfl
theorem eqF_bad {α : Type} {p : α → α → Bool} (d : α) : ∀ {l m : List α} {i : Nat}, i < l.length → l.length = m.length → p (l.getD i d) (m.getD i d) = false → eqF p l m = false
  | x :: l, y :: m, 0, _, _, h => by
    have : p x y = false := h
    rw [eqF, this, Bool.false_and]
  | x :: l, y :: m, i + 1, hi, hl, h => by
    rw [eqF, eqF_bad d (l := l) (m := m) (i := i) (by simpa using hi) (by simpa using hl) (by simpa using h), Bool.and_false]
  | [], _, _, hi, _, _ => by simp at hi
  | _ :: _, [], _, _, hl, _ => by simp at hl
theorem eqF_all {α : Type} {p : α → α → Bool} (d : α) : ∀ {l m : List α}, l.length = m.length → (∀ i, i < l.length → p (l.getD i d) (m.getD i d) = true) → eqF p l m = true
  | [], [], _, _ => rfl
  | x :: l, y :: m, hl, h => by
    have h0 : p x y = true := h 0 (by simp)
    rw [eqF, h0, eqF_all d (l := l) (m := m) (by simpa using hl) fun i hi => by simpa using h (i + 1) (by simpa using hi)]
    rfl
  | [], _ :: _, hl, _ => by simp at hl
  | _ :: _, [], hl, _ => by simp at hl
theorem eqF_iff {α : Type} {p : α → α → Bool} (hp : ∀ x y, p x y = true ↔ x = y) : ∀ {l m : List α}, eqF p l m = true ↔ l = m
  | [], [] => by simp [eqF]
  | x :: l, y :: m => by rw [eqF, Bool.and_eq_true, hp, eqF_iff hp (l := l) (m := m), List.cons.injEq]
  | [], _ :: _ => by simp [eqF]
  | _ :: _, [] => by simp [eqF]
def pre {α : Type} (d : α) (p : α → α → Bool) (l m : List α) (i : Nat) : Prop := l.length = m.length ∧ ∀ j, j < i → p (l.getD j d) (m.getD j d) = true
theorem pre_s {α : Type} {d : α} {p : α → α → Bool} {l m : List α} {i : Nat} (h : pre d p l m i) (e : p (l.getD i d) (m.getD i d) = true) : pre d p l m (i + 1) := ⟨h.1, fun j hj => by
  by_cases q : j < i
  · exact h.2 j q
  · have : j = i := by omega
    subst this; exact e⟩
def eqGr (l m : List Cl) : Bool := eqF eqCl l m
theorem eqGr_iff {l m : List Cl} : eqGr l m = true ↔ l = m := eqF_iff fun _ _ => eqCl_iff
theorem addKids_len {g : List Cl} (hc : checkGr g = 0) {o : List Int} (h : good g.length o) {i : Nat} (hi : i < o.length) (j : Nat) : (addKids o ((kidsAt g o i).take j)).length ≤ g.length :=
  good_len (addKids_good h fun k hk => (kidsAt_in hc h hi).2 k (List.mem_of_mem_take hk))
theorem good_at {n : Nat} {o : List Int} (h : good n o) {i : Nat} (hi : i < o.length) : 0 ≤ o.getD i 0 ∧ o.getD i 0 < (n : Int) := h.2 _ (by rw [getD_lt hi]; exact List.getElem_mem _)
theorem mem_getD {o : List Int} {i : Nat} (hi : i < o.length) : o.getD i 0 ∈ o := by rw [getD_lt hi]; exact List.getElem_mem _
theorem cp_s {g : List Cl} {o : List Int} {q r : Nat} (hq : q < o.length) (hr : (g.getD (o.getD q 0).toNat default).kids.length ≤ r) :
    (o.take q).map (cpCell g o) ++ [⟨(g.getD (o.getD q 0).toNat default).n, ((g.getD (o.getD q 0).toNat default).kids.take r).map (idx o)⟩] = (o.take (q + 1)).map (cpCell g o) := by
  rw [map_take_s _ 0 _ _ hq, List.take_of_length_le hr]; rfl
end Go.Proofs.Ytghkpailmdlhgaa
namespace Go.Proofs.Ytghkpailmdlhgaa
open Go.RowKit Go.Eng
/-! The reference's way: cells laid when they are first met, their kids when it is their turn. -/
def bare (g : List Cl) (k : Int) : Cl := ⟨(g.getD k.toNat default).n, []⟩
def addOut (g : List Cl) (o : List Int) (k : Int) (out : List Cl) : List Cl := if k ∈ o then out else out ++ [bare g k]
def outR (g : List Cl) (o : List Int) (i : Nat) : List Cl := (o.take i).map (cpCell g o) ++ (o.drop i).map (bare g)
def plcI (o : List Int) (k : Int) : Int := idx (addKid o k) k
theorem idx_app {o : List Int} {x : Int} (h : x ∈ o) (k : List Int) : idx (o ++ k) x = idx o x := by
  unfold idx; rw [List.idxOf_append, if_pos h]
theorem idx_pre {o o' : List Int} (h : o <+: o') {x : Int} (hx : x ∈ o) : idx o' x = idx o x := by
  obtain ⟨t, rfl⟩ := h
  exact idx_app hx t
theorem plcI_in {o : List Int} {k : Int} (h : k ∈ o) : idxI o k = plcI o k := by rw [idxI, if_pos h, plcI, addKid, if_pos h]
theorem plcI_new {o : List Int} {k : Int} (h : k ∉ o) : ((o.length : Nat) : Int) = plcI o k := by
  rw [plcI, addKid, if_neg h, idx, List.idxOf_append, if_neg h]; simp
theorem idxI_neg {o : List Int} {k : Int} (h : idxI o k < 0) : k ∉ o := fun hm => by
  rw [idxI, if_pos hm, idx] at h; omega
theorem idxI_pos {o : List Int} {k : Int} (h : ¬ idxI o k < 0) : k ∈ o := by
  unfold idxI at h
  split at h
  · assumption
  · omega
theorem cp_pre {g : List Cl} {o o' : List Int} (h : o <+: o') {x : Int} (hx : ∀ k ∈ (g.getD x.toNat default).kids, k ∈ o) : cpCell g o' x = cpCell g o x := by
  unfold cpCell
  congr 1
  exact List.map_congr_left fun k hk => idx_pre h (hx k hk)
def closedTo (g : List Cl) (o : List Int) (i : Nat) : Prop := ∀ q, q < i → q < o.length → ∀ k ∈ kidsAt g o q, k ∈ o
theorem closed_pre {g : List Cl} {o o' : List Int} {i : Nat} (h : closedTo g o i) (hp : o <+: o') (hi : i ≤ o.length) : closedTo g o' i := fun q hq hql k hk => by
  rw [kidsAt_pre g hp (by omega)] at hk
  exact hp.subset (h q hq (by omega) k hk)
theorem outR_add {g : List Cl} {o : List Int} {i : Nat} (k : Int) (hi : i ≤ o.length) (h : closedTo g o i) : outR g (addKid o k) i = addOut g o k (outR g o i) := by
  unfold addOut
  by_cases hk : k ∈ o
  · rw [if_pos hk, addKid, if_pos hk]
  · rw [if_neg hk, addKid, if_neg hk, outR, outR, List.take_append_of_le_length hi, List.drop_append_of_le_length hi, List.map_append, ← List.append_assoc]
    congr 2
    refine List.map_congr_left fun x hx => ?_
    obtain ⟨q, hq, rfl⟩ := List.mem_iff_getElem.1 hx
    rw [List.length_take] at hq
    refine cp_pre (List.prefix_append _ _) fun y hy => h q (by omega) (by omega) y ?_
    have hql : q < o.length := by omega
    unfold kidsAt
    rw [show o.getD q 0 = o[q] from getD_lt hql]
    rw [List.getElem_take] at hy
    exact hy
theorem outR_len (g : List Cl) (o : List Int) (i : Nat) : (outR g o i).length = o.length := by
  simp only [outR, List.length_append, List.length_map, List.length_take, List.length_drop]; omega
theorem addOut_len {g : List Cl} {o : List Int} {k : Int} {out : List Cl} (h : out.length = o.length) : (addOut g o k out).length = (addKid o k).length := by
  unfold addOut addKid
  split
  · exact h
  · simp [h]
theorem kmap_s {ks o : List Int} {j : Nat} (hj : j < ks.length) (h : ∀ k ∈ ks.take j, k ∈ o) : (ks.take j).map (idx o) ++ [plcI o (ks.getD j 0)] = (ks.take (j + 1)).map (idx (addKid o (ks.getD j 0))) := by
  rw [map_take_s _ 0 _ _ hj]
  congr 1
  exact List.map_congr_left fun k hk => (idx_pre (addKid_pre o _) (h k hk)).symm
theorem outR_at {g : List Cl} {o : List Int} {i : Nat} (hi : i < o.length) : (outR g o i).getD i default = bare g (o.getD i 0) := by
  have hl : ((o.take i).map (cpCell g o)).length = i := by rw [List.length_map, List.length_take]; omega
  rw [outR, getD_app, if_neg (by omega), hl, Nat.sub_self]
  rw [List.drop_eq_getElem_cons hi, List.map_cons, getD_lt hi]; rfl
theorem outR_set {g : List Cl} {o : List Int} {i : Nat} (hi : i < o.length) {j : Nat} (hj : (kidsAt g o i).length ≤ j) :
    (outR g o i).set i { (outR g o i).getD i default with kids := ((kidsAt g o i).take j).map (idx o) } = outR g o (i + 1) := by
  refine ext_getD default (by rw [List.length_set, outR_len, outR_len]) fun q hq => ?_
  rw [List.length_set, outR_len] at hq
  rw [set_getD (by rw [outR_len]; exact hi), outR_at hi, List.take_of_length_le hj]
  have h1 : ∀ p, p ≤ o.length → (outR g o p).getD q default = if q < p then cpCell g o (o.getD q 0) else bare g (o.getD q 0) := fun p hp => by
    have hl : ((o.take p).map (cpCell g o)).length = p := by rw [List.length_map, List.length_take]; omega
    rw [outR, getD_app, hl]
    split
    · rename_i hqp
      rw [getD_lt (by rw [hl]; exact hqp), List.getElem_map, List.getElem_take, getD_lt hq]
    · rename_i hqp
      rw [getD_lt (by rw [List.length_map, List.length_drop]; omega), List.getElem_map, List.getElem_drop, getD_lt hq]
      congr 2
      omega
  rw [h1 (i + 1) (by omega)]
  by_cases e : q = i
  · subst e
    rw [if_pos rfl, if_pos (Nat.lt_succ_self _)]; rfl
  · rw [if_neg e, h1 i (by omega)]
    by_cases e2 : q < i
    · rw [if_pos e2, if_pos (by omega)]
    · rw [if_neg e2, if_neg (by omega)]
theorem bfs_closedTo (g : List Cl) (i : Nat) : closedTo g (bfsAt g i) i := fun q hq hl => bfsAt_closed g i q hq hl
theorem outR_full (g : List Cl) (o : List Int) {i : Nat} (h : o.length ≤ i) : outR g o i = o.map (cpCell g o) := by
  rw [outR, List.take_of_length_le h, List.drop_eq_nil_of_le h]; simp
theorem addKid_len (o : List Int) (k : Int) : (addKid o k).length ≤ o.length + 1 := by
  unfold addKid; split <;> simp
end Go.Proofs.Ytghkpailmdlhgaa
namespace Go.Proofs.Ytghkpailmdlhgaa
def likeR (g h : List Cl) : Bool × Int := if ¬ (copyR g).2 = 0 then (false, (copyR g).2) else if ¬ (copyR h).2 = 0 then (false, (copyR h).2) else (eqGr (copyR g).1 (copyR h).1, 0)
end Go.Proofs.Ytghkpailmdlhgaa
namespace Go.Proofs.Ytghkpailmdlhgaa
open Go.RowKit Go.Eng
theorem eqGr_refl (l : List Cl) : eqGr l l = true := eqGr_iff.2 rfl
theorem says_0 {g h : List Cl} (hg : (copyR g).2 = 0) : likeR g h = (decide ((copyR h).2 = 0) && eqGr (copyR g).1 (copyR h).1, (copyR h).2) := by
  rw [likeR, if_neg (not_not_intro hg)]
  by_cases hh : (copyR h).2 = 0
  · rw [if_neg (not_not_intro hh), decide_eq_true hh, hh]; rfl
  · rw [if_pos hh, decide_eq_false hh]; rfl
theorem says_1 {g h : List Cl} (hg : ¬ (copyR g).2 = 0) : likeR g h = (false, (copyR g).2) := by rw [likeR, if_pos hg]
theorem ret_0 {g h : List Cl} (hg : (copyR g).2 = 0) : ((((((true && decide (checkGr g = checkGr g)) && (eqGr g h == eqGr g h)) && decide ((copyR g).2 = (copyR g).2)) && eqGr (copyR g).1 (copyR g).1) && decide ((likeR g h).2 = (copyR h).2)) && ((likeR g h).1 == (decide ((copyR h).2 = 0) && eqGr (copyR g).1 (copyR h).1))) = true := by
  rw [says_0 hg]; simp [eqGr_refl]
theorem ret_1 {g h : List Cl} (hg : ¬ (copyR g).2 = 0) : ((((((true && decide (checkGr g = checkGr g)) && (eqGr g h == eqGr g h)) && decide ((copyR g).2 = (copyR g).2)) && eqGr (copyR g).1 (copyR g).1) && decide ((likeR g h).2 = (copyR g).2)) && ((likeR g h).1 == (decide ((copyR g).2 = 0) && eqGr (copyR g).1 (copyR h).1))) = true := by
  rw [says_1 hg, decide_eq_false hg]; simp [eqGr_refl]
end Go.Proofs.Ytghkpailmdlhgaa
