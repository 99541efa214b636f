/- Graphs of values: a copy copied again is the copy; what isn't reached doesn't matter. Plain Lean. -/
import Derived.Test.YtghkpailmdlhgaaFc
set_option linter.unusedVariables false
set_option linter.unusedSimpArgs false
set_option linter.unusedSectionVars false
namespace Go.Proofs.Ytghkpailmdlhgaa
open Go.RowKit Go.Eng
def iota (n : Nat) : List Int := (List.range n).map fun (i : Nat) => (i : Int)
theorem iota_len (n : Nat) : (iota n).length = n := by simp [iota]
theorem iota_s (n : Nat) : iota (n + 1) = iota n ++ [(n : Int)] := by simp [iota, List.range_succ]
theorem iota_mem {n : Nat} {k : Int} : k ∈ iota n ↔ 0 ≤ k ∧ k < n := by
  simp only [iota, List.mem_map, List.mem_range]
  constructor
  · rintro ⟨i, hi, rfl⟩; omega
  · intro h; exact ⟨k.toNat, by omega, by omega⟩
theorem iota_at {n i : Nat} (h : i < n) : (iota n).getD i 0 = (i : Int) := by
  rw [getD_lt (by rw [iota_len]; exact h)]; simp [iota]
theorem iota_nodup (n : Nat) : (iota n).Nodup := by
  unfold iota
  induction n with
  | zero => simp
  | succ n ih =>
    rw [List.range_succ, List.map_append]
    refine List.nodup_append.2 ⟨ih, by simp, fun a ha b hb => ?_⟩
    simp only [List.mem_map, List.mem_range] at ha
    obtain ⟨i, hi, rfl⟩ := ha
    simp only [List.map_cons, List.map_nil, List.mem_singleton] at hb
    omega
theorem idx_iota {n : Nat} {k : Int} (h : 0 ≤ k ∧ k < n) : idx (iota n) k = k := by
  have h1 : (iota n).getD k.toNat 0 = k := by rw [iota_at (by omega)]; omega
  have := idxOf_first (l := iota n) (i := k.toNat) (k := k) (by rw [iota_len]; omega) (fun j hj => by rw [iota_at (by omega)]; omega) h1
  unfold idx; rw [this]; omega
theorem idx_lt {o : List Int} {k : Int} (h : k ∈ o) : 0 ≤ idx o k ∧ idx o k < o.length := by
  unfold idx
  have := List.idxOf_lt_length_of_mem h
  omega
theorem idx_last {o : List Int} {k : Int} (h : k ∉ o) (t : List Int) : idx (o ++ [k] ++ t) k = o.length := by
  unfold idx
  rw [List.append_assoc, List.idxOf_append, if_neg h]; simp
theorem idx_at {o : List Int} (hd : o.Nodup) {q : Nat} (hq : q < o.length) : idx o (o.getD q 0) = q := by
  unfold idx
  rw [getD_lt hq, hd.idxOf_getElem q hq]
theorem at_idx {o : List Int} {k : Int} (h : k ∈ o) : o.getD (idx o k).toNat 0 = k := by
  have hl := List.idxOf_lt_length_of_mem h
  have : (idx o k).toNat = o.idxOf k := by unfold idx; omega
  rw [this, getD_lt hl]; exact List.getElem_idxOf hl
theorem addKids_iota {o : List Int} : ∀ (K oi : List Int), addKids oi K <+: o → addKids (iota oi.length) (K.map (idx o)) = iota (addKids oi K).length
  | [], oi, _ => rfl
  | k :: K, oi, h => by
    have h1 : addKid oi k <+: o := (addKids_pre K (addKid oi k)).trans h
    have ih := addKids_iota K (addKid oi k) h
    show addKids (addKid (iota oi.length) (idx o k)) (K.map (idx o)) = _
    have e : addKid (iota oi.length) (idx o k) = iota (addKid oi k).length := by
      by_cases hk : k ∈ oi
      · have h2 : idx o k = idx oi k := idx_pre ((addKid_pre oi k).trans h1) hk
        rw [show addKid oi k = oi from if_pos hk, addKid, if_pos]
        rw [h2, iota_mem]; exact idx_lt hk
      · have h3 : addKid oi k = oi ++ [k] := if_neg hk
        rw [h3] at h1 ⊢
        obtain ⟨t, ht⟩ := h1
        have h2 : idx o k = oi.length := by rw [← ht]; exact idx_last hk t
        rw [h2, addKid, if_neg (by rw [iota_mem]; omega), List.length_append, List.length_singleton, iota_s]
    rw [e]; exact ih
section
variable {g : List Cl} (hc : checkGr g = 0) (h0 : g ≠ [])
include hc h0
theorem bfs_good : good g.length (bfs g) := bfsAt_good hc h0 _
theorem bfs_len : (bfs g).length ≤ g.length := good_len (bfs_good hc h0)
theorem copy_len : (copyGr g).length = (bfs g).length := by rw [copyGr, if_neg h0, List.length_map]
theorem bfs_pos : 0 < (bfs g).length := by
  have := (bfsAt_le g (Nat.zero_le g.length)).length_le
  have h1 : (bfsAt g 0).length = 1 := rfl
  unfold bfs; omega
theorem zero_mem : (0 : Int) ∈ bfs g := (bfsAt_le g (Nat.zero_le g.length)).subset (by simp [bfsAt])
theorem copy_at {q : Nat} (hq : q < (bfs g).length) : (copyGr g).getD q default = cpCell g (bfs g) ((bfs g).getD q 0) := by
  rw [getD_lt (by rw [copy_len hc h0]; exact hq), getD_lt hq]
  simp [copyGr, h0]
theorem bfs_at_len : bfsAt g (bfs g).length = bfs g := (bfs_eq ((bfsAt_le g (bfs_len hc h0)).length_le) (bfs_len hc h0)).symm
theorem bfs_copy (i : Nat) : bfsAt (copyGr g) i = iota (bfsAt g i).length := by
  induction i with
  | zero => rfl
  | succ i ih =>
    rw [bfsAt, ih, iota_len]
    by_cases hi : i < (bfsAt g i).length
    · rw [if_pos hi]
      have hpre : bfsAt g i <+: bfs g := by
        by_cases hg : i ≤ g.length
        · exact bfsAt_le g hg
        · have := good_len (bfsAt_good hc h0 i); omega
      have hil : i < (bfs g).length := Nat.lt_of_lt_of_le hi hpre.length_le
      have hk : kidsAt (copyGr g) (iota (bfsAt g i).length) i = (kidsAt g (bfsAt g i) i).map (idx (bfs g)) := by
        unfold kidsAt
        rw [iota_at hi, Int.toNat_natCast, copy_at hc h0 hil, pre_getD hpre hi]; rfl
      have hnext : bfsAt g (i + 1) = addKids (bfsAt g i) (kidsAt g (bfsAt g i) i) := by rw [bfsAt, if_pos hi]
      rw [hk, hnext]
      refine addKids_iota _ _ ?_
      rw [← hnext]
      have : i + 1 ≤ g.length := by have := good_len (bfsAt_good hc h0 i); omega
      exact bfsAt_le g this
    · rw [if_neg hi, bfsAt, if_neg hi]
theorem copy_ne : copyGr g ≠ [] := fun e => by
  have := copy_len hc h0
  rw [e] at this
  have := bfs_pos hc h0
  simp at *; omega
theorem bfs_of_copy : bfs (copyGr g) = iota (bfs g).length := by
  show bfsAt (copyGr g) (copyGr g).length = _
  rw [bfs_copy hc h0, copy_len hc h0, bfs_at_len hc h0]
theorem kid_idx {q : Nat} (hq : q < (bfs g).length) : ∀ k ∈ ((copyGr g).getD q default).kids, 0 ≤ k ∧ k < ((bfs g).length : Int) := fun k hk => by
  rw [copy_at hc h0 hq] at hk
  simp only [cpCell, List.mem_map] at hk
  obtain ⟨x, hx, rfl⟩ := hk
  exact idx_lt (bfs_closed' hc h0 (mem_getD hq) x hx)
end
theorem checkGr_of {g : List Cl} (hl : g.length ≤ 24) (h : ∀ i, i < g.length → (-1000000 ≤ (g.getD i default).n ∧ (g.getD i default).n ≤ 1000000) ∧ (g.getD i default).kids.length ≤ 8 ∧ ∀ k ∈ (g.getD i default).kids, 0 ≤ k ∧ k < (g.length : Int)) : checkGr g = 0 := by
  have hz : ∀ (f : Nat → Int) (n i : Nat), (∀ j, i ≤ j → j < i + n → f j = 0) → firstErr f i n = 0 := by
    intro f n
    induction n with
    | zero => intro i _; rfl
    | succ n ih =>
      intro i h
      rw [firstErr, if_neg (by rw [h i (Nat.le_refl _) (by omega)]; simp)]
      exact ih (i + 1) fun j h1 h2 => h j (by omega) (by omega)
  unfold checkGr
  rw [if_neg (by omega)]
  refine hz _ _ _ fun i _ hi => ?_
  obtain ⟨h1, h2, h3⟩ := h i (by omega)
  unfold clErr
  rw [if_neg (by simp only [Bool.or_eq_true, decide_eq_true_eq]; omega), if_neg (by omega)]
  refine hz _ _ _ fun j _ hj => kidErr_0 ?_
  have := h3 _ (mem_getD (show j < (g.getD i default).kids.length by omega))
  rw [decide_eq_false (by omega), decide_eq_false (by omega)]; rfl
theorem copy_check {g : List Cl} (hc : checkGr g = 0) : checkGr (copyGr g) = 0 := by
  by_cases h0 : g = []
  · subst h0; rfl
  · have hl := copy_len hc h0
    have hb := bfs_len hc h0
    have h24 := checkGr_len hc
    refine checkGr_of (by omega) fun i hi => ?_
    rw [hl] at hi ⊢
    have hx := good_at (bfs_good hc h0) hi
    have hp := cl_parts hc (i := ((bfs g).getD i 0).toNat) (by omega)
    refine ⟨?_, ?_, kid_idx hc h0 hi⟩
    · rw [copy_at hc h0 hi]; exact hp.1
    · rw [copy_at hc h0 hi]
      simp only [cpCell, List.length_map]; exact hp.2.1
theorem copy_copy {g : List Cl} (hc : checkGr g = 0) : copyGr (copyGr g) = copyGr g := by
  by_cases h0 : g = []
  · subst h0; rfl
  · have hl := copy_len hc h0
    refine ext_getD default ?_ fun q hq => ?_
    · rw [copy_len (copy_check hc) (copy_ne hc h0), bfs_of_copy hc h0, iota_len, hl]
    · rw [copy_len (copy_check hc) (copy_ne hc h0), bfs_of_copy hc h0, iota_len] at hq
      rw [copy_at (copy_check hc) (copy_ne hc h0) (by rw [bfs_of_copy hc h0, iota_len]; exact hq), bfs_of_copy hc h0, iota_at hq]
      unfold cpCell
      rw [Int.toNat_natCast]
      have : ((copyGr g).getD q default).kids.map (idx (iota (bfs g).length)) = ((copyGr g).getD q default).kids := by
        conv => rhs; rw [← List.map_id ((copyGr g).getD q default).kids]
        exact List.map_congr_left fun k hk => idx_iota (kid_idx hc h0 hq k hk)
      rw [this]
theorem copyR_1 {g : List Cl} (hc : checkGr g = 0) : copyR (copyGr g) = (copyGr g, 0) := by rw [copyR_o (copy_check hc), copy_copy hc]
theorem like_copy {g : List Cl} (hc : checkGr g = 0) : likeR g (copyGr g) = (true, 0) := by
  rw [says_0 (by rw [copyR_o hc]), copyR_1 hc, copyR_o hc]
  simp [eqGr_refl]
/-! Cells that nothing leads to. -/
theorem bfs_more {c ext : List Cl} {n : Nat} (hn : ∀ i, ∀ k ∈ bfsAt c i, 0 ≤ k ∧ k < (c.length : Int)) : ∀ i, bfsAt (c ++ ext) i = bfsAt c i
  | 0 => rfl
  | i + 1 => by
    have ih := bfs_more (ext := ext) (n := n) hn i
    rw [bfsAt, bfsAt, ih]
    by_cases hi : i < (bfsAt c i).length
    · rw [if_pos hi, if_pos hi]
      congr 1
      unfold kidsAt
      have := hn i _ (mem_getD hi)
      rw [getD_app, if_pos (by omega)]
    · rw [if_neg hi, if_neg hi]
theorem copy_more {c ext : List Cl} (hc : checkGr c = 0) (h0 : c ≠ []) : copyGr (c ++ ext) = copyGr c := by
  have h1 : bfs (c ++ ext) = bfs c := by
    unfold bfs
    rw [bfs_more (n := 0) (fun i => (bfsAt_good hc h0 i).2)]
    obtain ⟨d, hd⟩ := Nat.exists_eq_add_of_le (show c.length ≤ (c ++ ext).length by simp)
    rw [hd]
    exact bfs_stop (by have := good_len (bfsAt_good hc h0 c.length); omega) d
  rw [copyGr, copyGr, if_neg h0, if_neg (by simp [h0]), h1]
  refine List.map_congr_left fun k hk => ?_
  have := (bfs_good hc h0).2 k hk
  unfold cpCell
  rw [getD_app, if_pos (by omega)]
theorem more_check {c ext : List Cl} (hc : checkGr c = 0) (hl : (c ++ ext).length ≤ 24) (he : ∀ x ∈ ext, (0 ≤ x.n ∧ x.n < 1000) ∧ x.kids.length ≤ 1 ∧ ∀ k ∈ x.kids, 0 ≤ k ∧ k < ((c ++ ext).length : Int)) : checkGr (c ++ ext) = 0 := by
  refine checkGr_of hl fun i hi => ?_
  rw [getD_app]
  by_cases h : i < c.length
  · rw [if_pos h]
    obtain ⟨h1, h2, h3⟩ := cl_parts hc h
    refine ⟨h1, h2, fun k hk => ?_⟩
    have := h3 k hk
    rw [List.length_append]
    omega
  · rw [if_neg h]
    have hm : ext.getD (i - c.length) default ∈ ext := by
      rw [List.length_append] at hi
      rw [getD_lt (by omega)]; exact List.getElem_mem _
    obtain ⟨h1, h2, h3⟩ := he _ hm
    exact ⟨by omega, by omega, h3⟩
/-- A number brought within bounds. -/
def atI (k n : Int) : Int := if Int.tmod k n < 0 then Int.tmod k n + n else Int.tmod k n
theorem atI_in {k n : Int} (h : 0 < n) : 0 ≤ atI k n ∧ atI k n < n := by
  unfold atI
  have h1 := Int.tmod_lt_of_pos k h
  have h2 : -n < Int.tmod k n := by
    by_cases hk : 0 ≤ k
    · have := Int.tmod_nonneg n hk; omega
    · have h3 := Int.tmod_lt_of_pos (-k) h
      rw [Int.neg_tmod] at h3; omega
  split <;> omega
end Go.Proofs.Ytghkpailmdlhgaa
namespace Go.Proofs.Ytghkpailmdlhgaa
open Go.RowKit Go.Eng
theorem tmod_lo {k n : Int} (h : 0 < n) : -n < Int.tmod k n ∧ Int.tmod k n < n := by
  refine ⟨?_, Int.tmod_lt_of_pos k h⟩
  by_cases hk : 0 ≤ k
  · have := Int.tmod_nonneg n hk; omega
  · have h3 := Int.tmod_lt_of_pos (-k) h
    rw [Int.neg_tmod] at h3; omega
theorem copy_le {g : List Cl} (hc : checkGr g = 0) : (copyGr g).length ≤ g.length := by
  by_cases h0 : g = []
  · subst h0; exact Nat.le_refl _
  · rw [copy_len hc h0]; exact bfs_len hc h0
theorem like_ret {g : List Cl} (hc : checkGr g = 0)
    (h : ((((((!decide ((copyR (copyR g).1).2 = 0) || !decide ((likeR g (copyR g).1).2 = 0)) || !(likeR g (copyR g).1).1) || !(eqGr (copyR g).1 (copyR (copyR g).1).1)) || !decide (checkGr (copyR g).1 = 0)) || decide ((g.length : Int) < ((copyR g).1.length : Int))) || decide ((g.length : Int) = 0)) = true) :
    ((((decide ((copyR (copyR g).1).2 = 0) && decide ((likeR g (copyR g).1).2 = 0)) && (likeR g (copyR g).1).1) && decide ((g.length : Int) = 0)) && decide (((copyR g).1.length : Int) = 0)) = true := by
  have hl := copy_le hc
  simp only [copyR_o hc, copyR_1 hc, like_copy hc, copy_check hc, eqGr_refl] at h ⊢
  rw [decide_eq_false (by omega : ¬ (g.length : Int) < ((copyGr g).length : Int))] at h
  have h0 : (g.length : Int) = 0 := by simpa using h
  rw [decide_eq_true h0, decide_eq_true (by omega : ((copyGr g).length : Int) = 0)]
  rfl
theorem map_getD {f : Int → Int} {l : List Int} {i : Nat} (h : i < l.length) : (l.map f).getD i 0 = f (l.getD i 0) := by
  rw [getD_lt (by simpa using h), getD_lt h]; simp
def ApInv (c ext : List Cl) : Prop := (c ++ ext).length ≤ 24 ∧ (c = [] → ext = []) ∧ ∀ x ∈ ext, (0 ≤ x.n ∧ x.n < 1000) ∧ x.kids.length ≤ 1 ∧ ∀ k ∈ x.kids, 0 ≤ k ∧ k < ((c ++ ext).length : Int)
theorem ap_0 {c : List Cl} (h : c.length ≤ 24) : ApInv c [] := ⟨by simpa using h, fun _ => rfl, fun x hx => (by cases hx)⟩
theorem ap_s {c ext : List Cl} (h : ApInv c ext) {a b : Int} (hl : (c ++ ext).length < 24) (h0 : c ≠ []) (ha : 0 ≤ a ∧ a < 1000) (hb : 0 ≤ b ∧ b < ((c ++ ext).length : Int) + 1) : ApInv c (ext ++ [⟨a, [b]⟩]) := by
  have hlen : (c ++ (ext ++ ([⟨a, [b]⟩] : List Cl))).length = (c ++ ext).length + 1 := by simp; omega
  refine ⟨by omega, fun e => absurd e h0, fun x hx => ?_⟩
  rw [hlen]
  rcases List.mem_append.1 hx with hx | hx
  · obtain ⟨h1, h2, h3⟩ := h.2.2 x hx
    exact ⟨h1, h2, fun k hk => by have := h3 k hk; omega⟩
  · have : x = ⟨a, [b]⟩ := by simpa using hx
    subst this
    exact ⟨ha, Nat.le_refl _, fun k hk => by
      have : k = b := by simpa using hk
      subst this; omega⟩
theorem apart_ret {g ext : List Cl} (hc : checkGr g = 0) (h : ApInv (copyR g).1 ext) :
    (((decide ((copyR ((copyR g).1 ++ ext)).2 = 0) && decide ((likeR g ((copyR g).1 ++ ext)).2 = 0)) && (likeR g ((copyR g).1 ++ ext)).1) && eqGr (copyR g).1 (copyR ((copyR g).1 ++ ext)).1) = true := by
  rw [copyR_o hc] at h ⊢
  have hcc : checkGr (copyGr g ++ ext) = 0 := more_check (copy_check hc) h.1 h.2.2
  have hcp : copyGr (copyGr g ++ ext) = copyGr g := by
    by_cases h0 : copyGr g = []
    · have := h.2.1 h0
      subst this
      rw [List.append_nil, copy_copy hc]
    · rw [copy_more (copy_check hc) h0, copy_copy hc]
  have hl : likeR g (copyGr g ++ ext) = (true, 0) := by
    rw [says_0 (by rw [copyR_o hc]), copyR_o hcc, copyR_o hc, hcp]; simp [eqGr_refl]
  show (((decide ((copyR (copyGr g ++ ext)).2 = 0) && decide ((likeR g (copyGr g ++ ext)).2 = 0)) && (likeR g (copyGr g ++ ext)).1) && eqGr (copyGr g) (copyR (copyGr g ++ ext)).1) = true
  rw [hl, copyR_o hcc, hcp]
  simp [eqGr_refl]
theorem ap_len {c ext : List Cl} (h : ApInv c ext) : c.length + ext.length ≤ 24 := by have := h.1; simpa using this
end Go.Proofs.Ytghkpailmdlhgaa
namespace Go.Proofs.Ytghkpailmdlhgaa
theorem copy_ok {g : List Cl} (h : (copyR g).2 = 0) : checkGr g = 0 := by
  by_cases hc : checkGr g = 0
  · exact hc
  · rw [copyR_e hc] at h; exact absurd h hc
end Go.Proofs.Ytghkpailmdlhgaa
