/- Stores: links, counted; chains that end. -/
import Derived.Test.YtmcdamcedemdiaaB1
set_option linter.unusedVariables false
set_option linter.unusedSimpArgs false
namespace Go.Proofs.Ytmcdamcedemdiaa
open Go.RowKit Go.Eng
theorem who_all {N : Int} {l : List Int} {j : Nat} (h : ∀ q, q < j → whoBad N (l.getD q 0) = false) (hj : l.length ≤ j) : ∀ k ∈ l, whoBad N k = false := fun k hk => by
  obtain ⟨i, hi, rfl⟩ := getD_of_mem 0 hk
  exact h i (by omega)
/-- How often each of the first n numbers is in a list. -/
def cntA (n : Nat) (ks : List Int) : List Int := (List.range n).map fun k : Nat => ((ks.count (k : Int) : Nat) : Int)
theorem cntA_len (n : Nat) (ks : List Int) : (cntA n ks).length = n := by simp [cntA]
theorem cntA_at {n : Nat} {ks : List Int} {k : Nat} (h : k < n) : (cntA n ks).getD k 0 = ((ks.count (k : Int) : Nat) : Int) := by
  rw [getD_lt (by rw [cntA_len]; exact h)]; simp [cntA]
theorem cntA_nil (n : Nat) : cntA n [] = List.replicate n 0 := by
  refine List.ext_getElem (by simp [cntA]) fun i h1 h2 => by simp [cntA]
theorem cntA_add {n : Nat} {ks : List Int} {c : Int} (h : 0 ≤ c ∧ c < (n : Int)) : (cntA n ks).set c.toNat ((cntA n ks).getD c.toNat 0 + 1) = cntA n (ks ++ [c]) := by
  rw [cntA_at (by omega)]
  refine List.ext_getElem (by simp [cntA]) fun i h1 h2 => ?_
  rw [List.getElem_set]
  simp only [cntA, List.getElem_map, List.getElem_range, List.count_append, List.count_singleton]
  by_cases e : c.toNat = i
  · rw [if_pos e]
    have : c = (i : Int) := by omega
    subst this; simp
  · rw [if_neg e]
    have : ¬ c = (i : Int) := by omega
    simp [this]
theorem cntA_neg {n : Nat} {ks : List Int} {c : Int} (h : c < 0) : cntA n (ks ++ [c]) = cntA n ks := by
  refine List.ext_getElem (by simp [cntA]) fun i h1 h2 => ?_
  simp only [cntA, List.getElem_map, List.getElem_range, List.count_append, List.count_singleton]
  have : ¬ c = (i : Int) := by omega
  simp [this]
theorem cntA_in (n : Nat) (ks : List Int) (k : Nat) : 0 ≤ (cntA n ks).getD k 0 ∧ (cntA n ks).getD k 0 ≤ (ks.length : Int) := by
  by_cases h : k < n
  · rw [cntA_at h]
    have := List.count_le_length (a := (k : Int)) (l := ks)
    omega
  · rw [List.getD_eq_getElem?_getD, List.getElem?_eq_none (by rw [cntA_len]; omega)]
    simp
theorem flat_len {M : Nat} : ∀ {l : List Nd}, (∀ n ∈ l, n.kids.length ≤ M) → (l.flatMap Nd.kids).length ≤ l.length * M
  | [], _ => by simp
  | x :: r, h => by
    have h1 := h x (.head _)
    have h2 := flat_len (l := r) fun n hn => h n (.tail _ hn)
    simp only [List.flatMap_cons, List.length_append, List.length_cons, Nat.succ_mul]
    omega
theorem flat_take_s {l : List Nd} {i : Nat} (h : i < l.length) : (l.take (i + 1)).flatMap Nd.kids = (l.take i).flatMap Nd.kids ++ (l.getD i default).kids := by
  rw [take_s default h, List.flatMap_append]; simp
theorem map_take_s {α β : Type} {f : α → β} {l : List α} (d : α) {i : Nat} (h : i < l.length) : (l.take (i + 1)).map f = (l.take i).map f ++ [f (l.getD i d)] := by
  rw [take_s d h, List.map_append]; rfl

/-! Chains. -/
theorem nodesErr_at {l : List Nd} (h : nodesErr l = 0) {i : Nat} (hi : i < l.length) : Node1 (l.length : Int) (l.getD i default) := node1_of (firstErr_all _ 0 h i (Nat.zero_le _) (by omega))
theorem up1_neg {l : List Nd} {k : Int} (h : k < 0) : up1 l k = k := if_pos h
theorem upN_neg {l : List Nd} {i : Int} {a : Nat} (h : upN l a i < 0) : ∀ m, upN l (a + m) i < 0
  | 0 => h
  | m + 1 => by
    have := upN_neg h m
    show up1 l (upN l (a + m) i) < 0
    rw [up1_neg this]; exact this
theorem upN_le {l : List Nd} {i : Int} {a b : Nat} (hab : a ≤ b) (h : 0 ≤ upN l b i) : 0 ≤ upN l a i := by
  obtain ⟨m, rfl⟩ := Nat.exists_eq_add_of_le hab
  exact Classical.byContradiction fun q => by have := upN_neg (Int.not_le.1 q) m; omega
theorem upN_add {l : List Nd} (a : Nat) (i : Int) : ∀ m, upN l (a + m) i = upN l m (upN l a i)
  | 0 => rfl
  | m + 1 => by
    show up1 l (upN l (a + m) i) = up1 l (upN l m (upN l a i))
    rw [upN_add a i m]
theorem upN_per {l : List Nd} {x : Int} {p : Nat} (h : upN l p x = x) : ∀ m, upN l (p * m) x = x
  | 0 => rfl
  | m + 1 => by rw [Nat.mul_succ, upN_add, upN_per h m, h]
/-- What comes round never ends. -/
theorem up_cycle {l : List Nd} {i : Int} {a b : Nat} (hab : a < b) (h : upN l a i = upN l b i) (h0 : 0 ≤ upN l a i) (m : Nat) : 0 ≤ upN l m i := by
  refine Classical.byContradiction fun q => ?_
  have hq := Int.not_le.1 q
  obtain ⟨p, rfl⟩ := Nat.exists_eq_add_of_le (Nat.le_of_lt hab)
  rw [upN_add] at h
  have hp := upN_per h.symm m
  rw [← upN_add] at hp
  have hpm : m ≤ a + p * m := by
    have : 1 * m ≤ p * m := Nat.mul_le_mul_right _ (by omega)
    omega
  obtain ⟨r, hr⟩ := Nat.exists_eq_add_of_le hpm
  have := upN_neg hq r
  rw [← hr, hp] at this
  omega
theorem nodup_bound : ∀ (n : Nat) (l : List Int), l.Nodup → (∀ k ∈ l, 0 ≤ k ∧ k < (n : Int)) → l.length ≤ n
  | 0, l, _, h => by
    cases l with
    | nil => exact Nat.le_refl _
    | cons x r => have := h x (.head _); omega
  | n + 1, l, hd, h => by
    have h1 := nodup_bound n (l.erase (n : Int)) (hd.erase _) fun k hk => by
      have := (List.Nodup.mem_erase_iff hd).1 hk
      have h2 := h k this.2
      have h3 := this.1
      omega
    have h2 := List.length_erase (a := (n : Int)) (l := l)
    split at h2 <;> omega
theorem above_in {l : List Nd} (h : nodesErr l = 0) {k : Int} (hk : 0 ≤ k ∧ k < (l.length : Int)) : -1 ≤ above (l.getD k.toNat default) ∧ above (l.getD k.toNat default) < (l.length : Int) := by
  have := nodesErr_at h (i := k.toNat) (by omega)
  have h1 := this.par
  have h2 := this.host
  unfold above
  split <;> omega
theorem upN_in {l : List Nd} (h : nodesErr l = 0) {i : Int} (hi : -1 ≤ i ∧ i < (l.length : Int)) : ∀ m, -1 ≤ upN l m i ∧ upN l m i < (l.length : Int)
  | 0 => hi
  | m + 1 => by
    have hm := upN_in h hi m
    show -1 ≤ up1 l (upN l m i) ∧ up1 l (upN l m i) < (l.length : Int)
    unfold up1
    split
    · exact hm
    · exact above_in h ⟨by omega, hm.2⟩
/-- A chain as long as there are places never ends. -/
theorem up_pig {l : List Nd} (h : nodesErr l = 0) {i : Int} (hi : -1 ≤ i ∧ i < (l.length : Int)) (h0 : 0 ≤ upN l l.length i) (m : Nat) : 0 ≤ upN l m i := by
  refine Classical.byContradiction fun q => ?_
  have hnd : ((List.range (l.length + 1)).map fun j => upN l j i).Nodup := by
    rw [List.nodup_iff_pairwise_ne, List.pairwise_map]
    refine List.Pairwise.imp_of_mem ?_ (List.pairwise_lt_range)
    intro a b ha hb hab e
    exact q (up_cycle hab e (upN_le (by have := List.mem_range.1 ha; omega) h0) m)
  have := nodup_bound l.length _ hnd fun k hk => by
    obtain ⟨j, hj, rfl⟩ := List.mem_map.1 hk
    exact ⟨upN_le (by have := List.mem_range.1 hj; omega) h0, (upN_in h hi j).2⟩
  simp at this
  omega
theorem checkSt_1 {l : List Nd} (h : 24 < (l.length : Int)) : checkSt l = 1 := if_pos (by omega)
theorem checkSt_n {l : List Nd} (h : l.length ≤ 24) {e : Int} (hn : nodesErr l = e) (h0 : e ≠ 0) : checkSt l = e := by
  unfold checkSt; rw [if_neg (by omega), hn, if_pos h0]
theorem checkSt_l {l : List Nd} (h : l.length ≤ 24) (hn : nodesErr l = 0) : checkSt l = if linksB l = true then 0 else 6 := by
  unfold checkSt; rw [if_neg (by omega), hn, if_neg (by simp)]
/-! The program's look at the links. -/
theorem kidOk_no {l : List Nd} {i : Nat} {c : Int} (h : ((decide (c < 0) || !(l.getD c.toNat default).used) || !decide ((l.getD c.toNat default).par = (i : Int))) = true) : kidOk l i c = false := by
  have h0 : decide (c < 0) = !decide (0 ≤ c) := by rw [Bool.eq_iff_iff]; simp
  rw [h0] at h
  simp only [kidOk]
  cases hx : decide (0 ≤ c) <;> cases hy : (l.getD c.toNat default).used <;> cases hz : decide ((l.getD c.toNat default).par = (i : Int)) <;> simp_all
theorem kidOk_yes {l : List Nd} {i : Nat} {c : Int} (h : ((decide (c < 0) || !(l.getD c.toNat default).used) || !decide ((l.getD c.toNat default).par = (i : Int))) = false) : kidOk l i c = true := by
  have h0 : decide (c < 0) = !decide (0 ≤ c) := by rw [Bool.eq_iff_iff]; simp
  rw [h0] at h
  simp only [kidOk]
  cases hx : decide (0 ≤ c) <;> cases hy : (l.getD c.toNat default).used <;> cases hz : decide ((l.getD c.toNat default).par = (i : Int)) <;> simp_all
theorem kidsOk {l : List Nd} {i : Nat} {ks : List Int} {j : Nat} (h : ∀ q, q < j → kidOk l i (ks.getD q 0) = true) (hj : ks.length ≤ j) : ks.all (kidOk l i) = true := by
  rw [List.all_eq_true]
  intro k hk
  obtain ⟨q, hq, rfl⟩ := getD_of_mem 0 hk
  exact h q (by omega)
theorem all_s {p : Nat → Prop} {i : Nat} (h : ∀ q, q < i → p q) (e : p i) : ∀ q, q < i + 1 → p q := fun q hq => by
  by_cases e' : q < i
  · exact h q e'
  · have : q = i := by omega
    subst this; exact e
theorem link1_of {l : List Nd} {i : Nat} (h : (l.getD i default).kids.all (kidOk l i) = true) (h2 : (l.getD i default).host < 0 ∨ (l.getD (l.getD i default).host.toNat default).used = true) : link1 l i = true := by
  simp only [link1, h, Bool.true_and, Bool.or_eq_true, decide_eq_true_eq]; exact h2
theorem links_1 {l : List Nd} {i : Nat} (hi : i < l.length) (h : link1 l i = false) : (6 : Int) = if linksB l = true then 0 else 6 := by
  rw [if_neg]; rw [linksB_iff]; intro hh; rw [(hh i hi).1] at h; cases h
theorem links_2 {l : List Nd} {i : Nat} (hi : i < l.length) (h : link2 l i = false) : (6 : Int) = if linksB l = true then 0 else 6 := by
  rw [if_neg]; rw [linksB_iff]; intro hh; rw [(hh i hi).2] at h; cases h
theorem links_0 {l : List Nd} (h1 : ∀ q, q < l.length → link1 l q = true) (h2 : ∀ q, q < l.length → link2 l q = true) : (0 : Int) = if linksB l = true then 0 else 6 := by
  rw [if_pos]; rw [linksB_iff]; exact fun i hi => ⟨h1 i hi, h2 i hi⟩
theorem link1_kid {l : List Nd} {i : Nat} {c : Int} (hc : c ∈ (l.getD i default).kids) (h : kidOk l i c = false) : link1 l i = false := by
  have : (l.getD i default).kids.all (kidOk l i) = false := by
    rw [List.all_eq_false]; exact ⟨c, hc, by rw [h]; simp⟩
  simp only [link1, this, Bool.false_and]
theorem link1_host {l : List Nd} {i : Nat} (h : 0 ≤ (l.getD i default).host) (h2 : (l.getD (l.getD i default).host.toNat default).used = false) : link1 l i = false := by
  simp only [link1, h2, Bool.or_false, decide_eq_false (show ¬ (l.getD i default).host < 0 by omega), Bool.and_false]
theorem link2_eq {l : List Nd} {i : Nat} (hi : i < l.length) : link2 l i =
    (!((decide (1 < (cntA l.length (l.flatMap Nd.kids)).getD i 0) || (decide ((cntA l.length (l.flatMap Nd.kids)).getD i 0 = 1) != decide (0 ≤ (l.getD i default).par))) || decide (1 < (cntA l.length (l.map Nd.host)).getD i 0)) && decide (upN l l.length i < 0)) := by
  rw [cntA_at hi, cntA_at hi]
  unfold link2 kcnt rcnt
  generalize List.count (i : Int) (l.flatMap Nd.kids) = A
  generalize List.count (i : Int) (l.map Nd.host) = B
  generalize decide (upN l l.length (i : Int) < 0) = u
  generalize decide (0 ≤ (l.getD i default).par) = p
  have e2 : decide (B ≤ 1) = !decide ((1 : Int) < (B : Int)) := by
    rw [← decide_not, Bool.eq_iff_iff, decide_eq_true_iff, decide_eq_true_iff]; omega
  rw [e2]
  by_cases h1 : A ≤ 1
  · have e : decide (0 < A) = decide ((A : Int) = 1) := by
      rw [Bool.eq_iff_iff, decide_eq_true_iff, decide_eq_true_iff]; omega
    rw [decide_eq_true h1, decide_eq_false (show ¬ (1 : Int) < (A : Int) by omega), e]
    cases decide ((A : Int) = 1) <;> cases p <;> cases decide ((1 : Int) < (B : Int)) <;> cases u <;> rfl
  · rw [decide_eq_false h1, decide_eq_true (show (1 : Int) < (A : Int) by omega)]
    rfl
theorem link2_bad {l : List Nd} {i : Nat} (hi : i < l.length) (h : ((decide (1 < (cntA l.length (l.flatMap Nd.kids)).getD i 0) || (decide ((cntA l.length (l.flatMap Nd.kids)).getD i 0 = 1) != decide (0 ≤ (l.getD i default).par))) || decide (1 < (cntA l.length (l.map Nd.host)).getD i 0)) = true) : link2 l i = false := by
  rw [link2_eq hi, h]; rfl
theorem link2_up {l : List Nd} {i : Nat} {k : Nat} (hi : i < l.length) (hk : l.length ≤ k) (h : 0 ≤ upN l k i) : link2 l i = false := by
  rw [link2_eq hi, decide_eq_false (show ¬ upN l l.length i < 0 by have := upN_le hk h; omega), Bool.and_false]
theorem link2_ok {l : List Nd} {i : Nat} {k : Nat} (hN : nodesErr l = 0) (hi : i < l.length) (h : ((decide (1 < (cntA l.length (l.flatMap Nd.kids)).getD i 0) || (decide ((cntA l.length (l.flatMap Nd.kids)).getD i 0 = 1) != decide (0 ≤ (l.getD i default).par))) || decide (1 < (cntA l.length (l.map Nd.host)).getD i 0)) = false) (h2 : upN l k i < 0) : link2 l i = true := by
  rw [link2_eq hi, h, decide_eq_true]; · rfl
  refine Int.not_le.1 fun q => ?_
  have := up_pig hN (i := (i : Int)) (by omega) q k
  omega
theorem upN_s {l : List Nd} {k : Nat} {i a : Int} (h : a = upN l k i) (h0 : 0 ≤ a) : above (l.getD a.toNat default) = upN l (k + 1) i := by
  show _ = up1 l (upN l k i)
  rw [← h, up1, if_neg (by omega)]
end Go.Proofs.Ytmcdamcedemdiaa
