/- Stores: how much room there is. -/
import Derived.Test.YtmcdamcedemdiaaB8
set_option linter.unusedVariables false
set_option linter.unusedSimpArgs false
namespace Go.Proofs.Ytmcdamcedemdiaa
open Go.RowKit Go.Eng
theorem mk_room {s : List Nd} {g : Int} (h : checkSt s = 0) (hg : 0 ≤ g ∧ g ≤ 99) (hc : 0 < s.countP roomB) : ∃ k : Nat, k < s.length ∧ roomB (s.getD k default) = true ∧ mkSt s g = (mkAt s k g, ⟨(k : Int), (s.getD k default).uses + 1⟩, 0) := by
  rcases idxF_cases roomB default s with ⟨_, a⟩ | ⟨i, e, hi, hp, ha⟩
  · rw [List.countP_pos_iff] at hc
    obtain ⟨x, hx, hr⟩ := hc
    rw [a x hx] at hr; cases hr
  · exact ⟨i, hi, hp, mk_hit h (by omega) hi ha hp⟩
theorem mk_full {s : List Nd} {g : Int} (h : checkSt s = 0) (hg : 0 ≤ g ∧ g ≤ 99) (hc : s.countP roomB = 0) : (mkSt s g).2.2 = 1 := by
  rcases idxF_cases roomB default s with ⟨e, _⟩ | ⟨i, e, hi, hp, ha⟩
  · rw [mk_3 h (by omega) (by omega)]
  · exact absurd (List.countP_pos_iff.2 ⟨_, mem_getD (d := default) hi, hp⟩) (by omega)
theorem cnt_set {s : List Nd} {k : Nat} {y : Nd} (hk : k < s.length) : (s.set k y).countP roomB = s.countP roomB - (if roomB (s.getD k default) = true then 1 else 0) + (if roomB y = true then 1 else 0) := by
  rw [List.countP_set hk, getD_lt hk]
/-- A right store of n places, with room for r, no place used more than u times. -/
structure RoomSt (n : Nat) (s : List Nd) (r : Nat) (u : Int) : Prop where
  ok : checkSt s = 0
  len : s.length = n
  cnt : s.countP roomB = r
  uses : ∀ i, i < s.length → (s.getD i default).uses ≤ u
theorem room_le {n r r' : Nat} {s : List Nd} {u u' : Int} (h : RoomSt n s r u) (e : r = r') (hu : u ≤ u') : RoomSt n s r' u' := ⟨h.ok, h.len, e ▸ h.cnt, fun i hi => Int.le_trans (h.uses i hi) hu⟩
theorem new_in {p : Int} (h : (newSt p).2 = 0) : 0 ≤ p ∧ p ≤ 24 := by
  unfold newSt at h
  split at h
  · cases h
  · omega
theorem room_new {p : Int} (h0 : 0 ≤ p) (h : (newSt p).2 = 0) : RoomSt p.toNat (newSt p).1 p.toNat 0 := by
  have h2 : ¬ (p < 0 ∨ 24 < p) := fun q => by unfold newSt at h; rw [if_pos q] at h; cases h
  have e : newSt p = (List.replicate p.toNat nd1, 0) := by unfold newSt; rw [if_neg h2]
  rw [e]
  have g : ∀ i, i < p.toNat → (List.replicate p.toNat nd1).getD i default = nd1 := fun i hi => by simp [List.getD_eq_getElem?_getD, hi]
  refine ⟨checkSt_of (by simp; omega) (nodes_of fun i hi => ?_) (linksB_iff.2 fun i hi => ?_), List.length_replicate, ?_, fun i hi => ?_⟩
  · rw [List.length_replicate] at hi ⊢
    rw [g i hi]
    have z3 : (-1 : Int) ≤ -1 ∧ (-1 : Int) < (p.toNat : Int) := by omega
    exact ⟨by decide, by decide, by decide, fun _ q => (by cases q), z3, z3, fun _ => ⟨rfl, rfl, rfl, rfl, rfl, rfl⟩, fun q => (by cases q), fun q => (by cases q), fun _ => rfl⟩
  · rw [List.length_replicate] at hi
    have hf : (List.replicate p.toNat nd1).flatMap Nd.kids = [] := by
      rw [List.flatMap_eq_nil_iff]; intro x hx; rw [List.eq_of_mem_replicate hx]; rfl
    have hm : ((List.replicate p.toNat nd1).map Nd.host).count (i : Int) = 0 := by
      rw [List.count_eq_zero]; intro q; rw [List.mem_map] at q; obtain ⟨x, hx, he⟩ := q
      rw [List.eq_of_mem_replicate hx] at he; exact absurd he (by show ¬ (-1 : Int) = i; omega)
    have hp : 0 < p.toNat := by omega
    have hup : ∀ m, upN (List.replicate p.toNat nd1) (m + 1) (i : Int) = -1 := fun m => by
      induction m with
      | zero => show up1 _ (i : Int) = -1; unfold up1; rw [if_neg (by omega), Int.toNat_natCast, g i hi]; rfl
      | succ m ih => show up1 _ (upN _ (m + 1) i) = -1; rw [ih]; rfl
    refine ⟨link1_of (by rw [g i hi]; rfl) (.inl (by rw [g i hi]; decide)), ?_⟩
    have hu2 : upN (List.replicate p.toNat nd1) p.toNat (i : Int) = -1 := by
      have := hup (p.toNat - 1); rwa [show (p.toNat - 1) + 1 = p.toNat by omega] at this
    show link2 (List.replicate p.toNat nd1) i = true
    unfold link2 kcnt rcnt
    rw [hf, hm, g i hi, List.length_replicate, hu2]; rfl
  · rw [List.countP_replicate]; rfl
  · rw [List.length_replicate] at hi
    rw [g i hi]; decide
theorem room_mk {n r : Nat} {s : List Nd} {u g : Int} (h : RoomSt n s (r + 1) u) (hg : 0 ≤ g ∧ g ≤ 99) : RoomSt n (mkSt s g).1 r (u + 1) ∧ (mkSt s g).2.2 = 0 := by
  obtain ⟨k, hk, hr, e⟩ := mk_room h.ok hg (by rw [h.cnt]; omega)
  rw [e]
  refine ⟨⟨mk_keep h.ok hk hr hg, by rw [mkAt_len]; exact h.len, ?_, fun i hi => ?_⟩, rfl⟩
  · show (mkAt s k g).countP roomB = r
    unfold mkAt
    rw [cnt_set hk, h.cnt, if_pos hr]; rfl
  · show ((mkAt s k g).getD i default).uses ≤ u + 1
    have hi : i < s.length := by have := mkAt_len (l := s) (k := k) (g := g); exact this ▸ hi
    have := h.uses i hi
    unfold mkAt
    rw [getD_sets hk]; split
    · rename_i q; subst q; show (s.getD i default).uses + 1 ≤ u + 1; omega
    · omega
theorem room_fr {n r : Nat} {s : List Nd} {u p : Int} (h : RoomSt n s r u) (hu : u < 1000000) (hp : 0 ≤ p ∧ p < (n : Int)) (e : (freeSt s ⟨p, (s.getD p.toNat default).uses⟩).2 = 0) : RoomSt n (freeSt s ⟨p, (s.getD p.toNat default).uses⟩).1 (r + 1) u := by
  have hl := h.len
  have hk : p.toNat < s.length := by omega
  have q : (findSt s ⟨p, (s.getD p.toNat default).uses⟩).2 = 0 := Classical.byContradiction fun q => by rw [free_1 q] at e; exact q e
  have b : freeBad s p = false := Bool.eq_false_iff.2 fun b => by rw [free_2 q b] at e; cases e
  rw [free_3 q b]
  have hu2 := (holds_in (find_ok q).2.1).2.2.2.1
  have hus := h.uses _ hk
  have hp2 : 0 ≤ p ∧ p < (s.length : Int) := by omega
  refine ⟨fr_keep h.ok hp2 b, by rw [List.length_set]; exact hl, ?_, fun i hi => ?_⟩
  · show (s.set p.toNat _).countP roomB = r + 1
    rw [cnt_set hk, h.cnt, if_neg, if_pos]; rfl
    · simp only [roomB, Bool.not_false, Bool.true_and, decide_eq_true_eq]; omega
    · have hu2 : (s.getD p.toNat default).used = true := hu2
      unfold roomB; rw [hu2]; simp
  · rw [List.length_set] at hi
    show ((s.set p.toNat _).getD i default).uses ≤ u
    rw [getD_sets hk]; split
    · exact hus
    · exact h.uses i hi
end Go.Proofs.Ytmcdamcedemdiaa
