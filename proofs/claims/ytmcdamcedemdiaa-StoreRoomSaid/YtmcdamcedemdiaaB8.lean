/- Stores: what is made and freed leaves them right. -/
import Derived.Test.YtmcdamcedemdiaaB7
set_option linter.unusedVariables false
set_option linter.unusedSimpArgs false
namespace Go.Proofs.Ytmcdamcedemdiaa
open Go.RowKit Go.Eng
theorem nodes_of {l : List Nd} (h : ∀ i, i < l.length → Node1 (l.length : Int) (l.getD i default)) : nodesErr l = 0 :=
  firstErr_zero _ 0 fun j _ hj => node1_err (h j (by omega))
theorem getD_sets {l : List Nd} {k q : Nat} {y : Nd} (h : k < l.length) : (l.set k y).getD q default = if q = k then y else l.getD q default := by
  by_cases e : q = k
  · subst e; rw [if_pos rfl, getD_setS h]
  · rw [if_neg e, List.getD_eq_getElem?_getD, List.getD_eq_getElem?_getD, List.getElem?_set_ne (Ne.symm e)]
theorem map_sets {α : Type} (f : Nd → α) {l : List Nd} {k : Nat} {y : Nd} (h : k < l.length) (e : f y = f (l.getD k default)) : (l.set k y).map f = l.map f := by
  rw [List.map_set]
  refine set_same (d := f default) (by simpa using h) ?_
  rw [e, List.getD_eq_getElem?_getD, List.getD_eq_getElem?_getD, List.getElem?_map]
  simp [h]
theorem keep {l : List Nd} {k : Nat} {y : Nd} (h : checkSt l = 0) (hk : k < l.length) (hy : Node1 (l.length : Int) y) (e1 : y.kids = (l.getD k default).kids) (e2 : y.par = (l.getD k default).par) (e3 : y.host = (l.getD k default).host)
    (hu : (l.getD k default).used = true → y.used = true ∨ ∀ q, q < l.length → ¬ (k : Int) ∈ (l.getD q default).kids ∧ ¬ (l.getD q default).host = (k : Int)) : checkSt (l.set k y) = 0 := by
  have hN := checkSt_nodes h
  have hL := linksB_iff.1 (checkSt_links h)
  have gk : ∀ q, ((l.set k y).getD q default).kids = (l.getD q default).kids := fun q => by rw [getD_sets hk]; split <;> simp_all
  have gp : ∀ q, ((l.set k y).getD q default).par = (l.getD q default).par := fun q => by rw [getD_sets hk]; split <;> simp_all
  have gh : ∀ q, ((l.set k y).getD q default).host = (l.getD q default).host := fun q => by rw [getD_sets hk]; split <;> simp_all
  have ga : ∀ q, above ((l.set k y).getD q default) = above (l.getD q default) := fun q => by unfold above; rw [gh, gp]
  have gu : ∀ m x, upN (l.set k y) m x = upN l m x := fun m x => by
    induction m with
    | zero => rfl
    | succ m ih => show up1 _ (upN _ m x) = up1 _ (upN l m x); rw [ih]; unfold up1; rw [ga]
  have c1 : ∀ x, kcnt (l.set k y) x = kcnt l x := fun x => by unfold kcnt; rw [List.flatMap_def, List.flatMap_def, map_sets Nd.kids hk e1]
  have c2 : ∀ x, rcnt (l.set k y) x = rcnt l x := fun x => by unfold rcnt; rw [map_sets Nd.host hk e3]
  have us : ∀ q, q < l.length → (l.getD q default).used = true → (q = k → ∃ r, r < l.length ∧ ((k : Int) ∈ (l.getD r default).kids ∨ (l.getD r default).host = (k : Int))) → ((l.set k y).getD q default).used = true := fun q hq hqu hw => by
    rw [getD_sets hk]
    split
    · rename_i e
      obtain ⟨r, hr, hr2⟩ := hw e
      rcases hu (e ▸ hqu) with a | a
      · exact a
      · exact hr2.elim (fun b => absurd b (a r hr).1) (fun b => absurd b (a r hr).2)
    · exact hqu
  refine checkSt_of (by rw [List.length_set]; exact checkSt_len h) (nodes_of fun i hi => ?_) (linksB_iff.2 fun i hi => ?_)
  · rw [List.length_set] at hi ⊢
    rw [getD_sets hk]
    split
    · exact hy
    · exact nodesErr_at hN hi
  · rw [List.length_set] at hi
    obtain ⟨l1, l2⟩ := hL i hi
    refine ⟨link1_of ?_ ?_, ?_⟩
    · rw [gk, List.all_eq_true]
      intro c hc
      obtain ⟨a, b, d, e⟩ := st_kids h hi hc
      simp only [kidOk, Bool.and_eq_true, decide_eq_true_eq]
      refine ⟨⟨a, us _ (by omega) d fun q => ⟨i, hi, .inl ?_⟩⟩, by rw [gp]; exact e⟩
      rw [show (k : Int) = c by omega]; exact hc
    · rw [gh]
      simp only [link1, Bool.and_eq_true, Bool.or_eq_true, decide_eq_true_eq] at l1
      rcases l1.2 with a | a
      · exact .inl a
      · by_cases hz : (l.getD i default).host < 0
        · exact .inl hz
        · have := (nodesErr_at hN hi).host
          exact .inr (us _ (by omega) a fun q => ⟨i, hi, .inr (by omega)⟩)
    · unfold link2 at l2 ⊢
      rw [c1, c2, gp, gu, List.length_set]; exact l2
theorem mk_keep {l : List Nd} {g : Int} {k : Nat} (h : checkSt l = 0) (hk : k < l.length) (hr : roomB (l.getD k default) = true) (hg : 0 ≤ g ∧ g ≤ 99) : checkSt (mkAt l k g) = 0 := by
  have n1 := nodesErr_at (checkSt_nodes h) hk
  obtain ⟨r1, r2⟩ := roomB_lt hr
  have hu := n1.uses
  refine keep h hk ⟨?_, hg, n1.mark, n1.kids, n1.par, n1.host, fun q => (by cases q), fun _ => ?_, n1.closed, n1.one⟩ rfl rfl rfl fun _ => .inl rfl
  · show 0 ≤ (l.getD k default).uses + 1 ∧ (l.getD k default).uses + 1 ≤ 1000000
    omega
  · show ¬ (l.getD k default).uses + 1 = 0
    omega
theorem fr_keep {l : List Nd} {p : Int} (h : checkSt l = 0) (hp : 0 ≤ p ∧ p < (l.length : Int)) (hb : freeBad l p = false) : checkSt (l.set p.toNat ⟨false, (l.getD p.toNat default).uses, 0, 0, -1, [], -1, false⟩) = 0 := by
  have hk : p.toNat < l.length := by omega
  have n1 := nodesErr_at (checkSt_nodes h) hk
  have a1 := above_in (checkSt_nodes h) hp
  simp only [freeBad, Bool.or_eq_false_iff, decide_eq_false_iff_not, List.any_eq_false, decide_eq_true_eq] at hb
  obtain ⟨⟨b1, b2⟩, b3⟩ := hb
  have hh : (l.getD p.toNat default).host = -1 := by
    have := n1.host
    unfold above at b1
    split at b1 <;> omega
  have hpr : (l.getD p.toNat default).par = -1 := by
    have := n1.par
    unfold above at b1
    split at b1 <;> omega
  have hks : (l.getD p.toNat default).kids = [] := List.eq_nil_of_length_eq_zero (by omega)
  have z1 : (0 : Int) ≤ 0 ∧ (0 : Int) ≤ 99 := by decide
  have z2 : (-1000000 : Int) ≤ 0 ∧ (0 : Int) ≤ 1000000 := by decide
  have z3 : (-1 : Int) ≤ -1 ∧ (-1 : Int) < (l.length : Int) := by omega
  refine keep h hk ⟨n1.uses, z1, z2, fun _ q => (by cases q), z3, z3, fun _ => ⟨rfl, rfl, rfl, rfl, rfl, rfl⟩, fun q => (by cases q), fun q => (by cases q), fun _ => rfl⟩ hks.symm hpr.symm hh.symm fun _ => .inr fun q hq => ⟨fun hc => ?_, fun hc => b3 _ (mem_getD (d := default) hq) (by omega)⟩
  have := (st_kids h hq hc).2.2.2
  rw [Int.toNat_natCast] at this
  omega
end Go.Proofs.Ytmcdamcedemdiaa
