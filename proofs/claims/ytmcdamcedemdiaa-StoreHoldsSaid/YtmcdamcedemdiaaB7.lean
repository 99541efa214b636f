/- Stores: what a right one says of each node; what is freed. -/
import Derived.Test.YtmcdamcedemdiaaB6
set_option linter.unusedVariables false
set_option linter.unusedSimpArgs false
namespace Go.Proofs.Ytmcdamcedemdiaa
open Go.RowKit Go.Eng
theorem st_kids {l : List Nd} (h : checkSt l = 0) {i : Nat} (hi : i < l.length) {c : Int} (hc : c ∈ (l.getD i default).kids) : 0 ≤ c ∧ c < (l.length : Int) ∧ (l.getD c.toNat default).used = true ∧ (l.getD c.toNat default).par = (i : Int) := by
  have h1 := (linksB_iff.1 (checkSt_links h) i hi).1
  simp only [link1, Bool.and_eq_true, List.all_eq_true] at h1
  have h2 := h1.1 c hc
  simp only [kidOk, Bool.and_eq_true, decide_eq_true_eq] at h2
  exact ⟨h2.1.1, ((nodesErr_at (checkSt_nodes h) hi).kids c hc).2, h2.1.2, h2.2⟩
theorem st_cnt {l : List Nd} (h : checkSt l = 0) {i : Nat} (hi : i < l.length) : kcnt l i ≤ 1 ∧ (0 < kcnt l i ↔ 0 ≤ (l.getD i default).par) ∧ rcnt l i ≤ 1 ∧ upN l l.length i < 0 := by
  have h3 := (linksB_iff.1 (checkSt_links h) i hi).2
  simp only [link2, Bool.and_eq_true, decide_eq_true_eq, beq_iff_eq, decide_eq_decide] at h3
  exact ⟨h3.1.1.1, h3.1.1.2, h3.1.2, h3.2⟩
theorem st_par {l : List Nd} (h : checkSt l = 0) {i : Nat} (hi : i < l.length) (hp : 0 ≤ (l.getD i default).par) : ∃ q : Nat, q < l.length ∧ (l.getD i default).par = (q : Int) ∧ (i : Int) ∈ (l.getD q default).kids := by
  have h3 := (st_cnt h hi).2.1.2 hp
  rw [kcnt, List.count_pos_iff, List.mem_flatMap] at h3
  obtain ⟨n, hn, hk⟩ := h3
  obtain ⟨q, hq, rfl⟩ := getD_of_mem default hn
  have := st_kids h hq hk
  rw [Int.toNat_natCast] at this
  exact ⟨q, hq, this.2.2.2, hk⟩
theorem find_ok {l : List Nd} {h : Hd} (q : (findSt l h).2 = 0) : checkSt l = 0 ∧ holdsSt l h = 0 ∧ findSt l h = (l.getD h.pl.toNat default, 0) := by
  by_cases h1 : checkSt l = 0
  · by_cases h2 : holdsSt l h = 0
    · exact ⟨h1, h2, find_3 h1 h2⟩
    · rw [find_2 h1 h2] at q; exact absurd q h2
  · rw [find_1 h1] at q; exact absurd q h1
theorem first_find (l : List Nd) (h : Hd) : firstSt l [h] = (findSt l h).2 := by
  show stepH l (checkSt l) h = _
  unfold stepH
  by_cases h1 : checkSt l = 0
  · rw [if_pos h1]
    by_cases h2 : holdsSt l h = 0
    · rw [find_3 h1 h2, h2]
    · rw [find_2 h1 h2]
  · rw [if_neg h1, find_1 h1]
theorem free_1 {l : List Nd} {h : Hd} (q : ¬ (findSt l h).2 = 0) : freeSt l h = ([], (findSt l h).2) := if_pos q
theorem free_2 {l : List Nd} {h : Hd} (q : (findSt l h).2 = 0) (b : freeBad l h.pl = true) : freeSt l h = ([], 6) := by unfold freeSt; rw [if_neg (not_not_intro q), if_pos b]
theorem free_3 {l : List Nd} {h : Hd} (q : (findSt l h).2 = 0) (b : freeBad l h.pl = false) : freeSt l h = (l.set h.pl.toNat ⟨false, (l.getD h.pl.toNat default).uses, 0, 0, -1, [], -1, false⟩, 0) := by unfold freeSt; rw [if_neg (not_not_intro q), if_neg (ff b)]
def rfB (l : List Nd) (p : Int) (j : Nat) : Bool := (decide ((j : Int) = p) && !decide (runder (l.getD j default) = -1)) || decide (runder (l.getD j default) = p)
theorem rf_yes {l : List Nd} (h : checkSt l = 0) {p : Int} (hp : 0 ≤ p ∧ p < (l.length : Int)) {j : Nat} (hj : j < l.length) (e : rfB l p j = true) : freeBad l p = true := by
  have hN := checkSt_nodes h
  have ra := runder_above hN (k := (j : Int)) (by omega)
  rw [Int.toNat_natCast] at ra
  have ai := above_in hN (k := (j : Int)) (by omega)
  rw [Int.toNat_natCast] at ai
  simp only [rfB, Bool.or_eq_true, Bool.and_eq_true, decide_eq_true_eq, Bool.not_eq_true', decide_eq_false_iff_not] at e
  simp only [freeBad, Bool.or_eq_true, decide_eq_true_eq, List.any_eq_true]
  rcases e with ⟨e1, e2⟩ | e
  · have : p.toNat = j := by omega
    rw [this]; exact .inl (.inl (by omega))
  · unfold runder at e
    split at e
    · exact .inr ⟨_, mem_getD (d := default) hj, e⟩
    · obtain ⟨q, hq, e1, e2⟩ := st_par h hj (by omega)
      have : p.toNat = q := by omega
      rw [this]
      exact .inl (.inr (by have := List.length_pos_of_mem e2; omega))
theorem rf_no {l : List Nd} (h : checkSt l = 0) {p : Int} (hp : 0 ≤ p ∧ p < (l.length : Int)) {k : Nat} (hk : l.length ≤ k) (e : ∀ j, j < k → rfB l p j = false) : freeBad l p = false := by
  have hN := checkSt_nodes h
  have e : ∀ j, j < l.length → ¬ ((j : Int) = p ∧ ¬ runder (l.getD j default) = -1) ∧ ¬ runder (l.getD j default) = p := fun j hj => by
    have := e j (by omega)
    simp only [rfB, Bool.or_eq_false_iff, Bool.and_eq_false_iff, decide_eq_false_iff_not, Bool.not_eq_false', decide_eq_true_eq] at this
    exact ⟨fun q => this.1.elim (fun a => a q.1) (fun a => q.2 a), this.2⟩
  rw [Bool.eq_false_iff]
  intro hb
  simp only [freeBad, Bool.or_eq_true, decide_eq_true_eq, List.any_eq_true] at hb
  rcases hb with (hb | hb) | ⟨n, hn, hb⟩
  · have ra := runder_above hN hp
    have := (e p.toNat (by omega)).1
    omega
  · obtain ⟨c, hc⟩ := List.exists_mem_of_length_pos (show 0 < (l.getD p.toNat default).kids.length by omega)
    have sk := st_kids h (by omega) hc
    have n1 := nodesErr_at hN (i := c.toNat) (by omega)
    have e1 := (e c.toNat (by omega)).2
    have : (l.getD c.toNat default).host = -1 := by
      have := n1.host; have := n1.one; omega
    apply e1
    unfold runder
    rw [if_neg (not_not_intro this)]; omega
  · obtain ⟨j, hj, rfl⟩ := getD_of_mem default hn
    apply (e j hj).2
    unfold runder
    rw [if_pos (by omega)]; exact hb
theorem fr_bad {l : List Nd} {h : Hd} (q : (findSt l h).2 = 0) : ((decide (0 ≤ above (findSt l h).1) || decide (0 < ((findSt l h).1.kids.length : Int))) || l.any (fun n => decide (n.host = h.pl))) = freeBad l h.pl := by
  rw [(find_ok q).2.2]; rfl
/-! Hands held against each other. -/
def hdVal (h : Hd) : Nat → Value
  | 0 => .int .i64 h.pl
  | _ => .int .i64 h.use
theorem fields26 : Try.prog.underlying 26 = some (.struct (Try.prog.fieldsOf 26)) := by kernel_rfl
theorem held26 : Try.prog.stoodInHeld 26 = false := by kernel_rfl
theorem guard26 : Try.prog.eqGuardType Try.prog.depth 26 = false := by kernel_rfl
theorem fl26 : (Try.prog.fieldsOf 26).toList = (match Try.prog.underlying 26 with | some (.struct fs) => fs.toList | _ => []) := by kernel_rfl
theorem eq26 (f g : Hd) (w : World) : (Op.equalIn 10000 26 (.agg (Array.ofFn fun i : Fin 2 => hdVal f i.1)) (.agg (Array.ofFn fun i : Fin 2 => hdVal g i.1))).run Try.prog w = .ok (decide (f = g)) w := by
  rw [run_equalIn_agg w 9999 26 _ _ fields26 held26, fl26, Try.underlying26]
  simp [Op.eqFields, part, Try.isAgg3, Try.isAgg4, hdVal, run_equalIn_int w 9998 3 .i64 .i64 _ _ Try.underlying3, run_equalIn_bool w 9998 4 _ _ Try.underlying4]
  obtain ⟨a, b⟩ := f
  obtain ⟨a', b'⟩ := g
  simp only [Hd.mk.injEq]
  repeat (split <;> simp_all)
theorem eqS26 (x y : Operand) (f g : Hd) (w : World) : (do eqGuard .eql 26 x y (.agg (Array.ofFn fun i : Fin 2 => hdVal f i.1)) (.agg (Array.ofFn fun i : Fin 2 => hdVal g i.1)); binOp .eql 26 (.agg (Array.ofFn fun i : Fin 2 => hdVal f i.1)) (.agg (Array.ofFn fun i : Fin 2 => hdVal g i.1))).run Try.prog w = .ok (.bool (decide (f = g))) w := by
  simp only [Sem.run_bind, run_eqGuard_agg w .eql 26 x y _ _ guard26, Result.andThen_ok, run_eql_struct w 26, eq26 f g w]
theorem neS26 (x y : Operand) (f g : Hd) (w : World) : (do eqGuard .neq 26 x y (.agg (Array.ofFn fun i : Fin 2 => hdVal f i.1)) (.agg (Array.ofFn fun i : Fin 2 => hdVal g i.1)); binOp .neq 26 (.agg (Array.ofFn fun i : Fin 2 => hdVal f i.1)) (.agg (Array.ofFn fun i : Fin 2 => hdVal g i.1))).run Try.prog w = .ok (.bool (!decide (f = g))) w := by
  simp only [Sem.run_bind, run_eqGuard_agg w .neq 26 x y _ _ guard26, Result.andThen_ok, run_neq_struct w 26, eq26 f g w]
/-- A store that is handed over has few nodes, and these have few children. -/
theorem len_of {l : List Nd} (h : l.length * 80 ≤ reachBytes ∧ l.length ≤ maxLen ∧ ∀ x ∈ l, okNd x) : l.length ≤ 1759218604390 := by have := h.1; unfold reachBytes at this; omega
theorem kids_of {l : List Nd} (h : l.length * 80 ≤ reachBytes ∧ l.length ≤ maxLen ∧ ∀ x ∈ l, okNd x) : ∀ n ∈ l, n.kids.length ≤ 17592186043904 := fun n hn => by
  have := (h.2.2 n hn).2.2.2.2.1.1; unfold reachBytes at this; omega
/-- A number brought within bounds. -/
def atI (k n : Int) : Int := if k.tmod n < 0 then k.tmod n + n else k.tmod n
theorem atI_in (k : Int) {n : Int} (h : 0 < n) : 0 ≤ atI k n ∧ atI k n < n := by
  have h1 := Int.lt_tmod_of_pos k h
  have h2 := Int.tmod_lt_of_pos k h
  unfold atI; split <;> omega
end Go.Proofs.Ytmcdamcedemdiaa
