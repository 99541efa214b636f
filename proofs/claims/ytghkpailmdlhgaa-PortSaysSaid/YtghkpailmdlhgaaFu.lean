/- Frames: what is gone, what goes elsewhere, held against the document's answers: plain Lean. -/
import Derived.Test.YtghkpailmdlhgaaFt
set_option linter.unusedVariables false
set_option linter.unusedSimpArgs false
namespace Go.Proofs.Ytghkpailmdlhgaa
open Go.RowKit Go.Eng
/-! Frames held against each other. -/
def frVal (f : Fr) : Nat → Value
  | 0 => .int .i64 f.par
  | 1 => .int .i64 f.org
  | 2 => .int .i64 f.may
  | 3 => .int .i64 f.turn
  | _ => .bool f.gone
theorem fields47 : Try.prog.underlying 47 = some (.struct (Try.prog.fieldsOf 47)) := by kernel_rfl
theorem held47 : Try.prog.stoodInHeld 47 = false := by kernel_rfl
theorem guard47 : Try.prog.eqGuardType Try.prog.depth 47 = false := by kernel_rfl
theorem fl47 : (Try.prog.fieldsOf 47).toList = (match Try.prog.underlying 47 with | some (.struct fs) => fs.toList | _ => []) := by kernel_rfl
theorem eq47 (f g : Fr) (w : World) : (Op.equalIn 10000 47 (.agg (Array.ofFn fun i : Fin 5 => frVal f i.1)) (.agg (Array.ofFn fun i : Fin 5 => frVal g i.1))).run Try.prog w = .ok (decide (f = g)) w := by
  rw [run_equalIn_agg w 9999 47 _ _ fields47 held47, fl47, Try.underlying47]
  simp [Op.eqFields, part, Try.isAgg3, Try.isAgg4, frVal, run_equalIn_int w 9998 3 .i64 .i64 _ _ Try.underlying3, run_equalIn_bool w 9998 4 _ _ Try.underlying4]
  obtain ⟨a, b, c, d, e⟩ := f
  obtain ⟨a', b', c', d', e'⟩ := g
  simp only [Fr.mk.injEq]
  repeat (split <;> simp_all)
theorem eqS47 (x y : Operand) (f g : Fr) (w : World) : (do eqGuard .eql 47 x y (.agg (Array.ofFn fun i : Fin 5 => frVal f i.1)) (.agg (Array.ofFn fun i : Fin 5 => frVal g i.1)); binOp .eql 47 (.agg (Array.ofFn fun i : Fin 5 => frVal f i.1)) (.agg (Array.ofFn fun i : Fin 5 => frVal g i.1))).run Try.prog w = .ok (.bool (decide (f = g))) w := by
  simp only [Sem.run_bind, run_eqGuard_agg w .eql 47 x y _ _ guard47, Result.andThen_ok, run_eql_struct w 47, eq47 f g w]
theorem neS47 (x y : Operand) (f g : Fr) (w : World) : (do eqGuard .neq 47 x y (.agg (Array.ofFn fun i : Fin 5 => frVal f i.1)) (.agg (Array.ofFn fun i : Fin 5 => frVal g i.1)); binOp .neq 47 (.agg (Array.ofFn fun i : Fin 5 => frVal f i.1)) (.agg (Array.ofFn fun i : Fin 5 => frVal g i.1))).run Try.prog w = .ok (.bool (!decide (f = g))) w := by
  simp only [Sem.run_bind, run_eqGuard_agg w .neq 47 x y _ _ guard47, Result.andThen_ok, run_neq_struct w 47, eq47 f g w]
def eqFr (l m : List Fr) : Bool := decide (l = m)

/-! What is gone: closed form. -/
theorem getD_lt {α : Type} {l : List α} {d : α} {i : Nat} (h : i < l.length) : l.getD i d = l[i] := by simp [List.getD_eq_getElem?_getD, h]
theorem ext_getD {α : Type} {l m : List α} (d : α) (h : l.length = m.length) (he : ∀ i, i < l.length → l.getD i d = m.getD i d) : l = m := by
  refine List.ext_getElem h fun i h1 h2 => ?_
  have := he i h1
  rwa [getD_lt h1, getD_lt h2] at this
theorem set_getD {α : Type} {l : List α} {d : α} {i j : Nat} {x : α} (hi : i < l.length) : (l.set i x).getD j d = if j = i then x else l.getD j d := by
  simp only [List.getD_eq_getElem?_getD, List.getElem?_set]
  by_cases e : i = j
  · subst e; simp [hi]
  · rw [if_neg e, if_neg (Ne.symm e)]
theorem fr_eq {f g : Fr} (h : sameBut f g) (hg : f.gone = g.gone) : f = g := by
  obtain ⟨a, b, c, d, e⟩ := f
  obtain ⟨a', b', c', d', e'⟩ := g
  obtain ⟨rfl, rfl, rfl, rfl⟩ := h
  cases hg; rfl
/-- A frame behind 'Discard', as the document says it. -/
def dFr (l : List Fr) (k : Int) (i : Nat) : Fr := { l.getD i default with gone := (l.getD i default).gone || withinFr l i k }
def discPre (l : List Fr) (k : Int) : Nat → List Fr
  | 0 => []
  | i + 1 => discPre l k i ++ [dFr l k i]
theorem discPre_len (l : List Fr) (k : Int) : ∀ i, (discPre l k i).length = i
  | 0 => rfl
  | i + 1 => by simp [discPre, discPre_len l k i]
theorem discPre_at (l : List Fr) (k : Int) : ∀ {i j : Nat}, j < i → (discPre l k i).getD j default = dFr l k j
  | i + 1, j, h => by
    rw [discPre, getD_app, discPre_len]
    by_cases e : j < i
    · rw [if_pos e, discPre_at l k e]
    · have : j = i := by omega
      subst this
      rw [if_neg (Nat.lt_irrefl _), Nat.sub_self]; rfl
theorem setGone_at {l : List Fr} {i j : Nat} (hi : i < l.length) : ((setGone l i).getD j default).gone = if j = i then true else (l.getD j default).gone := by
  unfold setGone
  rw [set_getD hi]
  split <;> rfl
theorem gone_up {l : List Fr} (hc : checkFr l = 0) {i : Nat} (hi : i < l.length) (h0 : 0 ≤ (l.getD i default).par) (hg : (l.getD (l.getD i default).par.toNat default).gone = true) : (l.getD i default).gone = true := by
  have h := frErr_parts (check_at hc hi)
  have hw := who_bounds h.1
  have h3 := h.2.2
  rw [decide_eq_true (by omega), Bool.true_and] at h3
  simp only [frForm, Bool.or_eq_false_iff, hg, Bool.true_and, Bool.not_eq_false'] at h3
  exact h3.2
theorem goneK_at {l : List Fr} (hc : checkFr l = 0) {k : Int} (hk : 0 ≤ k ∧ k < (l.length : Int)) : ∀ i, i ≤ l.length → ∀ j, j < l.length →
    ((goneK l k i).getD j default).gone = if j < i then (l.getD j default).gone || withinFr l j k else if (j : Int) = k then true else (l.getD j default).gone
  | 0, _, j, hj => by
    rw [goneK, setGone_at (by omega), if_neg (Nat.not_lt_zero _)]
    by_cases e : j = k.toNat
    · rw [if_pos e, if_pos (by omega)]
    · rw [if_neg e, if_neg (by omega)]
  | i + 1, hi, j, hj => by
    have ih := goneK_at hc hk i (by omega)
    have hil : i < l.length := by omega
    have hlen := goneK_len l k i
    have hsame := (goneK_same l k i i).1
    have hw := who_bounds (frErr_parts (check_at hc hil)).1
    have hwi : withinFr l (i : Int) k = (decide ((i : Int) = k) || withinFr l (l.getD i default).par k) := by
      have := within_in hc (k := (i : Int)) (top := k) (by omega)
      simpa using this
    -- what the round tests
    have htest : goneTest (goneK l k i) i = (decide (0 ≤ (l.getD i default).par) && ((l.getD (l.getD i default).par.toNat default).gone || withinFr l (l.getD i default).par k)) := by
      unfold goneTest
      rw [hsame]
      by_cases h0 : 0 ≤ (l.getD i default).par
      · rw [decide_eq_true h0, Bool.true_and, Bool.true_and, ih _ (by omega), if_pos (by omega)]
        have : (((l.getD i default).par.toNat : Nat) : Int) = (l.getD i default).par := by omega
        rw [this]
      · rw [decide_eq_false h0]; rfl
    have hstep : ((goneK l k (i + 1)).getD j default).gone = if j = i ∧ goneTest (goneK l k i) i = true then true else ((goneK l k i).getD j default).gone := by
      rw [goneK, goneStep]
      by_cases ht : goneTest (goneK l k i) i = true
      · rw [if_pos ht, setGone_at (by omega)]
        by_cases e : j = i
        · rw [if_pos e, if_pos ⟨e, ht⟩]
        · rw [if_neg e, if_neg (fun h => e h.1)]
      · rw [if_neg ht, if_neg (fun h => ht h.2)]
    rw [hstep, ih j hj]
    by_cases e : j = i
    · subst e
      rw [if_neg (Nat.lt_irrefl _), if_pos (Nat.lt_succ_self _), hwi]
      by_cases ejk : (j : Int) = k
      · rw [if_pos ejk, decide_eq_true ejk]; simp
      · rw [if_neg ejk, decide_eq_false ejk, htest]
        by_cases h0 : 0 ≤ (l.getD j default).par
        · rw [decide_eq_true h0, Bool.true_and, Bool.false_or]
          cases hg : (l.getD (l.getD j default).par.toNat default).gone with
          | true => rw [gone_up hc hil h0 hg]; simp
          | false => cases withinFr l (l.getD j default).par k <;> simp
        · rw [decide_eq_false h0, within_out (by omega)]; simp
    · rw [if_neg (fun h => e h.1)]
      by_cases e2 : j < i
      · rw [if_pos e2, if_pos (show j < i + 1 by omega)]
      · rw [if_neg e2, if_neg (show ¬ j < i + 1 by omega)]
theorem gone_eq {l : List Fr} (hc : checkFr l = 0) {k : Int} (hk : 0 ≤ k ∧ k < (l.length : Int)) : goneFr l k = discPre l k l.length := by
  refine ext_getD default (by rw [goneFr, goneK_len, discPre_len]) fun j hj => ?_
  rw [goneFr, goneK_len] at hj
  rw [discPre_at l k hj]
  have h1 := goneK_same l k j l.length
  refine fr_eq h1 ?_
  rw [goneFr, goneK_at hc hk l.length (Nat.le_refl _) j hj, if_pos hj]
  rfl
theorem goneFr_len (l : List Fr) (k : Int) : (goneFr l k).length = l.length := goneK_len l k _
theorem goneFr_at {l : List Fr} (hc : checkFr l = 0) {k : Int} (hk : 0 ≤ k ∧ k < (l.length : Int)) {j : Nat} (hj : j < l.length) : (goneFr l k).getD j default = dFr l k j := by
  rw [gone_eq hc hk, discPre_at l k hj]

/-! Attach, as the document says it. -/
def sumBits (m p : Int) (i : Nat) : Int := (([1, 2, 4] : List Int).take i).foldl (fun s b => if 0 < bits .and .i64 m b ∧ 0 < bits .and .i64 p b then s + b else s) 0
theorem sum7 : ∀ a b : Fin 8, sumBits (a.1 : Int) b.1 3 = bits .and .i64 (a.1 : Int) b.1 := by decide
theorem sum_and {a b : Int} (ha : 0 ≤ a ∧ a ≤ 7) (hb : 0 ≤ b ∧ b ≤ 7) : sumBits a b 3 = bits .and .i64 a b := by
  have := sum7 ⟨a.toNat, by omega⟩ ⟨b.toNat, by omega⟩
  simp only at this
  rwa [Int.toNat_of_nonneg ha.1, Int.toNat_of_nonneg hb.1] at this
theorem sum_s {m p : Int} {i : Nat} (hi : i < 3) : sumBits m p (i + 1) = if 0 < bits .and .i64 m (([1, 2, 4] : List Int).getD i 0) ∧ 0 < bits .and .i64 p (([1, 2, 4] : List Int).getD i 0) then sumBits m p i + ([1, 2, 4] : List Int).getD i 0 else sumBits m p i := by
  unfold sumBits
  rw [foldl_take_s _ _ 0 _ _ hi]
theorem nest7 : ∀ a : Fin 8, decide ((a.1 : Int) < 4) = decide (bits .and .i64 (a.1 : Int) 4 = 0) := by decide
theorem nest_and {a : Int} (ha : 0 ≤ a ∧ a ≤ 7) : (a < 4) ↔ (bits .and .i64 a 4 = 0) := by
  have := nest7 ⟨a.toNat, by omega⟩
  simp only at this
  rw [Int.toNat_of_nonneg ha.1] at this
  exact decide_eq_decide.1 this
theorem framed1 (l : List Fr) (a : Int) : framedFr l [a] = if checkFr l ≠ 0 then checkFr l else holdsFr l a := by
  unfold framedFr
  simp only [List.foldl_cons, List.foldl_nil]
  by_cases h : checkFr l = 0
  · rw [if_pos h, if_neg (not_not_intro h)]
  · rw [if_neg h, if_pos h]
theorem framed1_0 {l : List Fr} {a : Int} (h : framedFr l [a] = 0) : checkFr l = 0 ∧ holdsFr l a = 0 := by
  rw [framed1] at h
  by_cases hc : checkFr l = 0
  · rw [if_neg (not_not_intro hc)] at h; exact ⟨hc, h⟩
  · rw [if_pos hc] at h; exact absurd h hc
theorem attach_err {l : List Fr} {p org may : Int} (h : ¬ framedFr l [p] = 0) : attachFr l p org may = ([], framedFr l [p]) := by
  rw [framed1] at h ⊢
  by_cases hc : checkFr l = 0
  · rw [if_neg (not_not_intro hc)] at h ⊢; exact attach_2 hc h
  · rw [if_pos hc]; exact attach_1 hc
theorem disc_err {l : List Fr} {p : Int} (h : ¬ framedFr l [p] = 0) : discardFr l p = ([], framedFr l [p]) := by
  rw [framed1] at h ⊢
  by_cases hc : checkFr l = 0
  · rw [if_neg (not_not_intro hc)] at h ⊢; exact disc_2 hc h
  · rw [if_pos hc]; exact disc_1 hc
theorem len_err {l : List Fr} {p : Int} (h : ¬ framedFr l [p] = 0) : lenFr l p = (0, framedFr l [p]) := by
  rw [framed1] at h ⊢
  by_cases hc : checkFr l = 0
  · rw [if_neg (not_not_intro hc)] at h ⊢; exact len_2 hc h
  · rw [if_pos hc]; exact len_1 hc
theorem bad_ref {org may : Int} : attachBad org may = (!inI org 0 9 || !inI may 0 7) := by
  rw [Bool.eq_iff_iff]
  simp only [attachBad, inI, Bool.or_eq_true, decide_eq_true_eq, Bool.not_eq_true', Bool.and_eq_false_iff, decide_eq_false_iff_not]
  omega
theorem holds_k {l : List Fr} {j : Nat} (hj : j < l.length) : holdsFr l j = if (l.getD j default).gone = true then 5 else 0 := by
  unfold holdsFr
  rw [if_neg (by rw [Bool.or_eq_true, decide_eq_true_eq, decide_eq_true_eq]; omega)]
  rfl

/-! A frame that goes elsewhere. -/
def goSet (l : List Fr) (k o : Int) : List Fr := (l.set k.toNat { l.getD k.toNat default with org := o }).set k.toNat { (l.set k.toNat { l.getD k.toNat default with org := o }).getD k.toNat default with turn := ((l.set k.toNat { l.getD k.toNat default with org := o }).getD k.toNat default).turn + 1 }
def goK (l : List Fr) (k o : Int) : Nat → List Fr
  | 0 => goSet l k o
  | i + 1 => if (!decide ((i : Int) = k) && withinFr l i k) = true then setGone (goK l k o i) i else goK l k o i
theorem goSet_len (l : List Fr) (k o : Int) : (goSet l k o).length = l.length := by simp [goSet]
theorem goK_len (l : List Fr) (k o : Int) : ∀ i, (goK l k o i).length = l.length
  | 0 => goSet_len l k o
  | i + 1 => by
    unfold goK
    split
    · rw [setGone_len, goK_len l k o i]
    · exact goK_len l k o i
/-- A frame behind 'Go', as the document says it. -/
def nFr (l : List Fr) (k o : Int) (i : Nat) : Fr :=
  if (i : Int) = k then { l.getD i default with org := o, turn := (l.getD i default).turn + 1 } else if withinFr l i k = true then { l.getD i default with gone := true } else l.getD i default
def navPre (l : List Fr) (k o : Int) : Nat → List Fr
  | 0 => []
  | i + 1 => navPre l k o i ++ [nFr l k o i]
theorem navPre_len (l : List Fr) (k o : Int) : ∀ i, (navPre l k o i).length = i
  | 0 => rfl
  | i + 1 => by simp [navPre, navPre_len l k o i]
theorem navPre_at (l : List Fr) (k o : Int) : ∀ {i j : Nat}, j < i → (navPre l k o i).getD j default = nFr l k o j
  | i + 1, j, h => by
    rw [navPre, getD_app, navPre_len]
    by_cases e : j < i
    · rw [if_pos e, navPre_at l k o e]
    · have : j = i := by omega
      subst this
      rw [if_neg (Nat.lt_irrefl _), Nat.sub_self]; rfl
theorem goSet_at {l : List Fr} {k o : Int} (hk : 0 ≤ k ∧ k < (l.length : Int)) {j : Nat} : (goSet l k o).getD j default = if (j : Int) = k then { l.getD j default with org := o, turn := (l.getD j default).turn + 1 } else l.getD j default := by
  unfold goSet
  rw [set_getD (by simp; omega), set_getD (by omega), if_pos rfl]
  by_cases e : (j : Int) = k
  · have : j = k.toNat := by omega
    subst this
    rw [if_pos rfl, if_pos e]
  · rw [if_neg (by omega), if_neg e, set_getD (by omega), if_neg (by omega)]
theorem goK_at {l : List Fr} {k o : Int} (hk : 0 ≤ k ∧ k < (l.length : Int)) : ∀ i, i ≤ l.length → ∀ j, j < l.length → (goK l k o i).getD j default = if j < i then nFr l k o j else (goSet l k o).getD j default
  | 0, _, j, _ => by rw [goK, if_neg (Nat.not_lt_zero _)]
  | i + 1, hi, j, hj => by
    have ih := goK_at (o := o) hk i (by omega)
    have hlen := goK_len l k o i
    rw [goK]
    by_cases ht : (!decide ((i : Int) = k) && withinFr l i k) = true
    · rw [if_pos ht, setGone, set_getD (by omega)]
      simp only [Bool.and_eq_true, Bool.not_eq_true', decide_eq_false_iff_not] at ht
      by_cases e : j = i
      · subst e
        rw [if_pos rfl, if_pos (Nat.lt_succ_self _), ih j hj, if_neg (Nat.lt_irrefl _), goSet_at hk, if_neg ht.1, nFr, if_neg ht.1, if_pos ht.2]
      · rw [if_neg e, ih j hj]
        by_cases e2 : j < i
        · rw [if_pos e2, if_pos (by omega)]
        · rw [if_neg e2, if_neg (by omega)]
    · rw [if_neg ht, ih j hj]
      by_cases e : j = i
      · subst e
        rw [if_neg (Nat.lt_irrefl _), if_pos (Nat.lt_succ_self _), goSet_at hk, nFr]
        by_cases e3 : (j : Int) = k
        · rw [if_pos e3, if_pos e3]
        · rw [if_neg e3, if_neg e3]
          simp only [Bool.and_eq_true, Bool.not_eq_true', decide_eq_false_iff_not, not_and] at ht
          rw [if_neg (ht e3)]
      · by_cases e2 : j < i
        · rw [if_pos e2, if_pos (by omega)]
        · rw [if_neg e2, if_neg (by omega)]
theorem go_eq {l : List Fr} {k o : Int} (hk : 0 ≤ k ∧ k < (l.length : Int)) : goK l k o l.length = navPre l k o l.length := by
  refine ext_getD default (by rw [goK_len, navPre_len]) fun j hj => ?_
  rw [goK_len] at hj
  rw [navPre_at l k o hj, goK_at hk l.length (Nat.le_refl _) j hj, if_pos hj]
def navBad (o : Int) : Bool := decide (o < 0) || decide (9 < o)
def navFr (l : List Fr) (k o : Int) : List Fr × Int :=
  if checkFr l ≠ 0 then ([], checkFr l) else if holdsFr l k ≠ 0 then ([], holdsFr l k) else if navBad o = true then ([], 2) else if (l.getD k.toNat default).turn = 1000 then ([], 1) else (navPre l k o l.length, 0)
theorem nav_1 {l : List Fr} {k o : Int} (h : ¬ checkFr l = 0) : navFr l k o = ([], checkFr l) := by unfold navFr; rw [if_pos h]
theorem nav_2 {l : List Fr} {k o : Int} (hc : checkFr l = 0) (h : ¬ holdsFr l k = 0) : navFr l k o = ([], holdsFr l k) := by unfold navFr; rw [if_neg (not_not_intro hc), if_pos h]
theorem nav_3 {l : List Fr} {k o : Int} (hc : checkFr l = 0) (h : holdsFr l k = 0) (hb : navBad o = true) : navFr l k o = ([], 2) := by unfold navFr; rw [if_neg (not_not_intro hc), if_neg (not_not_intro h), if_pos hb]
theorem nav_4 {l : List Fr} {k o : Int} (hc : checkFr l = 0) (h : holdsFr l k = 0) (hb : navBad o = false) (ht : (l.getD k.toNat default).turn = 1000) : navFr l k o = ([], 1) := by
  unfold navFr; rw [if_neg (not_not_intro hc), if_neg (not_not_intro h), if_neg (ff hb), if_pos ht]
theorem nav_5 {l : List Fr} {k o : Int} (hc : checkFr l = 0) (h : holdsFr l k = 0) (hb : navBad o = false) (ht : ¬ (l.getD k.toNat default).turn = 1000) : navFr l k o = (navPre l k o l.length, 0) := by
  unfold navFr; rw [if_neg (not_not_intro hc), if_neg (not_not_intro h), if_neg (ff hb), if_neg ht]
theorem nav_err {l : List Fr} {p o : Int} (h : ¬ framedFr l [p] = 0) : navFr l p o = ([], framedFr l [p]) := by
  rw [framed1] at h ⊢
  by_cases hc : checkFr l = 0
  · rw [if_neg (not_not_intro hc)] at h ⊢; exact nav_2 hc h
  · rw [if_pos hc]; exact nav_1 hc
theorem navBad_ref {o : Int} : navBad o = !inI o 0 9 := by
  rw [Bool.eq_iff_iff]
  simp only [navBad, inI, Bool.or_eq_true, decide_eq_true_eq, Bool.not_eq_true', Bool.and_eq_false_iff, decide_eq_false_iff_not]
  omega
theorem turn_le {l : List Fr} (hc : checkFr l = 0) {k : Int} (h0 : 0 ≤ k) (h1 : k < l.length) : (l.getD k.toNat default).turn ≤ 1000 ∧ 0 ≤ (l.getD k.toNat default).turn := by
  have := range_bounds (frErr_parts (check_at hc (i := k.toNat) (by omega))).2.1
  omega
def stillFr (l : List Fr) (k t : Int) : Bool := decide (holdsFr l k = 0) && decide ((l.getD k.toNat default).turn = t)
end Go.Proofs.Ytghkpailmdlhgaa
namespace Go.Proofs.Ytghkpailmdlhgaa
open Go.RowKit Go.Eng
theorem sum7b : ∀ a b : Fin 8, ∀ i : Fin 4, 0 ≤ sumBits (a.1 : Int) b.1 i.1 ∧ sumBits (a.1 : Int) b.1 i.1 ≤ 7 := by decide
theorem sum_b {a b : Int} {i : Nat} (hi : i < 3) (ha : 0 ≤ a ∧ a ≤ 7) (hb : 0 ≤ b ∧ b ≤ 7) : i + 1 ≤ 3 ∧ 0 ≤ sumBits a b (i + 1) ∧ sumBits a b (i + 1) ≤ 7 := by
  have := sum7b ⟨a.toNat, by omega⟩ ⟨b.toNat, by omega⟩ ⟨i + 1, by omega⟩
  simp only at this
  rw [Int.toNat_of_nonneg ha.1, Int.toNat_of_nonneg hb.1] at this
  exact ⟨hi, this⟩
end Go.Proofs.Ytghkpailmdlhgaa
namespace Go.Proofs.Ytghkpailmdlhgaa
theorem lit3 (i : Nat) : 0 ≤ ([1, 2, 4] : List Int).getD i 0 ∧ ([1, 2, 4] : List Int).getD i 0 ≤ 4 := by
  match i with
  | 0 => decide
  | 1 => decide
  | 2 => decide
  | n + 3 => simp
end Go.Proofs.Ytghkpailmdlhgaa
namespace Go.Proofs.Ytghkpailmdlhgaa
theorem go_turn (l : List Fr) (o : Int) {k : Nat} (h : k < l.length) : ((([] ++ l).set k { ([] ++ l).getD k default with org := o }).getD k default).turn = (l.getD k default).turn := by
  rw [List.nil_append, set_getD h, if_pos rfl]
end Go.Proofs.Ytghkpailmdlhgaa
namespace Go.Proofs.Ytghkpailmdlhgaa
open Go.RowKit Go.Eng
theorem rgo_4 {l : List Fr} {k o : Int} (h : (decide (framedFr l [k] = 0) && !inI o 0 9) = false) :
    (¬ framedFr l [k] = 0 ∧ navFr l k o = ([], framedFr l [k])) ∨ (framedFr l [k] = 0 ∧ (checkFr l = 0 ∧ holdsFr l k = 0) ∧ navBad o = false) := by
  by_cases hf : framedFr l [k] = 0
  · rw [decide_eq_true hf, Bool.true_and, ← navBad_ref] at h
    exact .inr ⟨hf, framed1_0 hf, h⟩
  · exact .inl ⟨hf, nav_err hf⟩
theorem rgo_in {l : List Fr} {k o e0 : Int} (hM : (¬ e0 = 0 ∧ navFr l k o = ([], e0)) ∨ (e0 = 0 ∧ (checkFr l = 0 ∧ holdsFr l k = 0) ∧ navBad o = false)) (h : decide (e0 = 0) = true) : 0 ≤ k ∧ k < l.length ∧ (l.getD k.toNat default).turn ≤ 1000 := by
  have h0 := of_decide_eq_true h
  obtain ⟨_, hf, _⟩ := hM.resolve_left (fun q => q.1 h0)
  have := holds_in hf.2
  exact ⟨this.1, this.2.1, (turn_le hf.1 this.1 this.2.1).1⟩
theorem rgo_1 {l : List Fr} {k o e0 : Int} (hM : (¬ e0 = 0 ∧ navFr l k o = ([], e0)) ∨ (e0 = 0 ∧ (checkFr l = 0 ∧ holdsFr l k = 0) ∧ navBad o = false)) (h : (decide (e0 = 0) && decide (1000 ≤ (l.getD k.toNat default).turn)) = true) : navFr l k o = ([], 1) := by
  simp only [Bool.and_eq_true, decide_eq_true_eq] at h
  obtain ⟨_, hf, hb⟩ := hM.resolve_left (fun q => q.1 h.1)
  have hB := holds_in hf.2
  have := turn_le hf.1 hB.1 hB.2.1
  exact nav_4 hf.1 hf.2 hb (by omega)
theorem rgo_6 {l : List Fr} {k o e0 : Int} (hM : (¬ e0 = 0 ∧ navFr l k o = ([], e0)) ∨ (e0 = 0 ∧ (checkFr l = 0 ∧ holdsFr l k = 0) ∧ navBad o = false)) (h : (decide (e0 = 0) && decide (1000 ≤ (l.getD k.toNat default).turn)) = false) :
    (¬ e0 = 0 ∧ navFr l k o = ([], e0)) ∨ (e0 = 0 ∧ (checkFr l = 0 ∧ holdsFr l k = 0) ∧ navBad o = false ∧ ¬ (l.getD k.toNat default).turn = 1000) := by
  rcases hM with hM | ⟨h0, hf, hb⟩
  · exact .inl hM
  · rw [decide_eq_true h0, Bool.true_and, decide_eq_false_iff_not] at h
    exact .inr ⟨h0, hf, hb, by omega⟩
end Go.Proofs.Ytghkpailmdlhgaa
