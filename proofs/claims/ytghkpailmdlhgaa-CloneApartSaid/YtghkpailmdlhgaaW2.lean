import Derived.Test.YtghkpailmdlhgaaW1
import Derived.Test.YtghkpailmdlhgaaW0
set_option linter.unusedVariables false
set_option linter.unusedSimpArgs false
namespace Go.Proofs.Ytghkpailmdlhgaa
open Go.RowKit Go.Eng
/-- glasshouse/glasshouseref.in -/
theorem in_ct (x lo hi : Int) : Ct Try.prog 70 [iv (x), iv (lo), iv (hi)] (bv (inI x lo hi)) := by
  refine ct_of Try.func70 rfl (by show 3 ≤ 15; decide) fun E hN => ?_
  have hd : ∀ d, d < 15 → d < E.N := fun d h => Nat.lt_of_lt_of_eq h hN.symm
  refine c_seq ?_
  refine c_rq ?_
  refine tq_op (hd 6 (by decide)) (q_assign val_const) ?_
  refine tq_nil ?_
  refine c_seq ?_
  refine c_rq ?_
  refine tq_op (hd 7 (by decide)) (q_move (val_tmp rfl)) ?_
  refine tq_op (hd 8 (by decide)) (q_move (val_tmp rfl)) ?_
  refine tq_op (hd 9 (by decide)) (q_leq (val_tmp rfl) (val_tmp rfl)) ?_
  refine tq_op (hd 10 (by decide)) (q_move (val_tmp rfl)) ?_
  refine tq_opG (g_yes rfl rfl) (hd 11 (by decide)) (fun hg => q_move (val_tmp rfl)) ?_
  refine tq_opG (g_yes rfl rfl) (hd 12 (by decide)) (fun hg => q_move (val_tmp rfl)) ?_
  refine tq_opG (g_yes rfl rfl) (hd 13 (by decide)) (fun hg => q_leq (val_grd (val_tmp rfl) hg) (val_grd (val_tmp rfl) hg)) ?_
  refine tq_op (hd 14 (by decide)) (q_and (val_tmp rfl) (fun h => val_grd (val_tmp rfl) h)) ?_
  refine tq_op (hd 6 (by decide)) (q_assign (val_tmp rfl)) ?_
  refine tq_nil ?_
  refine c_ret ?_
  exact ret1 rfl (val_tmp rfl) rfl (by show bv ((decide (lo ≤ x)) && (decide (x ≤ hi))) = bv (inI x lo hi); rfl)

/-- glasshouse/glasshouseref.HoldsFrame -/
theorem rholds_ct (l : List Fr) (k : Int) : Ct Try.prog 42 [frRow l, iv (k)] (iv (holdsFr l k)) := by
  refine ct_of Try.func42 rfl (by show 2 ≤ 16; decide) fun E hN => ?_
  have hd : ∀ d, d < 16 → d < E.N := fun d h => Nat.lt_of_lt_of_eq h hN.symm
  refine row_len (val_tmp (s := 0) rfl) fun hl0 => ?_
  refine c_seq ?_
  refine c_rq ?_
  refine tq_op (hd 4 (by decide)) (q_assign val_const) ?_
  refine tq_nil ?_
  refine c_seq ?_
  refine c_seq ?_
  refine c_rq ?_
  refine tq_op (hd 5 (by decide)) (q_move (val_tmp rfl)) ?_
  refine tq_op (hd 6 (by decide)) (q_move (val_tmp rfl)) ?_
  refine tq_op (hd 7 (by decide)) (q_len (val_tmp rfl) ts27) ?_
  refine tq_op (hd 8 (by decide)) (q_sub (val_tmp rfl) val_const (by first | omega | (simp only [Bool.and_eq_true, Bool.or_eq_true, Bool.not_eq_true', Bool.not_eq_false', Bool.or_eq_false_iff, Bool.and_eq_false_iff, decide_eq_true_eq, decide_eq_false_iff_not] at *; omega))) ?_
  refine tq_call en70 (hd 9 (by decide)) (by exact ⟨⟨(val_tmp rfl), rfl⟩, ⟨val_const, rfl⟩, ⟨(val_tmp rfl), rfl⟩, trivial⟩) (in_ct k 0 (((l.length : Int)) - 1)) ?_
  refine tq_op (hd 10 (by decide)) (q_not (val_tmp rfl)) ?_
  refine tq_nil ?_
  refine c_cond (val_tmp rfl) (fun hc1 => ?_) (fun hc1 => ?_)
  · have hc1s := hc1
    try simp only [Bool.and_eq_true, Bool.or_eq_true, Bool.not_eq_true', Bool.not_eq_false', Bool.or_eq_false_iff, Bool.and_eq_false_iff, decide_eq_true_eq, decide_eq_false_iff_not] at hc1s
    rw [inI_f] at hc1s
    refine c_seq ?_
    refine c_rq ?_
    refine tq_op (hd 4 (by decide)) (q_assign val_const) ?_
    refine tq_nil ?_
    refine c_ret ?_
    exact ret1 rfl (val_tmp rfl) rfl (by show iv (4) = iv (holdsFr l k); rw [holds_4 hc1s])
  · have hc1s := hc1
    try simp only [Bool.and_eq_true, Bool.or_eq_true, Bool.not_eq_true', Bool.not_eq_false', Bool.or_eq_false_iff, Bool.and_eq_false_iff, decide_eq_true_eq, decide_eq_false_iff_not] at hc1s
    rw [inI_t] at hc1s
    refine c_skip ?_
    refine c_seq ?_
    refine c_seq ?_
    refine c_rq ?_
    refine tq_op (hd 11 (by decide)) (q_move (val_tmp rfl)) ?_
    refine tq_op (hd 12 (by decide)) (q_move (val_tmp rfl)) ?_
    refine tq_op (hd 13 (by decide)) (q_idx (val_tmp rfl) (val_tmp rfl) ts27 te27 (by first | omega | (simp only [Bool.and_eq_true, Bool.or_eq_true, Bool.not_eq_true', Bool.not_eq_false', Bool.or_eq_false_iff, Bool.and_eq_false_iff, decide_eq_true_eq, decide_eq_false_iff_not] at *; omega)) (by first | omega | (simp only [Bool.and_eq_true, Bool.or_eq_true, Bool.not_eq_true', Bool.not_eq_false', Bool.or_eq_false_iff, Bool.and_eq_false_iff, decide_eq_true_eq, decide_eq_false_iff_not] at *; omega))) ?_
    refine tq_op (hd 14 (by decide)) (q_fld _ _ (val_tmp rfl) Try.underlying47 rfl 0 (fun w => Try.sizeOf4 w)) ?_
    refine tq_op (hd 15 (by decide)) (q_ld (val_tmp rfl) Try.isAgg4 (by decide)) ?_
    refine tq_nil ?_
    refine c_cond (val_tmp rfl) (fun hc2 => ?_) (fun hc2 => ?_)
    · have hc2s := hc2
      try simp only [Bool.and_eq_true, Bool.or_eq_true, Bool.not_eq_true', Bool.not_eq_false', Bool.or_eq_false_iff, Bool.and_eq_false_iff, decide_eq_true_eq, decide_eq_false_iff_not] at hc2s
      refine c_seq ?_
      refine c_rq ?_
      refine tq_op (hd 4 (by decide)) (q_assign val_const) ?_
      refine tq_nil ?_
      refine c_ret ?_
      exact ret1 rfl (val_tmp rfl) rfl (by show iv (5) = iv (holdsFr l k); rw [holds_5 hc1s hc2])
    · have hc2s := hc2
      try simp only [Bool.and_eq_true, Bool.or_eq_true, Bool.not_eq_true', Bool.not_eq_false', Bool.or_eq_false_iff, Bool.and_eq_false_iff, decide_eq_true_eq, decide_eq_false_iff_not] at hc2s
      refine c_skip ?_
      refine c_seq ?_
      refine c_rq ?_
      refine tq_op (hd 4 (by decide)) (q_assign val_const) ?_
      refine tq_nil ?_
      refine c_ret ?_
      exact ret1 rfl (val_tmp rfl) rfl (by show iv (0) = iv (holdsFr l k); rw [holds_0 hc1s hc2])

/-- glasshouse/guard.asks$1 -/
theorem ask90_ct (l : List Fr) (a b : Int) (ha : 0 ≤ a ∧ a < (l.length : Int)) (hb : 0 ≤ b ∧ b < (l.length : Int)) : Ct Try.prog 90 [frRow l, iv (a), iv (b)] (bv (decide ((l.getD a.toNat default).org = (l.getD b.toNat default).org))) := by
  refine ct_of Try.func90 rfl (by show 3 ≤ 18; decide) fun E hN => ?_
  have hd : ∀ d, d < 18 → d < E.N := fun d h => Nat.lt_of_lt_of_eq h hN.symm
  refine row_len (val_tmp (s := 0) rfl) fun hl0 => ?_
  refine c_seq ?_
  refine c_rq ?_
  refine tq_op (hd 6 (by decide)) (q_assign val_const) ?_
  refine tq_nil ?_
  refine c_seq ?_
  refine c_rqd (by kernel_rfl) (by kernel_rfl) ?_
  refine tq_op (hd 7 (by decide)) (q_move (val_tmp rfl)) ?_
  refine tq_op (hd 8 (by decide)) (q_move (val_tmp rfl)) ?_
  refine tq_op (hd 9 (by decide)) (q_idx (val_tmp rfl) (val_tmp rfl) ts27 te27 (by first | omega | (simp only [Bool.and_eq_true, Bool.or_eq_true, Bool.not_eq_true', Bool.not_eq_false', Bool.or_eq_false_iff, Bool.and_eq_false_iff, decide_eq_true_eq, decide_eq_false_iff_not] at *; omega)) (by first | omega | (simp only [Bool.and_eq_true, Bool.or_eq_true, Bool.not_eq_true', Bool.not_eq_false', Bool.or_eq_false_iff, Bool.and_eq_false_iff, decide_eq_true_eq, decide_eq_false_iff_not] at *; omega))) ?_
  refine tq_op (hd 10 (by decide)) (q_fld _ _ (val_tmp rfl) Try.underlying47 rfl 0 (fun w => Try.sizeOf3 w)) ?_
  refine tq_op (hd 11 (by decide)) (q_ld (val_tmp rfl) Try.isAgg3 (by decide)) ?_
  refine tq_op (hd 12 (by decide)) (q_move (val_tmp rfl)) ?_
  refine tq_op (hd 13 (by decide)) (q_move (val_tmp rfl)) ?_
  refine tq_op (hd 14 (by decide)) (q_idx (val_tmp rfl) (val_tmp rfl) ts27 te27 (by first | omega | (simp only [Bool.and_eq_true, Bool.or_eq_true, Bool.not_eq_true', Bool.not_eq_false', Bool.or_eq_false_iff, Bool.and_eq_false_iff, decide_eq_true_eq, decide_eq_false_iff_not] at *; omega)) (by first | omega | (simp only [Bool.and_eq_true, Bool.or_eq_true, Bool.not_eq_true', Bool.not_eq_false', Bool.or_eq_false_iff, Bool.and_eq_false_iff, decide_eq_true_eq, decide_eq_false_iff_not] at *; omega))) ?_
  refine tq_op (hd 15 (by decide)) (q_fld _ _ (val_tmp rfl) Try.underlying47 rfl 0 (fun w => Try.sizeOf3 w)) ?_
  refine tq_op (hd 16 (by decide)) (q_ld (val_tmp rfl) Try.isAgg3 (by decide)) ?_
  refine tq_op (hd 17 (by decide)) (q_eql (val_tmp rfl) (val_tmp rfl)) ?_
  refine tq_op (hd 6 (by decide)) (q_assign (val_tmp rfl)) ?_
  refine tq_nil ?_
  refine c_ret ?_
  exact ret1 rfl (val_tmp rfl) rfl (by show bv (decide ((l.getD (Int.toNat a) default).org = (l.getD (Int.toNat b) default).org)) = bv (decide ((l.getD a.toNat default).org = (l.getD b.toNat default).org)); rfl)

/-- glasshouse/guard.asks$2 -/
theorem ask91_ct (l : List Fr) (a b : Int) (ha : 0 ≤ a ∧ a < (l.length : Int)) (hb : 0 ≤ b ∧ b < (l.length : Int)) : Ct Try.prog 91 [frRow l, iv (a), iv (b)] (bv (true)) := by
  refine ct_of Try.func91 rfl (by show 3 ≤ 7; decide) fun E hN => ?_
  have hd : ∀ d, d < 7 → d < E.N := fun d h => Nat.lt_of_lt_of_eq h hN.symm
  refine row_len (val_tmp (s := 0) rfl) fun hl0 => ?_
  refine c_seq ?_
  refine c_rq ?_
  refine tq_op (hd 6 (by decide)) (q_assign val_const) ?_
  refine tq_nil ?_
  refine c_seq ?_
  refine c_rq ?_
  refine tq_op (hd 6 (by decide)) (q_assign val_const) ?_
  refine tq_nil ?_
  refine c_ret ?_
  exact ret1 rfl (val_tmp rfl) rfl (by show bv (true) = bv (true); rfl)

/-- glasshouse/guard.asks$3 -/
theorem ask92_ct (l : List Fr) (a b : Int) (ha : 0 ≤ a ∧ a < (l.length : Int)) (hb : 0 ≤ b ∧ b < (l.length : Int)) : Ct Try.prog 92 [frRow l, iv (a), iv (b)] (bv (!decide (bits .and .i64 (l.getD a.toNat default).may 2 = 0))) := by
  refine ct_of Try.func92 rfl (by show 3 ≤ 14; decide) fun E hN => ?_
  have hd : ∀ d, d < 14 → d < E.N := fun d h => Nat.lt_of_lt_of_eq h hN.symm
  refine row_len (val_tmp (s := 0) rfl) fun hl0 => ?_
  refine c_seq ?_
  refine c_rq ?_
  refine tq_op (hd 6 (by decide)) (q_assign val_const) ?_
  refine tq_nil ?_
  refine c_seq ?_
  refine c_rq ?_
  refine tq_op (hd 7 (by decide)) (q_move (val_tmp rfl)) ?_
  refine tq_op (hd 8 (by decide)) (q_move (val_tmp rfl)) ?_
  refine tq_op (hd 9 (by decide)) (q_idx (val_tmp rfl) (val_tmp rfl) ts27 te27 (by first | omega | (simp only [Bool.and_eq_true, Bool.or_eq_true, Bool.not_eq_true', Bool.not_eq_false', Bool.or_eq_false_iff, Bool.and_eq_false_iff, decide_eq_true_eq, decide_eq_false_iff_not] at *; omega)) (by first | omega | (simp only [Bool.and_eq_true, Bool.or_eq_true, Bool.not_eq_true', Bool.not_eq_false', Bool.or_eq_false_iff, Bool.and_eq_false_iff, decide_eq_true_eq, decide_eq_false_iff_not] at *; omega))) ?_
  refine tq_op (hd 10 (by decide)) (q_fld _ _ (val_tmp rfl) Try.underlying47 rfl 0 (fun w => Try.sizeOf3 w)) ?_
  refine tq_op (hd 11 (by decide)) (q_ld (val_tmp rfl) Try.isAgg3 (by decide)) ?_
  refine tq_op (hd 12 (by decide)) (q_and64 (val_tmp rfl) val_const) ?_
  refine tq_op (hd 13 (by decide)) (q_neq (val_tmp rfl) val_const) ?_
  refine tq_op (hd 6 (by decide)) (q_assign (val_tmp rfl)) ?_
  refine tq_nil ?_
  refine c_ret ?_
  exact ret1 rfl (val_tmp rfl) rfl (by show bv (!decide (bits .and .i64 ((l.getD (Int.toNat a) default).may) 2 = 0)) = bv (!decide (bits .and .i64 (l.getD a.toNat default).may 2 = 0)); rfl)

/-- glasshouse/guard.beneath -/
theorem ask93_ct (l : List Fr) (a b : Int) (ha : 0 ≤ a ∧ a < (l.length : Int)) (hb : 0 ≤ b ∧ b < (l.length : Int)) : Ct Try.prog 93 [frRow l, iv (a), iv (b)] (bv (!decide (a = b) && withinFr l b a)) := by
  refine ct_of Try.func93 rfl (by show 3 ≤ 16; decide) fun E hN => ?_
  have hd : ∀ d, d < 16 → d < E.N := fun d h => Nat.lt_of_lt_of_eq h hN.symm
  refine row_len (val_tmp (s := 0) rfl) fun hl0 => ?_
  refine c_seq ?_
  refine c_rq ?_
  refine tq_op (hd 6 (by decide)) (q_assign val_const) ?_
  refine tq_nil ?_
  refine c_seq ?_
  refine c_rq ?_
  refine tq_op (hd 7 (by decide)) (q_move (val_tmp rfl)) ?_
  refine tq_op (hd 8 (by decide)) (q_move (val_tmp rfl)) ?_
  refine tq_op (hd 9 (by decide)) (q_neq (val_tmp rfl) (val_tmp rfl)) ?_
  refine tq_op (hd 10 (by decide)) (q_move (val_tmp rfl)) ?_
  refine tq_opG (g_yes rfl rfl) (hd 11 (by decide)) (fun hg => q_move (val_tmp rfl)) ?_
  refine tq_opG (g_yes rfl rfl) (hd 12 (by decide)) (fun hg => q_move (val_tmp rfl)) ?_
  refine tq_opG (g_yes rfl rfl) (hd 13 (by decide)) (fun hg => q_move (val_tmp rfl)) ?_
  refine tq_callG (g_yes rfl rfl) en23 (hd 14 (by decide)) (fun hg => (by exact ⟨⟨(val_grd (val_tmp rfl) hg), rfl⟩, ⟨(val_grd (val_tmp rfl) hg), rfl⟩, ⟨(val_grd (val_tmp rfl) hg), rfl⟩, trivial⟩)) (fun hg => within_ct l b a) ?_
  refine tq_op (hd 15 (by decide)) (q_and (val_tmp rfl) (fun h => val_grd (val_tmp rfl) h)) ?_
  refine tq_op (hd 6 (by decide)) (q_assign (val_tmp rfl)) ?_
  refine tq_nil ?_
  refine c_ret ?_
  exact ret1 rfl (val_tmp rfl) rfl (by show bv ((!decide (a = b)) && (withinFr l b a)) = bv (!decide (a = b) && withinFr l b a); rfl)


theorem ask_ct {l : List Fr} {a b what : Int} (h : (mget askKv what).isSome = true) (ha : 0 ≤ a ∧ a < (l.length : Int)) (hb : 0 ≤ b ∧ b < (l.length : Int)) :
    ∃ f, (mget askKv what).getD .nilFunc = .func (.func f) #[] #[] ∧ Enters Try.prog f ∧ Ct Try.prog f [frRow l, iv a, iv b] (bv (askB l a b what)) := by
  have h2 := ask_some h
  have : what = 1 ∨ what = 2 ∨ what = 3 ∨ what = 4 ∨ what = 5 := by omega
  rcases this with rfl | rfl | rfl | rfl | rfl
  · exact ⟨90, rfl, en90, ask90_ct l a b ha hb⟩
  · exact ⟨91, rfl, en91, ask91_ct l a b ha hb⟩
  · exact ⟨92, rfl, en92, ask92_ct l a b ha hb⟩
  · exact ⟨93, rfl, en93, ask93_ct l a b ha hb⟩
  · exact ⟨93, rfl, en93, ask93_ct l a b ha hb⟩

/-- glasshouse/guard.asks -/
theorem asks_ct  : Ct Try.prog 86 [] (mapSV askKv) := by
  refine ct_of Try.func86 rfl (by show 0 ≤ 3; decide) fun E hN => ?_
  have hd : ∀ d, d < 3 → d < E.N := fun d h => Nat.lt_of_lt_of_eq h hN.symm
  refine c_seq ?_
  refine c_rq ?_
  refine tq_op (hd 0 (by decide)) (q_assign val_const) ?_
  refine tq_nil ?_
  refine c_seq ?_
  refine c_rt ?_
  refine t_makeMap 1 (hd 1 (by decide)) rfl ?_
  refine t_mapPut (.inl rfl) Try.underlying97 Try.underlying3 (val_tmp rfl) rfl val_const (val_fnV val_func) ?_
  refine t_mapPut (.inl rfl) Try.underlying97 Try.underlying3 (val_tmp rfl) rfl val_const (val_fnV val_func) ?_
  refine t_mapPut (.inl rfl) Try.underlying97 Try.underlying3 (val_tmp rfl) rfl val_const (val_fnV val_func) ?_
  refine t_mapPut (.inl rfl) Try.underlying97 Try.underlying3 (val_tmp rfl) rfl val_const (val_fnV val_func) ?_
  refine t_mapPut (.inl rfl) Try.underlying97 Try.underlying3 (val_tmp rfl) rfl val_const (val_fnV val_func) ?_
  refine t_op (hd 2 (by decide)) (q_move (val_tmp rfl)) ?_
  refine t_op (hd 0 (by decide)) (q_assign (val_tmp rfl)) ?_
  refine t_nil ?_
  refine c_frzM 1 rfl ?_
  refine c_ret ?_
  exact ret1 rfl (val_tmp rfl) rfl (by show mapSV (mput (mput (mput (mput (mput ([]) 1 (Value.func (.func 90) #[] #[])) 2 (Value.func (.func 91) #[] #[])) 3 (Value.func (.func 92) #[] #[])) 4 (Value.func (.func 93) #[] #[])) 5 (Value.func (.func 93) #[] #[])) = mapSV askKv; rfl)

/-- glasshouse/guard.may -/
theorem may_ct (l : List Fr) (a b what : Int) : Ct Try.prog 64 [frRow l, iv (a), iv (b), iv (what)] (iv (mayFr l a b what)) := by
  refine ct_of Try.func64 rfl (by show 4 ≤ 41; decide) fun E hN => ?_
  have hd : ∀ d, d < 41 → d < E.N := fun d h => Nat.lt_of_lt_of_eq h hN.symm
  refine row_len (val_tmp (s := 0) rfl) fun hl0 => ?_
  refine c_seq ?_
  refine c_rq ?_
  refine tq_op (hd 8 (by decide)) (q_assign val_const) ?_
  refine tq_nil ?_
  refine c_seq ?_
  refine c_seq ?_
  refine c_rq ?_
  refine tq_op (hd 14 (by decide)) (q_move (val_tmp rfl)) ?_
  refine tq_op (hd 15 (by decide)) (q_move (val_tmp rfl)) ?_
  refine tq_op (hd 16 (by decide)) (q_build [(0, iv (a)), (1, iv (b))] id (arrG [a, b]) zero64 build64 (by exact ⟨⟨rfl, (val_tmp rfl), rfl⟩, ⟨rfl, (val_tmp rfl), rfl⟩, trivial⟩) (by decide) ⟨⟨trivial, rfl⟩, rfl⟩) ?_
  refine tq_op (hd 17 (by decide)) (q_move val_const) ?_
  refine tq_nil ?_
  refine c_block ?_
  refine c_loop (fun (i : Nat) => (⟨[(0, frRow l), (1, iv (a)), (2, iv (b)), (3, iv (what)), (16, SV.agg 2 (arrG [a, b])), (17, iv ((i : Int)))], []⟩ : St)) (fun (i : Nat) => i ≤ 2 ∧ ∀ j, j < i → holdsFr l (([a, b] : List Int).getD j 0) = 0) (fun (i : Nat) => 2 - i) 0 ?_ ?_ ?_
  · show 0 ≤ 2 ∧ ∀ j, j < 0 → holdsFr l (([a, b] : List Int).getD j 0) = 0
    exact ⟨Nat.zero_le _, fun j hj => absurd hj (Nat.not_lt_zero _)⟩
  · refine weakE (sl := [(0, frRow l), (1, iv (a)), (2, iv (b)), (3, iv (what)), (16, SV.agg 2 (arrG [a, b])), (17, iv ((0 : Int)))]) (ow := []) ?_ ?_
    · exact ⟨val_tmp rfl, val_tmp rfl, val_tmp rfl, val_tmp rfl, val_agg (val_tmp rfl) ⟨⟨trivial, rfl⟩, rfl⟩, val_tmp rfl, trivial⟩
    · exact trivial
  · rintro i hI1
    have hJ1 : i ≤ 2 ∧ ∀ j, j < i → holdsFr l (([a, b] : List Int).getD j 0) = 0 := hI1
    have hi2 := hJ1.1
    have hall := hJ1.2
    refine c_seq ?_
    refine c_rq ?_
    refine tq_op (hd 18 (by decide)) (q_lss (val_tmp rfl) val_const) ?_
    refine tq_nil ?_
    refine c_seq ?_
    refine c_cond (val_tmp rfl) (fun hc1 => ?_) (fun hc1 => ?_)
    · have hc1s := hc1
      try simp only [Bool.and_eq_true, Bool.or_eq_true, Bool.not_eq_true', Bool.not_eq_false', Bool.or_eq_false_iff, Bool.and_eq_false_iff, decide_eq_true_eq, decide_eq_false_iff_not] at hc1s
      refine c_skip ?_
      refine c_seq ?_
      refine c_block ?_
      refine c_seq ?_
      refine c_rq ?_
      refine tq_op (hd 19 (by decide)) (q_ixA (i := i) (val_tmp rfl) (val_tmp rfl) 3 Try.underlying64 (fun w => Try.sizeOf3 w) (fun w => Try.isAgg3 w) (by clear hJ1 hall hI1; omega) rfl) ?_
      refine tq_op (hd 10 (by decide)) (q_assign (val_tmp rfl)) ?_
      refine tq_nil ?_
      refine c_seq ?_
      refine c_rq ?_
      refine tq_op (hd 20 (by decide)) (q_move (val_tmp rfl)) ?_
      refine tq_op (hd 21 (by decide)) (q_move (val_tmp rfl)) ?_
      refine tq_call en22 (hd 22 (by decide)) (by exact ⟨⟨(val_tmp rfl), rfl⟩, ⟨(val_tmp rfl), rfl⟩, trivial⟩) (holds_ct l ([a, b].getD i 0)) ?_
      refine tq_op (hd 11 (by decide)) (q_assign (val_tmp rfl)) ?_
      refine tq_nil ?_
      refine c_seq ?_
      refine c_rq ?_
      refine tq_op (hd 23 (by decide)) (q_move (val_tmp rfl)) ?_
      refine tq_op (hd 24 (by decide)) (q_neq (val_tmp rfl) val_const) ?_
      refine tq_nil ?_
      refine c_cond (val_tmp rfl) (fun hc2 => ?_) (fun hc2 => ?_)
      · have hc2s := hc2
        try simp only [Bool.and_eq_true, Bool.or_eq_true, Bool.not_eq_true', Bool.not_eq_false', Bool.or_eq_false_iff, Bool.and_eq_false_iff, decide_eq_true_eq, decide_eq_false_iff_not] at hc2s
        refine c_seq ?_
        refine c_rq ?_
        refine tq_op (hd 25 (by decide)) (q_move (val_tmp rfl)) ?_
        refine tq_op (hd 8 (by decide)) (q_assign (val_tmp rfl)) ?_
        refine tq_nil ?_
        refine c_ret ?_
        exact ret1 rfl (val_tmp rfl) rfl (by show iv (holdsFr l ([a, b].getD i 0)) = iv (mayFr l a b what); rw [may_first (by clear hJ1 hall hI1; omega) hall hc2s])
      · have hc2s := hc2
        try simp only [Bool.and_eq_true, Bool.or_eq_true, Bool.not_eq_true', Bool.not_eq_false', Bool.or_eq_false_iff, Bool.and_eq_false_iff, decide_eq_true_eq, decide_eq_false_iff_not] at hc2s
        refine c_skip ?_
        refine c_rq ?_
        refine tq_op (hd 26 (by decide)) (q_add (val_tmp rfl) val_const (by first | omega | (simp only [Bool.and_eq_true, Bool.or_eq_true, Bool.not_eq_true', Bool.not_eq_false', Bool.or_eq_false_iff, Bool.and_eq_false_iff, decide_eq_true_eq, decide_eq_false_iff_not] at *; omega))) ?_
        refine tq_op (hd 17 (by decide)) (q_move (val_tmp rfl)) ?_
        refine tq_nil ?_
        refine c_next (i + 1) ?_ ?_ ?_
        · show (i + 1) ≤ 2 ∧ ∀ j, j < (i + 1) → holdsFr l (([a, b] : List Int).getD j 0) = 0
          exact ⟨by clear hJ1 hall hI1; omega, fun j hj => by
            by_cases e : j < i
            · exact hall j e
            · have : j = i := by clear hJ1 hall hI1; omega
              subst this; exact hc2s⟩
        · show 2 - (i + 1) < 2 - i
          clear hJ1 hall hI1; omega
        · refine weakE (sl := [(0, frRow l), (1, iv (a)), (2, iv (b)), (3, iv (what)), (16, SV.agg 2 (arrG [a, b])), (17, iv (((i + 1) : Int)))]) (ow := []) ?_ ?_
          · exact ⟨val_tmp rfl, val_tmp rfl, val_tmp rfl, val_tmp rfl, val_agg (val_tmp rfl) ⟨⟨trivial, rfl⟩, rfl⟩, val_tmp rfl, trivial⟩
          · exact trivial
    · have hc1s := hc1
      try simp only [Bool.and_eq_true, Bool.or_eq_true, Bool.not_eq_true', Bool.not_eq_false', Bool.or_eq_false_iff, Bool.and_eq_false_iff, decide_eq_true_eq, decide_eq_false_iff_not] at hc1s
      have hbo := may_both (by clear hJ1 hall hI1; omega) hall
      have hA := holds_in hbo.1
      have hB := holds_in hbo.2
      refine c_exit ?_
      refine c_seq ?_
      refine c_rt ?_
      refine t_call en86 (hd 28 (by decide)) (by exact trivial) (asks_ct) ?_
      refine t_op (hd 29 (by decide)) (q_move (val_tmp rfl)) ?_
      refine t_op (hd 30 (by decide)) (q_lookup2R Try.underlying97 Try.underlying3 (fun w => Try.zeroValue32 w) (val_tmp rfl) (val_tmp rfl)) ?_
      refine t_op (hd 27 (by decide)) (q_move (val_tmp rfl)) ?_
      refine t_op (hd 31 (by decide)) (q_ext (val_tmp rfl) (by decide)) ?_
      refine t_op (hd 32 (by decide)) (q_ext (val_tmp rfl) (by decide)) ?_
      refine t_op (hd 12 (by decide)) (q_assign (val_tmp rfl)) ?_
      refine t_op (hd 13 (by decide)) (q_assign (val_tmp rfl)) ?_
      refine t_nil ?_
      refine c_seq ?_
      refine c_seq ?_
      refine c_rq ?_
      refine tq_op (hd 33 (by decide)) (q_move (val_tmp rfl)) ?_
      refine tq_op (hd 34 (by decide)) (q_not (val_tmp rfl)) ?_
      refine tq_nil ?_
      refine c_cond (val_tmp rfl) (fun hc3 => ?_) (fun hc3 => ?_)
      · have hc3s := hc3
        try simp only [Bool.and_eq_true, Bool.or_eq_true, Bool.not_eq_true', Bool.not_eq_false', Bool.or_eq_false_iff, Bool.and_eq_false_iff, decide_eq_true_eq, decide_eq_false_iff_not] at hc3s
        refine c_seq ?_
        refine c_rq ?_
        refine tq_op (hd 8 (by decide)) (q_assign val_const) ?_
        refine tq_nil ?_
        refine c_ret ?_
        exact ret1 rfl (val_tmp rfl) rfl (by show iv (3) = iv (mayFr l a b what); rw [may_3 hbo hc3s])
      · have hc3s := hc3
        try simp only [Bool.and_eq_true, Bool.or_eq_true, Bool.not_eq_true', Bool.not_eq_false', Bool.or_eq_false_iff, Bool.and_eq_false_iff, decide_eq_true_eq, decide_eq_false_iff_not] at hc3s
        refine c_skip ?_
        refine c_seq ?_
        refine c_seq ?_
        refine c_rq ?_
        refine tq_op (hd 35 (by decide)) (q_move (val_tmp rfl)) ?_
        refine tq_op (hd 36 (by decide)) (q_move (val_tmp rfl)) ?_
        refine tq_op (hd 37 (by decide)) (q_move (val_tmp rfl)) ?_
        refine tq_op (hd 38 (by decide)) (q_move (val_tmp rfl)) ?_
        obtain ⟨f, hF, hE, hC⟩ := ask_ct (l := l) (a := a) (b := b) hc3s ⟨hA.1, hA.2.1⟩ ⟨hB.1, hB.2.1⟩
        refine tq_callV (args := [frRow l, iv (a), iv (b)]) (caps := []) (fnval_V (val_tmp rfl) hF) rfl hE (hd 39 (by decide)) (by exact ⟨⟨(val_tmp rfl), rfl⟩, ⟨(val_tmp rfl), rfl⟩, ⟨(val_tmp rfl), rfl⟩, trivial⟩) (hC) ?_
        refine tq_op (hd 40 (by decide)) (q_not (val_tmp rfl)) ?_
        refine tq_nil ?_
        refine c_cond (val_tmp rfl) (fun hc4 => ?_) (fun hc4 => ?_)
        · have hc4s := hc4
          try simp only [Bool.and_eq_true, Bool.or_eq_true, Bool.not_eq_true', Bool.not_eq_false', Bool.or_eq_false_iff, Bool.and_eq_false_iff, decide_eq_true_eq, decide_eq_false_iff_not] at hc4s
          refine c_seq ?_
          refine c_rq ?_
          refine tq_op (hd 8 (by decide)) (q_assign val_const) ?_
          refine tq_nil ?_
          refine c_ret ?_
          exact ret1 rfl (val_tmp rfl) rfl (by show iv (7) = iv (mayFr l a b what); rw [may_7 hbo hc3s hc4s])
        · have hc4s := hc4
          try simp only [Bool.and_eq_true, Bool.or_eq_true, Bool.not_eq_true', Bool.not_eq_false', Bool.or_eq_false_iff, Bool.and_eq_false_iff, decide_eq_true_eq, decide_eq_false_iff_not] at hc4s
          refine c_skip ?_
          refine c_seq ?_
          refine c_rq ?_
          refine tq_op (hd 8 (by decide)) (q_assign val_const) ?_
          refine tq_nil ?_
          refine c_ret ?_
          exact ret1 rfl (val_tmp rfl) rfl (by show iv (0) = iv (mayFr l a b what); rw [may_0 hbo hc3s hc4s])

/-- glasshouse/guard.May -/
theorem May_ct (l : List Fr) (a b what : Int) : Ct Try.prog 19 [frRow l, iv (a), iv (b), iv (what)] (iv (MayFr l a b what)) := by
  refine ct_of Try.func19 rfl (by show 4 ≤ 20; decide) fun E hN => ?_
  have hd : ∀ d, d < 20 → d < E.N := fun d h => Nat.lt_of_lt_of_eq h hN.symm
  refine row_len (val_tmp (s := 0) rfl) fun hl0 => ?_
  refine c_seq ?_
  refine c_rq ?_
  refine tq_op (hd 8 (by decide)) (q_assign val_const) ?_
  refine tq_nil ?_
  refine c_seq ?_
  refine c_seq ?_
  refine c_rq ?_
  refine tq_op (hd 10 (by decide)) (q_move (val_tmp rfl)) ?_
  refine tq_call en21 (hd 11 (by decide)) (by exact ⟨⟨(val_tmp rfl), rfl⟩, trivial⟩) (check_ct l) ?_
  refine tq_op (hd 9 (by decide)) (q_assign (val_tmp rfl)) ?_
  refine tq_nil ?_
  refine c_seq ?_
  refine c_rq ?_
  refine tq_op (hd 12 (by decide)) (q_move (val_tmp rfl)) ?_
  refine tq_op (hd 13 (by decide)) (q_neq (val_tmp rfl) val_const) ?_
  refine tq_nil ?_
  refine c_cond (val_tmp rfl) (fun hc1 => ?_) (fun hc1 => ?_)
  · have hc1s := hc1
    try simp only [Bool.and_eq_true, Bool.or_eq_true, Bool.not_eq_true', Bool.not_eq_false', Bool.or_eq_false_iff, Bool.and_eq_false_iff, decide_eq_true_eq, decide_eq_false_iff_not] at hc1s
    refine c_seq ?_
    refine c_rq ?_
    refine tq_op (hd 14 (by decide)) (q_move (val_tmp rfl)) ?_
    refine tq_op (hd 8 (by decide)) (q_assign (val_tmp rfl)) ?_
    refine tq_nil ?_
    refine c_ret ?_
    exact ret1 rfl (val_tmp rfl) rfl (by show iv (checkFr l) = iv (MayFr l a b what); rw [MayFr, if_pos hc1s])
  · have hc1s := hc1
    try simp only [Bool.and_eq_true, Bool.or_eq_true, Bool.not_eq_true', Bool.not_eq_false', Bool.or_eq_false_iff, Bool.and_eq_false_iff, decide_eq_true_eq, decide_eq_false_iff_not] at hc1s
    refine c_skip ?_
    refine c_seq ?_
    refine c_rq ?_
    refine tq_op (hd 15 (by decide)) (q_move (val_tmp rfl)) ?_
    refine tq_op (hd 16 (by decide)) (q_move (val_tmp rfl)) ?_
    refine tq_op (hd 17 (by decide)) (q_move (val_tmp rfl)) ?_
    refine tq_op (hd 18 (by decide)) (q_move (val_tmp rfl)) ?_
    refine tq_call en64 (hd 19 (by decide)) (by exact ⟨⟨(val_tmp rfl), rfl⟩, ⟨(val_tmp rfl), rfl⟩, ⟨(val_tmp rfl), rfl⟩, ⟨(val_tmp rfl), rfl⟩, trivial⟩) (may_ct l a b what) ?_
    refine tq_op (hd 8 (by decide)) (q_assign (val_tmp rfl)) ?_
    refine tq_nil ?_
    refine c_ret ?_
    exact ret1 rfl (val_tmp rfl) rfl (by show iv (mayFr l a b what) = iv (MayFr l a b what); rw [MayFr, if_neg (not_not_intro hc1s)])

/-- glasshouse/glasshouselaw.guarded -/
theorem guarded_ct  : Ct Try.prog 18 [] (bv true) := by
  refine ct_of Try.func18 rfl (by show 0 ≤ 18; decide) fun E hN => ?_
  have hd : ∀ d, d < 18 → d < E.N := fun d h => Nat.lt_of_lt_of_eq h hN.symm
  refine c_seq ?_
  refine c_rq ?_
  refine tq_op (hd 0 (by decide)) (q_assign val_const) ?_
  refine tq_nil ?_
  refine c_seq ?_
  refine c_rt ?_
  refine t_op (hd 2 (by decide)) (q_build [(0, iv ((-1))), (2, iv (7))] id (frCell ⟨(-1), 0, 7, 0, false⟩) zero47 build47 (by exact ⟨⟨rfl, val_const, rfl⟩, ⟨rfl, val_const, rfl⟩, trivial⟩) (by decide) ⟨⟨⟨⟨⟨trivial, rfl⟩, rfl⟩, rfl⟩, rfl⟩, rfl⟩) ?_
  refine t_op (hd 3 (by decide)) (q_build [(0, iv (0)), (1, iv (1)), (2, iv (1))] id (frCell ⟨0, 1, 1, 0, false⟩) zero47 build47 (by exact ⟨⟨rfl, val_const, rfl⟩, ⟨rfl, val_const, rfl⟩, ⟨rfl, val_const, rfl⟩, trivial⟩) (by decide) ⟨⟨⟨⟨⟨trivial, rfl⟩, rfl⟩, rfl⟩, rfl⟩, rfl⟩) ?_
  refine t_w (hd 4 (by decide)) (w_bs (n := 2) (zget := frCell ⟨0, 0, 0, 0, false⟩) [(frCell ⟨(-1), 0, 7, 0, false⟩), (frCell ⟨0, 1, 1, 0, false⟩)] (rowG frCell default [⟨(-1), 0, 7, 0, false⟩, ⟨0, 1, 1, 0, false⟩]) Try.underlying27 (fun w => Try.sizeOf47 w) zero47 (by decide) rfl (by decide) ⟨⟨rfl, .inl (val_tmp rfl), rfl⟩, ⟨rfl, .inl (val_tmp rfl), rfl⟩, trivial⟩ ⟨⟨trivial, ⟨⟨⟨⟨⟨trivial, rfl⟩, rfl⟩, rfl⟩, rfl⟩, rfl⟩⟩, ⟨⟨⟨⟨⟨trivial, rfl⟩, rfl⟩, rfl⟩, rfl⟩, rfl⟩⟩) ?_
  refine t_op (hd 1 (by decide)) (q_assign (val_tmp rfl)) ?_
  refine t_nil ?_
  refine c_seq ?_
  refine c_rq ?_
  refine tq_op (hd 5 (by decide)) (q_move (val_tmp rfl)) ?_
  refine tq_call en19 (hd 6 (by decide)) (by exact ⟨⟨(val_tmp rfl), rfl⟩, ⟨val_const, rfl⟩, ⟨val_const, rfl⟩, ⟨val_const, rfl⟩, trivial⟩) (May_ct ([⟨(-1), 0, 7, 0, false⟩, ⟨0, 1, 1, 0, false⟩]) 1 0 3) ?_
  refine tq_op (hd 7 (by decide)) (q_eql (val_tmp rfl) val_const) ?_
  refine tq_op (hd 8 (by decide)) (q_move (val_tmp rfl)) ?_
  refine tq_opG (g_yes rfl rfl) (hd 9 (by decide)) (fun hg => q_move (val_tmp rfl)) ?_
  refine tq_callG (g_yes rfl rfl) en19 (hd 10 (by decide)) (fun hg => (by exact ⟨⟨(val_grd (val_tmp rfl) hg), rfl⟩, ⟨val_const, rfl⟩, ⟨val_const, rfl⟩, ⟨val_const, rfl⟩, trivial⟩)) (fun hg => May_ct ([⟨(-1), 0, 7, 0, false⟩, ⟨0, 1, 1, 0, false⟩]) 0 1 4) ?_
  refine tq_opG (g_yes rfl rfl) (hd 11 (by decide)) (fun hg => q_eql (val_grd (val_tmp rfl) hg) val_const) ?_
  refine tq_op (hd 12 (by decide)) (q_and (val_tmp rfl) (fun h => val_grd (val_tmp rfl) h)) ?_
  refine tq_op (hd 13 (by decide)) (q_move (val_tmp rfl)) ?_
  refine tq_opG (g_yes rfl rfl) (hd 14 (by decide)) (fun hg => q_move (val_tmp rfl)) ?_
  refine tq_callG (g_yes rfl rfl) en19 (hd 15 (by decide)) (fun hg => (by exact ⟨⟨(val_grd (val_tmp rfl) hg), rfl⟩, ⟨val_const, rfl⟩, ⟨val_const, rfl⟩, ⟨val_const, rfl⟩, trivial⟩)) (fun hg => May_ct ([⟨(-1), 0, 7, 0, false⟩, ⟨0, 1, 1, 0, false⟩]) 0 1 1) ?_
  refine tq_opG (g_yes rfl rfl) (hd 16 (by decide)) (fun hg => q_eql (val_grd (val_tmp rfl) hg) val_const) ?_
  refine tq_op (hd 17 (by decide)) (q_and (val_tmp rfl) (fun h => val_grd (val_tmp rfl) h)) ?_
  refine tq_op (hd 0 (by decide)) (q_assign (val_tmp rfl)) ?_
  refine tq_nil ?_
  refine c_ret ?_
  exact ret1 rfl (val_tmp rfl) rfl (by show bv (((decide (MayFr ([⟨(-1), 0, 7, 0, false⟩, ⟨0, 1, 1, 0, false⟩]) 1 0 3 = 7)) && (decide (MayFr ([⟨(-1), 0, 7, 0, false⟩, ⟨0, 1, 1, 0, false⟩]) 0 1 4 = 0))) && (decide (MayFr ([⟨(-1), 0, 7, 0, false⟩, ⟨0, 1, 1, 0, false⟩]) 0 1 1 = 7))) = bv true; rfl)

end Go.Proofs.Ytghkpailmdlhgaa
