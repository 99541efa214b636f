import Derived.Test.YtghkpailmdlhgaaFr
set_option linter.unusedVariables false
set_option linter.unusedSimpArgs false
namespace Go.Proofs.Ytghkpailmdlhgaa
open Go.RowKit Go.Eng
/-- glasshouse/frame.Holds -/
theorem holds_ct (l : List Fr) (k : Int) : Ct Try.prog 22 [frRow l, iv (k)] (iv (holdsFr l k)) := by
  refine ct_of Try.func22 rfl (by show 2 ≤ 18; decide) fun E hN => ?_
  have hd : ∀ d, d < 18 → d < E.N := fun d h => Nat.lt_of_lt_of_eq h hN.symm
  refine row_len (val_tmp (s := 0) rfl) fun hl0 => ?_
  refine c_seq ?_
  refine c_rq ?_
  refine tq_op (hd 4 (by decide)) (q_assign val_const) ?_
  refine tq_nil ?_
  refine c_seq ?_
  refine c_seq ?_
  refine c_rq ?_
  refine tq_op (hd 5 (by decide)) (q_move (val_tmp rfl)) ?_
  refine tq_op (hd 6 (by decide)) (q_lss (val_tmp rfl) val_const) ?_
  refine tq_op (hd 7 (by decide)) (q_move (val_tmp rfl)) ?_
  refine tq_opG (g_no rfl rfl) (hd 8 (by decide)) (fun hg => q_move (val_tmp rfl)) ?_
  refine tq_opG (g_no rfl rfl) (hd 9 (by decide)) (fun hg => q_move (val_tmp rfl)) ?_
  refine tq_opG (g_no rfl rfl) (hd 10 (by decide)) (fun hg => q_len (val_grd (val_tmp rfl) hg) ts27) ?_
  refine tq_opG (g_no rfl rfl) (hd 11 (by decide)) (fun hg => q_geq (val_grd (val_tmp rfl) hg) (val_grd (val_tmp rfl) hg)) ?_
  refine tq_op (hd 12 (by decide)) (q_or (val_tmp rfl) (fun h => val_grd (val_tmp rfl) (notT h))) ?_
  refine tq_nil ?_
  refine c_cond (val_tmp rfl) (fun hc1 => ?_) (fun hc1 => ?_)
  · have hc1s := hc1
    try simp only [Bool.and_eq_true, Bool.or_eq_true, Bool.not_eq_true', Bool.not_eq_false', Bool.or_eq_false_iff, Bool.and_eq_false_iff, decide_eq_true_eq, decide_eq_false_iff_not] at hc1s
    refine c_seq ?_
    refine c_rq ?_
    refine tq_op (hd 4 (by decide)) (q_assign val_const) ?_
    refine tq_nil ?_
    refine c_ret ?_
    exact ret1 rfl (val_tmp rfl) rfl (by show iv (4) = iv (holdsFr l k); simp only [holdsFr, *]; rfl)
  · have hc1s := hc1
    try simp only [Bool.and_eq_true, Bool.or_eq_true, Bool.not_eq_true', Bool.not_eq_false', Bool.or_eq_false_iff, Bool.and_eq_false_iff, decide_eq_true_eq, decide_eq_false_iff_not] at hc1s
    refine c_skip ?_
    refine c_seq ?_
    refine c_seq ?_
    refine c_rq ?_
    refine tq_op (hd 13 (by decide)) (q_move (val_tmp rfl)) ?_
    refine tq_op (hd 14 (by decide)) (q_move (val_tmp rfl)) ?_
    refine tq_op (hd 15 (by decide)) (q_idx (val_tmp rfl) (val_tmp rfl) ts27 te27 (by first | omega | (simp only [Bool.and_eq_true, Bool.or_eq_true, Bool.not_eq_true', Bool.not_eq_false', Bool.or_eq_false_iff, Bool.and_eq_false_iff, decide_eq_true_eq, decide_eq_false_iff_not] at *; omega)) (by first | omega | (simp only [Bool.and_eq_true, Bool.or_eq_true, Bool.not_eq_true', Bool.not_eq_false', Bool.or_eq_false_iff, Bool.and_eq_false_iff, decide_eq_true_eq, decide_eq_false_iff_not] at *; omega))) ?_
    refine tq_op (hd 16 (by decide)) (q_fld _ _ (val_tmp rfl) Try.underlying47 rfl 0 (fun w => Try.sizeOf4 w)) ?_
    refine tq_op (hd 17 (by decide)) (q_ld (val_tmp rfl) Try.isAgg4 (by decide)) ?_
    refine tq_nil ?_
    refine c_cond (val_tmp rfl) (fun hc2 => ?_) (fun hc2 => ?_)
    · have hc2s := hc2
      try simp only [Bool.and_eq_true, Bool.or_eq_true, Bool.not_eq_true', Bool.not_eq_false', Bool.or_eq_false_iff, Bool.and_eq_false_iff, decide_eq_true_eq, decide_eq_false_iff_not] at hc2s
      refine c_seq ?_
      refine c_rq ?_
      refine tq_op (hd 4 (by decide)) (q_assign val_const) ?_
      refine tq_nil ?_
      refine c_ret ?_
      exact ret1 rfl (val_tmp rfl) rfl (by show iv (5) = iv (holdsFr l k); simp only [holdsFr, *]; rfl)
    · have hc2s := hc2
      try simp only [Bool.and_eq_true, Bool.or_eq_true, Bool.not_eq_true', Bool.not_eq_false', Bool.or_eq_false_iff, Bool.and_eq_false_iff, decide_eq_true_eq, decide_eq_false_iff_not] at hc2s
      refine c_skip ?_
      refine c_seq ?_
      refine c_rq ?_
      refine tq_op (hd 4 (by decide)) (q_assign val_const) ?_
      refine tq_nil ?_
      refine c_ret ?_
      exact ret1 rfl (val_tmp rfl) rfl (by show iv (0) = iv (holdsFr l k); simp only [holdsFr, *]; rfl)

/-- glasshouse/frame.Check -/
theorem check_ct (l : List Fr) : Ct Try.prog 21 [frRow l] (iv (checkFr l)) := by
  refine ct_of Try.func21 rfl (by show 1 ≤ 88; decide) fun E hN => ?_
  have hd : ∀ d, d < 88 → d < E.N := fun d h => Nat.lt_of_lt_of_eq h hN.symm
  refine row_len (val_tmp (s := 0) rfl) fun hl0 => ?_
  refine c_seq ?_
  refine c_rq ?_
  refine tq_op (hd 2 (by decide)) (q_assign val_const) ?_
  refine tq_nil ?_
  refine c_seq ?_
  refine c_seq ?_
  refine c_rq ?_
  refine tq_op (hd 5 (by decide)) (q_move (val_tmp rfl)) ?_
  refine tq_op (hd 6 (by decide)) (q_len (val_tmp rfl) ts27) ?_
  refine tq_op (hd 7 (by decide)) (q_gtr (val_tmp rfl) val_const) ?_
  refine tq_nil ?_
  refine c_cond (val_tmp rfl) (fun hc1 => ?_) (fun hc1 => ?_)
  · have hc1s := hc1
    try simp only [Bool.and_eq_true, Bool.or_eq_true, Bool.not_eq_true', Bool.not_eq_false', Bool.or_eq_false_iff, Bool.and_eq_false_iff, decide_eq_true_eq, decide_eq_false_iff_not] at hc1s
    refine c_seq ?_
    refine c_rq ?_
    refine tq_op (hd 2 (by decide)) (q_assign val_const) ?_
    refine tq_nil ?_
    refine c_ret ?_
    exact ret1 rfl (val_tmp rfl) rfl (by show iv (1) = iv (checkFr l); rw [checkFr_1 hc1s])
  · have hc1s := hc1
    try simp only [Bool.and_eq_true, Bool.or_eq_true, Bool.not_eq_true', Bool.not_eq_false', Bool.or_eq_false_iff, Bool.and_eq_false_iff, decide_eq_true_eq, decide_eq_false_iff_not] at hc1s
    refine c_skip ?_
    refine c_seq ?_
    refine c_seq ?_
    refine c_rq ?_
    refine tq_op (hd 8 (by decide)) (q_move (val_tmp rfl)) ?_
    refine tq_op (hd 9 (by decide)) (q_len (val_tmp rfl) ts27) ?_
    refine tq_op (hd 10 (by decide)) (q_move val_const) ?_
    refine tq_nil ?_
    refine c_block ?_
    refine c_loop (fun (i : Nat) => (⟨[(0, frRow l), (8, frRow l), (9, iv ((l.length : Int))), (10, iv ((i : Int)))], []⟩ : St)) (fun (i : Nat) => i ≤ l.length ∧ checkFr l = firstErr (frErr l) i (l.length - i)) (fun (i : Nat) => l.length - i) 0 ?_ ?_ ?_
    · show 0 ≤ l.length ∧ checkFr l = firstErr (frErr l) 0 (l.length - 0)
      exact ⟨Nat.zero_le _, checkFr_s hc1s⟩
    · refine weakE (sl := [(0, frRow l), (8, frRow l), (9, iv ((l.length : Int))), (10, iv ((0 : Int)))]) (ow := []) ?_ ?_
      · exact ⟨val_tmp rfl, val_tmp rfl, val_tmp rfl, val_tmp rfl, trivial⟩
      · exact trivial
    · rintro i hI1
      have hJ1 : i ≤ l.length ∧ checkFr l = firstErr (frErr l) i (l.length - i) := hI1
      refine c_seq ?_
      refine c_rq ?_
      refine tq_op (hd 11 (by decide)) (q_lss (val_tmp rfl) (val_tmp rfl)) ?_
      refine tq_nil ?_
      refine c_seq ?_
      refine c_cond (val_tmp rfl) (fun hc2 => ?_) (fun hc2 => ?_)
      · have hc2s := hc2
        try simp only [Bool.and_eq_true, Bool.or_eq_true, Bool.not_eq_true', Bool.not_eq_false', Bool.or_eq_false_iff, Bool.and_eq_false_iff, decide_eq_true_eq, decide_eq_false_iff_not] at hc2s
        refine c_skip ?_
        refine c_seq ?_
        refine c_block ?_
        refine c_seq ?_
        refine c_rt ?_
        refine t_op (hd 12 (by decide)) (q_move (val_tmp rfl)) ?_
        refine t_op (hd 13 (by decide)) (q_idxN (i := i) (val_tmp rfl) (val_tmp rfl) ts27 te27 (by first | omega | (simp only [Bool.and_eq_true, Bool.or_eq_true, Bool.not_eq_true', Bool.not_eq_false', Bool.or_eq_false_iff, Bool.and_eq_false_iff, decide_eq_true_eq, decide_eq_false_iff_not] at *; omega))) ?_
        refine t_op (hd 14 (by decide)) (q_ldA (val_tmp rfl) Try.isAgg47 Try.sizeOf47 (by decide)) ?_
        refine t_alloc 1 (hd 4 (by decide)) zero47 rfl rfl ?_
        refine t_op (hd 3 (by decide)) (q_assign (val_tmp rfl)) ?_
        refine t_stA (val_tmp rfl) rfl (val_tmp rfl) Try.sizeOf47 ?_
        refine t_nil ?_
        refine c_seq ?_
        refine c_seq ?_
        refine c_rq ?_
        refine tq_op (hd 15 (by decide)) (q_fldB _ _ (val_tmp rfl) Try.underlying47 rfl 0 (fun w => Try.sizeOf3 w)) ?_
        refine tq_op (hd 16 (by decide)) (q_ldB (val_tmp rfl) rfl Try.isAgg3 (by decide)) ?_
        refine tq_op (hd 17 (by decide)) (q_lss (val_tmp rfl) val_const) ?_
        refine tq_op (hd 18 (by decide)) (q_move (val_tmp rfl)) ?_
        refine tq_opG (g_no rfl rfl) (hd 19 (by decide)) (fun hg => q_fldB _ _ (val_tmp rfl) Try.underlying47 rfl 0 (fun w => Try.sizeOf3 w)) ?_
        refine tq_opG (g_no rfl rfl) (hd 20 (by decide)) (fun hg => q_ldB (val_grd (val_tmp rfl) hg) rfl Try.isAgg3 (by decide)) ?_
        refine tq_opG (g_no rfl rfl) (hd 21 (by decide)) (fun hg => q_move (val_tmp rfl)) ?_
        refine tq_opG (g_no rfl rfl) (hd 22 (by decide)) (fun hg => q_geq (val_grd (val_tmp rfl) hg) (val_grd (val_tmp rfl) hg)) ?_
        refine tq_op (hd 23 (by decide)) (q_or (val_tmp rfl) (fun h => val_grd (val_tmp rfl) (notT h))) ?_
        refine tq_op (hd 24 (by decide)) (q_move (val_tmp rfl)) ?_
        refine tq_opG (g_no rfl rfl) (hd 25 (by decide)) (fun hg => q_fldB _ _ (val_tmp rfl) Try.underlying47 rfl 0 (fun w => Try.sizeOf3 w)) ?_
        refine tq_opG (g_no rfl rfl) (hd 26 (by decide)) (fun hg => q_ldB (val_grd (val_tmp rfl) hg) rfl Try.isAgg3 (by decide)) ?_
        refine tq_opG (g_no rfl rfl) (hd 27 (by decide)) (fun hg => q_lss (val_grd (val_tmp rfl) hg) val_const) ?_
        refine tq_opG (g_no rfl rfl) (hd 28 (by decide)) (fun hg => q_move (val_tmp rfl)) ?_
        refine tq_opG (g_no rfl rfl) (hd 29 (by decide)) (fun hg => q_eql (val_grd (val_tmp rfl) hg) val_const) ?_
        refine tq_opG (g_no rfl rfl) (hd 30 (by decide)) (fun hg => q_neqb (val_grd (val_tmp rfl) hg) (val_grd (val_tmp rfl) hg) Try.underlying4) ?_
        refine tq_op (hd 31 (by decide)) (q_or (val_tmp rfl) (fun h => val_grd (val_tmp rfl) (notT h))) ?_
        refine tq_nil ?_
        refine c_cond (val_tmp rfl) (fun hc3 => ?_) (fun hc3 => ?_)
        · have hc3s := hc3
          try simp only [Bool.and_eq_true, Bool.or_eq_true, Bool.not_eq_true', Bool.not_eq_false', Bool.or_eq_false_iff, Bool.and_eq_false_iff, decide_eq_true_eq, decide_eq_false_iff_not] at hc3s
          refine c_seq ?_
          refine c_rq ?_
          refine tq_op (hd 2 (by decide)) (q_assign val_const) ?_
          refine tq_nil ?_
          refine c_ret ?_
          exact ret1 rfl (val_tmp rfl) rfl (by show iv (4) = iv (checkFr l); rw [firstErr_hit (by omega) hJ1.2 (frErr_4 hc3) (by decide)])
        · have hc3s := hc3
          try simp only [Bool.and_eq_true, Bool.or_eq_true, Bool.not_eq_true', Bool.not_eq_false', Bool.or_eq_false_iff, Bool.and_eq_false_iff, decide_eq_true_eq, decide_eq_false_iff_not] at hc3s
          refine c_skip ?_
          refine c_seq ?_
          refine c_seq ?_
          refine c_rq ?_
          refine tq_op (hd 32 (by decide)) (q_fldB _ _ (val_tmp rfl) Try.underlying47 rfl 0 (fun w => Try.sizeOf3 w)) ?_
          refine tq_op (hd 33 (by decide)) (q_ldB (val_tmp rfl) rfl Try.isAgg3 (by decide)) ?_
          refine tq_op (hd 34 (by decide)) (q_lss (val_tmp rfl) val_const) ?_
          refine tq_op (hd 35 (by decide)) (q_move (val_tmp rfl)) ?_
          refine tq_opG (g_no rfl rfl) (hd 36 (by decide)) (fun hg => q_fldB _ _ (val_tmp rfl) Try.underlying47 rfl 0 (fun w => Try.sizeOf3 w)) ?_
          refine tq_opG (g_no rfl rfl) (hd 37 (by decide)) (fun hg => q_ldB (val_grd (val_tmp rfl) hg) rfl Try.isAgg3 (by decide)) ?_
          refine tq_opG (g_no rfl rfl) (hd 38 (by decide)) (fun hg => q_gtr (val_grd (val_tmp rfl) hg) val_const) ?_
          refine tq_op (hd 39 (by decide)) (q_or (val_tmp rfl) (fun h => val_grd (val_tmp rfl) (notT h))) ?_
          refine tq_op (hd 40 (by decide)) (q_move (val_tmp rfl)) ?_
          refine tq_opG (g_no rfl rfl) (hd 41 (by decide)) (fun hg => q_fldB _ _ (val_tmp rfl) Try.underlying47 rfl 0 (fun w => Try.sizeOf3 w)) ?_
          refine tq_opG (g_no rfl rfl) (hd 42 (by decide)) (fun hg => q_ldB (val_grd (val_tmp rfl) hg) rfl Try.isAgg3 (by decide)) ?_
          refine tq_opG (g_no rfl rfl) (hd 43 (by decide)) (fun hg => q_lss (val_grd (val_tmp rfl) hg) val_const) ?_
          refine tq_op (hd 44 (by decide)) (q_or (val_tmp rfl) (fun h => val_grd (val_tmp rfl) (notT h))) ?_
          refine tq_op (hd 45 (by decide)) (q_move (val_tmp rfl)) ?_
          refine tq_opG (g_no rfl rfl) (hd 46 (by decide)) (fun hg => q_fldB _ _ (val_tmp rfl) Try.underlying47 rfl 0 (fun w => Try.sizeOf3 w)) ?_
          refine tq_opG (g_no rfl rfl) (hd 47 (by decide)) (fun hg => q_ldB (val_grd (val_tmp rfl) hg) rfl Try.isAgg3 (by decide)) ?_
          refine tq_opG (g_no rfl rfl) (hd 48 (by decide)) (fun hg => q_gtr (val_grd (val_tmp rfl) hg) val_const) ?_
          refine tq_op (hd 49 (by decide)) (q_or (val_tmp rfl) (fun h => val_grd (val_tmp rfl) (notT h))) ?_
          refine tq_op (hd 50 (by decide)) (q_move (val_tmp rfl)) ?_
          refine tq_opG (g_no rfl rfl) (hd 51 (by decide)) (fun hg => q_fldB _ _ (val_tmp rfl) Try.underlying47 rfl 0 (fun w => Try.sizeOf3 w)) ?_
          refine tq_opG (g_no rfl rfl) (hd 52 (by decide)) (fun hg => q_ldB (val_grd (val_tmp rfl) hg) rfl Try.isAgg3 (by decide)) ?_
          refine tq_opG (g_no rfl rfl) (hd 53 (by decide)) (fun hg => q_lss (val_grd (val_tmp rfl) hg) val_const) ?_
          refine tq_op (hd 54 (by decide)) (q_or (val_tmp rfl) (fun h => val_grd (val_tmp rfl) (notT h))) ?_
          refine tq_op (hd 55 (by decide)) (q_move (val_tmp rfl)) ?_
          refine tq_opG (g_no rfl rfl) (hd 56 (by decide)) (fun hg => q_fldB _ _ (val_tmp rfl) Try.underlying47 rfl 0 (fun w => Try.sizeOf3 w)) ?_
          refine tq_opG (g_no rfl rfl) (hd 57 (by decide)) (fun hg => q_ldB (val_grd (val_tmp rfl) hg) rfl Try.isAgg3 (by decide)) ?_
          refine tq_opG (g_no rfl rfl) (hd 58 (by decide)) (fun hg => q_gtr (val_grd (val_tmp rfl) hg) val_const) ?_
          refine tq_op (hd 59 (by decide)) (q_or (val_tmp rfl) (fun h => val_grd (val_tmp rfl) (notT h))) ?_
          refine tq_nil ?_
          refine c_cond (val_tmp rfl) (fun hc4 => ?_) (fun hc4 => ?_)
          · have hc4s := hc4
            try simp only [Bool.and_eq_true, Bool.or_eq_true, Bool.not_eq_true', Bool.not_eq_false', Bool.or_eq_false_iff, Bool.and_eq_false_iff, decide_eq_true_eq, decide_eq_false_iff_not] at hc4s
            refine c_seq ?_
            refine c_rq ?_
            refine tq_op (hd 2 (by decide)) (q_assign val_const) ?_
            refine tq_nil ?_
            refine c_ret ?_
            exact ret1 rfl (val_tmp rfl) rfl (by show iv (2) = iv (checkFr l); rw [firstErr_hit (by omega) hJ1.2 (frErr_2 hc3 hc4) (by decide)])
          · have hc4s := hc4
            try simp only [Bool.and_eq_true, Bool.or_eq_true, Bool.not_eq_true', Bool.not_eq_false', Bool.or_eq_false_iff, Bool.and_eq_false_iff, decide_eq_true_eq, decide_eq_false_iff_not] at hc4s
            refine c_skip ?_
            refine c_seq ?_
            refine c_rqd (by kernel_rfl) (by kernel_rfl) ?_
            refine tq_op (hd 60 (by decide)) (q_move (val_tmp rfl)) ?_
            refine tq_op (hd 61 (by decide)) (q_gtr (val_tmp rfl) val_const) ?_
            refine tq_op (hd 62 (by decide)) (q_move (val_tmp rfl)) ?_
            refine tq_opG (g_yes rfl rfl) (hd 63 (by decide)) (fun hg => q_fldB _ _ (val_tmp rfl) Try.underlying47 rfl 0 (fun w => Try.sizeOf3 w)) ?_
            refine tq_opG (g_yes rfl rfl) (hd 64 (by decide)) (fun hg => q_ldB (val_grd (val_tmp rfl) hg) rfl Try.isAgg3 (by decide)) ?_
            refine tq_opG (g_yes rfl rfl) (hd 65 (by decide)) (fun hg => q_move (val_tmp rfl)) ?_
            refine tq_opG (g_yes rfl rfl) (hd 66 (by decide)) (fun hg => q_fldB _ _ (val_tmp rfl) Try.underlying47 rfl 0 (fun w => Try.sizeOf3 w)) ?_
            refine tq_opG (g_yes rfl rfl) (hd 67 (by decide)) (fun hg => q_ldB (val_grd (val_tmp rfl) hg) rfl Try.isAgg3 (by decide)) ?_
            refine tq_opG (g_yes rfl rfl) (hd 68 (by decide)) (fun hg => q_idx (val_grd (val_tmp rfl) hg) (val_grd (val_tmp rfl) hg) ts27 te27 (by exact par_ok hc3s.2 hg) (by have := hc3s.1.2; omega)) ?_
            refine tq_opG (g_yes rfl rfl) (hd 69 (by decide)) (fun hg => q_fld _ _ (val_grd (val_tmp rfl) hg) Try.underlying47 rfl 0 (fun w => Try.sizeOf3 w)) ?_
            refine tq_opG (g_yes rfl rfl) (hd 70 (by decide)) (fun hg => q_ld (val_grd (val_tmp rfl) hg) Try.isAgg3 (by decide)) ?_
            refine tq_opG (g_yes rfl rfl) (hd 71 (by decide)) (fun hg => q_andNot64 (val_grd (val_tmp rfl) hg) (val_grd (val_tmp rfl) hg)) ?_
            refine tq_opG (g_yes rfl rfl) (hd 72 (by decide)) (fun hg => q_neq (val_grd (val_tmp rfl) hg) val_const) ?_
            refine tq_opG (g_yes rfl rfl) (hd 73 (by decide)) (fun hg => q_move (val_grd (val_tmp rfl) hg)) ?_
            refine tq_opG (g_gno rfl rfl) (hd 74 (by decide)) (fun hg => q_move (val_tmp rfl)) ?_
            refine tq_opG (g_gno rfl rfl) (hd 75 (by decide)) (fun hg => q_fldB _ _ (val_tmp rfl) Try.underlying47 rfl 0 (fun w => Try.sizeOf3 w)) ?_
            refine tq_opG (g_gno rfl rfl) (hd 76 (by decide)) (fun hg => q_ldB (val_grd (val_tmp rfl) hg) rfl Try.isAgg3 (by decide)) ?_
            refine tq_opG (g_gno rfl rfl) (hd 77 (by decide)) (fun hg => q_idx (val_grd (val_tmp rfl) hg) (val_grd (val_tmp rfl) hg) ts27 te27 (by exact par_ok hc3s.2 (andl hg)) (by have := hc3s.1.2; omega)) ?_
            refine tq_opG (g_gno rfl rfl) (hd 78 (by decide)) (fun hg => q_fld _ _ (val_grd (val_tmp rfl) hg) Try.underlying47 rfl 0 (fun w => Try.sizeOf4 w)) ?_
            refine tq_opG (g_gno rfl rfl) (hd 79 (by decide)) (fun hg => q_ld (val_grd (val_tmp rfl) hg) Try.isAgg4 (by decide)) ?_
            refine tq_opG (g_gno rfl rfl) (hd 80 (by decide)) (fun hg => q_move (val_grd (val_tmp rfl) hg)) ?_
            refine tq_opG (g_gyes rfl rfl) (hd 81 (by decide)) (fun hg => q_fldB _ _ (val_tmp rfl) Try.underlying47 rfl 0 (fun w => Try.sizeOf4 w)) ?_
            refine tq_opG (g_gyes rfl rfl) (hd 82 (by decide)) (fun hg => q_ldB (val_grd (val_tmp rfl) hg) rfl Try.isAgg4 (by decide)) ?_
            refine tq_opG (g_gyes rfl rfl) (hd 83 (by decide)) (fun hg => q_not (val_grd (val_tmp rfl) hg)) ?_
            refine tq_opG (g_gno rfl rfl) (hd 84 (by decide)) (fun hg => q_and (val_grd (val_tmp rfl) hg) (fun h => val_grd (val_tmp rfl) (andI hg h))) ?_
            refine tq_opG (g_yes rfl rfl) (hd 85 (by decide)) (fun hg => q_or (val_grd (val_tmp rfl) hg) (fun h => val_grd (val_tmp rfl) (andI hg (notT h)))) ?_
            refine tq_op (hd 86 (by decide)) (q_and (val_tmp rfl) (fun h => val_grd (val_tmp rfl) h)) ?_
            refine tq_nil ?_
            refine c_cond (val_tmp rfl) (fun hc5 => ?_) (fun hc5 => ?_)
            · have hc5s := hc5
              try simp only [Bool.and_eq_true, Bool.or_eq_true, Bool.not_eq_true', Bool.not_eq_false', Bool.or_eq_false_iff, Bool.and_eq_false_iff, decide_eq_true_eq, decide_eq_false_iff_not] at hc5s
              refine c_seq ?_
              refine c_rq ?_
              refine tq_op (hd 2 (by decide)) (q_assign val_const) ?_
              refine tq_nil ?_
              refine c_ret ?_
              exact ret1 rfl (val_tmp rfl) rfl (by show iv (3) = iv (checkFr l); rw [firstErr_hit (by omega) hJ1.2 (frErr_3 hc3 hc4 hc5) (by decide)])
            · have hc5s := hc5
              try simp only [Bool.and_eq_true, Bool.or_eq_true, Bool.not_eq_true', Bool.not_eq_false', Bool.or_eq_false_iff, Bool.and_eq_false_iff, decide_eq_true_eq, decide_eq_false_iff_not] at hc5s
              refine c_skip ?_
              refine c_rq ?_
              refine tq_op (hd 87 (by decide)) (q_add (val_tmp rfl) val_const (by first | omega | (simp only [Bool.and_eq_true, Bool.or_eq_true, Bool.not_eq_true', Bool.not_eq_false', Bool.or_eq_false_iff, Bool.and_eq_false_iff, decide_eq_true_eq, decide_eq_false_iff_not] at *; omega))) ?_
              refine tq_op (hd 10 (by decide)) (q_move (val_tmp rfl)) ?_
              refine tq_nil ?_
              refine c_next (i + 1) ?_ ?_ ?_
              · show (i + 1) ≤ l.length ∧ checkFr l = firstErr (frErr l) (i + 1) (l.length - (i + 1))
                exact ⟨by omega, firstErr_next (by omega) hJ1.2 (frErr_0 hc3 hc4 hc5)⟩
              · show l.length - (i + 1) < l.length - i
                omega
              · refine weakE (sl := [(0, frRow l), (8, frRow l), (9, iv ((l.length : Int))), (10, iv (((i + 1) : Int)))]) (ow := []) ?_ ?_
                · exact ⟨val_tmp rfl, val_tmp rfl, val_tmp rfl, val_tmp rfl, trivial⟩
                · exact trivial
      · have hc2s := hc2
        try simp only [Bool.and_eq_true, Bool.or_eq_true, Bool.not_eq_true', Bool.not_eq_false', Bool.or_eq_false_iff, Bool.and_eq_false_iff, decide_eq_true_eq, decide_eq_false_iff_not] at hc2s
        refine c_exit ?_
        refine c_seq ?_
        refine c_rq ?_
        refine tq_op (hd 2 (by decide)) (q_assign val_const) ?_
        refine tq_nil ?_
        refine c_ret ?_
        exact ret1 rfl (val_tmp rfl) rfl (by show iv (0) = iv (checkFr l); rw [firstErr_end (by omega) hJ1.2])

/-- glasshouse/frame.Within -/
theorem within_ct (l : List Fr) (k top : Int) : Ct Try.prog 23 [frRow l, iv (k), iv (top)] (bv (withinFr l k top)) := by
  refine ct_of Try.func23 rfl (by show 3 ≤ 28; decide) fun E hN => ?_
  have hd : ∀ d, d < 28 → d < E.N := fun d h => Nat.lt_of_lt_of_eq h hN.symm
  refine row_len (val_tmp (s := 0) rfl) fun hl0 => ?_
  refine c_seq ?_
  refine c_rq ?_
  refine tq_op (hd 6 (by decide)) (q_assign val_const) ?_
  refine tq_nil ?_
  refine c_seq ?_
  refine c_seq ?_
  refine c_rq ?_
  refine tq_op (hd 7 (by decide)) (q_move (val_tmp rfl)) ?_
  refine tq_op (hd 8 (by decide)) (q_len (val_tmp rfl) ts27) ?_
  refine tq_op (hd 9 (by decide)) (q_move val_const) ?_
  refine tq_nil ?_
  refine c_block ?_
  refine c_loop (uc2 fun (i : Nat) (x : Int) => (⟨[(0, frRow l), (1, iv (x)), (2, iv (top)), (8, iv ((l.length : Int))), (9, iv ((i : Int)))], []⟩ : St)) (uc2 fun (i : Nat) (x : Int) => i ≤ l.length ∧ withinFr l k top = withinN l (l.length - i) x top) (uc2 fun (i : Nat) (x : Int) => l.length - i) (0, k) ?_ ?_ ?_
  · show 0 ≤ l.length ∧ withinFr l k top = withinN l (l.length - 0) k top
    exact ⟨Nat.zero_le _, rfl⟩
  · refine weakE (sl := [(0, frRow l), (1, iv (k)), (2, iv (top)), (8, iv ((l.length : Int))), (9, iv ((0 : Int)))]) (ow := []) ?_ ?_
    · exact ⟨val_tmp rfl, val_tmp rfl, val_tmp rfl, val_tmp rfl, val_tmp rfl, trivial⟩
    · exact trivial
  · rintro ⟨i, x⟩ hI1
    have hJ1 : i ≤ l.length ∧ withinFr l k top = withinN l (l.length - i) x top := hI1
    refine c_seq ?_
    refine c_rq ?_
    refine tq_op (hd 10 (by decide)) (q_lss (val_tmp rfl) (val_tmp rfl)) ?_
    refine tq_nil ?_
    refine c_seq ?_
    refine c_cond (val_tmp rfl) (fun hc1 => ?_) (fun hc1 => ?_)
    · have hc1s := hc1
      try simp only [Bool.and_eq_true, Bool.or_eq_true, Bool.not_eq_true', Bool.not_eq_false', Bool.or_eq_false_iff, Bool.and_eq_false_iff, decide_eq_true_eq, decide_eq_false_iff_not] at hc1s
      refine c_skip ?_
      refine c_seq ?_
      refine c_block ?_
      refine c_seq ?_
      refine c_seq ?_
      refine c_rq ?_
      refine tq_op (hd 11 (by decide)) (q_move (val_tmp rfl)) ?_
      refine tq_op (hd 12 (by decide)) (q_lss (val_tmp rfl) val_const) ?_
      refine tq_op (hd 13 (by decide)) (q_move (val_tmp rfl)) ?_
      refine tq_opG (g_no rfl rfl) (hd 14 (by decide)) (fun hg => q_move (val_tmp rfl)) ?_
      refine tq_opG (g_no rfl rfl) (hd 15 (by decide)) (fun hg => q_move (val_tmp rfl)) ?_
      refine tq_opG (g_no rfl rfl) (hd 16 (by decide)) (fun hg => q_len (val_grd (val_tmp rfl) hg) ts27) ?_
      refine tq_opG (g_no rfl rfl) (hd 17 (by decide)) (fun hg => q_geq (val_grd (val_tmp rfl) hg) (val_grd (val_tmp rfl) hg)) ?_
      refine tq_op (hd 18 (by decide)) (q_or (val_tmp rfl) (fun h => val_grd (val_tmp rfl) (notT h))) ?_
      refine tq_nil ?_
      refine c_cond (val_tmp rfl) (fun hc2 => ?_) (fun hc2 => ?_)
      · have hc2s := hc2
        try simp only [Bool.and_eq_true, Bool.or_eq_true, Bool.not_eq_true', Bool.not_eq_false', Bool.or_eq_false_iff, Bool.and_eq_false_iff, decide_eq_true_eq, decide_eq_false_iff_not] at hc2s
        refine c_seq ?_
        refine c_rq ?_
        refine tq_op (hd 6 (by decide)) (q_assign val_const) ?_
        refine tq_nil ?_
        refine c_ret ?_
        exact ret1 rfl (val_tmp rfl) rfl (by show bv (false) = bv (withinFr l k top); rw [hJ1.2, withinN_step (by omega), if_pos (by omega)])
      · have hc2s := hc2
        try simp only [Bool.and_eq_true, Bool.or_eq_true, Bool.not_eq_true', Bool.not_eq_false', Bool.or_eq_false_iff, Bool.and_eq_false_iff, decide_eq_true_eq, decide_eq_false_iff_not] at hc2s
        refine c_skip ?_
        refine c_seq ?_
        refine c_seq ?_
        refine c_rq ?_
        refine tq_op (hd 19 (by decide)) (q_move (val_tmp rfl)) ?_
        refine tq_op (hd 20 (by decide)) (q_move (val_tmp rfl)) ?_
        refine tq_op (hd 21 (by decide)) (q_eql (val_tmp rfl) (val_tmp rfl)) ?_
        refine tq_nil ?_
        refine c_cond (val_tmp rfl) (fun hc3 => ?_) (fun hc3 => ?_)
        · have hc3s := hc3
          try simp only [Bool.and_eq_true, Bool.or_eq_true, Bool.not_eq_true', Bool.not_eq_false', Bool.or_eq_false_iff, Bool.and_eq_false_iff, decide_eq_true_eq, decide_eq_false_iff_not] at hc3s
          refine c_seq ?_
          refine c_rq ?_
          refine tq_op (hd 6 (by decide)) (q_assign val_const) ?_
          refine tq_nil ?_
          refine c_ret ?_
          exact ret1 rfl (val_tmp rfl) rfl (by show bv (true) = bv (withinFr l k top); rw [hJ1.2, withinN_step (by omega), if_neg (by omega), if_pos hc3s])
        · have hc3s := hc3
          try simp only [Bool.and_eq_true, Bool.or_eq_true, Bool.not_eq_true', Bool.not_eq_false', Bool.or_eq_false_iff, Bool.and_eq_false_iff, decide_eq_true_eq, decide_eq_false_iff_not] at hc3s
          refine c_skip ?_
          refine c_rq ?_
          refine tq_op (hd 22 (by decide)) (q_move (val_tmp rfl)) ?_
          refine tq_op (hd 23 (by decide)) (q_move (val_tmp rfl)) ?_
          refine tq_op (hd 24 (by decide)) (q_idx (val_tmp rfl) (val_tmp rfl) ts27 te27 (by first | omega | (simp only [Bool.and_eq_true, Bool.or_eq_true, Bool.not_eq_true', Bool.not_eq_false', Bool.or_eq_false_iff, Bool.and_eq_false_iff, decide_eq_true_eq, decide_eq_false_iff_not] at *; omega)) (by first | omega | (simp only [Bool.and_eq_true, Bool.or_eq_true, Bool.not_eq_true', Bool.not_eq_false', Bool.or_eq_false_iff, Bool.and_eq_false_iff, decide_eq_true_eq, decide_eq_false_iff_not] at *; omega))) ?_
          refine tq_op (hd 25 (by decide)) (q_fld _ _ (val_tmp rfl) Try.underlying47 rfl 0 (fun w => Try.sizeOf3 w)) ?_
          refine tq_op (hd 26 (by decide)) (q_ld (val_tmp rfl) Try.isAgg3 (by decide)) ?_
          refine tq_op (hd 1 (by decide)) (q_assign (val_tmp rfl)) ?_
          refine tq_nil ?_
          refine c_rq ?_
          refine tq_op (hd 27 (by decide)) (q_add (val_tmp rfl) val_const (by first | omega | (simp only [Bool.and_eq_true, Bool.or_eq_true, Bool.not_eq_true', Bool.not_eq_false', Bool.or_eq_false_iff, Bool.and_eq_false_iff, decide_eq_true_eq, decide_eq_false_iff_not] at *; omega))) ?_
          refine tq_op (hd 9 (by decide)) (q_move (val_tmp rfl)) ?_
          refine tq_nil ?_
          refine c_next ((i + 1, (l.getD x.toNat default).par)) ?_ ?_ ?_
          · show (i + 1) ≤ l.length ∧ withinFr l k top = withinN l (l.length - (i + 1)) ((l.getD x.toNat default).par) top
            exact ⟨by omega, by rw [hJ1.2, withinN_step (by omega), if_neg (by omega), if_neg hc3s]⟩
          · show l.length - (i + 1) < l.length - i
            omega
          · refine weakE (sl := [(0, frRow l), (1, iv (((l.getD x.toNat default).par))), (2, iv (top)), (8, iv ((l.length : Int))), (9, iv (((i + 1) : Int)))]) (ow := []) ?_ ?_
            · exact ⟨val_tmp rfl, val_tmp rfl, val_tmp rfl, val_tmp rfl, val_tmp rfl, trivial⟩
            · exact trivial
    · have hc1s := hc1
      try simp only [Bool.and_eq_true, Bool.or_eq_true, Bool.not_eq_true', Bool.not_eq_false', Bool.or_eq_false_iff, Bool.and_eq_false_iff, decide_eq_true_eq, decide_eq_false_iff_not] at hc1s
      refine c_exit ?_
      refine c_seq ?_
      refine c_rq ?_
      refine tq_op (hd 6 (by decide)) (q_assign val_const) ?_
      refine tq_nil ?_
      refine c_ret ?_
      exact ret1 rfl (val_tmp rfl) rfl (by show bv (false) = bv (withinFr l k top); rw [hJ1.2, Nat.sub_eq_zero_of_le (by omega)]; rfl)

end Go.Proofs.Ytghkpailmdlhgaa
