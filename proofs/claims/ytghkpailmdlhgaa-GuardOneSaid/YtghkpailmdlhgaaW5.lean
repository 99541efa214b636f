import Derived.Test.YtghkpailmdlhgaaW4
import Derived.Test.YtghkpailmdlhgaaFs
set_option linter.unusedVariables false
set_option linter.unusedSimpArgs false
namespace Go.Proofs.Ytghkpailmdlhgaa
open Go.RowKit Go.Eng
/-- glasshouse/glasshouselaw.GuardOne -/
theorem guardOne_ct (l : List Fr) (a b : Int) : Ct Try.prog 5 [frRow l, iv (a), iv (b)] (bv true) := by
  refine ct_of Try.func5 rfl (by show 3 ≤ 81; decide) fun E hN => ?_
  have hd : ∀ d, d < 81 → d < E.N := fun d h => Nat.lt_of_lt_of_eq h hN.symm
  refine row_len (val_tmp (s := 0) rfl) fun hl0 => ?_
  refine c_seq ?_
  refine c_rq ?_
  refine tq_op (hd 6 (by decide)) (q_assign val_const) ?_
  refine tq_nil ?_
  refine c_seq ?_
  refine c_seq ?_
  refine c_rq ?_
  refine tq_call en18 (hd 7 (by decide)) (by exact trivial) (guarded_ct) ?_
  refine tq_op (hd 8 (by decide)) (q_not (val_tmp rfl)) ?_
  refine tq_op (hd 9 (by decide)) (q_move (val_tmp rfl)) ?_
  refine tq_opG (g_no rfl rfl) (hd 10 (by decide)) (fun hg => q_move (val_tmp rfl)) ?_
  refine tq_callG (g_no rfl rfl) en21 (hd 11 (by decide)) (fun hg => (by exact ⟨⟨(val_grd (val_tmp rfl) hg), rfl⟩, trivial⟩)) (fun hg => check_ct l) ?_
  refine tq_opG (g_no rfl rfl) (hd 12 (by decide)) (fun hg => q_neq (val_grd (val_tmp rfl) hg) val_const) ?_
  refine tq_op (hd 13 (by decide)) (q_or (val_tmp rfl) (fun h => val_grd (val_tmp rfl) (notT h))) ?_
  refine tq_op (hd 14 (by decide)) (q_move (val_tmp rfl)) ?_
  refine tq_opG (g_no rfl rfl) (hd 15 (by decide)) (fun hg => q_move (val_tmp rfl)) ?_
  refine tq_opG (g_no rfl rfl) (hd 16 (by decide)) (fun hg => q_move (val_tmp rfl)) ?_
  refine tq_callG (g_no rfl rfl) en22 (hd 17 (by decide)) (fun hg => (by exact ⟨⟨(val_grd (val_tmp rfl) hg), rfl⟩, ⟨(val_grd (val_tmp rfl) hg), rfl⟩, trivial⟩)) (fun hg => holds_ct l a) ?_
  refine tq_opG (g_no rfl rfl) (hd 18 (by decide)) (fun hg => q_neq (val_grd (val_tmp rfl) hg) val_const) ?_
  refine tq_op (hd 19 (by decide)) (q_or (val_tmp rfl) (fun h => val_grd (val_tmp rfl) (notT h))) ?_
  refine tq_op (hd 20 (by decide)) (q_move (val_tmp rfl)) ?_
  refine tq_opG (g_no rfl rfl) (hd 21 (by decide)) (fun hg => q_move (val_tmp rfl)) ?_
  refine tq_opG (g_no rfl rfl) (hd 22 (by decide)) (fun hg => q_move (val_tmp rfl)) ?_
  refine tq_callG (g_no rfl rfl) en22 (hd 23 (by decide)) (fun hg => (by exact ⟨⟨(val_grd (val_tmp rfl) hg), rfl⟩, ⟨(val_grd (val_tmp rfl) hg), rfl⟩, trivial⟩)) (fun hg => holds_ct l b) ?_
  refine tq_opG (g_no rfl rfl) (hd 24 (by decide)) (fun hg => q_neq (val_grd (val_tmp rfl) hg) val_const) ?_
  refine tq_op (hd 25 (by decide)) (q_or (val_tmp rfl) (fun h => val_grd (val_tmp rfl) (notT h))) ?_
  refine tq_nil ?_
  refine c_cond (val_tmp rfl) (fun hc1 => ?_) (fun hc1 => ?_)
  · have hc1s := hc1
    try simp only [Bool.and_eq_true, Bool.or_eq_true, Bool.not_eq_true', Bool.not_eq_false', Bool.or_eq_false_iff, Bool.and_eq_false_iff, decide_eq_true_eq, decide_eq_false_iff_not] at hc1s
    refine c_seq ?_
    refine c_rq ?_
    refine tq_call en18 (hd 26 (by decide)) (by exact trivial) (guarded_ct) ?_
    refine tq_op (hd 6 (by decide)) (q_assign (val_tmp rfl)) ?_
    refine tq_nil ?_
    refine c_ret ?_
    exact ret1 rfl (val_tmp rfl) rfl (by show bv (true) = bv true; rfl)
  · have hc1s := hc1
    try simp only [Bool.and_eq_true, Bool.or_eq_true, Bool.not_eq_true', Bool.not_eq_false', Bool.or_eq_false_iff, Bool.and_eq_false_iff, decide_eq_true_eq, decide_eq_false_iff_not] at hc1s
    obtain ⟨⟨⟨-, hc⟩, hA⟩, hB⟩ := hc1s
    refine c_skip ?_
    refine c_seq ?_
    refine c_seq ?_
    refine c_rq ?_
    refine tq_op (hd 27 (by decide)) (q_move (val_tmp rfl)) ?_
    refine tq_op (hd 28 (by decide)) (q_move (val_tmp rfl)) ?_
    refine tq_op (hd 29 (by decide)) (q_move (val_tmp rfl)) ?_
    refine tq_call en19 (hd 30 (by decide)) (by exact ⟨⟨(val_tmp rfl), rfl⟩, ⟨(val_tmp rfl), rfl⟩, ⟨(val_tmp rfl), rfl⟩, ⟨val_const, rfl⟩, trivial⟩) (May_ct l a b 1) ?_
    refine tq_op (hd 31 (by decide)) (q_move (val_tmp rfl)) ?_
    refine tq_op (hd 32 (by decide)) (q_move (val_tmp rfl)) ?_
    refine tq_op (hd 33 (by decide)) (q_move (val_tmp rfl)) ?_
    refine tq_call en19 (hd 34 (by decide)) (by exact ⟨⟨(val_tmp rfl), rfl⟩, ⟨(val_tmp rfl), rfl⟩, ⟨(val_tmp rfl), rfl⟩, ⟨val_const, rfl⟩, trivial⟩) (May_ct l b a 1) ?_
    refine tq_op (hd 35 (by decide)) (q_neq (val_tmp rfl) (val_tmp rfl)) ?_
    refine tq_op (hd 36 (by decide)) (q_move (val_tmp rfl)) ?_
    refine tq_opG (g_no rfl rfl) (hd 37 (by decide)) (fun hg => q_move (val_tmp rfl)) ?_
    refine tq_opG (g_no rfl rfl) (hd 38 (by decide)) (fun hg => q_move (val_tmp rfl)) ?_
    refine tq_opG (g_no rfl rfl) (hd 39 (by decide)) (fun hg => q_move (val_tmp rfl)) ?_
    refine tq_callG (g_no rfl rfl) en19 (hd 40 (by decide)) (fun hg => (by exact ⟨⟨(val_grd (val_tmp rfl) hg), rfl⟩, ⟨(val_grd (val_tmp rfl) hg), rfl⟩, ⟨(val_grd (val_tmp rfl) hg), rfl⟩, ⟨val_const, rfl⟩, trivial⟩)) (fun hg => May_ct l a b 2) ?_
    refine tq_opG (g_no rfl rfl) (hd 41 (by decide)) (fun hg => q_neq (val_grd (val_tmp rfl) hg) val_const) ?_
    refine tq_op (hd 42 (by decide)) (q_or (val_tmp rfl) (fun h => val_grd (val_tmp rfl) (notT h))) ?_
    refine tq_op (hd 43 (by decide)) (q_move (val_tmp rfl)) ?_
    refine tq_opG (g_no rfl rfl) (hd 44 (by decide)) (fun hg => q_move (val_tmp rfl)) ?_
    refine tq_opG (g_no rfl rfl) (hd 45 (by decide)) (fun hg => q_move (val_tmp rfl)) ?_
    refine tq_opG (g_no rfl rfl) (hd 46 (by decide)) (fun hg => q_move (val_tmp rfl)) ?_
    refine tq_callG (g_no rfl rfl) en19 (hd 47 (by decide)) (fun hg => (by exact ⟨⟨(val_grd (val_tmp rfl) hg), rfl⟩, ⟨(val_grd (val_tmp rfl) hg), rfl⟩, ⟨(val_grd (val_tmp rfl) hg), rfl⟩, ⟨val_const, rfl⟩, trivial⟩)) (fun hg => May_ct l a a 1) ?_
    refine tq_opG (g_no rfl rfl) (hd 48 (by decide)) (fun hg => q_neq (val_grd (val_tmp rfl) hg) val_const) ?_
    refine tq_op (hd 49 (by decide)) (q_or (val_tmp rfl) (fun h => val_grd (val_tmp rfl) (notT h))) ?_
    refine tq_nil ?_
    refine c_cond (val_tmp rfl) (fun hc2 => ?_) (fun hc2 => ?_)
    · have hc2s := hc2
      try simp only [Bool.and_eq_true, Bool.or_eq_true, Bool.not_eq_true', Bool.not_eq_false', Bool.or_eq_false_iff, Bool.and_eq_false_iff, decide_eq_true_eq, decide_eq_false_iff_not] at hc2s
      exact absurd hc2 (ff (one_1 hc hA hB))
      --done
    · have hc2s := hc2
      try simp only [Bool.and_eq_true, Bool.or_eq_true, Bool.not_eq_true', Bool.not_eq_false', Bool.or_eq_false_iff, Bool.and_eq_false_iff, decide_eq_true_eq, decide_eq_false_iff_not] at hc2s
      refine c_skip ?_
      refine c_seq ?_
      refine c_seq ?_
      refine c_rq ?_
      refine tq_op (hd 50 (by decide)) (q_move (val_tmp rfl)) ?_
      refine tq_op (hd 51 (by decide)) (q_move (val_tmp rfl)) ?_
      refine tq_op (hd 52 (by decide)) (q_move (val_tmp rfl)) ?_
      refine tq_call en19 (hd 53 (by decide)) (by exact ⟨⟨(val_tmp rfl), rfl⟩, ⟨(val_tmp rfl), rfl⟩, ⟨(val_tmp rfl), rfl⟩, ⟨val_const, rfl⟩, trivial⟩) (May_ct l a b 4) ?_
      refine tq_op (hd 54 (by decide)) (q_eql (val_tmp rfl) val_const) ?_
      refine tq_op (hd 55 (by decide)) (q_move (val_tmp rfl)) ?_
      refine tq_opG (g_yes rfl rfl) (hd 56 (by decide)) (fun hg => q_move (val_tmp rfl)) ?_
      refine tq_opG (g_yes rfl rfl) (hd 57 (by decide)) (fun hg => q_move (val_tmp rfl)) ?_
      refine tq_opG (g_yes rfl rfl) (hd 58 (by decide)) (fun hg => q_move (val_tmp rfl)) ?_
      refine tq_callG (g_yes rfl rfl) en19 (hd 59 (by decide)) (fun hg => (by exact ⟨⟨(val_grd (val_tmp rfl) hg), rfl⟩, ⟨(val_grd (val_tmp rfl) hg), rfl⟩, ⟨(val_grd (val_tmp rfl) hg), rfl⟩, ⟨val_const, rfl⟩, trivial⟩)) (fun hg => May_ct l b a 4) ?_
      refine tq_opG (g_yes rfl rfl) (hd 60 (by decide)) (fun hg => q_eql (val_grd (val_tmp rfl) hg) val_const) ?_
      refine tq_op (hd 61 (by decide)) (q_and (val_tmp rfl) (fun h => val_grd (val_tmp rfl) h)) ?_
      refine tq_nil ?_
      refine c_cond (val_tmp rfl) (fun hc3 => ?_) (fun hc3 => ?_)
      · have hc3s := hc3
        try simp only [Bool.and_eq_true, Bool.or_eq_true, Bool.not_eq_true', Bool.not_eq_false', Bool.or_eq_false_iff, Bool.and_eq_false_iff, decide_eq_true_eq, decide_eq_false_iff_not] at hc3s
        exact absurd hc3 (ff (one_2 hc hA hB))
        --done
      · have hc3s := hc3
        try simp only [Bool.and_eq_true, Bool.or_eq_true, Bool.not_eq_true', Bool.not_eq_false', Bool.or_eq_false_iff, Bool.and_eq_false_iff, decide_eq_true_eq, decide_eq_false_iff_not] at hc3s
        refine c_skip ?_
        refine c_seq ?_
        refine c_rq ?_
        refine tq_op (hd 62 (by decide)) (q_move (val_tmp rfl)) ?_
        refine tq_op (hd 63 (by decide)) (q_move (val_tmp rfl)) ?_
        refine tq_op (hd 64 (by decide)) (q_move (val_tmp rfl)) ?_
        refine tq_call en23 (hd 65 (by decide)) (by exact ⟨⟨(val_tmp rfl), rfl⟩, ⟨(val_tmp rfl), rfl⟩, ⟨(val_tmp rfl), rfl⟩, trivial⟩) (within_ct l b a) ?_
        refine tq_op (hd 66 (by decide)) (q_not (val_tmp rfl)) ?_
        refine tq_op (hd 67 (by decide)) (q_move (val_tmp rfl)) ?_
        refine tq_opG (g_no rfl rfl) (hd 68 (by decide)) (fun hg => q_move (val_tmp rfl)) ?_
        refine tq_opG (g_no rfl rfl) (hd 69 (by decide)) (fun hg => q_move (val_tmp rfl)) ?_
        refine tq_opG (g_no rfl rfl) (hd 70 (by decide)) (fun hg => q_move (val_tmp rfl)) ?_
        refine tq_callG (g_no rfl rfl) en19 (hd 71 (by decide)) (fun hg => (by exact ⟨⟨(val_grd (val_tmp rfl) hg), rfl⟩, ⟨(val_grd (val_tmp rfl) hg), rfl⟩, ⟨(val_grd (val_tmp rfl) hg), rfl⟩, ⟨val_const, rfl⟩, trivial⟩)) (fun hg => May_ct l a a 3) ?_
        refine tq_opG (g_no rfl rfl) (hd 72 (by decide)) (fun hg => q_eql (val_grd (val_tmp rfl) hg) val_const) ?_
        refine tq_op (hd 73 (by decide)) (q_or (val_tmp rfl) (fun h => val_grd (val_tmp rfl) (notT h))) ?_
        refine tq_op (hd 74 (by decide)) (q_move (val_tmp rfl)) ?_
        refine tq_opG (g_no rfl rfl) (hd 75 (by decide)) (fun hg => q_move (val_tmp rfl)) ?_
        refine tq_opG (g_no rfl rfl) (hd 76 (by decide)) (fun hg => q_move (val_tmp rfl)) ?_
        refine tq_opG (g_no rfl rfl) (hd 77 (by decide)) (fun hg => q_move (val_tmp rfl)) ?_
        refine tq_callG (g_no rfl rfl) en19 (hd 78 (by decide)) (fun hg => (by exact ⟨⟨(val_grd (val_tmp rfl) hg), rfl⟩, ⟨(val_grd (val_tmp rfl) hg), rfl⟩, ⟨(val_grd (val_tmp rfl) hg), rfl⟩, ⟨val_const, rfl⟩, trivial⟩)) (fun hg => May_ct l b a 3) ?_
        refine tq_opG (g_no rfl rfl) (hd 79 (by decide)) (fun hg => q_eql (val_grd (val_tmp rfl) hg) val_const) ?_
        refine tq_op (hd 80 (by decide)) (q_or (val_tmp rfl) (fun h => val_grd (val_tmp rfl) (notT h))) ?_
        refine tq_op (hd 6 (by decide)) (q_assign (val_tmp rfl)) ?_
        refine tq_nil ?_
        refine c_ret ?_
        exact ret1 rfl (val_tmp rfl) rfl (by show bv (((!(withinFr l b a)) || (decide (MayFr l a a 3 = 0))) || (decide (MayFr l b a 3 = 7))) = bv true; rw [one_3 hc hA hB])

end Go.Proofs.Ytghkpailmdlhgaa
