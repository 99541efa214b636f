import Derived.Test.YtghkpailmdlhgaaW2
set_option linter.unusedVariables false
set_option linter.unusedSimpArgs false
namespace Go.Proofs.Ytghkpailmdlhgaa
open Go.RowKit Go.Eng
/-- glasshouse/glasshouseref.CheckFrames -/
theorem rcheck_ct (l : List Fr) : Ct Try.prog 47 [frRow l] (iv (checkFr l)) := by
  refine ct_of Try.func47 rfl (by show 1 ≤ 76; decide) fun E hN => ?_
  have hd : ∀ d, d < 76 → d < E.N := fun d h => Nat.lt_of_lt_of_eq h hN.symm
  refine row_len (val_tmp (s := 0) rfl) fun hl0 => ?_
  refine c_seq ?_
  refine c_rq ?_
  refine tq_op (hd 2 (by decide)) (q_assign val_const) ?_
  refine tq_nil ?_
  refine c_seq ?_
  refine c_seq ?_
  refine c_rq ?_
  refine tq_op (hd 6 (by decide)) (q_move (val_tmp rfl)) ?_
  refine tq_op (hd 7 (by decide)) (q_len (val_tmp rfl) ts27) ?_
  refine tq_op (hd 8 (by decide)) (q_gtr (val_tmp rfl) val_const) ?_
  refine tq_nil ?_
  refine c_cond (val_tmp rfl) (fun hc1 => ?_) (fun hc1 => ?_)
  · have hc1s := hc1
    try simp only [Bool.and_eq_true, Bool.or_eq_true, Bool.not_eq_true', Bool.not_eq_false', Bool.or_eq_false_iff, Bool.and_eq_false_iff, decide_eq_true_eq, decide_eq_false_iff_not] at hc1s
    refine c_seq ?_
    refine c_rq ?_
    refine tq_op (hd 2 (by decide)) (q_assign val_const) ?_
    refine tq_nil ?_
    refine c_ret ?_
    exact ret1 rfl (val_tmp rfl) rfl (by show iv (1) = iv (checkFr l); rw [checkFr_1 hc1s])
  · have hc1s := hc1
    try simp only [Bool.and_eq_true, Bool.or_eq_true, Bool.not_eq_true', Bool.not_eq_false', Bool.or_eq_false_iff, Bool.and_eq_false_iff, decide_eq_true_eq, decide_eq_false_iff_not] at hc1s
    refine c_skip ?_
    refine c_seq ?_
    refine c_seq ?_
    refine c_rq ?_
    refine tq_op (hd 9 (by decide)) (q_move (val_tmp rfl)) ?_
    refine tq_op (hd 10 (by decide)) (q_len (val_tmp rfl) ts27) ?_
    refine tq_op (hd 11 (by decide)) (q_move val_const) ?_
    refine tq_nil ?_
    refine c_block ?_
    refine c_loop (fun (i : Nat) => (⟨[(0, frRow l), (9, frRow l), (10, iv ((l.length : Int))), (11, iv ((i : Int)))], []⟩ : St)) (fun (i : Nat) => i ≤ l.length ∧ checkFr l = firstErr (frErr l) i (l.length - i) ∧ okPre l i) (fun (i : Nat) => l.length - i) 0 ?_ ?_ ?_
    · show 0 ≤ l.length ∧ checkFr l = firstErr (frErr l) 0 (l.length - 0) ∧ okPre l 0
      exact ⟨Nat.zero_le _, checkFr_s hc1s, fun j hj => absurd hj (Nat.not_lt_zero _)⟩
    · refine weakE (sl := [(0, frRow l), (9, frRow l), (10, iv ((l.length : Int))), (11, iv ((0 : Int)))]) (ow := []) ?_ ?_
      · exact ⟨val_tmp rfl, val_tmp rfl, val_tmp rfl, val_tmp rfl, trivial⟩
      · exact trivial
    · rintro i hI1
      have hJ1 : i ≤ l.length ∧ checkFr l = firstErr (frErr l) i (l.length - i) ∧ okPre l i := hI1
      refine c_seq ?_
      refine c_rq ?_
      refine tq_op (hd 12 (by decide)) (q_lss (val_tmp rfl) (val_tmp rfl)) ?_
      refine tq_nil ?_
      refine c_seq ?_
      refine c_cond (val_tmp rfl) (fun hc2 => ?_) (fun hc2 => ?_)
      · have hc2s := hc2
        try simp only [Bool.and_eq_true, Bool.or_eq_true, Bool.not_eq_true', Bool.not_eq_false', Bool.or_eq_false_iff, Bool.and_eq_false_iff, decide_eq_true_eq, decide_eq_false_iff_not] at hc2s
        have hil : i < l.length := by clear hI1 hJ1; omega
        refine c_skip ?_
        refine c_seq ?_
        refine c_block ?_
        refine c_seq ?_
        refine c_rt ?_
        refine t_op (hd 13 (by decide)) (q_move (val_tmp rfl)) ?_
        refine t_op (hd 14 (by decide)) (q_idxN (i := i) (val_tmp rfl) (val_tmp rfl) ts27 te27 (by clear hI1 hJ1; omega)) ?_
        refine t_op (hd 15 (by decide)) (q_ldA (val_tmp rfl) Try.isAgg47 Try.sizeOf47 (by decide)) ?_
        refine t_alloc 1 (hd 4 (by decide)) zero47 rfl rfl ?_
        refine t_op (hd 3 (by decide)) (q_assign (val_tmp rfl)) ?_
        refine t_stA (val_tmp rfl) rfl (val_tmp rfl) Try.sizeOf47 ?_
        refine t_nil ?_
        refine c_seq ?_
        refine c_seq ?_
        refine c_rq ?_
        refine tq_op (hd 16 (by decide)) (q_move (val_tmp rfl)) ?_
        refine tq_op (hd 17 (by decide)) (q_eql (val_tmp rfl) val_const) ?_
        refine tq_op (hd 18 (by decide)) (q_move (val_tmp rfl)) ?_
        refine tq_opG (g_yes rfl rfl) (hd 19 (by decide)) (fun hg => q_fldB _ _ (val_tmp rfl) Try.underlying47 rfl 0 (fun w => Try.sizeOf3 w)) ?_
        refine tq_opG (g_yes rfl rfl) (hd 20 (by decide)) (fun hg => q_ldB (val_grd (val_tmp rfl) hg) rfl Try.isAgg3 (by decide)) ?_
        refine tq_opG (g_yes rfl rfl) (hd 21 (by decide)) (fun hg => q_neq (val_grd (val_tmp rfl) hg) val_const) ?_
        refine tq_op (hd 22 (by decide)) (q_and (val_tmp rfl) (fun h => val_grd (val_tmp rfl) h)) ?_
        refine tq_op (hd 23 (by decide)) (q_move (val_tmp rfl)) ?_
        refine tq_opG (g_no rfl rfl) (hd 24 (by decide)) (fun hg => q_move (val_tmp rfl)) ?_
        refine tq_opG (g_no rfl rfl) (hd 25 (by decide)) (fun hg => q_gtr (val_grd (val_tmp rfl) hg) val_const) ?_
        refine tq_opG (g_no rfl rfl) (hd 26 (by decide)) (fun hg => q_move (val_grd (val_tmp rfl) hg)) ?_
        refine tq_opG (g_gyes rfl rfl) (hd 27 (by decide)) (fun hg => q_fldB _ _ (val_tmp rfl) Try.underlying47 rfl 0 (fun w => Try.sizeOf3 w)) ?_
        refine tq_opG (g_gyes rfl rfl) (hd 28 (by decide)) (fun hg => q_ldB (val_grd (val_tmp rfl) hg) rfl Try.isAgg3 (by decide)) ?_
        refine tq_opG (g_gyes rfl rfl) (hd 29 (by decide)) (fun hg => q_move (val_tmp rfl)) ?_
        refine tq_opG (g_gyes rfl rfl) (hd 30 (by decide)) (fun hg => q_sub (val_grd (val_tmp rfl) hg) val_const (by clear hI1 hJ1; omega)) ?_
        refine tq_callG (g_gyes rfl rfl) en70 (hd 31 (by decide)) (fun hg => (by exact ⟨⟨(val_grd (val_tmp rfl) hg), rfl⟩, ⟨val_const, rfl⟩, ⟨(val_grd (val_tmp rfl) hg), rfl⟩, trivial⟩)) (fun hg => in_ct ((l.getD i default).par) 0 (((i : Int)) - 1)) ?_
        refine tq_opG (g_gyes rfl rfl) (hd 32 (by decide)) (fun hg => q_not (val_grd (val_tmp rfl) hg)) ?_
        refine tq_opG (g_no rfl rfl) (hd 33 (by decide)) (fun hg => q_and (val_grd (val_tmp rfl) hg) (fun h => val_grd (val_tmp rfl) (andI hg h))) ?_
        refine tq_op (hd 34 (by decide)) (q_or (val_tmp rfl) (fun h => val_grd (val_tmp rfl) (notT h))) ?_
        refine tq_nil ?_
        refine c_cond (val_tmp rfl) (fun hc3 => ?_) (fun hc3 => ?_)
        · have hc3s := hc3
          try simp only [Bool.and_eq_true, Bool.or_eq_true, Bool.not_eq_true', Bool.not_eq_false', Bool.or_eq_false_iff, Bool.and_eq_false_iff, decide_eq_true_eq, decide_eq_false_iff_not] at hc3s
          refine c_seq ?_
          refine c_rq ?_
          refine tq_op (hd 2 (by decide)) (q_assign val_const) ?_
          refine tq_nil ?_
          refine c_ret ?_
          exact ret1 rfl (val_tmp rfl) rfl (by show iv (4) = iv (checkFr l); rw [firstErr_hit hil hJ1.2.1 (frErr_4 (rwho_eq.symm.trans hc3)) (by decide)])
        · have hc3s := hc3
          try simp only [Bool.and_eq_true, Bool.or_eq_true, Bool.not_eq_true', Bool.not_eq_false', Bool.or_eq_false_iff, Bool.and_eq_false_iff, decide_eq_true_eq, decide_eq_false_iff_not] at hc3s
          have hw : frWho i (l.getD i default) = false := rwho_eq.symm.trans hc3
          have hwb := who_bounds hw
          refine c_skip ?_
          refine c_seq ?_
          refine c_seq ?_
          refine c_rq ?_
          refine tq_op (hd 35 (by decide)) (q_fldB _ _ (val_tmp rfl) Try.underlying47 rfl 0 (fun w => Try.sizeOf3 w)) ?_
          refine tq_op (hd 36 (by decide)) (q_ldB (val_tmp rfl) rfl Try.isAgg3 (by decide)) ?_
          refine tq_call en70 (hd 37 (by decide)) (by exact ⟨⟨(val_tmp rfl), rfl⟩, ⟨val_const, rfl⟩, ⟨val_const, rfl⟩, trivial⟩) (in_ct ((l.getD i default).org) 0 9) ?_
          refine tq_op (hd 38 (by decide)) (q_not (val_tmp rfl)) ?_
          refine tq_op (hd 39 (by decide)) (q_move (val_tmp rfl)) ?_
          refine tq_opG (g_no rfl rfl) (hd 40 (by decide)) (fun hg => q_fldB _ _ (val_tmp rfl) Try.underlying47 rfl 0 (fun w => Try.sizeOf3 w)) ?_
          refine tq_opG (g_no rfl rfl) (hd 41 (by decide)) (fun hg => q_ldB (val_grd (val_tmp rfl) hg) rfl Try.isAgg3 (by decide)) ?_
          refine tq_callG (g_no rfl rfl) en70 (hd 42 (by decide)) (fun hg => (by exact ⟨⟨(val_grd (val_tmp rfl) hg), rfl⟩, ⟨val_const, rfl⟩, ⟨val_const, rfl⟩, trivial⟩)) (fun hg => in_ct ((l.getD i default).may) 0 7) ?_
          refine tq_opG (g_no rfl rfl) (hd 43 (by decide)) (fun hg => q_not (val_grd (val_tmp rfl) hg)) ?_
          refine tq_op (hd 44 (by decide)) (q_or (val_tmp rfl) (fun h => val_grd (val_tmp rfl) (notT h))) ?_
          refine tq_op (hd 45 (by decide)) (q_move (val_tmp rfl)) ?_
          refine tq_opG (g_no rfl rfl) (hd 46 (by decide)) (fun hg => q_fldB _ _ (val_tmp rfl) Try.underlying47 rfl 0 (fun w => Try.sizeOf3 w)) ?_
          refine tq_opG (g_no rfl rfl) (hd 47 (by decide)) (fun hg => q_ldB (val_grd (val_tmp rfl) hg) rfl Try.isAgg3 (by decide)) ?_
          refine tq_callG (g_no rfl rfl) en70 (hd 48 (by decide)) (fun hg => (by exact ⟨⟨(val_grd (val_tmp rfl) hg), rfl⟩, ⟨val_const, rfl⟩, ⟨val_const, rfl⟩, trivial⟩)) (fun hg => in_ct ((l.getD i default).turn) 0 1000) ?_
          refine tq_opG (g_no rfl rfl) (hd 49 (by decide)) (fun hg => q_not (val_grd (val_tmp rfl) hg)) ?_
          refine tq_op (hd 50 (by decide)) (q_or (val_tmp rfl) (fun h => val_grd (val_tmp rfl) (notT h))) ?_
          refine tq_nil ?_
          refine c_cond (val_tmp rfl) (fun hc4 => ?_) (fun hc4 => ?_)
          · have hc4s := hc4
            try simp only [Bool.and_eq_true, Bool.or_eq_true, Bool.not_eq_true', Bool.not_eq_false', Bool.or_eq_false_iff, Bool.and_eq_false_iff, decide_eq_true_eq, decide_eq_false_iff_not] at hc4s
            refine c_seq ?_
            refine c_rq ?_
            refine tq_op (hd 2 (by decide)) (q_assign val_const) ?_
            refine tq_nil ?_
            refine c_ret ?_
            exact ret1 rfl (val_tmp rfl) rfl (by show iv (2) = iv (checkFr l); rw [firstErr_hit hil hJ1.2.1 (frErr_2 hw (rrange_eq.symm.trans hc4)) (by decide)])
          · have hc4s := hc4
            try simp only [Bool.and_eq_true, Bool.or_eq_true, Bool.not_eq_true', Bool.not_eq_false', Bool.or_eq_false_iff, Bool.and_eq_false_iff, decide_eq_true_eq, decide_eq_false_iff_not] at hc4s
            have hr : frRange (l.getD i default) = false := rrange_eq.symm.trans hc4
            refine c_skip ?_
            refine c_seq ?_
            refine c_rq ?_
            refine tq_op (hd 51 (by decide)) (q_move (val_tmp rfl)) ?_
            refine tq_op (hd 52 (by decide)) (q_gtr (val_tmp rfl) val_const) ?_
            refine tq_nil ?_
            refine c_cond (val_tmp rfl) (fun hc5 => ?_) (fun hc5 => ?_)
            · have hc5s := hc5
              try simp only [Bool.and_eq_true, Bool.or_eq_true, Bool.not_eq_true', Bool.not_eq_false', Bool.or_eq_false_iff, Bool.and_eq_false_iff, decide_eq_true_eq, decide_eq_false_iff_not] at hc5s
              have hpl : (l.getD i default).par.toNat < i := by clear hI1 hJ1; omega
              have hr1 := range_bounds hr
              have hr2 := range_bounds (hJ1.2.2 _ hpl)
              refine c_seq ?_
              refine c_rt ?_
              refine t_op (hd 53 (by decide)) (q_move (val_tmp rfl)) ?_
              refine t_op (hd 54 (by decide)) (q_fldB _ _ (val_tmp rfl) Try.underlying47 rfl 0 (fun w => Try.sizeOf3 w)) ?_
              refine t_op (hd 55 (by decide)) (q_ldB (val_tmp rfl) rfl Try.isAgg3 (by decide)) ?_
              refine t_op (hd 56 (by decide)) (q_idx (val_tmp rfl) (val_tmp rfl) ts27 te27 (by clear hI1 hJ1; omega) (by clear hI1 hJ1; omega)) ?_
              refine t_op (hd 57 (by decide)) (q_ldA (val_tmp rfl) Try.isAgg47 Try.sizeOf47 (by decide)) ?_
              refine t_alloc 2 (hd 5 (by decide)) zero47 rfl rfl ?_
              refine t_stA (val_tmp rfl) rfl (val_tmp rfl) Try.sizeOf47 ?_
              refine t_nil ?_
              refine c_seq ?_
              refine c_rq ?_
              refine tq_op (hd 58 (by decide)) (q_fldB _ _ (val_tmp rfl) Try.underlying47 rfl 0 (fun w => Try.sizeOf3 w)) ?_
              refine tq_op (hd 59 (by decide)) (q_ldB (val_tmp rfl) rfl Try.isAgg3 (by decide)) ?_
              refine tq_op (hd 60 (by decide)) (q_fldB _ _ (val_tmp rfl) Try.underlying47 rfl 0 (fun w => Try.sizeOf3 w)) ?_
              refine tq_op (hd 61 (by decide)) (q_ldB (val_tmp rfl) rfl Try.isAgg3 (by decide)) ?_
              refine tq_op (hd 62 (by decide)) (q_or64 (val_tmp rfl) (val_tmp rfl)) ?_
              refine tq_op (hd 63 (by decide)) (q_fldB _ _ (val_tmp rfl) Try.underlying47 rfl 0 (fun w => Try.sizeOf3 w)) ?_
              refine tq_op (hd 64 (by decide)) (q_ldB (val_tmp rfl) rfl Try.isAgg3 (by decide)) ?_
              refine tq_op (hd 65 (by decide)) (q_neq (val_tmp rfl) (val_tmp rfl)) ?_
              refine tq_op (hd 66 (by decide)) (q_move (val_tmp rfl)) ?_
              refine tq_opG (g_no rfl rfl) (hd 67 (by decide)) (fun hg => q_fldB _ _ (val_tmp rfl) Try.underlying47 rfl 0 (fun w => Try.sizeOf4 w)) ?_
              refine tq_opG (g_no rfl rfl) (hd 68 (by decide)) (fun hg => q_ldB (val_grd (val_tmp rfl) hg) rfl Try.isAgg4 (by decide)) ?_
              refine tq_opG (g_no rfl rfl) (hd 69 (by decide)) (fun hg => q_move (val_grd (val_tmp rfl) hg)) ?_
              refine tq_opG (g_gyes rfl rfl) (hd 70 (by decide)) (fun hg => q_fldB _ _ (val_tmp rfl) Try.underlying47 rfl 0 (fun w => Try.sizeOf4 w)) ?_
              refine tq_opG (g_gyes rfl rfl) (hd 71 (by decide)) (fun hg => q_ldB (val_grd (val_tmp rfl) hg) rfl Try.isAgg4 (by decide)) ?_
              refine tq_opG (g_gyes rfl rfl) (hd 72 (by decide)) (fun hg => q_not (val_grd (val_tmp rfl) hg)) ?_
              refine tq_opG (g_no rfl rfl) (hd 73 (by decide)) (fun hg => q_and (val_grd (val_tmp rfl) hg) (fun h => val_grd (val_tmp rfl) (andI hg h))) ?_
              refine tq_op (hd 74 (by decide)) (q_or (val_tmp rfl) (fun h => val_grd (val_tmp rfl) (notT h))) ?_
              refine tq_nil ?_
              refine c_cond (val_tmp rfl) (fun hc6 => ?_) (fun hc6 => ?_)
              · have hc6s := hc6
                try simp only [Bool.and_eq_true, Bool.or_eq_true, Bool.not_eq_true', Bool.not_eq_false', Bool.or_eq_false_iff, Bool.and_eq_false_iff, decide_eq_true_eq, decide_eq_false_iff_not] at hc6s
                have hf : frForm (l.getD i default) (l.getD (l.getD i default).par.toNat default) = true := (rform_eq ⟨hr1.2.2.1, hr1.2.2.2.1⟩ ⟨hr2.2.2.1, hr2.2.2.2.1⟩).symm.trans hc6
                refine c_seq ?_
                refine c_rq ?_
                refine tq_op (hd 2 (by decide)) (q_assign val_const) ?_
                refine tq_nil ?_
                refine c_ret ?_
                exact ret1 rfl (val_tmp rfl) rfl (by show iv (3) = iv (checkFr l); rw [firstErr_hit hil hJ1.2.1 (frErr_3 hw hr (by rw [hc5, hf]; rfl)) (by decide)])
              · have hc6s := hc6
                try simp only [Bool.and_eq_true, Bool.or_eq_true, Bool.not_eq_true', Bool.not_eq_false', Bool.or_eq_false_iff, Bool.and_eq_false_iff, decide_eq_true_eq, decide_eq_false_iff_not] at hc6s
                have hf : frForm (l.getD i default) (l.getD (l.getD i default).par.toNat default) = false := (rform_eq ⟨hr1.2.2.1, hr1.2.2.2.1⟩ ⟨hr2.2.2.1, hr2.2.2.2.1⟩).symm.trans hc6
                refine c_skip ?_
                refine c_rq ?_
                refine tq_op (hd 75 (by decide)) (q_add (val_tmp rfl) val_const (by clear hI1 hJ1; omega)) ?_
                refine tq_op (hd 11 (by decide)) (q_move (val_tmp rfl)) ?_
                refine tq_nil ?_
                refine c_next (i + 1) ?_ ?_ ?_
                · show (i + 1) ≤ l.length ∧ checkFr l = firstErr (frErr l) (i + 1) (l.length - (i + 1)) ∧ okPre l (i + 1)
                  exact ⟨by clear hI1 hJ1; omega, firstErr_next hil hJ1.2.1 (frErr_0 hw hr (by rw [hc5, hf]; rfl)), okPre_s hJ1.2.2 hr⟩
                · show l.length - (i + 1) < l.length - i
                  clear hI1 hJ1; omega
                · refine weakE (sl := [(0, frRow l), (9, frRow l), (10, iv ((l.length : Int))), (11, iv (((i + 1) : Int)))]) (ow := []) ?_ ?_
                  · exact ⟨val_tmp rfl, val_tmp rfl, val_tmp rfl, val_tmp rfl, trivial⟩
                  · exact trivial
            · have hc5s := hc5
              try simp only [Bool.and_eq_true, Bool.or_eq_true, Bool.not_eq_true', Bool.not_eq_false', Bool.or_eq_false_iff, Bool.and_eq_false_iff, decide_eq_true_eq, decide_eq_false_iff_not] at hc5s
              refine c_skip ?_
              refine c_rq ?_
              refine tq_op (hd 75 (by decide)) (q_add (val_tmp rfl) val_const (by clear hI1 hJ1; omega)) ?_
              refine tq_op (hd 11 (by decide)) (q_move (val_tmp rfl)) ?_
              refine tq_nil ?_
              refine c_next (i + 1) ?_ ?_ ?_
              · show (i + 1) ≤ l.length ∧ checkFr l = firstErr (frErr l) (i + 1) (l.length - (i + 1)) ∧ okPre l (i + 1)
                exact ⟨by clear hI1 hJ1; omega, firstErr_next hil hJ1.2.1 (frErr_0 hw hr (by rw [hc5]; rfl)), okPre_s hJ1.2.2 hr⟩
              · show l.length - (i + 1) < l.length - i
                clear hI1 hJ1; omega
              · refine weakE (sl := [(0, frRow l), (9, frRow l), (10, iv ((l.length : Int))), (11, iv (((i + 1) : Int)))]) (ow := []) ?_ ?_
                · exact ⟨val_tmp rfl, val_tmp rfl, val_tmp rfl, val_tmp rfl, trivial⟩
                · exact trivial
      · have hc2s := hc2
        try simp only [Bool.and_eq_true, Bool.or_eq_true, Bool.not_eq_true', Bool.not_eq_false', Bool.or_eq_false_iff, Bool.and_eq_false_iff, decide_eq_true_eq, decide_eq_false_iff_not] at hc2s
        have hil : l.length ≤ i := by clear hI1 hJ1; omega
        refine c_exit ?_
        refine c_seq ?_
        refine c_rq ?_
        refine tq_op (hd 2 (by decide)) (q_assign val_const) ?_
        refine tq_nil ?_
        refine c_ret ?_
        exact ret1 rfl (val_tmp rfl) rfl (by show iv (0) = iv (checkFr l); rw [firstErr_end hil hJ1.2.1])

/-- glasshouse/glasshouseref.framed -/
theorem rframed_ct (l : List Fr) (ks : List Int) : Ct Try.prog 65 [frRow l, inRow ks] (iv (framedFr l ks)) := by
  refine ct_of Try.func65 rfl (by show 2 ≤ 23; decide) fun E hN => ?_
  have hd : ∀ d, d < 23 → d < E.N := fun d h => Nat.lt_of_lt_of_eq h hN.symm
  refine row_len (val_tmp (s := 0) rfl) fun hl0 => ?_
  refine row_len (val_tmp (s := 1) rfl) fun hl1 => ?_
  refine c_seq ?_
  refine c_rq ?_
  refine tq_op (hd 4 (by decide)) (q_assign val_const) ?_
  refine tq_nil ?_
  refine c_seq ?_
  refine c_rq ?_
  refine tq_op (hd 8 (by decide)) (q_move (val_tmp rfl)) ?_
  refine tq_call en47 (hd 9 (by decide)) (by exact ⟨⟨(val_tmp rfl), rfl⟩, trivial⟩) (rcheck_ct l) ?_
  refine tq_op (hd 5 (by decide)) (q_assign (val_tmp rfl)) ?_
  refine tq_nil ?_
  refine c_seq ?_
  refine c_seq ?_
  refine c_rq ?_
  refine tq_op (hd 10 (by decide)) (q_move (val_tmp rfl)) ?_
  refine tq_op (hd 11 (by decide)) (q_len (val_tmp rfl) ts24) ?_
  refine tq_op (hd 12 (by decide)) (q_move val_const) ?_
  refine tq_nil ?_
  refine c_block ?_
  refine c_loop (uc2 fun (i : Nat) (r0 : Int) => (⟨[(0, frRow l), (5, iv (r0)), (10, inRow ks), (11, iv ((ks.length : Int))), (12, iv ((i : Int)))], []⟩ : St)) (uc2 fun (i : Nat) (r0 : Int) => i ≤ ks.length ∧ r0 = (ks.take i).foldl (fun r k => if r = 0 then holdsFr l k else r) (checkFr l)) (uc2 fun (i : Nat) (r0 : Int) => ks.length - i) (0, checkFr l) ?_ ?_ ?_
  · show 0 ≤ ks.length ∧ (checkFr l) = (ks.take 0).foldl (fun r k => if r = 0 then holdsFr l k else r) (checkFr l)
    exact ⟨Nat.zero_le _, rfl⟩
  · refine weakE (sl := [(0, frRow l), (5, iv ((checkFr l))), (10, inRow ks), (11, iv ((ks.length : Int))), (12, iv ((0 : Int)))]) (ow := []) ?_ ?_
    · exact ⟨val_tmp rfl, val_tmp rfl, val_tmp rfl, val_tmp rfl, val_tmp rfl, trivial⟩
    · exact trivial
  · rintro ⟨i, r0⟩ hI1
    have hJ1 : i ≤ ks.length ∧ r0 = (ks.take i).foldl (fun r k => if r = 0 then holdsFr l k else r) (checkFr l) := hI1
    have hr := hJ1.2
    refine c_seq ?_
    refine c_rq ?_
    refine tq_op (hd 13 (by decide)) (q_lss (val_tmp rfl) (val_tmp rfl)) ?_
    refine tq_nil ?_
    refine c_seq ?_
    refine c_cond (val_tmp rfl) (fun hc1 => ?_) (fun hc1 => ?_)
    · have hc1s := hc1
      try simp only [Bool.and_eq_true, Bool.or_eq_true, Bool.not_eq_true', Bool.not_eq_false', Bool.or_eq_false_iff, Bool.and_eq_false_iff, decide_eq_true_eq, decide_eq_false_iff_not] at hc1s
      refine c_skip ?_
      refine c_seq ?_
      refine c_block ?_
      refine c_seq ?_
      refine c_rq ?_
      refine tq_op (hd 14 (by decide)) (q_idxN (i := i) (val_tmp rfl) (val_tmp rfl) ts24 te24 (by first | omega | (simp only [Bool.and_eq_true, Bool.or_eq_true, Bool.not_eq_true', Bool.not_eq_false', Bool.or_eq_false_iff, Bool.and_eq_false_iff, decide_eq_true_eq, decide_eq_false_iff_not] at *; omega))) ?_
      refine tq_op (hd 15 (by decide)) (q_ld (val_tmp rfl) Try.isAgg3 (by decide)) ?_
      refine tq_op (hd 7 (by decide)) (q_assign (val_tmp rfl)) ?_
      refine tq_nil ?_
      refine c_seq ?_
      refine c_rq ?_
      refine tq_op (hd 16 (by decide)) (q_move (val_tmp rfl)) ?_
      refine tq_op (hd 17 (by decide)) (q_eql (val_tmp rfl) val_const) ?_
      refine tq_nil ?_
      refine c_cond (val_tmp rfl) (fun hc2 => ?_) (fun hc2 => ?_)
      · have hc2s := hc2
        try simp only [Bool.and_eq_true, Bool.or_eq_true, Bool.not_eq_true', Bool.not_eq_false', Bool.or_eq_false_iff, Bool.and_eq_false_iff, decide_eq_true_eq, decide_eq_false_iff_not] at hc2s
        refine c_rq ?_
        refine tq_op (hd 18 (by decide)) (q_move (val_tmp rfl)) ?_
        refine tq_op (hd 19 (by decide)) (q_move (val_tmp rfl)) ?_
        refine tq_call en42 (hd 20 (by decide)) (by exact ⟨⟨(val_tmp rfl), rfl⟩, ⟨(val_tmp rfl), rfl⟩, trivial⟩) (rholds_ct l ((ks.getD i 0))) ?_
        refine tq_op (hd 5 (by decide)) (q_assign (val_tmp rfl)) ?_
        refine tq_nil ?_
        refine c_rq ?_
        refine tq_op (hd 21 (by decide)) (q_add (val_tmp rfl) val_const (by first | omega | (simp only [Bool.and_eq_true, Bool.or_eq_true, Bool.not_eq_true', Bool.not_eq_false', Bool.or_eq_false_iff, Bool.and_eq_false_iff, decide_eq_true_eq, decide_eq_false_iff_not] at *; omega))) ?_
        refine tq_op (hd 12 (by decide)) (q_move (val_tmp rfl)) ?_
        refine tq_nil ?_
        refine c_next ((i + 1, holdsFr l (ks.getD i 0))) ?_ ?_ ?_
        · show (i + 1) ≤ ks.length ∧ (holdsFr l (ks.getD i 0)) = (ks.take (i + 1)).foldl (fun r k => if r = 0 then holdsFr l k else r) (checkFr l)
          exact ⟨by omega, by rw [foldl_take_s _ _ 0 _ _ (by omega), ← hr, if_pos hc2s]⟩
        · show ks.length - (i + 1) < ks.length - i
          omega
        · refine weakE (sl := [(0, frRow l), (5, iv ((holdsFr l (ks.getD i 0)))), (10, inRow ks), (11, iv ((ks.length : Int))), (12, iv (((i + 1) : Int)))]) (ow := []) ?_ ?_
          · exact ⟨val_tmp rfl, val_tmp rfl, val_tmp rfl, val_tmp rfl, val_tmp rfl, trivial⟩
          · exact trivial
      · have hc2s := hc2
        try simp only [Bool.and_eq_true, Bool.or_eq_true, Bool.not_eq_true', Bool.not_eq_false', Bool.or_eq_false_iff, Bool.and_eq_false_iff, decide_eq_true_eq, decide_eq_false_iff_not] at hc2s
        refine c_skip ?_
        refine c_rq ?_
        refine tq_op (hd 21 (by decide)) (q_add (val_tmp rfl) val_const (by first | omega | (simp only [Bool.and_eq_true, Bool.or_eq_true, Bool.not_eq_true', Bool.not_eq_false', Bool.or_eq_false_iff, Bool.and_eq_false_iff, decide_eq_true_eq, decide_eq_false_iff_not] at *; omega))) ?_
        refine tq_op (hd 12 (by decide)) (q_move (val_tmp rfl)) ?_
        refine tq_nil ?_
        refine c_next ((i + 1, r0)) ?_ ?_ ?_
        · show (i + 1) ≤ ks.length ∧ r0 = (ks.take (i + 1)).foldl (fun r k => if r = 0 then holdsFr l k else r) (checkFr l)
          exact ⟨by omega, by rw [foldl_take_s _ _ 0 _ _ (by omega), ← hr, if_neg hc2s]⟩
        · show ks.length - (i + 1) < ks.length - i
          omega
        · refine weakE (sl := [(0, frRow l), (5, iv (r0)), (10, inRow ks), (11, iv ((ks.length : Int))), (12, iv (((i + 1) : Int)))]) (ow := []) ?_ ?_
          · exact ⟨val_tmp rfl, val_tmp rfl, val_tmp rfl, val_tmp rfl, val_tmp rfl, trivial⟩
          · exact trivial
    · have hc1s := hc1
      try simp only [Bool.and_eq_true, Bool.or_eq_true, Bool.not_eq_true', Bool.not_eq_false', Bool.or_eq_false_iff, Bool.and_eq_false_iff, decide_eq_true_eq, decide_eq_false_iff_not] at hc1s
      refine c_exit ?_
      refine c_seq ?_
      refine c_rq ?_
      refine tq_op (hd 22 (by decide)) (q_move (val_tmp rfl)) ?_
      refine tq_op (hd 4 (by decide)) (q_assign (val_tmp rfl)) ?_
      refine tq_nil ?_
      refine c_ret ?_
      exact ret1 rfl (val_tmp rfl) rfl (by show iv (r0) = iv (framedFr l ks); rw [hr, take_all _ _ _ _ (by omega)]; rfl)

/-- glasshouse/glasshouseref.IsWithin -/
theorem rwithin_st {l : List Fr} {k top : Int} (hc : checkFr l = 0) (ih : ∀ k' : Int, k'.toNat < k.toNat ∨ (k' < 0 ∧ 0 ≤ k) → Ct Try.prog 48 [frRow l, iv k', iv top] (bv (withinFr l k' top))) : Ct Try.prog 48 [frRow l, iv (k), iv (top)] (bv (withinFr l k top)) := by
  refine ct_of Try.func48 rfl (by show 3 ≤ 26; decide) fun E hN => ?_
  have hd : ∀ d, d < 26 → d < E.N := fun d h => Nat.lt_of_lt_of_eq h hN.symm
  refine row_len (val_tmp (s := 0) rfl) fun hl0 => ?_
  refine c_seq ?_
  refine c_rq ?_
  refine tq_op (hd 6 (by decide)) (q_assign val_const) ?_
  refine tq_nil ?_
  refine c_seq ?_
  refine c_seq ?_
  refine c_rq ?_
  refine tq_op (hd 7 (by decide)) (q_move (val_tmp rfl)) ?_
  refine tq_op (hd 8 (by decide)) (q_move (val_tmp rfl)) ?_
  refine tq_op (hd 9 (by decide)) (q_len (val_tmp rfl) ts27) ?_
  refine tq_op (hd 10 (by decide)) (q_sub (val_tmp rfl) val_const (by first | omega | (simp only [Bool.and_eq_true, Bool.or_eq_true, Bool.not_eq_true', Bool.not_eq_false', Bool.or_eq_false_iff, Bool.and_eq_false_iff, decide_eq_true_eq, decide_eq_false_iff_not] at *; omega))) ?_
  refine tq_call en70 (hd 11 (by decide)) (by exact ⟨⟨(val_tmp rfl), rfl⟩, ⟨val_const, rfl⟩, ⟨(val_tmp rfl), rfl⟩, trivial⟩) (in_ct k 0 (((l.length : Int)) - 1)) ?_
  refine tq_op (hd 12 (by decide)) (q_not (val_tmp rfl)) ?_
  refine tq_nil ?_
  refine c_cond (val_tmp rfl) (fun hc1 => ?_) (fun hc1 => ?_)
  · have hc1s := hc1
    try simp only [Bool.and_eq_true, Bool.or_eq_true, Bool.not_eq_true', Bool.not_eq_false', Bool.or_eq_false_iff, Bool.and_eq_false_iff, decide_eq_true_eq, decide_eq_false_iff_not] at hc1s
    rw [inI_f] at hc1s
    refine c_seq ?_
    refine c_rq ?_
    refine tq_op (hd 6 (by decide)) (q_assign val_const) ?_
    refine tq_nil ?_
    refine c_ret ?_
    exact ret1 rfl (val_tmp rfl) rfl (by show bv (false) = bv (withinFr l k top); rw [within_out hc1s])
  · have hc1s := hc1
    try simp only [Bool.and_eq_true, Bool.or_eq_true, Bool.not_eq_true', Bool.not_eq_false', Bool.or_eq_false_iff, Bool.and_eq_false_iff, decide_eq_true_eq, decide_eq_false_iff_not] at hc1s
    rw [inI_t] at hc1s
    have hp := parent_lt hc hc1s.1 (by omega)
    refine c_skip ?_
    refine c_seq ?_
    refine c_rq ?_
    refine tq_op (hd 13 (by decide)) (q_move (val_tmp rfl)) ?_
    refine tq_op (hd 14 (by decide)) (q_move (val_tmp rfl)) ?_
    refine tq_op (hd 15 (by decide)) (q_eql (val_tmp rfl) (val_tmp rfl)) ?_
    refine tq_op (hd 16 (by decide)) (q_move (val_tmp rfl)) ?_
    refine tq_opG (g_no rfl rfl) (hd 17 (by decide)) (fun hg => q_move (val_tmp rfl)) ?_
    refine tq_opG (g_no rfl rfl) (hd 18 (by decide)) (fun hg => q_move (val_tmp rfl)) ?_
    refine tq_opG (g_no rfl rfl) (hd 19 (by decide)) (fun hg => q_move (val_tmp rfl)) ?_
    refine tq_opG (g_no rfl rfl) (hd 20 (by decide)) (fun hg => q_idx (val_grd (val_tmp rfl) hg) (val_grd (val_tmp rfl) hg) ts27 te27 (by first | omega | (simp only [Bool.and_eq_true, Bool.or_eq_true, Bool.not_eq_true', Bool.not_eq_false', Bool.or_eq_false_iff, Bool.and_eq_false_iff, decide_eq_true_eq, decide_eq_false_iff_not] at *; omega)) (by first | omega | (simp only [Bool.and_eq_true, Bool.or_eq_true, Bool.not_eq_true', Bool.not_eq_false', Bool.or_eq_false_iff, Bool.and_eq_false_iff, decide_eq_true_eq, decide_eq_false_iff_not] at *; omega))) ?_
    refine tq_opG (g_no rfl rfl) (hd 21 (by decide)) (fun hg => q_fld _ _ (val_grd (val_tmp rfl) hg) Try.underlying47 rfl 0 (fun w => Try.sizeOf3 w)) ?_
    refine tq_opG (g_no rfl rfl) (hd 22 (by decide)) (fun hg => q_ld (val_grd (val_tmp rfl) hg) Try.isAgg3 (by decide)) ?_
    refine tq_opG (g_no rfl rfl) (hd 23 (by decide)) (fun hg => q_move (val_tmp rfl)) ?_
    refine tq_callG (g_no rfl rfl) en48 (hd 24 (by decide)) (fun hg => (by exact ⟨⟨(val_grd (val_tmp rfl) hg), rfl⟩, ⟨(val_grd (val_tmp rfl) hg), rfl⟩, ⟨(val_grd (val_tmp rfl) hg), rfl⟩, trivial⟩)) (fun hg => ih ((l.getD (Int.toNat k) default).par) (by omega)) ?_
    refine tq_op (hd 25 (by decide)) (q_or (val_tmp rfl) (fun h => val_grd (val_tmp rfl) (notT h))) ?_
    refine tq_op (hd 6 (by decide)) (q_assign (val_tmp rfl)) ?_
    refine tq_nil ?_
    refine c_ret ?_
    exact ret1 rfl (val_tmp rfl) rfl (by show bv ((decide (k = top)) || (withinFr l ((l.getD (Int.toNat k) default).par) top)) = bv (withinFr l k top); rw [within_in hc hc1s])

theorem rwithin_all {l : List Fr} (hc : checkFr l = 0) (top : Int) : ∀ (n : Nat) (k : Int), k + 1 < n → Ct Try.prog 48 [frRow l, iv k, iv top] (bv (withinFr l k top))
  | 0, k, h => rwithin_st hc fun k' hk => absurd hk (by omega)
  | n + 1, k, h => rwithin_st hc fun k' hk => rwithin_all hc top n k' (by omega)
theorem rwithin_ct {l : List Fr} (hc : checkFr l = 0) (k top : Int) : Ct Try.prog 48 [frRow l, iv k, iv top] (bv (withinFr l k top)) := rwithin_all hc top (k.toNat + 2) k (by omega)

end Go.Proofs.Ytghkpailmdlhgaa
