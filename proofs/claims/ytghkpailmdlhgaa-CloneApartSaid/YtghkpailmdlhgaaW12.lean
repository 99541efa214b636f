import Derived.Test.YtghkpailmdlhgaaW8
import Derived.Test.YtghkpailmdlhgaaFc
set_option linter.unusedVariables false
set_option linter.unusedSimpArgs false
namespace Go.Proofs.Ytghkpailmdlhgaa
open Go.RowKit Go.Eng
/-- glasshouse/clone.Check -/
theorem gcheck_ct (g : List Cl) : Ct Try.prog 28 [SV.agg 1 (grG g)] (iv (checkGr g)) := by
  refine ct_of Try.func28 rfl (by show 1 ≤ 48; decide) fun E hN => ?_
  have hd : ∀ d, d < 48 → d < E.N := fun d h => Nat.lt_of_lt_of_eq h hN.symm
  refine c_seq ?_
  refine c_rt ?_
  refine t_boxA 1 (hd 1 (by decide)) (val_tmp rfl) rfl rfl ?_
  refine t_op (hd 2 (by decide)) (q_assign val_const) ?_
  refine t_nil ?_
  refine c_seq ?_
  refine c_seq ?_
  refine c_rq ?_
  refine tq_op (hd 7 (by decide)) (q_fldB _ _ (val_tmp rfl) Try.underlying35 rfl 0 (fun w => Try.sizeOf33 w)) ?_
  refine tq_op (hd 8 (by decide)) (q_ldB (val_tmp rfl) rfl Try.isAgg33 (by decide)) ?_
  refine tq_op (hd 9 (by decide)) (q_len (val_tmp rfl) ts33) ?_
  refine tq_op (hd 10 (by decide)) (q_gtr (val_tmp rfl) val_const) ?_
  refine tq_nil ?_
  refine c_cond (val_tmp rfl) (fun hc1 => ?_) (fun hc1 => ?_)
  · have hc1s := hc1
    try simp only [Bool.and_eq_true, Bool.or_eq_true, Bool.not_eq_true', Bool.not_eq_false', Bool.or_eq_false_iff, Bool.and_eq_false_iff, decide_eq_true_eq, decide_eq_false_iff_not] at hc1s
    refine c_seq ?_
    refine c_rq ?_
    refine tq_op (hd 2 (by decide)) (q_assign val_const) ?_
    refine tq_nil ?_
    refine c_ret ?_
    exact ret1 rfl (val_tmp rfl) rfl (by show iv (1) = iv (checkGr g); rw [checkGr_1 hc1s])
  · have hc1s := hc1
    try simp only [Bool.and_eq_true, Bool.or_eq_true, Bool.not_eq_true', Bool.not_eq_false', Bool.or_eq_false_iff, Bool.and_eq_false_iff, decide_eq_true_eq, decide_eq_false_iff_not] at hc1s
    refine c_skip ?_
    refine c_seq ?_
    refine c_seq ?_
    refine c_rq ?_
    refine tq_op (hd 11 (by decide)) (q_fldB _ _ (val_tmp rfl) Try.underlying35 rfl 0 (fun w => Try.sizeOf33 w)) ?_
    refine tq_op (hd 12 (by decide)) (q_ldB (val_tmp rfl) rfl Try.isAgg33 (by decide)) ?_
    refine tq_op (hd 13 (by decide)) (q_len (val_tmp rfl) ts33) ?_
    refine tq_op (hd 14 (by decide)) (q_move val_const) ?_
    refine tq_nil ?_
    refine c_block ?_
    refine c_loop (fun (i : Nat) => (⟨[(1, SV.bp 1 0), (12, clRow g), (13, iv ((g.length : Int))), (14, iv ((i : Int)))], [(1, Own.box 1 (grG g) 35)]⟩ : St)) (fun (i : Nat) => i ≤ g.length ∧ checkGr g = firstErr (clErr g) i (g.length - i)) (fun (i : Nat) => g.length - i) 0 ?_ ?_ ?_
    · show 0 ≤ g.length ∧ checkGr g = firstErr (clErr g) 0 (g.length - 0)
      exact ⟨Nat.zero_le _, checkGr_s hc1s⟩
    · refine weakE (sl := [(1, SV.bp 1 0), (12, clRow g), (13, iv ((g.length : Int))), (14, iv ((0 : Int)))]) (ow := [(1, Own.box 1 (grG g) 35)]) ?_ ?_
      · exact ⟨val_tmp rfl, val_tmp rfl, val_tmp rfl, val_tmp rfl, trivial⟩
      · exact ⟨⟨_, rfl, ⟨rfl, rfl, ⟨trivial, rfl⟩⟩⟩, trivial⟩
    · rintro i hI1
      have hJ1 : i ≤ g.length ∧ checkGr g = firstErr (clErr g) i (g.length - i) := hI1
      refine c_seq ?_
      refine c_rq ?_
      refine tq_op (hd 15 (by decide)) (q_lss (val_tmp rfl) (val_tmp rfl)) ?_
      refine tq_nil ?_
      refine c_seq ?_
      refine c_cond (val_tmp rfl) (fun hc2 => ?_) (fun hc2 => ?_)
      · have hc2s := hc2
        try simp only [Bool.and_eq_true, Bool.or_eq_true, Bool.not_eq_true', Bool.not_eq_false', Bool.or_eq_false_iff, Bool.and_eq_false_iff, decide_eq_true_eq, decide_eq_false_iff_not] at hc2s
        refine c_skip ?_
        refine c_seq ?_
        refine c_block ?_
        refine c_seq ?_
        refine c_rt ?_
        refine t_op (hd 16 (by decide)) (q_idxN (i := i) (val_tmp rfl) (val_tmp rfl) ts33 te33 (by first | omega | (simp only [Bool.and_eq_true, Bool.or_eq_true, Bool.not_eq_true', Bool.not_eq_false', Bool.or_eq_false_iff, Bool.and_eq_false_iff, decide_eq_true_eq, decide_eq_false_iff_not] at *; omega))) ?_
        refine t_op (hd 17 (by decide)) (q_ldA (val_tmp rfl) Try.isAgg43 Try.sizeOf43 (by decide)) ?_
        refine t_alloc 2 (hd 4 (by decide)) zero43 rfl rfl ?_
        refine t_stA (val_tmp rfl) rfl (val_tmp rfl) Try.sizeOf43 ?_
        refine t_nil ?_
        refine c_seq ?_
        refine c_seq ?_
        refine c_rq ?_
        refine tq_op (hd 18 (by decide)) (q_fldB _ _ (val_tmp rfl) Try.underlying43 rfl 0 (fun w => Try.sizeOf3 w)) ?_
        refine tq_op (hd 19 (by decide)) (q_ldB (val_tmp rfl) rfl Try.isAgg3 (by decide)) ?_
        refine tq_op (hd 20 (by decide)) (q_lss (val_tmp rfl) val_const) ?_
        refine tq_op (hd 21 (by decide)) (q_move (val_tmp rfl)) ?_
        refine tq_opG (g_no rfl rfl) (hd 22 (by decide)) (fun hg => q_fldB _ _ (val_tmp rfl) Try.underlying43 rfl 0 (fun w => Try.sizeOf3 w)) ?_
        refine tq_opG (g_no rfl rfl) (hd 23 (by decide)) (fun hg => q_ldB (val_grd (val_tmp rfl) hg) rfl Try.isAgg3 (by decide)) ?_
        refine tq_opG (g_no rfl rfl) (hd 24 (by decide)) (fun hg => q_gtr (val_grd (val_tmp rfl) hg) val_const) ?_
        refine tq_op (hd 25 (by decide)) (q_or (val_tmp rfl) (fun h => val_grd (val_tmp rfl) (notT h))) ?_
        refine tq_nil ?_
        refine c_cond (val_tmp rfl) (fun hc3 => ?_) (fun hc3 => ?_)
        · have hc3s := hc3
          try simp only [Bool.and_eq_true, Bool.or_eq_true, Bool.not_eq_true', Bool.not_eq_false', Bool.or_eq_false_iff, Bool.and_eq_false_iff, decide_eq_true_eq, decide_eq_false_iff_not] at hc3s
          refine c_seq ?_
          refine c_rq ?_
          refine tq_op (hd 2 (by decide)) (q_assign val_const) ?_
          refine tq_nil ?_
          refine c_ret ?_
          exact ret1 rfl (val_tmp rfl) rfl (by show iv (2) = iv (checkGr g); rw [firstErr_hit (by omega) hJ1.2 (clErr_2 hc3) (by decide)])
        · have hc3s := hc3
          try simp only [Bool.and_eq_true, Bool.or_eq_true, Bool.not_eq_true', Bool.not_eq_false', Bool.or_eq_false_iff, Bool.and_eq_false_iff, decide_eq_true_eq, decide_eq_false_iff_not] at hc3s
          refine c_skip ?_
          refine c_seq ?_
          refine c_seq ?_
          refine c_rq ?_
          refine tq_op (hd 26 (by decide)) (q_fldB _ _ (val_tmp rfl) Try.underlying43 rfl 0 (fun w => Try.sizeOf24 w)) ?_
          refine tq_op (hd 27 (by decide)) (q_ldB (val_tmp rfl) rfl Try.isAgg24 (by decide)) ?_
          refine tq_op (hd 28 (by decide)) (q_len (val_tmp rfl) ts24) ?_
          refine tq_op (hd 29 (by decide)) (q_gtr (val_tmp rfl) val_const) ?_
          refine tq_nil ?_
          refine c_cond (val_tmp rfl) (fun hc4 => ?_) (fun hc4 => ?_)
          · have hc4s := hc4
            try simp only [Bool.and_eq_true, Bool.or_eq_true, Bool.not_eq_true', Bool.not_eq_false', Bool.or_eq_false_iff, Bool.and_eq_false_iff, decide_eq_true_eq, decide_eq_false_iff_not] at hc4s
            refine c_seq ?_
            refine c_rq ?_
            refine tq_op (hd 2 (by decide)) (q_assign val_const) ?_
            refine tq_nil ?_
            refine c_ret ?_
            exact ret1 rfl (val_tmp rfl) rfl (by show iv (1) = iv (checkGr g); rw [firstErr_hit (by omega) hJ1.2 (clErr_1 hc3 hc4s) (by decide)])
          · have hc4s := hc4
            try simp only [Bool.and_eq_true, Bool.or_eq_true, Bool.not_eq_true', Bool.not_eq_false', Bool.or_eq_false_iff, Bool.and_eq_false_iff, decide_eq_true_eq, decide_eq_false_iff_not] at hc4s
            refine c_skip ?_
            refine c_seq ?_
            refine c_rq ?_
            refine tq_op (hd 30 (by decide)) (q_fldB _ _ (val_tmp rfl) Try.underlying43 rfl 0 (fun w => Try.sizeOf24 w)) ?_
            refine tq_op (hd 31 (by decide)) (q_ldB (val_tmp rfl) rfl Try.isAgg24 (by decide)) ?_
            refine tq_op (hd 32 (by decide)) (q_len (val_tmp rfl) ts24) ?_
            refine tq_op (hd 33 (by decide)) (q_move val_const) ?_
            refine tq_nil ?_
            refine c_block ?_
            refine c_loop (fun (j : Nat) => (⟨[(1, SV.bp 1 0), (12, clRow g), (13, iv ((g.length : Int))), (14, iv ((i : Int))), (31, inRow ((g.getD i default).kids)), (32, iv ((((g.getD i default).kids).length : Int))), (33, iv ((j : Int)))], [(1, Own.box 1 (grG g) 35)]⟩ : St)) (fun (j : Nat) => j ≤ (g.getD i default).kids.length ∧ clErr g i = firstErr (kidErr g.length (g.getD i default).kids) j ((g.getD i default).kids.length - j)) (fun (j : Nat) => (g.getD i default).kids.length - j) 0 ?_ ?_ ?_
            · show 0 ≤ (g.getD i default).kids.length ∧ clErr g i = firstErr (kidErr g.length (g.getD i default).kids) 0 ((g.getD i default).kids.length - 0)
              exact ⟨Nat.zero_le _, clErr_s hc3 hc4s⟩
            · refine weakE (sl := [(1, SV.bp 1 0), (12, clRow g), (13, iv ((g.length : Int))), (14, iv ((i : Int))), (31, inRow ((g.getD i default).kids)), (32, iv ((((g.getD i default).kids).length : Int))), (33, iv ((0 : Int)))]) (ow := [(1, Own.box 1 (grG g) 35)]) ?_ ?_
              · exact ⟨val_tmp rfl, val_tmp rfl, val_tmp rfl, val_tmp rfl, val_tmp rfl, val_tmp rfl, val_tmp rfl, trivial⟩
              · exact ⟨⟨_, rfl, ⟨rfl, rfl, ⟨trivial, rfl⟩⟩⟩, trivial⟩
            · rintro j hI2
              have hJ2 : j ≤ (g.getD i default).kids.length ∧ clErr g i = firstErr (kidErr g.length (g.getD i default).kids) j ((g.getD i default).kids.length - j) := hI2
              refine c_seq ?_
              refine c_rq ?_
              refine tq_op (hd 34 (by decide)) (q_lss (val_tmp rfl) (val_tmp rfl)) ?_
              refine tq_nil ?_
              refine c_seq ?_
              refine c_cond (val_tmp rfl) (fun hc5 => ?_) (fun hc5 => ?_)
              · have hc5s := hc5
                try simp only [Bool.and_eq_true, Bool.or_eq_true, Bool.not_eq_true', Bool.not_eq_false', Bool.or_eq_false_iff, Bool.and_eq_false_iff, decide_eq_true_eq, decide_eq_false_iff_not] at hc5s
                refine c_skip ?_
                refine c_seq ?_
                refine c_block ?_
                refine c_seq ?_
                refine c_rq ?_
                refine tq_op (hd 35 (by decide)) (q_idxN (i := j) (val_tmp rfl) (val_tmp rfl) ts24 te24 (by first | omega | (simp only [Bool.and_eq_true, Bool.or_eq_true, Bool.not_eq_true', Bool.not_eq_false', Bool.or_eq_false_iff, Bool.and_eq_false_iff, decide_eq_true_eq, decide_eq_false_iff_not] at *; omega))) ?_
                refine tq_op (hd 36 (by decide)) (q_ld (val_tmp rfl) Try.isAgg3 (by decide)) ?_
                refine tq_op (hd 6 (by decide)) (q_assign (val_tmp rfl)) ?_
                refine tq_nil ?_
                refine c_seq ?_
                refine c_rq ?_
                refine tq_op (hd 37 (by decide)) (q_move (val_tmp rfl)) ?_
                refine tq_op (hd 38 (by decide)) (q_lss (val_tmp rfl) val_const) ?_
                refine tq_op (hd 39 (by decide)) (q_move (val_tmp rfl)) ?_
                refine tq_opG (g_no rfl rfl) (hd 40 (by decide)) (fun hg => q_move (val_tmp rfl)) ?_
                refine tq_opG (g_no rfl rfl) (hd 41 (by decide)) (fun hg => q_fldB _ _ (val_tmp rfl) Try.underlying35 rfl 0 (fun w => Try.sizeOf33 w)) ?_
                refine tq_opG (g_no rfl rfl) (hd 42 (by decide)) (fun hg => q_ldB (val_grd (val_tmp rfl) hg) rfl Try.isAgg33 (by decide)) ?_
                refine tq_opG (g_no rfl rfl) (hd 43 (by decide)) (fun hg => q_len (val_grd (val_tmp rfl) hg) ts33) ?_
                refine tq_opG (g_no rfl rfl) (hd 44 (by decide)) (fun hg => q_geq (val_grd (val_tmp rfl) hg) (val_grd (val_tmp rfl) hg)) ?_
                refine tq_op (hd 45 (by decide)) (q_or (val_tmp rfl) (fun h => val_grd (val_tmp rfl) (notT h))) ?_
                refine tq_nil ?_
                refine c_cond (val_tmp rfl) (fun hc6 => ?_) (fun hc6 => ?_)
                · have hc6s := hc6
                  try simp only [Bool.and_eq_true, Bool.or_eq_true, Bool.not_eq_true', Bool.not_eq_false', Bool.or_eq_false_iff, Bool.and_eq_false_iff, decide_eq_true_eq, decide_eq_false_iff_not] at hc6s
                  refine c_seq ?_
                  refine c_rq ?_
                  refine tq_op (hd 2 (by decide)) (q_assign val_const) ?_
                  refine tq_nil ?_
                  refine c_ret ?_
                  exact ret1 rfl (val_tmp rfl) rfl (by show iv (4) = iv (checkGr g); rw [firstErr_hit (by omega) hJ1.2 (firstErr_hit (by omega) hJ2.2 (kidErr_4 hc6) (by decide)) (by decide)])
                · have hc6s := hc6
                  try simp only [Bool.and_eq_true, Bool.or_eq_true, Bool.not_eq_true', Bool.not_eq_false', Bool.or_eq_false_iff, Bool.and_eq_false_iff, decide_eq_true_eq, decide_eq_false_iff_not] at hc6s
                  refine c_skip ?_
                  refine c_rq ?_
                  refine tq_op (hd 46 (by decide)) (q_add (val_tmp rfl) val_const (by first | omega | (simp only [Bool.and_eq_true, Bool.or_eq_true, Bool.not_eq_true', Bool.not_eq_false', Bool.or_eq_false_iff, Bool.and_eq_false_iff, decide_eq_true_eq, decide_eq_false_iff_not] at *; omega))) ?_
                  refine tq_op (hd 33 (by decide)) (q_move (val_tmp rfl)) ?_
                  refine tq_nil ?_
                  refine c_next (j + 1) ?_ ?_ ?_
                  · show (j + 1) ≤ (g.getD i default).kids.length ∧ clErr g i = firstErr (kidErr g.length (g.getD i default).kids) (j + 1) ((g.getD i default).kids.length - (j + 1))
                    exact ⟨by omega, firstErr_next (by omega) hJ2.2 (kidErr_0 hc6)⟩
                  · show (g.getD i default).kids.length - (j + 1) < (g.getD i default).kids.length - j
                    omega
                  · refine weakE (sl := [(1, SV.bp 1 0), (12, clRow g), (13, iv ((g.length : Int))), (14, iv ((i : Int))), (31, inRow ((g.getD i default).kids)), (32, iv ((((g.getD i default).kids).length : Int))), (33, iv (((j + 1) : Int)))]) (ow := [(1, Own.box 1 (grG g) 35)]) ?_ ?_
                    · exact ⟨val_tmp rfl, val_tmp rfl, val_tmp rfl, val_tmp rfl, val_tmp rfl, val_tmp rfl, val_tmp rfl, trivial⟩
                    · exact ⟨⟨_, rfl, ⟨rfl, rfl, ⟨trivial, rfl⟩⟩⟩, trivial⟩
              · have hc5s := hc5
                try simp only [Bool.and_eq_true, Bool.or_eq_true, Bool.not_eq_true', Bool.not_eq_false', Bool.or_eq_false_iff, Bool.and_eq_false_iff, decide_eq_true_eq, decide_eq_false_iff_not] at hc5s
                refine c_exit ?_
                refine c_rq ?_
                refine tq_op (hd 47 (by decide)) (q_add (val_tmp rfl) val_const (by first | omega | (simp only [Bool.and_eq_true, Bool.or_eq_true, Bool.not_eq_true', Bool.not_eq_false', Bool.or_eq_false_iff, Bool.and_eq_false_iff, decide_eq_true_eq, decide_eq_false_iff_not] at *; omega))) ?_
                refine tq_op (hd 14 (by decide)) (q_move (val_tmp rfl)) ?_
                refine tq_nil ?_
                refine c_next (i + 1) ?_ ?_ ?_
                · show (i + 1) ≤ g.length ∧ checkGr g = firstErr (clErr g) (i + 1) (g.length - (i + 1))
                  exact ⟨by omega, firstErr_next (by omega) hJ1.2 (by rw [hJ2.2, Nat.sub_eq_zero_of_le (by omega)]; rfl)⟩
                · show g.length - (i + 1) < g.length - i
                  omega
                · refine weakE (sl := [(1, SV.bp 1 0), (12, clRow g), (13, iv ((g.length : Int))), (14, iv (((i + 1) : Int)))]) (ow := [(1, Own.box 1 (grG g) 35)]) ?_ ?_
                  · exact ⟨val_tmp rfl, val_tmp rfl, val_tmp rfl, val_tmp rfl, trivial⟩
                  · exact ⟨⟨_, rfl, ⟨rfl, rfl, ⟨trivial, rfl⟩⟩⟩, trivial⟩
      · have hc2s := hc2
        try simp only [Bool.and_eq_true, Bool.or_eq_true, Bool.not_eq_true', Bool.not_eq_false', Bool.or_eq_false_iff, Bool.and_eq_false_iff, decide_eq_true_eq, decide_eq_false_iff_not] at hc2s
        refine c_exit ?_
        refine c_seq ?_
        refine c_rq ?_
        refine tq_op (hd 2 (by decide)) (q_assign val_const) ?_
        refine tq_nil ?_
        refine c_ret ?_
        exact ret1 rfl (val_tmp rfl) rfl (by show iv (0) = iv (checkGr g); rw [firstErr_end (by omega) hJ1.2])

/-- glasshouse/glasshouseref.CheckGraph -/
theorem rgcheck_ct (g : List Cl) : Ct Try.prog 33 [SV.agg 1 (grG g)] (iv (checkGr g)) := by
  refine ct_of Try.func33 rfl (by show 1 ≤ 42; decide) fun E hN => ?_
  have hd : ∀ d, d < 42 → d < E.N := fun d h => Nat.lt_of_lt_of_eq h hN.symm
  refine c_seq ?_
  refine c_rt ?_
  refine t_boxA 1 (hd 1 (by decide)) (val_tmp rfl) rfl rfl ?_
  refine t_op (hd 2 (by decide)) (q_assign val_const) ?_
  refine t_nil ?_
  refine c_seq ?_
  refine c_seq ?_
  refine c_rq ?_
  refine tq_op (hd 7 (by decide)) (q_fldB _ _ (val_tmp rfl) Try.underlying35 rfl 0 (fun w => Try.sizeOf33 w)) ?_
  refine tq_op (hd 8 (by decide)) (q_ldB (val_tmp rfl) rfl Try.isAgg33 (by decide)) ?_
  refine tq_op (hd 9 (by decide)) (q_len (val_tmp rfl) ts33) ?_
  refine tq_op (hd 10 (by decide)) (q_gtr (val_tmp rfl) val_const) ?_
  refine tq_nil ?_
  refine c_cond (val_tmp rfl) (fun hc1 => ?_) (fun hc1 => ?_)
  · have hc1s := hc1
    try simp only [Bool.and_eq_true, Bool.or_eq_true, Bool.not_eq_true', Bool.not_eq_false', Bool.or_eq_false_iff, Bool.and_eq_false_iff, decide_eq_true_eq, decide_eq_false_iff_not] at hc1s
    refine c_seq ?_
    refine c_rq ?_
    refine tq_op (hd 2 (by decide)) (q_assign val_const) ?_
    refine tq_nil ?_
    refine c_ret ?_
    exact ret1 rfl (val_tmp rfl) rfl (by show iv (1) = iv (checkGr g); rw [checkGr_1 hc1s])
  · have hc1s := hc1
    try simp only [Bool.and_eq_true, Bool.or_eq_true, Bool.not_eq_true', Bool.not_eq_false', Bool.or_eq_false_iff, Bool.and_eq_false_iff, decide_eq_true_eq, decide_eq_false_iff_not] at hc1s
    refine c_skip ?_
    refine c_seq ?_
    refine c_seq ?_
    refine c_rq ?_
    refine tq_op (hd 11 (by decide)) (q_fldB _ _ (val_tmp rfl) Try.underlying35 rfl 0 (fun w => Try.sizeOf33 w)) ?_
    refine tq_op (hd 12 (by decide)) (q_ldB (val_tmp rfl) rfl Try.isAgg33 (by decide)) ?_
    refine tq_op (hd 13 (by decide)) (q_len (val_tmp rfl) ts33) ?_
    refine tq_op (hd 14 (by decide)) (q_move val_const) ?_
    refine tq_nil ?_
    refine c_block ?_
    refine c_loop (fun (i : Nat) => (⟨[(1, SV.bp 1 0), (12, clRow g), (13, iv ((g.length : Int))), (14, iv ((i : Int)))], [(1, Own.box 1 (grG g) 35)]⟩ : St)) (fun (i : Nat) => i ≤ g.length ∧ checkGr g = firstErr (clErr g) i (g.length - i)) (fun (i : Nat) => g.length - i) 0 ?_ ?_ ?_
    · show 0 ≤ g.length ∧ checkGr g = firstErr (clErr g) 0 (g.length - 0)
      exact ⟨Nat.zero_le _, checkGr_s hc1s⟩
    · refine weakE (sl := [(1, SV.bp 1 0), (12, clRow g), (13, iv ((g.length : Int))), (14, iv ((0 : Int)))]) (ow := [(1, Own.box 1 (grG g) 35)]) ?_ ?_
      · exact ⟨val_tmp rfl, val_tmp rfl, val_tmp rfl, val_tmp rfl, trivial⟩
      · exact ⟨⟨_, rfl, ⟨rfl, rfl, ⟨trivial, rfl⟩⟩⟩, trivial⟩
    · rintro i hI1
      have hJ1 : i ≤ g.length ∧ checkGr g = firstErr (clErr g) i (g.length - i) := hI1
      refine c_seq ?_
      refine c_rq ?_
      refine tq_op (hd 15 (by decide)) (q_lss (val_tmp rfl) (val_tmp rfl)) ?_
      refine tq_nil ?_
      refine c_seq ?_
      refine c_cond (val_tmp rfl) (fun hc2 => ?_) (fun hc2 => ?_)
      · have hc2s := hc2
        try simp only [Bool.and_eq_true, Bool.or_eq_true, Bool.not_eq_true', Bool.not_eq_false', Bool.or_eq_false_iff, Bool.and_eq_false_iff, decide_eq_true_eq, decide_eq_false_iff_not] at hc2s
        refine c_skip ?_
        refine c_seq ?_
        refine c_block ?_
        refine c_seq ?_
        refine c_rt ?_
        refine t_op (hd 16 (by decide)) (q_idxN (i := i) (val_tmp rfl) (val_tmp rfl) ts33 te33 (by first | omega | (simp only [Bool.and_eq_true, Bool.or_eq_true, Bool.not_eq_true', Bool.not_eq_false', Bool.or_eq_false_iff, Bool.and_eq_false_iff, decide_eq_true_eq, decide_eq_false_iff_not] at *; omega))) ?_
        refine t_op (hd 17 (by decide)) (q_ldA (val_tmp rfl) Try.isAgg43 Try.sizeOf43 (by decide)) ?_
        refine t_alloc 2 (hd 4 (by decide)) zero43 rfl rfl ?_
        refine t_stA (val_tmp rfl) rfl (val_tmp rfl) Try.sizeOf43 ?_
        refine t_nil ?_
        refine c_seq ?_
        refine c_seq ?_
        refine c_rq ?_
        refine tq_op (hd 18 (by decide)) (q_fldB _ _ (val_tmp rfl) Try.underlying43 rfl 0 (fun w => Try.sizeOf3 w)) ?_
        refine tq_op (hd 19 (by decide)) (q_ldB (val_tmp rfl) rfl Try.isAgg3 (by decide)) ?_
        refine tq_call en70 (hd 20 (by decide)) (by exact ⟨⟨(val_tmp rfl), rfl⟩, ⟨val_const, rfl⟩, ⟨val_const, rfl⟩, trivial⟩) (in_ct ((g.getD i default).n) ((-1000000)) 1000000) ?_
        refine tq_op (hd 21 (by decide)) (q_not (val_tmp rfl)) ?_
        refine tq_nil ?_
        refine c_cond (val_tmp rfl) (fun hc3 => ?_) (fun hc3 => ?_)
        · have hc3s := hc3
          try simp only [Bool.and_eq_true, Bool.or_eq_true, Bool.not_eq_true', Bool.not_eq_false', Bool.or_eq_false_iff, Bool.and_eq_false_iff, decide_eq_true_eq, decide_eq_false_iff_not] at hc3s
          refine c_seq ?_
          refine c_rq ?_
          refine tq_op (hd 2 (by decide)) (q_assign val_const) ?_
          refine tq_nil ?_
          refine c_ret ?_
          exact ret1 rfl (val_tmp rfl) rfl (by show iv (2) = iv (checkGr g); rw [firstErr_hit (by omega) hJ1.2 (clErr_2 (inI_bad.symm.trans hc3)) (by decide)])
        · have hc3s := hc3
          try simp only [Bool.and_eq_true, Bool.or_eq_true, Bool.not_eq_true', Bool.not_eq_false', Bool.or_eq_false_iff, Bool.and_eq_false_iff, decide_eq_true_eq, decide_eq_false_iff_not] at hc3s
          refine c_skip ?_
          refine c_seq ?_
          refine c_seq ?_
          refine c_rq ?_
          refine tq_op (hd 22 (by decide)) (q_fldB _ _ (val_tmp rfl) Try.underlying43 rfl 0 (fun w => Try.sizeOf24 w)) ?_
          refine tq_op (hd 23 (by decide)) (q_ldB (val_tmp rfl) rfl Try.isAgg24 (by decide)) ?_
          refine tq_op (hd 24 (by decide)) (q_len (val_tmp rfl) ts24) ?_
          refine tq_op (hd 25 (by decide)) (q_gtr (val_tmp rfl) val_const) ?_
          refine tq_nil ?_
          refine c_cond (val_tmp rfl) (fun hc4 => ?_) (fun hc4 => ?_)
          · have hc4s := hc4
            try simp only [Bool.and_eq_true, Bool.or_eq_true, Bool.not_eq_true', Bool.not_eq_false', Bool.or_eq_false_iff, Bool.and_eq_false_iff, decide_eq_true_eq, decide_eq_false_iff_not] at hc4s
            refine c_seq ?_
            refine c_rq ?_
            refine tq_op (hd 2 (by decide)) (q_assign val_const) ?_
            refine tq_nil ?_
            refine c_ret ?_
            exact ret1 rfl (val_tmp rfl) rfl (by show iv (1) = iv (checkGr g); rw [firstErr_hit (by omega) hJ1.2 (clErr_1 (inI_bad.symm.trans hc3) hc4s) (by decide)])
          · have hc4s := hc4
            try simp only [Bool.and_eq_true, Bool.or_eq_true, Bool.not_eq_true', Bool.not_eq_false', Bool.or_eq_false_iff, Bool.and_eq_false_iff, decide_eq_true_eq, decide_eq_false_iff_not] at hc4s
            refine c_skip ?_
            refine c_seq ?_
            refine c_rq ?_
            refine tq_op (hd 26 (by decide)) (q_fldB _ _ (val_tmp rfl) Try.underlying43 rfl 0 (fun w => Try.sizeOf24 w)) ?_
            refine tq_op (hd 27 (by decide)) (q_ldB (val_tmp rfl) rfl Try.isAgg24 (by decide)) ?_
            refine tq_op (hd 28 (by decide)) (q_len (val_tmp rfl) ts24) ?_
            refine tq_op (hd 29 (by decide)) (q_move val_const) ?_
            refine tq_nil ?_
            refine c_block ?_
            refine c_loop (fun (j : Nat) => (⟨[(1, SV.bp 1 0), (12, clRow g), (13, iv ((g.length : Int))), (14, iv ((i : Int))), (27, inRow ((g.getD i default).kids)), (28, iv ((((g.getD i default).kids).length : Int))), (29, iv ((j : Int)))], [(1, Own.box 1 (grG g) 35)]⟩ : St)) (fun (j : Nat) => j ≤ (g.getD i default).kids.length ∧ clErr g i = firstErr (kidErr g.length (g.getD i default).kids) j ((g.getD i default).kids.length - j)) (fun (j : Nat) => (g.getD i default).kids.length - j) 0 ?_ ?_ ?_
            · show 0 ≤ (g.getD i default).kids.length ∧ clErr g i = firstErr (kidErr g.length (g.getD i default).kids) 0 ((g.getD i default).kids.length - 0)
              exact ⟨Nat.zero_le _, clErr_s (inI_bad.symm.trans hc3) hc4s⟩
            · refine weakE (sl := [(1, SV.bp 1 0), (12, clRow g), (13, iv ((g.length : Int))), (14, iv ((i : Int))), (27, inRow ((g.getD i default).kids)), (28, iv ((((g.getD i default).kids).length : Int))), (29, iv ((0 : Int)))]) (ow := [(1, Own.box 1 (grG g) 35)]) ?_ ?_
              · exact ⟨val_tmp rfl, val_tmp rfl, val_tmp rfl, val_tmp rfl, val_tmp rfl, val_tmp rfl, val_tmp rfl, trivial⟩
              · exact ⟨⟨_, rfl, ⟨rfl, rfl, ⟨trivial, rfl⟩⟩⟩, trivial⟩
            · rintro j hI2
              have hJ2 : j ≤ (g.getD i default).kids.length ∧ clErr g i = firstErr (kidErr g.length (g.getD i default).kids) j ((g.getD i default).kids.length - j) := hI2
              refine c_seq ?_
              refine c_rq ?_
              refine tq_op (hd 30 (by decide)) (q_lss (val_tmp rfl) (val_tmp rfl)) ?_
              refine tq_nil ?_
              refine c_seq ?_
              refine c_cond (val_tmp rfl) (fun hc5 => ?_) (fun hc5 => ?_)
              · have hc5s := hc5
                try simp only [Bool.and_eq_true, Bool.or_eq_true, Bool.not_eq_true', Bool.not_eq_false', Bool.or_eq_false_iff, Bool.and_eq_false_iff, decide_eq_true_eq, decide_eq_false_iff_not] at hc5s
                refine c_skip ?_
                refine c_seq ?_
                refine c_block ?_
                refine c_seq ?_
                refine c_rq ?_
                refine tq_op (hd 31 (by decide)) (q_idxN (i := j) (val_tmp rfl) (val_tmp rfl) ts24 te24 (by first | omega | (simp only [Bool.and_eq_true, Bool.or_eq_true, Bool.not_eq_true', Bool.not_eq_false', Bool.or_eq_false_iff, Bool.and_eq_false_iff, decide_eq_true_eq, decide_eq_false_iff_not] at *; omega))) ?_
                refine tq_op (hd 32 (by decide)) (q_ld (val_tmp rfl) Try.isAgg3 (by decide)) ?_
                refine tq_op (hd 6 (by decide)) (q_assign (val_tmp rfl)) ?_
                refine tq_nil ?_
                refine c_seq ?_
                refine c_rq ?_
                refine tq_op (hd 33 (by decide)) (q_move (val_tmp rfl)) ?_
                refine tq_op (hd 34 (by decide)) (q_fldB _ _ (val_tmp rfl) Try.underlying35 rfl 0 (fun w => Try.sizeOf33 w)) ?_
                refine tq_op (hd 35 (by decide)) (q_ldB (val_tmp rfl) rfl Try.isAgg33 (by decide)) ?_
                refine tq_op (hd 36 (by decide)) (q_len (val_tmp rfl) ts33) ?_
                refine tq_op (hd 37 (by decide)) (q_sub (val_tmp rfl) val_const (by first | omega | (simp only [Bool.and_eq_true, Bool.or_eq_true, Bool.not_eq_true', Bool.not_eq_false', Bool.or_eq_false_iff, Bool.and_eq_false_iff, decide_eq_true_eq, decide_eq_false_iff_not] at *; omega))) ?_
                refine tq_call en70 (hd 38 (by decide)) (by exact ⟨⟨(val_tmp rfl), rfl⟩, ⟨val_const, rfl⟩, ⟨(val_tmp rfl), rfl⟩, trivial⟩) (in_ct ((((g.getD i default).kids).getD j 0)) 0 (((g.length : Int)) - 1)) ?_
                refine tq_op (hd 39 (by decide)) (q_not (val_tmp rfl)) ?_
                refine tq_nil ?_
                refine c_cond (val_tmp rfl) (fun hc6 => ?_) (fun hc6 => ?_)
                · have hc6s := hc6
                  try simp only [Bool.and_eq_true, Bool.or_eq_true, Bool.not_eq_true', Bool.not_eq_false', Bool.or_eq_false_iff, Bool.and_eq_false_iff, decide_eq_true_eq, decide_eq_false_iff_not] at hc6s
                  refine c_seq ?_
                  refine c_rq ?_
                  refine tq_op (hd 2 (by decide)) (q_assign val_const) ?_
                  refine tq_nil ?_
                  refine c_ret ?_
                  exact ret1 rfl (val_tmp rfl) rfl (by show iv (4) = iv (checkGr g); rw [firstErr_hit (by omega) hJ1.2 (firstErr_hit (by omega) hJ2.2 (kidErr_4 (inI_kid.symm.trans hc6)) (by decide)) (by decide)])
                · have hc6s := hc6
                  try simp only [Bool.and_eq_true, Bool.or_eq_true, Bool.not_eq_true', Bool.not_eq_false', Bool.or_eq_false_iff, Bool.and_eq_false_iff, decide_eq_true_eq, decide_eq_false_iff_not] at hc6s
                  refine c_skip ?_
                  refine c_rq ?_
                  refine tq_op (hd 40 (by decide)) (q_add (val_tmp rfl) val_const (by first | omega | (simp only [Bool.and_eq_true, Bool.or_eq_true, Bool.not_eq_true', Bool.not_eq_false', Bool.or_eq_false_iff, Bool.and_eq_false_iff, decide_eq_true_eq, decide_eq_false_iff_not] at *; omega))) ?_
                  refine tq_op (hd 29 (by decide)) (q_move (val_tmp rfl)) ?_
                  refine tq_nil ?_
                  refine c_next (j + 1) ?_ ?_ ?_
                  · show (j + 1) ≤ (g.getD i default).kids.length ∧ clErr g i = firstErr (kidErr g.length (g.getD i default).kids) (j + 1) ((g.getD i default).kids.length - (j + 1))
                    exact ⟨by omega, firstErr_next (by omega) hJ2.2 (kidErr_0 (inI_kid.symm.trans hc6))⟩
                  · show (g.getD i default).kids.length - (j + 1) < (g.getD i default).kids.length - j
                    omega
                  · refine weakE (sl := [(1, SV.bp 1 0), (12, clRow g), (13, iv ((g.length : Int))), (14, iv ((i : Int))), (27, inRow ((g.getD i default).kids)), (28, iv ((((g.getD i default).kids).length : Int))), (29, iv (((j + 1) : Int)))]) (ow := [(1, Own.box 1 (grG g) 35)]) ?_ ?_
                    · exact ⟨val_tmp rfl, val_tmp rfl, val_tmp rfl, val_tmp rfl, val_tmp rfl, val_tmp rfl, val_tmp rfl, trivial⟩
                    · exact ⟨⟨_, rfl, ⟨rfl, rfl, ⟨trivial, rfl⟩⟩⟩, trivial⟩
              · have hc5s := hc5
                try simp only [Bool.and_eq_true, Bool.or_eq_true, Bool.not_eq_true', Bool.not_eq_false', Bool.or_eq_false_iff, Bool.and_eq_false_iff, decide_eq_true_eq, decide_eq_false_iff_not] at hc5s
                refine c_exit ?_
                refine c_rq ?_
                refine tq_op (hd 41 (by decide)) (q_add (val_tmp rfl) val_const (by first | omega | (simp only [Bool.and_eq_true, Bool.or_eq_true, Bool.not_eq_true', Bool.not_eq_false', Bool.or_eq_false_iff, Bool.and_eq_false_iff, decide_eq_true_eq, decide_eq_false_iff_not] at *; omega))) ?_
                refine tq_op (hd 14 (by decide)) (q_move (val_tmp rfl)) ?_
                refine tq_nil ?_
                refine c_next (i + 1) ?_ ?_ ?_
                · show (i + 1) ≤ g.length ∧ checkGr g = firstErr (clErr g) (i + 1) (g.length - (i + 1))
                  exact ⟨by omega, firstErr_next (by omega) hJ1.2 (by rw [hJ2.2, Nat.sub_eq_zero_of_le (by omega)]; rfl)⟩
                · show g.length - (i + 1) < g.length - i
                  omega
                · refine weakE (sl := [(1, SV.bp 1 0), (12, clRow g), (13, iv ((g.length : Int))), (14, iv (((i + 1) : Int)))]) (ow := [(1, Own.box 1 (grG g) 35)]) ?_ ?_
                  · exact ⟨val_tmp rfl, val_tmp rfl, val_tmp rfl, val_tmp rfl, trivial⟩
                  · exact ⟨⟨_, rfl, ⟨rfl, rfl, ⟨trivial, rfl⟩⟩⟩, trivial⟩
      · have hc2s := hc2
        try simp only [Bool.and_eq_true, Bool.or_eq_true, Bool.not_eq_true', Bool.not_eq_false', Bool.or_eq_false_iff, Bool.and_eq_false_iff, decide_eq_true_eq, decide_eq_false_iff_not] at hc2s
        refine c_exit ?_
        refine c_seq ?_
        refine c_rq ?_
        refine tq_op (hd 2 (by decide)) (q_assign val_const) ?_
        refine tq_nil ?_
        refine c_ret ?_
        exact ret1 rfl (val_tmp rfl) rfl (by show iv (0) = iv (checkGr g); rw [firstErr_end (by omega) hJ1.2])

/-- slices.Index[[]int,int] -/
theorem index_ct (l : List Int) (k : Int) : Ct Try.prog 69 [inRow l, iv (k)] (iv (idxI l k)) := by
  refine ct_of Try.func69 rfl (by show 2 ≤ 19; decide) fun E hN => ?_
  have hd : ∀ d, d < 19 → d < E.N := fun d h => Nat.lt_of_lt_of_eq h hN.symm
  refine row_len (val_tmp (s := 0) rfl) fun hl0 => ?_
  refine c_seq ?_
  refine c_rq ?_
  refine tq_op (hd 4 (by decide)) (q_assign val_const) ?_
  refine tq_nil ?_
  refine c_seq ?_
  refine c_seq ?_
  refine c_rq ?_
  refine tq_op (hd 6 (by decide)) (q_move (val_tmp rfl)) ?_
  refine tq_op (hd 7 (by decide)) (q_len (val_tmp rfl) ts24) ?_
  refine tq_op (hd 8 (by decide)) (q_move val_const) ?_
  refine tq_nil ?_
  refine c_block ?_
  refine c_loop (fun (i : Nat) => (⟨[(0, inRow l), (1, iv (k)), (7, iv ((l.length : Int))), (8, iv ((i : Int)))], []⟩ : St)) (fun (i : Nat) => i ≤ l.length ∧ ∀ j, j < i → ¬ l.getD j 0 = k) (fun (i : Nat) => l.length - i) 0 ?_ ?_ ?_
  · show 0 ≤ l.length ∧ ∀ j, j < 0 → ¬ l.getD j 0 = k
    exact ⟨Nat.zero_le _, fun j hj => absurd hj (Nat.not_lt_zero _)⟩
  · refine weakE (sl := [(0, inRow l), (1, iv (k)), (7, iv ((l.length : Int))), (8, iv ((0 : Int)))]) (ow := []) ?_ ?_
    · exact ⟨val_tmp rfl, val_tmp rfl, val_tmp rfl, val_tmp rfl, trivial⟩
    · exact trivial
  · rintro i hI1
    have hJ1 : i ≤ l.length ∧ ∀ j, j < i → ¬ l.getD j 0 = k := hI1
    have hi1 := hJ1.1
    have hall := hJ1.2
    refine c_seq ?_
    refine c_rq ?_
    refine tq_op (hd 9 (by decide)) (q_lss (val_tmp rfl) (val_tmp rfl)) ?_
    refine tq_nil ?_
    refine c_seq ?_
    refine c_cond (val_tmp rfl) (fun hc1 => ?_) (fun hc1 => ?_)
    · have hc1s := hc1
      try simp only [Bool.and_eq_true, Bool.or_eq_true, Bool.not_eq_true', Bool.not_eq_false', Bool.or_eq_false_iff, Bool.and_eq_false_iff, decide_eq_true_eq, decide_eq_false_iff_not] at hc1s
      refine c_skip ?_
      refine c_seq ?_
      refine c_block ?_
      refine c_seq ?_
      refine c_rq ?_
      refine tq_op (hd 10 (by decide)) (q_move (val_tmp rfl)) ?_
      refine tq_op (hd 5 (by decide)) (q_assign (val_tmp rfl)) ?_
      refine tq_nil ?_
      refine c_seq ?_
      refine c_rq ?_
      refine tq_op (hd 11 (by decide)) (q_move (val_tmp rfl)) ?_
      refine tq_op (hd 12 (by decide)) (q_move (val_tmp rfl)) ?_
      refine tq_op (hd 13 (by decide)) (q_move (val_tmp rfl)) ?_
      refine tq_op (hd 14 (by decide)) (q_idxN (i := i) (val_tmp rfl) (val_tmp rfl) ts24 te24 (by clear hall hJ1 hI1; omega)) ?_
      refine tq_op (hd 15 (by decide)) (q_ld (val_tmp rfl) Try.isAgg3 (by decide)) ?_
      refine tq_op (hd 16 (by decide)) (q_eql (val_tmp rfl) (val_tmp rfl)) ?_
      refine tq_nil ?_
      refine c_cond (val_tmp rfl) (fun hc2 => ?_) (fun hc2 => ?_)
      · have hc2s := hc2
        try simp only [Bool.and_eq_true, Bool.or_eq_true, Bool.not_eq_true', Bool.not_eq_false', Bool.or_eq_false_iff, Bool.and_eq_false_iff, decide_eq_true_eq, decide_eq_false_iff_not] at hc2s
        refine c_seq ?_
        refine c_rq ?_
        refine tq_op (hd 17 (by decide)) (q_move (val_tmp rfl)) ?_
        refine tq_op (hd 4 (by decide)) (q_assign (val_tmp rfl)) ?_
        refine tq_nil ?_
        refine c_ret ?_
        exact ret1 rfl (val_tmp rfl) rfl (by show iv ((i : Int)) = iv (idxI l k); rw [idxI_hit (by clear hall hJ1 hI1; omega) hall hc2s.symm])
      · have hc2s := hc2
        try simp only [Bool.and_eq_true, Bool.or_eq_true, Bool.not_eq_true', Bool.not_eq_false', Bool.or_eq_false_iff, Bool.and_eq_false_iff, decide_eq_true_eq, decide_eq_false_iff_not] at hc2s
        refine c_skip ?_
        refine c_rq ?_
        refine tq_op (hd 18 (by decide)) (q_add (val_tmp rfl) val_const (by clear hall hJ1 hI1; omega)) ?_
        refine tq_op (hd 8 (by decide)) (q_move (val_tmp rfl)) ?_
        refine tq_nil ?_
        refine c_next (i + 1) ?_ ?_ ?_
        · show (i + 1) ≤ l.length ∧ ∀ j, j < (i + 1) → ¬ l.getD j 0 = k
          exact ⟨by clear hall hJ1 hI1; omega, idxI_s hall (fun e => hc2s e.symm)⟩
        · show l.length - (i + 1) < l.length - i
          clear hall hJ1 hI1; omega
        · refine weakE (sl := [(0, inRow l), (1, iv (k)), (7, iv ((l.length : Int))), (8, iv (((i + 1) : Int)))]) (ow := []) ?_ ?_
          · exact ⟨val_tmp rfl, val_tmp rfl, val_tmp rfl, val_tmp rfl, trivial⟩
          · exact trivial
    · have hc1s := hc1
      try simp only [Bool.and_eq_true, Bool.or_eq_true, Bool.not_eq_true', Bool.not_eq_false', Bool.or_eq_false_iff, Bool.and_eq_false_iff, decide_eq_true_eq, decide_eq_false_iff_not] at hc1s
      refine c_exit ?_
      refine c_seq ?_
      refine c_rq ?_
      refine tq_op (hd 4 (by decide)) (q_assign val_const) ?_
      refine tq_nil ?_
      refine c_ret ?_
      exact ret1 rfl (val_tmp rfl) rfl (by show iv ((-1)) = iv (idxI l k); rw [idxI_none hall (by clear hall hJ1 hI1; omega)])

/-- glasshouse/clone.Same$1 -/
theorem gsame1_ct (x y : Cl) : Ct Try.prog 67 [SV.agg 2 (clCell x), SV.agg 2 (clCell y)] (bv (eqCl x y)) := by
  refine ct_of Try.func67 rfl (by show 2 ≤ 17; decide) fun E hN => ?_
  have hd : ∀ d, d < 17 → d < E.N := fun d h => Nat.lt_of_lt_of_eq h hN.symm
  refine c_seq ?_
  refine c_rt ?_
  refine t_boxA 1 (hd 2 (by decide)) (val_tmp rfl) rfl rfl ?_
  refine t_boxA 2 (hd 3 (by decide)) (val_tmp rfl) rfl rfl ?_
  refine t_op (hd 4 (by decide)) (q_assign val_const) ?_
  refine t_nil ?_
  refine c_seq ?_
  refine c_rq ?_
  refine tq_op (hd 5 (by decide)) (q_fldB _ _ (val_tmp rfl) Try.underlying43 rfl 0 (fun w => Try.sizeOf3 w)) ?_
  refine tq_op (hd 6 (by decide)) (q_ldB (val_tmp rfl) rfl Try.isAgg3 (by decide)) ?_
  refine tq_op (hd 7 (by decide)) (q_fldB _ _ (val_tmp rfl) Try.underlying43 rfl 0 (fun w => Try.sizeOf3 w)) ?_
  refine tq_op (hd 8 (by decide)) (q_ldB (val_tmp rfl) rfl Try.isAgg3 (by decide)) ?_
  refine tq_op (hd 9 (by decide)) (q_eql (val_tmp rfl) (val_tmp rfl)) ?_
  refine tq_op (hd 10 (by decide)) (q_move (val_tmp rfl)) ?_
  refine tq_opG (g_yes rfl rfl) (hd 11 (by decide)) (fun hg => q_fldB _ _ (val_tmp rfl) Try.underlying43 rfl 0 (fun w => Try.sizeOf24 w)) ?_
  refine tq_opG (g_yes rfl rfl) (hd 12 (by decide)) (fun hg => q_ldB (val_grd (val_tmp rfl) hg) rfl Try.isAgg24 (by decide)) ?_
  refine tq_opG (g_yes rfl rfl) (hd 13 (by decide)) (fun hg => q_fldB _ _ (val_tmp rfl) Try.underlying43 rfl 0 (fun w => Try.sizeOf24 w)) ?_
  refine tq_opG (g_yes rfl rfl) (hd 14 (by decide)) (fun hg => q_ldB (val_grd (val_tmp rfl) hg) rfl Try.isAgg24 (by decide)) ?_
  refine tq_callG (g_yes rfl rfl) en17 (hd 15 (by decide)) (fun hg => (by exact ⟨⟨(val_grd (val_tmp rfl) hg), rfl⟩, ⟨(val_grd (val_tmp rfl) hg), rfl⟩, trivial⟩)) (fun hg => equal_ct x.kids y.kids) ?_
  refine tq_op (hd 16 (by decide)) (q_and (val_tmp rfl) (fun h => val_grd (val_tmp rfl) h)) ?_
  refine tq_op (hd 4 (by decide)) (q_assign (val_tmp rfl)) ?_
  refine tq_nil ?_
  refine c_ret ?_
  exact ret1 rfl (val_tmp rfl) rfl (by show bv ((decide (x.n = y.n)) && (eqInt x.kids y.kids)) = bv (eqCl x y); rfl)

/-- glasshouse/glasshouseref.SameGraph$1 -/
theorem rgsame1_ct (x y : Cl) : Ct Try.prog 71 [SV.agg 2 (clCell x), SV.agg 2 (clCell y)] (bv (eqCl x y)) := by
  refine ct_of Try.func71 rfl (by show 2 ≤ 17; decide) fun E hN => ?_
  have hd : ∀ d, d < 17 → d < E.N := fun d h => Nat.lt_of_lt_of_eq h hN.symm
  refine c_seq ?_
  refine c_rt ?_
  refine t_boxA 1 (hd 2 (by decide)) (val_tmp rfl) rfl rfl ?_
  refine t_boxA 2 (hd 3 (by decide)) (val_tmp rfl) rfl rfl ?_
  refine t_op (hd 4 (by decide)) (q_assign val_const) ?_
  refine t_nil ?_
  refine c_seq ?_
  refine c_rq ?_
  refine tq_op (hd 5 (by decide)) (q_fldB _ _ (val_tmp rfl) Try.underlying43 rfl 0 (fun w => Try.sizeOf3 w)) ?_
  refine tq_op (hd 6 (by decide)) (q_ldB (val_tmp rfl) rfl Try.isAgg3 (by decide)) ?_
  refine tq_op (hd 7 (by decide)) (q_fldB _ _ (val_tmp rfl) Try.underlying43 rfl 0 (fun w => Try.sizeOf3 w)) ?_
  refine tq_op (hd 8 (by decide)) (q_ldB (val_tmp rfl) rfl Try.isAgg3 (by decide)) ?_
  refine tq_op (hd 9 (by decide)) (q_eql (val_tmp rfl) (val_tmp rfl)) ?_
  refine tq_op (hd 10 (by decide)) (q_move (val_tmp rfl)) ?_
  refine tq_opG (g_yes rfl rfl) (hd 11 (by decide)) (fun hg => q_fldB _ _ (val_tmp rfl) Try.underlying43 rfl 0 (fun w => Try.sizeOf24 w)) ?_
  refine tq_opG (g_yes rfl rfl) (hd 12 (by decide)) (fun hg => q_ldB (val_grd (val_tmp rfl) hg) rfl Try.isAgg24 (by decide)) ?_
  refine tq_opG (g_yes rfl rfl) (hd 13 (by decide)) (fun hg => q_fldB _ _ (val_tmp rfl) Try.underlying43 rfl 0 (fun w => Try.sizeOf24 w)) ?_
  refine tq_opG (g_yes rfl rfl) (hd 14 (by decide)) (fun hg => q_ldB (val_grd (val_tmp rfl) hg) rfl Try.isAgg24 (by decide)) ?_
  refine tq_callG (g_yes rfl rfl) en17 (hd 15 (by decide)) (fun hg => (by exact ⟨⟨(val_grd (val_tmp rfl) hg), rfl⟩, ⟨(val_grd (val_tmp rfl) hg), rfl⟩, trivial⟩)) (fun hg => equal_ct x.kids y.kids) ?_
  refine tq_op (hd 16 (by decide)) (q_and (val_tmp rfl) (fun h => val_grd (val_tmp rfl) h)) ?_
  refine tq_op (hd 4 (by decide)) (q_assign (val_tmp rfl)) ?_
  refine tq_nil ?_
  refine c_ret ?_
  exact ret1 rfl (val_tmp rfl) rfl (by show bv ((decide (x.n = y.n)) && (eqInt x.kids y.kids)) = bv (eqCl x y); rfl)

end Go.Proofs.Ytghkpailmdlhgaa
