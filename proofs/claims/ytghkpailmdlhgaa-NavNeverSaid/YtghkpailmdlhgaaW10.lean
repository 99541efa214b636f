import Derived.Test.YtghkpailmdlhgaaW9
import Derived.Test.YtghkpailmdlhgaaFv
set_option linter.unusedVariables false
set_option linter.unusedSimpArgs false
namespace Go.Proofs.Ytghkpailmdlhgaa
open Go.RowKit Go.Eng
/-- glasshouse/glasshouselaw.FrameCount -/
theorem frameCount_ct (l : List Fr) : Ct Try.prog 7 [frRow l] (bv true) := by
  refine ct_of Try.func7 rfl (by show 1 ≤ 54; decide) fun E hN => ?_
  have hd : ∀ d, d < 54 → d < E.N := fun d h => Nat.lt_of_lt_of_eq h hN.symm
  refine row_len (val_tmp (s := 0) rfl) fun hl0 => ?_
  refine c_seq ?_
  refine c_rq ?_
  refine tq_op (hd 2 (by decide)) (q_assign val_const) ?_
  refine tq_nil ?_
  refine c_seq ?_
  refine c_seq ?_
  refine c_rq ?_
  refine tq_call en30 (hd 9 (by decide)) (by exact trivial) (framed_ct) ?_
  refine tq_op (hd 10 (by decide)) (q_not (val_tmp rfl)) ?_
  refine tq_op (hd 11 (by decide)) (q_move (val_tmp rfl)) ?_
  refine tq_opG (g_no rfl rfl) (hd 12 (by decide)) (fun hg => q_move (val_tmp rfl)) ?_
  refine tq_callG (g_no rfl rfl) en21 (hd 13 (by decide)) (fun hg => (by exact ⟨⟨(val_grd (val_tmp rfl) hg), rfl⟩, trivial⟩)) (fun hg => check_ct l) ?_
  refine tq_opG (g_no rfl rfl) (hd 14 (by decide)) (fun hg => q_neq (val_grd (val_tmp rfl) hg) val_const) ?_
  refine tq_op (hd 15 (by decide)) (q_or (val_tmp rfl) (fun h => val_grd (val_tmp rfl) (notT h))) ?_
  refine tq_op (hd 16 (by decide)) (q_move (val_tmp rfl)) ?_
  refine tq_opG (g_no rfl rfl) (hd 17 (by decide)) (fun hg => q_move (val_tmp rfl)) ?_
  refine tq_opG (g_no rfl rfl) (hd 18 (by decide)) (fun hg => q_len (val_grd (val_tmp rfl) hg) ts27) ?_
  refine tq_opG (g_no rfl rfl) (hd 19 (by decide)) (fun hg => q_eql (val_grd (val_tmp rfl) hg) val_const) ?_
  refine tq_op (hd 20 (by decide)) (q_or (val_tmp rfl) (fun h => val_grd (val_tmp rfl) (notT h))) ?_
  refine tq_op (hd 21 (by decide)) (q_move (val_tmp rfl)) ?_
  refine tq_opG (g_no rfl rfl) (hd 22 (by decide)) (fun hg => q_move (val_tmp rfl)) ?_
  refine tq_opG (g_no rfl rfl) (hd 23 (by decide)) (fun hg => q_idx (val_grd (val_tmp rfl) hg) val_const ts27 te27 (by first | omega | (simp only [Bool.and_eq_true, Bool.or_eq_true, Bool.not_eq_true', Bool.not_eq_false', Bool.or_eq_false_iff, Bool.and_eq_false_iff, decide_eq_true_eq, decide_eq_false_iff_not] at *; omega)) (by first | omega | (simp only [Bool.and_eq_true, Bool.or_eq_true, Bool.not_eq_true', Bool.not_eq_false', Bool.or_eq_false_iff, Bool.and_eq_false_iff, decide_eq_true_eq, decide_eq_false_iff_not] at *; omega))) ?_
  refine tq_opG (g_no rfl rfl) (hd 24 (by decide)) (fun hg => q_fld _ _ (val_grd (val_tmp rfl) hg) Try.underlying47 rfl 0 (fun w => Try.sizeOf4 w)) ?_
  refine tq_opG (g_no rfl rfl) (hd 25 (by decide)) (fun hg => q_ld (val_grd (val_tmp rfl) hg) Try.isAgg4 (by decide)) ?_
  refine tq_op (hd 26 (by decide)) (q_or (val_tmp rfl) (fun h => val_grd (val_tmp rfl) (notT h))) ?_
  refine tq_nil ?_
  refine c_cond (val_tmp rfl) (fun hc1 => ?_) (fun hc1 => ?_)
  · have hc1s := hc1
    try simp only [Bool.and_eq_true, Bool.or_eq_true, Bool.not_eq_true', Bool.not_eq_false', Bool.or_eq_false_iff, Bool.and_eq_false_iff, decide_eq_true_eq, decide_eq_false_iff_not] at hc1s
    refine c_seq ?_
    refine c_rq ?_
    refine tq_call en30 (hd 27 (by decide)) (by exact trivial) (framed_ct) ?_
    refine tq_op (hd 2 (by decide)) (q_assign (val_tmp rfl)) ?_
    refine tq_nil ?_
    refine c_ret ?_
    exact ret1 rfl (val_tmp rfl) rfl (by show bv (true) = bv true; rfl)
  · have hc1s := hc1
    try simp only [Bool.and_eq_true, Bool.or_eq_true, Bool.not_eq_true', Bool.not_eq_false', Bool.or_eq_false_iff, Bool.and_eq_false_iff, decide_eq_true_eq, decide_eq_false_iff_not] at hc1s
    obtain ⟨⟨⟨-, hc0⟩, hn0⟩, hg0⟩ := hc1s
    have h8 := check_len hc0
    refine c_skip ?_
    refine c_seq ?_
    refine c_rq ?_
    refine tq_op (hd 3 (by decide)) (q_assign val_const) ?_
    refine tq_op (hd 4 (by decide)) (q_assign val_const) ?_
    refine tq_nil ?_
    refine c_seq ?_
    refine c_seq ?_
    refine c_rq ?_
    refine tq_op (hd 28 (by decide)) (q_move (val_tmp rfl)) ?_
    refine tq_op (hd 29 (by decide)) (q_len (val_tmp rfl) ts27) ?_
    refine tq_op (hd 30 (by decide)) (q_move val_const) ?_
    refine tq_nil ?_
    refine c_block ?_
    refine c_loop (fun (i : Nat) => (⟨[(0, frRow l), (3, iv (kidsSum l i)), (4, iv (-1 + (((l.take i).countP liveP : Nat) : Int))), (28, frRow l), (29, iv ((l.length : Int))), (30, iv ((i : Int)))], []⟩ : St)) (fun (i : Nat) => i ≤ l.length ∧ 0 ≤ kidsSum l i ∧ kidsSum l i ≤ 8 * i) (fun (i : Nat) => l.length - i) 0 ?_ ?_ ?_
    · show 0 ≤ l.length ∧ 0 ≤ kidsSum l 0 ∧ kidsSum l 0 ≤ 8 * 0
      exact ⟨Nat.zero_le _, Int.le_refl 0, Int.le_refl 0⟩
    · refine weakE (sl := [(0, frRow l), (3, iv (kidsSum l 0)), (4, iv (-1 + (((l.take 0).countP liveP : Nat) : Int))), (28, frRow l), (29, iv ((l.length : Int))), (30, iv ((0 : Int)))]) (ow := []) ?_ ?_
      · exact ⟨val_tmp rfl, val_tmp rfl, val_tmp rfl, val_tmp rfl, val_tmp rfl, val_tmp rfl, trivial⟩
      · exact trivial
    · rintro i hI1
      have hJ1 : i ≤ l.length ∧ 0 ≤ kidsSum l i ∧ kidsSum l i ≤ 8 * i := hI1
      have hi1 := hJ1.1
      have hi2 := hJ1.2
      have hcl : (l.take i).countP liveP ≤ i := Nat.le_trans List.countP_le_length (by simp; omega)
      have hck : l.countP (kidP i) ≤ l.length := List.countP_le_length
      refine c_seq ?_
      refine c_rq ?_
      refine tq_op (hd 31 (by decide)) (q_lss (val_tmp rfl) (val_tmp rfl)) ?_
      refine tq_nil ?_
      refine c_seq ?_
      refine c_cond (val_tmp rfl) (fun hc2 => ?_) (fun hc2 => ?_)
      · have hc2s := hc2
        try simp only [Bool.and_eq_true, Bool.or_eq_true, Bool.not_eq_true', Bool.not_eq_false', Bool.or_eq_false_iff, Bool.and_eq_false_iff, decide_eq_true_eq, decide_eq_false_iff_not] at hc2s
        refine c_skip ?_
        refine c_seq ?_
        refine c_block ?_
        refine c_seq ?_
        refine c_rt ?_
        refine t_op (hd 32 (by decide)) (q_move (val_tmp rfl)) ?_
        refine t_op (hd 33 (by decide)) (q_idxN (i := i) (val_tmp rfl) (val_tmp rfl) ts27 te27 (by first | omega | (simp only [Bool.and_eq_true, Bool.or_eq_true, Bool.not_eq_true', Bool.not_eq_false', Bool.or_eq_false_iff, Bool.and_eq_false_iff, decide_eq_true_eq, decide_eq_false_iff_not] at *; omega))) ?_
        refine t_op (hd 34 (by decide)) (q_ldA (val_tmp rfl) Try.isAgg47 Try.sizeOf47 (by decide)) ?_
        refine t_alloc 1 (hd 6 (by decide)) zero47 rfl rfl ?_
        refine t_op (hd 5 (by decide)) (q_assign (val_tmp rfl)) ?_
        refine t_stA (val_tmp rfl) rfl (val_tmp rfl) Try.sizeOf47 ?_
        refine t_nil ?_
        refine c_seq ?_
        refine c_seq ?_
        refine c_rq ?_
        refine tq_op (hd 35 (by decide)) (q_fldB _ _ (val_tmp rfl) Try.underlying47 rfl 0 (fun w => Try.sizeOf4 w)) ?_
        refine tq_op (hd 36 (by decide)) (q_ldB (val_tmp rfl) rfl Try.isAgg4 (by decide)) ?_
        refine tq_nil ?_
        refine c_cond (val_tmp rfl) (fun hc3 => ?_) (fun hc3 => ?_)
        · have hc3s := hc3
          try simp only [Bool.and_eq_true, Bool.or_eq_true, Bool.not_eq_true', Bool.not_eq_false', Bool.or_eq_false_iff, Bool.and_eq_false_iff, decide_eq_true_eq, decide_eq_false_iff_not] at hc3s
          refine c_exit ?_
          refine c_rq ?_
          refine tq_op (hd 50 (by decide)) (q_add (val_tmp rfl) val_const (by first | omega | (simp only [Bool.and_eq_true, Bool.or_eq_true, Bool.not_eq_true', Bool.not_eq_false', Bool.or_eq_false_iff, Bool.and_eq_false_iff, decide_eq_true_eq, decide_eq_false_iff_not] at *; omega))) ?_
          refine tq_op (hd 30 (by decide)) (q_move (val_tmp rfl)) ?_
          refine tq_nil ?_
          have hS := countP_take_s liveP default l i (by omega)
          rw [if_neg (show ¬ liveP (l.getD i default) = true by rw [liveP, hc3]; decide)] at hS
          have hK : kidsSum l (i + 1) = kidsSum l i := by rw [kidsSum, if_pos hc3]
          refine c_next (i + 1) ?_ ?_ ?_
          · show (i + 1) ≤ l.length ∧ 0 ≤ kidsSum l (i + 1) ∧ kidsSum l (i + 1) ≤ 8 * (i + 1)
            exact ⟨by omega, by omega, by omega⟩
          · show l.length - (i + 1) < l.length - i
            omega
          · refine weakE (sl := [(0, frRow l), (3, iv (kidsSum l ((i + 1)))), (4, iv (-1 + (((l.take ((i + 1))).countP liveP : Nat) : Int))), (28, frRow l), (29, iv ((l.length : Int))), (30, iv (((i + 1) : Int)))]) (ow := []) ?_ ?_
            · exact ⟨val_tmp rfl, (val_eq (val_tmp rfl) (congrArg iv hK.symm)), (val_eq (val_tmp rfl) (congrArg iv (by omega))), val_tmp rfl, val_tmp rfl, val_tmp rfl, trivial⟩
            · exact trivial
        · have hc3s := hc3
          try simp only [Bool.and_eq_true, Bool.or_eq_true, Bool.not_eq_true', Bool.not_eq_false', Bool.or_eq_false_iff, Bool.and_eq_false_iff, decide_eq_true_eq, decide_eq_false_iff_not] at hc3s
          have hki : holdsFr l (i : Int) = 0 := by rw [holds_k (by omega), if_neg (ff hc3)]
          have hl3 := len_3 hc0 hki
          refine c_skip ?_
          refine c_seq ?_
          refine c_rq ?_
          refine tq_op (hd 37 (by decide)) (q_move (val_tmp rfl)) ?_
          refine tq_op (hd 38 (by decide)) (q_add (val_tmp rfl) val_const (by first | omega | (simp only [Bool.and_eq_true, Bool.or_eq_true, Bool.not_eq_true', Bool.not_eq_false', Bool.or_eq_false_iff, Bool.and_eq_false_iff, decide_eq_true_eq, decide_eq_false_iff_not] at *; omega))) ?_
          refine tq_op (hd 4 (by decide)) (q_assign (val_tmp rfl)) ?_
          refine tq_nil ?_
          refine c_seq ?_
          refine c_rt ?_
          refine t_op (hd 40 (by decide)) (q_move (val_tmp rfl)) ?_
          refine t_op (hd 41 (by decide)) (q_move (val_tmp rfl)) ?_
          refine t_call en31 (hd 42 (by decide)) (by exact ⟨⟨(val_tmp rfl), rfl⟩, ⟨(val_tmp rfl), rfl⟩, trivial⟩) (length_ct l ((i : Int))) ?_
          refine t_op (hd 39 (by decide)) (q_move (val_tmp rfl)) ?_
          refine t_op (hd 43 (by decide)) (q_ext (val_tmp rfl) (by decide)) ?_
          refine t_op (hd 44 (by decide)) (q_ext (val_tmp rfl) (by decide)) ?_
          refine t_op (hd 7 (by decide)) (q_assign (val_tmp rfl)) ?_
          refine t_op (hd 8 (by decide)) (q_assign (val_tmp rfl)) ?_
          refine t_nil ?_
          refine c_seq ?_
          refine c_seq ?_
          refine c_rq ?_
          refine tq_op (hd 45 (by decide)) (q_move (val_tmp rfl)) ?_
          refine tq_op (hd 46 (by decide)) (q_neq (val_tmp rfl) val_const) ?_
          refine tq_nil ?_
          refine c_cond (val_tmp rfl) (fun hc4 => ?_) (fun hc4 => ?_)
          · have hc4s := hc4
            try simp only [Bool.and_eq_true, Bool.or_eq_true, Bool.not_eq_true', Bool.not_eq_false', Bool.or_eq_false_iff, Bool.and_eq_false_iff, decide_eq_true_eq, decide_eq_false_iff_not] at hc4s
            rw [hl3] at hc4; simp at hc4
            --done
          · have hc4s := hc4
            try simp only [Bool.and_eq_true, Bool.or_eq_true, Bool.not_eq_true', Bool.not_eq_false', Bool.or_eq_false_iff, Bool.and_eq_false_iff, decide_eq_true_eq, decide_eq_false_iff_not] at hc4s
            refine c_skip ?_
            refine c_rq ?_
            refine tq_op (hd 47 (by decide)) (q_move (val_tmp rfl)) ?_
            refine tq_op (hd 48 (by decide)) (q_move (val_tmp rfl)) ?_
            refine tq_op (hd 49 (by decide)) (q_add (val_tmp rfl) (val_tmp rfl) (by rw [hl3]; show _ ∧ _; dsimp only; omega)) ?_
            refine tq_op (hd 3 (by decide)) (q_assign (val_tmp rfl)) ?_
            refine tq_nil ?_
            refine c_rq ?_
            refine tq_op (hd 50 (by decide)) (q_add (val_tmp rfl) val_const (by first | omega | (simp only [Bool.and_eq_true, Bool.or_eq_true, Bool.not_eq_true', Bool.not_eq_false', Bool.or_eq_false_iff, Bool.and_eq_false_iff, decide_eq_true_eq, decide_eq_false_iff_not] at *; omega))) ?_
            refine tq_op (hd 30 (by decide)) (q_move (val_tmp rfl)) ?_
            refine tq_nil ?_
            have hS := countP_take_s liveP default l i (by omega)
            rw [if_pos (show liveP (l.getD i default) = true by rw [liveP, hc3]; rfl)] at hS
            have hK : kidsSum l (i + 1) = kidsSum l i + ((l.countP (kidP i) : Nat) : Int) := by rw [kidsSum, if_neg (ff hc3)]
            refine c_next (i + 1) ?_ ?_ ?_
            · show (i + 1) ≤ l.length ∧ 0 ≤ kidsSum l (i + 1) ∧ kidsSum l (i + 1) ≤ 8 * (i + 1)
              exact ⟨by omega, by omega, by omega⟩
            · show l.length - (i + 1) < l.length - i
              omega
            · refine weakE (sl := [(0, frRow l), (3, iv (kidsSum l ((i + 1)))), (4, iv (-1 + (((l.take ((i + 1))).countP liveP : Nat) : Int))), (28, frRow l), (29, iv ((l.length : Int))), (30, iv (((i + 1) : Int)))]) (ow := []) ?_ ?_
              · exact ⟨val_tmp rfl, (val_eq (val_tmp rfl) (congrArg iv (by rw [hK, hl3]))), (val_eq (val_tmp rfl) (congrArg iv (by omega))), val_tmp rfl, val_tmp rfl, val_tmp rfl, trivial⟩
              · exact trivial
      · have hc2s := hc2
        try simp only [Bool.and_eq_true, Bool.or_eq_true, Bool.not_eq_true', Bool.not_eq_false', Bool.or_eq_false_iff, Bool.and_eq_false_iff, decide_eq_true_eq, decide_eq_false_iff_not] at hc2s
        refine c_exit ?_
        refine c_seq ?_
        refine c_rq ?_
        refine tq_op (hd 51 (by decide)) (q_move (val_tmp rfl)) ?_
        refine tq_op (hd 52 (by decide)) (q_move (val_tmp rfl)) ?_
        refine tq_op (hd 53 (by decide)) (q_eql (val_tmp rfl) (val_tmp rfl)) ?_
        refine tq_op (hd 2 (by decide)) (q_assign (val_tmp rfl)) ?_
        refine tq_nil ?_
        refine c_ret ?_
        exact ret1 rfl (val_tmp rfl) rfl (by show bv (decide (kidsSum l i = -1 + (((l.take i).countP liveP : Nat) : Int))) = bv true; rw [kids_in, show i = l.length by omega, List.take_length, ← kids_in, kids_all hc0 (by omega) hg0]; simp)

/-- glasshouse/glasshouselaw.GuardDown -/
theorem guardDown_ct (l : List Fr) (a b c what : Int) : Ct Try.prog 11 [frRow l, iv (a), iv (b), iv (c), iv (what)] (bv true) := by
  refine ct_of Try.func11 rfl (by show 5 ≤ 76; decide) fun E hN => ?_
  have hd : ∀ d, d < 76 → d < E.N := fun d h => Nat.lt_of_lt_of_eq h hN.symm
  refine row_len (val_tmp (s := 0) rfl) fun hl0 => ?_
  refine c_seq ?_
  refine c_rq ?_
  refine tq_op (hd 10 (by decide)) (q_assign val_const) ?_
  refine tq_nil ?_
  refine c_seq ?_
  refine c_seq ?_
  refine c_rq ?_
  refine tq_call en18 (hd 13 (by decide)) (by exact trivial) (guarded_ct) ?_
  refine tq_op (hd 14 (by decide)) (q_not (val_tmp rfl)) ?_
  refine tq_op (hd 15 (by decide)) (q_move (val_tmp rfl)) ?_
  refine tq_opG (g_no rfl rfl) (hd 16 (by decide)) (fun hg => q_move (val_tmp rfl)) ?_
  refine tq_callG (g_no rfl rfl) en21 (hd 17 (by decide)) (fun hg => (by exact ⟨⟨(val_grd (val_tmp rfl) hg), rfl⟩, trivial⟩)) (fun hg => check_ct l) ?_
  refine tq_opG (g_no rfl rfl) (hd 18 (by decide)) (fun hg => q_neq (val_grd (val_tmp rfl) hg) val_const) ?_
  refine tq_op (hd 19 (by decide)) (q_or (val_tmp rfl) (fun h => val_grd (val_tmp rfl) (notT h))) ?_
  refine tq_nil ?_
  refine c_cond (val_tmp rfl) (fun hc1 => ?_) (fun hc1 => ?_)
  · have hc1s := hc1
    try simp only [Bool.and_eq_true, Bool.or_eq_true, Bool.not_eq_true', Bool.not_eq_false', Bool.or_eq_false_iff, Bool.and_eq_false_iff, decide_eq_true_eq, decide_eq_false_iff_not] at hc1s
    refine c_seq ?_
    refine c_rq ?_
    refine tq_call en18 (hd 20 (by decide)) (by exact trivial) (guarded_ct) ?_
    refine tq_op (hd 10 (by decide)) (q_assign (val_tmp rfl)) ?_
    refine tq_nil ?_
    refine c_ret ?_
    exact ret1 rfl (val_tmp rfl) rfl (by show bv (true) = bv true; rfl)
  · have hc1s := hc1
    try simp only [Bool.and_eq_true, Bool.or_eq_true, Bool.not_eq_true', Bool.not_eq_false', Bool.or_eq_false_iff, Bool.and_eq_false_iff, decide_eq_true_eq, decide_eq_false_iff_not] at hc1s
    refine c_skip ?_
    refine c_seq ?_
    refine c_seq ?_
    refine c_rq ?_
    refine tq_op (hd 21 (by decide)) (q_move (val_tmp rfl)) ?_
    refine tq_op (hd 22 (by decide)) (q_move (val_tmp rfl)) ?_
    refine tq_op (hd 23 (by decide)) (q_move (val_tmp rfl)) ?_
    refine tq_call en19 (hd 24 (by decide)) (by exact ⟨⟨(val_tmp rfl), rfl⟩, ⟨(val_tmp rfl), rfl⟩, ⟨(val_tmp rfl), rfl⟩, ⟨val_const, rfl⟩, trivial⟩) (May_ct l a b 4) ?_
    refine tq_op (hd 25 (by decide)) (q_move (val_tmp rfl)) ?_
    refine tq_op (hd 26 (by decide)) (q_move (val_tmp rfl)) ?_
    refine tq_op (hd 27 (by decide)) (q_move (val_tmp rfl)) ?_
    refine tq_call en19 (hd 28 (by decide)) (by exact ⟨⟨(val_tmp rfl), rfl⟩, ⟨(val_tmp rfl), rfl⟩, ⟨(val_tmp rfl), rfl⟩, ⟨val_const, rfl⟩, trivial⟩) (May_ct l a b 5) ?_
    refine tq_op (hd 29 (by decide)) (q_neq (val_tmp rfl) (val_tmp rfl)) ?_
    refine tq_nil ?_
    refine c_cond (val_tmp rfl) (fun hc2 => ?_) (fun hc2 => ?_)
    · have hc2s := hc2
      try simp only [Bool.and_eq_true, Bool.or_eq_true, Bool.not_eq_true', Bool.not_eq_false', Bool.or_eq_false_iff, Bool.and_eq_false_iff, decide_eq_true_eq, decide_eq_false_iff_not] at hc2s
      exact absurd (May_4_5 l a b) hc2s
      --done
    · have hc2s := hc2
      try simp only [Bool.and_eq_true, Bool.or_eq_true, Bool.not_eq_true', Bool.not_eq_false', Bool.or_eq_false_iff, Bool.and_eq_false_iff, decide_eq_true_eq, decide_eq_false_iff_not] at hc2s
      refine c_skip ?_
      refine c_seq ?_
      refine c_seq ?_
      refine c_rq ?_
      refine tq_op (hd 30 (by decide)) (q_move (val_tmp rfl)) ?_
      refine tq_op (hd 31 (by decide)) (q_move (val_tmp rfl)) ?_
      refine tq_op (hd 32 (by decide)) (q_move (val_tmp rfl)) ?_
      refine tq_call en19 (hd 33 (by decide)) (by exact ⟨⟨(val_tmp rfl), rfl⟩, ⟨(val_tmp rfl), rfl⟩, ⟨(val_tmp rfl), rfl⟩, ⟨val_const, rfl⟩, trivial⟩) (May_ct l a b 4) ?_
      refine tq_op (hd 34 (by decide)) (q_eql (val_tmp rfl) val_const) ?_
      refine tq_op (hd 35 (by decide)) (q_move (val_tmp rfl)) ?_
      refine tq_opG (g_yes rfl rfl) (hd 36 (by decide)) (fun hg => q_move (val_tmp rfl)) ?_
      refine tq_opG (g_yes rfl rfl) (hd 37 (by decide)) (fun hg => q_move (val_tmp rfl)) ?_
      refine tq_callG (g_yes rfl rfl) en22 (hd 38 (by decide)) (fun hg => (by exact ⟨⟨(val_grd (val_tmp rfl) hg), rfl⟩, ⟨(val_grd (val_tmp rfl) hg), rfl⟩, trivial⟩)) (fun hg => holds_ct l c) ?_
      refine tq_opG (g_yes rfl rfl) (hd 39 (by decide)) (fun hg => q_eql (val_grd (val_tmp rfl) hg) val_const) ?_
      refine tq_op (hd 40 (by decide)) (q_and (val_tmp rfl) (fun h => val_grd (val_tmp rfl) h)) ?_
      refine tq_op (hd 41 (by decide)) (q_move (val_tmp rfl)) ?_
      refine tq_opG (g_yes rfl rfl) (hd 42 (by decide)) (fun hg => q_move (val_tmp rfl)) ?_
      refine tq_opG (g_yes rfl rfl) (hd 43 (by decide)) (fun hg => q_move (val_tmp rfl)) ?_
      refine tq_opG (g_yes rfl rfl) (hd 44 (by decide)) (fun hg => q_move (val_tmp rfl)) ?_
      refine tq_callG (g_yes rfl rfl) en23 (hd 45 (by decide)) (fun hg => (by exact ⟨⟨(val_grd (val_tmp rfl) hg), rfl⟩, ⟨(val_grd (val_tmp rfl) hg), rfl⟩, ⟨(val_grd (val_tmp rfl) hg), rfl⟩, trivial⟩)) (fun hg => within_ct l c b) ?_
      refine tq_op (hd 46 (by decide)) (q_and (val_tmp rfl) (fun h => val_grd (val_tmp rfl) h)) ?_
      refine tq_op (hd 47 (by decide)) (q_move (val_tmp rfl)) ?_
      refine tq_opG (g_yes rfl rfl) (hd 48 (by decide)) (fun hg => q_move (val_tmp rfl)) ?_
      refine tq_opG (g_yes rfl rfl) (hd 49 (by decide)) (fun hg => q_move (val_tmp rfl)) ?_
      refine tq_opG (g_yes rfl rfl) (hd 50 (by decide)) (fun hg => q_move (val_tmp rfl)) ?_
      refine tq_callG (g_yes rfl rfl) en19 (hd 51 (by decide)) (fun hg => (by exact ⟨⟨(val_grd (val_tmp rfl) hg), rfl⟩, ⟨(val_grd (val_tmp rfl) hg), rfl⟩, ⟨(val_grd (val_tmp rfl) hg), rfl⟩, ⟨val_const, rfl⟩, trivial⟩)) (fun hg => May_ct l a c 4) ?_
      refine tq_opG (g_yes rfl rfl) (hd 52 (by decide)) (fun hg => q_neq (val_grd (val_tmp rfl) hg) val_const) ?_
      refine tq_op (hd 53 (by decide)) (q_and (val_tmp rfl) (fun h => val_grd (val_tmp rfl) h)) ?_
      refine tq_nil ?_
      refine c_cond (val_tmp rfl) (fun hc3 => ?_) (fun hc3 => ?_)
      · have hc3s := hc3
        try simp only [Bool.and_eq_true, Bool.or_eq_true, Bool.not_eq_true', Bool.not_eq_false', Bool.or_eq_false_iff, Bool.and_eq_false_iff, decide_eq_true_eq, decide_eq_false_iff_not] at hc3s
        exact absurd (May_down hc3s.1.1.1 hc3s.1.1.2 hc3s.1.2) hc3s.2
        --done
      · have hc3s := hc3
        try simp only [Bool.and_eq_true, Bool.or_eq_true, Bool.not_eq_true', Bool.not_eq_false', Bool.or_eq_false_iff, Bool.and_eq_false_iff, decide_eq_true_eq, decide_eq_false_iff_not] at hc3s
        refine c_skip ?_
        refine c_seq ?_
        refine c_rt ?_
        refine t_op (hd 55 (by decide)) (q_move (val_tmp rfl)) ?_
        refine t_op (hd 56 (by decide)) (q_move (val_tmp rfl)) ?_
        refine t_call en39 (hd 57 (by decide)) (by exact ⟨⟨(val_tmp rfl), rfl⟩, ⟨(val_tmp rfl), rfl⟩, trivial⟩) (discard_ct l b) ?_
        refine t_op (hd 54 (by decide)) (q_move (val_tmp rfl)) ?_
        refine t_op (hd 58 (by decide)) (q_ext (val_tmp rfl) (by decide)) ?_
        refine t_op (hd 59 (by decide)) (q_ext (val_tmp rfl) (by decide)) ?_
        refine t_op (hd 11 (by decide)) (q_assign (val_tmp rfl)) ?_
        refine t_op (hd 12 (by decide)) (q_assign (val_tmp rfl)) ?_
        refine t_nil ?_
        refine c_seq ?_
        refine c_seq ?_
        refine c_rq ?_
        refine tq_op (hd 60 (by decide)) (q_move (val_tmp rfl)) ?_
        refine tq_op (hd 61 (by decide)) (q_neq (val_tmp rfl) val_const) ?_
        refine tq_nil ?_
        refine c_cond (val_tmp rfl) (fun hc4 => ?_) (fun hc4 => ?_)
        · have hc4s := hc4
          try simp only [Bool.and_eq_true, Bool.or_eq_true, Bool.not_eq_true', Bool.not_eq_false', Bool.or_eq_false_iff, Bool.and_eq_false_iff, decide_eq_true_eq, decide_eq_false_iff_not] at hc4s
          refine c_seq ?_
          refine c_rq ?_
          refine tq_op (hd 10 (by decide)) (q_assign val_const) ?_
          refine tq_nil ?_
          refine c_ret ?_
          exact ret1 rfl (val_tmp rfl) rfl (by show bv (true) = bv true; rfl)
        · have hc4s := hc4
          try simp only [Bool.and_eq_true, Bool.or_eq_true, Bool.not_eq_true', Bool.not_eq_false', Bool.or_eq_false_iff, Bool.and_eq_false_iff, decide_eq_true_eq, decide_eq_false_iff_not] at hc4s
          obtain ⟨hc0, hk, he⟩ := disc_ok (by omega)
          have h5 := gone_holds hc0 hk
          have hb5 : ¬ holdsFr (discardFr l b).1 b = 0 := by rw [he]; show ¬ holdsFr (goneFr l b) b = 0; omega
          refine c_skip ?_
          refine c_seq ?_
          refine c_rq ?_
          refine tq_op (hd 62 (by decide)) (q_move (val_tmp rfl)) ?_
          refine tq_op (hd 63 (by decide)) (q_move (val_tmp rfl)) ?_
          refine tq_op (hd 64 (by decide)) (q_move (val_tmp rfl)) ?_
          refine tq_op (hd 65 (by decide)) (q_move (val_tmp rfl)) ?_
          refine tq_call en19 (hd 66 (by decide)) (by exact ⟨⟨(val_tmp rfl), rfl⟩, ⟨(val_tmp rfl), rfl⟩, ⟨(val_tmp rfl), rfl⟩, ⟨(val_tmp rfl), rfl⟩, trivial⟩) (May_ct ((discardFr l b).1) a b what) ?_
          refine tq_op (hd 67 (by decide)) (q_neq (val_tmp rfl) val_const) ?_
          refine tq_op (hd 68 (by decide)) (q_move (val_tmp rfl)) ?_
          refine tq_opG (g_yes rfl rfl) (hd 69 (by decide)) (fun hg => q_move (val_tmp rfl)) ?_
          refine tq_opG (g_yes rfl rfl) (hd 70 (by decide)) (fun hg => q_move (val_tmp rfl)) ?_
          refine tq_opG (g_yes rfl rfl) (hd 71 (by decide)) (fun hg => q_move (val_tmp rfl)) ?_
          refine tq_opG (g_yes rfl rfl) (hd 72 (by decide)) (fun hg => q_move (val_tmp rfl)) ?_
          refine tq_callG (g_yes rfl rfl) en19 (hd 73 (by decide)) (fun hg => (by exact ⟨⟨(val_grd (val_tmp rfl) hg), rfl⟩, ⟨(val_grd (val_tmp rfl) hg), rfl⟩, ⟨(val_grd (val_tmp rfl) hg), rfl⟩, ⟨(val_grd (val_tmp rfl) hg), rfl⟩, trivial⟩)) (fun hg => May_ct ((discardFr l b).1) b a what) ?_
          refine tq_opG (g_yes rfl rfl) (hd 74 (by decide)) (fun hg => q_neq (val_grd (val_tmp rfl) hg) val_const) ?_
          refine tq_op (hd 75 (by decide)) (q_and (val_tmp rfl) (fun h => val_grd (val_tmp rfl) h)) ?_
          refine tq_op (hd 10 (by decide)) (q_assign (val_tmp rfl)) ?_
          refine tq_nil ?_
          refine c_ret ?_
          exact ret1 rfl (val_tmp rfl) rfl (by show bv ((!decide (MayFr ((discardFr l b).1) a b what = 0)) && (!decide (MayFr ((discardFr l b).1) b a what = 0))) = bv true; rw [decide_eq_false (May_gone1 hb5), decide_eq_false (May_gone2 hb5)]; rfl)

/-- glasshouse/glasshouselaw.FrameMay -/
theorem frameMay_ct (l : List Fr) (k org may : Int) : Ct Try.prog 14 [frRow l, iv (k), iv (org), iv (may)] (bv true) := by
  refine ct_of Try.func14 rfl (by show 4 ≤ 163; decide) fun E hN => ?_
  have hd : ∀ d, d < 163 → d < E.N := fun d h => Nat.lt_of_lt_of_eq h hN.symm
  refine row_len (val_tmp (s := 0) rfl) fun hl0 => ?_
  refine c_seq ?_
  refine c_rq ?_
  refine tq_op (hd 8 (by decide)) (q_assign val_const) ?_
  refine tq_nil ?_
  refine c_seq ?_
  refine c_seq ?_
  refine c_rq ?_
  refine tq_call en30 (hd 19 (by decide)) (by exact trivial) (framed_ct) ?_
  refine tq_op (hd 20 (by decide)) (q_not (val_tmp rfl)) ?_
  refine tq_op (hd 21 (by decide)) (q_move (val_tmp rfl)) ?_
  refine tq_opG (g_no rfl rfl) (hd 22 (by decide)) (fun hg => q_move (val_tmp rfl)) ?_
  refine tq_callG (g_no rfl rfl) en21 (hd 23 (by decide)) (fun hg => (by exact ⟨⟨(val_grd (val_tmp rfl) hg), rfl⟩, trivial⟩)) (fun hg => check_ct l) ?_
  refine tq_opG (g_no rfl rfl) (hd 24 (by decide)) (fun hg => q_neq (val_grd (val_tmp rfl) hg) val_const) ?_
  refine tq_op (hd 25 (by decide)) (q_or (val_tmp rfl) (fun h => val_grd (val_tmp rfl) (notT h))) ?_
  refine tq_nil ?_
  refine c_cond (val_tmp rfl) (fun hc1 => ?_) (fun hc1 => ?_)
  · have hc1s := hc1
    try simp only [Bool.and_eq_true, Bool.or_eq_true, Bool.not_eq_true', Bool.not_eq_false', Bool.or_eq_false_iff, Bool.and_eq_false_iff, decide_eq_true_eq, decide_eq_false_iff_not] at hc1s
    refine c_seq ?_
    refine c_rq ?_
    refine tq_call en30 (hd 26 (by decide)) (by exact trivial) (framed_ct) ?_
    refine tq_op (hd 8 (by decide)) (q_assign (val_tmp rfl)) ?_
    refine tq_nil ?_
    refine c_ret ?_
    exact ret1 rfl (val_tmp rfl) rfl (by show bv (true) = bv true; rfl)
  · have hc1s := hc1
    try simp only [Bool.and_eq_true, Bool.or_eq_true, Bool.not_eq_true', Bool.not_eq_false', Bool.or_eq_false_iff, Bool.and_eq_false_iff, decide_eq_true_eq, decide_eq_false_iff_not] at hc1s
    have hc0 := hc1s.2
    have h8 := check_len hc0
    refine c_skip ?_
    refine c_meet (fun _ : Unit => (⟨[(0, frRow l), (1, iv (k))], []⟩ : St)) (fun _ : Unit => True) ?_ ?_
    · refine c_seq ?_
      refine c_rt ?_
      refine t_op (hd 28 (by decide)) (q_move (val_tmp rfl)) ?_
      refine t_op (hd 29 (by decide)) (q_move (val_tmp rfl)) ?_
      refine t_op (hd 30 (by decide)) (q_move (val_tmp rfl)) ?_
      refine t_op (hd 31 (by decide)) (q_move (val_tmp rfl)) ?_
      refine t_call en43 (hd 32 (by decide)) (by exact ⟨⟨(val_tmp rfl), rfl⟩, ⟨(val_tmp rfl), rfl⟩, ⟨(val_tmp rfl), rfl⟩, ⟨(val_tmp rfl), rfl⟩, trivial⟩) (attach_ct l k org may) ?_
      refine t_op (hd 27 (by decide)) (q_move (val_tmp rfl)) ?_
      refine t_op (hd 33 (by decide)) (q_ext (val_tmp rfl) (by decide)) ?_
      refine t_op (hd 34 (by decide)) (q_ext (val_tmp rfl) (by decide)) ?_
      refine t_op (hd 9 (by decide)) (q_assign (val_tmp rfl)) ?_
      refine t_op (hd 10 (by decide)) (q_assign (val_tmp rfl)) ?_
      refine t_nil ?_
      refine c_seq ?_
      refine c_rq ?_
      refine tq_op (hd 35 (by decide)) (q_move (val_tmp rfl)) ?_
      refine tq_op (hd 36 (by decide)) (q_eql (val_tmp rfl) val_const) ?_
      refine tq_nil ?_
      refine c_cond (val_tmp rfl) (fun hc2 => ?_) (fun hc2 => ?_)
      · have hc2s := hc2
        try simp only [Bool.and_eq_true, Bool.or_eq_true, Bool.not_eq_true', Bool.not_eq_false', Bool.or_eq_false_iff, Bool.and_eq_false_iff, decide_eq_true_eq, decide_eq_false_iff_not] at hc2s
        obtain ⟨-, hkk, hb, h4, h8n, he⟩ := attach_ok hc2s
        have hB := holds_in hkk
        have hlen : (attachFr l k org may).1.length = l.length + 1 := by rw [he]; simp
        refine c_seq ?_
        refine c_rqd (by kernel_rfl) (by kernel_rfl) ?_
        refine tq_op (hd 37 (by decide)) (q_move (val_tmp rfl)) ?_
        refine tq_call en21 (hd 38 (by decide)) (by exact ⟨⟨(val_tmp rfl), rfl⟩, trivial⟩) (check_ct ((attachFr l k org may).1)) ?_
        refine tq_op (hd 39 (by decide)) (q_neq (val_tmp rfl) val_const) ?_
        refine tq_op (hd 40 (by decide)) (q_move (val_tmp rfl)) ?_
        refine tq_opG (g_no rfl rfl) (hd 41 (by decide)) (fun hg => q_move (val_tmp rfl)) ?_
        refine tq_opG (g_no rfl rfl) (hd 42 (by decide)) (fun hg => q_len (val_grd (val_tmp rfl) hg) ts27) ?_
        refine tq_opG (g_no rfl rfl) (hd 43 (by decide)) (fun hg => q_move (val_tmp rfl)) ?_
        refine tq_opG (g_no rfl rfl) (hd 44 (by decide)) (fun hg => q_len (val_grd (val_tmp rfl) hg) ts27) ?_
        refine tq_opG (g_no rfl rfl) (hd 45 (by decide)) (fun hg => q_add (val_grd (val_tmp rfl) hg) val_const (by first | omega | (simp only [Bool.and_eq_true, Bool.or_eq_true, Bool.not_eq_true', Bool.not_eq_false', Bool.or_eq_false_iff, Bool.and_eq_false_iff, decide_eq_true_eq, decide_eq_false_iff_not] at *; omega))) ?_
        refine tq_opG (g_no rfl rfl) (hd 46 (by decide)) (fun hg => q_neq (val_grd (val_tmp rfl) hg) (val_grd (val_tmp rfl) hg)) ?_
        refine tq_op (hd 47 (by decide)) (q_or (val_tmp rfl) (fun h => val_grd (val_tmp rfl) (notT h))) ?_
        refine tq_op (hd 48 (by decide)) (q_move (val_tmp rfl)) ?_
        refine tq_opG (g_no rfl rfl) (hd 49 (by decide)) (fun hg => q_move (val_tmp rfl)) ?_
        refine tq_opG (g_no rfl rfl) (hd 50 (by decide)) (fun hg => q_move (val_tmp rfl)) ?_
        refine tq_opG (g_no rfl rfl) (hd 51 (by decide)) (fun hg => q_len (val_grd (val_tmp rfl) hg) ts27) ?_
        refine tq_opG (g_no rfl rfl) (hd 52 (by decide)) (fun hg => q_idxN (i := l.length) (val_grd (val_tmp rfl) hg) (val_grd (val_tmp rfl) hg) ts27 te27 (by first | omega | (simp only [Bool.and_eq_true, Bool.or_eq_true, Bool.not_eq_true', Bool.not_eq_false', Bool.or_eq_false_iff, Bool.and_eq_false_iff, decide_eq_true_eq, decide_eq_false_iff_not] at *; omega))) ?_
        refine tq_opG (g_no rfl rfl) (hd 53 (by decide)) (fun hg => q_fld _ _ (val_grd (val_tmp rfl) hg) Try.underlying47 rfl 0 (fun w => Try.sizeOf3 w)) ?_
        refine tq_opG (g_no rfl rfl) (hd 54 (by decide)) (fun hg => q_ld (val_grd (val_tmp rfl) hg) Try.isAgg3 (by decide)) ?_
        refine tq_opG (g_no rfl rfl) (hd 55 (by decide)) (fun hg => q_move (val_tmp rfl)) ?_
        refine tq_opG (g_no rfl rfl) (hd 56 (by decide)) (fun hg => q_move (val_tmp rfl)) ?_
        refine tq_opG (g_no rfl rfl) (hd 57 (by decide)) (fun hg => q_idx (val_grd (val_tmp rfl) hg) (val_grd (val_tmp rfl) hg) ts27 te27 (by first | omega | (simp only [Bool.and_eq_true, Bool.or_eq_true, Bool.not_eq_true', Bool.not_eq_false', Bool.or_eq_false_iff, Bool.and_eq_false_iff, decide_eq_true_eq, decide_eq_false_iff_not] at *; omega)) (by first | omega | (simp only [Bool.and_eq_true, Bool.or_eq_true, Bool.not_eq_true', Bool.not_eq_false', Bool.or_eq_false_iff, Bool.and_eq_false_iff, decide_eq_true_eq, decide_eq_false_iff_not] at *; omega))) ?_
        refine tq_opG (g_no rfl rfl) (hd 58 (by decide)) (fun hg => q_fld _ _ (val_grd (val_tmp rfl) hg) Try.underlying47 rfl 0 (fun w => Try.sizeOf3 w)) ?_
        refine tq_opG (g_no rfl rfl) (hd 59 (by decide)) (fun hg => q_ld (val_grd (val_tmp rfl) hg) Try.isAgg3 (by decide)) ?_
        refine tq_opG (g_no rfl rfl) (hd 60 (by decide)) (fun hg => q_andNot64 (val_grd (val_tmp rfl) hg) (val_grd (val_tmp rfl) hg)) ?_
        refine tq_opG (g_no rfl rfl) (hd 61 (by decide)) (fun hg => q_neq (val_grd (val_tmp rfl) hg) val_const) ?_
        refine tq_op (hd 62 (by decide)) (q_or (val_tmp rfl) (fun h => val_grd (val_tmp rfl) (notT h))) ?_
        refine tq_op (hd 63 (by decide)) (q_move (val_tmp rfl)) ?_
        refine tq_opG (g_no rfl rfl) (hd 64 (by decide)) (fun hg => q_move (val_tmp rfl)) ?_
        refine tq_opG (g_no rfl rfl) (hd 65 (by decide)) (fun hg => q_move (val_tmp rfl)) ?_
        refine tq_opG (g_no rfl rfl) (hd 66 (by decide)) (fun hg => q_len (val_grd (val_tmp rfl) hg) ts27) ?_
        refine tq_opG (g_no rfl rfl) (hd 67 (by decide)) (fun hg => q_idxN (i := l.length) (val_grd (val_tmp rfl) hg) (val_grd (val_tmp rfl) hg) ts27 te27 (by first | omega | (simp only [Bool.and_eq_true, Bool.or_eq_true, Bool.not_eq_true', Bool.not_eq_false', Bool.or_eq_false_iff, Bool.and_eq_false_iff, decide_eq_true_eq, decide_eq_false_iff_not] at *; omega))) ?_
        refine tq_opG (g_no rfl rfl) (hd 68 (by decide)) (fun hg => q_fld _ _ (val_grd (val_tmp rfl) hg) Try.underlying47 rfl 0 (fun w => Try.sizeOf3 w)) ?_
        refine tq_opG (g_no rfl rfl) (hd 69 (by decide)) (fun hg => q_ld (val_grd (val_tmp rfl) hg) Try.isAgg3 (by decide)) ?_
        refine tq_opG (g_no rfl rfl) (hd 70 (by decide)) (fun hg => q_move (val_tmp rfl)) ?_
        refine tq_opG (g_no rfl rfl) (hd 71 (by decide)) (fun hg => q_andNot64 (val_grd (val_tmp rfl) hg) (val_grd (val_tmp rfl) hg)) ?_
        refine tq_opG (g_no rfl rfl) (hd 72 (by decide)) (fun hg => q_neq (val_grd (val_tmp rfl) hg) val_const) ?_
        refine tq_op (hd 73 (by decide)) (q_or (val_tmp rfl) (fun h => val_grd (val_tmp rfl) (notT h))) ?_
        refine tq_op (hd 74 (by decide)) (q_move (val_tmp rfl)) ?_
        refine tq_opG (g_no rfl rfl) (hd 75 (by decide)) (fun hg => q_move (val_tmp rfl)) ?_
        refine tq_opG (g_no rfl rfl) (hd 76 (by decide)) (fun hg => q_move (val_tmp rfl)) ?_
        refine tq_opG (g_no rfl rfl) (hd 77 (by decide)) (fun hg => q_idx (val_grd (val_tmp rfl) hg) (val_grd (val_tmp rfl) hg) ts27 te27 (by first | omega | (simp only [Bool.and_eq_true, Bool.or_eq_true, Bool.not_eq_true', Bool.not_eq_false', Bool.or_eq_false_iff, Bool.and_eq_false_iff, decide_eq_true_eq, decide_eq_false_iff_not] at *; omega)) (by first | omega | (simp only [Bool.and_eq_true, Bool.or_eq_true, Bool.not_eq_true', Bool.not_eq_false', Bool.or_eq_false_iff, Bool.and_eq_false_iff, decide_eq_true_eq, decide_eq_false_iff_not] at *; omega))) ?_
        refine tq_opG (g_no rfl rfl) (hd 78 (by decide)) (fun hg => q_fld _ _ (val_grd (val_tmp rfl) hg) Try.underlying47 rfl 0 (fun w => Try.sizeOf3 w)) ?_
        refine tq_opG (g_no rfl rfl) (hd 79 (by decide)) (fun hg => q_ld (val_grd (val_tmp rfl) hg) Try.isAgg3 (by decide)) ?_
        refine tq_opG (g_no rfl rfl) (hd 80 (by decide)) (fun hg => q_and64 (val_grd (val_tmp rfl) hg) val_const) ?_
        refine tq_opG (g_no rfl rfl) (hd 81 (by decide)) (fun hg => q_eql (val_grd (val_tmp rfl) hg) val_const) ?_
        refine tq_op (hd 82 (by decide)) (q_or (val_tmp rfl) (fun h => val_grd (val_tmp rfl) (notT h))) ?_
        refine tq_op (hd 83 (by decide)) (q_move (val_tmp rfl)) ?_
        refine tq_opG (g_no rfl rfl) (hd 84 (by decide)) (fun hg => q_move (val_tmp rfl)) ?_
        refine tq_opG (g_no rfl rfl) (hd 85 (by decide)) (fun hg => q_move (val_tmp rfl)) ?_
        refine tq_opG (g_no rfl rfl) (hd 86 (by decide)) (fun hg => q_len (val_grd (val_tmp rfl) hg) ts27) ?_
        refine tq_opG (g_no rfl rfl) (hd 87 (by decide)) (fun hg => q_slHN (h := l.length) ts27 te27 (val_grd (val_tmp rfl) hg) (val_grd (val_tmp rfl) hg) (by first | omega | (simp only [Bool.and_eq_true, Bool.or_eq_true, Bool.not_eq_true', Bool.not_eq_false', Bool.or_eq_false_iff, Bool.and_eq_false_iff, decide_eq_true_eq, decide_eq_false_iff_not] at *; omega))) ?_
        refine tq_opG (g_no rfl rfl) (hd 88 (by decide)) (fun hg => q_move (val_tmp rfl)) ?_
        refine tq_callG (g_no rfl rfl) en41 (hd 89 (by decide)) (fun hg => (by exact ⟨⟨(val_grd (val_tmp rfl) hg), rfl⟩, ⟨(val_grd (val_tmp rfl) hg), rfl⟩, trivial⟩)) (fun hg => equalFr_ct (((attachFr l k org may).1).take l.length) l) ?_
        refine tq_opG (g_no rfl rfl) (hd 90 (by decide)) (fun hg => q_not (val_grd (val_tmp rfl) hg)) ?_
        refine tq_op (hd 91 (by decide)) (q_or (val_tmp rfl) (fun h => val_grd (val_tmp rfl) (notT h))) ?_
        refine tq_nil ?_
        refine c_cond (val_tmp rfl) (fun hc3 => ?_) (fun hc3 => ?_)
        · have hc3s := hc3
          try simp only [Bool.and_eq_true, Bool.or_eq_true, Bool.not_eq_true', Bool.not_eq_false', Bool.or_eq_false_iff, Bool.and_eq_false_iff, decide_eq_true_eq, decide_eq_false_iff_not] at hc3s
          exact absurd hc3 (ff (may_1 hc2s))
          --done
        · have hc3s := hc3
          try simp only [Bool.and_eq_true, Bool.or_eq_true, Bool.not_eq_true', Bool.not_eq_false', Bool.or_eq_false_iff, Bool.and_eq_false_iff, decide_eq_true_eq, decide_eq_false_iff_not] at hc3s
          refine c_skip ?_
          refine c_hereG (T := (fun _ : Unit => (⟨[(0, frRow l), (1, iv (k))], []⟩ : St))) (I := (fun _ : Unit => True)) (()) ?_ ?_ (fun _ _ h => h)
          · show True
            first | trivial | omega | (simp; done)
          · refine weakE (sl := [(0, frRow l), (1, iv (k))]) (ow := []) ?_ ?_
            · exact ⟨val_tmp rfl, val_tmp rfl, trivial⟩
            · exact trivial
      · have hc2s := hc2
        try simp only [Bool.and_eq_true, Bool.or_eq_true, Bool.not_eq_true', Bool.not_eq_false', Bool.or_eq_false_iff, Bool.and_eq_false_iff, decide_eq_true_eq, decide_eq_false_iff_not] at hc2s
        refine c_skip ?_
        refine c_hereG (T := (fun _ : Unit => (⟨[(0, frRow l), (1, iv (k))], []⟩ : St))) (I := (fun _ : Unit => True)) (()) ?_ ?_ (fun _ _ h => h)
        · show True
          first | trivial | omega | (simp; done)
        · refine weakE (sl := [(0, frRow l), (1, iv (k))]) (ow := []) ?_ ?_
          · exact ⟨val_tmp rfl, val_tmp rfl, trivial⟩
          · exact trivial
    · rintro _ hM
      have hM' : True := hM
      refine c_seq ?_
      refine c_seq ?_
      refine c_rq ?_
      refine tq_op (hd 92 (by decide)) (q_move (val_tmp rfl)) ?_
      refine tq_op (hd 93 (by decide)) (q_len (val_tmp rfl) ts27) ?_
      refine tq_op (hd 94 (by decide)) (q_move val_const) ?_
      refine tq_nil ?_
      refine c_block ?_
      refine c_loop (fun (i : Nat) => (⟨[(0, frRow l), (1, iv (k)), (92, frRow l), (93, iv ((l.length : Int))), (94, iv ((i : Int)))], []⟩ : St)) (fun (i : Nat) => i ≤ l.length) (fun (i : Nat) => l.length - i) 0 ?_ ?_ ?_
      · show 0 ≤ l.length
        first | omega | (simp; done) | (refine ⟨?_, ?_⟩ <;> first | omega | (simp; done))
      · refine weakE (sl := [(0, frRow l), (1, iv (k)), (92, frRow l), (93, iv ((l.length : Int))), (94, iv ((0 : Int)))]) (ow := []) ?_ ?_
        · exact ⟨val_tmp rfl, val_tmp rfl, val_tmp rfl, val_tmp rfl, val_tmp rfl, trivial⟩
        · exact trivial
      · rintro i hI1
        have hJ1 : i ≤ l.length := hI1
        refine c_seq ?_
        refine c_rq ?_
        refine tq_op (hd 95 (by decide)) (q_lss (val_tmp rfl) (val_tmp rfl)) ?_
        refine tq_nil ?_
        refine c_seq ?_
        refine c_cond (val_tmp rfl) (fun hc4 => ?_) (fun hc4 => ?_)
        · have hc4s := hc4
          try simp only [Bool.and_eq_true, Bool.or_eq_true, Bool.not_eq_true', Bool.not_eq_false', Bool.or_eq_false_iff, Bool.and_eq_false_iff, decide_eq_true_eq, decide_eq_false_iff_not] at hc4s
          refine c_skip ?_
          refine c_seq ?_
          refine c_block ?_
          refine c_seq ?_
          refine c_rt ?_
          refine t_op (hd 96 (by decide)) (q_move (val_tmp rfl)) ?_
          refine t_op (hd 97 (by decide)) (q_idxN (i := i) (val_tmp rfl) (val_tmp rfl) ts27 te27 (by first | omega | (simp only [Bool.and_eq_true, Bool.or_eq_true, Bool.not_eq_true', Bool.not_eq_false', Bool.or_eq_false_iff, Bool.and_eq_false_iff, decide_eq_true_eq, decide_eq_false_iff_not] at *; omega))) ?_
          refine t_op (hd 98 (by decide)) (q_ldA (val_tmp rfl) Try.isAgg47 Try.sizeOf47 (by decide)) ?_
          refine t_alloc 1 (hd 12 (by decide)) zero47 rfl rfl ?_
          refine t_op (hd 11 (by decide)) (q_assign (val_tmp rfl)) ?_
          refine t_stA (val_tmp rfl) rfl (val_tmp rfl) Try.sizeOf47 ?_
          refine t_nil ?_
          refine c_seq ?_
          refine c_rq ?_
          refine tq_op (hd 99 (by decide)) (q_move (val_tmp rfl)) ?_
          refine tq_op (hd 100 (by decide)) (q_len (val_tmp rfl) ts27) ?_
          refine tq_op (hd 101 (by decide)) (q_move val_const) ?_
          refine tq_nil ?_
          refine c_block ?_
          refine c_loop (fun (j : Nat) => (⟨[(0, frRow l), (1, iv (k)), (11, iv ((i : Int))), (12, SV.bp 1 0), (92, frRow l), (93, iv ((l.length : Int))), (94, iv ((i : Int))), (99, frRow l), (100, iv ((l.length : Int))), (101, iv ((j : Int)))], [(1, Own.box 5 (fun zi => (rowG frCell default l) i (0 + zi)) 47)]⟩ : St)) (fun (j : Nat) => j ≤ l.length) (fun (j : Nat) => l.length - j) 0 ?_ ?_ ?_
          · show 0 ≤ l.length
            first | omega | (simp; done) | (refine ⟨?_, ?_⟩ <;> first | omega | (simp; done))
          · refine weakE (sl := [(0, frRow l), (1, iv (k)), (11, iv ((i : Int))), (12, SV.bp 1 0), (92, frRow l), (93, iv ((l.length : Int))), (94, iv ((i : Int))), (99, frRow l), (100, iv ((l.length : Int))), (101, iv ((0 : Int)))]) (ow := [(1, Own.box 5 (fun zi => (rowG frCell default l) i (0 + zi)) 47)]) ?_ ?_
            · exact ⟨val_tmp rfl, val_tmp rfl, val_tmp rfl, val_tmp rfl, val_tmp rfl, val_tmp rfl, val_tmp rfl, val_tmp rfl, val_tmp rfl, val_tmp rfl, trivial⟩
            · exact ⟨⟨_, rfl, ⟨rfl, rfl, ⟨⟨⟨⟨⟨trivial, rfl⟩, rfl⟩, rfl⟩, rfl⟩, rfl⟩⟩⟩, trivial⟩
          · rintro j hI2
            have hJ2 : j ≤ l.length := hI2
            refine c_seq ?_
            refine c_rq ?_
            refine tq_op (hd 102 (by decide)) (q_lss (val_tmp rfl) (val_tmp rfl)) ?_
            refine tq_nil ?_
            refine c_seq ?_
            refine c_cond (val_tmp rfl) (fun hc5 => ?_) (fun hc5 => ?_)
            · have hc5s := hc5
              try simp only [Bool.and_eq_true, Bool.or_eq_true, Bool.not_eq_true', Bool.not_eq_false', Bool.or_eq_false_iff, Bool.and_eq_false_iff, decide_eq_true_eq, decide_eq_false_iff_not] at hc5s
              refine c_skip ?_
              refine c_seq ?_
              refine c_block ?_
              refine c_seq ?_
              refine c_rt ?_
              refine t_op (hd 103 (by decide)) (q_move (val_tmp rfl)) ?_
              refine t_op (hd 104 (by decide)) (q_idxN (i := j) (val_tmp rfl) (val_tmp rfl) ts27 te27 (by first | omega | (simp only [Bool.and_eq_true, Bool.or_eq_true, Bool.not_eq_true', Bool.not_eq_false', Bool.or_eq_false_iff, Bool.and_eq_false_iff, decide_eq_true_eq, decide_eq_false_iff_not] at *; omega))) ?_
              refine t_op (hd 105 (by decide)) (q_ldA (val_tmp rfl) Try.isAgg47 Try.sizeOf47 (by decide)) ?_
              refine t_alloc 2 (hd 14 (by decide)) zero47 rfl rfl ?_
              refine t_op (hd 13 (by decide)) (q_assign (val_tmp rfl)) ?_
              refine t_stA (val_tmp rfl) rfl (val_tmp rfl) Try.sizeOf47 ?_
              refine t_nil ?_
              refine c_seq ?_
              refine c_rq ?_
              refine tq_op (hd 106 (by decide)) (q_move (val_tmp rfl)) ?_
              refine tq_op (hd 107 (by decide)) (q_move (val_tmp rfl)) ?_
              refine tq_op (hd 108 (by decide)) (q_move (val_tmp rfl)) ?_
              refine tq_call en23 (hd 109 (by decide)) (by exact ⟨⟨(val_tmp rfl), rfl⟩, ⟨(val_tmp rfl), rfl⟩, ⟨(val_tmp rfl), rfl⟩, trivial⟩) (within_ct l ((j : Int)) ((i : Int))) ?_
              refine tq_op (hd 110 (by decide)) (q_move (val_tmp rfl)) ?_
              refine tq_opG (g_yes rfl rfl) (hd 111 (by decide)) (fun hg => q_fldB _ _ (val_tmp rfl) Try.underlying47 rfl 0 (fun w => Try.sizeOf3 w)) ?_
              refine tq_opG (g_yes rfl rfl) (hd 112 (by decide)) (fun hg => q_ldB (val_grd (val_tmp rfl) hg) rfl Try.isAgg3 (by decide)) ?_
              refine tq_opG (g_yes rfl rfl) (hd 113 (by decide)) (fun hg => q_fldB _ _ (val_tmp rfl) Try.underlying47 rfl 0 (fun w => Try.sizeOf3 w)) ?_
              refine tq_opG (g_yes rfl rfl) (hd 114 (by decide)) (fun hg => q_ldB (val_grd (val_tmp rfl) hg) rfl Try.isAgg3 (by decide)) ?_
              refine tq_opG (g_yes rfl rfl) (hd 115 (by decide)) (fun hg => q_andNot64 (val_grd (val_tmp rfl) hg) (val_grd (val_tmp rfl) hg)) ?_
              refine tq_opG (g_yes rfl rfl) (hd 116 (by decide)) (fun hg => q_neq (val_grd (val_tmp rfl) hg) val_const) ?_
              refine tq_op (hd 117 (by decide)) (q_and (val_tmp rfl) (fun h => val_grd (val_tmp rfl) h)) ?_
              refine tq_nil ?_
              refine c_cond (val_tmp rfl) (fun hc6 => ?_) (fun hc6 => ?_)
              · have hc6s := hc6
                try simp only [Bool.and_eq_true, Bool.or_eq_true, Bool.not_eq_true', Bool.not_eq_false', Bool.or_eq_false_iff, Bool.and_eq_false_iff, decide_eq_true_eq, decide_eq_false_iff_not] at hc6s
                exact absurd (within_sub hc0 (by omega) (by omega) (by omega) hc6s.1) hc6s.2
                --done
              · have hc6s := hc6
                try simp only [Bool.and_eq_true, Bool.or_eq_true, Bool.not_eq_true', Bool.not_eq_false', Bool.or_eq_false_iff, Bool.and_eq_false_iff, decide_eq_true_eq, decide_eq_false_iff_not] at hc6s
                refine c_skip ?_
                refine c_rq ?_
                refine tq_op (hd 118 (by decide)) (q_add (val_tmp rfl) val_const (by first | omega | (simp only [Bool.and_eq_true, Bool.or_eq_true, Bool.not_eq_true', Bool.not_eq_false', Bool.or_eq_false_iff, Bool.and_eq_false_iff, decide_eq_true_eq, decide_eq_false_iff_not] at *; omega))) ?_
                refine tq_op (hd 101 (by decide)) (q_move (val_tmp rfl)) ?_
                refine tq_nil ?_
                refine c_next (j + 1) ?_ ?_ ?_
                · show (j + 1) ≤ l.length
                  first | omega | (simp; done) | (refine ⟨?_, ?_⟩ <;> first | omega | (simp; done))
                · show l.length - (j + 1) < l.length - j
                  omega
                · refine weakE (sl := [(0, frRow l), (1, iv (k)), (11, iv ((i : Int))), (12, SV.bp 1 0), (92, frRow l), (93, iv ((l.length : Int))), (94, iv ((i : Int))), (99, frRow l), (100, iv ((l.length : Int))), (101, iv (((j + 1) : Int)))]) (ow := [(1, Own.box 5 (fun zi => (rowG frCell default l) i (0 + zi)) 47)]) ?_ ?_
                  · exact ⟨val_tmp rfl, val_tmp rfl, val_tmp rfl, val_tmp rfl, val_tmp rfl, val_tmp rfl, val_tmp rfl, val_tmp rfl, val_tmp rfl, val_tmp rfl, trivial⟩
                  · exact ⟨⟨_, rfl, ⟨rfl, rfl, ⟨⟨⟨⟨⟨trivial, rfl⟩, rfl⟩, rfl⟩, rfl⟩, rfl⟩⟩⟩, trivial⟩
            · have hc5s := hc5
              try simp only [Bool.and_eq_true, Bool.or_eq_true, Bool.not_eq_true', Bool.not_eq_false', Bool.or_eq_false_iff, Bool.and_eq_false_iff, decide_eq_true_eq, decide_eq_false_iff_not] at hc5s
              refine c_exit ?_
              refine c_rq ?_
              refine tq_op (hd 119 (by decide)) (q_add (val_tmp rfl) val_const (by first | omega | (simp only [Bool.and_eq_true, Bool.or_eq_true, Bool.not_eq_true', Bool.not_eq_false', Bool.or_eq_false_iff, Bool.and_eq_false_iff, decide_eq_true_eq, decide_eq_false_iff_not] at *; omega))) ?_
              refine tq_op (hd 94 (by decide)) (q_move (val_tmp rfl)) ?_
              refine tq_nil ?_
              refine c_next (i + 1) ?_ ?_ ?_
              · show (i + 1) ≤ l.length
                first | omega | (simp; done) | (refine ⟨?_, ?_⟩ <;> first | omega | (simp; done))
              · show l.length - (i + 1) < l.length - i
                omega
              · refine weakE (sl := [(0, frRow l), (1, iv (k)), (92, frRow l), (93, iv ((l.length : Int))), (94, iv (((i + 1) : Int)))]) (ow := []) ?_ ?_
                · exact ⟨val_tmp rfl, val_tmp rfl, val_tmp rfl, val_tmp rfl, val_tmp rfl, trivial⟩
                · exact trivial
        · have hc4s := hc4
          try simp only [Bool.and_eq_true, Bool.or_eq_true, Bool.not_eq_true', Bool.not_eq_false', Bool.or_eq_false_iff, Bool.and_eq_false_iff, decide_eq_true_eq, decide_eq_false_iff_not] at hc4s
          refine c_exit ?_
          refine c_seq ?_
          refine c_rt ?_
          refine t_op (hd 121 (by decide)) (q_move (val_tmp rfl)) ?_
          refine t_op (hd 122 (by decide)) (q_move (val_tmp rfl)) ?_
          refine t_call en39 (hd 123 (by decide)) (by exact ⟨⟨(val_tmp rfl), rfl⟩, ⟨(val_tmp rfl), rfl⟩, trivial⟩) (discard_ct l k) ?_
          refine t_op (hd 120 (by decide)) (q_move (val_tmp rfl)) ?_
          refine t_op (hd 124 (by decide)) (q_ext (val_tmp rfl) (by decide)) ?_
          refine t_op (hd 125 (by decide)) (q_ext (val_tmp rfl) (by decide)) ?_
          refine t_op (hd 15 (by decide)) (q_assign (val_tmp rfl)) ?_
          refine t_op (hd 16 (by decide)) (q_assign (val_tmp rfl)) ?_
          refine t_nil ?_
          refine c_seq ?_
          refine c_seq ?_
          refine c_rq ?_
          refine tq_op (hd 126 (by decide)) (q_move (val_tmp rfl)) ?_
          refine tq_op (hd 127 (by decide)) (q_neq (val_tmp rfl) val_const) ?_
          refine tq_nil ?_
          refine c_cond (val_tmp rfl) (fun hc7 => ?_) (fun hc7 => ?_)
          · have hc7s := hc7
            try simp only [Bool.and_eq_true, Bool.or_eq_true, Bool.not_eq_true', Bool.not_eq_false', Bool.or_eq_false_iff, Bool.and_eq_false_iff, decide_eq_true_eq, decide_eq_false_iff_not] at hc7s
            refine c_seq ?_
            refine c_rq ?_
            refine tq_op (hd 8 (by decide)) (q_assign val_const) ?_
            refine tq_nil ?_
            refine c_ret ?_
            exact ret1 rfl (val_tmp rfl) rfl (by show bv (true) = bv true; rfl)
          · have hc7s := hc7
            try simp only [Bool.and_eq_true, Bool.or_eq_true, Bool.not_eq_true', Bool.not_eq_false', Bool.or_eq_false_iff, Bool.and_eq_false_iff, decide_eq_true_eq, decide_eq_false_iff_not] at hc7s
            obtain ⟨-, hkk, he⟩ := disc_ok (by omega)
            have hB := holds_in hkk
            have hlen : (discardFr l k).1.length = l.length := by rw [he]; exact goneFr_len l k
            refine c_skip ?_
            refine c_seq ?_
            refine c_seq ?_
            refine c_rq ?_
            refine tq_op (hd 128 (by decide)) (q_move (val_tmp rfl)) ?_
            refine tq_op (hd 129 (by decide)) (q_len (val_tmp rfl) ts27) ?_
            refine tq_op (hd 130 (by decide)) (q_move val_const) ?_
            refine tq_nil ?_
            refine c_block ?_
            refine c_loop (fun (i : Nat) => (⟨[(0, frRow l), (1, iv (k)), (15, frRow ((discardFr l k).1)), (128, frRow ((discardFr l k).1)), (129, iv ((((discardFr l k).1).length : Int))), (130, iv ((i : Int)))], []⟩ : St)) (fun (i : Nat) => i ≤ (discardFr l k).1.length) (fun (i : Nat) => (discardFr l k).1.length - i) 0 ?_ ?_ ?_
            · show 0 ≤ (discardFr l k).1.length
              first | omega | (simp; done) | (refine ⟨?_, ?_⟩ <;> first | omega | (simp; done))
            · refine weakE (sl := [(0, frRow l), (1, iv (k)), (15, frRow ((discardFr l k).1)), (128, frRow ((discardFr l k).1)), (129, iv ((((discardFr l k).1).length : Int))), (130, iv ((0 : Int)))]) (ow := []) ?_ ?_
              · exact ⟨val_tmp rfl, val_tmp rfl, val_tmp rfl, val_tmp rfl, val_tmp rfl, val_tmp rfl, trivial⟩
              · exact trivial
            · rintro i hI3
              have hJ3 : i ≤ (discardFr l k).1.length := hI3
              refine c_seq ?_
              refine c_rq ?_
              refine tq_op (hd 131 (by decide)) (q_lss (val_tmp rfl) (val_tmp rfl)) ?_
              refine tq_nil ?_
              refine c_seq ?_
              refine c_cond (val_tmp rfl) (fun hc8 => ?_) (fun hc8 => ?_)
              · have hc8s := hc8
                try simp only [Bool.and_eq_true, Bool.or_eq_true, Bool.not_eq_true', Bool.not_eq_false', Bool.or_eq_false_iff, Bool.and_eq_false_iff, decide_eq_true_eq, decide_eq_false_iff_not] at hc8s
                refine c_skip ?_
                refine c_seq ?_
                refine c_block ?_
                refine c_seq ?_
                refine c_rt ?_
                refine t_op (hd 132 (by decide)) (q_move (val_tmp rfl)) ?_
                refine t_op (hd 133 (by decide)) (q_idxN (i := i) (val_tmp rfl) (val_tmp rfl) ts27 te27 (by first | omega | (simp only [Bool.and_eq_true, Bool.or_eq_true, Bool.not_eq_true', Bool.not_eq_false', Bool.or_eq_false_iff, Bool.and_eq_false_iff, decide_eq_true_eq, decide_eq_false_iff_not] at *; omega))) ?_
                refine t_op (hd 134 (by decide)) (q_ldA (val_tmp rfl) Try.isAgg47 Try.sizeOf47 (by decide)) ?_
                refine t_alloc 3 (hd 18 (by decide)) zero47 rfl rfl ?_
                refine t_op (hd 17 (by decide)) (q_assign (val_tmp rfl)) ?_
                refine t_stA (val_tmp rfl) rfl (val_tmp rfl) Try.sizeOf47 ?_
                refine t_nil ?_
                refine c_seq ?_
                refine c_rqd (by kernel_rfl) (by kernel_rfl) ?_
                refine tq_op (hd 135 (by decide)) (q_fldB _ _ (val_tmp rfl) Try.underlying47 rfl 0 (fun w => Try.sizeOf4 w)) ?_
                refine tq_op (hd 136 (by decide)) (q_ldB (val_tmp rfl) rfl Try.isAgg4 (by decide)) ?_
                refine tq_op (hd 137 (by decide)) (q_move (val_tmp rfl)) ?_
                refine tq_op (hd 138 (by decide)) (q_move (val_tmp rfl)) ?_
                refine tq_op (hd 139 (by decide)) (q_idxN (i := i) (val_tmp rfl) (val_tmp rfl) ts27 te27 (by first | omega | (simp only [Bool.and_eq_true, Bool.or_eq_true, Bool.not_eq_true', Bool.not_eq_false', Bool.or_eq_false_iff, Bool.and_eq_false_iff, decide_eq_true_eq, decide_eq_false_iff_not] at *; omega))) ?_
                refine tq_op (hd 140 (by decide)) (q_fld _ _ (val_tmp rfl) Try.underlying47 rfl 0 (fun w => Try.sizeOf4 w)) ?_
                refine tq_op (hd 141 (by decide)) (q_ld (val_tmp rfl) Try.isAgg4 (by decide)) ?_
                refine tq_op (hd 142 (by decide)) (q_move (val_tmp rfl)) ?_
                refine tq_opG (g_no rfl rfl) (hd 143 (by decide)) (fun hg => q_move (val_tmp rfl)) ?_
                refine tq_opG (g_no rfl rfl) (hd 144 (by decide)) (fun hg => q_move (val_tmp rfl)) ?_
                refine tq_opG (g_no rfl rfl) (hd 145 (by decide)) (fun hg => q_move (val_tmp rfl)) ?_
                refine tq_callG (g_no rfl rfl) en23 (hd 146 (by decide)) (fun hg => (by exact ⟨⟨(val_grd (val_tmp rfl) hg), rfl⟩, ⟨(val_grd (val_tmp rfl) hg), rfl⟩, ⟨(val_grd (val_tmp rfl) hg), rfl⟩, trivial⟩)) (fun hg => within_ct l ((i : Int)) k) ?_
                refine tq_op (hd 147 (by decide)) (q_or (val_tmp rfl) (fun h => val_grd (val_tmp rfl) (notT h))) ?_
                refine tq_op (hd 148 (by decide)) (q_neqb (val_tmp rfl) (val_tmp rfl) Try.underlying4) ?_
                refine tq_nil ?_
                refine c_cond (val_tmp rfl) (fun hc9 => ?_) (fun hc9 => ?_)
                · have hc9s := hc9
                  try simp only [Bool.and_eq_true, Bool.or_eq_true, Bool.not_eq_true', Bool.not_eq_false', Bool.or_eq_false_iff, Bool.and_eq_false_iff, decide_eq_true_eq, decide_eq_false_iff_not] at hc9s
                  rw [he] at hc9
                  exact absurd hc9 (by show ¬ (((goneFr l k).getD i default).gone != _) = true; rw [goneFr_at hc0 ⟨hB.1, hB.2.1⟩ (by omega)]; simp [dFr])
                  --done
                · have hc9s := hc9
                  try simp only [Bool.and_eq_true, Bool.or_eq_true, Bool.not_eq_true', Bool.not_eq_false', Bool.or_eq_false_iff, Bool.and_eq_false_iff, decide_eq_true_eq, decide_eq_false_iff_not] at hc9s
                  refine c_skip ?_
                  refine c_rq ?_
                  refine tq_op (hd 149 (by decide)) (q_add (val_tmp rfl) val_const (by first | omega | (simp only [Bool.and_eq_true, Bool.or_eq_true, Bool.not_eq_true', Bool.not_eq_false', Bool.or_eq_false_iff, Bool.and_eq_false_iff, decide_eq_true_eq, decide_eq_false_iff_not] at *; omega))) ?_
                  refine tq_op (hd 130 (by decide)) (q_move (val_tmp rfl)) ?_
                  refine tq_nil ?_
                  refine c_next (i + 1) ?_ ?_ ?_
                  · show (i + 1) ≤ (discardFr l k).1.length
                    first | omega | (simp; done) | (refine ⟨?_, ?_⟩ <;> first | omega | (simp; done))
                  · show (discardFr l k).1.length - (i + 1) < (discardFr l k).1.length - i
                    omega
                  · refine weakE (sl := [(0, frRow l), (1, iv (k)), (15, frRow ((discardFr l k).1)), (128, frRow ((discardFr l k).1)), (129, iv ((((discardFr l k).1).length : Int))), (130, iv (((i + 1) : Int)))]) (ow := []) ?_ ?_
                    · exact ⟨val_tmp rfl, val_tmp rfl, val_tmp rfl, val_tmp rfl, val_tmp rfl, val_tmp rfl, trivial⟩
                    · exact trivial
              · have hc8s := hc8
                try simp only [Bool.and_eq_true, Bool.or_eq_true, Bool.not_eq_true', Bool.not_eq_false', Bool.or_eq_false_iff, Bool.and_eq_false_iff, decide_eq_true_eq, decide_eq_false_iff_not] at hc8s
                refine c_exit ?_
                refine c_seq ?_
                refine c_rt ?_
                refine t_op (hd 151 (by decide)) (q_move (val_tmp rfl)) ?_
                refine t_op (hd 152 (by decide)) (q_move (val_tmp rfl)) ?_
                refine t_call en31 (hd 153 (by decide)) (by exact ⟨⟨(val_tmp rfl), rfl⟩, ⟨(val_tmp rfl), rfl⟩, trivial⟩) (length_ct ((discardFr l k).1) k) ?_
                refine t_op (hd 150 (by decide)) (q_move (val_tmp rfl)) ?_
                refine t_op (hd 154 (by decide)) (q_ext (val_tmp rfl) (by decide)) ?_
                refine t_op (hd 155 (by decide)) (q_ext (val_tmp rfl) (by decide)) ?_
                refine t_op (hd 16 (by decide)) (q_assign (val_tmp rfl)) ?_
                refine t_nil ?_
                refine c_seq ?_
                refine c_rq ?_
                refine tq_op (hd 156 (by decide)) (q_move (val_tmp rfl)) ?_
                refine tq_call en21 (hd 157 (by decide)) (by exact ⟨⟨(val_tmp rfl), rfl⟩, trivial⟩) (check_ct ((discardFr l k).1)) ?_
                refine tq_op (hd 158 (by decide)) (q_eql (val_tmp rfl) val_const) ?_
                refine tq_op (hd 159 (by decide)) (q_move (val_tmp rfl)) ?_
                refine tq_opG (g_yes rfl rfl) (hd 160 (by decide)) (fun hg => q_move (val_tmp rfl)) ?_
                refine tq_opG (g_yes rfl rfl) (hd 161 (by decide)) (fun hg => q_eql (val_grd (val_tmp rfl) hg) val_const) ?_
                refine tq_op (hd 162 (by decide)) (q_and (val_tmp rfl) (fun h => val_grd (val_tmp rfl) h)) ?_
                refine tq_op (hd 8 (by decide)) (q_assign (val_tmp rfl)) ?_
                refine tq_nil ?_
                refine c_ret ?_
                exact ret1 rfl (val_tmp rfl) rfl (by show bv ((decide (checkFr ((discardFr l k).1) = 0)) && (decide ((lenFr ((discardFr l k).1) k).2 = 5))) = bv true; rw [he]; show _ = bv true; rw [show ((goneFr l k), (0 : Int)).1 = goneFr l k from rfl, gone_check hc0 hkk, len_2 (gone_check hc0 hkk) (by rw [gone_holds hc0 hkk]; decide), gone_holds hc0 hkk]; rfl)

/-- glasshouse/glasshouselaw.NavNever -/
theorem navNever_ct (l : List Fr) (k : Int) (os : List Int) : Ct Try.prog 9 [frRow l, iv (k), inRow os] (bv true) := by
  refine ct_of Try.func9 rfl (by show 3 ≤ 138; decide) fun E hN => ?_
  have hd : ∀ d, d < 138 → d < E.N := fun d h => Nat.lt_of_lt_of_eq h hN.symm
  refine row_len (val_tmp (s := 0) rfl) fun hl0 => ?_
  refine row_len (val_tmp (s := 2) rfl) fun hl2 => ?_
  refine c_seq ?_
  refine c_rq ?_
  refine tq_op (hd 6 (by decide)) (q_assign val_const) ?_
  refine tq_nil ?_
  refine c_seq ?_
  refine c_seq ?_
  refine c_rq ?_
  refine tq_call en35 (hd 13 (by decide)) (by exact trivial) (gone35_ct) ?_
  refine tq_op (hd 14 (by decide)) (q_not (val_tmp rfl)) ?_
  refine tq_op (hd 15 (by decide)) (q_move (val_tmp rfl)) ?_
  refine tq_opG (g_no rfl rfl) (hd 16 (by decide)) (fun hg => q_move (val_tmp rfl)) ?_
  refine tq_callG (g_no rfl rfl) en21 (hd 17 (by decide)) (fun hg => (by exact ⟨⟨(val_grd (val_tmp rfl) hg), rfl⟩, trivial⟩)) (fun hg => check_ct l) ?_
  refine tq_opG (g_no rfl rfl) (hd 18 (by decide)) (fun hg => q_neq (val_grd (val_tmp rfl) hg) val_const) ?_
  refine tq_op (hd 19 (by decide)) (q_or (val_tmp rfl) (fun h => val_grd (val_tmp rfl) (notT h))) ?_
  refine tq_op (hd 20 (by decide)) (q_move (val_tmp rfl)) ?_
  refine tq_opG (g_no rfl rfl) (hd 21 (by decide)) (fun hg => q_move (val_tmp rfl)) ?_
  refine tq_opG (g_no rfl rfl) (hd 22 (by decide)) (fun hg => q_move (val_tmp rfl)) ?_
  refine tq_callG (g_no rfl rfl) en22 (hd 23 (by decide)) (fun hg => (by exact ⟨⟨(val_grd (val_tmp rfl) hg), rfl⟩, ⟨(val_grd (val_tmp rfl) hg), rfl⟩, trivial⟩)) (fun hg => holds_ct l k) ?_
  refine tq_opG (g_no rfl rfl) (hd 24 (by decide)) (fun hg => q_neq (val_grd (val_tmp rfl) hg) val_const) ?_
  refine tq_op (hd 25 (by decide)) (q_or (val_tmp rfl) (fun h => val_grd (val_tmp rfl) (notT h))) ?_
  refine tq_nil ?_
  refine c_cond (val_tmp rfl) (fun hc1 => ?_) (fun hc1 => ?_)
  · have hc1s := hc1
    try simp only [Bool.and_eq_true, Bool.or_eq_true, Bool.not_eq_true', Bool.not_eq_false', Bool.or_eq_false_iff, Bool.and_eq_false_iff, decide_eq_true_eq, decide_eq_false_iff_not] at hc1s
    refine c_seq ?_
    refine c_rq ?_
    refine tq_call en35 (hd 26 (by decide)) (by exact trivial) (gone35_ct) ?_
    refine tq_op (hd 6 (by decide)) (q_assign (val_tmp rfl)) ?_
    refine tq_nil ?_
    refine c_ret ?_
    exact ret1 rfl (val_tmp rfl) rfl (by show bv (true) = bv true; rfl)
  · have hc1s := hc1
    try simp only [Bool.and_eq_true, Bool.or_eq_true, Bool.not_eq_true', Bool.not_eq_false', Bool.or_eq_false_iff, Bool.and_eq_false_iff, decide_eq_true_eq, decide_eq_false_iff_not] at hc1s
    obtain ⟨⟨-, hc0⟩, hkk⟩ := hc1s
    have h8 := check_len hc0
    have hB := holds_in hkk
    refine c_skip ?_
    refine c_seq ?_
    refine c_rq ?_
    refine tq_op (hd 27 (by decide)) (q_move (val_tmp rfl)) ?_
    refine tq_op (hd 7 (by decide)) (q_assign (val_tmp rfl)) ?_
    refine tq_nil ?_
    refine c_seq ?_
    refine c_seq ?_
    refine c_rq ?_
    refine tq_op (hd 28 (by decide)) (q_move (val_tmp rfl)) ?_
    refine tq_op (hd 29 (by decide)) (q_move (val_tmp rfl)) ?_
    refine tq_op (hd 30 (by decide)) (q_len (val_tmp rfl) ts24) ?_
    refine tq_op (hd 31 (by decide)) (q_min (val_tmp rfl) val_const) ?_
    refine tq_op (hd 32 (by decide)) (q_slHT ts24 te24 (val_tmp rfl) (val_tmp rfl) (by first | omega | (simp only [Bool.and_eq_true, Bool.or_eq_true, Bool.not_eq_true', Bool.not_eq_false', Bool.or_eq_false_iff, Bool.and_eq_false_iff, decide_eq_true_eq, decide_eq_false_iff_not] at *; omega)) (by first | omega | (simp only [Bool.and_eq_true, Bool.or_eq_true, Bool.not_eq_true', Bool.not_eq_false', Bool.or_eq_false_iff, Bool.and_eq_false_iff, decide_eq_true_eq, decide_eq_false_iff_not] at *; omega))) ?_
    refine tq_op (hd 33 (by decide)) (q_len (val_tmp rfl) ts24) ?_
    refine tq_op (hd 34 (by decide)) (q_move val_const) ?_
    refine tq_nil ?_
    refine c_block ?_
    refine c_loop (uc2 fun (i : Nat) (nw : List Fr) => (⟨[(0, frRow l), (1, iv (k)), (7, frRow nw), (32, inRow (os.take (Int.toNat (min ((os.length : Int)) 20)))), (33, iv (((os.take (Int.toNat (min ((os.length : Int)) 20))).length : Int))), (34, iv ((i : Int)))], []⟩ : St)) (uc2 fun (i : Nat) (nw : List Fr) => i ≤ (os.take (Int.toNat (min (os.length : Int) 20))).length ∧ NvInv l k nw) (uc2 fun (i : Nat) (nw : List Fr) => (os.take (Int.toNat (min (os.length : Int) 20))).length - i) (0, l) ?_ ?_ ?_
    · show 0 ≤ (os.take (Int.toNat (min (os.length : Int) 20))).length ∧ NvInv l k l
      exact ⟨Nat.zero_le _, hc0, hkk, rfl, Int.le_refl _, rfl⟩
    · refine weakE (sl := [(0, frRow l), (1, iv (k)), (7, frRow l), (32, inRow (os.take (Int.toNat (min ((os.length : Int)) 20)))), (33, iv (((os.take (Int.toNat (min ((os.length : Int)) 20))).length : Int))), (34, iv ((0 : Int)))]) (ow := []) ?_ ?_
      · exact ⟨val_tmp rfl, val_tmp rfl, val_tmp rfl, val_tmp rfl, val_tmp rfl, val_tmp rfl, trivial⟩
      · exact trivial
    · rintro ⟨i, nw⟩ hI1
      have hJ1 : i ≤ (os.take (Int.toNat (min (os.length : Int) 20))).length ∧ NvInv l k nw := hI1
      have hi1 := hJ1.1
      have htl : (os.take (Int.toNat (min (os.length : Int) 20))).length ≤ os.length := by rw [List.length_take]; omega
      have hn := hJ1.2
      have hnl := hJ1.2.2.2.1
      have hnt := turn_le hJ1.2.1 hB.1 (by omega)
      refine c_seq ?_
      refine c_rq ?_
      refine tq_op (hd 35 (by decide)) (q_lss (val_tmp rfl) (val_tmp rfl)) ?_
      refine tq_nil ?_
      refine c_seq ?_
      refine c_cond (val_tmp rfl) (fun hc2 => ?_) (fun hc2 => ?_)
      · have hc2s := hc2
        try simp only [Bool.and_eq_true, Bool.or_eq_true, Bool.not_eq_true', Bool.not_eq_false', Bool.or_eq_false_iff, Bool.and_eq_false_iff, decide_eq_true_eq, decide_eq_false_iff_not] at hc2s
        refine c_skip ?_
        refine c_seq ?_
        refine c_block ?_
        refine c_seq ?_
        refine c_rq ?_
        refine tq_op (hd 36 (by decide)) (q_idxN (i := i) (val_tmp rfl) (val_tmp rfl) ts24 te24 (by first | omega | (simp only [Bool.and_eq_true, Bool.or_eq_true, Bool.not_eq_true', Bool.not_eq_false', Bool.or_eq_false_iff, Bool.and_eq_false_iff, decide_eq_true_eq, decide_eq_false_iff_not] at *; omega))) ?_
        refine tq_op (hd 37 (by decide)) (q_ld (val_tmp rfl) Try.isAgg3 (by decide)) ?_
        refine tq_op (hd 9 (by decide)) (q_assign (val_tmp rfl)) ?_
        refine tq_nil ?_
        refine c_seq ?_
        refine c_rt ?_
        refine t_op (hd 39 (by decide)) (q_move (val_tmp rfl)) ?_
        refine t_op (hd 40 (by decide)) (q_move (val_tmp rfl)) ?_
        refine t_op (hd 41 (by decide)) (q_move (val_tmp rfl)) ?_
        refine t_call en36 (hd 42 (by decide)) (by exact ⟨⟨(val_tmp rfl), rfl⟩, ⟨(val_tmp rfl), rfl⟩, ⟨(val_tmp rfl), rfl⟩, trivial⟩) (go_ct nw k (((os.take (Int.toNat (min ((os.length : Int)) 20))).getD i 0))) ?_
        refine t_op (hd 38 (by decide)) (q_move (val_tmp rfl)) ?_
        refine t_op (hd 43 (by decide)) (q_ext (val_tmp rfl) (by decide)) ?_
        refine t_op (hd 44 (by decide)) (q_ext (val_tmp rfl) (by decide)) ?_
        refine t_op (hd 10 (by decide)) (q_assign (val_tmp rfl)) ?_
        refine t_op (hd 11 (by decide)) (q_assign (val_tmp rfl)) ?_
        refine t_nil ?_
        refine c_seq ?_
        refine c_seq ?_
        refine c_rq ?_
        refine tq_op (hd 45 (by decide)) (q_move (val_tmp rfl)) ?_
        refine tq_op (hd 46 (by decide)) (q_neq (val_tmp rfl) val_const) ?_
        refine tq_nil ?_
        refine c_cond (val_tmp rfl) (fun hc3 => ?_) (fun hc3 => ?_)
        · have hc3s := hc3
          try simp only [Bool.and_eq_true, Bool.or_eq_true, Bool.not_eq_true', Bool.not_eq_false', Bool.or_eq_false_iff, Bool.and_eq_false_iff, decide_eq_true_eq, decide_eq_false_iff_not] at hc3s
          refine c_exit ?_
          refine c_rq ?_
          refine tq_op (hd 137 (by decide)) (q_add (val_tmp rfl) val_const (by first | omega | (simp only [Bool.and_eq_true, Bool.or_eq_true, Bool.not_eq_true', Bool.not_eq_false', Bool.or_eq_false_iff, Bool.and_eq_false_iff, decide_eq_true_eq, decide_eq_false_iff_not] at *; omega))) ?_
          refine tq_op (hd 34 (by decide)) (q_move (val_tmp rfl)) ?_
          refine tq_nil ?_
          refine c_next ((i + 1, nw)) ?_ ?_ ?_
          · show (i + 1) ≤ (os.take (Int.toNat (min (os.length : Int) 20))).length ∧ NvInv l k nw
            exact ⟨by omega, hn⟩
          · show (os.take (Int.toNat (min (os.length : Int) 20))).length - (i + 1) < (os.take (Int.toNat (min (os.length : Int) 20))).length - i
            omega
          · refine weakE (sl := [(0, frRow l), (1, iv (k)), (7, frRow nw), (32, inRow (os.take (Int.toNat (min ((os.length : Int)) 20)))), (33, iv (((os.take (Int.toNat (min ((os.length : Int)) 20))).length : Int))), (34, iv (((i + 1) : Int)))]) (ow := []) ?_ ?_
            · exact ⟨val_tmp rfl, val_tmp rfl, val_tmp rfl, val_tmp rfl, val_tmp rfl, val_tmp rfl, trivial⟩
            · exact trivial
        · have hc3s := hc3
          try simp only [Bool.and_eq_true, Bool.or_eq_true, Bool.not_eq_true', Bool.not_eq_false', Bool.or_eq_false_iff, Bool.and_eq_false_iff, decide_eq_true_eq, decide_eq_false_iff_not] at hc3s
          have hst := nav_step hn hc3s
          have hsl := hst.1.2.2.1
          refine c_skip ?_
          refine c_seq ?_
          refine c_seq ?_
          refine c_rqd (by kernel_rfl) (by kernel_rfl) ?_
          refine tq_op (hd 47 (by decide)) (q_move (val_tmp rfl)) ?_
          refine tq_call en21 (hd 48 (by decide)) (by exact ⟨⟨(val_tmp rfl), rfl⟩, trivial⟩) (check_ct ((navFr nw k (((os.take (Int.toNat (min ((os.length : Int)) 20))).getD i 0))).1)) ?_
          refine tq_op (hd 49 (by decide)) (q_neq (val_tmp rfl) val_const) ?_
          refine tq_op (hd 50 (by decide)) (q_move (val_tmp rfl)) ?_
          refine tq_opG (g_no rfl rfl) (hd 51 (by decide)) (fun hg => q_move (val_tmp rfl)) ?_
          refine tq_opG (g_no rfl rfl) (hd 52 (by decide)) (fun hg => q_move (val_tmp rfl)) ?_
          refine tq_opG (g_no rfl rfl) (hd 53 (by decide)) (fun hg => q_move (val_tmp rfl)) ?_
          refine tq_opG (g_no rfl rfl) (hd 54 (by decide)) (fun hg => q_move (val_tmp rfl)) ?_
          refine tq_opG (g_no rfl rfl) (hd 55 (by decide)) (fun hg => q_idx (val_grd (val_tmp rfl) hg) (val_grd (val_tmp rfl) hg) ts27 te27 (by first | omega | (simp only [Bool.and_eq_true, Bool.or_eq_true, Bool.not_eq_true', Bool.not_eq_false', Bool.or_eq_false_iff, Bool.and_eq_false_iff, decide_eq_true_eq, decide_eq_false_iff_not] at *; omega)) (by first | omega | (simp only [Bool.and_eq_true, Bool.or_eq_true, Bool.not_eq_true', Bool.not_eq_false', Bool.or_eq_false_iff, Bool.and_eq_false_iff, decide_eq_true_eq, decide_eq_false_iff_not] at *; omega))) ?_
          refine tq_opG (g_no rfl rfl) (hd 56 (by decide)) (fun hg => q_fld _ _ (val_grd (val_tmp rfl) hg) Try.underlying47 rfl 0 (fun w => Try.sizeOf3 w)) ?_
          refine tq_opG (g_no rfl rfl) (hd 57 (by decide)) (fun hg => q_ld (val_grd (val_tmp rfl) hg) Try.isAgg3 (by decide)) ?_
          refine tq_callG (g_no rfl rfl) en37 (hd 58 (by decide)) (fun hg => (by exact ⟨⟨(val_grd (val_tmp rfl) hg), rfl⟩, ⟨(val_grd (val_tmp rfl) hg), rfl⟩, ⟨(val_grd (val_tmp rfl) hg), rfl⟩, trivial⟩)) (fun hg => still_ct ((navFr nw k (((os.take (Int.toNat (min ((os.length : Int)) 20))).getD i 0))).1) k ((l.getD (Int.toNat k) default).turn)) ?_
          refine tq_op (hd 59 (by decide)) (q_or (val_tmp rfl) (fun h => val_grd (val_tmp rfl) (notT h))) ?_
          refine tq_op (hd 60 (by decide)) (q_move (val_tmp rfl)) ?_
          refine tq_opG (g_no rfl rfl) (hd 61 (by decide)) (fun hg => q_move (val_tmp rfl)) ?_
          refine tq_opG (g_no rfl rfl) (hd 62 (by decide)) (fun hg => q_move (val_tmp rfl)) ?_
          refine tq_opG (g_no rfl rfl) (hd 63 (by decide)) (fun hg => q_idx (val_grd (val_tmp rfl) hg) (val_grd (val_tmp rfl) hg) ts27 te27 (by first | omega | (simp only [Bool.and_eq_true, Bool.or_eq_true, Bool.not_eq_true', Bool.not_eq_false', Bool.or_eq_false_iff, Bool.and_eq_false_iff, decide_eq_true_eq, decide_eq_false_iff_not] at *; omega)) (by first | omega | (simp only [Bool.and_eq_true, Bool.or_eq_true, Bool.not_eq_true', Bool.not_eq_false', Bool.or_eq_false_iff, Bool.and_eq_false_iff, decide_eq_true_eq, decide_eq_false_iff_not] at *; omega))) ?_
          refine tq_opG (g_no rfl rfl) (hd 64 (by decide)) (fun hg => q_fld _ _ (val_grd (val_tmp rfl) hg) Try.underlying47 rfl 0 (fun w => Try.sizeOf3 w)) ?_
          refine tq_opG (g_no rfl rfl) (hd 65 (by decide)) (fun hg => q_ld (val_grd (val_tmp rfl) hg) Try.isAgg3 (by decide)) ?_
          refine tq_opG (g_no rfl rfl) (hd 66 (by decide)) (fun hg => q_move (val_tmp rfl)) ?_
          refine tq_opG (g_no rfl rfl) (hd 67 (by decide)) (fun hg => q_move (val_tmp rfl)) ?_
          refine tq_opG (g_no rfl rfl) (hd 68 (by decide)) (fun hg => q_idx (val_grd (val_tmp rfl) hg) (val_grd (val_tmp rfl) hg) ts27 te27 (by first | omega | (simp only [Bool.and_eq_true, Bool.or_eq_true, Bool.not_eq_true', Bool.not_eq_false', Bool.or_eq_false_iff, Bool.and_eq_false_iff, decide_eq_true_eq, decide_eq_false_iff_not] at *; omega)) (by first | omega | (simp only [Bool.and_eq_true, Bool.or_eq_true, Bool.not_eq_true', Bool.not_eq_false', Bool.or_eq_false_iff, Bool.and_eq_false_iff, decide_eq_true_eq, decide_eq_false_iff_not] at *; omega))) ?_
          refine tq_opG (g_no rfl rfl) (hd 69 (by decide)) (fun hg => q_fld _ _ (val_grd (val_tmp rfl) hg) Try.underlying47 rfl 0 (fun w => Try.sizeOf3 w)) ?_
          refine tq_opG (g_no rfl rfl) (hd 70 (by decide)) (fun hg => q_ld (val_grd (val_tmp rfl) hg) Try.isAgg3 (by decide)) ?_
          refine tq_opG (g_no rfl rfl) (hd 71 (by decide)) (fun hg => q_neq (val_grd (val_tmp rfl) hg) (val_grd (val_tmp rfl) hg)) ?_
          refine tq_op (hd 72 (by decide)) (q_or (val_tmp rfl) (fun h => val_grd (val_tmp rfl) (notT h))) ?_
          refine tq_op (hd 73 (by decide)) (q_move (val_tmp rfl)) ?_
          refine tq_opG (g_no rfl rfl) (hd 74 (by decide)) (fun hg => q_move (val_tmp rfl)) ?_
          refine tq_opG (g_no rfl rfl) (hd 75 (by decide)) (fun hg => q_move (val_tmp rfl)) ?_
          refine tq_opG (g_no rfl rfl) (hd 76 (by decide)) (fun hg => q_idx (val_grd (val_tmp rfl) hg) (val_grd (val_tmp rfl) hg) ts27 te27 (by first | omega | (simp only [Bool.and_eq_true, Bool.or_eq_true, Bool.not_eq_true', Bool.not_eq_false', Bool.or_eq_false_iff, Bool.and_eq_false_iff, decide_eq_true_eq, decide_eq_false_iff_not] at *; omega)) (by first | omega | (simp only [Bool.and_eq_true, Bool.or_eq_true, Bool.not_eq_true', Bool.not_eq_false', Bool.or_eq_false_iff, Bool.and_eq_false_iff, decide_eq_true_eq, decide_eq_false_iff_not] at *; omega))) ?_
          refine tq_opG (g_no rfl rfl) (hd 77 (by decide)) (fun hg => q_fld _ _ (val_grd (val_tmp rfl) hg) Try.underlying47 rfl 0 (fun w => Try.sizeOf3 w)) ?_
          refine tq_opG (g_no rfl rfl) (hd 78 (by decide)) (fun hg => q_ld (val_grd (val_tmp rfl) hg) Try.isAgg3 (by decide)) ?_
          refine tq_opG (g_no rfl rfl) (hd 79 (by decide)) (fun hg => q_move (val_tmp rfl)) ?_
          refine tq_opG (g_no rfl rfl) (hd 80 (by decide)) (fun hg => q_neq (val_grd (val_tmp rfl) hg) (val_grd (val_tmp rfl) hg)) ?_
          refine tq_op (hd 81 (by decide)) (q_or (val_tmp rfl) (fun h => val_grd (val_tmp rfl) (notT h))) ?_
          refine tq_nil ?_
          refine c_cond (val_tmp rfl) (fun hc4 => ?_) (fun hc4 => ?_)
          · have hc4s := hc4
            try simp only [Bool.and_eq_true, Bool.or_eq_true, Bool.not_eq_true', Bool.not_eq_false', Bool.or_eq_false_iff, Bool.and_eq_false_iff, decide_eq_true_eq, decide_eq_false_iff_not] at hc4s
            exact absurd hc4 (by simp only [hst.1.1, hst.2.1, hst.2.2, hst.1.2.2.2.2]; simp)
            --done
          · have hc4s := hc4
            try simp only [Bool.and_eq_true, Bool.or_eq_true, Bool.not_eq_true', Bool.not_eq_false', Bool.or_eq_false_iff, Bool.and_eq_false_iff, decide_eq_true_eq, decide_eq_false_iff_not] at hc4s
            refine c_skip ?_
            refine c_seq ?_
            refine c_seq ?_
            refine c_rq ?_
            refine tq_op (hd 82 (by decide)) (q_move (val_tmp rfl)) ?_
            refine tq_op (hd 83 (by decide)) (q_len (val_tmp rfl) ts27) ?_
            refine tq_op (hd 84 (by decide)) (q_move val_const) ?_
            refine tq_nil ?_
            refine c_block ?_
            refine c_loop (fun (j : Nat) => (⟨[(0, frRow l), (1, iv (k)), (7, frRow nw), (10, frRow ((navFr nw k (((os.take (Int.toNat (min ((os.length : Int)) 20))).getD i 0))).1)), (32, inRow (os.take (Int.toNat (min ((os.length : Int)) 20)))), (33, iv (((os.take (Int.toNat (min ((os.length : Int)) 20))).length : Int))), (34, iv ((i : Int))), (83, iv ((((navFr nw k (((os.take (Int.toNat (min ((os.length : Int)) 20))).getD i 0))).1).length : Int))), (84, iv ((j : Int)))], []⟩ : St)) (fun (j : Nat) => j ≤ (navFr nw k ((os.take (Int.toNat (min (os.length : Int) 20))).getD i 0)).1.length) (fun (j : Nat) => (navFr nw k ((os.take (Int.toNat (min (os.length : Int) 20))).getD i 0)).1.length - j) 0 ?_ ?_ ?_
            · show 0 ≤ (navFr nw k ((os.take (Int.toNat (min (os.length : Int) 20))).getD i 0)).1.length
              first | omega | (simp; done) | (refine ⟨?_, ?_⟩ <;> first | omega | (simp; done))
            · refine weakE (sl := [(0, frRow l), (1, iv (k)), (7, frRow nw), (10, frRow ((navFr nw k (((os.take (Int.toNat (min ((os.length : Int)) 20))).getD i 0))).1)), (32, inRow (os.take (Int.toNat (min ((os.length : Int)) 20)))), (33, iv (((os.take (Int.toNat (min ((os.length : Int)) 20))).length : Int))), (34, iv ((i : Int))), (83, iv ((((navFr nw k (((os.take (Int.toNat (min ((os.length : Int)) 20))).getD i 0))).1).length : Int))), (84, iv ((0 : Int)))]) (ow := []) ?_ ?_
              · exact ⟨val_tmp rfl, val_tmp rfl, val_tmp rfl, val_tmp rfl, val_tmp rfl, val_tmp rfl, val_tmp rfl, val_tmp rfl, val_tmp rfl, trivial⟩
              · exact trivial
            · rintro j hI2
              have hJ2 : j ≤ (navFr nw k ((os.take (Int.toNat (min (os.length : Int) 20))).getD i 0)).1.length := hI2
              refine c_seq ?_
              refine c_rq ?_
              refine tq_op (hd 85 (by decide)) (q_lss (val_tmp rfl) (val_tmp rfl)) ?_
              refine tq_nil ?_
              refine c_seq ?_
              refine c_cond (val_tmp rfl) (fun hc5 => ?_) (fun hc5 => ?_)
              · have hc5s := hc5
                try simp only [Bool.and_eq_true, Bool.or_eq_true, Bool.not_eq_true', Bool.not_eq_false', Bool.or_eq_false_iff, Bool.and_eq_false_iff, decide_eq_true_eq, decide_eq_false_iff_not] at hc5s
                refine c_skip ?_
                refine c_seq ?_
                refine c_block ?_
                refine c_seq ?_
                refine c_rq ?_
                refine tq_op (hd 86 (by decide)) (q_move (val_tmp rfl)) ?_
                refine tq_op (hd 12 (by decide)) (q_assign (val_tmp rfl)) ?_
                refine tq_nil ?_
                refine c_seq ?_
                refine c_rqd (by kernel_rfl) (by kernel_rfl) ?_
                refine tq_op (hd 87 (by decide)) (q_move (val_tmp rfl)) ?_
                refine tq_op (hd 88 (by decide)) (q_move (val_tmp rfl)) ?_
                refine tq_op (hd 89 (by decide)) (q_neq (val_tmp rfl) (val_tmp rfl)) ?_
                refine tq_op (hd 90 (by decide)) (q_move (val_tmp rfl)) ?_
                refine tq_opG (g_yes rfl rfl) (hd 91 (by decide)) (fun hg => q_move (val_tmp rfl)) ?_
                refine tq_opG (g_yes rfl rfl) (hd 92 (by decide)) (fun hg => q_move (val_tmp rfl)) ?_
                refine tq_opG (g_yes rfl rfl) (hd 93 (by decide)) (fun hg => q_idxN (i := j) (val_grd (val_tmp rfl) hg) (val_grd (val_tmp rfl) hg) ts27 te27 (by first | omega | (simp only [Bool.and_eq_true, Bool.or_eq_true, Bool.not_eq_true', Bool.not_eq_false', Bool.or_eq_false_iff, Bool.and_eq_false_iff, decide_eq_true_eq, decide_eq_false_iff_not] at *; omega))) ?_
                refine tq_opG (g_yes rfl rfl) (hd 94 (by decide)) (fun hg => q_fld _ _ (val_grd (val_tmp rfl) hg) Try.underlying47 rfl 0 (fun w => Try.sizeOf4 w)) ?_
                refine tq_opG (g_yes rfl rfl) (hd 95 (by decide)) (fun hg => q_ld (val_grd (val_tmp rfl) hg) Try.isAgg4 (by decide)) ?_
                refine tq_opG (g_yes rfl rfl) (hd 96 (by decide)) (fun hg => q_move (val_tmp rfl)) ?_
                refine tq_opG (g_yes rfl rfl) (hd 97 (by decide)) (fun hg => q_move (val_tmp rfl)) ?_
                refine tq_opG (g_yes rfl rfl) (hd 98 (by decide)) (fun hg => q_idxN (i := j) (val_grd (val_tmp rfl) hg) (val_grd (val_tmp rfl) hg) ts27 te27 (by first | omega | (simp only [Bool.and_eq_true, Bool.or_eq_true, Bool.not_eq_true', Bool.not_eq_false', Bool.or_eq_false_iff, Bool.and_eq_false_iff, decide_eq_true_eq, decide_eq_false_iff_not] at *; omega))) ?_
                refine tq_opG (g_yes rfl rfl) (hd 99 (by decide)) (fun hg => q_fld _ _ (val_grd (val_tmp rfl) hg) Try.underlying47 rfl 0 (fun w => Try.sizeOf4 w)) ?_
                refine tq_opG (g_yes rfl rfl) (hd 100 (by decide)) (fun hg => q_ld (val_grd (val_tmp rfl) hg) Try.isAgg4 (by decide)) ?_
                refine tq_opG (g_yes rfl rfl) (hd 101 (by decide)) (fun hg => q_move (val_grd (val_tmp rfl) hg)) ?_
                refine tq_opG (g_gno rfl rfl) (hd 102 (by decide)) (fun hg => q_move (val_tmp rfl)) ?_
                refine tq_opG (g_gno rfl rfl) (hd 103 (by decide)) (fun hg => q_move (val_tmp rfl)) ?_
                refine tq_opG (g_gno rfl rfl) (hd 104 (by decide)) (fun hg => q_move (val_tmp rfl)) ?_
                refine tq_callG (g_gno rfl rfl) en23 (hd 105 (by decide)) (fun hg => (by exact ⟨⟨(val_grd (val_tmp rfl) hg), rfl⟩, ⟨(val_grd (val_tmp rfl) hg), rfl⟩, ⟨(val_grd (val_tmp rfl) hg), rfl⟩, trivial⟩)) (fun hg => within_ct nw ((j : Int)) k) ?_
                refine tq_opG (g_yes rfl rfl) (hd 106 (by decide)) (fun hg => q_or (val_grd (val_tmp rfl) hg) (fun h => val_grd (val_tmp rfl) (andI hg (notT h)))) ?_
                refine tq_opG (g_yes rfl rfl) (hd 107 (by decide)) (fun hg => q_neqb (val_grd (val_tmp rfl) hg) (val_grd (val_tmp rfl) hg) Try.underlying4) ?_
                refine tq_opG (g_yes rfl rfl) (hd 108 (by decide)) (fun hg => q_move (val_grd (val_tmp rfl) hg)) ?_
                refine tq_opG (g_gno rfl rfl) (hd 109 (by decide)) (fun hg => q_move (val_tmp rfl)) ?_
                refine tq_opG (g_gno rfl rfl) (hd 110 (by decide)) (fun hg => q_move (val_tmp rfl)) ?_
                refine tq_opG (g_gno rfl rfl) (hd 111 (by decide)) (fun hg => q_idxN (i := j) (val_grd (val_tmp rfl) hg) (val_grd (val_tmp rfl) hg) ts27 te27 (by first | omega | (simp only [Bool.and_eq_true, Bool.or_eq_true, Bool.not_eq_true', Bool.not_eq_false', Bool.or_eq_false_iff, Bool.and_eq_false_iff, decide_eq_true_eq, decide_eq_false_iff_not] at *; omega))) ?_
                refine tq_opG (g_gno rfl rfl) (hd 112 (by decide)) (fun hg => q_fld _ _ (val_grd (val_tmp rfl) hg) Try.underlying47 rfl 0 (fun w => Try.sizeOf3 w)) ?_
                refine tq_opG (g_gno rfl rfl) (hd 113 (by decide)) (fun hg => q_ld (val_grd (val_tmp rfl) hg) Try.isAgg3 (by decide)) ?_
                refine tq_opG (g_gno rfl rfl) (hd 114 (by decide)) (fun hg => q_move (val_tmp rfl)) ?_
                refine tq_opG (g_gno rfl rfl) (hd 115 (by decide)) (fun hg => q_move (val_tmp rfl)) ?_
                refine tq_opG (g_gno rfl rfl) (hd 116 (by decide)) (fun hg => q_idxN (i := j) (val_grd (val_tmp rfl) hg) (val_grd (val_tmp rfl) hg) ts27 te27 (by first | omega | (simp only [Bool.and_eq_true, Bool.or_eq_true, Bool.not_eq_true', Bool.not_eq_false', Bool.or_eq_false_iff, Bool.and_eq_false_iff, decide_eq_true_eq, decide_eq_false_iff_not] at *; omega))) ?_
                refine tq_opG (g_gno rfl rfl) (hd 117 (by decide)) (fun hg => q_fld _ _ (val_grd (val_tmp rfl) hg) Try.underlying47 rfl 0 (fun w => Try.sizeOf3 w)) ?_
                refine tq_opG (g_gno rfl rfl) (hd 118 (by decide)) (fun hg => q_ld (val_grd (val_tmp rfl) hg) Try.isAgg3 (by decide)) ?_
                refine tq_opG (g_gno rfl rfl) (hd 119 (by decide)) (fun hg => q_neq (val_grd (val_tmp rfl) hg) (val_grd (val_tmp rfl) hg)) ?_
                refine tq_opG (g_yes rfl rfl) (hd 120 (by decide)) (fun hg => q_or (val_grd (val_tmp rfl) hg) (fun h => val_grd (val_tmp rfl) (andI hg (notT h)))) ?_
                refine tq_opG (g_yes rfl rfl) (hd 121 (by decide)) (fun hg => q_move (val_grd (val_tmp rfl) hg)) ?_
                refine tq_opG (g_gno rfl rfl) (hd 122 (by decide)) (fun hg => q_move (val_tmp rfl)) ?_
                refine tq_opG (g_gno rfl rfl) (hd 123 (by decide)) (fun hg => q_move (val_tmp rfl)) ?_
                refine tq_opG (g_gno rfl rfl) (hd 124 (by decide)) (fun hg => q_idxN (i := j) (val_grd (val_tmp rfl) hg) (val_grd (val_tmp rfl) hg) ts27 te27 (by first | omega | (simp only [Bool.and_eq_true, Bool.or_eq_true, Bool.not_eq_true', Bool.not_eq_false', Bool.or_eq_false_iff, Bool.and_eq_false_iff, decide_eq_true_eq, decide_eq_false_iff_not] at *; omega))) ?_
                refine tq_opG (g_gno rfl rfl) (hd 125 (by decide)) (fun hg => q_fld _ _ (val_grd (val_tmp rfl) hg) Try.underlying47 rfl 0 (fun w => Try.sizeOf3 w)) ?_
                refine tq_opG (g_gno rfl rfl) (hd 126 (by decide)) (fun hg => q_ld (val_grd (val_tmp rfl) hg) Try.isAgg3 (by decide)) ?_
                refine tq_opG (g_gno rfl rfl) (hd 127 (by decide)) (fun hg => q_move (val_tmp rfl)) ?_
                refine tq_opG (g_gno rfl rfl) (hd 128 (by decide)) (fun hg => q_move (val_tmp rfl)) ?_
                refine tq_opG (g_gno rfl rfl) (hd 129 (by decide)) (fun hg => q_idxN (i := j) (val_grd (val_tmp rfl) hg) (val_grd (val_tmp rfl) hg) ts27 te27 (by first | omega | (simp only [Bool.and_eq_true, Bool.or_eq_true, Bool.not_eq_true', Bool.not_eq_false', Bool.or_eq_false_iff, Bool.and_eq_false_iff, decide_eq_true_eq, decide_eq_false_iff_not] at *; omega))) ?_
                refine tq_opG (g_gno rfl rfl) (hd 130 (by decide)) (fun hg => q_fld _ _ (val_grd (val_tmp rfl) hg) Try.underlying47 rfl 0 (fun w => Try.sizeOf3 w)) ?_
                refine tq_opG (g_gno rfl rfl) (hd 131 (by decide)) (fun hg => q_ld (val_grd (val_tmp rfl) hg) Try.isAgg3 (by decide)) ?_
                refine tq_opG (g_gno rfl rfl) (hd 132 (by decide)) (fun hg => q_neq (val_grd (val_tmp rfl) hg) (val_grd (val_tmp rfl) hg)) ?_
                refine tq_opG (g_yes rfl rfl) (hd 133 (by decide)) (fun hg => q_or (val_grd (val_tmp rfl) hg) (fun h => val_grd (val_tmp rfl) (andI hg (notT h)))) ?_
                refine tq_op (hd 134 (by decide)) (q_and (val_tmp rfl) (fun h => val_grd (val_tmp rfl) h)) ?_
                refine tq_nil ?_
                refine c_cond (val_tmp rfl) (fun hc6 => ?_) (fun hc6 => ?_)
                · have hc6s := hc6
                  try simp only [Bool.and_eq_true, Bool.or_eq_true, Bool.not_eq_true', Bool.not_eq_false', Bool.or_eq_false_iff, Bool.and_eq_false_iff, decide_eq_true_eq, decide_eq_false_iff_not] at hc6s
                  have hot := nav_other hn hc3s (j := j) (by omega) hc6s.1
                  exact absurd hc6 (by simp only [hot]; simp)
                  --done
                · have hc6s := hc6
                  try simp only [Bool.and_eq_true, Bool.or_eq_true, Bool.not_eq_true', Bool.not_eq_false', Bool.or_eq_false_iff, Bool.and_eq_false_iff, decide_eq_true_eq, decide_eq_false_iff_not] at hc6s
                  refine c_skip ?_
                  refine c_rq ?_
                  refine tq_op (hd 135 (by decide)) (q_add (val_tmp rfl) val_const (by first | omega | (simp only [Bool.and_eq_true, Bool.or_eq_true, Bool.not_eq_true', Bool.not_eq_false', Bool.or_eq_false_iff, Bool.and_eq_false_iff, decide_eq_true_eq, decide_eq_false_iff_not] at *; omega))) ?_
                  refine tq_op (hd 84 (by decide)) (q_move (val_tmp rfl)) ?_
                  refine tq_nil ?_
                  refine c_next (j + 1) ?_ ?_ ?_
                  · show (j + 1) ≤ (navFr nw k ((os.take (Int.toNat (min (os.length : Int) 20))).getD i 0)).1.length
                    first | omega | (simp; done) | (refine ⟨?_, ?_⟩ <;> first | omega | (simp; done))
                  · show (navFr nw k ((os.take (Int.toNat (min (os.length : Int) 20))).getD i 0)).1.length - (j + 1) < (navFr nw k ((os.take (Int.toNat (min (os.length : Int) 20))).getD i 0)).1.length - j
                    omega
                  · refine weakE (sl := [(0, frRow l), (1, iv (k)), (7, frRow nw), (10, frRow ((navFr nw k (((os.take (Int.toNat (min ((os.length : Int)) 20))).getD i 0))).1)), (32, inRow (os.take (Int.toNat (min ((os.length : Int)) 20)))), (33, iv (((os.take (Int.toNat (min ((os.length : Int)) 20))).length : Int))), (34, iv ((i : Int))), (83, iv ((((navFr nw k (((os.take (Int.toNat (min ((os.length : Int)) 20))).getD i 0))).1).length : Int))), (84, iv (((j + 1) : Int)))]) (ow := []) ?_ ?_
                    · exact ⟨val_tmp rfl, val_tmp rfl, val_tmp rfl, val_tmp rfl, val_tmp rfl, val_tmp rfl, val_tmp rfl, val_tmp rfl, val_tmp rfl, trivial⟩
                    · exact trivial
              · have hc5s := hc5
                try simp only [Bool.and_eq_true, Bool.or_eq_true, Bool.not_eq_true', Bool.not_eq_false', Bool.or_eq_false_iff, Bool.and_eq_false_iff, decide_eq_true_eq, decide_eq_false_iff_not] at hc5s
                refine c_exit ?_
                refine c_rq ?_
                refine tq_op (hd 136 (by decide)) (q_move (val_tmp rfl)) ?_
                refine tq_op (hd 7 (by decide)) (q_assign (val_tmp rfl)) ?_
                refine tq_nil ?_
                refine c_rq ?_
                refine tq_op (hd 137 (by decide)) (q_add (val_tmp rfl) val_const (by first | omega | (simp only [Bool.and_eq_true, Bool.or_eq_true, Bool.not_eq_true', Bool.not_eq_false', Bool.or_eq_false_iff, Bool.and_eq_false_iff, decide_eq_true_eq, decide_eq_false_iff_not] at *; omega))) ?_
                refine tq_op (hd 34 (by decide)) (q_move (val_tmp rfl)) ?_
                refine tq_nil ?_
                refine c_next ((i + 1, (navFr nw k ((os.take (Int.toNat (min (os.length : Int) 20))).getD i 0)).1)) ?_ ?_ ?_
                · show (i + 1) ≤ (os.take (Int.toNat (min (os.length : Int) 20))).length ∧ NvInv l k (navFr nw k ((os.take (Int.toNat (min (os.length : Int) 20))).getD i 0)).1
                  exact ⟨by omega, hst.1⟩
                · show (os.take (Int.toNat (min (os.length : Int) 20))).length - (i + 1) < (os.take (Int.toNat (min (os.length : Int) 20))).length - i
                  omega
                · refine weakE (sl := [(0, frRow l), (1, iv (k)), (7, frRow (((navFr nw k ((os.take (Int.toNat (min (os.length : Int) 20))).getD i 0)).1))), (32, inRow (os.take (Int.toNat (min ((os.length : Int)) 20)))), (33, iv (((os.take (Int.toNat (min ((os.length : Int)) 20))).length : Int))), (34, iv (((i + 1) : Int)))]) (ow := []) ?_ ?_
                  · exact ⟨val_tmp rfl, val_tmp rfl, val_tmp rfl, val_tmp rfl, val_tmp rfl, val_tmp rfl, trivial⟩
                  · exact trivial
      · have hc2s := hc2
        try simp only [Bool.and_eq_true, Bool.or_eq_true, Bool.not_eq_true', Bool.not_eq_false', Bool.or_eq_false_iff, Bool.and_eq_false_iff, decide_eq_true_eq, decide_eq_false_iff_not] at hc2s
        refine c_exit ?_
        refine c_seq ?_
        refine c_rq ?_
        refine tq_op (hd 6 (by decide)) (q_assign val_const) ?_
        refine tq_nil ?_
        refine c_ret ?_
        exact ret1 rfl (val_tmp rfl) rfl (by show bv (true) = bv true; rfl)

end Go.Proofs.Ytghkpailmdlhgaa
