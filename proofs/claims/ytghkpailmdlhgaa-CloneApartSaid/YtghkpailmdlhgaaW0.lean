import Derived.Test.YtghkpailmdlhgaaFr
set_option linter.unusedVariables false
set_option linter.unusedSimpArgs false
namespace Go.Proofs.Ytghkpailmdlhgaa
open Go.RowKit Go.Eng
/-- slices.Equal[[]int,int] -/
theorem equal_ct (l m : List Int) : Ct Try.prog 17 [inRow l, inRow m] (bv (eqInt l m)) := by
  refine ct_of Try.func17 rfl (by show 2 ≤ 26; decide) fun E hN => ?_
  have hd : ∀ d, d < 26 → d < E.N := fun d h => Nat.lt_of_lt_of_eq h hN.symm
  refine row_len (val_tmp (s := 0) rfl) fun hl0 => ?_
  refine row_len (val_tmp (s := 1) rfl) fun hl1 => ?_
  refine c_seq ?_
  refine c_rq ?_
  refine tq_op (hd 4 (by decide)) (q_assign val_const) ?_
  refine tq_nil ?_
  refine c_seq ?_
  refine c_seq ?_
  refine c_rq ?_
  refine tq_op (hd 6 (by decide)) (q_move (val_tmp rfl)) ?_
  refine tq_op (hd 7 (by decide)) (q_len (val_tmp rfl) ts24) ?_
  refine tq_op (hd 8 (by decide)) (q_move (val_tmp rfl)) ?_
  refine tq_op (hd 9 (by decide)) (q_len (val_tmp rfl) ts24) ?_
  refine tq_op (hd 10 (by decide)) (q_neq (val_tmp rfl) (val_tmp rfl)) ?_
  refine tq_nil ?_
  refine c_cond (val_tmp rfl) (fun hc1 => ?_) (fun hc1 => ?_)
  · have hc1s := hc1
    try simp only [Bool.and_eq_true, Bool.or_eq_true, Bool.not_eq_true', Bool.not_eq_false', Bool.or_eq_false_iff, Bool.and_eq_false_iff, decide_eq_true_eq, decide_eq_false_iff_not] at hc1s
    refine c_seq ?_
    refine c_rq ?_
    refine tq_op (hd 4 (by decide)) (q_assign val_const) ?_
    refine tq_nil ?_
    refine c_ret ?_
    exact ret1 rfl (val_tmp rfl) rfl (by show bv (false) = bv (eqInt l m); rw [eqInt, decide_eq_false (fun h => by rw [h] at hc1s; simp at hc1s)])
  · have hc1s := hc1
    try simp only [Bool.and_eq_true, Bool.or_eq_true, Bool.not_eq_true', Bool.not_eq_false', Bool.or_eq_false_iff, Bool.and_eq_false_iff, decide_eq_true_eq, decide_eq_false_iff_not] at hc1s
    refine c_skip ?_
    refine c_seq ?_
    refine c_seq ?_
    refine c_rq ?_
    refine tq_op (hd 11 (by decide)) (q_move (val_tmp rfl)) ?_
    refine tq_op (hd 12 (by decide)) (q_len (val_tmp rfl) ts24) ?_
    refine tq_op (hd 13 (by decide)) (q_move val_const) ?_
    refine tq_nil ?_
    refine c_block ?_
    refine c_loop (fun (i : Nat) => (⟨[(0, inRow l), (1, inRow m), (12, iv ((l.length : Int))), (13, iv ((i : Int)))], []⟩ : St)) (fun (i : Nat) => i ≤ l.length ∧ samePre 0 l m i) (fun (i : Nat) => l.length - i) 0 ?_ ?_ ?_
    · show 0 ≤ l.length ∧ samePre 0 l m 0
      exact ⟨Nat.zero_le _, samePre_0 (by omega)⟩
    · refine weakE (sl := [(0, inRow l), (1, inRow m), (12, iv ((l.length : Int))), (13, iv ((0 : Int)))]) (ow := []) ?_ ?_
      · exact ⟨val_tmp rfl, val_tmp rfl, val_tmp rfl, val_tmp rfl, trivial⟩
      · exact trivial
    · rintro i hI1
      have hJ1 : i ≤ l.length ∧ samePre 0 l m i := hI1
      have hlm := hJ1.2.1
      refine c_seq ?_
      refine c_rq ?_
      refine tq_op (hd 14 (by decide)) (q_lss (val_tmp rfl) (val_tmp rfl)) ?_
      refine tq_nil ?_
      refine c_seq ?_
      refine c_cond (val_tmp rfl) (fun hc2 => ?_) (fun hc2 => ?_)
      · have hc2s := hc2
        try simp only [Bool.and_eq_true, Bool.or_eq_true, Bool.not_eq_true', Bool.not_eq_false', Bool.or_eq_false_iff, Bool.and_eq_false_iff, decide_eq_true_eq, decide_eq_false_iff_not] at hc2s
        refine c_skip ?_
        refine c_seq ?_
        refine c_block ?_
        refine c_seq ?_
        refine c_rq ?_
        refine tq_op (hd 15 (by decide)) (q_move (val_tmp rfl)) ?_
        refine tq_op (hd 5 (by decide)) (q_assign (val_tmp rfl)) ?_
        refine tq_nil ?_
        refine c_seq ?_
        refine c_rqd (by kernel_rfl) (by kernel_rfl) ?_
        refine tq_op (hd 16 (by decide)) (q_move (val_tmp rfl)) ?_
        refine tq_op (hd 17 (by decide)) (q_move (val_tmp rfl)) ?_
        refine tq_op (hd 18 (by decide)) (q_idxN (i := i) (val_tmp rfl) (val_tmp rfl) ts24 te24 (by first | omega | (simp only [Bool.and_eq_true, Bool.or_eq_true, Bool.not_eq_true', Bool.not_eq_false', Bool.or_eq_false_iff, Bool.and_eq_false_iff, decide_eq_true_eq, decide_eq_false_iff_not] at *; omega))) ?_
        refine tq_op (hd 19 (by decide)) (q_ld (val_tmp rfl) Try.isAgg3 (by decide)) ?_
        refine tq_op (hd 20 (by decide)) (q_move (val_tmp rfl)) ?_
        refine tq_op (hd 21 (by decide)) (q_move (val_tmp rfl)) ?_
        refine tq_op (hd 22 (by decide)) (q_idxN (i := i) (val_tmp rfl) (val_tmp rfl) ts24 te24 (by first | omega | (simp only [Bool.and_eq_true, Bool.or_eq_true, Bool.not_eq_true', Bool.not_eq_false', Bool.or_eq_false_iff, Bool.and_eq_false_iff, decide_eq_true_eq, decide_eq_false_iff_not] at *; omega))) ?_
        refine tq_op (hd 23 (by decide)) (q_ld (val_tmp rfl) Try.isAgg3 (by decide)) ?_
        refine tq_op (hd 24 (by decide)) (q_neq (val_tmp rfl) (val_tmp rfl)) ?_
        refine tq_nil ?_
        refine c_cond (val_tmp rfl) (fun hc3 => ?_) (fun hc3 => ?_)
        · have hc3s := hc3
          try simp only [Bool.and_eq_true, Bool.or_eq_true, Bool.not_eq_true', Bool.not_eq_false', Bool.or_eq_false_iff, Bool.and_eq_false_iff, decide_eq_true_eq, decide_eq_false_iff_not] at hc3s
          refine c_seq ?_
          refine c_rq ?_
          refine tq_op (hd 4 (by decide)) (q_assign val_const) ?_
          refine tq_nil ?_
          refine c_ret ?_
          exact ret1 rfl (val_tmp rfl) rfl (by show bv (false) = bv (eqInt l m); rw [eqInt, decide_eq_false (samePre_ne (i := i) (d := 0) (by simpa using hc3))])
        · have hc3s := hc3
          try simp only [Bool.and_eq_true, Bool.or_eq_true, Bool.not_eq_true', Bool.not_eq_false', Bool.or_eq_false_iff, Bool.and_eq_false_iff, decide_eq_true_eq, decide_eq_false_iff_not] at hc3s
          refine c_skip ?_
          refine c_rq ?_
          refine tq_op (hd 25 (by decide)) (q_add (val_tmp rfl) val_const (by first | omega | (simp only [Bool.and_eq_true, Bool.or_eq_true, Bool.not_eq_true', Bool.not_eq_false', Bool.or_eq_false_iff, Bool.and_eq_false_iff, decide_eq_true_eq, decide_eq_false_iff_not] at *; omega))) ?_
          refine tq_op (hd 13 (by decide)) (q_move (val_tmp rfl)) ?_
          refine tq_nil ?_
          refine c_next (i + 1) ?_ ?_ ?_
          · show (i + 1) ≤ l.length ∧ samePre 0 l m (i + 1)
            exact ⟨by omega, samePre_s hJ1.2 (by simpa using hc3)⟩
          · show l.length - (i + 1) < l.length - i
            omega
          · refine weakE (sl := [(0, inRow l), (1, inRow m), (12, iv ((l.length : Int))), (13, iv (((i + 1) : Int)))]) (ow := []) ?_ ?_
            · exact ⟨val_tmp rfl, val_tmp rfl, val_tmp rfl, val_tmp rfl, trivial⟩
            · exact trivial
      · have hc2s := hc2
        try simp only [Bool.and_eq_true, Bool.or_eq_true, Bool.not_eq_true', Bool.not_eq_false', Bool.or_eq_false_iff, Bool.and_eq_false_iff, decide_eq_true_eq, decide_eq_false_iff_not] at hc2s
        refine c_exit ?_
        refine c_seq ?_
        refine c_rq ?_
        refine tq_op (hd 4 (by decide)) (q_assign val_const) ?_
        refine tq_nil ?_
        refine c_ret ?_
        exact ret1 rfl (val_tmp rfl) rfl (by show bv (true) = bv (eqInt l m); rw [eqInt, decide_eq_true (samePre_eq hJ1.2 (by omega))])

/-- glasshouse/glasshouselaw.Names -/
theorem names_ct  : Ct Try.prog 3 [] (bv true) := by
  refine ct_of Try.func3 rfl (by show 0 ≤ 28; decide) fun E hN => ?_
  have hd : ∀ d, d < 28 → d < E.N := fun d h => Nat.lt_of_lt_of_eq h hN.symm
  refine c_seq ?_
  refine c_rq ?_
  refine tq_op (hd 0 (by decide)) (q_assign val_const) ?_
  refine tq_nil ?_
  refine c_seq ?_
  refine c_rt ?_
  refine t_w (hd 6 (by decide)) (w_bs (n := 9) (zget := fun _ => iv 0) [(fun _ => iv (0)), (fun _ => iv (1)), (fun _ => iv (2)), (fun _ => iv (3)), (fun _ => iv (4)), (fun _ => iv (5)), (fun _ => iv (6)), (fun _ => iv (7)), (fun _ => iv (8))] (rowG inCell 0 [0, 1, 2, 3, 4, 5, 6, 7, 8]) Try.underlying23 (fun w => Try.sizeOf22 w) zero22 (by decide) rfl (by decide) ⟨⟨rfl, .inr ⟨rfl, val_const, rfl⟩, rfl⟩, ⟨rfl, .inr ⟨rfl, val_const, rfl⟩, rfl⟩, ⟨rfl, .inr ⟨rfl, val_const, rfl⟩, rfl⟩, ⟨rfl, .inr ⟨rfl, val_const, rfl⟩, rfl⟩, ⟨rfl, .inr ⟨rfl, val_const, rfl⟩, rfl⟩, ⟨rfl, .inr ⟨rfl, val_const, rfl⟩, rfl⟩, ⟨rfl, .inr ⟨rfl, val_const, rfl⟩, rfl⟩, ⟨rfl, .inr ⟨rfl, val_const, rfl⟩, rfl⟩, ⟨rfl, .inr ⟨rfl, val_const, rfl⟩, rfl⟩, trivial⟩ ⟨⟨⟨⟨⟨⟨⟨⟨⟨trivial, ⟨trivial, rfl⟩⟩, ⟨trivial, rfl⟩⟩, ⟨trivial, rfl⟩⟩, ⟨trivial, rfl⟩⟩, ⟨trivial, rfl⟩⟩, ⟨trivial, rfl⟩⟩, ⟨trivial, rfl⟩⟩, ⟨trivial, rfl⟩⟩, ⟨trivial, rfl⟩⟩) ?_
  refine t_op (hd 1 (by decide)) (q_assign (val_tmp rfl)) ?_
  refine t_nil ?_
  refine c_seq ?_
  refine c_seq ?_
  refine c_rq ?_
  refine tq_op (hd 7 (by decide)) (q_move (val_tmp rfl)) ?_
  refine tq_op (hd 8 (by decide)) (q_len (val_tmp rfl) ts23) ?_
  refine tq_op (hd 9 (by decide)) (q_move val_const) ?_
  refine tq_nil ?_
  refine c_block ?_
  refine c_loop (fun (i : Nat) => (⟨[(7, inRow ([0, 1, 2, 3, 4, 5, 6, 7, 8])), (8, iv ((([0, 1, 2, 3, 4, 5, 6, 7, 8]).length : Int))), (9, iv ((i : Int)))], []⟩ : St)) (fun (i : Nat) => i ≤ 9) (fun (i : Nat) => 9 - i) 0 ?_ ?_ ?_
  · show 0 ≤ 9
    first | omega | (simp; done) | (refine ⟨?_, ?_⟩ <;> first | omega | (simp; done))
  · refine weakE (sl := [(7, inRow ([0, 1, 2, 3, 4, 5, 6, 7, 8])), (8, iv ((([0, 1, 2, 3, 4, 5, 6, 7, 8]).length : Int))), (9, iv ((0 : Int)))]) (ow := []) ?_ ?_
    · exact ⟨val_tmp rfl, val_tmp rfl, val_tmp rfl, trivial⟩
    · exact trivial
  · rintro i hI1
    have hJ1 : i ≤ 9 := hI1
    refine c_seq ?_
    refine c_rq ?_
    refine tq_op (hd 10 (by decide)) (q_lss (val_tmp rfl) (val_tmp rfl)) ?_
    refine tq_nil ?_
    refine c_seq ?_
    refine c_cond (val_tmp rfl) (fun hc1 => ?_) (fun hc1 => ?_)
    · have hc1s := hc1
      try simp only [Bool.and_eq_true, Bool.or_eq_true, Bool.not_eq_true', Bool.not_eq_false', Bool.or_eq_false_iff, Bool.and_eq_false_iff, decide_eq_true_eq, decide_eq_false_iff_not] at hc1s
      have hi9 : i < 9 := by simp at hc1s; omega
      refine c_skip ?_
      refine c_seq ?_
      refine c_block ?_
      refine c_seq ?_
      refine c_rq ?_
      refine tq_op (hd 11 (by decide)) (q_move (val_tmp rfl)) ?_
      refine tq_op (hd 12 (by decide)) (q_idxN (i := i) (val_tmp rfl) (val_tmp rfl) ts23 te23 (by first | omega | (simp only [Bool.and_eq_true, Bool.or_eq_true, Bool.not_eq_true', Bool.not_eq_false', Bool.or_eq_false_iff, Bool.and_eq_false_iff, decide_eq_true_eq, decide_eq_false_iff_not] at *; omega))) ?_
      refine tq_op (hd 13 (by decide)) (q_ld (val_tmp rfl) Try.isAgg22 (by decide)) ?_
      refine tq_op (hd 2 (by decide)) (q_assign (val_tmp rfl)) ?_
      refine tq_op (hd 3 (by decide)) (q_assign (val_tmp rfl)) ?_
      refine tq_nil ?_
      refine c_seq ?_
      refine c_rq ?_
      refine tq_op (hd 14 (by decide)) (q_move (val_tmp rfl)) ?_
      refine tq_op (hd 15 (by decide)) (q_move (val_tmp rfl)) ?_
      refine tq_op (hd 16 (by decide)) (q_neq (val_tmp rfl) (val_tmp rfl)) ?_
      refine tq_nil ?_
      refine c_cond (val_tmp rfl) (fun hc2 => ?_) (fun hc2 => ?_)
      · have hc2s := hc2
        try simp only [Bool.and_eq_true, Bool.or_eq_true, Bool.not_eq_true', Bool.not_eq_false', Bool.or_eq_false_iff, Bool.and_eq_false_iff, decide_eq_true_eq, decide_eq_false_iff_not] at hc2s
        exact absurd (names_lit hi9) hc2s
        --done
      · have hc2s := hc2
        try simp only [Bool.and_eq_true, Bool.or_eq_true, Bool.not_eq_true', Bool.not_eq_false', Bool.or_eq_false_iff, Bool.and_eq_false_iff, decide_eq_true_eq, decide_eq_false_iff_not] at hc2s
        clear hc2s
        refine c_skip ?_
        refine c_rq ?_
        refine tq_op (hd 17 (by decide)) (q_add (val_tmp rfl) val_const (by first | omega | (simp only [Bool.and_eq_true, Bool.or_eq_true, Bool.not_eq_true', Bool.not_eq_false', Bool.or_eq_false_iff, Bool.and_eq_false_iff, decide_eq_true_eq, decide_eq_false_iff_not] at *; omega))) ?_
        refine tq_op (hd 9 (by decide)) (q_move (val_tmp rfl)) ?_
        refine tq_nil ?_
        refine c_next (i + 1) ?_ ?_ ?_
        · show (i + 1) ≤ 9
          first | omega | (simp; done) | (refine ⟨?_, ?_⟩ <;> first | omega | (simp; done))
        · show 9 - (i + 1) < 9 - i
          omega
        · refine weakE (sl := [(7, inRow ([0, 1, 2, 3, 4, 5, 6, 7, 8])), (8, iv ((([0, 1, 2, 3, 4, 5, 6, 7, 8]).length : Int))), (9, iv (((i + 1) : Int)))]) (ow := []) ?_ ?_
          · exact ⟨val_tmp rfl, val_tmp rfl, val_tmp rfl, trivial⟩
          · exact trivial
    · have hc1s := hc1
      try simp only [Bool.and_eq_true, Bool.or_eq_true, Bool.not_eq_true', Bool.not_eq_false', Bool.or_eq_false_iff, Bool.and_eq_false_iff, decide_eq_true_eq, decide_eq_false_iff_not] at hc1s
      refine c_exit ?_
      refine c_seq ?_
      refine c_rt ?_
      refine t_w (hd 18 (by decide)) (w_bs (n := 13) (zget := fun _ => iv 0) [(fun _ => iv (24)), (fun _ => iv (1000000)), (fun _ => iv (99)), (fun _ => iv (1000000)), (fun _ => iv (24)), (fun _ => iv (8)), (fun _ => iv (24)), (fun _ => iv (8)), (fun _ => iv (9)), (fun _ => iv (16)), (fun _ => iv (16)), (fun _ => iv (40)), (fun _ => iv (120))] (rowG inCell 0 [24, 1000000, 99, 1000000, 24, 8, 24, 8, 9, 16, 16, 40, 120]) Try.underlying24 (fun w => Try.sizeOf3 w) zero3 (by decide) rfl (by decide) ⟨⟨rfl, .inr ⟨rfl, val_const, rfl⟩, rfl⟩, ⟨rfl, .inr ⟨rfl, val_const, rfl⟩, rfl⟩, ⟨rfl, .inr ⟨rfl, val_const, rfl⟩, rfl⟩, ⟨rfl, .inr ⟨rfl, val_const, rfl⟩, rfl⟩, ⟨rfl, .inr ⟨rfl, val_const, rfl⟩, rfl⟩, ⟨rfl, .inr ⟨rfl, val_const, rfl⟩, rfl⟩, ⟨rfl, .inr ⟨rfl, val_const, rfl⟩, rfl⟩, ⟨rfl, .inr ⟨rfl, val_const, rfl⟩, rfl⟩, ⟨rfl, .inr ⟨rfl, val_const, rfl⟩, rfl⟩, ⟨rfl, .inr ⟨rfl, val_const, rfl⟩, rfl⟩, ⟨rfl, .inr ⟨rfl, val_const, rfl⟩, rfl⟩, ⟨rfl, .inr ⟨rfl, val_const, rfl⟩, rfl⟩, ⟨rfl, .inr ⟨rfl, val_const, rfl⟩, rfl⟩, trivial⟩ ⟨⟨⟨⟨⟨⟨⟨⟨⟨⟨⟨⟨⟨trivial, ⟨trivial, rfl⟩⟩, ⟨trivial, rfl⟩⟩, ⟨trivial, rfl⟩⟩, ⟨trivial, rfl⟩⟩, ⟨trivial, rfl⟩⟩, ⟨trivial, rfl⟩⟩, ⟨trivial, rfl⟩⟩, ⟨trivial, rfl⟩⟩, ⟨trivial, rfl⟩⟩, ⟨trivial, rfl⟩⟩, ⟨trivial, rfl⟩⟩, ⟨trivial, rfl⟩⟩, ⟨trivial, rfl⟩⟩) ?_
      refine t_op (hd 4 (by decide)) (q_assign (val_tmp rfl)) ?_
      refine t_nil ?_
      refine c_seq ?_
      refine c_rt ?_
      refine t_w (hd 19 (by decide)) (w_bs (n := 21) (zget := fun _ => iv 0) [(fun _ => iv (1)), (fun _ => iv (2)), (fun _ => iv (4)), (fun _ => iv (7)), (fun _ => iv (1)), (fun _ => iv (2)), (fun _ => iv (3)), (fun _ => iv (4)), (fun _ => iv (1)), (fun _ => iv (2)), (fun _ => iv (3)), (fun _ => iv (4)), (fun _ => iv (5)), (fun _ => iv (6)), (fun _ => iv (7)), (fun _ => iv (8)), (fun _ => iv (9)), (fun _ => iv (10)), (fun _ => iv (11)), (fun _ => iv (12)), (fun _ => iv (13))] (rowG inCell 0 [1, 2, 4, 7, 1, 2, 3, 4, 1, 2, 3, 4, 5, 6, 7, 8, 9, 10, 11, 12, 13]) Try.underlying24 (fun w => Try.sizeOf3 w) zero3 (by decide) rfl (by decide) ⟨⟨rfl, .inr ⟨rfl, val_const, rfl⟩, rfl⟩, ⟨rfl, .inr ⟨rfl, val_const, rfl⟩, rfl⟩, ⟨rfl, .inr ⟨rfl, val_const, rfl⟩, rfl⟩, ⟨rfl, .inr ⟨rfl, val_const, rfl⟩, rfl⟩, ⟨rfl, .inr ⟨rfl, val_const, rfl⟩, rfl⟩, ⟨rfl, .inr ⟨rfl, val_const, rfl⟩, rfl⟩, ⟨rfl, .inr ⟨rfl, val_const, rfl⟩, rfl⟩, ⟨rfl, .inr ⟨rfl, val_const, rfl⟩, rfl⟩, ⟨rfl, .inr ⟨rfl, val_const, rfl⟩, rfl⟩, ⟨rfl, .inr ⟨rfl, val_const, rfl⟩, rfl⟩, ⟨rfl, .inr ⟨rfl, val_const, rfl⟩, rfl⟩, ⟨rfl, .inr ⟨rfl, val_const, rfl⟩, rfl⟩, ⟨rfl, .inr ⟨rfl, val_const, rfl⟩, rfl⟩, ⟨rfl, .inr ⟨rfl, val_const, rfl⟩, rfl⟩, ⟨rfl, .inr ⟨rfl, val_const, rfl⟩, rfl⟩, ⟨rfl, .inr ⟨rfl, val_const, rfl⟩, rfl⟩, ⟨rfl, .inr ⟨rfl, val_const, rfl⟩, rfl⟩, ⟨rfl, .inr ⟨rfl, val_const, rfl⟩, rfl⟩, ⟨rfl, .inr ⟨rfl, val_const, rfl⟩, rfl⟩, ⟨rfl, .inr ⟨rfl, val_const, rfl⟩, rfl⟩, ⟨rfl, .inr ⟨rfl, val_const, rfl⟩, rfl⟩, trivial⟩ ⟨⟨⟨⟨⟨⟨⟨⟨⟨⟨⟨⟨⟨⟨⟨⟨⟨⟨⟨⟨⟨trivial, ⟨trivial, rfl⟩⟩, ⟨trivial, rfl⟩⟩, ⟨trivial, rfl⟩⟩, ⟨trivial, rfl⟩⟩, ⟨trivial, rfl⟩⟩, ⟨trivial, rfl⟩⟩, ⟨trivial, rfl⟩⟩, ⟨trivial, rfl⟩⟩, ⟨trivial, rfl⟩⟩, ⟨trivial, rfl⟩⟩, ⟨trivial, rfl⟩⟩, ⟨trivial, rfl⟩⟩, ⟨trivial, rfl⟩⟩, ⟨trivial, rfl⟩⟩, ⟨trivial, rfl⟩⟩, ⟨trivial, rfl⟩⟩, ⟨trivial, rfl⟩⟩, ⟨trivial, rfl⟩⟩, ⟨trivial, rfl⟩⟩, ⟨trivial, rfl⟩⟩, ⟨trivial, rfl⟩⟩) ?_
      refine t_op (hd 5 (by decide)) (q_assign (val_tmp rfl)) ?_
      refine t_nil ?_
      refine c_seq ?_
      refine c_rt ?_
      refine t_op (hd 20 (by decide)) (q_move (val_tmp rfl)) ?_
      refine t_w (hd 21 (by decide)) (w_bs (n := 13) (zget := fun _ => iv 0) [(fun _ => iv (24)), (fun _ => iv (1000000)), (fun _ => iv (99)), (fun _ => iv (1000000)), (fun _ => iv (24)), (fun _ => iv (8)), (fun _ => iv (24)), (fun _ => iv (8)), (fun _ => iv (9)), (fun _ => iv (16)), (fun _ => iv (16)), (fun _ => iv (40)), (fun _ => iv (120))] (rowG inCell 0 [24, 1000000, 99, 1000000, 24, 8, 24, 8, 9, 16, 16, 40, 120]) Try.underlying24 (fun w => Try.sizeOf3 w) zero3 (by decide) rfl (by decide) ⟨⟨rfl, .inr ⟨rfl, val_const, rfl⟩, rfl⟩, ⟨rfl, .inr ⟨rfl, val_const, rfl⟩, rfl⟩, ⟨rfl, .inr ⟨rfl, val_const, rfl⟩, rfl⟩, ⟨rfl, .inr ⟨rfl, val_const, rfl⟩, rfl⟩, ⟨rfl, .inr ⟨rfl, val_const, rfl⟩, rfl⟩, ⟨rfl, .inr ⟨rfl, val_const, rfl⟩, rfl⟩, ⟨rfl, .inr ⟨rfl, val_const, rfl⟩, rfl⟩, ⟨rfl, .inr ⟨rfl, val_const, rfl⟩, rfl⟩, ⟨rfl, .inr ⟨rfl, val_const, rfl⟩, rfl⟩, ⟨rfl, .inr ⟨rfl, val_const, rfl⟩, rfl⟩, ⟨rfl, .inr ⟨rfl, val_const, rfl⟩, rfl⟩, ⟨rfl, .inr ⟨rfl, val_const, rfl⟩, rfl⟩, ⟨rfl, .inr ⟨rfl, val_const, rfl⟩, rfl⟩, trivial⟩ ⟨⟨⟨⟨⟨⟨⟨⟨⟨⟨⟨⟨⟨trivial, ⟨trivial, rfl⟩⟩, ⟨trivial, rfl⟩⟩, ⟨trivial, rfl⟩⟩, ⟨trivial, rfl⟩⟩, ⟨trivial, rfl⟩⟩, ⟨trivial, rfl⟩⟩, ⟨trivial, rfl⟩⟩, ⟨trivial, rfl⟩⟩, ⟨trivial, rfl⟩⟩, ⟨trivial, rfl⟩⟩, ⟨trivial, rfl⟩⟩, ⟨trivial, rfl⟩⟩, ⟨trivial, rfl⟩⟩) ?_
      refine t_call en17 (hd 22 (by decide)) (by exact ⟨⟨(val_tmp rfl), rfl⟩, ⟨(val_tmp rfl), rfl⟩, trivial⟩) (equal_ct ([24, 1000000, 99, 1000000, 24, 8, 24, 8, 9, 16, 16, 40, 120]) ([24, 1000000, 99, 1000000, 24, 8, 24, 8, 9, 16, 16, 40, 120])) ?_
      refine t_op (hd 23 (by decide)) (q_move (val_tmp rfl)) ?_
      refine t_opG (g_yes rfl rfl) (hd 24 (by decide)) (fun hg => q_move (val_tmp rfl)) ?_
      refine t_wG (g_yes rfl rfl) (hd 25 (by decide)) (fun hg => w_bs (n := 21) (zget := fun _ => iv 0) [(fun _ => iv (1)), (fun _ => iv (2)), (fun _ => iv (4)), (fun _ => iv (7)), (fun _ => iv (1)), (fun _ => iv (2)), (fun _ => iv (3)), (fun _ => iv (4)), (fun _ => iv (1)), (fun _ => iv (2)), (fun _ => iv (3)), (fun _ => iv (4)), (fun _ => iv (5)), (fun _ => iv (6)), (fun _ => iv (7)), (fun _ => iv (8)), (fun _ => iv (9)), (fun _ => iv (10)), (fun _ => iv (11)), (fun _ => iv (12)), (fun _ => iv (13))] (rowG inCell 0 [1, 2, 4, 7, 1, 2, 3, 4, 1, 2, 3, 4, 5, 6, 7, 8, 9, 10, 11, 12, 13]) Try.underlying24 (fun w => Try.sizeOf3 w) zero3 (by decide) rfl (by decide) ⟨⟨rfl, .inr ⟨rfl, val_const, rfl⟩, rfl⟩, ⟨rfl, .inr ⟨rfl, val_const, rfl⟩, rfl⟩, ⟨rfl, .inr ⟨rfl, val_const, rfl⟩, rfl⟩, ⟨rfl, .inr ⟨rfl, val_const, rfl⟩, rfl⟩, ⟨rfl, .inr ⟨rfl, val_const, rfl⟩, rfl⟩, ⟨rfl, .inr ⟨rfl, val_const, rfl⟩, rfl⟩, ⟨rfl, .inr ⟨rfl, val_const, rfl⟩, rfl⟩, ⟨rfl, .inr ⟨rfl, val_const, rfl⟩, rfl⟩, ⟨rfl, .inr ⟨rfl, val_const, rfl⟩, rfl⟩, ⟨rfl, .inr ⟨rfl, val_const, rfl⟩, rfl⟩, ⟨rfl, .inr ⟨rfl, val_const, rfl⟩, rfl⟩, ⟨rfl, .inr ⟨rfl, val_const, rfl⟩, rfl⟩, ⟨rfl, .inr ⟨rfl, val_const, rfl⟩, rfl⟩, ⟨rfl, .inr ⟨rfl, val_const, rfl⟩, rfl⟩, ⟨rfl, .inr ⟨rfl, val_const, rfl⟩, rfl⟩, ⟨rfl, .inr ⟨rfl, val_const, rfl⟩, rfl⟩, ⟨rfl, .inr ⟨rfl, val_const, rfl⟩, rfl⟩, ⟨rfl, .inr ⟨rfl, val_const, rfl⟩, rfl⟩, ⟨rfl, .inr ⟨rfl, val_const, rfl⟩, rfl⟩, ⟨rfl, .inr ⟨rfl, val_const, rfl⟩, rfl⟩, ⟨rfl, .inr ⟨rfl, val_const, rfl⟩, rfl⟩, trivial⟩ ⟨⟨⟨⟨⟨⟨⟨⟨⟨⟨⟨⟨⟨⟨⟨⟨⟨⟨⟨⟨⟨trivial, ⟨trivial, rfl⟩⟩, ⟨trivial, rfl⟩⟩, ⟨trivial, rfl⟩⟩, ⟨trivial, rfl⟩⟩, ⟨trivial, rfl⟩⟩, ⟨trivial, rfl⟩⟩, ⟨trivial, rfl⟩⟩, ⟨trivial, rfl⟩⟩, ⟨trivial, rfl⟩⟩, ⟨trivial, rfl⟩⟩, ⟨trivial, rfl⟩⟩, ⟨trivial, rfl⟩⟩, ⟨trivial, rfl⟩⟩, ⟨trivial, rfl⟩⟩, ⟨trivial, rfl⟩⟩, ⟨trivial, rfl⟩⟩, ⟨trivial, rfl⟩⟩, ⟨trivial, rfl⟩⟩, ⟨trivial, rfl⟩⟩, ⟨trivial, rfl⟩⟩, ⟨trivial, rfl⟩⟩) ?_
      refine t_callG (g_yes rfl rfl) en17 (hd 26 (by decide)) (fun hg => (by exact ⟨⟨(val_grd (val_tmp rfl) hg), rfl⟩, ⟨(val_grd (val_tmp rfl) hg), rfl⟩, trivial⟩)) (fun hg => equal_ct ([1, 2, 4, 7, 1, 2, 3, 4, 1, 2, 3, 4, 5, 6, 7, 8, 9, 10, 11, 12, 13]) ([1, 2, 4, 7, 1, 2, 3, 4, 1, 2, 3, 4, 5, 6, 7, 8, 9, 10, 11, 12, 13])) ?_
      refine t_op (hd 27 (by decide)) (q_and (val_tmp rfl) (fun h => val_grd (val_tmp rfl) h)) ?_
      refine t_op (hd 0 (by decide)) (q_assign (val_tmp rfl)) ?_
      refine t_nil ?_
      refine c_ret ?_
      exact ret1 rfl (val_tmp rfl) rfl (by show bv ((eqInt ([24, 1000000, 99, 1000000, 24, 8, 24, 8, 9, 16, 16, 40, 120]) ([24, 1000000, 99, 1000000, 24, 8, 24, 8, 9, 16, 16, 40, 120])) && (eqInt ([1, 2, 4, 7, 1, 2, 3, 4, 1, 2, 3, 4, 5, 6, 7, 8, 9, 10, 11, 12, 13]) ([1, 2, 4, 7, 1, 2, 3, 4, 1, 2, 3, 4, 5, 6, 7, 8, 9, 10, 11, 12, 13]))) = bv true; rfl)

end Go.Proofs.Ytghkpailmdlhgaa
