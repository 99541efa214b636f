import Derived.Test.YtghkpailmdlhgaaW3
set_option linter.unusedVariables false
set_option linter.unusedSimpArgs false
namespace Go.Proofs.Ytghkpailmdlhgaa
open Go.RowKit Go.Eng
/-- glasshouse/glasshouseref.MayAsk -/
theorem rmay_ct (l : List Fr) (a b what : Int) : Ct Try.prog 20 [frRow l, iv (a), iv (b), iv (what)] (iv (MayFr l a b what)) := by
  refine ct_of Try.func20 rfl (by show 4 ≤ 59; decide) fun E hN => ?_
  have hd : ∀ d, d < 59 → d < E.N := fun d h => Nat.lt_of_lt_of_eq h hN.symm
  refine row_len (val_tmp (s := 0) rfl) fun hl0 => ?_
  refine c_seq ?_
  refine c_rq ?_
  refine tq_op (hd 8 (by decide)) (q_assign val_const) ?_
  refine tq_nil ?_
  refine c_seq ?_
  refine c_seq ?_
  refine c_rt ?_
  refine t_op (hd 11 (by decide)) (q_move (val_tmp rfl)) ?_
  refine t_op (hd 12 (by decide)) (q_move (val_tmp rfl)) ?_
  refine t_op (hd 13 (by decide)) (q_move (val_tmp rfl)) ?_
  refine t_w (hd 14 (by decide)) (w_bs (n := 2) (zget := fun _ => iv 0) [(fun _ => iv (a)), (fun _ => iv (b))] (rowG inCell 0 [a, b]) Try.underlying24 (fun w => Try.sizeOf3 w) zero3 (by decide) rfl (by decide) ⟨⟨rfl, .inr ⟨rfl, (val_tmp rfl), rfl⟩, rfl⟩, ⟨rfl, .inr ⟨rfl, (val_tmp rfl), rfl⟩, rfl⟩, trivial⟩ ⟨⟨trivial, ⟨trivial, rfl⟩⟩, ⟨trivial, rfl⟩⟩) ?_
  refine t_call en65 (hd 15 (by decide)) (by exact ⟨⟨(val_tmp rfl), rfl⟩, ⟨(val_tmp rfl), rfl⟩, trivial⟩) (rframed_ct l ([a, b])) ?_
  refine t_op (hd 9 (by decide)) (q_assign (val_tmp rfl)) ?_
  refine t_nil ?_
  refine c_seq ?_
  refine c_rq ?_
  refine tq_op (hd 16 (by decide)) (q_move (val_tmp rfl)) ?_
  refine tq_op (hd 17 (by decide)) (q_neq (val_tmp rfl) val_const) ?_
  refine tq_nil ?_
  refine c_cond (val_tmp rfl) (fun hc1 => ?_) (fun hc1 => ?_)
  · have hc1s := hc1
    try simp only [Bool.and_eq_true, Bool.or_eq_true, Bool.not_eq_true', Bool.not_eq_false', Bool.or_eq_false_iff, Bool.and_eq_false_iff, decide_eq_true_eq, decide_eq_false_iff_not] at hc1s
    refine c_seq ?_
    refine c_rq ?_
    refine tq_op (hd 18 (by decide)) (q_move (val_tmp rfl)) ?_
    refine tq_op (hd 8 (by decide)) (q_assign (val_tmp rfl)) ?_
    refine tq_nil ?_
    refine c_ret ?_
    exact ret1 rfl (val_tmp rfl) rfl (by show iv (framedFr l ([a, b])) = iv (MayFr l a b what); rw [may_err hc1s])
  · have hc1s := hc1
    try simp only [Bool.and_eq_true, Bool.or_eq_true, Bool.not_eq_true', Bool.not_eq_false', Bool.or_eq_false_iff, Bool.and_eq_false_iff, decide_eq_true_eq, decide_eq_false_iff_not] at hc1s
    have hf := framed2_0 hc1s
    have hA := holds_in hf.2.1
    have hB := holds_in hf.2.2
    refine c_skip ?_
    refine c_seq ?_
    refine c_rq ?_
    refine tq_op (hd 10 (by decide)) (q_assign val_const) ?_
    refine tq_nil ?_
    refine c_seq ?_
    refine c_seq ?_
    refine c_rq ?_
    refine tq_op (hd 19 (by decide)) (q_move (val_tmp rfl)) ?_
    refine tq_nil ?_
    refine c_block ?_
    refine c_seq ?_
    refine c_rq ?_
    refine tq_op (hd 21 (by decide)) (q_eql (val_tmp rfl) val_const) ?_
    refine tq_op (hd 20 (by decide)) (q_assign (val_tmp rfl)) ?_
    refine tq_nil ?_
    refine c_cond (val_tmp rfl) (fun hc2 => ?_) (fun hc2 => ?_)
    · have hc2s := hc2
      try simp only [Bool.and_eq_true, Bool.or_eq_true, Bool.not_eq_true', Bool.not_eq_false', Bool.or_eq_false_iff, Bool.and_eq_false_iff, decide_eq_true_eq, decide_eq_false_iff_not] at hc2s
      refine c_rqd (by kernel_rfl) (by kernel_rfl) ?_
      refine tq_op (hd 22 (by decide)) (q_move (val_tmp rfl)) ?_
      refine tq_op (hd 23 (by decide)) (q_move (val_tmp rfl)) ?_
      refine tq_op (hd 24 (by decide)) (q_idx (val_tmp rfl) (val_tmp rfl) ts27 te27 (by first | omega | (simp only [Bool.and_eq_true, Bool.or_eq_true, Bool.not_eq_true', Bool.not_eq_false', Bool.or_eq_false_iff, Bool.and_eq_false_iff, decide_eq_true_eq, decide_eq_false_iff_not] at *; omega)) (by first | omega | (simp only [Bool.and_eq_true, Bool.or_eq_true, Bool.not_eq_true', Bool.not_eq_false', Bool.or_eq_false_iff, Bool.and_eq_false_iff, decide_eq_true_eq, decide_eq_false_iff_not] at *; omega))) ?_
      refine tq_op (hd 25 (by decide)) (q_fld _ _ (val_tmp rfl) Try.underlying47 rfl 0 (fun w => Try.sizeOf3 w)) ?_
      refine tq_op (hd 26 (by decide)) (q_ld (val_tmp rfl) Try.isAgg3 (by decide)) ?_
      refine tq_op (hd 27 (by decide)) (q_move (val_tmp rfl)) ?_
      refine tq_op (hd 28 (by decide)) (q_move (val_tmp rfl)) ?_
      refine tq_op (hd 29 (by decide)) (q_idx (val_tmp rfl) (val_tmp rfl) ts27 te27 (by first | omega | (simp only [Bool.and_eq_true, Bool.or_eq_true, Bool.not_eq_true', Bool.not_eq_false', Bool.or_eq_false_iff, Bool.and_eq_false_iff, decide_eq_true_eq, decide_eq_false_iff_not] at *; omega)) (by first | omega | (simp only [Bool.and_eq_true, Bool.or_eq_true, Bool.not_eq_true', Bool.not_eq_false', Bool.or_eq_false_iff, Bool.and_eq_false_iff, decide_eq_true_eq, decide_eq_false_iff_not] at *; omega))) ?_
      refine tq_op (hd 30 (by decide)) (q_fld _ _ (val_tmp rfl) Try.underlying47 rfl 0 (fun w => Try.sizeOf3 w)) ?_
      refine tq_op (hd 31 (by decide)) (q_ld (val_tmp rfl) Try.isAgg3 (by decide)) ?_
      refine tq_op (hd 32 (by decide)) (q_neq (val_tmp rfl) (val_tmp rfl)) ?_
      refine tq_op (hd 10 (by decide)) (q_assign (val_tmp rfl)) ?_
      refine tq_nil ?_
      refine c_seq ?_
      refine c_seq ?_
      refine c_rq ?_
      refine tq_op (hd 58 (by decide)) (q_move (val_tmp rfl)) ?_
      refine tq_nil ?_
      refine c_cond (val_tmp rfl) (fun hc3 => ?_) (fun hc3 => ?_)
      · have hc3s := hc3
        try simp only [Bool.and_eq_true, Bool.or_eq_true, Bool.not_eq_true', Bool.not_eq_false', Bool.or_eq_false_iff, Bool.and_eq_false_iff, decide_eq_true_eq, decide_eq_false_iff_not] at hc3s
        refine c_seq ?_
        refine c_rq ?_
        refine tq_op (hd 8 (by decide)) (q_assign val_const) ?_
        refine tq_nil ?_
        refine c_ret ?_
        exact ret1 rfl (val_tmp rfl) rfl (by show iv (7) = iv (MayFr l a b what); subst hc2s; rw [May_7 hf (by omega) (by rw [ask1]; exact decide_eq_false hc3s)])
      · have hc3s := hc3
        try simp only [Bool.and_eq_true, Bool.or_eq_true, Bool.not_eq_true', Bool.not_eq_false', Bool.or_eq_false_iff, Bool.and_eq_false_iff, decide_eq_true_eq, decide_eq_false_iff_not] at hc3s
        refine c_skip ?_
        refine c_seq ?_
        refine c_rq ?_
        refine tq_op (hd 8 (by decide)) (q_assign val_const) ?_
        refine tq_nil ?_
        refine c_ret ?_
        exact ret1 rfl (val_tmp rfl) rfl (by show iv (0) = iv (MayFr l a b what); subst hc2s; rw [May_0 hf (by omega) (by rw [ask1]; exact decide_eq_true hc3s)])
    · have hc2s := hc2
      try simp only [Bool.and_eq_true, Bool.or_eq_true, Bool.not_eq_true', Bool.not_eq_false', Bool.or_eq_false_iff, Bool.and_eq_false_iff, decide_eq_true_eq, decide_eq_false_iff_not] at hc2s
      refine c_seq ?_
      refine c_rq ?_
      refine tq_op (hd 34 (by decide)) (q_eql (val_tmp rfl) val_const) ?_
      refine tq_op (hd 33 (by decide)) (q_assign (val_tmp rfl)) ?_
      refine tq_nil ?_
      refine c_cond (val_tmp rfl) (fun hc4 => ?_) (fun hc4 => ?_)
      · have hc4s := hc4
        try simp only [Bool.and_eq_true, Bool.or_eq_true, Bool.not_eq_true', Bool.not_eq_false', Bool.or_eq_false_iff, Bool.and_eq_false_iff, decide_eq_true_eq, decide_eq_false_iff_not] at hc4s
        refine c_skip ?_
        refine c_seq ?_
        refine c_seq ?_
        refine c_rq ?_
        refine tq_op (hd 58 (by decide)) (q_move (val_tmp rfl)) ?_
        refine tq_nil ?_
        refine c_cond (val_tmp rfl) (fun hc5 => ?_) (fun hc5 => ?_)
        · cases hc5
        · have hc5s := hc5
          try simp only [Bool.and_eq_true, Bool.or_eq_true, Bool.not_eq_true', Bool.not_eq_false', Bool.or_eq_false_iff, Bool.and_eq_false_iff, decide_eq_true_eq, decide_eq_false_iff_not] at hc5s
          refine c_skip ?_
          refine c_seq ?_
          refine c_rq ?_
          refine tq_op (hd 8 (by decide)) (q_assign val_const) ?_
          refine tq_nil ?_
          refine c_ret ?_
          exact ret1 rfl (val_tmp rfl) rfl (by show iv (0) = iv (MayFr l a b what); subst hc4s; rw [May_0 hf (by omega) rfl])
      · have hc4s := hc4
        try simp only [Bool.and_eq_true, Bool.or_eq_true, Bool.not_eq_true', Bool.not_eq_false', Bool.or_eq_false_iff, Bool.and_eq_false_iff, decide_eq_true_eq, decide_eq_false_iff_not] at hc4s
        refine c_seq ?_
        refine c_rq ?_
        refine tq_op (hd 36 (by decide)) (q_eql (val_tmp rfl) val_const) ?_
        refine tq_op (hd 35 (by decide)) (q_assign (val_tmp rfl)) ?_
        refine tq_nil ?_
        refine c_cond (val_tmp rfl) (fun hc6 => ?_) (fun hc6 => ?_)
        · have hc6s := hc6
          try simp only [Bool.and_eq_true, Bool.or_eq_true, Bool.not_eq_true', Bool.not_eq_false', Bool.or_eq_false_iff, Bool.and_eq_false_iff, decide_eq_true_eq, decide_eq_false_iff_not] at hc6s
          have hmr := range_bounds (frErr_parts (check_at hf.1 (i := a.toNat) (by omega))).2.1
          have hq := Int.tdiv_eq_ediv_of_nonneg (b := 2) hmr.2.2.1
          refine c_rq ?_
          refine tq_op (hd 37 (by decide)) (q_move (val_tmp rfl)) ?_
          refine tq_op (hd 38 (by decide)) (q_move (val_tmp rfl)) ?_
          refine tq_op (hd 39 (by decide)) (q_idx (val_tmp rfl) (val_tmp rfl) ts27 te27 (by first | omega | (simp only [Bool.and_eq_true, Bool.or_eq_true, Bool.not_eq_true', Bool.not_eq_false', Bool.or_eq_false_iff, Bool.and_eq_false_iff, decide_eq_true_eq, decide_eq_false_iff_not] at *; omega)) (by first | omega | (simp only [Bool.and_eq_true, Bool.or_eq_true, Bool.not_eq_true', Bool.not_eq_false', Bool.or_eq_false_iff, Bool.and_eq_false_iff, decide_eq_true_eq, decide_eq_false_iff_not] at *; omega))) ?_
          refine tq_op (hd 40 (by decide)) (q_fld _ _ (val_tmp rfl) Try.underlying47 rfl 0 (fun w => Try.sizeOf3 w)) ?_
          refine tq_op (hd 41 (by decide)) (q_ld (val_tmp rfl) Try.isAgg3 (by decide)) ?_
          refine tq_op (hd 42 (by decide)) (q_quo (val_tmp rfl) val_const (by first | omega | (simp only [Bool.and_eq_true, Bool.or_eq_true, Bool.not_eq_true', Bool.not_eq_false', Bool.or_eq_false_iff, Bool.and_eq_false_iff, decide_eq_true_eq, decide_eq_false_iff_not] at *; omega)) (by first | omega | (simp only [Bool.and_eq_true, Bool.or_eq_true, Bool.not_eq_true', Bool.not_eq_false', Bool.or_eq_false_iff, Bool.and_eq_false_iff, decide_eq_true_eq, decide_eq_false_iff_not] at *; omega))) ?_
          refine tq_op (hd 43 (by decide)) (q_rem (val_tmp rfl) val_const (by first | omega | (simp only [Bool.and_eq_true, Bool.or_eq_true, Bool.not_eq_true', Bool.not_eq_false', Bool.or_eq_false_iff, Bool.and_eq_false_iff, decide_eq_true_eq, decide_eq_false_iff_not] at *; omega))) ?_
          refine tq_op (hd 44 (by decide)) (q_eql (val_tmp rfl) val_const) ?_
          refine tq_op (hd 10 (by decide)) (q_assign (val_tmp rfl)) ?_
          refine tq_nil ?_
          refine c_seq ?_
          refine c_seq ?_
          refine c_rq ?_
          refine tq_op (hd 58 (by decide)) (q_move (val_tmp rfl)) ?_
          refine tq_nil ?_
          refine c_cond (val_tmp rfl) (fun hc7 => ?_) (fun hc7 => ?_)
          · have hc7s := hc7
            try simp only [Bool.and_eq_true, Bool.or_eq_true, Bool.not_eq_true', Bool.not_eq_false', Bool.or_eq_false_iff, Bool.and_eq_false_iff, decide_eq_true_eq, decide_eq_false_iff_not] at hc7s
            refine c_seq ?_
            refine c_rq ?_
            refine tq_op (hd 8 (by decide)) (q_assign val_const) ?_
            refine tq_nil ?_
            refine c_ret ?_
            exact ret1 rfl (val_tmp rfl) rfl (by show iv (7) = iv (MayFr l a b what); subst hc6s; rw [May_7 hf (by omega) (by rw [ask3 hf.1 ⟨hA.1, hA.2.1⟩, hc7]; rfl)])
          · have hc7s := hc7
            try simp only [Bool.and_eq_true, Bool.or_eq_true, Bool.not_eq_true', Bool.not_eq_false', Bool.or_eq_false_iff, Bool.and_eq_false_iff, decide_eq_true_eq, decide_eq_false_iff_not] at hc7s
            refine c_skip ?_
            refine c_seq ?_
            refine c_rq ?_
            refine tq_op (hd 8 (by decide)) (q_assign val_const) ?_
            refine tq_nil ?_
            refine c_ret ?_
            exact ret1 rfl (val_tmp rfl) rfl (by show iv (0) = iv (MayFr l a b what); subst hc6s; rw [May_0 hf (by omega) (by rw [ask3 hf.1 ⟨hA.1, hA.2.1⟩, hc7]; rfl)])
        · have hc6s := hc6
          try simp only [Bool.and_eq_true, Bool.or_eq_true, Bool.not_eq_true', Bool.not_eq_false', Bool.or_eq_false_iff, Bool.and_eq_false_iff, decide_eq_true_eq, decide_eq_false_iff_not] at hc6s
          refine c_seq ?_
          refine c_seq ?_
          refine c_rq ?_
          refine tq_op (hd 46 (by decide)) (q_eql (val_tmp rfl) val_const) ?_
          refine tq_op (hd 45 (by decide)) (q_assign (val_tmp rfl)) ?_
          refine tq_nil ?_
          refine c_cond (val_tmp rfl) (fun hc8 => ?_) (fun hc8 => ?_)
          · have hc8s := hc8
            try simp only [Bool.and_eq_true, Bool.or_eq_true, Bool.not_eq_true', Bool.not_eq_false', Bool.or_eq_false_iff, Bool.and_eq_false_iff, decide_eq_true_eq, decide_eq_false_iff_not] at hc8s
            refine c_skip ?_
            refine c_cond (val_tmp rfl) (fun hc9 => ?_) (fun hc9 => ?_)
            · have hc9s := hc9
              try simp only [Bool.and_eq_true, Bool.or_eq_true, Bool.not_eq_true', Bool.not_eq_false', Bool.or_eq_false_iff, Bool.and_eq_false_iff, decide_eq_true_eq, decide_eq_false_iff_not] at hc9s
              refine c_rq ?_
              refine tq_op (hd 48 (by decide)) (q_move (val_tmp rfl)) ?_
              refine tq_op (hd 49 (by decide)) (q_move (val_tmp rfl)) ?_
              refine tq_op (hd 50 (by decide)) (q_eql (val_tmp rfl) (val_tmp rfl)) ?_
              refine tq_op (hd 51 (by decide)) (q_move (val_tmp rfl)) ?_
              refine tq_opG (g_no rfl rfl) (hd 52 (by decide)) (fun hg => q_move (val_tmp rfl)) ?_
              refine tq_opG (g_no rfl rfl) (hd 53 (by decide)) (fun hg => q_move (val_tmp rfl)) ?_
              refine tq_opG (g_no rfl rfl) (hd 54 (by decide)) (fun hg => q_move (val_tmp rfl)) ?_
              refine tq_callG (g_no rfl rfl) en48 (hd 55 (by decide)) (fun hg => (by exact ⟨⟨(val_grd (val_tmp rfl) hg), rfl⟩, ⟨(val_grd (val_tmp rfl) hg), rfl⟩, ⟨(val_grd (val_tmp rfl) hg), rfl⟩, trivial⟩)) (fun hg => rwithin_ct hf.1 b a) ?_
              refine tq_opG (g_no rfl rfl) (hd 56 (by decide)) (fun hg => q_not (val_grd (val_tmp rfl) hg)) ?_
              refine tq_op (hd 57 (by decide)) (q_or (val_tmp rfl) (fun h => val_grd (val_tmp rfl) (notT h))) ?_
              refine tq_op (hd 10 (by decide)) (q_assign (val_tmp rfl)) ?_
              refine tq_nil ?_
              refine c_seq ?_
              refine c_seq ?_
              refine c_rq ?_
              refine tq_op (hd 58 (by decide)) (q_move (val_tmp rfl)) ?_
              refine tq_nil ?_
              refine c_cond (val_tmp rfl) (fun hc10 => ?_) (fun hc10 => ?_)
              · have hc10s := hc10
                try simp only [Bool.and_eq_true, Bool.or_eq_true, Bool.not_eq_true', Bool.not_eq_false', Bool.or_eq_false_iff, Bool.and_eq_false_iff, decide_eq_true_eq, decide_eq_false_iff_not] at hc10s
                refine c_seq ?_
                refine c_rq ?_
                refine tq_op (hd 8 (by decide)) (q_assign val_const) ?_
                refine tq_nil ?_
                refine c_ret ?_
                exact ret1 rfl (val_tmp rfl) rfl (by show iv (7) = iv (MayFr l a b what); rw [May_7 hf (by omega) (by rw [ask45 (.inl hc8s), hc10]; rfl)])
              · have hc10s := hc10
                try simp only [Bool.and_eq_true, Bool.or_eq_true, Bool.not_eq_true', Bool.not_eq_false', Bool.or_eq_false_iff, Bool.and_eq_false_iff, decide_eq_true_eq, decide_eq_false_iff_not] at hc10s
                refine c_skip ?_
                refine c_seq ?_
                refine c_rq ?_
                refine tq_op (hd 8 (by decide)) (q_assign val_const) ?_
                refine tq_nil ?_
                refine c_ret ?_
                exact ret1 rfl (val_tmp rfl) rfl (by show iv (0) = iv (MayFr l a b what); rw [May_0 hf (by omega) (by rw [ask45 (.inl hc8s), hc10]; rfl)])
            · have hc9s := hc9
              try simp only [Bool.and_eq_true, Bool.or_eq_true, Bool.not_eq_true', Bool.not_eq_false', Bool.or_eq_false_iff, Bool.and_eq_false_iff, decide_eq_true_eq, decide_eq_false_iff_not] at hc9s
              exact absurd hc8s hc9s
              --done
          · have hc8s := hc8
            try simp only [Bool.and_eq_true, Bool.or_eq_true, Bool.not_eq_true', Bool.not_eq_false', Bool.or_eq_false_iff, Bool.and_eq_false_iff, decide_eq_true_eq, decide_eq_false_iff_not] at hc8s
            refine c_rq ?_
            refine tq_op (hd 47 (by decide)) (q_eql (val_tmp rfl) val_const) ?_
            refine tq_op (hd 45 (by decide)) (q_assign (val_tmp rfl)) ?_
            refine tq_nil ?_
            refine c_cond (val_tmp rfl) (fun hc11 => ?_) (fun hc11 => ?_)
            · have hc11s := hc11
              try simp only [Bool.and_eq_true, Bool.or_eq_true, Bool.not_eq_true', Bool.not_eq_false', Bool.or_eq_false_iff, Bool.and_eq_false_iff, decide_eq_true_eq, decide_eq_false_iff_not] at hc11s
              refine c_rq ?_
              refine tq_op (hd 48 (by decide)) (q_move (val_tmp rfl)) ?_
              refine tq_op (hd 49 (by decide)) (q_move (val_tmp rfl)) ?_
              refine tq_op (hd 50 (by decide)) (q_eql (val_tmp rfl) (val_tmp rfl)) ?_
              refine tq_op (hd 51 (by decide)) (q_move (val_tmp rfl)) ?_
              refine tq_opG (g_no rfl rfl) (hd 52 (by decide)) (fun hg => q_move (val_tmp rfl)) ?_
              refine tq_opG (g_no rfl rfl) (hd 53 (by decide)) (fun hg => q_move (val_tmp rfl)) ?_
              refine tq_opG (g_no rfl rfl) (hd 54 (by decide)) (fun hg => q_move (val_tmp rfl)) ?_
              refine tq_callG (g_no rfl rfl) en48 (hd 55 (by decide)) (fun hg => (by exact ⟨⟨(val_grd (val_tmp rfl) hg), rfl⟩, ⟨(val_grd (val_tmp rfl) hg), rfl⟩, ⟨(val_grd (val_tmp rfl) hg), rfl⟩, trivial⟩)) (fun hg => rwithin_ct hf.1 b a) ?_
              refine tq_opG (g_no rfl rfl) (hd 56 (by decide)) (fun hg => q_not (val_grd (val_tmp rfl) hg)) ?_
              refine tq_op (hd 57 (by decide)) (q_or (val_tmp rfl) (fun h => val_grd (val_tmp rfl) (notT h))) ?_
              refine tq_op (hd 10 (by decide)) (q_assign (val_tmp rfl)) ?_
              refine tq_nil ?_
              refine c_seq ?_
              refine c_seq ?_
              refine c_rq ?_
              refine tq_op (hd 58 (by decide)) (q_move (val_tmp rfl)) ?_
              refine tq_nil ?_
              refine c_cond (val_tmp rfl) (fun hc12 => ?_) (fun hc12 => ?_)
              · have hc12s := hc12
                try simp only [Bool.and_eq_true, Bool.or_eq_true, Bool.not_eq_true', Bool.not_eq_false', Bool.or_eq_false_iff, Bool.and_eq_false_iff, decide_eq_true_eq, decide_eq_false_iff_not] at hc12s
                refine c_seq ?_
                refine c_rq ?_
                refine tq_op (hd 8 (by decide)) (q_assign val_const) ?_
                refine tq_nil ?_
                refine c_ret ?_
                exact ret1 rfl (val_tmp rfl) rfl (by show iv (7) = iv (MayFr l a b what); rw [May_7 hf (by omega) (by rw [ask45 (.inr hc11s), hc12]; rfl)])
              · have hc12s := hc12
                try simp only [Bool.and_eq_true, Bool.or_eq_true, Bool.not_eq_true', Bool.not_eq_false', Bool.or_eq_false_iff, Bool.and_eq_false_iff, decide_eq_true_eq, decide_eq_false_iff_not] at hc12s
                refine c_skip ?_
                refine c_seq ?_
                refine c_rq ?_
                refine tq_op (hd 8 (by decide)) (q_assign val_const) ?_
                refine tq_nil ?_
                refine c_ret ?_
                exact ret1 rfl (val_tmp rfl) rfl (by show iv (0) = iv (MayFr l a b what); rw [May_0 hf (by omega) (by rw [ask45 (.inr hc11s), hc12]; rfl)])
            · have hc11s := hc11
              try simp only [Bool.and_eq_true, Bool.or_eq_true, Bool.not_eq_true', Bool.not_eq_false', Bool.or_eq_false_iff, Bool.and_eq_false_iff, decide_eq_true_eq, decide_eq_false_iff_not] at hc11s
              refine c_seq ?_
              refine c_rq ?_
              refine tq_op (hd 8 (by decide)) (q_assign val_const) ?_
              refine tq_nil ?_
              refine c_ret ?_
              exact ret1 rfl (val_tmp rfl) rfl (by show iv (3) = iv (MayFr l a b what); rw [May_3 hf (by omega)])

/-- glasshouse/glasshouselaw.GuardSays -/
theorem guardSays_ct (l : List Fr) (a b what : Int) : Ct Try.prog 4 [frRow l, iv (a), iv (b), iv (what)] (bv true) := by
  refine ct_of Try.func4 rfl (by show 4 ≤ 23; decide) fun E hN => ?_
  have hd : ∀ d, d < 23 → d < E.N := fun d h => Nat.lt_of_lt_of_eq h hN.symm
  refine row_len (val_tmp (s := 0) rfl) fun hl0 => ?_
  refine c_seq ?_
  refine c_rq ?_
  refine tq_op (hd 8 (by decide)) (q_assign val_const) ?_
  refine tq_nil ?_
  refine c_seq ?_
  refine c_rq ?_
  refine tq_call en18 (hd 9 (by decide)) (by exact trivial) (guarded_ct) ?_
  refine tq_op (hd 10 (by decide)) (q_move (val_tmp rfl)) ?_
  refine tq_opG (g_yes rfl rfl) (hd 11 (by decide)) (fun hg => q_move (val_tmp rfl)) ?_
  refine tq_opG (g_yes rfl rfl) (hd 12 (by decide)) (fun hg => q_move (val_tmp rfl)) ?_
  refine tq_opG (g_yes rfl rfl) (hd 13 (by decide)) (fun hg => q_move (val_tmp rfl)) ?_
  refine tq_opG (g_yes rfl rfl) (hd 14 (by decide)) (fun hg => q_move (val_tmp rfl)) ?_
  refine tq_callG (g_yes rfl rfl) en19 (hd 15 (by decide)) (fun hg => (by exact ⟨⟨(val_grd (val_tmp rfl) hg), rfl⟩, ⟨(val_grd (val_tmp rfl) hg), rfl⟩, ⟨(val_grd (val_tmp rfl) hg), rfl⟩, ⟨(val_grd (val_tmp rfl) hg), rfl⟩, trivial⟩)) (fun hg => May_ct l a b what) ?_
  refine tq_opG (g_yes rfl rfl) (hd 16 (by decide)) (fun hg => q_move (val_tmp rfl)) ?_
  refine tq_opG (g_yes rfl rfl) (hd 17 (by decide)) (fun hg => q_move (val_tmp rfl)) ?_
  refine tq_opG (g_yes rfl rfl) (hd 18 (by decide)) (fun hg => q_move (val_tmp rfl)) ?_
  refine tq_opG (g_yes rfl rfl) (hd 19 (by decide)) (fun hg => q_move (val_tmp rfl)) ?_
  refine tq_callG (g_yes rfl rfl) en20 (hd 20 (by decide)) (fun hg => (by exact ⟨⟨(val_grd (val_tmp rfl) hg), rfl⟩, ⟨(val_grd (val_tmp rfl) hg), rfl⟩, ⟨(val_grd (val_tmp rfl) hg), rfl⟩, ⟨(val_grd (val_tmp rfl) hg), rfl⟩, trivial⟩)) (fun hg => rmay_ct l a b what) ?_
  refine tq_opG (g_yes rfl rfl) (hd 21 (by decide)) (fun hg => q_eql (val_grd (val_tmp rfl) hg) (val_grd (val_tmp rfl) hg)) ?_
  refine tq_op (hd 22 (by decide)) (q_and (val_tmp rfl) (fun h => val_grd (val_tmp rfl) h)) ?_
  refine tq_op (hd 8 (by decide)) (q_assign (val_tmp rfl)) ?_
  refine tq_nil ?_
  refine c_ret ?_
  exact ret1 rfl (val_tmp rfl) rfl (by show bv (true && (decide (MayFr l a b what = MayFr l a b what))) = bv true; simp)

end Go.Proofs.Ytghkpailmdlhgaa
