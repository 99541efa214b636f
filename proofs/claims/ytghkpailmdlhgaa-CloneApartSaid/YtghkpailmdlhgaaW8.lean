import Derived.Test.YtghkpailmdlhgaaW7
import Derived.Test.YtghkpailmdlhgaaFu
set_option linter.unusedVariables false
set_option linter.unusedSimpArgs false
namespace Go.Proofs.Ytghkpailmdlhgaa
open Go.RowKit Go.Eng
/-- slices.Equal[[]glasshouse/api.Frame,glasshouse/api.Frame] -/
theorem equalFr_ct (l m : List Fr) : Ct Try.prog 41 [frRow l, frRow m] (bv (eqFr l m)) := by
  refine ct_of Try.func41 rfl (by show 2 ≤ 26; decide) fun E hN => ?_
  have hd : ∀ d, d < 26 → d < E.N := fun d h => Nat.lt_of_lt_of_eq h hN.symm
  refine row_len (val_tmp (s := 0) rfl) fun hl0 => ?_
  refine row_len (val_tmp (s := 1) rfl) fun hl1 => ?_
  refine c_seq ?_
  refine c_rq ?_
  refine tq_op (hd 4 (by decide)) (q_assign val_const) ?_
  refine tq_nil ?_
  refine c_seq ?_
  refine c_seq ?_
  refine c_rq ?_
  refine tq_op (hd 6 (by decide)) (q_move (val_tmp rfl)) ?_
  refine tq_op (hd 7 (by decide)) (q_len (val_tmp rfl) ts27) ?_
  refine tq_op (hd 8 (by decide)) (q_move (val_tmp rfl)) ?_
  refine tq_op (hd 9 (by decide)) (q_len (val_tmp rfl) ts27) ?_
  refine tq_op (hd 10 (by decide)) (q_neq (val_tmp rfl) (val_tmp rfl)) ?_
  refine tq_nil ?_
  refine c_cond (val_tmp rfl) (fun hc1 => ?_) (fun hc1 => ?_)
  · have hc1s := hc1
    try simp only [Bool.and_eq_true, Bool.or_eq_true, Bool.not_eq_true', Bool.not_eq_false', Bool.or_eq_false_iff, Bool.and_eq_false_iff, decide_eq_true_eq, decide_eq_false_iff_not] at hc1s
    refine c_seq ?_
    refine c_rq ?_
    refine tq_op (hd 4 (by decide)) (q_assign val_const) ?_
    refine tq_nil ?_
    refine c_ret ?_
    exact ret1 rfl (val_tmp rfl) rfl (by show bv (false) = bv (eqFr l m); rw [eqFr, decide_eq_false (fun h => by rw [h] at hc1s; simp at hc1s)])
  · have hc1s := hc1
    try simp only [Bool.and_eq_true, Bool.or_eq_true, Bool.not_eq_true', Bool.not_eq_false', Bool.or_eq_false_iff, Bool.and_eq_false_iff, decide_eq_true_eq, decide_eq_false_iff_not] at hc1s
    refine c_skip ?_
    refine c_seq ?_
    refine c_seq ?_
    refine c_rq ?_
    refine tq_op (hd 11 (by decide)) (q_move (val_tmp rfl)) ?_
    refine tq_op (hd 12 (by decide)) (q_len (val_tmp rfl) ts27) ?_
    refine tq_op (hd 13 (by decide)) (q_move val_const) ?_
    refine tq_nil ?_
    refine c_block ?_
    refine c_loop (fun (i : Nat) => (⟨[(0, frRow l), (1, frRow m), (12, iv ((l.length : Int))), (13, iv ((i : Int)))], []⟩ : St)) (fun (i : Nat) => i ≤ l.length ∧ samePre default l m i) (fun (i : Nat) => l.length - i) 0 ?_ ?_ ?_
    · show 0 ≤ l.length ∧ samePre default l m 0
      exact ⟨Nat.zero_le _, samePre_0 (by omega)⟩
    · refine weakE (sl := [(0, frRow l), (1, frRow m), (12, iv ((l.length : Int))), (13, iv ((0 : Int)))]) (ow := []) ?_ ?_
      · exact ⟨val_tmp rfl, val_tmp rfl, val_tmp rfl, val_tmp rfl, trivial⟩
      · exact trivial
    · rintro i hI1
      have hJ1 : i ≤ l.length ∧ samePre default l m i := hI1
      have hlm := hJ1.2.1
      refine c_seq ?_
      refine c_rq ?_
      refine tq_op (hd 14 (by decide)) (q_lss (val_tmp rfl) (val_tmp rfl)) ?_
      refine tq_nil ?_
      refine c_seq ?_
      refine c_cond (val_tmp rfl) (fun hc2 => ?_) (fun hc2 => ?_)
      · have hc2s := hc2
        try simp only [Bool.and_eq_true, Bool.or_eq_true, Bool.not_eq_true', Bool.not_eq_false', Bool.or_eq_false_iff, Bool.and_eq_false_iff, decide_eq_true_eq, decide_eq_false_iff_not] at hc2s
        refine c_skip ?_
        refine c_seq ?_
        refine c_block ?_
        refine c_seq ?_
        refine c_rq ?_
        refine tq_op (hd 15 (by decide)) (q_move (val_tmp rfl)) ?_
        refine tq_op (hd 5 (by decide)) (q_assign (val_tmp rfl)) ?_
        refine tq_nil ?_
        refine c_seq ?_
        refine c_rqd (by kernel_rfl) (by kernel_rfl) ?_
        refine tq_op (hd 16 (by decide)) (q_move (val_tmp rfl)) ?_
        refine tq_op (hd 17 (by decide)) (q_move (val_tmp rfl)) ?_
        refine tq_op (hd 18 (by decide)) (q_idxN (i := i) (val_tmp rfl) (val_tmp rfl) ts27 te27 (by first | omega | (simp only [Bool.and_eq_true, Bool.or_eq_true, Bool.not_eq_true', Bool.not_eq_false', Bool.or_eq_false_iff, Bool.and_eq_false_iff, decide_eq_true_eq, decide_eq_false_iff_not] at *; omega))) ?_
        refine tq_op (hd 19 (by decide)) (q_ldA (val_tmp rfl) Try.isAgg47 Try.sizeOf47 (by decide)) ?_
        refine tq_op (hd 20 (by decide)) (q_move (val_tmp rfl)) ?_
        refine tq_op (hd 21 (by decide)) (q_move (val_tmp rfl)) ?_
        refine tq_op (hd 22 (by decide)) (q_idxN (i := i) (val_tmp rfl) (val_tmp rfl) ts27 te27 (by first | omega | (simp only [Bool.and_eq_true, Bool.or_eq_true, Bool.not_eq_true', Bool.not_eq_false', Bool.or_eq_false_iff, Bool.and_eq_false_iff, decide_eq_true_eq, decide_eq_false_iff_not] at *; omega))) ?_
        refine tq_op (hd 23 (by decide)) (q_ldA (val_tmp rfl) Try.isAgg47 Try.sizeOf47 (by decide)) ?_
        refine tq_op (hd 24 (by decide)) (q_eqS (frVal (l.getD i default)) (frVal (m.getD i default)) (val_tmp rfl) (val_tmp rfl) ⟨⟨⟨⟨⟨trivial, rfl⟩, rfl⟩, rfl⟩, rfl⟩, rfl⟩ ⟨⟨⟨⟨⟨trivial, rfl⟩, rfl⟩, rfl⟩, rfl⟩, rfl⟩ (fun w => neS47 _ _ _ _ w)) ?_
        refine tq_nil ?_
        refine c_cond (val_tmp rfl) (fun hc3 => ?_) (fun hc3 => ?_)
        · have hc3s := hc3
          try simp only [Bool.and_eq_true, Bool.or_eq_true, Bool.not_eq_true', Bool.not_eq_false', Bool.or_eq_false_iff, Bool.and_eq_false_iff, decide_eq_true_eq, decide_eq_false_iff_not] at hc3s
          refine c_seq ?_
          refine c_rq ?_
          refine tq_op (hd 4 (by decide)) (q_assign val_const) ?_
          refine tq_nil ?_
          refine c_ret ?_
          exact ret1 rfl (val_tmp rfl) rfl (by show bv (false) = bv (eqFr l m); rw [eqFr, decide_eq_false (samePre_ne (i := i) (d := default) (by simpa using hc3))])
        · have hc3s := hc3
          try simp only [Bool.and_eq_true, Bool.or_eq_true, Bool.not_eq_true', Bool.not_eq_false', Bool.or_eq_false_iff, Bool.and_eq_false_iff, decide_eq_true_eq, decide_eq_false_iff_not] at hc3s
          refine c_skip ?_
          refine c_rq ?_
          refine tq_op (hd 25 (by decide)) (q_add (val_tmp rfl) val_const (by first | omega | (simp only [Bool.and_eq_true, Bool.or_eq_true, Bool.not_eq_true', Bool.not_eq_false', Bool.or_eq_false_iff, Bool.and_eq_false_iff, decide_eq_true_eq, decide_eq_false_iff_not] at *; omega))) ?_
          refine tq_op (hd 13 (by decide)) (q_move (val_tmp rfl)) ?_
          refine tq_nil ?_
          refine c_next (i + 1) ?_ ?_ ?_
          · show (i + 1) ≤ l.length ∧ samePre default l m (i + 1)
            exact ⟨by omega, samePre_s hJ1.2 (by simpa using hc3)⟩
          · show l.length - (i + 1) < l.length - i
            omega
          · refine weakE (sl := [(0, frRow l), (1, frRow m), (12, iv ((l.length : Int))), (13, iv (((i + 1) : Int)))]) (ow := []) ?_ ?_
            · exact ⟨val_tmp rfl, val_tmp rfl, val_tmp rfl, val_tmp rfl, trivial⟩
            · exact trivial
      · have hc2s := hc2
        try simp only [Bool.and_eq_true, Bool.or_eq_true, Bool.not_eq_true', Bool.not_eq_false', Bool.or_eq_false_iff, Bool.and_eq_false_iff, decide_eq_true_eq, decide_eq_false_iff_not] at hc2s
        refine c_exit ?_
        refine c_seq ?_
        refine c_rq ?_
        refine tq_op (hd 4 (by decide)) (q_assign val_const) ?_
        refine tq_nil ?_
        refine c_ret ?_
        exact ret1 rfl (val_tmp rfl) rfl (by show bv (true) = bv (eqFr l m); rw [eqFr, decide_eq_true (samePre_eq hJ1.2 (by omega))])

/-- glasshouse/glasshouseref.LengthOf -/
theorem rlen_ct (l : List Fr) (k : Int) : Ct Try.prog 46 [frRow l, iv (k)] (sv2 (iv (lenFr l k).1) (iv (lenFr l k).2)) := by
  refine ct_of Try.func46 rfl (by show 2 ≤ 38; decide) fun E hN => ?_
  have hd : ∀ d, d < 38 → d < E.N := fun d h => Nat.lt_of_lt_of_eq h hN.symm
  refine row_len (val_tmp (s := 0) rfl) fun hl0 => ?_
  refine c_seq ?_
  refine c_rq ?_
  refine tq_op (hd 4 (by decide)) (q_assign val_const) ?_
  refine tq_op (hd 5 (by decide)) (q_assign val_const) ?_
  refine tq_nil ?_
  refine c_seq ?_
  refine c_seq ?_
  refine c_rt ?_
  refine t_op (hd 9 (by decide)) (q_move (val_tmp rfl)) ?_
  refine t_op (hd 10 (by decide)) (q_move (val_tmp rfl)) ?_
  refine t_w (hd 11 (by decide)) (w_bs (n := 1) (zget := fun _ => iv 0) [(fun _ => iv (k))] (rowG inCell 0 [k]) Try.underlying24 (fun w => Try.sizeOf3 w) zero3 (by decide) rfl (by decide) ⟨⟨rfl, .inr ⟨rfl, (val_tmp rfl), rfl⟩, rfl⟩, trivial⟩ ⟨trivial, ⟨trivial, rfl⟩⟩) ?_
  refine t_call en65 (hd 12 (by decide)) (by exact ⟨⟨(val_tmp rfl), rfl⟩, ⟨(val_tmp rfl), rfl⟩, trivial⟩) (rframed_ct l ([k])) ?_
  refine t_op (hd 6 (by decide)) (q_assign (val_tmp rfl)) ?_
  refine t_nil ?_
  refine c_seq ?_
  refine c_rq ?_
  refine tq_op (hd 13 (by decide)) (q_move (val_tmp rfl)) ?_
  refine tq_op (hd 14 (by decide)) (q_neq (val_tmp rfl) val_const) ?_
  refine tq_nil ?_
  refine c_cond (val_tmp rfl) (fun hc1 => ?_) (fun hc1 => ?_)
  · have hc1s := hc1
    try simp only [Bool.and_eq_true, Bool.or_eq_true, Bool.not_eq_true', Bool.not_eq_false', Bool.or_eq_false_iff, Bool.and_eq_false_iff, decide_eq_true_eq, decide_eq_false_iff_not] at hc1s
    refine c_seq ?_
    refine c_rq ?_
    refine tq_op (hd 15 (by decide)) (q_move (val_tmp rfl)) ?_
    refine tq_op (hd 4 (by decide)) (q_assign val_const) ?_
    refine tq_op (hd 5 (by decide)) (q_assign (val_tmp rfl)) ?_
    refine tq_nil ?_
    refine c_ret ?_
    exact ret2 rfl (val_tmp rfl) (val_tmp rfl) rfl rfl (by show sv2 (iv (0)) (iv (framedFr l ([k]))) = sv2 (iv (lenFr l k).1) (iv (lenFr l k).2); rw [len_err hc1s])
  · have hc1s := hc1
    try simp only [Bool.and_eq_true, Bool.or_eq_true, Bool.not_eq_true', Bool.not_eq_false', Bool.or_eq_false_iff, Bool.and_eq_false_iff, decide_eq_true_eq, decide_eq_false_iff_not] at hc1s
    have hf := framed1_0 hc1s
    have h8 := check_len hf.1
    refine c_skip ?_
    refine c_seq ?_
    refine c_rq ?_
    refine tq_op (hd 7 (by decide)) (q_assign val_const) ?_
    refine tq_nil ?_
    refine c_seq ?_
    refine c_seq ?_
    refine c_rq ?_
    refine tq_op (hd 16 (by decide)) (q_move (val_tmp rfl)) ?_
    refine tq_op (hd 17 (by decide)) (q_len (val_tmp rfl) ts27) ?_
    refine tq_op (hd 18 (by decide)) (q_move val_const) ?_
    refine tq_nil ?_
    refine c_block ?_
    refine c_loop (fun (i : Nat) => (⟨[(0, frRow l), (1, iv (k)), (7, iv ((((l.take i).countP (kidP k) : Nat) : Int))), (17, iv ((l.length : Int))), (18, iv ((i : Int)))], []⟩ : St)) (fun (i : Nat) => i ≤ l.length ∧ (l.take i).countP (kidP k) ≤ i) (fun (i : Nat) => l.length - i) 0 ?_ ?_ ?_
    · show 0 ≤ l.length ∧ (l.take 0).countP (kidP k) ≤ 0
      exact ⟨Nat.zero_le _, Nat.le_refl _⟩
    · refine weakE (sl := [(0, frRow l), (1, iv (k)), (7, iv ((((l.take 0).countP (kidP k) : Nat) : Int))), (17, iv ((l.length : Int))), (18, iv ((0 : Int)))]) (ow := []) ?_ ?_
      · exact ⟨val_tmp rfl, val_tmp rfl, val_tmp rfl, val_tmp rfl, val_tmp rfl, trivial⟩
      · exact trivial
    · rintro i hI1
      have hJ1 : i ≤ l.length ∧ (l.take i).countP (kidP k) ≤ i := hI1
      have hi1 := hJ1.1
      have hi2 := hJ1.2
      refine c_seq ?_
      refine c_rq ?_
      refine tq_op (hd 19 (by decide)) (q_lss (val_tmp rfl) (val_tmp rfl)) ?_
      refine tq_nil ?_
      refine c_seq ?_
      refine c_cond (val_tmp rfl) (fun hc2 => ?_) (fun hc2 => ?_)
      · have hc2s := hc2
        try simp only [Bool.and_eq_true, Bool.or_eq_true, Bool.not_eq_true', Bool.not_eq_false', Bool.or_eq_false_iff, Bool.and_eq_false_iff, decide_eq_true_eq, decide_eq_false_iff_not] at hc2s
        refine c_skip ?_
        refine c_seq ?_
        refine c_block ?_
        refine c_seq ?_
        refine c_rq ?_
        refine tq_op (hd 20 (by decide)) (q_move (val_tmp rfl)) ?_
        refine tq_op (hd 8 (by decide)) (q_assign (val_tmp rfl)) ?_
        refine tq_nil ?_
        refine c_seq ?_
        refine c_rq ?_
        refine tq_op (hd 21 (by decide)) (q_move (val_tmp rfl)) ?_
        refine tq_op (hd 22 (by decide)) (q_move (val_tmp rfl)) ?_
        refine tq_op (hd 23 (by decide)) (q_idxN (i := i) (val_tmp rfl) (val_tmp rfl) ts27 te27 (by first | omega | (simp only [Bool.and_eq_true, Bool.or_eq_true, Bool.not_eq_true', Bool.not_eq_false', Bool.or_eq_false_iff, Bool.and_eq_false_iff, decide_eq_true_eq, decide_eq_false_iff_not] at *; omega))) ?_
        refine tq_op (hd 24 (by decide)) (q_fld _ _ (val_tmp rfl) Try.underlying47 rfl 0 (fun w => Try.sizeOf3 w)) ?_
        refine tq_op (hd 25 (by decide)) (q_ld (val_tmp rfl) Try.isAgg3 (by decide)) ?_
        refine tq_op (hd 26 (by decide)) (q_move (val_tmp rfl)) ?_
        refine tq_op (hd 27 (by decide)) (q_eql (val_tmp rfl) (val_tmp rfl)) ?_
        refine tq_op (hd 28 (by decide)) (q_move (val_tmp rfl)) ?_
        refine tq_opG (g_yes rfl rfl) (hd 29 (by decide)) (fun hg => q_move (val_tmp rfl)) ?_
        refine tq_opG (g_yes rfl rfl) (hd 30 (by decide)) (fun hg => q_move (val_tmp rfl)) ?_
        refine tq_callG (g_yes rfl rfl) en42 (hd 31 (by decide)) (fun hg => (by exact ⟨⟨(val_grd (val_tmp rfl) hg), rfl⟩, ⟨(val_grd (val_tmp rfl) hg), rfl⟩, trivial⟩)) (fun hg => rholds_ct l ((i : Int))) ?_
        refine tq_opG (g_yes rfl rfl) (hd 32 (by decide)) (fun hg => q_eql (val_grd (val_tmp rfl) hg) val_const) ?_
        refine tq_op (hd 33 (by decide)) (q_and (val_tmp rfl) (fun h => val_grd (val_tmp rfl) h)) ?_
        refine tq_nil ?_
        refine c_cond (val_tmp rfl) (fun hc3 => ?_) (fun hc3 => ?_)
        · have hc3s := hc3
          try simp only [Bool.and_eq_true, Bool.or_eq_true, Bool.not_eq_true', Bool.not_eq_false', Bool.or_eq_false_iff, Bool.and_eq_false_iff, decide_eq_true_eq, decide_eq_false_iff_not] at hc3s
          refine c_rq ?_
          refine tq_op (hd 34 (by decide)) (q_move (val_tmp rfl)) ?_
          refine tq_op (hd 35 (by decide)) (q_add (val_tmp rfl) val_const (by first | omega | (simp only [Bool.and_eq_true, Bool.or_eq_true, Bool.not_eq_true', Bool.not_eq_false', Bool.or_eq_false_iff, Bool.and_eq_false_iff, decide_eq_true_eq, decide_eq_false_iff_not] at *; omega))) ?_
          refine tq_op (hd 7 (by decide)) (q_assign (val_tmp rfl)) ?_
          refine tq_nil ?_
          refine c_rq ?_
          refine tq_op (hd 36 (by decide)) (q_add (val_tmp rfl) val_const (by first | omega | (simp only [Bool.and_eq_true, Bool.or_eq_true, Bool.not_eq_true', Bool.not_eq_false', Bool.or_eq_false_iff, Bool.and_eq_false_iff, decide_eq_true_eq, decide_eq_false_iff_not] at *; omega))) ?_
          refine tq_op (hd 18 (by decide)) (q_move (val_tmp rfl)) ?_
          refine tq_nil ?_
          have hkk := holds_k (l := l) (j := i) (by omega)
          have hkp : kidP k (l.getD i default) = true := by
            have h3 := hc3
            rw [hkk] at h3
            simp only [Bool.and_eq_true, decide_eq_true_eq] at h3
            simp only [kidP, Bool.and_eq_true, decide_eq_true_eq, Bool.not_eq_true']
            refine ⟨h3.1, ?_⟩
            cases hg : (l.getD i default).gone with
            | false => rfl
            | true => have := h3.2; rw [hg] at this; simp at this
          have hS := countP_take_s (kidP k) default l i (by omega)
          rw [if_pos hkp] at hS
          refine c_next (i + 1) ?_ ?_ ?_
          · show (i + 1) ≤ l.length ∧ (l.take (i + 1)).countP (kidP k) ≤ (i + 1)
            exact ⟨by omega, by omega⟩
          · show l.length - (i + 1) < l.length - i
            omega
          · refine weakE (sl := [(0, frRow l), (1, iv (k)), (7, iv ((((l.take ((i + 1))).countP (kidP k) : Nat) : Int))), (17, iv ((l.length : Int))), (18, iv (((i + 1) : Int)))]) (ow := []) ?_ ?_
            · exact ⟨val_tmp rfl, val_tmp rfl, (val_eq (val_tmp rfl) (congrArg iv (by omega))), val_tmp rfl, val_tmp rfl, trivial⟩
            · exact trivial
        · have hc3s := hc3
          try simp only [Bool.and_eq_true, Bool.or_eq_true, Bool.not_eq_true', Bool.not_eq_false', Bool.or_eq_false_iff, Bool.and_eq_false_iff, decide_eq_true_eq, decide_eq_false_iff_not] at hc3s
          refine c_skip ?_
          refine c_rq ?_
          refine tq_op (hd 36 (by decide)) (q_add (val_tmp rfl) val_const (by first | omega | (simp only [Bool.and_eq_true, Bool.or_eq_true, Bool.not_eq_true', Bool.not_eq_false', Bool.or_eq_false_iff, Bool.and_eq_false_iff, decide_eq_true_eq, decide_eq_false_iff_not] at *; omega))) ?_
          refine tq_op (hd 18 (by decide)) (q_move (val_tmp rfl)) ?_
          refine tq_nil ?_
          have hkk := holds_k (l := l) (j := i) (by omega)
          have hkp : kidP k (l.getD i default) = false := by
            have h3 := hc3
            rw [hkk] at h3
            simp only [kidP, Bool.and_eq_false_iff, decide_eq_false_iff_not, Bool.not_eq_false'] at h3 ⊢
            rcases h3 with h3 | h3
            · exact .inl h3
            · right
              cases hg : (l.getD i default).gone with
              | true => rfl
              | false => rw [hg] at h3; exact absurd rfl h3
          have hS := countP_take_s (kidP k) default l i (by omega)
          rw [if_neg (ff hkp)] at hS
          refine c_next (i + 1) ?_ ?_ ?_
          · show (i + 1) ≤ l.length ∧ (l.take (i + 1)).countP (kidP k) ≤ (i + 1)
            exact ⟨by omega, by omega⟩
          · show l.length - (i + 1) < l.length - i
            omega
          · refine weakE (sl := [(0, frRow l), (1, iv (k)), (7, iv ((((l.take ((i + 1))).countP (kidP k) : Nat) : Int))), (17, iv ((l.length : Int))), (18, iv (((i + 1) : Int)))]) (ow := []) ?_ ?_
            · exact ⟨val_tmp rfl, val_tmp rfl, (val_eq (val_tmp rfl) (congrArg iv (by omega))), val_tmp rfl, val_tmp rfl, trivial⟩
            · exact trivial
      · have hc2s := hc2
        try simp only [Bool.and_eq_true, Bool.or_eq_true, Bool.not_eq_true', Bool.not_eq_false', Bool.or_eq_false_iff, Bool.and_eq_false_iff, decide_eq_true_eq, decide_eq_false_iff_not] at hc2s
        refine c_exit ?_
        refine c_seq ?_
        refine c_rq ?_
        refine tq_op (hd 37 (by decide)) (q_move (val_tmp rfl)) ?_
        refine tq_op (hd 4 (by decide)) (q_assign (val_tmp rfl)) ?_
        refine tq_op (hd 5 (by decide)) (q_assign val_const) ?_
        refine tq_nil ?_
        refine c_ret ?_
        exact ret2 rfl (val_tmp rfl) (val_tmp rfl) rfl rfl (by show sv2 (iv ((((l.take i).countP (kidP k) : Nat) : Int))) (iv (0)) = sv2 (iv (lenFr l k).1) (iv (lenFr l k).2); rw [len_3 hf.1 hf.2, show l.take i = l from List.take_of_length_le (by omega)])

/-- glasshouse/glasshouseref.Discarded -/
theorem rdisc_ct (l : List Fr) (k : Int) : Ct Try.prog 45 [frRow l, iv (k)] (sv2 (frRow (discardFr l k).1) (iv (discardFr l k).2)) := by
  refine ct_of Try.func45 rfl (by show 2 ≤ 39; decide) fun E hN => ?_
  have hd : ∀ d, d < 39 → d < E.N := fun d h => Nat.lt_of_lt_of_eq h hN.symm
  refine row_len (val_tmp (s := 0) rfl) fun hl0 => ?_
  refine c_seq ?_
  refine c_rq ?_
  refine tq_op (hd 4 (by decide)) (q_assign (val_nil (k := 5) (get := rowG frCell default []))) ?_
  refine tq_op (hd 5 (by decide)) (q_assign val_const) ?_
  refine tq_nil ?_
  refine c_seq ?_
  refine c_seq ?_
  refine c_rt ?_
  refine t_op (hd 10 (by decide)) (q_move (val_tmp rfl)) ?_
  refine t_op (hd 11 (by decide)) (q_move (val_tmp rfl)) ?_
  refine t_w (hd 12 (by decide)) (w_bs (n := 1) (zget := fun _ => iv 0) [(fun _ => iv (k))] (rowG inCell 0 [k]) Try.underlying24 (fun w => Try.sizeOf3 w) zero3 (by decide) rfl (by decide) ⟨⟨rfl, .inr ⟨rfl, (val_tmp rfl), rfl⟩, rfl⟩, trivial⟩ ⟨trivial, ⟨trivial, rfl⟩⟩) ?_
  refine t_call en65 (hd 13 (by decide)) (by exact ⟨⟨(val_tmp rfl), rfl⟩, ⟨(val_tmp rfl), rfl⟩, trivial⟩) (rframed_ct l ([k])) ?_
  refine t_op (hd 6 (by decide)) (q_assign (val_tmp rfl)) ?_
  refine t_nil ?_
  refine c_seq ?_
  refine c_rq ?_
  refine tq_op (hd 14 (by decide)) (q_move (val_tmp rfl)) ?_
  refine tq_op (hd 15 (by decide)) (q_neq (val_tmp rfl) val_const) ?_
  refine tq_nil ?_
  refine c_cond (val_tmp rfl) (fun hc1 => ?_) (fun hc1 => ?_)
  · have hc1s := hc1
    try simp only [Bool.and_eq_true, Bool.or_eq_true, Bool.not_eq_true', Bool.not_eq_false', Bool.or_eq_false_iff, Bool.and_eq_false_iff, decide_eq_true_eq, decide_eq_false_iff_not] at hc1s
    refine c_seq ?_
    refine c_rq ?_
    refine tq_op (hd 16 (by decide)) (q_move (val_tmp rfl)) ?_
    refine tq_op (hd 4 (by decide)) (q_assign (val_nil (k := 5) (get := rowG frCell default []))) ?_
    refine tq_op (hd 5 (by decide)) (q_assign (val_tmp rfl)) ?_
    refine tq_nil ?_
    refine c_ret ?_
    exact ret2 rfl (val_tmp rfl) (val_tmp rfl) rfl rfl (by show sv2 (frRow ([])) (iv (framedFr l ([k]))) = sv2 (frRow (discardFr l k).1) (iv (discardFr l k).2); rw [disc_err hc1s])
  · have hc1s := hc1
    try simp only [Bool.and_eq_true, Bool.or_eq_true, Bool.not_eq_true', Bool.not_eq_false', Bool.or_eq_false_iff, Bool.and_eq_false_iff, decide_eq_true_eq, decide_eq_false_iff_not] at hc1s
    have hf := framed1_0 hc1s
    have hc0 := hf.1
    have h8 := check_len hf.1
    have hB := holds_in hf.2
    refine c_skip ?_
    refine c_seq ?_
    refine c_rt ?_
    refine t_nilO 1 5 (rowG frCell default []) 47 (.inl rfl) (hd 7 (by decide)) rfl ?_
    refine t_nil ?_
    refine c_seq ?_
    refine c_seq ?_
    refine c_rq ?_
    refine tq_op (hd 17 (by decide)) (q_move (val_tmp rfl)) ?_
    refine tq_op (hd 18 (by decide)) (q_len (val_tmp rfl) ts27) ?_
    refine tq_op (hd 19 (by decide)) (q_move val_const) ?_
    refine tq_nil ?_
    refine c_block ?_
    refine c_ownE 1 (discPre l k 0) rfl (by rfl) ?_
    refine c_loop (fun (i : Nat) => (⟨[(0, frRow l), (1, iv (k)), (7, SV.own 1), (17, frRow l), (18, iv ((l.length : Int))), (19, iv ((i : Int)))], [(1, ownOf frCell 5 default (discPre l k i) 47)]⟩ : St)) (fun (i : Nat) => i ≤ l.length) (fun (i : Nat) => l.length - i) 0 ?_ ?_ ?_
    · show 0 ≤ l.length
      first | omega | (simp; done) | (refine ⟨?_, ?_⟩ <;> first | omega | (simp; done))
    · refine weakE (sl := [(0, frRow l), (1, iv (k)), (7, SV.own 1), (17, frRow l), (18, iv ((l.length : Int))), (19, iv ((0 : Int)))]) (ow := [(1, ownOf frCell 5 default (discPre l k 0) 47)]) ?_ ?_
      · exact ⟨val_tmp rfl, val_tmp rfl, val_tmp rfl, val_tmp rfl, val_tmp rfl, val_tmp rfl, trivial⟩
      · exact ⟨⟨_, rfl, rfl⟩, trivial⟩
    · rintro i hI1
      have hJ1 : i ≤ l.length := hI1
      have hpl := discPre_len l k i
      refine c_seq ?_
      refine c_rq ?_
      refine tq_op (hd 20 (by decide)) (q_lss (val_tmp rfl) (val_tmp rfl)) ?_
      refine tq_nil ?_
      refine c_seq ?_
      refine c_cond (val_tmp rfl) (fun hc2 => ?_) (fun hc2 => ?_)
      · have hc2s := hc2
        try simp only [Bool.and_eq_true, Bool.or_eq_true, Bool.not_eq_true', Bool.not_eq_false', Bool.or_eq_false_iff, Bool.and_eq_false_iff, decide_eq_true_eq, decide_eq_false_iff_not] at hc2s
        refine c_skip ?_
        refine c_seq ?_
        refine c_block ?_
        refine c_seq ?_
        refine c_rt ?_
        refine t_op (hd 21 (by decide)) (q_move (val_tmp rfl)) ?_
        refine t_op (hd 22 (by decide)) (q_idxN (i := i) (val_tmp rfl) (val_tmp rfl) ts27 te27 (by first | omega | (simp only [Bool.and_eq_true, Bool.or_eq_true, Bool.not_eq_true', Bool.not_eq_false', Bool.or_eq_false_iff, Bool.and_eq_false_iff, decide_eq_true_eq, decide_eq_false_iff_not] at *; omega))) ?_
        refine t_op (hd 23 (by decide)) (q_ldA (val_tmp rfl) Try.isAgg47 Try.sizeOf47 (by decide)) ?_
        refine t_alloc 2 (hd 9 (by decide)) zero47 rfl rfl ?_
        refine t_op (hd 8 (by decide)) (q_assign (val_tmp rfl)) ?_
        refine t_stA (val_tmp rfl) rfl (val_tmp rfl) Try.sizeOf47 ?_
        refine t_nil ?_
        refine c_seq ?_
        refine c_rt ?_
        refine t_op (hd 24 (by decide)) (q_fldB _ _ (val_tmp rfl) Try.underlying47 rfl 0 (fun w => Try.sizeOf4 w)) ?_
        refine t_op (hd 25 (by decide)) (q_ldB (val_tmp rfl) rfl Try.isAgg4 (by decide)) ?_
        refine t_op (hd 26 (by decide)) (q_move (val_tmp rfl)) ?_
        refine t_opG (g_no rfl rfl) (hd 27 (by decide)) (fun hg => q_move (val_tmp rfl)) ?_
        refine t_opG (g_no rfl rfl) (hd 28 (by decide)) (fun hg => q_move (val_tmp rfl)) ?_
        refine t_opG (g_no rfl rfl) (hd 29 (by decide)) (fun hg => q_move (val_tmp rfl)) ?_
        refine t_callG (g_no rfl rfl) en48 (hd 30 (by decide)) (fun hg => (by exact ⟨⟨(val_grd (val_tmp rfl) hg), rfl⟩, ⟨(val_grd (val_tmp rfl) hg), rfl⟩, ⟨(val_grd (val_tmp rfl) hg), rfl⟩, trivial⟩)) (fun hg => rwithin_ct (by assumption) ((i : Int)) k) ?_
        refine t_op (hd 31 (by decide)) (q_or (val_tmp rfl) (fun h => val_grd (val_tmp rfl) (notT h))) ?_
        refine t_op (hd 32 (by decide)) (q_fldB _ _ (val_tmp rfl) Try.underlying47 rfl 0 (fun w => Try.sizeOf4 w)) ?_
        refine t_st1 (val_tmp rfl) rfl (val_tmp rfl) rfl Try.sizeOf4 (by decide) ?_
        refine t_nil ?_
        refine c_rt ?_
        refine t_op (hd 33 (by decide)) (q_move (val_tmp rfl)) ?_
        refine t_op (hd 34 (by decide)) (q_ldBA (val_tmp rfl) rfl Try.isAgg47 Try.sizeOf47 (by decide)) ?_
        refine t_w (hd 35 (by decide)) (w_bs (n := 1) (zget := frCell ⟨0, 0, 0, 0, false⟩) [(fun zi => (upd (fun zi => (rowG frCell default l) i (0 + zi)) 4 (bv (((l.getD i default).gone) || (withinFr l ((i : Int)) k)))) (0 + zi))] (rowG frCell default [⟨(l.getD i default).par, (l.getD i default).org, (l.getD i default).may, (l.getD i default).turn, ((l.getD i default).gone) || (withinFr l ((i : Int)) k)⟩]) Try.underlying27 (fun w => Try.sizeOf47 w) zero47 (by decide) rfl (by decide) ⟨⟨rfl, .inl (val_tmp rfl), rfl⟩, trivial⟩ ⟨trivial, ⟨⟨⟨⟨⟨trivial, rfl⟩, rfl⟩, rfl⟩, rfl⟩, rfl⟩⟩) ?_
        refine t_app 3 (rowG frCell default ((discPre l k i) ++ ([⟨(l.getD i default).par, (l.getD i default).org, (l.getD i default).may, (l.getD i default).turn, ((l.getD i default).gone) || (withinFr l ((i : Int)) k)⟩]))) (hd 36 (by decide)) eo27 (val_tmp rfl) rfl (val_tmp rfl) rfl (len_app (discPre l k i) ([⟨(l.getD i default).par, (l.getD i default).org, (l.getD i default).may, (l.getD i default).turn, ((l.getD i default).gone) || (withinFr l ((i : Int)) k)⟩])) (by first | (simp only [maxLen, List.length_append, List.length_set, List.length_nil, List.length_cons]; omega) | (simp only [maxLen]; omega)) (by first | (simp only [List.length_append, List.length_set, List.length_nil, List.length_cons]; omega) | (omega)) (app_typed (l := (discPre l k i)) (m := ([⟨(l.getD i default).par, (l.getD i default).org, (l.getD i default).may, (l.getD i default).turn, ((l.getD i default).gone) || (withinFr l ((i : Int)) k)⟩]))) ?_
        refine t_op (hd 7 (by decide)) (q_assign (val_tmp rfl)) ?_
        refine t_nil ?_
        refine c_rq ?_
        refine tq_op (hd 37 (by decide)) (q_add (val_tmp rfl) val_const (by first | omega | (simp only [Bool.and_eq_true, Bool.or_eq_true, Bool.not_eq_true', Bool.not_eq_false', Bool.or_eq_false_iff, Bool.and_eq_false_iff, decide_eq_true_eq, decide_eq_false_iff_not] at *; omega))) ?_
        refine tq_op (hd 19 (by decide)) (q_move (val_tmp rfl)) ?_
        refine tq_nil ?_
        refine k_mv 3 1 rfl rfl ?_
        refine k_ownE 1 (discPre l k ((i + 1))) rfl (by rfl) ?_
        refine c_next (i + 1) ?_ ?_ ?_
        · show (i + 1) ≤ l.length
          first | omega | (simp; done) | (refine ⟨?_, ?_⟩ <;> first | omega | (simp; done))
        · show l.length - (i + 1) < l.length - i
          omega
        · refine weakE (sl := [(0, frRow l), (1, iv (k)), (7, SV.own 1), (17, frRow l), (18, iv ((l.length : Int))), (19, iv (((i + 1) : Int)))]) (ow := [(1, ownOf frCell 5 default (discPre l k ((i + 1))) 47)]) ?_ ?_
          · exact ⟨val_tmp rfl, val_tmp rfl, val_tmp rfl, val_tmp rfl, val_tmp rfl, val_tmp rfl, trivial⟩
          · exact ⟨⟨_, rfl, rfl⟩, trivial⟩
      · have hc2s := hc2
        try simp only [Bool.and_eq_true, Bool.or_eq_true, Bool.not_eq_true', Bool.not_eq_false', Bool.or_eq_false_iff, Bool.and_eq_false_iff, decide_eq_true_eq, decide_eq_false_iff_not] at hc2s
        refine c_exit ?_
        refine c_seq ?_
        refine c_rq ?_
        refine tq_op (hd 38 (by decide)) (q_move (val_tmp rfl)) ?_
        refine tq_op (hd 4 (by decide)) (q_assign (val_tmp rfl)) ?_
        refine tq_op (hd 5 (by decide)) (q_assign val_const) ?_
        refine tq_nil ?_
        refine c_frz 1 rfl ?_
        refine c_ret ?_
        exact ret2 rfl (val_tmp rfl) (val_tmp rfl) rfl rfl (by show sv2 (frRow (discPre l k i)) (iv (0)) = sv2 (frRow (discardFr l k).1) (iv (discardFr l k).2); rw [disc_3 hf.1 hf.2, gone_eq hf.1 ⟨hB.1, hB.2.1⟩, show i = l.length by omega])

/-- glasshouse/glasshouseref.FrameAttached -/
theorem rattach_ct (l : List Fr) (p org may : Int) : Ct Try.prog 44 [frRow l, iv (p), iv (org), iv (may)] (sv2 (frRow (attachFr l p org may).1) (iv (attachFr l p org may).2)) := by
  refine ct_of Try.func44 rfl (by show 4 ≤ 79; decide) fun E hN => ?_
  have hd : ∀ d, d < 79 → d < E.N := fun d h => Nat.lt_of_lt_of_eq h hN.symm
  refine row_len (val_tmp (s := 0) rfl) fun hl0 => ?_
  refine c_seq ?_
  refine c_rq ?_
  refine tq_op (hd 8 (by decide)) (q_assign (val_nil (k := 5) (get := rowG frCell default []))) ?_
  refine tq_op (hd 9 (by decide)) (q_assign val_const) ?_
  refine tq_nil ?_
  refine c_seq ?_
  refine c_rt ?_
  refine t_op (hd 14 (by decide)) (q_move (val_tmp rfl)) ?_
  refine t_op (hd 15 (by decide)) (q_move (val_tmp rfl)) ?_
  refine t_w (hd 16 (by decide)) (w_bs (n := 1) (zget := fun _ => iv 0) [(fun _ => iv (p))] (rowG inCell 0 [p]) Try.underlying24 (fun w => Try.sizeOf3 w) zero3 (by decide) rfl (by decide) ⟨⟨rfl, .inr ⟨rfl, (val_tmp rfl), rfl⟩, rfl⟩, trivial⟩ ⟨trivial, ⟨trivial, rfl⟩⟩) ?_
  refine t_call en65 (hd 17 (by decide)) (by exact ⟨⟨(val_tmp rfl), rfl⟩, ⟨(val_tmp rfl), rfl⟩, trivial⟩) (rframed_ct l ([p])) ?_
  refine t_op (hd 10 (by decide)) (q_assign (val_tmp rfl)) ?_
  refine t_nil ?_
  refine c_meet (fun (e0 : Int) => (⟨[(0, frRow l), (1, iv (p)), (2, iv (org)), (3, iv (may)), (10, iv (e0))], []⟩ : St)) (fun (e0 : Int) => (¬ e0 = 0 ∧ attachFr l p org may = ([], e0)) ∨ (e0 = 0 ∧ (checkFr l = 0 ∧ holdsFr l p = 0) ∧ attachBad org may = false ∧ ¬ bits .and .i64 (l.getD p.toNat default).may 4 = 0 ∧ ¬ l.length = 8)) ?_ ?_
  · refine c_block ?_
    refine c_seq ?_
    refine c_rq ?_
    refine tq_op (hd 19 (by decide)) (q_move (val_tmp rfl)) ?_
    refine tq_op (hd 20 (by decide)) (q_neq (val_tmp rfl) val_const) ?_
    refine tq_op (hd 18 (by decide)) (q_assign (val_tmp rfl)) ?_
    refine tq_nil ?_
    refine c_cond (val_tmp rfl) (fun hc1 => ?_) (fun hc1 => ?_)
    · have hc1s := hc1
      try simp only [Bool.and_eq_true, Bool.or_eq_true, Bool.not_eq_true', Bool.not_eq_false', Bool.or_eq_false_iff, Bool.and_eq_false_iff, decide_eq_true_eq, decide_eq_false_iff_not] at hc1s
      refine c_skip ?_
      refine c_hereG (T := (fun (e0 : Int) => (⟨[(0, frRow l), (1, iv (p)), (2, iv (org)), (3, iv (may)), (10, iv (e0))], []⟩ : St))) (I := (fun (e0 : Int) => (¬ e0 = 0 ∧ attachFr l p org may = ([], e0)) ∨ (e0 = 0 ∧ (checkFr l = 0 ∧ holdsFr l p = 0) ∧ attachBad org may = false ∧ ¬ bits .and .i64 (l.getD p.toNat default).may 4 = 0 ∧ ¬ l.length = 8))) (framedFr l [p]) ?_ ?_ (fun _ _ h => h)
      · show (¬ (framedFr l [p]) = 0 ∧ attachFr l p org may = ([], (framedFr l [p]))) ∨ ((framedFr l [p]) = 0 ∧ (checkFr l = 0 ∧ holdsFr l p = 0) ∧ attachBad org may = false ∧ ¬ bits .and .i64 (l.getD p.toNat default).may 4 = 0 ∧ ¬ l.length = 8)
        exact .inl ⟨hc1s, attach_err hc1s⟩
      · refine weakE (sl := [(0, frRow l), (1, iv (p)), (2, iv (org)), (3, iv (may)), (10, iv ((framedFr l [p])))]) (ow := []) ?_ ?_
        · exact ⟨val_tmp rfl, val_tmp rfl, val_tmp rfl, val_tmp rfl, val_tmp rfl, trivial⟩
        · exact trivial
    · have hc1s := hc1
      try simp only [Bool.and_eq_true, Bool.or_eq_true, Bool.not_eq_true', Bool.not_eq_false', Bool.or_eq_false_iff, Bool.and_eq_false_iff, decide_eq_true_eq, decide_eq_false_iff_not] at hc1s
      have hf0 : framedFr l [p] = 0 := by omega
      have hf := framed1_0 hf0
      have hB := holds_in hf.2
      have hpm := row_of hf.1 hB.1 hB.2.1
      refine c_seq ?_
      refine c_rq ?_
      refine tq_op (hd 22 (by decide)) (q_move (val_tmp rfl)) ?_
      refine tq_call en70 (hd 23 (by decide)) (by exact ⟨⟨(val_tmp rfl), rfl⟩, ⟨val_const, rfl⟩, ⟨val_const, rfl⟩, trivial⟩) (in_ct org 0 9) ?_
      refine tq_op (hd 24 (by decide)) (q_not (val_tmp rfl)) ?_
      refine tq_op (hd 25 (by decide)) (q_move (val_tmp rfl)) ?_
      refine tq_opG (g_no rfl rfl) (hd 26 (by decide)) (fun hg => q_move (val_tmp rfl)) ?_
      refine tq_callG (g_no rfl rfl) en70 (hd 27 (by decide)) (fun hg => (by exact ⟨⟨(val_grd (val_tmp rfl) hg), rfl⟩, ⟨val_const, rfl⟩, ⟨val_const, rfl⟩, trivial⟩)) (fun hg => in_ct may 0 7) ?_
      refine tq_opG (g_no rfl rfl) (hd 28 (by decide)) (fun hg => q_not (val_grd (val_tmp rfl) hg)) ?_
      refine tq_op (hd 29 (by decide)) (q_or (val_tmp rfl) (fun h => val_grd (val_tmp rfl) (notT h))) ?_
      refine tq_op (hd 21 (by decide)) (q_assign (val_tmp rfl)) ?_
      refine tq_nil ?_
      refine c_cond (val_tmp rfl) (fun hc2 => ?_) (fun hc2 => ?_)
      · have hc2s := hc2
        try simp only [Bool.and_eq_true, Bool.or_eq_true, Bool.not_eq_true', Bool.not_eq_false', Bool.or_eq_false_iff, Bool.and_eq_false_iff, decide_eq_true_eq, decide_eq_false_iff_not] at hc2s
        rw [← bad_ref] at hc2
        refine c_rq ?_
        refine tq_op (hd 10 (by decide)) (q_assign val_const) ?_
        refine tq_nil ?_
        refine c_hereG (T := (fun (e0 : Int) => (⟨[(0, frRow l), (1, iv (p)), (2, iv (org)), (3, iv (may)), (10, iv (e0))], []⟩ : St))) (I := (fun (e0 : Int) => (¬ e0 = 0 ∧ attachFr l p org may = ([], e0)) ∨ (e0 = 0 ∧ (checkFr l = 0 ∧ holdsFr l p = 0) ∧ attachBad org may = false ∧ ¬ bits .and .i64 (l.getD p.toNat default).may 4 = 0 ∧ ¬ l.length = 8))) (2) ?_ ?_ (fun _ _ h => h)
        · show (¬ 2 = 0 ∧ attachFr l p org may = ([], 2)) ∨ (2 = 0 ∧ (checkFr l = 0 ∧ holdsFr l p = 0) ∧ attachBad org may = false ∧ ¬ bits .and .i64 (l.getD p.toNat default).may 4 = 0 ∧ ¬ l.length = 8)
          exact .inl ⟨by decide, attach_3 hf.1 hf.2 hc2⟩
        · refine weakE (sl := [(0, frRow l), (1, iv (p)), (2, iv (org)), (3, iv (may)), (10, iv (2))]) (ow := []) ?_ ?_
          · exact ⟨val_tmp rfl, val_tmp rfl, val_tmp rfl, val_tmp rfl, val_tmp rfl, trivial⟩
          · exact trivial
      · have hc2s := hc2
        try simp only [Bool.and_eq_true, Bool.or_eq_true, Bool.not_eq_true', Bool.not_eq_false', Bool.or_eq_false_iff, Bool.and_eq_false_iff, decide_eq_true_eq, decide_eq_false_iff_not] at hc2s
        have hbad := bad_ref.trans hc2
        refine c_seq ?_
        refine c_rq ?_
        refine tq_op (hd 31 (by decide)) (q_move (val_tmp rfl)) ?_
        refine tq_op (hd 32 (by decide)) (q_move (val_tmp rfl)) ?_
        refine tq_op (hd 33 (by decide)) (q_idx (val_tmp rfl) (val_tmp rfl) ts27 te27 (by first | omega | (simp only [Bool.and_eq_true, Bool.or_eq_true, Bool.not_eq_true', Bool.not_eq_false', Bool.or_eq_false_iff, Bool.and_eq_false_iff, decide_eq_true_eq, decide_eq_false_iff_not] at *; omega)) (by first | omega | (simp only [Bool.and_eq_true, Bool.or_eq_true, Bool.not_eq_true', Bool.not_eq_false', Bool.or_eq_false_iff, Bool.and_eq_false_iff, decide_eq_true_eq, decide_eq_false_iff_not] at *; omega))) ?_
        refine tq_op (hd 34 (by decide)) (q_fld _ _ (val_tmp rfl) Try.underlying47 rfl 0 (fun w => Try.sizeOf3 w)) ?_
        refine tq_op (hd 35 (by decide)) (q_ld (val_tmp rfl) Try.isAgg3 (by decide)) ?_
        refine tq_op (hd 36 (by decide)) (q_lss (val_tmp rfl) val_const) ?_
        refine tq_op (hd 30 (by decide)) (q_assign (val_tmp rfl)) ?_
        refine tq_nil ?_
        refine c_cond (val_tmp rfl) (fun hc3 => ?_) (fun hc3 => ?_)
        · have hc3s := hc3
          try simp only [Bool.and_eq_true, Bool.or_eq_true, Bool.not_eq_true', Bool.not_eq_false', Bool.or_eq_false_iff, Bool.and_eq_false_iff, decide_eq_true_eq, decide_eq_false_iff_not] at hc3s
          refine c_rq ?_
          refine tq_op (hd 10 (by decide)) (q_assign val_const) ?_
          refine tq_nil ?_
          refine c_hereG (T := (fun (e0 : Int) => (⟨[(0, frRow l), (1, iv (p)), (2, iv (org)), (3, iv (may)), (10, iv (e0))], []⟩ : St))) (I := (fun (e0 : Int) => (¬ e0 = 0 ∧ attachFr l p org may = ([], e0)) ∨ (e0 = 0 ∧ (checkFr l = 0 ∧ holdsFr l p = 0) ∧ attachBad org may = false ∧ ¬ bits .and .i64 (l.getD p.toNat default).may 4 = 0 ∧ ¬ l.length = 8))) (7) ?_ ?_ (fun _ _ h => h)
          · show (¬ 7 = 0 ∧ attachFr l p org may = ([], 7)) ∨ (7 = 0 ∧ (checkFr l = 0 ∧ holdsFr l p = 0) ∧ attachBad org may = false ∧ ¬ bits .and .i64 (l.getD p.toNat default).may 4 = 0 ∧ ¬ l.length = 8)
            exact .inl ⟨by decide, attach_4 hf.1 hf.2 hbad ((nest_and hpm).1 hc3s)⟩
          · refine weakE (sl := [(0, frRow l), (1, iv (p)), (2, iv (org)), (3, iv (may)), (10, iv (7))]) (ow := []) ?_ ?_
            · exact ⟨val_tmp rfl, val_tmp rfl, val_tmp rfl, val_tmp rfl, val_tmp rfl, trivial⟩
            · exact trivial
        · have hc3s := hc3
          try simp only [Bool.and_eq_true, Bool.or_eq_true, Bool.not_eq_true', Bool.not_eq_false', Bool.or_eq_false_iff, Bool.and_eq_false_iff, decide_eq_true_eq, decide_eq_false_iff_not] at hc3s
          refine c_seq ?_
          refine c_rq ?_
          refine tq_op (hd 38 (by decide)) (q_move (val_tmp rfl)) ?_
          refine tq_op (hd 39 (by decide)) (q_len (val_tmp rfl) ts27) ?_
          refine tq_op (hd 40 (by decide)) (q_eql (val_tmp rfl) val_const) ?_
          refine tq_op (hd 37 (by decide)) (q_assign (val_tmp rfl)) ?_
          refine tq_nil ?_
          refine c_cond (val_tmp rfl) (fun hc4 => ?_) (fun hc4 => ?_)
          · have hc4s := hc4
            try simp only [Bool.and_eq_true, Bool.or_eq_true, Bool.not_eq_true', Bool.not_eq_false', Bool.or_eq_false_iff, Bool.and_eq_false_iff, decide_eq_true_eq, decide_eq_false_iff_not] at hc4s
            refine c_rq ?_
            refine tq_op (hd 10 (by decide)) (q_assign val_const) ?_
            refine tq_nil ?_
            refine c_hereG (T := (fun (e0 : Int) => (⟨[(0, frRow l), (1, iv (p)), (2, iv (org)), (3, iv (may)), (10, iv (e0))], []⟩ : St))) (I := (fun (e0 : Int) => (¬ e0 = 0 ∧ attachFr l p org may = ([], e0)) ∨ (e0 = 0 ∧ (checkFr l = 0 ∧ holdsFr l p = 0) ∧ attachBad org may = false ∧ ¬ bits .and .i64 (l.getD p.toNat default).may 4 = 0 ∧ ¬ l.length = 8))) (1) ?_ ?_ (fun _ _ h => h)
            · show (¬ 1 = 0 ∧ attachFr l p org may = ([], 1)) ∨ (1 = 0 ∧ (checkFr l = 0 ∧ holdsFr l p = 0) ∧ attachBad org may = false ∧ ¬ bits .and .i64 (l.getD p.toNat default).may 4 = 0 ∧ ¬ l.length = 8)
              exact .inl ⟨by decide, attach_5 hf.1 hf.2 hbad (fun h => hc3s ((nest_and hpm).2 h)) (by omega)⟩
            · refine weakE (sl := [(0, frRow l), (1, iv (p)), (2, iv (org)), (3, iv (may)), (10, iv (1))]) (ow := []) ?_ ?_
              · exact ⟨val_tmp rfl, val_tmp rfl, val_tmp rfl, val_tmp rfl, val_tmp rfl, trivial⟩
              · exact trivial
          · have hc4s := hc4
            try simp only [Bool.and_eq_true, Bool.or_eq_true, Bool.not_eq_true', Bool.not_eq_false', Bool.or_eq_false_iff, Bool.and_eq_false_iff, decide_eq_true_eq, decide_eq_false_iff_not] at hc4s
            refine c_skip ?_
            refine c_hereG (T := (fun (e0 : Int) => (⟨[(0, frRow l), (1, iv (p)), (2, iv (org)), (3, iv (may)), (10, iv (e0))], []⟩ : St))) (I := (fun (e0 : Int) => (¬ e0 = 0 ∧ attachFr l p org may = ([], e0)) ∨ (e0 = 0 ∧ (checkFr l = 0 ∧ holdsFr l p = 0) ∧ attachBad org may = false ∧ ¬ bits .and .i64 (l.getD p.toNat default).may 4 = 0 ∧ ¬ l.length = 8))) (framedFr l [p]) ?_ ?_ (fun _ _ h => h)
            · show (¬ (framedFr l [p]) = 0 ∧ attachFr l p org may = ([], (framedFr l [p]))) ∨ ((framedFr l [p]) = 0 ∧ (checkFr l = 0 ∧ holdsFr l p = 0) ∧ attachBad org may = false ∧ ¬ bits .and .i64 (l.getD p.toNat default).may 4 = 0 ∧ ¬ l.length = 8)
              exact .inr ⟨hf0, hf, hbad, fun h => hc3s ((nest_and hpm).2 h), by omega⟩
            · refine weakE (sl := [(0, frRow l), (1, iv (p)), (2, iv (org)), (3, iv (may)), (10, iv ((framedFr l [p])))]) (ow := []) ?_ ?_
              · exact ⟨val_tmp rfl, val_tmp rfl, val_tmp rfl, val_tmp rfl, val_tmp rfl, trivial⟩
              · exact trivial
  · rintro e0 hM
    have hM' : (¬ e0 = 0 ∧ attachFr l p org may = ([], e0)) ∨ (e0 = 0 ∧ (checkFr l = 0 ∧ holdsFr l p = 0) ∧ attachBad org may = false ∧ ¬ bits .and .i64 (l.getD p.toNat default).may 4 = 0 ∧ ¬ l.length = 8) := hM
    refine c_seq ?_
    refine c_seq ?_
    refine c_rq ?_
    refine tq_op (hd 41 (by decide)) (q_move (val_tmp rfl)) ?_
    refine tq_op (hd 42 (by decide)) (q_neq (val_tmp rfl) val_const) ?_
    refine tq_nil ?_
    refine c_cond (val_tmp rfl) (fun hc5 => ?_) (fun hc5 => ?_)
    · have hc5s := hc5
      try simp only [Bool.and_eq_true, Bool.or_eq_true, Bool.not_eq_true', Bool.not_eq_false', Bool.or_eq_false_iff, Bool.and_eq_false_iff, decide_eq_true_eq, decide_eq_false_iff_not] at hc5s
      have hM1 : attachFr l p org may = ([], e0) := hM.resolve_right (fun h => hc5s h.1) |>.2
      refine c_seq ?_
      refine c_rq ?_
      refine tq_op (hd 43 (by decide)) (q_move (val_tmp rfl)) ?_
      refine tq_op (hd 8 (by decide)) (q_assign (val_nil (k := 5) (get := rowG frCell default []))) ?_
      refine tq_op (hd 9 (by decide)) (q_assign (val_tmp rfl)) ?_
      refine tq_nil ?_
      refine c_ret ?_
      exact ret2 rfl (val_tmp rfl) (val_tmp rfl) rfl rfl (by show sv2 (frRow ([])) (iv (e0)) = sv2 (frRow (attachFr l p org may).1) (iv (attachFr l p org may).2); rw [hM1])
    · have hc5s := hc5
      try simp only [Bool.and_eq_true, Bool.or_eq_true, Bool.not_eq_true', Bool.not_eq_false', Bool.or_eq_false_iff, Bool.and_eq_false_iff, decide_eq_true_eq, decide_eq_false_iff_not] at hc5s
      obtain ⟨he0, hf, hbad, h4, h8n⟩ := hM.resolve_left (fun h => h.1 hc5s)
      have h8 := check_len hf.1
      have hB := holds_in hf.2
      have hpm := row_of hf.1 hB.1 hB.2.1
      have hb2 := hbad
      simp only [attachBad, Bool.or_eq_false_iff, decide_eq_false_iff_not] at hb2
      have hr4 : 0 ≤ org ∧ org ≤ 9 ∧ 0 ≤ may ∧ may ≤ 7 := by omega
      refine c_skip ?_
      refine c_seq ?_
      refine c_rt ?_
      refine t_op (hd 44 (by decide)) (q_move (val_tmp rfl)) ?_
      refine t_op (hd 45 (by decide)) (q_move (val_tmp rfl)) ?_
      refine t_op (hd 46 (by decide)) (q_build [(0, iv (p)), (1, iv (org))] id (frCell ⟨p, org, 0, 0, false⟩) zero47 build47 (by exact ⟨⟨rfl, (val_tmp rfl), rfl⟩, ⟨rfl, (val_tmp rfl), rfl⟩, trivial⟩) (by decide) ⟨⟨⟨⟨⟨trivial, rfl⟩, rfl⟩, rfl⟩, rfl⟩, rfl⟩) ?_
      refine t_alloc 1 (hd 11 (by decide)) zero47 rfl rfl ?_
      refine t_stA (val_tmp rfl) rfl (val_tmp rfl) Try.sizeOf47 ?_
      refine t_nil ?_
      refine c_seq ?_
      refine c_seq ?_
      refine c_rt ?_
      refine t_w (hd 47 (by decide)) (w_bs (n := 3) (zget := fun _ => iv 0) [(fun _ => iv (1)), (fun _ => iv (2)), (fun _ => iv (4))] (rowG inCell 0 [1, 2, 4]) Try.underlying24 (fun w => Try.sizeOf3 w) zero3 (by decide) rfl (by decide) ⟨⟨rfl, .inr ⟨rfl, val_const, rfl⟩, rfl⟩, ⟨rfl, .inr ⟨rfl, val_const, rfl⟩, rfl⟩, ⟨rfl, .inr ⟨rfl, val_const, rfl⟩, rfl⟩, trivial⟩ ⟨⟨⟨trivial, ⟨trivial, rfl⟩⟩, ⟨trivial, rfl⟩⟩, ⟨trivial, rfl⟩⟩) ?_
      refine t_op (hd 48 (by decide)) (q_len (val_tmp rfl) ts24) ?_
      refine t_op (hd 49 (by decide)) (q_move val_const) ?_
      refine t_nil ?_
      refine c_block ?_
      refine c_loop (fun (i : Nat) => (⟨[(0, frRow l), (1, iv (p)), (3, iv (may)), (11, SV.bp 1 0), (47, inRow ([1, 2, 4])), (48, iv ((([1, 2, 4]).length : Int))), (49, iv ((i : Int)))], [(1, Own.box 5 (frCell ⟨p, org, sumBits may (l.getD p.toNat default).may i, 0, false⟩) 47)]⟩ : St)) (fun (i : Nat) => i ≤ 3 ∧ 0 ≤ sumBits may (l.getD p.toNat default).may i ∧ sumBits may (l.getD p.toNat default).may i ≤ 7) (fun (i : Nat) => 3 - i) 0 ?_ ?_ ?_
      · show 0 ≤ 3 ∧ 0 ≤ sumBits may (l.getD p.toNat default).may 0 ∧ sumBits may (l.getD p.toNat default).may 0 ≤ 7
        exact ⟨by omega, Int.le_refl 0, by simp [sumBits]⟩
      · refine weakE (sl := [(0, frRow l), (1, iv (p)), (3, iv (may)), (11, SV.bp 1 0), (47, inRow ([1, 2, 4])), (48, iv ((([1, 2, 4]).length : Int))), (49, iv ((0 : Int)))]) (ow := [(1, Own.box 5 (frCell ⟨p, org, sumBits may (l.getD p.toNat default).may 0, 0, false⟩) 47)]) ?_ ?_
        · exact ⟨val_tmp rfl, val_tmp rfl, val_tmp rfl, val_tmp rfl, val_tmp rfl, val_tmp rfl, val_tmp rfl, trivial⟩
        · exact ⟨⟨_, rfl, ⟨rfl, rfl, ⟨⟨⟨⟨⟨trivial, rfl⟩, rfl⟩, rfl⟩, rfl⟩, rfl⟩⟩⟩, trivial⟩
      · rintro i hI1
        have hJ1 : i ≤ 3 ∧ 0 ≤ sumBits may (l.getD p.toNat default).may i ∧ sumBits may (l.getD p.toNat default).may i ≤ 7 := hI1
        have hi3 := hJ1.1
        have hb := hJ1.2
        have hE := sum_and ⟨hr4.2.2.1, hr4.2.2.2⟩ hpm
        have hl3 := lit3 i
        refine c_seq ?_
        refine c_rq ?_
        refine tq_op (hd 50 (by decide)) (q_lss (val_tmp rfl) (val_tmp rfl)) ?_
        refine tq_nil ?_
        refine c_seq ?_
        refine c_cond (val_tmp rfl) (fun hc6 => ?_) (fun hc6 => ?_)
        · have hc6s := hc6
          try simp only [Bool.and_eq_true, Bool.or_eq_true, Bool.not_eq_true', Bool.not_eq_false', Bool.or_eq_false_iff, Bool.and_eq_false_iff, decide_eq_true_eq, decide_eq_false_iff_not] at hc6s
          refine c_skip ?_
          refine c_seq ?_
          refine c_block ?_
          refine c_seq ?_
          refine c_rq ?_
          refine tq_op (hd 51 (by decide)) (q_idxN (i := i) (val_tmp rfl) (val_tmp rfl) ts24 te24 (by first | omega | (simp only [Bool.and_eq_true, Bool.or_eq_true, Bool.not_eq_true', Bool.not_eq_false', Bool.or_eq_false_iff, Bool.and_eq_false_iff, decide_eq_true_eq, decide_eq_false_iff_not] at *; omega))) ?_
          refine tq_op (hd 52 (by decide)) (q_ld (val_tmp rfl) Try.isAgg3 (by decide)) ?_
          refine tq_op (hd 13 (by decide)) (q_assign (val_tmp rfl)) ?_
          refine tq_nil ?_
          refine c_seq ?_
          refine c_rq ?_
          refine tq_op (hd 53 (by decide)) (q_move (val_tmp rfl)) ?_
          refine tq_op (hd 54 (by decide)) (q_move (val_tmp rfl)) ?_
          refine tq_op (hd 55 (by decide)) (q_and64 (val_tmp rfl) (val_tmp rfl)) ?_
          refine tq_op (hd 56 (by decide)) (q_gtr (val_tmp rfl) val_const) ?_
          refine tq_op (hd 57 (by decide)) (q_move (val_tmp rfl)) ?_
          refine tq_opG (g_yes rfl rfl) (hd 58 (by decide)) (fun hg => q_move (val_tmp rfl)) ?_
          refine tq_opG (g_yes rfl rfl) (hd 59 (by decide)) (fun hg => q_move (val_tmp rfl)) ?_
          refine tq_opG (g_yes rfl rfl) (hd 60 (by decide)) (fun hg => q_idx (val_grd (val_tmp rfl) hg) (val_grd (val_tmp rfl) hg) ts27 te27 (by first | omega | (simp only [Bool.and_eq_true, Bool.or_eq_true, Bool.not_eq_true', Bool.not_eq_false', Bool.or_eq_false_iff, Bool.and_eq_false_iff, decide_eq_true_eq, decide_eq_false_iff_not] at *; omega)) (by first | omega | (simp only [Bool.and_eq_true, Bool.or_eq_true, Bool.not_eq_true', Bool.not_eq_false', Bool.or_eq_false_iff, Bool.and_eq_false_iff, decide_eq_true_eq, decide_eq_false_iff_not] at *; omega))) ?_
          refine tq_opG (g_yes rfl rfl) (hd 61 (by decide)) (fun hg => q_fld _ _ (val_grd (val_tmp rfl) hg) Try.underlying47 rfl 0 (fun w => Try.sizeOf3 w)) ?_
          refine tq_opG (g_yes rfl rfl) (hd 62 (by decide)) (fun hg => q_ld (val_grd (val_tmp rfl) hg) Try.isAgg3 (by decide)) ?_
          refine tq_opG (g_yes rfl rfl) (hd 63 (by decide)) (fun hg => q_move (val_tmp rfl)) ?_
          refine tq_opG (g_yes rfl rfl) (hd 64 (by decide)) (fun hg => q_and64 (val_grd (val_tmp rfl) hg) (val_grd (val_tmp rfl) hg)) ?_
          refine tq_opG (g_yes rfl rfl) (hd 65 (by decide)) (fun hg => q_gtr (val_grd (val_tmp rfl) hg) val_const) ?_
          refine tq_op (hd 66 (by decide)) (q_and (val_tmp rfl) (fun h => val_grd (val_tmp rfl) h)) ?_
          refine tq_nil ?_
          refine c_cond (val_tmp rfl) (fun hc7 => ?_) (fun hc7 => ?_)
          · have hc7s := hc7
            try simp only [Bool.and_eq_true, Bool.or_eq_true, Bool.not_eq_true', Bool.not_eq_false', Bool.or_eq_false_iff, Bool.and_eq_false_iff, decide_eq_true_eq, decide_eq_false_iff_not] at hc7s
            refine c_rt ?_
            refine t_op (hd 67 (by decide)) (q_fldB _ _ (val_tmp rfl) Try.underlying47 rfl 0 (fun w => Try.sizeOf3 w)) ?_
            refine t_op (hd 68 (by decide)) (q_ldB (val_tmp rfl) rfl Try.isAgg3 (by decide)) ?_
            refine t_op (hd 69 (by decide)) (q_move (val_tmp rfl)) ?_
            refine t_op (hd 70 (by decide)) (q_add (val_tmp rfl) (val_tmp rfl) (by first | omega | (simp only [Bool.and_eq_true, Bool.or_eq_true, Bool.not_eq_true', Bool.not_eq_false', Bool.or_eq_false_iff, Bool.and_eq_false_iff, decide_eq_true_eq, decide_eq_false_iff_not] at *; omega))) ?_
            refine t_op (hd 71 (by decide)) (q_fldB _ _ (val_tmp rfl) Try.underlying47 rfl 0 (fun w => Try.sizeOf3 w)) ?_
            refine t_st1 (val_tmp rfl) rfl (val_tmp rfl) rfl Try.sizeOf3 (by decide) ?_
            refine t_nil ?_
            refine c_rq ?_
            refine tq_op (hd 72 (by decide)) (q_add (val_tmp rfl) val_const (by first | omega | (simp only [Bool.and_eq_true, Bool.or_eq_true, Bool.not_eq_true', Bool.not_eq_false', Bool.or_eq_false_iff, Bool.and_eq_false_iff, decide_eq_true_eq, decide_eq_false_iff_not] at *; omega))) ?_
            refine tq_op (hd 49 (by decide)) (q_move (val_tmp rfl)) ?_
            refine tq_nil ?_
            have hS := sum_s (m := may) (p := (l.getD p.toNat default).may) (i := i) (by simp only [List.length_cons, List.length_nil] at hc6s; omega)
            rw [if_pos hc7s] at hS
            refine c_next (i + 1) ?_ ?_ ?_
            · show (i + 1) ≤ 3 ∧ 0 ≤ sumBits may (l.getD p.toNat default).may (i + 1) ∧ sumBits may (l.getD p.toNat default).may (i + 1) ≤ 7
              exact sum_b (by simp only [List.length_cons, List.length_nil] at hc6s; omega) (by omega) (by omega)
            · show 3 - (i + 1) < 3 - i
              simp only [List.length_cons, List.length_nil] at hc6s; omega
            · refine weakE (sl := [(0, frRow l), (1, iv (p)), (3, iv (may)), (11, SV.bp 1 0), (47, inRow ([1, 2, 4])), (48, iv ((([1, 2, 4]).length : Int))), (49, iv (((i + 1) : Int)))]) (ow := [(1, Own.box 5 (frCell ⟨p, org, sumBits may (l.getD p.toNat default).may ((i + 1)), 0, false⟩) 47)]) ?_ ?_
              · exact ⟨val_tmp rfl, val_tmp rfl, val_tmp rfl, val_tmp rfl, val_tmp rfl, val_tmp rfl, val_tmp rfl, trivial⟩
              · exact ⟨⟨_, rfl, ⟨rfl, rfl, ⟨⟨⟨⟨⟨trivial, rfl⟩, rfl⟩, (congrArg iv hS.symm)⟩, rfl⟩, rfl⟩⟩⟩, trivial⟩
          · have hc7s := hc7
            try simp only [Bool.and_eq_true, Bool.or_eq_true, Bool.not_eq_true', Bool.not_eq_false', Bool.or_eq_false_iff, Bool.and_eq_false_iff, decide_eq_true_eq, decide_eq_false_iff_not] at hc7s
            refine c_skip ?_
            refine c_rq ?_
            refine tq_op (hd 72 (by decide)) (q_add (val_tmp rfl) val_const (by first | omega | (simp only [Bool.and_eq_true, Bool.or_eq_true, Bool.not_eq_true', Bool.not_eq_false', Bool.or_eq_false_iff, Bool.and_eq_false_iff, decide_eq_true_eq, decide_eq_false_iff_not] at *; omega))) ?_
            refine tq_op (hd 49 (by decide)) (q_move (val_tmp rfl)) ?_
            refine tq_nil ?_
            have hS := sum_s (m := may) (p := (l.getD p.toNat default).may) (i := i) (by simp only [List.length_cons, List.length_nil] at hc6s; omega)
            rw [if_neg (fun h => by simp only [Bool.and_eq_false_iff, decide_eq_false_iff_not] at hc7; rcases hc7 with h7 | h7 <;> omega)] at hS
            refine c_next (i + 1) ?_ ?_ ?_
            · show (i + 1) ≤ 3 ∧ 0 ≤ sumBits may (l.getD p.toNat default).may (i + 1) ∧ sumBits may (l.getD p.toNat default).may (i + 1) ≤ 7
              exact sum_b (by simp only [List.length_cons, List.length_nil] at hc6s; omega) (by omega) (by omega)
            · show 3 - (i + 1) < 3 - i
              simp only [List.length_cons, List.length_nil] at hc6s; omega
            · refine weakE (sl := [(0, frRow l), (1, iv (p)), (3, iv (may)), (11, SV.bp 1 0), (47, inRow ([1, 2, 4])), (48, iv ((([1, 2, 4]).length : Int))), (49, iv (((i + 1) : Int)))]) (ow := [(1, Own.box 5 (frCell ⟨p, org, sumBits may (l.getD p.toNat default).may ((i + 1)), 0, false⟩) 47)]) ?_ ?_
              · exact ⟨val_tmp rfl, val_tmp rfl, val_tmp rfl, val_tmp rfl, val_tmp rfl, val_tmp rfl, val_tmp rfl, trivial⟩
              · exact ⟨⟨_, rfl, ⟨rfl, rfl, ⟨⟨⟨⟨⟨trivial, rfl⟩, rfl⟩, (congrArg iv hS.symm)⟩, rfl⟩, rfl⟩⟩⟩, trivial⟩
        · have hc6s := hc6
          try simp only [Bool.and_eq_true, Bool.or_eq_true, Bool.not_eq_true', Bool.not_eq_false', Bool.or_eq_false_iff, Bool.and_eq_false_iff, decide_eq_true_eq, decide_eq_false_iff_not] at hc6s
          refine c_exit ?_
          refine c_seq ?_
          refine c_rd (fun e => ⟨[(73, cj (e 0) (cjn (e 2) (SV.own 2))), (74, cj (e 1) (frRow l)), (75, cj (e 2) (cjn (e 5) (SV.own 3))), (76, cj (e 3) (SV.agg 5 (fun zi => (frCell ⟨p, org, sumBits may (l.getD p.toNat default).may i, 0, false⟩) (0 + zi)))), (77, cj (e 4) (frRow ([⟨p, org, sumBits may (l.getD p.toNat default).may i, 0, false⟩]))), (78, cj (e 5) (SV.own 4)), (8, cj (e 6) (SV.own 4)), (9, cj (e 7) (iv (0))), (0, frRow l), (11, SV.bp 1 0)], (cb (e 0) (cb (e 2) (cb (e 5) [(1, Own.box 5 (frCell ⟨p, org, sumBits may (l.getD p.toNat default).may i, 0, false⟩) 47), (4, ownOf frCell 5 default ((([]) ++ l) ++ ([⟨p, org, sumBits may (l.getD p.toNat default).may i, 0, false⟩])) 47)] [(1, Own.box 5 (frCell ⟨p, org, sumBits may (l.getD p.toNat default).may i, 0, false⟩) 47), (3, ownOf frCell 5 default (([]) ++ l) 47)]) (cb (e 5) [] [(1, Own.box 5 (frCell ⟨p, org, sumBits may (l.getD p.toNat default).may i, 0, false⟩) 47), (2, ownOf frCell 5 default ([]) 47)])) (cb (e 2) (cb (e 5) [] []) (cb (e 5) [] [(1, Own.box 5 (frCell ⟨p, org, sumBits may (l.getD p.toNat default).may i, 0, false⟩) 47)])))⟩) ⟨[(74, frRow l), (76, SV.agg 5 (fun zi => (frCell ⟨p, org, sumBits may (l.getD p.toNat default).may i, 0, false⟩) (0 + zi))), (77, frRow ([⟨p, org, sumBits may (l.getD p.toNat default).may i, 0, false⟩])), (78, SV.own 4), (8, SV.own 4), (9, iv (0)), (0, frRow l), (11, SV.bp 1 0)], [(1, Own.box 5 (frCell ⟨p, org, sumBits may (l.getD p.toNat default).may i, 0, false⟩) 47), (4, ownOf frCell 5 default ((([]) ++ l) ++ ([⟨p, org, sumBits may (l.getD p.toNat default).may i, 0, false⟩])) 47)]⟩ (by kernel_rfl) (by kernel_rfl) ?_ ⟨?_, ?_, ?_, ?_, ?_, ?_, ?_, ?_, trivial⟩ ?_ ?_
          · show Weak _ _ ⟨[(73, SV.junk), (74, SV.junk), (75, SV.junk), (76, SV.junk), (77, SV.junk), (78, SV.junk), (8, SV.junk), (9, SV.junk), (0, frRow l), (11, SV.bp 1 0)], [(1, Own.box 5 (frCell ⟨p, org, sumBits may (l.getD p.toNat default).may i, 0, false⟩) 47)]⟩
            refine weakE ?_ ?_
            · exact ⟨val_junk, val_junk, val_junk, val_junk, val_junk, val_junk, val_junk, val_junk, val_tmp rfl, val_tmp rfl, trivial⟩
            · exact ⟨⟨_, rfl, ⟨rfl, rfl, ⟨⟨⟨⟨⟨trivial, rfl⟩, rfl⟩, rfl⟩, rfl⟩, rfl⟩⟩⟩, trivial⟩
          · intro e hdn he hdp
            have h2 : e 2 = false := fls he fun q => by obtain ⟨r0, -, -⟩ := (show e 0 = true ∧ e 1 = true ∧ True from hdn 2 q); exact r0
            have h5 : e 5 = false := fls he fun q => by obtain ⟨r2, -, -, -⟩ := (show e 2 = true ∧ e 4 = true ∧ e 2 = true ∧ True from hdn 5 q); obtain ⟨r0, -, -⟩ := (show e 0 = true ∧ e 1 = true ∧ True from hdn 2 r2); exact r0
            have h6 : e 6 = false := fls he fun q => by obtain ⟨r5, -, -, -, -, -, -, -, -⟩ := (show e 5 = true ∧ e 5 = true ∧ e 0 = true ∧ e 1 = true ∧ e 2 = true ∧ e 3 = true ∧ e 4 = true ∧ e 5 = true ∧ True from hdn 6 q); obtain ⟨r2, -, -, -⟩ := (show e 2 = true ∧ e 4 = true ∧ e 2 = true ∧ True from hdn 5 r5); obtain ⟨r0, -, -⟩ := (show e 0 = true ∧ e 1 = true ∧ True from hdn 2 r2); exact r0
            show T _ _ _ _ ⟨[(73, cj (e 0) (cjn (e 2) (SV.own 2))), (74, cj (e 1) (frRow l)), (75, cj (e 2) (cjn (e 5) (SV.own 3))), (76, cj (e 3) (SV.agg 5 (fun zi => (frCell ⟨p, org, sumBits may (l.getD p.toNat default).may i, 0, false⟩) (0 + zi)))), (77, cj (e 4) (frRow ([⟨p, org, sumBits may (l.getD p.toNat default).may i, 0, false⟩]))), (78, cj (e 5) (SV.own 4)), (8, cj (e 6) (SV.own 4)), (9, cj (e 7) (iv (0))), (0, frRow l), (11, SV.bp 1 0)], (cb (e 0) (cb (e 2) (cb (e 5) [(1, Own.box 5 (frCell ⟨p, org, sumBits may (l.getD p.toNat default).may i, 0, false⟩) 47), (4, ownOf frCell 5 default ((([]) ++ l) ++ ([⟨p, org, sumBits may (l.getD p.toNat default).may i, 0, false⟩])) 47)] [(1, Own.box 5 (frCell ⟨p, org, sumBits may (l.getD p.toNat default).may i, 0, false⟩) 47), (3, ownOf frCell 5 default (([]) ++ l) 47)]) (cb (e 5) [] [(1, Own.box 5 (frCell ⟨p, org, sumBits may (l.getD p.toNat default).may i, 0, false⟩) 47), (2, ownOf frCell 5 default ([]) 47)])) (cb (e 2) (cb (e 5) [] []) (cb (e 5) [] [(1, Own.box 5 (frCell ⟨p, org, sumBits may (l.getD p.toNat default).may i, 0, false⟩) 47)])))⟩ (fun S' => Weak _ S' ⟨[(73, cj (true) (cjn (e 2) (SV.own 2))), (74, cj (e 1) (frRow l)), (75, cj (e 2) (cjn (e 5) (SV.own 3))), (76, cj (e 3) (SV.agg 5 (fun zi => (frCell ⟨p, org, sumBits may (l.getD p.toNat default).may i, 0, false⟩) (0 + zi)))), (77, cj (e 4) (frRow ([⟨p, org, sumBits may (l.getD p.toNat default).may i, 0, false⟩]))), (78, cj (e 5) (SV.own 4)), (8, cj (e 6) (SV.own 4)), (9, cj (e 7) (iv (0))), (0, frRow l), (11, SV.bp 1 0)], (cb (true) (cb (e 2) (cb (e 5) [(1, Own.box 5 (frCell ⟨p, org, sumBits may (l.getD p.toNat default).may i, 0, false⟩) 47), (4, ownOf frCell 5 default ((([]) ++ l) ++ ([⟨p, org, sumBits may (l.getD p.toNat default).may i, 0, false⟩])) 47)] [(1, Own.box 5 (frCell ⟨p, org, sumBits may (l.getD p.toNat default).may i, 0, false⟩) 47), (3, ownOf frCell 5 default (([]) ++ l) 47)]) (cb (e 5) [] [(1, Own.box 5 (frCell ⟨p, org, sumBits may (l.getD p.toNat default).may i, 0, false⟩) 47), (2, ownOf frCell 5 default ([]) 47)])) (cb (e 2) (cb (e 5) [] []) (cb (e 5) [] [(1, Own.box 5 (frCell ⟨p, org, sumBits may (l.getD p.toNat default).may i, 0, false⟩) 47)])))⟩)
            simp only [he, h2, h5, h6]
            show T _ _ _ _ ⟨[(73, SV.junk), (74, cj (e 1) (frRow l)), (75, SV.junk), (76, cj (e 3) (SV.agg 5 (fun zi => (frCell ⟨p, org, sumBits may (l.getD p.toNat default).may i, 0, false⟩) (0 + zi)))), (77, cj (e 4) (frRow ([⟨p, org, sumBits may (l.getD p.toNat default).may i, 0, false⟩]))), (78, SV.junk), (8, SV.junk), (9, cj (e 7) (iv (0))), (0, frRow l), (11, SV.bp 1 0)], [(1, Own.box 5 (frCell ⟨p, org, sumBits may (l.getD p.toNat default).may i, 0, false⟩) 47)]⟩ (fun S' => Weak _ S' ⟨[(73, SV.own 2), (74, cj (e 1) (frRow l)), (75, SV.junk), (76, cj (e 3) (SV.agg 5 (fun zi => (frCell ⟨p, org, sumBits may (l.getD p.toNat default).may i, 0, false⟩) (0 + zi)))), (77, cj (e 4) (frRow ([⟨p, org, sumBits may (l.getD p.toNat default).may i, 0, false⟩]))), (78, SV.junk), (8, SV.junk), (9, cj (e 7) (iv (0))), (0, frRow l), (11, SV.bp 1 0)], [(1, Own.box 5 (frCell ⟨p, org, sumBits may (l.getD p.toNat default).may i, 0, false⟩) 47), (2, ownOf frCell 5 default ([]) 47)]⟩)
            refine t_bs0 2 (rowG frCell default []) (hd 73 (by decide)) Try.underlying27 (fun w => Try.sizeOf47 w) (fresh_mk ⟨rfl, (noId_cj rfl), rfl, (noId_cj rfl), (noId_cj rfl), rfl, rfl, (noId_cj rfl), rfl, rfl, trivial⟩ rfl rfl) ?_
            refine t_nil ?_
            refine weakE ?_ ?_
            · exact ⟨val_tmp rfl, val_tmp rfl, val_junk, val_tmp rfl, val_tmp rfl, val_junk, val_junk, val_tmp rfl, val_tmp rfl, val_tmp rfl, trivial⟩
            · exact ⟨⟨_, rfl, ⟨rfl, rfl, ⟨⟨⟨⟨⟨trivial, rfl⟩, rfl⟩, rfl⟩, rfl⟩, rfl⟩⟩⟩, ⟨_, rfl, rfl⟩, trivial⟩
          · intro e hdn he hdp
            have h2 : e 2 = false := fls he fun q => by obtain ⟨-, r1, -⟩ := (show e 0 = true ∧ e 1 = true ∧ True from hdn 2 q); exact r1
            have h5 : e 5 = false := fls he fun q => by obtain ⟨r2, -, -, -⟩ := (show e 2 = true ∧ e 4 = true ∧ e 2 = true ∧ True from hdn 5 q); obtain ⟨-, r1, -⟩ := (show e 0 = true ∧ e 1 = true ∧ True from hdn 2 r2); exact r1
            show T _ _ _ _ ⟨[(73, cj (e 0) (cjn (e 2) (SV.own 2))), (74, cj (e 1) (frRow l)), (75, cj (e 2) (cjn (e 5) (SV.own 3))), (76, cj (e 3) (SV.agg 5 (fun zi => (frCell ⟨p, org, sumBits may (l.getD p.toNat default).may i, 0, false⟩) (0 + zi)))), (77, cj (e 4) (frRow ([⟨p, org, sumBits may (l.getD p.toNat default).may i, 0, false⟩]))), (78, cj (e 5) (SV.own 4)), (8, cj (e 6) (SV.own 4)), (9, cj (e 7) (iv (0))), (0, frRow l), (11, SV.bp 1 0)], (cb (e 0) (cb (e 2) (cb (e 5) [(1, Own.box 5 (frCell ⟨p, org, sumBits may (l.getD p.toNat default).may i, 0, false⟩) 47), (4, ownOf frCell 5 default ((([]) ++ l) ++ ([⟨p, org, sumBits may (l.getD p.toNat default).may i, 0, false⟩])) 47)] [(1, Own.box 5 (frCell ⟨p, org, sumBits may (l.getD p.toNat default).may i, 0, false⟩) 47), (3, ownOf frCell 5 default (([]) ++ l) 47)]) (cb (e 5) [] [(1, Own.box 5 (frCell ⟨p, org, sumBits may (l.getD p.toNat default).may i, 0, false⟩) 47), (2, ownOf frCell 5 default ([]) 47)])) (cb (e 2) (cb (e 5) [] []) (cb (e 5) [] [(1, Own.box 5 (frCell ⟨p, org, sumBits may (l.getD p.toNat default).may i, 0, false⟩) 47)])))⟩ (fun S' => Weak _ S' ⟨[(73, cj (e 0) (cjn (e 2) (SV.own 2))), (74, cj (true) (frRow l)), (75, cj (e 2) (cjn (e 5) (SV.own 3))), (76, cj (e 3) (SV.agg 5 (fun zi => (frCell ⟨p, org, sumBits may (l.getD p.toNat default).may i, 0, false⟩) (0 + zi)))), (77, cj (e 4) (frRow ([⟨p, org, sumBits may (l.getD p.toNat default).may i, 0, false⟩]))), (78, cj (e 5) (SV.own 4)), (8, cj (e 6) (SV.own 4)), (9, cj (e 7) (iv (0))), (0, frRow l), (11, SV.bp 1 0)], (cb (e 0) (cb (e 2) (cb (e 5) [(1, Own.box 5 (frCell ⟨p, org, sumBits may (l.getD p.toNat default).may i, 0, false⟩) 47), (4, ownOf frCell 5 default ((([]) ++ l) ++ ([⟨p, org, sumBits may (l.getD p.toNat default).may i, 0, false⟩])) 47)] [(1, Own.box 5 (frCell ⟨p, org, sumBits may (l.getD p.toNat default).may i, 0, false⟩) 47), (3, ownOf frCell 5 default (([]) ++ l) 47)]) (cb (e 5) [] [(1, Own.box 5 (frCell ⟨p, org, sumBits may (l.getD p.toNat default).may i, 0, false⟩) 47), (2, ownOf frCell 5 default ([]) 47)])) (cb (e 2) (cb (e 5) [] []) (cb (e 5) [] [(1, Own.box 5 (frCell ⟨p, org, sumBits may (l.getD p.toNat default).may i, 0, false⟩) 47)])))⟩)
            simp only [he, h2, h5]
            show T _ _ _ _ ⟨[(73, cj (e 0) (SV.own 2)), (74, SV.junk), (75, SV.junk), (76, cj (e 3) (SV.agg 5 (fun zi => (frCell ⟨p, org, sumBits may (l.getD p.toNat default).may i, 0, false⟩) (0 + zi)))), (77, cj (e 4) (frRow ([⟨p, org, sumBits may (l.getD p.toNat default).may i, 0, false⟩]))), (78, SV.junk), (8, cj (e 6) (SV.own 4)), (9, cj (e 7) (iv (0))), (0, frRow l), (11, SV.bp 1 0)], (cb (e 0) [(1, Own.box 5 (frCell ⟨p, org, sumBits may (l.getD p.toNat default).may i, 0, false⟩) 47), (2, ownOf frCell 5 default ([]) 47)] [(1, Own.box 5 (frCell ⟨p, org, sumBits may (l.getD p.toNat default).may i, 0, false⟩) 47)])⟩ (fun S' => Weak _ S' ⟨[(73, cj (e 0) (SV.own 2)), (74, frRow l), (75, SV.junk), (76, cj (e 3) (SV.agg 5 (fun zi => (frCell ⟨p, org, sumBits may (l.getD p.toNat default).may i, 0, false⟩) (0 + zi)))), (77, cj (e 4) (frRow ([⟨p, org, sumBits may (l.getD p.toNat default).may i, 0, false⟩]))), (78, SV.junk), (8, cj (e 6) (SV.own 4)), (9, cj (e 7) (iv (0))), (0, frRow l), (11, SV.bp 1 0)], (cb (e 0) [(1, Own.box 5 (frCell ⟨p, org, sumBits may (l.getD p.toNat default).may i, 0, false⟩) 47), (2, ownOf frCell 5 default ([]) 47)] [(1, Own.box 5 (frCell ⟨p, org, sumBits may (l.getD p.toNat default).may i, 0, false⟩) 47)])⟩)
            refine t_op (hd 74 (by decide)) (q_move (val_tmp rfl)) ?_
            refine t_nil ?_
            exact weakS ⟨val_tmp rfl, val_tmp rfl, val_junk, val_tmp rfl, val_tmp rfl, val_junk, val_tmp rfl, val_tmp rfl, val_tmp rfl, val_tmp rfl, trivial⟩
          · intro e hdn he hdp
            obtain ⟨h0, h1, -⟩ := (show e 0 = true ∧ e 1 = true ∧ True from hdp)
            have h5 : e 5 = false := fls he fun q => by obtain ⟨r2, -, -, -⟩ := (show e 2 = true ∧ e 4 = true ∧ e 2 = true ∧ True from hdn 5 q); exact r2
            have h6 : e 6 = false := fls he fun q => by obtain ⟨r5, -, -, -, -, -, -, -, -⟩ := (show e 5 = true ∧ e 5 = true ∧ e 0 = true ∧ e 1 = true ∧ e 2 = true ∧ e 3 = true ∧ e 4 = true ∧ e 5 = true ∧ True from hdn 6 q); obtain ⟨r2, -, -, -⟩ := (show e 2 = true ∧ e 4 = true ∧ e 2 = true ∧ True from hdn 5 r5); exact r2
            show T _ _ _ _ ⟨[(73, cj (e 0) (cjn (e 2) (SV.own 2))), (74, cj (e 1) (frRow l)), (75, cj (e 2) (cjn (e 5) (SV.own 3))), (76, cj (e 3) (SV.agg 5 (fun zi => (frCell ⟨p, org, sumBits may (l.getD p.toNat default).may i, 0, false⟩) (0 + zi)))), (77, cj (e 4) (frRow ([⟨p, org, sumBits may (l.getD p.toNat default).may i, 0, false⟩]))), (78, cj (e 5) (SV.own 4)), (8, cj (e 6) (SV.own 4)), (9, cj (e 7) (iv (0))), (0, frRow l), (11, SV.bp 1 0)], (cb (e 0) (cb (e 2) (cb (e 5) [(1, Own.box 5 (frCell ⟨p, org, sumBits may (l.getD p.toNat default).may i, 0, false⟩) 47), (4, ownOf frCell 5 default ((([]) ++ l) ++ ([⟨p, org, sumBits may (l.getD p.toNat default).may i, 0, false⟩])) 47)] [(1, Own.box 5 (frCell ⟨p, org, sumBits may (l.getD p.toNat default).may i, 0, false⟩) 47), (3, ownOf frCell 5 default (([]) ++ l) 47)]) (cb (e 5) [] [(1, Own.box 5 (frCell ⟨p, org, sumBits may (l.getD p.toNat default).may i, 0, false⟩) 47), (2, ownOf frCell 5 default ([]) 47)])) (cb (e 2) (cb (e 5) [] []) (cb (e 5) [] [(1, Own.box 5 (frCell ⟨p, org, sumBits may (l.getD p.toNat default).may i, 0, false⟩) 47)])))⟩ (fun S' => Weak _ S' ⟨[(73, cj (e 0) (cjn (true) (SV.own 2))), (74, cj (e 1) (frRow l)), (75, cj (true) (cjn (e 5) (SV.own 3))), (76, cj (e 3) (SV.agg 5 (fun zi => (frCell ⟨p, org, sumBits may (l.getD p.toNat default).may i, 0, false⟩) (0 + zi)))), (77, cj (e 4) (frRow ([⟨p, org, sumBits may (l.getD p.toNat default).may i, 0, false⟩]))), (78, cj (e 5) (SV.own 4)), (8, cj (e 6) (SV.own 4)), (9, cj (e 7) (iv (0))), (0, frRow l), (11, SV.bp 1 0)], (cb (e 0) (cb (true) (cb (e 5) [(1, Own.box 5 (frCell ⟨p, org, sumBits may (l.getD p.toNat default).may i, 0, false⟩) 47), (4, ownOf frCell 5 default ((([]) ++ l) ++ ([⟨p, org, sumBits may (l.getD p.toNat default).may i, 0, false⟩])) 47)] [(1, Own.box 5 (frCell ⟨p, org, sumBits may (l.getD p.toNat default).may i, 0, false⟩) 47), (3, ownOf frCell 5 default (([]) ++ l) 47)]) (cb (e 5) [] [(1, Own.box 5 (frCell ⟨p, org, sumBits may (l.getD p.toNat default).may i, 0, false⟩) 47), (2, ownOf frCell 5 default ([]) 47)])) (cb (true) (cb (e 5) [] []) (cb (e 5) [] [(1, Own.box 5 (frCell ⟨p, org, sumBits may (l.getD p.toNat default).may i, 0, false⟩) 47)])))⟩)
            simp only [h0, h1, he, h5, h6]
            show T _ _ _ _ ⟨[(73, SV.own 2), (74, frRow l), (75, SV.junk), (76, cj (e 3) (SV.agg 5 (fun zi => (frCell ⟨p, org, sumBits may (l.getD p.toNat default).may i, 0, false⟩) (0 + zi)))), (77, cj (e 4) (frRow ([⟨p, org, sumBits may (l.getD p.toNat default).may i, 0, false⟩]))), (78, SV.junk), (8, SV.junk), (9, cj (e 7) (iv (0))), (0, frRow l), (11, SV.bp 1 0)], [(1, Own.box 5 (frCell ⟨p, org, sumBits may (l.getD p.toNat default).may i, 0, false⟩) 47), (2, ownOf frCell 5 default ([]) 47)]⟩ (fun S' => Weak _ S' ⟨[(73, SV.junk), (74, frRow l), (75, SV.own 3), (76, cj (e 3) (SV.agg 5 (fun zi => (frCell ⟨p, org, sumBits may (l.getD p.toNat default).may i, 0, false⟩) (0 + zi)))), (77, cj (e 4) (frRow ([⟨p, org, sumBits may (l.getD p.toNat default).may i, 0, false⟩]))), (78, SV.junk), (8, SV.junk), (9, cj (e 7) (iv (0))), (0, frRow l), (11, SV.bp 1 0)], [(1, Own.box 5 (frCell ⟨p, org, sumBits may (l.getD p.toNat default).may i, 0, false⟩) 47), (3, ownOf frCell 5 default (([]) ++ l) 47)]⟩)
            refine t_app 3 (rowG frCell default (([]) ++ l)) (hd 75 (by decide)) eo27 (val_tmp rfl) rfl (val_tmp rfl) (fresh_mk ⟨rfl, rfl, rfl, (noId_cj rfl), (noId_cj rfl), rfl, rfl, (noId_cj rfl), rfl, rfl, trivial⟩ rfl rfl) (len_app ([]) l) (by first | (simp only [maxLen, List.length_append, List.length_set, List.length_nil, List.length_cons]; omega) | (simp only [maxLen]; omega)) (by first | (simp only [List.length_append, List.length_set, List.length_nil, List.length_cons]; omega) | (omega)) (app_typed (l := ([])) (m := l)) ?_
            refine t_nil ?_
            refine weakE ?_ ?_
            · exact ⟨val_junk, val_tmp rfl, val_tmp rfl, val_kc rfl (val_tmp rfl), val_kc rfl (val_tmp rfl), val_junk, val_junk, val_kc rfl (val_tmp rfl), val_tmp rfl, val_tmp rfl, trivial⟩
            · exact ⟨⟨_, rfl, ⟨rfl, rfl, ⟨⟨⟨⟨⟨trivial, rfl⟩, rfl⟩, rfl⟩, rfl⟩, rfl⟩⟩⟩, ⟨_, rfl, rfl⟩, trivial⟩
          · intro e hdn he hdp
            have h5 : e 5 = false := fls he fun q => by obtain ⟨-, r4, -, -⟩ := (show e 2 = true ∧ e 4 = true ∧ e 2 = true ∧ True from hdn 5 q); obtain ⟨r3, -⟩ := (show e 3 = true ∧ True from hdn 4 r4); exact r3
            cases hu0 : e 0
            · have h2 : e 2 = false := fls hu0 fun q => by obtain ⟨r0, -, -⟩ := (show e 0 = true ∧ e 1 = true ∧ True from hdn 2 q); exact r0
              show T _ _ _ _ ⟨[(73, cj (e 0) (cjn (e 2) (SV.own 2))), (74, cj (e 1) (frRow l)), (75, cj (e 2) (cjn (e 5) (SV.own 3))), (76, cj (e 3) (SV.agg 5 (fun zi => (frCell ⟨p, org, sumBits may (l.getD p.toNat default).may i, 0, false⟩) (0 + zi)))), (77, cj (e 4) (frRow ([⟨p, org, sumBits may (l.getD p.toNat default).may i, 0, false⟩]))), (78, cj (e 5) (SV.own 4)), (8, cj (e 6) (SV.own 4)), (9, cj (e 7) (iv (0))), (0, frRow l), (11, SV.bp 1 0)], (cb (e 0) (cb (e 2) (cb (e 5) [(1, Own.box 5 (frCell ⟨p, org, sumBits may (l.getD p.toNat default).may i, 0, false⟩) 47), (4, ownOf frCell 5 default ((([]) ++ l) ++ ([⟨p, org, sumBits may (l.getD p.toNat default).may i, 0, false⟩])) 47)] [(1, Own.box 5 (frCell ⟨p, org, sumBits may (l.getD p.toNat default).may i, 0, false⟩) 47), (3, ownOf frCell 5 default (([]) ++ l) 47)]) (cb (e 5) [] [(1, Own.box 5 (frCell ⟨p, org, sumBits may (l.getD p.toNat default).may i, 0, false⟩) 47), (2, ownOf frCell 5 default ([]) 47)])) (cb (e 2) (cb (e 5) [] []) (cb (e 5) [] [(1, Own.box 5 (frCell ⟨p, org, sumBits may (l.getD p.toNat default).may i, 0, false⟩) 47)])))⟩ (fun S' => Weak _ S' ⟨[(73, cj (e 0) (cjn (e 2) (SV.own 2))), (74, cj (e 1) (frRow l)), (75, cj (e 2) (cjn (e 5) (SV.own 3))), (76, cj (true) (SV.agg 5 (fun zi => (frCell ⟨p, org, sumBits may (l.getD p.toNat default).may i, 0, false⟩) (0 + zi)))), (77, cj (e 4) (frRow ([⟨p, org, sumBits may (l.getD p.toNat default).may i, 0, false⟩]))), (78, cj (e 5) (SV.own 4)), (8, cj (e 6) (SV.own 4)), (9, cj (e 7) (iv (0))), (0, frRow l), (11, SV.bp 1 0)], (cb (e 0) (cb (e 2) (cb (e 5) [(1, Own.box 5 (frCell ⟨p, org, sumBits may (l.getD p.toNat default).may i, 0, false⟩) 47), (4, ownOf frCell 5 default ((([]) ++ l) ++ ([⟨p, org, sumBits may (l.getD p.toNat default).may i, 0, false⟩])) 47)] [(1, Own.box 5 (frCell ⟨p, org, sumBits may (l.getD p.toNat default).may i, 0, false⟩) 47), (3, ownOf frCell 5 default (([]) ++ l) 47)]) (cb (e 5) [] [(1, Own.box 5 (frCell ⟨p, org, sumBits may (l.getD p.toNat default).may i, 0, false⟩) 47), (2, ownOf frCell 5 default ([]) 47)])) (cb (e 2) (cb (e 5) [] []) (cb (e 5) [] [(1, Own.box 5 (frCell ⟨p, org, sumBits may (l.getD p.toNat default).may i, 0, false⟩) 47)])))⟩)
              simp only [he, h5, hu0, h2]
              show T _ _ _ _ ⟨[(73, SV.junk), (74, cj (e 1) (frRow l)), (75, SV.junk), (76, SV.junk), (77, cj (e 4) (frRow ([⟨p, org, sumBits may (l.getD p.toNat default).may i, 0, false⟩]))), (78, SV.junk), (8, cj (e 6) (SV.own 4)), (9, cj (e 7) (iv (0))), (0, frRow l), (11, SV.bp 1 0)], [(1, Own.box 5 (frCell ⟨p, org, sumBits may (l.getD p.toNat default).may i, 0, false⟩) 47)]⟩ (fun S' => Weak _ S' ⟨[(73, SV.junk), (74, cj (e 1) (frRow l)), (75, SV.junk), (76, SV.agg 5 (fun zi => (frCell ⟨p, org, sumBits may (l.getD p.toNat default).may i, 0, false⟩) (0 + zi))), (77, cj (e 4) (frRow ([⟨p, org, sumBits may (l.getD p.toNat default).may i, 0, false⟩]))), (78, SV.junk), (8, cj (e 6) (SV.own 4)), (9, cj (e 7) (iv (0))), (0, frRow l), (11, SV.bp 1 0)], [(1, Own.box 5 (frCell ⟨p, org, sumBits may (l.getD p.toNat default).may i, 0, false⟩) 47)]⟩)
              refine t_op (hd 76 (by decide)) (q_ldBA (val_tmp rfl) rfl Try.isAgg47 Try.sizeOf47 (by decide)) ?_
              refine t_nil ?_
              refine weakE ?_ ?_
              · exact ⟨val_junk, val_tmp rfl, val_junk, val_tmp rfl, val_tmp rfl, val_junk, val_tmp rfl, val_tmp rfl, val_tmp rfl, val_tmp rfl, trivial⟩
              · exact ⟨⟨_, rfl, ⟨rfl, rfl, ⟨⟨⟨⟨⟨trivial, rfl⟩, rfl⟩, rfl⟩, rfl⟩, rfl⟩⟩⟩, trivial⟩
            · cases hu2 : e 2
              · show T _ _ _ _ ⟨[(73, cj (e 0) (cjn (e 2) (SV.own 2))), (74, cj (e 1) (frRow l)), (75, cj (e 2) (cjn (e 5) (SV.own 3))), (76, cj (e 3) (SV.agg 5 (fun zi => (frCell ⟨p, org, sumBits may (l.getD p.toNat default).may i, 0, false⟩) (0 + zi)))), (77, cj (e 4) (frRow ([⟨p, org, sumBits may (l.getD p.toNat default).may i, 0, false⟩]))), (78, cj (e 5) (SV.own 4)), (8, cj (e 6) (SV.own 4)), (9, cj (e 7) (iv (0))), (0, frRow l), (11, SV.bp 1 0)], (cb (e 0) (cb (e 2) (cb (e 5) [(1, Own.box 5 (frCell ⟨p, org, sumBits may (l.getD p.toNat default).may i, 0, false⟩) 47), (4, ownOf frCell 5 default ((([]) ++ l) ++ ([⟨p, org, sumBits may (l.getD p.toNat default).may i, 0, false⟩])) 47)] [(1, Own.box 5 (frCell ⟨p, org, sumBits may (l.getD p.toNat default).may i, 0, false⟩) 47), (3, ownOf frCell 5 default (([]) ++ l) 47)]) (cb (e 5) [] [(1, Own.box 5 (frCell ⟨p, org, sumBits may (l.getD p.toNat default).may i, 0, false⟩) 47), (2, ownOf frCell 5 default ([]) 47)])) (cb (e 2) (cb (e 5) [] []) (cb (e 5) [] [(1, Own.box 5 (frCell ⟨p, org, sumBits may (l.getD p.toNat default).may i, 0, false⟩) 47)])))⟩ (fun S' => Weak _ S' ⟨[(73, cj (e 0) (cjn (e 2) (SV.own 2))), (74, cj (e 1) (frRow l)), (75, cj (e 2) (cjn (e 5) (SV.own 3))), (76, cj (true) (SV.agg 5 (fun zi => (frCell ⟨p, org, sumBits may (l.getD p.toNat default).may i, 0, false⟩) (0 + zi)))), (77, cj (e 4) (frRow ([⟨p, org, sumBits may (l.getD p.toNat default).may i, 0, false⟩]))), (78, cj (e 5) (SV.own 4)), (8, cj (e 6) (SV.own 4)), (9, cj (e 7) (iv (0))), (0, frRow l), (11, SV.bp 1 0)], (cb (e 0) (cb (e 2) (cb (e 5) [(1, Own.box 5 (frCell ⟨p, org, sumBits may (l.getD p.toNat default).may i, 0, false⟩) 47), (4, ownOf frCell 5 default ((([]) ++ l) ++ ([⟨p, org, sumBits may (l.getD p.toNat default).may i, 0, false⟩])) 47)] [(1, Own.box 5 (frCell ⟨p, org, sumBits may (l.getD p.toNat default).may i, 0, false⟩) 47), (3, ownOf frCell 5 default (([]) ++ l) 47)]) (cb (e 5) [] [(1, Own.box 5 (frCell ⟨p, org, sumBits may (l.getD p.toNat default).may i, 0, false⟩) 47), (2, ownOf frCell 5 default ([]) 47)])) (cb (e 2) (cb (e 5) [] []) (cb (e 5) [] [(1, Own.box 5 (frCell ⟨p, org, sumBits may (l.getD p.toNat default).may i, 0, false⟩) 47)])))⟩)
                simp only [he, h5, hu0, hu2]
                show T _ _ _ _ ⟨[(73, SV.own 2), (74, cj (e 1) (frRow l)), (75, SV.junk), (76, SV.junk), (77, cj (e 4) (frRow ([⟨p, org, sumBits may (l.getD p.toNat default).may i, 0, false⟩]))), (78, SV.junk), (8, cj (e 6) (SV.own 4)), (9, cj (e 7) (iv (0))), (0, frRow l), (11, SV.bp 1 0)], [(1, Own.box 5 (frCell ⟨p, org, sumBits may (l.getD p.toNat default).may i, 0, false⟩) 47), (2, ownOf frCell 5 default ([]) 47)]⟩ (fun S' => Weak _ S' ⟨[(73, SV.own 2), (74, cj (e 1) (frRow l)), (75, SV.junk), (76, SV.agg 5 (fun zi => (frCell ⟨p, org, sumBits may (l.getD p.toNat default).may i, 0, false⟩) (0 + zi))), (77, cj (e 4) (frRow ([⟨p, org, sumBits may (l.getD p.toNat default).may i, 0, false⟩]))), (78, SV.junk), (8, cj (e 6) (SV.own 4)), (9, cj (e 7) (iv (0))), (0, frRow l), (11, SV.bp 1 0)], [(1, Own.box 5 (frCell ⟨p, org, sumBits may (l.getD p.toNat default).may i, 0, false⟩) 47), (2, ownOf frCell 5 default ([]) 47)]⟩)
                refine t_op (hd 76 (by decide)) (q_ldBA (val_tmp rfl) rfl Try.isAgg47 Try.sizeOf47 (by decide)) ?_
                refine t_nil ?_
                refine weakE ?_ ?_
                · exact ⟨val_tmp rfl, val_tmp rfl, val_junk, val_tmp rfl, val_tmp rfl, val_junk, val_tmp rfl, val_tmp rfl, val_tmp rfl, val_tmp rfl, trivial⟩
                · exact ⟨⟨_, rfl, ⟨rfl, rfl, ⟨⟨⟨⟨⟨trivial, rfl⟩, rfl⟩, rfl⟩, rfl⟩, rfl⟩⟩⟩, ⟨_, rfl, rfl⟩, trivial⟩
              · show T _ _ _ _ ⟨[(73, cj (e 0) (cjn (e 2) (SV.own 2))), (74, cj (e 1) (frRow l)), (75, cj (e 2) (cjn (e 5) (SV.own 3))), (76, cj (e 3) (SV.agg 5 (fun zi => (frCell ⟨p, org, sumBits may (l.getD p.toNat default).may i, 0, false⟩) (0 + zi)))), (77, cj (e 4) (frRow ([⟨p, org, sumBits may (l.getD p.toNat default).may i, 0, false⟩]))), (78, cj (e 5) (SV.own 4)), (8, cj (e 6) (SV.own 4)), (9, cj (e 7) (iv (0))), (0, frRow l), (11, SV.bp 1 0)], (cb (e 0) (cb (e 2) (cb (e 5) [(1, Own.box 5 (frCell ⟨p, org, sumBits may (l.getD p.toNat default).may i, 0, false⟩) 47), (4, ownOf frCell 5 default ((([]) ++ l) ++ ([⟨p, org, sumBits may (l.getD p.toNat default).may i, 0, false⟩])) 47)] [(1, Own.box 5 (frCell ⟨p, org, sumBits may (l.getD p.toNat default).may i, 0, false⟩) 47), (3, ownOf frCell 5 default (([]) ++ l) 47)]) (cb (e 5) [] [(1, Own.box 5 (frCell ⟨p, org, sumBits may (l.getD p.toNat default).may i, 0, false⟩) 47), (2, ownOf frCell 5 default ([]) 47)])) (cb (e 2) (cb (e 5) [] []) (cb (e 5) [] [(1, Own.box 5 (frCell ⟨p, org, sumBits may (l.getD p.toNat default).may i, 0, false⟩) 47)])))⟩ (fun S' => Weak _ S' ⟨[(73, cj (e 0) (cjn (e 2) (SV.own 2))), (74, cj (e 1) (frRow l)), (75, cj (e 2) (cjn (e 5) (SV.own 3))), (76, cj (true) (SV.agg 5 (fun zi => (frCell ⟨p, org, sumBits may (l.getD p.toNat default).may i, 0, false⟩) (0 + zi)))), (77, cj (e 4) (frRow ([⟨p, org, sumBits may (l.getD p.toNat default).may i, 0, false⟩]))), (78, cj (e 5) (SV.own 4)), (8, cj (e 6) (SV.own 4)), (9, cj (e 7) (iv (0))), (0, frRow l), (11, SV.bp 1 0)], (cb (e 0) (cb (e 2) (cb (e 5) [(1, Own.box 5 (frCell ⟨p, org, sumBits may (l.getD p.toNat default).may i, 0, false⟩) 47), (4, ownOf frCell 5 default ((([]) ++ l) ++ ([⟨p, org, sumBits may (l.getD p.toNat default).may i, 0, false⟩])) 47)] [(1, Own.box 5 (frCell ⟨p, org, sumBits may (l.getD p.toNat default).may i, 0, false⟩) 47), (3, ownOf frCell 5 default (([]) ++ l) 47)]) (cb (e 5) [] [(1, Own.box 5 (frCell ⟨p, org, sumBits may (l.getD p.toNat default).may i, 0, false⟩) 47), (2, ownOf frCell 5 default ([]) 47)])) (cb (e 2) (cb (e 5) [] []) (cb (e 5) [] [(1, Own.box 5 (frCell ⟨p, org, sumBits may (l.getD p.toNat default).may i, 0, false⟩) 47)])))⟩)
                simp only [he, h5, hu0, hu2]
                show T _ _ _ _ ⟨[(73, SV.junk), (74, cj (e 1) (frRow l)), (75, SV.own 3), (76, SV.junk), (77, cj (e 4) (frRow ([⟨p, org, sumBits may (l.getD p.toNat default).may i, 0, false⟩]))), (78, SV.junk), (8, cj (e 6) (SV.own 4)), (9, cj (e 7) (iv (0))), (0, frRow l), (11, SV.bp 1 0)], [(1, Own.box 5 (frCell ⟨p, org, sumBits may (l.getD p.toNat default).may i, 0, false⟩) 47), (3, ownOf frCell 5 default (([]) ++ l) 47)]⟩ (fun S' => Weak _ S' ⟨[(73, SV.junk), (74, cj (e 1) (frRow l)), (75, SV.own 3), (76, SV.agg 5 (fun zi => (frCell ⟨p, org, sumBits may (l.getD p.toNat default).may i, 0, false⟩) (0 + zi))), (77, cj (e 4) (frRow ([⟨p, org, sumBits may (l.getD p.toNat default).may i, 0, false⟩]))), (78, SV.junk), (8, cj (e 6) (SV.own 4)), (9, cj (e 7) (iv (0))), (0, frRow l), (11, SV.bp 1 0)], [(1, Own.box 5 (frCell ⟨p, org, sumBits may (l.getD p.toNat default).may i, 0, false⟩) 47), (3, ownOf frCell 5 default (([]) ++ l) 47)]⟩)
                refine t_op (hd 76 (by decide)) (q_ldBA (val_tmp rfl) rfl Try.isAgg47 Try.sizeOf47 (by decide)) ?_
                refine t_nil ?_
                refine weakE ?_ ?_
                · exact ⟨val_junk, val_tmp rfl, val_tmp rfl, val_tmp rfl, val_tmp rfl, val_junk, val_tmp rfl, val_tmp rfl, val_tmp rfl, val_tmp rfl, trivial⟩
                · exact ⟨⟨_, rfl, ⟨rfl, rfl, ⟨⟨⟨⟨⟨trivial, rfl⟩, rfl⟩, rfl⟩, rfl⟩, rfl⟩⟩⟩, ⟨_, rfl, rfl⟩, trivial⟩
          · intro e hdn he hdp
            obtain ⟨h3, -⟩ := (show e 3 = true ∧ True from hdp)
            have h5 : e 5 = false := fls he fun q => by obtain ⟨-, r4, -, -⟩ := (show e 2 = true ∧ e 4 = true ∧ e 2 = true ∧ True from hdn 5 q); exact r4
            show T _ _ _ _ ⟨[(73, cj (e 0) (cjn (e 2) (SV.own 2))), (74, cj (e 1) (frRow l)), (75, cj (e 2) (cjn (e 5) (SV.own 3))), (76, cj (e 3) (SV.agg 5 (fun zi => (frCell ⟨p, org, sumBits may (l.getD p.toNat default).may i, 0, false⟩) (0 + zi)))), (77, cj (e 4) (frRow ([⟨p, org, sumBits may (l.getD p.toNat default).may i, 0, false⟩]))), (78, cj (e 5) (SV.own 4)), (8, cj (e 6) (SV.own 4)), (9, cj (e 7) (iv (0))), (0, frRow l), (11, SV.bp 1 0)], (cb (e 0) (cb (e 2) (cb (e 5) [(1, Own.box 5 (frCell ⟨p, org, sumBits may (l.getD p.toNat default).may i, 0, false⟩) 47), (4, ownOf frCell 5 default ((([]) ++ l) ++ ([⟨p, org, sumBits may (l.getD p.toNat default).may i, 0, false⟩])) 47)] [(1, Own.box 5 (frCell ⟨p, org, sumBits may (l.getD p.toNat default).may i, 0, false⟩) 47), (3, ownOf frCell 5 default (([]) ++ l) 47)]) (cb (e 5) [] [(1, Own.box 5 (frCell ⟨p, org, sumBits may (l.getD p.toNat default).may i, 0, false⟩) 47), (2, ownOf frCell 5 default ([]) 47)])) (cb (e 2) (cb (e 5) [] []) (cb (e 5) [] [(1, Own.box 5 (frCell ⟨p, org, sumBits may (l.getD p.toNat default).may i, 0, false⟩) 47)])))⟩ (fun S' => Weak _ S' ⟨[(73, cj (e 0) (cjn (e 2) (SV.own 2))), (74, cj (e 1) (frRow l)), (75, cj (e 2) (cjn (e 5) (SV.own 3))), (76, cj (e 3) (SV.agg 5 (fun zi => (frCell ⟨p, org, sumBits may (l.getD p.toNat default).may i, 0, false⟩) (0 + zi)))), (77, cj (true) (frRow ([⟨p, org, sumBits may (l.getD p.toNat default).may i, 0, false⟩]))), (78, cj (e 5) (SV.own 4)), (8, cj (e 6) (SV.own 4)), (9, cj (e 7) (iv (0))), (0, frRow l), (11, SV.bp 1 0)], (cb (e 0) (cb (e 2) (cb (e 5) [(1, Own.box 5 (frCell ⟨p, org, sumBits may (l.getD p.toNat default).may i, 0, false⟩) 47), (4, ownOf frCell 5 default ((([]) ++ l) ++ ([⟨p, org, sumBits may (l.getD p.toNat default).may i, 0, false⟩])) 47)] [(1, Own.box 5 (frCell ⟨p, org, sumBits may (l.getD p.toNat default).may i, 0, false⟩) 47), (3, ownOf frCell 5 default (([]) ++ l) 47)]) (cb (e 5) [] [(1, Own.box 5 (frCell ⟨p, org, sumBits may (l.getD p.toNat default).may i, 0, false⟩) 47), (2, ownOf frCell 5 default ([]) 47)])) (cb (e 2) (cb (e 5) [] []) (cb (e 5) [] [(1, Own.box 5 (frCell ⟨p, org, sumBits may (l.getD p.toNat default).may i, 0, false⟩) 47)])))⟩)
            simp only [h3, he, h5]
            show T _ _ _ _ ⟨[(73, cj (e 0) (cjn (e 2) (SV.own 2))), (74, cj (e 1) (frRow l)), (75, cj (e 2) (SV.own 3)), (76, SV.agg 5 (fun zi => (frCell ⟨p, org, sumBits may (l.getD p.toNat default).may i, 0, false⟩) (0 + zi))), (77, SV.junk), (78, SV.junk), (8, cj (e 6) (SV.own 4)), (9, cj (e 7) (iv (0))), (0, frRow l), (11, SV.bp 1 0)], (cb (e 0) (cb (e 2) [(1, Own.box 5 (frCell ⟨p, org, sumBits may (l.getD p.toNat default).may i, 0, false⟩) 47), (3, ownOf frCell 5 default (([]) ++ l) 47)] [(1, Own.box 5 (frCell ⟨p, org, sumBits may (l.getD p.toNat default).may i, 0, false⟩) 47), (2, ownOf frCell 5 default ([]) 47)]) (cb (e 2) [] [(1, Own.box 5 (frCell ⟨p, org, sumBits may (l.getD p.toNat default).may i, 0, false⟩) 47)]))⟩ (fun S' => Weak _ S' ⟨[(73, cj (e 0) (cjn (e 2) (SV.own 2))), (74, cj (e 1) (frRow l)), (75, cj (e 2) (SV.own 3)), (76, SV.agg 5 (fun zi => (frCell ⟨p, org, sumBits may (l.getD p.toNat default).may i, 0, false⟩) (0 + zi))), (77, frRow ([⟨p, org, sumBits may (l.getD p.toNat default).may i, 0, false⟩])), (78, SV.junk), (8, cj (e 6) (SV.own 4)), (9, cj (e 7) (iv (0))), (0, frRow l), (11, SV.bp 1 0)], (cb (e 0) (cb (e 2) [(1, Own.box 5 (frCell ⟨p, org, sumBits may (l.getD p.toNat default).may i, 0, false⟩) 47), (3, ownOf frCell 5 default (([]) ++ l) 47)] [(1, Own.box 5 (frCell ⟨p, org, sumBits may (l.getD p.toNat default).may i, 0, false⟩) 47), (2, ownOf frCell 5 default ([]) 47)]) (cb (e 2) [] [(1, Own.box 5 (frCell ⟨p, org, sumBits may (l.getD p.toNat default).may i, 0, false⟩) 47)]))⟩)
            refine t_w (hd 77 (by decide)) (w_bs (n := 1) (zget := frCell ⟨0, 0, 0, 0, false⟩) [(fun zi => (frCell ⟨p, org, sumBits may (l.getD p.toNat default).may i, 0, false⟩) (0 + zi))] (rowG frCell default [⟨p, org, sumBits may (l.getD p.toNat default).may i, 0, false⟩]) Try.underlying27 (fun w => Try.sizeOf47 w) zero47 (by decide) rfl (by decide) ⟨⟨rfl, .inl (val_tmp rfl), rfl⟩, trivial⟩ ⟨trivial, ⟨⟨⟨⟨⟨trivial, rfl⟩, rfl⟩, rfl⟩, rfl⟩, rfl⟩⟩) ?_
            refine t_nil ?_
            exact weakS ⟨val_tmp rfl, val_tmp rfl, val_tmp rfl, val_tmp rfl, val_tmp rfl, val_junk, val_tmp rfl, val_tmp rfl, val_tmp rfl, val_tmp rfl, trivial⟩
          · intro e hdn he hdp
            obtain ⟨h2, h4, -, -⟩ := (show e 2 = true ∧ e 4 = true ∧ e 2 = true ∧ True from hdp)
            obtain ⟨h3, -⟩ := (show e 3 = true ∧ True from hdn 4 h4)
            obtain ⟨h0, h1, -⟩ := (show e 0 = true ∧ e 1 = true ∧ True from hdn 2 h2)
            have h6 : e 6 = false := fls he fun q => by obtain ⟨r5, -, -, -, -, -, -, -, -⟩ := (show e 5 = true ∧ e 5 = true ∧ e 0 = true ∧ e 1 = true ∧ e 2 = true ∧ e 3 = true ∧ e 4 = true ∧ e 5 = true ∧ True from hdn 6 q); exact r5
            show T _ _ _ _ ⟨[(73, cj (e 0) (cjn (e 2) (SV.own 2))), (74, cj (e 1) (frRow l)), (75, cj (e 2) (cjn (e 5) (SV.own 3))), (76, cj (e 3) (SV.agg 5 (fun zi => (frCell ⟨p, org, sumBits may (l.getD p.toNat default).may i, 0, false⟩) (0 + zi)))), (77, cj (e 4) (frRow ([⟨p, org, sumBits may (l.getD p.toNat default).may i, 0, false⟩]))), (78, cj (e 5) (SV.own 4)), (8, cj (e 6) (SV.own 4)), (9, cj (e 7) (iv (0))), (0, frRow l), (11, SV.bp 1 0)], (cb (e 0) (cb (e 2) (cb (e 5) [(1, Own.box 5 (frCell ⟨p, org, sumBits may (l.getD p.toNat default).may i, 0, false⟩) 47), (4, ownOf frCell 5 default ((([]) ++ l) ++ ([⟨p, org, sumBits may (l.getD p.toNat default).may i, 0, false⟩])) 47)] [(1, Own.box 5 (frCell ⟨p, org, sumBits may (l.getD p.toNat default).may i, 0, false⟩) 47), (3, ownOf frCell 5 default (([]) ++ l) 47)]) (cb (e 5) [] [(1, Own.box 5 (frCell ⟨p, org, sumBits may (l.getD p.toNat default).may i, 0, false⟩) 47), (2, ownOf frCell 5 default ([]) 47)])) (cb (e 2) (cb (e 5) [] []) (cb (e 5) [] [(1, Own.box 5 (frCell ⟨p, org, sumBits may (l.getD p.toNat default).may i, 0, false⟩) 47)])))⟩ (fun S' => Weak _ S' ⟨[(73, cj (e 0) (cjn (e 2) (SV.own 2))), (74, cj (e 1) (frRow l)), (75, cj (e 2) (cjn (true) (SV.own 3))), (76, cj (e 3) (SV.agg 5 (fun zi => (frCell ⟨p, org, sumBits may (l.getD p.toNat default).may i, 0, false⟩) (0 + zi)))), (77, cj (e 4) (frRow ([⟨p, org, sumBits may (l.getD p.toNat default).may i, 0, false⟩]))), (78, cj (true) (SV.own 4)), (8, cj (e 6) (SV.own 4)), (9, cj (e 7) (iv (0))), (0, frRow l), (11, SV.bp 1 0)], (cb (e 0) (cb (e 2) (cb (true) [(1, Own.box 5 (frCell ⟨p, org, sumBits may (l.getD p.toNat default).may i, 0, false⟩) 47), (4, ownOf frCell 5 default ((([]) ++ l) ++ ([⟨p, org, sumBits may (l.getD p.toNat default).may i, 0, false⟩])) 47)] [(1, Own.box 5 (frCell ⟨p, org, sumBits may (l.getD p.toNat default).may i, 0, false⟩) 47), (3, ownOf frCell 5 default (([]) ++ l) 47)]) (cb (true) [] [(1, Own.box 5 (frCell ⟨p, org, sumBits may (l.getD p.toNat default).may i, 0, false⟩) 47), (2, ownOf frCell 5 default ([]) 47)])) (cb (e 2) (cb (true) [] []) (cb (true) [] [(1, Own.box 5 (frCell ⟨p, org, sumBits may (l.getD p.toNat default).may i, 0, false⟩) 47)])))⟩)
            simp only [h0, h1, h2, h3, h4, he, h6]
            show T _ _ _ _ ⟨[(73, SV.junk), (74, frRow l), (75, SV.own 3), (76, SV.agg 5 (fun zi => (frCell ⟨p, org, sumBits may (l.getD p.toNat default).may i, 0, false⟩) (0 + zi))), (77, frRow ([⟨p, org, sumBits may (l.getD p.toNat default).may i, 0, false⟩])), (78, SV.junk), (8, SV.junk), (9, cj (e 7) (iv (0))), (0, frRow l), (11, SV.bp 1 0)], [(1, Own.box 5 (frCell ⟨p, org, sumBits may (l.getD p.toNat default).may i, 0, false⟩) 47), (3, ownOf frCell 5 default (([]) ++ l) 47)]⟩ (fun S' => Weak _ S' ⟨[(73, SV.junk), (74, frRow l), (75, SV.junk), (76, SV.agg 5 (fun zi => (frCell ⟨p, org, sumBits may (l.getD p.toNat default).may i, 0, false⟩) (0 + zi))), (77, frRow ([⟨p, org, sumBits may (l.getD p.toNat default).may i, 0, false⟩])), (78, SV.own 4), (8, SV.junk), (9, cj (e 7) (iv (0))), (0, frRow l), (11, SV.bp 1 0)], [(1, Own.box 5 (frCell ⟨p, org, sumBits may (l.getD p.toNat default).may i, 0, false⟩) 47), (4, ownOf frCell 5 default ((([]) ++ l) ++ ([⟨p, org, sumBits may (l.getD p.toNat default).may i, 0, false⟩])) 47)]⟩)
            refine t_app 4 (rowG frCell default ((([]) ++ l) ++ ([⟨p, org, sumBits may (l.getD p.toNat default).may i, 0, false⟩]))) (hd 78 (by decide)) eo27 (val_tmp rfl) rfl (val_tmp rfl) (fresh_mk ⟨rfl, rfl, rfl, rfl, rfl, rfl, rfl, (noId_cj rfl), rfl, rfl, trivial⟩ rfl rfl) (len_app (([]) ++ l) ([⟨p, org, sumBits may (l.getD p.toNat default).may i, 0, false⟩])) (by first | (simp only [maxLen, List.length_append, List.length_set, List.length_nil, List.length_cons]; omega) | (simp only [maxLen]; omega)) (by first | (simp only [List.length_append, List.length_set, List.length_nil, List.length_cons]; omega) | (omega)) (app_typed (l := (([]) ++ l)) (m := ([⟨p, org, sumBits may (l.getD p.toNat default).may i, 0, false⟩]))) ?_
            refine t_nil ?_
            refine weakE ?_ ?_
            · exact ⟨val_junk, val_tmp rfl, val_junk, val_tmp rfl, val_tmp rfl, val_tmp rfl, val_junk, val_kc rfl (val_tmp rfl), val_tmp rfl, val_tmp rfl, trivial⟩
            · exact ⟨⟨_, rfl, ⟨rfl, rfl, ⟨⟨⟨⟨⟨trivial, rfl⟩, rfl⟩, rfl⟩, rfl⟩, rfl⟩⟩⟩, ⟨_, rfl, rfl⟩, trivial⟩
          · intro e hdn he hdp
            obtain ⟨h5, -, h0, h1, h2, h3, h4, -, -⟩ := (show e 5 = true ∧ e 5 = true ∧ e 0 = true ∧ e 1 = true ∧ e 2 = true ∧ e 3 = true ∧ e 4 = true ∧ e 5 = true ∧ True from hdp)
            show T _ _ _ _ ⟨[(73, cj (e 0) (cjn (e 2) (SV.own 2))), (74, cj (e 1) (frRow l)), (75, cj (e 2) (cjn (e 5) (SV.own 3))), (76, cj (e 3) (SV.agg 5 (fun zi => (frCell ⟨p, org, sumBits may (l.getD p.toNat default).may i, 0, false⟩) (0 + zi)))), (77, cj (e 4) (frRow ([⟨p, org, sumBits may (l.getD p.toNat default).may i, 0, false⟩]))), (78, cj (e 5) (SV.own 4)), (8, cj (e 6) (SV.own 4)), (9, cj (e 7) (iv (0))), (0, frRow l), (11, SV.bp 1 0)], (cb (e 0) (cb (e 2) (cb (e 5) [(1, Own.box 5 (frCell ⟨p, org, sumBits may (l.getD p.toNat default).may i, 0, false⟩) 47), (4, ownOf frCell 5 default ((([]) ++ l) ++ ([⟨p, org, sumBits may (l.getD p.toNat default).may i, 0, false⟩])) 47)] [(1, Own.box 5 (frCell ⟨p, org, sumBits may (l.getD p.toNat default).may i, 0, false⟩) 47), (3, ownOf frCell 5 default (([]) ++ l) 47)]) (cb (e 5) [] [(1, Own.box 5 (frCell ⟨p, org, sumBits may (l.getD p.toNat default).may i, 0, false⟩) 47), (2, ownOf frCell 5 default ([]) 47)])) (cb (e 2) (cb (e 5) [] []) (cb (e 5) [] [(1, Own.box 5 (frCell ⟨p, org, sumBits may (l.getD p.toNat default).may i, 0, false⟩) 47)])))⟩ (fun S' => Weak _ S' ⟨[(73, cj (e 0) (cjn (e 2) (SV.own 2))), (74, cj (e 1) (frRow l)), (75, cj (e 2) (cjn (e 5) (SV.own 3))), (76, cj (e 3) (SV.agg 5 (fun zi => (frCell ⟨p, org, sumBits may (l.getD p.toNat default).may i, 0, false⟩) (0 + zi)))), (77, cj (e 4) (frRow ([⟨p, org, sumBits may (l.getD p.toNat default).may i, 0, false⟩]))), (78, cj (e 5) (SV.own 4)), (8, cj (true) (SV.own 4)), (9, cj (e 7) (iv (0))), (0, frRow l), (11, SV.bp 1 0)], (cb (e 0) (cb (e 2) (cb (e 5) [(1, Own.box 5 (frCell ⟨p, org, sumBits may (l.getD p.toNat default).may i, 0, false⟩) 47), (4, ownOf frCell 5 default ((([]) ++ l) ++ ([⟨p, org, sumBits may (l.getD p.toNat default).may i, 0, false⟩])) 47)] [(1, Own.box 5 (frCell ⟨p, org, sumBits may (l.getD p.toNat default).may i, 0, false⟩) 47), (3, ownOf frCell 5 default (([]) ++ l) 47)]) (cb (e 5) [] [(1, Own.box 5 (frCell ⟨p, org, sumBits may (l.getD p.toNat default).may i, 0, false⟩) 47), (2, ownOf frCell 5 default ([]) 47)])) (cb (e 2) (cb (e 5) [] []) (cb (e 5) [] [(1, Own.box 5 (frCell ⟨p, org, sumBits may (l.getD p.toNat default).may i, 0, false⟩) 47)])))⟩)
            simp only [h0, h1, h2, h3, h4, h5, he]
            show T _ _ _ _ ⟨[(73, SV.junk), (74, frRow l), (75, SV.junk), (76, SV.agg 5 (fun zi => (frCell ⟨p, org, sumBits may (l.getD p.toNat default).may i, 0, false⟩) (0 + zi))), (77, frRow ([⟨p, org, sumBits may (l.getD p.toNat default).may i, 0, false⟩])), (78, SV.own 4), (8, SV.junk), (9, cj (e 7) (iv (0))), (0, frRow l), (11, SV.bp 1 0)], [(1, Own.box 5 (frCell ⟨p, org, sumBits may (l.getD p.toNat default).may i, 0, false⟩) 47), (4, ownOf frCell 5 default ((([]) ++ l) ++ ([⟨p, org, sumBits may (l.getD p.toNat default).may i, 0, false⟩])) 47)]⟩ (fun S' => Weak _ S' ⟨[(73, SV.junk), (74, frRow l), (75, SV.junk), (76, SV.agg 5 (fun zi => (frCell ⟨p, org, sumBits may (l.getD p.toNat default).may i, 0, false⟩) (0 + zi))), (77, frRow ([⟨p, org, sumBits may (l.getD p.toNat default).may i, 0, false⟩])), (78, SV.own 4), (8, SV.own 4), (9, cj (e 7) (iv (0))), (0, frRow l), (11, SV.bp 1 0)], [(1, Own.box 5 (frCell ⟨p, org, sumBits may (l.getD p.toNat default).may i, 0, false⟩) 47), (4, ownOf frCell 5 default ((([]) ++ l) ++ ([⟨p, org, sumBits may (l.getD p.toNat default).may i, 0, false⟩])) 47)]⟩)
            refine t_op (hd 8 (by decide)) (q_assign (val_tmp rfl)) ?_
            refine t_nil ?_
            refine weakE ?_ ?_
            · exact ⟨val_junk, val_tmp rfl, val_junk, val_tmp rfl, val_tmp rfl, val_tmp rfl, val_tmp rfl, val_tmp rfl, val_tmp rfl, val_tmp rfl, trivial⟩
            · exact ⟨⟨_, rfl, ⟨rfl, rfl, ⟨⟨⟨⟨⟨trivial, rfl⟩, rfl⟩, rfl⟩, rfl⟩, rfl⟩⟩⟩, ⟨_, rfl, rfl⟩, trivial⟩
          · intro e hdn he hdp
            obtain ⟨h6, h0, h1, h2, h3, h4, h5, -, -⟩ := (show e 6 = true ∧ e 0 = true ∧ e 1 = true ∧ e 2 = true ∧ e 3 = true ∧ e 4 = true ∧ e 5 = true ∧ e 6 = true ∧ True from hdp)
            show T _ _ _ _ ⟨[(73, cj (e 0) (cjn (e 2) (SV.own 2))), (74, cj (e 1) (frRow l)), (75, cj (e 2) (cjn (e 5) (SV.own 3))), (76, cj (e 3) (SV.agg 5 (fun zi => (frCell ⟨p, org, sumBits may (l.getD p.toNat default).may i, 0, false⟩) (0 + zi)))), (77, cj (e 4) (frRow ([⟨p, org, sumBits may (l.getD p.toNat default).may i, 0, false⟩]))), (78, cj (e 5) (SV.own 4)), (8, cj (e 6) (SV.own 4)), (9, cj (e 7) (iv (0))), (0, frRow l), (11, SV.bp 1 0)], (cb (e 0) (cb (e 2) (cb (e 5) [(1, Own.box 5 (frCell ⟨p, org, sumBits may (l.getD p.toNat default).may i, 0, false⟩) 47), (4, ownOf frCell 5 default ((([]) ++ l) ++ ([⟨p, org, sumBits may (l.getD p.toNat default).may i, 0, false⟩])) 47)] [(1, Own.box 5 (frCell ⟨p, org, sumBits may (l.getD p.toNat default).may i, 0, false⟩) 47), (3, ownOf frCell 5 default (([]) ++ l) 47)]) (cb (e 5) [] [(1, Own.box 5 (frCell ⟨p, org, sumBits may (l.getD p.toNat default).may i, 0, false⟩) 47), (2, ownOf frCell 5 default ([]) 47)])) (cb (e 2) (cb (e 5) [] []) (cb (e 5) [] [(1, Own.box 5 (frCell ⟨p, org, sumBits may (l.getD p.toNat default).may i, 0, false⟩) 47)])))⟩ (fun S' => Weak _ S' ⟨[(73, cj (e 0) (cjn (e 2) (SV.own 2))), (74, cj (e 1) (frRow l)), (75, cj (e 2) (cjn (e 5) (SV.own 3))), (76, cj (e 3) (SV.agg 5 (fun zi => (frCell ⟨p, org, sumBits may (l.getD p.toNat default).may i, 0, false⟩) (0 + zi)))), (77, cj (e 4) (frRow ([⟨p, org, sumBits may (l.getD p.toNat default).may i, 0, false⟩]))), (78, cj (e 5) (SV.own 4)), (8, cj (e 6) (SV.own 4)), (9, cj (true) (iv (0))), (0, frRow l), (11, SV.bp 1 0)], (cb (e 0) (cb (e 2) (cb (e 5) [(1, Own.box 5 (frCell ⟨p, org, sumBits may (l.getD p.toNat default).may i, 0, false⟩) 47), (4, ownOf frCell 5 default ((([]) ++ l) ++ ([⟨p, org, sumBits may (l.getD p.toNat default).may i, 0, false⟩])) 47)] [(1, Own.box 5 (frCell ⟨p, org, sumBits may (l.getD p.toNat default).may i, 0, false⟩) 47), (3, ownOf frCell 5 default (([]) ++ l) 47)]) (cb (e 5) [] [(1, Own.box 5 (frCell ⟨p, org, sumBits may (l.getD p.toNat default).may i, 0, false⟩) 47), (2, ownOf frCell 5 default ([]) 47)])) (cb (e 2) (cb (e 5) [] []) (cb (e 5) [] [(1, Own.box 5 (frCell ⟨p, org, sumBits may (l.getD p.toNat default).may i, 0, false⟩) 47)])))⟩)
            simp only [h0, h1, h2, h3, h4, h5, h6, he]
            show T _ _ _ _ ⟨[(73, SV.junk), (74, frRow l), (75, SV.junk), (76, SV.agg 5 (fun zi => (frCell ⟨p, org, sumBits may (l.getD p.toNat default).may i, 0, false⟩) (0 + zi))), (77, frRow ([⟨p, org, sumBits may (l.getD p.toNat default).may i, 0, false⟩])), (78, SV.own 4), (8, SV.own 4), (9, SV.junk), (0, frRow l), (11, SV.bp 1 0)], [(1, Own.box 5 (frCell ⟨p, org, sumBits may (l.getD p.toNat default).may i, 0, false⟩) 47), (4, ownOf frCell 5 default ((([]) ++ l) ++ ([⟨p, org, sumBits may (l.getD p.toNat default).may i, 0, false⟩])) 47)]⟩ (fun S' => Weak _ S' ⟨[(73, SV.junk), (74, frRow l), (75, SV.junk), (76, SV.agg 5 (fun zi => (frCell ⟨p, org, sumBits may (l.getD p.toNat default).may i, 0, false⟩) (0 + zi))), (77, frRow ([⟨p, org, sumBits may (l.getD p.toNat default).may i, 0, false⟩])), (78, SV.own 4), (8, SV.own 4), (9, iv (0)), (0, frRow l), (11, SV.bp 1 0)], [(1, Own.box 5 (frCell ⟨p, org, sumBits may (l.getD p.toNat default).may i, 0, false⟩) 47), (4, ownOf frCell 5 default ((([]) ++ l) ++ ([⟨p, org, sumBits may (l.getD p.toNat default).may i, 0, false⟩])) 47)]⟩)
            refine t_op (hd 9 (by decide)) (q_assign val_const) ?_
            refine t_nil ?_
            refine weakE ?_ ?_
            · exact ⟨val_junk, val_tmp rfl, val_junk, val_tmp rfl, val_tmp rfl, val_tmp rfl, val_tmp rfl, val_tmp rfl, val_tmp rfl, val_tmp rfl, trivial⟩
            · exact ⟨⟨_, rfl, ⟨rfl, rfl, ⟨⟨⟨⟨⟨trivial, rfl⟩, rfl⟩, rfl⟩, rfl⟩, rfl⟩⟩⟩, ⟨_, rfl, rfl⟩, trivial⟩
          · intro e he
            have h0 := he 0 (by decide)
            have h1 := he 1 (by decide)
            have h2 := he 2 (by decide)
            have h3 := he 3 (by decide)
            have h4 := he 4 (by decide)
            have h5 := he 5 (by decide)
            have h6 := he 6 (by decide)
            have h7 := he 7 (by decide)
            show Weak _ ⟨[(73, cj (e 0) (cjn (e 2) (SV.own 2))), (74, cj (e 1) (frRow l)), (75, cj (e 2) (cjn (e 5) (SV.own 3))), (76, cj (e 3) (SV.agg 5 (fun zi => (frCell ⟨p, org, sumBits may (l.getD p.toNat default).may i, 0, false⟩) (0 + zi)))), (77, cj (e 4) (frRow ([⟨p, org, sumBits may (l.getD p.toNat default).may i, 0, false⟩]))), (78, cj (e 5) (SV.own 4)), (8, cj (e 6) (SV.own 4)), (9, cj (e 7) (iv (0))), (0, frRow l), (11, SV.bp 1 0)], (cb (e 0) (cb (e 2) (cb (e 5) [(1, Own.box 5 (frCell ⟨p, org, sumBits may (l.getD p.toNat default).may i, 0, false⟩) 47), (4, ownOf frCell 5 default ((([]) ++ l) ++ ([⟨p, org, sumBits may (l.getD p.toNat default).may i, 0, false⟩])) 47)] [(1, Own.box 5 (frCell ⟨p, org, sumBits may (l.getD p.toNat default).may i, 0, false⟩) 47), (3, ownOf frCell 5 default (([]) ++ l) 47)]) (cb (e 5) [] [(1, Own.box 5 (frCell ⟨p, org, sumBits may (l.getD p.toNat default).may i, 0, false⟩) 47), (2, ownOf frCell 5 default ([]) 47)])) (cb (e 2) (cb (e 5) [] []) (cb (e 5) [] [(1, Own.box 5 (frCell ⟨p, org, sumBits may (l.getD p.toNat default).may i, 0, false⟩) 47)])))⟩ _
            simp only [h0, h1, h2, h3, h4, h5, h6, h7]
            show Weak _ ⟨[(73, SV.junk), (74, frRow l), (75, SV.junk), (76, SV.agg 5 (fun zi => (frCell ⟨p, org, sumBits may (l.getD p.toNat default).may i, 0, false⟩) (0 + zi))), (77, frRow ([⟨p, org, sumBits may (l.getD p.toNat default).may i, 0, false⟩])), (78, SV.own 4), (8, SV.own 4), (9, iv (0)), (0, frRow l), (11, SV.bp 1 0)], [(1, Own.box 5 (frCell ⟨p, org, sumBits may (l.getD p.toNat default).may i, 0, false⟩) 47), (4, ownOf frCell 5 default ((([]) ++ l) ++ ([⟨p, org, sumBits may (l.getD p.toNat default).may i, 0, false⟩])) 47)]⟩ _
            refine weakE ?_ ?_
            · exact ⟨val_tmp rfl, val_agg (val_tmp rfl) ⟨⟨⟨⟨⟨trivial, rfl⟩, rfl⟩, rfl⟩, rfl⟩, rfl⟩, val_tmp rfl, val_tmp rfl, val_tmp rfl, val_tmp rfl, val_tmp rfl, val_tmp rfl, trivial⟩
            · exact ⟨⟨_, rfl, ⟨rfl, rfl, ⟨⟨⟨⟨⟨trivial, rfl⟩, rfl⟩, rfl⟩, rfl⟩, rfl⟩⟩⟩, ⟨_, rfl, rfl⟩, trivial⟩
          refine c_frz 4 rfl ?_
          refine c_ret ?_
          exact ret2 rfl (val_tmp rfl) (val_tmp rfl) rfl rfl (by show sv2 (frRow ((([]) ++ l) ++ ([⟨p, org, sumBits may (l.getD p.toNat default).may i, 0, false⟩]))) (iv (0)) = sv2 (frRow (attachFr l p org may).1) (iv (attachFr l p org may).2); rw [attach_6 hf.1 hf.2 hbad h4 h8n, newFr, ← hE, show i = 3 by simp only [List.length_cons, List.length_nil] at hc6s; omega]; rfl)

/-- glasshouse/nav.Go -/
theorem go_ct (l : List Fr) (k o : Int) : Ct Try.prog 36 [frRow l, iv (k), iv (o)] (sv2 (frRow (navFr l k o).1) (iv (navFr l k o).2)) := by
  refine ct_of Try.func36 rfl (by show 3 ≤ 71; decide) fun E hN => ?_
  have hd : ∀ d, d < 71 → d < E.N := fun d h => Nat.lt_of_lt_of_eq h hN.symm
  refine row_len (val_tmp (s := 0) rfl) fun hl0 => ?_
  refine c_seq ?_
  refine c_rq ?_
  refine tq_op (hd 6 (by decide)) (q_assign (val_nil (k := 5) (get := rowG frCell default []))) ?_
  refine tq_op (hd 7 (by decide)) (q_assign val_const) ?_
  refine tq_nil ?_
  refine c_seq ?_
  refine c_seq ?_
  refine c_rq ?_
  refine tq_op (hd 12 (by decide)) (q_move (val_tmp rfl)) ?_
  refine tq_call en21 (hd 13 (by decide)) (by exact ⟨⟨(val_tmp rfl), rfl⟩, trivial⟩) (check_ct l) ?_
  refine tq_op (hd 8 (by decide)) (q_assign (val_tmp rfl)) ?_
  refine tq_nil ?_
  refine c_seq ?_
  refine c_rq ?_
  refine tq_op (hd 14 (by decide)) (q_move (val_tmp rfl)) ?_
  refine tq_op (hd 15 (by decide)) (q_neq (val_tmp rfl) val_const) ?_
  refine tq_nil ?_
  refine c_cond (val_tmp rfl) (fun hc1 => ?_) (fun hc1 => ?_)
  · have hc1s := hc1
    try simp only [Bool.and_eq_true, Bool.or_eq_true, Bool.not_eq_true', Bool.not_eq_false', Bool.or_eq_false_iff, Bool.and_eq_false_iff, decide_eq_true_eq, decide_eq_false_iff_not] at hc1s
    refine c_seq ?_
    refine c_rq ?_
    refine tq_op (hd 16 (by decide)) (q_move (val_tmp rfl)) ?_
    refine tq_op (hd 6 (by decide)) (q_assign (val_nil (k := 5) (get := rowG frCell default []))) ?_
    refine tq_op (hd 7 (by decide)) (q_assign (val_tmp rfl)) ?_
    refine tq_nil ?_
    refine c_ret ?_
    exact ret2 rfl (val_tmp rfl) (val_tmp rfl) rfl rfl (by show sv2 (frRow ([])) (iv (checkFr l)) = sv2 (frRow (navFr l k o).1) (iv (navFr l k o).2); rw [nav_1 hc1s])
  · have hc1s := hc1
    try simp only [Bool.and_eq_true, Bool.or_eq_true, Bool.not_eq_true', Bool.not_eq_false', Bool.or_eq_false_iff, Bool.and_eq_false_iff, decide_eq_true_eq, decide_eq_false_iff_not] at hc1s
    have h8 := check_len hc1s
    refine c_skip ?_
    refine c_seq ?_
    refine c_seq ?_
    refine c_rq ?_
    refine tq_op (hd 17 (by decide)) (q_move (val_tmp rfl)) ?_
    refine tq_op (hd 18 (by decide)) (q_move (val_tmp rfl)) ?_
    refine tq_call en22 (hd 19 (by decide)) (by exact ⟨⟨(val_tmp rfl), rfl⟩, ⟨(val_tmp rfl), rfl⟩, trivial⟩) (holds_ct l k) ?_
    refine tq_op (hd 9 (by decide)) (q_assign (val_tmp rfl)) ?_
    refine tq_nil ?_
    refine c_seq ?_
    refine c_rq ?_
    refine tq_op (hd 20 (by decide)) (q_move (val_tmp rfl)) ?_
    refine tq_op (hd 21 (by decide)) (q_neq (val_tmp rfl) val_const) ?_
    refine tq_nil ?_
    refine c_cond (val_tmp rfl) (fun hc2 => ?_) (fun hc2 => ?_)
    · have hc2s := hc2
      try simp only [Bool.and_eq_true, Bool.or_eq_true, Bool.not_eq_true', Bool.not_eq_false', Bool.or_eq_false_iff, Bool.and_eq_false_iff, decide_eq_true_eq, decide_eq_false_iff_not] at hc2s
      refine c_seq ?_
      refine c_rq ?_
      refine tq_op (hd 22 (by decide)) (q_move (val_tmp rfl)) ?_
      refine tq_op (hd 6 (by decide)) (q_assign (val_nil (k := 5) (get := rowG frCell default []))) ?_
      refine tq_op (hd 7 (by decide)) (q_assign (val_tmp rfl)) ?_
      refine tq_nil ?_
      refine c_ret ?_
      exact ret2 rfl (val_tmp rfl) (val_tmp rfl) rfl rfl (by show sv2 (frRow ([])) (iv (holdsFr l k)) = sv2 (frRow (navFr l k o).1) (iv (navFr l k o).2); rw [nav_2 hc1s hc2s])
    · have hc2s := hc2
      try simp only [Bool.and_eq_true, Bool.or_eq_true, Bool.not_eq_true', Bool.not_eq_false', Bool.or_eq_false_iff, Bool.and_eq_false_iff, decide_eq_true_eq, decide_eq_false_iff_not] at hc2s
      have hB := holds_in hc2s
      refine c_skip ?_
      refine c_seq ?_
      refine c_seq ?_
      refine c_rq ?_
      refine tq_op (hd 23 (by decide)) (q_move (val_tmp rfl)) ?_
      refine tq_op (hd 24 (by decide)) (q_lss (val_tmp rfl) val_const) ?_
      refine tq_op (hd 25 (by decide)) (q_move (val_tmp rfl)) ?_
      refine tq_opG (g_no rfl rfl) (hd 26 (by decide)) (fun hg => q_move (val_tmp rfl)) ?_
      refine tq_opG (g_no rfl rfl) (hd 27 (by decide)) (fun hg => q_gtr (val_grd (val_tmp rfl) hg) val_const) ?_
      refine tq_op (hd 28 (by decide)) (q_or (val_tmp rfl) (fun h => val_grd (val_tmp rfl) (notT h))) ?_
      refine tq_nil ?_
      refine c_cond (val_tmp rfl) (fun hc3 => ?_) (fun hc3 => ?_)
      · have hc3s := hc3
        try simp only [Bool.and_eq_true, Bool.or_eq_true, Bool.not_eq_true', Bool.not_eq_false', Bool.or_eq_false_iff, Bool.and_eq_false_iff, decide_eq_true_eq, decide_eq_false_iff_not] at hc3s
        refine c_seq ?_
        refine c_rq ?_
        refine tq_op (hd 6 (by decide)) (q_assign (val_nil (k := 5) (get := rowG frCell default []))) ?_
        refine tq_op (hd 7 (by decide)) (q_assign val_const) ?_
        refine tq_nil ?_
        refine c_ret ?_
        exact ret2 rfl (val_tmp rfl) (val_tmp rfl) rfl rfl (by show sv2 (frRow ([])) (iv (2)) = sv2 (frRow (navFr l k o).1) (iv (navFr l k o).2); rw [nav_3 hc1s hc2s hc3])
      · have hc3s := hc3
        try simp only [Bool.and_eq_true, Bool.or_eq_true, Bool.not_eq_true', Bool.not_eq_false', Bool.or_eq_false_iff, Bool.and_eq_false_iff, decide_eq_true_eq, decide_eq_false_iff_not] at hc3s
        refine c_skip ?_
        refine c_seq ?_
        refine c_seq ?_
        refine c_rq ?_
        refine tq_op (hd 29 (by decide)) (q_move (val_tmp rfl)) ?_
        refine tq_op (hd 30 (by decide)) (q_move (val_tmp rfl)) ?_
        refine tq_op (hd 31 (by decide)) (q_idx (val_tmp rfl) (val_tmp rfl) ts27 te27 (by first | omega | (simp only [Bool.and_eq_true, Bool.or_eq_true, Bool.not_eq_true', Bool.not_eq_false', Bool.or_eq_false_iff, Bool.and_eq_false_iff, decide_eq_true_eq, decide_eq_false_iff_not] at *; omega)) (by first | omega | (simp only [List.length_set, List.length_append, List.length_nil] at *; omega))) ?_
        refine tq_op (hd 32 (by decide)) (q_fld _ _ (val_tmp rfl) Try.underlying47 rfl 0 (fun w => Try.sizeOf3 w)) ?_
        refine tq_op (hd 33 (by decide)) (q_ld (val_tmp rfl) Try.isAgg3 (by decide)) ?_
        refine tq_op (hd 34 (by decide)) (q_eql (val_tmp rfl) val_const) ?_
        refine tq_nil ?_
        refine c_cond (val_tmp rfl) (fun hc4 => ?_) (fun hc4 => ?_)
        · have hc4s := hc4
          try simp only [Bool.and_eq_true, Bool.or_eq_true, Bool.not_eq_true', Bool.not_eq_false', Bool.or_eq_false_iff, Bool.and_eq_false_iff, decide_eq_true_eq, decide_eq_false_iff_not] at hc4s
          refine c_seq ?_
          refine c_rq ?_
          refine tq_op (hd 6 (by decide)) (q_assign (val_nil (k := 5) (get := rowG frCell default []))) ?_
          refine tq_op (hd 7 (by decide)) (q_assign val_const) ?_
          refine tq_nil ?_
          refine c_ret ?_
          exact ret2 rfl (val_tmp rfl) (val_tmp rfl) rfl rfl (by show sv2 (frRow ([])) (iv (1)) = sv2 (frRow (navFr l k o).1) (iv (navFr l k o).2); rw [nav_4 hc1s hc2s hc3 hc4s])
        · have hc4s := hc4
          try simp only [Bool.and_eq_true, Bool.or_eq_true, Bool.not_eq_true', Bool.not_eq_false', Bool.or_eq_false_iff, Bool.and_eq_false_iff, decide_eq_true_eq, decide_eq_false_iff_not] at hc4s
          have hT := turn_le hc1s hB.1 hB.2.1
          have hgt := go_turn l o (show k.toNat < l.length by omega)
          refine c_skip ?_
          refine c_seq ?_
          refine c_rt ?_
          refine t_bs0 1 (rowG frCell default []) (hd 35 (by decide)) Try.underlying27 (fun w => Try.sizeOf47 w) rfl ?_
          refine t_op (hd 36 (by decide)) (q_move (val_tmp rfl)) ?_
          refine t_app 2 (rowG frCell default (([]) ++ l)) (hd 37 (by decide)) eo27 (val_tmp rfl) rfl (val_tmp rfl) rfl (len_app ([]) l) (by first | (simp only [maxLen, List.length_append, List.length_set, List.length_nil, List.length_cons]; omega) | (simp only [maxLen]; omega)) (by first | (simp only [List.length_append, List.length_set, List.length_nil, List.length_cons]; omega) | (omega)) (app_typed (l := ([])) (m := l)) ?_
          refine t_op (hd 10 (by decide)) (q_assign (val_tmp rfl)) ?_
          refine t_nil ?_
          refine c_seq ?_
          refine c_rt ?_
          refine t_op (hd 38 (by decide)) (q_move (val_tmp rfl)) ?_
          refine t_op (hd 39 (by decide)) (q_move (val_tmp rfl)) ?_
          refine t_op (hd 40 (by decide)) (q_move (val_tmp rfl)) ?_
          refine t_op (hd 41 (by decide)) (q_idxO (val_tmp rfl) rfl (val_tmp rfl) ts27 te27 (by first | omega | (simp only [Bool.and_eq_true, Bool.or_eq_true, Bool.not_eq_true', Bool.not_eq_false', Bool.or_eq_false_iff, Bool.and_eq_false_iff, decide_eq_true_eq, decide_eq_false_iff_not] at *; omega)) (by first | omega | (simp only [List.length_set, List.length_append, List.length_nil] at *; omega))) ?_
          refine t_op (hd 42 (by decide)) (q_fldO _ _ (val_tmp rfl) Try.underlying47 rfl 0 (fun w => Try.sizeOf3 w)) ?_
          have hidx0 : Int.toNat k < (([]) ++ l).length := by first | omega | (simp; omega)
          refine t_stO (rowG frCell default ((([]) ++ l).set (Int.toNat k) ({ ((([]) ++ l).getD (Int.toNat k) default) with org := o }))) (val_tmp rfl) rfl (val_tmp rfl) rfl rfl Try.sizeOf3 (by decide) (show (([]) ++ l).length = ((([]) ++ l).set (Int.toNat k) ({ ((([]) ++ l).getD (Int.toNat k) default) with org := o })).length from List.length_set.symm) (set_at hidx0 rfl) (set_typed hidx0 fun t ht hne => match t, ht, hne with | 0, _, _ => rfl | 1, _, hne => absurd rfl hne | 2, _, _ => rfl | 3, _, _ => rfl | 4, _, _ => rfl) ?_
          refine t_nil ?_
          refine c_seq ?_
          refine c_rt ?_
          refine t_op (hd 43 (by decide)) (q_move (val_tmp rfl)) ?_
          refine t_op (hd 44 (by decide)) (q_move (val_tmp rfl)) ?_
          refine t_op (hd 45 (by decide)) (q_idxO (val_tmp rfl) rfl (val_tmp rfl) ts27 te27 (by first | omega | (simp only [Bool.and_eq_true, Bool.or_eq_true, Bool.not_eq_true', Bool.not_eq_false', Bool.or_eq_false_iff, Bool.and_eq_false_iff, decide_eq_true_eq, decide_eq_false_iff_not] at *; omega)) (by first | omega | (simp only [List.length_set, List.length_append, List.length_nil] at *; omega))) ?_
          refine t_op (hd 46 (by decide)) (q_fldO _ _ (val_tmp rfl) Try.underlying47 rfl 0 (fun w => Try.sizeOf3 w)) ?_
          refine t_op (hd 47 (by decide)) (q_ldO (val_tmp rfl) rfl Try.isAgg3 (by decide)) ?_
          refine t_op (hd 48 (by decide)) (q_add (val_tmp rfl) val_const (by first | omega | (simp only [Bool.and_eq_true, Bool.or_eq_true, Bool.not_eq_true', Bool.not_eq_false', Bool.or_eq_false_iff, Bool.and_eq_false_iff, decide_eq_true_eq, decide_eq_false_iff_not] at *; omega))) ?_
          refine t_op (hd 49 (by decide)) (q_idxO (val_tmp rfl) rfl (val_tmp rfl) ts27 te27 (by first | omega | (simp only [Bool.and_eq_true, Bool.or_eq_true, Bool.not_eq_true', Bool.not_eq_false', Bool.or_eq_false_iff, Bool.and_eq_false_iff, decide_eq_true_eq, decide_eq_false_iff_not] at *; omega)) (by first | omega | (simp only [List.length_set, List.length_append, List.length_nil] at *; omega))) ?_
          refine t_op (hd 50 (by decide)) (q_fldO _ _ (val_tmp rfl) Try.underlying47 rfl 0 (fun w => Try.sizeOf3 w)) ?_
          have hidx1 : Int.toNat k < ((([]) ++ l).set (Int.toNat k) ({ ((([]) ++ l).getD (Int.toNat k) default) with org := o })).length := by first | omega | (simp; omega)
          refine t_stO (rowG frCell default (((([]) ++ l).set (Int.toNat k) ({ ((([]) ++ l).getD (Int.toNat k) default) with org := o })).set (Int.toNat k) ({ (((([]) ++ l).set (Int.toNat k) ({ ((([]) ++ l).getD (Int.toNat k) default) with org := o })).getD (Int.toNat k) default) with turn := ((((([]) ++ l).set (Int.toNat k) ({ ((([]) ++ l).getD (Int.toNat k) default) with org := o })).getD (Int.toNat k) default).turn) + 1 }))) (val_tmp rfl) rfl (val_tmp rfl) rfl rfl Try.sizeOf3 (by decide) (show ((([]) ++ l).set (Int.toNat k) ({ ((([]) ++ l).getD (Int.toNat k) default) with org := o })).length = (((([]) ++ l).set (Int.toNat k) ({ ((([]) ++ l).getD (Int.toNat k) default) with org := o })).set (Int.toNat k) ({ (((([]) ++ l).set (Int.toNat k) ({ ((([]) ++ l).getD (Int.toNat k) default) with org := o })).getD (Int.toNat k) default) with turn := ((((([]) ++ l).set (Int.toNat k) ({ ((([]) ++ l).getD (Int.toNat k) default) with org := o })).getD (Int.toNat k) default).turn) + 1 })).length from List.length_set.symm) (set_at hidx1 rfl) (set_typed hidx1 fun t ht hne => match t, ht, hne with | 0, _, _ => rfl | 1, _, _ => rfl | 2, _, _ => rfl | 3, _, hne => absurd rfl hne | 4, _, _ => rfl) ?_
          refine t_nil ?_
          refine c_seq ?_
          refine c_seq ?_
          refine c_rq ?_
          refine tq_op (hd 51 (by decide)) (q_move (val_tmp rfl)) ?_
          refine tq_op (hd 52 (by decide)) (q_lenO (val_tmp rfl) rfl ts27) ?_
          refine tq_op (hd 53 (by decide)) (q_move val_const) ?_
          refine tq_nil ?_
          refine c_block ?_
          refine c_ownE 2 (goK l k o 0) rfl (by rfl) ?_
          refine c_loop (fun (i : Nat) => (⟨[(0, frRow l), (1, iv (k)), (10, SV.own 2), (52, iv (((((([]) ++ l).set (Int.toNat k) ({ ((([]) ++ l).getD (Int.toNat k) default) with org := o })).set (Int.toNat k) ({ (((([]) ++ l).set (Int.toNat k) ({ ((([]) ++ l).getD (Int.toNat k) default) with org := o })).getD (Int.toNat k) default) with turn := ((((([]) ++ l).set (Int.toNat k) ({ ((([]) ++ l).getD (Int.toNat k) default) with org := o })).getD (Int.toNat k) default).turn) + 1 })).length : Int))), (53, iv ((i : Int)))], [(2, ownOf frCell 5 default (goK l k o i) 47)]⟩ : St)) (fun (i : Nat) => i ≤ l.length) (fun (i : Nat) => l.length - i) 0 ?_ ?_ ?_
          · show 0 ≤ l.length
            first | omega | (simp; done) | (refine ⟨?_, ?_⟩ <;> first | omega | (simp; done))
          · refine weakE (sl := [(0, frRow l), (1, iv (k)), (10, SV.own 2), (52, iv (((((([]) ++ l).set (Int.toNat k) ({ ((([]) ++ l).getD (Int.toNat k) default) with org := o })).set (Int.toNat k) ({ (((([]) ++ l).set (Int.toNat k) ({ ((([]) ++ l).getD (Int.toNat k) default) with org := o })).getD (Int.toNat k) default) with turn := ((((([]) ++ l).set (Int.toNat k) ({ ((([]) ++ l).getD (Int.toNat k) default) with org := o })).getD (Int.toNat k) default).turn) + 1 })).length : Int))), (53, iv ((0 : Int)))]) (ow := [(2, ownOf frCell 5 default (goK l k o 0) 47)]) ?_ ?_
            · exact ⟨val_tmp rfl, val_tmp rfl, val_tmp rfl, val_tmp rfl, val_tmp rfl, trivial⟩
            · exact ⟨⟨_, rfl, rfl⟩, trivial⟩
          · rintro i hI1
            have hJ1 : i ≤ l.length := hI1
            have hgl := goK_len l k o i
            refine c_seq ?_
            refine c_rq ?_
            refine tq_op (hd 54 (by decide)) (q_lss (val_tmp rfl) (val_tmp rfl)) ?_
            refine tq_nil ?_
            refine c_seq ?_
            refine c_cond (val_tmp rfl) (fun hc5 => ?_) (fun hc5 => ?_)
            · have hc5s := hc5
              try simp only [Bool.and_eq_true, Bool.or_eq_true, Bool.not_eq_true', Bool.not_eq_false', Bool.or_eq_false_iff, Bool.and_eq_false_iff, decide_eq_true_eq, decide_eq_false_iff_not] at hc5s
              simp only [List.length_set, List.nil_append] at hc5s
              refine c_skip ?_
              refine c_seq ?_
              refine c_block ?_
              refine c_seq ?_
              refine c_rq ?_
              refine tq_op (hd 55 (by decide)) (q_move (val_tmp rfl)) ?_
              refine tq_op (hd 11 (by decide)) (q_assign (val_tmp rfl)) ?_
              refine tq_nil ?_
              refine c_seq ?_
              refine c_rq ?_
              refine tq_op (hd 56 (by decide)) (q_move (val_tmp rfl)) ?_
              refine tq_op (hd 57 (by decide)) (q_move (val_tmp rfl)) ?_
              refine tq_op (hd 58 (by decide)) (q_neq (val_tmp rfl) (val_tmp rfl)) ?_
              refine tq_op (hd 59 (by decide)) (q_move (val_tmp rfl)) ?_
              refine tq_opG (g_yes rfl rfl) (hd 60 (by decide)) (fun hg => q_move (val_tmp rfl)) ?_
              refine tq_opG (g_yes rfl rfl) (hd 61 (by decide)) (fun hg => q_move (val_tmp rfl)) ?_
              refine tq_opG (g_yes rfl rfl) (hd 62 (by decide)) (fun hg => q_move (val_tmp rfl)) ?_
              refine tq_callG (g_yes rfl rfl) en23 (hd 63 (by decide)) (fun hg => (by exact ⟨⟨(val_grd (val_tmp rfl) hg), rfl⟩, ⟨(val_grd (val_tmp rfl) hg), rfl⟩, ⟨(val_grd (val_tmp rfl) hg), rfl⟩, trivial⟩)) (fun hg => within_ct l ((i : Int)) k) ?_
              refine tq_op (hd 64 (by decide)) (q_and (val_tmp rfl) (fun h => val_grd (val_tmp rfl) h)) ?_
              refine tq_nil ?_
              refine c_cond (val_tmp rfl) (fun hc6 => ?_) (fun hc6 => ?_)
              · have hc6s := hc6
                try simp only [Bool.and_eq_true, Bool.or_eq_true, Bool.not_eq_true', Bool.not_eq_false', Bool.or_eq_false_iff, Bool.and_eq_false_iff, decide_eq_true_eq, decide_eq_false_iff_not] at hc6s
                refine c_rt ?_
                refine t_op (hd 65 (by decide)) (q_move (val_tmp rfl)) ?_
                refine t_op (hd 66 (by decide)) (q_move (val_tmp rfl)) ?_
                refine t_op (hd 67 (by decide)) (q_idxON (i := i) (val_tmp rfl) rfl (val_tmp rfl) ts27 te27 (by first | omega | (simp only [List.length_set, List.length_append, List.length_nil] at *; omega))) ?_
                refine t_op (hd 68 (by decide)) (q_fldO _ _ (val_tmp rfl) Try.underlying47 rfl 0 (fun w => Try.sizeOf4 w)) ?_
                have hidx2 : i < (goK l k o i).length := by first | omega | (simp; omega)
                refine t_stO (rowG frCell default ((goK l k o i).set i ({ ((goK l k o i).getD i default) with gone := true }))) (val_tmp rfl) rfl val_const rfl rfl Try.sizeOf4 (by decide) (show (goK l k o i).length = ((goK l k o i).set i ({ ((goK l k o i).getD i default) with gone := true })).length from List.length_set.symm) (set_at hidx2 rfl) (set_typed hidx2 fun t ht hne => match t, ht, hne with | 0, _, _ => rfl | 1, _, _ => rfl | 2, _, _ => rfl | 3, _, _ => rfl | 4, _, hne => absurd rfl hne) ?_
                refine t_nil ?_
                refine c_rq ?_
                refine tq_op (hd 69 (by decide)) (q_add (val_tmp rfl) val_const (by first | omega | (simp only [Bool.and_eq_true, Bool.or_eq_true, Bool.not_eq_true', Bool.not_eq_false', Bool.or_eq_false_iff, Bool.and_eq_false_iff, decide_eq_true_eq, decide_eq_false_iff_not] at *; omega))) ?_
                refine tq_op (hd 53 (by decide)) (q_move (val_tmp rfl)) ?_
                refine tq_nil ?_
                refine k_ownE 2 (goK l k o ((i + 1))) rfl (by rw [goK, if_pos hc6]; rfl) ?_
                refine c_next (i + 1) ?_ ?_ ?_
                · show (i + 1) ≤ l.length
                  first | omega | (simp; done) | (refine ⟨?_, ?_⟩ <;> first | omega | (simp; done))
                · show l.length - (i + 1) < l.length - i
                  omega
                · refine weakE (sl := [(0, frRow l), (1, iv (k)), (10, SV.own 2), (52, iv (((((([]) ++ l).set (Int.toNat k) ({ ((([]) ++ l).getD (Int.toNat k) default) with org := o })).set (Int.toNat k) ({ (((([]) ++ l).set (Int.toNat k) ({ ((([]) ++ l).getD (Int.toNat k) default) with org := o })).getD (Int.toNat k) default) with turn := ((((([]) ++ l).set (Int.toNat k) ({ ((([]) ++ l).getD (Int.toNat k) default) with org := o })).getD (Int.toNat k) default).turn) + 1 })).length : Int))), (53, iv (((i + 1) : Int)))]) (ow := [(2, ownOf frCell 5 default (goK l k o ((i + 1))) 47)]) ?_ ?_
                  · exact ⟨val_tmp rfl, val_tmp rfl, val_tmp rfl, val_tmp rfl, val_tmp rfl, trivial⟩
                  · exact ⟨⟨_, rfl, rfl⟩, trivial⟩
              · have hc6s := hc6
                try simp only [Bool.and_eq_true, Bool.or_eq_true, Bool.not_eq_true', Bool.not_eq_false', Bool.or_eq_false_iff, Bool.and_eq_false_iff, decide_eq_true_eq, decide_eq_false_iff_not] at hc6s
                refine c_skip ?_
                refine c_rq ?_
                refine tq_op (hd 69 (by decide)) (q_add (val_tmp rfl) val_const (by first | omega | (simp only [Bool.and_eq_true, Bool.or_eq_true, Bool.not_eq_true', Bool.not_eq_false', Bool.or_eq_false_iff, Bool.and_eq_false_iff, decide_eq_true_eq, decide_eq_false_iff_not] at *; omega))) ?_
                refine tq_op (hd 53 (by decide)) (q_move (val_tmp rfl)) ?_
                refine tq_nil ?_
                refine k_ownE 2 (goK l k o ((i + 1))) rfl (by rw [goK, if_neg (ff hc6)]) ?_
                refine c_next (i + 1) ?_ ?_ ?_
                · show (i + 1) ≤ l.length
                  first | omega | (simp; done) | (refine ⟨?_, ?_⟩ <;> first | omega | (simp; done))
                · show l.length - (i + 1) < l.length - i
                  omega
                · refine weakE (sl := [(0, frRow l), (1, iv (k)), (10, SV.own 2), (52, iv (((((([]) ++ l).set (Int.toNat k) ({ ((([]) ++ l).getD (Int.toNat k) default) with org := o })).set (Int.toNat k) ({ (((([]) ++ l).set (Int.toNat k) ({ ((([]) ++ l).getD (Int.toNat k) default) with org := o })).getD (Int.toNat k) default) with turn := ((((([]) ++ l).set (Int.toNat k) ({ ((([]) ++ l).getD (Int.toNat k) default) with org := o })).getD (Int.toNat k) default).turn) + 1 })).length : Int))), (53, iv (((i + 1) : Int)))]) (ow := [(2, ownOf frCell 5 default (goK l k o ((i + 1))) 47)]) ?_ ?_
                  · exact ⟨val_tmp rfl, val_tmp rfl, val_tmp rfl, val_tmp rfl, val_tmp rfl, trivial⟩
                  · exact ⟨⟨_, rfl, rfl⟩, trivial⟩
            · have hc5s := hc5
              try simp only [Bool.and_eq_true, Bool.or_eq_true, Bool.not_eq_true', Bool.not_eq_false', Bool.or_eq_false_iff, Bool.and_eq_false_iff, decide_eq_true_eq, decide_eq_false_iff_not] at hc5s
              simp only [List.length_set, List.nil_append] at hc5s
              refine c_exit ?_
              refine c_seq ?_
              refine c_rq ?_
              refine tq_op (hd 70 (by decide)) (q_move (val_tmp rfl)) ?_
              refine tq_op (hd 6 (by decide)) (q_assign (val_tmp rfl)) ?_
              refine tq_op (hd 7 (by decide)) (q_assign val_const) ?_
              refine tq_nil ?_
              refine c_frz 2 rfl ?_
              refine c_ret ?_
              exact ret2 rfl (val_tmp rfl) (val_tmp rfl) rfl rfl (by show sv2 (frRow (goK l k o i)) (iv (0)) = sv2 (frRow (navFr l k o).1) (iv (navFr l k o).2); rw [nav_5 hc1s hc2s hc3 hc4s, ← go_eq ⟨hB.1, hB.2.1⟩, show i = l.length by omega])

/-- glasshouse/nav.Still -/
theorem still_ct (l : List Fr) (k t : Int) : Ct Try.prog 37 [frRow l, iv (k), iv (t)] (bv (stillFr l k t)) := by
  refine ct_of Try.func37 rfl (by show 3 ≤ 20; decide) fun E hN => ?_
  have hd : ∀ d, d < 20 → d < E.N := fun d h => Nat.lt_of_lt_of_eq h hN.symm
  refine row_len (val_tmp (s := 0) rfl) fun hl0 => ?_
  refine c_seq ?_
  refine c_rq ?_
  refine tq_op (hd 6 (by decide)) (q_assign val_const) ?_
  refine tq_nil ?_
  refine c_seq ?_
  refine c_rq ?_
  refine tq_op (hd 7 (by decide)) (q_move (val_tmp rfl)) ?_
  refine tq_op (hd 8 (by decide)) (q_move (val_tmp rfl)) ?_
  refine tq_call en22 (hd 9 (by decide)) (by exact ⟨⟨(val_tmp rfl), rfl⟩, ⟨(val_tmp rfl), rfl⟩, trivial⟩) (holds_ct l k) ?_
  refine tq_op (hd 10 (by decide)) (q_eql (val_tmp rfl) val_const) ?_
  refine tq_op (hd 11 (by decide)) (q_move (val_tmp rfl)) ?_
  refine tq_opG (g_yes rfl rfl) (hd 12 (by decide)) (fun hg => q_move (val_tmp rfl)) ?_
  refine tq_opG (g_yes rfl rfl) (hd 13 (by decide)) (fun hg => q_move (val_tmp rfl)) ?_
  refine tq_opG (g_yes rfl rfl) (hd 14 (by decide)) (fun hg => q_idx (val_grd (val_tmp rfl) hg) (val_grd (val_tmp rfl) hg) ts27 te27 (by exact (holds_in (of_decide_eq_true hg)).1) (by have := holds_in (of_decide_eq_true hg); omega)) ?_
  refine tq_opG (g_yes rfl rfl) (hd 15 (by decide)) (fun hg => q_fld _ _ (val_grd (val_tmp rfl) hg) Try.underlying47 rfl 0 (fun w => Try.sizeOf3 w)) ?_
  refine tq_opG (g_yes rfl rfl) (hd 16 (by decide)) (fun hg => q_ld (val_grd (val_tmp rfl) hg) Try.isAgg3 (by decide)) ?_
  refine tq_opG (g_yes rfl rfl) (hd 17 (by decide)) (fun hg => q_move (val_tmp rfl)) ?_
  refine tq_opG (g_yes rfl rfl) (hd 18 (by decide)) (fun hg => q_eql (val_grd (val_tmp rfl) hg) (val_grd (val_tmp rfl) hg)) ?_
  refine tq_op (hd 19 (by decide)) (q_and (val_tmp rfl) (fun h => val_grd (val_tmp rfl) h)) ?_
  refine tq_op (hd 6 (by decide)) (q_assign (val_tmp rfl)) ?_
  refine tq_nil ?_
  refine c_ret ?_
  exact ret1 rfl (val_tmp rfl) rfl (by show bv ((decide (holdsFr l k = 0)) && (decide ((l.getD (Int.toNat k) default).turn = t))) = bv (stillFr l k t); rfl)

end Go.Proofs.Ytghkpailmdlhgaa
