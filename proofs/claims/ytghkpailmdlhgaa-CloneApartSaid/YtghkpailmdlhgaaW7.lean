import Derived.Test.YtghkpailmdlhgaaW6
set_option linter.unusedVariables false
set_option linter.unusedSimpArgs false
namespace Go.Proofs.Ytghkpailmdlhgaa
open Go.RowKit Go.Eng
/-- glasshouse/frame.Length -/
theorem length_ct (l : List Fr) (k : Int) : Ct Try.prog 31 [frRow l, iv (k)] (sv2 (iv (lenFr l k).1) (iv (lenFr l k).2)) := by
  refine ct_of Try.func31 rfl (by show 2 ≤ 41; decide) fun E hN => ?_
  have hd : ∀ d, d < 41 → d < E.N := fun d h => Nat.lt_of_lt_of_eq h hN.symm
  refine row_len (val_tmp (s := 0) rfl) fun hl0 => ?_
  refine c_seq ?_
  refine c_rq ?_
  refine tq_op (hd 4 (by decide)) (q_assign val_const) ?_
  refine tq_op (hd 5 (by decide)) (q_assign val_const) ?_
  refine tq_nil ?_
  refine c_seq ?_
  refine c_seq ?_
  refine c_rq ?_
  refine tq_op (hd 11 (by decide)) (q_move (val_tmp rfl)) ?_
  refine tq_call en21 (hd 12 (by decide)) (by exact ⟨⟨(val_tmp rfl), rfl⟩, trivial⟩) (check_ct l) ?_
  refine tq_op (hd 6 (by decide)) (q_assign (val_tmp rfl)) ?_
  refine tq_nil ?_
  refine c_seq ?_
  refine c_rq ?_
  refine tq_op (hd 13 (by decide)) (q_move (val_tmp rfl)) ?_
  refine tq_op (hd 14 (by decide)) (q_neq (val_tmp rfl) val_const) ?_
  refine tq_nil ?_
  refine c_cond (val_tmp rfl) (fun hc1 => ?_) (fun hc1 => ?_)
  · have hc1s := hc1
    try simp only [Bool.and_eq_true, Bool.or_eq_true, Bool.not_eq_true', Bool.not_eq_false', Bool.or_eq_false_iff, Bool.and_eq_false_iff, decide_eq_true_eq, decide_eq_false_iff_not] at hc1s
    refine c_seq ?_
    refine c_rq ?_
    refine tq_op (hd 15 (by decide)) (q_move (val_tmp rfl)) ?_
    refine tq_op (hd 4 (by decide)) (q_assign val_const) ?_
    refine tq_op (hd 5 (by decide)) (q_assign (val_tmp rfl)) ?_
    refine tq_nil ?_
    refine c_ret ?_
    exact ret2 rfl (val_tmp rfl) (val_tmp rfl) rfl rfl (by show sv2 (iv (0)) (iv (checkFr l)) = sv2 (iv (lenFr l k).1) (iv (lenFr l k).2); rw [len_1 hc1s])
  · have hc1s := hc1
    try simp only [Bool.and_eq_true, Bool.or_eq_true, Bool.not_eq_true', Bool.not_eq_false', Bool.or_eq_false_iff, Bool.and_eq_false_iff, decide_eq_true_eq, decide_eq_false_iff_not] at hc1s
    have h8 := check_len hc1s
    refine c_skip ?_
    refine c_seq ?_
    refine c_seq ?_
    refine c_rq ?_
    refine tq_op (hd 16 (by decide)) (q_move (val_tmp rfl)) ?_
    refine tq_op (hd 17 (by decide)) (q_move (val_tmp rfl)) ?_
    refine tq_call en22 (hd 18 (by decide)) (by exact ⟨⟨(val_tmp rfl), rfl⟩, ⟨(val_tmp rfl), rfl⟩, trivial⟩) (holds_ct l k) ?_
    refine tq_op (hd 7 (by decide)) (q_assign (val_tmp rfl)) ?_
    refine tq_nil ?_
    refine c_seq ?_
    refine c_rq ?_
    refine tq_op (hd 19 (by decide)) (q_move (val_tmp rfl)) ?_
    refine tq_op (hd 20 (by decide)) (q_neq (val_tmp rfl) val_const) ?_
    refine tq_nil ?_
    refine c_cond (val_tmp rfl) (fun hc2 => ?_) (fun hc2 => ?_)
    · have hc2s := hc2
      try simp only [Bool.and_eq_true, Bool.or_eq_true, Bool.not_eq_true', Bool.not_eq_false', Bool.or_eq_false_iff, Bool.and_eq_false_iff, decide_eq_true_eq, decide_eq_false_iff_not] at hc2s
      refine c_seq ?_
      refine c_rq ?_
      refine tq_op (hd 21 (by decide)) (q_move (val_tmp rfl)) ?_
      refine tq_op (hd 4 (by decide)) (q_assign val_const) ?_
      refine tq_op (hd 5 (by decide)) (q_assign (val_tmp rfl)) ?_
      refine tq_nil ?_
      refine c_ret ?_
      exact ret2 rfl (val_tmp rfl) (val_tmp rfl) rfl rfl (by show sv2 (iv (0)) (iv (holdsFr l k)) = sv2 (iv (lenFr l k).1) (iv (lenFr l k).2); rw [len_2 hc1s hc2s])
    · have hc2s := hc2
      try simp only [Bool.and_eq_true, Bool.or_eq_true, Bool.not_eq_true', Bool.not_eq_false', Bool.or_eq_false_iff, Bool.and_eq_false_iff, decide_eq_true_eq, decide_eq_false_iff_not] at hc2s
      refine c_skip ?_
      refine c_seq ?_
      refine c_rq ?_
      refine tq_op (hd 8 (by decide)) (q_assign val_const) ?_
      refine tq_nil ?_
      refine c_seq ?_
      refine c_seq ?_
      refine c_rq ?_
      refine tq_op (hd 22 (by decide)) (q_move (val_tmp rfl)) ?_
      refine tq_op (hd 23 (by decide)) (q_len (val_tmp rfl) ts27) ?_
      refine tq_op (hd 24 (by decide)) (q_move val_const) ?_
      refine tq_nil ?_
      refine c_block ?_
      refine c_loop (fun (i : Nat) => (⟨[(1, iv (k)), (8, iv ((((l.take i).countP (kidP k) : Nat) : Int))), (22, frRow l), (23, iv ((l.length : Int))), (24, iv ((i : Int)))], []⟩ : St)) (fun (i : Nat) => i ≤ l.length ∧ (l.take i).countP (kidP k) ≤ i) (fun (i : Nat) => l.length - i) 0 ?_ ?_ ?_
      · show 0 ≤ l.length ∧ (l.take 0).countP (kidP k) ≤ 0
        exact ⟨Nat.zero_le _, Nat.le_refl _⟩
      · refine weakE (sl := [(1, iv (k)), (8, iv ((((l.take 0).countP (kidP k) : Nat) : Int))), (22, frRow l), (23, iv ((l.length : Int))), (24, iv ((0 : Int)))]) (ow := []) ?_ ?_
        · exact ⟨val_tmp rfl, val_tmp rfl, val_tmp rfl, val_tmp rfl, val_tmp rfl, trivial⟩
        · exact trivial
      · rintro i hI1
        have hJ1 : i ≤ l.length ∧ (l.take i).countP (kidP k) ≤ i := hI1
        have hi1 := hJ1.1
        have hi2 := hJ1.2
        refine c_seq ?_
        refine c_rq ?_
        refine tq_op (hd 25 (by decide)) (q_lss (val_tmp rfl) (val_tmp rfl)) ?_
        refine tq_nil ?_
        refine c_seq ?_
        refine c_cond (val_tmp rfl) (fun hc3 => ?_) (fun hc3 => ?_)
        · have hc3s := hc3
          try simp only [Bool.and_eq_true, Bool.or_eq_true, Bool.not_eq_true', Bool.not_eq_false', Bool.or_eq_false_iff, Bool.and_eq_false_iff, decide_eq_true_eq, decide_eq_false_iff_not] at hc3s
          refine c_skip ?_
          refine c_seq ?_
          refine c_block ?_
          refine c_seq ?_
          refine c_rt ?_
          refine t_op (hd 26 (by decide)) (q_idxN (i := i) (val_tmp rfl) (val_tmp rfl) ts27 te27 (by first | omega | (simp only [Bool.and_eq_true, Bool.or_eq_true, Bool.not_eq_true', Bool.not_eq_false', Bool.or_eq_false_iff, Bool.and_eq_false_iff, decide_eq_true_eq, decide_eq_false_iff_not] at *; omega))) ?_
          refine t_op (hd 27 (by decide)) (q_ldA (val_tmp rfl) Try.isAgg47 Try.sizeOf47 (by decide)) ?_
          refine t_alloc 1 (hd 10 (by decide)) zero47 rfl rfl ?_
          refine t_stA (val_tmp rfl) rfl (val_tmp rfl) Try.sizeOf47 ?_
          refine t_nil ?_
          refine c_seq ?_
          refine c_rq ?_
          refine tq_op (hd 28 (by decide)) (q_fldB _ _ (val_tmp rfl) Try.underlying47 rfl 0 (fun w => Try.sizeOf3 w)) ?_
          refine tq_op (hd 29 (by decide)) (q_ldB (val_tmp rfl) rfl Try.isAgg3 (by decide)) ?_
          refine tq_op (hd 30 (by decide)) (q_move (val_tmp rfl)) ?_
          refine tq_op (hd 31 (by decide)) (q_eql (val_tmp rfl) (val_tmp rfl)) ?_
          refine tq_op (hd 32 (by decide)) (q_move (val_tmp rfl)) ?_
          refine tq_opG (g_yes rfl rfl) (hd 33 (by decide)) (fun hg => q_fldB _ _ (val_tmp rfl) Try.underlying47 rfl 0 (fun w => Try.sizeOf4 w)) ?_
          refine tq_opG (g_yes rfl rfl) (hd 34 (by decide)) (fun hg => q_ldB (val_grd (val_tmp rfl) hg) rfl Try.isAgg4 (by decide)) ?_
          refine tq_opG (g_yes rfl rfl) (hd 35 (by decide)) (fun hg => q_not (val_grd (val_tmp rfl) hg)) ?_
          refine tq_op (hd 36 (by decide)) (q_and (val_tmp rfl) (fun h => val_grd (val_tmp rfl) h)) ?_
          refine tq_nil ?_
          refine c_cond (val_tmp rfl) (fun hc4 => ?_) (fun hc4 => ?_)
          · have hc4s := hc4
            try simp only [Bool.and_eq_true, Bool.or_eq_true, Bool.not_eq_true', Bool.not_eq_false', Bool.or_eq_false_iff, Bool.and_eq_false_iff, decide_eq_true_eq, decide_eq_false_iff_not] at hc4s
            refine c_rq ?_
            refine tq_op (hd 37 (by decide)) (q_move (val_tmp rfl)) ?_
            refine tq_op (hd 38 (by decide)) (q_add (val_tmp rfl) val_const (by first | omega | (simp only [Bool.and_eq_true, Bool.or_eq_true, Bool.not_eq_true', Bool.not_eq_false', Bool.or_eq_false_iff, Bool.and_eq_false_iff, decide_eq_true_eq, decide_eq_false_iff_not] at *; omega))) ?_
            refine tq_op (hd 8 (by decide)) (q_assign (val_tmp rfl)) ?_
            refine tq_nil ?_
            refine c_rq ?_
            refine tq_op (hd 39 (by decide)) (q_add (val_tmp rfl) val_const (by first | omega | (simp only [Bool.and_eq_true, Bool.or_eq_true, Bool.not_eq_true', Bool.not_eq_false', Bool.or_eq_false_iff, Bool.and_eq_false_iff, decide_eq_true_eq, decide_eq_false_iff_not] at *; omega))) ?_
            refine tq_op (hd 24 (by decide)) (q_move (val_tmp rfl)) ?_
            refine tq_nil ?_
            have hS := countP_take_s (kidP k) default l i (by omega)
            rw [if_pos (by exact hc4)] at hS
            refine c_next (i + 1) ?_ ?_ ?_
            · show (i + 1) ≤ l.length ∧ (l.take (i + 1)).countP (kidP k) ≤ (i + 1)
              exact ⟨by omega, by omega⟩
            · show l.length - (i + 1) < l.length - i
              omega
            · refine weakE (sl := [(1, iv (k)), (8, iv ((((l.take ((i + 1))).countP (kidP k) : Nat) : Int))), (22, frRow l), (23, iv ((l.length : Int))), (24, iv (((i + 1) : Int)))]) (ow := []) ?_ ?_
              · exact ⟨val_tmp rfl, (val_eq (val_tmp rfl) (congrArg iv (by omega))), val_tmp rfl, val_tmp rfl, val_tmp rfl, trivial⟩
              · exact trivial
          · have hc4s := hc4
            try simp only [Bool.and_eq_true, Bool.or_eq_true, Bool.not_eq_true', Bool.not_eq_false', Bool.or_eq_false_iff, Bool.and_eq_false_iff, decide_eq_true_eq, decide_eq_false_iff_not] at hc4s
            refine c_skip ?_
            refine c_rq ?_
            refine tq_op (hd 39 (by decide)) (q_add (val_tmp rfl) val_const (by first | omega | (simp only [Bool.and_eq_true, Bool.or_eq_true, Bool.not_eq_true', Bool.not_eq_false', Bool.or_eq_false_iff, Bool.and_eq_false_iff, decide_eq_true_eq, decide_eq_false_iff_not] at *; omega))) ?_
            refine tq_op (hd 24 (by decide)) (q_move (val_tmp rfl)) ?_
            refine tq_nil ?_
            have hS := countP_take_s (kidP k) default l i (by omega)
            rw [if_neg (by exact ff hc4)] at hS
            refine c_next (i + 1) ?_ ?_ ?_
            · show (i + 1) ≤ l.length ∧ (l.take (i + 1)).countP (kidP k) ≤ (i + 1)
              exact ⟨by omega, by omega⟩
            · show l.length - (i + 1) < l.length - i
              omega
            · refine weakE (sl := [(1, iv (k)), (8, iv ((((l.take ((i + 1))).countP (kidP k) : Nat) : Int))), (22, frRow l), (23, iv ((l.length : Int))), (24, iv (((i + 1) : Int)))]) (ow := []) ?_ ?_
              · exact ⟨val_tmp rfl, (val_eq (val_tmp rfl) (congrArg iv (by omega))), val_tmp rfl, val_tmp rfl, val_tmp rfl, trivial⟩
              · exact trivial
        · have hc3s := hc3
          try simp only [Bool.and_eq_true, Bool.or_eq_true, Bool.not_eq_true', Bool.not_eq_false', Bool.or_eq_false_iff, Bool.and_eq_false_iff, decide_eq_true_eq, decide_eq_false_iff_not] at hc3s
          refine c_exit ?_
          refine c_seq ?_
          refine c_rq ?_
          refine tq_op (hd 40 (by decide)) (q_move (val_tmp rfl)) ?_
          refine tq_op (hd 4 (by decide)) (q_assign (val_tmp rfl)) ?_
          refine tq_op (hd 5 (by decide)) (q_assign val_const) ?_
          refine tq_nil ?_
          refine c_ret ?_
          exact ret2 rfl (val_tmp rfl) (val_tmp rfl) rfl rfl (by show sv2 (iv ((((l.take i).countP (kidP k) : Nat) : Int))) (iv (0)) = sv2 (iv (lenFr l k).1) (iv (lenFr l k).2); rw [len_3 hc1s hc2s, show l.take i = l from List.take_of_length_le (by omega)])

/-- glasshouse/frame.gone -/
theorem gone_ct (l : List Fr) (k : Int) (hc : checkFr l = 0) (hk : 0 ≤ k ∧ k < (l.length : Int)) : CtM Try.prog 72 [frRow l, iv (k)] [] (SV.own 0) [(0, ownOf frCell 5 default ((goneFr l k)) 47)] := by
  have h8 := check_len hc
  have hlk := fun i => goneK_len l k i
  refine ctM_of Try.func72 rfl (by show 2 ≤ 38; decide) fun E hN => ?_
  have hd : ∀ d, d < 38 → d < E.N := fun d h => Nat.lt_of_lt_of_eq h hN.symm
  refine row_len (val_tmp (s := 0) rfl) fun hl0 => ?_
  refine c_seq ?_
  refine c_rt ?_
  refine t_nilO 1 5 (rowG frCell default []) 47 (.inl rfl) (hd 4 (by decide)) rfl ?_
  refine t_nil ?_
  refine c_seq ?_
  refine c_rt ?_
  refine t_op (hd 7 (by decide)) (q_move (val_tmp rfl)) ?_
  refine t_callM (cargs := [frRow l]) [] [(0, 2)] en73 (hd 8 (by decide)) (by exact ⟨(val_tmp rfl), trivial⟩) (cloneFr_ct l (by omega)) (by exact trivial) rfl rfl rfl rfl ?_
  refine t_op (hd 0 (by decide)) (q_assign (val_tmp rfl)) ?_
  refine t_nil ?_
  refine c_seq ?_
  refine c_rt ?_
  refine t_op (hd 9 (by decide)) (q_move (val_tmp rfl)) ?_
  refine t_op (hd 10 (by decide)) (q_move (val_tmp rfl)) ?_
  refine t_op (hd 11 (by decide)) (q_idxO (val_tmp rfl) rfl (val_tmp rfl) ts27 te27 (by first | omega | (simp only [Bool.and_eq_true, Bool.or_eq_true, Bool.not_eq_true', Bool.not_eq_false', Bool.or_eq_false_iff, Bool.and_eq_false_iff, decide_eq_true_eq, decide_eq_false_iff_not] at *; omega)) (by first | omega | (simp only [Bool.and_eq_true, Bool.or_eq_true, Bool.not_eq_true', Bool.not_eq_false', Bool.or_eq_false_iff, Bool.and_eq_false_iff, decide_eq_true_eq, decide_eq_false_iff_not] at *; omega))) ?_
  refine t_op (hd 12 (by decide)) (q_fldO _ _ (val_tmp rfl) Try.underlying47 rfl 0 (fun w => Try.sizeOf4 w)) ?_
  have hidx0 : Int.toNat k < l.length := by first | omega | (simp; omega)
  refine t_stO (rowG frCell default (l.set (Int.toNat k) ({ (l.getD (Int.toNat k) default) with gone := true }))) (val_tmp rfl) rfl val_const rfl rfl Try.sizeOf4 (by decide) (show l.length = (l.set (Int.toNat k) ({ (l.getD (Int.toNat k) default) with gone := true })).length from List.length_set.symm) (set_at hidx0 rfl) (set_typed hidx0 fun t ht hne => match t, ht, hne with | 0, _, _ => rfl | 1, _, _ => rfl | 2, _, _ => rfl | 3, _, _ => rfl | 4, _, hne => absurd rfl hne) ?_
  refine t_nil ?_
  refine c_seq ?_
  refine c_seq ?_
  refine c_rq ?_
  refine tq_op (hd 13 (by decide)) (q_move (val_tmp rfl)) ?_
  refine tq_op (hd 14 (by decide)) (q_lenO (val_tmp rfl) rfl ts27) ?_
  refine tq_op (hd 15 (by decide)) (q_move val_const) ?_
  refine tq_nil ?_
  refine c_block ?_
  refine c_ownE 2 (goneK l k 0) rfl (by rfl) ?_
  refine c_loop (fun (i : Nat) => (⟨[(0, SV.own 2), (14, iv (((l.set (Int.toNat k) ({ (l.getD (Int.toNat k) default) with gone := true })).length : Int))), (15, iv ((i : Int)))], [(2, ownOf frCell 5 default (goneK l k i) 47)]⟩ : St)) (fun (i : Nat) => i ≤ l.length) (fun (i : Nat) => l.length - i) 0 ?_ ?_ ?_
  · show 0 ≤ l.length
    first | omega | (simp; done) | (refine ⟨?_, ?_⟩ <;> first | omega | (simp; done))
  · refine weakE (sl := [(0, SV.own 2), (14, iv (((l.set (Int.toNat k) ({ (l.getD (Int.toNat k) default) with gone := true })).length : Int))), (15, iv ((0 : Int)))]) (ow := [(2, ownOf frCell 5 default (goneK l k 0) 47)]) ?_ ?_
    · exact ⟨val_tmp rfl, val_tmp rfl, val_tmp rfl, trivial⟩
    · exact ⟨⟨_, rfl, rfl⟩, trivial⟩
  · rintro i hI1
    have hJ1 : i ≤ l.length := hI1
    have hgl := goneK_len l k i
    refine c_seq ?_
    refine c_rq ?_
    refine tq_op (hd 16 (by decide)) (q_lss (val_tmp rfl) (val_tmp rfl)) ?_
    refine tq_nil ?_
    refine c_seq ?_
    refine c_cond (val_tmp rfl) (fun hc1 => ?_) (fun hc1 => ?_)
    · have hc1s := hc1
      try simp only [Bool.and_eq_true, Bool.or_eq_true, Bool.not_eq_true', Bool.not_eq_false', Bool.or_eq_false_iff, Bool.and_eq_false_iff, decide_eq_true_eq, decide_eq_false_iff_not] at hc1s
      simp only [List.length_set] at hc1s
      have hgp := goneK_par hc k i i (by omega)
      refine c_skip ?_
      refine c_seq ?_
      refine c_block ?_
      refine c_seq ?_
      refine c_rq ?_
      refine tq_op (hd 17 (by decide)) (q_move (val_tmp rfl)) ?_
      refine tq_op (hd 5 (by decide)) (q_assign (val_tmp rfl)) ?_
      refine tq_nil ?_
      refine c_seq ?_
      refine c_rq ?_
      refine tq_op (hd 18 (by decide)) (q_move (val_tmp rfl)) ?_
      refine tq_op (hd 19 (by decide)) (q_move (val_tmp rfl)) ?_
      refine tq_op (hd 20 (by decide)) (q_idxON (i := i) (val_tmp rfl) rfl (val_tmp rfl) ts27 te27 (by first | omega | (simp only [Bool.and_eq_true, Bool.or_eq_true, Bool.not_eq_true', Bool.not_eq_false', Bool.or_eq_false_iff, Bool.and_eq_false_iff, decide_eq_true_eq, decide_eq_false_iff_not] at *; omega))) ?_
      refine tq_op (hd 21 (by decide)) (q_fldO _ _ (val_tmp rfl) Try.underlying47 rfl 0 (fun w => Try.sizeOf3 w)) ?_
      refine tq_op (hd 22 (by decide)) (q_ldO (val_tmp rfl) rfl Try.isAgg3 (by decide)) ?_
      refine tq_op (hd 6 (by decide)) (q_assign (val_tmp rfl)) ?_
      refine tq_nil ?_
      refine c_seq ?_
      refine c_rq ?_
      refine tq_op (hd 23 (by decide)) (q_move (val_tmp rfl)) ?_
      refine tq_op (hd 24 (by decide)) (q_geq (val_tmp rfl) val_const) ?_
      refine tq_op (hd 25 (by decide)) (q_move (val_tmp rfl)) ?_
      refine tq_opG (g_yes rfl rfl) (hd 26 (by decide)) (fun hg => q_move (val_tmp rfl)) ?_
      refine tq_opG (g_yes rfl rfl) (hd 27 (by decide)) (fun hg => q_move (val_tmp rfl)) ?_
      refine tq_opG (g_yes rfl rfl) (hd 28 (by decide)) (fun hg => q_idxO (val_grd (val_tmp rfl) hg) rfl (val_grd (val_tmp rfl) hg) ts27 te27 (by exact of_decide_eq_true hg) (by first | omega | (simp only [Bool.and_eq_true, Bool.or_eq_true, Bool.not_eq_true', Bool.not_eq_false', Bool.or_eq_false_iff, Bool.and_eq_false_iff, decide_eq_true_eq, decide_eq_false_iff_not] at *; omega))) ?_
      refine tq_opG (g_yes rfl rfl) (hd 29 (by decide)) (fun hg => q_fldO _ _ (val_grd (val_tmp rfl) hg) Try.underlying47 rfl 0 (fun w => Try.sizeOf4 w)) ?_
      refine tq_opG (g_yes rfl rfl) (hd 30 (by decide)) (fun hg => q_ldO (val_grd (val_tmp rfl) hg) rfl Try.isAgg4 (by decide)) ?_
      refine tq_op (hd 31 (by decide)) (q_and (val_tmp rfl) (fun h => val_grd (val_tmp rfl) h)) ?_
      refine tq_nil ?_
      refine c_cond (val_tmp rfl) (fun hc2 => ?_) (fun hc2 => ?_)
      · have hc2s := hc2
        try simp only [Bool.and_eq_true, Bool.or_eq_true, Bool.not_eq_true', Bool.not_eq_false', Bool.or_eq_false_iff, Bool.and_eq_false_iff, decide_eq_true_eq, decide_eq_false_iff_not] at hc2s
        refine c_rt ?_
        refine t_op (hd 32 (by decide)) (q_move (val_tmp rfl)) ?_
        refine t_op (hd 33 (by decide)) (q_move (val_tmp rfl)) ?_
        refine t_op (hd 34 (by decide)) (q_idxON (i := i) (val_tmp rfl) rfl (val_tmp rfl) ts27 te27 (by first | omega | (simp only [Bool.and_eq_true, Bool.or_eq_true, Bool.not_eq_true', Bool.not_eq_false', Bool.or_eq_false_iff, Bool.and_eq_false_iff, decide_eq_true_eq, decide_eq_false_iff_not] at *; omega))) ?_
        refine t_op (hd 35 (by decide)) (q_fldO _ _ (val_tmp rfl) Try.underlying47 rfl 0 (fun w => Try.sizeOf4 w)) ?_
        have hidx1 : i < (goneK l k i).length := by first | omega | (simp; omega)
        refine t_stO (rowG frCell default ((goneK l k i).set i ({ ((goneK l k i).getD i default) with gone := true }))) (val_tmp rfl) rfl val_const rfl rfl Try.sizeOf4 (by decide) (show (goneK l k i).length = ((goneK l k i).set i ({ ((goneK l k i).getD i default) with gone := true })).length from List.length_set.symm) (set_at hidx1 rfl) (set_typed hidx1 fun t ht hne => match t, ht, hne with | 0, _, _ => rfl | 1, _, _ => rfl | 2, _, _ => rfl | 3, _, _ => rfl | 4, _, hne => absurd rfl hne) ?_
        refine t_nil ?_
        refine c_rq ?_
        refine tq_op (hd 36 (by decide)) (q_add (val_tmp rfl) val_const (by first | omega | (simp only [Bool.and_eq_true, Bool.or_eq_true, Bool.not_eq_true', Bool.not_eq_false', Bool.or_eq_false_iff, Bool.and_eq_false_iff, decide_eq_true_eq, decide_eq_false_iff_not] at *; omega))) ?_
        refine tq_op (hd 15 (by decide)) (q_move (val_tmp rfl)) ?_
        refine tq_nil ?_
        refine k_ownE 2 (goneK l k ((i + 1))) rfl (by rw [goneK, goneStep, if_pos (show goneTest _ _ = true from hc2)]; rfl) ?_
        refine c_next (i + 1) ?_ ?_ ?_
        · show (i + 1) ≤ l.length
          first | omega | (simp; done) | (refine ⟨?_, ?_⟩ <;> first | omega | (simp; done))
        · show l.length - (i + 1) < l.length - i
          omega
        · refine weakE (sl := [(0, SV.own 2), (14, iv (((l.set (Int.toNat k) ({ (l.getD (Int.toNat k) default) with gone := true })).length : Int))), (15, iv (((i + 1) : Int)))]) (ow := [(2, ownOf frCell 5 default (goneK l k ((i + 1))) 47)]) ?_ ?_
          · exact ⟨val_tmp rfl, val_tmp rfl, val_tmp rfl, trivial⟩
          · exact ⟨⟨_, rfl, rfl⟩, trivial⟩
      · have hc2s := hc2
        try simp only [Bool.and_eq_true, Bool.or_eq_true, Bool.not_eq_true', Bool.not_eq_false', Bool.or_eq_false_iff, Bool.and_eq_false_iff, decide_eq_true_eq, decide_eq_false_iff_not] at hc2s
        refine c_skip ?_
        refine c_rq ?_
        refine tq_op (hd 36 (by decide)) (q_add (val_tmp rfl) val_const (by first | omega | (simp only [Bool.and_eq_true, Bool.or_eq_true, Bool.not_eq_true', Bool.not_eq_false', Bool.or_eq_false_iff, Bool.and_eq_false_iff, decide_eq_true_eq, decide_eq_false_iff_not] at *; omega))) ?_
        refine tq_op (hd 15 (by decide)) (q_move (val_tmp rfl)) ?_
        refine tq_nil ?_
        refine k_ownE 2 (goneK l k ((i + 1))) rfl (by rw [goneK, goneStep, if_neg (show ¬ goneTest _ _ = true from ff hc2)]) ?_
        refine c_next (i + 1) ?_ ?_ ?_
        · show (i + 1) ≤ l.length
          first | omega | (simp; done) | (refine ⟨?_, ?_⟩ <;> first | omega | (simp; done))
        · show l.length - (i + 1) < l.length - i
          omega
        · refine weakE (sl := [(0, SV.own 2), (14, iv (((l.set (Int.toNat k) ({ (l.getD (Int.toNat k) default) with gone := true })).length : Int))), (15, iv (((i + 1) : Int)))]) (ow := [(2, ownOf frCell 5 default (goneK l k ((i + 1))) 47)]) ?_ ?_
          · exact ⟨val_tmp rfl, val_tmp rfl, val_tmp rfl, trivial⟩
          · exact ⟨⟨_, rfl, rfl⟩, trivial⟩
    · have hc1s := hc1
      try simp only [Bool.and_eq_true, Bool.or_eq_true, Bool.not_eq_true', Bool.not_eq_false', Bool.or_eq_false_iff, Bool.and_eq_false_iff, decide_eq_true_eq, decide_eq_false_iff_not] at hc1s
      simp only [List.length_set] at hc1s
      refine c_exit ?_
      refine c_seq ?_
      refine c_rq ?_
      refine tq_op (hd 37 (by decide)) (q_move (val_tmp rfl)) ?_
      refine tq_op (hd 4 (by decide)) (q_assign (val_tmp rfl)) ?_
      refine tq_nil ?_
      refine c_mv 2 0 rfl rfl ?_
      refine c_ownE 0 ((goneFr l k)) rfl (by rw [show i = l.length by omega]; rfl) ?_
      refine c_ret ?_
      exact retM1 rfl (val_tmp rfl) (by exact ⟨⟨_, rfl, rfl⟩, trivial⟩) (by show SV.own 0 = SV.own 0; rfl)

/-- glasshouse/frame.Discard -/
theorem discard_ct (l : List Fr) (k : Int) : Ct Try.prog 39 [frRow l, iv (k)] (sv2 (frRow (discardFr l k).1) (iv (discardFr l k).2)) := by
  refine ct_of Try.func39 rfl (by show 2 ≤ 22; decide) fun E hN => ?_
  have hd : ∀ d, d < 22 → d < E.N := fun d h => Nat.lt_of_lt_of_eq h hN.symm
  refine row_len (val_tmp (s := 0) rfl) fun hl0 => ?_
  refine c_seq ?_
  refine c_rq ?_
  refine tq_op (hd 4 (by decide)) (q_assign (val_nil (k := 5) (get := rowG frCell default []))) ?_
  refine tq_op (hd 5 (by decide)) (q_assign val_const) ?_
  refine tq_nil ?_
  refine c_seq ?_
  refine c_seq ?_
  refine c_rq ?_
  refine tq_op (hd 8 (by decide)) (q_move (val_tmp rfl)) ?_
  refine tq_call en21 (hd 9 (by decide)) (by exact ⟨⟨(val_tmp rfl), rfl⟩, trivial⟩) (check_ct l) ?_
  refine tq_op (hd 6 (by decide)) (q_assign (val_tmp rfl)) ?_
  refine tq_nil ?_
  refine c_seq ?_
  refine c_rq ?_
  refine tq_op (hd 10 (by decide)) (q_move (val_tmp rfl)) ?_
  refine tq_op (hd 11 (by decide)) (q_neq (val_tmp rfl) val_const) ?_
  refine tq_nil ?_
  refine c_cond (val_tmp rfl) (fun hc1 => ?_) (fun hc1 => ?_)
  · have hc1s := hc1
    try simp only [Bool.and_eq_true, Bool.or_eq_true, Bool.not_eq_true', Bool.not_eq_false', Bool.or_eq_false_iff, Bool.and_eq_false_iff, decide_eq_true_eq, decide_eq_false_iff_not] at hc1s
    refine c_seq ?_
    refine c_rq ?_
    refine tq_op (hd 12 (by decide)) (q_move (val_tmp rfl)) ?_
    refine tq_op (hd 4 (by decide)) (q_assign (val_nil (k := 5) (get := rowG frCell default []))) ?_
    refine tq_op (hd 5 (by decide)) (q_assign (val_tmp rfl)) ?_
    refine tq_nil ?_
    refine c_ret ?_
    exact ret2 rfl (val_tmp rfl) (val_tmp rfl) rfl rfl (by show sv2 (frRow ([])) (iv (checkFr l)) = sv2 (frRow (discardFr l k).1) (iv (discardFr l k).2); rw [disc_1 hc1s])
  · have hc1s := hc1
    try simp only [Bool.and_eq_true, Bool.or_eq_true, Bool.not_eq_true', Bool.not_eq_false', Bool.or_eq_false_iff, Bool.and_eq_false_iff, decide_eq_true_eq, decide_eq_false_iff_not] at hc1s
    have hc0 := hc1s
    refine c_skip ?_
    refine c_seq ?_
    refine c_seq ?_
    refine c_rq ?_
    refine tq_op (hd 13 (by decide)) (q_move (val_tmp rfl)) ?_
    refine tq_op (hd 14 (by decide)) (q_move (val_tmp rfl)) ?_
    refine tq_call en22 (hd 15 (by decide)) (by exact ⟨⟨(val_tmp rfl), rfl⟩, ⟨(val_tmp rfl), rfl⟩, trivial⟩) (holds_ct l k) ?_
    refine tq_op (hd 7 (by decide)) (q_assign (val_tmp rfl)) ?_
    refine tq_nil ?_
    refine c_seq ?_
    refine c_rq ?_
    refine tq_op (hd 16 (by decide)) (q_move (val_tmp rfl)) ?_
    refine tq_op (hd 17 (by decide)) (q_neq (val_tmp rfl) val_const) ?_
    refine tq_nil ?_
    refine c_cond (val_tmp rfl) (fun hc2 => ?_) (fun hc2 => ?_)
    · have hc2s := hc2
      try simp only [Bool.and_eq_true, Bool.or_eq_true, Bool.not_eq_true', Bool.not_eq_false', Bool.or_eq_false_iff, Bool.and_eq_false_iff, decide_eq_true_eq, decide_eq_false_iff_not] at hc2s
      refine c_seq ?_
      refine c_rq ?_
      refine tq_op (hd 18 (by decide)) (q_move (val_tmp rfl)) ?_
      refine tq_op (hd 4 (by decide)) (q_assign (val_nil (k := 5) (get := rowG frCell default []))) ?_
      refine tq_op (hd 5 (by decide)) (q_assign (val_tmp rfl)) ?_
      refine tq_nil ?_
      refine c_ret ?_
      exact ret2 rfl (val_tmp rfl) (val_tmp rfl) rfl rfl (by show sv2 (frRow ([])) (iv (holdsFr l k)) = sv2 (frRow (discardFr l k).1) (iv (discardFr l k).2); rw [disc_2 hc1s hc2s])
    · have hc2s := hc2
      try simp only [Bool.and_eq_true, Bool.or_eq_true, Bool.not_eq_true', Bool.not_eq_false', Bool.or_eq_false_iff, Bool.and_eq_false_iff, decide_eq_true_eq, decide_eq_false_iff_not] at hc2s
      have hB := holds_in hc2s
      refine c_skip ?_
      refine c_seq ?_
      refine c_rt ?_
      refine t_op (hd 19 (by decide)) (q_move (val_tmp rfl)) ?_
      refine t_op (hd 20 (by decide)) (q_move (val_tmp rfl)) ?_
      refine t_callM (cargs := [frRow l, iv (k)]) [] [(0, 1)] en72 (hd 21 (by decide)) (by exact ⟨(val_tmp rfl), (val_tmp rfl), trivial⟩) (gone_ct l k (by assumption) (by omega)) (by exact trivial) rfl rfl rfl rfl ?_
      refine t_op (hd 4 (by decide)) (q_assign (val_tmp rfl)) ?_
      refine t_op (hd 5 (by decide)) (q_assign val_const) ?_
      refine t_nil ?_
      refine c_frz 1 rfl ?_
      refine c_ret ?_
      exact ret2 rfl (val_tmp rfl) (val_tmp rfl) rfl rfl (by show sv2 (frRow ((goneFr l k))) (iv (0)) = sv2 (frRow (discardFr l k).1) (iv (discardFr l k).2); rw [disc_3 hc1s hc2s])

end Go.Proofs.Ytghkpailmdlhgaa
