import Derived.Test.YtghkpailmdlhgaaW12
set_option linter.unusedVariables false
set_option linter.unusedSimpArgs false
namespace Go.Proofs.Ytghkpailmdlhgaa
open Go.RowKit Go.Eng
/-- slices.EqualFunc[[]glasshouse/api.Cell,[]glasshouse/api.Cell,glasshouse/api.Cell,glasshouse/api.Cell] -/
theorem eqfCl_ct {f : FuncId} {caps : List SV} (p : Cl → Cl → Bool) (hE : Enters Try.prog f) (hro : allRO caps = true) (hC : ∀ x y, Ct Try.prog f ([.agg 2 (clCell x), .agg 2 (clCell y)] ++ caps) (bv (p x y))) (l m : List Cl) : Ct Try.prog 66 [clRow l, clRow m, fnA f caps] (bv (eqF p l m)) := by
  refine ct_of Try.func66 rfl (by show 3 ≤ 32; decide) fun E hN => ?_
  have hd : ∀ d, d < 32 → d < E.N := fun d h => Nat.lt_of_lt_of_eq h hN.symm
  refine row_len (val_tmp (s := 0) rfl) fun hl0 => ?_
  refine row_len (val_tmp (s := 1) rfl) fun hl1 => ?_
  refine c_seq ?_
  refine c_rq ?_
  refine tq_op (hd 6 (by decide)) (q_assign val_const) ?_
  refine tq_nil ?_
  refine c_seq ?_
  refine c_seq ?_
  refine c_rq ?_
  refine tq_op (hd 10 (by decide)) (q_move (val_tmp rfl)) ?_
  refine tq_op (hd 11 (by decide)) (q_len (val_tmp rfl) ts33) ?_
  refine tq_op (hd 12 (by decide)) (q_move (val_tmp rfl)) ?_
  refine tq_op (hd 13 (by decide)) (q_len (val_tmp rfl) ts33) ?_
  refine tq_op (hd 14 (by decide)) (q_neq (val_tmp rfl) (val_tmp rfl)) ?_
  refine tq_nil ?_
  refine c_cond (val_tmp rfl) (fun hc1 => ?_) (fun hc1 => ?_)
  · have hc1s := hc1
    try simp only [Bool.and_eq_true, Bool.or_eq_true, Bool.not_eq_true', Bool.not_eq_false', Bool.or_eq_false_iff, Bool.and_eq_false_iff, decide_eq_true_eq, decide_eq_false_iff_not] at hc1s
    refine c_seq ?_
    refine c_rq ?_
    refine tq_op (hd 6 (by decide)) (q_assign val_const) ?_
    refine tq_nil ?_
    refine c_ret ?_
    exact ret1 rfl (val_tmp rfl) rfl (by show bv (false) = bv (eqF p l m); rw [eqF_len (by omega)])
  · have hc1s := hc1
    try simp only [Bool.and_eq_true, Bool.or_eq_true, Bool.not_eq_true', Bool.not_eq_false', Bool.or_eq_false_iff, Bool.and_eq_false_iff, decide_eq_true_eq, decide_eq_false_iff_not] at hc1s
    refine c_skip ?_
    refine c_seq ?_
    refine c_seq ?_
    refine c_rq ?_
    refine tq_op (hd 15 (by decide)) (q_move (val_tmp rfl)) ?_
    refine tq_op (hd 16 (by decide)) (q_len (val_tmp rfl) ts33) ?_
    refine tq_op (hd 17 (by decide)) (q_move val_const) ?_
    refine tq_nil ?_
    refine c_block ?_
    refine c_loop (fun (i : Nat) => (⟨[(1, clRow m), (2, fnA f caps), (15, clRow l), (16, iv ((l.length : Int))), (17, iv ((i : Int)))], []⟩ : St)) (fun (i : Nat) => i ≤ l.length ∧ pre default p l m i) (fun (i : Nat) => l.length - i) 0 ?_ ?_ ?_
    · show 0 ≤ l.length ∧ pre default p l m 0
      exact ⟨Nat.zero_le _, by omega, fun j hj => absurd hj (Nat.not_lt_zero _)⟩
    · refine weakE (sl := [(1, clRow m), (2, fnA f caps), (15, clRow l), (16, iv ((l.length : Int))), (17, iv ((0 : Int)))]) (ow := []) ?_ ?_
      · exact ⟨val_tmp rfl, val_tmp rfl, val_tmp rfl, val_tmp rfl, val_tmp rfl, trivial⟩
      · exact trivial
    · rintro i hI1
      have hJ1 : i ≤ l.length ∧ pre default p l m i := hI1
      have hlm := hJ1.2.1
      refine c_seq ?_
      refine c_rq ?_
      refine tq_op (hd 18 (by decide)) (q_lss (val_tmp rfl) (val_tmp rfl)) ?_
      refine tq_nil ?_
      refine c_seq ?_
      refine c_cond (val_tmp rfl) (fun hc2 => ?_) (fun hc2 => ?_)
      · have hc2s := hc2
        try simp only [Bool.and_eq_true, Bool.or_eq_true, Bool.not_eq_true', Bool.not_eq_false', Bool.or_eq_false_iff, Bool.and_eq_false_iff, decide_eq_true_eq, decide_eq_false_iff_not] at hc2s
        refine c_skip ?_
        refine c_seq ?_
        refine c_block ?_
        refine c_seq ?_
        refine c_rt ?_
        refine t_op (hd 19 (by decide)) (q_move (val_tmp rfl)) ?_
        refine t_op (hd 20 (by decide)) (q_idxN (i := i) (val_tmp rfl) (val_tmp rfl) ts33 te33 (by first | omega | (simp only [Bool.and_eq_true, Bool.or_eq_true, Bool.not_eq_true', Bool.not_eq_false', Bool.or_eq_false_iff, Bool.and_eq_false_iff, decide_eq_true_eq, decide_eq_false_iff_not] at *; omega))) ?_
        refine t_op (hd 21 (by decide)) (q_ldA (val_tmp rfl) Try.isAgg43 Try.sizeOf43 (by decide)) ?_
        refine t_alloc 1 (hd 8 (by decide)) zero43 rfl rfl ?_
        refine t_op (hd 7 (by decide)) (q_assign (val_tmp rfl)) ?_
        refine t_stA (val_tmp rfl) rfl (val_tmp rfl) Try.sizeOf43 ?_
        refine t_nil ?_
        refine c_seq ?_
        refine c_rt ?_
        refine t_op (hd 22 (by decide)) (q_move (val_tmp rfl)) ?_
        refine t_op (hd 23 (by decide)) (q_move (val_tmp rfl)) ?_
        refine t_op (hd 24 (by decide)) (q_idxN (i := i) (val_tmp rfl) (val_tmp rfl) ts33 te33 (by first | omega | (simp only [Bool.and_eq_true, Bool.or_eq_true, Bool.not_eq_true', Bool.not_eq_false', Bool.or_eq_false_iff, Bool.and_eq_false_iff, decide_eq_true_eq, decide_eq_false_iff_not] at *; omega))) ?_
        refine t_op (hd 25 (by decide)) (q_ldA (val_tmp rfl) Try.isAgg43 Try.sizeOf43 (by decide)) ?_
        refine t_alloc 2 (hd 9 (by decide)) zero43 rfl rfl ?_
        refine t_stA (val_tmp rfl) rfl (val_tmp rfl) Try.sizeOf43 ?_
        refine t_nil ?_
        refine c_seq ?_
        refine c_rq ?_
        refine tq_op (hd 26 (by decide)) (q_move (val_tmp rfl)) ?_
        refine tq_op (hd 27 (by decide)) (q_ldBA (val_tmp rfl) rfl Try.isAgg43 Try.sizeOf43 (by decide)) ?_
        refine tq_op (hd 28 (by decide)) (q_ldBA (val_tmp rfl) rfl Try.isAgg43 Try.sizeOf43 (by decide)) ?_
        refine tq_callV (args := [SV.agg 2 (clCell ⟨(l.getD i default).n, (l.getD i default).kids⟩), SV.agg 2 (clCell ⟨(m.getD i default).n, (m.getD i default).kids⟩)]) (caps := caps) (fnval_A (val_tmp rfl)) hro hE (hd 29 (by decide)) (by exact ⟨⟨(val_aggI (g' := clCell ⟨(l.getD i default).n, (l.getD i default).kids⟩) (val_tmp rfl) ⟨⟨trivial, imp_rfl⟩, imp_rfl⟩), rfl⟩, ⟨(val_aggI (g' := clCell ⟨(m.getD i default).n, (m.getD i default).kids⟩) (val_tmp rfl) ⟨⟨trivial, imp_rfl⟩, imp_rfl⟩), rfl⟩, trivial⟩) (hC ⟨(l.getD i default).n, (l.getD i default).kids⟩ ⟨(m.getD i default).n, (m.getD i default).kids⟩) ?_
        refine tq_op (hd 30 (by decide)) (q_not (val_tmp rfl)) ?_
        refine tq_nil ?_
        refine c_cond (val_tmp rfl) (fun hc3 => ?_) (fun hc3 => ?_)
        · have hc3s := hc3
          try simp only [Bool.and_eq_true, Bool.or_eq_true, Bool.not_eq_true', Bool.not_eq_false', Bool.or_eq_false_iff, Bool.and_eq_false_iff, decide_eq_true_eq, decide_eq_false_iff_not] at hc3s
          refine c_seq ?_
          refine c_rq ?_
          refine tq_op (hd 6 (by decide)) (q_assign val_const) ?_
          refine tq_nil ?_
          refine c_ret ?_
          exact ret1 rfl (val_tmp rfl) rfl (by show bv (false) = bv (eqF p l m); rw [eqF_bad default (i := i) (by omega) hlm (by simpa using hc3)])
        · have hc3s := hc3
          try simp only [Bool.and_eq_true, Bool.or_eq_true, Bool.not_eq_true', Bool.not_eq_false', Bool.or_eq_false_iff, Bool.and_eq_false_iff, decide_eq_true_eq, decide_eq_false_iff_not] at hc3s
          refine c_skip ?_
          refine c_rq ?_
          refine tq_op (hd 31 (by decide)) (q_add (val_tmp rfl) val_const (by first | omega | (simp only [Bool.and_eq_true, Bool.or_eq_true, Bool.not_eq_true', Bool.not_eq_false', Bool.or_eq_false_iff, Bool.and_eq_false_iff, decide_eq_true_eq, decide_eq_false_iff_not] at *; omega))) ?_
          refine tq_op (hd 17 (by decide)) (q_move (val_tmp rfl)) ?_
          refine tq_nil ?_
          refine c_next (i + 1) ?_ ?_ ?_
          · show (i + 1) ≤ l.length ∧ pre default p l m (i + 1)
            exact ⟨by omega, pre_s hJ1.2 (by simpa using hc3)⟩
          · show l.length - (i + 1) < l.length - i
            omega
          · refine weakE (sl := [(1, clRow m), (2, fnA f caps), (15, clRow l), (16, iv ((l.length : Int))), (17, iv (((i + 1) : Int)))]) (ow := []) ?_ ?_
            · exact ⟨val_tmp rfl, val_tmp rfl, val_tmp rfl, val_tmp rfl, val_tmp rfl, trivial⟩
            · exact trivial
      · have hc2s := hc2
        try simp only [Bool.and_eq_true, Bool.or_eq_true, Bool.not_eq_true', Bool.not_eq_false', Bool.or_eq_false_iff, Bool.and_eq_false_iff, decide_eq_true_eq, decide_eq_false_iff_not] at hc2s
        refine c_exit ?_
        refine c_seq ?_
        refine c_rq ?_
        refine tq_op (hd 6 (by decide)) (q_assign val_const) ?_
        refine tq_nil ?_
        refine c_ret ?_
        exact ret1 rfl (val_tmp rfl) rfl (by show bv (true) = bv (eqF p l m); rw [eqF_all default hlm (fun j hj => hJ1.2.2 j (by omega))])

/-- glasshouse/clone.Same -/
theorem gsame_ct (g h : List Cl) : Ct Try.prog 27 [SV.agg 1 (grG g), SV.agg 1 (grG h)] (bv (eqGr g h)) := by
  refine ct_of Try.func27 rfl (by show 2 ≤ 10; decide) fun E hN => ?_
  have hd : ∀ d, d < 10 → d < E.N := fun d h => Nat.lt_of_lt_of_eq h hN.symm
  refine c_seq ?_
  refine c_rt ?_
  refine t_boxA 1 (hd 2 (by decide)) (val_tmp rfl) rfl rfl ?_
  refine t_boxA 2 (hd 3 (by decide)) (val_tmp rfl) rfl rfl ?_
  refine t_op (hd 4 (by decide)) (q_assign val_const) ?_
  refine t_nil ?_
  refine c_seq ?_
  refine c_rq ?_
  refine tq_op (hd 5 (by decide)) (q_fldB _ _ (val_tmp rfl) Try.underlying35 rfl 0 (fun w => Try.sizeOf33 w)) ?_
  refine tq_op (hd 6 (by decide)) (q_ldB (val_tmp rfl) rfl Try.isAgg33 (by decide)) ?_
  refine tq_op (hd 7 (by decide)) (q_fldB _ _ (val_tmp rfl) Try.underlying35 rfl 0 (fun w => Try.sizeOf33 w)) ?_
  refine tq_op (hd 8 (by decide)) (q_ldB (val_tmp rfl) rfl Try.isAgg33 (by decide)) ?_
  refine tq_call en66 (hd 9 (by decide)) (by exact ⟨⟨(val_tmp rfl), rfl⟩, ⟨(val_tmp rfl), rfl⟩, ⟨(val_A (val_func) rfl), rfl⟩, trivial⟩) (eqfCl_ct eqCl en67 rfl (fun x y => gsame1_ct x y) g h) ?_
  refine tq_op (hd 4 (by decide)) (q_assign (val_tmp rfl)) ?_
  refine tq_nil ?_
  refine c_ret ?_
  exact ret1 rfl (val_tmp rfl) rfl (by show bv (eqF eqCl g h) = bv (eqGr g h); rfl)

/-- glasshouse/glasshouseref.SameGraph -/
theorem rgsame_ct (g h : List Cl) : Ct Try.prog 34 [SV.agg 1 (grG g), SV.agg 1 (grG h)] (bv (eqGr g h)) := by
  refine ct_of Try.func34 rfl (by show 2 ≤ 10; decide) fun E hN => ?_
  have hd : ∀ d, d < 10 → d < E.N := fun d h => Nat.lt_of_lt_of_eq h hN.symm
  refine c_seq ?_
  refine c_rt ?_
  refine t_boxA 1 (hd 2 (by decide)) (val_tmp rfl) rfl rfl ?_
  refine t_boxA 2 (hd 3 (by decide)) (val_tmp rfl) rfl rfl ?_
  refine t_op (hd 4 (by decide)) (q_assign val_const) ?_
  refine t_nil ?_
  refine c_seq ?_
  refine c_rq ?_
  refine tq_op (hd 5 (by decide)) (q_fldB _ _ (val_tmp rfl) Try.underlying35 rfl 0 (fun w => Try.sizeOf33 w)) ?_
  refine tq_op (hd 6 (by decide)) (q_ldB (val_tmp rfl) rfl Try.isAgg33 (by decide)) ?_
  refine tq_op (hd 7 (by decide)) (q_fldB _ _ (val_tmp rfl) Try.underlying35 rfl 0 (fun w => Try.sizeOf33 w)) ?_
  refine tq_op (hd 8 (by decide)) (q_ldB (val_tmp rfl) rfl Try.isAgg33 (by decide)) ?_
  refine tq_call en66 (hd 9 (by decide)) (by exact ⟨⟨(val_tmp rfl), rfl⟩, ⟨(val_tmp rfl), rfl⟩, ⟨(val_A (val_func) rfl), rfl⟩, trivial⟩) (eqfCl_ct eqCl en71 rfl (fun x y => rgsame1_ct x y) g h) ?_
  refine tq_op (hd 4 (by decide)) (q_assign (val_tmp rfl)) ?_
  refine tq_nil ?_
  refine c_ret ?_
  exact ret1 rfl (val_tmp rfl) rfl (by show bv (eqF eqCl g h) = bv (eqGr g h); rfl)

/-- glasshouse/clone.Copy -/
theorem copy_ct (g : List Cl) : Ct Try.prog 24 [SV.agg 1 (grG g)] (sv2 (SV.agg 1 (grG (copyR g).1)) (iv (copyR g).2)) := by
  refine ct_of Try.func24 rfl (by show 1 ≤ 110; decide) fun E hN => ?_
  have hd : ∀ d, d < 110 → d < E.N := fun d h => Nat.lt_of_lt_of_eq h hN.symm
  refine c_seq ?_
  refine c_rt ?_
  refine t_boxA 1 (hd 1 (by decide)) (val_tmp rfl) rfl rfl ?_
  refine t_alloc 2 (hd 2 (by decide)) zero35 rfl rfl ?_
  refine t_op (hd 3 (by decide)) (q_assign val_const) ?_
  refine t_nil ?_
  refine c_seq ?_
  refine c_seq ?_
  refine c_rq ?_
  refine tq_op (hd 18 (by decide)) (q_ldBA (val_tmp rfl) rfl Try.isAgg35 Try.sizeOf35 (by decide)) ?_
  refine tq_call en28 (hd 19 (by decide)) (by exact ⟨⟨(val_aggI (g' := grG g) (val_tmp rfl) ⟨trivial, imp_rfl⟩), rfl⟩, trivial⟩) (gcheck_ct g) ?_
  refine tq_op (hd 4 (by decide)) (q_assign (val_tmp rfl)) ?_
  refine tq_nil ?_
  refine c_seq ?_
  refine c_rq ?_
  refine tq_op (hd 20 (by decide)) (q_move (val_tmp rfl)) ?_
  refine tq_op (hd 21 (by decide)) (q_neq (val_tmp rfl) val_const) ?_
  refine tq_nil ?_
  refine c_cond (val_tmp rfl) (fun hc1 => ?_) (fun hc1 => ?_)
  · have hc1s := hc1
    try simp only [Bool.and_eq_true, Bool.or_eq_true, Bool.not_eq_true', Bool.not_eq_false', Bool.or_eq_false_iff, Bool.and_eq_false_iff, decide_eq_true_eq, decide_eq_false_iff_not] at hc1s
    refine c_seq ?_
    refine c_rt ?_
    refine t_op (hd 22 (by decide)) (q_build [] id (cmpG [SV.v (Value.slice none 0 0)]) zero35 build35 (by exact trivial) (by decide) ⟨trivial, rfl⟩) ?_
    refine t_op (hd 23 (by decide)) (q_move (val_tmp rfl)) ?_
    refine t_stA (val_tmp rfl) rfl (val_tmp rfl) Try.sizeOf35 ?_
    refine t_op (hd 3 (by decide)) (q_assign (val_tmp rfl)) ?_
    refine t_nil ?_
    refine c_ret ?_
    exact retR2 rfl (rv_aggI (g' := grG ([])) (rv_cell (val_tmp rfl) rfl Try.isAgg35 Try.sizeOf35) ⟨trivial, imp_nil⟩) (rv_tmp (val_tmp rfl)) rfl rfl (by show sv2 (SV.agg 1 (grG ([]))) (iv (checkGr g)) = sv2 (SV.agg 1 (grG (copyR g).1)) (iv (copyR g).2); rw [copyR_e hc1s])
  · have hc1s := hc1
    try simp only [Bool.and_eq_true, Bool.or_eq_true, Bool.not_eq_true', Bool.not_eq_false', Bool.or_eq_false_iff, Bool.and_eq_false_iff, decide_eq_true_eq, decide_eq_false_iff_not] at hc1s
    have hc0 := hc1s
    have h24 := checkGr_len hc0
    refine c_skip ?_
    refine c_seq ?_
    refine c_seq ?_
    refine c_rq ?_
    refine tq_op (hd 24 (by decide)) (q_fldB _ _ (val_tmp rfl) Try.underlying35 rfl 0 (fun w => Try.sizeOf33 w)) ?_
    refine tq_op (hd 25 (by decide)) (q_ldB (val_tmp rfl) rfl Try.isAgg33 (by decide)) ?_
    refine tq_op (hd 26 (by decide)) (q_len (val_tmp rfl) ts33) ?_
    refine tq_op (hd 27 (by decide)) (q_eql (val_tmp rfl) val_const) ?_
    refine tq_nil ?_
    refine c_cond (val_tmp rfl) (fun hc2 => ?_) (fun hc2 => ?_)
    · have hc2s := hc2
      try simp only [Bool.and_eq_true, Bool.or_eq_true, Bool.not_eq_true', Bool.not_eq_false', Bool.or_eq_false_iff, Bool.and_eq_false_iff, decide_eq_true_eq, decide_eq_false_iff_not] at hc2s
      refine c_seq ?_
      refine c_rt ?_
      refine t_op (hd 28 (by decide)) (q_build [] id (cmpG [SV.v (Value.slice none 0 0)]) zero35 build35 (by exact trivial) (by decide) ⟨trivial, rfl⟩) ?_
      refine t_stA (val_tmp rfl) rfl (val_tmp rfl) Try.sizeOf35 ?_
      refine t_op (hd 3 (by decide)) (q_assign val_const) ?_
      refine t_nil ?_
      refine c_ret ?_
      exact retR2 rfl (rv_aggI (g' := grG ([])) (rv_cell (val_tmp rfl) rfl Try.isAgg35 Try.sizeOf35) ⟨trivial, imp_nil⟩) (rv_tmp (val_tmp rfl)) rfl rfl (by show sv2 (SV.agg 1 (grG ([]))) (iv (0)) = sv2 (SV.agg 1 (grG (copyR g).1)) (iv (copyR g).2); rw [copyR_o hc0, copyGr, if_pos (List.eq_nil_of_length_eq_zero (by omega))])
    · have hc2s := hc2
      try simp only [Bool.and_eq_true, Bool.or_eq_true, Bool.not_eq_true', Bool.not_eq_false', Bool.or_eq_false_iff, Bool.and_eq_false_iff, decide_eq_true_eq, decide_eq_false_iff_not] at hc2s
      have hne : g ≠ [] := fun e => hc2s (by rw [e]; rfl)
      refine c_skip ?_
      refine c_seq ?_
      refine c_rt ?_
      refine t_makeMap 3 (hd 29 (by decide)) rfl ?_
      refine t_putI (l := []) (.inl rfl) Try.underlying78 Try.underlying3 (val_tmp rfl) rfl val_const val_const ?_
      refine t_op (hd 30 (by decide)) (q_move (val_tmp rfl)) ?_
      refine t_op (hd 5 (by decide)) (q_assign (val_tmp rfl)) ?_
      refine t_nil ?_
      refine c_seq ?_
      refine c_rt ?_
      refine t_bsO 4 (n := 1) (zget := fun _ => iv 0) [(fun _ => iv (0))] (rowG inCell 0 [0]) (hd 31 (by decide)) Try.underlying24 (fun w => Try.sizeOf3 w) zero3 (by decide) (by decide) rfl (by decide) ⟨⟨rfl, .inr ⟨rfl, val_const, rfl⟩, rfl⟩, trivial⟩ ⟨trivial, ⟨trivial, rfl⟩⟩ rfl ?_
      refine t_op (hd 6 (by decide)) (q_assign (val_tmp rfl)) ?_
      refine t_nil ?_
      refine c_seq ?_
      refine c_seq ?_
      refine c_rq ?_
      refine tq_op (hd 7 (by decide)) (q_assign val_const) ?_
      refine tq_nil ?_
      refine c_block ?_
      refine c_mapE 3 (imap (plc (bfsAt g 0))) rfl (by rfl) ?_
      refine c_ownE 4 (bfsAt g 0) rfl (by rfl) ?_
      refine c_loop (fun (i : Nat) => (⟨[(1, SV.bp 1 0), (2, SV.bp 2 0), (5, SV.own 3), (6, SV.own 4), (7, iv ((i : Int)))], [(1, Own.box 1 (grG g) 35), (2, Own.box 1 (cmpG [SV.v (Value.slice none 0 0)]) 35), (3, Own.amap (imap (plc (bfsAt g i)))), (4, ownOf inCell 1 0 (bfsAt g i) 3)]⟩ : St)) (fun (i : Nat) => i ≤ (bfsAt g i).length) (fun (i : Nat) => g.length - i) 0 ?_ ?_ ?_
      · show 0 ≤ (bfsAt g 0).length
        exact Nat.zero_le _
      · refine weakE (sl := [(1, SV.bp 1 0), (2, SV.bp 2 0), (5, SV.own 3), (6, SV.own 4), (7, iv ((0 : Int)))]) (ow := [(1, Own.box 1 (grG g) 35), (2, Own.box 1 (cmpG [SV.v (Value.slice none 0 0)]) 35), (3, Own.amap (imap (plc (bfsAt g 0)))), (4, ownOf inCell 1 0 (bfsAt g 0) 3)]) ?_ ?_
        · exact ⟨val_tmp rfl, val_tmp rfl, val_tmp rfl, val_tmp rfl, val_tmp rfl, trivial⟩
        · exact ⟨⟨_, rfl, ⟨rfl, rfl, ⟨trivial, rfl⟩⟩⟩, ⟨_, rfl, ⟨rfl, rfl, ⟨trivial, rfl⟩⟩⟩, ⟨_, rfl, rfl⟩, ⟨_, rfl, rfl⟩, trivial⟩
      · rintro i hI1
        have hJ1 : i ≤ (bfsAt g i).length := hI1
        have hgd := bfsAt_good hc0 hne i
        have hgl := good_len hgd
        refine c_seq ?_
        refine c_seq ?_
        refine c_rq ?_
        refine tq_op (hd 32 (by decide)) (q_move (val_tmp rfl)) ?_
        refine tq_op (hd 33 (by decide)) (q_move (val_tmp rfl)) ?_
        refine tq_op (hd 34 (by decide)) (q_lenO (val_tmp rfl) rfl ts24) ?_
        refine tq_op (hd 35 (by decide)) (q_lss (val_tmp rfl) (val_tmp rfl)) ?_
        refine tq_nil ?_
        refine c_cond (val_tmp rfl) (fun hc3 => ?_) (fun hc3 => ?_)
        · have hc3s := hc3
          try simp only [Bool.and_eq_true, Bool.or_eq_true, Bool.not_eq_true', Bool.not_eq_false', Bool.or_eq_false_iff, Bool.and_eq_false_iff, decide_eq_true_eq, decide_eq_false_iff_not] at hc3s
          have hi : i < (bfsAt g i).length := by omega
          have hx := good_at hgd hi
          have hki := (kidsAt_in hc0 hgd hi).1
          refine c_skip ?_
          refine c_seq ?_
          refine c_block ?_
          refine c_seq ?_
          refine c_rqd (by kernel_rfl) (by kernel_rfl) ?_
          refine tq_op (hd 38 (by decide)) (q_fldB _ _ (val_tmp rfl) Try.underlying35 rfl 0 (fun w => Try.sizeOf33 w)) ?_
          refine tq_op (hd 39 (by decide)) (q_ldB (val_tmp rfl) rfl Try.isAgg33 (by decide)) ?_
          refine tq_op (hd 40 (by decide)) (q_move (val_tmp rfl)) ?_
          refine tq_op (hd 41 (by decide)) (q_move (val_tmp rfl)) ?_
          refine tq_op (hd 42 (by decide)) (q_idxON (i := i) (val_tmp rfl) rfl (val_tmp rfl) ts24 te24 (by first | omega | (simp only [Bool.and_eq_true, Bool.or_eq_true, Bool.not_eq_true', Bool.not_eq_false', Bool.or_eq_false_iff, Bool.and_eq_false_iff, decide_eq_true_eq, decide_eq_false_iff_not] at *; omega))) ?_
          refine tq_op (hd 43 (by decide)) (q_ldO (val_tmp rfl) rfl Try.isAgg3 (by decide)) ?_
          refine tq_op (hd 44 (by decide)) (q_idx (val_tmp rfl) (val_tmp rfl) ts33 te33 (by omega) (by first | omega | (simp only [Bool.and_eq_true, Bool.or_eq_true, Bool.not_eq_true', Bool.not_eq_false', Bool.or_eq_false_iff, Bool.and_eq_false_iff, decide_eq_true_eq, decide_eq_false_iff_not] at *; omega))) ?_
          refine tq_op (hd 45 (by decide)) (q_fld _ _ (val_tmp rfl) Try.underlying43 rfl 0 (fun w => Try.sizeOf24 w)) ?_
          refine tq_op (hd 46 (by decide)) (q_ld (val_tmp rfl) Try.isAgg24 (by decide)) ?_
          refine tq_op (hd 47 (by decide)) (q_len (val_tmp rfl) ts24) ?_
          refine tq_op (hd 48 (by decide)) (q_move val_const) ?_
          refine tq_nil ?_
          refine c_block ?_
          refine c_mapE 3 (imap (plc (addKids (bfsAt g i) ((kidsAt g (bfsAt g i) i).take 0)))) rfl (by rfl) ?_
          refine c_ownE 4 (addKids (bfsAt g i) ((kidsAt g (bfsAt g i) i).take 0)) rfl (by rfl) ?_
          refine c_loop (fun (j : Nat) => (⟨[(1, SV.bp 1 0), (2, SV.bp 2 0), (5, SV.own 3), (6, SV.own 4), (7, iv ((i : Int))), (46, inRow ((g.getD (Int.toNat (((bfsAt g i).getD i 0))) default).kids)), (47, iv ((((g.getD (Int.toNat (((bfsAt g i).getD i 0))) default).kids).length : Int))), (48, iv ((j : Int)))], [(1, Own.box 1 (grG g) 35), (2, Own.box 1 (cmpG [SV.v (Value.slice none 0 0)]) 35), (3, Own.amap (imap (plc (addKids (bfsAt g i) ((kidsAt g (bfsAt g i) i).take j))))), (4, ownOf inCell 1 0 (addKids (bfsAt g i) ((kidsAt g (bfsAt g i) i).take j)) 3)]⟩ : St)) (fun (j : Nat) => j ≤ (kidsAt g (bfsAt g i) i).length) (fun (j : Nat) => (kidsAt g (bfsAt g i) i).length - j) 0 ?_ ?_ ?_
          · show 0 ≤ (kidsAt g (bfsAt g i) i).length
            exact Nat.zero_le _
          · refine weakE (sl := [(1, SV.bp 1 0), (2, SV.bp 2 0), (5, SV.own 3), (6, SV.own 4), (7, iv ((i : Int))), (46, inRow ((g.getD (Int.toNat (((bfsAt g i).getD i 0))) default).kids)), (47, iv ((((g.getD (Int.toNat (((bfsAt g i).getD i 0))) default).kids).length : Int))), (48, iv ((0 : Int)))]) (ow := [(1, Own.box 1 (grG g) 35), (2, Own.box 1 (cmpG [SV.v (Value.slice none 0 0)]) 35), (3, Own.amap (imap (plc (addKids (bfsAt g i) ((kidsAt g (bfsAt g i) i).take 0))))), (4, ownOf inCell 1 0 (addKids (bfsAt g i) ((kidsAt g (bfsAt g i) i).take 0)) 3)]) ?_ ?_
            · exact ⟨val_tmp rfl, val_tmp rfl, val_tmp rfl, val_tmp rfl, val_tmp rfl, val_tmp rfl, val_tmp rfl, val_tmp rfl, trivial⟩
            · exact ⟨⟨_, rfl, ⟨rfl, rfl, ⟨trivial, rfl⟩⟩⟩, ⟨_, rfl, ⟨rfl, rfl, ⟨trivial, rfl⟩⟩⟩, ⟨_, rfl, rfl⟩, ⟨_, rfl, rfl⟩, trivial⟩
          · rintro j hI2
            have hJ2 : j ≤ (kidsAt g (bfsAt g i) i).length := hI2
            have hal := addKids_len hc0 hgd hi j
            refine c_seq ?_
            refine c_rq ?_
            refine tq_op (hd 49 (by decide)) (q_lss (val_tmp rfl) (val_tmp rfl)) ?_
            refine tq_nil ?_
            refine c_seq ?_
            refine c_cond (val_tmp rfl) (fun hc4 => ?_) (fun hc4 => ?_)
            · have hc4s := hc4
              try simp only [Bool.and_eq_true, Bool.or_eq_true, Bool.not_eq_true', Bool.not_eq_false', Bool.or_eq_false_iff, Bool.and_eq_false_iff, decide_eq_true_eq, decide_eq_false_iff_not] at hc4s
              have hj : j < (kidsAt g (bfsAt g i) i).length := by have h4 := hc4s; change (j : Int) < ((kidsAt g (bfsAt g i) i).length : Int) at h4; omega
              refine c_skip ?_
              refine c_seq ?_
              refine c_block ?_
              refine c_seq ?_
              refine c_rq ?_
              refine tq_op (hd 50 (by decide)) (q_idxN (i := j) (val_tmp rfl) (val_tmp rfl) ts24 te24 (by exact hj)) ?_
              refine tq_op (hd 51 (by decide)) (q_ld (val_tmp rfl) Try.isAgg3 (by decide)) ?_
              refine tq_op (hd 9 (by decide)) (q_assign (val_tmp rfl)) ?_
              refine tq_nil ?_
              refine c_seq ?_
              refine c_rq ?_
              refine tq_op (hd 53 (by decide)) (q_move (val_tmp rfl)) ?_
              refine tq_op (hd 54 (by decide)) (q_move (val_tmp rfl)) ?_
              refine tq_op (hd 55 (by decide)) (q_lookI2 (l := plc (addKids (bfsAt g i) ((kidsAt g (bfsAt g i) i).take j))) Try.underlying78 Try.underlying3 (fun w => Try.zeroValue3 w) (val_tmp rfl) rfl (val_tmp rfl)) ?_
              refine tq_op (hd 52 (by decide)) (q_move (val_tmp rfl)) ?_
              refine tq_op (hd 56 (by decide)) (q_ext (val_tmp rfl) (by decide)) ?_
              refine tq_op (hd 57 (by decide)) (q_ext (val_tmp rfl) (by decide)) ?_
              refine tq_op (hd 10 (by decide)) (q_assign (val_tmp rfl)) ?_
              refine tq_op (hd 11 (by decide)) (q_assign (val_tmp rfl)) ?_
              refine tq_nil ?_
              refine c_seq ?_
              refine c_rq ?_
              refine tq_op (hd 58 (by decide)) (q_move (val_tmp rfl)) ?_
              refine tq_op (hd 59 (by decide)) (q_not (val_tmp rfl)) ?_
              refine tq_nil ?_
              refine c_cond (val_tmp rfl) (fun hc5 => ?_) (fun hc5 => ?_)
              · have hc5s := hc5
                try simp only [Bool.and_eq_true, Bool.or_eq_true, Bool.not_eq_true', Bool.not_eq_false', Bool.or_eq_false_iff, Bool.and_eq_false_iff, decide_eq_true_eq, decide_eq_false_iff_not] at hc5s
                refine c_seq ?_
                refine c_rt ?_
                refine t_op (hd 60 (by decide)) (q_move (val_tmp rfl)) ?_
                refine t_op (hd 61 (by decide)) (q_move (val_tmp rfl)) ?_
                refine t_op (hd 62 (by decide)) (q_move (val_tmp rfl)) ?_
                refine t_op (hd 63 (by decide)) (q_lenO (val_tmp rfl) rfl ts24) ?_
                refine t_putI (l := plc (addKids (bfsAt g i) ((kidsAt g (bfsAt g i) i).take j))) (.inr rfl) Try.underlying78 Try.underlying3 (val_tmp rfl) rfl (val_tmp rfl) (val_tmp rfl) ?_
                refine t_nil ?_
                refine c_rt ?_
                refine t_op (hd 64 (by decide)) (q_move (val_tmp rfl)) ?_
                refine t_op (hd 65 (by decide)) (q_move (val_tmp rfl)) ?_
                refine t_w (hd 66 (by decide)) (w_bs (n := 1) (zget := fun _ => iv 0) [(fun _ => iv ((((g.getD (Int.toNat (((bfsAt g i).getD i 0))) default).kids).getD j 0)))] (rowG inCell 0 [(((g.getD (Int.toNat (((bfsAt g i).getD i 0))) default).kids).getD j 0)]) Try.underlying24 (fun w => Try.sizeOf3 w) zero3 (by decide) rfl (by decide) ⟨⟨rfl, .inr ⟨rfl, (val_tmp rfl), rfl⟩, rfl⟩, trivial⟩ ⟨trivial, ⟨trivial, rfl⟩⟩) ?_
                refine t_app 5 (rowG inCell 0 ((addKids (bfsAt g i) ((kidsAt g (bfsAt g i) i).take j)) ++ ([(((g.getD (Int.toNat (((bfsAt g i).getD i 0))) default).kids).getD j 0)]))) (hd 67 (by decide)) eo24 (val_tmp rfl) rfl (val_tmp rfl) rfl (len_app (addKids (bfsAt g i) ((kidsAt g (bfsAt g i) i).take j)) ([(((g.getD (Int.toNat (((bfsAt g i).getD i 0))) default).kids).getD j 0)])) (by first | (simp only [maxLen, List.length_append, List.length_set, List.length_nil, List.length_cons]; (have hq := hal; omega)) | (simp only [maxLen]; (have hq := hal; omega))) (by first | (simp only [List.length_append, List.length_set, List.length_nil, List.length_cons]; (have hq := hal; omega)) | ((have hq := hal; omega))) (app_typed (l := (addKids (bfsAt g i) ((kidsAt g (bfsAt g i) i).take j))) (m := ([(((g.getD (Int.toNat (((bfsAt g i).getD i 0))) default).kids).getD j 0)]))) ?_
                refine t_op (hd 6 (by decide)) (q_assign (val_tmp rfl)) ?_
                refine t_nil ?_
                refine c_rq ?_
                refine tq_op (hd 68 (by decide)) (q_add (val_tmp rfl) val_const (by first | omega | (simp only [Bool.and_eq_true, Bool.or_eq_true, Bool.not_eq_true', Bool.not_eq_false', Bool.or_eq_false_iff, Bool.and_eq_false_iff, decide_eq_true_eq, decide_eq_false_iff_not] at *; omega))) ?_
                refine tq_op (hd 48 (by decide)) (q_move (val_tmp rfl)) ?_
                refine tq_nil ?_
                have hk : ¬ (kidsAt g (bfsAt g i) i).getD j 0 ∈ addKids (bfsAt g i) ((kidsAt g (bfsAt g i) i).take j) := kget_none hc5s
                have hs := addKids_s (o := bfsAt g i) (ks := kidsAt g (bfsAt g i) i) (j := j) hj
                rw [addKid, if_neg hk] at hs
                refine k_mv 5 4 rfl rfl ?_
                refine k_mapE 3 (imap (plc (addKids (bfsAt g i) ((kidsAt g (bfsAt g i) i).take ((j + 1)))))) rfl (by rw [hs, ← kput_plc hk]; rfl) ?_
                refine k_ownE 4 (addKids (bfsAt g i) ((kidsAt g (bfsAt g i) i).take ((j + 1)))) rfl (by exact hs.symm) ?_
                refine c_next (j + 1) ?_ ?_ ?_
                · show (j + 1) ≤ (kidsAt g (bfsAt g i) i).length
                  omega
                · show (kidsAt g (bfsAt g i) i).length - (j + 1) < (kidsAt g (bfsAt g i) i).length - j
                  omega
                · refine weakE (sl := [(1, SV.bp 1 0), (2, SV.bp 2 0), (5, SV.own 3), (6, SV.own 4), (7, iv ((i : Int))), (46, inRow ((g.getD (Int.toNat (((bfsAt g i).getD i 0))) default).kids)), (47, iv ((((g.getD (Int.toNat (((bfsAt g i).getD i 0))) default).kids).length : Int))), (48, iv (((j + 1) : Int)))]) (ow := [(1, Own.box 1 (grG g) 35), (2, Own.box 1 (cmpG [SV.v (Value.slice none 0 0)]) 35), (3, Own.amap (imap (plc (addKids (bfsAt g i) ((kidsAt g (bfsAt g i) i).take ((j + 1))))))), (4, ownOf inCell 1 0 (addKids (bfsAt g i) ((kidsAt g (bfsAt g i) i).take ((j + 1)))) 3)]) ?_ ?_
                  · exact ⟨val_tmp rfl, val_tmp rfl, val_tmp rfl, val_tmp rfl, val_tmp rfl, val_tmp rfl, val_tmp rfl, val_tmp rfl, trivial⟩
                  · exact ⟨⟨_, rfl, ⟨rfl, rfl, ⟨trivial, rfl⟩⟩⟩, ⟨_, rfl, ⟨rfl, rfl, ⟨trivial, rfl⟩⟩⟩, ⟨_, rfl, rfl⟩, ⟨_, rfl, rfl⟩, trivial⟩
              · have hc5s := hc5
                try simp only [Bool.and_eq_true, Bool.or_eq_true, Bool.not_eq_true', Bool.not_eq_false', Bool.or_eq_false_iff, Bool.and_eq_false_iff, decide_eq_true_eq, decide_eq_false_iff_not] at hc5s
                refine c_skip ?_
                refine c_rq ?_
                refine tq_op (hd 68 (by decide)) (q_add (val_tmp rfl) val_const (by first | omega | (simp only [Bool.and_eq_true, Bool.or_eq_true, Bool.not_eq_true', Bool.not_eq_false', Bool.or_eq_false_iff, Bool.and_eq_false_iff, decide_eq_true_eq, decide_eq_false_iff_not] at *; omega))) ?_
                refine tq_op (hd 48 (by decide)) (q_move (val_tmp rfl)) ?_
                refine tq_nil ?_
                have hk : (kidsAt g (bfsAt g i) i).getD j 0 ∈ addKids (bfsAt g i) ((kidsAt g (bfsAt g i) i).take j) := kget_some hc5s
                have hs := addKids_s (o := bfsAt g i) (ks := kidsAt g (bfsAt g i) i) (j := j) hj
                rw [addKid, if_pos hk] at hs
                refine k_mapE 3 (imap (plc (addKids (bfsAt g i) ((kidsAt g (bfsAt g i) i).take ((j + 1)))))) rfl (by rw [hs]) ?_
                refine k_ownE 4 (addKids (bfsAt g i) ((kidsAt g (bfsAt g i) i).take ((j + 1)))) rfl (by exact hs.symm) ?_
                refine c_next (j + 1) ?_ ?_ ?_
                · show (j + 1) ≤ (kidsAt g (bfsAt g i) i).length
                  omega
                · show (kidsAt g (bfsAt g i) i).length - (j + 1) < (kidsAt g (bfsAt g i) i).length - j
                  omega
                · refine weakE (sl := [(1, SV.bp 1 0), (2, SV.bp 2 0), (5, SV.own 3), (6, SV.own 4), (7, iv ((i : Int))), (46, inRow ((g.getD (Int.toNat (((bfsAt g i).getD i 0))) default).kids)), (47, iv ((((g.getD (Int.toNat (((bfsAt g i).getD i 0))) default).kids).length : Int))), (48, iv (((j + 1) : Int)))]) (ow := [(1, Own.box 1 (grG g) 35), (2, Own.box 1 (cmpG [SV.v (Value.slice none 0 0)]) 35), (3, Own.amap (imap (plc (addKids (bfsAt g i) ((kidsAt g (bfsAt g i) i).take ((j + 1))))))), (4, ownOf inCell 1 0 (addKids (bfsAt g i) ((kidsAt g (bfsAt g i) i).take ((j + 1)))) 3)]) ?_ ?_
                  · exact ⟨val_tmp rfl, val_tmp rfl, val_tmp rfl, val_tmp rfl, val_tmp rfl, val_tmp rfl, val_tmp rfl, val_tmp rfl, trivial⟩
                  · exact ⟨⟨_, rfl, ⟨rfl, rfl, ⟨trivial, rfl⟩⟩⟩, ⟨_, rfl, ⟨rfl, rfl, ⟨trivial, rfl⟩⟩⟩, ⟨_, rfl, rfl⟩, ⟨_, rfl, rfl⟩, trivial⟩
            · have hc4s := hc4
              try simp only [Bool.and_eq_true, Bool.or_eq_true, Bool.not_eq_true', Bool.not_eq_false', Bool.or_eq_false_iff, Bool.and_eq_false_iff, decide_eq_true_eq, decide_eq_false_iff_not] at hc4s
              have hj : (kidsAt g (bfsAt g i) i).length ≤ j := by have h4 := hc4s; change ¬ (j : Int) < ((kidsAt g (bfsAt g i) i).length : Int) at h4; omega
              refine c_exit ?_
              refine c_rq ?_
              refine tq_op (hd 36 (by decide)) (q_move (val_tmp rfl)) ?_
              refine tq_op (hd 37 (by decide)) (q_add (val_tmp rfl) val_const (by first | omega | (simp only [Bool.and_eq_true, Bool.or_eq_true, Bool.not_eq_true', Bool.not_eq_false', Bool.or_eq_false_iff, Bool.and_eq_false_iff, decide_eq_true_eq, decide_eq_false_iff_not] at *; omega))) ?_
              refine tq_op (hd 7 (by decide)) (q_assign (val_tmp rfl)) ?_
              refine tq_nil ?_
              have hbs : bfsAt g (i + 1) = addKids (bfsAt g i) ((kidsAt g (bfsAt g i) i).take j) := by rw [bfsAt, if_pos hi, List.take_of_length_le (by show (kidsAt g (bfsAt g i) i).length ≤ j; omega)]
              refine k_mapE 3 (imap (plc (bfsAt g ((i + 1))))) rfl (by rw [hbs]) ?_
              refine k_ownE 4 (bfsAt g ((i + 1))) rfl (by exact hbs.symm) ?_
              refine c_next (i + 1) ?_ ?_ ?_
              · show (i + 1) ≤ (bfsAt g (i + 1)).length
                rw [hbs]; have := (addKids_pre ((kidsAt g (bfsAt g i) i).take j) (bfsAt g i)).length_le; omega
              · show g.length - (i + 1) < g.length - i
                omega
              · refine weakE (sl := [(1, SV.bp 1 0), (2, SV.bp 2 0), (5, SV.own 3), (6, SV.own 4), (7, iv (((i + 1) : Int)))]) (ow := [(1, Own.box 1 (grG g) 35), (2, Own.box 1 (cmpG [SV.v (Value.slice none 0 0)]) 35), (3, Own.amap (imap (plc (bfsAt g ((i + 1)))))), (4, ownOf inCell 1 0 (bfsAt g ((i + 1))) 3)]) ?_ ?_
                · exact ⟨val_tmp rfl, val_tmp rfl, val_tmp rfl, val_tmp rfl, val_tmp rfl, trivial⟩
                · exact ⟨⟨_, rfl, ⟨rfl, rfl, ⟨trivial, rfl⟩⟩⟩, ⟨_, rfl, ⟨rfl, rfl, ⟨trivial, rfl⟩⟩⟩, ⟨_, rfl, rfl⟩, ⟨_, rfl, rfl⟩, trivial⟩
        · have hc3s := hc3
          try simp only [Bool.and_eq_true, Bool.or_eq_true, Bool.not_eq_true', Bool.not_eq_false', Bool.or_eq_false_iff, Bool.and_eq_false_iff, decide_eq_true_eq, decide_eq_false_iff_not] at hc3s
          have hgi : i ≤ g.length := by omega
          have hb : bfs g = bfsAt g i := bfs_eq (by omega) hgi
          refine c_exit ?_
          refine c_seq ?_
          refine c_rt ?_
          refine t_alloc 6 (hd 12 (by decide)) zero35 rfl rfl ?_
          refine t_nil ?_
          refine c_seq ?_
          refine c_seq ?_
          refine c_rq ?_
          refine tq_op (hd 69 (by decide)) (q_move (val_tmp rfl)) ?_
          refine tq_op (hd 70 (by decide)) (q_lenO (val_tmp rfl) rfl ts24) ?_
          refine tq_op (hd 71 (by decide)) (q_move val_const) ?_
          refine tq_nil ?_
          refine c_block ?_
          refine c_turn (turn_nilB 6 0 50 2 (rowG clCell default []) 43 rfl rfl rfl) ?_
          refine c_ownE 50 (((bfsAt g i).take 0).map (cpCell g (bfsAt g i))) rfl (by rfl) ?_
          refine c_loop (fun (q : Nat) => (⟨[(1, SV.bp 1 0), (2, SV.bp 2 0), (5, SV.own 3), (12, SV.bp 6 0), (69, SV.own 4), (70, iv (((bfsAt g i).length : Int))), (71, iv ((q : Int)))], [(1, Own.box 1 (grG g) 35), (2, Own.box 1 (cmpG [SV.v (Value.slice none 0 0)]) 35), (3, Own.amap (imap (plc (bfsAt g i)))), (4, ownOf inCell 1 0 (bfsAt g i) 3), (6, Own.box 1 (fun _ => SV.own 50) 35), (50, ownOf clCell 2 default (((bfsAt g i).take q).map (cpCell g (bfsAt g i))) 43)]⟩ : St)) (fun (q : Nat) => q ≤ (bfsAt g i).length) (fun (q : Nat) => (bfsAt g i).length - q) 0 ?_ ?_ ?_
          · show 0 ≤ (bfsAt g i).length
            first | omega | (simp; done) | (refine ⟨?_, ?_⟩ <;> first | omega | (simp; done))
          · refine weakE (sl := [(1, SV.bp 1 0), (2, SV.bp 2 0), (5, SV.own 3), (12, SV.bp 6 0), (69, SV.own 4), (70, iv (((bfsAt g i).length : Int))), (71, iv ((0 : Int)))]) (ow := [(1, Own.box 1 (grG g) 35), (2, Own.box 1 (cmpG [SV.v (Value.slice none 0 0)]) 35), (3, Own.amap (imap (plc (bfsAt g i)))), (4, ownOf inCell 1 0 (bfsAt g i) 3), (6, Own.box 1 (fun _ => SV.own 50) 35), (50, ownOf clCell 2 default (((bfsAt g i).take 0).map (cpCell g (bfsAt g i))) 43)]) ?_ ?_
            · exact ⟨val_tmp rfl, val_tmp rfl, val_tmp rfl, val_tmp rfl, val_tmp rfl, val_tmp rfl, val_tmp rfl, trivial⟩
            · exact ⟨⟨_, rfl, ⟨rfl, rfl, ⟨trivial, rfl⟩⟩⟩, ⟨_, rfl, ⟨rfl, rfl, ⟨trivial, rfl⟩⟩⟩, ⟨_, rfl, rfl⟩, ⟨_, rfl, rfl⟩, ⟨_, rfl, ⟨rfl, rfl, ⟨trivial, rfl⟩⟩⟩, ⟨_, rfl, rfl⟩, trivial⟩
          · rintro q hI3
            have hJ3 : q ≤ (bfsAt g i).length := hI3
            refine c_seq ?_
            refine c_rq ?_
            refine tq_op (hd 72 (by decide)) (q_lss (val_tmp rfl) (val_tmp rfl)) ?_
            refine tq_nil ?_
            refine c_seq ?_
            refine c_cond (val_tmp rfl) (fun hc6 => ?_) (fun hc6 => ?_)
            · have hc6s := hc6
              try simp only [Bool.and_eq_true, Bool.or_eq_true, Bool.not_eq_true', Bool.not_eq_false', Bool.or_eq_false_iff, Bool.and_eq_false_iff, decide_eq_true_eq, decide_eq_false_iff_not] at hc6s
              have hq : q < (bfsAt g i).length := by omega
              have hx := good_at hgd hq
              have hk8 := (cl_parts hc0 (i := Int.toNat ((bfsAt g i).getD q 0)) (by omega)).2.1
              have hcl : ∀ k ∈ (g.getD (Int.toNat ((bfsAt g i).getD q 0)) default).kids, k ∈ bfsAt g i := by rw [← hb] at hq ⊢; exact bfs_closed' hc0 hne (mem_getD hq)
              refine c_skip ?_
              refine c_seq ?_
              refine c_block ?_
              refine c_seq ?_
              refine c_rq ?_
              refine tq_op (hd 73 (by decide)) (q_idxON (i := q) (val_tmp rfl) rfl (val_tmp rfl) ts24 te24 (by first | omega | (simp only [Bool.and_eq_true, Bool.or_eq_true, Bool.not_eq_true', Bool.not_eq_false', Bool.or_eq_false_iff, Bool.and_eq_false_iff, decide_eq_true_eq, decide_eq_false_iff_not] at *; omega))) ?_
              refine tq_op (hd 74 (by decide)) (q_ldO (val_tmp rfl) rfl Try.isAgg3 (by decide)) ?_
              refine tq_op (hd 14 (by decide)) (q_assign (val_tmp rfl)) ?_
              refine tq_nil ?_
              refine c_seq ?_
              refine c_rt ?_
              refine t_op (hd 75 (by decide)) (q_fldB _ _ (val_tmp rfl) Try.underlying35 rfl 0 (fun w => Try.sizeOf33 w)) ?_
              refine t_op (hd 76 (by decide)) (q_ldB (val_tmp rfl) rfl Try.isAgg33 (by decide)) ?_
              refine t_op (hd 77 (by decide)) (q_move (val_tmp rfl)) ?_
              refine t_op (hd 78 (by decide)) (q_idx (val_tmp rfl) (val_tmp rfl) ts33 te33 (by omega) (by first | omega | (simp only [Bool.and_eq_true, Bool.or_eq_true, Bool.not_eq_true', Bool.not_eq_false', Bool.or_eq_false_iff, Bool.and_eq_false_iff, decide_eq_true_eq, decide_eq_false_iff_not] at *; omega))) ?_
              refine t_op (hd 79 (by decide)) (q_fld _ _ (val_tmp rfl) Try.underlying43 rfl 0 (fun w => Try.sizeOf3 w)) ?_
              refine t_op (hd 80 (by decide)) (q_ld (val_tmp rfl) Try.isAgg3 (by decide)) ?_
              refine t_op (hd 81 (by decide)) (q_build [(0, iv ((g.getD (Int.toNat (((bfsAt g i).getD q 0))) default).n))] id (cmpG [iv ((g.getD (Int.toNat (((bfsAt g i).getD q 0))) default).n), SV.v (Value.slice none 0 0)]) zero43 build43 (by exact ⟨⟨rfl, (val_tmp rfl), rfl⟩, trivial⟩) (by decide) ⟨⟨trivial, rfl⟩, rfl⟩) ?_
              refine t_alloc 7 (hd 15 (by decide)) zero43 rfl rfl ?_
              refine t_stA (val_tmp rfl) rfl (val_tmp rfl) Try.sizeOf43 ?_
              refine t_nil ?_
              refine c_seq ?_
              refine c_seq ?_
              refine c_rq ?_
              refine tq_op (hd 82 (by decide)) (q_fldB _ _ (val_tmp rfl) Try.underlying35 rfl 0 (fun w => Try.sizeOf33 w)) ?_
              refine tq_op (hd 83 (by decide)) (q_ldB (val_tmp rfl) rfl Try.isAgg33 (by decide)) ?_
              refine tq_op (hd 84 (by decide)) (q_move (val_tmp rfl)) ?_
              refine tq_op (hd 85 (by decide)) (q_idx (val_tmp rfl) (val_tmp rfl) ts33 te33 (by omega) (by first | omega | (simp only [Bool.and_eq_true, Bool.or_eq_true, Bool.not_eq_true', Bool.not_eq_false', Bool.or_eq_false_iff, Bool.and_eq_false_iff, decide_eq_true_eq, decide_eq_false_iff_not] at *; omega))) ?_
              refine tq_op (hd 86 (by decide)) (q_fld _ _ (val_tmp rfl) Try.underlying43 rfl 0 (fun w => Try.sizeOf24 w)) ?_
              refine tq_op (hd 87 (by decide)) (q_ld (val_tmp rfl) Try.isAgg24 (by decide)) ?_
              refine tq_op (hd 88 (by decide)) (q_len (val_tmp rfl) ts24) ?_
              refine tq_op (hd 89 (by decide)) (q_move val_const) ?_
              refine tq_nil ?_
              refine c_block ?_
              refine c_turn (turn_nilB 7 1 51 1 (rowG inCell 0 []) 3 rfl rfl rfl) ?_
              refine c_ownE 51 ((((g.getD (Int.toNat ((bfsAt g i).getD q 0)) default).kids.take 0).map (idx (bfsAt g i)))) rfl (by rfl) ?_
              refine c_loop (fun (r : Nat) => (⟨[(1, SV.bp 1 0), (2, SV.bp 2 0), (5, SV.own 3), (12, SV.bp 6 0), (15, SV.bp 7 0), (69, SV.own 4), (70, iv (((bfsAt g i).length : Int))), (71, iv ((q : Int))), (87, inRow ((g.getD (Int.toNat (((bfsAt g i).getD q 0))) default).kids)), (88, iv ((((g.getD (Int.toNat (((bfsAt g i).getD q 0))) default).kids).length : Int))), (89, iv ((r : Int)))], [(1, Own.box 1 (grG g) 35), (2, Own.box 1 (cmpG [SV.v (Value.slice none 0 0)]) 35), (3, Own.amap (imap (plc (bfsAt g i)))), (4, ownOf inCell 1 0 (bfsAt g i) 3), (6, Own.box 1 (fun _ => SV.own 50) 35), (7, Own.box 2 (cmpG [iv ((g.getD (Int.toNat ((bfsAt g i).getD q 0)) default).n), SV.own 51]) 43), (50, ownOf clCell 2 default (((bfsAt g i).take q).map (cpCell g (bfsAt g i))) 43), (51, ownOf inCell 1 0 ((((g.getD (Int.toNat ((bfsAt g i).getD q 0)) default).kids.take r).map (idx (bfsAt g i)))) 3)]⟩ : St)) (fun (r : Nat) => r ≤ (g.getD (Int.toNat ((bfsAt g i).getD q 0)) default).kids.length) (fun (r : Nat) => (g.getD (Int.toNat ((bfsAt g i).getD q 0)) default).kids.length - r) 0 ?_ ?_ ?_
              · show 0 ≤ (g.getD (Int.toNat ((bfsAt g i).getD q 0)) default).kids.length
                first | omega | (simp; done) | (refine ⟨?_, ?_⟩ <;> first | omega | (simp; done))
              · refine weakE (sl := [(1, SV.bp 1 0), (2, SV.bp 2 0), (5, SV.own 3), (12, SV.bp 6 0), (15, SV.bp 7 0), (69, SV.own 4), (70, iv (((bfsAt g i).length : Int))), (71, iv ((q : Int))), (87, inRow ((g.getD (Int.toNat (((bfsAt g i).getD q 0))) default).kids)), (88, iv ((((g.getD (Int.toNat (((bfsAt g i).getD q 0))) default).kids).length : Int))), (89, iv ((0 : Int)))]) (ow := [(1, Own.box 1 (grG g) 35), (2, Own.box 1 (cmpG [SV.v (Value.slice none 0 0)]) 35), (3, Own.amap (imap (plc (bfsAt g i)))), (4, ownOf inCell 1 0 (bfsAt g i) 3), (6, Own.box 1 (fun _ => SV.own 50) 35), (7, Own.box 2 (cmpG [iv ((g.getD (Int.toNat ((bfsAt g i).getD q 0)) default).n), SV.own 51]) 43), (50, ownOf clCell 2 default (((bfsAt g i).take q).map (cpCell g (bfsAt g i))) 43), (51, ownOf inCell 1 0 ((((g.getD (Int.toNat ((bfsAt g i).getD q 0)) default).kids.take 0).map (idx (bfsAt g i)))) 3)]) ?_ ?_
                · exact ⟨val_tmp rfl, val_tmp rfl, val_tmp rfl, val_tmp rfl, val_tmp rfl, val_tmp rfl, val_tmp rfl, val_tmp rfl, val_tmp rfl, val_tmp rfl, val_tmp rfl, trivial⟩
                · exact ⟨⟨_, rfl, ⟨rfl, rfl, ⟨trivial, rfl⟩⟩⟩, ⟨_, rfl, ⟨rfl, rfl, ⟨trivial, rfl⟩⟩⟩, ⟨_, rfl, rfl⟩, ⟨_, rfl, rfl⟩, ⟨_, rfl, ⟨rfl, rfl, ⟨trivial, rfl⟩⟩⟩, ⟨_, rfl, ⟨rfl, rfl, ⟨⟨trivial, rfl⟩, rfl⟩⟩⟩, ⟨_, rfl, rfl⟩, ⟨_, rfl, rfl⟩, trivial⟩
              · rintro r hI4
                have hJ4 : r ≤ (g.getD (Int.toNat ((bfsAt g i).getD q 0)) default).kids.length := hI4
                refine c_seq ?_
                refine c_rq ?_
                refine tq_op (hd 90 (by decide)) (q_lss (val_tmp rfl) (val_tmp rfl)) ?_
                refine tq_nil ?_
                refine c_seq ?_
                refine c_cond (val_tmp rfl) (fun hc7 => ?_) (fun hc7 => ?_)
                · have hc7s := hc7
                  try simp only [Bool.and_eq_true, Bool.or_eq_true, Bool.not_eq_true', Bool.not_eq_false', Bool.or_eq_false_iff, Bool.and_eq_false_iff, decide_eq_true_eq, decide_eq_false_iff_not] at hc7s
                  refine c_skip ?_
                  refine c_seq ?_
                  refine c_block ?_
                  refine c_seq ?_
                  refine c_rq ?_
                  refine tq_op (hd 91 (by decide)) (q_idxN (i := r) (val_tmp rfl) (val_tmp rfl) ts24 te24 (by first | omega | (simp only [Bool.and_eq_true, Bool.or_eq_true, Bool.not_eq_true', Bool.not_eq_false', Bool.or_eq_false_iff, Bool.and_eq_false_iff, decide_eq_true_eq, decide_eq_false_iff_not] at *; omega))) ?_
                  refine tq_op (hd 92 (by decide)) (q_ld (val_tmp rfl) Try.isAgg3 (by decide)) ?_
                  refine tq_op (hd 17 (by decide)) (q_assign (val_tmp rfl)) ?_
                  refine tq_nil ?_
                  refine c_rt ?_
                  refine t_op (hd 93 (by decide)) (q_fldB _ _ (val_tmp rfl) Try.underlying43 rfl 0 (fun w => Try.sizeOf24 w)) ?_
                  refine t_op (hd 94 (by decide)) (q_ldB (val_tmp rfl) rfl Try.isAgg24 (by decide)) ?_
                  refine t_op (hd 95 (by decide)) (q_move (val_tmp rfl)) ?_
                  refine t_op (hd 96 (by decide)) (q_move (val_tmp rfl)) ?_
                  refine t_op (hd 97 (by decide)) (q_lookI1 (l := plc (bfsAt g i)) Try.underlying78 Try.underlying3 (fun w => Try.zeroValue3 w) (val_tmp rfl) rfl (val_tmp rfl)) ?_
                  refine t_w (hd 98 (by decide)) (w_bs (n := 1) (zget := fun _ => iv 0) [(fun _ => iv ((kget (plc (bfsAt g i)) ((((g.getD (Int.toNat (((bfsAt g i).getD q 0))) default).kids).getD r 0))).getD 0))] (rowG inCell 0 [(kget (plc (bfsAt g i)) ((((g.getD (Int.toNat (((bfsAt g i).getD q 0))) default).kids).getD r 0))).getD 0]) Try.underlying24 (fun w => Try.sizeOf3 w) zero3 (by decide) rfl (by decide) ⟨⟨rfl, .inr ⟨rfl, (val_tmp rfl), rfl⟩, rfl⟩, trivial⟩ ⟨trivial, ⟨trivial, rfl⟩⟩) ?_
                  refine t_app 8 (rowG inCell 0 (((((g.getD (Int.toNat ((bfsAt g i).getD q 0)) default).kids.take r).map (idx (bfsAt g i)))) ++ ([(kget (plc (bfsAt g i)) ((((g.getD (Int.toNat (((bfsAt g i).getD q 0))) default).kids).getD r 0))).getD 0]))) (hd 99 (by decide)) eo24 (val_tmp rfl) rfl (val_tmp rfl) rfl (len_app ((((g.getD (Int.toNat ((bfsAt g i).getD q 0)) default).kids.take r).map (idx (bfsAt g i)))) ([(kget (plc (bfsAt g i)) ((((g.getD (Int.toNat (((bfsAt g i).getD q 0))) default).kids).getD r 0))).getD 0])) (by first | (simp only [maxLen, List.length_append, List.length_set, List.length_nil, List.length_cons]; (simp only [List.length_map, List.length_take]; omega)) | (simp only [maxLen]; (simp only [List.length_map, List.length_take]; omega))) (by first | (simp only [List.length_append, List.length_set, List.length_nil, List.length_cons]; (simp only [List.length_map, List.length_take]; omega)) | ((simp only [List.length_map, List.length_take]; omega))) (app_typed (l := ((((g.getD (Int.toNat ((bfsAt g i).getD q 0)) default).kids.take r).map (idx (bfsAt g i))))) (m := ([(kget (plc (bfsAt g i)) ((((g.getD (Int.toNat (((bfsAt g i).getD q 0))) default).kids).getD r 0))).getD 0]))) ?_
                  refine t_op (hd 100 (by decide)) (q_fldB _ _ (val_tmp rfl) Try.underlying43 rfl 0 (fun w => Try.sizeOf24 w)) ?_
                  refine t_st1V (val_tmp rfl) rfl (val_tmp rfl) (one_own rfl) Try.sizeOf24 (by decide) ?_
                  refine t_nil ?_
                  refine c_rq ?_
                  refine tq_op (hd 101 (by decide)) (q_add (val_tmp rfl) val_const (by first | omega | (simp only [Bool.and_eq_true, Bool.or_eq_true, Bool.not_eq_true', Bool.not_eq_false', Bool.or_eq_false_iff, Bool.and_eq_false_iff, decide_eq_true_eq, decide_eq_false_iff_not] at *; omega))) ?_
                  refine tq_op (hd 89 (by decide)) (q_move (val_tmp rfl)) ?_
                  refine tq_nil ?_
                  refine k_mv 8 51 rfl rfl ?_
                  refine k_ownE 51 ((((g.getD (Int.toNat ((bfsAt g i).getD q 0)) default).kids.take ((r + 1))).map (idx (bfsAt g i)))) rfl (by rw [map_take_s _ 0 _ _ (by omega), kget_idx (hcl _ (mem_getD (by omega)))]) ?_
                  refine c_next (r + 1) ?_ ?_ ?_
                  · show (r + 1) ≤ (g.getD (Int.toNat ((bfsAt g i).getD q 0)) default).kids.length
                    first | omega | (simp; done) | (refine ⟨?_, ?_⟩ <;> first | omega | (simp; done))
                  · show (g.getD (Int.toNat ((bfsAt g i).getD q 0)) default).kids.length - (r + 1) < (g.getD (Int.toNat ((bfsAt g i).getD q 0)) default).kids.length - r
                    omega
                  · refine weakE (sl := [(1, SV.bp 1 0), (2, SV.bp 2 0), (5, SV.own 3), (12, SV.bp 6 0), (15, SV.bp 7 0), (69, SV.own 4), (70, iv (((bfsAt g i).length : Int))), (71, iv ((q : Int))), (87, inRow ((g.getD (Int.toNat (((bfsAt g i).getD q 0))) default).kids)), (88, iv ((((g.getD (Int.toNat (((bfsAt g i).getD q 0))) default).kids).length : Int))), (89, iv (((r + 1) : Int)))]) (ow := [(1, Own.box 1 (grG g) 35), (2, Own.box 1 (cmpG [SV.v (Value.slice none 0 0)]) 35), (3, Own.amap (imap (plc (bfsAt g i)))), (4, ownOf inCell 1 0 (bfsAt g i) 3), (6, Own.box 1 (fun _ => SV.own 50) 35), (7, Own.box 2 (cmpG [iv ((g.getD (Int.toNat ((bfsAt g i).getD q 0)) default).n), SV.own 51]) 43), (50, ownOf clCell 2 default (((bfsAt g i).take q).map (cpCell g (bfsAt g i))) 43), (51, ownOf inCell 1 0 ((((g.getD (Int.toNat ((bfsAt g i).getD q 0)) default).kids.take ((r + 1))).map (idx (bfsAt g i)))) 3)]) ?_ ?_
                    · exact ⟨val_tmp rfl, val_tmp rfl, val_tmp rfl, val_tmp rfl, val_tmp rfl, val_tmp rfl, val_tmp rfl, val_tmp rfl, val_tmp rfl, val_tmp rfl, val_tmp rfl, trivial⟩
                    · exact ⟨⟨_, rfl, ⟨rfl, rfl, ⟨trivial, rfl⟩⟩⟩, ⟨_, rfl, ⟨rfl, rfl, ⟨trivial, rfl⟩⟩⟩, ⟨_, rfl, rfl⟩, ⟨_, rfl, rfl⟩, ⟨_, rfl, ⟨rfl, rfl, ⟨trivial, rfl⟩⟩⟩, ⟨_, rfl, ⟨rfl, rfl, ⟨⟨trivial, rfl⟩, rfl⟩⟩⟩, ⟨_, rfl, rfl⟩, ⟨_, rfl, rfl⟩, trivial⟩
                · have hc7s := hc7
                  try simp only [Bool.and_eq_true, Bool.or_eq_true, Bool.not_eq_true', Bool.not_eq_false', Bool.or_eq_false_iff, Bool.and_eq_false_iff, decide_eq_true_eq, decide_eq_false_iff_not] at hc7s
                  refine c_exit ?_
                  refine c_rt ?_
                  refine t_op (hd 102 (by decide)) (q_fldB _ _ (val_tmp rfl) Try.underlying35 rfl 0 (fun w => Try.sizeOf33 w)) ?_
                  refine t_op (hd 103 (by decide)) (q_ldB (val_tmp rfl) rfl Try.isAgg33 (by decide)) ?_
                  refine t_op (hd 104 (by decide)) (q_ldBA (val_tmp rfl) rfl Try.isAgg43 Try.sizeOf43 (by decide)) ?_
                  refine t_frz 51 rfl ?_
                  refine t_w (hd 105 (by decide)) (w_bs (n := 1) (zget := cmpG [iv 0, SV.v (Value.slice none 0 0)]) [(fun zt => frz 51 (inRow ((((g.getD (Int.toNat ((bfsAt g i).getD q 0)) default).kids.take r).map (idx (bfsAt g i))))) ((fun zi => (cmpG [iv ((g.getD (Int.toNat ((bfsAt g i).getD q 0)) default).n), SV.own 51]) (0 + zi)) zt))] (rowG clCell default [⟨(g.getD (Int.toNat ((bfsAt g i).getD q 0)) default).n, (((g.getD (Int.toNat ((bfsAt g i).getD q 0)) default).kids.take r).map (idx (bfsAt g i)))⟩]) Try.underlying33 (fun w => Try.sizeOf43 w) zero43 (by decide) rfl (by decide) ⟨⟨rfl, .inl (val_tmp rfl), rfl⟩, trivial⟩ ⟨trivial, ⟨⟨trivial, rfl⟩, rfl⟩⟩) ?_
                  refine t_app 9 (rowG clCell default ((((bfsAt g i).take q).map (cpCell g (bfsAt g i))) ++ ([⟨(g.getD (Int.toNat ((bfsAt g i).getD q 0)) default).n, (((g.getD (Int.toNat ((bfsAt g i).getD q 0)) default).kids.take r).map (idx (bfsAt g i)))⟩]))) (hd 106 (by decide)) eo33 (val_tmp rfl) rfl (val_tmp rfl) rfl (len_app (((bfsAt g i).take q).map (cpCell g (bfsAt g i))) ([⟨(g.getD (Int.toNat ((bfsAt g i).getD q 0)) default).n, (((g.getD (Int.toNat ((bfsAt g i).getD q 0)) default).kids.take r).map (idx (bfsAt g i)))⟩])) (by first | (simp only [maxLen, List.length_append, List.length_set, List.length_nil, List.length_cons]; (simp only [List.length_map, List.length_take]; omega)) | (simp only [maxLen]; (simp only [List.length_map, List.length_take]; omega))) (by first | (simp only [List.length_append, List.length_set, List.length_nil, List.length_cons]; (simp only [List.length_map, List.length_take]; omega)) | ((simp only [List.length_map, List.length_take]; omega))) (app_typed (l := (((bfsAt g i).take q).map (cpCell g (bfsAt g i)))) (m := ([⟨(g.getD (Int.toNat ((bfsAt g i).getD q 0)) default).n, (((g.getD (Int.toNat ((bfsAt g i).getD q 0)) default).kids.take r).map (idx (bfsAt g i)))⟩]))) ?_
                  refine t_op (hd 107 (by decide)) (q_fldB _ _ (val_tmp rfl) Try.underlying35 rfl 0 (fun w => Try.sizeOf33 w)) ?_
                  refine t_st1V (val_tmp rfl) rfl (val_tmp rfl) (one_own rfl) Try.sizeOf33 (by decide) ?_
                  refine t_nil ?_
                  refine c_rq ?_
                  refine tq_op (hd 108 (by decide)) (q_add (val_tmp rfl) val_const (by first | omega | (simp only [Bool.and_eq_true, Bool.or_eq_true, Bool.not_eq_true', Bool.not_eq_false', Bool.or_eq_false_iff, Bool.and_eq_false_iff, decide_eq_true_eq, decide_eq_false_iff_not] at *; omega))) ?_
                  refine tq_op (hd 71 (by decide)) (q_move (val_tmp rfl)) ?_
                  refine tq_nil ?_
                  refine k_mv 9 50 rfl rfl ?_
                  refine k_ownE 50 (((bfsAt g i).take ((q + 1))).map (cpCell g (bfsAt g i))) rfl (by exact cp_s hq (by omega)) ?_
                  refine c_next (q + 1) ?_ ?_ ?_
                  · show (q + 1) ≤ (bfsAt g i).length
                    first | omega | (simp; done) | (refine ⟨?_, ?_⟩ <;> first | omega | (simp; done))
                  · show (bfsAt g i).length - (q + 1) < (bfsAt g i).length - q
                    omega
                  · refine weakE (sl := [(1, SV.bp 1 0), (2, SV.bp 2 0), (5, SV.own 3), (12, SV.bp 6 0), (69, SV.own 4), (70, iv (((bfsAt g i).length : Int))), (71, iv (((q + 1) : Int)))]) (ow := [(1, Own.box 1 (grG g) 35), (2, Own.box 1 (cmpG [SV.v (Value.slice none 0 0)]) 35), (3, Own.amap (imap (plc (bfsAt g i)))), (4, ownOf inCell 1 0 (bfsAt g i) 3), (6, Own.box 1 (fun _ => SV.own 50) 35), (50, ownOf clCell 2 default (((bfsAt g i).take ((q + 1))).map (cpCell g (bfsAt g i))) 43)]) ?_ ?_
                    · exact ⟨val_tmp rfl, val_tmp rfl, val_tmp rfl, val_tmp rfl, val_tmp rfl, val_tmp rfl, val_tmp rfl, trivial⟩
                    · exact ⟨⟨_, rfl, ⟨rfl, rfl, ⟨trivial, rfl⟩⟩⟩, ⟨_, rfl, ⟨rfl, rfl, ⟨trivial, rfl⟩⟩⟩, ⟨_, rfl, rfl⟩, ⟨_, rfl, rfl⟩, ⟨_, rfl, ⟨rfl, rfl, ⟨trivial, rfl⟩⟩⟩, ⟨_, rfl, rfl⟩, trivial⟩
            · have hc6s := hc6
              try simp only [Bool.and_eq_true, Bool.or_eq_true, Bool.not_eq_true', Bool.not_eq_false', Bool.or_eq_false_iff, Bool.and_eq_false_iff, decide_eq_true_eq, decide_eq_false_iff_not] at hc6s
              refine c_exit ?_
              refine c_seq ?_
              refine c_rt ?_
              refine t_op (hd 109 (by decide)) (q_ldBA (val_tmp rfl) rfl Try.isAgg35 Try.sizeOf35 (by decide)) ?_
              refine t_stA (val_tmp rfl) rfl (val_tmp rfl) Try.sizeOf35 ?_
              refine t_op (hd 3 (by decide)) (q_assign val_const) ?_
              refine t_nil ?_
              refine c_frz 50 rfl ?_
              refine c_ret ?_
              exact retR2 rfl (rv_aggI (g' := grG (((bfsAt g i).take q).map (cpCell g (bfsAt g i)))) (rv_cell (val_tmp rfl) rfl Try.isAgg35 Try.sizeOf35) ⟨trivial, imp_rfl⟩) (rv_tmp (val_tmp rfl)) rfl rfl (by show sv2 (SV.agg 1 (grG (((bfsAt g i).take q).map (cpCell g (bfsAt g i))))) (iv (0)) = sv2 (SV.agg 1 (grG (copyR g).1)) (iv (copyR g).2); rw [copyR_o hc0, copyGr, if_neg hne, hb, List.take_of_length_le (by omega)])

end Go.Proofs.Ytghkpailmdlhgaa
