import Derived.Test.YtghkpailmdlhgaaW8
set_option linter.unusedVariables false
set_option linter.unusedSimpArgs false
namespace Go.Proofs.Ytghkpailmdlhgaa
open Go.RowKit Go.Eng
/-- glasshouse/glasshouseref.Gone -/
theorem rgo_ct (l : List Fr) (k o : Int) : Ct Try.prog 40 [frRow l, iv (k), iv (o)] (sv2 (frRow (navFr l k o).1) (iv (navFr l k o).2)) := by
  refine ct_of Try.func40 rfl (by show 3 ≤ 63; decide) fun E hN => ?_
  have hd : ∀ d, d < 63 → d < E.N := fun d h => Nat.lt_of_lt_of_eq h hN.symm
  refine row_len (val_tmp (s := 0) rfl) fun hl0 => ?_
  refine c_seq ?_
  refine c_rq ?_
  refine tq_op (hd 6 (by decide)) (q_assign (val_nil (k := 5) (get := rowG frCell default []))) ?_
  refine tq_op (hd 7 (by decide)) (q_assign val_const) ?_
  refine tq_nil ?_
  refine c_seq ?_
  refine c_rt ?_
  refine t_op (hd 12 (by decide)) (q_move (val_tmp rfl)) ?_
  refine t_op (hd 13 (by decide)) (q_move (val_tmp rfl)) ?_
  refine t_w (hd 14 (by decide)) (w_bs (n := 1) (zget := fun _ => iv 0) [(fun _ => iv (k))] (rowG inCell 0 [k]) Try.underlying24 (fun w => Try.sizeOf3 w) zero3 (by decide) rfl (by decide) ⟨⟨rfl, .inr ⟨rfl, (val_tmp rfl), rfl⟩, rfl⟩, trivial⟩ ⟨trivial, ⟨trivial, rfl⟩⟩) ?_
  refine t_call en65 (hd 15 (by decide)) (by exact ⟨⟨(val_tmp rfl), rfl⟩, ⟨(val_tmp rfl), rfl⟩, trivial⟩) (rframed_ct l ([k])) ?_
  refine t_op (hd 8 (by decide)) (q_assign (val_tmp rfl)) ?_
  refine t_nil ?_
  refine c_meet (fun (e0 : Int) => (⟨[(0, frRow l), (1, iv (k)), (2, iv (o)), (8, iv (e0))], []⟩ : St)) (fun (e0 : Int) => (¬ e0 = 0 ∧ navFr l k o = ([], e0)) ∨ (e0 = 0 ∧ (checkFr l = 0 ∧ holdsFr l k = 0) ∧ navBad o = false)) ?_ ?_
  · refine c_seq ?_
    refine c_rq ?_
    refine tq_op (hd 16 (by decide)) (q_move (val_tmp rfl)) ?_
    refine tq_op (hd 17 (by decide)) (q_eql (val_tmp rfl) val_const) ?_
    refine tq_op (hd 18 (by decide)) (q_move (val_tmp rfl)) ?_
    refine tq_opG (g_yes rfl rfl) (hd 19 (by decide)) (fun hg => q_move (val_tmp rfl)) ?_
    refine tq_callG (g_yes rfl rfl) en70 (hd 20 (by decide)) (fun hg => (by exact ⟨⟨(val_grd (val_tmp rfl) hg), rfl⟩, ⟨val_const, rfl⟩, ⟨val_const, rfl⟩, trivial⟩)) (fun hg => in_ct o 0 9) ?_
    refine tq_opG (g_yes rfl rfl) (hd 21 (by decide)) (fun hg => q_not (val_grd (val_tmp rfl) hg)) ?_
    refine tq_op (hd 22 (by decide)) (q_and (val_tmp rfl) (fun h => val_grd (val_tmp rfl) h)) ?_
    refine tq_nil ?_
    refine c_cond (val_tmp rfl) (fun hc1 => ?_) (fun hc1 => ?_)
    · have hc1s := hc1
      try simp only [Bool.and_eq_true, Bool.or_eq_true, Bool.not_eq_true', Bool.not_eq_false', Bool.or_eq_false_iff, Bool.and_eq_false_iff, decide_eq_true_eq, decide_eq_false_iff_not] at hc1s
      refine c_rq ?_
      refine tq_op (hd 8 (by decide)) (q_assign val_const) ?_
      refine tq_nil ?_
      refine c_hereG (T := (fun (e0 : Int) => (⟨[(0, frRow l), (1, iv (k)), (2, iv (o)), (8, iv (e0))], []⟩ : St))) (I := (fun (e0 : Int) => (¬ e0 = 0 ∧ navFr l k o = ([], e0)) ∨ (e0 = 0 ∧ (checkFr l = 0 ∧ holdsFr l k = 0) ∧ navBad o = false))) (2) ?_ ?_ (fun _ _ h => h)
      · show (¬ 2 = 0 ∧ navFr l k o = ([], 2)) ∨ (2 = 0 ∧ (checkFr l = 0 ∧ holdsFr l k = 0) ∧ navBad o = false)
        exact .inl ⟨by decide, nav_3 (framed1_0 hc1s.1).1 (framed1_0 hc1s.1).2 (by rw [navBad_ref, hc1s.2]; rfl)⟩
      · refine weakE (sl := [(0, frRow l), (1, iv (k)), (2, iv (o)), (8, iv (2))]) (ow := []) ?_ ?_
        · exact ⟨val_tmp rfl, val_tmp rfl, val_tmp rfl, val_tmp rfl, trivial⟩
        · exact trivial
    · have hc1s := hc1
      try simp only [Bool.and_eq_true, Bool.or_eq_true, Bool.not_eq_true', Bool.not_eq_false', Bool.or_eq_false_iff, Bool.and_eq_false_iff, decide_eq_true_eq, decide_eq_false_iff_not] at hc1s
      refine c_skip ?_
      refine c_hereG (T := (fun (e0 : Int) => (⟨[(0, frRow l), (1, iv (k)), (2, iv (o)), (8, iv (e0))], []⟩ : St))) (I := (fun (e0 : Int) => (¬ e0 = 0 ∧ navFr l k o = ([], e0)) ∨ (e0 = 0 ∧ (checkFr l = 0 ∧ holdsFr l k = 0) ∧ navBad o = false))) (framedFr l [k]) ?_ ?_ (fun _ _ h => h)
      · show (¬ (framedFr l [k]) = 0 ∧ navFr l k o = ([], (framedFr l [k]))) ∨ ((framedFr l [k]) = 0 ∧ (checkFr l = 0 ∧ holdsFr l k = 0) ∧ navBad o = false)
        exact rgo_4 hc1
      · refine weakE (sl := [(0, frRow l), (1, iv (k)), (2, iv (o)), (8, iv ((framedFr l [k])))]) (ow := []) ?_ ?_
        · exact ⟨val_tmp rfl, val_tmp rfl, val_tmp rfl, val_tmp rfl, trivial⟩
        · exact trivial
  · rintro e0 hM
    have hM' : (¬ e0 = 0 ∧ navFr l k o = ([], e0)) ∨ (e0 = 0 ∧ (checkFr l = 0 ∧ holdsFr l k = 0) ∧ navBad o = false) := hM
    have hM4 := hM
    refine c_meet (fun (e1 : Int) => (⟨[(0, frRow l), (1, iv (k)), (2, iv (o)), (8, iv (e1))], []⟩ : St)) (fun (e1 : Int) => (¬ e1 = 0 ∧ navFr l k o = ([], e1)) ∨ (e1 = 0 ∧ (checkFr l = 0 ∧ holdsFr l k = 0) ∧ navBad o = false ∧ ¬ (l.getD k.toNat default).turn = 1000)) ?_ ?_
    · refine c_seq ?_
      refine c_rq ?_
      refine tq_op (hd 23 (by decide)) (q_move (val_tmp rfl)) ?_
      refine tq_op (hd 24 (by decide)) (q_eql (val_tmp rfl) val_const) ?_
      refine tq_op (hd 25 (by decide)) (q_move (val_tmp rfl)) ?_
      refine tq_opG (g_yes rfl rfl) (hd 26 (by decide)) (fun hg => q_move (val_tmp rfl)) ?_
      refine tq_opG (g_yes rfl rfl) (hd 27 (by decide)) (fun hg => q_move (val_tmp rfl)) ?_
      refine tq_opG (g_yes rfl rfl) (hd 28 (by decide)) (fun hg => q_idx (val_grd (val_tmp rfl) hg) (val_grd (val_tmp rfl) hg) ts27 te27 (by exact (rgo_in hM4 hg).1) (by have := rgo_in hM4 hg; omega)) ?_
      refine tq_opG (g_yes rfl rfl) (hd 29 (by decide)) (fun hg => q_fld _ _ (val_grd (val_tmp rfl) hg) Try.underlying47 rfl 0 (fun w => Try.sizeOf3 w)) ?_
      refine tq_opG (g_yes rfl rfl) (hd 30 (by decide)) (fun hg => q_ld (val_grd (val_tmp rfl) hg) Try.isAgg3 (by decide)) ?_
      refine tq_opG (g_yes rfl rfl) (hd 31 (by decide)) (fun hg => q_geq (val_grd (val_tmp rfl) hg) val_const) ?_
      refine tq_op (hd 32 (by decide)) (q_and (val_tmp rfl) (fun h => val_grd (val_tmp rfl) h)) ?_
      refine tq_nil ?_
      refine c_cond (val_tmp rfl) (fun hc2 => ?_) (fun hc2 => ?_)
      · have hc2s := hc2
        try simp only [Bool.and_eq_true, Bool.or_eq_true, Bool.not_eq_true', Bool.not_eq_false', Bool.or_eq_false_iff, Bool.and_eq_false_iff, decide_eq_true_eq, decide_eq_false_iff_not] at hc2s
        refine c_rq ?_
        refine tq_op (hd 8 (by decide)) (q_assign val_const) ?_
        refine tq_nil ?_
        refine c_hereG (T := (fun (e1 : Int) => (⟨[(0, frRow l), (1, iv (k)), (2, iv (o)), (8, iv (e1))], []⟩ : St))) (I := (fun (e1 : Int) => (¬ e1 = 0 ∧ navFr l k o = ([], e1)) ∨ (e1 = 0 ∧ (checkFr l = 0 ∧ holdsFr l k = 0) ∧ navBad o = false ∧ ¬ (l.getD k.toNat default).turn = 1000))) (1) ?_ ?_ (fun _ _ h => h)
        · show (¬ 1 = 0 ∧ navFr l k o = ([], 1)) ∨ (1 = 0 ∧ (checkFr l = 0 ∧ holdsFr l k = 0) ∧ navBad o = false ∧ ¬ (l.getD k.toNat default).turn = 1000)
          exact .inl ⟨by decide, rgo_1 hM4 hc2⟩
        · refine weakE (sl := [(0, frRow l), (1, iv (k)), (2, iv (o)), (8, iv (1))]) (ow := []) ?_ ?_
          · exact ⟨val_tmp rfl, val_tmp rfl, val_tmp rfl, val_tmp rfl, trivial⟩
          · exact trivial
      · have hc2s := hc2
        try simp only [Bool.and_eq_true, Bool.or_eq_true, Bool.not_eq_true', Bool.not_eq_false', Bool.or_eq_false_iff, Bool.and_eq_false_iff, decide_eq_true_eq, decide_eq_false_iff_not] at hc2s
        refine c_skip ?_
        refine c_hereG (T := (fun (e1 : Int) => (⟨[(0, frRow l), (1, iv (k)), (2, iv (o)), (8, iv (e1))], []⟩ : St))) (I := (fun (e1 : Int) => (¬ e1 = 0 ∧ navFr l k o = ([], e1)) ∨ (e1 = 0 ∧ (checkFr l = 0 ∧ holdsFr l k = 0) ∧ navBad o = false ∧ ¬ (l.getD k.toNat default).turn = 1000))) (e0) ?_ ?_ (fun _ _ h => h)
        · show (¬ e0 = 0 ∧ navFr l k o = ([], e0)) ∨ (e0 = 0 ∧ (checkFr l = 0 ∧ holdsFr l k = 0) ∧ navBad o = false ∧ ¬ (l.getD k.toNat default).turn = 1000)
          exact rgo_6 hM4 hc2
        · refine weakE (sl := [(0, frRow l), (1, iv (k)), (2, iv (o)), (8, iv (e0))]) (ow := []) ?_ ?_
          · exact ⟨val_tmp rfl, val_tmp rfl, val_tmp rfl, val_tmp rfl, trivial⟩
          · exact trivial
    · rintro e1 hM
      have hM' : (¬ e1 = 0 ∧ navFr l k o = ([], e1)) ∨ (e1 = 0 ∧ (checkFr l = 0 ∧ holdsFr l k = 0) ∧ navBad o = false ∧ ¬ (l.getD k.toNat default).turn = 1000) := hM
      refine c_seq ?_
      refine c_seq ?_
      refine c_rq ?_
      refine tq_op (hd 33 (by decide)) (q_move (val_tmp rfl)) ?_
      refine tq_op (hd 34 (by decide)) (q_neq (val_tmp rfl) val_const) ?_
      refine tq_nil ?_
      refine c_cond (val_tmp rfl) (fun hc3 => ?_) (fun hc3 => ?_)
      · have hc3s := hc3
        try simp only [Bool.and_eq_true, Bool.or_eq_true, Bool.not_eq_true', Bool.not_eq_false', Bool.or_eq_false_iff, Bool.and_eq_false_iff, decide_eq_true_eq, decide_eq_false_iff_not] at hc3s
        have hM1 : navFr l k o = ([], e1) := (hM.resolve_right (fun h => hc3s h.1)).2
        refine c_seq ?_
        refine c_rq ?_
        refine tq_op (hd 35 (by decide)) (q_move (val_tmp rfl)) ?_
        refine tq_op (hd 6 (by decide)) (q_assign (val_nil (k := 5) (get := rowG frCell default []))) ?_
        refine tq_op (hd 7 (by decide)) (q_assign (val_tmp rfl)) ?_
        refine tq_nil ?_
        refine c_ret ?_
        exact ret2 rfl (val_tmp rfl) (val_tmp rfl) rfl rfl (by show sv2 (frRow ([])) (iv (e1)) = sv2 (frRow (navFr l k o).1) (iv (navFr l k o).2); rw [hM1])
      · have hc3s := hc3
        try simp only [Bool.and_eq_true, Bool.or_eq_true, Bool.not_eq_true', Bool.not_eq_false', Bool.or_eq_false_iff, Bool.and_eq_false_iff, decide_eq_true_eq, decide_eq_false_iff_not] at hc3s
        obtain ⟨he0, hf, hbad, ht⟩ := hM.resolve_left (fun h => h.1 hc3s)
        have hc0 := hf.1
        have h8 := check_len hf.1
        have hB := holds_in hf.2
        have hT := turn_le hf.1 hB.1 hB.2.1
        refine c_skip ?_
        refine c_seq ?_
        refine c_rt ?_
        refine t_nilO 1 5 (rowG frCell default []) 47 (.inl rfl) (hd 9 (by decide)) rfl ?_
        refine t_nil ?_
        refine c_seq ?_
        refine c_seq ?_
        refine c_rq ?_
        refine tq_op (hd 36 (by decide)) (q_move (val_tmp rfl)) ?_
        refine tq_op (hd 37 (by decide)) (q_len (val_tmp rfl) ts27) ?_
        refine tq_op (hd 38 (by decide)) (q_move val_const) ?_
        refine tq_nil ?_
        refine c_block ?_
        refine c_ownE 1 (navPre l k o 0) rfl (by rfl) ?_
        refine c_loop (fun (i : Nat) => (⟨[(0, frRow l), (1, iv (k)), (2, iv (o)), (9, SV.own 1), (36, frRow l), (37, iv ((l.length : Int))), (38, iv ((i : Int)))], [(1, ownOf frCell 5 default (navPre l k o i) 47)]⟩ : St)) (fun (i : Nat) => i ≤ l.length) (fun (i : Nat) => l.length - i) 0 ?_ ?_ ?_
        · show 0 ≤ l.length
          first | omega | (simp; done) | (refine ⟨?_, ?_⟩ <;> first | omega | (simp; done))
        · refine weakE (sl := [(0, frRow l), (1, iv (k)), (2, iv (o)), (9, SV.own 1), (36, frRow l), (37, iv ((l.length : Int))), (38, iv ((0 : Int)))]) (ow := [(1, ownOf frCell 5 default (navPre l k o 0) 47)]) ?_ ?_
          · exact ⟨val_tmp rfl, val_tmp rfl, val_tmp rfl, val_tmp rfl, val_tmp rfl, val_tmp rfl, val_tmp rfl, trivial⟩
          · exact ⟨⟨_, rfl, rfl⟩, trivial⟩
        · rintro i hI1
          have hJ1 : i ≤ l.length := hI1
          have hpl := navPre_len l k o i
          refine c_seq ?_
          refine c_rq ?_
          refine tq_op (hd 39 (by decide)) (q_lss (val_tmp rfl) (val_tmp rfl)) ?_
          refine tq_nil ?_
          refine c_seq ?_
          refine c_cond (val_tmp rfl) (fun hc4 => ?_) (fun hc4 => ?_)
          · have hc4s := hc4
            try simp only [Bool.and_eq_true, Bool.or_eq_true, Bool.not_eq_true', Bool.not_eq_false', Bool.or_eq_false_iff, Bool.and_eq_false_iff, decide_eq_true_eq, decide_eq_false_iff_not] at hc4s
            refine c_skip ?_
            refine c_seq ?_
            refine c_block ?_
            refine c_seq ?_
            refine c_rt ?_
            refine t_op (hd 40 (by decide)) (q_move (val_tmp rfl)) ?_
            refine t_op (hd 41 (by decide)) (q_idxN (i := i) (val_tmp rfl) (val_tmp rfl) ts27 te27 (by first | omega | (simp only [Bool.and_eq_true, Bool.or_eq_true, Bool.not_eq_true', Bool.not_eq_false', Bool.or_eq_false_iff, Bool.and_eq_false_iff, decide_eq_true_eq, decide_eq_false_iff_not] at *; omega))) ?_
            refine t_op (hd 42 (by decide)) (q_ldA (val_tmp rfl) Try.isAgg47 Try.sizeOf47 (by decide)) ?_
            refine t_alloc 2 (hd 11 (by decide)) zero47 rfl rfl ?_
            refine t_op (hd 10 (by decide)) (q_assign (val_tmp rfl)) ?_
            refine t_stA (val_tmp rfl) rfl (val_tmp rfl) Try.sizeOf47 ?_
            refine t_nil ?_
            refine c_seq ?_
            refine c_seq ?_
            refine c_rq ?_
            refine tq_op (hd 43 (by decide)) (q_move (val_tmp rfl)) ?_
            refine tq_op (hd 44 (by decide)) (q_move (val_tmp rfl)) ?_
            refine tq_op (hd 45 (by decide)) (q_eql (val_tmp rfl) (val_tmp rfl)) ?_
            refine tq_nil ?_
            refine c_cond (val_tmp rfl) (fun hc5 => ?_) (fun hc5 => ?_)
            · have hc5s := hc5
              try simp only [Bool.and_eq_true, Bool.or_eq_true, Bool.not_eq_true', Bool.not_eq_false', Bool.or_eq_false_iff, Bool.and_eq_false_iff, decide_eq_true_eq, decide_eq_false_iff_not] at hc5s
              have hik : k.toNat = i := by omega
              have hT2 := hT
              have ht2 := ht
              rw [hik] at hT2 ht2
              refine c_rt ?_
              refine t_op (hd 46 (by decide)) (q_move (val_tmp rfl)) ?_
              refine t_op (hd 47 (by decide)) (q_fldB _ _ (val_tmp rfl) Try.underlying47 rfl 0 (fun w => Try.sizeOf3 w)) ?_
              refine t_op (hd 48 (by decide)) (q_ldB (val_tmp rfl) rfl Try.isAgg3 (by decide)) ?_
              refine t_op (hd 49 (by decide)) (q_add (val_tmp rfl) val_const (by first | omega | (simp only [Bool.and_eq_true, Bool.or_eq_true, Bool.not_eq_true', Bool.not_eq_false', Bool.or_eq_false_iff, Bool.and_eq_false_iff, decide_eq_true_eq, decide_eq_false_iff_not] at *; omega))) ?_
              refine t_op (hd 50 (by decide)) (q_fldB _ _ (val_tmp rfl) Try.underlying47 rfl 0 (fun w => Try.sizeOf3 w)) ?_
              refine t_st1 (val_tmp rfl) rfl (val_tmp rfl) rfl Try.sizeOf3 (by decide) ?_
              refine t_op (hd 51 (by decide)) (q_fldB _ _ (val_tmp rfl) Try.underlying47 rfl 0 (fun w => Try.sizeOf3 w)) ?_
              refine t_st1 (val_tmp rfl) rfl (val_tmp rfl) rfl Try.sizeOf3 (by decide) ?_
              refine t_nil ?_
              refine c_rt ?_
              refine t_op (hd 57 (by decide)) (q_move (val_tmp rfl)) ?_
              refine t_op (hd 58 (by decide)) (q_ldBA (val_tmp rfl) rfl Try.isAgg47 Try.sizeOf47 (by decide)) ?_
              refine t_w (hd 59 (by decide)) (w_bs (n := 1) (zget := frCell ⟨0, 0, 0, 0, false⟩) [(fun zi => (upd (upd (fun zi => (rowG frCell default l) i (0 + zi)) 1 (iv (o))) 3 (iv (((l.getD i default).turn) + 1))) (0 + zi))] (rowG frCell default [⟨(l.getD i default).par, o, (l.getD i default).may, ((l.getD i default).turn) + 1, (l.getD i default).gone⟩]) Try.underlying27 (fun w => Try.sizeOf47 w) zero47 (by decide) rfl (by decide) ⟨⟨rfl, .inl (val_tmp rfl), rfl⟩, trivial⟩ ⟨trivial, ⟨⟨⟨⟨⟨trivial, rfl⟩, rfl⟩, rfl⟩, rfl⟩, rfl⟩⟩) ?_
              refine t_app 3 (rowG frCell default ((navPre l k o i) ++ ([⟨(l.getD i default).par, o, (l.getD i default).may, ((l.getD i default).turn) + 1, (l.getD i default).gone⟩]))) (hd 60 (by decide)) eo27 (val_tmp rfl) rfl (val_tmp rfl) rfl (len_app (navPre l k o i) ([⟨(l.getD i default).par, o, (l.getD i default).may, ((l.getD i default).turn) + 1, (l.getD i default).gone⟩])) (by first | (simp only [maxLen, List.length_append, List.length_set, List.length_nil, List.length_cons]; omega) | (simp only [maxLen]; omega)) (by first | (simp only [List.length_append, List.length_set, List.length_nil, List.length_cons]; omega) | (omega)) (app_typed (l := (navPre l k o i)) (m := ([⟨(l.getD i default).par, o, (l.getD i default).may, ((l.getD i default).turn) + 1, (l.getD i default).gone⟩]))) ?_
              refine t_op (hd 9 (by decide)) (q_assign (val_tmp rfl)) ?_
              refine t_nil ?_
              refine c_rq ?_
              refine tq_op (hd 61 (by decide)) (q_add (val_tmp rfl) val_const (by first | omega | (simp only [Bool.and_eq_true, Bool.or_eq_true, Bool.not_eq_true', Bool.not_eq_false', Bool.or_eq_false_iff, Bool.and_eq_false_iff, decide_eq_true_eq, decide_eq_false_iff_not] at *; omega))) ?_
              refine tq_op (hd 38 (by decide)) (q_move (val_tmp rfl)) ?_
              refine tq_nil ?_
              refine k_mv 3 1 rfl rfl ?_
              refine k_ownE 1 (navPre l k o ((i + 1))) rfl (by rw [navPre, nFr, if_pos hc5s]) ?_
              refine c_next (i + 1) ?_ ?_ ?_
              · show (i + 1) ≤ l.length
                first | omega | (simp; done) | (refine ⟨?_, ?_⟩ <;> first | omega | (simp; done))
              · show l.length - (i + 1) < l.length - i
                omega
              · refine weakE (sl := [(0, frRow l), (1, iv (k)), (2, iv (o)), (9, SV.own 1), (36, frRow l), (37, iv ((l.length : Int))), (38, iv (((i + 1) : Int)))]) (ow := [(1, ownOf frCell 5 default (navPre l k o ((i + 1))) 47)]) ?_ ?_
                · exact ⟨val_tmp rfl, val_tmp rfl, val_tmp rfl, val_tmp rfl, val_tmp rfl, val_tmp rfl, val_tmp rfl, trivial⟩
                · exact ⟨⟨_, rfl, rfl⟩, trivial⟩
            · have hc5s := hc5
              try simp only [Bool.and_eq_true, Bool.or_eq_true, Bool.not_eq_true', Bool.not_eq_false', Bool.or_eq_false_iff, Bool.and_eq_false_iff, decide_eq_true_eq, decide_eq_false_iff_not] at hc5s
              refine c_seq ?_
              refine c_rq ?_
              refine tq_op (hd 52 (by decide)) (q_move (val_tmp rfl)) ?_
              refine tq_op (hd 53 (by decide)) (q_move (val_tmp rfl)) ?_
              refine tq_op (hd 54 (by decide)) (q_move (val_tmp rfl)) ?_
              refine tq_call en48 (hd 55 (by decide)) (by exact ⟨⟨(val_tmp rfl), rfl⟩, ⟨(val_tmp rfl), rfl⟩, ⟨(val_tmp rfl), rfl⟩, trivial⟩) (rwithin_ct (by assumption) ((i : Int)) k) ?_
              refine tq_nil ?_
              refine c_cond (val_tmp rfl) (fun hc6 => ?_) (fun hc6 => ?_)
              · have hc6s := hc6
                try simp only [Bool.and_eq_true, Bool.or_eq_true, Bool.not_eq_true', Bool.not_eq_false', Bool.or_eq_false_iff, Bool.and_eq_false_iff, decide_eq_true_eq, decide_eq_false_iff_not] at hc6s
                refine c_rt ?_
                refine t_op (hd 56 (by decide)) (q_fldB _ _ (val_tmp rfl) Try.underlying47 rfl 0 (fun w => Try.sizeOf4 w)) ?_
                refine t_st1 (val_tmp rfl) rfl val_const rfl Try.sizeOf4 (by decide) ?_
                refine t_nil ?_
                refine c_rt ?_
                refine t_op (hd 57 (by decide)) (q_move (val_tmp rfl)) ?_
                refine t_op (hd 58 (by decide)) (q_ldBA (val_tmp rfl) rfl Try.isAgg47 Try.sizeOf47 (by decide)) ?_
                refine t_w (hd 59 (by decide)) (w_bs (n := 1) (zget := frCell ⟨0, 0, 0, 0, false⟩) [(fun zi => (upd (fun zi => (rowG frCell default l) i (0 + zi)) 4 (bv (true))) (0 + zi))] (rowG frCell default [⟨(l.getD i default).par, (l.getD i default).org, (l.getD i default).may, (l.getD i default).turn, true⟩]) Try.underlying27 (fun w => Try.sizeOf47 w) zero47 (by decide) rfl (by decide) ⟨⟨rfl, .inl (val_tmp rfl), rfl⟩, trivial⟩ ⟨trivial, ⟨⟨⟨⟨⟨trivial, rfl⟩, rfl⟩, rfl⟩, rfl⟩, rfl⟩⟩) ?_
                refine t_app 4 (rowG frCell default ((navPre l k o i) ++ ([⟨(l.getD i default).par, (l.getD i default).org, (l.getD i default).may, (l.getD i default).turn, true⟩]))) (hd 60 (by decide)) eo27 (val_tmp rfl) rfl (val_tmp rfl) rfl (len_app (navPre l k o i) ([⟨(l.getD i default).par, (l.getD i default).org, (l.getD i default).may, (l.getD i default).turn, true⟩])) (by first | (simp only [maxLen, List.length_append, List.length_set, List.length_nil, List.length_cons]; omega) | (simp only [maxLen]; omega)) (by first | (simp only [List.length_append, List.length_set, List.length_nil, List.length_cons]; omega) | (omega)) (app_typed (l := (navPre l k o i)) (m := ([⟨(l.getD i default).par, (l.getD i default).org, (l.getD i default).may, (l.getD i default).turn, true⟩]))) ?_
                refine t_op (hd 9 (by decide)) (q_assign (val_tmp rfl)) ?_
                refine t_nil ?_
                refine c_rq ?_
                refine tq_op (hd 61 (by decide)) (q_add (val_tmp rfl) val_const (by first | omega | (simp only [Bool.and_eq_true, Bool.or_eq_true, Bool.not_eq_true', Bool.not_eq_false', Bool.or_eq_false_iff, Bool.and_eq_false_iff, decide_eq_true_eq, decide_eq_false_iff_not] at *; omega))) ?_
                refine tq_op (hd 38 (by decide)) (q_move (val_tmp rfl)) ?_
                refine tq_nil ?_
                refine k_mv 4 1 rfl rfl ?_
                refine k_ownE 1 (navPre l k o ((i + 1))) rfl (by rw [navPre, nFr, if_neg hc5s, if_pos hc6]) ?_
                refine c_next (i + 1) ?_ ?_ ?_
                · show (i + 1) ≤ l.length
                  first | omega | (simp; done) | (refine ⟨?_, ?_⟩ <;> first | omega | (simp; done))
                · show l.length - (i + 1) < l.length - i
                  omega
                · refine weakE (sl := [(0, frRow l), (1, iv (k)), (2, iv (o)), (9, SV.own 1), (36, frRow l), (37, iv ((l.length : Int))), (38, iv (((i + 1) : Int)))]) (ow := [(1, ownOf frCell 5 default (navPre l k o ((i + 1))) 47)]) ?_ ?_
                  · exact ⟨val_tmp rfl, val_tmp rfl, val_tmp rfl, val_tmp rfl, val_tmp rfl, val_tmp rfl, val_tmp rfl, trivial⟩
                  · exact ⟨⟨_, rfl, rfl⟩, trivial⟩
              · have hc6s := hc6
                try simp only [Bool.and_eq_true, Bool.or_eq_true, Bool.not_eq_true', Bool.not_eq_false', Bool.or_eq_false_iff, Bool.and_eq_false_iff, decide_eq_true_eq, decide_eq_false_iff_not] at hc6s
                refine c_skip ?_
                refine c_rt ?_
                refine t_op (hd 57 (by decide)) (q_move (val_tmp rfl)) ?_
                refine t_op (hd 58 (by decide)) (q_ldBA (val_tmp rfl) rfl Try.isAgg47 Try.sizeOf47 (by decide)) ?_
                refine t_w (hd 59 (by decide)) (w_bs (n := 1) (zget := frCell ⟨0, 0, 0, 0, false⟩) [(fun zi => (fun zi => (rowG frCell default l) i (0 + zi)) (0 + zi))] (rowG frCell default [⟨(l.getD i default).par, (l.getD i default).org, (l.getD i default).may, (l.getD i default).turn, (l.getD i default).gone⟩]) Try.underlying27 (fun w => Try.sizeOf47 w) zero47 (by decide) rfl (by decide) ⟨⟨rfl, .inl (val_tmp rfl), rfl⟩, trivial⟩ ⟨trivial, ⟨⟨⟨⟨⟨trivial, rfl⟩, rfl⟩, rfl⟩, rfl⟩, rfl⟩⟩) ?_
                refine t_app 5 (rowG frCell default ((navPre l k o i) ++ ([⟨(l.getD i default).par, (l.getD i default).org, (l.getD i default).may, (l.getD i default).turn, (l.getD i default).gone⟩]))) (hd 60 (by decide)) eo27 (val_tmp rfl) rfl (val_tmp rfl) rfl (len_app (navPre l k o i) ([⟨(l.getD i default).par, (l.getD i default).org, (l.getD i default).may, (l.getD i default).turn, (l.getD i default).gone⟩])) (by first | (simp only [maxLen, List.length_append, List.length_set, List.length_nil, List.length_cons]; omega) | (simp only [maxLen]; omega)) (by first | (simp only [List.length_append, List.length_set, List.length_nil, List.length_cons]; omega) | (omega)) (app_typed (l := (navPre l k o i)) (m := ([⟨(l.getD i default).par, (l.getD i default).org, (l.getD i default).may, (l.getD i default).turn, (l.getD i default).gone⟩]))) ?_
                refine t_op (hd 9 (by decide)) (q_assign (val_tmp rfl)) ?_
                refine t_nil ?_
                refine c_rq ?_
                refine tq_op (hd 61 (by decide)) (q_add (val_tmp rfl) val_const (by first | omega | (simp only [Bool.and_eq_true, Bool.or_eq_true, Bool.not_eq_true', Bool.not_eq_false', Bool.or_eq_false_iff, Bool.and_eq_false_iff, decide_eq_true_eq, decide_eq_false_iff_not] at *; omega))) ?_
                refine tq_op (hd 38 (by decide)) (q_move (val_tmp rfl)) ?_
                refine tq_nil ?_
                refine k_mv 5 1 rfl rfl ?_
                refine k_ownE 1 (navPre l k o ((i + 1))) rfl (by rw [navPre, nFr, if_neg hc5s, if_neg (ff hc6)]) ?_
                refine c_next (i + 1) ?_ ?_ ?_
                · show (i + 1) ≤ l.length
                  first | omega | (simp; done) | (refine ⟨?_, ?_⟩ <;> first | omega | (simp; done))
                · show l.length - (i + 1) < l.length - i
                  omega
                · refine weakE (sl := [(0, frRow l), (1, iv (k)), (2, iv (o)), (9, SV.own 1), (36, frRow l), (37, iv ((l.length : Int))), (38, iv (((i + 1) : Int)))]) (ow := [(1, ownOf frCell 5 default (navPre l k o ((i + 1))) 47)]) ?_ ?_
                  · exact ⟨val_tmp rfl, val_tmp rfl, val_tmp rfl, val_tmp rfl, val_tmp rfl, val_tmp rfl, val_tmp rfl, trivial⟩
                  · exact ⟨⟨_, rfl, rfl⟩, trivial⟩
          · have hc4s := hc4
            try simp only [Bool.and_eq_true, Bool.or_eq_true, Bool.not_eq_true', Bool.not_eq_false', Bool.or_eq_false_iff, Bool.and_eq_false_iff, decide_eq_true_eq, decide_eq_false_iff_not] at hc4s
            refine c_exit ?_
            refine c_seq ?_
            refine c_rq ?_
            refine tq_op (hd 62 (by decide)) (q_move (val_tmp rfl)) ?_
            refine tq_op (hd 6 (by decide)) (q_assign (val_tmp rfl)) ?_
            refine tq_op (hd 7 (by decide)) (q_assign val_const) ?_
            refine tq_nil ?_
            refine c_frz 1 rfl ?_
            refine c_ret ?_
            exact ret2 rfl (val_tmp rfl) (val_tmp rfl) rfl rfl (by show sv2 (frRow (navPre l k o i)) (iv (0)) = sv2 (frRow (navFr l k o).1) (iv (navFr l k o).2); rw [nav_5 hf.1 hf.2 hbad ht, show i = l.length by omega])

/-- glasshouse/glasshouselaw.framed -/
theorem framed_ct  : Ct Try.prog 30 [] (bv true) := by
  refine ct_of Try.func30 rfl (by show 0 ≤ 72; decide) fun E hN => ?_
  have hd : ∀ d, d < 72 → d < E.N := fun d h => Nat.lt_of_lt_of_eq h hN.symm
  refine c_seq ?_
  refine c_rq ?_
  refine tq_op (hd 0 (by decide)) (q_assign val_const) ?_
  refine tq_nil ?_
  refine c_seq ?_
  refine c_rt ?_
  refine t_op (hd 9 (by decide)) (q_build [(0, iv ((-1))), (2, iv (7))] id (frCell ⟨(-1), 0, 7, 0, false⟩) zero47 build47 (by exact ⟨⟨rfl, val_const, rfl⟩, ⟨rfl, val_const, rfl⟩, trivial⟩) (by decide) ⟨⟨⟨⟨⟨trivial, rfl⟩, rfl⟩, rfl⟩, rfl⟩, rfl⟩) ?_
  refine t_w (hd 10 (by decide)) (w_bs (n := 1) (zget := frCell ⟨0, 0, 0, 0, false⟩) [(frCell ⟨(-1), 0, 7, 0, false⟩)] (rowG frCell default [⟨(-1), 0, 7, 0, false⟩]) Try.underlying27 (fun w => Try.sizeOf47 w) zero47 (by decide) rfl (by decide) ⟨⟨rfl, .inl (val_tmp rfl), rfl⟩, trivial⟩ ⟨trivial, ⟨⟨⟨⟨⟨trivial, rfl⟩, rfl⟩, rfl⟩, rfl⟩, rfl⟩⟩) ?_
  refine t_call en43 (hd 11 (by decide)) (by exact ⟨⟨(val_tmp rfl), rfl⟩, ⟨val_const, rfl⟩, ⟨val_const, rfl⟩, ⟨val_const, rfl⟩, trivial⟩) (attach_ct ([⟨(-1), 0, 7, 0, false⟩]) 0 1 5) ?_
  refine t_op (hd 8 (by decide)) (q_move (val_tmp rfl)) ?_
  refine t_op (hd 12 (by decide)) (q_ext (val_tmp rfl) (by decide)) ?_
  refine t_op (hd 13 (by decide)) (q_ext (val_tmp rfl) (by decide)) ?_
  refine t_op (hd 1 (by decide)) (q_assign (val_tmp rfl)) ?_
  refine t_op (hd 2 (by decide)) (q_assign (val_tmp rfl)) ?_
  refine t_nil ?_
  refine c_seq ?_
  refine c_rt ?_
  refine t_op (hd 15 (by decide)) (q_move (val_tmp rfl)) ?_
  refine t_call en43 (hd 16 (by decide)) (by exact ⟨⟨(val_tmp rfl), rfl⟩, ⟨val_const, rfl⟩, ⟨val_const, rfl⟩, ⟨val_const, rfl⟩, trivial⟩) (attach_ct ((attachFr ([⟨(-1), 0, 7, 0, false⟩]) 0 1 5).1) 1 2 7) ?_
  refine t_op (hd 14 (by decide)) (q_move (val_tmp rfl)) ?_
  refine t_op (hd 17 (by decide)) (q_ext (val_tmp rfl) (by decide)) ?_
  refine t_op (hd 18 (by decide)) (q_ext (val_tmp rfl) (by decide)) ?_
  refine t_op (hd 1 (by decide)) (q_assign (val_tmp rfl)) ?_
  refine t_op (hd 3 (by decide)) (q_assign (val_tmp rfl)) ?_
  refine t_nil ?_
  refine c_seq ?_
  refine c_rt ?_
  refine t_op (hd 20 (by decide)) (q_move (val_tmp rfl)) ?_
  refine t_call en31 (hd 21 (by decide)) (by exact ⟨⟨(val_tmp rfl), rfl⟩, ⟨val_const, rfl⟩, trivial⟩) (length_ct ((attachFr ((attachFr ([⟨(-1), 0, 7, 0, false⟩]) 0 1 5).1) 1 2 7).1) 0) ?_
  refine t_op (hd 19 (by decide)) (q_move (val_tmp rfl)) ?_
  refine t_op (hd 22 (by decide)) (q_ext (val_tmp rfl) (by decide)) ?_
  refine t_op (hd 23 (by decide)) (q_ext (val_tmp rfl) (by decide)) ?_
  refine t_op (hd 4 (by decide)) (q_assign (val_tmp rfl)) ?_
  refine t_op (hd 5 (by decide)) (q_assign (val_tmp rfl)) ?_
  refine t_nil ?_
  refine c_seq ?_
  refine c_rt ?_
  refine t_op (hd 25 (by decide)) (q_move (val_tmp rfl)) ?_
  refine t_call en39 (hd 26 (by decide)) (by exact ⟨⟨(val_tmp rfl), rfl⟩, ⟨val_const, rfl⟩, trivial⟩) (discard_ct ((attachFr ((attachFr ([⟨(-1), 0, 7, 0, false⟩]) 0 1 5).1) 1 2 7).1) 1) ?_
  refine t_op (hd 24 (by decide)) (q_move (val_tmp rfl)) ?_
  refine t_op (hd 27 (by decide)) (q_ext (val_tmp rfl) (by decide)) ?_
  refine t_op (hd 28 (by decide)) (q_ext (val_tmp rfl) (by decide)) ?_
  refine t_op (hd 6 (by decide)) (q_assign (val_tmp rfl)) ?_
  refine t_op (hd 7 (by decide)) (q_assign (val_tmp rfl)) ?_
  refine t_nil ?_
  refine c_seq ?_
  refine c_rq ?_
  refine tq_op (hd 29 (by decide)) (q_move (val_tmp rfl)) ?_
  refine tq_op (hd 30 (by decide)) (q_eql (val_tmp rfl) val_const) ?_
  refine tq_op (hd 31 (by decide)) (q_move (val_tmp rfl)) ?_
  refine tq_opG (g_yes rfl rfl) (hd 32 (by decide)) (fun hg => q_move (val_tmp rfl)) ?_
  refine tq_opG (g_yes rfl rfl) (hd 33 (by decide)) (fun hg => q_eql (val_grd (val_tmp rfl) hg) val_const) ?_
  refine tq_op (hd 34 (by decide)) (q_and (val_tmp rfl) (fun h => val_grd (val_tmp rfl) h)) ?_
  refine tq_op (hd 35 (by decide)) (q_move (val_tmp rfl)) ?_
  refine tq_opG (g_yes rfl rfl) (hd 36 (by decide)) (fun hg => q_move (val_tmp rfl)) ?_
  refine tq_opG (g_yes rfl rfl) (hd 37 (by decide)) (fun hg => q_eql (val_grd (val_tmp rfl) hg) val_const) ?_
  refine tq_op (hd 38 (by decide)) (q_and (val_tmp rfl) (fun h => val_grd (val_tmp rfl) h)) ?_
  refine tq_op (hd 39 (by decide)) (q_move (val_tmp rfl)) ?_
  refine tq_opG (g_yes rfl rfl) (hd 40 (by decide)) (fun hg => q_move (val_tmp rfl)) ?_
  refine tq_opG (g_yes rfl rfl) (hd 41 (by decide)) (fun hg => q_eql (val_grd (val_tmp rfl) hg) val_const) ?_
  refine tq_op (hd 42 (by decide)) (q_and (val_tmp rfl) (fun h => val_grd (val_tmp rfl) h)) ?_
  refine tq_op (hd 43 (by decide)) (q_move (val_tmp rfl)) ?_
  refine tq_opG (g_yes rfl rfl) (hd 44 (by decide)) (fun hg => q_move (val_tmp rfl)) ?_
  refine tq_opG (g_yes rfl rfl) (hd 45 (by decide)) (fun hg => q_eql (val_grd (val_tmp rfl) hg) val_const) ?_
  refine tq_op (hd 46 (by decide)) (q_and (val_tmp rfl) (fun h => val_grd (val_tmp rfl) h)) ?_
  refine tq_op (hd 47 (by decide)) (q_move (val_tmp rfl)) ?_
  refine tq_opG (g_yes rfl rfl) (hd 48 (by decide)) (fun hg => q_move (val_tmp rfl)) ?_
  refine tq_opG (g_yes rfl rfl) (hd 49 (by decide)) (fun hg => q_len (val_grd (val_tmp rfl) hg) ts27) ?_
  refine tq_opG (g_yes rfl rfl) (hd 50 (by decide)) (fun hg => q_eql (val_grd (val_tmp rfl) hg) val_const) ?_
  refine tq_op (hd 51 (by decide)) (q_and (val_tmp rfl) (fun h => val_grd (val_tmp rfl) h)) ?_
  refine tq_op (hd 52 (by decide)) (q_move (val_tmp rfl)) ?_
  refine tq_opG (g_yes rfl rfl) (hd 53 (by decide)) (fun hg => q_move (val_tmp rfl)) ?_
  refine tq_opG (g_yes rfl rfl) (hd 54 (by decide)) (fun hg => q_idx (val_grd (val_tmp rfl) hg) val_const ts27 te27 (by first | omega | (simp only [Bool.and_eq_true, Bool.or_eq_true, Bool.not_eq_true', Bool.not_eq_false', Bool.or_eq_false_iff, Bool.and_eq_false_iff, decide_eq_true_eq, decide_eq_false_iff_not] at *; omega)) (by first | omega | decide)) ?_
  refine tq_opG (g_yes rfl rfl) (hd 55 (by decide)) (fun hg => q_fld _ _ (val_grd (val_tmp rfl) hg) Try.underlying47 rfl 0 (fun w => Try.sizeOf3 w)) ?_
  refine tq_opG (g_yes rfl rfl) (hd 56 (by decide)) (fun hg => q_ld (val_grd (val_tmp rfl) hg) Try.isAgg3 (by decide)) ?_
  refine tq_opG (g_yes rfl rfl) (hd 57 (by decide)) (fun hg => q_eql (val_grd (val_tmp rfl) hg) val_const) ?_
  refine tq_op (hd 58 (by decide)) (q_and (val_tmp rfl) (fun h => val_grd (val_tmp rfl) h)) ?_
  refine tq_op (hd 59 (by decide)) (q_move (val_tmp rfl)) ?_
  refine tq_opG (g_yes rfl rfl) (hd 60 (by decide)) (fun hg => q_move (val_tmp rfl)) ?_
  refine tq_opG (g_yes rfl rfl) (hd 61 (by decide)) (fun hg => q_idx (val_grd (val_tmp rfl) hg) val_const ts27 te27 (by first | omega | (simp only [Bool.and_eq_true, Bool.or_eq_true, Bool.not_eq_true', Bool.not_eq_false', Bool.or_eq_false_iff, Bool.and_eq_false_iff, decide_eq_true_eq, decide_eq_false_iff_not] at *; omega)) (by first | omega | decide)) ?_
  refine tq_opG (g_yes rfl rfl) (hd 62 (by decide)) (fun hg => q_fld _ _ (val_grd (val_tmp rfl) hg) Try.underlying47 rfl 0 (fun w => Try.sizeOf4 w)) ?_
  refine tq_opG (g_yes rfl rfl) (hd 63 (by decide)) (fun hg => q_ld (val_grd (val_tmp rfl) hg) Try.isAgg4 (by decide)) ?_
  refine tq_op (hd 64 (by decide)) (q_and (val_tmp rfl) (fun h => val_grd (val_tmp rfl) h)) ?_
  refine tq_op (hd 65 (by decide)) (q_move (val_tmp rfl)) ?_
  refine tq_opG (g_yes rfl rfl) (hd 66 (by decide)) (fun hg => q_move (val_tmp rfl)) ?_
  refine tq_opG (g_yes rfl rfl) (hd 67 (by decide)) (fun hg => q_idx (val_grd (val_tmp rfl) hg) val_const ts27 te27 (by first | omega | (simp only [Bool.and_eq_true, Bool.or_eq_true, Bool.not_eq_true', Bool.not_eq_false', Bool.or_eq_false_iff, Bool.and_eq_false_iff, decide_eq_true_eq, decide_eq_false_iff_not] at *; omega)) (by first | omega | decide)) ?_
  refine tq_opG (g_yes rfl rfl) (hd 68 (by decide)) (fun hg => q_fld _ _ (val_grd (val_tmp rfl) hg) Try.underlying47 rfl 0 (fun w => Try.sizeOf4 w)) ?_
  refine tq_opG (g_yes rfl rfl) (hd 69 (by decide)) (fun hg => q_ld (val_grd (val_tmp rfl) hg) Try.isAgg4 (by decide)) ?_
  refine tq_opG (g_yes rfl rfl) (hd 70 (by decide)) (fun hg => q_not (val_grd (val_tmp rfl) hg)) ?_
  refine tq_op (hd 71 (by decide)) (q_and (val_tmp rfl) (fun h => val_grd (val_tmp rfl) h)) ?_
  refine tq_op (hd 0 (by decide)) (q_assign (val_tmp rfl)) ?_
  refine tq_nil ?_
  refine c_ret ?_
  exact ret1 rfl (val_tmp rfl) rfl (by show bv (((((((((decide ((attachFr ([⟨(-1), 0, 7, 0, false⟩]) 0 1 5).2 = 0)) && (decide ((attachFr ((attachFr ([⟨(-1), 0, 7, 0, false⟩]) 0 1 5).1) 1 2 7).2 = 0))) && (decide ((lenFr ((attachFr ((attachFr ([⟨(-1), 0, 7, 0, false⟩]) 0 1 5).1) 1 2 7).1) 0).2 = 0))) && (decide ((discardFr ((attachFr ((attachFr ([⟨(-1), 0, 7, 0, false⟩]) 0 1 5).1) 1 2 7).1) 1).2 = 0))) && (decide ((lenFr ((attachFr ((attachFr ([⟨(-1), 0, 7, 0, false⟩]) 0 1 5).1) 1 2 7).1) 0).1 = 1))) && (decide ((((attachFr ((attachFr ([⟨(-1), 0, 7, 0, false⟩]) 0 1 5).1) 1 2 7).1).length : Int) = 3))) && (decide ((((attachFr ((attachFr ([⟨(-1), 0, 7, 0, false⟩]) 0 1 5).1) 1 2 7).1).getD 2 default).may = 5))) && ((((discardFr ((attachFr ((attachFr ([⟨(-1), 0, 7, 0, false⟩]) 0 1 5).1) 1 2 7).1) 1).1).getD 2 default).gone)) && (!((((discardFr ((attachFr ((attachFr ([⟨(-1), 0, 7, 0, false⟩]) 0 1 5).1) 1 2 7).1) 1).1).getD 0 default).gone))) = bv true; rfl)

/-- glasshouse/glasshouselaw.gone -/
theorem gone35_ct  : Ct Try.prog 35 [] (bv true) := by
  refine ct_of Try.func35 rfl (by show 0 ≤ 73; decide) fun E hN => ?_
  have hd : ∀ d, d < 73 → d < E.N := fun d h => Nat.lt_of_lt_of_eq h hN.symm
  refine c_seq ?_
  refine c_rq ?_
  refine tq_op (hd 0 (by decide)) (q_assign val_const) ?_
  refine tq_nil ?_
  refine c_seq ?_
  refine c_rt ?_
  refine t_op (hd 7 (by decide)) (q_build [(0, iv ((-1))), (2, iv (7))] id (frCell ⟨(-1), 0, 7, 0, false⟩) zero47 build47 (by exact ⟨⟨rfl, val_const, rfl⟩, ⟨rfl, val_const, rfl⟩, trivial⟩) (by decide) ⟨⟨⟨⟨⟨trivial, rfl⟩, rfl⟩, rfl⟩, rfl⟩, rfl⟩) ?_
  refine t_w (hd 8 (by decide)) (w_bs (n := 1) (zget := frCell ⟨0, 0, 0, 0, false⟩) [(frCell ⟨(-1), 0, 7, 0, false⟩)] (rowG frCell default [⟨(-1), 0, 7, 0, false⟩]) Try.underlying27 (fun w => Try.sizeOf47 w) zero47 (by decide) rfl (by decide) ⟨⟨rfl, .inl (val_tmp rfl), rfl⟩, trivial⟩ ⟨trivial, ⟨⟨⟨⟨⟨trivial, rfl⟩, rfl⟩, rfl⟩, rfl⟩, rfl⟩⟩) ?_
  refine t_call en43 (hd 9 (by decide)) (by exact ⟨⟨(val_tmp rfl), rfl⟩, ⟨val_const, rfl⟩, ⟨val_const, rfl⟩, ⟨val_const, rfl⟩, trivial⟩) (attach_ct ([⟨(-1), 0, 7, 0, false⟩]) 0 1 7) ?_
  refine t_op (hd 6 (by decide)) (q_move (val_tmp rfl)) ?_
  refine t_op (hd 10 (by decide)) (q_ext (val_tmp rfl) (by decide)) ?_
  refine t_op (hd 11 (by decide)) (q_ext (val_tmp rfl) (by decide)) ?_
  refine t_op (hd 1 (by decide)) (q_assign (val_tmp rfl)) ?_
  refine t_op (hd 2 (by decide)) (q_assign (val_tmp rfl)) ?_
  refine t_nil ?_
  refine c_seq ?_
  refine c_rt ?_
  refine t_op (hd 13 (by decide)) (q_move (val_tmp rfl)) ?_
  refine t_call en43 (hd 14 (by decide)) (by exact ⟨⟨(val_tmp rfl), rfl⟩, ⟨val_const, rfl⟩, ⟨val_const, rfl⟩, ⟨val_const, rfl⟩, trivial⟩) (attach_ct ((attachFr ([⟨(-1), 0, 7, 0, false⟩]) 0 1 7).1) 1 1 7) ?_
  refine t_op (hd 12 (by decide)) (q_move (val_tmp rfl)) ?_
  refine t_op (hd 15 (by decide)) (q_ext (val_tmp rfl) (by decide)) ?_
  refine t_op (hd 16 (by decide)) (q_ext (val_tmp rfl) (by decide)) ?_
  refine t_op (hd 1 (by decide)) (q_assign (val_tmp rfl)) ?_
  refine t_op (hd 3 (by decide)) (q_assign (val_tmp rfl)) ?_
  refine t_nil ?_
  refine c_seq ?_
  refine c_rt ?_
  refine t_op (hd 18 (by decide)) (q_move (val_tmp rfl)) ?_
  refine t_call en36 (hd 19 (by decide)) (by exact ⟨⟨(val_tmp rfl), rfl⟩, ⟨val_const, rfl⟩, ⟨val_const, rfl⟩, trivial⟩) (go_ct ((attachFr ((attachFr ([⟨(-1), 0, 7, 0, false⟩]) 0 1 7).1) 1 1 7).1) 1 5) ?_
  refine t_op (hd 17 (by decide)) (q_move (val_tmp rfl)) ?_
  refine t_op (hd 20 (by decide)) (q_ext (val_tmp rfl) (by decide)) ?_
  refine t_op (hd 21 (by decide)) (q_ext (val_tmp rfl) (by decide)) ?_
  refine t_op (hd 4 (by decide)) (q_assign (val_tmp rfl)) ?_
  refine t_op (hd 5 (by decide)) (q_assign (val_tmp rfl)) ?_
  refine t_nil ?_
  refine c_seq ?_
  refine c_rq ?_
  refine tq_op (hd 22 (by decide)) (q_move (val_tmp rfl)) ?_
  refine tq_op (hd 23 (by decide)) (q_eql (val_tmp rfl) val_const) ?_
  refine tq_op (hd 24 (by decide)) (q_move (val_tmp rfl)) ?_
  refine tq_opG (g_yes rfl rfl) (hd 25 (by decide)) (fun hg => q_move (val_tmp rfl)) ?_
  refine tq_opG (g_yes rfl rfl) (hd 26 (by decide)) (fun hg => q_eql (val_grd (val_tmp rfl) hg) val_const) ?_
  refine tq_op (hd 27 (by decide)) (q_and (val_tmp rfl) (fun h => val_grd (val_tmp rfl) h)) ?_
  refine tq_op (hd 28 (by decide)) (q_move (val_tmp rfl)) ?_
  refine tq_opG (g_yes rfl rfl) (hd 29 (by decide)) (fun hg => q_move (val_tmp rfl)) ?_
  refine tq_opG (g_yes rfl rfl) (hd 30 (by decide)) (fun hg => q_eql (val_grd (val_tmp rfl) hg) val_const) ?_
  refine tq_op (hd 31 (by decide)) (q_and (val_tmp rfl) (fun h => val_grd (val_tmp rfl) h)) ?_
  refine tq_op (hd 32 (by decide)) (q_move (val_tmp rfl)) ?_
  refine tq_opG (g_yes rfl rfl) (hd 33 (by decide)) (fun hg => q_move (val_tmp rfl)) ?_
  refine tq_opG (g_yes rfl rfl) (hd 34 (by decide)) (fun hg => q_len (val_grd (val_tmp rfl) hg) ts27) ?_
  refine tq_opG (g_yes rfl rfl) (hd 35 (by decide)) (fun hg => q_eql (val_grd (val_tmp rfl) hg) val_const) ?_
  refine tq_op (hd 36 (by decide)) (q_and (val_tmp rfl) (fun h => val_grd (val_tmp rfl) h)) ?_
  refine tq_op (hd 37 (by decide)) (q_move (val_tmp rfl)) ?_
  refine tq_opG (g_yes rfl rfl) (hd 38 (by decide)) (fun hg => q_move (val_tmp rfl)) ?_
  refine tq_opG (g_yes rfl rfl) (hd 39 (by decide)) (fun hg => q_idx (val_grd (val_tmp rfl) hg) val_const ts27 te27 (by first | omega | (simp only [Bool.and_eq_true, Bool.or_eq_true, Bool.not_eq_true', Bool.not_eq_false', Bool.or_eq_false_iff, Bool.and_eq_false_iff, decide_eq_true_eq, decide_eq_false_iff_not] at *; omega)) (by first | omega | decide)) ?_
  refine tq_opG (g_yes rfl rfl) (hd 40 (by decide)) (fun hg => q_fld _ _ (val_grd (val_tmp rfl) hg) Try.underlying47 rfl 0 (fun w => Try.sizeOf3 w)) ?_
  refine tq_opG (g_yes rfl rfl) (hd 41 (by decide)) (fun hg => q_ld (val_grd (val_tmp rfl) hg) Try.isAgg3 (by decide)) ?_
  refine tq_opG (g_yes rfl rfl) (hd 42 (by decide)) (fun hg => q_eql (val_grd (val_tmp rfl) hg) val_const) ?_
  refine tq_op (hd 43 (by decide)) (q_and (val_tmp rfl) (fun h => val_grd (val_tmp rfl) h)) ?_
  refine tq_op (hd 44 (by decide)) (q_move (val_tmp rfl)) ?_
  refine tq_opG (g_yes rfl rfl) (hd 45 (by decide)) (fun hg => q_move (val_tmp rfl)) ?_
  refine tq_opG (g_yes rfl rfl) (hd 46 (by decide)) (fun hg => q_idx (val_grd (val_tmp rfl) hg) val_const ts27 te27 (by first | omega | (simp only [Bool.and_eq_true, Bool.or_eq_true, Bool.not_eq_true', Bool.not_eq_false', Bool.or_eq_false_iff, Bool.and_eq_false_iff, decide_eq_true_eq, decide_eq_false_iff_not] at *; omega)) (by first | omega | decide)) ?_
  refine tq_opG (g_yes rfl rfl) (hd 47 (by decide)) (fun hg => q_fld _ _ (val_grd (val_tmp rfl) hg) Try.underlying47 rfl 0 (fun w => Try.sizeOf3 w)) ?_
  refine tq_opG (g_yes rfl rfl) (hd 48 (by decide)) (fun hg => q_ld (val_grd (val_tmp rfl) hg) Try.isAgg3 (by decide)) ?_
  refine tq_opG (g_yes rfl rfl) (hd 49 (by decide)) (fun hg => q_eql (val_grd (val_tmp rfl) hg) val_const) ?_
  refine tq_op (hd 50 (by decide)) (q_and (val_tmp rfl) (fun h => val_grd (val_tmp rfl) h)) ?_
  refine tq_op (hd 51 (by decide)) (q_move (val_tmp rfl)) ?_
  refine tq_opG (g_yes rfl rfl) (hd 52 (by decide)) (fun hg => q_move (val_tmp rfl)) ?_
  refine tq_opG (g_yes rfl rfl) (hd 53 (by decide)) (fun hg => q_idx (val_grd (val_tmp rfl) hg) val_const ts27 te27 (by first | omega | (simp only [Bool.and_eq_true, Bool.or_eq_true, Bool.not_eq_true', Bool.not_eq_false', Bool.or_eq_false_iff, Bool.and_eq_false_iff, decide_eq_true_eq, decide_eq_false_iff_not] at *; omega)) (by first | omega | decide)) ?_
  refine tq_opG (g_yes rfl rfl) (hd 54 (by decide)) (fun hg => q_fld _ _ (val_grd (val_tmp rfl) hg) Try.underlying47 rfl 0 (fun w => Try.sizeOf4 w)) ?_
  refine tq_opG (g_yes rfl rfl) (hd 55 (by decide)) (fun hg => q_ld (val_grd (val_tmp rfl) hg) Try.isAgg4 (by decide)) ?_
  refine tq_op (hd 56 (by decide)) (q_and (val_tmp rfl) (fun h => val_grd (val_tmp rfl) h)) ?_
  refine tq_op (hd 57 (by decide)) (q_move (val_tmp rfl)) ?_
  refine tq_opG (g_yes rfl rfl) (hd 58 (by decide)) (fun hg => q_move (val_tmp rfl)) ?_
  refine tq_opG (g_yes rfl rfl) (hd 59 (by decide)) (fun hg => q_idx (val_grd (val_tmp rfl) hg) val_const ts27 te27 (by first | omega | (simp only [Bool.and_eq_true, Bool.or_eq_true, Bool.not_eq_true', Bool.not_eq_false', Bool.or_eq_false_iff, Bool.and_eq_false_iff, decide_eq_true_eq, decide_eq_false_iff_not] at *; omega)) (by first | omega | decide)) ?_
  refine tq_opG (g_yes rfl rfl) (hd 60 (by decide)) (fun hg => q_fld _ _ (val_grd (val_tmp rfl) hg) Try.underlying47 rfl 0 (fun w => Try.sizeOf4 w)) ?_
  refine tq_opG (g_yes rfl rfl) (hd 61 (by decide)) (fun hg => q_ld (val_grd (val_tmp rfl) hg) Try.isAgg4 (by decide)) ?_
  refine tq_opG (g_yes rfl rfl) (hd 62 (by decide)) (fun hg => q_not (val_grd (val_tmp rfl) hg)) ?_
  refine tq_op (hd 63 (by decide)) (q_and (val_tmp rfl) (fun h => val_grd (val_tmp rfl) h)) ?_
  refine tq_op (hd 64 (by decide)) (q_move (val_tmp rfl)) ?_
  refine tq_opG (g_yes rfl rfl) (hd 65 (by decide)) (fun hg => q_move (val_tmp rfl)) ?_
  refine tq_callG (g_yes rfl rfl) en37 (hd 66 (by decide)) (fun hg => (by exact ⟨⟨(val_grd (val_tmp rfl) hg), rfl⟩, ⟨val_const, rfl⟩, ⟨val_const, rfl⟩, trivial⟩)) (fun hg => still_ct ((attachFr ((attachFr ([⟨(-1), 0, 7, 0, false⟩]) 0 1 7).1) 1 1 7).1) 1 0) ?_
  refine tq_op (hd 67 (by decide)) (q_and (val_tmp rfl) (fun h => val_grd (val_tmp rfl) h)) ?_
  refine tq_op (hd 68 (by decide)) (q_move (val_tmp rfl)) ?_
  refine tq_opG (g_yes rfl rfl) (hd 69 (by decide)) (fun hg => q_move (val_tmp rfl)) ?_
  refine tq_callG (g_yes rfl rfl) en37 (hd 70 (by decide)) (fun hg => (by exact ⟨⟨(val_grd (val_tmp rfl) hg), rfl⟩, ⟨val_const, rfl⟩, ⟨val_const, rfl⟩, trivial⟩)) (fun hg => still_ct ((navFr ((attachFr ((attachFr ([⟨(-1), 0, 7, 0, false⟩]) 0 1 7).1) 1 1 7).1) 1 5).1) 1 0) ?_
  refine tq_opG (g_yes rfl rfl) (hd 71 (by decide)) (fun hg => q_not (val_grd (val_tmp rfl) hg)) ?_
  refine tq_op (hd 72 (by decide)) (q_and (val_tmp rfl) (fun h => val_grd (val_tmp rfl) h)) ?_
  refine tq_op (hd 0 (by decide)) (q_assign (val_tmp rfl)) ?_
  refine tq_nil ?_
  refine c_ret ?_
  exact ret1 rfl (val_tmp rfl) rfl (by show bv ((((((((((decide ((attachFr ([⟨(-1), 0, 7, 0, false⟩]) 0 1 7).2 = 0)) && (decide ((attachFr ((attachFr ([⟨(-1), 0, 7, 0, false⟩]) 0 1 7).1) 1 1 7).2 = 0))) && (decide ((navFr ((attachFr ((attachFr ([⟨(-1), 0, 7, 0, false⟩]) 0 1 7).1) 1 1 7).1) 1 5).2 = 0))) && (decide ((((navFr ((attachFr ((attachFr ([⟨(-1), 0, 7, 0, false⟩]) 0 1 7).1) 1 1 7).1) 1 5).1).length : Int) = 3))) && (decide ((((navFr ((attachFr ((attachFr ([⟨(-1), 0, 7, 0, false⟩]) 0 1 7).1) 1 1 7).1) 1 5).1).getD 1 default).org = 5))) && (decide ((((navFr ((attachFr ((attachFr ([⟨(-1), 0, 7, 0, false⟩]) 0 1 7).1) 1 1 7).1) 1 5).1).getD 1 default).turn = 1))) && ((((navFr ((attachFr ((attachFr ([⟨(-1), 0, 7, 0, false⟩]) 0 1 7).1) 1 1 7).1) 1 5).1).getD 2 default).gone)) && (!((((navFr ((attachFr ((attachFr ([⟨(-1), 0, 7, 0, false⟩]) 0 1 7).1) 1 1 7).1) 1 5).1).getD 1 default).gone))) && (stillFr ((attachFr ((attachFr ([⟨(-1), 0, 7, 0, false⟩]) 0 1 7).1) 1 1 7).1) 1 0)) && (!(stillFr ((navFr ((attachFr ((attachFr ([⟨(-1), 0, 7, 0, false⟩]) 0 1 7).1) 1 1 7).1) 1 5).1) 1 0))) = bv true; rfl)

/-- glasshouse/glasshouselaw.FrameSays -/
theorem frameSays_ct (l : List Fr) (k org may top : Int) : Ct Try.prog 13 [frRow l, iv (k), iv (org), iv (may), iv (top)] (bv true) := by
  refine ct_of Try.func13 rfl (by show 5 ≤ 126; decide) fun E hN => ?_
  have hd : ∀ d, d < 126 → d < E.N := fun d h => Nat.lt_of_lt_of_eq h hN.symm
  refine row_len (val_tmp (s := 0) rfl) fun hl0 => ?_
  refine c_seq ?_
  refine c_rq ?_
  refine tq_op (hd 10 (by decide)) (q_assign val_const) ?_
  refine tq_nil ?_
  refine c_seq ?_
  refine c_rt ?_
  refine t_op (hd 26 (by decide)) (q_move (val_tmp rfl)) ?_
  refine t_op (hd 27 (by decide)) (q_move (val_tmp rfl)) ?_
  refine t_op (hd 28 (by decide)) (q_move (val_tmp rfl)) ?_
  refine t_op (hd 29 (by decide)) (q_move (val_tmp rfl)) ?_
  refine t_call en43 (hd 30 (by decide)) (by exact ⟨⟨(val_tmp rfl), rfl⟩, ⟨(val_tmp rfl), rfl⟩, ⟨(val_tmp rfl), rfl⟩, ⟨(val_tmp rfl), rfl⟩, trivial⟩) (attach_ct l k org may) ?_
  refine t_op (hd 25 (by decide)) (q_move (val_tmp rfl)) ?_
  refine t_op (hd 31 (by decide)) (q_ext (val_tmp rfl) (by decide)) ?_
  refine t_op (hd 32 (by decide)) (q_ext (val_tmp rfl) (by decide)) ?_
  refine t_op (hd 11 (by decide)) (q_assign (val_tmp rfl)) ?_
  refine t_op (hd 12 (by decide)) (q_assign (val_tmp rfl)) ?_
  refine t_nil ?_
  refine c_seq ?_
  refine c_rt ?_
  refine t_op (hd 34 (by decide)) (q_move (val_tmp rfl)) ?_
  refine t_op (hd 35 (by decide)) (q_move (val_tmp rfl)) ?_
  refine t_call en39 (hd 36 (by decide)) (by exact ⟨⟨(val_tmp rfl), rfl⟩, ⟨(val_tmp rfl), rfl⟩, trivial⟩) (discard_ct l k) ?_
  refine t_op (hd 33 (by decide)) (q_move (val_tmp rfl)) ?_
  refine t_op (hd 37 (by decide)) (q_ext (val_tmp rfl) (by decide)) ?_
  refine t_op (hd 38 (by decide)) (q_ext (val_tmp rfl) (by decide)) ?_
  refine t_op (hd 13 (by decide)) (q_assign (val_tmp rfl)) ?_
  refine t_op (hd 14 (by decide)) (q_assign (val_tmp rfl)) ?_
  refine t_nil ?_
  refine c_seq ?_
  refine c_rt ?_
  refine t_op (hd 40 (by decide)) (q_move (val_tmp rfl)) ?_
  refine t_op (hd 41 (by decide)) (q_move (val_tmp rfl)) ?_
  refine t_call en31 (hd 42 (by decide)) (by exact ⟨⟨(val_tmp rfl), rfl⟩, ⟨(val_tmp rfl), rfl⟩, trivial⟩) (length_ct l k) ?_
  refine t_op (hd 39 (by decide)) (q_move (val_tmp rfl)) ?_
  refine t_op (hd 43 (by decide)) (q_ext (val_tmp rfl) (by decide)) ?_
  refine t_op (hd 44 (by decide)) (q_ext (val_tmp rfl) (by decide)) ?_
  refine t_op (hd 15 (by decide)) (q_assign (val_tmp rfl)) ?_
  refine t_op (hd 16 (by decide)) (q_assign (val_tmp rfl)) ?_
  refine t_nil ?_
  refine c_seq ?_
  refine c_rt ?_
  refine t_op (hd 46 (by decide)) (q_move (val_tmp rfl)) ?_
  refine t_op (hd 47 (by decide)) (q_move (val_tmp rfl)) ?_
  refine t_op (hd 48 (by decide)) (q_move (val_tmp rfl)) ?_
  refine t_op (hd 49 (by decide)) (q_move (val_tmp rfl)) ?_
  refine t_call en44 (hd 50 (by decide)) (by exact ⟨⟨(val_tmp rfl), rfl⟩, ⟨(val_tmp rfl), rfl⟩, ⟨(val_tmp rfl), rfl⟩, ⟨(val_tmp rfl), rfl⟩, trivial⟩) (rattach_ct l k org may) ?_
  refine t_op (hd 45 (by decide)) (q_move (val_tmp rfl)) ?_
  refine t_op (hd 51 (by decide)) (q_ext (val_tmp rfl) (by decide)) ?_
  refine t_op (hd 52 (by decide)) (q_ext (val_tmp rfl) (by decide)) ?_
  refine t_op (hd 17 (by decide)) (q_assign (val_tmp rfl)) ?_
  refine t_op (hd 18 (by decide)) (q_assign (val_tmp rfl)) ?_
  refine t_nil ?_
  refine c_seq ?_
  refine c_rt ?_
  refine t_op (hd 54 (by decide)) (q_move (val_tmp rfl)) ?_
  refine t_op (hd 55 (by decide)) (q_move (val_tmp rfl)) ?_
  refine t_call en45 (hd 56 (by decide)) (by exact ⟨⟨(val_tmp rfl), rfl⟩, ⟨(val_tmp rfl), rfl⟩, trivial⟩) (rdisc_ct l k) ?_
  refine t_op (hd 53 (by decide)) (q_move (val_tmp rfl)) ?_
  refine t_op (hd 57 (by decide)) (q_ext (val_tmp rfl) (by decide)) ?_
  refine t_op (hd 58 (by decide)) (q_ext (val_tmp rfl) (by decide)) ?_
  refine t_op (hd 19 (by decide)) (q_assign (val_tmp rfl)) ?_
  refine t_op (hd 20 (by decide)) (q_assign (val_tmp rfl)) ?_
  refine t_nil ?_
  refine c_seq ?_
  refine c_rt ?_
  refine t_op (hd 60 (by decide)) (q_move (val_tmp rfl)) ?_
  refine t_op (hd 61 (by decide)) (q_move (val_tmp rfl)) ?_
  refine t_call en46 (hd 62 (by decide)) (by exact ⟨⟨(val_tmp rfl), rfl⟩, ⟨(val_tmp rfl), rfl⟩, trivial⟩) (rlen_ct l k) ?_
  refine t_op (hd 59 (by decide)) (q_move (val_tmp rfl)) ?_
  refine t_op (hd 63 (by decide)) (q_ext (val_tmp rfl) (by decide)) ?_
  refine t_op (hd 64 (by decide)) (q_ext (val_tmp rfl) (by decide)) ?_
  refine t_op (hd 21 (by decide)) (q_assign (val_tmp rfl)) ?_
  refine t_op (hd 22 (by decide)) (q_assign (val_tmp rfl)) ?_
  refine t_nil ?_
  refine c_seq ?_
  refine c_rq ?_
  refine tq_op (hd 65 (by decide)) (q_move (val_tmp rfl)) ?_
  refine tq_call en47 (hd 66 (by decide)) (by exact ⟨⟨(val_tmp rfl), rfl⟩, trivial⟩) (rcheck_ct l) ?_
  refine tq_op (hd 23 (by decide)) (q_assign (val_tmp rfl)) ?_
  refine tq_nil ?_
  refine c_seq ?_
  refine c_seq ?_
  refine c_rq ?_
  refine tq_call en30 (hd 67 (by decide)) (by exact trivial) (framed_ct) ?_
  refine tq_op (hd 68 (by decide)) (q_not (val_tmp rfl)) ?_
  refine tq_op (hd 69 (by decide)) (q_move (val_tmp rfl)) ?_
  refine tq_opG (g_no rfl rfl) (hd 70 (by decide)) (fun hg => q_move (val_tmp rfl)) ?_
  refine tq_callG (g_no rfl rfl) en21 (hd 71 (by decide)) (fun hg => (by exact ⟨⟨(val_grd (val_tmp rfl) hg), rfl⟩, trivial⟩)) (fun hg => check_ct l) ?_
  refine tq_opG (g_no rfl rfl) (hd 72 (by decide)) (fun hg => q_move (val_tmp rfl)) ?_
  refine tq_opG (g_no rfl rfl) (hd 73 (by decide)) (fun hg => q_neq (val_grd (val_tmp rfl) hg) (val_grd (val_tmp rfl) hg)) ?_
  refine tq_op (hd 74 (by decide)) (q_or (val_tmp rfl) (fun h => val_grd (val_tmp rfl) (notT h))) ?_
  refine tq_op (hd 75 (by decide)) (q_move (val_tmp rfl)) ?_
  refine tq_opG (g_no rfl rfl) (hd 76 (by decide)) (fun hg => q_move (val_tmp rfl)) ?_
  refine tq_opG (g_no rfl rfl) (hd 77 (by decide)) (fun hg => q_move (val_tmp rfl)) ?_
  refine tq_callG (g_no rfl rfl) en22 (hd 78 (by decide)) (fun hg => (by exact ⟨⟨(val_grd (val_tmp rfl) hg), rfl⟩, ⟨(val_grd (val_tmp rfl) hg), rfl⟩, trivial⟩)) (fun hg => holds_ct l k) ?_
  refine tq_opG (g_no rfl rfl) (hd 79 (by decide)) (fun hg => q_move (val_tmp rfl)) ?_
  refine tq_opG (g_no rfl rfl) (hd 80 (by decide)) (fun hg => q_move (val_tmp rfl)) ?_
  refine tq_callG (g_no rfl rfl) en42 (hd 81 (by decide)) (fun hg => (by exact ⟨⟨(val_grd (val_tmp rfl) hg), rfl⟩, ⟨(val_grd (val_tmp rfl) hg), rfl⟩, trivial⟩)) (fun hg => rholds_ct l k) ?_
  refine tq_opG (g_no rfl rfl) (hd 82 (by decide)) (fun hg => q_neq (val_grd (val_tmp rfl) hg) (val_grd (val_tmp rfl) hg)) ?_
  refine tq_op (hd 83 (by decide)) (q_or (val_tmp rfl) (fun h => val_grd (val_tmp rfl) (notT h))) ?_
  refine tq_nil ?_
  refine c_cond (val_tmp rfl) (fun hc1 => ?_) (fun hc1 => ?_)
  · have hc1s := hc1
    try simp only [Bool.and_eq_true, Bool.or_eq_true, Bool.not_eq_true', Bool.not_eq_false', Bool.or_eq_false_iff, Bool.and_eq_false_iff, decide_eq_true_eq, decide_eq_false_iff_not] at hc1s
    refine c_seq ?_
    refine c_rq ?_
    refine tq_op (hd 10 (by decide)) (q_assign val_const) ?_
    refine tq_nil ?_
    refine c_ret ?_
    exact ret1 rfl (val_tmp rfl) rfl (by show bv (false) = bv true; simp_all [eqFr])
  · have hc1s := hc1
    try simp only [Bool.and_eq_true, Bool.or_eq_true, Bool.not_eq_true', Bool.not_eq_false', Bool.or_eq_false_iff, Bool.and_eq_false_iff, decide_eq_true_eq, decide_eq_false_iff_not] at hc1s
    refine c_skip ?_
    refine c_seq ?_
    refine c_seq ?_
    refine c_rq ?_
    refine tq_op (hd 84 (by decide)) (q_move (val_tmp rfl)) ?_
    refine tq_op (hd 85 (by decide)) (q_move (val_tmp rfl)) ?_
    refine tq_op (hd 86 (by decide)) (q_move (val_tmp rfl)) ?_
    refine tq_call en23 (hd 87 (by decide)) (by exact ⟨⟨(val_tmp rfl), rfl⟩, ⟨(val_tmp rfl), rfl⟩, ⟨(val_tmp rfl), rfl⟩, trivial⟩) (within_ct l k top) ?_
    refine tq_op (hd 24 (by decide)) (q_assign (val_tmp rfl)) ?_
    refine tq_nil ?_
    refine c_seq ?_
    refine c_rq ?_
    refine tq_op (hd 88 (by decide)) (q_move (val_tmp rfl)) ?_
    refine tq_op (hd 89 (by decide)) (q_eql (val_tmp rfl) val_const) ?_
    refine tq_op (hd 90 (by decide)) (q_move (val_tmp rfl)) ?_
    refine tq_opG (g_yes rfl rfl) (hd 91 (by decide)) (fun hg => q_move (val_tmp rfl)) ?_
    refine tq_opG (g_yes rfl rfl) (hd 92 (by decide)) (fun hg => q_move (val_tmp rfl)) ?_
    refine tq_opG (g_yes rfl rfl) (hd 93 (by decide)) (fun hg => q_move (val_tmp rfl)) ?_
    refine tq_opG (g_yes rfl rfl) (hd 94 (by decide)) (fun hg => q_move (val_tmp rfl)) ?_
    refine tq_callG (g_yes rfl rfl) en48 (hd 95 (by decide)) (fun hg => (by exact ⟨⟨(val_grd (val_tmp rfl) hg), rfl⟩, ⟨(val_grd (val_tmp rfl) hg), rfl⟩, ⟨(val_grd (val_tmp rfl) hg), rfl⟩, trivial⟩)) (fun hg => rwithin_ct (of_decide_eq_true hg) k top) ?_
    refine tq_opG (g_yes rfl rfl) (hd 96 (by decide)) (fun hg => q_neqb (val_grd (val_tmp rfl) hg) (val_grd (val_tmp rfl) hg) Try.underlying4) ?_
    refine tq_op (hd 97 (by decide)) (q_and (val_tmp rfl) (fun h => val_grd (val_tmp rfl) h)) ?_
    refine tq_nil ?_
    refine c_cond (val_tmp rfl) (fun hc2 => ?_) (fun hc2 => ?_)
    · have hc2s := hc2
      try simp only [Bool.and_eq_true, Bool.or_eq_true, Bool.not_eq_true', Bool.not_eq_false', Bool.or_eq_false_iff, Bool.and_eq_false_iff, decide_eq_true_eq, decide_eq_false_iff_not] at hc2s
      refine c_seq ?_
      refine c_rq ?_
      refine tq_op (hd 10 (by decide)) (q_assign val_const) ?_
      refine tq_nil ?_
      refine c_ret ?_
      exact ret1 rfl (val_tmp rfl) rfl (by show bv (false) = bv true; simp_all [eqFr])
    · have hc2s := hc2
      try simp only [Bool.and_eq_true, Bool.or_eq_true, Bool.not_eq_true', Bool.not_eq_false', Bool.or_eq_false_iff, Bool.and_eq_false_iff, decide_eq_true_eq, decide_eq_false_iff_not] at hc2s
      refine c_skip ?_
      refine c_seq ?_
      refine c_rq ?_
      refine tq_op (hd 98 (by decide)) (q_move (val_tmp rfl)) ?_
      refine tq_op (hd 99 (by decide)) (q_move (val_tmp rfl)) ?_
      refine tq_op (hd 100 (by decide)) (q_eql (val_tmp rfl) (val_tmp rfl)) ?_
      refine tq_op (hd 101 (by decide)) (q_move (val_tmp rfl)) ?_
      refine tq_opG (g_yes rfl rfl) (hd 102 (by decide)) (fun hg => q_move (val_tmp rfl)) ?_
      refine tq_opG (g_yes rfl rfl) (hd 103 (by decide)) (fun hg => q_move (val_tmp rfl)) ?_
      refine tq_callG (g_yes rfl rfl) en41 (hd 104 (by decide)) (fun hg => (by exact ⟨⟨(val_grd (val_tmp rfl) hg), rfl⟩, ⟨(val_grd (val_tmp rfl) hg), rfl⟩, trivial⟩)) (fun hg => equalFr_ct ((attachFr l k org may).1) ((attachFr l k org may).1)) ?_
      refine tq_op (hd 105 (by decide)) (q_and (val_tmp rfl) (fun h => val_grd (val_tmp rfl) h)) ?_
      refine tq_op (hd 106 (by decide)) (q_move (val_tmp rfl)) ?_
      refine tq_opG (g_yes rfl rfl) (hd 107 (by decide)) (fun hg => q_move (val_tmp rfl)) ?_
      refine tq_opG (g_yes rfl rfl) (hd 108 (by decide)) (fun hg => q_move (val_tmp rfl)) ?_
      refine tq_opG (g_yes rfl rfl) (hd 109 (by decide)) (fun hg => q_eql (val_grd (val_tmp rfl) hg) (val_grd (val_tmp rfl) hg)) ?_
      refine tq_op (hd 110 (by decide)) (q_and (val_tmp rfl) (fun h => val_grd (val_tmp rfl) h)) ?_
      refine tq_op (hd 111 (by decide)) (q_move (val_tmp rfl)) ?_
      refine tq_opG (g_yes rfl rfl) (hd 112 (by decide)) (fun hg => q_move (val_tmp rfl)) ?_
      refine tq_opG (g_yes rfl rfl) (hd 113 (by decide)) (fun hg => q_move (val_tmp rfl)) ?_
      refine tq_callG (g_yes rfl rfl) en41 (hd 114 (by decide)) (fun hg => (by exact ⟨⟨(val_grd (val_tmp rfl) hg), rfl⟩, ⟨(val_grd (val_tmp rfl) hg), rfl⟩, trivial⟩)) (fun hg => equalFr_ct ((discardFr l k).1) ((discardFr l k).1)) ?_
      refine tq_op (hd 115 (by decide)) (q_and (val_tmp rfl) (fun h => val_grd (val_tmp rfl) h)) ?_
      refine tq_op (hd 116 (by decide)) (q_move (val_tmp rfl)) ?_
      refine tq_opG (g_yes rfl rfl) (hd 117 (by decide)) (fun hg => q_move (val_tmp rfl)) ?_
      refine tq_opG (g_yes rfl rfl) (hd 118 (by decide)) (fun hg => q_move (val_tmp rfl)) ?_
      refine tq_opG (g_yes rfl rfl) (hd 119 (by decide)) (fun hg => q_eql (val_grd (val_tmp rfl) hg) (val_grd (val_tmp rfl) hg)) ?_
      refine tq_op (hd 120 (by decide)) (q_and (val_tmp rfl) (fun h => val_grd (val_tmp rfl) h)) ?_
      refine tq_op (hd 121 (by decide)) (q_move (val_tmp rfl)) ?_
      refine tq_opG (g_yes rfl rfl) (hd 122 (by decide)) (fun hg => q_move (val_tmp rfl)) ?_
      refine tq_opG (g_yes rfl rfl) (hd 123 (by decide)) (fun hg => q_move (val_tmp rfl)) ?_
      refine tq_opG (g_yes rfl rfl) (hd 124 (by decide)) (fun hg => q_eql (val_grd (val_tmp rfl) hg) (val_grd (val_tmp rfl) hg)) ?_
      refine tq_op (hd 125 (by decide)) (q_and (val_tmp rfl) (fun h => val_grd (val_tmp rfl) h)) ?_
      refine tq_op (hd 10 (by decide)) (q_assign (val_tmp rfl)) ?_
      refine tq_nil ?_
      refine c_ret ?_
      exact ret1 rfl (val_tmp rfl) rfl (by show bv ((((((decide ((attachFr l k org may).2 = (attachFr l k org may).2)) && (eqFr ((attachFr l k org may).1) ((attachFr l k org may).1))) && (decide ((discardFr l k).2 = (discardFr l k).2))) && (eqFr ((discardFr l k).1) ((discardFr l k).1))) && (decide ((lenFr l k).2 = (lenFr l k).2))) && (decide ((lenFr l k).1 = (lenFr l k).1))) = bv true; simp_all [eqFr])

/-- glasshouse/glasshouselaw.NavSays -/
theorem navSays_ct (l : List Fr) (k org turn : Int) : Ct Try.prog 12 [frRow l, iv (k), iv (org), iv (turn)] (bv true) := by
  refine ct_of Try.func12 rfl (by show 4 ≤ 58; decide) fun E hN => ?_
  have hd : ∀ d, d < 58 → d < E.N := fun d h => Nat.lt_of_lt_of_eq h hN.symm
  refine row_len (val_tmp (s := 0) rfl) fun hl0 => ?_
  refine c_seq ?_
  refine c_rq ?_
  refine tq_op (hd 8 (by decide)) (q_assign val_const) ?_
  refine tq_nil ?_
  refine c_seq ?_
  refine c_rt ?_
  refine t_op (hd 14 (by decide)) (q_move (val_tmp rfl)) ?_
  refine t_op (hd 15 (by decide)) (q_move (val_tmp rfl)) ?_
  refine t_op (hd 16 (by decide)) (q_move (val_tmp rfl)) ?_
  refine t_call en36 (hd 17 (by decide)) (by exact ⟨⟨(val_tmp rfl), rfl⟩, ⟨(val_tmp rfl), rfl⟩, ⟨(val_tmp rfl), rfl⟩, trivial⟩) (go_ct l k org) ?_
  refine t_op (hd 13 (by decide)) (q_move (val_tmp rfl)) ?_
  refine t_op (hd 18 (by decide)) (q_ext (val_tmp rfl) (by decide)) ?_
  refine t_op (hd 19 (by decide)) (q_ext (val_tmp rfl) (by decide)) ?_
  refine t_op (hd 9 (by decide)) (q_assign (val_tmp rfl)) ?_
  refine t_op (hd 10 (by decide)) (q_assign (val_tmp rfl)) ?_
  refine t_nil ?_
  refine c_seq ?_
  refine c_rt ?_
  refine t_op (hd 21 (by decide)) (q_move (val_tmp rfl)) ?_
  refine t_op (hd 22 (by decide)) (q_move (val_tmp rfl)) ?_
  refine t_op (hd 23 (by decide)) (q_move (val_tmp rfl)) ?_
  refine t_call en40 (hd 24 (by decide)) (by exact ⟨⟨(val_tmp rfl), rfl⟩, ⟨(val_tmp rfl), rfl⟩, ⟨(val_tmp rfl), rfl⟩, trivial⟩) (rgo_ct l k org) ?_
  refine t_op (hd 20 (by decide)) (q_move (val_tmp rfl)) ?_
  refine t_op (hd 25 (by decide)) (q_ext (val_tmp rfl) (by decide)) ?_
  refine t_op (hd 26 (by decide)) (q_ext (val_tmp rfl) (by decide)) ?_
  refine t_op (hd 11 (by decide)) (q_assign (val_tmp rfl)) ?_
  refine t_op (hd 12 (by decide)) (q_assign (val_tmp rfl)) ?_
  refine t_nil ?_
  refine c_seq ?_
  refine c_rq ?_
  refine tq_call en35 (hd 27 (by decide)) (by exact trivial) (gone35_ct) ?_
  refine tq_op (hd 28 (by decide)) (q_move (val_tmp rfl)) ?_
  refine tq_opG (g_yes rfl rfl) (hd 29 (by decide)) (fun hg => q_move (val_tmp rfl)) ?_
  refine tq_opG (g_yes rfl rfl) (hd 30 (by decide)) (fun hg => q_move (val_tmp rfl)) ?_
  refine tq_opG (g_yes rfl rfl) (hd 31 (by decide)) (fun hg => q_eql (val_grd (val_tmp rfl) hg) (val_grd (val_tmp rfl) hg)) ?_
  refine tq_op (hd 32 (by decide)) (q_and (val_tmp rfl) (fun h => val_grd (val_tmp rfl) h)) ?_
  refine tq_op (hd 33 (by decide)) (q_move (val_tmp rfl)) ?_
  refine tq_opG (g_yes rfl rfl) (hd 34 (by decide)) (fun hg => q_move (val_tmp rfl)) ?_
  refine tq_opG (g_yes rfl rfl) (hd 35 (by decide)) (fun hg => q_move (val_tmp rfl)) ?_
  refine tq_callG (g_yes rfl rfl) en41 (hd 36 (by decide)) (fun hg => (by exact ⟨⟨(val_grd (val_tmp rfl) hg), rfl⟩, ⟨(val_grd (val_tmp rfl) hg), rfl⟩, trivial⟩)) (fun hg => equalFr_ct ((navFr l k org).1) ((navFr l k org).1)) ?_
  refine tq_op (hd 37 (by decide)) (q_and (val_tmp rfl) (fun h => val_grd (val_tmp rfl) h)) ?_
  refine tq_op (hd 38 (by decide)) (q_move (val_tmp rfl)) ?_
  refine tq_opG (g_yes rfl rfl) (hd 39 (by decide)) (fun hg => q_move (val_tmp rfl)) ?_
  refine tq_opG (g_yes rfl rfl) (hd 40 (by decide)) (fun hg => q_move (val_tmp rfl)) ?_
  refine tq_opG (g_yes rfl rfl) (hd 41 (by decide)) (fun hg => q_move (val_tmp rfl)) ?_
  refine tq_callG (g_yes rfl rfl) en37 (hd 42 (by decide)) (fun hg => (by exact ⟨⟨(val_grd (val_tmp rfl) hg), rfl⟩, ⟨(val_grd (val_tmp rfl) hg), rfl⟩, ⟨(val_grd (val_tmp rfl) hg), rfl⟩, trivial⟩)) (fun hg => still_ct l k turn) ?_
  refine tq_opG (g_yes rfl rfl) (hd 43 (by decide)) (fun hg => q_move (val_tmp rfl)) ?_
  refine tq_opG (g_yes rfl rfl) (hd 44 (by decide)) (fun hg => q_move (val_tmp rfl)) ?_
  refine tq_callG (g_yes rfl rfl) en42 (hd 45 (by decide)) (fun hg => (by exact ⟨⟨(val_grd (val_tmp rfl) hg), rfl⟩, ⟨(val_grd (val_tmp rfl) hg), rfl⟩, trivial⟩)) (fun hg => rholds_ct l k) ?_
  refine tq_opG (g_yes rfl rfl) (hd 46 (by decide)) (fun hg => q_eql (val_grd (val_tmp rfl) hg) val_const) ?_
  refine tq_opG (g_yes rfl rfl) (hd 47 (by decide)) (fun hg => q_move (val_grd (val_tmp rfl) hg)) ?_
  refine tq_opG (g_gyes rfl rfl) (hd 48 (by decide)) (fun hg => q_move (val_tmp rfl)) ?_
  refine tq_opG (g_gyes rfl rfl) (hd 49 (by decide)) (fun hg => q_move (val_tmp rfl)) ?_
  refine tq_opG (g_gyes rfl rfl) (hd 50 (by decide)) (fun hg => q_idx (val_grd (val_tmp rfl) hg) (val_grd (val_tmp rfl) hg) ts27 te27 (by exact (holds_in (of_decide_eq_true (andr hg))).1) (by have := holds_in (of_decide_eq_true (andr hg)); omega)) ?_
  refine tq_opG (g_gyes rfl rfl) (hd 51 (by decide)) (fun hg => q_fld _ _ (val_grd (val_tmp rfl) hg) Try.underlying47 rfl 0 (fun w => Try.sizeOf3 w)) ?_
  refine tq_opG (g_gyes rfl rfl) (hd 52 (by decide)) (fun hg => q_ld (val_grd (val_tmp rfl) hg) Try.isAgg3 (by decide)) ?_
  refine tq_opG (g_gyes rfl rfl) (hd 53 (by decide)) (fun hg => q_move (val_tmp rfl)) ?_
  refine tq_opG (g_gyes rfl rfl) (hd 54 (by decide)) (fun hg => q_eql (val_grd (val_tmp rfl) hg) (val_grd (val_tmp rfl) hg)) ?_
  refine tq_opG (g_yes rfl rfl) (hd 55 (by decide)) (fun hg => q_and (val_grd (val_tmp rfl) hg) (fun h => val_grd (val_tmp rfl) (andI hg h))) ?_
  refine tq_opG (g_yes rfl rfl) (hd 56 (by decide)) (fun hg => q_eqlb (val_grd (val_tmp rfl) hg) (val_grd (val_tmp rfl) hg) Try.underlying4) ?_
  refine tq_op (hd 57 (by decide)) (q_and (val_tmp rfl) (fun h => val_grd (val_tmp rfl) h)) ?_
  refine tq_op (hd 8 (by decide)) (q_assign (val_tmp rfl)) ?_
  refine tq_nil ?_
  refine c_ret ?_
  exact ret1 rfl (val_tmp rfl) rfl (by show bv (((true && (decide ((navFr l k org).2 = (navFr l k org).2))) && (eqFr ((navFr l k org).1) ((navFr l k org).1))) && ((stillFr l k turn) == ((decide (holdsFr l k = 0)) && (decide ((l.getD (Int.toNat k) default).turn = turn))))) = bv true; simp [eqFr, stillFr])

end Go.Proofs.Ytghkpailmdlhgaa
