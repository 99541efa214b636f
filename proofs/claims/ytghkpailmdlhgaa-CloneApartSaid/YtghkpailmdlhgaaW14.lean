import Derived.Test.YtghkpailmdlhgaaW13
set_option linter.unusedVariables false
set_option linter.unusedSimpArgs false
namespace Go.Proofs.Ytghkpailmdlhgaa
open Go.RowKit Go.Eng
/-- glasshouse/glasshouseref.Copied$1 -/
theorem place_ct (g : List Cl) (o : List Int) (out : List Cl) (k : Int) (hk : 0 ≤ k ∧ k < (g.length : Int)) (ho : o.length ≤ 24) (hu : out.length ≤ 24) : CtM Try.prog 68 [iv (k), SV.bp 1000 0, SV.bp 1001 0, SV.bp 1002 0] [(1000, Own.box 1 (fun _ => SV.own 1003) 24), (1001, Own.box 1 (fun _ => SV.own 1004) 35), (1002, Own.box 1 (grG g) 35), (1003, ownOf inCell 1 0 o 3), (1004, ownOf clCell 2 default out 43)] (iv (plcI o k)) [(1000, Own.box 1 (fun _ => SV.own 1) 24), (1001, Own.box 1 (fun _ => SV.own 2) 35), (1002, Own.box 1 (grG g) 35), (1, ownOf inCell 1 0 (addKid o k) 3), (2, ownOf clCell 2 default (addOut g o k out) 43)] := by
  refine ctM_of Try.func68 rfl (by show 4 ≤ 31; decide) fun E hN => ?_
  have hd : ∀ d, d < 31 → d < E.N := fun d h => Nat.lt_of_lt_of_eq h hN.symm
  refine c_seq ?_
  refine c_rq ?_
  refine tq_op (hd 5 (by decide)) (q_assign val_const) ?_
  refine tq_nil ?_
  refine c_seq ?_
  refine c_rq ?_
  refine tq_op (hd 7 (by decide)) (q_ldB (val_tmp rfl) rfl Try.isAgg24 (by decide)) ?_
  refine tq_op (hd 8 (by decide)) (q_move (val_tmp rfl)) ?_
  refine tq_callB en69 (hd 9 (by decide)) (by exact ⟨(vb_own (val_tmp rfl) rfl), (vb_ro (val_tmp rfl) rfl), trivial⟩) (index_ct o k) ?_
  refine tq_op (hd 6 (by decide)) (q_assign (val_tmp rfl)) ?_
  refine tq_nil ?_
  refine c_seq ?_
  refine c_seq ?_
  refine c_rq ?_
  refine tq_op (hd 10 (by decide)) (q_move (val_tmp rfl)) ?_
  refine tq_op (hd 11 (by decide)) (q_lss (val_tmp rfl) val_const) ?_
  refine tq_nil ?_
  refine c_cond (val_tmp rfl) (fun hc1 => ?_) (fun hc1 => ?_)
  · have hc1s := hc1
    try simp only [Bool.and_eq_true, Bool.or_eq_true, Bool.not_eq_true', Bool.not_eq_false', Bool.or_eq_false_iff, Bool.and_eq_false_iff, decide_eq_true_eq, decide_eq_false_iff_not] at hc1s
    refine c_seq ?_
    refine c_rq ?_
    refine tq_op (hd 12 (by decide)) (q_ldB (val_tmp rfl) rfl Try.isAgg24 (by decide)) ?_
    refine tq_op (hd 13 (by decide)) (q_lenO (val_tmp rfl) rfl ts24) ?_
    refine tq_op (hd 6 (by decide)) (q_assign (val_tmp rfl)) ?_
    refine tq_nil ?_
    refine c_seq ?_
    refine c_rt ?_
    refine t_op (hd 14 (by decide)) (q_ldB (val_tmp rfl) rfl Try.isAgg24 (by decide)) ?_
    refine t_op (hd 15 (by decide)) (q_move (val_tmp rfl)) ?_
    refine t_w (hd 16 (by decide)) (w_bs (n := 1) (zget := fun _ => iv 0) [(fun _ => iv (k))] (rowG inCell 0 [k]) Try.underlying24 (fun w => Try.sizeOf3 w) zero3 (by decide) rfl (by decide) ⟨⟨rfl, .inr ⟨rfl, (val_tmp rfl), rfl⟩, rfl⟩, trivial⟩ ⟨trivial, ⟨trivial, rfl⟩⟩) ?_
    refine t_app 1 (rowG inCell 0 (o ++ ([k]))) (hd 17 (by decide)) eo24 (val_tmp rfl) rfl (val_tmp rfl) rfl (len_app o ([k])) (by first | (simp only [maxLen, List.length_append, List.length_set, List.length_nil, List.length_cons]; omega) | (simp only [maxLen]; omega)) (by first | (simp only [List.length_append, List.length_set, List.length_nil, List.length_cons]; omega) | (omega)) (app_typed (l := o) (m := ([k]))) ?_
    refine t_st1V (val_tmp rfl) rfl (val_tmp rfl) (one_own rfl) Try.sizeOf24 (by decide) ?_
    refine t_nil ?_
    refine c_rd (fun e => ⟨[(18, cj (e 0) (SV.bp 1001 0)), (19, cj (e 1) (cjn (e 10) (SV.own 1004))), (20, cj (e 2) (SV.bp 1002 0)), (21, cj (e 3) (clRow g)), (22, cj (e 4) (iv (k))), (23, cj (e 5) (SV.el g.length 2 (rowG clCell default g) (Int.toNat k) 0)), (24, cj (e 6) (SV.el g.length 2 (rowG clCell default g) (Int.toNat k) 0)), (25, cj (e 7) (iv ((g.getD (Int.toNat k) default).n))), (26, cj (e 8) (SV.agg 2 (cmpG [iv ((g.getD (Int.toNat k) default).n), SV.v (Value.slice none 0 0)]))), (27, cj (e 9) (clRow ([⟨(g.getD (Int.toNat k) default).n, []⟩]))), (28, cj (e 10) (SV.own 2)), (29, cj (e 11) (SV.bp 1001 0)), (0, iv (k)), (2, SV.bp 1001 0), (3, SV.bp 1002 0), (6, iv ((o.length : Int)))], (cb (e 10) (cb (e 12) [(1, ownOf inCell 1 0 (o ++ ([k])) 3), (1000, Own.box 1 (upd (fun zt => kill 1003 ((fun _ => SV.own 1003) zt)) 0 (SV.own 1)) 24), (1001, Own.box 1 (upd (fun zt => kill 1004 ((fun _ => SV.own 1004) zt)) 0 (SV.own 2)) 35), (1002, Own.box 1 (grG g) 35), (2, ownOf clCell 2 default (out ++ ([⟨(g.getD (Int.toNat k) default).n, []⟩])) 43)] [(1, ownOf inCell 1 0 (o ++ ([k])) 3), (1000, Own.box 1 (upd (fun zt => kill 1003 ((fun _ => SV.own 1003) zt)) 0 (SV.own 1)) 24), (1001, Own.box 1 (fun zt => kill 1004 ((fun _ => SV.own 1004) zt)) 35), (1002, Own.box 1 (grG g) 35), (2, ownOf clCell 2 default (out ++ ([⟨(g.getD (Int.toNat k) default).n, []⟩])) 43)]) (cb (e 12) [] [(1, ownOf inCell 1 0 (o ++ ([k])) 3), (1000, Own.box 1 (upd (fun zt => kill 1003 ((fun _ => SV.own 1003) zt)) 0 (SV.own 1)) 24), (1001, Own.box 1 (fun _ => SV.own 1004) 35), (1002, Own.box 1 (grG g) 35), (1004, ownOf clCell 2 default out 43)]))⟩) ⟨[(18, SV.bp 1001 0), (20, SV.bp 1002 0), (21, clRow g), (22, iv (k)), (23, SV.el g.length 2 (rowG clCell default g) (Int.toNat k) 0), (24, SV.el g.length 2 (rowG clCell default g) (Int.toNat k) 0), (25, iv ((g.getD (Int.toNat k) default).n)), (26, SV.agg 2 (cmpG [iv ((g.getD (Int.toNat k) default).n), SV.v (Value.slice none 0 0)])), (27, clRow ([⟨(g.getD (Int.toNat k) default).n, []⟩])), (28, SV.own 2), (29, SV.bp 1001 0), (0, iv (k)), (2, SV.bp 1001 0), (3, SV.bp 1002 0), (6, iv ((o.length : Int)))], [(1, ownOf inCell 1 0 (o ++ ([k])) 3), (1000, Own.box 1 (upd (fun zt => kill 1003 ((fun _ => SV.own 1003) zt)) 0 (SV.own 1)) 24), (1001, Own.box 1 (upd (fun zt => kill 1004 ((fun _ => SV.own 1004) zt)) 0 (SV.own 2)) 35), (1002, Own.box 1 (grG g) 35), (2, ownOf clCell 2 default (out ++ ([⟨(g.getD (Int.toNat k) default).n, []⟩])) 43)]⟩ (by kernel_rfl) (by kernel_rfl) ?_ ⟨?_, ?_, ?_, ?_, ?_, ?_, ?_, ?_, ?_, ?_, ?_, ?_, ?_, trivial⟩ ?_ ?_
    · show Weak _ _ ⟨[(18, SV.junk), (19, SV.junk), (20, SV.junk), (21, SV.junk), (22, SV.junk), (23, SV.junk), (24, SV.junk), (25, SV.junk), (26, SV.junk), (27, SV.junk), (28, SV.junk), (29, SV.junk), (0, iv (k)), (2, SV.bp 1001 0), (3, SV.bp 1002 0), (6, iv ((o.length : Int)))], [(1, ownOf inCell 1 0 (o ++ ([k])) 3), (1000, Own.box 1 (upd (fun zt => kill 1003 ((fun _ => SV.own 1003) zt)) 0 (SV.own 1)) 24), (1001, Own.box 1 (fun _ => SV.own 1004) 35), (1002, Own.box 1 (grG g) 35), (1004, ownOf clCell 2 default out 43)]⟩
      refine weakE ?_ ?_
      · exact ⟨val_junk, val_junk, val_junk, val_junk, val_junk, val_junk, val_junk, val_junk, val_junk, val_junk, val_junk, val_junk, val_tmp rfl, val_tmp rfl, val_tmp rfl, val_tmp rfl, trivial⟩
      · exact ⟨⟨_, rfl, rfl⟩, ⟨_, rfl, ⟨rfl, rfl, ⟨trivial, rfl⟩⟩⟩, ⟨_, rfl, ⟨rfl, rfl, ⟨trivial, rfl⟩⟩⟩, ⟨_, rfl, ⟨rfl, rfl, ⟨trivial, rfl⟩⟩⟩, ⟨_, rfl, rfl⟩, trivial⟩
    · intro e hdn he hdp
      have h10 : e 10 = false := fls he fun q => by obtain ⟨r1, -, -⟩ := (show e 1 = true ∧ e 9 = true ∧ True from hdn 10 q); obtain ⟨r0, -⟩ := (show e 0 = true ∧ True from hdn 1 r1); exact r0
      have h12 : e 12 = false := fls he fun q => by obtain ⟨r11, -, -, -, -, -, -, -, -, -, -, -, -, -, -⟩ := (show e 11 = true ∧ e 10 = true ∧ e 10 = true ∧ e 0 = true ∧ e 1 = true ∧ e 2 = true ∧ e 3 = true ∧ e 4 = true ∧ e 5 = true ∧ e 6 = true ∧ e 7 = true ∧ e 8 = true ∧ e 9 = true ∧ e 10 = true ∧ True from hdn 12 q); obtain ⟨-, -, -, -, -, -, -, -, -, -, r10, -⟩ := (show e 0 = true ∧ e 1 = true ∧ e 2 = true ∧ e 3 = true ∧ e 4 = true ∧ e 5 = true ∧ e 6 = true ∧ e 7 = true ∧ e 8 = true ∧ e 9 = true ∧ e 10 = true ∧ True from hdn 11 r11); obtain ⟨r1, -, -⟩ := (show e 1 = true ∧ e 9 = true ∧ True from hdn 10 r10); obtain ⟨r0, -⟩ := (show e 0 = true ∧ True from hdn 1 r1); exact r0
      show T _ _ _ _ ⟨[(18, cj (e 0) (SV.bp 1001 0)), (19, cj (e 1) (cjn (e 10) (SV.own 1004))), (20, cj (e 2) (SV.bp 1002 0)), (21, cj (e 3) (clRow g)), (22, cj (e 4) (iv (k))), (23, cj (e 5) (SV.el g.length 2 (rowG clCell default g) (Int.toNat k) 0)), (24, cj (e 6) (SV.el g.length 2 (rowG clCell default g) (Int.toNat k) 0)), (25, cj (e 7) (iv ((g.getD (Int.toNat k) default).n))), (26, cj (e 8) (SV.agg 2 (cmpG [iv ((g.getD (Int.toNat k) default).n), SV.v (Value.slice none 0 0)]))), (27, cj (e 9) (clRow ([⟨(g.getD (Int.toNat k) default).n, []⟩]))), (28, cj (e 10) (SV.own 2)), (29, cj (e 11) (SV.bp 1001 0)), (0, iv (k)), (2, SV.bp 1001 0), (3, SV.bp 1002 0), (6, iv ((o.length : Int)))], (cb (e 10) (cb (e 12) [(1, ownOf inCell 1 0 (o ++ ([k])) 3), (1000, Own.box 1 (upd (fun zt => kill 1003 ((fun _ => SV.own 1003) zt)) 0 (SV.own 1)) 24), (1001, Own.box 1 (upd (fun zt => kill 1004 ((fun _ => SV.own 1004) zt)) 0 (SV.own 2)) 35), (1002, Own.box 1 (grG g) 35), (2, ownOf clCell 2 default (out ++ ([⟨(g.getD (Int.toNat k) default).n, []⟩])) 43)] [(1, ownOf inCell 1 0 (o ++ ([k])) 3), (1000, Own.box 1 (upd (fun zt => kill 1003 ((fun _ => SV.own 1003) zt)) 0 (SV.own 1)) 24), (1001, Own.box 1 (fun zt => kill 1004 ((fun _ => SV.own 1004) zt)) 35), (1002, Own.box 1 (grG g) 35), (2, ownOf clCell 2 default (out ++ ([⟨(g.getD (Int.toNat k) default).n, []⟩])) 43)]) (cb (e 12) [] [(1, ownOf inCell 1 0 (o ++ ([k])) 3), (1000, Own.box 1 (upd (fun zt => kill 1003 ((fun _ => SV.own 1003) zt)) 0 (SV.own 1)) 24), (1001, Own.box 1 (fun _ => SV.own 1004) 35), (1002, Own.box 1 (grG g) 35), (1004, ownOf clCell 2 default out 43)]))⟩ (fun S' => Weak _ S' ⟨[(18, cj (true) (SV.bp 1001 0)), (19, cj (e 1) (cjn (e 10) (SV.own 1004))), (20, cj (e 2) (SV.bp 1002 0)), (21, cj (e 3) (clRow g)), (22, cj (e 4) (iv (k))), (23, cj (e 5) (SV.el g.length 2 (rowG clCell default g) (Int.toNat k) 0)), (24, cj (e 6) (SV.el g.length 2 (rowG clCell default g) (Int.toNat k) 0)), (25, cj (e 7) (iv ((g.getD (Int.toNat k) default).n))), (26, cj (e 8) (SV.agg 2 (cmpG [iv ((g.getD (Int.toNat k) default).n), SV.v (Value.slice none 0 0)]))), (27, cj (e 9) (clRow ([⟨(g.getD (Int.toNat k) default).n, []⟩]))), (28, cj (e 10) (SV.own 2)), (29, cj (e 11) (SV.bp 1001 0)), (0, iv (k)), (2, SV.bp 1001 0), (3, SV.bp 1002 0), (6, iv ((o.length : Int)))], (cb (e 10) (cb (e 12) [(1, ownOf inCell 1 0 (o ++ ([k])) 3), (1000, Own.box 1 (upd (fun zt => kill 1003 ((fun _ => SV.own 1003) zt)) 0 (SV.own 1)) 24), (1001, Own.box 1 (upd (fun zt => kill 1004 ((fun _ => SV.own 1004) zt)) 0 (SV.own 2)) 35), (1002, Own.box 1 (grG g) 35), (2, ownOf clCell 2 default (out ++ ([⟨(g.getD (Int.toNat k) default).n, []⟩])) 43)] [(1, ownOf inCell 1 0 (o ++ ([k])) 3), (1000, Own.box 1 (upd (fun zt => kill 1003 ((fun _ => SV.own 1003) zt)) 0 (SV.own 1)) 24), (1001, Own.box 1 (fun zt => kill 1004 ((fun _ => SV.own 1004) zt)) 35), (1002, Own.box 1 (grG g) 35), (2, ownOf clCell 2 default (out ++ ([⟨(g.getD (Int.toNat k) default).n, []⟩])) 43)]) (cb (e 12) [] [(1, ownOf inCell 1 0 (o ++ ([k])) 3), (1000, Own.box 1 (upd (fun zt => kill 1003 ((fun _ => SV.own 1003) zt)) 0 (SV.own 1)) 24), (1001, Own.box 1 (fun _ => SV.own 1004) 35), (1002, Own.box 1 (grG g) 35), (1004, ownOf clCell 2 default out 43)]))⟩)
      simp only [he, h10, h12]
      show T _ _ _ _ ⟨[(18, SV.junk), (19, cj (e 1) (SV.own 1004)), (20, cj (e 2) (SV.bp 1002 0)), (21, cj (e 3) (clRow g)), (22, cj (e 4) (iv (k))), (23, cj (e 5) (SV.el g.length 2 (rowG clCell default g) (Int.toNat k) 0)), (24, cj (e 6) (SV.el g.length 2 (rowG clCell default g) (Int.toNat k) 0)), (25, cj (e 7) (iv ((g.getD (Int.toNat k) default).n))), (26, cj (e 8) (SV.agg 2 (cmpG [iv ((g.getD (Int.toNat k) default).n), SV.v (Value.slice none 0 0)]))), (27, cj (e 9) (clRow ([⟨(g.getD (Int.toNat k) default).n, []⟩]))), (28, SV.junk), (29, cj (e 11) (SV.bp 1001 0)), (0, iv (k)), (2, SV.bp 1001 0), (3, SV.bp 1002 0), (6, iv ((o.length : Int)))], [(1, ownOf inCell 1 0 (o ++ ([k])) 3), (1000, Own.box 1 (upd (fun zt => kill 1003 ((fun _ => SV.own 1003) zt)) 0 (SV.own 1)) 24), (1001, Own.box 1 (fun _ => SV.own 1004) 35), (1002, Own.box 1 (grG g) 35), (1004, ownOf clCell 2 default out 43)]⟩ (fun S' => Weak _ S' ⟨[(18, SV.bp 1001 0), (19, cj (e 1) (SV.own 1004)), (20, cj (e 2) (SV.bp 1002 0)), (21, cj (e 3) (clRow g)), (22, cj (e 4) (iv (k))), (23, cj (e 5) (SV.el g.length 2 (rowG clCell default g) (Int.toNat k) 0)), (24, cj (e 6) (SV.el g.length 2 (rowG clCell default g) (Int.toNat k) 0)), (25, cj (e 7) (iv ((g.getD (Int.toNat k) default).n))), (26, cj (e 8) (SV.agg 2 (cmpG [iv ((g.getD (Int.toNat k) default).n), SV.v (Value.slice none 0 0)]))), (27, cj (e 9) (clRow ([⟨(g.getD (Int.toNat k) default).n, []⟩]))), (28, SV.junk), (29, cj (e 11) (SV.bp 1001 0)), (0, iv (k)), (2, SV.bp 1001 0), (3, SV.bp 1002 0), (6, iv ((o.length : Int)))], [(1, ownOf inCell 1 0 (o ++ ([k])) 3), (1000, Own.box 1 (upd (fun zt => kill 1003 ((fun _ => SV.own 1003) zt)) 0 (SV.own 1)) 24), (1001, Own.box 1 (fun _ => SV.own 1004) 35), (1002, Own.box 1 (grG g) 35), (1004, ownOf clCell 2 default out 43)]⟩)
      refine t_op (hd 18 (by decide)) (q_fldB _ _ (val_tmp rfl) Try.underlying35 rfl 0 (fun w => Try.sizeOf33 w)) ?_
      refine t_nil ?_
      refine weakE ?_ ?_
      · exact ⟨val_tmp rfl, val_tmp rfl, val_tmp rfl, val_tmp rfl, val_tmp rfl, val_tmp rfl, val_tmp rfl, val_tmp rfl, val_tmp rfl, val_tmp rfl, val_junk, val_tmp rfl, val_tmp rfl, val_tmp rfl, val_tmp rfl, val_tmp rfl, trivial⟩
      · exact ⟨⟨_, rfl, rfl⟩, ⟨_, rfl, ⟨rfl, rfl, ⟨trivial, rfl⟩⟩⟩, ⟨_, rfl, ⟨rfl, rfl, ⟨trivial, rfl⟩⟩⟩, ⟨_, rfl, ⟨rfl, rfl, ⟨trivial, rfl⟩⟩⟩, ⟨_, rfl, rfl⟩, trivial⟩
    · intro e hdn he hdp
      obtain ⟨h0, -⟩ := (show e 0 = true ∧ True from hdp)
      have h10 : e 10 = false := fls he fun q => by obtain ⟨r1, -, -⟩ := (show e 1 = true ∧ e 9 = true ∧ True from hdn 10 q); exact r1
      have h12 : e 12 = false := fls he fun q => by obtain ⟨r11, -, -, -, -, -, -, -, -, -, -, -, -, -, -⟩ := (show e 11 = true ∧ e 10 = true ∧ e 10 = true ∧ e 0 = true ∧ e 1 = true ∧ e 2 = true ∧ e 3 = true ∧ e 4 = true ∧ e 5 = true ∧ e 6 = true ∧ e 7 = true ∧ e 8 = true ∧ e 9 = true ∧ e 10 = true ∧ True from hdn 12 q); obtain ⟨-, -, -, -, -, -, -, -, -, -, r10, -⟩ := (show e 0 = true ∧ e 1 = true ∧ e 2 = true ∧ e 3 = true ∧ e 4 = true ∧ e 5 = true ∧ e 6 = true ∧ e 7 = true ∧ e 8 = true ∧ e 9 = true ∧ e 10 = true ∧ True from hdn 11 r11); obtain ⟨r1, -, -⟩ := (show e 1 = true ∧ e 9 = true ∧ True from hdn 10 r10); exact r1
      show T _ _ _ _ ⟨[(18, cj (e 0) (SV.bp 1001 0)), (19, cj (e 1) (cjn (e 10) (SV.own 1004))), (20, cj (e 2) (SV.bp 1002 0)), (21, cj (e 3) (clRow g)), (22, cj (e 4) (iv (k))), (23, cj (e 5) (SV.el g.length 2 (rowG clCell default g) (Int.toNat k) 0)), (24, cj (e 6) (SV.el g.length 2 (rowG clCell default g) (Int.toNat k) 0)), (25, cj (e 7) (iv ((g.getD (Int.toNat k) default).n))), (26, cj (e 8) (SV.agg 2 (cmpG [iv ((g.getD (Int.toNat k) default).n), SV.v (Value.slice none 0 0)]))), (27, cj (e 9) (clRow ([⟨(g.getD (Int.toNat k) default).n, []⟩]))), (28, cj (e 10) (SV.own 2)), (29, cj (e 11) (SV.bp 1001 0)), (0, iv (k)), (2, SV.bp 1001 0), (3, SV.bp 1002 0), (6, iv ((o.length : Int)))], (cb (e 10) (cb (e 12) [(1, ownOf inCell 1 0 (o ++ ([k])) 3), (1000, Own.box 1 (upd (fun zt => kill 1003 ((fun _ => SV.own 1003) zt)) 0 (SV.own 1)) 24), (1001, Own.box 1 (upd (fun zt => kill 1004 ((fun _ => SV.own 1004) zt)) 0 (SV.own 2)) 35), (1002, Own.box 1 (grG g) 35), (2, ownOf clCell 2 default (out ++ ([⟨(g.getD (Int.toNat k) default).n, []⟩])) 43)] [(1, ownOf inCell 1 0 (o ++ ([k])) 3), (1000, Own.box 1 (upd (fun zt => kill 1003 ((fun _ => SV.own 1003) zt)) 0 (SV.own 1)) 24), (1001, Own.box 1 (fun zt => kill 1004 ((fun _ => SV.own 1004) zt)) 35), (1002, Own.box 1 (grG g) 35), (2, ownOf clCell 2 default (out ++ ([⟨(g.getD (Int.toNat k) default).n, []⟩])) 43)]) (cb (e 12) [] [(1, ownOf inCell 1 0 (o ++ ([k])) 3), (1000, Own.box 1 (upd (fun zt => kill 1003 ((fun _ => SV.own 1003) zt)) 0 (SV.own 1)) 24), (1001, Own.box 1 (fun _ => SV.own 1004) 35), (1002, Own.box 1 (grG g) 35), (1004, ownOf clCell 2 default out 43)]))⟩ (fun S' => Weak _ S' ⟨[(18, cj (e 0) (SV.bp 1001 0)), (19, cj (true) (cjn (e 10) (SV.own 1004))), (20, cj (e 2) (SV.bp 1002 0)), (21, cj (e 3) (clRow g)), (22, cj (e 4) (iv (k))), (23, cj (e 5) (SV.el g.length 2 (rowG clCell default g) (Int.toNat k) 0)), (24, cj (e 6) (SV.el g.length 2 (rowG clCell default g) (Int.toNat k) 0)), (25, cj (e 7) (iv ((g.getD (Int.toNat k) default).n))), (26, cj (e 8) (SV.agg 2 (cmpG [iv ((g.getD (Int.toNat k) default).n), SV.v (Value.slice none 0 0)]))), (27, cj (e 9) (clRow ([⟨(g.getD (Int.toNat k) default).n, []⟩]))), (28, cj (e 10) (SV.own 2)), (29, cj (e 11) (SV.bp 1001 0)), (0, iv (k)), (2, SV.bp 1001 0), (3, SV.bp 1002 0), (6, iv ((o.length : Int)))], (cb (e 10) (cb (e 12) [(1, ownOf inCell 1 0 (o ++ ([k])) 3), (1000, Own.box 1 (upd (fun zt => kill 1003 ((fun _ => SV.own 1003) zt)) 0 (SV.own 1)) 24), (1001, Own.box 1 (upd (fun zt => kill 1004 ((fun _ => SV.own 1004) zt)) 0 (SV.own 2)) 35), (1002, Own.box 1 (grG g) 35), (2, ownOf clCell 2 default (out ++ ([⟨(g.getD (Int.toNat k) default).n, []⟩])) 43)] [(1, ownOf inCell 1 0 (o ++ ([k])) 3), (1000, Own.box 1 (upd (fun zt => kill 1003 ((fun _ => SV.own 1003) zt)) 0 (SV.own 1)) 24), (1001, Own.box 1 (fun zt => kill 1004 ((fun _ => SV.own 1004) zt)) 35), (1002, Own.box 1 (grG g) 35), (2, ownOf clCell 2 default (out ++ ([⟨(g.getD (Int.toNat k) default).n, []⟩])) 43)]) (cb (e 12) [] [(1, ownOf inCell 1 0 (o ++ ([k])) 3), (1000, Own.box 1 (upd (fun zt => kill 1003 ((fun _ => SV.own 1003) zt)) 0 (SV.own 1)) 24), (1001, Own.box 1 (fun _ => SV.own 1004) 35), (1002, Own.box 1 (grG g) 35), (1004, ownOf clCell 2 default out 43)]))⟩)
      simp only [h0, he, h10, h12]
      show T _ _ _ _ ⟨[(18, SV.bp 1001 0), (19, SV.junk), (20, cj (e 2) (SV.bp 1002 0)), (21, cj (e 3) (clRow g)), (22, cj (e 4) (iv (k))), (23, cj (e 5) (SV.el g.length 2 (rowG clCell default g) (Int.toNat k) 0)), (24, cj (e 6) (SV.el g.length 2 (rowG clCell default g) (Int.toNat k) 0)), (25, cj (e 7) (iv ((g.getD (Int.toNat k) default).n))), (26, cj (e 8) (SV.agg 2 (cmpG [iv ((g.getD (Int.toNat k) default).n), SV.v (Value.slice none 0 0)]))), (27, cj (e 9) (clRow ([⟨(g.getD (Int.toNat k) default).n, []⟩]))), (28, SV.junk), (29, cj (e 11) (SV.bp 1001 0)), (0, iv (k)), (2, SV.bp 1001 0), (3, SV.bp 1002 0), (6, iv ((o.length : Int)))], [(1, ownOf inCell 1 0 (o ++ ([k])) 3), (1000, Own.box 1 (upd (fun zt => kill 1003 ((fun _ => SV.own 1003) zt)) 0 (SV.own 1)) 24), (1001, Own.box 1 (fun _ => SV.own 1004) 35), (1002, Own.box 1 (grG g) 35), (1004, ownOf clCell 2 default out 43)]⟩ (fun S' => Weak _ S' ⟨[(18, SV.bp 1001 0), (19, SV.own 1004), (20, cj (e 2) (SV.bp 1002 0)), (21, cj (e 3) (clRow g)), (22, cj (e 4) (iv (k))), (23, cj (e 5) (SV.el g.length 2 (rowG clCell default g) (Int.toNat k) 0)), (24, cj (e 6) (SV.el g.length 2 (rowG clCell default g) (Int.toNat k) 0)), (25, cj (e 7) (iv ((g.getD (Int.toNat k) default).n))), (26, cj (e 8) (SV.agg 2 (cmpG [iv ((g.getD (Int.toNat k) default).n), SV.v (Value.slice none 0 0)]))), (27, cj (e 9) (clRow ([⟨(g.getD (Int.toNat k) default).n, []⟩]))), (28, SV.junk), (29, cj (e 11) (SV.bp 1001 0)), (0, iv (k)), (2, SV.bp 1001 0), (3, SV.bp 1002 0), (6, iv ((o.length : Int)))], [(1, ownOf inCell 1 0 (o ++ ([k])) 3), (1000, Own.box 1 (upd (fun zt => kill 1003 ((fun _ => SV.own 1003) zt)) 0 (SV.own 1)) 24), (1001, Own.box 1 (fun _ => SV.own 1004) 35), (1002, Own.box 1 (grG g) 35), (1004, ownOf clCell 2 default out 43)]⟩)
      refine t_op (hd 19 (by decide)) (q_ldB (val_tmp rfl) rfl Try.isAgg33 (by decide)) ?_
      refine t_nil ?_
      refine weakE ?_ ?_
      · exact ⟨val_tmp rfl, val_tmp rfl, val_tmp rfl, val_tmp rfl, val_tmp rfl, val_tmp rfl, val_tmp rfl, val_tmp rfl, val_tmp rfl, val_tmp rfl, val_junk, val_tmp rfl, val_tmp rfl, val_tmp rfl, val_tmp rfl, val_tmp rfl, trivial⟩
      · exact ⟨⟨_, rfl, rfl⟩, ⟨_, rfl, ⟨rfl, rfl, ⟨trivial, rfl⟩⟩⟩, ⟨_, rfl, ⟨rfl, rfl, ⟨trivial, rfl⟩⟩⟩, ⟨_, rfl, ⟨rfl, rfl, ⟨trivial, rfl⟩⟩⟩, ⟨_, rfl, rfl⟩, trivial⟩
    · intro e hdn he hdp
      have h10 : e 10 = false := fls he fun q => by obtain ⟨-, r9, -⟩ := (show e 1 = true ∧ e 9 = true ∧ True from hdn 10 q); obtain ⟨r8, -⟩ := (show e 8 = true ∧ True from hdn 9 r9); obtain ⟨r7, -⟩ := (show e 7 = true ∧ True from hdn 8 r8); obtain ⟨r6, -⟩ := (show e 6 = true ∧ True from hdn 7 r7); obtain ⟨r5, -⟩ := (show e 5 = true ∧ True from hdn 6 r6); obtain ⟨r3, -, -⟩ := (show e 3 = true ∧ e 4 = true ∧ True from hdn 5 r5); obtain ⟨r2, -⟩ := (show e 2 = true ∧ True from hdn 3 r3); exact r2
      have h12 : e 12 = false := fls he fun q => by obtain ⟨r11, -, -, -, -, -, -, -, -, -, -, -, -, -, -⟩ := (show e 11 = true ∧ e 10 = true ∧ e 10 = true ∧ e 0 = true ∧ e 1 = true ∧ e 2 = true ∧ e 3 = true ∧ e 4 = true ∧ e 5 = true ∧ e 6 = true ∧ e 7 = true ∧ e 8 = true ∧ e 9 = true ∧ e 10 = true ∧ True from hdn 12 q); obtain ⟨-, -, -, -, -, -, -, -, -, -, r10, -⟩ := (show e 0 = true ∧ e 1 = true ∧ e 2 = true ∧ e 3 = true ∧ e 4 = true ∧ e 5 = true ∧ e 6 = true ∧ e 7 = true ∧ e 8 = true ∧ e 9 = true ∧ e 10 = true ∧ True from hdn 11 r11); obtain ⟨-, r9, -⟩ := (show e 1 = true ∧ e 9 = true ∧ True from hdn 10 r10); obtain ⟨r8, -⟩ := (show e 8 = true ∧ True from hdn 9 r9); obtain ⟨r7, -⟩ := (show e 7 = true ∧ True from hdn 8 r8); obtain ⟨r6, -⟩ := (show e 6 = true ∧ True from hdn 7 r7); obtain ⟨r5, -⟩ := (show e 5 = true ∧ True from hdn 6 r6); obtain ⟨r3, -, -⟩ := (show e 3 = true ∧ e 4 = true ∧ True from hdn 5 r5); obtain ⟨r2, -⟩ := (show e 2 = true ∧ True from hdn 3 r3); exact r2
      show T _ _ _ _ ⟨[(18, cj (e 0) (SV.bp 1001 0)), (19, cj (e 1) (cjn (e 10) (SV.own 1004))), (20, cj (e 2) (SV.bp 1002 0)), (21, cj (e 3) (clRow g)), (22, cj (e 4) (iv (k))), (23, cj (e 5) (SV.el g.length 2 (rowG clCell default g) (Int.toNat k) 0)), (24, cj (e 6) (SV.el g.length 2 (rowG clCell default g) (Int.toNat k) 0)), (25, cj (e 7) (iv ((g.getD (Int.toNat k) default).n))), (26, cj (e 8) (SV.agg 2 (cmpG [iv ((g.getD (Int.toNat k) default).n), SV.v (Value.slice none 0 0)]))), (27, cj (e 9) (clRow ([⟨(g.getD (Int.toNat k) default).n, []⟩]))), (28, cj (e 10) (SV.own 2)), (29, cj (e 11) (SV.bp 1001 0)), (0, iv (k)), (2, SV.bp 1001 0), (3, SV.bp 1002 0), (6, iv ((o.length : Int)))], (cb (e 10) (cb (e 12) [(1, ownOf inCell 1 0 (o ++ ([k])) 3), (1000, Own.box 1 (upd (fun zt => kill 1003 ((fun _ => SV.own 1003) zt)) 0 (SV.own 1)) 24), (1001, Own.box 1 (upd (fun zt => kill 1004 ((fun _ => SV.own 1004) zt)) 0 (SV.own 2)) 35), (1002, Own.box 1 (grG g) 35), (2, ownOf clCell 2 default (out ++ ([⟨(g.getD (Int.toNat k) default).n, []⟩])) 43)] [(1, ownOf inCell 1 0 (o ++ ([k])) 3), (1000, Own.box 1 (upd (fun zt => kill 1003 ((fun _ => SV.own 1003) zt)) 0 (SV.own 1)) 24), (1001, Own.box 1 (fun zt => kill 1004 ((fun _ => SV.own 1004) zt)) 35), (1002, Own.box 1 (grG g) 35), (2, ownOf clCell 2 default (out ++ ([⟨(g.getD (Int.toNat k) default).n, []⟩])) 43)]) (cb (e 12) [] [(1, ownOf inCell 1 0 (o ++ ([k])) 3), (1000, Own.box 1 (upd (fun zt => kill 1003 ((fun _ => SV.own 1003) zt)) 0 (SV.own 1)) 24), (1001, Own.box 1 (fun _ => SV.own 1004) 35), (1002, Own.box 1 (grG g) 35), (1004, ownOf clCell 2 default out 43)]))⟩ (fun S' => Weak _ S' ⟨[(18, cj (e 0) (SV.bp 1001 0)), (19, cj (e 1) (cjn (e 10) (SV.own 1004))), (20, cj (true) (SV.bp 1002 0)), (21, cj (e 3) (clRow g)), (22, cj (e 4) (iv (k))), (23, cj (e 5) (SV.el g.length 2 (rowG clCell default g) (Int.toNat k) 0)), (24, cj (e 6) (SV.el g.length 2 (rowG clCell default g) (Int.toNat k) 0)), (25, cj (e 7) (iv ((g.getD (Int.toNat k) default).n))), (26, cj (e 8) (SV.agg 2 (cmpG [iv ((g.getD (Int.toNat k) default).n), SV.v (Value.slice none 0 0)]))), (27, cj (e 9) (clRow ([⟨(g.getD (Int.toNat k) default).n, []⟩]))), (28, cj (e 10) (SV.own 2)), (29, cj (e 11) (SV.bp 1001 0)), (0, iv (k)), (2, SV.bp 1001 0), (3, SV.bp 1002 0), (6, iv ((o.length : Int)))], (cb (e 10) (cb (e 12) [(1, ownOf inCell 1 0 (o ++ ([k])) 3), (1000, Own.box 1 (upd (fun zt => kill 1003 ((fun _ => SV.own 1003) zt)) 0 (SV.own 1)) 24), (1001, Own.box 1 (upd (fun zt => kill 1004 ((fun _ => SV.own 1004) zt)) 0 (SV.own 2)) 35), (1002, Own.box 1 (grG g) 35), (2, ownOf clCell 2 default (out ++ ([⟨(g.getD (Int.toNat k) default).n, []⟩])) 43)] [(1, ownOf inCell 1 0 (o ++ ([k])) 3), (1000, Own.box 1 (upd (fun zt => kill 1003 ((fun _ => SV.own 1003) zt)) 0 (SV.own 1)) 24), (1001, Own.box 1 (fun zt => kill 1004 ((fun _ => SV.own 1004) zt)) 35), (1002, Own.box 1 (grG g) 35), (2, ownOf clCell 2 default (out ++ ([⟨(g.getD (Int.toNat k) default).n, []⟩])) 43)]) (cb (e 12) [] [(1, ownOf inCell 1 0 (o ++ ([k])) 3), (1000, Own.box 1 (upd (fun zt => kill 1003 ((fun _ => SV.own 1003) zt)) 0 (SV.own 1)) 24), (1001, Own.box 1 (fun _ => SV.own 1004) 35), (1002, Own.box 1 (grG g) 35), (1004, ownOf clCell 2 default out 43)]))⟩)
      simp only [he, h10, h12]
      show T _ _ _ _ ⟨[(18, cj (e 0) (SV.bp 1001 0)), (19, cj (e 1) (SV.own 1004)), (20, SV.junk), (21, cj (e 3) (clRow g)), (22, cj (e 4) (iv (k))), (23, cj (e 5) (SV.el g.length 2 (rowG clCell default g) (Int.toNat k) 0)), (24, cj (e 6) (SV.el g.length 2 (rowG clCell default g) (Int.toNat k) 0)), (25, cj (e 7) (iv ((g.getD (Int.toNat k) default).n))), (26, cj (e 8) (SV.agg 2 (cmpG [iv ((g.getD (Int.toNat k) default).n), SV.v (Value.slice none 0 0)]))), (27, cj (e 9) (clRow ([⟨(g.getD (Int.toNat k) default).n, []⟩]))), (28, SV.junk), (29, cj (e 11) (SV.bp 1001 0)), (0, iv (k)), (2, SV.bp 1001 0), (3, SV.bp 1002 0), (6, iv ((o.length : Int)))], [(1, ownOf inCell 1 0 (o ++ ([k])) 3), (1000, Own.box 1 (upd (fun zt => kill 1003 ((fun _ => SV.own 1003) zt)) 0 (SV.own 1)) 24), (1001, Own.box 1 (fun _ => SV.own 1004) 35), (1002, Own.box 1 (grG g) 35), (1004, ownOf clCell 2 default out 43)]⟩ (fun S' => Weak _ S' ⟨[(18, cj (e 0) (SV.bp 1001 0)), (19, cj (e 1) (SV.own 1004)), (20, SV.bp 1002 0), (21, cj (e 3) (clRow g)), (22, cj (e 4) (iv (k))), (23, cj (e 5) (SV.el g.length 2 (rowG clCell default g) (Int.toNat k) 0)), (24, cj (e 6) (SV.el g.length 2 (rowG clCell default g) (Int.toNat k) 0)), (25, cj (e 7) (iv ((g.getD (Int.toNat k) default).n))), (26, cj (e 8) (SV.agg 2 (cmpG [iv ((g.getD (Int.toNat k) default).n), SV.v (Value.slice none 0 0)]))), (27, cj (e 9) (clRow ([⟨(g.getD (Int.toNat k) default).n, []⟩]))), (28, SV.junk), (29, cj (e 11) (SV.bp 1001 0)), (0, iv (k)), (2, SV.bp 1001 0), (3, SV.bp 1002 0), (6, iv ((o.length : Int)))], [(1, ownOf inCell 1 0 (o ++ ([k])) 3), (1000, Own.box 1 (upd (fun zt => kill 1003 ((fun _ => SV.own 1003) zt)) 0 (SV.own 1)) 24), (1001, Own.box 1 (fun _ => SV.own 1004) 35), (1002, Own.box 1 (grG g) 35), (1004, ownOf clCell 2 default out 43)]⟩)
      refine t_op (hd 20 (by decide)) (q_fldB _ _ (val_tmp rfl) Try.underlying35 rfl 0 (fun w => Try.sizeOf33 w)) ?_
      refine t_nil ?_
      refine weakE ?_ ?_
      · exact ⟨val_tmp rfl, val_tmp rfl, val_tmp rfl, val_tmp rfl, val_tmp rfl, val_tmp rfl, val_tmp rfl, val_tmp rfl, val_tmp rfl, val_tmp rfl, val_junk, val_tmp rfl, val_tmp rfl, val_tmp rfl, val_tmp rfl, val_tmp rfl, trivial⟩
      · exact ⟨⟨_, rfl, rfl⟩, ⟨_, rfl, ⟨rfl, rfl, ⟨trivial, rfl⟩⟩⟩, ⟨_, rfl, ⟨rfl, rfl, ⟨trivial, rfl⟩⟩⟩, ⟨_, rfl, ⟨rfl, rfl, ⟨trivial, rfl⟩⟩⟩, ⟨_, rfl, rfl⟩, trivial⟩
    · intro e hdn he hdp
      obtain ⟨h2, -⟩ := (show e 2 = true ∧ True from hdp)
      have h10 : e 10 = false := fls he fun q => by obtain ⟨-, r9, -⟩ := (show e 1 = true ∧ e 9 = true ∧ True from hdn 10 q); obtain ⟨r8, -⟩ := (show e 8 = true ∧ True from hdn 9 r9); obtain ⟨r7, -⟩ := (show e 7 = true ∧ True from hdn 8 r8); obtain ⟨r6, -⟩ := (show e 6 = true ∧ True from hdn 7 r7); obtain ⟨r5, -⟩ := (show e 5 = true ∧ True from hdn 6 r6); obtain ⟨r3, -, -⟩ := (show e 3 = true ∧ e 4 = true ∧ True from hdn 5 r5); exact r3
      have h12 : e 12 = false := fls he fun q => by obtain ⟨r11, -, -, -, -, -, -, -, -, -, -, -, -, -, -⟩ := (show e 11 = true ∧ e 10 = true ∧ e 10 = true ∧ e 0 = true ∧ e 1 = true ∧ e 2 = true ∧ e 3 = true ∧ e 4 = true ∧ e 5 = true ∧ e 6 = true ∧ e 7 = true ∧ e 8 = true ∧ e 9 = true ∧ e 10 = true ∧ True from hdn 12 q); obtain ⟨-, -, -, -, -, -, -, -, -, -, r10, -⟩ := (show e 0 = true ∧ e 1 = true ∧ e 2 = true ∧ e 3 = true ∧ e 4 = true ∧ e 5 = true ∧ e 6 = true ∧ e 7 = true ∧ e 8 = true ∧ e 9 = true ∧ e 10 = true ∧ True from hdn 11 r11); obtain ⟨-, r9, -⟩ := (show e 1 = true ∧ e 9 = true ∧ True from hdn 10 r10); obtain ⟨r8, -⟩ := (show e 8 = true ∧ True from hdn 9 r9); obtain ⟨r7, -⟩ := (show e 7 = true ∧ True from hdn 8 r8); obtain ⟨r6, -⟩ := (show e 6 = true ∧ True from hdn 7 r7); obtain ⟨r5, -⟩ := (show e 5 = true ∧ True from hdn 6 r6); obtain ⟨r3, -, -⟩ := (show e 3 = true ∧ e 4 = true ∧ True from hdn 5 r5); exact r3
      show T _ _ _ _ ⟨[(18, cj (e 0) (SV.bp 1001 0)), (19, cj (e 1) (cjn (e 10) (SV.own 1004))), (20, cj (e 2) (SV.bp 1002 0)), (21, cj (e 3) (clRow g)), (22, cj (e 4) (iv (k))), (23, cj (e 5) (SV.el g.length 2 (rowG clCell default g) (Int.toNat k) 0)), (24, cj (e 6) (SV.el g.length 2 (rowG clCell default g) (Int.toNat k) 0)), (25, cj (e 7) (iv ((g.getD (Int.toNat k) default).n))), (26, cj (e 8) (SV.agg 2 (cmpG [iv ((g.getD (Int.toNat k) default).n), SV.v (Value.slice none 0 0)]))), (27, cj (e 9) (clRow ([⟨(g.getD (Int.toNat k) default).n, []⟩]))), (28, cj (e 10) (SV.own 2)), (29, cj (e 11) (SV.bp 1001 0)), (0, iv (k)), (2, SV.bp 1001 0), (3, SV.bp 1002 0), (6, iv ((o.length : Int)))], (cb (e 10) (cb (e 12) [(1, ownOf inCell 1 0 (o ++ ([k])) 3), (1000, Own.box 1 (upd (fun zt => kill 1003 ((fun _ => SV.own 1003) zt)) 0 (SV.own 1)) 24), (1001, Own.box 1 (upd (fun zt => kill 1004 ((fun _ => SV.own 1004) zt)) 0 (SV.own 2)) 35), (1002, Own.box 1 (grG g) 35), (2, ownOf clCell 2 default (out ++ ([⟨(g.getD (Int.toNat k) default).n, []⟩])) 43)] [(1, ownOf inCell 1 0 (o ++ ([k])) 3), (1000, Own.box 1 (upd (fun zt => kill 1003 ((fun _ => SV.own 1003) zt)) 0 (SV.own 1)) 24), (1001, Own.box 1 (fun zt => kill 1004 ((fun _ => SV.own 1004) zt)) 35), (1002, Own.box 1 (grG g) 35), (2, ownOf clCell 2 default (out ++ ([⟨(g.getD (Int.toNat k) default).n, []⟩])) 43)]) (cb (e 12) [] [(1, ownOf inCell 1 0 (o ++ ([k])) 3), (1000, Own.box 1 (upd (fun zt => kill 1003 ((fun _ => SV.own 1003) zt)) 0 (SV.own 1)) 24), (1001, Own.box 1 (fun _ => SV.own 1004) 35), (1002, Own.box 1 (grG g) 35), (1004, ownOf clCell 2 default out 43)]))⟩ (fun S' => Weak _ S' ⟨[(18, cj (e 0) (SV.bp 1001 0)), (19, cj (e 1) (cjn (e 10) (SV.own 1004))), (20, cj (e 2) (SV.bp 1002 0)), (21, cj (true) (clRow g)), (22, cj (e 4) (iv (k))), (23, cj (e 5) (SV.el g.length 2 (rowG clCell default g) (Int.toNat k) 0)), (24, cj (e 6) (SV.el g.length 2 (rowG clCell default g) (Int.toNat k) 0)), (25, cj (e 7) (iv ((g.getD (Int.toNat k) default).n))), (26, cj (e 8) (SV.agg 2 (cmpG [iv ((g.getD (Int.toNat k) default).n), SV.v (Value.slice none 0 0)]))), (27, cj (e 9) (clRow ([⟨(g.getD (Int.toNat k) default).n, []⟩]))), (28, cj (e 10) (SV.own 2)), (29, cj (e 11) (SV.bp 1001 0)), (0, iv (k)), (2, SV.bp 1001 0), (3, SV.bp 1002 0), (6, iv ((o.length : Int)))], (cb (e 10) (cb (e 12) [(1, ownOf inCell 1 0 (o ++ ([k])) 3), (1000, Own.box 1 (upd (fun zt => kill 1003 ((fun _ => SV.own 1003) zt)) 0 (SV.own 1)) 24), (1001, Own.box 1 (upd (fun zt => kill 1004 ((fun _ => SV.own 1004) zt)) 0 (SV.own 2)) 35), (1002, Own.box 1 (grG g) 35), (2, ownOf clCell 2 default (out ++ ([⟨(g.getD (Int.toNat k) default).n, []⟩])) 43)] [(1, ownOf inCell 1 0 (o ++ ([k])) 3), (1000, Own.box 1 (upd (fun zt => kill 1003 ((fun _ => SV.own 1003) zt)) 0 (SV.own 1)) 24), (1001, Own.box 1 (fun zt => kill 1004 ((fun _ => SV.own 1004) zt)) 35), (1002, Own.box 1 (grG g) 35), (2, ownOf clCell 2 default (out ++ ([⟨(g.getD (Int.toNat k) default).n, []⟩])) 43)]) (cb (e 12) [] [(1, ownOf inCell 1 0 (o ++ ([k])) 3), (1000, Own.box 1 (upd (fun zt => kill 1003 ((fun _ => SV.own 1003) zt)) 0 (SV.own 1)) 24), (1001, Own.box 1 (fun _ => SV.own 1004) 35), (1002, Own.box 1 (grG g) 35), (1004, ownOf clCell 2 default out 43)]))⟩)
      simp only [h2, he, h10, h12]
      show T _ _ _ _ ⟨[(18, cj (e 0) (SV.bp 1001 0)), (19, cj (e 1) (SV.own 1004)), (20, SV.bp 1002 0), (21, SV.junk), (22, cj (e 4) (iv (k))), (23, cj (e 5) (SV.el g.length 2 (rowG clCell default g) (Int.toNat k) 0)), (24, cj (e 6) (SV.el g.length 2 (rowG clCell default g) (Int.toNat k) 0)), (25, cj (e 7) (iv ((g.getD (Int.toNat k) default).n))), (26, cj (e 8) (SV.agg 2 (cmpG [iv ((g.getD (Int.toNat k) default).n), SV.v (Value.slice none 0 0)]))), (27, cj (e 9) (clRow ([⟨(g.getD (Int.toNat k) default).n, []⟩]))), (28, SV.junk), (29, cj (e 11) (SV.bp 1001 0)), (0, iv (k)), (2, SV.bp 1001 0), (3, SV.bp 1002 0), (6, iv ((o.length : Int)))], [(1, ownOf inCell 1 0 (o ++ ([k])) 3), (1000, Own.box 1 (upd (fun zt => kill 1003 ((fun _ => SV.own 1003) zt)) 0 (SV.own 1)) 24), (1001, Own.box 1 (fun _ => SV.own 1004) 35), (1002, Own.box 1 (grG g) 35), (1004, ownOf clCell 2 default out 43)]⟩ (fun S' => Weak _ S' ⟨[(18, cj (e 0) (SV.bp 1001 0)), (19, cj (e 1) (SV.own 1004)), (20, SV.bp 1002 0), (21, clRow g), (22, cj (e 4) (iv (k))), (23, cj (e 5) (SV.el g.length 2 (rowG clCell default g) (Int.toNat k) 0)), (24, cj (e 6) (SV.el g.length 2 (rowG clCell default g) (Int.toNat k) 0)), (25, cj (e 7) (iv ((g.getD (Int.toNat k) default).n))), (26, cj (e 8) (SV.agg 2 (cmpG [iv ((g.getD (Int.toNat k) default).n), SV.v (Value.slice none 0 0)]))), (27, cj (e 9) (clRow ([⟨(g.getD (Int.toNat k) default).n, []⟩]))), (28, SV.junk), (29, cj (e 11) (SV.bp 1001 0)), (0, iv (k)), (2, SV.bp 1001 0), (3, SV.bp 1002 0), (6, iv ((o.length : Int)))], [(1, ownOf inCell 1 0 (o ++ ([k])) 3), (1000, Own.box 1 (upd (fun zt => kill 1003 ((fun _ => SV.own 1003) zt)) 0 (SV.own 1)) 24), (1001, Own.box 1 (fun _ => SV.own 1004) 35), (1002, Own.box 1 (grG g) 35), (1004, ownOf clCell 2 default out 43)]⟩)
      refine t_op (hd 21 (by decide)) (q_ldB (val_tmp rfl) rfl Try.isAgg33 (by decide)) ?_
      refine t_nil ?_
      refine weakE ?_ ?_
      · exact ⟨val_tmp rfl, val_tmp rfl, val_tmp rfl, val_tmp rfl, val_tmp rfl, val_tmp rfl, val_tmp rfl, val_tmp rfl, val_tmp rfl, val_tmp rfl, val_junk, val_tmp rfl, val_tmp rfl, val_tmp rfl, val_tmp rfl, val_tmp rfl, trivial⟩
      · exact ⟨⟨_, rfl, rfl⟩, ⟨_, rfl, ⟨rfl, rfl, ⟨trivial, rfl⟩⟩⟩, ⟨_, rfl, ⟨rfl, rfl, ⟨trivial, rfl⟩⟩⟩, ⟨_, rfl, ⟨rfl, rfl, ⟨trivial, rfl⟩⟩⟩, ⟨_, rfl, rfl⟩, trivial⟩
    · intro e hdn he hdp
      have h10 : e 10 = false := fls he fun q => by obtain ⟨-, r9, -⟩ := (show e 1 = true ∧ e 9 = true ∧ True from hdn 10 q); obtain ⟨r8, -⟩ := (show e 8 = true ∧ True from hdn 9 r9); obtain ⟨r7, -⟩ := (show e 7 = true ∧ True from hdn 8 r8); obtain ⟨r6, -⟩ := (show e 6 = true ∧ True from hdn 7 r7); obtain ⟨r5, -⟩ := (show e 5 = true ∧ True from hdn 6 r6); obtain ⟨-, r4, -⟩ := (show e 3 = true ∧ e 4 = true ∧ True from hdn 5 r5); exact r4
      have h12 : e 12 = false := fls he fun q => by obtain ⟨r11, -, -, -, -, -, -, -, -, -, -, -, -, -, -⟩ := (show e 11 = true ∧ e 10 = true ∧ e 10 = true ∧ e 0 = true ∧ e 1 = true ∧ e 2 = true ∧ e 3 = true ∧ e 4 = true ∧ e 5 = true ∧ e 6 = true ∧ e 7 = true ∧ e 8 = true ∧ e 9 = true ∧ e 10 = true ∧ True from hdn 12 q); obtain ⟨-, -, -, -, -, -, -, -, -, -, r10, -⟩ := (show e 0 = true ∧ e 1 = true ∧ e 2 = true ∧ e 3 = true ∧ e 4 = true ∧ e 5 = true ∧ e 6 = true ∧ e 7 = true ∧ e 8 = true ∧ e 9 = true ∧ e 10 = true ∧ True from hdn 11 r11); obtain ⟨-, r9, -⟩ := (show e 1 = true ∧ e 9 = true ∧ True from hdn 10 r10); obtain ⟨r8, -⟩ := (show e 8 = true ∧ True from hdn 9 r9); obtain ⟨r7, -⟩ := (show e 7 = true ∧ True from hdn 8 r8); obtain ⟨r6, -⟩ := (show e 6 = true ∧ True from hdn 7 r7); obtain ⟨r5, -⟩ := (show e 5 = true ∧ True from hdn 6 r6); obtain ⟨-, r4, -⟩ := (show e 3 = true ∧ e 4 = true ∧ True from hdn 5 r5); exact r4
      show T _ _ _ _ ⟨[(18, cj (e 0) (SV.bp 1001 0)), (19, cj (e 1) (cjn (e 10) (SV.own 1004))), (20, cj (e 2) (SV.bp 1002 0)), (21, cj (e 3) (clRow g)), (22, cj (e 4) (iv (k))), (23, cj (e 5) (SV.el g.length 2 (rowG clCell default g) (Int.toNat k) 0)), (24, cj (e 6) (SV.el g.length 2 (rowG clCell default g) (Int.toNat k) 0)), (25, cj (e 7) (iv ((g.getD (Int.toNat k) default).n))), (26, cj (e 8) (SV.agg 2 (cmpG [iv ((g.getD (Int.toNat k) default).n), SV.v (Value.slice none 0 0)]))), (27, cj (e 9) (clRow ([⟨(g.getD (Int.toNat k) default).n, []⟩]))), (28, cj (e 10) (SV.own 2)), (29, cj (e 11) (SV.bp 1001 0)), (0, iv (k)), (2, SV.bp 1001 0), (3, SV.bp 1002 0), (6, iv ((o.length : Int)))], (cb (e 10) (cb (e 12) [(1, ownOf inCell 1 0 (o ++ ([k])) 3), (1000, Own.box 1 (upd (fun zt => kill 1003 ((fun _ => SV.own 1003) zt)) 0 (SV.own 1)) 24), (1001, Own.box 1 (upd (fun zt => kill 1004 ((fun _ => SV.own 1004) zt)) 0 (SV.own 2)) 35), (1002, Own.box 1 (grG g) 35), (2, ownOf clCell 2 default (out ++ ([⟨(g.getD (Int.toNat k) default).n, []⟩])) 43)] [(1, ownOf inCell 1 0 (o ++ ([k])) 3), (1000, Own.box 1 (upd (fun zt => kill 1003 ((fun _ => SV.own 1003) zt)) 0 (SV.own 1)) 24), (1001, Own.box 1 (fun zt => kill 1004 ((fun _ => SV.own 1004) zt)) 35), (1002, Own.box 1 (grG g) 35), (2, ownOf clCell 2 default (out ++ ([⟨(g.getD (Int.toNat k) default).n, []⟩])) 43)]) (cb (e 12) [] [(1, ownOf inCell 1 0 (o ++ ([k])) 3), (1000, Own.box 1 (upd (fun zt => kill 1003 ((fun _ => SV.own 1003) zt)) 0 (SV.own 1)) 24), (1001, Own.box 1 (fun _ => SV.own 1004) 35), (1002, Own.box 1 (grG g) 35), (1004, ownOf clCell 2 default out 43)]))⟩ (fun S' => Weak _ S' ⟨[(18, cj (e 0) (SV.bp 1001 0)), (19, cj (e 1) (cjn (e 10) (SV.own 1004))), (20, cj (e 2) (SV.bp 1002 0)), (21, cj (e 3) (clRow g)), (22, cj (true) (iv (k))), (23, cj (e 5) (SV.el g.length 2 (rowG clCell default g) (Int.toNat k) 0)), (24, cj (e 6) (SV.el g.length 2 (rowG clCell default g) (Int.toNat k) 0)), (25, cj (e 7) (iv ((g.getD (Int.toNat k) default).n))), (26, cj (e 8) (SV.agg 2 (cmpG [iv ((g.getD (Int.toNat k) default).n), SV.v (Value.slice none 0 0)]))), (27, cj (e 9) (clRow ([⟨(g.getD (Int.toNat k) default).n, []⟩]))), (28, cj (e 10) (SV.own 2)), (29, cj (e 11) (SV.bp 1001 0)), (0, iv (k)), (2, SV.bp 1001 0), (3, SV.bp 1002 0), (6, iv ((o.length : Int)))], (cb (e 10) (cb (e 12) [(1, ownOf inCell 1 0 (o ++ ([k])) 3), (1000, Own.box 1 (upd (fun zt => kill 1003 ((fun _ => SV.own 1003) zt)) 0 (SV.own 1)) 24), (1001, Own.box 1 (upd (fun zt => kill 1004 ((fun _ => SV.own 1004) zt)) 0 (SV.own 2)) 35), (1002, Own.box 1 (grG g) 35), (2, ownOf clCell 2 default (out ++ ([⟨(g.getD (Int.toNat k) default).n, []⟩])) 43)] [(1, ownOf inCell 1 0 (o ++ ([k])) 3), (1000, Own.box 1 (upd (fun zt => kill 1003 ((fun _ => SV.own 1003) zt)) 0 (SV.own 1)) 24), (1001, Own.box 1 (fun zt => kill 1004 ((fun _ => SV.own 1004) zt)) 35), (1002, Own.box 1 (grG g) 35), (2, ownOf clCell 2 default (out ++ ([⟨(g.getD (Int.toNat k) default).n, []⟩])) 43)]) (cb (e 12) [] [(1, ownOf inCell 1 0 (o ++ ([k])) 3), (1000, Own.box 1 (upd (fun zt => kill 1003 ((fun _ => SV.own 1003) zt)) 0 (SV.own 1)) 24), (1001, Own.box 1 (fun _ => SV.own 1004) 35), (1002, Own.box 1 (grG g) 35), (1004, ownOf clCell 2 default out 43)]))⟩)
      simp only [he, h10, h12]
      show T _ _ _ _ ⟨[(18, cj (e 0) (SV.bp 1001 0)), (19, cj (e 1) (SV.own 1004)), (20, cj (e 2) (SV.bp 1002 0)), (21, cj (e 3) (clRow g)), (22, SV.junk), (23, cj (e 5) (SV.el g.length 2 (rowG clCell default g) (Int.toNat k) 0)), (24, cj (e 6) (SV.el g.length 2 (rowG clCell default g) (Int.toNat k) 0)), (25, cj (e 7) (iv ((g.getD (Int.toNat k) default).n))), (26, cj (e 8) (SV.agg 2 (cmpG [iv ((g.getD (Int.toNat k) default).n), SV.v (Value.slice none 0 0)]))), (27, cj (e 9) (clRow ([⟨(g.getD (Int.toNat k) default).n, []⟩]))), (28, SV.junk), (29, cj (e 11) (SV.bp 1001 0)), (0, iv (k)), (2, SV.bp 1001 0), (3, SV.bp 1002 0), (6, iv ((o.length : Int)))], [(1, ownOf inCell 1 0 (o ++ ([k])) 3), (1000, Own.box 1 (upd (fun zt => kill 1003 ((fun _ => SV.own 1003) zt)) 0 (SV.own 1)) 24), (1001, Own.box 1 (fun _ => SV.own 1004) 35), (1002, Own.box 1 (grG g) 35), (1004, ownOf clCell 2 default out 43)]⟩ (fun S' => Weak _ S' ⟨[(18, cj (e 0) (SV.bp 1001 0)), (19, cj (e 1) (SV.own 1004)), (20, cj (e 2) (SV.bp 1002 0)), (21, cj (e 3) (clRow g)), (22, iv (k)), (23, cj (e 5) (SV.el g.length 2 (rowG clCell default g) (Int.toNat k) 0)), (24, cj (e 6) (SV.el g.length 2 (rowG clCell default g) (Int.toNat k) 0)), (25, cj (e 7) (iv ((g.getD (Int.toNat k) default).n))), (26, cj (e 8) (SV.agg 2 (cmpG [iv ((g.getD (Int.toNat k) default).n), SV.v (Value.slice none 0 0)]))), (27, cj (e 9) (clRow ([⟨(g.getD (Int.toNat k) default).n, []⟩]))), (28, SV.junk), (29, cj (e 11) (SV.bp 1001 0)), (0, iv (k)), (2, SV.bp 1001 0), (3, SV.bp 1002 0), (6, iv ((o.length : Int)))], [(1, ownOf inCell 1 0 (o ++ ([k])) 3), (1000, Own.box 1 (upd (fun zt => kill 1003 ((fun _ => SV.own 1003) zt)) 0 (SV.own 1)) 24), (1001, Own.box 1 (fun _ => SV.own 1004) 35), (1002, Own.box 1 (grG g) 35), (1004, ownOf clCell 2 default out 43)]⟩)
      refine t_op (hd 22 (by decide)) (q_move (val_tmp rfl)) ?_
      refine t_nil ?_
      refine weakE ?_ ?_
      · exact ⟨val_tmp rfl, val_tmp rfl, val_tmp rfl, val_tmp rfl, val_tmp rfl, val_tmp rfl, val_tmp rfl, val_tmp rfl, val_tmp rfl, val_tmp rfl, val_junk, val_tmp rfl, val_tmp rfl, val_tmp rfl, val_tmp rfl, val_tmp rfl, trivial⟩
      · exact ⟨⟨_, rfl, rfl⟩, ⟨_, rfl, ⟨rfl, rfl, ⟨trivial, rfl⟩⟩⟩, ⟨_, rfl, ⟨rfl, rfl, ⟨trivial, rfl⟩⟩⟩, ⟨_, rfl, ⟨rfl, rfl, ⟨trivial, rfl⟩⟩⟩, ⟨_, rfl, rfl⟩, trivial⟩
    · intro e hdn he hdp
      obtain ⟨h3, h4, -⟩ := (show e 3 = true ∧ e 4 = true ∧ True from hdp)
      obtain ⟨h2, -⟩ := (show e 2 = true ∧ True from hdn 3 h3)
      have h10 : e 10 = false := fls he fun q => by obtain ⟨-, r9, -⟩ := (show e 1 = true ∧ e 9 = true ∧ True from hdn 10 q); obtain ⟨r8, -⟩ := (show e 8 = true ∧ True from hdn 9 r9); obtain ⟨r7, -⟩ := (show e 7 = true ∧ True from hdn 8 r8); obtain ⟨r6, -⟩ := (show e 6 = true ∧ True from hdn 7 r7); obtain ⟨r5, -⟩ := (show e 5 = true ∧ True from hdn 6 r6); exact r5
      have h12 : e 12 = false := fls he fun q => by obtain ⟨r11, -, -, -, -, -, -, -, -, -, -, -, -, -, -⟩ := (show e 11 = true ∧ e 10 = true ∧ e 10 = true ∧ e 0 = true ∧ e 1 = true ∧ e 2 = true ∧ e 3 = true ∧ e 4 = true ∧ e 5 = true ∧ e 6 = true ∧ e 7 = true ∧ e 8 = true ∧ e 9 = true ∧ e 10 = true ∧ True from hdn 12 q); obtain ⟨-, -, -, -, -, -, -, -, -, -, r10, -⟩ := (show e 0 = true ∧ e 1 = true ∧ e 2 = true ∧ e 3 = true ∧ e 4 = true ∧ e 5 = true ∧ e 6 = true ∧ e 7 = true ∧ e 8 = true ∧ e 9 = true ∧ e 10 = true ∧ True from hdn 11 r11); obtain ⟨-, r9, -⟩ := (show e 1 = true ∧ e 9 = true ∧ True from hdn 10 r10); obtain ⟨r8, -⟩ := (show e 8 = true ∧ True from hdn 9 r9); obtain ⟨r7, -⟩ := (show e 7 = true ∧ True from hdn 8 r8); obtain ⟨r6, -⟩ := (show e 6 = true ∧ True from hdn 7 r7); obtain ⟨r5, -⟩ := (show e 5 = true ∧ True from hdn 6 r6); exact r5
      show T _ _ _ _ ⟨[(18, cj (e 0) (SV.bp 1001 0)), (19, cj (e 1) (cjn (e 10) (SV.own 1004))), (20, cj (e 2) (SV.bp 1002 0)), (21, cj (e 3) (clRow g)), (22, cj (e 4) (iv (k))), (23, cj (e 5) (SV.el g.length 2 (rowG clCell default g) (Int.toNat k) 0)), (24, cj (e 6) (SV.el g.length 2 (rowG clCell default g) (Int.toNat k) 0)), (25, cj (e 7) (iv ((g.getD (Int.toNat k) default).n))), (26, cj (e 8) (SV.agg 2 (cmpG [iv ((g.getD (Int.toNat k) default).n), SV.v (Value.slice none 0 0)]))), (27, cj (e 9) (clRow ([⟨(g.getD (Int.toNat k) default).n, []⟩]))), (28, cj (e 10) (SV.own 2)), (29, cj (e 11) (SV.bp 1001 0)), (0, iv (k)), (2, SV.bp 1001 0), (3, SV.bp 1002 0), (6, iv ((o.length : Int)))], (cb (e 10) (cb (e 12) [(1, ownOf inCell 1 0 (o ++ ([k])) 3), (1000, Own.box 1 (upd (fun zt => kill 1003 ((fun _ => SV.own 1003) zt)) 0 (SV.own 1)) 24), (1001, Own.box 1 (upd (fun zt => kill 1004 ((fun _ => SV.own 1004) zt)) 0 (SV.own 2)) 35), (1002, Own.box 1 (grG g) 35), (2, ownOf clCell 2 default (out ++ ([⟨(g.getD (Int.toNat k) default).n, []⟩])) 43)] [(1, ownOf inCell 1 0 (o ++ ([k])) 3), (1000, Own.box 1 (upd (fun zt => kill 1003 ((fun _ => SV.own 1003) zt)) 0 (SV.own 1)) 24), (1001, Own.box 1 (fun zt => kill 1004 ((fun _ => SV.own 1004) zt)) 35), (1002, Own.box 1 (grG g) 35), (2, ownOf clCell 2 default (out ++ ([⟨(g.getD (Int.toNat k) default).n, []⟩])) 43)]) (cb (e 12) [] [(1, ownOf inCell 1 0 (o ++ ([k])) 3), (1000, Own.box 1 (upd (fun zt => kill 1003 ((fun _ => SV.own 1003) zt)) 0 (SV.own 1)) 24), (1001, Own.box 1 (fun _ => SV.own 1004) 35), (1002, Own.box 1 (grG g) 35), (1004, ownOf clCell 2 default out 43)]))⟩ (fun S' => Weak _ S' ⟨[(18, cj (e 0) (SV.bp 1001 0)), (19, cj (e 1) (cjn (e 10) (SV.own 1004))), (20, cj (e 2) (SV.bp 1002 0)), (21, cj (e 3) (clRow g)), (22, cj (e 4) (iv (k))), (23, cj (true) (SV.el g.length 2 (rowG clCell default g) (Int.toNat k) 0)), (24, cj (e 6) (SV.el g.length 2 (rowG clCell default g) (Int.toNat k) 0)), (25, cj (e 7) (iv ((g.getD (Int.toNat k) default).n))), (26, cj (e 8) (SV.agg 2 (cmpG [iv ((g.getD (Int.toNat k) default).n), SV.v (Value.slice none 0 0)]))), (27, cj (e 9) (clRow ([⟨(g.getD (Int.toNat k) default).n, []⟩]))), (28, cj (e 10) (SV.own 2)), (29, cj (e 11) (SV.bp 1001 0)), (0, iv (k)), (2, SV.bp 1001 0), (3, SV.bp 1002 0), (6, iv ((o.length : Int)))], (cb (e 10) (cb (e 12) [(1, ownOf inCell 1 0 (o ++ ([k])) 3), (1000, Own.box 1 (upd (fun zt => kill 1003 ((fun _ => SV.own 1003) zt)) 0 (SV.own 1)) 24), (1001, Own.box 1 (upd (fun zt => kill 1004 ((fun _ => SV.own 1004) zt)) 0 (SV.own 2)) 35), (1002, Own.box 1 (grG g) 35), (2, ownOf clCell 2 default (out ++ ([⟨(g.getD (Int.toNat k) default).n, []⟩])) 43)] [(1, ownOf inCell 1 0 (o ++ ([k])) 3), (1000, Own.box 1 (upd (fun zt => kill 1003 ((fun _ => SV.own 1003) zt)) 0 (SV.own 1)) 24), (1001, Own.box 1 (fun zt => kill 1004 ((fun _ => SV.own 1004) zt)) 35), (1002, Own.box 1 (grG g) 35), (2, ownOf clCell 2 default (out ++ ([⟨(g.getD (Int.toNat k) default).n, []⟩])) 43)]) (cb (e 12) [] [(1, ownOf inCell 1 0 (o ++ ([k])) 3), (1000, Own.box 1 (upd (fun zt => kill 1003 ((fun _ => SV.own 1003) zt)) 0 (SV.own 1)) 24), (1001, Own.box 1 (fun _ => SV.own 1004) 35), (1002, Own.box 1 (grG g) 35), (1004, ownOf clCell 2 default out 43)]))⟩)
      simp only [h2, h3, h4, he, h10, h12]
      show T _ _ _ _ ⟨[(18, cj (e 0) (SV.bp 1001 0)), (19, cj (e 1) (SV.own 1004)), (20, SV.bp 1002 0), (21, clRow g), (22, iv (k)), (23, SV.junk), (24, cj (e 6) (SV.el g.length 2 (rowG clCell default g) (Int.toNat k) 0)), (25, cj (e 7) (iv ((g.getD (Int.toNat k) default).n))), (26, cj (e 8) (SV.agg 2 (cmpG [iv ((g.getD (Int.toNat k) default).n), SV.v (Value.slice none 0 0)]))), (27, cj (e 9) (clRow ([⟨(g.getD (Int.toNat k) default).n, []⟩]))), (28, SV.junk), (29, cj (e 11) (SV.bp 1001 0)), (0, iv (k)), (2, SV.bp 1001 0), (3, SV.bp 1002 0), (6, iv ((o.length : Int)))], [(1, ownOf inCell 1 0 (o ++ ([k])) 3), (1000, Own.box 1 (upd (fun zt => kill 1003 ((fun _ => SV.own 1003) zt)) 0 (SV.own 1)) 24), (1001, Own.box 1 (fun _ => SV.own 1004) 35), (1002, Own.box 1 (grG g) 35), (1004, ownOf clCell 2 default out 43)]⟩ (fun S' => Weak _ S' ⟨[(18, cj (e 0) (SV.bp 1001 0)), (19, cj (e 1) (SV.own 1004)), (20, SV.bp 1002 0), (21, clRow g), (22, iv (k)), (23, SV.el g.length 2 (rowG clCell default g) (Int.toNat k) 0), (24, cj (e 6) (SV.el g.length 2 (rowG clCell default g) (Int.toNat k) 0)), (25, cj (e 7) (iv ((g.getD (Int.toNat k) default).n))), (26, cj (e 8) (SV.agg 2 (cmpG [iv ((g.getD (Int.toNat k) default).n), SV.v (Value.slice none 0 0)]))), (27, cj (e 9) (clRow ([⟨(g.getD (Int.toNat k) default).n, []⟩]))), (28, SV.junk), (29, cj (e 11) (SV.bp 1001 0)), (0, iv (k)), (2, SV.bp 1001 0), (3, SV.bp 1002 0), (6, iv ((o.length : Int)))], [(1, ownOf inCell 1 0 (o ++ ([k])) 3), (1000, Own.box 1 (upd (fun zt => kill 1003 ((fun _ => SV.own 1003) zt)) 0 (SV.own 1)) 24), (1001, Own.box 1 (fun _ => SV.own 1004) 35), (1002, Own.box 1 (grG g) 35), (1004, ownOf clCell 2 default out 43)]⟩)
      refine t_op (hd 23 (by decide)) (q_idx (val_tmp rfl) (val_tmp rfl) ts33 te33 (by first | omega | (simp only [Bool.and_eq_true, Bool.or_eq_true, Bool.not_eq_true', Bool.not_eq_false', Bool.or_eq_false_iff, Bool.and_eq_false_iff, decide_eq_true_eq, decide_eq_false_iff_not] at *; omega)) (by first | omega | (simp only [Bool.and_eq_true, Bool.or_eq_true, Bool.not_eq_true', Bool.not_eq_false', Bool.or_eq_false_iff, Bool.and_eq_false_iff, decide_eq_true_eq, decide_eq_false_iff_not] at *; omega))) ?_
      refine t_nil ?_
      refine weakE ?_ ?_
      · exact ⟨val_tmp rfl, val_tmp rfl, val_tmp rfl, val_tmp rfl, val_tmp rfl, val_tmp rfl, val_tmp rfl, val_tmp rfl, val_tmp rfl, val_tmp rfl, val_junk, val_tmp rfl, val_tmp rfl, val_tmp rfl, val_tmp rfl, val_tmp rfl, trivial⟩
      · exact ⟨⟨_, rfl, rfl⟩, ⟨_, rfl, ⟨rfl, rfl, ⟨trivial, rfl⟩⟩⟩, ⟨_, rfl, ⟨rfl, rfl, ⟨trivial, rfl⟩⟩⟩, ⟨_, rfl, ⟨rfl, rfl, ⟨trivial, rfl⟩⟩⟩, ⟨_, rfl, rfl⟩, trivial⟩
    · intro e hdn he hdp
      obtain ⟨h5, -⟩ := (show e 5 = true ∧ True from hdp)
      obtain ⟨h3, h4, -⟩ := (show e 3 = true ∧ e 4 = true ∧ True from hdn 5 h5)
      obtain ⟨h2, -⟩ := (show e 2 = true ∧ True from hdn 3 h3)
      have h10 : e 10 = false := fls he fun q => by obtain ⟨-, r9, -⟩ := (show e 1 = true ∧ e 9 = true ∧ True from hdn 10 q); obtain ⟨r8, -⟩ := (show e 8 = true ∧ True from hdn 9 r9); obtain ⟨r7, -⟩ := (show e 7 = true ∧ True from hdn 8 r8); obtain ⟨r6, -⟩ := (show e 6 = true ∧ True from hdn 7 r7); exact r6
      have h12 : e 12 = false := fls he fun q => by obtain ⟨r11, -, -, -, -, -, -, -, -, -, -, -, -, -, -⟩ := (show e 11 = true ∧ e 10 = true ∧ e 10 = true ∧ e 0 = true ∧ e 1 = true ∧ e 2 = true ∧ e 3 = true ∧ e 4 = true ∧ e 5 = true ∧ e 6 = true ∧ e 7 = true ∧ e 8 = true ∧ e 9 = true ∧ e 10 = true ∧ True from hdn 12 q); obtain ⟨-, -, -, -, -, -, -, -, -, -, r10, -⟩ := (show e 0 = true ∧ e 1 = true ∧ e 2 = true ∧ e 3 = true ∧ e 4 = true ∧ e 5 = true ∧ e 6 = true ∧ e 7 = true ∧ e 8 = true ∧ e 9 = true ∧ e 10 = true ∧ True from hdn 11 r11); obtain ⟨-, r9, -⟩ := (show e 1 = true ∧ e 9 = true ∧ True from hdn 10 r10); obtain ⟨r8, -⟩ := (show e 8 = true ∧ True from hdn 9 r9); obtain ⟨r7, -⟩ := (show e 7 = true ∧ True from hdn 8 r8); obtain ⟨r6, -⟩ := (show e 6 = true ∧ True from hdn 7 r7); exact r6
      show T _ _ _ _ ⟨[(18, cj (e 0) (SV.bp 1001 0)), (19, cj (e 1) (cjn (e 10) (SV.own 1004))), (20, cj (e 2) (SV.bp 1002 0)), (21, cj (e 3) (clRow g)), (22, cj (e 4) (iv (k))), (23, cj (e 5) (SV.el g.length 2 (rowG clCell default g) (Int.toNat k) 0)), (24, cj (e 6) (SV.el g.length 2 (rowG clCell default g) (Int.toNat k) 0)), (25, cj (e 7) (iv ((g.getD (Int.toNat k) default).n))), (26, cj (e 8) (SV.agg 2 (cmpG [iv ((g.getD (Int.toNat k) default).n), SV.v (Value.slice none 0 0)]))), (27, cj (e 9) (clRow ([⟨(g.getD (Int.toNat k) default).n, []⟩]))), (28, cj (e 10) (SV.own 2)), (29, cj (e 11) (SV.bp 1001 0)), (0, iv (k)), (2, SV.bp 1001 0), (3, SV.bp 1002 0), (6, iv ((o.length : Int)))], (cb (e 10) (cb (e 12) [(1, ownOf inCell 1 0 (o ++ ([k])) 3), (1000, Own.box 1 (upd (fun zt => kill 1003 ((fun _ => SV.own 1003) zt)) 0 (SV.own 1)) 24), (1001, Own.box 1 (upd (fun zt => kill 1004 ((fun _ => SV.own 1004) zt)) 0 (SV.own 2)) 35), (1002, Own.box 1 (grG g) 35), (2, ownOf clCell 2 default (out ++ ([⟨(g.getD (Int.toNat k) default).n, []⟩])) 43)] [(1, ownOf inCell 1 0 (o ++ ([k])) 3), (1000, Own.box 1 (upd (fun zt => kill 1003 ((fun _ => SV.own 1003) zt)) 0 (SV.own 1)) 24), (1001, Own.box 1 (fun zt => kill 1004 ((fun _ => SV.own 1004) zt)) 35), (1002, Own.box 1 (grG g) 35), (2, ownOf clCell 2 default (out ++ ([⟨(g.getD (Int.toNat k) default).n, []⟩])) 43)]) (cb (e 12) [] [(1, ownOf inCell 1 0 (o ++ ([k])) 3), (1000, Own.box 1 (upd (fun zt => kill 1003 ((fun _ => SV.own 1003) zt)) 0 (SV.own 1)) 24), (1001, Own.box 1 (fun _ => SV.own 1004) 35), (1002, Own.box 1 (grG g) 35), (1004, ownOf clCell 2 default out 43)]))⟩ (fun S' => Weak _ S' ⟨[(18, cj (e 0) (SV.bp 1001 0)), (19, cj (e 1) (cjn (e 10) (SV.own 1004))), (20, cj (e 2) (SV.bp 1002 0)), (21, cj (e 3) (clRow g)), (22, cj (e 4) (iv (k))), (23, cj (e 5) (SV.el g.length 2 (rowG clCell default g) (Int.toNat k) 0)), (24, cj (true) (SV.el g.length 2 (rowG clCell default g) (Int.toNat k) 0)), (25, cj (e 7) (iv ((g.getD (Int.toNat k) default).n))), (26, cj (e 8) (SV.agg 2 (cmpG [iv ((g.getD (Int.toNat k) default).n), SV.v (Value.slice none 0 0)]))), (27, cj (e 9) (clRow ([⟨(g.getD (Int.toNat k) default).n, []⟩]))), (28, cj (e 10) (SV.own 2)), (29, cj (e 11) (SV.bp 1001 0)), (0, iv (k)), (2, SV.bp 1001 0), (3, SV.bp 1002 0), (6, iv ((o.length : Int)))], (cb (e 10) (cb (e 12) [(1, ownOf inCell 1 0 (o ++ ([k])) 3), (1000, Own.box 1 (upd (fun zt => kill 1003 ((fun _ => SV.own 1003) zt)) 0 (SV.own 1)) 24), (1001, Own.box 1 (upd (fun zt => kill 1004 ((fun _ => SV.own 1004) zt)) 0 (SV.own 2)) 35), (1002, Own.box 1 (grG g) 35), (2, ownOf clCell 2 default (out ++ ([⟨(g.getD (Int.toNat k) default).n, []⟩])) 43)] [(1, ownOf inCell 1 0 (o ++ ([k])) 3), (1000, Own.box 1 (upd (fun zt => kill 1003 ((fun _ => SV.own 1003) zt)) 0 (SV.own 1)) 24), (1001, Own.box 1 (fun zt => kill 1004 ((fun _ => SV.own 1004) zt)) 35), (1002, Own.box 1 (grG g) 35), (2, ownOf clCell 2 default (out ++ ([⟨(g.getD (Int.toNat k) default).n, []⟩])) 43)]) (cb (e 12) [] [(1, ownOf inCell 1 0 (o ++ ([k])) 3), (1000, Own.box 1 (upd (fun zt => kill 1003 ((fun _ => SV.own 1003) zt)) 0 (SV.own 1)) 24), (1001, Own.box 1 (fun _ => SV.own 1004) 35), (1002, Own.box 1 (grG g) 35), (1004, ownOf clCell 2 default out 43)]))⟩)
      simp only [h2, h3, h4, h5, he, h10, h12]
      show T _ _ _ _ ⟨[(18, cj (e 0) (SV.bp 1001 0)), (19, cj (e 1) (SV.own 1004)), (20, SV.bp 1002 0), (21, clRow g), (22, iv (k)), (23, SV.el g.length 2 (rowG clCell default g) (Int.toNat k) 0), (24, SV.junk), (25, cj (e 7) (iv ((g.getD (Int.toNat k) default).n))), (26, cj (e 8) (SV.agg 2 (cmpG [iv ((g.getD (Int.toNat k) default).n), SV.v (Value.slice none 0 0)]))), (27, cj (e 9) (clRow ([⟨(g.getD (Int.toNat k) default).n, []⟩]))), (28, SV.junk), (29, cj (e 11) (SV.bp 1001 0)), (0, iv (k)), (2, SV.bp 1001 0), (3, SV.bp 1002 0), (6, iv ((o.length : Int)))], [(1, ownOf inCell 1 0 (o ++ ([k])) 3), (1000, Own.box 1 (upd (fun zt => kill 1003 ((fun _ => SV.own 1003) zt)) 0 (SV.own 1)) 24), (1001, Own.box 1 (fun _ => SV.own 1004) 35), (1002, Own.box 1 (grG g) 35), (1004, ownOf clCell 2 default out 43)]⟩ (fun S' => Weak _ S' ⟨[(18, cj (e 0) (SV.bp 1001 0)), (19, cj (e 1) (SV.own 1004)), (20, SV.bp 1002 0), (21, clRow g), (22, iv (k)), (23, SV.el g.length 2 (rowG clCell default g) (Int.toNat k) 0), (24, SV.el g.length 2 (rowG clCell default g) (Int.toNat k) 0), (25, cj (e 7) (iv ((g.getD (Int.toNat k) default).n))), (26, cj (e 8) (SV.agg 2 (cmpG [iv ((g.getD (Int.toNat k) default).n), SV.v (Value.slice none 0 0)]))), (27, cj (e 9) (clRow ([⟨(g.getD (Int.toNat k) default).n, []⟩]))), (28, SV.junk), (29, cj (e 11) (SV.bp 1001 0)), (0, iv (k)), (2, SV.bp 1001 0), (3, SV.bp 1002 0), (6, iv ((o.length : Int)))], [(1, ownOf inCell 1 0 (o ++ ([k])) 3), (1000, Own.box 1 (upd (fun zt => kill 1003 ((fun _ => SV.own 1003) zt)) 0 (SV.own 1)) 24), (1001, Own.box 1 (fun _ => SV.own 1004) 35), (1002, Own.box 1 (grG g) 35), (1004, ownOf clCell 2 default out 43)]⟩)
      refine t_op (hd 24 (by decide)) (q_fld _ _ (val_tmp rfl) Try.underlying43 rfl 0 (fun w => Try.sizeOf3 w)) ?_
      refine t_nil ?_
      refine weakE ?_ ?_
      · exact ⟨val_tmp rfl, val_tmp rfl, val_tmp rfl, val_tmp rfl, val_tmp rfl, val_tmp rfl, val_tmp rfl, val_tmp rfl, val_tmp rfl, val_tmp rfl, val_junk, val_tmp rfl, val_tmp rfl, val_tmp rfl, val_tmp rfl, val_tmp rfl, trivial⟩
      · exact ⟨⟨_, rfl, rfl⟩, ⟨_, rfl, ⟨rfl, rfl, ⟨trivial, rfl⟩⟩⟩, ⟨_, rfl, ⟨rfl, rfl, ⟨trivial, rfl⟩⟩⟩, ⟨_, rfl, ⟨rfl, rfl, ⟨trivial, rfl⟩⟩⟩, ⟨_, rfl, rfl⟩, trivial⟩
    · intro e hdn he hdp
      obtain ⟨h6, -⟩ := (show e 6 = true ∧ True from hdp)
      obtain ⟨h5, -⟩ := (show e 5 = true ∧ True from hdn 6 h6)
      obtain ⟨h3, h4, -⟩ := (show e 3 = true ∧ e 4 = true ∧ True from hdn 5 h5)
      obtain ⟨h2, -⟩ := (show e 2 = true ∧ True from hdn 3 h3)
      have h10 : e 10 = false := fls he fun q => by obtain ⟨-, r9, -⟩ := (show e 1 = true ∧ e 9 = true ∧ True from hdn 10 q); obtain ⟨r8, -⟩ := (show e 8 = true ∧ True from hdn 9 r9); obtain ⟨r7, -⟩ := (show e 7 = true ∧ True from hdn 8 r8); exact r7
      have h12 : e 12 = false := fls he fun q => by obtain ⟨r11, -, -, -, -, -, -, -, -, -, -, -, -, -, -⟩ := (show e 11 = true ∧ e 10 = true ∧ e 10 = true ∧ e 0 = true ∧ e 1 = true ∧ e 2 = true ∧ e 3 = true ∧ e 4 = true ∧ e 5 = true ∧ e 6 = true ∧ e 7 = true ∧ e 8 = true ∧ e 9 = true ∧ e 10 = true ∧ True from hdn 12 q); obtain ⟨-, -, -, -, -, -, -, -, -, -, r10, -⟩ := (show e 0 = true ∧ e 1 = true ∧ e 2 = true ∧ e 3 = true ∧ e 4 = true ∧ e 5 = true ∧ e 6 = true ∧ e 7 = true ∧ e 8 = true ∧ e 9 = true ∧ e 10 = true ∧ True from hdn 11 r11); obtain ⟨-, r9, -⟩ := (show e 1 = true ∧ e 9 = true ∧ True from hdn 10 r10); obtain ⟨r8, -⟩ := (show e 8 = true ∧ True from hdn 9 r9); obtain ⟨r7, -⟩ := (show e 7 = true ∧ True from hdn 8 r8); exact r7
      show T _ _ _ _ ⟨[(18, cj (e 0) (SV.bp 1001 0)), (19, cj (e 1) (cjn (e 10) (SV.own 1004))), (20, cj (e 2) (SV.bp 1002 0)), (21, cj (e 3) (clRow g)), (22, cj (e 4) (iv (k))), (23, cj (e 5) (SV.el g.length 2 (rowG clCell default g) (Int.toNat k) 0)), (24, cj (e 6) (SV.el g.length 2 (rowG clCell default g) (Int.toNat k) 0)), (25, cj (e 7) (iv ((g.getD (Int.toNat k) default).n))), (26, cj (e 8) (SV.agg 2 (cmpG [iv ((g.getD (Int.toNat k) default).n), SV.v (Value.slice none 0 0)]))), (27, cj (e 9) (clRow ([⟨(g.getD (Int.toNat k) default).n, []⟩]))), (28, cj (e 10) (SV.own 2)), (29, cj (e 11) (SV.bp 1001 0)), (0, iv (k)), (2, SV.bp 1001 0), (3, SV.bp 1002 0), (6, iv ((o.length : Int)))], (cb (e 10) (cb (e 12) [(1, ownOf inCell 1 0 (o ++ ([k])) 3), (1000, Own.box 1 (upd (fun zt => kill 1003 ((fun _ => SV.own 1003) zt)) 0 (SV.own 1)) 24), (1001, Own.box 1 (upd (fun zt => kill 1004 ((fun _ => SV.own 1004) zt)) 0 (SV.own 2)) 35), (1002, Own.box 1 (grG g) 35), (2, ownOf clCell 2 default (out ++ ([⟨(g.getD (Int.toNat k) default).n, []⟩])) 43)] [(1, ownOf inCell 1 0 (o ++ ([k])) 3), (1000, Own.box 1 (upd (fun zt => kill 1003 ((fun _ => SV.own 1003) zt)) 0 (SV.own 1)) 24), (1001, Own.box 1 (fun zt => kill 1004 ((fun _ => SV.own 1004) zt)) 35), (1002, Own.box 1 (grG g) 35), (2, ownOf clCell 2 default (out ++ ([⟨(g.getD (Int.toNat k) default).n, []⟩])) 43)]) (cb (e 12) [] [(1, ownOf inCell 1 0 (o ++ ([k])) 3), (1000, Own.box 1 (upd (fun zt => kill 1003 ((fun _ => SV.own 1003) zt)) 0 (SV.own 1)) 24), (1001, Own.box 1 (fun _ => SV.own 1004) 35), (1002, Own.box 1 (grG g) 35), (1004, ownOf clCell 2 default out 43)]))⟩ (fun S' => Weak _ S' ⟨[(18, cj (e 0) (SV.bp 1001 0)), (19, cj (e 1) (cjn (e 10) (SV.own 1004))), (20, cj (e 2) (SV.bp 1002 0)), (21, cj (e 3) (clRow g)), (22, cj (e 4) (iv (k))), (23, cj (e 5) (SV.el g.length 2 (rowG clCell default g) (Int.toNat k) 0)), (24, cj (e 6) (SV.el g.length 2 (rowG clCell default g) (Int.toNat k) 0)), (25, cj (true) (iv ((g.getD (Int.toNat k) default).n))), (26, cj (e 8) (SV.agg 2 (cmpG [iv ((g.getD (Int.toNat k) default).n), SV.v (Value.slice none 0 0)]))), (27, cj (e 9) (clRow ([⟨(g.getD (Int.toNat k) default).n, []⟩]))), (28, cj (e 10) (SV.own 2)), (29, cj (e 11) (SV.bp 1001 0)), (0, iv (k)), (2, SV.bp 1001 0), (3, SV.bp 1002 0), (6, iv ((o.length : Int)))], (cb (e 10) (cb (e 12) [(1, ownOf inCell 1 0 (o ++ ([k])) 3), (1000, Own.box 1 (upd (fun zt => kill 1003 ((fun _ => SV.own 1003) zt)) 0 (SV.own 1)) 24), (1001, Own.box 1 (upd (fun zt => kill 1004 ((fun _ => SV.own 1004) zt)) 0 (SV.own 2)) 35), (1002, Own.box 1 (grG g) 35), (2, ownOf clCell 2 default (out ++ ([⟨(g.getD (Int.toNat k) default).n, []⟩])) 43)] [(1, ownOf inCell 1 0 (o ++ ([k])) 3), (1000, Own.box 1 (upd (fun zt => kill 1003 ((fun _ => SV.own 1003) zt)) 0 (SV.own 1)) 24), (1001, Own.box 1 (fun zt => kill 1004 ((fun _ => SV.own 1004) zt)) 35), (1002, Own.box 1 (grG g) 35), (2, ownOf clCell 2 default (out ++ ([⟨(g.getD (Int.toNat k) default).n, []⟩])) 43)]) (cb (e 12) [] [(1, ownOf inCell 1 0 (o ++ ([k])) 3), (1000, Own.box 1 (upd (fun zt => kill 1003 ((fun _ => SV.own 1003) zt)) 0 (SV.own 1)) 24), (1001, Own.box 1 (fun _ => SV.own 1004) 35), (1002, Own.box 1 (grG g) 35), (1004, ownOf clCell 2 default out 43)]))⟩)
      simp only [h2, h3, h4, h5, h6, he, h10, h12]
      show T _ _ _ _ ⟨[(18, cj (e 0) (SV.bp 1001 0)), (19, cj (e 1) (SV.own 1004)), (20, SV.bp 1002 0), (21, clRow g), (22, iv (k)), (23, SV.el g.length 2 (rowG clCell default g) (Int.toNat k) 0), (24, SV.el g.length 2 (rowG clCell default g) (Int.toNat k) 0), (25, SV.junk), (26, cj (e 8) (SV.agg 2 (cmpG [iv ((g.getD (Int.toNat k) default).n), SV.v (Value.slice none 0 0)]))), (27, cj (e 9) (clRow ([⟨(g.getD (Int.toNat k) default).n, []⟩]))), (28, SV.junk), (29, cj (e 11) (SV.bp 1001 0)), (0, iv (k)), (2, SV.bp 1001 0), (3, SV.bp 1002 0), (6, iv ((o.length : Int)))], [(1, ownOf inCell 1 0 (o ++ ([k])) 3), (1000, Own.box 1 (upd (fun zt => kill 1003 ((fun _ => SV.own 1003) zt)) 0 (SV.own 1)) 24), (1001, Own.box 1 (fun _ => SV.own 1004) 35), (1002, Own.box 1 (grG g) 35), (1004, ownOf clCell 2 default out 43)]⟩ (fun S' => Weak _ S' ⟨[(18, cj (e 0) (SV.bp 1001 0)), (19, cj (e 1) (SV.own 1004)), (20, SV.bp 1002 0), (21, clRow g), (22, iv (k)), (23, SV.el g.length 2 (rowG clCell default g) (Int.toNat k) 0), (24, SV.el g.length 2 (rowG clCell default g) (Int.toNat k) 0), (25, iv ((g.getD (Int.toNat k) default).n)), (26, cj (e 8) (SV.agg 2 (cmpG [iv ((g.getD (Int.toNat k) default).n), SV.v (Value.slice none 0 0)]))), (27, cj (e 9) (clRow ([⟨(g.getD (Int.toNat k) default).n, []⟩]))), (28, SV.junk), (29, cj (e 11) (SV.bp 1001 0)), (0, iv (k)), (2, SV.bp 1001 0), (3, SV.bp 1002 0), (6, iv ((o.length : Int)))], [(1, ownOf inCell 1 0 (o ++ ([k])) 3), (1000, Own.box 1 (upd (fun zt => kill 1003 ((fun _ => SV.own 1003) zt)) 0 (SV.own 1)) 24), (1001, Own.box 1 (fun _ => SV.own 1004) 35), (1002, Own.box 1 (grG g) 35), (1004, ownOf clCell 2 default out 43)]⟩)
      refine t_op (hd 25 (by decide)) (q_ld (val_tmp rfl) Try.isAgg3 (by decide)) ?_
      refine t_nil ?_
      refine weakE ?_ ?_
      · exact ⟨val_tmp rfl, val_tmp rfl, val_tmp rfl, val_tmp rfl, val_tmp rfl, val_tmp rfl, val_tmp rfl, val_tmp rfl, val_tmp rfl, val_tmp rfl, val_junk, val_tmp rfl, val_tmp rfl, val_tmp rfl, val_tmp rfl, val_tmp rfl, trivial⟩
      · exact ⟨⟨_, rfl, rfl⟩, ⟨_, rfl, ⟨rfl, rfl, ⟨trivial, rfl⟩⟩⟩, ⟨_, rfl, ⟨rfl, rfl, ⟨trivial, rfl⟩⟩⟩, ⟨_, rfl, ⟨rfl, rfl, ⟨trivial, rfl⟩⟩⟩, ⟨_, rfl, rfl⟩, trivial⟩
    · intro e hdn he hdp
      obtain ⟨h7, -⟩ := (show e 7 = true ∧ True from hdp)
      obtain ⟨h6, -⟩ := (show e 6 = true ∧ True from hdn 7 h7)
      obtain ⟨h5, -⟩ := (show e 5 = true ∧ True from hdn 6 h6)
      obtain ⟨h3, h4, -⟩ := (show e 3 = true ∧ e 4 = true ∧ True from hdn 5 h5)
      obtain ⟨h2, -⟩ := (show e 2 = true ∧ True from hdn 3 h3)
      have h10 : e 10 = false := fls he fun q => by obtain ⟨-, r9, -⟩ := (show e 1 = true ∧ e 9 = true ∧ True from hdn 10 q); obtain ⟨r8, -⟩ := (show e 8 = true ∧ True from hdn 9 r9); exact r8
      have h12 : e 12 = false := fls he fun q => by obtain ⟨r11, -, -, -, -, -, -, -, -, -, -, -, -, -, -⟩ := (show e 11 = true ∧ e 10 = true ∧ e 10 = true ∧ e 0 = true ∧ e 1 = true ∧ e 2 = true ∧ e 3 = true ∧ e 4 = true ∧ e 5 = true ∧ e 6 = true ∧ e 7 = true ∧ e 8 = true ∧ e 9 = true ∧ e 10 = true ∧ True from hdn 12 q); obtain ⟨-, -, -, -, -, -, -, -, -, -, r10, -⟩ := (show e 0 = true ∧ e 1 = true ∧ e 2 = true ∧ e 3 = true ∧ e 4 = true ∧ e 5 = true ∧ e 6 = true ∧ e 7 = true ∧ e 8 = true ∧ e 9 = true ∧ e 10 = true ∧ True from hdn 11 r11); obtain ⟨-, r9, -⟩ := (show e 1 = true ∧ e 9 = true ∧ True from hdn 10 r10); obtain ⟨r8, -⟩ := (show e 8 = true ∧ True from hdn 9 r9); exact r8
      show T _ _ _ _ ⟨[(18, cj (e 0) (SV.bp 1001 0)), (19, cj (e 1) (cjn (e 10) (SV.own 1004))), (20, cj (e 2) (SV.bp 1002 0)), (21, cj (e 3) (clRow g)), (22, cj (e 4) (iv (k))), (23, cj (e 5) (SV.el g.length 2 (rowG clCell default g) (Int.toNat k) 0)), (24, cj (e 6) (SV.el g.length 2 (rowG clCell default g) (Int.toNat k) 0)), (25, cj (e 7) (iv ((g.getD (Int.toNat k) default).n))), (26, cj (e 8) (SV.agg 2 (cmpG [iv ((g.getD (Int.toNat k) default).n), SV.v (Value.slice none 0 0)]))), (27, cj (e 9) (clRow ([⟨(g.getD (Int.toNat k) default).n, []⟩]))), (28, cj (e 10) (SV.own 2)), (29, cj (e 11) (SV.bp 1001 0)), (0, iv (k)), (2, SV.bp 1001 0), (3, SV.bp 1002 0), (6, iv ((o.length : Int)))], (cb (e 10) (cb (e 12) [(1, ownOf inCell 1 0 (o ++ ([k])) 3), (1000, Own.box 1 (upd (fun zt => kill 1003 ((fun _ => SV.own 1003) zt)) 0 (SV.own 1)) 24), (1001, Own.box 1 (upd (fun zt => kill 1004 ((fun _ => SV.own 1004) zt)) 0 (SV.own 2)) 35), (1002, Own.box 1 (grG g) 35), (2, ownOf clCell 2 default (out ++ ([⟨(g.getD (Int.toNat k) default).n, []⟩])) 43)] [(1, ownOf inCell 1 0 (o ++ ([k])) 3), (1000, Own.box 1 (upd (fun zt => kill 1003 ((fun _ => SV.own 1003) zt)) 0 (SV.own 1)) 24), (1001, Own.box 1 (fun zt => kill 1004 ((fun _ => SV.own 1004) zt)) 35), (1002, Own.box 1 (grG g) 35), (2, ownOf clCell 2 default (out ++ ([⟨(g.getD (Int.toNat k) default).n, []⟩])) 43)]) (cb (e 12) [] [(1, ownOf inCell 1 0 (o ++ ([k])) 3), (1000, Own.box 1 (upd (fun zt => kill 1003 ((fun _ => SV.own 1003) zt)) 0 (SV.own 1)) 24), (1001, Own.box 1 (fun _ => SV.own 1004) 35), (1002, Own.box 1 (grG g) 35), (1004, ownOf clCell 2 default out 43)]))⟩ (fun S' => Weak _ S' ⟨[(18, cj (e 0) (SV.bp 1001 0)), (19, cj (e 1) (cjn (e 10) (SV.own 1004))), (20, cj (e 2) (SV.bp 1002 0)), (21, cj (e 3) (clRow g)), (22, cj (e 4) (iv (k))), (23, cj (e 5) (SV.el g.length 2 (rowG clCell default g) (Int.toNat k) 0)), (24, cj (e 6) (SV.el g.length 2 (rowG clCell default g) (Int.toNat k) 0)), (25, cj (e 7) (iv ((g.getD (Int.toNat k) default).n))), (26, cj (true) (SV.agg 2 (cmpG [iv ((g.getD (Int.toNat k) default).n), SV.v (Value.slice none 0 0)]))), (27, cj (e 9) (clRow ([⟨(g.getD (Int.toNat k) default).n, []⟩]))), (28, cj (e 10) (SV.own 2)), (29, cj (e 11) (SV.bp 1001 0)), (0, iv (k)), (2, SV.bp 1001 0), (3, SV.bp 1002 0), (6, iv ((o.length : Int)))], (cb (e 10) (cb (e 12) [(1, ownOf inCell 1 0 (o ++ ([k])) 3), (1000, Own.box 1 (upd (fun zt => kill 1003 ((fun _ => SV.own 1003) zt)) 0 (SV.own 1)) 24), (1001, Own.box 1 (upd (fun zt => kill 1004 ((fun _ => SV.own 1004) zt)) 0 (SV.own 2)) 35), (1002, Own.box 1 (grG g) 35), (2, ownOf clCell 2 default (out ++ ([⟨(g.getD (Int.toNat k) default).n, []⟩])) 43)] [(1, ownOf inCell 1 0 (o ++ ([k])) 3), (1000, Own.box 1 (upd (fun zt => kill 1003 ((fun _ => SV.own 1003) zt)) 0 (SV.own 1)) 24), (1001, Own.box 1 (fun zt => kill 1004 ((fun _ => SV.own 1004) zt)) 35), (1002, Own.box 1 (grG g) 35), (2, ownOf clCell 2 default (out ++ ([⟨(g.getD (Int.toNat k) default).n, []⟩])) 43)]) (cb (e 12) [] [(1, ownOf inCell 1 0 (o ++ ([k])) 3), (1000, Own.box 1 (upd (fun zt => kill 1003 ((fun _ => SV.own 1003) zt)) 0 (SV.own 1)) 24), (1001, Own.box 1 (fun _ => SV.own 1004) 35), (1002, Own.box 1 (grG g) 35), (1004, ownOf clCell 2 default out 43)]))⟩)
      simp only [h2, h3, h4, h5, h6, h7, he, h10, h12]
      show T _ _ _ _ ⟨[(18, cj (e 0) (SV.bp 1001 0)), (19, cj (e 1) (SV.own 1004)), (20, SV.bp 1002 0), (21, clRow g), (22, iv (k)), (23, SV.el g.length 2 (rowG clCell default g) (Int.toNat k) 0), (24, SV.el g.length 2 (rowG clCell default g) (Int.toNat k) 0), (25, iv ((g.getD (Int.toNat k) default).n)), (26, SV.junk), (27, cj (e 9) (clRow ([⟨(g.getD (Int.toNat k) default).n, []⟩]))), (28, SV.junk), (29, cj (e 11) (SV.bp 1001 0)), (0, iv (k)), (2, SV.bp 1001 0), (3, SV.bp 1002 0), (6, iv ((o.length : Int)))], [(1, ownOf inCell 1 0 (o ++ ([k])) 3), (1000, Own.box 1 (upd (fun zt => kill 1003 ((fun _ => SV.own 1003) zt)) 0 (SV.own 1)) 24), (1001, Own.box 1 (fun _ => SV.own 1004) 35), (1002, Own.box 1 (grG g) 35), (1004, ownOf clCell 2 default out 43)]⟩ (fun S' => Weak _ S' ⟨[(18, cj (e 0) (SV.bp 1001 0)), (19, cj (e 1) (SV.own 1004)), (20, SV.bp 1002 0), (21, clRow g), (22, iv (k)), (23, SV.el g.length 2 (rowG clCell default g) (Int.toNat k) 0), (24, SV.el g.length 2 (rowG clCell default g) (Int.toNat k) 0), (25, iv ((g.getD (Int.toNat k) default).n)), (26, SV.agg 2 (cmpG [iv ((g.getD (Int.toNat k) default).n), SV.v (Value.slice none 0 0)])), (27, cj (e 9) (clRow ([⟨(g.getD (Int.toNat k) default).n, []⟩]))), (28, SV.junk), (29, cj (e 11) (SV.bp 1001 0)), (0, iv (k)), (2, SV.bp 1001 0), (3, SV.bp 1002 0), (6, iv ((o.length : Int)))], [(1, ownOf inCell 1 0 (o ++ ([k])) 3), (1000, Own.box 1 (upd (fun zt => kill 1003 ((fun _ => SV.own 1003) zt)) 0 (SV.own 1)) 24), (1001, Own.box 1 (fun _ => SV.own 1004) 35), (1002, Own.box 1 (grG g) 35), (1004, ownOf clCell 2 default out 43)]⟩)
      refine t_op (hd 26 (by decide)) (q_build [(0, iv ((g.getD (Int.toNat k) default).n))] id (cmpG [iv ((g.getD (Int.toNat k) default).n), SV.v (Value.slice none 0 0)]) zero43 build43 (by exact ⟨⟨rfl, (val_tmp rfl), rfl⟩, trivial⟩) (by decide) ⟨⟨trivial, rfl⟩, rfl⟩) ?_
      refine t_nil ?_
      refine weakE ?_ ?_
      · exact ⟨val_tmp rfl, val_tmp rfl, val_tmp rfl, val_tmp rfl, val_tmp rfl, val_tmp rfl, val_tmp rfl, val_tmp rfl, val_tmp rfl, val_tmp rfl, val_junk, val_tmp rfl, val_tmp rfl, val_tmp rfl, val_tmp rfl, val_tmp rfl, trivial⟩
      · exact ⟨⟨_, rfl, rfl⟩, ⟨_, rfl, ⟨rfl, rfl, ⟨trivial, rfl⟩⟩⟩, ⟨_, rfl, ⟨rfl, rfl, ⟨trivial, rfl⟩⟩⟩, ⟨_, rfl, ⟨rfl, rfl, ⟨trivial, rfl⟩⟩⟩, ⟨_, rfl, rfl⟩, trivial⟩
    · intro e hdn he hdp
      obtain ⟨h8, -⟩ := (show e 8 = true ∧ True from hdp)
      obtain ⟨h7, -⟩ := (show e 7 = true ∧ True from hdn 8 h8)
      obtain ⟨h6, -⟩ := (show e 6 = true ∧ True from hdn 7 h7)
      obtain ⟨h5, -⟩ := (show e 5 = true ∧ True from hdn 6 h6)
      obtain ⟨h3, h4, -⟩ := (show e 3 = true ∧ e 4 = true ∧ True from hdn 5 h5)
      obtain ⟨h2, -⟩ := (show e 2 = true ∧ True from hdn 3 h3)
      have h10 : e 10 = false := fls he fun q => by obtain ⟨-, r9, -⟩ := (show e 1 = true ∧ e 9 = true ∧ True from hdn 10 q); exact r9
      have h12 : e 12 = false := fls he fun q => by obtain ⟨r11, -, -, -, -, -, -, -, -, -, -, -, -, -, -⟩ := (show e 11 = true ∧ e 10 = true ∧ e 10 = true ∧ e 0 = true ∧ e 1 = true ∧ e 2 = true ∧ e 3 = true ∧ e 4 = true ∧ e 5 = true ∧ e 6 = true ∧ e 7 = true ∧ e 8 = true ∧ e 9 = true ∧ e 10 = true ∧ True from hdn 12 q); obtain ⟨-, -, -, -, -, -, -, -, -, -, r10, -⟩ := (show e 0 = true ∧ e 1 = true ∧ e 2 = true ∧ e 3 = true ∧ e 4 = true ∧ e 5 = true ∧ e 6 = true ∧ e 7 = true ∧ e 8 = true ∧ e 9 = true ∧ e 10 = true ∧ True from hdn 11 r11); obtain ⟨-, r9, -⟩ := (show e 1 = true ∧ e 9 = true ∧ True from hdn 10 r10); exact r9
      show T _ _ _ _ ⟨[(18, cj (e 0) (SV.bp 1001 0)), (19, cj (e 1) (cjn (e 10) (SV.own 1004))), (20, cj (e 2) (SV.bp 1002 0)), (21, cj (e 3) (clRow g)), (22, cj (e 4) (iv (k))), (23, cj (e 5) (SV.el g.length 2 (rowG clCell default g) (Int.toNat k) 0)), (24, cj (e 6) (SV.el g.length 2 (rowG clCell default g) (Int.toNat k) 0)), (25, cj (e 7) (iv ((g.getD (Int.toNat k) default).n))), (26, cj (e 8) (SV.agg 2 (cmpG [iv ((g.getD (Int.toNat k) default).n), SV.v (Value.slice none 0 0)]))), (27, cj (e 9) (clRow ([⟨(g.getD (Int.toNat k) default).n, []⟩]))), (28, cj (e 10) (SV.own 2)), (29, cj (e 11) (SV.bp 1001 0)), (0, iv (k)), (2, SV.bp 1001 0), (3, SV.bp 1002 0), (6, iv ((o.length : Int)))], (cb (e 10) (cb (e 12) [(1, ownOf inCell 1 0 (o ++ ([k])) 3), (1000, Own.box 1 (upd (fun zt => kill 1003 ((fun _ => SV.own 1003) zt)) 0 (SV.own 1)) 24), (1001, Own.box 1 (upd (fun zt => kill 1004 ((fun _ => SV.own 1004) zt)) 0 (SV.own 2)) 35), (1002, Own.box 1 (grG g) 35), (2, ownOf clCell 2 default (out ++ ([⟨(g.getD (Int.toNat k) default).n, []⟩])) 43)] [(1, ownOf inCell 1 0 (o ++ ([k])) 3), (1000, Own.box 1 (upd (fun zt => kill 1003 ((fun _ => SV.own 1003) zt)) 0 (SV.own 1)) 24), (1001, Own.box 1 (fun zt => kill 1004 ((fun _ => SV.own 1004) zt)) 35), (1002, Own.box 1 (grG g) 35), (2, ownOf clCell 2 default (out ++ ([⟨(g.getD (Int.toNat k) default).n, []⟩])) 43)]) (cb (e 12) [] [(1, ownOf inCell 1 0 (o ++ ([k])) 3), (1000, Own.box 1 (upd (fun zt => kill 1003 ((fun _ => SV.own 1003) zt)) 0 (SV.own 1)) 24), (1001, Own.box 1 (fun _ => SV.own 1004) 35), (1002, Own.box 1 (grG g) 35), (1004, ownOf clCell 2 default out 43)]))⟩ (fun S' => Weak _ S' ⟨[(18, cj (e 0) (SV.bp 1001 0)), (19, cj (e 1) (cjn (e 10) (SV.own 1004))), (20, cj (e 2) (SV.bp 1002 0)), (21, cj (e 3) (clRow g)), (22, cj (e 4) (iv (k))), (23, cj (e 5) (SV.el g.length 2 (rowG clCell default g) (Int.toNat k) 0)), (24, cj (e 6) (SV.el g.length 2 (rowG clCell default g) (Int.toNat k) 0)), (25, cj (e 7) (iv ((g.getD (Int.toNat k) default).n))), (26, cj (e 8) (SV.agg 2 (cmpG [iv ((g.getD (Int.toNat k) default).n), SV.v (Value.slice none 0 0)]))), (27, cj (true) (clRow ([⟨(g.getD (Int.toNat k) default).n, []⟩]))), (28, cj (e 10) (SV.own 2)), (29, cj (e 11) (SV.bp 1001 0)), (0, iv (k)), (2, SV.bp 1001 0), (3, SV.bp 1002 0), (6, iv ((o.length : Int)))], (cb (e 10) (cb (e 12) [(1, ownOf inCell 1 0 (o ++ ([k])) 3), (1000, Own.box 1 (upd (fun zt => kill 1003 ((fun _ => SV.own 1003) zt)) 0 (SV.own 1)) 24), (1001, Own.box 1 (upd (fun zt => kill 1004 ((fun _ => SV.own 1004) zt)) 0 (SV.own 2)) 35), (1002, Own.box 1 (grG g) 35), (2, ownOf clCell 2 default (out ++ ([⟨(g.getD (Int.toNat k) default).n, []⟩])) 43)] [(1, ownOf inCell 1 0 (o ++ ([k])) 3), (1000, Own.box 1 (upd (fun zt => kill 1003 ((fun _ => SV.own 1003) zt)) 0 (SV.own 1)) 24), (1001, Own.box 1 (fun zt => kill 1004 ((fun _ => SV.own 1004) zt)) 35), (1002, Own.box 1 (grG g) 35), (2, ownOf clCell 2 default (out ++ ([⟨(g.getD (Int.toNat k) default).n, []⟩])) 43)]) (cb (e 12) [] [(1, ownOf inCell 1 0 (o ++ ([k])) 3), (1000, Own.box 1 (upd (fun zt => kill 1003 ((fun _ => SV.own 1003) zt)) 0 (SV.own 1)) 24), (1001, Own.box 1 (fun _ => SV.own 1004) 35), (1002, Own.box 1 (grG g) 35), (1004, ownOf clCell 2 default out 43)]))⟩)
      simp only [h2, h3, h4, h5, h6, h7, h8, he, h10, h12]
      show T _ _ _ _ ⟨[(18, cj (e 0) (SV.bp 1001 0)), (19, cj (e 1) (SV.own 1004)), (20, SV.bp 1002 0), (21, clRow g), (22, iv (k)), (23, SV.el g.length 2 (rowG clCell default g) (Int.toNat k) 0), (24, SV.el g.length 2 (rowG clCell default g) (Int.toNat k) 0), (25, iv ((g.getD (Int.toNat k) default).n)), (26, SV.agg 2 (cmpG [iv ((g.getD (Int.toNat k) default).n), SV.v (Value.slice none 0 0)])), (27, SV.junk), (28, SV.junk), (29, cj (e 11) (SV.bp 1001 0)), (0, iv (k)), (2, SV.bp 1001 0), (3, SV.bp 1002 0), (6, iv ((o.length : Int)))], [(1, ownOf inCell 1 0 (o ++ ([k])) 3), (1000, Own.box 1 (upd (fun zt => kill 1003 ((fun _ => SV.own 1003) zt)) 0 (SV.own 1)) 24), (1001, Own.box 1 (fun _ => SV.own 1004) 35), (1002, Own.box 1 (grG g) 35), (1004, ownOf clCell 2 default out 43)]⟩ (fun S' => Weak _ S' ⟨[(18, cj (e 0) (SV.bp 1001 0)), (19, cj (e 1) (SV.own 1004)), (20, SV.bp 1002 0), (21, clRow g), (22, iv (k)), (23, SV.el g.length 2 (rowG clCell default g) (Int.toNat k) 0), (24, SV.el g.length 2 (rowG clCell default g) (Int.toNat k) 0), (25, iv ((g.getD (Int.toNat k) default).n)), (26, SV.agg 2 (cmpG [iv ((g.getD (Int.toNat k) default).n), SV.v (Value.slice none 0 0)])), (27, clRow ([⟨(g.getD (Int.toNat k) default).n, []⟩])), (28, SV.junk), (29, cj (e 11) (SV.bp 1001 0)), (0, iv (k)), (2, SV.bp 1001 0), (3, SV.bp 1002 0), (6, iv ((o.length : Int)))], [(1, ownOf inCell 1 0 (o ++ ([k])) 3), (1000, Own.box 1 (upd (fun zt => kill 1003 ((fun _ => SV.own 1003) zt)) 0 (SV.own 1)) 24), (1001, Own.box 1 (fun _ => SV.own 1004) 35), (1002, Own.box 1 (grG g) 35), (1004, ownOf clCell 2 default out 43)]⟩)
      refine t_w (hd 27 (by decide)) (w_rowI (get' := rowG clCell default [⟨(g.getD (Int.toNat k) default).n, []⟩]) (w_bs (n := 1) (zget := cmpG [iv 0, SV.v (Value.slice none 0 0)]) [(cmpG [iv ((g.getD (Int.toNat k) default).n), SV.v (Value.slice none 0 0)])] (fun zi zt => ([(cmpG [iv ((g.getD (Int.toNat k) default).n), SV.v (Value.slice none 0 0)])].getD zi fun _ => SV.junk) zt) Try.underlying33 (fun w => Try.sizeOf43 w) zero43 (by decide) rfl (by decide) ⟨⟨rfl, .inl (val_tmp rfl), rfl⟩, trivial⟩ ⟨trivial, ⟨⟨trivial, rfl⟩, rfl⟩⟩) ⟨trivial, ⟨⟨trivial, impO_rfl⟩, impO_nil⟩⟩) ?_
      refine t_nil ?_
      refine weakE ?_ ?_
      · exact ⟨val_tmp rfl, val_tmp rfl, val_tmp rfl, val_tmp rfl, val_tmp rfl, val_tmp rfl, val_tmp rfl, val_tmp rfl, val_tmp rfl, val_tmp rfl, val_junk, val_tmp rfl, val_tmp rfl, val_tmp rfl, val_tmp rfl, val_tmp rfl, trivial⟩
      · exact ⟨⟨_, rfl, rfl⟩, ⟨_, rfl, ⟨rfl, rfl, ⟨trivial, rfl⟩⟩⟩, ⟨_, rfl, ⟨rfl, rfl, ⟨trivial, rfl⟩⟩⟩, ⟨_, rfl, ⟨rfl, rfl, ⟨trivial, rfl⟩⟩⟩, ⟨_, rfl, rfl⟩, trivial⟩
    · intro e hdn he hdp
      obtain ⟨h1, h9, -⟩ := (show e 1 = true ∧ e 9 = true ∧ True from hdp)
      obtain ⟨h8, -⟩ := (show e 8 = true ∧ True from hdn 9 h9)
      obtain ⟨h7, -⟩ := (show e 7 = true ∧ True from hdn 8 h8)
      obtain ⟨h6, -⟩ := (show e 6 = true ∧ True from hdn 7 h7)
      obtain ⟨h5, -⟩ := (show e 5 = true ∧ True from hdn 6 h6)
      obtain ⟨h3, h4, -⟩ := (show e 3 = true ∧ e 4 = true ∧ True from hdn 5 h5)
      obtain ⟨h2, -⟩ := (show e 2 = true ∧ True from hdn 3 h3)
      obtain ⟨h0, -⟩ := (show e 0 = true ∧ True from hdn 1 h1)
      have h11 : e 11 = false := fls he fun q => by obtain ⟨-, -, -, -, -, -, -, -, -, -, r10, -⟩ := (show e 0 = true ∧ e 1 = true ∧ e 2 = true ∧ e 3 = true ∧ e 4 = true ∧ e 5 = true ∧ e 6 = true ∧ e 7 = true ∧ e 8 = true ∧ e 9 = true ∧ e 10 = true ∧ True from hdn 11 q); exact r10
      have h12 : e 12 = false := fls he fun q => by obtain ⟨r11, -, -, -, -, -, -, -, -, -, -, -, -, -, -⟩ := (show e 11 = true ∧ e 10 = true ∧ e 10 = true ∧ e 0 = true ∧ e 1 = true ∧ e 2 = true ∧ e 3 = true ∧ e 4 = true ∧ e 5 = true ∧ e 6 = true ∧ e 7 = true ∧ e 8 = true ∧ e 9 = true ∧ e 10 = true ∧ True from hdn 12 q); obtain ⟨-, -, -, -, -, -, -, -, -, -, r10, -⟩ := (show e 0 = true ∧ e 1 = true ∧ e 2 = true ∧ e 3 = true ∧ e 4 = true ∧ e 5 = true ∧ e 6 = true ∧ e 7 = true ∧ e 8 = true ∧ e 9 = true ∧ e 10 = true ∧ True from hdn 11 r11); exact r10
      show T _ _ _ _ ⟨[(18, cj (e 0) (SV.bp 1001 0)), (19, cj (e 1) (cjn (e 10) (SV.own 1004))), (20, cj (e 2) (SV.bp 1002 0)), (21, cj (e 3) (clRow g)), (22, cj (e 4) (iv (k))), (23, cj (e 5) (SV.el g.length 2 (rowG clCell default g) (Int.toNat k) 0)), (24, cj (e 6) (SV.el g.length 2 (rowG clCell default g) (Int.toNat k) 0)), (25, cj (e 7) (iv ((g.getD (Int.toNat k) default).n))), (26, cj (e 8) (SV.agg 2 (cmpG [iv ((g.getD (Int.toNat k) default).n), SV.v (Value.slice none 0 0)]))), (27, cj (e 9) (clRow ([⟨(g.getD (Int.toNat k) default).n, []⟩]))), (28, cj (e 10) (SV.own 2)), (29, cj (e 11) (SV.bp 1001 0)), (0, iv (k)), (2, SV.bp 1001 0), (3, SV.bp 1002 0), (6, iv ((o.length : Int)))], (cb (e 10) (cb (e 12) [(1, ownOf inCell 1 0 (o ++ ([k])) 3), (1000, Own.box 1 (upd (fun zt => kill 1003 ((fun _ => SV.own 1003) zt)) 0 (SV.own 1)) 24), (1001, Own.box 1 (upd (fun zt => kill 1004 ((fun _ => SV.own 1004) zt)) 0 (SV.own 2)) 35), (1002, Own.box 1 (grG g) 35), (2, ownOf clCell 2 default (out ++ ([⟨(g.getD (Int.toNat k) default).n, []⟩])) 43)] [(1, ownOf inCell 1 0 (o ++ ([k])) 3), (1000, Own.box 1 (upd (fun zt => kill 1003 ((fun _ => SV.own 1003) zt)) 0 (SV.own 1)) 24), (1001, Own.box 1 (fun zt => kill 1004 ((fun _ => SV.own 1004) zt)) 35), (1002, Own.box 1 (grG g) 35), (2, ownOf clCell 2 default (out ++ ([⟨(g.getD (Int.toNat k) default).n, []⟩])) 43)]) (cb (e 12) [] [(1, ownOf inCell 1 0 (o ++ ([k])) 3), (1000, Own.box 1 (upd (fun zt => kill 1003 ((fun _ => SV.own 1003) zt)) 0 (SV.own 1)) 24), (1001, Own.box 1 (fun _ => SV.own 1004) 35), (1002, Own.box 1 (grG g) 35), (1004, ownOf clCell 2 default out 43)]))⟩ (fun S' => Weak _ S' ⟨[(18, cj (e 0) (SV.bp 1001 0)), (19, cj (e 1) (cjn (true) (SV.own 1004))), (20, cj (e 2) (SV.bp 1002 0)), (21, cj (e 3) (clRow g)), (22, cj (e 4) (iv (k))), (23, cj (e 5) (SV.el g.length 2 (rowG clCell default g) (Int.toNat k) 0)), (24, cj (e 6) (SV.el g.length 2 (rowG clCell default g) (Int.toNat k) 0)), (25, cj (e 7) (iv ((g.getD (Int.toNat k) default).n))), (26, cj (e 8) (SV.agg 2 (cmpG [iv ((g.getD (Int.toNat k) default).n), SV.v (Value.slice none 0 0)]))), (27, cj (e 9) (clRow ([⟨(g.getD (Int.toNat k) default).n, []⟩]))), (28, cj (true) (SV.own 2)), (29, cj (e 11) (SV.bp 1001 0)), (0, iv (k)), (2, SV.bp 1001 0), (3, SV.bp 1002 0), (6, iv ((o.length : Int)))], (cb (true) (cb (e 12) [(1, ownOf inCell 1 0 (o ++ ([k])) 3), (1000, Own.box 1 (upd (fun zt => kill 1003 ((fun _ => SV.own 1003) zt)) 0 (SV.own 1)) 24), (1001, Own.box 1 (upd (fun zt => kill 1004 ((fun _ => SV.own 1004) zt)) 0 (SV.own 2)) 35), (1002, Own.box 1 (grG g) 35), (2, ownOf clCell 2 default (out ++ ([⟨(g.getD (Int.toNat k) default).n, []⟩])) 43)] [(1, ownOf inCell 1 0 (o ++ ([k])) 3), (1000, Own.box 1 (upd (fun zt => kill 1003 ((fun _ => SV.own 1003) zt)) 0 (SV.own 1)) 24), (1001, Own.box 1 (fun zt => kill 1004 ((fun _ => SV.own 1004) zt)) 35), (1002, Own.box 1 (grG g) 35), (2, ownOf clCell 2 default (out ++ ([⟨(g.getD (Int.toNat k) default).n, []⟩])) 43)]) (cb (e 12) [] [(1, ownOf inCell 1 0 (o ++ ([k])) 3), (1000, Own.box 1 (upd (fun zt => kill 1003 ((fun _ => SV.own 1003) zt)) 0 (SV.own 1)) 24), (1001, Own.box 1 (fun _ => SV.own 1004) 35), (1002, Own.box 1 (grG g) 35), (1004, ownOf clCell 2 default out 43)]))⟩)
      simp only [h0, h1, h2, h3, h4, h5, h6, h7, h8, h9, he, h11, h12]
      show T _ _ _ _ ⟨[(18, SV.bp 1001 0), (19, SV.own 1004), (20, SV.bp 1002 0), (21, clRow g), (22, iv (k)), (23, SV.el g.length 2 (rowG clCell default g) (Int.toNat k) 0), (24, SV.el g.length 2 (rowG clCell default g) (Int.toNat k) 0), (25, iv ((g.getD (Int.toNat k) default).n)), (26, SV.agg 2 (cmpG [iv ((g.getD (Int.toNat k) default).n), SV.v (Value.slice none 0 0)])), (27, clRow ([⟨(g.getD (Int.toNat k) default).n, []⟩])), (28, SV.junk), (29, SV.junk), (0, iv (k)), (2, SV.bp 1001 0), (3, SV.bp 1002 0), (6, iv ((o.length : Int)))], [(1, ownOf inCell 1 0 (o ++ ([k])) 3), (1000, Own.box 1 (upd (fun zt => kill 1003 ((fun _ => SV.own 1003) zt)) 0 (SV.own 1)) 24), (1001, Own.box 1 (fun _ => SV.own 1004) 35), (1002, Own.box 1 (grG g) 35), (1004, ownOf clCell 2 default out 43)]⟩ (fun S' => Weak _ S' ⟨[(18, SV.bp 1001 0), (19, SV.junk), (20, SV.bp 1002 0), (21, clRow g), (22, iv (k)), (23, SV.el g.length 2 (rowG clCell default g) (Int.toNat k) 0), (24, SV.el g.length 2 (rowG clCell default g) (Int.toNat k) 0), (25, iv ((g.getD (Int.toNat k) default).n)), (26, SV.agg 2 (cmpG [iv ((g.getD (Int.toNat k) default).n), SV.v (Value.slice none 0 0)])), (27, clRow ([⟨(g.getD (Int.toNat k) default).n, []⟩])), (28, SV.own 2), (29, SV.junk), (0, iv (k)), (2, SV.bp 1001 0), (3, SV.bp 1002 0), (6, iv ((o.length : Int)))], [(1, ownOf inCell 1 0 (o ++ ([k])) 3), (1000, Own.box 1 (upd (fun zt => kill 1003 ((fun _ => SV.own 1003) zt)) 0 (SV.own 1)) 24), (1001, Own.box 1 (fun zt => kill 1004 ((fun _ => SV.own 1004) zt)) 35), (1002, Own.box 1 (grG g) 35), (2, ownOf clCell 2 default (out ++ ([⟨(g.getD (Int.toNat k) default).n, []⟩])) 43)]⟩)
      refine t_app 2 (rowG clCell default (out ++ ([⟨(g.getD (Int.toNat k) default).n, []⟩]))) (hd 28 (by decide)) eo33 (val_tmp rfl) rfl (val_tmp rfl) (fresh_mk ⟨rfl, rfl, rfl, rfl, rfl, rfl, rfl, rfl, rfl, rfl, rfl, rfl, rfl, rfl, rfl, rfl, trivial⟩ rfl rfl) (len_app out ([⟨(g.getD (Int.toNat k) default).n, []⟩])) (by first | (simp only [maxLen, List.length_append, List.length_set, List.length_nil, List.length_cons]; omega) | (simp only [maxLen]; omega)) (by first | (simp only [List.length_append, List.length_set, List.length_nil, List.length_cons]; omega) | (omega)) (app_typed (l := out) (m := ([⟨(g.getD (Int.toNat k) default).n, []⟩]))) ?_
      refine t_nil ?_
      refine weakE ?_ ?_
      · exact ⟨val_tmp rfl, val_junk, val_tmp rfl, val_tmp rfl, val_tmp rfl, val_tmp rfl, val_tmp rfl, val_tmp rfl, val_tmp rfl, val_tmp rfl, val_tmp rfl, val_junk, val_tmp rfl, val_tmp rfl, val_tmp rfl, val_tmp rfl, trivial⟩
      · exact ⟨⟨_, rfl, rfl⟩, ⟨_, rfl, ⟨rfl, rfl, ⟨trivial, rfl⟩⟩⟩, ⟨_, rfl, ⟨rfl, rfl, ⟨trivial, rfl⟩⟩⟩, ⟨_, rfl, ⟨rfl, rfl, ⟨trivial, rfl⟩⟩⟩, ⟨_, rfl, rfl⟩, trivial⟩
    · intro e hdn he hdp
      obtain ⟨h0, h1, h2, h3, h4, h5, h6, h7, h8, h9, h10, -⟩ := (show e 0 = true ∧ e 1 = true ∧ e 2 = true ∧ e 3 = true ∧ e 4 = true ∧ e 5 = true ∧ e 6 = true ∧ e 7 = true ∧ e 8 = true ∧ e 9 = true ∧ e 10 = true ∧ True from hdp)
      have h12 : e 12 = false := fls he fun q => by obtain ⟨r11, -, -, -, -, -, -, -, -, -, -, -, -, -, -⟩ := (show e 11 = true ∧ e 10 = true ∧ e 10 = true ∧ e 0 = true ∧ e 1 = true ∧ e 2 = true ∧ e 3 = true ∧ e 4 = true ∧ e 5 = true ∧ e 6 = true ∧ e 7 = true ∧ e 8 = true ∧ e 9 = true ∧ e 10 = true ∧ True from hdn 12 q); exact r11
      show T _ _ _ _ ⟨[(18, cj (e 0) (SV.bp 1001 0)), (19, cj (e 1) (cjn (e 10) (SV.own 1004))), (20, cj (e 2) (SV.bp 1002 0)), (21, cj (e 3) (clRow g)), (22, cj (e 4) (iv (k))), (23, cj (e 5) (SV.el g.length 2 (rowG clCell default g) (Int.toNat k) 0)), (24, cj (e 6) (SV.el g.length 2 (rowG clCell default g) (Int.toNat k) 0)), (25, cj (e 7) (iv ((g.getD (Int.toNat k) default).n))), (26, cj (e 8) (SV.agg 2 (cmpG [iv ((g.getD (Int.toNat k) default).n), SV.v (Value.slice none 0 0)]))), (27, cj (e 9) (clRow ([⟨(g.getD (Int.toNat k) default).n, []⟩]))), (28, cj (e 10) (SV.own 2)), (29, cj (e 11) (SV.bp 1001 0)), (0, iv (k)), (2, SV.bp 1001 0), (3, SV.bp 1002 0), (6, iv ((o.length : Int)))], (cb (e 10) (cb (e 12) [(1, ownOf inCell 1 0 (o ++ ([k])) 3), (1000, Own.box 1 (upd (fun zt => kill 1003 ((fun _ => SV.own 1003) zt)) 0 (SV.own 1)) 24), (1001, Own.box 1 (upd (fun zt => kill 1004 ((fun _ => SV.own 1004) zt)) 0 (SV.own 2)) 35), (1002, Own.box 1 (grG g) 35), (2, ownOf clCell 2 default (out ++ ([⟨(g.getD (Int.toNat k) default).n, []⟩])) 43)] [(1, ownOf inCell 1 0 (o ++ ([k])) 3), (1000, Own.box 1 (upd (fun zt => kill 1003 ((fun _ => SV.own 1003) zt)) 0 (SV.own 1)) 24), (1001, Own.box 1 (fun zt => kill 1004 ((fun _ => SV.own 1004) zt)) 35), (1002, Own.box 1 (grG g) 35), (2, ownOf clCell 2 default (out ++ ([⟨(g.getD (Int.toNat k) default).n, []⟩])) 43)]) (cb (e 12) [] [(1, ownOf inCell 1 0 (o ++ ([k])) 3), (1000, Own.box 1 (upd (fun zt => kill 1003 ((fun _ => SV.own 1003) zt)) 0 (SV.own 1)) 24), (1001, Own.box 1 (fun _ => SV.own 1004) 35), (1002, Own.box 1 (grG g) 35), (1004, ownOf clCell 2 default out 43)]))⟩ (fun S' => Weak _ S' ⟨[(18, cj (e 0) (SV.bp 1001 0)), (19, cj (e 1) (cjn (e 10) (SV.own 1004))), (20, cj (e 2) (SV.bp 1002 0)), (21, cj (e 3) (clRow g)), (22, cj (e 4) (iv (k))), (23, cj (e 5) (SV.el g.length 2 (rowG clCell default g) (Int.toNat k) 0)), (24, cj (e 6) (SV.el g.length 2 (rowG clCell default g) (Int.toNat k) 0)), (25, cj (e 7) (iv ((g.getD (Int.toNat k) default).n))), (26, cj (e 8) (SV.agg 2 (cmpG [iv ((g.getD (Int.toNat k) default).n), SV.v (Value.slice none 0 0)]))), (27, cj (e 9) (clRow ([⟨(g.getD (Int.toNat k) default).n, []⟩]))), (28, cj (e 10) (SV.own 2)), (29, cj (true) (SV.bp 1001 0)), (0, iv (k)), (2, SV.bp 1001 0), (3, SV.bp 1002 0), (6, iv ((o.length : Int)))], (cb (e 10) (cb (e 12) [(1, ownOf inCell 1 0 (o ++ ([k])) 3), (1000, Own.box 1 (upd (fun zt => kill 1003 ((fun _ => SV.own 1003) zt)) 0 (SV.own 1)) 24), (1001, Own.box 1 (upd (fun zt => kill 1004 ((fun _ => SV.own 1004) zt)) 0 (SV.own 2)) 35), (1002, Own.box 1 (grG g) 35), (2, ownOf clCell 2 default (out ++ ([⟨(g.getD (Int.toNat k) default).n, []⟩])) 43)] [(1, ownOf inCell 1 0 (o ++ ([k])) 3), (1000, Own.box 1 (upd (fun zt => kill 1003 ((fun _ => SV.own 1003) zt)) 0 (SV.own 1)) 24), (1001, Own.box 1 (fun zt => kill 1004 ((fun _ => SV.own 1004) zt)) 35), (1002, Own.box 1 (grG g) 35), (2, ownOf clCell 2 default (out ++ ([⟨(g.getD (Int.toNat k) default).n, []⟩])) 43)]) (cb (e 12) [] [(1, ownOf inCell 1 0 (o ++ ([k])) 3), (1000, Own.box 1 (upd (fun zt => kill 1003 ((fun _ => SV.own 1003) zt)) 0 (SV.own 1)) 24), (1001, Own.box 1 (fun _ => SV.own 1004) 35), (1002, Own.box 1 (grG g) 35), (1004, ownOf clCell 2 default out 43)]))⟩)
      simp only [h0, h1, h2, h3, h4, h5, h6, h7, h8, h9, h10, he, h12]
      show T _ _ _ _ ⟨[(18, SV.bp 1001 0), (19, SV.junk), (20, SV.bp 1002 0), (21, clRow g), (22, iv (k)), (23, SV.el g.length 2 (rowG clCell default g) (Int.toNat k) 0), (24, SV.el g.length 2 (rowG clCell default g) (Int.toNat k) 0), (25, iv ((g.getD (Int.toNat k) default).n)), (26, SV.agg 2 (cmpG [iv ((g.getD (Int.toNat k) default).n), SV.v (Value.slice none 0 0)])), (27, clRow ([⟨(g.getD (Int.toNat k) default).n, []⟩])), (28, SV.own 2), (29, SV.junk), (0, iv (k)), (2, SV.bp 1001 0), (3, SV.bp 1002 0), (6, iv ((o.length : Int)))], [(1, ownOf inCell 1 0 (o ++ ([k])) 3), (1000, Own.box 1 (upd (fun zt => kill 1003 ((fun _ => SV.own 1003) zt)) 0 (SV.own 1)) 24), (1001, Own.box 1 (fun zt => kill 1004 ((fun _ => SV.own 1004) zt)) 35), (1002, Own.box 1 (grG g) 35), (2, ownOf clCell 2 default (out ++ ([⟨(g.getD (Int.toNat k) default).n, []⟩])) 43)]⟩ (fun S' => Weak _ S' ⟨[(18, SV.bp 1001 0), (19, SV.junk), (20, SV.bp 1002 0), (21, clRow g), (22, iv (k)), (23, SV.el g.length 2 (rowG clCell default g) (Int.toNat k) 0), (24, SV.el g.length 2 (rowG clCell default g) (Int.toNat k) 0), (25, iv ((g.getD (Int.toNat k) default).n)), (26, SV.agg 2 (cmpG [iv ((g.getD (Int.toNat k) default).n), SV.v (Value.slice none 0 0)])), (27, clRow ([⟨(g.getD (Int.toNat k) default).n, []⟩])), (28, SV.own 2), (29, SV.bp 1001 0), (0, iv (k)), (2, SV.bp 1001 0), (3, SV.bp 1002 0), (6, iv ((o.length : Int)))], [(1, ownOf inCell 1 0 (o ++ ([k])) 3), (1000, Own.box 1 (upd (fun zt => kill 1003 ((fun _ => SV.own 1003) zt)) 0 (SV.own 1)) 24), (1001, Own.box 1 (fun zt => kill 1004 ((fun _ => SV.own 1004) zt)) 35), (1002, Own.box 1 (grG g) 35), (2, ownOf clCell 2 default (out ++ ([⟨(g.getD (Int.toNat k) default).n, []⟩])) 43)]⟩)
      refine t_op (hd 29 (by decide)) (q_fldB _ _ (val_tmp rfl) Try.underlying35 rfl 0 (fun w => Try.sizeOf33 w)) ?_
      refine t_nil ?_
      refine weakE ?_ ?_
      · exact ⟨val_tmp rfl, val_junk, val_tmp rfl, val_tmp rfl, val_tmp rfl, val_tmp rfl, val_tmp rfl, val_tmp rfl, val_tmp rfl, val_tmp rfl, val_tmp rfl, val_tmp rfl, val_tmp rfl, val_tmp rfl, val_tmp rfl, val_tmp rfl, trivial⟩
      · exact ⟨⟨_, rfl, rfl⟩, ⟨_, rfl, ⟨rfl, rfl, ⟨trivial, rfl⟩⟩⟩, ⟨_, rfl, ⟨rfl, rfl, ⟨trivial, rfl⟩⟩⟩, ⟨_, rfl, ⟨rfl, rfl, ⟨trivial, rfl⟩⟩⟩, ⟨_, rfl, rfl⟩, trivial⟩
    · intro e hdn he hdp
      obtain ⟨h11, h10, -, h0, h1, h2, h3, h4, h5, h6, h7, h8, h9, -, -⟩ := (show e 11 = true ∧ e 10 = true ∧ e 10 = true ∧ e 0 = true ∧ e 1 = true ∧ e 2 = true ∧ e 3 = true ∧ e 4 = true ∧ e 5 = true ∧ e 6 = true ∧ e 7 = true ∧ e 8 = true ∧ e 9 = true ∧ e 10 = true ∧ True from hdp)
      show T _ _ _ _ ⟨[(18, cj (e 0) (SV.bp 1001 0)), (19, cj (e 1) (cjn (e 10) (SV.own 1004))), (20, cj (e 2) (SV.bp 1002 0)), (21, cj (e 3) (clRow g)), (22, cj (e 4) (iv (k))), (23, cj (e 5) (SV.el g.length 2 (rowG clCell default g) (Int.toNat k) 0)), (24, cj (e 6) (SV.el g.length 2 (rowG clCell default g) (Int.toNat k) 0)), (25, cj (e 7) (iv ((g.getD (Int.toNat k) default).n))), (26, cj (e 8) (SV.agg 2 (cmpG [iv ((g.getD (Int.toNat k) default).n), SV.v (Value.slice none 0 0)]))), (27, cj (e 9) (clRow ([⟨(g.getD (Int.toNat k) default).n, []⟩]))), (28, cj (e 10) (SV.own 2)), (29, cj (e 11) (SV.bp 1001 0)), (0, iv (k)), (2, SV.bp 1001 0), (3, SV.bp 1002 0), (6, iv ((o.length : Int)))], (cb (e 10) (cb (e 12) [(1, ownOf inCell 1 0 (o ++ ([k])) 3), (1000, Own.box 1 (upd (fun zt => kill 1003 ((fun _ => SV.own 1003) zt)) 0 (SV.own 1)) 24), (1001, Own.box 1 (upd (fun zt => kill 1004 ((fun _ => SV.own 1004) zt)) 0 (SV.own 2)) 35), (1002, Own.box 1 (grG g) 35), (2, ownOf clCell 2 default (out ++ ([⟨(g.getD (Int.toNat k) default).n, []⟩])) 43)] [(1, ownOf inCell 1 0 (o ++ ([k])) 3), (1000, Own.box 1 (upd (fun zt => kill 1003 ((fun _ => SV.own 1003) zt)) 0 (SV.own 1)) 24), (1001, Own.box 1 (fun zt => kill 1004 ((fun _ => SV.own 1004) zt)) 35), (1002, Own.box 1 (grG g) 35), (2, ownOf clCell 2 default (out ++ ([⟨(g.getD (Int.toNat k) default).n, []⟩])) 43)]) (cb (e 12) [] [(1, ownOf inCell 1 0 (o ++ ([k])) 3), (1000, Own.box 1 (upd (fun zt => kill 1003 ((fun _ => SV.own 1003) zt)) 0 (SV.own 1)) 24), (1001, Own.box 1 (fun _ => SV.own 1004) 35), (1002, Own.box 1 (grG g) 35), (1004, ownOf clCell 2 default out 43)]))⟩ (fun S' => Weak _ S' ⟨[(18, cj (e 0) (SV.bp 1001 0)), (19, cj (e 1) (cjn (e 10) (SV.own 1004))), (20, cj (e 2) (SV.bp 1002 0)), (21, cj (e 3) (clRow g)), (22, cj (e 4) (iv (k))), (23, cj (e 5) (SV.el g.length 2 (rowG clCell default g) (Int.toNat k) 0)), (24, cj (e 6) (SV.el g.length 2 (rowG clCell default g) (Int.toNat k) 0)), (25, cj (e 7) (iv ((g.getD (Int.toNat k) default).n))), (26, cj (e 8) (SV.agg 2 (cmpG [iv ((g.getD (Int.toNat k) default).n), SV.v (Value.slice none 0 0)]))), (27, cj (e 9) (clRow ([⟨(g.getD (Int.toNat k) default).n, []⟩]))), (28, cj (e 10) (SV.own 2)), (29, cj (e 11) (SV.bp 1001 0)), (0, iv (k)), (2, SV.bp 1001 0), (3, SV.bp 1002 0), (6, iv ((o.length : Int)))], (cb (e 10) (cb (true) [(1, ownOf inCell 1 0 (o ++ ([k])) 3), (1000, Own.box 1 (upd (fun zt => kill 1003 ((fun _ => SV.own 1003) zt)) 0 (SV.own 1)) 24), (1001, Own.box 1 (upd (fun zt => kill 1004 ((fun _ => SV.own 1004) zt)) 0 (SV.own 2)) 35), (1002, Own.box 1 (grG g) 35), (2, ownOf clCell 2 default (out ++ ([⟨(g.getD (Int.toNat k) default).n, []⟩])) 43)] [(1, ownOf inCell 1 0 (o ++ ([k])) 3), (1000, Own.box 1 (upd (fun zt => kill 1003 ((fun _ => SV.own 1003) zt)) 0 (SV.own 1)) 24), (1001, Own.box 1 (fun zt => kill 1004 ((fun _ => SV.own 1004) zt)) 35), (1002, Own.box 1 (grG g) 35), (2, ownOf clCell 2 default (out ++ ([⟨(g.getD (Int.toNat k) default).n, []⟩])) 43)]) (cb (true) [] [(1, ownOf inCell 1 0 (o ++ ([k])) 3), (1000, Own.box 1 (upd (fun zt => kill 1003 ((fun _ => SV.own 1003) zt)) 0 (SV.own 1)) 24), (1001, Own.box 1 (fun _ => SV.own 1004) 35), (1002, Own.box 1 (grG g) 35), (1004, ownOf clCell 2 default out 43)]))⟩)
      simp only [h0, h1, h2, h3, h4, h5, h6, h7, h8, h9, h10, h11, he]
      show T _ _ _ _ ⟨[(18, SV.bp 1001 0), (19, SV.junk), (20, SV.bp 1002 0), (21, clRow g), (22, iv (k)), (23, SV.el g.length 2 (rowG clCell default g) (Int.toNat k) 0), (24, SV.el g.length 2 (rowG clCell default g) (Int.toNat k) 0), (25, iv ((g.getD (Int.toNat k) default).n)), (26, SV.agg 2 (cmpG [iv ((g.getD (Int.toNat k) default).n), SV.v (Value.slice none 0 0)])), (27, clRow ([⟨(g.getD (Int.toNat k) default).n, []⟩])), (28, SV.own 2), (29, SV.bp 1001 0), (0, iv (k)), (2, SV.bp 1001 0), (3, SV.bp 1002 0), (6, iv ((o.length : Int)))], [(1, ownOf inCell 1 0 (o ++ ([k])) 3), (1000, Own.box 1 (upd (fun zt => kill 1003 ((fun _ => SV.own 1003) zt)) 0 (SV.own 1)) 24), (1001, Own.box 1 (fun zt => kill 1004 ((fun _ => SV.own 1004) zt)) 35), (1002, Own.box 1 (grG g) 35), (2, ownOf clCell 2 default (out ++ ([⟨(g.getD (Int.toNat k) default).n, []⟩])) 43)]⟩ (fun S' => Weak _ S' ⟨[(18, SV.bp 1001 0), (19, SV.junk), (20, SV.bp 1002 0), (21, clRow g), (22, iv (k)), (23, SV.el g.length 2 (rowG clCell default g) (Int.toNat k) 0), (24, SV.el g.length 2 (rowG clCell default g) (Int.toNat k) 0), (25, iv ((g.getD (Int.toNat k) default).n)), (26, SV.agg 2 (cmpG [iv ((g.getD (Int.toNat k) default).n), SV.v (Value.slice none 0 0)])), (27, clRow ([⟨(g.getD (Int.toNat k) default).n, []⟩])), (28, SV.own 2), (29, SV.bp 1001 0), (0, iv (k)), (2, SV.bp 1001 0), (3, SV.bp 1002 0), (6, iv ((o.length : Int)))], [(1, ownOf inCell 1 0 (o ++ ([k])) 3), (1000, Own.box 1 (upd (fun zt => kill 1003 ((fun _ => SV.own 1003) zt)) 0 (SV.own 1)) 24), (1001, Own.box 1 (upd (fun zt => kill 1004 ((fun _ => SV.own 1004) zt)) 0 (SV.own 2)) 35), (1002, Own.box 1 (grG g) 35), (2, ownOf clCell 2 default (out ++ ([⟨(g.getD (Int.toNat k) default).n, []⟩])) 43)]⟩)
      refine t_st1V (val_tmp rfl) rfl (val_tmp rfl) (one_own rfl) Try.sizeOf33 (by decide) ?_
      refine t_nil ?_
      refine weakE ?_ ?_
      · exact ⟨val_tmp rfl, val_junk, val_tmp rfl, val_tmp rfl, val_tmp rfl, val_tmp rfl, val_tmp rfl, val_tmp rfl, val_tmp rfl, val_tmp rfl, val_tmp rfl, val_tmp rfl, val_tmp rfl, val_tmp rfl, val_tmp rfl, val_tmp rfl, trivial⟩
      · exact ⟨⟨_, rfl, rfl⟩, ⟨_, rfl, ⟨rfl, rfl, ⟨trivial, rfl⟩⟩⟩, ⟨_, rfl, ⟨rfl, rfl, ⟨trivial, rfl⟩⟩⟩, ⟨_, rfl, ⟨rfl, rfl, ⟨trivial, rfl⟩⟩⟩, ⟨_, rfl, rfl⟩, trivial⟩
    · intro e he
      have h0 := he 0 (by decide)
      have h1 := he 1 (by decide)
      have h2 := he 2 (by decide)
      have h3 := he 3 (by decide)
      have h4 := he 4 (by decide)
      have h5 := he 5 (by decide)
      have h6 := he 6 (by decide)
      have h7 := he 7 (by decide)
      have h8 := he 8 (by decide)
      have h9 := he 9 (by decide)
      have h10 := he 10 (by decide)
      have h11 := he 11 (by decide)
      have h12 := he 12 (by decide)
      show Weak _ ⟨[(18, cj (e 0) (SV.bp 1001 0)), (19, cj (e 1) (cjn (e 10) (SV.own 1004))), (20, cj (e 2) (SV.bp 1002 0)), (21, cj (e 3) (clRow g)), (22, cj (e 4) (iv (k))), (23, cj (e 5) (SV.el g.length 2 (rowG clCell default g) (Int.toNat k) 0)), (24, cj (e 6) (SV.el g.length 2 (rowG clCell default g) (Int.toNat k) 0)), (25, cj (e 7) (iv ((g.getD (Int.toNat k) default).n))), (26, cj (e 8) (SV.agg 2 (cmpG [iv ((g.getD (Int.toNat k) default).n), SV.v (Value.slice none 0 0)]))), (27, cj (e 9) (clRow ([⟨(g.getD (Int.toNat k) default).n, []⟩]))), (28, cj (e 10) (SV.own 2)), (29, cj (e 11) (SV.bp 1001 0)), (0, iv (k)), (2, SV.bp 1001 0), (3, SV.bp 1002 0), (6, iv ((o.length : Int)))], (cb (e 10) (cb (e 12) [(1, ownOf inCell 1 0 (o ++ ([k])) 3), (1000, Own.box 1 (upd (fun zt => kill 1003 ((fun _ => SV.own 1003) zt)) 0 (SV.own 1)) 24), (1001, Own.box 1 (upd (fun zt => kill 1004 ((fun _ => SV.own 1004) zt)) 0 (SV.own 2)) 35), (1002, Own.box 1 (grG g) 35), (2, ownOf clCell 2 default (out ++ ([⟨(g.getD (Int.toNat k) default).n, []⟩])) 43)] [(1, ownOf inCell 1 0 (o ++ ([k])) 3), (1000, Own.box 1 (upd (fun zt => kill 1003 ((fun _ => SV.own 1003) zt)) 0 (SV.own 1)) 24), (1001, Own.box 1 (fun zt => kill 1004 ((fun _ => SV.own 1004) zt)) 35), (1002, Own.box 1 (grG g) 35), (2, ownOf clCell 2 default (out ++ ([⟨(g.getD (Int.toNat k) default).n, []⟩])) 43)]) (cb (e 12) [] [(1, ownOf inCell 1 0 (o ++ ([k])) 3), (1000, Own.box 1 (upd (fun zt => kill 1003 ((fun _ => SV.own 1003) zt)) 0 (SV.own 1)) 24), (1001, Own.box 1 (fun _ => SV.own 1004) 35), (1002, Own.box 1 (grG g) 35), (1004, ownOf clCell 2 default out 43)]))⟩ _
      simp only [h0, h1, h2, h3, h4, h5, h6, h7, h8, h9, h10, h11, h12]
      show Weak _ ⟨[(18, SV.bp 1001 0), (19, SV.junk), (20, SV.bp 1002 0), (21, clRow g), (22, iv (k)), (23, SV.el g.length 2 (rowG clCell default g) (Int.toNat k) 0), (24, SV.el g.length 2 (rowG clCell default g) (Int.toNat k) 0), (25, iv ((g.getD (Int.toNat k) default).n)), (26, SV.agg 2 (cmpG [iv ((g.getD (Int.toNat k) default).n), SV.v (Value.slice none 0 0)])), (27, clRow ([⟨(g.getD (Int.toNat k) default).n, []⟩])), (28, SV.own 2), (29, SV.bp 1001 0), (0, iv (k)), (2, SV.bp 1001 0), (3, SV.bp 1002 0), (6, iv ((o.length : Int)))], [(1, ownOf inCell 1 0 (o ++ ([k])) 3), (1000, Own.box 1 (upd (fun zt => kill 1003 ((fun _ => SV.own 1003) zt)) 0 (SV.own 1)) 24), (1001, Own.box 1 (upd (fun zt => kill 1004 ((fun _ => SV.own 1004) zt)) 0 (SV.own 2)) 35), (1002, Own.box 1 (grG g) 35), (2, ownOf clCell 2 default (out ++ ([⟨(g.getD (Int.toNat k) default).n, []⟩])) 43)]⟩ _
      refine weakE ?_ ?_
      · exact ⟨val_tmp rfl, val_tmp rfl, val_tmp rfl, val_tmp rfl, val_tmp rfl, val_tmp rfl, val_tmp rfl, val_agg (val_tmp rfl) ⟨⟨trivial, rfl⟩, rfl⟩, val_tmp rfl, val_tmp rfl, val_tmp rfl, val_tmp rfl, val_tmp rfl, val_tmp rfl, val_tmp rfl, trivial⟩
      · exact ⟨⟨_, rfl, rfl⟩, ⟨_, rfl, ⟨rfl, rfl, ⟨trivial, rfl⟩⟩⟩, ⟨_, rfl, ⟨rfl, rfl, ⟨trivial, rfl⟩⟩⟩, ⟨_, rfl, ⟨rfl, rfl, ⟨trivial, rfl⟩⟩⟩, ⟨_, rfl, rfl⟩, trivial⟩
    refine c_seq ?_
    refine c_rq ?_
    refine tq_op (hd 30 (by decide)) (q_move (val_tmp rfl)) ?_
    refine tq_op (hd 5 (by decide)) (q_assign (val_tmp rfl)) ?_
    refine tq_nil ?_
    refine c_ownE 1 (addKid o k) rfl (by first | exact (if_neg (idxI_neg hc1s)).symm) ?_
    refine c_ownE 2 (addOut g o k out) rfl (by first | exact (if_neg (idxI_neg hc1s)).symm) ?_
    refine c_ret ?_
    exact retM1 rfl (val_tmp rfl) (by exact ⟨⟨_, rfl, ⟨rfl, rfl, ⟨trivial, rfl⟩⟩⟩, ⟨_, rfl, ⟨rfl, rfl, ⟨trivial, rfl⟩⟩⟩, ⟨_, rfl, ⟨rfl, rfl, ⟨trivial, rfl⟩⟩⟩, ⟨_, rfl, rfl⟩, ⟨_, rfl, rfl⟩, trivial⟩) (by show iv ((o.length : Int)) = iv (plcI o k); exact congrArg iv (plcI_new (idxI_neg hc1s)))
  · have hc1s := hc1
    try simp only [Bool.and_eq_true, Bool.or_eq_true, Bool.not_eq_true', Bool.not_eq_false', Bool.or_eq_false_iff, Bool.and_eq_false_iff, decide_eq_true_eq, decide_eq_false_iff_not] at hc1s
    refine c_skip ?_
    refine c_seq ?_
    refine c_rq ?_
    refine tq_op (hd 30 (by decide)) (q_move (val_tmp rfl)) ?_
    refine tq_op (hd 5 (by decide)) (q_assign (val_tmp rfl)) ?_
    refine tq_nil ?_
    refine c_mv 1003 1 rfl rfl ?_
    refine c_mv 1004 2 rfl rfl ?_
    refine c_ownE 1 (addKid o k) rfl (by first | exact (if_pos (idxI_pos hc1s)).symm) ?_
    refine c_ownE 2 (addOut g o k out) rfl (by first | exact (if_pos (idxI_pos hc1s)).symm) ?_
    refine c_ret ?_
    exact retM1 rfl (val_tmp rfl) (by exact ⟨⟨_, rfl, ⟨rfl, rfl, ⟨trivial, rfl⟩⟩⟩, ⟨_, rfl, ⟨rfl, rfl, ⟨trivial, rfl⟩⟩⟩, ⟨_, rfl, ⟨rfl, rfl, ⟨trivial, rfl⟩⟩⟩, ⟨_, rfl, rfl⟩, ⟨_, rfl, rfl⟩, trivial⟩) (by show iv (idxI o k) = iv (plcI o k); exact congrArg iv (plcI_in (idxI_pos hc1s)))

/-- glasshouse/glasshouseref.Copied -/
theorem rcopy_ct (g : List Cl) : Ct Try.prog 32 [SV.agg 1 (grG g)] (sv2 (SV.agg 1 (grG (copyR g).1)) (iv (copyR g).2)) := by
  refine ct_of Try.func32 rfl (by show 1 ≤ 59; decide) fun E hN => ?_
  have hd : ∀ d, d < 59 → d < E.N := fun d h => Nat.lt_of_lt_of_eq h hN.symm
  refine c_seq ?_
  refine c_rt ?_
  refine t_boxA 1 (hd 1 (by decide)) (val_tmp rfl) rfl rfl ?_
  refine t_alloc 2 (hd 2 (by decide)) zero35 rfl rfl ?_
  refine t_op (hd 3 (by decide)) (q_assign val_const) ?_
  refine t_nil ?_
  refine c_seq ?_
  refine c_seq ?_
  refine c_rq ?_
  refine tq_op (hd 12 (by decide)) (q_ldBA (val_tmp rfl) rfl Try.isAgg35 Try.sizeOf35 (by decide)) ?_
  refine tq_call en33 (hd 13 (by decide)) (by exact ⟨⟨(val_aggI (g' := grG g) (val_tmp rfl) ⟨trivial, imp_rfl⟩), rfl⟩, trivial⟩) (rgcheck_ct g) ?_
  refine tq_op (hd 4 (by decide)) (q_assign (val_tmp rfl)) ?_
  refine tq_nil ?_
  refine c_seq ?_
  refine c_rq ?_
  refine tq_op (hd 14 (by decide)) (q_move (val_tmp rfl)) ?_
  refine tq_op (hd 15 (by decide)) (q_neq (val_tmp rfl) val_const) ?_
  refine tq_nil ?_
  refine c_cond (val_tmp rfl) (fun hc1 => ?_) (fun hc1 => ?_)
  · have hc1s := hc1
    try simp only [Bool.and_eq_true, Bool.or_eq_true, Bool.not_eq_true', Bool.not_eq_false', Bool.or_eq_false_iff, Bool.and_eq_false_iff, decide_eq_true_eq, decide_eq_false_iff_not] at hc1s
    refine c_seq ?_
    refine c_rt ?_
    refine t_op (hd 16 (by decide)) (q_build [] id (cmpG [SV.v (Value.slice none 0 0)]) zero35 build35 (by exact trivial) (by decide) ⟨trivial, rfl⟩) ?_
    refine t_op (hd 17 (by decide)) (q_move (val_tmp rfl)) ?_
    refine t_stA (val_tmp rfl) rfl (val_tmp rfl) Try.sizeOf35 ?_
    refine t_op (hd 3 (by decide)) (q_assign (val_tmp rfl)) ?_
    refine t_nil ?_
    refine c_ret ?_
    exact retR2 rfl (rv_aggI (g' := grG ([])) (rv_cell (val_tmp rfl) rfl Try.isAgg35 Try.sizeOf35) ⟨trivial, imp_nil⟩) (rv_tmp (val_tmp rfl)) rfl rfl (by show sv2 (SV.agg 1 (grG ([]))) (iv (checkGr g)) = sv2 (SV.agg 1 (grG (copyR g).1)) (iv (copyR g).2); rw [copyR_e hc1s])
  · have hc1s := hc1
    try simp only [Bool.and_eq_true, Bool.or_eq_true, Bool.not_eq_true', Bool.not_eq_false', Bool.or_eq_false_iff, Bool.and_eq_false_iff, decide_eq_true_eq, decide_eq_false_iff_not] at hc1s
    have hc0 := hc1s
    have h24 := checkGr_len hc0
    refine c_skip ?_
    refine c_seq ?_
    refine c_rt ?_
    refine t_alloc 3 (hd 5 (by decide)) zero35 rfl rfl ?_
    refine t_nil ?_
    refine c_seq ?_
    refine c_rt ?_
    refine t_alloc 4 (hd 6 (by decide)) zero24 rfl rfl ?_
    refine t_nil ?_
    refine c_seq ?_
    refine c_rq ?_
    refine tq_op (hd 18 (by decide)) (q_mkf (caps := [SV.bp 4 0, SV.bp 3 0, SV.bp 1 0]) ⟨(val_tmp rfl), (val_tmp rfl), (val_tmp rfl), trivial⟩) ?_
    refine tq_op (hd 7 (by decide)) (q_assign (val_tmp rfl)) ?_
    refine tq_nil ?_
    refine c_seq ?_
    refine c_seq ?_
    refine c_rq ?_
    refine tq_op (hd 19 (by decide)) (q_fldB _ _ (val_tmp rfl) Try.underlying35 rfl 0 (fun w => Try.sizeOf33 w)) ?_
    refine tq_op (hd 20 (by decide)) (q_ldB (val_tmp rfl) rfl Try.isAgg33 (by decide)) ?_
    refine tq_op (hd 21 (by decide)) (q_len (val_tmp rfl) ts33) ?_
    refine tq_op (hd 22 (by decide)) (q_gtr (val_tmp rfl) val_const) ?_
    refine tq_nil ?_
    refine c_cond (val_tmp rfl) (fun hc2 => ?_) (fun hc2 => ?_)
    · have hc2s := hc2
      try simp only [Bool.and_eq_true, Bool.or_eq_true, Bool.not_eq_true', Bool.not_eq_false', Bool.or_eq_false_iff, Bool.and_eq_false_iff, decide_eq_true_eq, decide_eq_false_iff_not] at hc2s
      have hne : g ≠ [] := fun e => by rw [e] at hc2s; simp at hc2s
      refine c_rt ?_
      refine t_op (hd 23 (by decide)) (q_move (val_tmp rfl)) ?_
      refine t_turn (turn_nilB 4 0 5 1 (rowG inCell 0 []) 3 (by exact rfl) (by exact rfl) (by exact rfl)) ?_
      refine t_turn (turn_nilB 3 0 6 2 (rowG clCell default []) 43 (by exact rfl) (by exact rfl) (by exact rfl)) ?_
      refine t_callMV (cargs := [iv (0)]) (caps := [SV.bp 1000 0, SV.bp 1001 0, SV.bp 1002 0]) [(1000, 4), (1001, 3), (1002, 1), (1003, 5), (1004, 6)] [(1, 7), (2, 8)] (fnval_L (val_fnE' [SV.bp 4 0, SV.bp 3 0, SV.bp 1 0] ((val_tmp rfl)) ⟨⟨⟨trivial, rfl⟩, rfl⟩, rfl⟩)) en68 (hd 24 (by decide)) (by exact ⟨val_const, trivial⟩) (place_ct g ([]) ([]) 0 (by omega) (by first | omega | simp) (by first | omega | simp)) (by exact ⟨⟨_, rfl, ⟨rfl, rfl, ⟨trivial, rfl⟩⟩⟩, ⟨_, rfl, ⟨rfl, rfl, ⟨trivial, rfl⟩⟩⟩, ⟨_, rfl, ⟨rfl, rfl, ⟨trivial, rfl⟩⟩⟩, ⟨_, rfl, rfl⟩, ⟨_, rfl, rfl⟩, trivial⟩) rfl rfl rfl rfl ?_
      refine t_nil ?_
      refine c_seq ?_
      refine c_seq ?_
      refine c_rq ?_
      refine tq_op (hd 8 (by decide)) (q_assign val_const) ?_
      refine tq_nil ?_
      refine c_block ?_
      refine c_mv 7 60 rfl rfl ?_
      refine c_mv 8 61 rfl rfl ?_
      refine c_ownE 60 (bfsAt g 0) rfl (by rfl) ?_
      refine c_ownE 61 (outR g (bfsAt g 0) 0) rfl (by rfl) ?_
      refine c_loop (fun (i : Nat) => (⟨[(1, SV.bp 1 0), (2, SV.bp 2 0), (5, SV.bp 3 0), (6, SV.bp 4 0), (7, fnL 68 [SV.bp 4 0, SV.bp 3 0, SV.bp 1 0]), (8, iv ((i : Int)))], [(1, Own.box 1 (fun zt => SV.renm (mvN 8 61) ((fun zt => SV.renm (mvN 7 60) ((fun zt => SV.renm (rn [(1000, 4), (1001, 3), (1002, 1), (1003, 5), (1004, 6), (1, 7), (2, 8)]) ((grG g) zt)) zt)) zt)) 35), (2, Own.box 1 (fun zt => SV.renm (mvN 8 61) ((fun zt => SV.renm (mvN 7 60) ((cmpG [SV.v (Value.slice none 0 0)]) zt)) zt)) 35), (3, Own.box 1 (fun _ => SV.own 61) 35), (4, Own.box 1 (fun _ => SV.own 60) 24), (60, ownOf inCell 1 0 (bfsAt g i) 3), (61, ownOf clCell 2 default (outR g (bfsAt g i) i) 43)]⟩ : St)) (fun (i : Nat) => i ≤ (bfsAt g i).length) (fun (i : Nat) => g.length - i) 0 ?_ ?_ ?_
      · show 0 ≤ (bfsAt g 0).length
        exact Nat.zero_le _
      · refine weakE (sl := [(1, SV.bp 1 0), (2, SV.bp 2 0), (5, SV.bp 3 0), (6, SV.bp 4 0), (7, fnL 68 [SV.bp 4 0, SV.bp 3 0, SV.bp 1 0]), (8, iv ((0 : Int)))]) (ow := [(1, Own.box 1 (fun zt => SV.renm (mvN 8 61) ((fun zt => SV.renm (mvN 7 60) ((fun zt => SV.renm (rn [(1000, 4), (1001, 3), (1002, 1), (1003, 5), (1004, 6), (1, 7), (2, 8)]) ((grG g) zt)) zt)) zt)) 35), (2, Own.box 1 (fun zt => SV.renm (mvN 8 61) ((fun zt => SV.renm (mvN 7 60) ((cmpG [SV.v (Value.slice none 0 0)]) zt)) zt)) 35), (3, Own.box 1 (fun _ => SV.own 61) 35), (4, Own.box 1 (fun _ => SV.own 60) 24), (60, ownOf inCell 1 0 (bfsAt g 0) 3), (61, ownOf clCell 2 default (outR g (bfsAt g 0) 0) 43)]) ?_ ?_
        · exact ⟨val_tmp rfl, val_tmp rfl, val_tmp rfl, val_tmp rfl, val_fnE' [SV.bp 4 0, SV.bp 3 0, SV.bp 1 0] (val_tmp rfl) ⟨⟨⟨trivial, rfl⟩, rfl⟩, rfl⟩, val_tmp rfl, trivial⟩
        · exact ⟨⟨_, rfl, ⟨rfl, rfl, ⟨trivial, rfl⟩⟩⟩, ⟨_, rfl, ⟨rfl, rfl, ⟨trivial, rfl⟩⟩⟩, ⟨_, rfl, ⟨rfl, rfl, ⟨trivial, rfl⟩⟩⟩, ⟨_, rfl, ⟨rfl, rfl, ⟨trivial, rfl⟩⟩⟩, ⟨_, rfl, rfl⟩, ⟨_, rfl, rfl⟩, trivial⟩
      · rintro i hI1
        have hJ1 : i ≤ (bfsAt g i).length := hI1
        have hgd := bfsAt_good hc0 hne i
        have hgl := good_len hgd
        have hcl := bfs_closedTo g i
        have hol := outR_len g (bfsAt g i) i
        refine c_seq ?_
        refine c_seq ?_
        refine c_rq ?_
        refine tq_op (hd 25 (by decide)) (q_move (val_tmp rfl)) ?_
        refine tq_op (hd 26 (by decide)) (q_ldB (val_tmp rfl) rfl Try.isAgg24 (by decide)) ?_
        refine tq_op (hd 27 (by decide)) (q_lenO (val_tmp rfl) rfl ts24) ?_
        refine tq_op (hd 28 (by decide)) (q_lss (val_tmp rfl) (val_tmp rfl)) ?_
        refine tq_nil ?_
        refine c_cond (val_tmp rfl) (fun hc3 => ?_) (fun hc3 => ?_)
        · have hc3s := hc3
          try simp only [Bool.and_eq_true, Bool.or_eq_true, Bool.not_eq_true', Bool.not_eq_false', Bool.or_eq_false_iff, Bool.and_eq_false_iff, decide_eq_true_eq, decide_eq_false_iff_not] at hc3s
          have hi : i < (bfsAt g i).length := by omega
          have hx := good_at hgd hi
          have hki := kidsAt_in hc0 hgd hi
          refine c_skip ?_
          refine c_seq ?_
          refine c_block ?_
          refine c_seq ?_
          refine c_rq ?_
          refine tq_op (hd 9 (by decide)) (q_assign val_const) ?_
          refine tq_nil ?_
          refine c_seq ?_
          refine c_seq ?_
          refine c_rqd (by kernel_rfl) (by kernel_rfl) ?_
          refine tq_op (hd 31 (by decide)) (q_fldB _ _ (val_tmp rfl) Try.underlying35 rfl 0 (fun w => Try.sizeOf33 w)) ?_
          refine tq_op (hd 32 (by decide)) (q_ldB (val_tmp rfl) rfl Try.isAgg33 (by decide)) ?_
          refine tq_op (hd 33 (by decide)) (q_ldB (val_tmp rfl) rfl Try.isAgg24 (by decide)) ?_
          refine tq_op (hd 34 (by decide)) (q_move (val_tmp rfl)) ?_
          refine tq_op (hd 35 (by decide)) (q_idxON (i := i) (val_tmp rfl) rfl (val_tmp rfl) ts24 te24 (by first | omega | (simp only [Bool.and_eq_true, Bool.or_eq_true, Bool.not_eq_true', Bool.not_eq_false', Bool.or_eq_false_iff, Bool.and_eq_false_iff, decide_eq_true_eq, decide_eq_false_iff_not] at *; omega))) ?_
          refine tq_op (hd 36 (by decide)) (q_ldO (val_tmp rfl) rfl Try.isAgg3 (by decide)) ?_
          refine tq_op (hd 37 (by decide)) (q_idx (val_tmp rfl) (val_tmp rfl) ts33 te33 (by first | omega | (simp only [Bool.and_eq_true, Bool.or_eq_true, Bool.not_eq_true', Bool.not_eq_false', Bool.or_eq_false_iff, Bool.and_eq_false_iff, decide_eq_true_eq, decide_eq_false_iff_not] at *; omega)) (by first | omega | (simp only [Bool.and_eq_true, Bool.or_eq_true, Bool.not_eq_true', Bool.not_eq_false', Bool.or_eq_false_iff, Bool.and_eq_false_iff, decide_eq_true_eq, decide_eq_false_iff_not] at *; omega))) ?_
          refine tq_op (hd 38 (by decide)) (q_fld _ _ (val_tmp rfl) Try.underlying43 rfl 0 (fun w => Try.sizeOf24 w)) ?_
          refine tq_op (hd 39 (by decide)) (q_ld (val_tmp rfl) Try.isAgg24 (by decide)) ?_
          refine tq_op (hd 40 (by decide)) (q_len (val_tmp rfl) ts24) ?_
          refine tq_op (hd 41 (by decide)) (q_move val_const) ?_
          refine tq_nil ?_
          refine c_block ?_
          refine c_turn (turn_nilS 9 62 1 (rowG inCell 0 []) 3 rfl rfl) ?_
          refine c_ownE 60 (addKids (bfsAt g i) ((kidsAt g (bfsAt g i) i).take 0)) rfl (by rfl) ?_
          refine c_ownE 61 (outR g (addKids (bfsAt g i) ((kidsAt g (bfsAt g i) i).take 0)) i) rfl (by rfl) ?_
          refine c_ownE 62 (((kidsAt g (bfsAt g i) i).take 0).map (idx (addKids (bfsAt g i) ((kidsAt g (bfsAt g i) i).take 0)))) rfl (by rfl) ?_
          refine c_loop (fun (j : Nat) => (⟨[(1, SV.bp 1 0), (2, SV.bp 2 0), (5, SV.bp 3 0), (6, SV.bp 4 0), (7, fnL 68 [SV.bp 4 0, SV.bp 3 0, SV.bp 1 0]), (8, iv ((i : Int))), (9, SV.own 62), (39, inRow ((g.getD (Int.toNat (((bfsAt g i).getD i 0))) default).kids)), (40, iv ((((g.getD (Int.toNat (((bfsAt g i).getD i 0))) default).kids).length : Int))), (41, iv ((j : Int)))], [(1, Own.box 1 (fun zt => SV.renm (mvN 8 61) ((fun zt => SV.renm (mvN 7 60) ((fun zt => SV.renm (rn [(1000, 4), (1001, 3), (1002, 1), (1003, 5), (1004, 6), (1, 7), (2, 8)]) ((grG g) zt)) zt)) zt)) 35), (2, Own.box 1 (fun zt => SV.renm (mvN 8 61) ((fun zt => SV.renm (mvN 7 60) ((cmpG [SV.v (Value.slice none 0 0)]) zt)) zt)) 35), (3, Own.box 1 (fun _ => SV.own 61) 35), (4, Own.box 1 (fun _ => SV.own 60) 24), (60, ownOf inCell 1 0 (addKids (bfsAt g i) ((kidsAt g (bfsAt g i) i).take j)) 3), (61, ownOf clCell 2 default (outR g (addKids (bfsAt g i) ((kidsAt g (bfsAt g i) i).take j)) i) 43), (62, ownOf inCell 1 0 (((kidsAt g (bfsAt g i) i).take j).map (idx (addKids (bfsAt g i) ((kidsAt g (bfsAt g i) i).take j)))) 3)]⟩ : St)) (fun (j : Nat) => j ≤ (kidsAt g (bfsAt g i) i).length) (fun (j : Nat) => (kidsAt g (bfsAt g i) i).length - j) 0 ?_ ?_ ?_
          · show 0 ≤ (kidsAt g (bfsAt g i) i).length
            exact Nat.zero_le _
          · refine weakE (sl := [(1, SV.bp 1 0), (2, SV.bp 2 0), (5, SV.bp 3 0), (6, SV.bp 4 0), (7, fnL 68 [SV.bp 4 0, SV.bp 3 0, SV.bp 1 0]), (8, iv ((i : Int))), (9, SV.own 62), (39, inRow ((g.getD (Int.toNat (((bfsAt g i).getD i 0))) default).kids)), (40, iv ((((g.getD (Int.toNat (((bfsAt g i).getD i 0))) default).kids).length : Int))), (41, iv ((0 : Int)))]) (ow := [(1, Own.box 1 (fun zt => SV.renm (mvN 8 61) ((fun zt => SV.renm (mvN 7 60) ((fun zt => SV.renm (rn [(1000, 4), (1001, 3), (1002, 1), (1003, 5), (1004, 6), (1, 7), (2, 8)]) ((grG g) zt)) zt)) zt)) 35), (2, Own.box 1 (fun zt => SV.renm (mvN 8 61) ((fun zt => SV.renm (mvN 7 60) ((cmpG [SV.v (Value.slice none 0 0)]) zt)) zt)) 35), (3, Own.box 1 (fun _ => SV.own 61) 35), (4, Own.box 1 (fun _ => SV.own 60) 24), (60, ownOf inCell 1 0 (addKids (bfsAt g i) ((kidsAt g (bfsAt g i) i).take 0)) 3), (61, ownOf clCell 2 default (outR g (addKids (bfsAt g i) ((kidsAt g (bfsAt g i) i).take 0)) i) 43), (62, ownOf inCell 1 0 (((kidsAt g (bfsAt g i) i).take 0).map (idx (addKids (bfsAt g i) ((kidsAt g (bfsAt g i) i).take 0)))) 3)]) ?_ ?_
            · exact ⟨val_tmp rfl, val_tmp rfl, val_tmp rfl, val_tmp rfl, val_fnE' [SV.bp 4 0, SV.bp 3 0, SV.bp 1 0] (val_tmp rfl) ⟨⟨⟨trivial, rfl⟩, rfl⟩, rfl⟩, val_tmp rfl, val_tmp rfl, val_tmp rfl, val_tmp rfl, val_tmp rfl, trivial⟩
            · exact ⟨⟨_, rfl, ⟨rfl, rfl, ⟨trivial, rfl⟩⟩⟩, ⟨_, rfl, ⟨rfl, rfl, ⟨trivial, rfl⟩⟩⟩, ⟨_, rfl, ⟨rfl, rfl, ⟨trivial, rfl⟩⟩⟩, ⟨_, rfl, ⟨rfl, rfl, ⟨trivial, rfl⟩⟩⟩, ⟨_, rfl, rfl⟩, ⟨_, rfl, rfl⟩, ⟨_, rfl, rfl⟩, trivial⟩
          · rintro j hI2
            have hJ2 : j ≤ (kidsAt g (bfsAt g i) i).length := hI2
            have hal := addKids_len hc0 hgd hi j
            have hpj := addKids_pre ((kidsAt g (bfsAt g i) i).take j) (bfsAt g i)
            have holj := outR_len g (addKids (bfsAt g i) ((kidsAt g (bfsAt g i) i).take j)) i
            have hil : i ≤ (addKids (bfsAt g i) ((kidsAt g (bfsAt g i) i).take j)).length := Nat.le_trans (Nat.le_of_lt hi) hpj.length_le
            refine c_seq ?_
            refine c_rq ?_
            refine tq_op (hd 42 (by decide)) (q_lss (val_tmp rfl) (val_tmp rfl)) ?_
            refine tq_nil ?_
            refine c_seq ?_
            refine c_cond (val_tmp rfl) (fun hc4 => ?_) (fun hc4 => ?_)
            · have hc4s := hc4
              try simp only [Bool.and_eq_true, Bool.or_eq_true, Bool.not_eq_true', Bool.not_eq_false', Bool.or_eq_false_iff, Bool.and_eq_false_iff, decide_eq_true_eq, decide_eq_false_iff_not] at hc4s
              have hj : j < (kidsAt g (bfsAt g i) i).length := by have h4 := hc4s; change (j : Int) < ((kidsAt g (bfsAt g i) i).length : Int) at h4; omega
              have hkj : 0 ≤ (g.getD (Int.toNat ((bfsAt g i).getD i 0)) default).kids.getD j 0 ∧ (g.getD (Int.toNat ((bfsAt g i).getD i 0)) default).kids.getD j 0 < (g.length : Int) := hki.2 ((kidsAt g (bfsAt g i) i).getD j 0) (mem_getD hj)
              refine c_skip ?_
              refine c_seq ?_
              refine c_block ?_
              refine c_seq ?_
              refine c_rq ?_
              refine tq_op (hd 43 (by decide)) (q_idxN (i := j) (val_tmp rfl) (val_tmp rfl) ts24 te24 (by first | omega | (simp only [Bool.and_eq_true, Bool.or_eq_true, Bool.not_eq_true', Bool.not_eq_false', Bool.or_eq_false_iff, Bool.and_eq_false_iff, decide_eq_true_eq, decide_eq_false_iff_not] at *; omega))) ?_
              refine tq_op (hd 44 (by decide)) (q_ld (val_tmp rfl) Try.isAgg3 (by decide)) ?_
              refine tq_op (hd 11 (by decide)) (q_assign (val_tmp rfl)) ?_
              refine tq_nil ?_
              refine c_rt ?_
              refine t_op (hd 45 (by decide)) (q_move (val_tmp rfl)) ?_
              refine t_op (hd 46 (by decide)) (q_move (val_tmp rfl)) ?_
              refine t_op (hd 47 (by decide)) (q_move (val_tmp rfl)) ?_
              refine t_callMV (cargs := [iv ((((g.getD (Int.toNat (((bfsAt g i).getD i 0))) default).kids).getD j 0))]) (caps := [SV.bp 1000 0, SV.bp 1001 0, SV.bp 1002 0]) [(1000, 4), (1001, 3), (1002, 1), (1003, 60), (1004, 61)] [(1, 9), (2, 10)] (fnval_L (val_fnE' [SV.bp 4 0, SV.bp 3 0, SV.bp 1 0] ((val_tmp rfl)) ⟨⟨⟨trivial, rfl⟩, rfl⟩, rfl⟩)) en68 (hd 48 (by decide)) (by exact ⟨(val_tmp rfl), trivial⟩) (place_ct g (addKids (bfsAt g i) ((kidsAt g (bfsAt g i) i).take j)) (outR g (addKids (bfsAt g i) ((kidsAt g (bfsAt g i) i).take j)) i) ((((g.getD (Int.toNat (((bfsAt g i).getD i 0))) default).kids).getD j 0)) (by omega) (by first | omega | simp) (by first | omega | simp)) (by exact ⟨⟨_, rfl, ⟨rfl, rfl, ⟨trivial, rfl⟩⟩⟩, ⟨_, rfl, ⟨rfl, rfl, ⟨trivial, rfl⟩⟩⟩, ⟨_, rfl, ⟨rfl, rfl, ⟨trivial, rfl⟩⟩⟩, ⟨_, rfl, rfl⟩, ⟨_, rfl, rfl⟩, trivial⟩) rfl rfl rfl rfl ?_
              refine t_w (hd 49 (by decide)) (w_bs (n := 1) (zget := fun _ => iv 0) [(fun _ => iv (plcI (addKids (bfsAt g i) ((kidsAt g (bfsAt g i) i).take j)) ((((g.getD (Int.toNat (((bfsAt g i).getD i 0))) default).kids).getD j 0))))] (rowG inCell 0 [plcI (addKids (bfsAt g i) ((kidsAt g (bfsAt g i) i).take j)) ((((g.getD (Int.toNat (((bfsAt g i).getD i 0))) default).kids).getD j 0))]) Try.underlying24 (fun w => Try.sizeOf3 w) zero3 (by decide) rfl (by decide) ⟨⟨rfl, .inr ⟨rfl, (val_tmp rfl), rfl⟩, rfl⟩, trivial⟩ ⟨trivial, ⟨trivial, rfl⟩⟩) ?_
              refine t_app 11 (rowG inCell 0 ((((kidsAt g (bfsAt g i) i).take j).map (idx (addKids (bfsAt g i) ((kidsAt g (bfsAt g i) i).take j)))) ++ ([plcI (addKids (bfsAt g i) ((kidsAt g (bfsAt g i) i).take j)) ((((g.getD (Int.toNat (((bfsAt g i).getD i 0))) default).kids).getD j 0))]))) (hd 50 (by decide)) eo24 (val_tmp rfl) rfl (val_tmp rfl) rfl (len_app (((kidsAt g (bfsAt g i) i).take j).map (idx (addKids (bfsAt g i) ((kidsAt g (bfsAt g i) i).take j)))) ([plcI (addKids (bfsAt g i) ((kidsAt g (bfsAt g i) i).take j)) ((((g.getD (Int.toNat (((bfsAt g i).getD i 0))) default).kids).getD j 0))])) (by first | (simp only [maxLen, List.length_append, List.length_set, List.length_nil, List.length_cons]; (simp only [List.length_map, List.length_take]; omega)) | (simp only [maxLen]; (simp only [List.length_map, List.length_take]; omega))) (by first | (simp only [List.length_append, List.length_set, List.length_nil, List.length_cons]; (simp only [List.length_map, List.length_take]; omega)) | ((simp only [List.length_map, List.length_take]; omega))) (app_typed (l := (((kidsAt g (bfsAt g i) i).take j).map (idx (addKids (bfsAt g i) ((kidsAt g (bfsAt g i) i).take j))))) (m := ([plcI (addKids (bfsAt g i) ((kidsAt g (bfsAt g i) i).take j)) ((((g.getD (Int.toNat (((bfsAt g i).getD i 0))) default).kids).getD j 0))]))) ?_
              refine t_op (hd 9 (by decide)) (q_assign (val_tmp rfl)) ?_
              refine t_nil ?_
              refine c_rq ?_
              refine tq_op (hd 51 (by decide)) (q_add (val_tmp rfl) val_const (by first | omega | (simp only [Bool.and_eq_true, Bool.or_eq_true, Bool.not_eq_true', Bool.not_eq_false', Bool.or_eq_false_iff, Bool.and_eq_false_iff, decide_eq_true_eq, decide_eq_false_iff_not] at *; omega))) ?_
              refine tq_op (hd 41 (by decide)) (q_move (val_tmp rfl)) ?_
              refine tq_nil ?_
              refine k_mv 9 60 rfl rfl ?_
              refine k_mv 10 61 rfl rfl ?_
              refine k_mv 11 62 rfl rfl ?_
              refine k_ownE 60 (addKids (bfsAt g i) ((kidsAt g (bfsAt g i) i).take ((j + 1)))) rfl (by exact (addKids_s hj).symm) ?_
              refine k_ownE 61 (outR g (addKids (bfsAt g i) ((kidsAt g (bfsAt g i) i).take ((j + 1)))) i) rfl (by rw [addKids_s (o := bfsAt g i) hj, outR_add _ hil (closed_pre hcl hpj (Nat.le_of_lt hi))]; rfl) ?_
              refine k_ownE 62 (((kidsAt g (bfsAt g i) i).take ((j + 1))).map (idx (addKids (bfsAt g i) ((kidsAt g (bfsAt g i) i).take ((j + 1)))))) rfl (by rw [addKids_s (o := bfsAt g i) hj, ← kmap_s hj (addKids_mem _ _)]; rfl) ?_
              refine c_next (j + 1) ?_ ?_ ?_
              · show (j + 1) ≤ (kidsAt g (bfsAt g i) i).length
                omega
              · show (kidsAt g (bfsAt g i) i).length - (j + 1) < (kidsAt g (bfsAt g i) i).length - j
                omega
              · refine weakE (sl := [(1, SV.bp 1 0), (2, SV.bp 2 0), (5, SV.bp 3 0), (6, SV.bp 4 0), (7, fnL 68 [SV.bp 4 0, SV.bp 3 0, SV.bp 1 0]), (8, iv ((i : Int))), (9, SV.own 62), (39, inRow ((g.getD (Int.toNat (((bfsAt g i).getD i 0))) default).kids)), (40, iv ((((g.getD (Int.toNat (((bfsAt g i).getD i 0))) default).kids).length : Int))), (41, iv (((j + 1) : Int)))]) (ow := [(1, Own.box 1 (fun zt => SV.renm (mvN 8 61) ((fun zt => SV.renm (mvN 7 60) ((fun zt => SV.renm (rn [(1000, 4), (1001, 3), (1002, 1), (1003, 5), (1004, 6), (1, 7), (2, 8)]) ((grG g) zt)) zt)) zt)) 35), (2, Own.box 1 (fun zt => SV.renm (mvN 8 61) ((fun zt => SV.renm (mvN 7 60) ((cmpG [SV.v (Value.slice none 0 0)]) zt)) zt)) 35), (3, Own.box 1 (fun _ => SV.own 61) 35), (4, Own.box 1 (fun _ => SV.own 60) 24), (60, ownOf inCell 1 0 (addKids (bfsAt g i) ((kidsAt g (bfsAt g i) i).take ((j + 1)))) 3), (61, ownOf clCell 2 default (outR g (addKids (bfsAt g i) ((kidsAt g (bfsAt g i) i).take ((j + 1)))) i) 43), (62, ownOf inCell 1 0 (((kidsAt g (bfsAt g i) i).take ((j + 1))).map (idx (addKids (bfsAt g i) ((kidsAt g (bfsAt g i) i).take ((j + 1)))))) 3)]) ?_ ?_
                · exact ⟨val_tmp rfl, val_tmp rfl, val_tmp rfl, val_tmp rfl, val_fnE' [SV.bp 4 0, SV.bp 3 0, SV.bp 1 0] (val_tmp rfl) ⟨⟨⟨trivial, rfl⟩, rfl⟩, rfl⟩, val_tmp rfl, val_tmp rfl, val_tmp rfl, val_tmp rfl, val_tmp rfl, trivial⟩
                · exact ⟨⟨_, rfl, ⟨rfl, rfl, ⟨trivial, rfl⟩⟩⟩, ⟨_, rfl, ⟨rfl, rfl, ⟨trivial, rfl⟩⟩⟩, ⟨_, rfl, ⟨rfl, rfl, ⟨trivial, rfl⟩⟩⟩, ⟨_, rfl, ⟨rfl, rfl, ⟨trivial, rfl⟩⟩⟩, ⟨_, rfl, rfl⟩, ⟨_, rfl, rfl⟩, ⟨_, rfl, rfl⟩, trivial⟩
            · have hc4s := hc4
              try simp only [Bool.and_eq_true, Bool.or_eq_true, Bool.not_eq_true', Bool.not_eq_false', Bool.or_eq_false_iff, Bool.and_eq_false_iff, decide_eq_true_eq, decide_eq_false_iff_not] at hc4s
              have hj : (kidsAt g (bfsAt g i) i).length ≤ j := by have h4 := hc4s; change ¬ (j : Int) < ((kidsAt g (bfsAt g i) i).length : Int) at h4; omega
              have hol2 := outR_len g (addKids (bfsAt g i) ((kidsAt g (bfsAt g i) i).take j)) i
              have hpj2 := (addKids_pre ((kidsAt g (bfsAt g i) i).take j) (bfsAt g i)).length_le
              refine c_exit ?_
              refine c_rt ?_
              refine t_op (hd 52 (by decide)) (q_fldB _ _ (val_tmp rfl) Try.underlying35 rfl 0 (fun w => Try.sizeOf33 w)) ?_
              refine t_op (hd 53 (by decide)) (q_ldB (val_tmp rfl) rfl Try.isAgg33 (by decide)) ?_
              refine t_op (hd 54 (by decide)) (q_move (val_tmp rfl)) ?_
              refine t_op (hd 55 (by decide)) (q_move (val_tmp rfl)) ?_
              refine t_op (hd 56 (by decide)) (q_idxON (i := i) (val_tmp rfl) rfl (val_tmp rfl) ts33 te33 (by first | omega | (simp only [Bool.and_eq_true, Bool.or_eq_true, Bool.not_eq_true', Bool.not_eq_false', Bool.or_eq_false_iff, Bool.and_eq_false_iff, decide_eq_true_eq, decide_eq_false_iff_not] at *; omega))) ?_
              refine t_op (hd 57 (by decide)) (q_fldO _ _ (val_tmp rfl) Try.underlying43 rfl 0 (fun w => Try.sizeOf24 w)) ?_
              refine t_frz 62 rfl ?_
              have hidx0 : i < (outR g (addKids (bfsAt g i) ((kidsAt g (bfsAt g i) i).take j)) i).length := by first | omega | (simp; omega)
              refine t_stO (rowG clCell default ((outR g (addKids (bfsAt g i) ((kidsAt g (bfsAt g i) i).take j)) i).set i ({ ((outR g (addKids (bfsAt g i) ((kidsAt g (bfsAt g i) i).take j)) i).getD i default) with kids := ((kidsAt g (bfsAt g i) i).take j).map (idx (addKids (bfsAt g i) ((kidsAt g (bfsAt g i) i).take j))) }))) (val_tmp rfl) rfl (val_tmp rfl) rfl rfl Try.sizeOf24 (by decide) (show (outR g (addKids (bfsAt g i) ((kidsAt g (bfsAt g i) i).take j)) i).length = ((outR g (addKids (bfsAt g i) ((kidsAt g (bfsAt g i) i).take j)) i).set i ({ ((outR g (addKids (bfsAt g i) ((kidsAt g (bfsAt g i) i).take j)) i).getD i default) with kids := ((kidsAt g (bfsAt g i) i).take j).map (idx (addKids (bfsAt g i) ((kidsAt g (bfsAt g i) i).take j))) })).length from List.length_set.symm) (set_at hidx0 rfl) (set_typed hidx0 fun t ht hne => match t, ht, hne with | 0, _, _ => rfl | 1, _, hne => absurd rfl hne) ?_
              refine t_nil ?_
              refine c_rq ?_
              refine tq_op (hd 29 (by decide)) (q_move (val_tmp rfl)) ?_
              refine tq_op (hd 30 (by decide)) (q_add (val_tmp rfl) val_const (by first | omega | (simp only [Bool.and_eq_true, Bool.or_eq_true, Bool.not_eq_true', Bool.not_eq_false', Bool.or_eq_false_iff, Bool.and_eq_false_iff, decide_eq_true_eq, decide_eq_false_iff_not] at *; omega))) ?_
              refine tq_op (hd 8 (by decide)) (q_assign (val_tmp rfl)) ?_
              refine tq_nil ?_
              have hbs : bfsAt g (i + 1) = addKids (bfsAt g i) ((kidsAt g (bfsAt g i) i).take j) := by rw [bfsAt, if_pos hi, List.take_of_length_le (by show (kidsAt g (bfsAt g i) i).length ≤ j; omega)]
              have hpr := addKids_pre ((kidsAt g (bfsAt g i) i).take j) (bfsAt g i)
              refine k_ownE 60 (bfsAt g ((i + 1))) rfl (by exact hbs.symm) ?_
              refine k_ownE 61 (outR g (bfsAt g ((i + 1))) ((i + 1))) rfl (by rw [hbs, ← outR_set (j := j) (Nat.lt_of_lt_of_le hi hpr.length_le) (by rw [kidsAt_pre g hpr hi]; exact hj), kidsAt_pre g hpr hi]) ?_
              refine c_next (i + 1) ?_ ?_ ?_
              · show (i + 1) ≤ (bfsAt g (i + 1)).length
                rw [hbs]; have := hpr.length_le; omega
              · show g.length - (i + 1) < g.length - i
                omega
              · refine weakE (sl := [(1, SV.bp 1 0), (2, SV.bp 2 0), (5, SV.bp 3 0), (6, SV.bp 4 0), (7, fnL 68 [SV.bp 4 0, SV.bp 3 0, SV.bp 1 0]), (8, iv (((i + 1) : Int)))]) (ow := [(1, Own.box 1 (fun zt => SV.renm (mvN 8 61) ((fun zt => SV.renm (mvN 7 60) ((fun zt => SV.renm (rn [(1000, 4), (1001, 3), (1002, 1), (1003, 5), (1004, 6), (1, 7), (2, 8)]) ((grG g) zt)) zt)) zt)) 35), (2, Own.box 1 (fun zt => SV.renm (mvN 8 61) ((fun zt => SV.renm (mvN 7 60) ((cmpG [SV.v (Value.slice none 0 0)]) zt)) zt)) 35), (3, Own.box 1 (fun _ => SV.own 61) 35), (4, Own.box 1 (fun _ => SV.own 60) 24), (60, ownOf inCell 1 0 (bfsAt g ((i + 1))) 3), (61, ownOf clCell 2 default (outR g (bfsAt g ((i + 1))) ((i + 1))) 43)]) ?_ ?_
                · exact ⟨val_tmp rfl, val_tmp rfl, val_tmp rfl, val_tmp rfl, val_fnE' [SV.bp 4 0, SV.bp 3 0, SV.bp 1 0] (val_tmp rfl) ⟨⟨⟨trivial, rfl⟩, rfl⟩, rfl⟩, val_tmp rfl, trivial⟩
                · exact ⟨⟨_, rfl, ⟨rfl, rfl, ⟨trivial, rfl⟩⟩⟩, ⟨_, rfl, ⟨rfl, rfl, ⟨trivial, rfl⟩⟩⟩, ⟨_, rfl, ⟨rfl, rfl, ⟨trivial, rfl⟩⟩⟩, ⟨_, rfl, ⟨rfl, rfl, ⟨trivial, rfl⟩⟩⟩, ⟨_, rfl, rfl⟩, ⟨_, rfl, rfl⟩, trivial⟩
        · have hc3s := hc3
          try simp only [Bool.and_eq_true, Bool.or_eq_true, Bool.not_eq_true', Bool.not_eq_false', Bool.or_eq_false_iff, Bool.and_eq_false_iff, decide_eq_true_eq, decide_eq_false_iff_not] at hc3s
          have hgi : i ≤ g.length := by omega
          have hb : bfs g = bfsAt g i := bfs_eq (by omega) hgi
          refine c_exit ?_
          refine c_seq ?_
          refine c_rt ?_
          refine t_op (hd 58 (by decide)) (q_ldBA (val_tmp rfl) rfl Try.isAgg35 Try.sizeOf35 (by decide)) ?_
          refine t_stA (val_tmp rfl) rfl (val_tmp rfl) Try.sizeOf35 ?_
          refine t_op (hd 3 (by decide)) (q_assign val_const) ?_
          refine t_nil ?_
          refine c_frz 61 rfl ?_
          refine c_ret ?_
          exact retR2 rfl (rv_aggI (g' := grG (outR g (bfsAt g i) i)) (rv_cell (val_tmp rfl) rfl Try.isAgg35 Try.sizeOf35) ⟨trivial, imp_rfl⟩) (rv_tmp (val_tmp rfl)) rfl rfl (by show sv2 (SV.agg 1 (grG (outR g (bfsAt g i) i))) (iv (0)) = sv2 (SV.agg 1 (grG (copyR g).1)) (iv (copyR g).2); rw [copyR_o hc0, copyGr, if_neg hne, hb, outR_full _ _ (by omega)])
    · have hc2s := hc2
      try simp only [Bool.and_eq_true, Bool.or_eq_true, Bool.not_eq_true', Bool.not_eq_false', Bool.or_eq_false_iff, Bool.and_eq_false_iff, decide_eq_true_eq, decide_eq_false_iff_not] at hc2s
      have hge : g = [] := List.eq_nil_of_length_eq_zero (by omega)
      refine c_skip ?_
      refine c_seq ?_
      refine c_seq ?_
      refine c_rq ?_
      refine tq_op (hd 8 (by decide)) (q_assign val_const) ?_
      refine tq_nil ?_
      refine c_block ?_
      refine c_turn (turn_nilB 4 0 60 1 (rowG inCell 0 []) 3 rfl rfl rfl) ?_
      refine c_turn (turn_nilB 3 0 61 2 (rowG clCell default []) 43 rfl rfl rfl) ?_
      refine c_loop (fun (i : Nat) => (⟨[(1, SV.bp 1 0), (2, SV.bp 2 0), (5, SV.bp 3 0), (6, SV.bp 4 0), (7, fnL 68 [SV.bp 4 0, SV.bp 3 0, SV.bp 1 0]), (8, iv ((i : Int)))], [(1, Own.box 1 (grG g) 35), (2, Own.box 1 (cmpG [SV.v (Value.slice none 0 0)]) 35), (3, Own.box 1 (fun _ => SV.own 61) 35), (4, Own.box 1 (fun _ => SV.own 60) 24), (60, ownOf inCell 1 0 ([]) 3), (61, ownOf clCell 2 default ([]) 43)]⟩ : St)) (fun (i : Nat) => i = 0) (fun (i : Nat) => 0) 0 ?_ ?_ ?_
      · show 0 = 0
        rfl
      · refine weakE (sl := [(1, SV.bp 1 0), (2, SV.bp 2 0), (5, SV.bp 3 0), (6, SV.bp 4 0), (7, fnL 68 [SV.bp 4 0, SV.bp 3 0, SV.bp 1 0]), (8, iv ((0 : Int)))]) (ow := [(1, Own.box 1 (grG g) 35), (2, Own.box 1 (cmpG [SV.v (Value.slice none 0 0)]) 35), (3, Own.box 1 (fun _ => SV.own 61) 35), (4, Own.box 1 (fun _ => SV.own 60) 24), (60, ownOf inCell 1 0 ([]) 3), (61, ownOf clCell 2 default ([]) 43)]) ?_ ?_
        · exact ⟨val_tmp rfl, val_tmp rfl, val_tmp rfl, val_tmp rfl, val_fnE' [SV.bp 4 0, SV.bp 3 0, SV.bp 1 0] (val_tmp rfl) ⟨⟨⟨trivial, rfl⟩, rfl⟩, rfl⟩, val_tmp rfl, trivial⟩
        · exact ⟨⟨_, rfl, ⟨rfl, rfl, ⟨trivial, rfl⟩⟩⟩, ⟨_, rfl, ⟨rfl, rfl, ⟨trivial, rfl⟩⟩⟩, ⟨_, rfl, ⟨rfl, rfl, ⟨trivial, rfl⟩⟩⟩, ⟨_, rfl, ⟨rfl, rfl, ⟨trivial, rfl⟩⟩⟩, ⟨_, rfl, rfl⟩, ⟨_, rfl, rfl⟩, trivial⟩
      · rintro i hI3
        have hJ3 : i = 0 := hI3
        refine c_seq ?_
        refine c_seq ?_
        refine c_rq ?_
        refine tq_op (hd 25 (by decide)) (q_move (val_tmp rfl)) ?_
        refine tq_op (hd 26 (by decide)) (q_ldB (val_tmp rfl) rfl Try.isAgg24 (by decide)) ?_
        refine tq_op (hd 27 (by decide)) (q_lenO (val_tmp rfl) rfl ts24) ?_
        refine tq_op (hd 28 (by decide)) (q_lss (val_tmp rfl) (val_tmp rfl)) ?_
        refine tq_nil ?_
        refine c_cond (val_tmp rfl) (fun hc5 => ?_) (fun hc5 => ?_)
        · have hc5s := hc5
          try simp only [Bool.and_eq_true, Bool.or_eq_true, Bool.not_eq_true', Bool.not_eq_false', Bool.or_eq_false_iff, Bool.and_eq_false_iff, decide_eq_true_eq, decide_eq_false_iff_not] at hc5s
          exact absurd hc5s (by simp)
          --done
        · have hc5s := hc5
          try simp only [Bool.and_eq_true, Bool.or_eq_true, Bool.not_eq_true', Bool.not_eq_false', Bool.or_eq_false_iff, Bool.and_eq_false_iff, decide_eq_true_eq, decide_eq_false_iff_not] at hc5s
          refine c_exit ?_
          refine c_seq ?_
          refine c_rt ?_
          refine t_op (hd 58 (by decide)) (q_ldBA (val_tmp rfl) rfl Try.isAgg35 Try.sizeOf35 (by decide)) ?_
          refine t_stA (val_tmp rfl) rfl (val_tmp rfl) Try.sizeOf35 ?_
          refine t_op (hd 3 (by decide)) (q_assign val_const) ?_
          refine t_nil ?_
          refine c_frz 61 rfl ?_
          refine c_ret ?_
          exact retR2 rfl (rv_aggI (g' := grG ([])) (rv_cell (val_tmp rfl) rfl Try.isAgg35 Try.sizeOf35) ⟨trivial, imp_rfl⟩) (rv_tmp (val_tmp rfl)) rfl rfl (by show sv2 (SV.agg 1 (grG ([]))) (iv (0)) = sv2 (SV.agg 1 (grG (copyR g).1)) (iv (copyR g).2); rw [copyR_o hc0, copyGr, if_pos hge])

/-- glasshouse/glasshouselaw.cloned -/
theorem cloned_ct  : Ct Try.prog 25 [] (bv true) := by
  refine ct_of Try.func25 rfl (by show 0 ≤ 26; decide) fun E hN => ?_
  have hd : ∀ d, d < 26 → d < E.N := fun d h => Nat.lt_of_lt_of_eq h hN.symm
  refine c_seq ?_
  refine c_rq ?_
  refine tq_op (hd 0 (by decide)) (q_assign val_const) ?_
  refine tq_nil ?_
  refine c_seq ?_
  refine c_rt ?_
  refine t_w (hd 4 (by decide)) (w_bs (n := 2) (zget := fun _ => iv 0) [(fun _ => iv (2)), (fun _ => iv (2))] (rowG inCell 0 [2, 2]) Try.underlying24 (fun w => Try.sizeOf3 w) zero3 (by decide) rfl (by decide) ⟨⟨rfl, .inr ⟨rfl, val_const, rfl⟩, rfl⟩, ⟨rfl, .inr ⟨rfl, val_const, rfl⟩, rfl⟩, trivial⟩ ⟨⟨trivial, ⟨trivial, rfl⟩⟩, ⟨trivial, rfl⟩⟩) ?_
  refine t_op (hd 5 (by decide)) (q_build [(0, iv (1)), (1, inRow ([2, 2]))] id (clCell ⟨1, [2, 2]⟩) zero43 build43 (by exact ⟨⟨rfl, val_const, rfl⟩, ⟨rfl, (val_tmp rfl), rfl⟩, trivial⟩) (by decide) ⟨⟨trivial, rfl⟩, rfl⟩) ?_
  refine t_op (hd 6 (by decide)) (q_build [(0, iv (5))] id (cmpG [iv (5), SV.v (Value.slice none 0 0)]) zero43 build43 (by exact ⟨⟨rfl, val_const, rfl⟩, trivial⟩) (by decide) ⟨⟨trivial, rfl⟩, rfl⟩) ?_
  refine t_w (hd 7 (by decide)) (w_bs (n := 1) (zget := fun _ => iv 0) [(fun _ => iv (0))] (rowG inCell 0 [0]) Try.underlying24 (fun w => Try.sizeOf3 w) zero3 (by decide) rfl (by decide) ⟨⟨rfl, .inr ⟨rfl, val_const, rfl⟩, rfl⟩, trivial⟩ ⟨trivial, ⟨trivial, rfl⟩⟩) ?_
  refine t_op (hd 8 (by decide)) (q_build [(0, iv (3)), (1, inRow ([0]))] id (clCell ⟨3, [0]⟩) zero43 build43 (by exact ⟨⟨rfl, val_const, rfl⟩, ⟨rfl, (val_tmp rfl), rfl⟩, trivial⟩) (by decide) ⟨⟨trivial, rfl⟩, rfl⟩) ?_
  refine t_w (hd 9 (by decide)) (w_rowI (get' := rowG clCell default [⟨1, [2, 2]⟩, ⟨5, []⟩, ⟨3, [0]⟩]) (w_bs (n := 3) (zget := cmpG [iv 0, SV.v (Value.slice none 0 0)]) [(clCell ⟨1, [2, 2]⟩), (cmpG [iv (5), SV.v (Value.slice none 0 0)]), (clCell ⟨3, [0]⟩)] (fun zi zt => ([(clCell ⟨1, [2, 2]⟩), (cmpG [iv (5), SV.v (Value.slice none 0 0)]), (clCell ⟨3, [0]⟩)].getD zi fun _ => SV.junk) zt) Try.underlying33 (fun w => Try.sizeOf43 w) zero43 (by decide) rfl (by decide) ⟨⟨rfl, .inl (val_tmp rfl), rfl⟩, ⟨rfl, .inl (val_tmp rfl), rfl⟩, ⟨rfl, .inl (val_tmp rfl), rfl⟩, trivial⟩ ⟨⟨⟨trivial, ⟨⟨trivial, rfl⟩, rfl⟩⟩, ⟨⟨trivial, rfl⟩, rfl⟩⟩, ⟨⟨trivial, rfl⟩, rfl⟩⟩) ⟨⟨⟨trivial, ⟨⟨trivial, impO_rfl⟩, impO_rfl⟩⟩, ⟨⟨trivial, impO_rfl⟩, impO_nil⟩⟩, ⟨⟨trivial, impO_rfl⟩, impO_rfl⟩⟩) ?_
  refine t_op (hd 10 (by decide)) (q_build [(0, clRow ([⟨1, [2, 2]⟩, ⟨5, []⟩, ⟨3, [0]⟩]))] id (grG ([⟨1, [2, 2]⟩, ⟨5, []⟩, ⟨3, [0]⟩])) zero35 build35 (by exact ⟨⟨rfl, (val_tmp rfl), rfl⟩, trivial⟩) (by decide) ⟨trivial, rfl⟩) ?_
  refine t_call en24 (hd 11 (by decide)) (by exact ⟨⟨(val_tmp rfl), rfl⟩, trivial⟩) (copy_ct ([⟨1, [2, 2]⟩, ⟨5, []⟩, ⟨3, [0]⟩])) ?_
  refine t_op (hd 3 (by decide)) (q_move (val_tmp rfl)) ?_
  refine t_op (hd 12 (by decide)) (q_ext (val_tmp rfl) (by decide)) ?_
  refine t_op (hd 13 (by decide)) (q_ext (val_tmp rfl) (by decide)) ?_
  refine t_alloc 1 (hd 1 (by decide)) zero35 rfl rfl ?_
  refine t_stA (val_tmp rfl) rfl (val_tmp rfl) Try.sizeOf35 ?_
  refine t_op (hd 2 (by decide)) (q_assign (val_tmp rfl)) ?_
  refine t_nil ?_
  refine c_seq ?_
  refine c_rt ?_
  refine t_op (hd 14 (by decide)) (q_move (val_tmp rfl)) ?_
  refine t_op (hd 15 (by decide)) (q_eql (val_tmp rfl) val_const) ?_
  refine t_op (hd 16 (by decide)) (q_move (val_tmp rfl)) ?_
  refine t_opG (g_yes rfl rfl) (hd 17 (by decide)) (fun hg => q_ldBA (val_tmp rfl) rfl Try.isAgg35 Try.sizeOf35 (by decide)) ?_
  refine t_wG (g_yes rfl rfl) (hd 18 (by decide)) (fun hg => w_bs (n := 2) (zget := fun _ => iv 0) [(fun _ => iv (1)), (fun _ => iv (1))] (rowG inCell 0 [1, 1]) Try.underlying24 (fun w => Try.sizeOf3 w) zero3 (by decide) rfl (by decide) ⟨⟨rfl, .inr ⟨rfl, val_const, rfl⟩, rfl⟩, ⟨rfl, .inr ⟨rfl, val_const, rfl⟩, rfl⟩, trivial⟩ ⟨⟨trivial, ⟨trivial, rfl⟩⟩, ⟨trivial, rfl⟩⟩) ?_
  refine t_opG (g_yes rfl rfl) (hd 19 (by decide)) (fun hg => q_build [(0, iv (1)), (1, inRow ([1, 1]))] id (clCell ⟨1, [1, 1]⟩) zero43 build43 (by exact ⟨⟨rfl, val_const, rfl⟩, ⟨rfl, (val_grd (val_tmp rfl) hg), rfl⟩, trivial⟩) (by decide) ⟨⟨trivial, rfl⟩, rfl⟩) ?_
  refine t_wG (g_yes rfl rfl) (hd 20 (by decide)) (fun hg => w_bs (n := 1) (zget := fun _ => iv 0) [(fun _ => iv (0))] (rowG inCell 0 [0]) Try.underlying24 (fun w => Try.sizeOf3 w) zero3 (by decide) rfl (by decide) ⟨⟨rfl, .inr ⟨rfl, val_const, rfl⟩, rfl⟩, trivial⟩ ⟨trivial, ⟨trivial, rfl⟩⟩) ?_
  refine t_opG (g_yes rfl rfl) (hd 21 (by decide)) (fun hg => q_build [(0, iv (3)), (1, inRow ([0]))] id (clCell ⟨3, [0]⟩) zero43 build43 (by exact ⟨⟨rfl, val_const, rfl⟩, ⟨rfl, (val_grd (val_tmp rfl) hg), rfl⟩, trivial⟩) (by decide) ⟨⟨trivial, rfl⟩, rfl⟩) ?_
  refine t_wG (g_yes rfl rfl) (hd 22 (by decide)) (fun hg => w_bs (n := 2) (zget := cmpG [iv 0, SV.v (Value.slice none 0 0)]) [(clCell ⟨1, [1, 1]⟩), (clCell ⟨3, [0]⟩)] (rowG clCell default [⟨1, [1, 1]⟩, ⟨3, [0]⟩]) Try.underlying33 (fun w => Try.sizeOf43 w) zero43 (by decide) rfl (by decide) ⟨⟨rfl, .inl (val_grd (val_tmp rfl) hg), rfl⟩, ⟨rfl, .inl (val_grd (val_tmp rfl) hg), rfl⟩, trivial⟩ ⟨⟨trivial, ⟨⟨trivial, rfl⟩, rfl⟩⟩, ⟨⟨trivial, rfl⟩, rfl⟩⟩) ?_
  refine t_opG (g_yes rfl rfl) (hd 23 (by decide)) (fun hg => q_build [(0, clRow ([⟨1, [1, 1]⟩, ⟨3, [0]⟩]))] id (grG ([⟨1, [1, 1]⟩, ⟨3, [0]⟩])) zero35 build35 (by exact ⟨⟨rfl, (val_grd (val_tmp rfl) hg), rfl⟩, trivial⟩) (by decide) ⟨trivial, rfl⟩) ?_
  refine t_callG (g_yes rfl rfl) en27 (hd 24 (by decide)) (fun hg => (by exact ⟨⟨(val_aggI (g' := grG ((copyR ([⟨1, [2, 2]⟩, ⟨5, []⟩, ⟨3, [0]⟩])).1)) (val_grd (val_tmp rfl) hg) ⟨trivial, imp_rfl⟩), rfl⟩, ⟨(val_grd (val_tmp rfl) hg), rfl⟩, trivial⟩)) (fun hg => gsame_ct ((copyR ([⟨1, [2, 2]⟩, ⟨5, []⟩, ⟨3, [0]⟩])).1) ([⟨1, [1, 1]⟩, ⟨3, [0]⟩])) ?_
  refine t_op (hd 25 (by decide)) (q_and (val_tmp rfl) (fun h => val_grd (val_tmp rfl) h)) ?_
  refine t_op (hd 0 (by decide)) (q_assign (val_tmp rfl)) ?_
  refine t_nil ?_
  refine c_ret ?_
  exact ret1 rfl (val_tmp rfl) rfl (by show bv ((decide ((copyR ([⟨1, [2, 2]⟩, ⟨5, []⟩, ⟨3, [0]⟩])).2 = 0)) && (eqGr ((copyR ([⟨1, [2, 2]⟩, ⟨5, []⟩, ⟨3, [0]⟩])).1) ([⟨1, [1, 1]⟩, ⟨3, [0]⟩]))) = bv true; rfl)

/-- glasshouse/clone.Like -/
theorem like_ct (g h : List Cl) : Ct Try.prog 26 [SV.agg 1 (grG g), SV.agg 1 (grG h)] (sv2 (bv (likeR g h).1) (iv (likeR g h).2)) := by
  refine ct_of Try.func26 rfl (by show 2 ≤ 28; decide) fun E hN => ?_
  have hd : ∀ d, d < 28 → d < E.N := fun d h => Nat.lt_of_lt_of_eq h hN.symm
  refine c_seq ?_
  refine c_rt ?_
  refine t_boxA 1 (hd 2 (by decide)) (val_tmp rfl) rfl rfl ?_
  refine t_boxA 2 (hd 3 (by decide)) (val_tmp rfl) rfl rfl ?_
  refine t_op (hd 4 (by decide)) (q_assign val_const) ?_
  refine t_op (hd 5 (by decide)) (q_assign val_const) ?_
  refine t_nil ?_
  refine c_seq ?_
  refine c_rt ?_
  refine t_op (hd 10 (by decide)) (q_ldBA (val_tmp rfl) rfl Try.isAgg35 Try.sizeOf35 (by decide)) ?_
  refine t_call en24 (hd 11 (by decide)) (by exact ⟨⟨(val_aggI (g' := grG g) (val_tmp rfl) ⟨trivial, imp_rfl⟩), rfl⟩, trivial⟩) (copy_ct g) ?_
  refine t_op (hd 9 (by decide)) (q_move (val_tmp rfl)) ?_
  refine t_op (hd 12 (by decide)) (q_ext (val_tmp rfl) (by decide)) ?_
  refine t_op (hd 13 (by decide)) (q_ext (val_tmp rfl) (by decide)) ?_
  refine t_alloc 3 (hd 6 (by decide)) zero35 rfl rfl ?_
  refine t_stA (val_tmp rfl) rfl (val_tmp rfl) Try.sizeOf35 ?_
  refine t_op (hd 7 (by decide)) (q_assign (val_tmp rfl)) ?_
  refine t_nil ?_
  refine c_seq ?_
  refine c_seq ?_
  refine c_rq ?_
  refine tq_op (hd 14 (by decide)) (q_move (val_tmp rfl)) ?_
  refine tq_op (hd 15 (by decide)) (q_neq (val_tmp rfl) val_const) ?_
  refine tq_nil ?_
  refine c_cond (val_tmp rfl) (fun hc1 => ?_) (fun hc1 => ?_)
  · have hc1s := hc1
    try simp only [Bool.and_eq_true, Bool.or_eq_true, Bool.not_eq_true', Bool.not_eq_false', Bool.or_eq_false_iff, Bool.and_eq_false_iff, decide_eq_true_eq, decide_eq_false_iff_not] at hc1s
    refine c_seq ?_
    refine c_rq ?_
    refine tq_op (hd 16 (by decide)) (q_move (val_tmp rfl)) ?_
    refine tq_op (hd 4 (by decide)) (q_assign val_const) ?_
    refine tq_op (hd 5 (by decide)) (q_assign (val_tmp rfl)) ?_
    refine tq_nil ?_
    refine c_ret ?_
    exact ret2 rfl (val_tmp rfl) (val_tmp rfl) rfl rfl (by show sv2 (bv (false)) (iv ((copyR g).2)) = sv2 (bv (likeR g h).1) (iv (likeR g h).2); rw [likeR, if_pos hc1s])
  · have hc1s := hc1
    try simp only [Bool.and_eq_true, Bool.or_eq_true, Bool.not_eq_true', Bool.not_eq_false', Bool.or_eq_false_iff, Bool.and_eq_false_iff, decide_eq_true_eq, decide_eq_false_iff_not] at hc1s
    refine c_skip ?_
    refine c_seq ?_
    refine c_rt ?_
    refine t_op (hd 18 (by decide)) (q_ldBA (val_tmp rfl) rfl Try.isAgg35 Try.sizeOf35 (by decide)) ?_
    refine t_call en24 (hd 19 (by decide)) (by exact ⟨⟨(val_aggI (g' := grG h) (val_tmp rfl) ⟨trivial, imp_rfl⟩), rfl⟩, trivial⟩) (copy_ct h) ?_
    refine t_op (hd 17 (by decide)) (q_move (val_tmp rfl)) ?_
    refine t_op (hd 20 (by decide)) (q_ext (val_tmp rfl) (by decide)) ?_
    refine t_op (hd 21 (by decide)) (q_ext (val_tmp rfl) (by decide)) ?_
    refine t_alloc 4 (hd 8 (by decide)) zero35 rfl rfl ?_
    refine t_stA (val_tmp rfl) rfl (val_tmp rfl) Try.sizeOf35 ?_
    refine t_op (hd 7 (by decide)) (q_assign (val_tmp rfl)) ?_
    refine t_nil ?_
    refine c_seq ?_
    refine c_seq ?_
    refine c_rq ?_
    refine tq_op (hd 22 (by decide)) (q_move (val_tmp rfl)) ?_
    refine tq_op (hd 23 (by decide)) (q_neq (val_tmp rfl) val_const) ?_
    refine tq_nil ?_
    refine c_cond (val_tmp rfl) (fun hc2 => ?_) (fun hc2 => ?_)
    · have hc2s := hc2
      try simp only [Bool.and_eq_true, Bool.or_eq_true, Bool.not_eq_true', Bool.not_eq_false', Bool.or_eq_false_iff, Bool.and_eq_false_iff, decide_eq_true_eq, decide_eq_false_iff_not] at hc2s
      refine c_seq ?_
      refine c_rq ?_
      refine tq_op (hd 24 (by decide)) (q_move (val_tmp rfl)) ?_
      refine tq_op (hd 4 (by decide)) (q_assign val_const) ?_
      refine tq_op (hd 5 (by decide)) (q_assign (val_tmp rfl)) ?_
      refine tq_nil ?_
      refine c_ret ?_
      exact ret2 rfl (val_tmp rfl) (val_tmp rfl) rfl rfl (by show sv2 (bv (false)) (iv ((copyR h).2)) = sv2 (bv (likeR g h).1) (iv (likeR g h).2); rw [likeR, if_neg (not_not_intro hc1s), if_pos hc2s])
    · have hc2s := hc2
      try simp only [Bool.and_eq_true, Bool.or_eq_true, Bool.not_eq_true', Bool.not_eq_false', Bool.or_eq_false_iff, Bool.and_eq_false_iff, decide_eq_true_eq, decide_eq_false_iff_not] at hc2s
      refine c_skip ?_
      refine c_seq ?_
      refine c_rq ?_
      refine tq_op (hd 25 (by decide)) (q_ldBA (val_tmp rfl) rfl Try.isAgg35 Try.sizeOf35 (by decide)) ?_
      refine tq_op (hd 26 (by decide)) (q_ldBA (val_tmp rfl) rfl Try.isAgg35 Try.sizeOf35 (by decide)) ?_
      refine tq_call en27 (hd 27 (by decide)) (by exact ⟨⟨(val_aggI (g' := grG ((copyR g).1)) (val_tmp rfl) ⟨trivial, imp_rfl⟩), rfl⟩, ⟨(val_aggI (g' := grG ((copyR h).1)) (val_tmp rfl) ⟨trivial, imp_rfl⟩), rfl⟩, trivial⟩) (gsame_ct ((copyR g).1) ((copyR h).1)) ?_
      refine tq_op (hd 4 (by decide)) (q_assign (val_tmp rfl)) ?_
      refine tq_op (hd 5 (by decide)) (q_assign val_const) ?_
      refine tq_nil ?_
      refine c_ret ?_
      exact ret2 rfl (val_tmp rfl) (val_tmp rfl) rfl rfl (by show sv2 (bv (eqGr ((copyR g).1) ((copyR h).1))) (iv (0)) = sv2 (bv (likeR g h).1) (iv (likeR g h).2); rw [likeR, if_neg (not_not_intro hc1s), if_neg (not_not_intro hc2s)])

/-- glasshouse/glasshouselaw.CloneSays -/
theorem cloneSays_ct (g h : List Cl) : Ct Try.prog 8 [SV.agg 1 (grG g), SV.agg 1 (grG h)] (bv true) := by
  refine ct_of Try.func8 rfl (by show 2 ≤ 82; decide) fun E hN => ?_
  have hd : ∀ d, d < 82 → d < E.N := fun d h => Nat.lt_of_lt_of_eq h hN.symm
  refine c_seq ?_
  refine c_rt ?_
  refine t_boxA 1 (hd 2 (by decide)) (val_tmp rfl) rfl rfl ?_
  refine t_boxA 2 (hd 3 (by decide)) (val_tmp rfl) rfl rfl ?_
  refine t_op (hd 4 (by decide)) (q_assign val_const) ?_
  refine t_nil ?_
  refine c_seq ?_
  refine c_rt ?_
  refine t_op (hd 15 (by decide)) (q_ldBA (val_tmp rfl) rfl Try.isAgg35 Try.sizeOf35 (by decide)) ?_
  refine t_call en24 (hd 16 (by decide)) (by exact ⟨⟨(val_aggI (g' := grG g) (val_tmp rfl) ⟨trivial, imp_rfl⟩), rfl⟩, trivial⟩) (copy_ct g) ?_
  refine t_op (hd 14 (by decide)) (q_move (val_tmp rfl)) ?_
  refine t_op (hd 17 (by decide)) (q_ext (val_tmp rfl) (by decide)) ?_
  refine t_op (hd 18 (by decide)) (q_ext (val_tmp rfl) (by decide)) ?_
  refine t_alloc 3 (hd 5 (by decide)) zero35 rfl rfl ?_
  refine t_stA (val_tmp rfl) rfl (val_tmp rfl) Try.sizeOf35 ?_
  refine t_op (hd 6 (by decide)) (q_assign (val_tmp rfl)) ?_
  refine t_nil ?_
  refine c_seq ?_
  refine c_rt ?_
  refine t_op (hd 20 (by decide)) (q_ldBA (val_tmp rfl) rfl Try.isAgg35 Try.sizeOf35 (by decide)) ?_
  refine t_op (hd 21 (by decide)) (q_ldBA (val_tmp rfl) rfl Try.isAgg35 Try.sizeOf35 (by decide)) ?_
  refine t_call en26 (hd 22 (by decide)) (by exact ⟨⟨(val_aggI (g' := grG g) (val_tmp rfl) ⟨trivial, imp_rfl⟩), rfl⟩, ⟨(val_aggI (g' := grG h) (val_tmp rfl) ⟨trivial, imp_rfl⟩), rfl⟩, trivial⟩) (like_ct g h) ?_
  refine t_op (hd 19 (by decide)) (q_move (val_tmp rfl)) ?_
  refine t_op (hd 23 (by decide)) (q_ext (val_tmp rfl) (by decide)) ?_
  refine t_op (hd 24 (by decide)) (q_ext (val_tmp rfl) (by decide)) ?_
  refine t_op (hd 7 (by decide)) (q_assign (val_tmp rfl)) ?_
  refine t_op (hd 8 (by decide)) (q_assign (val_tmp rfl)) ?_
  refine t_nil ?_
  refine c_seq ?_
  refine c_rt ?_
  refine t_op (hd 26 (by decide)) (q_ldBA (val_tmp rfl) rfl Try.isAgg35 Try.sizeOf35 (by decide)) ?_
  refine t_call en32 (hd 27 (by decide)) (by exact ⟨⟨(val_aggI (g' := grG g) (val_tmp rfl) ⟨trivial, imp_rfl⟩), rfl⟩, trivial⟩) (rcopy_ct g) ?_
  refine t_op (hd 25 (by decide)) (q_move (val_tmp rfl)) ?_
  refine t_op (hd 28 (by decide)) (q_ext (val_tmp rfl) (by decide)) ?_
  refine t_op (hd 29 (by decide)) (q_ext (val_tmp rfl) (by decide)) ?_
  refine t_alloc 4 (hd 9 (by decide)) zero35 rfl rfl ?_
  refine t_stA (val_tmp rfl) rfl (val_tmp rfl) Try.sizeOf35 ?_
  refine t_op (hd 10 (by decide)) (q_assign (val_tmp rfl)) ?_
  refine t_nil ?_
  refine c_seq ?_
  refine c_rt ?_
  refine t_op (hd 31 (by decide)) (q_ldBA (val_tmp rfl) rfl Try.isAgg35 Try.sizeOf35 (by decide)) ?_
  refine t_call en32 (hd 32 (by decide)) (by exact ⟨⟨(val_aggI (g' := grG h) (val_tmp rfl) ⟨trivial, imp_rfl⟩), rfl⟩, trivial⟩) (rcopy_ct h) ?_
  refine t_op (hd 30 (by decide)) (q_move (val_tmp rfl)) ?_
  refine t_op (hd 33 (by decide)) (q_ext (val_tmp rfl) (by decide)) ?_
  refine t_op (hd 34 (by decide)) (q_ext (val_tmp rfl) (by decide)) ?_
  refine t_alloc 5 (hd 11 (by decide)) zero35 rfl rfl ?_
  refine t_stA (val_tmp rfl) rfl (val_tmp rfl) Try.sizeOf35 ?_
  refine t_op (hd 12 (by decide)) (q_assign (val_tmp rfl)) ?_
  refine t_nil ?_
  refine c_seq ?_
  refine c_rq ?_
  refine tq_op (hd 35 (by decide)) (q_move (val_tmp rfl)) ?_
  refine tq_op (hd 13 (by decide)) (q_assign (val_tmp rfl)) ?_
  refine tq_nil ?_
  refine c_seq ?_
  refine c_seq ?_
  refine c_rq ?_
  refine tq_op (hd 36 (by decide)) (q_move (val_tmp rfl)) ?_
  refine tq_op (hd 37 (by decide)) (q_eql (val_tmp rfl) val_const) ?_
  refine tq_nil ?_
  refine c_cond (val_tmp rfl) (fun hc1 => ?_) (fun hc1 => ?_)
  · have hc1s := hc1
    try simp only [Bool.and_eq_true, Bool.or_eq_true, Bool.not_eq_true', Bool.not_eq_false', Bool.or_eq_false_iff, Bool.and_eq_false_iff, decide_eq_true_eq, decide_eq_false_iff_not] at hc1s
    refine c_rq ?_
    refine tq_op (hd 38 (by decide)) (q_move (val_tmp rfl)) ?_
    refine tq_op (hd 13 (by decide)) (q_assign (val_tmp rfl)) ?_
    refine tq_nil ?_
    refine c_seq ?_
    refine c_rqd (by kernel_rfl) (by kernel_rfl) ?_
    refine tq_call en25 (hd 39 (by decide)) (by exact trivial) (cloned_ct) ?_
    refine tq_op (hd 40 (by decide)) (q_move (val_tmp rfl)) ?_
    refine tq_opG (g_yes rfl rfl) (hd 41 (by decide)) (fun hg => q_ldBA (val_tmp rfl) rfl Try.isAgg35 Try.sizeOf35 (by decide)) ?_
    refine tq_callG (g_yes rfl rfl) en28 (hd 42 (by decide)) (fun hg => (by exact ⟨⟨(val_aggI (g' := grG g) (val_grd (val_tmp rfl) hg) ⟨trivial, imp_rfl⟩), rfl⟩, trivial⟩)) (fun hg => gcheck_ct g) ?_
    refine tq_opG (g_yes rfl rfl) (hd 43 (by decide)) (fun hg => q_ldBA (val_tmp rfl) rfl Try.isAgg35 Try.sizeOf35 (by decide)) ?_
    refine tq_callG (g_yes rfl rfl) en33 (hd 44 (by decide)) (fun hg => (by exact ⟨⟨(val_aggI (g' := grG g) (val_grd (val_tmp rfl) hg) ⟨trivial, imp_rfl⟩), rfl⟩, trivial⟩)) (fun hg => rgcheck_ct g) ?_
    refine tq_opG (g_yes rfl rfl) (hd 45 (by decide)) (fun hg => q_eql (val_grd (val_tmp rfl) hg) (val_grd (val_tmp rfl) hg)) ?_
    refine tq_op (hd 46 (by decide)) (q_and (val_tmp rfl) (fun h => val_grd (val_tmp rfl) h)) ?_
    refine tq_op (hd 47 (by decide)) (q_move (val_tmp rfl)) ?_
    refine tq_opG (g_yes rfl rfl) (hd 48 (by decide)) (fun hg => q_ldBA (val_tmp rfl) rfl Try.isAgg35 Try.sizeOf35 (by decide)) ?_
    refine tq_opG (g_yes rfl rfl) (hd 49 (by decide)) (fun hg => q_ldBA (val_tmp rfl) rfl Try.isAgg35 Try.sizeOf35 (by decide)) ?_
    refine tq_callG (g_yes rfl rfl) en27 (hd 50 (by decide)) (fun hg => (by exact ⟨⟨(val_aggI (g' := grG g) (val_grd (val_tmp rfl) hg) ⟨trivial, imp_rfl⟩), rfl⟩, ⟨(val_aggI (g' := grG h) (val_grd (val_tmp rfl) hg) ⟨trivial, imp_rfl⟩), rfl⟩, trivial⟩)) (fun hg => gsame_ct g h) ?_
    refine tq_opG (g_yes rfl rfl) (hd 51 (by decide)) (fun hg => q_ldBA (val_tmp rfl) rfl Try.isAgg35 Try.sizeOf35 (by decide)) ?_
    refine tq_opG (g_yes rfl rfl) (hd 52 (by decide)) (fun hg => q_ldBA (val_tmp rfl) rfl Try.isAgg35 Try.sizeOf35 (by decide)) ?_
    refine tq_callG (g_yes rfl rfl) en34 (hd 53 (by decide)) (fun hg => (by exact ⟨⟨(val_aggI (g' := grG g) (val_grd (val_tmp rfl) hg) ⟨trivial, imp_rfl⟩), rfl⟩, ⟨(val_aggI (g' := grG h) (val_grd (val_tmp rfl) hg) ⟨trivial, imp_rfl⟩), rfl⟩, trivial⟩)) (fun hg => rgsame_ct g h) ?_
    refine tq_opG (g_yes rfl rfl) (hd 54 (by decide)) (fun hg => q_eqlb (val_grd (val_tmp rfl) hg) (val_grd (val_tmp rfl) hg) Try.underlying4) ?_
    refine tq_op (hd 55 (by decide)) (q_and (val_tmp rfl) (fun h => val_grd (val_tmp rfl) h)) ?_
    refine tq_op (hd 56 (by decide)) (q_move (val_tmp rfl)) ?_
    refine tq_opG (g_yes rfl rfl) (hd 57 (by decide)) (fun hg => q_move (val_tmp rfl)) ?_
    refine tq_opG (g_yes rfl rfl) (hd 58 (by decide)) (fun hg => q_move (val_tmp rfl)) ?_
    refine tq_opG (g_yes rfl rfl) (hd 59 (by decide)) (fun hg => q_eql (val_grd (val_tmp rfl) hg) (val_grd (val_tmp rfl) hg)) ?_
    refine tq_op (hd 60 (by decide)) (q_and (val_tmp rfl) (fun h => val_grd (val_tmp rfl) h)) ?_
    refine tq_op (hd 61 (by decide)) (q_move (val_tmp rfl)) ?_
    refine tq_opG (g_yes rfl rfl) (hd 62 (by decide)) (fun hg => q_ldBA (val_tmp rfl) rfl Try.isAgg35 Try.sizeOf35 (by decide)) ?_
    refine tq_opG (g_yes rfl rfl) (hd 63 (by decide)) (fun hg => q_ldBA (val_tmp rfl) rfl Try.isAgg35 Try.sizeOf35 (by decide)) ?_
    refine tq_callG (g_yes rfl rfl) en34 (hd 64 (by decide)) (fun hg => (by exact ⟨⟨(val_aggI (g' := grG ((copyR g).1)) (val_grd (val_tmp rfl) hg) ⟨trivial, imp_rfl⟩), rfl⟩, ⟨(val_aggI (g' := grG ((copyR g).1)) (val_grd (val_tmp rfl) hg) ⟨trivial, imp_rfl⟩), rfl⟩, trivial⟩)) (fun hg => rgsame_ct ((copyR g).1) ((copyR g).1)) ?_
    refine tq_op (hd 65 (by decide)) (q_and (val_tmp rfl) (fun h => val_grd (val_tmp rfl) h)) ?_
    refine tq_op (hd 66 (by decide)) (q_move (val_tmp rfl)) ?_
    refine tq_opG (g_yes rfl rfl) (hd 67 (by decide)) (fun hg => q_move (val_tmp rfl)) ?_
    refine tq_opG (g_yes rfl rfl) (hd 68 (by decide)) (fun hg => q_move (val_tmp rfl)) ?_
    refine tq_opG (g_yes rfl rfl) (hd 69 (by decide)) (fun hg => q_eql (val_grd (val_tmp rfl) hg) (val_grd (val_tmp rfl) hg)) ?_
    refine tq_op (hd 70 (by decide)) (q_and (val_tmp rfl) (fun h => val_grd (val_tmp rfl) h)) ?_
    refine tq_op (hd 71 (by decide)) (q_move (val_tmp rfl)) ?_
    refine tq_opG (g_yes rfl rfl) (hd 72 (by decide)) (fun hg => q_move (val_tmp rfl)) ?_
    refine tq_opG (g_yes rfl rfl) (hd 73 (by decide)) (fun hg => q_move (val_tmp rfl)) ?_
    refine tq_opG (g_yes rfl rfl) (hd 74 (by decide)) (fun hg => q_eql (val_grd (val_tmp rfl) hg) val_const) ?_
    refine tq_opG (g_yes rfl rfl) (hd 75 (by decide)) (fun hg => q_move (val_grd (val_tmp rfl) hg)) ?_
    refine tq_opG (g_gyes rfl rfl) (hd 76 (by decide)) (fun hg => q_ldBA (val_tmp rfl) rfl Try.isAgg35 Try.sizeOf35 (by decide)) ?_
    refine tq_opG (g_gyes rfl rfl) (hd 77 (by decide)) (fun hg => q_ldBA (val_tmp rfl) rfl Try.isAgg35 Try.sizeOf35 (by decide)) ?_
    refine tq_callG (g_gyes rfl rfl) en34 (hd 78 (by decide)) (fun hg => (by exact ⟨⟨(val_aggI (g' := grG ((copyR g).1)) (val_grd (val_tmp rfl) hg) ⟨trivial, imp_rfl⟩), rfl⟩, ⟨(val_aggI (g' := grG ((copyR h).1)) (val_grd (val_tmp rfl) hg) ⟨trivial, imp_rfl⟩), rfl⟩, trivial⟩)) (fun hg => rgsame_ct ((copyR g).1) ((copyR h).1)) ?_
    refine tq_opG (g_yes rfl rfl) (hd 79 (by decide)) (fun hg => q_and (val_grd (val_tmp rfl) hg) (fun h => val_grd (val_tmp rfl) (andI hg h))) ?_
    refine tq_opG (g_yes rfl rfl) (hd 80 (by decide)) (fun hg => q_eqlb (val_grd (val_tmp rfl) hg) (val_grd (val_tmp rfl) hg) Try.underlying4) ?_
    refine tq_op (hd 81 (by decide)) (q_and (val_tmp rfl) (fun h => val_grd (val_tmp rfl) h)) ?_
    refine tq_op (hd 4 (by decide)) (q_assign (val_tmp rfl)) ?_
    refine tq_nil ?_
    refine c_ret ?_
    exact ret1 rfl (val_tmp rfl) rfl (by show bv ((((((true && (decide (checkGr g = checkGr g))) && ((eqGr g h) == (eqGr g h))) && (decide ((copyR g).2 = (copyR g).2))) && (eqGr ((copyR g).1) ((copyR g).1))) && (decide ((likeR g h).2 = (copyR h).2))) && (((likeR g h).1) == ((decide ((copyR h).2 = 0)) && (eqGr ((copyR g).1) ((copyR h).1))))) = bv true; exact congrArg bv (ret_0 hc1s))
  · have hc1s := hc1
    try simp only [Bool.and_eq_true, Bool.or_eq_true, Bool.not_eq_true', Bool.not_eq_false', Bool.or_eq_false_iff, Bool.and_eq_false_iff, decide_eq_true_eq, decide_eq_false_iff_not] at hc1s
    refine c_skip ?_
    refine c_seq ?_
    refine c_rqd (by kernel_rfl) (by kernel_rfl) ?_
    refine tq_call en25 (hd 39 (by decide)) (by exact trivial) (cloned_ct) ?_
    refine tq_op (hd 40 (by decide)) (q_move (val_tmp rfl)) ?_
    refine tq_opG (g_yes rfl rfl) (hd 41 (by decide)) (fun hg => q_ldBA (val_tmp rfl) rfl Try.isAgg35 Try.sizeOf35 (by decide)) ?_
    refine tq_callG (g_yes rfl rfl) en28 (hd 42 (by decide)) (fun hg => (by exact ⟨⟨(val_aggI (g' := grG g) (val_grd (val_tmp rfl) hg) ⟨trivial, imp_rfl⟩), rfl⟩, trivial⟩)) (fun hg => gcheck_ct g) ?_
    refine tq_opG (g_yes rfl rfl) (hd 43 (by decide)) (fun hg => q_ldBA (val_tmp rfl) rfl Try.isAgg35 Try.sizeOf35 (by decide)) ?_
    refine tq_callG (g_yes rfl rfl) en33 (hd 44 (by decide)) (fun hg => (by exact ⟨⟨(val_aggI (g' := grG g) (val_grd (val_tmp rfl) hg) ⟨trivial, imp_rfl⟩), rfl⟩, trivial⟩)) (fun hg => rgcheck_ct g) ?_
    refine tq_opG (g_yes rfl rfl) (hd 45 (by decide)) (fun hg => q_eql (val_grd (val_tmp rfl) hg) (val_grd (val_tmp rfl) hg)) ?_
    refine tq_op (hd 46 (by decide)) (q_and (val_tmp rfl) (fun h => val_grd (val_tmp rfl) h)) ?_
    refine tq_op (hd 47 (by decide)) (q_move (val_tmp rfl)) ?_
    refine tq_opG (g_yes rfl rfl) (hd 48 (by decide)) (fun hg => q_ldBA (val_tmp rfl) rfl Try.isAgg35 Try.sizeOf35 (by decide)) ?_
    refine tq_opG (g_yes rfl rfl) (hd 49 (by decide)) (fun hg => q_ldBA (val_tmp rfl) rfl Try.isAgg35 Try.sizeOf35 (by decide)) ?_
    refine tq_callG (g_yes rfl rfl) en27 (hd 50 (by decide)) (fun hg => (by exact ⟨⟨(val_aggI (g' := grG g) (val_grd (val_tmp rfl) hg) ⟨trivial, imp_rfl⟩), rfl⟩, ⟨(val_aggI (g' := grG h) (val_grd (val_tmp rfl) hg) ⟨trivial, imp_rfl⟩), rfl⟩, trivial⟩)) (fun hg => gsame_ct g h) ?_
    refine tq_opG (g_yes rfl rfl) (hd 51 (by decide)) (fun hg => q_ldBA (val_tmp rfl) rfl Try.isAgg35 Try.sizeOf35 (by decide)) ?_
    refine tq_opG (g_yes rfl rfl) (hd 52 (by decide)) (fun hg => q_ldBA (val_tmp rfl) rfl Try.isAgg35 Try.sizeOf35 (by decide)) ?_
    refine tq_callG (g_yes rfl rfl) en34 (hd 53 (by decide)) (fun hg => (by exact ⟨⟨(val_aggI (g' := grG g) (val_grd (val_tmp rfl) hg) ⟨trivial, imp_rfl⟩), rfl⟩, ⟨(val_aggI (g' := grG h) (val_grd (val_tmp rfl) hg) ⟨trivial, imp_rfl⟩), rfl⟩, trivial⟩)) (fun hg => rgsame_ct g h) ?_
    refine tq_opG (g_yes rfl rfl) (hd 54 (by decide)) (fun hg => q_eqlb (val_grd (val_tmp rfl) hg) (val_grd (val_tmp rfl) hg) Try.underlying4) ?_
    refine tq_op (hd 55 (by decide)) (q_and (val_tmp rfl) (fun h => val_grd (val_tmp rfl) h)) ?_
    refine tq_op (hd 56 (by decide)) (q_move (val_tmp rfl)) ?_
    refine tq_opG (g_yes rfl rfl) (hd 57 (by decide)) (fun hg => q_move (val_tmp rfl)) ?_
    refine tq_opG (g_yes rfl rfl) (hd 58 (by decide)) (fun hg => q_move (val_tmp rfl)) ?_
    refine tq_opG (g_yes rfl rfl) (hd 59 (by decide)) (fun hg => q_eql (val_grd (val_tmp rfl) hg) (val_grd (val_tmp rfl) hg)) ?_
    refine tq_op (hd 60 (by decide)) (q_and (val_tmp rfl) (fun h => val_grd (val_tmp rfl) h)) ?_
    refine tq_op (hd 61 (by decide)) (q_move (val_tmp rfl)) ?_
    refine tq_opG (g_yes rfl rfl) (hd 62 (by decide)) (fun hg => q_ldBA (val_tmp rfl) rfl Try.isAgg35 Try.sizeOf35 (by decide)) ?_
    refine tq_opG (g_yes rfl rfl) (hd 63 (by decide)) (fun hg => q_ldBA (val_tmp rfl) rfl Try.isAgg35 Try.sizeOf35 (by decide)) ?_
    refine tq_callG (g_yes rfl rfl) en34 (hd 64 (by decide)) (fun hg => (by exact ⟨⟨(val_aggI (g' := grG ((copyR g).1)) (val_grd (val_tmp rfl) hg) ⟨trivial, imp_rfl⟩), rfl⟩, ⟨(val_aggI (g' := grG ((copyR g).1)) (val_grd (val_tmp rfl) hg) ⟨trivial, imp_rfl⟩), rfl⟩, trivial⟩)) (fun hg => rgsame_ct ((copyR g).1) ((copyR g).1)) ?_
    refine tq_op (hd 65 (by decide)) (q_and (val_tmp rfl) (fun h => val_grd (val_tmp rfl) h)) ?_
    refine tq_op (hd 66 (by decide)) (q_move (val_tmp rfl)) ?_
    refine tq_opG (g_yes rfl rfl) (hd 67 (by decide)) (fun hg => q_move (val_tmp rfl)) ?_
    refine tq_opG (g_yes rfl rfl) (hd 68 (by decide)) (fun hg => q_move (val_tmp rfl)) ?_
    refine tq_opG (g_yes rfl rfl) (hd 69 (by decide)) (fun hg => q_eql (val_grd (val_tmp rfl) hg) (val_grd (val_tmp rfl) hg)) ?_
    refine tq_op (hd 70 (by decide)) (q_and (val_tmp rfl) (fun h => val_grd (val_tmp rfl) h)) ?_
    refine tq_op (hd 71 (by decide)) (q_move (val_tmp rfl)) ?_
    refine tq_opG (g_yes rfl rfl) (hd 72 (by decide)) (fun hg => q_move (val_tmp rfl)) ?_
    refine tq_opG (g_yes rfl rfl) (hd 73 (by decide)) (fun hg => q_move (val_tmp rfl)) ?_
    refine tq_opG (g_yes rfl rfl) (hd 74 (by decide)) (fun hg => q_eql (val_grd (val_tmp rfl) hg) val_const) ?_
    refine tq_opG (g_yes rfl rfl) (hd 75 (by decide)) (fun hg => q_move (val_grd (val_tmp rfl) hg)) ?_
    refine tq_opG (g_gyes rfl rfl) (hd 76 (by decide)) (fun hg => q_ldBA (val_tmp rfl) rfl Try.isAgg35 Try.sizeOf35 (by decide)) ?_
    refine tq_opG (g_gyes rfl rfl) (hd 77 (by decide)) (fun hg => q_ldBA (val_tmp rfl) rfl Try.isAgg35 Try.sizeOf35 (by decide)) ?_
    refine tq_callG (g_gyes rfl rfl) en34 (hd 78 (by decide)) (fun hg => (by exact ⟨⟨(val_aggI (g' := grG ((copyR g).1)) (val_grd (val_tmp rfl) hg) ⟨trivial, imp_rfl⟩), rfl⟩, ⟨(val_aggI (g' := grG ((copyR h).1)) (val_grd (val_tmp rfl) hg) ⟨trivial, imp_rfl⟩), rfl⟩, trivial⟩)) (fun hg => rgsame_ct ((copyR g).1) ((copyR h).1)) ?_
    refine tq_opG (g_yes rfl rfl) (hd 79 (by decide)) (fun hg => q_and (val_grd (val_tmp rfl) hg) (fun h => val_grd (val_tmp rfl) (andI hg h))) ?_
    refine tq_opG (g_yes rfl rfl) (hd 80 (by decide)) (fun hg => q_eqlb (val_grd (val_tmp rfl) hg) (val_grd (val_tmp rfl) hg) Try.underlying4) ?_
    refine tq_op (hd 81 (by decide)) (q_and (val_tmp rfl) (fun h => val_grd (val_tmp rfl) h)) ?_
    refine tq_op (hd 4 (by decide)) (q_assign (val_tmp rfl)) ?_
    refine tq_nil ?_
    refine c_ret ?_
    exact ret1 rfl (val_tmp rfl) rfl (by show bv ((((((true && (decide (checkGr g = checkGr g))) && ((eqGr g h) == (eqGr g h))) && (decide ((copyR g).2 = (copyR g).2))) && (eqGr ((copyR g).1) ((copyR g).1))) && (decide ((likeR g h).2 = (copyR g).2))) && (((likeR g h).1) == ((decide ((copyR g).2 = 0)) && (eqGr ((copyR g).1) ((copyR h).1))))) = bv true; exact congrArg bv (ret_1 hc1s))

end Go.Proofs.Ytghkpailmdlhgaa
