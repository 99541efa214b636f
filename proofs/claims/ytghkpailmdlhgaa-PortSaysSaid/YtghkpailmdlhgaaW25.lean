import Derived.Test.YtghkpailmdlhgaaW24
set_option linter.unusedVariables false
set_option linter.unusedSimpArgs false
namespace Go.Proofs.Ytghkpailmdlhgaa
open Go.RowKit Go.Eng
/-- glasshouse/glasshouseref.PortPulled -/
theorem rppull_ct (l : List Pt) (fr k o t : Int) : Ct Try.prog 59 [ptRow l, iv (fr), iv (k), iv (o), iv (t)] (sv3 (ptRow (pullR l fr k o t).1) (SV.agg 1 (grG (pullR l fr k o t).2.1)) (iv (pullR l fr k o t).2.2)) := by
 refine CtO 29 Try.func59 rfl rfl rfl fun E => Rl (V (s := 0) rfl) fun hl0 => Sq <| Rt <| Bx1 1 (V rfl) rfl rfl rfl <| U (As (Vn (k := 5) (get := rowG ptCell default []))) <| Al 2 zero35 rfl rfl <| U (As K) <| Nt <| Sq <| Rt <| Al 3 zero35 rfl rfl <| Nt <| Sq <| Rt <| U (Mv (V rfl)) <| U (Mv (V rfl)) <| U (LdB (V rfl) rfl Ga3 (by decide)) <| U (Mv (V rfl)) <| U (Mv (V rfl)) <| U (Mk (caps := [SV.bp 1 0, SV.bp 3 0]) ⟨(V rfl), (V rfl), Z⟩) <| t_boxI 3 (fun zt => ([clRow ([])] : List SV).getD zt .junk) rfl ⟨Z, In⟩ <| CM (cargs := [ptRow l, iv (fr), iv (k), iv (o), iv (t), fnL 80 [SV.bp 1002 0, SV.bp 1001 0]]) [(1001, 3), (1002, 1)] [] en77 (by exact ⟨(V rfl), (V rfl), (V rfl), (V rfl), (V rfl), (VE (V rfl) (An rfl)), Z⟩) (chPull_ct l fr k o t []) (by exact ⟨⟨_, rfl, ⟨rfl, rfl, (An rfl)⟩⟩, ⟨_, rfl, ⟨rfl, rfl, (An rfl)⟩⟩, Z⟩) rfl rfl rfl rfl <| U (Mv (V rfl)) <| U (Xt (V rfl) (by decide)) <| U (Xt (V rfl) (by decide)) <| U (As (V rfl)) <| U (As (V rfl)) <| Nt <| Sq <| c_rd (fun e => ⟨[(26, cj (e 0) (ptRow ((changedR l fr k o t (dpl l k [])).1))), (27, cj (e 1) (SV.agg 1 (fun zi => (fun zt => SV.renm (rn [(1001, 3), (1002, 1)]) ((grG (chG l fr k o t [])) zt)) (0 + zi)))), (28, cj (e 2) (iv ((changedR l fr k o t (dpl l k [])).2))), (10, cj (e 3) (ptRow ((changedR l fr k o t (dpl l k [])).1))), (12, cj (e 5) (iv ((changedR l fr k o t (dpl l k [])).2))), (11, SV.bp 2 0), (13, SV.bp 3 0), (14, ptRow ((changedR l fr k o t (dpl l k [])).1)), (15, iv ((changedR l fr k o t (dpl l k [])).2))], (cb (e 4) [(2, Own.box 1 (fun zi => (fun zt => SV.renm (rn [(1001, 3), (1002, 1)]) ((grG (chG l fr k o t [])) zt)) (0 + zi)) 35), (3, Own.box 1 (fun zt => SV.renm (rn [(1001, 3), (1002, 1)]) ((grG (chG l fr k o t [])) zt)) 35)] [(2, Own.box 1 (cmpG [SV.v (Value.slice none 0 0)]) 35), (3, Own.box 1 (fun zt => SV.renm (rn [(1001, 3), (1002, 1)]) ((grG (chG l fr k o t [])) zt)) 35)])⟩) ⟨[(26, ptRow ((changedR l fr k o t (dpl l k [])).1)), (27, SV.agg 1 (fun zi => (fun zt => SV.renm (rn [(1001, 3), (1002, 1)]) ((grG (chG l fr k o t [])) zt)) (0 + zi))), (28, iv ((changedR l fr k o t (dpl l k [])).2)), (10, ptRow ((changedR l fr k o t (dpl l k [])).1)), (12, iv ((changedR l fr k o t (dpl l k [])).2)), (11, SV.bp 2 0), (13, SV.bp 3 0), (14, ptRow ((changedR l fr k o t (dpl l k [])).1)), (15, iv ((changedR l fr k o t (dpl l k [])).2))], [(2, Own.box 1 (fun zi => (fun zt => SV.renm (rn [(1001, 3), (1002, 1)]) ((grG (chG l fr k o t [])) zt)) (0 + zi)) 35), (3, Own.box 1 (fun zt => SV.renm (rn [(1001, 3), (1002, 1)]) ((grG (chG l fr k o t [])) zt)) 35)]⟩ (by kernel_rfl) (by kernel_rfl) ?_ ⟨?_, ?_, ?_, ?_, ?_, ?_, Z⟩ ?_ ?_
 ·show Weak _ _ ⟨[(26, SV.junk), (27, SV.junk), (28, SV.junk), (10, SV.junk), (12, SV.junk), (11, SV.bp 2 0), (13, SV.bp 3 0), (14, ptRow ((changedR l fr k o t (dpl l k [])).1)), (15, iv ((changedR l fr k o t (dpl l k [])).2))], [(2, Own.box 1 (cmpG [SV.v (Value.slice none 0 0)]) 35), (3, Own.box 1 (fun zt => SV.renm (rn [(1001, 3), (1002, 1)]) ((grG (chG l fr k o t [])) zt)) 35)]⟩
  refine We ?_ ?_
  ·exact ⟨Vj, Vj, Vj, Vj, Vj, V rfl, V rfl, V rfl, V rfl, Z⟩
  ·exact ⟨⟨_, rfl, ⟨rfl, rfl, (An rfl)⟩⟩, ⟨_, rfl, ⟨rfl, rfl, (An rfl)⟩⟩, Z⟩
 ·intro e hdn he hdp
  have h4 : e 4 = false := fls he fun q => by obtain ⟨-, r3, -, -, -, -⟩ := (show e 1 = true ∧ e 3 = true ∧ e 0 = true ∧ e 1 = true ∧ e 3 = true ∧ True from hdn 4 q); obtain ⟨r0, -, -⟩ := (show e 0 = true ∧ e 0 = true ∧ True from hdn 3 r3); exact r0
  simp only [setE, he, h4, cj_t, cj_f, cjn_t, cjn_f, cb_t, cb_f]
  refine U (Mv (V rfl)) <| Nt <| We ?_ ?_
  ·exact ⟨V rfl, V rfl, V rfl, V rfl, V rfl, V rfl, V rfl, V rfl, V rfl, Z⟩
  ·exact ⟨⟨_, rfl, ⟨rfl, rfl, (An rfl)⟩⟩, ⟨_, rfl, ⟨rfl, rfl, (An rfl)⟩⟩, Z⟩
 ·intro e hdn he hdp
  have h4 : e 4 = false := fls he fun q => by obtain ⟨r1, -, -, -, -, -⟩ := (show e 1 = true ∧ e 3 = true ∧ e 0 = true ∧ e 1 = true ∧ e 3 = true ∧ True from hdn 4 q); exact r1
  simp only [setE, he, h4, cj_t, cj_f, cjn_t, cjn_f, cb_t, cb_f]
  refine U (LBA (V rfl) rfl Ga35 Sz35 (by decide)) <| Nt <| We ?_ ?_
  ·exact ⟨V rfl, V rfl, V rfl, V rfl, V rfl, V rfl, V rfl, V rfl, V rfl, Z⟩
  ·exact ⟨⟨_, rfl, ⟨rfl, rfl, (An rfl)⟩⟩, ⟨_, rfl, ⟨rfl, rfl, (An rfl)⟩⟩, Z⟩
 ·intro e hdn he hdp
  simp only [setE, he, cj_t, cj_f, cjn_t, cjn_f, cb_t, cb_f]
  exact U (Mv (V rfl)) <| Nt <| weakS ⟨V rfl, V rfl, V rfl, V rfl, V rfl, V rfl, V rfl, V rfl, V rfl, Z⟩
 ·intro e hdn he hdp
  obtain ⟨h0, -, -⟩ := (show e 0 = true ∧ e 0 = true ∧ True from hdp)
  have h4 : e 4 = false := fls he fun q => by obtain ⟨-, r3, -, -, -, -⟩ := (show e 1 = true ∧ e 3 = true ∧ e 0 = true ∧ e 1 = true ∧ e 3 = true ∧ True from hdn 4 q); exact r3
  simp only [setE, h0, he, h4, cj_t, cj_f, cjn_t, cjn_f, cb_t, cb_f]
  refine U (As (V rfl)) <| Nt <| We ?_ ?_
  ·exact ⟨V rfl, V rfl, V rfl, V rfl, V rfl, V rfl, V rfl, V rfl, V rfl, Z⟩
  ·exact ⟨⟨_, rfl, ⟨rfl, rfl, (An rfl)⟩⟩, ⟨_, rfl, ⟨rfl, rfl, (An rfl)⟩⟩, Z⟩
 ·intro e hdn he hdp
  obtain ⟨h1, h3, h0, -, -, -⟩ := (show e 1 = true ∧ e 3 = true ∧ e 0 = true ∧ e 1 = true ∧ e 3 = true ∧ True from hdp)
  simp only [setE, h0, h1, h3, he, cj_t, cj_f, cjn_t, cjn_f, cb_t, cb_f]
  refine StA (V rfl) rfl (V rfl) Sz35 <| Nt <| We ?_ ?_
  ·exact ⟨V rfl, V rfl, V rfl, V rfl, V rfl, V rfl, V rfl, V rfl, V rfl, Z⟩
  ·exact ⟨⟨_, rfl, ⟨rfl, rfl, (An rfl)⟩⟩, ⟨_, rfl, ⟨rfl, rfl, (An rfl)⟩⟩, Z⟩
 ·intro e hdn he hdp
  obtain ⟨h2, h4, h0, h1, -, h3, -, -⟩ := (show e 2 = true ∧ e 4 = true ∧ e 0 = true ∧ e 1 = true ∧ e 2 = true ∧ e 3 = true ∧ e 4 = true ∧ True from hdp)
  simp only [setE, h0, h1, h2, h3, h4, he, cj_t, cj_f, cjn_t, cjn_f, cb_t, cb_f]
  refine U (As (V rfl)) <| Nt <| We ?_ ?_
  ·exact ⟨V rfl, V rfl, V rfl, V rfl, V rfl, V rfl, V rfl, V rfl, V rfl, Z⟩
  ·exact ⟨⟨_, rfl, ⟨rfl, rfl, (An rfl)⟩⟩, ⟨_, rfl, ⟨rfl, rfl, (An rfl)⟩⟩, Z⟩
 ·intro e he
  have h0 := he 0 (by decide)
  have h1 := he 1 (by decide)
  have h2 := he 2 (by decide)
  have h3 := he 3 (by decide)
  have h4 := he 4 (by decide)
  have h5 := he 5 (by decide)
  show Weak _ ⟨[(26, cj (e 0) (ptRow ((changedR l fr k o t (dpl l k [])).1))), (27, cj (e 1) (SV.agg 1 (fun zi => (fun zt => SV.renm (rn [(1001, 3), (1002, 1)]) ((grG (chG l fr k o t [])) zt)) (0 + zi)))), (28, cj (e 2) (iv ((changedR l fr k o t (dpl l k [])).2))), (10, cj (e 3) (ptRow ((changedR l fr k o t (dpl l k [])).1))), (12, cj (e 5) (iv ((changedR l fr k o t (dpl l k [])).2))), (11, SV.bp 2 0), (13, SV.bp 3 0), (14, ptRow ((changedR l fr k o t (dpl l k [])).1)), (15, iv ((changedR l fr k o t (dpl l k [])).2))], (cb (e 4) [(2, Own.box 1 (fun zi => (fun zt => SV.renm (rn [(1001, 3), (1002, 1)]) ((grG (chG l fr k o t [])) zt)) (0 + zi)) 35), (3, Own.box 1 (fun zt => SV.renm (rn [(1001, 3), (1002, 1)]) ((grG (chG l fr k o t [])) zt)) 35)] [(2, Own.box 1 (cmpG [SV.v (Value.slice none 0 0)]) 35), (3, Own.box 1 (fun zt => SV.renm (rn [(1001, 3), (1002, 1)]) ((grG (chG l fr k o t [])) zt)) 35)])⟩ _
  simp only [h0, h1, h2, h3, h4, h5]
  show Weak _ ⟨[(26, ptRow ((changedR l fr k o t (dpl l k [])).1)), (27, SV.agg 1 (fun zi => (fun zt => SV.renm (rn [(1001, 3), (1002, 1)]) ((grG (chG l fr k o t [])) zt)) (0 + zi))), (28, iv ((changedR l fr k o t (dpl l k [])).2)), (10, ptRow ((changedR l fr k o t (dpl l k [])).1)), (12, iv ((changedR l fr k o t (dpl l k [])).2)), (11, SV.bp 2 0), (13, SV.bp 3 0), (14, ptRow ((changedR l fr k o t (dpl l k [])).1)), (15, iv ((changedR l fr k o t (dpl l k [])).2))], [(2, Own.box 1 (fun zi => (fun zt => SV.renm (rn [(1001, 3), (1002, 1)]) ((grG (chG l fr k o t [])) zt)) (0 + zi)) 35), (3, Own.box 1 (fun zt => SV.renm (rn [(1001, 3), (1002, 1)]) ((grG (chG l fr k o t [])) zt)) 35)]⟩ _
  refine We ?_ ?_
  ·exact ⟨V rfl, Va (V rfl) (An rfl), V rfl, V rfl, V rfl, V rfl, V rfl, V rfl, V rfl, Z⟩
  ·exact ⟨⟨_, rfl, ⟨rfl, rfl, (An rfl)⟩⟩, ⟨_, rfl, ⟨rfl, rfl, (An rfl)⟩⟩, Z⟩
 exact Rx <| RR3 rfl (rv_tmp (V rfl)) (rv_aggI (g' := grG (chG l fr k o t [])) (rv_cell (V rfl) rfl Ga35 Sz35) ⟨Z, Ir⟩) (rv_tmp (V rfl)) rfl rfl rfl (by show sv3 (ptRow ((changedR l fr k o t (dpl l k [])).1)) (SV.agg 1 (grG (chG l fr k o t []))) (iv ((changedR l fr k o t (dpl l k [])).2)) = sv3 (ptRow (pullR l fr k o t).1) (SV.agg 1 (grG (pullR l fr k o t).2.1)) (iv (pullR l fr k o t).2.2); rw [← pullR_eq.1, ← pullR_eq.2.1, ← pullR_eq.2.2])

/-- glasshouse/glasshouseref.PortsOpened -/
theorem rpopen_ct (l : List Pt) (fr o t : Int) : Ct Try.prog 56 [ptRow l, iv (fr), iv (o), iv (t)] (sv3 (ptRow (openR l fr o t).1) (iv (openR l fr o t).2.1) (iv (openR l fr o t).2.2)) := by
 refine CtO 58 Try.func56 rfl rfl rfl fun E => Rl (V (s := 0) rfl) fun hl0 => Sq <| Rq <| O (As (Vn (k := 5) (get := rowG ptCell default []))) <| O (As K) <| O (As K) <| Nq <| Sq <| Rq <| O (Mv (V rfl)) <| O (Mv (V rfl)) <| CQ en61 (by exact ⟨⟨(V rfl), rfl⟩, ⟨(V rfl), rfl⟩, Z⟩) (rpcheck_ct l fr) <| O (As (V rfl)) <| Nq <| Sq <| Bo <| Sq <| Rq <| O (Mv (V rfl)) <| O (Qn (V rfl) K) <| O (As (V rfl)) <| Nq <| Cd (V rfl) (fun hc1 => ?_) (fun hc1 => ?_)
 ·have hc1s := hc1; try simp only [BL] at hc1s
  refine Sk <| Sq <| Sq <| Rq <| O (Mv (V rfl)) <| O (Qn (V rfl) K) <| Nq <| Cd (V rfl) (fun hc2 => ?_) (fun hc2 => ?_)
  ·have hc2s := hc2; try simp only [BL] at hc2s
   exact Sq <| Rq <| O (Mv (V rfl)) <| O (As (Vn (k := 5) (get := rowG ptCell default []))) <| O (As K) <| O (As (V rfl)) <| Nq <| Rx <| R3 rfl (V rfl) (V rfl) (V rfl) rfl rfl rfl (by show sv3 (ptRow ([])) (iv (0)) (iv (checkPo l fr)) = sv3 (ptRow (openR l fr o t).1) (iv (openR l fr o t).2.1) (iv (openR l fr o t).2.2); rw [openR_e hc1s])
  ·have hc2s := hc2; try simp only [BL] at hc2s
   exact absurd hc2s hc1s
   --done
 ·have hc1s := hc1; try simp only [BL] at hc1s
  have hc0 := hc1s
  have h12 := checkPo_len hc0
  refine Sq <| Rq <| O (Mv (V rfl)) <| O (Mv (V rfl)) <| CQ en76 (by exact ⟨⟨(V rfl), rfl⟩, ⟨(V rfl), rfl⟩, Z⟩) (below_ct o fr) <| O (Qo (V rfl)) <| O (As (V rfl)) <| Nq <| Cd (V rfl) (fun hc3 => ?_) (fun hc3 => ?_)
  ·have hc3s := hc3; try simp only [BL] at hc3s
   refine Rq <| O (As K) <| Nq <| Sq <| Sq <| Rq <| O (Mv (V rfl)) <| O (Qn (V rfl) K) <| Nq <| Cd (V rfl) (fun hc4 => ?_) (fun hc4 => ?_)
   ·have hc4s := hc4; try simp only [BL] at hc4s
    exact Sq <| Rq <| O (Mv (V rfl)) <| O (As (Vn (k := 5) (get := rowG ptCell default []))) <| O (As K) <| O (As (V rfl)) <| Nq <| Rx <| R3 rfl (V rfl) (V rfl) (V rfl) rfl rfl rfl (by show sv3 (ptRow ([])) (iv (0)) (iv (4)) = sv3 (ptRow (openR l fr o t).1) (iv (openR l fr o t).2.1) (iv (openR l fr o t).2.2); rw [openR_4 hc1s hc3])
   ·exact absurd hc4 (by decide)
  ·have hc3s := hc3; try simp only [BL] at hc3s
   refine Sq <| Rq <| O (Mv (V rfl)) <| CQ en70 (by exact ⟨⟨(V rfl), rfl⟩, ⟨K, rfl⟩, ⟨K, rfl⟩, Z⟩) (in_ct t 0 1000) <| O (Qo (V rfl)) <| O (As (V rfl)) <| Nq <| Cd (V rfl) (fun hc5 => ?_) (fun hc5 => ?_)
   ·have hc5s := hc5; try simp only [BL] at hc5s
    refine Rq <| O (As K) <| Nq <| Sq <| Sq <| Rq <| O (Mv (V rfl)) <| O (Qn (V rfl) K) <| Nq <| Cd (V rfl) (fun hc6 => ?_) (fun hc6 => ?_)
    ·have hc6s := hc6; try simp only [BL] at hc6s
     exact Sq <| Rq <| O (Mv (V rfl)) <| O (As (Vn (k := 5) (get := rowG ptCell default []))) <| O (As K) <| O (As (V rfl)) <| Nq <| Rx <| R3 rfl (V rfl) (V rfl) (V rfl) rfl rfl rfl (by show sv3 (ptRow ([])) (iv (0)) (iv (2)) = sv3 (ptRow (openR l fr o t).1) (iv (openR l fr o t).2.1) (iv (openR l fr o t).2.2); rw [openR_2 hc1s hc3 hc5])
    ·exact absurd hc6 (by decide)
   ·have hc5s := hc5; try simp only [BL] at hc5s
    refine Sq <| Rq <| O (Mv (V rfl)) <| O (Ln (V rfl) ts60) <| O (Gt (V rfl) K) <| O (As (V rfl)) <| Nq <| Cd (V rfl) (fun hc7 => ?_) (fun hc7 => ?_)
    ·have hc7s := hc7; try simp only [BL] at hc7s
     refine Rq <| O (As K) <| Nq <| Sq <| Sq <| Rq <| O (Mv (V rfl)) <| O (Qn (V rfl) K) <| Nq <| Cd (V rfl) (fun hc8 => ?_) (fun hc8 => ?_)
     ·have hc8s := hc8; try simp only [BL] at hc8s
      exact Sq <| Rq <| O (Mv (V rfl)) <| O (As (Vn (k := 5) (get := rowG ptCell default []))) <| O (As K) <| O (As (V rfl)) <| Nq <| Rx <| R3 rfl (V rfl) (V rfl) (V rfl) rfl rfl rfl (by show sv3 (ptRow ([])) (iv (0)) (iv (1)) = sv3 (ptRow (openR l fr o t).1) (iv (openR l fr o t).2.1) (iv (openR l fr o t).2.2); rw [openR_1 hc1s hc3 hc5 hc7s])
     ·exact absurd hc8 (by decide)
    ·have hc7s := hc7; try simp only [BL] at hc7s
     refine Sk <| Sq <| Sq <| Rq <| O (Mv (V rfl)) <| O (Qn (V rfl) K) <| Nq <| Cd (V rfl) (fun hc9 => ?_) (fun hc9 => ?_)
     ·have hc9s := hc9; try simp only [BL] at hc9s
      exact absurd hc1s hc9s
      --done
     ·have hc9s := hc9; try simp only [BL] at hc9s
      refine Sk <| Sq <| Rq <| O (Mv (V rfl)) <| O (Ln (V rfl) ts60) <| O (As (V rfl)) <| Nq <| Sq <| Rt <| t_bs0 1 (rowG ptCell default []) Un60 Sz71 rfl <| U (Mv (V rfl)) <| Ap 2 (rowG ptCell default (([]) ++ l)) eo60 (V rfl) rfl (V rfl) rfl (len_app ([]) l) (by first | (simp only [maxLen, List.length_append, List.length_set, List.length_nil, List.length_cons]; omega) | (simp only [maxLen]; omega)) (by first | (simp only [List.length_append, List.length_set, List.length_nil, List.length_cons]; omega) | (omega)) (app_typed (l := ([])) (m := l)) <| U (As (V rfl)) <| Nt <| Sq <| Sq <| Rq <| O (Mv K) <| Nq <| Bo <| c_mv 2 60 rfl rfl <| c_ownE 60 (opened l o t 0) rfl (by exact (List.append_nil _).symm) <| Lo (fun (i : Nat) => ⟨[(2, iv (o)), (3, iv (t)), (12, iv ((l.length : Int))), (13, SV.own 60), (42, iv ((i : Int)))], [(60, ownOf ptCell 5 default (opened l o t i) 71)]⟩) (fun (i : Nat) => i ≤ 2) (fun (i : Nat) => 2 - i) 0 (by show 0 ≤ 2; exact Nat.zero_le _) (We (Vs rfl) (AOs rfl)) <| ?_
      ·rintro i hI1
       have hJ1 : i ≤ 2 := hI1
       have hol := opened_len (l := l) (o := o) (t := t) i
       refine Sq <| Rq <| O (Lt (V rfl) K) <| Nq <| Sq <| Cd (V rfl) (fun hc10 => ?_) (fun hc10 => ?_)
       ·have hc10s := hc10; try simp only [BL] at hc10s
        refine Sk <| Sq <| Bo <| Sq <| Rq <| O (Mv (V rfl)) <| O (As (V rfl)) <| Nq <| Rt <| U (Mv (V rfl)) <| U (Mv (V rfl)) <| U (Mv (V rfl)) <| U (Mv (V rfl)) <| U (Ad (V rfl) K (by omega)) <| U (Mv (V rfl)) <| U (Sb (V rfl) (V rfl) (by omega)) <| U (Bu [(0, iv (o)), (1, iv (t)), (2, iv ((((l.length : Int)) + 1) - ((i : Int))))] id (cmpG [iv (o), iv (t), iv ((((l.length : Int)) + 1) - ((i : Int))), SV.v (Value.slice none 0 0), bv (false)]) zero71 build71 (by exact ⟨⟨rfl, (V rfl), rfl⟩, ⟨rfl, (V rfl), rfl⟩, ⟨rfl, (V rfl), rfl⟩, Z⟩) (by decide) ⟨⟨⟨⟨⟨Z, rfl⟩, rfl⟩, rfl⟩, rfl⟩, rfl⟩) <| Uw (w_rowI (get' := rowG ptCell default [⟨o, t, (((l.length : Int)) + 1) - ((i : Int)), [], false⟩]) (w_bs (n := 1) (zget := cmpG [iv 0, iv 0, iv 0, SV.v (Value.slice none 0 0), bv false]) [(cmpG [iv (o), iv (t), iv ((((l.length : Int)) + 1) - ((i : Int))), SV.v (Value.slice none 0 0), bv (false)])] (fun zi zt => ([(cmpG [iv (o), iv (t), iv ((((l.length : Int)) + 1) - ((i : Int))), SV.v (Value.slice none 0 0), bv (false)])].getD zi fun _ => SV.junk) zt) Un60 Sz71 zero71 (by decide) rfl (by decide) ⟨⟨rfl, .inl (V rfl), rfl⟩, Z⟩ ⟨Z, ⟨⟨⟨⟨⟨Z, rfl⟩, rfl⟩, rfl⟩, rfl⟩, rfl⟩⟩) ⟨Z, ⟨⟨⟨⟨⟨Z, impO_rfl⟩, impO_rfl⟩, impO_rfl⟩, impO_nil⟩, impO_rfl⟩⟩) <| Ap 3 (rowG ptCell default ((opened l o t i) ++ ([⟨o, t, (((l.length : Int)) + 1) - ((i : Int)), [], false⟩]))) eo60 (V rfl) rfl (V rfl) rfl (len_app (opened l o t i) ([⟨o, t, (((l.length : Int)) + 1) - ((i : Int)), [], false⟩])) (by first | (simp only [maxLen, List.length_append, List.length_set, List.length_nil, List.length_cons]; omega) | (simp only [maxLen]; omega)) (by first | (simp only [List.length_append, List.length_set, List.length_nil, List.length_cons]; omega) | (omega)) (app_typed (l := (opened l o t i)) (m := ([⟨o, t, (((l.length : Int)) + 1) - ((i : Int)), [], false⟩]))) <| U (As (V rfl)) <| Nt <| Rq <| O (Ad (V rfl) K (by omega)) <| O (Mv (V rfl)) <| Nq <| k_mv 3 60 rfl rfl <| k_ownE 60 (opened l o t ((i + 1))) rfl (by exact opened_s (by omega)) <| Nx (i + 1) (by show (i + 1) ≤ 2; first | omega | (simp; done) | (refine ⟨?_, ?_⟩ <;> first | omega | (simp; done))) (by show 2 - (i + 1) < 2 - i; omega) (We (Vs rfl) (AOs rfl))
       ·have hc10s := hc10; try simp only [BL] at hc10s
        exact Ex <| Sq <| Rq <| O (Mv (V rfl)) <| O (Mv (V rfl)) <| O (As (V rfl)) <| O (As (V rfl)) <| O (As K) <| Nq <| FzC 60 rfl <| Rx <| R3 rfl (V rfl) (V rfl) (V rfl) rfl rfl rfl (by show sv3 (ptRow (opened l o t i)) (iv ((l.length : Int))) (iv (0)) = sv3 (ptRow (openR l fr o t).1) (iv (openR l fr o t).2.1) (iv (openR l fr o t).2.2); rw [openR_0 hc1s hc3 hc5 hc7s, show i = 2 from by omega])

end Go.Proofs.Ytghkpailmdlhgaa
