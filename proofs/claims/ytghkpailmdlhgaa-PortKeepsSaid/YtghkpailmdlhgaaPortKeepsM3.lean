/- What the proof of PortKeeps rests on, part 3: the engine, the walks, the plain laws. -/
import Derived.Test.YtghkpailmdlhgaaPortKeepsM2
set_option linter.unusedVariables false
set_option linter.unusedSimpArgs false
set_option linter.unusedSectionVars false
namespace Go.Proofs.Ytghkpailmdlhgaa
open Go.RowKit Go.Eng
theorem popen_ct (l : List Pt) (fr o t : Int) : Ct Try.prog 49 [ptRow l, iv (fr), iv (o), iv (t)] (sv3 (ptRow (openR l fr o t).1) (iv (openR l fr o t).2.1) (iv (openR l fr o t).2.2)) := by
 refine CtO 52 Try.func49 rfl rfl rfl fun E => Rl (V (s := 0) rfl) fun hl0 => Sq <| Rq <| O (As (Vn (k := 5) (get := rowG ptCell default []))) <| O (As K) <| O (As K) <| Nq <| Sq <| Sq <| Rq <| O (Mv (V rfl)) <| O (Mv (V rfl)) <| CQ en55 (by exact ⟨⟨(V rfl), rfl⟩, ⟨(V rfl), rfl⟩, Z⟩) (pcheck_ct l fr) <| O (As (V rfl)) <| Nq <| Sq <| Rq <| O (Mv (V rfl)) <| O (Qn (V rfl) K) <| Nq <| Cd (V rfl) (fun hc1 => ?_) (fun hc1 => ?_)
 ·have hc1s := hc1; try simp only [BL] at hc1s
  exact Sq <| Rq <| O (Mv (V rfl)) <| O (As (Vn (k := 5) (get := rowG ptCell default []))) <| O (As K) <| O (As (V rfl)) <| Nq <| Rx <| R3 rfl (V rfl) (V rfl) (V rfl) rfl rfl rfl (by show sv3 (ptRow ([])) (iv (0)) (iv (checkPo l fr)) = sv3 (ptRow (openR l fr o t).1) (iv (openR l fr o t).2.1) (iv (openR l fr o t).2.2); rw [openR, if_pos hc1s])
 ·have hc1s := hc1; try simp only [BL] at hc1s
  have hc0 := hc1s
  have h12 := checkPo_len hc0
  refine Sk <| Sq <| Sq <| Rq <| O (Mv (V rfl)) <| O (Lt (V rfl) K) <| O (Mv (V rfl)) <| Og (Gn rfl rfl) (fun hg => Mv (V rfl)) <| Og (Gn rfl rfl) (fun hg => Mv (V rfl)) <| Og (Gn rfl rfl) (fun hg => Ge (Vg (V rfl) hg) (Vg (V rfl) hg)) <| O (Qr (V rfl) (fun h => Vg (V rfl) (notT h))) <| Nq <| Cd (V rfl) (fun hc2 => ?_) (fun hc2 => ?_)
  ·have hc2s := hc2; try simp only [BL] at hc2s
   exact Sq <| Rq <| O (As (Vn (k := 5) (get := rowG ptCell default []))) <| O (As K) <| O (As K) <| Nq <| Rx <| R3 rfl (V rfl) (V rfl) (V rfl) rfl rfl rfl (by show sv3 (ptRow ([])) (iv (0)) (iv (4)) = sv3 (ptRow (openR l fr o t).1) (iv (openR l fr o t).2.1) (iv (openR l fr o t).2.2); rw [openR, if_neg (not_not_intro hc1s), if_pos hc2])
  ·have hc2s := hc2; try simp only [BL] at hc2s
   refine Sk <| Sq <| Sq <| Rq <| O (Mv (V rfl)) <| O (Lt (V rfl) K) <| O (Mv (V rfl)) <| Og (Gn rfl rfl) (fun hg => Mv (V rfl)) <| Og (Gn rfl rfl) (fun hg => Gt (Vg (V rfl) hg) K) <| O (Qr (V rfl) (fun h => Vg (V rfl) (notT h))) <| Nq <| Cd (V rfl) (fun hc3 => ?_) (fun hc3 => ?_)
   ·have hc3s := hc3; try simp only [BL] at hc3s
    exact Sq <| Rq <| O (As (Vn (k := 5) (get := rowG ptCell default []))) <| O (As K) <| O (As K) <| Nq <| Rx <| R3 rfl (V rfl) (V rfl) (V rfl) rfl rfl rfl (by show sv3 (ptRow ([])) (iv (0)) (iv (2)) = sv3 (ptRow (openR l fr o t).1) (iv (openR l fr o t).2.1) (iv (openR l fr o t).2.2); rw [openR, if_neg (not_not_intro hc1s), if_neg (ff hc2), if_pos hc3])
   ·have hc3s := hc3; try simp only [BL] at hc3s
    refine Sk <| Sq <| Sq <| Rq <| O (Mv (V rfl)) <| O (Ln (V rfl) ts60) <| O (Ad (V rfl) K (by omega)) <| O (Gt (V rfl) K) <| Nq <| Cd (V rfl) (fun hc4 => ?_) (fun hc4 => ?_)
    ·have hc4s := hc4; try simp only [BL] at hc4s
     exact Sq <| Rq <| O (As (Vn (k := 5) (get := rowG ptCell default []))) <| O (As K) <| O (As K) <| Nq <| Rx <| R3 rfl (V rfl) (V rfl) (V rfl) rfl rfl rfl (by show sv3 (ptRow ([])) (iv (0)) (iv (1)) = sv3 (ptRow (openR l fr o t).1) (iv (openR l fr o t).2.1) (iv (openR l fr o t).2.2); rw [openR, if_neg (not_not_intro hc1s), if_neg (ff hc2), if_neg (ff hc3), if_pos hc4s])
    ·have hc4s := hc4; try simp only [BL] at hc4s
     exact Sk <| Sq <| Rq <| O (Mv (V rfl)) <| O (Ln (V rfl) ts60) <| O (As (V rfl)) <| Nq <| Sq <| Rt <| U (Mv (V rfl)) <| CM (cargs := [ptRow l]) [] [(0, 1)] en74 (mv0 (by exact ⟨⟨(V rfl), rfl⟩, Z⟩)) (pcopy_ct l fr hc0) (by exact Z) rfl rfl rfl rfl <| Tt (turn_uAT 1 rfl rfl (fun _ => rfl)) <| U (Mv (V rfl)) <| U (Mv (V rfl)) <| U (Mv (V rfl)) <| U (Ad (V rfl) K (by omega)) <| U (Bu [(0, iv (o)), (1, iv (t)), (2, iv (((l.length : Int)) + 1))] id (cmpG [iv (o), iv (t), iv (((l.length : Int)) + 1), SV.v (Value.slice none 0 0), bv (false)]) zero71 build71 (by exact ⟨⟨rfl, (V rfl), rfl⟩, ⟨rfl, (V rfl), rfl⟩, ⟨rfl, (V rfl), rfl⟩, Z⟩) (by decide) ⟨⟨⟨⟨⟨Z, rfl⟩, rfl⟩, rfl⟩, rfl⟩, rfl⟩) <| U (Mv (V rfl)) <| U (Mv (V rfl)) <| U (Mv (V rfl)) <| U (Bu [(0, iv (o)), (1, iv (t)), (2, iv ((l.length : Int)))] id (cmpG [iv (o), iv (t), iv ((l.length : Int)), SV.v (Value.slice none 0 0), bv (false)]) zero71 build71 (by exact ⟨⟨rfl, (V rfl), rfl⟩, ⟨rfl, (V rfl), rfl⟩, ⟨rfl, (V rfl), rfl⟩, Z⟩) (by decide) ⟨⟨⟨⟨⟨Z, rfl⟩, rfl⟩, rfl⟩, rfl⟩, rfl⟩) <| Uw (w_rowI (get' := rowG ptCell default [⟨o, t, ((l.length : Int)) + 1, [], false⟩, ⟨o, t, (l.length : Int), [], false⟩]) (w_bs (n := 2) (zget := cmpG [iv 0, iv 0, iv 0, SV.v (Value.slice none 0 0), bv false]) [(cmpG [iv (o), iv (t), iv (((l.length : Int)) + 1), SV.v (Value.slice none 0 0), bv (false)]), (cmpG [iv (o), iv (t), iv ((l.length : Int)), SV.v (Value.slice none 0 0), bv (false)])] (fun zi zt => ([(cmpG [iv (o), iv (t), iv (((l.length : Int)) + 1), SV.v (Value.slice none 0 0), bv (false)]), (cmpG [iv (o), iv (t), iv ((l.length : Int)), SV.v (Value.slice none 0 0), bv (false)])].getD zi fun _ => SV.junk) zt) Un60 Sz71 zero71 (by decide) rfl (by decide) ⟨⟨rfl, .inl (V rfl), rfl⟩, ⟨rfl, .inl (V rfl), rfl⟩, Z⟩ ⟨⟨Z, ⟨⟨⟨⟨⟨Z, rfl⟩, rfl⟩, rfl⟩, rfl⟩, rfl⟩⟩, ⟨⟨⟨⟨⟨Z, rfl⟩, rfl⟩, rfl⟩, rfl⟩, rfl⟩⟩) ⟨⟨Z, ⟨⟨⟨⟨⟨Z, impO_rfl⟩, impO_rfl⟩, impO_rfl⟩, impO_nil⟩, impO_rfl⟩⟩, ⟨⟨⟨⟨⟨Z, impO_rfl⟩, impO_rfl⟩, impO_rfl⟩, impO_nil⟩, impO_rfl⟩⟩) <| Ap 2 (rowG ptCell default (l ++ ([⟨o, t, ((l.length : Int)) + 1, [], false⟩, ⟨o, t, (l.length : Int), [], false⟩]))) eo60 (V rfl) rfl (V rfl) rfl (len_app l ([⟨o, t, ((l.length : Int)) + 1, [], false⟩, ⟨o, t, (l.length : Int), [], false⟩])) (by first | (simp only [maxLen, List.length_append, List.length_set, List.length_nil, List.length_cons]; omega) | (simp only [maxLen]; omega)) (by first | (simp only [List.length_append, List.length_set, List.length_nil, List.length_cons]; omega) | (omega)) (app_typed (l := l) (m := ([⟨o, t, ((l.length : Int)) + 1, [], false⟩, ⟨o, t, (l.length : Int), [], false⟩]))) <| U (Mv (V rfl)) <| U (As (V rfl)) <| U (As (V rfl)) <| U (As K) <| Nt <| FzC 2 rfl <| Rx <| R3 rfl (V rfl) (V rfl) (V rfl) rfl rfl rfl (by show sv3 (ptRow (l ++ ([⟨o, t, ((l.length : Int)) + 1, [], false⟩, ⟨o, t, (l.length : Int), [], false⟩]))) (iv ((l.length : Int))) (iv (0)) = sv3 (ptRow (openR l fr o t).1) (iv (openR l fr o t).2.1) (iv (openR l fr o t).2.2); rw [openR, if_neg (not_not_intro hc1s), if_neg (ff hc2), if_neg (ff hc3), if_neg hc4s])
theorem pshut_ct (l : List Pt) (fr k o t : Int) : Ct Try.prog 51 [ptRow l, iv (fr), iv (k), iv (o), iv (t)] (sv2 (ptRow (shutR l fr k o t).1) (iv (shutR l fr k o t).2)) := by
 refine CtO 33 Try.func51 rfl rfl rfl fun E => Rl (V (s := 0) rfl) fun hl0 => Sq <| Rq <| O (As (Vn (k := 5) (get := rowG ptCell default []))) <| O (As K) <| Nq <| Sq <| Sq <| Rq <| O (Mv (V rfl)) <| O (Mv (V rfl)) <| O (Mv (V rfl)) <| O (Mv (V rfl)) <| O (Mv (V rfl)) <| CQ en75 (by exact ⟨⟨(V rfl), rfl⟩, ⟨(V rfl), rfl⟩, ⟨(V rfl), rfl⟩, ⟨(V rfl), rfl⟩, ⟨(V rfl), rfl⟩, Z⟩) (powned_ct l fr k o t) <| O (As (V rfl)) <| Nq <| Sq <| Rq <| O (Mv (V rfl)) <| O (Qn (V rfl) K) <| Nq <| Cd (V rfl) (fun hc1 => ?_) (fun hc1 => ?_)
 ·have hc1s := hc1; try simp only [BL] at hc1s
  exact Sq <| Rq <| O (Mv (V rfl)) <| O (As (Vn (k := 5) (get := rowG ptCell default []))) <| O (As (V rfl)) <| Nq <| Rx <| R2 rfl (V rfl) (V rfl) rfl rfl (by show sv2 (ptRow ([])) (iv (ownedPo l fr k o t)) = sv2 (ptRow (shutR l fr k o t).1) (iv (shutR l fr k o t).2); rw [shutR, if_pos hc1s])
 ·have hc1s := hc1; try simp only [BL] at hc1s
  have hok := owned_ok hc1s
  have hc0 := hok.1
  have hkb := hok.2.1
  have h12 := checkPo_len hc0
  refine Sk <| Sq <| Rt <| U (Mv (V rfl)) <| CM (cargs := [ptRow l]) [] [(0, 1)] en74 (mv0 (by exact ⟨⟨(V rfl), rfl⟩, Z⟩)) (pcopy_ct l fr hc0) (by exact Z) rfl rfl rfl rfl <| Tt (turn_uAT 1 rfl rfl (fun _ => rfl)) <| U (As (V rfl)) <| Nt <| Sq <| Rt <| U (Mv (V rfl)) <| U (Mv (V rfl)) <| U (Mv (V rfl)) <| U (Mv (V rfl)) <| U (IxO (V rfl) rfl (V rfl) ts60 te60 (by omega) (by first | omega | (simp only [List.length_set]; omega))) <| U (FlO _ _ (V rfl) Un71 rfl 0 Sz4) <| ?_
  have hidx0 : Int.toNat k < l.length := by first | omega | (simp; omega)
  refine StO (rowG ptCell default (l.set (Int.toNat k) ({ (l.getD (Int.toNat k) default) with shut := true }))) (V rfl) rfl K rfl rfl Sz4 (by decide) (show l.length = (l.set (Int.toNat k) ({ (l.getD (Int.toNat k) default) with shut := true })).length from List.length_set.symm) (set_at hidx0 rfl) (set_typed hidx0 fun t ht hne => match t, ht, hne with | 0, _, _ => rfl | 1, _, _ => rfl | 2, _, _ => rfl | 3, _, _ => rfl | 4, _, hne => absurd rfl hne) <| U (IxO (V rfl) rfl (V rfl) ts60 te60 (by omega) (by first | omega | (simp only [List.length_set]; omega))) <| U (FlO _ _ (V rfl) Un71 rfl 0 Sz59) <| ?_
  have hidx1 : Int.toNat k < (l.set (Int.toNat k) ({ (l.getD (Int.toNat k) default) with shut := true })).length := by first | omega | (simp; omega)
  exact StO (rowG ptCell default ((l.set (Int.toNat k) ({ (l.getD (Int.toNat k) default) with shut := true })).set (Int.toNat k) ({ ((l.set (Int.toNat k) ({ (l.getD (Int.toNat k) default) with shut := true })).getD (Int.toNat k) default) with came := [] }))) (V rfl) rfl Vn rfl rfl Sz59 (by decide) (show (l.set (Int.toNat k) ({ (l.getD (Int.toNat k) default) with shut := true })).length = ((l.set (Int.toNat k) ({ (l.getD (Int.toNat k) default) with shut := true })).set (Int.toNat k) ({ ((l.set (Int.toNat k) ({ (l.getD (Int.toNat k) default) with shut := true })).getD (Int.toNat k) default) with came := [] })).length from List.length_set.symm) (set_at hidx1 rfl) (set_typed hidx1 fun t ht hne => match t, ht, hne with | 0, _, _ => rfl | 1, _, _ => rfl | 2, _, _ => rfl | 3, _, hne => absurd rfl hne | 4, _, _ => rfl) <| Nt <| Sq <| Rq <| O (Mv (V rfl)) <| O (As (V rfl)) <| O (As K) <| Nq <| FzC 1 rfl <| Rx <| R2 rfl (V rfl) (V rfl) rfl rfl (by show sv2 (ptRow ((l.set (Int.toNat k) ({ (l.getD (Int.toNat k) default) with shut := true })).set (Int.toNat k) ({ ((l.set (Int.toNat k) ({ (l.getD (Int.toNat k) default) with shut := true })).getD (Int.toNat k) default) with came := [] }))) (iv (0)) = sv2 (ptRow (shutR l fr k o t).1) (iv (shutR l fr k o t).2); rw [shutR, if_neg (not_not_intro hc1s)] <;> rfl)
theorem ppull_ct (l : List Pt) (fr k o t : Int) : Ct Try.prog 52 [ptRow l, iv (fr), iv (k), iv (o), iv (t)] (sv3 (ptRow (pullR l fr k o t).1) (SV.agg 1 (grG (pullR l fr k o t).2.1)) (iv (pullR l fr k o t).2.2)) := by
 refine CtO 54 Try.func52 rfl rfl rfl fun E => Rl (V (s := 0) rfl) fun hl0 => Sq <| Rt <| U (As (Vn (k := 5) (get := rowG ptCell default []))) <| Al 1 zero35 rfl rfl <| U (As K) <| Nt <| Sq <| Sq <| Rq <| O (Mv (V rfl)) <| O (Mv (V rfl)) <| O (Mv (V rfl)) <| O (Mv (V rfl)) <| O (Mv (V rfl)) <| CQ en75 (by exact ⟨⟨(V rfl), rfl⟩, ⟨(V rfl), rfl⟩, ⟨(V rfl), rfl⟩, ⟨(V rfl), rfl⟩, ⟨(V rfl), rfl⟩, Z⟩) (powned_ct l fr k o t) <| O (As (V rfl)) <| Nq <| Sq <| Rq <| O (Mv (V rfl)) <| O (Qn (V rfl) K) <| Nq <| Cd (V rfl) (fun hc1 => ?_) (fun hc1 => ?_)
 ·have hc1s := hc1; try simp only [BL] at hc1s
  exact Sq <| Rt <| U (Bu [] id (cmpG [SV.v (Value.slice none 0 0)]) zero35 build35 (by exact Z) (by decide) ⟨Z, rfl⟩) <| U (Mv (V rfl)) <| U (As (Vn (k := 5) (get := rowG ptCell default []))) <| StA (V rfl) rfl (V rfl) Sz35 <| U (As (V rfl)) <| Nt <| Rx <| RR3 rfl (rv_tmp (V rfl)) (rv_aggI (g' := grG ([])) (rv_cell (V rfl) rfl Ga35 Sz35) ⟨Z, In⟩) (rv_tmp (V rfl)) rfl rfl rfl (by show sv3 (ptRow ([])) (SV.agg 1 (grG ([]))) (iv (ownedPo l fr k o t)) = sv3 (ptRow (pullR l fr k o t).1) (SV.agg 1 (grG (pullR l fr k o t).2.1)) (iv (pullR l fr k o t).2.2); rw [pullR, if_pos hc1s])
 ·have hc1s := hc1; try simp only [BL] at hc1s
  have hok := owned_ok hc1s
  have hc0 := hok.1
  have hkb := hok.2.1
  have h12 := checkPo_len hc0
  refine Sk <| Sq <| Sq <| Rq <| O (Mv (V rfl)) <| O (Mv (V rfl)) <| O (Ix (V rfl) (V rfl) ts60 te60 (by omega) (by omega)) <| O (Fl _ _ (V rfl) Un71 rfl 0 Sz59) <| O (Ld (V rfl) Ga59 (by decide)) <| O (Ln (V rfl) ts59) <| O (Ql (V rfl) K) <| Nq <| Cd (V rfl) (fun hc2 => ?_) (fun hc2 => ?_)
  ·have hc2s := hc2; try simp only [BL] at hc2s
   exact Sq <| Rt <| U (Bu [] id (cmpG [SV.v (Value.slice none 0 0)]) zero35 build35 (by exact Z) (by decide) ⟨Z, rfl⟩) <| U (As (Vn (k := 5) (get := rowG ptCell default []))) <| StA (V rfl) rfl (V rfl) Sz35 <| U (As K) <| Nt <| Rx <| RR3 rfl (rv_tmp (V rfl)) (rv_aggI (g' := grG ([])) (rv_cell (V rfl) rfl Ga35 Sz35) ⟨Z, In⟩) (rv_tmp (V rfl)) rfl rfl rfl (by show sv3 (ptRow ([])) (SV.agg 1 (grG ([]))) (iv (8)) = sv3 (ptRow (pullR l fr k o t).1) (SV.agg 1 (grG (pullR l fr k o t).2.1)) (iv (pullR l fr k o t).2.2); rw [pullR, if_neg (not_not_intro hc1s), if_pos hc2s])
  ·have hc2s := hc2; try simp only [BL] at hc2s
   refine Sk <| Sq <| Rt <| U (Mv (V rfl)) <| CM (cargs := [ptRow l]) [] [(0, 2)] en74 (mv0 (by exact ⟨⟨(V rfl), rfl⟩, Z⟩)) (pcopy_ct l fr hc0) (by exact Z) rfl rfl rfl rfl <| Tt (turn_uAT 2 rfl rfl (fun _ => rfl)) <| U (As (V rfl)) <| Nt <| Sq <| Rt <| U (Mv (V rfl)) <| U (Mv (V rfl)) <| U (IxO (V rfl) rfl (V rfl) ts60 te60 (by omega) (by omega)) <| U (FlO _ _ (V rfl) Un71 rfl 0 Sz59) <| U (LdO (V rfl) rfl Ga59 (by decide)) <| U (Ix (V rfl) K ts59 te59 (by omega) (by omega)) <| U (LdA (V rfl) Ga35 Sz35 (by decide)) <| Al 3 zero35 rfl rfl <| StA (V rfl) rfl (V rfl) Sz35 <| Nt <| Sq <| Rt <| U (Mv (V rfl)) <| U (Mv (V rfl)) <| U (Mv (V rfl)) <| U (Mv (V rfl)) <| U (IxO (V rfl) rfl (V rfl) ts60 te60 (by omega) (by omega)) <| U (FlO _ _ (V rfl) Un71 rfl 0 Sz59) <| U (LdO (V rfl) rfl Ga59 (by decide)) <| U (q_slLN (h := 1) ts59 te59 (V rfl) K (by omega)) <| U (IxO (V rfl) rfl (V rfl) ts60 te60 (by omega) (by omega)) <| U (FlO _ _ (V rfl) Un71 rfl 0 Sz59) <| ?_
   have hidx0 : Int.toNat k < l.length := by first | omega | (simp; omega)
   refine StO (rowG ptCell default (l.set (Int.toNat k) ({ (l.getD (Int.toNat k) default) with came := ((l.getD (Int.toNat k) default).came).drop 1 }))) (V rfl) rfl (V rfl) rfl rfl Sz59 (by decide) (show l.length = (l.set (Int.toNat k) ({ (l.getD (Int.toNat k) default) with came := ((l.getD (Int.toNat k) default).came).drop 1 })).length from List.length_set.symm) (set_at hidx0 rfl) (set_typed hidx0 fun t ht hne => match t, ht, hne with | 0, _, _ => rfl | 1, _, _ => rfl | 2, _, _ => rfl | 3, _, hne => absurd rfl hne | 4, _, _ => rfl) <| Nt <| Sq <| c_rd (fun e => ⟨[(52, cj (e 0) (SV.own 2)), (53, cj (e 1) (SV.agg 1 (fun zi => (fun zi => (rowG grG ([]) ((l.getD (Int.toNat k) default).came)) 0 (0 + zi)) (0 + zi)))), (10, cj (e 2) (SV.own 2)), (12, cj (e 4) (iv (0))), (0, SV.own 2), (11, SV.bp 1 0), (14, SV.bp 3 0)], (cb (e 3) [(1, Own.box 1 (fun zi => (fun zi => (rowG grG ([]) ((l.getD (Int.toNat k) default).came)) 0 (0 + zi)) (0 + zi)) 35), (2, ownOf ptCell 5 default (l.set (Int.toNat k) ({ (l.getD (Int.toNat k) default) with came := ((l.getD (Int.toNat k) default).came).drop 1 })) 71), (3, Own.box 1 (fun zi => (rowG grG ([]) ((l.getD (Int.toNat k) default).came)) 0 (0 + zi)) 35)] [(1, Own.box 1 (cmpG [SV.v (Value.slice none 0 0)]) 35), (2, ownOf ptCell 5 default (l.set (Int.toNat k) ({ (l.getD (Int.toNat k) default) with came := ((l.getD (Int.toNat k) default).came).drop 1 })) 71), (3, Own.box 1 (fun zi => (rowG grG ([]) ((l.getD (Int.toNat k) default).came)) 0 (0 + zi)) 35)])⟩) ⟨[(52, SV.own 2), (53, SV.agg 1 (fun zi => (fun zi => (rowG grG ([]) ((l.getD (Int.toNat k) default).came)) 0 (0 + zi)) (0 + zi))), (10, SV.own 2), (12, iv (0)), (0, SV.own 2), (11, SV.bp 1 0), (14, SV.bp 3 0)], [(1, Own.box 1 (fun zi => (fun zi => (rowG grG ([]) ((l.getD (Int.toNat k) default).came)) 0 (0 + zi)) (0 + zi)) 35), (2, ownOf ptCell 5 default (l.set (Int.toNat k) ({ (l.getD (Int.toNat k) default) with came := ((l.getD (Int.toNat k) default).came).drop 1 })) 71), (3, Own.box 1 (fun zi => (rowG grG ([]) ((l.getD (Int.toNat k) default).came)) 0 (0 + zi)) 35)]⟩ (by kernel_rfl) (by kernel_rfl) ?_ ⟨?_, ?_, ?_, ?_, ?_, Z⟩ ?_ ?_
   ·show Weak _ _ ⟨[(52, SV.junk), (53, SV.junk), (10, SV.junk), (12, SV.junk), (0, SV.own 2), (11, SV.bp 1 0), (14, SV.bp 3 0)], [(1, Own.box 1 (cmpG [SV.v (Value.slice none 0 0)]) 35), (2, ownOf ptCell 5 default (l.set (Int.toNat k) ({ (l.getD (Int.toNat k) default) with came := ((l.getD (Int.toNat k) default).came).drop 1 })) 71), (3, Own.box 1 (fun zi => (rowG grG ([]) ((l.getD (Int.toNat k) default).came)) 0 (0 + zi)) 35)]⟩
    refine We ?_ ?_
    ·exact ⟨Vj, Vj, Vj, Vj, V rfl, V rfl, V rfl, Z⟩
    ·exact ⟨⟨_, rfl, ⟨rfl, rfl, (An rfl)⟩⟩, ⟨_, rfl, rfl⟩, ⟨_, rfl, ⟨rfl, rfl, (An rfl)⟩⟩, Z⟩
   ·intro e hdn he hdp
    have h3 : e 3 = false := fls he fun q => by obtain ⟨-, r2, -, -, -, -⟩ := (show e 1 = true ∧ e 2 = true ∧ e 0 = true ∧ e 1 = true ∧ e 2 = true ∧ True from hdn 3 q); obtain ⟨r0, -, -⟩ := (show e 0 = true ∧ e 0 = true ∧ True from hdn 2 r2); exact r0
    simp only [setE, he, h3, cj_t, cj_f, cjn_t, cjn_f, cb_t, cb_f]
    refine U (Mv (V rfl)) <| Nt <| We ?_ ?_
    ·exact ⟨V rfl, V rfl, V rfl, V rfl, V rfl, V rfl, V rfl, Z⟩
    ·exact ⟨⟨_, rfl, ⟨rfl, rfl, (An rfl)⟩⟩, ⟨_, rfl, rfl⟩, ⟨_, rfl, ⟨rfl, rfl, (An rfl)⟩⟩, Z⟩
   ·intro e hdn he hdp
    have h3 : e 3 = false := fls he fun q => by obtain ⟨r1, -, -, -, -, -⟩ := (show e 1 = true ∧ e 2 = true ∧ e 0 = true ∧ e 1 = true ∧ e 2 = true ∧ True from hdn 3 q); exact r1
    simp only [setE, he, h3, cj_t, cj_f, cjn_t, cjn_f, cb_t, cb_f]
    refine U (LBA (V rfl) rfl Ga35 Sz35 (by decide)) <| Nt <| We ?_ ?_
    ·exact ⟨V rfl, V rfl, V rfl, V rfl, V rfl, V rfl, V rfl, Z⟩
    ·exact ⟨⟨_, rfl, ⟨rfl, rfl, (An rfl)⟩⟩, ⟨_, rfl, rfl⟩, ⟨_, rfl, ⟨rfl, rfl, (An rfl)⟩⟩, Z⟩
   ·intro e hdn he hdp
    obtain ⟨h0, -, -⟩ := (show e 0 = true ∧ e 0 = true ∧ True from hdp)
    have h3 : e 3 = false := fls he fun q => by obtain ⟨-, r2, -, -, -, -⟩ := (show e 1 = true ∧ e 2 = true ∧ e 0 = true ∧ e 1 = true ∧ e 2 = true ∧ True from hdn 3 q); exact r2
    simp only [setE, h0, he, h3, cj_t, cj_f, cjn_t, cjn_f, cb_t, cb_f]
    refine U (As (V rfl)) <| Nt <| We ?_ ?_
    ·exact ⟨V rfl, V rfl, V rfl, V rfl, V rfl, V rfl, V rfl, Z⟩
    ·exact ⟨⟨_, rfl, ⟨rfl, rfl, (An rfl)⟩⟩, ⟨_, rfl, rfl⟩, ⟨_, rfl, ⟨rfl, rfl, (An rfl)⟩⟩, Z⟩
   ·intro e hdn he hdp
    obtain ⟨h1, h2, h0, -, -, -⟩ := (show e 1 = true ∧ e 2 = true ∧ e 0 = true ∧ e 1 = true ∧ e 2 = true ∧ True from hdp)
    simp only [setE, h0, h1, h2, he, cj_t, cj_f, cjn_t, cjn_f, cb_t, cb_f]
    refine StA (V rfl) rfl (V rfl) Sz35 <| Nt <| We ?_ ?_
    ·exact ⟨V rfl, V rfl, V rfl, V rfl, V rfl, V rfl, V rfl, Z⟩
    ·exact ⟨⟨_, rfl, ⟨rfl, rfl, (An rfl)⟩⟩, ⟨_, rfl, rfl⟩, ⟨_, rfl, ⟨rfl, rfl, (An rfl)⟩⟩, Z⟩
   ·intro e hdn he hdp
    obtain ⟨h3, h0, h1, h2, -, -⟩ := (show e 3 = true ∧ e 0 = true ∧ e 1 = true ∧ e 2 = true ∧ e 3 = true ∧ True from hdp)
    simp only [setE, h0, h1, h2, h3, he, cj_t, cj_f, cjn_t, cjn_f, cb_t, cb_f]
    refine U (As K) <| Nt <| We ?_ ?_
    ·exact ⟨V rfl, V rfl, V rfl, V rfl, V rfl, V rfl, V rfl, Z⟩
    ·exact ⟨⟨_, rfl, ⟨rfl, rfl, (An rfl)⟩⟩, ⟨_, rfl, rfl⟩, ⟨_, rfl, ⟨rfl, rfl, (An rfl)⟩⟩, Z⟩
   ·intro e he
    have h0 := he 0 (by decide)
    have h1 := he 1 (by decide)
    have h2 := he 2 (by decide)
    have h3 := he 3 (by decide)
    have h4 := he 4 (by decide)
    show Weak _ ⟨[(52, cj (e 0) (SV.own 2)), (53, cj (e 1) (SV.agg 1 (fun zi => (fun zi => (rowG grG ([]) ((l.getD (Int.toNat k) default).came)) 0 (0 + zi)) (0 + zi)))), (10, cj (e 2) (SV.own 2)), (12, cj (e 4) (iv (0))), (0, SV.own 2), (11, SV.bp 1 0), (14, SV.bp 3 0)], (cb (e 3) [(1, Own.box 1 (fun zi => (fun zi => (rowG grG ([]) ((l.getD (Int.toNat k) default).came)) 0 (0 + zi)) (0 + zi)) 35), (2, ownOf ptCell 5 default (l.set (Int.toNat k) ({ (l.getD (Int.toNat k) default) with came := ((l.getD (Int.toNat k) default).came).drop 1 })) 71), (3, Own.box 1 (fun zi => (rowG grG ([]) ((l.getD (Int.toNat k) default).came)) 0 (0 + zi)) 35)] [(1, Own.box 1 (cmpG [SV.v (Value.slice none 0 0)]) 35), (2, ownOf ptCell 5 default (l.set (Int.toNat k) ({ (l.getD (Int.toNat k) default) with came := ((l.getD (Int.toNat k) default).came).drop 1 })) 71), (3, Own.box 1 (fun zi => (rowG grG ([]) ((l.getD (Int.toNat k) default).came)) 0 (0 + zi)) 35)])⟩ _
    simp only [h0, h1, h2, h3, h4]
    show Weak _ ⟨[(52, SV.own 2), (53, SV.agg 1 (fun zi => (fun zi => (rowG grG ([]) ((l.getD (Int.toNat k) default).came)) 0 (0 + zi)) (0 + zi))), (10, SV.own 2), (12, iv (0)), (0, SV.own 2), (11, SV.bp 1 0), (14, SV.bp 3 0)], [(1, Own.box 1 (fun zi => (fun zi => (rowG grG ([]) ((l.getD (Int.toNat k) default).came)) 0 (0 + zi)) (0 + zi)) 35), (2, ownOf ptCell 5 default (l.set (Int.toNat k) ({ (l.getD (Int.toNat k) default) with came := ((l.getD (Int.toNat k) default).came).drop 1 })) 71), (3, Own.box 1 (fun zi => (rowG grG ([]) ((l.getD (Int.toNat k) default).came)) 0 (0 + zi)) 35)]⟩ _
    refine We ?_ ?_
    ·exact ⟨V rfl, Va (V rfl) (An rfl), V rfl, V rfl, V rfl, V rfl, V rfl, Z⟩
    ·exact ⟨⟨_, rfl, ⟨rfl, rfl, (An rfl)⟩⟩, ⟨_, rfl, rfl⟩, ⟨_, rfl, ⟨rfl, rfl, (An rfl)⟩⟩, Z⟩
   exact FzC 2 rfl <| Rx <| RR3 rfl (rv_tmp (V rfl)) (rv_aggI (g' := grG ((((l.getD (Int.toNat k) default).came).getD 0 []))) (rv_cell (V rfl) rfl Ga35 Sz35) ⟨Z, Ir⟩) (rv_tmp (V rfl)) rfl rfl rfl (by show sv3 (ptRow (l.set (Int.toNat k) ({ (l.getD (Int.toNat k) default) with came := ((l.getD (Int.toNat k) default).came).drop 1 }))) (SV.agg 1 (grG ((((l.getD (Int.toNat k) default).came).getD 0 [])))) (iv (0)) = sv3 (ptRow (pullR l fr k o t).1) (SV.agg 1 (grG (pullR l fr k o t).2.1)) (iv (pullR l fr k o t).2.2); rw [pullR, if_neg (not_not_intro hc1s), if_neg hc2s])
theorem ppush_ct (l : List Pt) (fr k o t : Int) (g : List Cl) : Ct Try.prog 53 [ptRow l, iv (fr), iv (k), iv (o), iv (t), SV.agg 1 (grG g)] (sv2 (ptRow (pushR l fr k o t g).1) (iv (pushR l fr k o t g).2)) := by
 refine CtO 67 Try.func53 rfl rfl rfl fun E => Rl (V (s := 0) rfl) fun hl0 => row_lenA 0 (V (s := 5) rfl) rfl rfl fun hl5_0 => Sq <| Rt <| BxA 1 (V rfl) rfl rfl <| U (As (Vn (k := 5) (get := rowG ptCell default []))) <| U (As K) <| Nt <| Sq <| Sq <| Rq <| O (Mv (V rfl)) <| O (Mv (V rfl)) <| O (Mv (V rfl)) <| O (Mv (V rfl)) <| O (Mv (V rfl)) <| CQ en75 (by exact ⟨⟨(V rfl), rfl⟩, ⟨(V rfl), rfl⟩, ⟨(V rfl), rfl⟩, ⟨(V rfl), rfl⟩, ⟨(V rfl), rfl⟩, Z⟩) (powned_ct l fr k o t) <| O (As (V rfl)) <| Nq <| Sq <| Rq <| O (Mv (V rfl)) <| O (Qn (V rfl) K) <| Nq <| Cd (V rfl) (fun hc1 => ?_) (fun hc1 => ?_)
 ·have hc1s := hc1; try simp only [BL] at hc1s
  exact Sq <| Rq <| O (Mv (V rfl)) <| O (As (Vn (k := 5) (get := rowG ptCell default []))) <| O (As (V rfl)) <| Nq <| Rx <| R2 rfl (V rfl) (V rfl) rfl rfl (by show sv2 (ptRow ([])) (iv (ownedPo l fr k o t)) = sv2 (ptRow (pushR l fr k o t g).1) (iv (pushR l fr k o t g).2); rw [pushR, if_pos hc1s])
 ·have hc1s := hc1; try simp only [BL] at hc1s
  have hok := owned_ok hc1s
  have hc0 := hok.1
  have hkb := hok.2.1
  have h12 := checkPo_len hc0
  have hpp := po_parts hc0 (i := Int.toNat k) (by omega)
  have hmb := hpp.2.1
  have hqq := po_parts hc0 (i := Int.toNat (l.getD (Int.toNat k) default).mate) (by omega)
  refine Sk <| Sq <| Rt <| U (LBA (V rfl) rfl Ga35 Sz35 (by decide)) <| CT en24 (by exact ⟨⟨(Vi (g' := grG g) (V rfl) ⟨Z, Ir⟩), rfl⟩, Z⟩) (copy_ct g) <| U (Mv (V rfl)) <| U (Xt (V rfl) (by decide)) <| U (Xt (V rfl) (by decide)) <| Al 2 zero35 rfl rfl <| StA (V rfl) rfl (V rfl) Sz35 <| U (As (V rfl)) <| Nt <| Sq <| Sq <| Rq <| O (Mv (V rfl)) <| O (Qn (V rfl) K) <| Nq <| Cd (V rfl) (fun hc2 => ?_) (fun hc2 => ?_)
  ·have hc2s := hc2; try simp only [BL] at hc2s
   exact Sq <| Rq <| O (Mv (V rfl)) <| O (As (Vn (k := 5) (get := rowG ptCell default []))) <| O (As (V rfl)) <| Nq <| Rx <| R2 rfl (V rfl) (V rfl) rfl rfl (by show sv2 (ptRow ([])) (iv ((copyR g).2)) = sv2 (ptRow (pushR l fr k o t g).1) (iv (pushR l fr k o t g).2); rw [pushR, if_neg (not_not_intro hc1s), if_pos hc2s] <;> rfl)
  ·have hc2s := hc2; try simp only [BL] at hc2s
   refine Sk <| Sq <| Rq <| O (Mv (V rfl)) <| O (Mv (V rfl)) <| O (Ix (V rfl) (V rfl) ts60 te60 (by omega) (by omega)) <| O (Fl _ _ (V rfl) Un71 rfl 0 Sz3) <| O (Ld (V rfl) Ga3 (by decide)) <| O (As (V rfl)) <| Nq <| Sq <| Sq <| Rq <| O (Mv (V rfl)) <| O (Mv (V rfl)) <| O (Ix (V rfl) (V rfl) ts60 te60 (by omega) (by omega)) <| O (Fl _ _ (V rfl) Un71 rfl 0 Sz4) <| O (Ld (V rfl) Ga4 (by decide)) <| Nq <| Cd (V rfl) (fun hc3 => ?_) (fun hc3 => ?_)
   ·have hc3s := hc3; try simp only [BL] at hc3s
    exact Sq <| Rq <| O (As (Vn (k := 5) (get := rowG ptCell default []))) <| O (As K) <| Nq <| Rx <| R2 rfl (V rfl) (V rfl) rfl rfl (by show sv2 (ptRow ([])) (iv (5)) = sv2 (ptRow (pushR l fr k o t g).1) (iv (pushR l fr k o t g).2); rw [pushR, if_neg (not_not_intro hc1s), if_neg (not_not_intro hc2s), if_pos hc3] <;> rfl)
   ·have hc3s := hc3; try simp only [BL] at hc3s
    refine Sk <| Sq <| Sq <| Rq <| O (Mv (V rfl)) <| O (Mv (V rfl)) <| O (Ix (V rfl) (V rfl) ts60 te60 (by omega) (by omega)) <| O (Fl _ _ (V rfl) Un71 rfl 0 Sz59) <| O (Ld (V rfl) Ga59 (by decide)) <| O (Ln (V rfl) ts59) <| O (Ql (V rfl) K) <| Nq <| Cd (V rfl) (fun hc4 => ?_) (fun hc4 => ?_)
    ·have hc4s := hc4; try simp only [BL] at hc4s
     exact Sq <| Rq <| O (As (Vn (k := 5) (get := rowG ptCell default []))) <| O (As K) <| Nq <| Rx <| R2 rfl (V rfl) (V rfl) rfl rfl (by show sv2 (ptRow ([])) (iv (1)) = sv2 (ptRow (pushR l fr k o t g).1) (iv (pushR l fr k o t g).2); rw [pushR, if_neg (not_not_intro hc1s), if_neg (not_not_intro hc2s), if_neg (ff hc3), if_pos hc4s] <;> rfl)
    ·have hc4s := hc4; try simp only [BL] at hc4s
     refine Sk <| Sq <| Rt <| U (Mv (V rfl)) <| CM (cargs := [ptRow l]) [] [(0, 3)] en74 (mv0 (by exact ⟨⟨(V rfl), rfl⟩, Z⟩)) (pcopy_ct l fr hc0) (by exact Z) rfl rfl rfl rfl <| U (As (V rfl)) <| Nt <| Sq <| Tc (turn_splitT 3 (Int.toNat ((l.getD (Int.toNat k) default).mate)) 4 rfl (by omega) rfl rfl) <| c_rd (fun e => ⟨[(54, cj (e 0) (SV.own 3)), (55, cj (e 1) (iv ((l.getD (Int.toNat k) default).mate))), (56, cj (e 2) (SV.own 3)), (57, cj (e 3) (iv ((l.getD (Int.toNat k) default).mate))), (58, cj (e 4) (SV.oe 3 5 (Int.toNat ((l.getD (Int.toNat k) default).mate)) 0)), (59, cj (e 5) (SV.oe 3 5 (Int.toNat ((l.getD (Int.toNat k) default).mate)) 3)), (60, cj (e 6) (cjn (e 9) (SV.own 4))), (61, cj (e 7) (SV.agg 1 (fun zi => (grG ((copyR g).1)) (0 + zi)))), (62, cj (e 8) (gsRow ([(copyR g).1]))), (63, cj (e 9) (SV.own 5)), (64, cj (e 10) (SV.oe 3 5 (Int.toNat ((l.getD (Int.toNat k) default).mate)) 0)), (65, cj (e 11) (SV.oe 3 5 (Int.toNat ((l.getD (Int.toNat k) default).mate)) 3)), (0, SV.own 3), (15, SV.bp 2 0), (17, iv ((l.getD (Int.toNat k) default).mate))], (cb (e 9) (cb (e 12) [(2, Own.box 1 (grG ((copyR g).1)) 35), (3, urowOf ptCell 5 default l 71 3 Pt.came grG 1 ([]) 35 l.length (some (Int.toNat ((l.getD (Int.toNat k) default).mate), SV.own 5))), (5, ownOf grG 1 ([]) ((Pt.came (l.getD (Int.toNat ((l.getD (Int.toNat k) default).mate)) default)) ++ ([(copyR g).1])) 35)] [(2, Own.box 1 (grG ((copyR g).1)) 35), (3, urowOf ptCell 5 default l 71 3 Pt.came grG 1 ([]) 35 l.length (some (Int.toNat ((l.getD (Int.toNat k) default).mate), SV.junk))), (5, ownOf grG 1 ([]) ((Pt.came (l.getD (Int.toNat ((l.getD (Int.toNat k) default).mate)) default)) ++ ([(copyR g).1])) 35)]) (cb (e 12) [] [(2, Own.box 1 (grG ((copyR g).1)) 35), (3, urowOf ptCell 5 default l 71 3 Pt.came grG 1 ([]) 35 l.length (some (Int.toNat ((l.getD (Int.toNat k) default).mate), SV.own 4))), (4, ownOf grG 1 ([]) (Pt.came (l.getD (Int.toNat ((l.getD (Int.toNat k) default).mate)) default)) 35)]))⟩) ⟨[(54, SV.own 3), (55, iv ((l.getD (Int.toNat k) default).mate)), (56, SV.own 3), (57, iv ((l.getD (Int.toNat k) default).mate)), (58, SV.oe 3 5 (Int.toNat ((l.getD (Int.toNat k) default).mate)) 0), (59, SV.oe 3 5 (Int.toNat ((l.getD (Int.toNat k) default).mate)) 3), (61, SV.agg 1 (fun zi => (grG ((copyR g).1)) (0 + zi))), (62, gsRow ([(copyR g).1])), (63, SV.own 5), (64, SV.oe 3 5 (Int.toNat ((l.getD (Int.toNat k) default).mate)) 0), (65, SV.oe 3 5 (Int.toNat ((l.getD (Int.toNat k) default).mate)) 3), (0, SV.own 3), (15, SV.bp 2 0), (17, iv ((l.getD (Int.toNat k) default).mate))], [(2, Own.box 1 (grG ((copyR g).1)) 35), (3, urowOf ptCell 5 default l 71 3 Pt.came grG 1 ([]) 35 l.length (some (Int.toNat ((l.getD (Int.toNat k) default).mate), SV.own 5))), (5, ownOf grG 1 ([]) ((Pt.came (l.getD (Int.toNat ((l.getD (Int.toNat k) default).mate)) default)) ++ ([(copyR g).1])) 35)]⟩ (by kernel_rfl) (by kernel_rfl) ?_ ⟨?_, ?_, ?_, ?_, ?_, ?_, ?_, ?_, ?_, ?_, ?_, ?_, ?_, Z⟩ ?_ ?_
     ·show Weak _ _ ⟨[(54, SV.junk), (55, SV.junk), (56, SV.junk), (57, SV.junk), (58, SV.junk), (59, SV.junk), (60, SV.junk), (61, SV.junk), (62, SV.junk), (63, SV.junk), (64, SV.junk), (65, SV.junk), (0, SV.own 3), (15, SV.bp 2 0), (17, iv ((l.getD (Int.toNat k) default).mate))], [(2, Own.box 1 (grG ((copyR g).1)) 35), (3, urowOf ptCell 5 default l 71 3 Pt.came grG 1 ([]) 35 l.length (some (Int.toNat ((l.getD (Int.toNat k) default).mate), SV.own 4))), (4, ownOf grG 1 ([]) (Pt.came (l.getD (Int.toNat ((l.getD (Int.toNat k) default).mate)) default)) 35)]⟩
      refine We ?_ ?_
      ·exact ⟨Vj, Vj, Vj, Vj, Vj, Vj, Vj, Vj, Vj, Vj, Vj, Vj, V rfl, V rfl, V rfl, Z⟩
      ·exact ⟨⟨_, rfl, ⟨rfl, rfl, (An rfl)⟩⟩, ⟨_, rfl, rfl⟩, ⟨_, rfl, rfl⟩, Z⟩
     ·intro e hdn he hdp
      have h12 : e 12 = false := fls he fun q => by obtain ⟨r11, -, -, -, -, -, -, -, -, -, -, -, -, -⟩ := (show e 11 = true ∧ e 9 = true ∧ e 9 = true ∧ e 0 = true ∧ e 1 = true ∧ e 2 = true ∧ e 3 = true ∧ e 4 = true ∧ e 5 = true ∧ e 6 = true ∧ e 7 = true ∧ e 8 = true ∧ e 9 = true ∧ True from hdn 12 q); obtain ⟨r10, -, -, -, -, -, -, -, -, -, -, -⟩ := (show e 10 = true ∧ e 0 = true ∧ e 1 = true ∧ e 2 = true ∧ e 3 = true ∧ e 4 = true ∧ e 5 = true ∧ e 6 = true ∧ e 7 = true ∧ e 8 = true ∧ e 9 = true ∧ True from hdn 11 r11); obtain ⟨r0, -, -, -, -, -, -, -, -, -, -, -, -⟩ := (show e 0 = true ∧ e 1 = true ∧ e 0 = true ∧ e 1 = true ∧ e 2 = true ∧ e 3 = true ∧ e 4 = true ∧ e 5 = true ∧ e 6 = true ∧ e 7 = true ∧ e 8 = true ∧ e 9 = true ∧ True from hdn 10 r10); exact r0
      simp only [setE, he, h12, cj_t, cj_f, cjn_t, cjn_f, cb_t, cb_f]
      exact U (Mv (V rfl)) <| Nt <| weakS ⟨V rfl, V rfl, V rfl, V rfl, V rfl, V rfl, V rfl, V rfl, V rfl, V rfl, V rfl, V rfl, V rfl, V rfl, V rfl, Z⟩
     ·intro e hdn he hdp
      have h12 : e 12 = false := fls he fun q => by obtain ⟨r11, -, -, -, -, -, -, -, -, -, -, -, -, -⟩ := (show e 11 = true ∧ e 9 = true ∧ e 9 = true ∧ e 0 = true ∧ e 1 = true ∧ e 2 = true ∧ e 3 = true ∧ e 4 = true ∧ e 5 = true ∧ e 6 = true ∧ e 7 = true ∧ e 8 = true ∧ e 9 = true ∧ True from hdn 12 q); obtain ⟨r10, -, -, -, -, -, -, -, -, -, -, -⟩ := (show e 10 = true ∧ e 0 = true ∧ e 1 = true ∧ e 2 = true ∧ e 3 = true ∧ e 4 = true ∧ e 5 = true ∧ e 6 = true ∧ e 7 = true ∧ e 8 = true ∧ e 9 = true ∧ True from hdn 11 r11); obtain ⟨-, r1, -, -, -, -, -, -, -, -, -, -, -⟩ := (show e 0 = true ∧ e 1 = true ∧ e 0 = true ∧ e 1 = true ∧ e 2 = true ∧ e 3 = true ∧ e 4 = true ∧ e 5 = true ∧ e 6 = true ∧ e 7 = true ∧ e 8 = true ∧ e 9 = true ∧ True from hdn 10 r10); exact r1
      simp only [setE, he, h12, cj_t, cj_f, cjn_t, cjn_f, cb_t, cb_f]
      exact U (Mv (V rfl)) <| Nt <| weakS ⟨V rfl, V rfl, V rfl, V rfl, V rfl, V rfl, V rfl, V rfl, V rfl, V rfl, V rfl, V rfl, V rfl, V rfl, V rfl, Z⟩
     ·intro e hdn he hdp
      have h9 : e 9 = false := fls he fun q => by obtain ⟨r6, -, -⟩ := (show e 6 = true ∧ e 8 = true ∧ True from hdn 9 q); obtain ⟨r5, -⟩ := (show e 5 = true ∧ True from hdn 6 r6); obtain ⟨r4, -⟩ := (show e 4 = true ∧ True from hdn 5 r5); obtain ⟨r2, -, -⟩ := (show e 2 = true ∧ e 3 = true ∧ True from hdn 4 r4); exact r2
      have h12 : e 12 = false := fls he fun q => by obtain ⟨r11, -, -, -, -, -, -, -, -, -, -, -, -, -⟩ := (show e 11 = true ∧ e 9 = true ∧ e 9 = true ∧ e 0 = true ∧ e 1 = true ∧ e 2 = true ∧ e 3 = true ∧ e 4 = true ∧ e 5 = true ∧ e 6 = true ∧ e 7 = true ∧ e 8 = true ∧ e 9 = true ∧ True from hdn 12 q); obtain ⟨r10, -, -, -, -, -, -, -, -, -, -, -⟩ := (show e 10 = true ∧ e 0 = true ∧ e 1 = true ∧ e 2 = true ∧ e 3 = true ∧ e 4 = true ∧ e 5 = true ∧ e 6 = true ∧ e 7 = true ∧ e 8 = true ∧ e 9 = true ∧ True from hdn 11 r11); obtain ⟨-, -, -, -, -, -, -, -, -, -, -, r9, -⟩ := (show e 0 = true ∧ e 1 = true ∧ e 0 = true ∧ e 1 = true ∧ e 2 = true ∧ e 3 = true ∧ e 4 = true ∧ e 5 = true ∧ e 6 = true ∧ e 7 = true ∧ e 8 = true ∧ e 9 = true ∧ True from hdn 10 r10); obtain ⟨r6, -, -⟩ := (show e 6 = true ∧ e 8 = true ∧ True from hdn 9 r9); obtain ⟨r5, -⟩ := (show e 5 = true ∧ True from hdn 6 r6); obtain ⟨r4, -⟩ := (show e 4 = true ∧ True from hdn 5 r5); obtain ⟨r2, -, -⟩ := (show e 2 = true ∧ e 3 = true ∧ True from hdn 4 r4); exact r2
      simp only [setE, he, h9, h12, cj_t, cj_f, cjn_t, cjn_f, cb_t, cb_f]
      refine U (Mv (V rfl)) <| Nt <| We ?_ ?_
      ·exact ⟨V rfl, V rfl, V rfl, V rfl, V rfl, V rfl, V rfl, V rfl, V rfl, Vj, V rfl, V rfl, V rfl, V rfl, V rfl, Z⟩
      ·exact ⟨⟨_, rfl, ⟨rfl, rfl, (An rfl)⟩⟩, ⟨_, rfl, rfl⟩, ⟨_, rfl, rfl⟩, Z⟩
     ·intro e hdn he hdp
      have h9 : e 9 = false := fls he fun q => by obtain ⟨r6, -, -⟩ := (show e 6 = true ∧ e 8 = true ∧ True from hdn 9 q); obtain ⟨r5, -⟩ := (show e 5 = true ∧ True from hdn 6 r6); obtain ⟨r4, -⟩ := (show e 4 = true ∧ True from hdn 5 r5); obtain ⟨-, r3, -⟩ := (show e 2 = true ∧ e 3 = true ∧ True from hdn 4 r4); exact r3
      have h12 : e 12 = false := fls he fun q => by obtain ⟨r11, -, -, -, -, -, -, -, -, -, -, -, -, -⟩ := (show e 11 = true ∧ e 9 = true ∧ e 9 = true ∧ e 0 = true ∧ e 1 = true ∧ e 2 = true ∧ e 3 = true ∧ e 4 = true ∧ e 5 = true ∧ e 6 = true ∧ e 7 = true ∧ e 8 = true ∧ e 9 = true ∧ True from hdn 12 q); obtain ⟨r10, -, -, -, -, -, -, -, -, -, -, -⟩ := (show e 10 = true ∧ e 0 = true ∧ e 1 = true ∧ e 2 = true ∧ e 3 = true ∧ e 4 = true ∧ e 5 = true ∧ e 6 = true ∧ e 7 = true ∧ e 8 = true ∧ e 9 = true ∧ True from hdn 11 r11); obtain ⟨-, -, -, -, -, -, -, -, -, -, -, r9, -⟩ := (show e 0 = true ∧ e 1 = true ∧ e 0 = true ∧ e 1 = true ∧ e 2 = true ∧ e 3 = true ∧ e 4 = true ∧ e 5 = true ∧ e 6 = true ∧ e 7 = true ∧ e 8 = true ∧ e 9 = true ∧ True from hdn 10 r10); obtain ⟨r6, -, -⟩ := (show e 6 = true ∧ e 8 = true ∧ True from hdn 9 r9); obtain ⟨r5, -⟩ := (show e 5 = true ∧ True from hdn 6 r6); obtain ⟨r4, -⟩ := (show e 4 = true ∧ True from hdn 5 r5); obtain ⟨-, r3, -⟩ := (show e 2 = true ∧ e 3 = true ∧ True from hdn 4 r4); exact r3
      simp only [setE, he, h9, h12, cj_t, cj_f, cjn_t, cjn_f, cb_t, cb_f]
      refine U (Mv (V rfl)) <| Nt <| We ?_ ?_
      ·exact ⟨V rfl, V rfl, V rfl, V rfl, V rfl, V rfl, V rfl, V rfl, V rfl, Vj, V rfl, V rfl, V rfl, V rfl, V rfl, Z⟩
      ·exact ⟨⟨_, rfl, ⟨rfl, rfl, (An rfl)⟩⟩, ⟨_, rfl, rfl⟩, ⟨_, rfl, rfl⟩, Z⟩
     ·intro e hdn he hdp
      obtain ⟨h2, h3, -⟩ := (show e 2 = true ∧ e 3 = true ∧ True from hdp)
      have h9 : e 9 = false := fls he fun q => by obtain ⟨r6, -, -⟩ := (show e 6 = true ∧ e 8 = true ∧ True from hdn 9 q); obtain ⟨r5, -⟩ := (show e 5 = true ∧ True from hdn 6 r6); obtain ⟨r4, -⟩ := (show e 4 = true ∧ True from hdn 5 r5); exact r4
      have h12 : e 12 = false := fls he fun q => by obtain ⟨r11, -, -, -, -, -, -, -, -, -, -, -, -, -⟩ := (show e 11 = true ∧ e 9 = true ∧ e 9 = true ∧ e 0 = true ∧ e 1 = true ∧ e 2 = true ∧ e 3 = true ∧ e 4 = true ∧ e 5 = true ∧ e 6 = true ∧ e 7 = true ∧ e 8 = true ∧ e 9 = true ∧ True from hdn 12 q); obtain ⟨r10, -, -, -, -, -, -, -, -, -, -, -⟩ := (show e 10 = true ∧ e 0 = true ∧ e 1 = true ∧ e 2 = true ∧ e 3 = true ∧ e 4 = true ∧ e 5 = true ∧ e 6 = true ∧ e 7 = true ∧ e 8 = true ∧ e 9 = true ∧ True from hdn 11 r11); obtain ⟨-, -, -, -, -, -, -, -, -, -, -, r9, -⟩ := (show e 0 = true ∧ e 1 = true ∧ e 0 = true ∧ e 1 = true ∧ e 2 = true ∧ e 3 = true ∧ e 4 = true ∧ e 5 = true ∧ e 6 = true ∧ e 7 = true ∧ e 8 = true ∧ e 9 = true ∧ True from hdn 10 r10); obtain ⟨r6, -, -⟩ := (show e 6 = true ∧ e 8 = true ∧ True from hdn 9 r9); obtain ⟨r5, -⟩ := (show e 5 = true ∧ True from hdn 6 r6); obtain ⟨r4, -⟩ := (show e 4 = true ∧ True from hdn 5 r5); exact r4
      simp only [setE, h2, h3, he, h9, h12, cj_t, cj_f, cjn_t, cjn_f, cb_t, cb_f]
      refine U (q_idxU (V rfl) rfl (V rfl) ts60 te60 (by omega) (by omega)) <| Nt <| We ?_ ?_
      ·exact ⟨V rfl, V rfl, V rfl, V rfl, V rfl, V rfl, V rfl, V rfl, V rfl, Vj, V rfl, V rfl, V rfl, V rfl, V rfl, Z⟩
      ·exact ⟨⟨_, rfl, ⟨rfl, rfl, (An rfl)⟩⟩, ⟨_, rfl, rfl⟩, ⟨_, rfl, rfl⟩, Z⟩
     ·intro e hdn he hdp
      obtain ⟨h4, -⟩ := (show e 4 = true ∧ True from hdp)
      obtain ⟨h2, h3, -⟩ := (show e 2 = true ∧ e 3 = true ∧ True from hdn 4 h4)
      have h9 : e 9 = false := fls he fun q => by obtain ⟨r6, -, -⟩ := (show e 6 = true ∧ e 8 = true ∧ True from hdn 9 q); obtain ⟨r5, -⟩ := (show e 5 = true ∧ True from hdn 6 r6); exact r5
      have h12 : e 12 = false := fls he fun q => by obtain ⟨r11, -, -, -, -, -, -, -, -, -, -, -, -, -⟩ := (show e 11 = true ∧ e 9 = true ∧ e 9 = true ∧ e 0 = true ∧ e 1 = true ∧ e 2 = true ∧ e 3 = true ∧ e 4 = true ∧ e 5 = true ∧ e 6 = true ∧ e 7 = true ∧ e 8 = true ∧ e 9 = true ∧ True from hdn 12 q); obtain ⟨r10, -, -, -, -, -, -, -, -, -, -, -⟩ := (show e 10 = true ∧ e 0 = true ∧ e 1 = true ∧ e 2 = true ∧ e 3 = true ∧ e 4 = true ∧ e 5 = true ∧ e 6 = true ∧ e 7 = true ∧ e 8 = true ∧ e 9 = true ∧ True from hdn 11 r11); obtain ⟨-, -, -, -, -, -, -, -, -, -, -, r9, -⟩ := (show e 0 = true ∧ e 1 = true ∧ e 0 = true ∧ e 1 = true ∧ e 2 = true ∧ e 3 = true ∧ e 4 = true ∧ e 5 = true ∧ e 6 = true ∧ e 7 = true ∧ e 8 = true ∧ e 9 = true ∧ True from hdn 10 r10); obtain ⟨r6, -, -⟩ := (show e 6 = true ∧ e 8 = true ∧ True from hdn 9 r9); obtain ⟨r5, -⟩ := (show e 5 = true ∧ True from hdn 6 r6); exact r5
      simp only [setE, h2, h3, h4, he, h9, h12, cj_t, cj_f, cjn_t, cjn_f, cb_t, cb_f]
      refine U (FlO _ _ (V rfl) Un71 rfl 0 Sz59) <| Nt <| We ?_ ?_
      ·exact ⟨V rfl, V rfl, V rfl, V rfl, V rfl, V rfl, V rfl, V rfl, V rfl, Vj, V rfl, V rfl, V rfl, V rfl, V rfl, Z⟩
      ·exact ⟨⟨_, rfl, ⟨rfl, rfl, (An rfl)⟩⟩, ⟨_, rfl, rfl⟩, ⟨_, rfl, rfl⟩, Z⟩
     ·intro e hdn he hdp
      obtain ⟨h5, -⟩ := (show e 5 = true ∧ True from hdp)
      obtain ⟨h4, -⟩ := (show e 4 = true ∧ True from hdn 5 h5)
      obtain ⟨h2, h3, -⟩ := (show e 2 = true ∧ e 3 = true ∧ True from hdn 4 h4)
      have h9 : e 9 = false := fls he fun q => by obtain ⟨r6, -, -⟩ := (show e 6 = true ∧ e 8 = true ∧ True from hdn 9 q); exact r6
      have h12 : e 12 = false := fls he fun q => by obtain ⟨r11, -, -, -, -, -, -, -, -, -, -, -, -, -⟩ := (show e 11 = true ∧ e 9 = true ∧ e 9 = true ∧ e 0 = true ∧ e 1 = true ∧ e 2 = true ∧ e 3 = true ∧ e 4 = true ∧ e 5 = true ∧ e 6 = true ∧ e 7 = true ∧ e 8 = true ∧ e 9 = true ∧ True from hdn 12 q); obtain ⟨r10, -, -, -, -, -, -, -, -, -, -, -⟩ := (show e 10 = true ∧ e 0 = true ∧ e 1 = true ∧ e 2 = true ∧ e 3 = true ∧ e 4 = true ∧ e 5 = true ∧ e 6 = true ∧ e 7 = true ∧ e 8 = true ∧ e 9 = true ∧ True from hdn 11 r11); obtain ⟨-, -, -, -, -, -, -, -, -, -, -, r9, -⟩ := (show e 0 = true ∧ e 1 = true ∧ e 0 = true ∧ e 1 = true ∧ e 2 = true ∧ e 3 = true ∧ e 4 = true ∧ e 5 = true ∧ e 6 = true ∧ e 7 = true ∧ e 8 = true ∧ e 9 = true ∧ True from hdn 10 r10); obtain ⟨r6, -, -⟩ := (show e 6 = true ∧ e 8 = true ∧ True from hdn 9 r9); exact r6
      simp only [setE, h2, h3, h4, h5, he, h9, h12, cj_t, cj_f, cjn_t, cjn_f, cb_t, cb_f]
      refine U (LdU (V rfl) rfl Ga59 (by decide) uat_hole) <| Nt <| We ?_ ?_
      ·exact ⟨V rfl, V rfl, V rfl, V rfl, V rfl, V rfl, V rfl, V rfl, V rfl, Vj, V rfl, V rfl, V rfl, V rfl, V rfl, Z⟩
      ·exact ⟨⟨_, rfl, ⟨rfl, rfl, (An rfl)⟩⟩, ⟨_, rfl, rfl⟩, ⟨_, rfl, rfl⟩, Z⟩
     ·intro e hdn he hdp
      have h9 : e 9 = false := fls he fun q => by obtain ⟨-, r8, -⟩ := (show e 6 = true ∧ e 8 = true ∧ True from hdn 9 q); obtain ⟨r7, -⟩ := (show e 7 = true ∧ True from hdn 8 r8); exact r7
      have h12 : e 12 = false := fls he fun q => by obtain ⟨r11, -, -, -, -, -, -, -, -, -, -, -, -, -⟩ := (show e 11 = true ∧ e 9 = true ∧ e 9 = true ∧ e 0 = true ∧ e 1 = true ∧ e 2 = true ∧ e 3 = true ∧ e 4 = true ∧ e 5 = true ∧ e 6 = true ∧ e 7 = true ∧ e 8 = true ∧ e 9 = true ∧ True from hdn 12 q); obtain ⟨r10, -, -, -, -, -, -, -, -, -, -, -⟩ := (show e 10 = true ∧ e 0 = true ∧ e 1 = true ∧ e 2 = true ∧ e 3 = true ∧ e 4 = true ∧ e 5 = true ∧ e 6 = true ∧ e 7 = true ∧ e 8 = true ∧ e 9 = true ∧ True from hdn 11 r11); obtain ⟨-, -, -, -, -, -, -, -, -, -, -, r9, -⟩ := (show e 0 = true ∧ e 1 = true ∧ e 0 = true ∧ e 1 = true ∧ e 2 = true ∧ e 3 = true ∧ e 4 = true ∧ e 5 = true ∧ e 6 = true ∧ e 7 = true ∧ e 8 = true ∧ e 9 = true ∧ True from hdn 10 r10); obtain ⟨-, r8, -⟩ := (show e 6 = true ∧ e 8 = true ∧ True from hdn 9 r9); obtain ⟨r7, -⟩ := (show e 7 = true ∧ True from hdn 8 r8); exact r7
      simp only [setE, he, h9, h12, cj_t, cj_f, cjn_t, cjn_f, cb_t, cb_f]
      refine U (LBA (V rfl) rfl Ga35 Sz35 (by decide)) <| Nt <| We ?_ ?_
      ·exact ⟨V rfl, V rfl, V rfl, V rfl, V rfl, V rfl, V rfl, V rfl, V rfl, Vj, V rfl, V rfl, V rfl, V rfl, V rfl, Z⟩
      ·exact ⟨⟨_, rfl, ⟨rfl, rfl, (An rfl)⟩⟩, ⟨_, rfl, rfl⟩, ⟨_, rfl, rfl⟩, Z⟩
     ·intro e hdn he hdp
      obtain ⟨h7, -⟩ := (show e 7 = true ∧ True from hdp)
      have h9 : e 9 = false := fls he fun q => by obtain ⟨-, r8, -⟩ := (show e 6 = true ∧ e 8 = true ∧ True from hdn 9 q); exact r8
      have h12 : e 12 = false := fls he fun q => by obtain ⟨r11, -, -, -, -, -, -, -, -, -, -, -, -, -⟩ := (show e 11 = true ∧ e 9 = true ∧ e 9 = true ∧ e 0 = true ∧ e 1 = true ∧ e 2 = true ∧ e 3 = true ∧ e 4 = true ∧ e 5 = true ∧ e 6 = true ∧ e 7 = true ∧ e 8 = true ∧ e 9 = true ∧ True from hdn 12 q); obtain ⟨r10, -, -, -, -, -, -, -, -, -, -, -⟩ := (show e 10 = true ∧ e 0 = true ∧ e 1 = true ∧ e 2 = true ∧ e 3 = true ∧ e 4 = true ∧ e 5 = true ∧ e 6 = true ∧ e 7 = true ∧ e 8 = true ∧ e 9 = true ∧ True from hdn 11 r11); obtain ⟨-, -, -, -, -, -, -, -, -, -, -, r9, -⟩ := (show e 0 = true ∧ e 1 = true ∧ e 0 = true ∧ e 1 = true ∧ e 2 = true ∧ e 3 = true ∧ e 4 = true ∧ e 5 = true ∧ e 6 = true ∧ e 7 = true ∧ e 8 = true ∧ e 9 = true ∧ True from hdn 10 r10); obtain ⟨-, r8, -⟩ := (show e 6 = true ∧ e 8 = true ∧ True from hdn 9 r9); exact r8
      simp only [setE, h7, he, h9, h12, cj_t, cj_f, cjn_t, cjn_f, cb_t, cb_f]
      refine Uw (w_bs (n := 1) (zget := cmpG [SV.v (Value.slice none 0 0)]) [(fun zi => (grG ((copyR g).1)) (0 + zi))] (rowG grG ([]) [(copyR g).1]) Un59 Sz35 zero35 (by decide) rfl (by decide) ⟨⟨rfl, .inl (V rfl), rfl⟩, Z⟩ ⟨Z, ⟨Z, rfl⟩⟩) <| Nt <| We ?_ ?_
      ·exact ⟨V rfl, V rfl, V rfl, V rfl, V rfl, V rfl, V rfl, V rfl, V rfl, Vj, V rfl, V rfl, V rfl, V rfl, V rfl, Z⟩
      ·exact ⟨⟨_, rfl, ⟨rfl, rfl, (An rfl)⟩⟩, ⟨_, rfl, rfl⟩, ⟨_, rfl, rfl⟩, Z⟩
     ·intro e hdn he hdp
      obtain ⟨h6, h8, -⟩ := (show e 6 = true ∧ e 8 = true ∧ True from hdp)
      obtain ⟨h7, -⟩ := (show e 7 = true ∧ True from hdn 8 h8)
      obtain ⟨h5, -⟩ := (show e 5 = true ∧ True from hdn 6 h6)
      obtain ⟨h4, -⟩ := (show e 4 = true ∧ True from hdn 5 h5)
      obtain ⟨h2, h3, -⟩ := (show e 2 = true ∧ e 3 = true ∧ True from hdn 4 h4)
      have h10 : e 10 = false := fls he fun q => by obtain ⟨-, -, -, -, -, -, -, -, -, -, -, r9, -⟩ := (show e 0 = true ∧ e 1 = true ∧ e 0 = true ∧ e 1 = true ∧ e 2 = true ∧ e 3 = true ∧ e 4 = true ∧ e 5 = true ∧ e 6 = true ∧ e 7 = true ∧ e 8 = true ∧ e 9 = true ∧ True from hdn 10 q); exact r9
      have h11 : e 11 = false := fls he fun q => by obtain ⟨r10, -, -, -, -, -, -, -, -, -, -, -⟩ := (show e 10 = true ∧ e 0 = true ∧ e 1 = true ∧ e 2 = true ∧ e 3 = true ∧ e 4 = true ∧ e 5 = true ∧ e 6 = true ∧ e 7 = true ∧ e 8 = true ∧ e 9 = true ∧ True from hdn 11 q); obtain ⟨-, -, -, -, -, -, -, -, -, -, -, r9, -⟩ := (show e 0 = true ∧ e 1 = true ∧ e 0 = true ∧ e 1 = true ∧ e 2 = true ∧ e 3 = true ∧ e 4 = true ∧ e 5 = true ∧ e 6 = true ∧ e 7 = true ∧ e 8 = true ∧ e 9 = true ∧ True from hdn 10 r10); exact r9
      have h12 : e 12 = false := fls he fun q => by obtain ⟨r11, -, -, -, -, -, -, -, -, -, -, -, -, -⟩ := (show e 11 = true ∧ e 9 = true ∧ e 9 = true ∧ e 0 = true ∧ e 1 = true ∧ e 2 = true ∧ e 3 = true ∧ e 4 = true ∧ e 5 = true ∧ e 6 = true ∧ e 7 = true ∧ e 8 = true ∧ e 9 = true ∧ True from hdn 12 q); obtain ⟨r10, -, -, -, -, -, -, -, -, -, -, -⟩ := (show e 10 = true ∧ e 0 = true ∧ e 1 = true ∧ e 2 = true ∧ e 3 = true ∧ e 4 = true ∧ e 5 = true ∧ e 6 = true ∧ e 7 = true ∧ e 8 = true ∧ e 9 = true ∧ True from hdn 11 r11); obtain ⟨-, -, -, -, -, -, -, -, -, -, -, r9, -⟩ := (show e 0 = true ∧ e 1 = true ∧ e 0 = true ∧ e 1 = true ∧ e 2 = true ∧ e 3 = true ∧ e 4 = true ∧ e 5 = true ∧ e 6 = true ∧ e 7 = true ∧ e 8 = true ∧ e 9 = true ∧ True from hdn 10 r10); exact r9
      simp only [setE, h2, h3, h4, h5, h6, h7, h8, he, h10, h11, h12, cj_t, cj_f, cjn_t, cjn_f, cb_t, cb_f]
      refine Ap 5 (rowG grG ([]) ((Pt.came (l.getD (Int.toNat ((l.getD (Int.toNat k) default).mate)) default)) ++ ([(copyR g).1]))) eo59 (V rfl) rfl (V rfl) (fresh_mk ⟨(noId_cj rfl), (noId_cj rfl), rfl, rfl, rfl, rfl, rfl, rfl, rfl, rfl, rfl, rfl, rfl, rfl, rfl, Z⟩ rfl rfl) (len_app (Pt.came (l.getD (Int.toNat ((l.getD (Int.toNat k) default).mate)) default)) ([(copyR g).1])) (by first | (simp only [maxLen, List.length_append, List.length_set, List.length_nil, List.length_cons]; omega) | (simp only [maxLen]; omega)) (by first | (simp only [List.length_append, List.length_set, List.length_nil, List.length_cons]; omega) | (omega)) (app_typed (l := (Pt.came (l.getD (Int.toNat ((l.getD (Int.toNat k) default).mate)) default))) (m := ([(copyR g).1]))) <| Nt <| We ?_ ?_
      ·exact ⟨val_kc rfl (V rfl), val_kc rfl (V rfl), V rfl, V rfl, V rfl, V rfl, Vj, V rfl, V rfl, V rfl, Vj, Vj, V rfl, V rfl, V rfl, Z⟩
      ·exact ⟨⟨_, rfl, ⟨rfl, rfl, (An rfl)⟩⟩, ⟨_, rfl, rfl⟩, ⟨_, rfl, rfl⟩, Z⟩
     ·intro e hdn he hdp
      obtain ⟨h0, h1, -, -, h2, h3, h4, h5, h6, h7, h8, h9, -⟩ := (show e 0 = true ∧ e 1 = true ∧ e 0 = true ∧ e 1 = true ∧ e 2 = true ∧ e 3 = true ∧ e 4 = true ∧ e 5 = true ∧ e 6 = true ∧ e 7 = true ∧ e 8 = true ∧ e 9 = true ∧ True from hdp)
      have h12 : e 12 = false := fls he fun q => by obtain ⟨r11, -, -, -, -, -, -, -, -, -, -, -, -, -⟩ := (show e 11 = true ∧ e 9 = true ∧ e 9 = true ∧ e 0 = true ∧ e 1 = true ∧ e 2 = true ∧ e 3 = true ∧ e 4 = true ∧ e 5 = true ∧ e 6 = true ∧ e 7 = true ∧ e 8 = true ∧ e 9 = true ∧ True from hdn 12 q); obtain ⟨r10, -, -, -, -, -, -, -, -, -, -, -⟩ := (show e 10 = true ∧ e 0 = true ∧ e 1 = true ∧ e 2 = true ∧ e 3 = true ∧ e 4 = true ∧ e 5 = true ∧ e 6 = true ∧ e 7 = true ∧ e 8 = true ∧ e 9 = true ∧ True from hdn 11 r11); exact r10
      simp only [setE, h0, h1, h2, h3, h4, h5, h6, h7, h8, h9, he, h12, cj_t, cj_f, cjn_t, cjn_f, cb_t, cb_f]
      refine U (q_idxU (V rfl) rfl (V rfl) ts60 te60 (by omega) (by omega)) <| Nt <| We ?_ ?_
      ·exact ⟨V rfl, V rfl, V rfl, V rfl, V rfl, V rfl, Vj, V rfl, V rfl, V rfl, V rfl, V rfl, V rfl, V rfl, V rfl, Z⟩
      ·exact ⟨⟨_, rfl, ⟨rfl, rfl, (An rfl)⟩⟩, ⟨_, rfl, rfl⟩, ⟨_, rfl, rfl⟩, Z⟩
     ·intro e hdn he hdp
      obtain ⟨h10, h0, h1, h2, h3, h4, h5, h6, h7, h8, h9, -⟩ := (show e 10 = true ∧ e 0 = true ∧ e 1 = true ∧ e 2 = true ∧ e 3 = true ∧ e 4 = true ∧ e 5 = true ∧ e 6 = true ∧ e 7 = true ∧ e 8 = true ∧ e 9 = true ∧ True from hdp)
      have h12 : e 12 = false := fls he fun q => by obtain ⟨r11, -, -, -, -, -, -, -, -, -, -, -, -, -⟩ := (show e 11 = true ∧ e 9 = true ∧ e 9 = true ∧ e 0 = true ∧ e 1 = true ∧ e 2 = true ∧ e 3 = true ∧ e 4 = true ∧ e 5 = true ∧ e 6 = true ∧ e 7 = true ∧ e 8 = true ∧ e 9 = true ∧ True from hdn 12 q); exact r11
      simp only [setE, h0, h1, h2, h3, h4, h5, h6, h7, h8, h9, h10, he, h12, cj_t, cj_f, cjn_t, cjn_f, cb_t, cb_f]
      refine U (FlO _ _ (V rfl) Un71 rfl 0 Sz59) <| Nt <| We ?_ ?_
      ·exact ⟨V rfl, V rfl, V rfl, V rfl, V rfl, V rfl, Vj, V rfl, V rfl, V rfl, V rfl, V rfl, V rfl, V rfl, V rfl, Z⟩
      ·exact ⟨⟨_, rfl, ⟨rfl, rfl, (An rfl)⟩⟩, ⟨_, rfl, rfl⟩, ⟨_, rfl, rfl⟩, Z⟩
     ·intro e hdn he hdp
      obtain ⟨h11, h9, -, h0, h1, h2, h3, h4, h5, h6, h7, h8, -, -⟩ := (show e 11 = true ∧ e 9 = true ∧ e 9 = true ∧ e 0 = true ∧ e 1 = true ∧ e 2 = true ∧ e 3 = true ∧ e 4 = true ∧ e 5 = true ∧ e 6 = true ∧ e 7 = true ∧ e 8 = true ∧ e 9 = true ∧ True from hdp)
      obtain ⟨h10, -, -, -, -, -, -, -, -, -, -, -⟩ := (show e 10 = true ∧ e 0 = true ∧ e 1 = true ∧ e 2 = true ∧ e 3 = true ∧ e 4 = true ∧ e 5 = true ∧ e 6 = true ∧ e 7 = true ∧ e 8 = true ∧ e 9 = true ∧ True from hdn 11 h11)
      simp only [setE, h0, h1, h2, h3, h4, h5, h6, h7, h8, h9, h10, h11, he, cj_t, cj_f, cjn_t, cjn_f, cb_t, cb_f]
      refine t_stH (V rfl) rfl (V rfl) (one_own rfl) Sz59 (by decide) (.inl rfl) <| Nt <| We ?_ ?_
      ·exact ⟨V rfl, V rfl, V rfl, V rfl, V rfl, V rfl, Vj, V rfl, V rfl, V rfl, V rfl, V rfl, V rfl, V rfl, V rfl, Z⟩
      ·exact ⟨⟨_, rfl, ⟨rfl, rfl, (An rfl)⟩⟩, ⟨_, rfl, rfl⟩, ⟨_, rfl, rfl⟩, Z⟩
     ·intro e he
      have h0 := he 0 (by decide)
      have h1 := he 1 (by decide)
      have h2 := he 2 (by decide)
      have h3 := he 3 (by decide)
      have h4 := he 4 (by decide)
      have h5 := he 5 (by decide)
      have h6 := he 6 (by decide)
      have h7 := he 7 (by decide)
      have h8 := he 8 (by decide)
      have h9 := he 9 (by decide)
      have h10 := he 10 (by decide)
      have h11 := he 11 (by decide)
      have h12 := he 12 (by decide)
      show Weak _ ⟨[(54, cj (e 0) (SV.own 3)), (55, cj (e 1) (iv ((l.getD (Int.toNat k) default).mate))), (56, cj (e 2) (SV.own 3)), (57, cj (e 3) (iv ((l.getD (Int.toNat k) default).mate))), (58, cj (e 4) (SV.oe 3 5 (Int.toNat ((l.getD (Int.toNat k) default).mate)) 0)), (59, cj (e 5) (SV.oe 3 5 (Int.toNat ((l.getD (Int.toNat k) default).mate)) 3)), (60, cj (e 6) (cjn (e 9) (SV.own 4))), (61, cj (e 7) (SV.agg 1 (fun zi => (grG ((copyR g).1)) (0 + zi)))), (62, cj (e 8) (gsRow ([(copyR g).1]))), (63, cj (e 9) (SV.own 5)), (64, cj (e 10) (SV.oe 3 5 (Int.toNat ((l.getD (Int.toNat k) default).mate)) 0)), (65, cj (e 11) (SV.oe 3 5 (Int.toNat ((l.getD (Int.toNat k) default).mate)) 3)), (0, SV.own 3), (15, SV.bp 2 0), (17, iv ((l.getD (Int.toNat k) default).mate))], (cb (e 9) (cb (e 12) [(2, Own.box 1 (grG ((copyR g).1)) 35), (3, urowOf ptCell 5 default l 71 3 Pt.came grG 1 ([]) 35 l.length (some (Int.toNat ((l.getD (Int.toNat k) default).mate), SV.own 5))), (5, ownOf grG 1 ([]) ((Pt.came (l.getD (Int.toNat ((l.getD (Int.toNat k) default).mate)) default)) ++ ([(copyR g).1])) 35)] [(2, Own.box 1 (grG ((copyR g).1)) 35), (3, urowOf ptCell 5 default l 71 3 Pt.came grG 1 ([]) 35 l.length (some (Int.toNat ((l.getD (Int.toNat k) default).mate), SV.junk))), (5, ownOf grG 1 ([]) ((Pt.came (l.getD (Int.toNat ((l.getD (Int.toNat k) default).mate)) default)) ++ ([(copyR g).1])) 35)]) (cb (e 12) [] [(2, Own.box 1 (grG ((copyR g).1)) 35), (3, urowOf ptCell 5 default l 71 3 Pt.came grG 1 ([]) 35 l.length (some (Int.toNat ((l.getD (Int.toNat k) default).mate), SV.own 4))), (4, ownOf grG 1 ([]) (Pt.came (l.getD (Int.toNat ((l.getD (Int.toNat k) default).mate)) default)) 35)]))⟩ _
      simp only [h0, h1, h2, h3, h4, h5, h6, h7, h8, h9, h10, h11, h12]
      show Weak _ ⟨[(54, SV.own 3), (55, iv ((l.getD (Int.toNat k) default).mate)), (56, SV.own 3), (57, iv ((l.getD (Int.toNat k) default).mate)), (58, SV.oe 3 5 (Int.toNat ((l.getD (Int.toNat k) default).mate)) 0), (59, SV.oe 3 5 (Int.toNat ((l.getD (Int.toNat k) default).mate)) 3), (60, SV.junk), (61, SV.agg 1 (fun zi => (grG ((copyR g).1)) (0 + zi))), (62, gsRow ([(copyR g).1])), (63, SV.own 5), (64, SV.oe 3 5 (Int.toNat ((l.getD (Int.toNat k) default).mate)) 0), (65, SV.oe 3 5 (Int.toNat ((l.getD (Int.toNat k) default).mate)) 3), (0, SV.own 3), (15, SV.bp 2 0), (17, iv ((l.getD (Int.toNat k) default).mate))], [(2, Own.box 1 (grG ((copyR g).1)) 35), (3, urowOf ptCell 5 default l 71 3 Pt.came grG 1 ([]) 35 l.length (some (Int.toNat ((l.getD (Int.toNat k) default).mate), SV.own 5))), (5, ownOf grG 1 ([]) ((Pt.came (l.getD (Int.toNat ((l.getD (Int.toNat k) default).mate)) default)) ++ ([(copyR g).1])) 35)]⟩ _
      refine We ?_ ?_
      ·exact ⟨V rfl, V rfl, V rfl, V rfl, V rfl, V rfl, Va (V rfl) (An rfl), V rfl, V rfl, V rfl, V rfl, V rfl, V rfl, V rfl, Z⟩
      ·exact ⟨⟨_, rfl, ⟨rfl, rfl, (An rfl)⟩⟩, ⟨_, rfl, rfl⟩, ⟨_, rfl, rfl⟩, Z⟩
     exact Sq <| Rq <| O (Mv (V rfl)) <| O (As (V rfl)) <| O (As K) <| Nq <| Tc (turn_joinT 3 (Int.toNat ((l.getD (Int.toNat k) default).mate)) 5 l.length ({ (l.getD (Int.toNat ((l.getD (Int.toNat k) default).mate)) default) with came := (Pt.came (l.getD (Int.toNat ((l.getD (Int.toNat k) default).mate)) default)) ++ ([(copyR g).1]) }) rfl rfl rfl (by first | omega | (simp; omega)) (by omega) (by rw [if_pos (by omega)]) rfl rfl (fun t ht hne => match t, ht, hne with | 0, _, _ => rfl | 1, _, _ => rfl | 2, _, _ => rfl | 3, _, hne => absurd rfl hne | 4, _, _ => rfl) rfl) <| Tc (turn_uAT 3 rfl rfl (fun _ => rfl)) <| FzC 3 rfl <| Rx <| R2 rfl (V rfl) (V rfl) rfl rfl (by show sv2 (ptRow (l.set (Int.toNat ((l.getD (Int.toNat k) default).mate)) ({ (l.getD (Int.toNat ((l.getD (Int.toNat k) default).mate)) default) with came := (Pt.came (l.getD (Int.toNat ((l.getD (Int.toNat k) default).mate)) default)) ++ ([(copyR g).1]) }))) (iv (0)) = sv2 (ptRow (pushR l fr k o t g).1) (iv (pushR l fr k o t g).2); rw [pushR, if_neg (not_not_intro hc1s), if_neg (not_not_intro hc2s), if_neg (ff hc3), if_neg hc4s] <;> rfl)
theorem ppass_ct (l : List Pt) (fr k o t to th : Int) : Ct Try.prog 54 [ptRow l, iv (fr), iv (k), iv (o), iv (t), iv (to), iv (th)] (sv2 (ptRow (passR l fr k o t to th).1) (iv (passR l fr k o t to th).2)) := by
 refine CtO 52 Try.func54 rfl rfl rfl fun E => Rl (V (s := 0) rfl) fun hl0 => Sq <| Rq <| O (As (Vn (k := 5) (get := rowG ptCell default []))) <| O (As K) <| Nq <| Sq <| Sq <| Rq <| O (Mv (V rfl)) <| O (Mv (V rfl)) <| O (Mv (V rfl)) <| O (Mv (V rfl)) <| O (Mv (V rfl)) <| CQ en75 (by exact ⟨⟨(V rfl), rfl⟩, ⟨(V rfl), rfl⟩, ⟨(V rfl), rfl⟩, ⟨(V rfl), rfl⟩, ⟨(V rfl), rfl⟩, Z⟩) (powned_ct l fr k o t) <| O (As (V rfl)) <| Nq <| Sq <| Rq <| O (Mv (V rfl)) <| O (Qn (V rfl) K) <| Nq <| Cd (V rfl) (fun hc1 => ?_) (fun hc1 => ?_)
 ·have hc1s := hc1; try simp only [BL] at hc1s
  exact Sq <| Rq <| O (Mv (V rfl)) <| O (As (Vn (k := 5) (get := rowG ptCell default []))) <| O (As (V rfl)) <| Nq <| Rx <| R2 rfl (V rfl) (V rfl) rfl rfl (by show sv2 (ptRow ([])) (iv (ownedPo l fr k o t)) = sv2 (ptRow (passR l fr k o t to th).1) (iv (passR l fr k o t to th).2); rw [passR, if_pos hc1s])
 ·have hc1s := hc1; try simp only [BL] at hc1s
  have hok := owned_ok hc1s
  have hc0 := hok.1
  have hkb := hok.2.1
  have h12 := checkPo_len hc0
  refine Sk <| Sq <| Sq <| Rq <| O (Mv (V rfl)) <| O (Lt (V rfl) K) <| O (Mv (V rfl)) <| Og (Gn rfl rfl) (fun hg => Mv (V rfl)) <| Og (Gn rfl rfl) (fun hg => Mv (V rfl)) <| Og (Gn rfl rfl) (fun hg => Ge (Vg (V rfl) hg) (Vg (V rfl) hg)) <| O (Qr (V rfl) (fun h => Vg (V rfl) (notT h))) <| Nq <| Cd (V rfl) (fun hc2 => ?_) (fun hc2 => ?_)
  ·have hc2s := hc2; try simp only [BL] at hc2s
   exact Sq <| Rq <| O (As (Vn (k := 5) (get := rowG ptCell default []))) <| O (As K) <| Nq <| Rx <| R2 rfl (V rfl) (V rfl) rfl rfl (by show sv2 (ptRow ([])) (iv (4)) = sv2 (ptRow (passR l fr k o t to th).1) (iv (passR l fr k o t to th).2); rw [passR, if_neg (not_not_intro hc1s), if_pos hc2])
  ·have hc2s := hc2; try simp only [BL] at hc2s
   refine Sk <| Sq <| Sq <| Rq <| O (Mv (V rfl)) <| O (Lt (V rfl) K) <| O (Mv (V rfl)) <| Og (Gn rfl rfl) (fun hg => Mv (V rfl)) <| Og (Gn rfl rfl) (fun hg => Gt (Vg (V rfl) hg) K) <| O (Qr (V rfl) (fun h => Vg (V rfl) (notT h))) <| Nq <| Cd (V rfl) (fun hc3 => ?_) (fun hc3 => ?_)
   ·have hc3s := hc3; try simp only [BL] at hc3s
    exact Sq <| Rq <| O (As (Vn (k := 5) (get := rowG ptCell default []))) <| O (As K) <| Nq <| Rx <| R2 rfl (V rfl) (V rfl) rfl rfl (by show sv2 (ptRow ([])) (iv (2)) = sv2 (ptRow (passR l fr k o t to th).1) (iv (passR l fr k o t to th).2); rw [passR, if_neg (not_not_intro hc1s), if_neg (ff hc2), if_pos hc3])
   ·have hc3s := hc3; try simp only [BL] at hc3s
    refine Sk <| Sq <| Rt <| U (Mv (V rfl)) <| CM (cargs := [ptRow l]) [] [(0, 1)] en74 (mv0 (by exact ⟨⟨(V rfl), rfl⟩, Z⟩)) (pcopy_ct l fr hc0) (by exact Z) rfl rfl rfl rfl <| Tt (turn_uAT 1 rfl rfl (fun _ => rfl)) <| U (As (V rfl)) <| Nt <| Sq <| Rt <| U (Mv (V rfl)) <| U (Mv (V rfl)) <| U (Mv (V rfl)) <| U (Mv (V rfl)) <| U (Mv (V rfl)) <| U (Mv (V rfl)) <| U (IxO (V rfl) rfl (V rfl) ts60 te60 (by omega) (by first | omega | (simp only [List.length_set]; omega))) <| U (FlO _ _ (V rfl) Un71 rfl 0 Sz3) <| ?_
    have hidx0 : Int.toNat k < l.length := by first | omega | (simp; omega)
    refine StO (rowG ptCell default (l.set (Int.toNat k) ({ (l.getD (Int.toNat k) default) with owner := to }))) (V rfl) rfl (V rfl) rfl rfl Sz3 (by decide) (show l.length = (l.set (Int.toNat k) ({ (l.getD (Int.toNat k) default) with owner := to })).length from List.length_set.symm) (set_at hidx0 rfl) (set_typed hidx0 fun t ht hne => match t, ht, hne with | 0, _, hne => absurd rfl hne | 1, _, _ => rfl | 2, _, _ => rfl | 3, _, _ => rfl | 4, _, _ => rfl) <| U (IxO (V rfl) rfl (V rfl) ts60 te60 (by omega) (by first | omega | (simp only [List.length_set]; omega))) <| U (FlO _ _ (V rfl) Un71 rfl 0 Sz3) <| ?_
    have hidx1 : Int.toNat k < (l.set (Int.toNat k) ({ (l.getD (Int.toNat k) default) with owner := to })).length := by first | omega | (simp; omega)
    exact StO (rowG ptCell default ((l.set (Int.toNat k) ({ (l.getD (Int.toNat k) default) with owner := to })).set (Int.toNat k) ({ ((l.set (Int.toNat k) ({ (l.getD (Int.toNat k) default) with owner := to })).getD (Int.toNat k) default) with turn := th }))) (V rfl) rfl (V rfl) rfl rfl Sz3 (by decide) (show (l.set (Int.toNat k) ({ (l.getD (Int.toNat k) default) with owner := to })).length = ((l.set (Int.toNat k) ({ (l.getD (Int.toNat k) default) with owner := to })).set (Int.toNat k) ({ ((l.set (Int.toNat k) ({ (l.getD (Int.toNat k) default) with owner := to })).getD (Int.toNat k) default) with turn := th })).length from List.length_set.symm) (set_at hidx1 rfl) (set_typed hidx1 fun t ht hne => match t, ht, hne with | 0, _, _ => rfl | 1, _, hne => absurd rfl hne | 2, _, _ => rfl | 3, _, _ => rfl | 4, _, _ => rfl) <| Nt <| Sq <| Rq <| O (Mv (V rfl)) <| O (As (V rfl)) <| O (As K) <| Nq <| FzC 1 rfl <| Rx <| R2 rfl (V rfl) (V rfl) rfl rfl (by show sv2 (ptRow ((l.set (Int.toNat k) ({ (l.getD (Int.toNat k) default) with owner := to })).set (Int.toNat k) ({ ((l.set (Int.toNat k) ({ (l.getD (Int.toNat k) default) with owner := to })).getD (Int.toNat k) default) with turn := th }))) (iv (0)) = sv2 (ptRow (passR l fr k o t to th).1) (iv (passR l fr k o t to th).2); rw [passR, if_neg (not_not_intro hc1s), if_neg (ff hc2), if_neg (ff hc3)] <;> rfl)
end Go.Proofs.Ytghkpailmdlhgaa
namespace Go.Proofs.Ytghkpailmdlhgaa
open Go.RowKit Go.Eng
theorem paired_ct  : Ct Try.prog 50 [] (bv true) := by
 refine CtO 79 Try.func50 rfl rfl rfl fun E => Sq <| Rq <| O (As K) <| Nq <| Sq <| Rt <| CT en49 (by exact ⟨⟨Vn, rfl⟩, ⟨K, rfl⟩, ⟨K, rfl⟩, ⟨K, rfl⟩, Z⟩) (popen_ct ([]) 2 1 0) <| U (Mv (V rfl)) <| U (Xt (V rfl) (by decide)) <| U (Xt (V rfl) (by decide)) <| U (Xt (V rfl) (by decide)) <| U (As (V rfl)) <| U (As (V rfl)) <| U (As (V rfl)) <| Nt <| Sq <| Rt <| U (Mv (V rfl)) <| U (Mv (V rfl)) <| U (Bu [(0, iv (5))] id (cmpG [iv (5), SV.v (Value.slice none 0 0)]) zero43 build43 (by exact ⟨⟨rfl, K, rfl⟩, Z⟩) (by decide) ⟨⟨Z, rfl⟩, rfl⟩) <| U (Bu [(0, iv (6))] id (cmpG [iv (6), SV.v (Value.slice none 0 0)]) zero43 build43 (by exact ⟨⟨rfl, K, rfl⟩, Z⟩) (by decide) ⟨⟨Z, rfl⟩, rfl⟩) <| Uw (w_rowI (get' := rowG clCell default [⟨5, []⟩, ⟨6, []⟩]) (w_bs (n := 2) (zget := cmpG [iv 0, SV.v (Value.slice none 0 0)]) [(cmpG [iv (5), SV.v (Value.slice none 0 0)]), (cmpG [iv (6), SV.v (Value.slice none 0 0)])] (fun zi zt => ([(cmpG [iv (5), SV.v (Value.slice none 0 0)]), (cmpG [iv (6), SV.v (Value.slice none 0 0)])].getD zi fun _ => SV.junk) zt) Un33 Sz43 zero43 (by decide) rfl (by decide) ⟨⟨rfl, .inl (V rfl), rfl⟩, ⟨rfl, .inl (V rfl), rfl⟩, Z⟩ ⟨⟨Z, ⟨⟨Z, rfl⟩, rfl⟩⟩, ⟨⟨Z, rfl⟩, rfl⟩⟩) ⟨⟨Z, ⟨⟨Z, impO_rfl⟩, impO_nil⟩⟩, ⟨⟨Z, impO_rfl⟩, impO_nil⟩⟩) <| U (Bu [(0, clRow ([⟨5, []⟩, ⟨6, []⟩]))] id (grG ([⟨5, []⟩, ⟨6, []⟩])) zero35 build35 (by exact ⟨⟨rfl, (V rfl), rfl⟩, Z⟩) (by decide) ⟨Z, rfl⟩) <| CT en53 (by exact ⟨⟨(V rfl), rfl⟩, ⟨K, rfl⟩, ⟨(V rfl), rfl⟩, ⟨K, rfl⟩, ⟨K, rfl⟩, ⟨(V rfl), rfl⟩, Z⟩) (ppush_ct ((openR ([]) 2 1 0).1) 2 ((openR ([]) 2 1 0).2.1) 1 0 ([⟨5, []⟩, ⟨6, []⟩])) <| U (Mv (V rfl)) <| U (Xt (V rfl) (by decide)) <| U (Xt (V rfl) (by decide)) <| U (As (V rfl)) <| U (As (V rfl)) <| Nt <| Sq <| Rt <| U (Mv (V rfl)) <| U (Mv (V rfl)) <| U (Ad (V rfl) K (by (have h : (openR ([] : List Pt) 2 1 0).2.1 = 0 := by kernel_rfl); omega)) <| CT en54 (by exact ⟨⟨(V rfl), rfl⟩, ⟨K, rfl⟩, ⟨(V rfl), rfl⟩, ⟨K, rfl⟩, ⟨K, rfl⟩, ⟨K, rfl⟩, ⟨K, rfl⟩, Z⟩) (ppass_ct ((pushR ((openR ([]) 2 1 0).1) 2 ((openR ([]) 2 1 0).2.1) 1 0 ([⟨5, []⟩, ⟨6, []⟩])).1) 2 (((openR ([]) 2 1 0).2.1) + 1) 1 0 0 7) <| U (Mv (V rfl)) <| U (Xt (V rfl) (by decide)) <| U (Xt (V rfl) (by decide)) <| ?_
 refine U (As (V rfl)) <| U (As (V rfl)) <| Nt <| Sq <| Rt <| U (Mv (V rfl)) <| U (Mv (V rfl)) <| U (Ad (V rfl) K (by (have h : (openR ([] : List Pt) 2 1 0).2.1 = 0 := by kernel_rfl); omega)) <| CT en52 (by exact ⟨⟨(V rfl), rfl⟩, ⟨K, rfl⟩, ⟨(V rfl), rfl⟩, ⟨K, rfl⟩, ⟨K, rfl⟩, Z⟩) (ppull_ct ((passR ((pushR ((openR ([]) 2 1 0).1) 2 ((openR ([]) 2 1 0).2.1) 1 0 ([⟨5, []⟩, ⟨6, []⟩])).1) 2 (((openR ([]) 2 1 0).2.1) + 1) 1 0 0 7).1) 2 (((openR ([]) 2 1 0).2.1) + 1) 1 0) <| U (Mv (V rfl)) <| U (Xt (V rfl) (by decide)) <| U (Xt (V rfl) (by decide)) <| U (Xt (V rfl) (by decide)) <| Al 1 zero35 rfl rfl <| U (As (V rfl)) <| StA (V rfl) rfl (V rfl) Sz35 <| U (As (V rfl)) <| Nt <| Sq <| Rt <| U (Mv (V rfl)) <| U (Mv (V rfl)) <| U (Ad (V rfl) K (by (have h : (openR ([] : List Pt) 2 1 0).2.1 = 0 := by kernel_rfl); omega)) <| CT en52 (by exact ⟨⟨(V rfl), rfl⟩, ⟨K, rfl⟩, ⟨(V rfl), rfl⟩, ⟨K, rfl⟩, ⟨K, rfl⟩, Z⟩) (ppull_ct ((passR ((pushR ((openR ([]) 2 1 0).1) 2 ((openR ([]) 2 1 0).2.1) 1 0 ([⟨5, []⟩, ⟨6, []⟩])).1) 2 (((openR ([]) 2 1 0).2.1) + 1) 1 0 0 7).1) 2 (((openR ([]) 2 1 0).2.1) + 1) 0 7) <| U (Mv (V rfl)) <| U (Xt (V rfl) (by decide)) <| U (Xt (V rfl) (by decide)) <| U (Xt (V rfl) (by decide)) <| Al 2 zero35 rfl rfl <| U (As (V rfl)) <| StA (V rfl) rfl (V rfl) Sz35 <| U (As (V rfl)) <| Nt <| Sq <| Rt <| U (Mv (V rfl)) <| U (Ql (V rfl) K) <| U (Mv (V rfl)) <| Ug (Gy rfl rfl) (fun hg => Mv (V rfl)) <| Ug (Gy rfl rfl) (fun hg => Ql (Vg (V rfl) hg) K) <| ?_
 exact U (Qa (V rfl) (fun h => Vg (V rfl) h)) <| U (Mv (V rfl)) <| Ug (Gy rfl rfl) (fun hg => Mv (V rfl)) <| Ug (Gy rfl rfl) (fun hg => Ql (Vg (V rfl) hg) K) <| U (Qa (V rfl) (fun h => Vg (V rfl) h)) <| U (Mv (V rfl)) <| Ug (Gy rfl rfl) (fun hg => Mv (V rfl)) <| Ug (Gy rfl rfl) (fun hg => Ql (Vg (V rfl) hg) K) <| U (Qa (V rfl) (fun h => Vg (V rfl) h)) <| U (Mv (V rfl)) <| Ug (Gy rfl rfl) (fun hg => Mv (V rfl)) <| Ug (Gy rfl rfl) (fun hg => Ql (Vg (V rfl) hg) K) <| U (Qa (V rfl) (fun h => Vg (V rfl) h)) <| U (Mv (V rfl)) <| Ug (Gy rfl rfl) (fun hg => Mv (V rfl)) <| Ug (Gy rfl rfl) (fun hg => Ql (Vg (V rfl) hg) K) <| U (Qa (V rfl) (fun h => Vg (V rfl) h)) <| U (Mv (V rfl)) <| Ug (Gy rfl rfl) (fun hg => LBA (V rfl) rfl Ga35 Sz35 (by decide)) <| Ug (Gy rfl rfl) (fun hg => Bu [(0, iv (5))] id (cmpG [iv (5), SV.v (Value.slice none 0 0)]) zero43 build43 (by exact ⟨⟨rfl, K, rfl⟩, Z⟩) (by decide) ⟨⟨Z, rfl⟩, rfl⟩) <| UwG (Gy rfl rfl) (fun hg => w_rowI (get' := rowG clCell default [⟨5, []⟩]) (w_bs (n := 1) (zget := cmpG [iv 0, SV.v (Value.slice none 0 0)]) [(cmpG [iv (5), SV.v (Value.slice none 0 0)])] (fun zi zt => ([(cmpG [iv (5), SV.v (Value.slice none 0 0)])].getD zi fun _ => SV.junk) zt) Un33 Sz43 zero43 (by decide) rfl (by decide) ⟨⟨rfl, .inl (Vg (V rfl) hg), rfl⟩, Z⟩ ⟨Z, ⟨⟨Z, rfl⟩, rfl⟩⟩) ⟨Z, ⟨⟨Z, impO_rfl⟩, impO_nil⟩⟩) <| Ug (Gy rfl rfl) (fun hg => Bu [(0, clRow ([⟨5, []⟩]))] id (grG ([⟨5, []⟩])) zero35 build35 (by exact ⟨⟨rfl, (Vg (V rfl) hg), rfl⟩, Z⟩) (by decide) ⟨Z, rfl⟩) <| CTg (Gy rfl rfl) en27 (fun hg => (by exact ⟨⟨(Vi (g' := grG ((pullR ((passR ((pushR ((openR ([]) 2 1 0).1) 2 ((openR ([]) 2 1 0).2.1) 1 0 ([⟨5, []⟩, ⟨6, []⟩])).1) 2 (((openR ([]) 2 1 0).2.1) + 1) 1 0 0 7).1) 2 (((openR ([]) 2 1 0).2.1) + 1) 0 7).2.1)) (Vg (V rfl) hg) ⟨Z, Ir⟩), rfl⟩, ⟨(Vg (V rfl) hg), rfl⟩, Z⟩)) (fun hg => gsame_ct ((pullR ((passR ((pushR ((openR ([]) 2 1 0).1) 2 ((openR ([]) 2 1 0).2.1) 1 0 ([⟨5, []⟩, ⟨6, []⟩])).1) 2 (((openR ([]) 2 1 0).2.1) + 1) 1 0 0 7).1) 2 (((openR ([]) 2 1 0).2.1) + 1) 0 7).2.1) ([⟨5, []⟩])) <| U (Qa (V rfl) (fun h => Vg (V rfl) h)) <| U (As (V rfl)) <| Nt <| Rx <| R1 rfl (V rfl) rfl (by show bv (((((((decide ((openR ([]) 2 1 0).2.2 = 0)) && (decide ((pushR ((openR ([]) 2 1 0).1) 2 ((openR ([]) 2 1 0).2.1) 1 0 ([⟨5, []⟩, ⟨6, []⟩])).2 = 0))) && (decide ((passR ((pushR ((openR ([]) 2 1 0).1) 2 ((openR ([]) 2 1 0).2.1) 1 0 ([⟨5, []⟩, ⟨6, []⟩])).1) 2 (((openR ([]) 2 1 0).2.1) + 1) 1 0 0 7).2 = 0))) && (decide ((pullR ((passR ((pushR ((openR ([]) 2 1 0).1) 2 ((openR ([]) 2 1 0).2.1) 1 0 ([⟨5, []⟩, ⟨6, []⟩])).1) 2 (((openR ([]) 2 1 0).2.1) + 1) 1 0 0 7).1) 2 (((openR ([]) 2 1 0).2.1) + 1) 1 0).2.2 = 7))) && (decide ((pullR ((passR ((pushR ((openR ([]) 2 1 0).1) 2 ((openR ([]) 2 1 0).2.1) 1 0 ([⟨5, []⟩, ⟨6, []⟩])).1) 2 (((openR ([]) 2 1 0).2.1) + 1) 1 0 0 7).1) 2 (((openR ([]) 2 1 0).2.1) + 1) 0 7).2.2 = 0))) && (decide ((openR ([]) 2 1 0).2.1 = 0))) && (eqGr ((pullR ((passR ((pushR ((openR ([]) 2 1 0).1) 2 ((openR ([]) 2 1 0).2.1) 1 0 ([⟨5, []⟩, ⟨6, []⟩])).1) 2 (((openR ([]) 2 1 0).2.1) + 1) 1 0 0 7).1) 2 (((openR ([]) 2 1 0).2.1) + 1) 0 7).2.1) ([⟨5, []⟩]))) = bv true; kernel_rfl)
end Go.Proofs.Ytghkpailmdlhgaa
namespace Go.Proofs.Ytghkpailmdlhgaa
open Go.RowKit Go.Eng
theorem at_ct (k n : Int) (hn : 0 < n ∧ n ≤ 1000000) : Ct Try.prog 29 [iv (k), iv (n)] (iv (atI k n)) := by
 have htl := tmod_lo (k := k) hn.1
 refine CtO 14 Try.func29 rfl rfl rfl fun E => Sq <| Rq <| O (As K) <| Nq <| Sq <| Rq <| O (Mv (V rfl)) <| O (Mv (V rfl)) <| O (q_rem (V rfl) (V rfl) (by omega)) <| O (As (V rfl)) <| Nq <| Sq <| Sq <| Rq <| O (Mv (V rfl)) <| O (Lt (V rfl) K) <| Nq <| Cd (V rfl) (fun hc1 => ?_) (fun hc1 => ?_)
 ·have hc1s := hc1; try simp only [BL] at hc1s
  exact Rq <| O (Mv (V rfl)) <| O (Mv (V rfl)) <| O (Ad (V rfl) (V rfl) (by omega)) <| O (As (V rfl)) <| Nq <| Sq <| Rq <| O (Mv (V rfl)) <| O (As (V rfl)) <| Nq <| Rx <| R1 rfl (V rfl) rfl (by show iv ((Int.tmod k n) + n) = iv (atI k n); rw [atI, if_pos hc1s])
 ·have hc1s := hc1; try simp only [BL] at hc1s
  exact Sk <| Sq <| Rq <| O (Mv (V rfl)) <| O (As (V rfl)) <| Nq <| Rx <| R1 rfl (V rfl) rfl (by show iv (Int.tmod k n) = iv (atI k n); rw [atI, if_neg hc1s])
end Go.Proofs.Ytghkpailmdlhgaa
namespace Go.Proofs.Ytghkpailmdlhgaa
open Go.RowKit Go.Eng
theorem firstErr_zero {f : Nat → Int} : ∀ (n i : Nat), (∀ j, i ≤ j → j < i + n → f j = 0) → firstErr f i n = 0
  | 0, _, _ => rfl
  | n + 1, i, h => by
    rw [firstErr, if_neg (not_not_intro (h i (Nat.le_refl _) (by omega)))]
    exact firstErr_zero n (i + 1) fun j h1 h2 => h j (by omega) (by omega)
def pkL (o0 o1 : Int) (C0 C1 : List (List Cl)) : List Pt := [⟨o0, 0, 1, C0, false⟩, ⟨o1, 0, 0, C1, false⟩]
structure Pk (o0 o1 : Int) (C0 C1 S0 S1 G0 G1 : List (List Cl)) : Prop where
  o0r : 0 ≤ o0 ∧ o0 < 3
  o1r : 0 ≤ o1 ∧ o1 < 3
  c0 : C0.length ≤ 16
  c1 : C1.length ≤ 16
  g0 : ∀ g ∈ S0, checkGr g = 0
  g1 : ∀ g ∈ S1, checkGr g = 0
  e0 : S0.map copyGr = G1 ++ C1
  e1 : S1.map copyGr = G0 ++ C0
theorem pk_0 : Pk 0 0 [] [] [] [] [] [] := ⟨by omega, by omega, Nat.zero_le _, Nat.zero_le _, fun g h => (by cases h), fun g h => (by cases h), rfl, rfl⟩
theorem came_ok {S G C : List (List Cl)} (h : ∀ g ∈ S, checkGr g = 0) (e : S.map copyGr = G ++ C) : ∀ g ∈ C, checkGr g = 0 := fun g hg => by
  have : g ∈ S.map copyGr := by rw [e]; exact List.mem_append_right _ hg
  obtain ⟨x, hx, rfl⟩ := List.mem_map.1 this
  exact copy_check (h x hx)
theorem came_err {C : List (List Cl)} (h : ∀ g ∈ C, checkGr g = 0) : firstErr (gErr C) 0 C.length = 0 := by
  refine firstErr_zero _ _ fun j _ hj => ?_
  exact h _ (mem_getG (by omega))
section
variable {o0 o1 : Int} {C0 C1 S0 S1 G0 G1 : List (List Cl)}
theorem pk_check (I : Pk o0 o1 C0 C1 S0 S1 G0 G1) : checkPo (pkL o0 o1 C0 C1) 3 = 0 := by
  have a := I.o0r; have b := I.o1r; have c := I.c0; have d := I.c1
  have k0 := came_err (came_ok I.g1 I.e1)
  have k1 := came_err (came_ok I.g0 I.e0)
  unfold checkPo
  rw [if_neg (by show ¬ 12 < 2; omega)]
  refine firstErr_zero _ _ fun j _ hj => ?_
  have hj : j < 0 + 2 := hj
  rcases (show j = 0 ∨ j = 1 by omega) with rfl | rfl
  · show poErr (pkL o0 o1 C0 C1) 3 0 = 0
    rw [po_s (i := 0)]
    · exact k0
    · show poWho (pkL o0 o1 C0 C1) 3 ⟨o0, 0, 1, C0, false⟩ = false
      unfold poWho
      rw [decide_eq_false (by show ¬ o0 < 0; omega), decide_eq_false (by show ¬ (3 : Int) ≤ o0; omega), decide_eq_false (by show ¬ (1 : Int) < 0; omega), decide_eq_false (by show ¬ (2 : Int) ≤ 1; omega)]; rfl
    · rfl
    · rfl
    · show poMany ⟨o0, 0, 1, C0, false⟩ = false
      unfold poMany
      rw [decide_eq_false (by show ¬ (16 : Int) < (C0.length : Int); omega)]; rfl
  · show poErr (pkL o0 o1 C0 C1) 3 1 = 0
    rw [po_s (i := 1)]
    · exact k1
    · show poWho (pkL o0 o1 C0 C1) 3 ⟨o1, 0, 0, C1, false⟩ = false
      unfold poWho
      rw [decide_eq_false (by show ¬ o1 < 0; omega), decide_eq_false (by show ¬ (3 : Int) ≤ o1; omega), decide_eq_false (by show ¬ (0 : Int) < 0; omega), decide_eq_false (by show ¬ (2 : Int) ≤ 0; omega)]; rfl
    · rfl
    · rfl
    · show poMany ⟨o1, 0, 0, C1, false⟩ = false
      unfold poMany
      rw [decide_eq_false (by show ¬ (16 : Int) < (C1.length : Int); omega)]; rfl
theorem pk_own0 (I : Pk o0 o1 C0 C1 S0 S1 G0 G1) (o t : Int) : ownedPo (pkL o0 o1 C0 C1) 3 0 o t = if o0 = o ∧ t = 0 then 0 else 7 := by
  by_cases q : o0 = o ∧ t = 0
  · rw [if_pos q]
    refine own_0 (pk_check I) rfl ?_ rfl
    show (!decide (o0 = o) || !decide ((0 : Int) = t)) = false
    rw [decide_eq_true q.1, decide_eq_true q.2.symm]; rfl
  · rw [if_neg q]
    refine own_7 (pk_check I) rfl ?_
    show (!decide (o0 = o) || !decide ((0 : Int) = t)) = true
    by_cases e : o0 = o
    · rw [decide_eq_false (show ¬ (0 : Int) = t from fun h => q ⟨e, h.symm⟩)]; simp
    · rw [decide_eq_false e]; rfl
theorem pk_own1 (I : Pk o0 o1 C0 C1 S0 S1 G0 G1) (o t : Int) : ownedPo (pkL o0 o1 C0 C1) 3 1 o t = if o1 = o ∧ t = 0 then 0 else 7 := by
  by_cases q : o1 = o ∧ t = 0
  · rw [if_pos q]
    refine own_0 (pk_check I) rfl ?_ rfl
    show (!decide (o1 = o) || !decide ((0 : Int) = t)) = false
    rw [decide_eq_true q.1, decide_eq_true q.2.symm]; rfl
  · rw [if_neg q]
    refine own_7 (pk_check I) rfl ?_
    show (!decide (o1 = o) || !decide ((0 : Int) = t)) = true
    by_cases e : o1 = o
    · rw [decide_eq_false (show ¬ (0 : Int) = t from fun h => q ⟨e, h.symm⟩)]; simp
    · rw [decide_eq_false e]; rfl
theorem tmod3 {o : Int} (h : 0 ≤ o ∧ o < 3) : ((o + 1).tmod 3 ≠ o ∧ 0 ≤ (o + 1).tmod 3 ∧ (o + 1).tmod 3 < 3) ∧ 0 ≤ (o + 2).tmod 3 ∧ (o + 2).tmod 3 < 3 := by
  rcases (show o = 0 ∨ o = 1 ∨ o = 2 by omega) with rfl | rfl | rfl <;> decide
theorem pk_shut0 (I : Pk o0 o1 C0 C1 S0 S1 G0 G1) : (shutR (pkL o0 o1 C0 C1) 3 0 ((o0 + 1).tmod 3) 0).2 = 7 := by
  have h : ownedPo (pkL o0 o1 C0 C1) 3 0 ((o0 + 1).tmod 3) 0 = 7 := by rw [pk_own0 I, if_neg fun q => (tmod3 I.o0r).1.1 q.1.symm]
  rw [shutR, h]; rfl
theorem pk_shut1 (I : Pk o0 o1 C0 C1 S0 S1 G0 G1) : (shutR (pkL o0 o1 C0 C1) 3 1 ((o1 + 1).tmod 3) 0).2 = 7 := by
  have h : ownedPo (pkL o0 o1 C0 C1) 3 1 ((o1 + 1).tmod 3) 0 = 7 := by rw [pk_own1 I, if_neg fun q => (tmod3 I.o1r).1.1 q.1.symm]
  rw [shutR, h]; rfl
theorem pk_late0 (I : Pk o0 o1 C0 C1 S0 S1 G0 G1) : (pullR (pkL o0 o1 C0 C1) 3 0 o0 1).2.2 = 7 := by
  have h : ownedPo (pkL o0 o1 C0 C1) 3 0 o0 1 = 7 := by rw [pk_own0 I, if_neg fun q => absurd q.2 (by decide)]
  rw [pullR, h]; rfl
theorem pk_late1 (I : Pk o0 o1 C0 C1 S0 S1 G0 G1) : (pullR (pkL o0 o1 C0 C1) 3 1 o1 1).2.2 = 7 := by
  have h : ownedPo (pkL o0 o1 C0 C1) 3 1 o1 1 = 7 := by rw [pk_own1 I, if_neg fun q => absurd q.2 (by decide)]
  rw [pullR, h]; rfl
theorem push0 (I : Pk o0 o1 C0 C1 S0 S1 G0 G1) (g : List Cl) : pushR (pkL o0 o1 C0 C1) 3 0 o0 0 g = if (copyR g).2 ≠ 0 then ([], (copyR g).2) else if (C1.length : Int) = 16 then ([], 1) else (pkL o0 o1 C0 (C1 ++ [(copyR g).1]), 0) := by
  have h : ownedPo (pkL o0 o1 C0 C1) 3 0 o0 0 = 0 := by rw [pk_own0 I, if_pos ⟨rfl, rfl⟩]
  rw [pushR, h]; rfl
theorem push1 (I : Pk o0 o1 C0 C1 S0 S1 G0 G1) (g : List Cl) : pushR (pkL o0 o1 C0 C1) 3 1 o1 0 g = if (copyR g).2 ≠ 0 then ([], (copyR g).2) else if (C0.length : Int) = 16 then ([], 1) else (pkL o0 o1 (C0 ++ [(copyR g).1]) C1, 0) := by
  have h : ownedPo (pkL o0 o1 C0 C1) 3 1 o1 0 = 0 := by rw [pk_own1 I, if_pos ⟨rfl, rfl⟩]
  rw [pushR, h]; rfl
theorem copyR_c {g : List Cl} (h : (copyR g).2 = 0) : (copyR g).1 = copyGr g := by rw [copyR_o (copy_ok h)]
theorem push0_ok (I : Pk o0 o1 C0 C1 S0 S1 G0 G1) {g : List Cl} (e : (pushR (pkL o0 o1 C0 C1) 3 0 o0 0 g).2 = 0) : (pushR (pkL o0 o1 C0 C1) 3 0 o0 0 g).1 = pkL o0 o1 C0 (C1 ++ [copyGr g]) ∧ Pk o0 o1 C0 (C1 ++ [copyGr g]) (S0 ++ [g]) S1 G0 G1 := by
  rw [push0 I] at e ⊢
  by_cases h : (copyR g).2 = 0
  · rw [if_neg (not_not_intro h)] at e ⊢
    by_cases h2 : (C1.length : Int) = 16
    · rw [if_pos h2] at e; cases e
    · rw [if_neg h2, copyR_c h]
      have d := I.c1
      refine ⟨rfl, I.o0r, I.o1r, I.c0, ?_, fun x hx => ?_, I.g1, ?_, I.e1⟩
      · rw [List.length_append]; show C1.length + 1 ≤ 16; omega
      · rcases List.mem_append.1 hx with hx | hx
        · exact I.g0 x hx
        · rw [List.mem_singleton] at hx; rw [hx]; exact copy_ok h
      · rw [List.map_append, I.e0, List.append_assoc]; rfl
  · rw [if_pos h] at e; exact absurd e h
theorem push1_ok (I : Pk o0 o1 C0 C1 S0 S1 G0 G1) {g : List Cl} (e : (pushR (pkL o0 o1 C0 C1) 3 1 o1 0 g).2 = 0) : (pushR (pkL o0 o1 C0 C1) 3 1 o1 0 g).1 = pkL o0 o1 (C0 ++ [copyGr g]) C1 ∧ Pk o0 o1 (C0 ++ [copyGr g]) C1 S0 (S1 ++ [g]) G0 G1 := by
  rw [push1 I] at e ⊢
  by_cases h : (copyR g).2 = 0
  · rw [if_neg (not_not_intro h)] at e ⊢
    by_cases h2 : (C0.length : Int) = 16
    · rw [if_pos h2] at e; cases e
    · rw [if_neg h2, copyR_c h]
      have d := I.c0
      refine ⟨rfl, I.o0r, I.o1r, ?_, I.c1, I.g0, fun x hx => ?_, I.e0, ?_⟩
      · rw [List.length_append]; show C0.length + 1 ≤ 16; omega
      · rcases List.mem_append.1 hx with hx | hx
        · exact I.g1 x hx
        · rw [List.mem_singleton] at hx; rw [hx]; exact copy_ok h
      · rw [List.map_append, I.e1, List.append_assoc]; rfl
  · rw [if_pos h] at e; exact absurd e h
theorem push0_no (I : Pk o0 o1 C0 C1 S0 S1 G0 G1) {g : List Cl} (e : ¬ (pushR (pkL o0 o1 C0 C1) 3 0 o0 0 g).2 = 0) : (decide (checkGr g = 0) && decide ((C1.length : Int) < 16)) = false := by
  rw [push0 I] at e
  cases hx : (decide (checkGr g = 0) && decide ((C1.length : Int) < 16)) with
  | false => rfl
  | true =>
    rw [Bool.and_eq_true, decide_eq_true_iff, decide_eq_true_iff] at hx
    rw [copyR_o hx.1, if_neg (not_not_intro rfl), if_neg (by omega)] at e
    exact absurd rfl e
theorem push1_no (I : Pk o0 o1 C0 C1 S0 S1 G0 G1) {g : List Cl} (e : ¬ (pushR (pkL o0 o1 C0 C1) 3 1 o1 0 g).2 = 0) : (decide (checkGr g = 0) && decide ((C0.length : Int) < 16)) = false := by
  rw [push1 I] at e
  cases hx : (decide (checkGr g = 0) && decide ((C0.length : Int) < 16)) with
  | false => rfl
  | true =>
    rw [Bool.and_eq_true, decide_eq_true_iff, decide_eq_true_iff] at hx
    rw [copyR_o hx.1, if_neg (not_not_intro rfl), if_neg (by omega)] at e
    exact absurd rfl e
theorem pull0 (I : Pk o0 o1 C0 C1 S0 S1 G0 G1) : pullR (pkL o0 o1 C0 C1) 3 0 o0 0 = if (C0.length : Int) = 0 then ([], [], 8) else (pkL o0 o1 (C0.drop 1) C1, C0.getD 0 [], 0) := by
  have h : ownedPo (pkL o0 o1 C0 C1) 3 0 o0 0 = 0 := by rw [pk_own0 I, if_pos ⟨rfl, rfl⟩]
  rw [pullR, h]; rfl
theorem pull1 (I : Pk o0 o1 C0 C1 S0 S1 G0 G1) : pullR (pkL o0 o1 C0 C1) 3 1 o1 0 = if (C1.length : Int) = 0 then ([], [], 8) else (pkL o0 o1 C0 (C1.drop 1), C1.getD 0 [], 0) := by
  have h : ownedPo (pkL o0 o1 C0 C1) 3 1 o1 0 = 0 := by rw [pk_own1 I, if_pos ⟨rfl, rfl⟩]
  rw [pullR, h]; rfl
theorem pk_len (I : Pk o0 o1 C0 C1 S0 S1 G0 G1) : S0.length = G1.length + C1.length ∧ S1.length = G0.length + C0.length := by
  have a := congrArg List.length I.e0
  have b := congrArg List.length I.e1
  rw [List.length_map, List.length_append] at a b
  exact ⟨a, b⟩
theorem pull0_even (I : Pk o0 o1 C0 C1 S0 S1 G0 G1) : (decide ((pullR (pkL o0 o1 C0 C1) 3 0 o0 0).2.2 = 0) != decide ((G0.length : Int) < (S1.length : Int))) = false := by
  have hl := (pk_len I).2
  rw [pull0 I]
  by_cases h : (C0.length : Int) = 0
  · rw [if_pos h, decide_eq_false (show ¬ (G0.length : Int) < (S1.length : Int) by omega)]; rfl
  · rw [if_neg h, decide_eq_true (show (G0.length : Int) < (S1.length : Int) by omega)]; rfl
theorem pull1_even (I : Pk o0 o1 C0 C1 S0 S1 G0 G1) : (decide ((pullR (pkL o0 o1 C0 C1) 3 1 o1 0).2.2 = 0) != decide ((G1.length : Int) < (S0.length : Int))) = false := by
  have hl := (pk_len I).1
  rw [pull1 I]
  by_cases h : (C1.length : Int) = 0
  · rw [if_pos h, decide_eq_false (show ¬ (G1.length : Int) < (S0.length : Int) by omega)]; rfl
  · rw [if_neg h, decide_eq_true (show (G1.length : Int) < (S0.length : Int) by omega)]; rfl
theorem app_1 {G C : List (List Cl)} (h : 0 < C.length) : G ++ C = (G ++ [C.getD 0 []]) ++ C.drop 1 := by
  cases C with
  | nil => exact absurd h (Nat.lt_irrefl 0)
  | cons x r => rw [List.append_assoc]; rfl
theorem pull0_ok (I : Pk o0 o1 C0 C1 S0 S1 G0 G1) (e : (pullR (pkL o0 o1 C0 C1) 3 0 o0 0).2.2 = 0) : (pullR (pkL o0 o1 C0 C1) 3 0 o0 0).1 = pkL o0 o1 (C0.drop 1) C1 ∧ (pullR (pkL o0 o1 C0 C1) 3 0 o0 0).2.1 = C0.getD 0 [] ∧ Pk o0 o1 (C0.drop 1) C1 S0 S1 (G0 ++ [C0.getD 0 []]) G1 := by
  rw [pull0 I] at e ⊢
  by_cases h : (C0.length : Int) = 0
  · rw [if_pos h] at e; cases e
  · rw [if_neg h]
    have d := I.c0
    exact ⟨rfl, rfl, I.o0r, I.o1r, by rw [List.length_drop]; omega, I.c1, I.g0, I.g1, I.e0, by rw [I.e1]; exact app_1 (by omega)⟩
theorem pull1_ok (I : Pk o0 o1 C0 C1 S0 S1 G0 G1) (e : (pullR (pkL o0 o1 C0 C1) 3 1 o1 0).2.2 = 0) : (pullR (pkL o0 o1 C0 C1) 3 1 o1 0).1 = pkL o0 o1 C0 (C1.drop 1) ∧ (pullR (pkL o0 o1 C0 C1) 3 1 o1 0).2.1 = C1.getD 0 [] ∧ Pk o0 o1 C0 (C1.drop 1) S0 S1 G0 (G1 ++ [C1.getD 0 []]) := by
  rw [pull1 I] at e ⊢
  by_cases h : (C1.length : Int) = 0
  · rw [if_pos h] at e; cases e
  · rw [if_neg h]
    have d := I.c1
    exact ⟨rfl, rfl, I.o0r, I.o1r, I.c0, by rw [List.length_drop]; omega, I.g0, I.g1, by rw [I.e0]; exact app_1 (by omega), I.e1⟩
theorem pass0 (I : Pk o0 o1 C0 C1 S0 S1 G0 G1) : passR (pkL o0 o1 C0 C1) 3 0 o0 0 ((o0 + 2).tmod 3) 0 = (pkL ((o0 + 2).tmod 3) o1 C0 C1, 0) ∧ Pk ((o0 + 2).tmod 3) o1 C0 C1 S0 S1 G0 G1 := by
  have h : ownedPo (pkL o0 o1 C0 C1) 3 0 o0 0 = 0 := by rw [pk_own0 I, if_pos ⟨rfl, rfl⟩]
  have t := (tmod3 I.o0r).2
  refine ⟨?_, t, I.o1r, I.c0, I.c1, I.g0, I.g1, I.e0, I.e1⟩
  rw [passR, h, if_neg (not_not_intro rfl), if_neg (by rw [decide_eq_false (show ¬ (o0 + 2).tmod 3 < 0 by omega), decide_eq_false (show ¬ 3 ≤ (o0 + 2).tmod 3 by omega)]; decide)]; rfl
theorem pass1 (I : Pk o0 o1 C0 C1 S0 S1 G0 G1) : passR (pkL o0 o1 C0 C1) 3 1 o1 0 ((o1 + 2).tmod 3) 0 = (pkL o0 ((o1 + 2).tmod 3) C0 C1, 0) ∧ Pk o0 ((o1 + 2).tmod 3) C0 C1 S0 S1 G0 G1 := by
  have h : ownedPo (pkL o0 o1 C0 C1) 3 1 o1 0 = 0 := by rw [pk_own1 I, if_pos ⟨rfl, rfl⟩]
  have t := (tmod3 I.o1r).2
  refine ⟨?_, I.o0r, t, I.c0, I.c1, I.g0, I.g1, I.e0, I.e1⟩
  rw [passR, h, if_neg (not_not_intro rfl), if_neg (by rw [decide_eq_false (show ¬ (o1 + 2).tmod 3 < 0 by omega), decide_eq_false (show ¬ 3 ≤ (o1 + 2).tmod 3 by omega)]; decide)]; rfl
theorem like_back {g : List Cl} (hc : checkGr g = 0) : likeR (copyGr g) g = (true, 0) := by
  have h1 : copyR (copyGr g) = (copyGr g, 0) := copyR_1 hc
  rw [likeR, h1, copyR_o hc, if_neg (not_not_intro rfl), if_neg (not_not_intro rfl), eqGr_iff.2 rfl]
theorem like_at {S G C : List (List Cl)} (h : ∀ g ∈ S, checkGr g = 0) (e : S.map copyGr = G ++ C) {i : Nat} (hi : i < G.length) : i < S.length ∧ likeR (G.getD i []) (S.getD i []) = (true, 0) := by
  have hl := congrArg List.length e
  rw [List.length_map, List.length_append] at hl
  have his : i < S.length := by omega
  have h1 : (S.map copyGr).getD i [] = G.getD i [] := by
    rw [e]; simp only [List.getD_eq_getElem?_getD, List.getElem?_append_left hi]
  have h2 : (S.map copyGr).getD i [] = copyGr (S.getD i []) := by
    simp only [List.getD_eq_getElem?_getD, List.getElem?_map, List.getElem?_eq_getElem his]; rfl
  refine ⟨his, ?_⟩
  rw [← h1, h2]
  exact like_back (h _ (mem_getG his))
end
end Go.Proofs.Ytghkpailmdlhgaa
