/- What the proof of EventTold rests on, part 5: the engine, the walks, the plain laws. -/
import Derived.Test.YtmcdamcedemdiaaEventToldM4
set_option linter.unusedVariables false
set_option linter.unusedSimpArgs false
namespace Go.Proofs.Ytmcdamcedemdiaa
open Go.RowKit Go.Eng
theorem makeO_ct (l : List Nd) (tag : Int) (hb : ∀ n ∈ l, n.kids.length ≤ 17592186043904) : CtM Try.prog 40 [SV.agg 1 (stG l), iv (tag)] [] (sv3 (SV.agg 1 (cmpG [SV.own 0])) (SV.agg 2 (hdCell ((mkSt l tag).2.1))) (iv ((mkSt l tag).2.2))) [(0, ownOf ndCell 8 default ((mkSt l tag).1) 61)] := by
 refine CmO 59 Try.func40 rfl rfl rfl fun E => row_lenA 0 (V (s := 0) rfl) rfl rfl fun hl0_0 => Sq <| Rt <| BxA 1 (V rfl) rfl rfl <| Al 2 zero24 rfl rfl <| Al 3 zero26 rfl rfl <| U (As K) <| Nt <| Sq <| Sq <| Rq <| O (LBA (V rfl) rfl Ga24 Sz24 (by decide)) <| CQ en44 (by exact ⟨⟨(Vi (g' := stG l) (V rfl) ⟨Z, Ir⟩), rfl⟩, Z⟩) (stcheck_ct l (by first | assumption | exact kb_nil | exact kb_of (by assumption) | exact kb_of fam_c5)) <| O (As (V rfl)) <| Nq <| Sq <| Rq <| O (Mv (V rfl)) <| O (Qn (V rfl) K) <| Nq <| Cd (V rfl) (fun hc1 => ?_) (fun hc1 => ?_)
 ·have hc1s := hc1; try simp only [BL] at hc1s
  exact Sq <| Rt <| U (Bu [] id (cmpG [SV.v (Value.slice none 0 0)]) zero24 build24 (by exact Z) (by decide) ⟨Z, rfl⟩) <| U (Bu [] id (hdCell ⟨0, 0⟩) zero26 build26 (by exact Z) (by decide) ⟨⟨Z, rfl⟩, rfl⟩) <| U (Mv (V rfl)) <| StA (V rfl) rfl (V rfl) Sz24 <| StA (V rfl) rfl (V rfl) Sz26 <| U (As (V rfl)) <| Nt <| Tc (turn_nilB 2 0 4 8 (rowG ndCell default []) 61 (by exact rfl) (by exact rfl) (by exact rfl)) <| c_mv 4 0 rfl rfl <| c_ownE 0 ((mkSt l tag).1) rfl (by rw [mk_1 hc1s]) <| Rx <| RM3 rfl (rv_aggI (g' := cmpG [SV.own 0]) (rv_cell (V rfl) rfl Ga24 Sz24) ⟨Z, Ir⟩) (rv_aggI (g' := hdCell ⟨0, 0⟩) (rv_cell (V rfl) rfl Ga26 Sz26) ⟨⟨Z, Ir⟩, Ir⟩) (rv_tmp (V rfl)) (by exact ⟨⟨_, rfl, rfl⟩, Z⟩) (by show sv3 (SV.agg 1 (cmpG [SV.own 0])) (SV.agg 2 (hdCell ⟨0, 0⟩)) (iv (checkSt l)) = sv3 (SV.agg 1 (cmpG [SV.own 0])) (SV.agg 2 (hdCell ((mkSt l tag).2.1))) (iv ((mkSt l tag).2.2)); rw [mk_1 hc1s])
 ·have hc1s := hc1; try simp only [BL] at hc1s
  have hl24 := checkSt_len hc1s
  have hkf : ∀ i, i < l.length → (l.getD i default).kids.length ≤ 24 := fun i hi => kids_few hc1s hi
  refine Sk <| Sq <| Sq <| Rq <| O (Mv (V rfl)) <| O (Lt (V rfl) K) <| O (Mv (V rfl)) <| Og (Gn rfl rfl) (fun hg => Mv (V rfl)) <| Og (Gn rfl rfl) (fun hg => Gt (Vg (V rfl) hg) K) <| O (Qr (V rfl) (fun h => Vg (V rfl) (notT h))) <| Nq <| Cd (V rfl) (fun hc2 => ?_) (fun hc2 => ?_)
  ·have hc2s := hc2; try simp only [BL] at hc2s
   exact Sq <| Rt <| U (Bu [] id (cmpG [SV.v (Value.slice none 0 0)]) zero24 build24 (by exact Z) (by decide) ⟨Z, rfl⟩) <| U (Bu [] id (hdCell ⟨0, 0⟩) zero26 build26 (by exact Z) (by decide) ⟨⟨Z, rfl⟩, rfl⟩) <| StA (V rfl) rfl (V rfl) Sz24 <| StA (V rfl) rfl (V rfl) Sz26 <| U (As K) <| Nt <| Tc (turn_nilB 2 0 5 8 (rowG ndCell default []) 61 (by exact rfl) (by exact rfl) (by exact rfl)) <| c_mv 5 0 rfl rfl <| c_ownE 0 ((mkSt l tag).1) rfl (by rw [mk_2 hc1s hc2s]) <| Rx <| RM3 rfl (rv_aggI (g' := cmpG [SV.own 0]) (rv_cell (V rfl) rfl Ga24 Sz24) ⟨Z, Ir⟩) (rv_aggI (g' := hdCell ⟨0, 0⟩) (rv_cell (V rfl) rfl Ga26 Sz26) ⟨⟨Z, Ir⟩, Ir⟩) (rv_tmp (V rfl)) (by exact ⟨⟨_, rfl, rfl⟩, Z⟩) (by show sv3 (SV.agg 1 (cmpG [SV.own 0])) (SV.agg 2 (hdCell ⟨0, 0⟩)) (iv (2)) = sv3 (SV.agg 1 (cmpG [SV.own 0])) (SV.agg 2 (hdCell ((mkSt l tag).2.1))) (iv ((mkSt l tag).2.2)); rw [mk_2 hc1s hc2s])
  ·have hc2s := hc2; try simp only [BL] at hc2s
   refine Sk <| Sq <| Rt <| U (FlB _ _ (V rfl) Un24 rfl 0 Sz22) <| U (LdB (V rfl) rfl Ga22 (by decide)) <| CT en113 (by exact ⟨⟨(V rfl), rfl⟩, ⟨(VA (Vf) rfl), rfl⟩, Z⟩) (idxf113_ct roomB en114 rfl room_ct l) <| U (As (V rfl)) <| Nt <| Sq <| Sq <| Rq <| O (Mv (V rfl)) <| O (Lt (V rfl) K) <| Nq <| Cd (V rfl) (fun hc3 => ?_) (fun hc3 => ?_)
   ·have hc3s := hc3; try simp only [BL] at hc3s
    exact Sq <| Rt <| U (Bu [] id (cmpG [SV.v (Value.slice none 0 0)]) zero24 build24 (by exact Z) (by decide) ⟨Z, rfl⟩) <| U (Bu [] id (hdCell ⟨0, 0⟩) zero26 build26 (by exact Z) (by decide) ⟨⟨Z, rfl⟩, rfl⟩) <| StA (V rfl) rfl (V rfl) Sz24 <| StA (V rfl) rfl (V rfl) Sz26 <| U (As K) <| Nt <| Tc (turn_nilB 2 0 6 8 (rowG ndCell default []) 61 (by exact rfl) (by exact rfl) (by exact rfl)) <| c_mv 6 0 rfl rfl <| c_ownE 0 ((mkSt l tag).1) rfl (by rw [mk_3 hc1s (by omega) hc3s]) <| Rx <| RM3 rfl (rv_aggI (g' := cmpG [SV.own 0]) (rv_cell (V rfl) rfl Ga24 Sz24) ⟨Z, Ir⟩) (rv_aggI (g' := hdCell ⟨0, 0⟩) (rv_cell (V rfl) rfl Ga26 Sz26) ⟨⟨Z, Ir⟩, Ir⟩) (rv_tmp (V rfl)) (by exact ⟨⟨_, rfl, rfl⟩, Z⟩) (by show sv3 (SV.agg 1 (cmpG [SV.own 0])) (SV.agg 2 (hdCell ⟨0, 0⟩)) (iv (1)) = sv3 (SV.agg 1 (cmpG [SV.own 0])) (SV.agg 2 (hdCell ((mkSt l tag).2.1))) (iv ((mkSt l tag).2.2)); rw [mk_3 hc1s (by omega) hc3s])
   ·have hc3s := hc3; try simp only [BL] at hc3s
    obtain ⟨i0, he0, hi0, hp0, -⟩ := (idxF_cases roomB default l).resolve_left fun h => hc3s (by omega)
    have hku : (idxF roomB l).toNat < l.length := by omega
    have hmt : (mkTag l (Int.toNat (idxF roomB l)) tag).length = l.length := mkTag_len
    have hma : (mkAt l (Int.toNat (idxF roomB l)) tag).length = l.length := mkAt_len
    have hei : (idxF roomB l).toNat = i0 := by omega
    have hus := (uses_ok hc1s hi0)
    have hul := (roomB_lt hp0).2
    refine Sk <| Sq <| Rt <| U (LBA (V rfl) rfl Ga24 Sz24 (by decide)) <| CM (cargs := [SV.agg 1 (stG l)]) [] [(0, 7)] en115 (mv0 (by exact ⟨⟨(Vi (g' := stG l) (V rfl) ⟨Z, Ir⟩), rfl⟩, Z⟩)) (copy_ct l (by omega) (by assumption)) (by exact Z) rfl rfl rfl rfl <| StA (V rfl) rfl (V rfl) Sz24 <| Nt <| Sq <| Rq <| O (FlB _ _ (V rfl) Un24 rfl 0 Sz22) <| O (LdB (V rfl) rfl Ga22 (by decide)) <| O (Mv (V rfl)) <| O (IxO (V rfl) rfl (V rfl) ts22 te22 (by omega) (by first | omega | (simp only [List.length_set, mkTag_len, mkAt_len]; omega))) <| O (As (V rfl)) <| Nq <| Sq <| Rt <| U (Mv (V rfl)) <| U (Mv (V rfl)) <| U (Mv (V rfl)) <| U (q_nilO (V rfl)) <| U (FlO _ _ (V rfl) Un61 rfl 0 Sz4) <| ?_
    have hidx0 : Int.toNat (idxF roomB l) < l.length := by first | omega | (simp; omega)
    refine StO (rowG ndCell default (l.set (Int.toNat (idxF roomB l)) ({ (l.getD (Int.toNat (idxF roomB l)) default) with used := true }))) (V rfl) rfl K rfl rfl Sz4 (by decide) (show l.length = (l.set (Int.toNat (idxF roomB l)) ({ (l.getD (Int.toNat (idxF roomB l)) default) with used := true })).length from List.length_set.symm) (set_at hidx0 rfl) (set_typed hidx0 fun t ht hne => match t, ht, hne with | 0, _, hne => absurd rfl hne | 1, _, _ => rfl | 2, _, _ => rfl | 3, _, _ => rfl | 4, _, _ => rfl | 5, _, _ => rfl | 6, _, _ => rfl | 7, _, _ => rfl) <| U (q_nilO (V rfl)) <| U (FlO _ _ (V rfl) Un61 rfl 0 Sz3) <| ?_
    have hidx1 : Int.toNat (idxF roomB l) < (l.set (Int.toNat (idxF roomB l)) ({ (l.getD (Int.toNat (idxF roomB l)) default) with used := true })).length := by first | omega | (simp; omega)
    refine StO (rowG ndCell default ((l.set (Int.toNat (idxF roomB l)) ({ (l.getD (Int.toNat (idxF roomB l)) default) with used := true })).set (Int.toNat (idxF roomB l)) ({ ((l.set (Int.toNat (idxF roomB l)) ({ (l.getD (Int.toNat (idxF roomB l)) default) with used := true })).getD (Int.toNat (idxF roomB l)) default) with tag := tag }))) (V rfl) rfl (V rfl) rfl rfl Sz3 (by decide) (show (l.set (Int.toNat (idxF roomB l)) ({ (l.getD (Int.toNat (idxF roomB l)) default) with used := true })).length = ((l.set (Int.toNat (idxF roomB l)) ({ (l.getD (Int.toNat (idxF roomB l)) default) with used := true })).set (Int.toNat (idxF roomB l)) ({ ((l.set (Int.toNat (idxF roomB l)) ({ (l.getD (Int.toNat (idxF roomB l)) default) with used := true })).getD (Int.toNat (idxF roomB l)) default) with tag := tag })).length from List.length_set.symm) (set_at hidx1 rfl) (set_typed hidx1 fun t ht hne => match t, ht, hne with | 0, _, _ => rfl | 1, _, _ => rfl | 2, _, hne => absurd rfl hne | 3, _, _ => rfl | 4, _, _ => rfl | 5, _, _ => rfl | 6, _, _ => rfl | 7, _, _ => rfl) <| Nt <| Sq <| c_ownE 7 (mkTag l (Int.toNat (idxF roomB l)) tag) rfl (by exact mkTag_eq hku) <| Rt <| U (Mv (V rfl)) <| U (q_nilO (V rfl)) <| U (FlO _ _ (V rfl) Un61 rfl 0 Sz3) <| U (LdO (V rfl) rfl Ga3 (by decide)) <| U (Ad (V rfl) K (by rw [mkTag_uses hku, hei]; omega)) <| U (q_nilO (V rfl)) <| U (FlO _ _ (V rfl) Un61 rfl 0 Sz3) <| ?_
    have hidx2 : Int.toNat (idxF roomB l) < (mkTag l (Int.toNat (idxF roomB l)) tag).length := by first | omega | (simp; omega)
    refine StO (rowG ndCell default ((mkTag l (Int.toNat (idxF roomB l)) tag).set (Int.toNat (idxF roomB l)) ({ ((mkTag l (Int.toNat (idxF roomB l)) tag).getD (Int.toNat (idxF roomB l)) default) with uses := (((mkTag l (Int.toNat (idxF roomB l)) tag).getD (Int.toNat (idxF roomB l)) default).uses) + 1 }))) (V rfl) rfl (V rfl) rfl rfl Sz3 (by decide) (show (mkTag l (Int.toNat (idxF roomB l)) tag).length = ((mkTag l (Int.toNat (idxF roomB l)) tag).set (Int.toNat (idxF roomB l)) ({ ((mkTag l (Int.toNat (idxF roomB l)) tag).getD (Int.toNat (idxF roomB l)) default) with uses := (((mkTag l (Int.toNat (idxF roomB l)) tag).getD (Int.toNat (idxF roomB l)) default).uses) + 1 })).length from List.length_set.symm) (set_at hidx2 rfl) (set_typed hidx2 fun t ht hne => match t, ht, hne with | 0, _, _ => rfl | 1, _, hne => absurd rfl hne | 2, _, _ => rfl | 3, _, _ => rfl | 4, _, _ => rfl | 5, _, _ => rfl | 6, _, _ => rfl | 7, _, _ => rfl) <| Nt <| Sq <| c_ownE 7 (mkAt l (Int.toNat (idxF roomB l)) tag) rfl (by exact mkAt_eq hku) <| c_rd (fun e => ⟨[(52, cj (e 0) (SV.agg 1 (fun zi => (fun zt => SV.renm (rn [(0, 7)]) ((cmpG [SV.own 0]) zt)) (0 + zi)))), (53, cj (e 1) (iv (idxF roomB l))), (54, cj (e 2) (SV.oe 7 8 (Int.toNat (idxF roomB l)) 0)), (55, cj (e 3) (SV.oe 7 8 (Int.toNat (idxF roomB l)) 0)), (56, cj (e 4) (SV.oe 7 8 (Int.toNat (idxF roomB l)) 1)), (57, cj (e 5) (iv (((mkAt l (Int.toNat (idxF roomB l)) tag).getD (Int.toNat (idxF roomB l)) default).uses))), (58, cj (e 6) (SV.agg 2 (hdCell ⟨idxF roomB l, ((mkAt l (Int.toNat (idxF roomB l)) tag).getD (Int.toNat (idxF roomB l)) default).uses⟩))), (6, cj (e 9) (iv (0))), (2, SV.bp 1 0), (4, SV.bp 2 0), (5, SV.bp 3 0), (8, iv (idxF roomB l)), (9, SV.oe 7 8 (Int.toNat (idxF roomB l)) 0)], (cb (e 7) (cb (e 8) [(1, Own.box 1 (fun zt => SV.renm (rn [(0, 7)]) ((cmpG [SV.own 0]) zt)) 24), (2, Own.box 1 (fun zi => (fun zt => SV.renm (rn [(0, 7)]) ((cmpG [SV.own 0]) zt)) (0 + zi)) 24), (3, Own.box 2 (hdCell ⟨idxF roomB l, ((mkAt l (Int.toNat (idxF roomB l)) tag).getD (Int.toNat (idxF roomB l)) default).uses⟩) 26), (7, ownOf ndCell 8 default (mkAt l (Int.toNat (idxF roomB l)) tag) 61)] [(1, Own.box 1 (fun zt => SV.renm (rn [(0, 7)]) ((cmpG [SV.own 0]) zt)) 24), (2, Own.box 1 (fun zi => (fun zt => SV.renm (rn [(0, 7)]) ((cmpG [SV.own 0]) zt)) (0 + zi)) 24), (3, Own.box 2 (cmpG [iv (0), iv (0)]) 26), (7, ownOf ndCell 8 default (mkAt l (Int.toNat (idxF roomB l)) tag) 61)]) (cb (e 8) [] [(1, Own.box 1 (fun zt => SV.renm (rn [(0, 7)]) ((cmpG [SV.own 0]) zt)) 24), (2, Own.box 1 (cmpG [SV.v (Value.slice none 0 0)]) 24), (3, Own.box 2 (cmpG [iv (0), iv (0)]) 26), (7, ownOf ndCell 8 default (mkAt l (Int.toNat (idxF roomB l)) tag) 61)]))⟩) ⟨[(52, SV.agg 1 (fun zi => (fun zt => SV.renm (rn [(0, 7)]) ((cmpG [SV.own 0]) zt)) (0 + zi))), (53, iv (idxF roomB l)), (54, SV.oe 7 8 (Int.toNat (idxF roomB l)) 0), (55, SV.oe 7 8 (Int.toNat (idxF roomB l)) 0), (56, SV.oe 7 8 (Int.toNat (idxF roomB l)) 1), (57, iv (((mkAt l (Int.toNat (idxF roomB l)) tag).getD (Int.toNat (idxF roomB l)) default).uses)), (58, SV.agg 2 (hdCell ⟨idxF roomB l, ((mkAt l (Int.toNat (idxF roomB l)) tag).getD (Int.toNat (idxF roomB l)) default).uses⟩)), (6, iv (0)), (2, SV.bp 1 0), (4, SV.bp 2 0), (5, SV.bp 3 0), (8, iv (idxF roomB l)), (9, SV.oe 7 8 (Int.toNat (idxF roomB l)) 0)], [(1, Own.box 1 (fun zt => SV.renm (rn [(0, 7)]) ((cmpG [SV.own 0]) zt)) 24), (2, Own.box 1 (fun zi => (fun zt => SV.renm (rn [(0, 7)]) ((cmpG [SV.own 0]) zt)) (0 + zi)) 24), (3, Own.box 2 (hdCell ⟨idxF roomB l, ((mkAt l (Int.toNat (idxF roomB l)) tag).getD (Int.toNat (idxF roomB l)) default).uses⟩) 26), (7, ownOf ndCell 8 default (mkAt l (Int.toNat (idxF roomB l)) tag) 61)]⟩ (by kernel_rfl) (by kernel_rfl) ?_ ⟨?_, ?_, ?_, ?_, ?_, ?_, ?_, ?_, ?_, ?_, Z⟩ ?_ ?_
    ·show Weak _ _ ⟨[(52, SV.junk), (53, SV.junk), (54, SV.junk), (55, SV.junk), (56, SV.junk), (57, SV.junk), (58, SV.junk), (6, SV.junk), (2, SV.bp 1 0), (4, SV.bp 2 0), (5, SV.bp 3 0), (8, iv (idxF roomB l)), (9, SV.oe 7 8 (Int.toNat (idxF roomB l)) 0)], [(1, Own.box 1 (fun zt => SV.renm (rn [(0, 7)]) ((cmpG [SV.own 0]) zt)) 24), (2, Own.box 1 (cmpG [SV.v (Value.slice none 0 0)]) 24), (3, Own.box 2 (cmpG [iv (0), iv (0)]) 26), (7, ownOf ndCell 8 default (mkAt l (Int.toNat (idxF roomB l)) tag) 61)]⟩
     refine We ?_ ?_
     ·exact ⟨Vj, Vj, Vj, Vj, Vj, Vj, Vj, Vj, V rfl, V rfl, V rfl, V rfl, V rfl, Z⟩
     ·exact ⟨⟨_, rfl, ⟨rfl, rfl, (An rfl)⟩⟩, ⟨_, rfl, ⟨rfl, rfl, (An rfl)⟩⟩, ⟨_, rfl, ⟨rfl, rfl, (An rfl)⟩⟩, ⟨_, rfl, rfl⟩, Z⟩
    ·intro e hdn he hdp
     obtain ⟨h7, h8, -⟩ := dns1 hdn he [7, 8] (by kernel_rfl)
     simp only [setE, he, h7, h8, cj_t, cj_f, cjn_t, cjn_f, cb_t, cb_f]
     refine U (LBA (V rfl) rfl Ga24 Sz24 (by decide)) <| Nt <| We ?_ ?_
     ·exact (Vs rfl)
     ·exact ⟨⟨_, rfl, ⟨rfl, rfl, (An rfl)⟩⟩, ⟨_, rfl, ⟨rfl, rfl, (An rfl)⟩⟩, ⟨_, rfl, ⟨rfl, rfl, (An rfl)⟩⟩, ⟨_, rfl, rfl⟩, Z⟩
    ·intro e hdn he hdp
     obtain ⟨-, h8, -⟩ := dns1 hdn he [6, 8] (by kernel_rfl)
     simp only [setE, he, h8, cj_t, cj_f, cjn_t, cjn_f, cb_t, cb_f]
     exact U (Mv (V rfl)) <| Nt <| weakS ⟨V rfl, V rfl, V rfl, V rfl, V rfl, V rfl, V rfl, V rfl, V rfl, V rfl, V rfl, V rfl, V rfl, Z⟩
    ·intro e hdn he hdp
     obtain ⟨-, -, -, -, h8, -⟩ := dns1 hdn he [3, 4, 5, 6, 8] (by kernel_rfl)
     simp only [setE, he, h8, cj_t, cj_f, cjn_t, cjn_f, cb_t, cb_f]
     exact U (Mv (V rfl)) <| Nt <| weakS ⟨V rfl, V rfl, V rfl, V rfl, V rfl, V rfl, V rfl, V rfl, V rfl, V rfl, V rfl, V rfl, V rfl, Z⟩
    ·intro e hdn he hdp
     obtain ⟨h2, -⟩ := ups hdn [2] hdp (by kernel_rfl)
     obtain ⟨-, -, -, h8, -⟩ := dns1 hdn he [4, 5, 6, 8] (by kernel_rfl)
     cases hu7 : e 7
     ·simp only [setE, h2, he, h8, hu7, cj_t, cj_f, cjn_t, cjn_f, cb_t, cb_f]
      refine U (q_nilO (V rfl)) <| Nt <| We ?_ ?_
      ·exact (Vs rfl)
      ·exact ⟨⟨_, rfl, ⟨rfl, rfl, (An rfl)⟩⟩, ⟨_, rfl, ⟨rfl, rfl, (An rfl)⟩⟩, ⟨_, rfl, ⟨rfl, rfl, (An rfl)⟩⟩, ⟨_, rfl, rfl⟩, Z⟩
     ·simp only [setE, h2, he, h8, hu7, cj_t, cj_f, cjn_t, cjn_f, cb_t, cb_f]
      refine U (q_nilO (V rfl)) <| Nt <| We ?_ ?_
      ·exact (Vs rfl)
      ·exact ⟨⟨_, rfl, ⟨rfl, rfl, (An rfl)⟩⟩, ⟨_, rfl, ⟨rfl, rfl, (An rfl)⟩⟩, ⟨_, rfl, ⟨rfl, rfl, (An rfl)⟩⟩, ⟨_, rfl, rfl⟩, Z⟩
    ·intro e hdn he hdp
     obtain ⟨h3, h2, -⟩ := ups hdn [3, 2] hdp (by kernel_rfl)
     obtain ⟨-, -, h8, -⟩ := dns1 hdn he [5, 6, 8] (by kernel_rfl)
     simp only [setE, h2, h3, he, h8, cj_t, cj_f, cjn_t, cjn_f, cb_t, cb_f]
     exact U (FlO _ _ (V rfl) Un61 rfl 0 Sz3) <| Nt <| weakS ⟨V rfl, V rfl, V rfl, V rfl, V rfl, V rfl, V rfl, V rfl, V rfl, V rfl, V rfl, V rfl, V rfl, Z⟩
    ·intro e hdn he hdp
     obtain ⟨h4, h3, h2, -⟩ := ups hdn [4, 3, 2] hdp (by kernel_rfl)
     obtain ⟨-, h8, -⟩ := dns1 hdn he [6, 8] (by kernel_rfl)
     cases hu7 : e 7
     ·simp only [setE, h2, h3, h4, he, h8, hu7, cj_t, cj_f, cjn_t, cjn_f, cb_t, cb_f]
      refine U (LdO (V rfl) rfl Ga3 (by decide)) <| Nt <| We ?_ ?_
      ·exact (Vs rfl)
      ·exact ⟨⟨_, rfl, ⟨rfl, rfl, (An rfl)⟩⟩, ⟨_, rfl, ⟨rfl, rfl, (An rfl)⟩⟩, ⟨_, rfl, ⟨rfl, rfl, (An rfl)⟩⟩, ⟨_, rfl, rfl⟩, Z⟩
     ·simp only [setE, h2, h3, h4, he, h8, hu7, cj_t, cj_f, cjn_t, cjn_f, cb_t, cb_f]
      refine U (LdO (V rfl) rfl Ga3 (by decide)) <| Nt <| We ?_ ?_
      ·exact (Vs rfl)
      ·exact ⟨⟨_, rfl, ⟨rfl, rfl, (An rfl)⟩⟩, ⟨_, rfl, ⟨rfl, rfl, (An rfl)⟩⟩, ⟨_, rfl, ⟨rfl, rfl, (An rfl)⟩⟩, ⟨_, rfl, rfl⟩, Z⟩
    ·intro e hdn he hdp
     obtain ⟨h5, h4, h3, h2, h1, -⟩ := ups hdn [5, 4, 3, 2, 1] hdp (by kernel_rfl)
     obtain ⟨h8, -⟩ := dns1 hdn he [8] (by kernel_rfl)
     simp only [setE, h1, h2, h3, h4, h5, he, h8, cj_t, cj_f, cjn_t, cjn_f, cb_t, cb_f]
     exact U (Bu [(0, iv (idxF roomB l)), (1, iv (((mkAt l (Int.toNat (idxF roomB l)) tag).getD (Int.toNat (idxF roomB l)) default).uses))] id (hdCell ⟨idxF roomB l, ((mkAt l (Int.toNat (idxF roomB l)) tag).getD (Int.toNat (idxF roomB l)) default).uses⟩) zero26 build26 (by exact ⟨⟨rfl, (V rfl), rfl⟩, ⟨rfl, (V rfl), rfl⟩, Z⟩) (by decide) ⟨⟨Z, rfl⟩, rfl⟩) <| Nt <| weakS ⟨V rfl, V rfl, V rfl, V rfl, V rfl, V rfl, V rfl, V rfl, V rfl, V rfl, V rfl, V rfl, V rfl, Z⟩
    ·intro e hdn he hdp
     obtain ⟨h0, -⟩ := ups hdn [0] hdp (by kernel_rfl)
     obtain ⟨h8, -⟩ := dns1 hdn he [8] (by kernel_rfl)
     simp only [setE, h0, he, h8, cj_t, cj_f, cjn_t, cjn_f, cb_t, cb_f]
     refine StA (V rfl) rfl (V rfl) Sz24 <| Nt <| We ?_ ?_
     ·exact (Vs rfl)
     ·exact ⟨⟨_, rfl, ⟨rfl, rfl, (An rfl)⟩⟩, ⟨_, rfl, ⟨rfl, rfl, (An rfl)⟩⟩, ⟨_, rfl, ⟨rfl, rfl, (An rfl)⟩⟩, ⟨_, rfl, rfl⟩, Z⟩
    ·intro e hdn he hdp
     obtain ⟨h7, h6, h5, h4, h3, h2, h1, h0, -⟩ := ups hdn [7, 6, 5, 4, 3, 2, 1, 0] hdp (by kernel_rfl)
     simp only [setE, h0, h1, h2, h3, h4, h5, h6, h7, he, cj_t, cj_f, cjn_t, cjn_f, cb_t, cb_f]
     refine StA (V rfl) rfl (V rfl) Sz26 <| Nt <| We ?_ ?_
     ·exact (Vs rfl)
     ·exact ⟨⟨_, rfl, ⟨rfl, rfl, (An rfl)⟩⟩, ⟨_, rfl, ⟨rfl, rfl, (An rfl)⟩⟩, ⟨_, rfl, ⟨rfl, rfl, (An rfl)⟩⟩, ⟨_, rfl, rfl⟩, Z⟩
    ·intro e hdn he hdp
     obtain ⟨h8, h7, h6, h5, h4, h3, h2, h1, h0, -⟩ := ups hdn [8, 7, 6, 5, 4, 3, 2, 1, 0] hdp (by kernel_rfl)
     simp only [setE, h0, h1, h2, h3, h4, h5, h6, h7, h8, he, cj_t, cj_f, cjn_t, cjn_f, cb_t, cb_f]
     refine U (As K) <| Nt <| We ?_ ?_
     ·exact (Vs rfl)
     ·exact ⟨⟨_, rfl, ⟨rfl, rfl, (An rfl)⟩⟩, ⟨_, rfl, ⟨rfl, rfl, (An rfl)⟩⟩, ⟨_, rfl, ⟨rfl, rfl, (An rfl)⟩⟩, ⟨_, rfl, rfl⟩, Z⟩
    ·intro e he
     have h0 := he 0 (by decide)
     have h1 := he 1 (by decide)
     have h2 := he 2 (by decide)
     have h3 := he 3 (by decide)
     have h4 := he 4 (by decide)
     have h5 := he 5 (by decide)
     have h6 := he 6 (by decide)
     have h7 := he 7 (by decide)
     have h8 := he 8 (by decide)
     have h9 := he 9 (by decide)
     show Weak _ ⟨[(52, cj (e 0) (SV.agg 1 (fun zi => (fun zt => SV.renm (rn [(0, 7)]) ((cmpG [SV.own 0]) zt)) (0 + zi)))), (53, cj (e 1) (iv (idxF roomB l))), (54, cj (e 2) (SV.oe 7 8 (Int.toNat (idxF roomB l)) 0)), (55, cj (e 3) (SV.oe 7 8 (Int.toNat (idxF roomB l)) 0)), (56, cj (e 4) (SV.oe 7 8 (Int.toNat (idxF roomB l)) 1)), (57, cj (e 5) (iv (((mkAt l (Int.toNat (idxF roomB l)) tag).getD (Int.toNat (idxF roomB l)) default).uses))), (58, cj (e 6) (SV.agg 2 (hdCell ⟨idxF roomB l, ((mkAt l (Int.toNat (idxF roomB l)) tag).getD (Int.toNat (idxF roomB l)) default).uses⟩))), (6, cj (e 9) (iv (0))), (2, SV.bp 1 0), (4, SV.bp 2 0), (5, SV.bp 3 0), (8, iv (idxF roomB l)), (9, SV.oe 7 8 (Int.toNat (idxF roomB l)) 0)], (cb (e 7) (cb (e 8) [(1, Own.box 1 (fun zt => SV.renm (rn [(0, 7)]) ((cmpG [SV.own 0]) zt)) 24), (2, Own.box 1 (fun zi => (fun zt => SV.renm (rn [(0, 7)]) ((cmpG [SV.own 0]) zt)) (0 + zi)) 24), (3, Own.box 2 (hdCell ⟨idxF roomB l, ((mkAt l (Int.toNat (idxF roomB l)) tag).getD (Int.toNat (idxF roomB l)) default).uses⟩) 26), (7, ownOf ndCell 8 default (mkAt l (Int.toNat (idxF roomB l)) tag) 61)] [(1, Own.box 1 (fun zt => SV.renm (rn [(0, 7)]) ((cmpG [SV.own 0]) zt)) 24), (2, Own.box 1 (fun zi => (fun zt => SV.renm (rn [(0, 7)]) ((cmpG [SV.own 0]) zt)) (0 + zi)) 24), (3, Own.box 2 (cmpG [iv (0), iv (0)]) 26), (7, ownOf ndCell 8 default (mkAt l (Int.toNat (idxF roomB l)) tag) 61)]) (cb (e 8) [] [(1, Own.box 1 (fun zt => SV.renm (rn [(0, 7)]) ((cmpG [SV.own 0]) zt)) 24), (2, Own.box 1 (cmpG [SV.v (Value.slice none 0 0)]) 24), (3, Own.box 2 (cmpG [iv (0), iv (0)]) 26), (7, ownOf ndCell 8 default (mkAt l (Int.toNat (idxF roomB l)) tag) 61)]))⟩ _
     simp only [h0, h1, h2, h3, h4, h5, h6, h7, h8, h9]
     show Weak _ ⟨[(52, SV.agg 1 (fun zi => (fun zt => SV.renm (rn [(0, 7)]) ((cmpG [SV.own 0]) zt)) (0 + zi))), (53, iv (idxF roomB l)), (54, SV.oe 7 8 (Int.toNat (idxF roomB l)) 0), (55, SV.oe 7 8 (Int.toNat (idxF roomB l)) 0), (56, SV.oe 7 8 (Int.toNat (idxF roomB l)) 1), (57, iv (((mkAt l (Int.toNat (idxF roomB l)) tag).getD (Int.toNat (idxF roomB l)) default).uses)), (58, SV.agg 2 (hdCell ⟨idxF roomB l, ((mkAt l (Int.toNat (idxF roomB l)) tag).getD (Int.toNat (idxF roomB l)) default).uses⟩)), (6, iv (0)), (2, SV.bp 1 0), (4, SV.bp 2 0), (5, SV.bp 3 0), (8, iv (idxF roomB l)), (9, SV.oe 7 8 (Int.toNat (idxF roomB l)) 0)], [(1, Own.box 1 (fun zt => SV.renm (rn [(0, 7)]) ((cmpG [SV.own 0]) zt)) 24), (2, Own.box 1 (fun zi => (fun zt => SV.renm (rn [(0, 7)]) ((cmpG [SV.own 0]) zt)) (0 + zi)) 24), (3, Own.box 2 (hdCell ⟨idxF roomB l, ((mkAt l (Int.toNat (idxF roomB l)) tag).getD (Int.toNat (idxF roomB l)) default).uses⟩) 26), (7, ownOf ndCell 8 default (mkAt l (Int.toNat (idxF roomB l)) tag) 61)]⟩ _
     refine We ?_ ?_
     ·exact ⟨Va (V rfl) (An rfl), V rfl, V rfl, V rfl, V rfl, V rfl, Va (V rfl) (An rfl), V rfl, V rfl, V rfl, V rfl, V rfl, V rfl, Z⟩
     ·exact ⟨⟨_, rfl, ⟨rfl, rfl, (An rfl)⟩⟩, ⟨_, rfl, ⟨rfl, rfl, (An rfl)⟩⟩, ⟨_, rfl, ⟨rfl, rfl, (An rfl)⟩⟩, ⟨_, rfl, rfl⟩, Z⟩
    exact c_mv 7 0 rfl rfl <| c_ownE 0 ((mkSt l tag).1) rfl (by rw [mk_4 hc1s (by omega) hc3s]) <| Rx <| RM3 rfl (rv_aggI (g' := cmpG [SV.own 0]) (rv_cell (V rfl) rfl Ga24 Sz24) ⟨Z, Ir⟩) (rv_aggI (g' := hdCell ⟨idxF roomB l, ((mkAt l (Int.toNat (idxF roomB l)) tag).getD (Int.toNat (idxF roomB l)) default).uses⟩) (rv_cell (V rfl) rfl Ga26 Sz26) ⟨⟨Z, Ir⟩, Ir⟩) (rv_tmp (V rfl)) (by exact ⟨⟨_, rfl, rfl⟩, Z⟩) (by show sv3 (SV.agg 1 (cmpG [SV.own 0])) (SV.agg 2 (hdCell ⟨idxF roomB l, ((mkAt l (Int.toNat (idxF roomB l)) tag).getD (Int.toNat (idxF roomB l)) default).uses⟩)) (iv (0)) = sv3 (SV.agg 1 (cmpG [SV.own 0])) (SV.agg 2 (hdCell ((mkSt l tag).2.1))) (iv ((mkSt l tag).2.2)); rw [mk_4 hc1s (by omega) hc3s, mkAt_uses hku])
theorem attK_ct (x : Nd) (h : Hd) : Ct Try.prog 135 [SV.agg 8 (ndCell x), elB [iv (h.pl), iv (h.use)] 0] (bv (decide (x.host = h.pl))) := by
 exact CtO 9 Try.func135 rfl rfl rfl fun E => row_lenA 5 (V (s := 0) rfl) rfl rfl fun hl0_5 => Sq <| Rt <| BxA 1 (V rfl) rfl rfl <| U (As K) <| Nt <| Sq <| Rq <| O (FlB _ _ (V rfl) Un61 rfl 0 Sz3) <| O (LdB (V rfl) rfl Ga3 (by decide)) <| O (Fl _ _ (V rfl) Un26 rfl 0 Sz3) <| O (Ld (V rfl) Ga3 (by show 0 < 2; decide)) <| O (Ql (V rfl) (V rfl)) <| O (As (V rfl)) <| Nq <| Rx <| R1 rfl (V rfl) rfl (by show bv (decide (x.host = h.pl)) = bv (decide (x.host = h.pl)); rfl)
theorem attach_ct (l : List Nd) (h : Hd) (cl : Bool) (hb : ∀ n ∈ l, n.kids.length ≤ 17592186043904) : Ct Try.prog 74 [SV.agg 1 (stG l), SV.agg 2 (hdCell h), bv (cl)] (sv3 (SV.agg 1 (stG (attSt l h cl).1)) (SV.agg 2 (hdCell (attSt l h cl).2.1)) (iv (attSt l h cl).2.2)) := by
 refine CtO 58 Try.func74 rfl rfl rfl fun E => row_lenA 0 (V (s := 0) rfl) rfl rfl fun hl0_0 => Sq <| Rt <| BxA 1 (V rfl) rfl rfl <| BxA 2 (V rfl) rfl rfl <| Al 3 zero24 rfl rfl <| Al 4 zero26 rfl rfl <| U (As K) <| Nt <| Sq <| Sq <| c_frzB 2 [iv (h.pl), iv (h.use)] rfl rfl ⟨⟨Z, rfl⟩, rfl⟩ rfl <| Rt <| U (LBA (V rfl) rfl Ga24 Sz24 (by decide)) <| U (LdA (V rfl) Ga26 Sz26 (by show 0 + 2 ≤ 2; decide)) <| CT en46 (by exact ⟨⟨(Vi (g' := stG l) (V rfl) ⟨Z, Ir⟩), rfl⟩, ⟨(Vi (g' := hdCell ⟨h.pl, h.use⟩) (V rfl) ⟨⟨Z, Ir⟩, Ir⟩), rfl⟩, Z⟩) (find_ct l h (by first | assumption | exact kb_nil | exact kb_of (by assumption) | exact kb_of fam_c5)) <| U (Mv (V rfl)) <| U (Xt (V rfl) (by decide)) <| U (Xt (V rfl) (by decide)) <| Al 5 zero61 rfl rfl <| StA (V rfl) rfl (V rfl) Sz61 <| U (As (V rfl)) <| Nt <| Sq <| Rq <| O (Mv (V rfl)) <| O (Qn (V rfl) K) <| Nq <| Cd (V rfl) (fun hc1 => ?_) (fun hc1 => ?_)
 ·have hc1s := hc1; try simp only [BL] at hc1s
  exact Sq <| Rt <| U (Bu [] id (cmpG [SV.v (Value.slice none 0 0)]) zero24 build24 (by exact Z) (by decide) ⟨Z, rfl⟩) <| U (Bu [] id (hdCell ⟨0, 0⟩) zero26 build26 (by exact Z) (by decide) ⟨⟨Z, rfl⟩, rfl⟩) <| U (Mv (V rfl)) <| StA (V rfl) rfl (V rfl) Sz24 <| StA (V rfl) rfl (V rfl) Sz26 <| U (As (V rfl)) <| Nt <| Rx <| RR3 rfl (rv_aggI (g' := stG ([])) (rv_cell (V rfl) rfl Ga24 Sz24) ⟨Z, In⟩) (rv_cell (V rfl) rfl Ga26 Sz26) (rv_tmp (V rfl)) rfl rfl rfl (by show sv3 (SV.agg 1 (stG ([]))) (SV.agg 2 (hdCell ⟨0, 0⟩)) (iv ((findSt l h).2)) = sv3 (SV.agg 1 (stG (attSt l h cl).1)) (SV.agg 2 (hdCell (attSt l h cl).2.1)) (iv (attSt l h cl).2.2); rw [att_1 (h := h) (fun q => hc1s ((first_find l h).symm.trans q)), first_find])
 ·have hc1s := hc1; try simp only [BL] at hc1s
  have hf0 : firstSt l [h] = 0 := (first_find l h).trans hc1s
  have hc0 := (first1 hf0).1
  have hpl := (first1 hf0).2.2.1
  refine Sk <| Sq <| Sq <| Rt <| U (FlB _ _ (V rfl) Un24 rfl 0 Sz22) <| U (LdB (V rfl) rfl Ga22 (by decide)) <| U (Mk (caps := [elB [iv (h.pl), iv (h.use)] 0]) ⟨(V rfl), Z⟩) <| CT en116 (by exact ⟨⟨(V rfl), rfl⟩, ⟨(VA (VF [elB [iv (h.pl), iv (h.use)] 0] ((V rfl)) (An rfl)) rfl), rfl⟩, Z⟩) (conf116_ct (fun n => decide (n.host = h.pl)) en135 rfl (fun x => attK_ct x h) l) <| Nt <| Cd (V rfl) (fun hc2 => ?_) (fun hc2 => ?_)
  ·have hc2s := hc2; try simp only [BL] at hc2s
   exact Sq <| Rt <| U (Bu [] id (cmpG [SV.v (Value.slice none 0 0)]) zero24 build24 (by exact Z) (by decide) ⟨Z, rfl⟩) <| U (Bu [] id (hdCell ⟨0, 0⟩) zero26 build26 (by exact Z) (by decide) ⟨⟨Z, rfl⟩, rfl⟩) <| StA (V rfl) rfl (V rfl) Sz24 <| StA (V rfl) rfl (V rfl) Sz26 <| U (As K) <| Nt <| Rx <| RR3 rfl (rv_aggI (g' := stG ([])) (rv_cell (V rfl) rfl Ga24 Sz24) ⟨Z, In⟩) (rv_cell (V rfl) rfl Ga26 Sz26) (rv_tmp (V rfl)) rfl rfl rfl (by show sv3 (SV.agg 1 (stG ([]))) (SV.agg 2 (hdCell ⟨0, 0⟩)) (iv (6)) = sv3 (SV.agg 1 (stG (attSt l h cl).1)) (SV.agg 2 (hdCell (attSt l h cl).2.1)) (iv (attSt l h cl).2.2); rw [att_2 hf0 hc2])
  ·have hc2s := hc2; try simp only [BL] at hc2s
   refine Sk <| Sq <| Rt <| U (LBA (V rfl) rfl Ga24 Sz24 (by decide)) <| CM (cargs := [SV.agg 1 (stG l), iv (0)]) [] [(0, 6)] en40 (mv0 (by exact ⟨⟨(Vi (g' := stG l) (V rfl) ⟨Z, Ir⟩), rfl⟩, ⟨K, rfl⟩, Z⟩)) (makeO_ct l 0 (by first | assumption | exact kb_of (by assumption))) (by exact Z) rfl rfl rfl rfl <| U (Mv (V rfl)) <| U (Xt (V rfl) (by decide)) <| U (Xt (V rfl) (by decide)) <| U (Xt (V rfl) (by decide)) <| Al 7 zero26 rfl rfl <| StA (V rfl) rfl (V rfl) Sz24 <| StA (V rfl) rfl (V rfl) Sz26 <| U (As (V rfl)) <| Nt <| Sq <| Sq <| Rq <| O (Mv (V rfl)) <| O (Qn (V rfl) K) <| Nq <| Cd (V rfl) (fun hc3 => ?_) (fun hc3 => ?_)
   ·have hc3s := hc3; try simp only [BL] at hc3s
    exact Sq <| Rt <| U (Bu [] id (cmpG [SV.v (Value.slice none 0 0)]) zero24 build24 (by exact Z) (by decide) ⟨Z, rfl⟩) <| U (Bu [] id (hdCell ⟨0, 0⟩) zero26 build26 (by exact Z) (by decide) ⟨⟨Z, rfl⟩, rfl⟩) <| U (Mv (V rfl)) <| StA (V rfl) rfl (V rfl) Sz24 <| StA (V rfl) rfl (V rfl) Sz26 <| U (As (V rfl)) <| Nt <| Rx <| RR3 rfl (rv_aggI (g' := stG ([])) (rv_cell (V rfl) rfl Ga24 Sz24) ⟨Z, In⟩) (rv_cell (V rfl) rfl Ga26 Sz26) (rv_tmp (V rfl)) rfl rfl rfl (by show sv3 (SV.agg 1 (stG ([]))) (SV.agg 2 (hdCell ⟨0, 0⟩)) (iv ((mkSt l 0).2.2)) = sv3 (SV.agg 1 (stG (attSt l h cl).1)) (SV.agg 2 (hdCell (attSt l h cl).2.1)) (iv (attSt l h cl).2.2); rw [att_3 hf0 hc2 hc3s])
   ·have hc3s := hc3; try simp only [BL] at hc3s
    have hmk := mk_in hc3s
    refine Sk <| Sq <| c_rd (fun e => ⟨[(41, cj (e 0) (SV.bp 1 0)), (42, cj (e 1) (SV.own 6)), (43, cj (e 2) (SV.bp 7 0)), (44, cj (e 3) (iv ((mkSt l 0).2.1.pl))), (45, cj (e 4) (SV.bp 1 0)), (46, cj (e 5) (SV.own 6)), (47, cj (e 6) (SV.bp 7 0)), (48, cj (e 7) (iv ((mkSt l 0).2.1.pl))), (49, cj (e 8) (elB [iv (h.pl), iv (h.use)] 0)), (50, cj (e 9) (iv (h.pl))), (51, cj (e 10) (bv (cl))), (52, cj (e 11) (SV.oe 6 8 (Int.toNat ((mkSt l 0).2.1.pl)) 0)), (53, cj (e 12) (SV.oe 6 8 (Int.toNat ((mkSt l 0).2.1.pl)) 6)), (54, cj (e 14) (SV.oe 6 8 (Int.toNat ((mkSt l 0).2.1.pl)) 0)), (55, cj (e 15) (SV.oe 6 8 (Int.toNat ((mkSt l 0).2.1.pl)) 7)), (2, bv (cl)), (3, SV.bp 1 0), (4, elB [iv (h.pl), iv (h.use)] 0), (6, SV.bp 3 0), (7, SV.bp 4 0), (11, SV.bp 7 0)], (cb (e 13) (cb (e 16) [(1, Own.box 1 (fun zt => SV.renm (rn [(0, 6)]) ((cmpG [SV.own 0]) zt)) 24), (3, Own.box 1 (cmpG [SV.v (Value.slice none 0 0)]) 24), (4, Own.box 2 (cmpG [iv (0), iv (0)]) 26), (6, ownOf ndCell 8 default ((((mkSt l 0).1).set (Int.toNat ((mkSt l 0).2.1.pl)) ({ (((mkSt l 0).1).getD (Int.toNat ((mkSt l 0).2.1.pl)) default) with host := h.pl })).set (Int.toNat ((mkSt l 0).2.1.pl)) ({ ((((mkSt l 0).1).set (Int.toNat ((mkSt l 0).2.1.pl)) ({ (((mkSt l 0).1).getD (Int.toNat ((mkSt l 0).2.1.pl)) default) with host := h.pl })).getD (Int.toNat ((mkSt l 0).2.1.pl)) default) with closed := cl })) 61), (7, Own.box 2 (hdCell ((mkSt l 0).2.1)) 26)] [(1, Own.box 1 (fun zt => SV.renm (rn [(0, 6)]) ((cmpG [SV.own 0]) zt)) 24), (3, Own.box 1 (cmpG [SV.v (Value.slice none 0 0)]) 24), (4, Own.box 2 (cmpG [iv (0), iv (0)]) 26), (6, ownOf ndCell 8 default (((mkSt l 0).1).set (Int.toNat ((mkSt l 0).2.1.pl)) ({ (((mkSt l 0).1).getD (Int.toNat ((mkSt l 0).2.1.pl)) default) with host := h.pl })) 61), (7, Own.box 2 (hdCell ((mkSt l 0).2.1)) 26)]) (cb (e 16) [] [(1, Own.box 1 (fun zt => SV.renm (rn [(0, 6)]) ((cmpG [SV.own 0]) zt)) 24), (3, Own.box 1 (cmpG [SV.v (Value.slice none 0 0)]) 24), (4, Own.box 2 (cmpG [iv (0), iv (0)]) 26), (6, ownOf ndCell 8 default ((mkSt l 0).1) 61), (7, Own.box 2 (hdCell ((mkSt l 0).2.1)) 26)]))⟩) ⟨[(41, SV.bp 1 0), (42, SV.own 6), (43, SV.bp 7 0), (44, iv ((mkSt l 0).2.1.pl)), (45, SV.bp 1 0), (46, SV.own 6), (47, SV.bp 7 0), (48, iv ((mkSt l 0).2.1.pl)), (49, elB [iv (h.pl), iv (h.use)] 0), (50, iv (h.pl)), (51, bv (cl)), (52, SV.oe 6 8 (Int.toNat ((mkSt l 0).2.1.pl)) 0), (53, SV.oe 6 8 (Int.toNat ((mkSt l 0).2.1.pl)) 6), (54, SV.oe 6 8 (Int.toNat ((mkSt l 0).2.1.pl)) 0), (55, SV.oe 6 8 (Int.toNat ((mkSt l 0).2.1.pl)) 7), (2, bv (cl)), (3, SV.bp 1 0), (4, elB [iv (h.pl), iv (h.use)] 0), (6, SV.bp 3 0), (7, SV.bp 4 0), (11, SV.bp 7 0)], [(1, Own.box 1 (fun zt => SV.renm (rn [(0, 6)]) ((cmpG [SV.own 0]) zt)) 24), (3, Own.box 1 (cmpG [SV.v (Value.slice none 0 0)]) 24), (4, Own.box 2 (cmpG [iv (0), iv (0)]) 26), (6, ownOf ndCell 8 default ((((mkSt l 0).1).set (Int.toNat ((mkSt l 0).2.1.pl)) ({ (((mkSt l 0).1).getD (Int.toNat ((mkSt l 0).2.1.pl)) default) with host := h.pl })).set (Int.toNat ((mkSt l 0).2.1.pl)) ({ ((((mkSt l 0).1).set (Int.toNat ((mkSt l 0).2.1.pl)) ({ (((mkSt l 0).1).getD (Int.toNat ((mkSt l 0).2.1.pl)) default) with host := h.pl })).getD (Int.toNat ((mkSt l 0).2.1.pl)) default) with closed := cl })) 61), (7, Own.box 2 (hdCell ((mkSt l 0).2.1)) 26)]⟩ (by kernel_rfl) (by kernel_rfl) ?_ ⟨?_, ?_, ?_, ?_, ?_, ?_, ?_, ?_, ?_, ?_, ?_, ?_, ?_, ?_, ?_, ?_, ?_, Z⟩ ?_ ?_
    ·show Weak _ _ ⟨[(41, SV.junk), (42, SV.junk), (43, SV.junk), (44, SV.junk), (45, SV.junk), (46, SV.junk), (47, SV.junk), (48, SV.junk), (49, SV.junk), (50, SV.junk), (51, SV.junk), (52, SV.junk), (53, SV.junk), (54, SV.junk), (55, SV.junk), (2, bv (cl)), (3, SV.bp 1 0), (4, elB [iv (h.pl), iv (h.use)] 0), (6, SV.bp 3 0), (7, SV.bp 4 0), (11, SV.bp 7 0)], [(1, Own.box 1 (fun zt => SV.renm (rn [(0, 6)]) ((cmpG [SV.own 0]) zt)) 24), (3, Own.box 1 (cmpG [SV.v (Value.slice none 0 0)]) 24), (4, Own.box 2 (cmpG [iv (0), iv (0)]) 26), (6, ownOf ndCell 8 default ((mkSt l 0).1) 61), (7, Own.box 2 (hdCell ((mkSt l 0).2.1)) 26)]⟩
     refine We ?_ ?_
     ·exact ⟨Vj, Vj, Vj, Vj, Vj, Vj, Vj, Vj, Vj, Vj, Vj, Vj, Vj, Vj, Vj, V rfl, V rfl, V rfl, V rfl, V rfl, V rfl, Z⟩
     ·exact ⟨⟨_, rfl, ⟨rfl, rfl, (An rfl)⟩⟩, ⟨_, rfl, ⟨rfl, rfl, (An rfl)⟩⟩, ⟨_, rfl, ⟨rfl, rfl, (An rfl)⟩⟩, ⟨_, rfl, rfl⟩, ⟨_, rfl, ⟨rfl, rfl, (An rfl)⟩⟩, Z⟩
    ·intro e hdn he hdp
     obtain ⟨-, -, -, h13, -, -, h16, -⟩ := dns1 hdn he [1, 11, 12, 13, 14, 15, 16] (by kernel_rfl)
     simp only [setE, he, h13, h16, cj_t, cj_f, cjn_t, cjn_f, cb_t, cb_f]
     refine U (FlB _ _ (V rfl) Un24 rfl 0 Sz22) <| Nt <| We ?_ ?_
     ·exact (Vs rfl)
     ·exact ⟨⟨_, rfl, ⟨rfl, rfl, (An rfl)⟩⟩, ⟨_, rfl, ⟨rfl, rfl, (An rfl)⟩⟩, ⟨_, rfl, ⟨rfl, rfl, (An rfl)⟩⟩, ⟨_, rfl, rfl⟩, ⟨_, rfl, ⟨rfl, rfl, (An rfl)⟩⟩, Z⟩
    ·intro e hdn he hdp
     obtain ⟨h0, -⟩ := ups hdn [0] hdp (by kernel_rfl)
     obtain ⟨-, -, h13, -, -, h16, -⟩ := dns1 hdn he [11, 12, 13, 14, 15, 16] (by kernel_rfl)
     simp only [setE, h0, he, h13, h16, cj_t, cj_f, cjn_t, cjn_f, cb_t, cb_f]
     refine U (LdB (V rfl) rfl Ga22 (by decide)) <| Nt <| We ?_ ?_
     ·exact (Vs rfl)
     ·exact ⟨⟨_, rfl, ⟨rfl, rfl, (An rfl)⟩⟩, ⟨_, rfl, ⟨rfl, rfl, (An rfl)⟩⟩, ⟨_, rfl, ⟨rfl, rfl, (An rfl)⟩⟩, ⟨_, rfl, rfl⟩, ⟨_, rfl, ⟨rfl, rfl, (An rfl)⟩⟩, Z⟩
    ·intro e hdn he hdp
     obtain ⟨-, -, -, h13, -, -, h16, -⟩ := dns1 hdn he [3, 11, 12, 13, 14, 15, 16] (by kernel_rfl)
     simp only [setE, he, h13, h16, cj_t, cj_f, cjn_t, cjn_f, cb_t, cb_f]
     refine U (FlB _ _ (V rfl) Un26 rfl 0 Sz3) <| Nt <| We ?_ ?_
     ·exact (Vs rfl)
     ·exact ⟨⟨_, rfl, ⟨rfl, rfl, (An rfl)⟩⟩, ⟨_, rfl, ⟨rfl, rfl, (An rfl)⟩⟩, ⟨_, rfl, ⟨rfl, rfl, (An rfl)⟩⟩, ⟨_, rfl, rfl⟩, ⟨_, rfl, ⟨rfl, rfl, (An rfl)⟩⟩, Z⟩
    ·intro e hdn he hdp
     obtain ⟨h2, -⟩ := ups hdn [2] hdp (by kernel_rfl)
     obtain ⟨-, -, h13, -, -, h16, -⟩ := dns1 hdn he [11, 12, 13, 14, 15, 16] (by kernel_rfl)
     simp only [setE, h2, he, h13, h16, cj_t, cj_f, cjn_t, cjn_f, cb_t, cb_f]
     refine U (LdB (V rfl) rfl Ga3 (by decide)) <| Nt <| We ?_ ?_
     ·exact (Vs rfl)
     ·exact ⟨⟨_, rfl, ⟨rfl, rfl, (An rfl)⟩⟩, ⟨_, rfl, ⟨rfl, rfl, (An rfl)⟩⟩, ⟨_, rfl, ⟨rfl, rfl, (An rfl)⟩⟩, ⟨_, rfl, rfl⟩, ⟨_, rfl, ⟨rfl, rfl, (An rfl)⟩⟩, Z⟩
    ·intro e hdn he hdp
     obtain ⟨-, -, -, h16, -⟩ := dns1 hdn he [5, 14, 15, 16] (by kernel_rfl)
     simp only [setE, he, h16, cj_t, cj_f, cjn_t, cjn_f, cb_t, cb_f]
     exact U (FlB _ _ (V rfl) Un24 rfl 0 Sz22) <| Nt <| weakS ⟨V rfl, V rfl, V rfl, V rfl, V rfl, V rfl, V rfl, V rfl, V rfl, V rfl, V rfl, V rfl, V rfl, V rfl, V rfl, V rfl, V rfl, V rfl, V rfl, V rfl, V rfl, Z⟩
    ·intro e hdn he hdp
     obtain ⟨h4, -⟩ := ups hdn [4] hdp (by kernel_rfl)
     obtain ⟨-, -, h16, -⟩ := dns1 hdn he [14, 15, 16] (by kernel_rfl)
     cases hu13 : e 13
     ·simp only [setE, h4, he, h16, hu13, cj_t, cj_f, cjn_t, cjn_f, cb_t, cb_f]
      refine U (LdB (V rfl) rfl Ga22 (by decide)) <| Nt <| We ?_ ?_
      ·exact (Vs rfl)
      ·exact ⟨⟨_, rfl, ⟨rfl, rfl, (An rfl)⟩⟩, ⟨_, rfl, ⟨rfl, rfl, (An rfl)⟩⟩, ⟨_, rfl, ⟨rfl, rfl, (An rfl)⟩⟩, ⟨_, rfl, rfl⟩, ⟨_, rfl, ⟨rfl, rfl, (An rfl)⟩⟩, Z⟩
     ·simp only [setE, h4, he, h16, hu13, cj_t, cj_f, cjn_t, cjn_f, cb_t, cb_f]
      refine U (LdB (V rfl) rfl Ga22 (by decide)) <| Nt <| We ?_ ?_
      ·exact (Vs rfl)
      ·exact ⟨⟨_, rfl, ⟨rfl, rfl, (An rfl)⟩⟩, ⟨_, rfl, ⟨rfl, rfl, (An rfl)⟩⟩, ⟨_, rfl, ⟨rfl, rfl, (An rfl)⟩⟩, ⟨_, rfl, rfl⟩, ⟨_, rfl, ⟨rfl, rfl, (An rfl)⟩⟩, Z⟩
    ·intro e hdn he hdp
     obtain ⟨-, -, -, h16, -⟩ := dns1 hdn he [7, 14, 15, 16] (by kernel_rfl)
     simp only [setE, he, h16, cj_t, cj_f, cjn_t, cjn_f, cb_t, cb_f]
     exact U (FlB _ _ (V rfl) Un26 rfl 0 Sz3) <| Nt <| weakS ⟨V rfl, V rfl, V rfl, V rfl, V rfl, V rfl, V rfl, V rfl, V rfl, V rfl, V rfl, V rfl, V rfl, V rfl, V rfl, V rfl, V rfl, V rfl, V rfl, V rfl, V rfl, Z⟩
    ·intro e hdn he hdp
     obtain ⟨h6, -⟩ := ups hdn [6] hdp (by kernel_rfl)
     obtain ⟨-, -, h16, -⟩ := dns1 hdn he [14, 15, 16] (by kernel_rfl)
     cases hu13 : e 13
     ·simp only [setE, h6, he, h16, hu13, cj_t, cj_f, cjn_t, cjn_f, cb_t, cb_f]
      refine U (LdB (V rfl) rfl Ga3 (by decide)) <| Nt <| We ?_ ?_
      ·exact (Vs rfl)
      ·exact ⟨⟨_, rfl, ⟨rfl, rfl, (An rfl)⟩⟩, ⟨_, rfl, ⟨rfl, rfl, (An rfl)⟩⟩, ⟨_, rfl, ⟨rfl, rfl, (An rfl)⟩⟩, ⟨_, rfl, rfl⟩, ⟨_, rfl, ⟨rfl, rfl, (An rfl)⟩⟩, Z⟩
     ·simp only [setE, h6, he, h16, hu13, cj_t, cj_f, cjn_t, cjn_f, cb_t, cb_f]
      refine U (LdB (V rfl) rfl Ga3 (by decide)) <| Nt <| We ?_ ?_
      ·exact (Vs rfl)
      ·exact ⟨⟨_, rfl, ⟨rfl, rfl, (An rfl)⟩⟩, ⟨_, rfl, ⟨rfl, rfl, (An rfl)⟩⟩, ⟨_, rfl, ⟨rfl, rfl, (An rfl)⟩⟩, ⟨_, rfl, rfl⟩, ⟨_, rfl, ⟨rfl, rfl, (An rfl)⟩⟩, Z⟩
    ·intro e hdn he hdp
     obtain ⟨-, -, -, h13, -, -, h16, -⟩ := dns1 hdn he [9, 11, 12, 13, 14, 15, 16] (by kernel_rfl)
     simp only [setE, he, h13, h16, cj_t, cj_f, cjn_t, cjn_f, cb_t, cb_f]
     refine U (Fl _ _ (V rfl) Un26 rfl 0 Sz3) <| Nt <| We ?_ ?_
     ·exact (Vs rfl)
     ·exact ⟨⟨_, rfl, ⟨rfl, rfl, (An rfl)⟩⟩, ⟨_, rfl, ⟨rfl, rfl, (An rfl)⟩⟩, ⟨_, rfl, ⟨rfl, rfl, (An rfl)⟩⟩, ⟨_, rfl, rfl⟩, ⟨_, rfl, ⟨rfl, rfl, (An rfl)⟩⟩, Z⟩
    ·intro e hdn he hdp
     obtain ⟨h8, -⟩ := ups hdn [8] hdp (by kernel_rfl)
     obtain ⟨-, -, h13, -, -, h16, -⟩ := dns1 hdn he [11, 12, 13, 14, 15, 16] (by kernel_rfl)
     simp only [setE, h8, he, h13, h16, cj_t, cj_f, cjn_t, cjn_f, cb_t, cb_f]
     refine U (Ld (V rfl) Ga3 (by show 0 < 2; decide)) <| Nt <| We ?_ ?_
     ·exact (Vs rfl)
     ·exact ⟨⟨_, rfl, ⟨rfl, rfl, (An rfl)⟩⟩, ⟨_, rfl, ⟨rfl, rfl, (An rfl)⟩⟩, ⟨_, rfl, ⟨rfl, rfl, (An rfl)⟩⟩, ⟨_, rfl, rfl⟩, ⟨_, rfl, ⟨rfl, rfl, (An rfl)⟩⟩, Z⟩
    ·intro e hdn he hdp
     obtain ⟨-, -, h16, -⟩ := dns1 hdn he [14, 15, 16] (by kernel_rfl)
     simp only [setE, he, h16, cj_t, cj_f, cjn_t, cjn_f, cb_t, cb_f]
     exact U (Mv (V rfl)) <| Nt <| weakS ⟨V rfl, V rfl, V rfl, V rfl, V rfl, V rfl, V rfl, V rfl, V rfl, V rfl, V rfl, V rfl, V rfl, V rfl, V rfl, V rfl, V rfl, V rfl, V rfl, V rfl, V rfl, Z⟩
    ·intro e hdn he hdp
     obtain ⟨h9, h8, h3, h2, h1, h0, -⟩ := ups hdn [9, 8, 3, 2, 1, 0] hdp (by kernel_rfl)
     obtain ⟨-, h13, -, -, h16, -⟩ := dns1 hdn he [12, 13, 14, 15, 16] (by kernel_rfl)
     simp only [setE, h0, h1, h2, h3, h8, h9, he, h13, h16, cj_t, cj_f, cjn_t, cjn_f, cb_t, cb_f]
     refine U (IxO (V rfl) rfl (V rfl) ts22 te22 (by omega) (by first | omega | (simp only [List.length_set]; omega))) <| Nt <| We ?_ ?_
     ·exact (Vs rfl)
     ·exact ⟨⟨_, rfl, ⟨rfl, rfl, (An rfl)⟩⟩, ⟨_, rfl, ⟨rfl, rfl, (An rfl)⟩⟩, ⟨_, rfl, ⟨rfl, rfl, (An rfl)⟩⟩, ⟨_, rfl, rfl⟩, ⟨_, rfl, ⟨rfl, rfl, (An rfl)⟩⟩, Z⟩
    ·intro e hdn he hdp
     obtain ⟨h11, h9, h8, h3, h2, h1, h0, -⟩ := ups hdn [11, 9, 8, 3, 2, 1, 0] hdp (by kernel_rfl)
     obtain ⟨h13, -, -, h16, -⟩ := dns1 hdn he [13, 14, 15, 16] (by kernel_rfl)
     simp only [setE, h0, h1, h2, h3, h8, h9, h11, he, h13, h16, cj_t, cj_f, cjn_t, cjn_f, cb_t, cb_f]
     refine U (FlO _ _ (V rfl) Un61 rfl 0 Sz3) <| Nt <| We ?_ ?_
     ·exact (Vs rfl)
     ·exact ⟨⟨_, rfl, ⟨rfl, rfl, (An rfl)⟩⟩, ⟨_, rfl, ⟨rfl, rfl, (An rfl)⟩⟩, ⟨_, rfl, ⟨rfl, rfl, (An rfl)⟩⟩, ⟨_, rfl, rfl⟩, ⟨_, rfl, ⟨rfl, rfl, (An rfl)⟩⟩, Z⟩
    ·intro e hdn he hdp
     obtain ⟨h12, h11, h9, h8, h3, h2, h1, h0, -⟩ := ups hdn [12, 11, 9, 8, 3, 2, 1, 0] hdp (by kernel_rfl)
     obtain ⟨h14, h15, h16, -⟩ := dns1 hdn he [14, 15, 16] (by kernel_rfl)
     simp only [setE, h0, h1, h2, h3, h8, h9, h11, h12, he, h14, h15, h16, cj_t, cj_f, cjn_t, cjn_f, cb_t, cb_f]
     have hidx0 : Int.toNat ((mkSt l 0).2.1.pl) < ((mkSt l 0).1).length := by first | omega | (simp only [List.length_set]; omega)
     refine StO (rowG ndCell default (((mkSt l 0).1).set (Int.toNat ((mkSt l 0).2.1.pl)) ({ (((mkSt l 0).1).getD (Int.toNat ((mkSt l 0).2.1.pl)) default) with host := h.pl }))) (V rfl) rfl (V rfl) rfl rfl Sz3 (by decide) (show ((mkSt l 0).1).length = (((mkSt l 0).1).set (Int.toNat ((mkSt l 0).2.1.pl)) ({ (((mkSt l 0).1).getD (Int.toNat ((mkSt l 0).2.1.pl)) default) with host := h.pl })).length from List.length_set.symm) (set_at hidx0 rfl) (set_typed hidx0 fun t ht hne => match t, ht, hne with | 0, _, _ => rfl | 1, _, _ => rfl | 2, _, _ => rfl | 3, _, _ => rfl | 4, _, _ => rfl | 5, _, _ => rfl | 6, _, hne => absurd rfl hne | 7, _, _ => rfl) <| Nt <| We ?_ ?_
     ·exact ⟨V rfl, V rfl, V rfl, V rfl, V rfl, V rfl, V rfl, V rfl, V rfl, V rfl, V rfl, V rfl, V rfl, Vj, Vj, V rfl, V rfl, V rfl, V rfl, V rfl, V rfl, Z⟩
     ·exact ⟨⟨_, rfl, ⟨rfl, rfl, (An rfl)⟩⟩, ⟨_, rfl, ⟨rfl, rfl, (An rfl)⟩⟩, ⟨_, rfl, ⟨rfl, rfl, (An rfl)⟩⟩, ⟨_, rfl, rfl⟩, ⟨_, rfl, ⟨rfl, rfl, (An rfl)⟩⟩, Z⟩
    ·intro e hdn he hdp
     obtain ⟨h13, h12, h11, h10, h9, h8, h7, h6, h5, h4, h3, h2, h1, h0, -⟩ := ups hdn [13, 12, 11, 10, 9, 8, 7, 6, 5, 4, 3, 2, 1, 0] hdp (by kernel_rfl)
     obtain ⟨-, h16, -⟩ := dns1 hdn he [15, 16] (by kernel_rfl)
     simp only [setE, h0, h1, h2, h3, h4, h5, h6, h7, h8, h9, h10, h11, h12, h13, he, h16, cj_t, cj_f, cjn_t, cjn_f, cb_t, cb_f]
     refine U (IxO (V rfl) rfl (V rfl) ts22 te22 (by omega) (by first | omega | (simp only [List.length_set]; omega))) <| Nt <| We ?_ ?_
     ·exact (Vs rfl)
     ·exact ⟨⟨_, rfl, ⟨rfl, rfl, (An rfl)⟩⟩, ⟨_, rfl, ⟨rfl, rfl, (An rfl)⟩⟩, ⟨_, rfl, ⟨rfl, rfl, (An rfl)⟩⟩, ⟨_, rfl, rfl⟩, ⟨_, rfl, ⟨rfl, rfl, (An rfl)⟩⟩, Z⟩
    ·intro e hdn he hdp
     obtain ⟨h14, h13, h12, h11, h10, h9, h8, h7, h6, h5, h4, h3, h2, h1, h0, -⟩ := ups hdn [14, 13, 12, 11, 10, 9, 8, 7, 6, 5, 4, 3, 2, 1, 0] hdp (by kernel_rfl)
     obtain ⟨h16, -⟩ := dns1 hdn he [16] (by kernel_rfl)
     simp only [setE, h0, h1, h2, h3, h4, h5, h6, h7, h8, h9, h10, h11, h12, h13, h14, he, h16, cj_t, cj_f, cjn_t, cjn_f, cb_t, cb_f]
     refine U (FlO _ _ (V rfl) Un61 rfl 0 Sz4) <| Nt <| We ?_ ?_
     ·exact (Vs rfl)
     ·exact ⟨⟨_, rfl, ⟨rfl, rfl, (An rfl)⟩⟩, ⟨_, rfl, ⟨rfl, rfl, (An rfl)⟩⟩, ⟨_, rfl, ⟨rfl, rfl, (An rfl)⟩⟩, ⟨_, rfl, rfl⟩, ⟨_, rfl, ⟨rfl, rfl, (An rfl)⟩⟩, Z⟩
    ·intro e hdn he hdp
     obtain ⟨h15, h14, h13, h12, h11, h10, h9, h8, h7, h6, h5, h4, h3, h2, h1, h0, -⟩ := ups hdn [15, 14, 13, 12, 11, 10, 9, 8, 7, 6, 5, 4, 3, 2, 1, 0] hdp (by kernel_rfl)
     simp only [setE, h0, h1, h2, h3, h4, h5, h6, h7, h8, h9, h10, h11, h12, h13, h14, h15, he, cj_t, cj_f, cjn_t, cjn_f, cb_t, cb_f]
     have hidx1 : Int.toNat ((mkSt l 0).2.1.pl) < (((mkSt l 0).1).set (Int.toNat ((mkSt l 0).2.1.pl)) ({ (((mkSt l 0).1).getD (Int.toNat ((mkSt l 0).2.1.pl)) default) with host := h.pl })).length := by first | omega | (simp only [List.length_set]; omega)
     refine StO (rowG ndCell default ((((mkSt l 0).1).set (Int.toNat ((mkSt l 0).2.1.pl)) ({ (((mkSt l 0).1).getD (Int.toNat ((mkSt l 0).2.1.pl)) default) with host := h.pl })).set (Int.toNat ((mkSt l 0).2.1.pl)) ({ ((((mkSt l 0).1).set (Int.toNat ((mkSt l 0).2.1.pl)) ({ (((mkSt l 0).1).getD (Int.toNat ((mkSt l 0).2.1.pl)) default) with host := h.pl })).getD (Int.toNat ((mkSt l 0).2.1.pl)) default) with closed := cl }))) (V rfl) rfl (V rfl) rfl rfl Sz4 (by decide) (show (((mkSt l 0).1).set (Int.toNat ((mkSt l 0).2.1.pl)) ({ (((mkSt l 0).1).getD (Int.toNat ((mkSt l 0).2.1.pl)) default) with host := h.pl })).length = ((((mkSt l 0).1).set (Int.toNat ((mkSt l 0).2.1.pl)) ({ (((mkSt l 0).1).getD (Int.toNat ((mkSt l 0).2.1.pl)) default) with host := h.pl })).set (Int.toNat ((mkSt l 0).2.1.pl)) ({ ((((mkSt l 0).1).set (Int.toNat ((mkSt l 0).2.1.pl)) ({ (((mkSt l 0).1).getD (Int.toNat ((mkSt l 0).2.1.pl)) default) with host := h.pl })).getD (Int.toNat ((mkSt l 0).2.1.pl)) default) with closed := cl })).length from List.length_set.symm) (set_at hidx1 rfl) (set_typed hidx1 fun t ht hne => match t, ht, hne with | 0, _, _ => rfl | 1, _, _ => rfl | 2, _, _ => rfl | 3, _, _ => rfl | 4, _, _ => rfl | 5, _, _ => rfl | 6, _, _ => rfl | 7, _, hne => absurd rfl hne) <| Nt <| We ?_ ?_
     ·exact (Vs rfl)
     ·exact ⟨⟨_, rfl, ⟨rfl, rfl, (An rfl)⟩⟩, ⟨_, rfl, ⟨rfl, rfl, (An rfl)⟩⟩, ⟨_, rfl, ⟨rfl, rfl, (An rfl)⟩⟩, ⟨_, rfl, rfl⟩, ⟨_, rfl, ⟨rfl, rfl, (An rfl)⟩⟩, Z⟩
    ·intro e he
     have h0 := he 0 (by decide)
     have h1 := he 1 (by decide)
     have h2 := he 2 (by decide)
     have h3 := he 3 (by decide)
     have h4 := he 4 (by decide)
     have h5 := he 5 (by decide)
     have h6 := he 6 (by decide)
     have h7 := he 7 (by decide)
     have h8 := he 8 (by decide)
     have h9 := he 9 (by decide)
     have h10 := he 10 (by decide)
     have h11 := he 11 (by decide)
     have h12 := he 12 (by decide)
     have h13 := he 13 (by decide)
     have h14 := he 14 (by decide)
     have h15 := he 15 (by decide)
     have h16 := he 16 (by decide)
     show Weak _ ⟨[(41, cj (e 0) (SV.bp 1 0)), (42, cj (e 1) (SV.own 6)), (43, cj (e 2) (SV.bp 7 0)), (44, cj (e 3) (iv ((mkSt l 0).2.1.pl))), (45, cj (e 4) (SV.bp 1 0)), (46, cj (e 5) (SV.own 6)), (47, cj (e 6) (SV.bp 7 0)), (48, cj (e 7) (iv ((mkSt l 0).2.1.pl))), (49, cj (e 8) (elB [iv (h.pl), iv (h.use)] 0)), (50, cj (e 9) (iv (h.pl))), (51, cj (e 10) (bv (cl))), (52, cj (e 11) (SV.oe 6 8 (Int.toNat ((mkSt l 0).2.1.pl)) 0)), (53, cj (e 12) (SV.oe 6 8 (Int.toNat ((mkSt l 0).2.1.pl)) 6)), (54, cj (e 14) (SV.oe 6 8 (Int.toNat ((mkSt l 0).2.1.pl)) 0)), (55, cj (e 15) (SV.oe 6 8 (Int.toNat ((mkSt l 0).2.1.pl)) 7)), (2, bv (cl)), (3, SV.bp 1 0), (4, elB [iv (h.pl), iv (h.use)] 0), (6, SV.bp 3 0), (7, SV.bp 4 0), (11, SV.bp 7 0)], (cb (e 13) (cb (e 16) [(1, Own.box 1 (fun zt => SV.renm (rn [(0, 6)]) ((cmpG [SV.own 0]) zt)) 24), (3, Own.box 1 (cmpG [SV.v (Value.slice none 0 0)]) 24), (4, Own.box 2 (cmpG [iv (0), iv (0)]) 26), (6, ownOf ndCell 8 default ((((mkSt l 0).1).set (Int.toNat ((mkSt l 0).2.1.pl)) ({ (((mkSt l 0).1).getD (Int.toNat ((mkSt l 0).2.1.pl)) default) with host := h.pl })).set (Int.toNat ((mkSt l 0).2.1.pl)) ({ ((((mkSt l 0).1).set (Int.toNat ((mkSt l 0).2.1.pl)) ({ (((mkSt l 0).1).getD (Int.toNat ((mkSt l 0).2.1.pl)) default) with host := h.pl })).getD (Int.toNat ((mkSt l 0).2.1.pl)) default) with closed := cl })) 61), (7, Own.box 2 (hdCell ((mkSt l 0).2.1)) 26)] [(1, Own.box 1 (fun zt => SV.renm (rn [(0, 6)]) ((cmpG [SV.own 0]) zt)) 24), (3, Own.box 1 (cmpG [SV.v (Value.slice none 0 0)]) 24), (4, Own.box 2 (cmpG [iv (0), iv (0)]) 26), (6, ownOf ndCell 8 default (((mkSt l 0).1).set (Int.toNat ((mkSt l 0).2.1.pl)) ({ (((mkSt l 0).1).getD (Int.toNat ((mkSt l 0).2.1.pl)) default) with host := h.pl })) 61), (7, Own.box 2 (hdCell ((mkSt l 0).2.1)) 26)]) (cb (e 16) [] [(1, Own.box 1 (fun zt => SV.renm (rn [(0, 6)]) ((cmpG [SV.own 0]) zt)) 24), (3, Own.box 1 (cmpG [SV.v (Value.slice none 0 0)]) 24), (4, Own.box 2 (cmpG [iv (0), iv (0)]) 26), (6, ownOf ndCell 8 default ((mkSt l 0).1) 61), (7, Own.box 2 (hdCell ((mkSt l 0).2.1)) 26)]))⟩ _
     simp only [h0, h1, h2, h3, h4, h5, h6, h7, h8, h9, h10, h11, h12, h13, h14, h15, h16]
     show Weak _ ⟨[(41, SV.bp 1 0), (42, SV.own 6), (43, SV.bp 7 0), (44, iv ((mkSt l 0).2.1.pl)), (45, SV.bp 1 0), (46, SV.own 6), (47, SV.bp 7 0), (48, iv ((mkSt l 0).2.1.pl)), (49, elB [iv (h.pl), iv (h.use)] 0), (50, iv (h.pl)), (51, bv (cl)), (52, SV.oe 6 8 (Int.toNat ((mkSt l 0).2.1.pl)) 0), (53, SV.oe 6 8 (Int.toNat ((mkSt l 0).2.1.pl)) 6), (54, SV.oe 6 8 (Int.toNat ((mkSt l 0).2.1.pl)) 0), (55, SV.oe 6 8 (Int.toNat ((mkSt l 0).2.1.pl)) 7), (2, bv (cl)), (3, SV.bp 1 0), (4, elB [iv (h.pl), iv (h.use)] 0), (6, SV.bp 3 0), (7, SV.bp 4 0), (11, SV.bp 7 0)], [(1, Own.box 1 (fun zt => SV.renm (rn [(0, 6)]) ((cmpG [SV.own 0]) zt)) 24), (3, Own.box 1 (cmpG [SV.v (Value.slice none 0 0)]) 24), (4, Own.box 2 (cmpG [iv (0), iv (0)]) 26), (6, ownOf ndCell 8 default ((((mkSt l 0).1).set (Int.toNat ((mkSt l 0).2.1.pl)) ({ (((mkSt l 0).1).getD (Int.toNat ((mkSt l 0).2.1.pl)) default) with host := h.pl })).set (Int.toNat ((mkSt l 0).2.1.pl)) ({ ((((mkSt l 0).1).set (Int.toNat ((mkSt l 0).2.1.pl)) ({ (((mkSt l 0).1).getD (Int.toNat ((mkSt l 0).2.1.pl)) default) with host := h.pl })).getD (Int.toNat ((mkSt l 0).2.1.pl)) default) with closed := cl })) 61), (7, Own.box 2 (hdCell ((mkSt l 0).2.1)) 26)]⟩ _
     refine We ?_ ?_
     ·exact ⟨V rfl, V rfl, V rfl, V rfl, V rfl, V rfl, V rfl, V rfl, V rfl, V rfl, V rfl, V rfl, V rfl, V rfl, V rfl, V rfl, V rfl, V rfl, V rfl, V rfl, V rfl, Z⟩
     ·exact ⟨⟨_, rfl, ⟨rfl, rfl, (An rfl)⟩⟩, ⟨_, rfl, ⟨rfl, rfl, (An rfl)⟩⟩, ⟨_, rfl, ⟨rfl, rfl, (An rfl)⟩⟩, ⟨_, rfl, rfl⟩, ⟨_, rfl, ⟨rfl, rfl, (An rfl)⟩⟩, Z⟩
    refine Sq <| c_rd (fun e => ⟨[(56, cj (e 0) (SV.agg 1 (fun zi => (fun zt => SV.renm (rn [(0, 6)]) ((cmpG [SV.own 0]) zt)) (0 + zi)))), (57, cj (e 1) (SV.agg 2 (fun zi => (hdCell ((mkSt l 0).2.1)) (0 + zi)))), (8, cj (e 4) (iv (0))), (3, SV.bp 1 0), (6, SV.bp 3 0), (7, SV.bp 4 0), (11, SV.bp 7 0)], (cb (e 2) (cb (e 3) [(1, Own.box 1 (fun zt => SV.renm (rn [(0, 6)]) ((cmpG [SV.own 0]) zt)) 24), (3, Own.box 1 (fun zi => (fun zt => SV.renm (rn [(0, 6)]) ((cmpG [SV.own 0]) zt)) (0 + zi)) 24), (4, Own.box 2 (fun zi => (hdCell ((mkSt l 0).2.1)) (0 + zi)) 26), (6, ownOf ndCell 8 default ((((mkSt l 0).1).set (Int.toNat ((mkSt l 0).2.1.pl)) ({ (((mkSt l 0).1).getD (Int.toNat ((mkSt l 0).2.1.pl)) default) with host := h.pl })).set (Int.toNat ((mkSt l 0).2.1.pl)) ({ ((((mkSt l 0).1).set (Int.toNat ((mkSt l 0).2.1.pl)) ({ (((mkSt l 0).1).getD (Int.toNat ((mkSt l 0).2.1.pl)) default) with host := h.pl })).getD (Int.toNat ((mkSt l 0).2.1.pl)) default) with closed := cl })) 61), (7, Own.box 2 (hdCell ((mkSt l 0).2.1)) 26)] [(1, Own.box 1 (fun zt => SV.renm (rn [(0, 6)]) ((cmpG [SV.own 0]) zt)) 24), (3, Own.box 1 (fun zi => (fun zt => SV.renm (rn [(0, 6)]) ((cmpG [SV.own 0]) zt)) (0 + zi)) 24), (4, Own.box 2 (cmpG [iv (0), iv (0)]) 26), (6, ownOf ndCell 8 default ((((mkSt l 0).1).set (Int.toNat ((mkSt l 0).2.1.pl)) ({ (((mkSt l 0).1).getD (Int.toNat ((mkSt l 0).2.1.pl)) default) with host := h.pl })).set (Int.toNat ((mkSt l 0).2.1.pl)) ({ ((((mkSt l 0).1).set (Int.toNat ((mkSt l 0).2.1.pl)) ({ (((mkSt l 0).1).getD (Int.toNat ((mkSt l 0).2.1.pl)) default) with host := h.pl })).getD (Int.toNat ((mkSt l 0).2.1.pl)) default) with closed := cl })) 61), (7, Own.box 2 (hdCell ((mkSt l 0).2.1)) 26)]) (cb (e 3) [] [(1, Own.box 1 (fun zt => SV.renm (rn [(0, 6)]) ((cmpG [SV.own 0]) zt)) 24), (3, Own.box 1 (cmpG [SV.v (Value.slice none 0 0)]) 24), (4, Own.box 2 (cmpG [iv (0), iv (0)]) 26), (6, ownOf ndCell 8 default ((((mkSt l 0).1).set (Int.toNat ((mkSt l 0).2.1.pl)) ({ (((mkSt l 0).1).getD (Int.toNat ((mkSt l 0).2.1.pl)) default) with host := h.pl })).set (Int.toNat ((mkSt l 0).2.1.pl)) ({ ((((mkSt l 0).1).set (Int.toNat ((mkSt l 0).2.1.pl)) ({ (((mkSt l 0).1).getD (Int.toNat ((mkSt l 0).2.1.pl)) default) with host := h.pl })).getD (Int.toNat ((mkSt l 0).2.1.pl)) default) with closed := cl })) 61), (7, Own.box 2 (hdCell ((mkSt l 0).2.1)) 26)]))⟩) ⟨[(56, SV.agg 1 (fun zi => (fun zt => SV.renm (rn [(0, 6)]) ((cmpG [SV.own 0]) zt)) (0 + zi))), (57, SV.agg 2 (fun zi => (hdCell ((mkSt l 0).2.1)) (0 + zi))), (8, iv (0)), (3, SV.bp 1 0), (6, SV.bp 3 0), (7, SV.bp 4 0), (11, SV.bp 7 0)], [(1, Own.box 1 (fun zt => SV.renm (rn [(0, 6)]) ((cmpG [SV.own 0]) zt)) 24), (3, Own.box 1 (fun zi => (fun zt => SV.renm (rn [(0, 6)]) ((cmpG [SV.own 0]) zt)) (0 + zi)) 24), (4, Own.box 2 (fun zi => (hdCell ((mkSt l 0).2.1)) (0 + zi)) 26), (6, ownOf ndCell 8 default ((((mkSt l 0).1).set (Int.toNat ((mkSt l 0).2.1.pl)) ({ (((mkSt l 0).1).getD (Int.toNat ((mkSt l 0).2.1.pl)) default) with host := h.pl })).set (Int.toNat ((mkSt l 0).2.1.pl)) ({ ((((mkSt l 0).1).set (Int.toNat ((mkSt l 0).2.1.pl)) ({ (((mkSt l 0).1).getD (Int.toNat ((mkSt l 0).2.1.pl)) default) with host := h.pl })).getD (Int.toNat ((mkSt l 0).2.1.pl)) default) with closed := cl })) 61), (7, Own.box 2 (hdCell ((mkSt l 0).2.1)) 26)]⟩ (by kernel_rfl) (by kernel_rfl) ?_ ⟨?_, ?_, ?_, ?_, ?_, Z⟩ ?_ ?_
    ·show Weak _ _ ⟨[(56, SV.junk), (57, SV.junk), (8, SV.junk), (3, SV.bp 1 0), (6, SV.bp 3 0), (7, SV.bp 4 0), (11, SV.bp 7 0)], [(1, Own.box 1 (fun zt => SV.renm (rn [(0, 6)]) ((cmpG [SV.own 0]) zt)) 24), (3, Own.box 1 (cmpG [SV.v (Value.slice none 0 0)]) 24), (4, Own.box 2 (cmpG [iv (0), iv (0)]) 26), (6, ownOf ndCell 8 default ((((mkSt l 0).1).set (Int.toNat ((mkSt l 0).2.1.pl)) ({ (((mkSt l 0).1).getD (Int.toNat ((mkSt l 0).2.1.pl)) default) with host := h.pl })).set (Int.toNat ((mkSt l 0).2.1.pl)) ({ ((((mkSt l 0).1).set (Int.toNat ((mkSt l 0).2.1.pl)) ({ (((mkSt l 0).1).getD (Int.toNat ((mkSt l 0).2.1.pl)) default) with host := h.pl })).getD (Int.toNat ((mkSt l 0).2.1.pl)) default) with closed := cl })) 61), (7, Own.box 2 (hdCell ((mkSt l 0).2.1)) 26)]⟩
     refine We ?_ ?_
     ·exact ⟨Vj, Vj, Vj, V rfl, V rfl, V rfl, V rfl, Z⟩
     ·exact ⟨⟨_, rfl, ⟨rfl, rfl, (An rfl)⟩⟩, ⟨_, rfl, ⟨rfl, rfl, (An rfl)⟩⟩, ⟨_, rfl, ⟨rfl, rfl, (An rfl)⟩⟩, ⟨_, rfl, rfl⟩, ⟨_, rfl, ⟨rfl, rfl, (An rfl)⟩⟩, Z⟩
    ·intro e hdn he hdp
     obtain ⟨h2, h3, -⟩ := dns1 hdn he [2, 3] (by kernel_rfl)
     simp only [setE, he, h2, h3, cj_t, cj_f, cjn_t, cjn_f, cb_t, cb_f]
     refine U (LBA (V rfl) rfl Ga24 Sz24 (by decide)) <| Nt <| We ?_ ?_
     ·exact (Vs rfl)
     ·exact ⟨⟨_, rfl, ⟨rfl, rfl, (An rfl)⟩⟩, ⟨_, rfl, ⟨rfl, rfl, (An rfl)⟩⟩, ⟨_, rfl, ⟨rfl, rfl, (An rfl)⟩⟩, ⟨_, rfl, rfl⟩, ⟨_, rfl, ⟨rfl, rfl, (An rfl)⟩⟩, Z⟩
    ·intro e hdn he hdp
     obtain ⟨h3, -⟩ := dns1 hdn he [3] (by kernel_rfl)
     cases hu2 : e 2
     ·simp only [setE, he, h3, hu2, cj_t, cj_f, cjn_t, cjn_f, cb_t, cb_f]
      refine U (LBA (V rfl) rfl Ga26 Sz26 (by decide)) <| Nt <| We ?_ ?_
      ·exact (Vs rfl)
      ·exact ⟨⟨_, rfl, ⟨rfl, rfl, (An rfl)⟩⟩, ⟨_, rfl, ⟨rfl, rfl, (An rfl)⟩⟩, ⟨_, rfl, ⟨rfl, rfl, (An rfl)⟩⟩, ⟨_, rfl, rfl⟩, ⟨_, rfl, ⟨rfl, rfl, (An rfl)⟩⟩, Z⟩
     ·simp only [setE, he, h3, hu2, cj_t, cj_f, cjn_t, cjn_f, cb_t, cb_f]
      refine U (LBA (V rfl) rfl Ga26 Sz26 (by decide)) <| Nt <| We ?_ ?_
      ·exact (Vs rfl)
      ·exact ⟨⟨_, rfl, ⟨rfl, rfl, (An rfl)⟩⟩, ⟨_, rfl, ⟨rfl, rfl, (An rfl)⟩⟩, ⟨_, rfl, ⟨rfl, rfl, (An rfl)⟩⟩, ⟨_, rfl, rfl⟩, ⟨_, rfl, ⟨rfl, rfl, (An rfl)⟩⟩, Z⟩
    ·intro e hdn he hdp
     obtain ⟨h0, -⟩ := ups hdn [0] hdp (by kernel_rfl)
     obtain ⟨h3, -⟩ := dns1 hdn he [3] (by kernel_rfl)
     simp only [setE, h0, he, h3, cj_t, cj_f, cjn_t, cjn_f, cb_t, cb_f]
     refine StA (V rfl) rfl (V rfl) Sz24 <| Nt <| We ?_ ?_
     ·exact (Vs rfl)
     ·exact ⟨⟨_, rfl, ⟨rfl, rfl, (An rfl)⟩⟩, ⟨_, rfl, ⟨rfl, rfl, (An rfl)⟩⟩, ⟨_, rfl, ⟨rfl, rfl, (An rfl)⟩⟩, ⟨_, rfl, rfl⟩, ⟨_, rfl, ⟨rfl, rfl, (An rfl)⟩⟩, Z⟩
    ·intro e hdn he hdp
     obtain ⟨h2, h1, h0, -⟩ := ups hdn [2, 1, 0] hdp (by kernel_rfl)
     simp only [setE, h0, h1, h2, he, cj_t, cj_f, cjn_t, cjn_f, cb_t, cb_f]
     refine StA (V rfl) rfl (V rfl) Sz26 <| Nt <| We ?_ ?_
     ·exact (Vs rfl)
     ·exact ⟨⟨_, rfl, ⟨rfl, rfl, (An rfl)⟩⟩, ⟨_, rfl, ⟨rfl, rfl, (An rfl)⟩⟩, ⟨_, rfl, ⟨rfl, rfl, (An rfl)⟩⟩, ⟨_, rfl, rfl⟩, ⟨_, rfl, ⟨rfl, rfl, (An rfl)⟩⟩, Z⟩
    ·intro e hdn he hdp
     obtain ⟨h3, h2, h1, h0, -⟩ := ups hdn [3, 2, 1, 0] hdp (by kernel_rfl)
     simp only [setE, h0, h1, h2, h3, he, cj_t, cj_f, cjn_t, cjn_f, cb_t, cb_f]
     refine U (As K) <| Nt <| We ?_ ?_
     ·exact (Vs rfl)
     ·exact ⟨⟨_, rfl, ⟨rfl, rfl, (An rfl)⟩⟩, ⟨_, rfl, ⟨rfl, rfl, (An rfl)⟩⟩, ⟨_, rfl, ⟨rfl, rfl, (An rfl)⟩⟩, ⟨_, rfl, rfl⟩, ⟨_, rfl, ⟨rfl, rfl, (An rfl)⟩⟩, Z⟩
    ·intro e he
     have h0 := he 0 (by decide)
     have h1 := he 1 (by decide)
     have h2 := he 2 (by decide)
     have h3 := he 3 (by decide)
     have h4 := he 4 (by decide)
     show Weak _ ⟨[(56, cj (e 0) (SV.agg 1 (fun zi => (fun zt => SV.renm (rn [(0, 6)]) ((cmpG [SV.own 0]) zt)) (0 + zi)))), (57, cj (e 1) (SV.agg 2 (fun zi => (hdCell ((mkSt l 0).2.1)) (0 + zi)))), (8, cj (e 4) (iv (0))), (3, SV.bp 1 0), (6, SV.bp 3 0), (7, SV.bp 4 0), (11, SV.bp 7 0)], (cb (e 2) (cb (e 3) [(1, Own.box 1 (fun zt => SV.renm (rn [(0, 6)]) ((cmpG [SV.own 0]) zt)) 24), (3, Own.box 1 (fun zi => (fun zt => SV.renm (rn [(0, 6)]) ((cmpG [SV.own 0]) zt)) (0 + zi)) 24), (4, Own.box 2 (fun zi => (hdCell ((mkSt l 0).2.1)) (0 + zi)) 26), (6, ownOf ndCell 8 default ((((mkSt l 0).1).set (Int.toNat ((mkSt l 0).2.1.pl)) ({ (((mkSt l 0).1).getD (Int.toNat ((mkSt l 0).2.1.pl)) default) with host := h.pl })).set (Int.toNat ((mkSt l 0).2.1.pl)) ({ ((((mkSt l 0).1).set (Int.toNat ((mkSt l 0).2.1.pl)) ({ (((mkSt l 0).1).getD (Int.toNat ((mkSt l 0).2.1.pl)) default) with host := h.pl })).getD (Int.toNat ((mkSt l 0).2.1.pl)) default) with closed := cl })) 61), (7, Own.box 2 (hdCell ((mkSt l 0).2.1)) 26)] [(1, Own.box 1 (fun zt => SV.renm (rn [(0, 6)]) ((cmpG [SV.own 0]) zt)) 24), (3, Own.box 1 (fun zi => (fun zt => SV.renm (rn [(0, 6)]) ((cmpG [SV.own 0]) zt)) (0 + zi)) 24), (4, Own.box 2 (cmpG [iv (0), iv (0)]) 26), (6, ownOf ndCell 8 default ((((mkSt l 0).1).set (Int.toNat ((mkSt l 0).2.1.pl)) ({ (((mkSt l 0).1).getD (Int.toNat ((mkSt l 0).2.1.pl)) default) with host := h.pl })).set (Int.toNat ((mkSt l 0).2.1.pl)) ({ ((((mkSt l 0).1).set (Int.toNat ((mkSt l 0).2.1.pl)) ({ (((mkSt l 0).1).getD (Int.toNat ((mkSt l 0).2.1.pl)) default) with host := h.pl })).getD (Int.toNat ((mkSt l 0).2.1.pl)) default) with closed := cl })) 61), (7, Own.box 2 (hdCell ((mkSt l 0).2.1)) 26)]) (cb (e 3) [] [(1, Own.box 1 (fun zt => SV.renm (rn [(0, 6)]) ((cmpG [SV.own 0]) zt)) 24), (3, Own.box 1 (cmpG [SV.v (Value.slice none 0 0)]) 24), (4, Own.box 2 (cmpG [iv (0), iv (0)]) 26), (6, ownOf ndCell 8 default ((((mkSt l 0).1).set (Int.toNat ((mkSt l 0).2.1.pl)) ({ (((mkSt l 0).1).getD (Int.toNat ((mkSt l 0).2.1.pl)) default) with host := h.pl })).set (Int.toNat ((mkSt l 0).2.1.pl)) ({ ((((mkSt l 0).1).set (Int.toNat ((mkSt l 0).2.1.pl)) ({ (((mkSt l 0).1).getD (Int.toNat ((mkSt l 0).2.1.pl)) default) with host := h.pl })).getD (Int.toNat ((mkSt l 0).2.1.pl)) default) with closed := cl })) 61), (7, Own.box 2 (hdCell ((mkSt l 0).2.1)) 26)]))⟩ _
     simp only [h0, h1, h2, h3, h4]
     show Weak _ ⟨[(56, SV.agg 1 (fun zi => (fun zt => SV.renm (rn [(0, 6)]) ((cmpG [SV.own 0]) zt)) (0 + zi))), (57, SV.agg 2 (fun zi => (hdCell ((mkSt l 0).2.1)) (0 + zi))), (8, iv (0)), (3, SV.bp 1 0), (6, SV.bp 3 0), (7, SV.bp 4 0), (11, SV.bp 7 0)], [(1, Own.box 1 (fun zt => SV.renm (rn [(0, 6)]) ((cmpG [SV.own 0]) zt)) 24), (3, Own.box 1 (fun zi => (fun zt => SV.renm (rn [(0, 6)]) ((cmpG [SV.own 0]) zt)) (0 + zi)) 24), (4, Own.box 2 (fun zi => (hdCell ((mkSt l 0).2.1)) (0 + zi)) 26), (6, ownOf ndCell 8 default ((((mkSt l 0).1).set (Int.toNat ((mkSt l 0).2.1.pl)) ({ (((mkSt l 0).1).getD (Int.toNat ((mkSt l 0).2.1.pl)) default) with host := h.pl })).set (Int.toNat ((mkSt l 0).2.1.pl)) ({ ((((mkSt l 0).1).set (Int.toNat ((mkSt l 0).2.1.pl)) ({ (((mkSt l 0).1).getD (Int.toNat ((mkSt l 0).2.1.pl)) default) with host := h.pl })).getD (Int.toNat ((mkSt l 0).2.1.pl)) default) with closed := cl })) 61), (7, Own.box 2 (hdCell ((mkSt l 0).2.1)) 26)]⟩ _
     refine We ?_ ?_
     ·exact ⟨Va (V rfl) (An rfl), Va (V rfl) (An rfl), V rfl, V rfl, V rfl, V rfl, V rfl, Z⟩
     ·exact ⟨⟨_, rfl, ⟨rfl, rfl, (An rfl)⟩⟩, ⟨_, rfl, ⟨rfl, rfl, (An rfl)⟩⟩, ⟨_, rfl, ⟨rfl, rfl, (An rfl)⟩⟩, ⟨_, rfl, rfl⟩, ⟨_, rfl, ⟨rfl, rfl, (An rfl)⟩⟩, Z⟩
    exact FzC 6 rfl <| Rx <| RR3 rfl (rv_aggI (g' := stG ((((mkSt l 0).1).set (Int.toNat ((mkSt l 0).2.1.pl)) ({ (((mkSt l 0).1).getD (Int.toNat ((mkSt l 0).2.1.pl)) default) with host := h.pl })).set (Int.toNat ((mkSt l 0).2.1.pl)) ({ ((((mkSt l 0).1).set (Int.toNat ((mkSt l 0).2.1.pl)) ({ (((mkSt l 0).1).getD (Int.toNat ((mkSt l 0).2.1.pl)) default) with host := h.pl })).getD (Int.toNat ((mkSt l 0).2.1.pl)) default) with closed := cl }))) (rv_cell (V rfl) rfl Ga24 Sz24) ⟨Z, Ir⟩) (rv_aggI (g' := hdCell ⟨(mkSt l 0).2.1.pl, (mkSt l 0).2.1.use⟩) (rv_cell (V rfl) rfl Ga26 Sz26) ⟨⟨Z, Ir⟩, Ir⟩) (rv_tmp (V rfl)) rfl rfl rfl (by show sv3 (SV.agg 1 (stG ((((mkSt l 0).1).set (Int.toNat ((mkSt l 0).2.1.pl)) ({ (((mkSt l 0).1).getD (Int.toNat ((mkSt l 0).2.1.pl)) default) with host := h.pl })).set (Int.toNat ((mkSt l 0).2.1.pl)) ({ ((((mkSt l 0).1).set (Int.toNat ((mkSt l 0).2.1.pl)) ({ (((mkSt l 0).1).getD (Int.toNat ((mkSt l 0).2.1.pl)) default) with host := h.pl })).getD (Int.toNat ((mkSt l 0).2.1.pl)) default) with closed := cl })))) (SV.agg 2 (hdCell ⟨(mkSt l 0).2.1.pl, (mkSt l 0).2.1.use⟩)) (iv (0)) = sv3 (SV.agg 1 (stG (attSt l h cl).1)) (SV.agg 2 (hdCell (attSt l h cl).2.1)) (iv (attSt l h cl).2.2); rw [att_4 hf0 hc2 hc3s]; rfl)
theorem inside_ct (l : List Nd) (k top : Int) (hc : checkSt l = 0) (hk : -1 ≤ k ∧ k < (l.length : Int)) : Ct Try.prog 146 [SV.agg 1 (stG l), iv (k), iv (top)] (bv (underB l k top)) := by
 have h24 := checkSt_len hc
 refine CtO 18 Try.func146 rfl rfl rfl fun E => row_lenA 0 (V (s := 0) rfl) rfl rfl fun hl0_0 => Sq <| Rt <| BxA 1 (V rfl) rfl rfl <| U (As K) <| Nt <| Sq <| Bo <| Lo (fun (m : Nat) => ⟨[(1, iv (upN l m k)), (2, iv (top)), (3, SV.bp 1 0)], [(1, Own.box 1 (stG l) 24)]⟩) (fun (m : Nat) => m ≤ l.length ∧ ∀ q, q < m → ¬ upN l q k = top) (fun (m : Nat) => l.length - m) 0 (by show 0 ≤ l.length ∧ ∀ q, q < 0 → ¬ upN l q k = top; exact ⟨Nat.zero_le _, fun q hq => absurd hq (Nat.not_lt_zero q)⟩) (We (ow := [(1, Own.box 1 (stG l) 24)]) (Vs rfl) (by exact ⟨⟨_, rfl, rfl, rfl, (An rfl)⟩, Z⟩)) <| ?_
 ·rintro m hI1
  have hJ1 : m ≤ l.length ∧ ∀ q, q < m → ¬ upN l q k = top := hI1
  have hui := upN_in (checkSt_nodes hc) hk m
  refine Sq <| Sq <| Rq <| O (Mv (V rfl)) <| O (Ge (V rfl) K) <| Nq <| Cd (V rfl) (fun hc1 => ?_) (fun hc1 => ?_)
  ·have hc1s := hc1; try simp only [BL] at hc1s
   have hml := up_lt hc hk (m := m) (by omega)
   refine Sk <| Sq <| Bo <| Sq <| Rq <| O (Mv (V rfl)) <| O (Mv (V rfl)) <| O (Ql (V rfl) (V rfl)) <| Nq <| Cd (V rfl) (fun hc2 => ?_) (fun hc2 => ?_)
   ·have hc2s := hc2; try simp only [BL] at hc2s
    exact Sq <| Rq <| O (As K) <| Nq <| Rx <| R1 rfl (V rfl) rfl (by show bv (true) = bv (underB l k top); rw [under_yes hJ1.1 (by omega) hc2s])
   ·have hc2s := hc2; try simp only [BL] at hc2s
    exact Sk <| Rq <| O (FlB _ _ (V rfl) Un24 rfl 0 Sz22) <| O (LdB (V rfl) rfl Ga22 (by decide)) <| O (Mv (V rfl)) <| O (Ix (V rfl) (V rfl) ts22 te22 (by omega) (by omega)) <| O (LdA (V rfl) Ga61 Sz61 (by decide)) <| CQ en110 (by exact ⟨⟨(Vi (g' := ndCell ⟨(l.getD (Int.toNat (upN l m k)) default).used, (l.getD (Int.toNat (upN l m k)) default).uses, (l.getD (Int.toNat (upN l m k)) default).tag, (l.getD (Int.toNat (upN l m k)) default).mark, (l.getD (Int.toNat (upN l m k)) default).par, (l.getD (Int.toNat (upN l m k)) default).kids, (l.getD (Int.toNat (upN l m k)) default).host, (l.getD (Int.toNat (upN l m k)) default).closed⟩) (V rfl) ⟨⟨⟨⟨⟨⟨⟨⟨Z, Ir⟩, Ir⟩, Ir⟩, Ir⟩, Ir⟩, Ir⟩, Ir⟩, Ir⟩), rfl⟩, Z⟩) (above_ct (l.getD (Int.toNat (upN l m k)) default)) <| O (As (V rfl)) <| Nq <| Nx (m + 1) (by show (m + 1) ≤ l.length ∧ ∀ q, q < (m + 1) → ¬ upN l q k = top; exact ⟨by omega, all_s (p := fun q => ¬ upN l q k = top) hJ1.2 hc2s⟩) (by show l.length - (m + 1) < l.length - m; omega) (We (sl := [(1, iv (upN l ((m + 1)) k)), (2, iv (top)), (3, SV.bp 1 0)]) (ow := [(1, Own.box 1 (stG l) 24)]) (by exact ⟨val_eq (V rfl) (congrArg iv (by show above _ = up1 l (upN l m k); rw [up1, if_neg (by omega)])), V rfl, V rfl, Z⟩) (by exact ⟨⟨_, rfl, rfl, rfl, (An rfl)⟩, Z⟩))
  ·have hc1s := hc1; try simp only [BL] at hc1s
   exact Ex <| Sq <| Rq <| O (As K) <| Nq <| Rx <| R1 rfl (V rfl) rfl (by show bv (false) = bv (underB l k top); rw [under_no (m := m) (by omega) hJ1.2])
theorem hidden_ct (l : List Nd) (f k0 : Int) (all : Bool) (hc : checkSt l = 0) (hf : 0 ≤ f ∧ f < (l.length : Int)) (hk0 : 0 ≤ k0 ∧ k0 < (l.length : Int)) : Ct Try.prog 111 [SV.agg 1 (stG l), iv (f), iv (k0), bv (all)] (bv (hiddenSt l f k0 all)) := by
 refine CtO 39 Try.func111 rfl rfl rfl fun E => row_lenA 0 (V (s := 0) rfl) rfl rfl fun hl0_0 => Sq <| Rt <| BxA 1 (V rfl) rfl rfl <| U (As K) <| Nt <| Bo <| Lo (fun (k : Int) => ⟨[(1, iv (f)), (2, iv (k)), (3, bv (all)), (4, SV.bp 1 0)], [(1, Own.box 1 (stG l) 24)]⟩) (fun (k : Int) => (0 ≤ k ∧ k < (l.length : Int)) ∧ hiddenSt l f k0 all = hiddenSt l f k all) (fun (k : Int) => (rootsL l k).length) k0 (by show (0 ≤ k0 ∧ k0 < (l.length : Int)) ∧ hiddenSt l f k0 all = hiddenSt l f k0 all; exact ⟨hk0, rfl⟩) (We (ow := [(1, Own.box 1 (stG l) 24)]) (Vs rfl) (by exact ⟨⟨_, rfl, rfl, rfl, (An rfl)⟩, Z⟩)) <| ?_
 ·rintro k hI1
  have hJ1 : (0 ≤ k ∧ k < (l.length : Int)) ∧ hiddenSt l f k0 all = hiddenSt l f k all := hI1
  have hkr := hJ1.1
  have hke := hJ1.2
  have htr := (roots_t hc hkr).1
  refine Bo <| Sq <| Rq <| O (LBA (V rfl) rfl Ga24 Sz24 (by decide)) <| O (Mv (V rfl)) <| CQ en137 (by exact ⟨⟨(Vi (g' := stG l) (V rfl) ⟨Z, Ir⟩), rfl⟩, ⟨(V rfl), rfl⟩, Z⟩) (top_ct l k (by assumption) (by first | assumption | omega)) <| O (As (V rfl)) <| Nq <| Sq <| Rq <| O (FlB _ _ (V rfl) Un24 rfl 0 Sz22) <| O (LdB (V rfl) rfl Ga22 (by decide)) <| O (Mv (V rfl)) <| O (Ix (V rfl) (V rfl) ts22 te22 (by omega) (by omega)) <| O (Fl _ _ (V rfl) Un61 rfl 0 Sz3) <| O (Ld (V rfl) Ga3 (by decide)) <| O (As (V rfl)) <| Nq <| Sq <| Sq <| Rq <| O (Mv (V rfl)) <| O (Lt (V rfl) K) <| Nq <| Cd (V rfl) (fun hc1 => ?_) (fun hc1 => ?_)
  ·have hc1s := hc1; try simp only [BL] at hc1s
   exact Sq <| Rq <| O (As K) <| Nq <| Rx <| R1 rfl (V rfl) rfl (by show bv (false) = bv (hiddenSt l f k0 all); rw [hke, hidden_0 hc hkr hc1s])
  ·have hc1s := hc1; try simp only [BL] at hc1s
   refine Sk <| Sq <| Sq <| Rq <| O (LBA (V rfl) rfl Ga24 Sz24 (by decide)) <| O (Mv (V rfl)) <| O (Mv (V rfl)) <| CQ en146 (by exact ⟨⟨(Vi (g' := stG l) (V rfl) ⟨Z, Ir⟩), rfl⟩, ⟨(V rfl), rfl⟩, ⟨(V rfl), rfl⟩, Z⟩) (inside_ct l f (topSt l k) (by assumption) (by first | assumption | omega)) <| O (Qo (V rfl)) <| O (Mv (V rfl)) <| Og (Gy rfl rfl) (fun hg => Mv (V rfl)) <| Og (Gy rfl rfl) (fun hg => Mv (Vg (V rfl) hg)) <| Og (Gyn rfl rfl) (fun hg => FlB _ _ (V rfl) Un24 rfl 0 Sz22) <| Og (Gyn rfl rfl) (fun hg => LdB (Vg (V rfl) hg) rfl Ga22 (by decide)) <| Og (Gyn rfl rfl) (fun hg => Mv (V rfl)) <| Og (Gyn rfl rfl) (fun hg => Ix (Vg (V rfl) hg) (Vg (V rfl) hg) ts22 te22 (by omega) (by omega)) <| Og (Gyn rfl rfl) (fun hg => Fl _ _ (Vg (V rfl) hg) Un61 rfl 0 Sz4) <| Og (Gyn rfl rfl) (fun hg => Ld (Vg (V rfl) hg) Ga4 (by decide)) <| Og (Gy rfl rfl) (fun hg => Qr (Vg (V rfl) hg) (fun h => Vg (V rfl) (andI hg (notT h)))) <| O (Qa (V rfl) (fun h => Vg (V rfl) h)) <| Nq <| Cd (V rfl) (fun hc2 => ?_) (fun hc2 => ?_)
   ·have hc2s := hc2; try simp only [BL] at hc2s
    exact Sq <| Rq <| O (As K) <| Nq <| Rx <| R1 rfl (V rfl) rfl (by show bv (true) = bv (hiddenSt l f k0 all); rw [hke, hidden_1 hc hkr hc1s hc2])
   ·have hc2s := hc2; try simp only [BL] at hc2s
    have h2 := hidden_2 hc (f := f) (all := all) hkr hc1s hc2
    exact Sk <| Rq <| O (Mv (V rfl)) <| O (As (V rfl)) <| Nq <| NxH ((l.getD (Int.toNat (topSt l k)) default).host) (fun _ _ h => h) (by show (0 ≤ ((l.getD (Int.toNat (topSt l k)) default).host) ∧ ((l.getD (Int.toNat (topSt l k)) default).host) < (l.length : Int)) ∧ hiddenSt l f k0 all = hiddenSt l f ((l.getD (Int.toNat (topSt l k)) default).host) all; exact ⟨h2.2.2, hke.trans h2.1⟩) (by show (rootsL l ((l.getD (Int.toNat (topSt l k)) default).host)).length < (rootsL l k).length; have := h2.2.1; omega) (We (ow := [(1, Own.box 1 (stG l) 24)]) (Vs rfl) (by exact ⟨⟨_, rfl, rfl, rfl, (An rfl)⟩, Z⟩))
end Go.Proofs.Ytmcdamcedemdiaa
namespace Go.Proofs.Ytmcdamcedemdiaa
open Go.RowKit Go.Eng
def arr22 (a b : Nat → SV) : Nat → SV
  | 0 => a 0
  | 1 => a 1
  | 2 => b 0
  | _ => b 1
theorem zero123v : ∀ w, (zeroValue 123).run Try.prog w = .ok (.agg #[.int .i64 0, .int .i64 0, .int .i64 0, .int .i64 0]) w := fun w => by kernel_rfl
theorem path_s {l : List Nd} (h : checkSt l = 0) {k k0 : Int} {acc : List Int} (hk : 0 ≤ k ∧ k < (l.length : Int)) (e : line l k0 = acc ++ line l k) :
    line l k0 = (acc ++ [k]) ++ line l (above (l.getD k.toNat default)) := by rw [e, line_eq h hk, List.append_assoc]; rfl
theorem path_n {l : List Nd} (h : checkSt l = 0) {k k0 : Int} {acc : List Int} (e : line l k0 = acc ++ line l k) : acc.length ≤ l.length + 1 := by
  have := line_len25 h k0; rw [e, List.length_append] at this; omega
theorem path_m {l : List Nd} (h : checkSt l = 0) {k : Int} (hk : 0 ≤ k ∧ k < (l.length : Int)) : (line l (above (l.getD k.toNat default))).length < (line l k).length := by
  rw [line_eq h hk, List.length_cons]; omega
theorem tgt_0 {l : List Nd} {k told : Int} (h : checkSt l ≠ 0 ∨ k < 0 ∨ (l.length : Int) ≤ k ∨ told < 0 ∨ (l.length : Int) ≤ told) : tgtSt l k told = k := if_pos h
theorem tgt_1 {l : List Nd} {k told : Int} (h : checkSt l = 0) (hk : 0 ≤ k ∧ k < (l.length : Int)) (ht : 0 ≤ told ∧ told < (l.length : Int)) : tgtSt l k told = tgtL l told k (rootsL l k) := if_neg (by omega)
theorem first2 {l : List Nd} {f t : Hd} (e : firstSt l [f, t] = 0) : checkSt l = 0 ∧ (0 ≤ f.pl ∧ f.pl < (l.length : Int)) ∧ (0 ≤ t.pl ∧ t.pl < (l.length : Int)) := by
  have h := first_ok e
  have h0 := h.2 0 (by show 0 < 2; omega)
  have h1 := h.2 1 (by show 1 < 2; omega)
  exact ⟨h.1, ⟨(holds_in h0).1, (holds_in h0).2.1⟩, ⟨(holds_in h1).1, (holds_in h1).2.1⟩⟩
end Go.Proofs.Ytmcdamcedemdiaa
namespace Go.Proofs.Ytmcdamcedemdiaa
open Go.RowKit Go.Eng
theorem path_ct (l : List Nd) (h : Hd) (hb : ∀ n ∈ l, n.kids.length ≤ 17592186043904) : Ct Try.prog 33 [SV.agg 1 (stG l), SV.agg 2 (hdCell h)] (sv2 (inRow (pathSt l h).1) (iv (pathSt l h).2)) := by
 refine CtO 34 Try.func33 rfl rfl rfl fun E => row_lenA 0 (V (s := 0) rfl) rfl rfl fun hl0_0 => Sq <| Rt <| BxA 1 (V rfl) rfl rfl <| BxA 2 (V rfl) rfl rfl <| t_nilO 3 1 (rowG inCell 0 []) 3 (.inl rfl) rfl <| U (As K) <| Nt <| Sq <| Sq <| Rt <| U (LBA (V rfl) rfl Ga24 Sz24 (by decide)) <| U (LBA (V rfl) rfl Ga26 Sz26 (by decide)) <| CT en46 (by exact ⟨⟨(Vi (g' := stG l) (V rfl) ⟨Z, Ir⟩), rfl⟩, ⟨(Vi (g' := hdCell ⟨h.pl, h.use⟩) (V rfl) ⟨⟨Z, Ir⟩, Ir⟩), rfl⟩, Z⟩) (find_ct l h (by first | assumption | exact kb_nil | exact kb_of (by assumption) | exact kb_of fam_c5)) <| U (Mv (V rfl)) <| U (Xt (V rfl) (by decide)) <| U (Xt (V rfl) (by decide)) <| Al 4 zero61 rfl rfl <| StA (V rfl) rfl (V rfl) Sz61 <| U (As (V rfl)) <| Nt <| Sq <| Rq <| O (Mv (V rfl)) <| O (Qn (V rfl) K) <| Nq <| Cd (V rfl) (fun hc1 => ?_) (fun hc1 => ?_)
 ·have hc1s := hc1; try simp only [BL] at hc1s
  exact Sq <| Rt <| U (Mv (V rfl)) <| t_nilO 5 1 (rowG inCell 0 []) 3 (.inl rfl) rfl <| U (As (V rfl)) <| Nt <| FzC 5 rfl <| Rx <| R2 rfl (V rfl) (V rfl) rfl rfl (by show sv2 (inRow ([])) (iv ((findSt l h).2)) = sv2 (inRow (pathSt l h).1) (iv (pathSt l h).2); rw [path_1 (h := h) (fun q => hc1s ((first_find l h).symm.trans q)), first_find])
 ·have hc1s := hc1; try simp only [BL] at hc1s
  have hf0 : firstSt l [h] = 0 := (first_find l h).trans hc1s
  have hc0 := (first1 hf0).1
  have hpl := (first1 hf0).2.2.1
  have h24 := checkSt_len hc0
  refine Sk <| Sq <| Rt <| t_nilO 6 1 (rowG inCell 0 []) 3 (.inl rfl) rfl <| Nt <| Sq <| Sq <| Rq <| O (FlB _ _ (V rfl) Un26 rfl 0 Sz3) <| O (LdB (V rfl) rfl Ga3 (by decide)) <| O (As (V rfl)) <| Nq <| Bo <| c_mv 6 60 rfl rfl <| c_ownE 60 (([])) rfl (by rfl) <| Lo (uc2 fun (acc : List Int) (k : Int) => ⟨[(2, SV.bp 1 0), (8, SV.own 60), (9, iv (k))], [(1, Own.box 1 (fun zt => SV.renm (mvN 6 60) ((stG l) zt)) 24), (60, ownOf inCell 1 0 acc 3)]⟩) (uc2 fun (acc : List Int) (k : Int) => (-1 ≤ k ∧ k < (l.length : Int)) ∧ line l h.pl = acc ++ line l k) (uc2 fun (acc : List Int) (k : Int) => (line l k).length) ([], h.pl) (by show (-1 ≤ (h.pl) ∧ (h.pl) < (l.length : Int)) ∧ line l h.pl = ([]) ++ line l (h.pl); exact ⟨by omega, rfl⟩) (We (ow := [(1, Own.box 1 (fun zt => SV.renm (mvN 6 60) ((stG l) zt)) 24), (60, ownOf inCell 1 0 (([])) 3)]) (Vs rfl) (by exact ⟨⟨_, rfl, rfl, rfl, (An rfl)⟩, ⟨_, rfl, rfl⟩, Z⟩)) <| ?_
  ·rintro ⟨acc, k⟩ hI1
   have hJ1 : (-1 ≤ k ∧ k < (l.length : Int)) ∧ line l h.pl = acc ++ line l k := hI1
   show C _ E _ ⟨[(2, SV.bp 1 0), (8, SV.own 60), (9, iv (k))], [(1, Own.box 1 (fun zt => SV.renm (mvN 6 60) ((stG l) zt)) 24), (60, ownOf inCell 1 0 acc 3)]⟩ _
   have hkr := hJ1.1
   have hln := hJ1.2
   have hal := path_n hc0 hln
   refine Sq <| Sq <| Rq <| O (Mv (V rfl)) <| O (Ge (V rfl) K) <| Nq <| Cd (V rfl) (fun hc2 => ?_) (fun hc2 => ?_)
   ·have hc2s := hc2; try simp only [BL] at hc2s
    exact Sk <| Sq <| Bo <| Rt <| U (Mv (V rfl)) <| U (Mv (V rfl)) <| Uw (w_bs (n := 1) (zget := fun _ => iv 0) [(fun _ => iv (k))] (rowG inCell 0 [k]) Un33 Sz3 zero3 (by decide) rfl (by decide) ⟨⟨rfl, .inr ⟨rfl, (V rfl), rfl⟩, rfl⟩, Z⟩ ⟨Z, ⟨Z, rfl⟩⟩) <| Ap 7 (rowG inCell 0 (acc ++ ([k]))) eo33 (V rfl) rfl (V rfl) rfl (len_app acc ([k])) (by first | (simp only [maxLen, List.length_append, List.length_set, List.length_nil, List.length_cons]; omega) | (simp only [maxLen]; omega)) (by first | (simp only [List.length_append, List.length_set, List.length_nil, List.length_cons]; omega) | (omega)) (app_typed (l := acc) (m := ([k]))) <| U (As (V rfl)) <| Nt <| Rq <| O (FlB _ _ (V rfl) Un24 rfl 0 Sz22) <| O (LdB (V rfl) rfl Ga22 (by decide)) <| O (Mv (V rfl)) <| O (Ix (V rfl) (V rfl) ts22 te22 (by omega) (by omega)) <| O (LdA (V rfl) Ga61 Sz61 (by decide)) <| CQ en110 (by exact ⟨⟨(Vi (g' := ndCell ⟨(l.getD (Int.toNat k) default).used, (l.getD (Int.toNat k) default).uses, (l.getD (Int.toNat k) default).tag, (l.getD (Int.toNat k) default).mark, (l.getD (Int.toNat k) default).par, (l.getD (Int.toNat k) default).kids, (l.getD (Int.toNat k) default).host, (l.getD (Int.toNat k) default).closed⟩) (V rfl) ⟨⟨⟨⟨⟨⟨⟨⟨Z, Ir⟩, Ir⟩, Ir⟩, Ir⟩, Ir⟩, Ir⟩, Ir⟩, Ir⟩), rfl⟩, Z⟩) (above_ct (l.getD (Int.toNat k) default)) <| O (As (V rfl)) <| Nq <| k_mv 7 60 rfl rfl <| Nx (acc ++ [k], above (l.getD (Int.toNat k) default)) (by show (-1 ≤ (above (l.getD (Int.toNat k) default)) ∧ (above (l.getD (Int.toNat k) default)) < (l.length : Int)) ∧ line l h.pl = (acc ++ [k]) ++ line l (above (l.getD (Int.toNat k) default)); exact ⟨above_in (checkSt_nodes hc0) (by omega), path_s hc0 (by omega) hln⟩) (by show (line l (above (l.getD (Int.toNat k) default))).length < (line l k).length; exact path_m hc0 (by omega)) (We (ow := [(1, Own.box 1 (fun zt => SV.renm (mvN 6 60) ((stG l) zt)) 24), (60, ownOf inCell 1 0 ((acc ++ [k])) 3)]) (Vs rfl) (by exact ⟨⟨_, rfl, rfl, rfl, (An rfl)⟩, ⟨_, rfl, rfl⟩, Z⟩))
   ·have hc2s := hc2; try simp only [BL] at hc2s
    exact Ex <| Sq <| Rq <| O (Mv (V rfl)) <| O (As (V rfl)) <| O (As K) <| Nq <| FzC 60 rfl <| Rx <| R2 rfl (V rfl) (V rfl) rfl rfl (by show sv2 (inRow acc) (iv (0)) = sv2 (inRow (pathSt l h).1) (iv (pathSt l h).2); rw [path_2 hf0, hln, line_neg (k := k) (by omega), List.append_nil])
theorem seen_ct (l : List Nd) (f t : Hd) (hb : ∀ n ∈ l, n.kids.length ≤ 17592186043904) : Ct Try.prog 38 [SV.agg 1 (stG l), SV.agg 2 (hdCell f), SV.agg 2 (hdCell t)] (sv2 (bv (seenSt l f t).1) (iv (seenSt l f t).2)) := by
 refine CtO 35 Try.func38 rfl rfl rfl fun E => row_lenA 0 (V (s := 0) rfl) rfl rfl fun hl0_0 => Sq <| Rt <| BxA 1 (V rfl) rfl rfl <| BxA 2 (V rfl) rfl rfl <| BxA 3 (V rfl) rfl rfl <| U (As K) <| U (As K) <| Nt <| Sq <| Sq <| Rq <| O (LBA (V rfl) rfl Ga26 Sz26 (by decide)) <| O (LBA (V rfl) rfl Ga26 Sz26 (by decide)) <| O (q_bld22 (g0 := fun zi => (hdCell f) (0 + zi)) (g1 := fun zi => (hdCell t) (0 + zi)) (V rfl) (V rfl) Un123 Sz26 zero123v (arr22 (fun zi => (hdCell f) (0 + zi)) (fun zi => (hdCell t) (0 + zi))) ⟨rfl, rfl, rfl, rfl⟩) <| O (Mv K) <| Nq <| Bo <| Lo (fun (i : Nat) => ⟨[(3, SV.bp 1 0), (4, SV.bp 2 0), (5, SV.bp 3 0), (14, SV.agg 4 (arr22 (fun zi => (hdCell f) (0 + zi)) (fun zi => (hdCell t) (0 + zi)))), (15, iv ((i : Int)))], [(1, Own.box 1 (stG l) 24), (2, Own.box 2 (hdCell f) 26), (3, Own.box 2 (hdCell t) 26)]⟩) (fun (i : Nat) => i ≤ 2 ∧ (0 < i → (findSt l f).2 = 0) ∧ (1 < i → (findSt l t).2 = 0)) (fun (i : Nat) => 2 - i) 0 (by show 0 ≤ 2 ∧ (0 < 0 → (findSt l f).2 = 0) ∧ (1 < 0 → (findSt l t).2 = 0); exact ⟨by decide, fun q => absurd q (by decide), fun q => absurd q (by decide)⟩) (We (sl := [(3, SV.bp 1 0), (4, SV.bp 2 0), (5, SV.bp 3 0), (14, SV.agg 4 (arr22 (fun zi => (hdCell f) (0 + zi)) (fun zi => (hdCell t) (0 + zi)))), (15, iv (0))]) (ow := [(1, Own.box 1 (stG l) 24), (2, Own.box 2 (hdCell f) 26), (3, Own.box 2 (hdCell t) 26)]) (by exact ⟨V rfl, V rfl, V rfl, Va (V rfl) (An rfl), V rfl, Z⟩) (by exact ⟨⟨_, rfl, rfl, rfl, (An rfl)⟩, ⟨_, rfl, rfl, rfl, (An rfl)⟩, ⟨_, rfl, rfl, rfl, (An rfl)⟩, Z⟩)) <| ?_
 ·rintro i hI1
  have hJ1 : i ≤ 2 ∧ (0 < i → (findSt l f).2 = 0) ∧ (1 < i → (findSt l t).2 = 0) := hI1
  rcases (show i = 0 ∨ i = 1 ∨ i = 2 by omega) with rfl | rfl | rfl
  ·show C _ E _ ⟨[(3, SV.bp 1 0), (4, SV.bp 2 0), (5, SV.bp 3 0), (14, SV.agg 4 (arr22 (fun zi => (hdCell f) (0 + zi)) (fun zi => (hdCell t) (0 + zi)))), (15, iv (0))], [(1, Own.box 1 (stG l) 24), (2, Own.box 2 (hdCell f) 26), (3, Own.box 2 (hdCell t) 26)]⟩ _
   refine Sq <| Rq <| O (Lt (V rfl) K) <| Nq <| Sq <| Cd (V rfl) (fun hc1 => ?_) (fun hc1 => ?_)
   ·have hc1s := hc1; try simp only [BL] at hc1s
    refine Sk <| Sq <| Bo <| Sq <| Rt <| U (q_ixAA (i := 0) (V rfl) (V rfl) 26 Un123 Sz26 Ga26 (by omega) rfl) <| Al 4 zero26 rfl rfl <| StA (V rfl) rfl (V rfl) Sz26 <| Nt <| Sq <| Rt <| U (LBA (V rfl) rfl Ga24 Sz24 (by decide)) <| U (LBA (V rfl) rfl Ga26 Sz26 (by decide)) <| CT en46 (by exact ⟨⟨(Vi (g' := stG l) (V rfl) ⟨Z, Ir⟩), rfl⟩, ⟨(Vi (g' := hdCell ⟨f.pl, f.use⟩) (V rfl) ⟨⟨Z, Ir⟩, Ir⟩), rfl⟩, Z⟩) (find_ct l f (by first | assumption | exact kb_nil | exact kb_of (by assumption) | exact kb_of fam_c5)) <| U (Mv (V rfl)) <| U (Xt (V rfl) (by decide)) <| U (Xt (V rfl) (by decide)) <| Al 5 zero61 rfl rfl <| StA (V rfl) rfl (V rfl) Sz61 <| U (As (V rfl)) <| Nt <| Sq <| Rq <| O (Mv (V rfl)) <| O (Qn (V rfl) K) <| Nq <| Cd (V rfl) (fun hc2 => ?_) (fun hc2 => ?_)
    ·have hc2s := hc2; try simp only [BL] at hc2s
     exact Sq <| Rq <| O (Mv (V rfl)) <| O (As K) <| O (As (V rfl)) <| Nq <| Rx <| R2 rfl (V rfl) (V rfl) rfl rfl (by show sv2 (bv (false)) (iv ((findSt l f).2)) = sv2 (bv (seenSt l f t).1) (iv (seenSt l f t).2); rw [seen_1 (f := f) (t := t) (by rw [first_two, if_pos hc2s]; exact hc2s), first_two, if_pos hc2s])
    ·have hc2s := hc2; try simp only [BL] at hc2s
     exact Sk <| Rq <| O (Ad (V rfl) K (by omega)) <| O (Mv (V rfl)) <| Nq <| Nx (1) (by show 1 ≤ 2 ∧ (0 < 1 → (findSt l f).2 = 0) ∧ (1 < 1 → (findSt l t).2 = 0); exact ⟨by decide, fun _ => hc2s, fun q => absurd q (by decide)⟩) (by show 2 - 1 < 2 - 0; decide) (We (sl := [(3, SV.bp 1 0), (4, SV.bp 2 0), (5, SV.bp 3 0), (14, SV.agg 4 (arr22 (fun zi => (hdCell f) (0 + zi)) (fun zi => (hdCell t) (0 + zi)))), (15, iv (1))]) (ow := [(1, Own.box 1 (stG l) 24), (2, Own.box 2 (hdCell f) 26), (3, Own.box 2 (hdCell t) 26)]) (by exact ⟨V rfl, V rfl, V rfl, Va (V rfl) (An rfl), V rfl, Z⟩) (by exact ⟨⟨_, rfl, rfl, rfl, (An rfl)⟩, ⟨_, rfl, rfl, rfl, (An rfl)⟩, ⟨_, rfl, rfl, rfl, (An rfl)⟩, Z⟩))
   ·exact absurd hc1 (by decide)
  ·show C _ E _ ⟨[(3, SV.bp 1 0), (4, SV.bp 2 0), (5, SV.bp 3 0), (14, SV.agg 4 (arr22 (fun zi => (hdCell f) (0 + zi)) (fun zi => (hdCell t) (0 + zi)))), (15, iv (1))], [(1, Own.box 1 (stG l) 24), (2, Own.box 2 (hdCell f) 26), (3, Own.box 2 (hdCell t) 26)]⟩ _
   refine Sq <| Rq <| O (Lt (V rfl) K) <| Nq <| Sq <| Cd (V rfl) (fun hc3 => ?_) (fun hc3 => ?_)
   ·have hc3s := hc3; try simp only [BL] at hc3s
    have he1 : (findSt l f).2 = 0 := hJ1.2.1 (by decide)
    refine Sk <| Sq <| Bo <| Sq <| Rt <| U (q_ixAA (i := 1) (V rfl) (V rfl) 26 Un123 Sz26 Ga26 (by omega) rfl) <| Al 6 zero26 rfl rfl <| StA (V rfl) rfl (V rfl) Sz26 <| Nt <| Sq <| Rt <| U (LBA (V rfl) rfl Ga24 Sz24 (by decide)) <| U (LBA (V rfl) rfl Ga26 Sz26 (by decide)) <| CT en46 (by exact ⟨⟨(Vi (g' := stG l) (V rfl) ⟨Z, Ir⟩), rfl⟩, ⟨(Vi (g' := hdCell ⟨t.pl, t.use⟩) (V rfl) ⟨⟨Z, Ir⟩, Ir⟩), rfl⟩, Z⟩) (find_ct l t (by first | assumption | exact kb_nil | exact kb_of (by assumption) | exact kb_of fam_c5)) <| U (Mv (V rfl)) <| U (Xt (V rfl) (by decide)) <| U (Xt (V rfl) (by decide)) <| Al 7 zero61 rfl rfl <| StA (V rfl) rfl (V rfl) Sz61 <| U (As (V rfl)) <| Nt <| Sq <| Rq <| O (Mv (V rfl)) <| O (Qn (V rfl) K) <| Nq <| Cd (V rfl) (fun hc4 => ?_) (fun hc4 => ?_)
    ·have hc4s := hc4; try simp only [BL] at hc4s
     exact Sq <| Rq <| O (Mv (V rfl)) <| O (As K) <| O (As (V rfl)) <| Nq <| Rx <| R2 rfl (V rfl) (V rfl) rfl rfl (by show sv2 (bv (false)) (iv ((findSt l t).2)) = sv2 (bv (seenSt l f t).1) (iv (seenSt l f t).2); rw [seen_1 (f := f) (t := t) (by rw [first_two, if_neg (not_not_intro he1)]; exact hc4s), first_two, if_neg (not_not_intro he1)])
    ·have hc4s := hc4; try simp only [BL] at hc4s
     exact Sk <| Rq <| O (Ad (V rfl) K (by omega)) <| O (Mv (V rfl)) <| Nq <| Nx (2) (by show 2 ≤ 2 ∧ (0 < 2 → (findSt l f).2 = 0) ∧ (1 < 2 → (findSt l t).2 = 0); exact ⟨by decide, fun _ => hJ1.2.1 (by decide), fun _ => hc4s⟩) (by show 2 - 2 < 2 - 1; decide) (We (sl := [(3, SV.bp 1 0), (4, SV.bp 2 0), (5, SV.bp 3 0), (14, SV.agg 4 (arr22 (fun zi => (hdCell f) (0 + zi)) (fun zi => (hdCell t) (0 + zi)))), (15, iv (2))]) (ow := [(1, Own.box 1 (stG l) 24), (2, Own.box 2 (hdCell f) 26), (3, Own.box 2 (hdCell t) 26)]) (by exact ⟨V rfl, V rfl, V rfl, Va (V rfl) (An rfl), V rfl, Z⟩) (by exact ⟨⟨_, rfl, rfl, rfl, (An rfl)⟩, ⟨_, rfl, rfl, rfl, (An rfl)⟩, ⟨_, rfl, rfl, rfl, (An rfl)⟩, Z⟩))
   ·exact absurd hc3 (by decide)
  ·show C _ E _ ⟨[(3, SV.bp 1 0), (4, SV.bp 2 0), (5, SV.bp 3 0), (14, SV.agg 4 (arr22 (fun zi => (hdCell f) (0 + zi)) (fun zi => (hdCell t) (0 + zi)))), (15, iv (2))], [(1, Own.box 1 (stG l) 24), (2, Own.box 2 (hdCell f) 26), (3, Own.box 2 (hdCell t) 26)]⟩ _
   refine Sq <| Rq <| O (Lt (V rfl) K) <| Nq <| Sq <| Cd (V rfl) (fun hc5 => ?_) (fun hc5 => ?_)
   ·exact absurd hc5 (by decide)
   ·have hc5s := hc5; try simp only [BL] at hc5s
    have hf2 : firstSt l [f, t] = 0 := by rw [first_two, if_neg (not_not_intro (hJ1.2.1 (by decide)))]; exact hJ1.2.2 (by decide)
    have h2 := first2 hf2
    have hc0 := h2.1
    have hfp := h2.2.1
    have htp := h2.2.2
    exact Ex <| Sq <| Rq <| O (LBA (V rfl) rfl Ga24 Sz24 (by decide)) <| O (FlB _ _ (V rfl) Un26 rfl 0 Sz3) <| O (LdB (V rfl) rfl Ga3 (by decide)) <| O (FlB _ _ (V rfl) Un26 rfl 0 Sz3) <| O (LdB (V rfl) rfl Ga3 (by decide)) <| CQ en111 (by exact ⟨⟨(Vi (g' := stG l) (V rfl) ⟨Z, Ir⟩), rfl⟩, ⟨(V rfl), rfl⟩, ⟨(V rfl), rfl⟩, ⟨K, rfl⟩, Z⟩) (hidden_ct l f.pl t.pl false (by assumption) (by first | assumption | omega) (by first | assumption | omega)) <| O (Qo (V rfl)) <| O (As (V rfl)) <| O (As K) <| Nq <| Rx <| R2 rfl (V rfl) (V rfl) rfl rfl (by show sv2 (bv (!(hiddenSt l f.pl t.pl false))) (iv (0)) = sv2 (bv (seenSt l f t).1) (iv (seenSt l f t).2); rw [seen_2 hf2])
theorem target_ct (l : List Nd) (k0 told : Int) (hb : ∀ n ∈ l, n.kids.length ≤ 17592186043904) : Ct Try.prog 78 [SV.agg 1 (stG l), iv (k0), iv (told)] (iv (tgtSt l k0 told)) := by
 refine CtO 46 Try.func78 rfl rfl rfl fun E => row_lenA 0 (V (s := 0) rfl) rfl rfl fun hl0_0 => Sq <| Rt <| BxA 1 (V rfl) rfl rfl <| U (As K) <| Nt <| Sq <| Sq <| Rq <| O (LBA (V rfl) rfl Ga24 Sz24 (by decide)) <| CQ en44 (by exact ⟨⟨(Vi (g' := stG l) (V rfl) ⟨Z, Ir⟩), rfl⟩, Z⟩) (stcheck_ct l (by first | assumption | exact kb_nil | exact kb_of (by assumption) | exact kb_of fam_c5)) <| O (Qn (V rfl) K) <| O (Mv (V rfl)) <| Og (Gn rfl rfl) (fun hg => Mv (V rfl)) <| Og (Gn rfl rfl) (fun hg => Lt (Vg (V rfl) hg) K) <| O (Qr (V rfl) (fun h => Vg (V rfl) (notT h))) <| O (Mv (V rfl)) <| Og (Gn rfl rfl) (fun hg => Mv (V rfl)) <| Og (Gn rfl rfl) (fun hg => FlB _ _ (V rfl) Un24 rfl 0 Sz22) <| Og (Gn rfl rfl) (fun hg => LdB (Vg (V rfl) hg) rfl Ga22 (by decide)) <| Og (Gn rfl rfl) (fun hg => Ln (Vg (V rfl) hg) ts22) <| Og (Gn rfl rfl) (fun hg => Ge (Vg (V rfl) hg) (Vg (V rfl) hg)) <| O (Qr (V rfl) (fun h => Vg (V rfl) (notT h))) <| O (Mv (V rfl)) <| Og (Gn rfl rfl) (fun hg => Mv (V rfl)) <| Og (Gn rfl rfl) (fun hg => Lt (Vg (V rfl) hg) K) <| O (Qr (V rfl) (fun h => Vg (V rfl) (notT h))) <| O (Mv (V rfl)) <| Og (Gn rfl rfl) (fun hg => Mv (V rfl)) <| Og (Gn rfl rfl) (fun hg => FlB _ _ (V rfl) Un24 rfl 0 Sz22) <| Og (Gn rfl rfl) (fun hg => LdB (Vg (V rfl) hg) rfl Ga22 (by decide)) <| Og (Gn rfl rfl) (fun hg => Ln (Vg (V rfl) hg) ts22) <| Og (Gn rfl rfl) (fun hg => Ge (Vg (V rfl) hg) (Vg (V rfl) hg)) <| O (Qr (V rfl) (fun h => Vg (V rfl) (notT h))) <| Nq <| Cd (V rfl) (fun hc1 => ?_) (fun hc1 => ?_)
 ·have hc1s := hc1; try simp only [BL] at hc1s
  have hbad : checkSt l ≠ 0 ∨ k0 < 0 ∨ (l.length : Int) ≤ k0 ∨ told < 0 ∨ (l.length : Int) ≤ told := by simpa [or_assoc] using hc1
  exact Sq <| Rq <| O (Mv (V rfl)) <| O (As (V rfl)) <| Nq <| Rx <| R1 rfl (V rfl) rfl (by show iv (k0) = iv (tgtSt l k0 told); rw [tgt_0 hbad])
 ·have hc1s := hc1; try simp only [BL] at hc1s
  have hgood : ¬ (checkSt l ≠ 0 ∨ k0 < 0 ∨ (l.length : Int) ≤ k0 ∨ told < 0 ∨ (l.length : Int) ≤ told) := fun q => Bool.false_ne_true (hc1.symm.trans (by simpa [or_assoc] using q))
  have hc0 : checkSt l = 0 := Classical.byContradiction fun q => hgood (.inl q)
  refine Sk <| Sq <| Bo <| Lo (fun (k : Int) => ⟨[(1, iv (k)), (2, iv (told)), (3, SV.bp 1 0)], [(1, Own.box 1 (stG l) 24)]⟩) (fun (k : Int) => (0 ≤ k ∧ k < (l.length : Int)) ∧ tgtSt l k0 told = tgtL l told k (rootsL l k)) (fun (k : Int) => (rootsL l k).length) k0 (by show (0 ≤ k0 ∧ k0 < (l.length : Int)) ∧ tgtSt l k0 told = tgtL l told k0 (rootsL l k0); exact ⟨by omega, tgt_1 hc0 (by omega) (by omega)⟩) (We (ow := [(1, Own.box 1 (stG l) 24)]) (Vs rfl) (by exact ⟨⟨_, rfl, rfl, rfl, (An rfl)⟩, Z⟩)) <| ?_
  ·rintro k hI1
   have hJ1 : (0 ≤ k ∧ k < (l.length : Int)) ∧ tgtSt l k0 told = tgtL l told k (rootsL l k) := hI1
   have hkr := hJ1.1
   have hke := hJ1.2
   refine Sq <| Sq <| Rq <| O (LBA (V rfl) rfl Ga24 Sz24 (by decide)) <| O (Mv (V rfl)) <| O (Mv (V rfl)) <| CQ en111 (by exact ⟨⟨(Vi (g' := stG l) (V rfl) ⟨Z, Ir⟩), rfl⟩, ⟨(V rfl), rfl⟩, ⟨(V rfl), rfl⟩, ⟨K, rfl⟩, Z⟩) (hidden_ct l told k true (by assumption) (by first | assumption | omega) (by first | assumption | omega)) <| Nq <| Cd (V rfl) (fun hc2 => ?_) (fun hc2 => ?_)
   ·have hc2s := hc2; try simp only [BL] at hc2s
    have htt := tgt_t hc0 hkr hc2
    exact Sk <| Bo <| Rqd (by kernel_rfl) (by kernel_rfl) <| O (FlB _ _ (V rfl) Un24 rfl 0 Sz22) <| O (LdB (V rfl) rfl Ga22 (by decide)) <| O (LBA (V rfl) rfl Ga24 Sz24 (by decide)) <| O (Mv (V rfl)) <| CQ en137 (by exact ⟨⟨(Vi (g' := stG l) (V rfl) ⟨Z, Ir⟩), rfl⟩, ⟨(V rfl), rfl⟩, Z⟩) (top_ct l k (by assumption) (by first | assumption | omega)) <| O (Ix (V rfl) (V rfl) ts22 te22 (by omega) (by omega)) <| O (Fl _ _ (V rfl) Un61 rfl 0 Sz3) <| O (Ld (V rfl) Ga3 (by decide)) <| O (As (V rfl)) <| Nq <| NxH ((l.getD (Int.toNat (topSt l k)) default).host) (fun _ _ h => h) (by show (0 ≤ ((l.getD (Int.toNat (topSt l k)) default).host) ∧ ((l.getD (Int.toNat (topSt l k)) default).host) < (l.length : Int)) ∧ tgtSt l k0 told = tgtL l told ((l.getD (Int.toNat (topSt l k)) default).host) (rootsL l ((l.getD (Int.toNat (topSt l k)) default).host)); exact ⟨htt.2.2.2, hke.trans htt.1⟩) (by show (rootsL l ((l.getD (Int.toNat (topSt l k)) default).host)).length < (rootsL l k).length; have := htt.2.1; omega) (We (ow := [(1, Own.box 1 (stG l) 24)]) (Vs rfl) (by exact ⟨⟨_, rfl, rfl, rfl, (An rfl)⟩, Z⟩))
   ·have hc2s := hc2; try simp only [BL] at hc2s
    exact Ex <| Sq <| Rq <| O (Mv (V rfl)) <| O (As (V rfl)) <| Nq <| Rx <| R1 rfl (V rfl) rfl (by show iv (k) = iv (tgtSt l k0 told); rw [hke, tgt_f hc0 hkr hc2])
end Go.Proofs.Ytmcdamcedemdiaa
namespace Go.Proofs.Ytmcdamcedemdiaa
open Go.RowKit Go.Eng
theorem holdsE {l : List Nd} {h : Hd} (a : 0 ≤ h.pl ∧ h.pl < (l.length : Int)) (b : 1 ≤ h.use) (u : (l.getD h.pl.toNat default).used = true) (e : (l.getD h.pl.toNat default).uses = h.use) : holdsSt l h = 0 := by
  refine holds_0 ?_ ?_
  · unfold holdsWho
    rw [decide_eq_false (by omega), decide_eq_false (by omega), decide_eq_false (by omega), decide_eq_false (by omega)]; rfl
  · unfold holdsGone
    rw [u, decide_eq_true e]; rfl
theorem first_2 {l : List Nd} {f t : Hd} (c : checkSt l = 0) (a : holdsSt l f = 0) (b : holdsSt l t = 0) : firstSt l [f, t] = 0 := by
  show stepH l (stepH l (checkSt l) f) t = 0
  rw [stepH, stepH, if_pos c, if_pos a]; exact b
theorem top_line {l : List Nd} (h : checkSt l = 0) {y : Int} : ∀ (d : Nat) (k : Int), 0 ≤ k ∧ k < (l.length : Int) → dpt l k = d → y ∈ line l (l.getD (topSt l k).toNat default).host → y ∈ line l k
  | 0, k, hk, hd, _ => by rw [dpt_eq h hk] at hd; cases hd
  | d + 1, k, hk, hd, hy => by
    by_cases hp : 0 ≤ (l.getD k.toNat default).par
    · obtain ⟨ea, hh⟩ := above_par h hk hp
      rw [top_par h hk hp] at hy
      have hpk := (par_kid h hk hp).1
      rw [line_eq h hk, ea]
      exact .tail _ (top_line h d _ ⟨hp, hpk⟩ (by rw [dpt_eq h hk, ea] at hd; omega) hy)
    · rw [top_self hp] at hy
      by_cases hh : (l.getD k.toNat default).host < 0
      · rw [line_neg hh] at hy; cases hy
      · rw [line_eq h hk, show above (l.getD k.toNat default) = (l.getD k.toNat default).host by unfold above; rw [if_pos (by omega)]]
        exact .tail _ hy
theorem line_self {l : List Nd} (h : checkSt l = 0) {k : Int} (hk : 0 ≤ k ∧ k < (l.length : Int)) : k ∈ line l k := by rw [line_eq h hk]; exact .head _
theorem tgt_on {l : List Nd} (h : checkSt l = 0) {told : Int} : ∀ (n : Nat) (k : Int), 0 ≤ k ∧ k < (l.length : Int) → (rootsL l k).length = n →
    (0 ≤ tgtL l told k (rootsL l k) ∧ tgtL l told k (rootsL l k) < (l.length : Int)) ∧ tgtL l told k (rootsL l k) ∈ line l k ∧ hiddenSt l told (tgtL l told k (rootsL l k)) true = false := fun n => by
  induction n with
  | zero =>
    intro k hk hn
    cases q : hiddenSt l told k true with
    | false => rw [tgt_f h hk q]; exact ⟨hk, line_self h hk, q⟩
    | true => have := (tgt_t h hk q).2.1; omega
  | succ n ih =>
    intro k hk hn
    cases q : hiddenSt l told k true with
    | false => rw [tgt_f h hk q]; exact ⟨hk, line_self h hk, q⟩
    | true =>
      obtain ⟨e, el, _, hh⟩ := tgt_t h hk q
      have ih := ih _ hh (by omega)
      rw [e]
      exact ⟨ih.1, top_line h _ k hk rfl ih.2.1, ih.2.2⟩
theorem up_used {l : List Nd} (h : checkSt l = 0) {k : Int} (hk : 0 ≤ k ∧ k < (l.length : Int)) (ha : 0 ≤ above (l.getD k.toNat default)) : (l.getD (above (l.getD k.toNat default)).toNat default).used = true := by
  by_cases hh : 0 ≤ (l.getD k.toNat default).host
  · rw [show above (l.getD k.toNat default) = (l.getD k.toNat default).host by unfold above; rw [if_pos hh]]
    exact (right_to h).host k hk hh
  · have e : above (l.getD k.toNat default) = (l.getD k.toNat default).par := by unfold above; rw [if_neg hh]
    rw [e] at ha ⊢
    obtain ⟨hlt, hm⟩ := par_kid h hk ha
    refine Classical.byContradiction fun q => ?_
    rw [((st_n1 h ⟨ha, hlt⟩).free (Bool.eq_false_iff.2 q)).2.2.2.2.2] at hm
    cases hm
theorem line_used {l : List Nd} (h : checkSt l = 0) {y : Int} : ∀ (d : Nat) (k : Int), 0 ≤ k ∧ k < (l.length : Int) → dpt l k = d → (l.getD k.toNat default).used = true → y ∈ line l k → (l.getD y.toNat default).used = true
  | 0, k, hk, hd, _, _ => by rw [dpt_eq h hk] at hd; cases hd
  | d + 1, k, hk, hd, hu, hy => by
    rw [line_eq h hk] at hy
    rcases List.mem_cons.1 hy with rfl | hy
    · exact hu
    · by_cases ha : 0 ≤ above (l.getD k.toNat default)
      · exact line_used h d _ ⟨ha, (above_in (checkSt_nodes h) hk).2⟩ (by rw [dpt_eq h hk] at hd; omega) (up_used h hk ha) hy
      · rw [line_neg (by omega)] at hy; cases hy
theorem hid_mono {l : List Nd} {f k : Int} (q : hiddenSt l f k true = false) : hiddenSt l f k false = false := by
  unfold hiddenSt at q ⊢
  rw [List.any_eq_false] at q ⊢
  intro x hx hc
  refine q x hx ?_
  simp only [shutB, Bool.and_eq_true] at hc ⊢
  exact ⟨hc.1, by simp⟩
section
variable {l : List Nd} {f t : Hd}
end
end Go.Proofs.Ytmcdamcedemdiaa
namespace Go.Eng
open Go.RowKit
variable {P : Program} {NN : Nat} {E : Env NN}
theorem q_nilE {S : St} {x : Operand} {n k i off : Nat} {g : Nat → Nat → SV} (hx : Val E S x (.el n k g i off)) : OpQ P E S (.nilCheck x) (.el n k g i off) := fun b a w hr dst ty pos after gd => by
  obtain ⟨h1, bb, o, hv, hr2⟩ := hx b a w hr
  refine ⟨.pointer (some ⟨bb, o + (i * k + off), none⟩), fun w' hw' => ?_, h1, bb, o, rfl, hr2⟩
  simp [execOp, hv]
theorem q_lookB1R {S : St} {t kt et : TypeId} {m xk : Operand} {k : Int} {l : List (Int × Bool)} (ht : P.underlying t = some (.map kt et)) (hkt : P.underlying kt = some (.int .i64)) (hz : ∀ w, (zeroValue et).run P w = .ok (.bool false) w)
    (hm : Val E S m (mapSV (bmap l))) (hk : Val E S xk (iv k)) : OpQ P E S (.lookup t m xk false) (bv ((kget l k).getD false)) := fun b a w hr dst ty pos after gd => by
  obtain ⟨g, es, clk, h1, hlt, _, hh, hkv⟩ := hm b a w hr
  have h2 : a.eval xk = .int .i64 k := hk b a w hr
  have e : ((mget (bmap l) k).getD (.bool false)) = .bool ((kget l k).getD false) := by rw [bmap, mget_map]; cases kget l k <;> rfl
  refine ⟨(mget (bmap l) k).getD (.bool false), fun w' hw' => ?_, e⟩
  have hh' : w'.heap[g]? = some (.map es clk) := by rw [hw'.block g hlt]; exact hh
  have hck : ∀ e n, (Instr.checkKey e (n + 1) kt (.int .i64 k)).run P w' = .ok () w' := fun e n => MapKept.run_checkKey (k := .int .i64 k) hkt rfl e n
  rcases find_at (k := k) es.toList (bmap l) 0 hkv with ⟨h3, h4, _⟩ | ⟨i, e, h3, h5, _, h4, _⟩
  · have hf := MapKept.run_findKey (P := P) (w := w') hkt h3
    simp [execOp, h1, h2, Instr.lookup, run_underlying ht, MapKept.run_getObj_map hh', hck, hf, hz, h4]
  · have hf := MapKept.run_findKey (P := P) (w := w') hkt h3
    simp [execOp, h1, h2, Instr.lookup, run_underlying ht, MapKept.run_getObj_map hh', hck, hf, h4]
theorem tq_callVGg {ops : Array Oper} {rest : List Oper} {S : St} {K : St → Prop} {d : Tmp} {f : FuncId} {caps : List SV} {xf : Operand} {xs : List Operand} {ats : Array TypeId} {ty : TypeId} {pos : String} {after : Array Edge} {args : List SV} {x : Value} {gd : Nat × Bool} {c : Bool}
    (hg : Guard E S ops gd c) (hxf : c = true → FnVal E S xf f caps) (hro : allRO caps = true) (hf : Enters P f) (ha : c = true → Vals E S xs args) (h : c = true → Ct P f (args ++ caps) (.v x)) (hk : TQ P E ops rest (nextQ S d (.grd c (.v x))) K) (hd : d < NN := by decide) :
    TQ P E ops ({ dst := some d, op := .call { callee := .value xf, args := xs.toArray, argTypes := ats }, type := ty, pos, after, guard := some gd } :: rest) S K := fun b a w hr => by
  unfold wpQuiet
  rw [hg b a w hr _ rfl]
  cases c with
  | false => exact hk b _ w (hr.put hd ⟨(fun h => by cases h), fun _ => rfl⟩)
  | true =>
    refine ⟨x, fun w' hw' => ?_, hk b _ w (hr.put hd ⟨fun _ => rfl, fun h => by cases h⟩)⟩
    unfold Oper.quietAt
    have hr' : RepB E b S a w' := hr.world hw'
    obtain ⟨vals, hv, hc⟩ := hxf rfl b a w' hr'
    rw [run_callV hf a xf vals hv]
    refine ⟨rfl, ?_⟩
    refine (h rfl w' (S.excl E b) _ (fun g hg => Nat.lt_of_lt_of_le (hr.excl_lt hg) hw'.size) (ros_app (hr' |> (ha rfl).ros) (hc.ros hro))).mono ?_
    rintro e w'' ⟨v, rfl, hv, hb⟩
    have : v = x := hv
    subst this
    exact ⟨rfl, hw'.trans (hb.mono hw'.size)⟩
end Go.Eng
namespace Go.Eng
open Go.RowKit
variable {P : Program} {NN : Nat} {E : Env NN}
end Go.Eng
namespace Go.Proofs.Ytmcdamcedemdiaa
open Go.RowKit Go.Eng
theorem en105 : Enters Try.prog 105 := fun args w => by kernel_rfl
def heBad (l : List He) (p : Int) (i : Nat) : Int := if (l.getD i default).pl < 0 ∨ p ≤ (l.getD i default).pl then 4 else if (l.take i).any (fun x => decide (x.id = (l.getD i default).id)) = true then 3 else 0
def chkHe (l : List He) (p : Int) : Int := if 24 < l.length then 1 else firstErr (heBad l p) 0 l.length
section
variable {l : List He} {p : Int} {i : Nat}
theorem chk_1 (h : 24 < l.length) : chkHe l p = 1 := if_pos h
theorem chk_0 (h : ¬ 24 < l.length) : chkHe l p = firstErr (heBad l p) 0 (l.length - 0) := if_neg h
theorem heBad_4 (h : (l.getD i default).pl < 0 ∨ p ≤ (l.getD i default).pl) : heBad l p i = 4 := if_pos h
theorem heBad_3 (h : ¬ ((l.getD i default).pl < 0 ∨ p ≤ (l.getD i default).pl)) (e : (l.take i).any (fun x => decide (x.id = (l.getD i default).id)) = true) : heBad l p i = 3 := by
  unfold heBad; rw [if_neg h, if_pos e]
theorem heBad_0 (h : ¬ ((l.getD i default).pl < 0 ∨ p ≤ (l.getD i default).pl)) (e : (l.take i).any (fun x => decide (x.id = (l.getD i default).id)) = false) : heBad l p i = 0 := by
  unfold heBad; rw [if_neg h, if_neg (ff e)]
theorem chk_len (h : chkHe l p = 0) : l.length ≤ 24 := by
  by_cases c : 24 < l.length
  · rw [chk_1 c] at h; cases h
  · omega
theorem chk_all (h : chkHe l p = 0) (hi : i < l.length) : (0 ≤ (l.getD i default).pl ∧ (l.getD i default).pl < p) ∧ (l.take i).any (fun x => decide (x.id = (l.getD i default).id)) = false := by
  have hl := chk_len h
  rw [chk_0 (by omega)] at h
  have := firstErr_all _ _ h i (Nat.zero_le _) (by omega)
  by_cases a : (l.getD i default).pl < 0 ∨ p ≤ (l.getD i default).pl
  · rw [heBad_4 a] at this; cases this
  · refine ⟨by omega, ?_⟩
    cases e : (l.take i).any (fun x => decide (x.id = (l.getD i default).id)) with
    | false => rfl
    | true => rw [heBad_3 a e] at this; cases this
end
theorem kget_cons {β : Type} (p : Int × β) (r : List (Int × β)) (j : Int) : kget (p :: r) j = if p.1 = j then some p.2 else kget r j := by
  unfold kget; rw [List.find?_cons]
  by_cases e : p.1 = j
  · rw [if_pos e, decide_eq_true e]; rfl
  · rw [if_neg e, decide_eq_false e]
theorem kget_put {β : Type} : ∀ (l : List (Int × β)) (k j : Int) (v : β), kget (kput l k v) j = if j = k then some v else kget l j
  | [], k, j, v => by
    rw [kput, kget_cons]
    by_cases e : j = k
    · rw [if_pos e, if_pos e.symm]
    · rw [if_neg e, if_neg fun q => e q.symm]
  | p :: r, k, j, v => by
    rw [kput]
    by_cases c : p.1 = k
    · rw [if_pos c, kget_cons, kget_cons]
      by_cases e : j = k
      · rw [if_pos e, if_pos e.symm]
      · rw [if_neg e, if_neg (fun q => e q.symm), if_neg (fun q => e (q.symm.trans c))]
    · rw [if_neg c, kget_cons, kget_cons, kget_put r k j v]
      by_cases e : j = k
      · rw [if_neg (fun q => c (q.trans e)), if_pos e, if_pos e]
      · rw [if_neg e, if_neg e]
def putAll (l : List He) (m : List (Int × Bool)) : List (Int × Bool) := l.foldl (fun m h => kput m h.id true) m
theorem put_get (j : Int) : ∀ (l : List He) (m : List (Int × Bool)), (kget (putAll l m) j).getD false = (l.any (fun h => decide (h.id = j)) || (kget m j).getD false)
  | [], m => rfl
  | h :: r, m => by
    show (kget (putAll r (kput m h.id true)) j).getD false = _
    rw [put_get j r, kget_put, List.any_cons]
    by_cases e : j = h.id
    · rw [if_pos e, decide_eq_true e.symm]; simp
    · rw [if_neg e, decide_eq_false fun q => e q.symm, Bool.false_or]
structure Desk where
  calls : List Ca
  heard : List (Int × Bool)
  stop : Bool
def desk0 : Desk := ⟨[], [], false⟩
def deskS (p : He → Bool) (k tg ph : Int) (D : Desk) (h : He) : Desk := if h.pl = k ∧ p h = true then ⟨D.calls ++ [⟨h.id, k, tg, ph⟩], kput D.heard h.id true, D.stop || h.stops⟩ else D
def atD (p : He → Bool) (k tg ph : Int) (hs : List He) (D : Desk) : Desk := if D.stop = true then D else hs.foldl (deskS p k tg ph) D
section
variable {p : He → Bool} {k tg ph : Int} {hs : List He} {D : Desk} {i : Nat}
theorem atD_1 (h : D.stop = true) : atD p k tg ph hs D = D := if_pos h
theorem atD_2 (h : D.stop = false) : atD p k tg ph hs D = hs.foldl (deskS p k tg ph) D := if_neg (ff h)
theorem desk_no (hi : i < hs.length) (h : ¬ ((hs.getD i default).pl = k ∧ p (hs.getD i default) = true)) : (hs.take (i + 1)).foldl (deskS p k tg ph) D = (hs.take i).foldl (deskS p k tg ph) D := by
  rw [foldl_take_s _ _ default _ _ hi, deskS, if_neg h]
theorem desk_yes (hi : i < hs.length) (h : (hs.getD i default).pl = k ∧ p (hs.getD i default) = true) : (hs.take (i + 1)).foldl (deskS p k tg ph) D =
    ⟨((hs.take i).foldl (deskS p k tg ph) D).calls ++ [⟨(hs.getD i default).id, k, tg, ph⟩], kput ((hs.take i).foldl (deskS p k tg ph) D).heard (hs.getD i default).id true, ((hs.take i).foldl (deskS p k tg ph) D).stop || (hs.getD i default).stops⟩ := by
  rw [foldl_take_s _ _ default _ _ hi, deskS, if_pos h]
theorem deskF_len : ∀ (hs : List He) (D : Desk), (hs.foldl (deskS p k tg ph) D).calls.length ≤ D.calls.length + hs.length
  | [], D => Nat.le_refl _
  | h :: r, D => by
    rw [List.foldl_cons, List.length_cons]
    have := deskF_len r (deskS p k tg ph D h)
    have h2 : (deskS p k tg ph D h).calls.length ≤ D.calls.length + 1 := by
      unfold deskS; split
      · rw [List.length_append]; exact Nat.le_refl _
      · omega
    omega
theorem desk_len (i : Nat) : ((hs.take i).foldl (deskS p k tg ph) D).calls.length ≤ D.calls.length + hs.length := by
  have := deskF_len (p := p) (k := k) (tg := tg) (ph := ph) (hs.take i) D
  rw [List.length_take] at this; omega
theorem atD_len : (atD p k tg ph hs D).calls.length ≤ D.calls.length + hs.length := by
  unfold atD; split
  · omega
  · exact deskF_len hs D
end
def phD (tg k b : Int) : Int := if tg = k then 2 else b
def stepS (l : List Nd) (t : Int) (hs : List He) (D : Desk) (s : Sp) : Desk := atD (fun h => h.down == s.down) s.at_ (tgtSt l t s.at_) (phD (tgtSt l t s.at_) s.at_ (if s.down = true then 1 else 3)) hs D
def dnSp (k : Int) : Sp := ⟨k, true⟩
def upSp (k : Int) : Sp := ⟨k, false⟩
def stopsL (l : List Nd) (t : Int) : List Sp := (line l t).reverse.map dnSp ++ (line l t).map upSp
def runD (l : List Nd) (t : Int) (hs : List He) : Desk := (stopsL l t).foldl (stepS l t hs) desk0
def leftD (M : List (Int × Bool)) (hs : List He) : List He := hs.filter fun h => !(h.once && (kget M h.id).getD false)
def dispSt (l : List Nd) (hs : List He) (t : Hd) : List Ca × List He × Int :=
  if firstSt l [t] ≠ 0 then ([], [], firstSt l [t]) else if chkHe hs (l.length : Int) ≠ 0 then ([], [], chkHe hs (l.length : Int)) else ((runD l t.pl hs).calls, leftD (runD l t.pl hs).heard hs, 0)
section
variable {l : List Nd} {hs : List He} {t : Hd}
theorem disp_1 (h : ¬ firstSt l [t] = 0) : dispSt l hs t = ([], [], firstSt l [t]) := if_pos h
theorem disp_2 (h : firstSt l [t] = 0) (c : ¬ chkHe hs (l.length : Int) = 0) : dispSt l hs t = ([], [], chkHe hs (l.length : Int)) := by unfold dispSt; rw [if_neg (not_not_intro h), if_pos c]
theorem disp_3 (h : firstSt l [t] = 0) (c : chkHe hs (l.length : Int) = 0) : dispSt l hs t = ((runD l t.pl hs).calls, leftD (runD l t.pl hs).heard hs, 0) := by unfold dispSt; rw [if_neg (not_not_intro h), if_neg (not_not_intro c)]
end
section
variable {l : List Nd} {t : Int} {hs : List He} {D : Desk} {i : Nat}
theorem step_1 {s : Sp} (h : D.stop = true) : stepS l t hs D s = D := atD_1 h
theorem step_2 {s : Sp} (h : D.stop = false) : stepS l t hs D s = hs.foldl (deskS (fun h => h.down == s.down) s.at_ (tgtSt l t s.at_) (phD (tgtSt l t s.at_) s.at_ (if s.down = true then 1 else 3))) D := atD_2 h
theorem step_stuck (h : D.stop = true) : ∀ S : List Sp, S.foldl (stepS l t hs) D = D
  | [] => rfl
  | s :: r => by rw [List.foldl_cons, step_1 h]; exact step_stuck h r
theorem run_len (S : List Sp) (h24 : hs.length ≤ 24) : (S.foldl (stepS l t hs) D).calls.length ≤ D.calls.length + 24 * S.length := by
  induction S generalizing D with
  | nil => exact Nat.le_refl _
  | cons s r ih =>
    rw [List.foldl_cons, List.length_cons]
    have h1 := ih (D := stepS l t hs D s)
    have h2 : (stepS l t hs D s).calls.length ≤ D.calls.length + hs.length := atD_len
    omega
def dnR (l : List Nd) (t : Int) (hs : List He) (i : Nat) : Desk := ((line l t).reverse.take i).foldl (fun D k => stepS l t hs D (dnSp k)) desk0
def upR (l : List Nd) (t : Int) (hs : List He) (i : Nat) : Desk := ((line l t).take i).foldl (fun D k => stepS l t hs D (upSp k)) (dnR l t hs (line l t).length)
theorem run_up : runD l t hs = upR l t hs (line l t).length := by
  unfold runD upR dnR stopsL
  rw [List.foldl_append, List.foldl_map, List.foldl_map, List.take_of_length_le (Nat.le_refl _), List.take_of_length_le (by rw [List.length_reverse]; exact Nat.le_refl _)]
theorem up_0 : upR l t hs 0 = dnR l t hs (line l t).length := rfl
theorem rev_getD {L : List Int} (h : i < L.length) : L.reverse.getD i 0 = L.getD (L.length - 1 - i) 0 := by
  rw [getD_lt (by rw [List.length_reverse]; exact h), getD_lt (by omega), List.getElem_reverse]
theorem dn_s (h : i < (line l t).length) {k : Int} (e : (line l t).getD ((line l t).length - 1 - i) 0 = k) : dnR l t hs (i + 1) = atD He.down k (tgtSt l t k) (phD (tgtSt l t k) k 1) hs (dnR l t hs i) := by
  unfold dnR
  rw [foldl_take_s _ _ 0 _ _ (by rw [List.length_reverse]; exact h), rev_getD h, e]
  show atD (fun h => h.down == true) _ _ _ _ _ = _
  rw [show (fun h : He => h.down == true) = He.down from funext fun h => by cases h.down <;> rfl]; rfl
theorem up_s (h : i < (line l t).length) {k : Int} (e : (line l t).getD i 0 = k) : upR l t hs (i + 1) = atD (fun h => !h.down) k (tgtSt l t k) (phD (tgtSt l t k) k 3) hs (upR l t hs i) := by
  unfold upR
  rw [foldl_take_s _ _ 0 _ _ h, e]
  show atD (fun h => h.down == false) _ _ _ _ _ = _
  rw [show (fun h : He => h.down == false) = (fun h : He => !h.down) from funext fun h => by cases h.down <;> rfl]; rfl
theorem dnR_len (h24 : hs.length ≤ 24) : (dnR l t hs i).calls.length ≤ 24 * (line l t).length := by
  unfold dnR
  have := run_len (l := l) (t := t) (hs := hs) (D := desk0) (((line l t).reverse.take i).map dnSp) h24
  rw [List.foldl_map, List.length_map, List.length_take, List.length_reverse] at this
  have h0 : desk0.calls.length = 0 := rfl
  have h1 : 24 * min i (line l t).length ≤ 24 * (line l t).length := Nat.mul_le_mul_left _ (Nat.min_le_right _ _)
  omega
theorem upR_len (h24 : hs.length ≤ 24) : (upR l t hs i).calls.length ≤ 48 * (line l t).length := by
  unfold upR
  have := run_len (l := l) (t := t) (hs := hs) (D := dnR l t hs (line l t).length) (((line l t).take i).map upSp) h24
  rw [List.foldl_map, List.length_map, List.length_take] at this
  have h0 := dnR_len (l := l) (t := t) (i := (line l t).length) h24
  have h1 : 24 * min i (line l t).length ≤ 24 * (line l t).length := Nat.mul_le_mul_left _ (Nat.min_le_right _ _)
  omega
end
theorem left_len (M : List (Int × Bool)) (hs : List He) : (leftD M hs).length ≤ hs.length := List.length_filter_le _ _
def heVal (h : He) : Nat → Value
  | 0 => .int .i64 h.pl
  | 1 => .bool h.down
  | 2 => .bool h.once
  | 3 => .bool h.stops
  | _ => .int .i64 h.id
theorem fields54 : Try.prog.underlying 54 = some (.struct (Try.prog.fieldsOf 54)) := by kernel_rfl
theorem held54 : Try.prog.stoodInHeld 54 = false := by kernel_rfl
theorem guard54 : Try.prog.eqGuardType Try.prog.depth 54 = false := by kernel_rfl
theorem fl54 : (Try.prog.fieldsOf 54).toList = (match Try.prog.underlying 54 with | some (.struct fs) => fs.toList | _ => []) := by kernel_rfl
theorem eq54 (f g : He) (w : World) : (Op.equalIn 10000 54 (.agg (Array.ofFn fun i : Fin 5 => heVal f i.1)) (.agg (Array.ofFn fun i : Fin 5 => heVal g i.1))).run Try.prog w = .ok (decide (f = g)) w := by
  rw [run_equalIn_agg w 9999 54 _ _ fields54 held54, fl54, Try.underlying54]
  simp [Op.eqFields, part, Try.isAgg3, Try.isAgg4, heVal, run_equalIn_int w 9998 3 .i64 .i64 _ _ Try.underlying3, run_equalIn_bool w 9998 4 _ _ Try.underlying4]
  obtain ⟨a0, a1, a2, a3, a4⟩ := f
  obtain ⟨b0, b1, b2, b3, b4⟩ := g
  simp only [He.mk.injEq]
  repeat (split <;> simp_all)
theorem eqS54 (x y : Operand) (f g : He) (w : World) : (do eqGuard .eql 54 x y (.agg (Array.ofFn fun i : Fin 5 => heVal f i.1)) (.agg (Array.ofFn fun i : Fin 5 => heVal g i.1)); binOp .eql 54 (.agg (Array.ofFn fun i : Fin 5 => heVal f i.1)) (.agg (Array.ofFn fun i : Fin 5 => heVal g i.1))).run Try.prog w = .ok (.bool (decide (f = g))) w := by
  simp only [Sem.run_bind, run_eqGuard_agg w .eql 54 x y _ _ guard54, Result.andThen_ok, run_eql_struct w 54, eq54 f g w]
def caVal (h : Ca) : Nat → Value
  | 0 => .int .i64 h.id
  | 1 => .int .i64 h.at_
  | 2 => .int .i64 h.tgt
  | _ => .int .i64 h.ph
theorem fields51 : Try.prog.underlying 51 = some (.struct (Try.prog.fieldsOf 51)) := by kernel_rfl
theorem held51 : Try.prog.stoodInHeld 51 = false := by kernel_rfl
theorem guard51 : Try.prog.eqGuardType Try.prog.depth 51 = false := by kernel_rfl
theorem fl51 : (Try.prog.fieldsOf 51).toList = (match Try.prog.underlying 51 with | some (.struct fs) => fs.toList | _ => []) := by kernel_rfl
theorem eq51 (f g : Ca) (w : World) : (Op.equalIn 10000 51 (.agg (Array.ofFn fun i : Fin 4 => caVal f i.1)) (.agg (Array.ofFn fun i : Fin 4 => caVal g i.1))).run Try.prog w = .ok (decide (f = g)) w := by
  rw [run_equalIn_agg w 9999 51 _ _ fields51 held51, fl51, Try.underlying51]
  simp [Op.eqFields, part, Try.isAgg3, Try.isAgg4, caVal, run_equalIn_int w 9998 3 .i64 .i64 _ _ Try.underlying3, run_equalIn_bool w 9998 4 _ _ Try.underlying4]
  obtain ⟨a0, a1, a2, a3⟩ := f
  obtain ⟨b0, b1, b2, b3⟩ := g
  simp only [Ca.mk.injEq]
  repeat (split <;> simp_all)
theorem neS51 (x y : Operand) (f g : Ca) (w : World) : (do eqGuard .neq 51 x y (.agg (Array.ofFn fun i : Fin 4 => caVal f i.1)) (.agg (Array.ofFn fun i : Fin 4 => caVal g i.1)); binOp .neq 51 (.agg (Array.ofFn fun i : Fin 4 => caVal f i.1)) (.agg (Array.ofFn fun i : Fin 4 => caVal g i.1))).run Try.prog w = .ok (.bool (!decide (f = g))) w := by
  simp only [Sem.run_bind, run_eqGuard_agg w .neq 51 x y _ _ guard51, Result.andThen_ok, run_neq_struct w 51, eq51 f g w]
theorem stops_in {l : List Nd} {t : Int} {s : Sp} (h : s ∈ stopsL l t) : s.at_ ∈ line l t := by
  unfold stopsL at h
  rcases List.mem_append.1 h with h | h
  · obtain ⟨k, hk, rfl⟩ := List.mem_map.1 h
    exact List.mem_reverse.1 hk
  · obtain ⟨k, hk, rfl⟩ := List.mem_map.1 h
    exact hk
theorem stops_len (l : List Nd) (t : Int) : (stopsL l t).length = 2 * (line l t).length := by
  unfold stopsL; rw [List.length_append, List.length_map, List.length_map, List.length_reverse]; omega
theorem runS_len {l : List Nd} {t : Int} {hs : List He} {i : Nat} (h24 : hs.length ≤ 24) : (((stopsL l t).take i).foldl (stepS l t hs) desk0).calls.length ≤ 48 * (line l t).length := by
  have := run_len (l := l) (t := t) (hs := hs) (D := desk0) ((stopsL l t).take i) h24
  rw [List.length_take, stops_len] at this
  have h0 : desk0.calls.length = 0 := rfl
  have h1 : 24 * min i (2 * (line l t).length) ≤ 24 * (2 * (line l t).length) := Nat.mul_le_mul_left _ (Nat.min_le_right _ _)
  omega
theorem zero116 : ZeroOk Try.prog 116 1 (fun _ => SV.v (.pointer none)) := zero_one (fun w => by kernel_rfl) rfl rfl
theorem zero118 : ZeroOk Try.prog 118 3 (cmpG [.v (.slice none 0 0), .v (.map none), bv false]) := by
  refine ⟨_, Try.zeroValue118, rfl, fun t ht => ?_⟩
  match t, ht with
  | 0, _ => exact ⟨_, rfl, rfl, fun _ _ => rfl⟩
  | 1, _ => exact ⟨_, rfl, rfl, fun _ _ => rfl⟩
  | 2, _ => exact ⟨_, rfl, rfl, fun _ _ => rfl⟩
theorem build118 : ∀ (w : World) (parts : List (Nat × Value)) (z : Value) (cs : Array Value), (zeroValue 118).run Try.prog w = .ok z w → Instr.fill (fun i => if i < 3 then some (i, 1) else none) z.cells parts = some cs → (∀ p ∈ parts, p.1 < 3) → (Instr.build 118 parts.toArray).run Try.prog w = .ok (.agg cs) w :=
  build_struct Try.underlying118 (fun w => by simp [Try.sizeOf46, Try.sizeOf49, Try.sizeOf4]; rfl)
end Go.Proofs.Ytmcdamcedemdiaa
namespace Go.Proofs.Ytmcdamcedemdiaa
open Go.RowKit Go.Eng
theorem idxf34_ct {f : FuncId} {caps : List SV} (p : He → Bool) (hE : Enters Try.prog f) (hro : allRO caps = true) (hC : ∀ x, Ct Try.prog f ([.agg 5 (heCell x)] ++ caps) (bv (p x))) (l : List He) : Ct Try.prog 34 [heRow l, fnA f caps] (iv (idxF p l)) := by
 refine CtO 19 Try.func34 rfl rfl rfl fun E => Rl (V (s := 0) rfl) fun hl0 => Sq <| Rq <| O (As K) <| Nq <| Sq <| Sq <| Rq <| O (Mv (V rfl)) <| O (Ln (V rfl) ts45) <| O (Mv K) <| Nq <| Bo <| Lo (fun (i : Nat) => ⟨[(0, heRow l), (1, fnA f caps), (7, iv ((l.length : Int))), (8, iv ((i : Int)))], []⟩) (fun (i : Nat) => i ≤ l.length ∧ ∀ j, j < i → p (l.getD j default) = false) (fun (i : Nat) => l.length - i) 0 (by show 0 ≤ l.length ∧ ∀ j, j < 0 → p (l.getD j default) = false; exact ⟨Nat.zero_le _, fun j hj => absurd hj (Nat.not_lt_zero _)⟩) (We (Vs rfl) Z) <| ?_
 ·rintro i hI1
  have hJ1 : i ≤ l.length ∧ ∀ j, j < i → p (l.getD j default) = false := hI1
  have hi1 := hJ1.1
  have hall := hJ1.2
  refine Sq <| Rq <| O (Lt (V rfl) (V rfl)) <| Nq <| Sq <| Cd (V rfl) (fun hc1 => ?_) (fun hc1 => ?_)
  ·have hc1s := hc1; try simp only [BL] at hc1s
   refine Sk <| Sq <| Bo <| Sq <| Rq <| O (Mv (V rfl)) <| O (As (V rfl)) <| Nq <| Sq <| Rq <| O (Mv (V rfl)) <| O (Mv (V rfl)) <| O (Mv (V rfl)) <| O (IxN (i := i) (V rfl) (V rfl) ts45 te45 (by clear hall hJ1 hI1; omega)) <| O (LdA (V rfl) Ga54 Sz54 (by decide)) <| CQv (args := [SV.agg 5 (heCell ⟨(l.getD i default).pl, (l.getD i default).down, (l.getD i default).once, (l.getD i default).stops, (l.getD i default).id⟩)]) (caps := caps) (fnval_A (V rfl)) hro hE (by exact ⟨⟨(Vi (g' := heCell ⟨(l.getD i default).pl, (l.getD i default).down, (l.getD i default).once, (l.getD i default).stops, (l.getD i default).id⟩) (V rfl) ⟨⟨⟨⟨⟨Z, Ir⟩, Ir⟩, Ir⟩, Ir⟩, Ir⟩), rfl⟩, Z⟩) (hC (l.getD i default)) <| Nq <| Cd (V rfl) (fun hc2 => ?_) (fun hc2 => ?_)
   ·have hc2s := hc2; try simp only [BL] at hc2s
    exact Sq <| Rq <| O (Mv (V rfl)) <| O (As (V rfl)) <| Nq <| Rx <| R1 rfl (V rfl) rfl (by show iv ((i : Int)) = iv (idxF p l); rw [idxF_hit default (by clear hall hJ1 hI1; omega) hall hc2])
   ·have hc2s := hc2; try simp only [BL] at hc2s
    exact Sk <| Rq <| O (Ad (V rfl) K (by clear hall hJ1 hI1; omega)) <| O (Mv (V rfl)) <| Nq <| Nx (i + 1) (by show (i + 1) ≤ l.length ∧ ∀ j, j < (i + 1) → p (l.getD j default) = false; exact ⟨by clear hall hJ1 hI1; omega, idxF_s hall hc2⟩) (by show l.length - (i + 1) < l.length - i; clear hall hJ1 hI1; omega) (We (Vs rfl) Z)
  ·have hc1s := hc1; try simp only [BL] at hc1s
   exact Ex <| Sq <| Rq <| O (As K) <| Nq <| Rx <| R1 rfl (V rfl) rfl (by show iv ((-1)) = iv (idxF p l); rw [idxF_none default hall (by clear hall hJ1 hI1; omega)])
theorem conf138_ct {f : FuncId} {caps : List SV} (p : He → Bool) (hE : Enters Try.prog f) (hro : allRO caps = true) (hC : ∀ x, Ct Try.prog f ([.agg 5 (heCell x)] ++ caps) (bv (p x))) (l : List He) : Ct Try.prog 138 [heRow l, fnA f caps] (bv (l.any p)) := by
 exact CtO 9 Try.func138 rfl rfl rfl fun E => Rl (V (s := 0) rfl) fun hl0 => Sq <| Rq <| O (As K) <| Nq <| Sq <| Rq <| O (Mv (V rfl)) <| O (Mv (V rfl)) <| CQ en34 (by exact ⟨⟨(V rfl), rfl⟩, ⟨(V rfl), rfl⟩, Z⟩) (idxf34_ct p hE hro hC l) <| O (Ge (V rfl) K) <| O (As (V rfl)) <| Nq <| Rx <| R1 rfl (V rfl) rfl (by show bv (decide (0 ≤ idxF p l)) = bv (l.any p); exact congrArg bv (idxF_any p l))
theorem sameId_ct (x h : He) : Ct Try.prog 139 [SV.agg 5 (heCell x), elB [iv (h.pl), bv (h.down), bv (h.once), bv (h.stops), iv (h.id)] 0] (bv (decide (x.id = h.id))) := by
 exact CtO 9 Try.func139 rfl rfl rfl fun E => Sq <| Rt <| BxA 1 (V rfl) rfl rfl <| U (As K) <| Nt <| Sq <| Rq <| O (FlB _ _ (V rfl) Un54 rfl 0 Sz3) <| O (LdB (V rfl) rfl Ga3 (by decide)) <| O (Fl _ _ (V rfl) Un54 rfl 0 Sz3) <| O (Ld (V rfl) Ga3 (by show 4 < 5; decide)) <| O (Ql (V rfl) (V rfl)) <| O (As (V rfl)) <| Nq <| Rx <| R1 rfl (V rfl) rfl (by show bv (decide (x.id = h.id)) = bv (decide (x.id = h.id)); rfl)
theorem chkHe_ct (l : List He) (p : Int) : Ct Try.prog 93 [heRow l, iv (p)] (iv (chkHe l p)) := by
 refine CtO 32 Try.func93 rfl rfl rfl fun E => Rl (V (s := 0) rfl) fun hl0 => Sq <| Rq <| O (As K) <| Nq <| Sq <| Sq <| Rq <| O (Mv (V rfl)) <| O (Ln (V rfl) ts45) <| O (Gt (V rfl) K) <| Nq <| Cd (V rfl) (fun hc1 => ?_) (fun hc1 => ?_)
 ·have hc1s := hc1; try simp only [BL] at hc1s
  exact Sq <| Rq <| O (As K) <| Nq <| Rx <| R1 rfl (V rfl) rfl (by show iv (1) = iv (chkHe l p); rw [chk_1 (by omega)])
 ·have hc1s := hc1; try simp only [BL] at hc1s
  refine Sk <| Sq <| Sq <| Rq <| O (Mv (V rfl)) <| O (Ln (V rfl) ts45) <| O (Mv K) <| Nq <| Bo <| Lo (fun (i : Nat) => ⟨[(0, heRow l), (1, iv (p)), (10, heRow l), (11, iv ((l.length : Int))), (12, iv ((i : Int)))], []⟩) (fun (i : Nat) => i ≤ l.length ∧ chkHe l p = firstErr (heBad l p) i (l.length - i)) (fun (i : Nat) => l.length - i) 0 (by show 0 ≤ l.length ∧ chkHe l p = firstErr (heBad l p) 0 (l.length - 0); exact ⟨Nat.zero_le _, chk_0 (by omega)⟩) (We (Vs rfl) Z) <| ?_
  ·rintro i hI1
   have hJ1 : i ≤ l.length ∧ chkHe l p = firstErr (heBad l p) i (l.length - i) := hI1
   have hiv := hJ1.1
   have hch := hJ1.2
   refine Sq <| Rq <| O (Lt (V rfl) (V rfl)) <| Nq <| Sq <| Cd (V rfl) (fun hc2 => ?_) (fun hc2 => ?_)
   ·have hc2s := hc2; try simp only [BL] at hc2s
    have hil : i < l.length := by omega
    refine Sk <| Sq <| Bo <| Sq <| Rt <| U (Mv (V rfl)) <| U (IxN (i := i) (V rfl) (V rfl) ts45 te45 (by omega)) <| U (LdA (V rfl) Ga54 Sz54 (by decide)) <| Al 1 zero54 rfl rfl <| U (As (V rfl)) <| StA (V rfl) rfl (V rfl) Sz54 <| Nt <| Sq <| Sq <| Rq <| O (FlB _ _ (V rfl) Un54 rfl 0 Sz3) <| O (LdB (V rfl) rfl Ga3 (by decide)) <| O (Lt (V rfl) K) <| O (Mv (V rfl)) <| Og (Gn rfl rfl) (fun hg => FlB _ _ (V rfl) Un54 rfl 0 Sz3) <| Og (Gn rfl rfl) (fun hg => LdB (Vg (V rfl) hg) rfl Ga3 (by decide)) <| Og (Gn rfl rfl) (fun hg => Mv (V rfl)) <| Og (Gn rfl rfl) (fun hg => Ge (Vg (V rfl) hg) (Vg (V rfl) hg)) <| O (Qr (V rfl) (fun h => Vg (V rfl) (notT h))) <| Nq <| Cd (V rfl) (fun hc3 => ?_) (fun hc3 => ?_)
    ·have hc3s := hc3; try simp only [BL] at hc3s
     have hbd : (l.getD i default).pl < 0 ∨ p ≤ (l.getD i default).pl := by simpa using hc3
     exact Sq <| Rq <| O (As K) <| Nq <| Rx <| R1 rfl (V rfl) rfl (by show iv (4) = iv (chkHe l p); rw [firstErr_hit hil hch (heBad_4 hbd) (by decide)])
    ·have hc3s := hc3; try simp only [BL] at hc3s
     have hpl : ¬ ((l.getD i default).pl < 0 ∨ p ≤ (l.getD i default).pl) := fun q => Bool.false_ne_true (hc3.symm.trans (by simpa using q))
     refine Sk <| Sq <| c_frzB 1 [iv ((l.getD i default).pl), bv ((l.getD i default).down), bv ((l.getD i default).once), bv ((l.getD i default).stops), iv ((l.getD i default).id)] rfl rfl ⟨⟨⟨⟨⟨Z, rfl⟩, rfl⟩, rfl⟩, rfl⟩, rfl⟩ rfl <| Rt <| U (Mv (V rfl)) <| U (Mv (V rfl)) <| U (q_slHN (h := i) ts45 te45 (V rfl) (V rfl) (by omega)) <| U (Mk (caps := [elB [iv ((l.getD i default).pl), bv ((l.getD i default).down), bv ((l.getD i default).once), bv ((l.getD i default).stops), iv ((l.getD i default).id)] 0]) ⟨(V rfl), Z⟩) <| CT en138 (by exact ⟨⟨(V rfl), rfl⟩, ⟨(VA (VF [elB [iv ((l.getD i default).pl), bv ((l.getD i default).down), bv ((l.getD i default).once), bv ((l.getD i default).stops), iv ((l.getD i default).id)] 0] ((V rfl)) (An rfl)) rfl), rfl⟩, Z⟩) (conf138_ct (fun x => decide (x.id = (l.getD i default).id)) en139 rfl (fun x => sameId_ct x (l.getD i default)) (l.take i)) <| Nt <| Cd (V rfl) (fun hc4 => ?_) (fun hc4 => ?_)
     ·have hc4s := hc4; try simp only [BL] at hc4s
      exact Sq <| Rq <| O (As K) <| Nq <| Rx <| R1 rfl (V rfl) rfl (by show iv (3) = iv (chkHe l p); rw [firstErr_hit hil hch (heBad_3 hpl hc4) (by decide)])
     ·have hc4s := hc4; try simp only [BL] at hc4s
      exact Sk <| Rq <| O (Ad (V rfl) K (by omega)) <| O (Mv (V rfl)) <| Nq <| Nx (i + 1) (by show (i + 1) ≤ l.length ∧ chkHe l p = firstErr (heBad l p) (i + 1) (l.length - (i + 1)); exact ⟨by omega, firstErr_next hil hch (heBad_0 hpl hc4)⟩) (by show l.length - (i + 1) < l.length - i; omega) (We (Vs rfl) Z)
   ·have hc2s := hc2; try simp only [BL] at hc2s
    exact Ex <| Sq <| Rq <| O (As K) <| Nq <| Rx <| R1 rfl (V rfl) rfl (by show iv (0) = iv (chkHe l p); rw [firstErr_end (by omega) hch])
theorem down_ct (x : He) : Ct Try.prog 106 [SV.agg 5 (heCell x)] (bv x.down) := by
 exact CtO 5 Try.func106 rfl rfl rfl fun E => Sq <| Rt <| BxA 1 (V rfl) rfl rfl <| U (As K) <| Nt <| Sq <| Rq <| O (FlB _ _ (V rfl) Un54 rfl 0 Sz4) <| O (LdB (V rfl) rfl Ga4 (by decide)) <| O (As (V rfl)) <| Nq <| Rx <| R1 rfl (V rfl) rfl (by show bv (x.down) = bv x.down; rfl)
theorem up_ct (x : He) : Ct Try.prog 107 [SV.agg 5 (heCell x)] (bv (!x.down)) := by
 exact CtO 6 Try.func107 rfl rfl rfl fun E => Sq <| Rt <| BxA 1 (V rfl) rfl rfl <| U (As K) <| Nt <| Sq <| Rq <| O (FlB _ _ (V rfl) Un54 rfl 0 Sz4) <| O (LdB (V rfl) rfl Ga4 (by decide)) <| O (Qo (V rfl)) <| O (As (V rfl)) <| Nq <| Rx <| R1 rfl (V rfl) rfl (by show bv (!x.down) = bv (!x.down); rfl)
theorem told_ct (k : Int) (l : List Nd) (t : Hd) (hb : ∀ n ∈ l, n.kids.length ≤ 17592186043904) : Ct Try.prog 104 [iv (k), elB [ndRow l] 0, elB [iv (t.pl), iv (t.use)] 0] (iv (tgtSt l t.pl k)) := by
 exact CtO 10 Try.func104 rfl rfl rfl fun E => Sq <| Rq <| O (As K) <| Nq <| Sq <| Rq <| O (LdA (V rfl) Ga24 Sz24 (by show 0 + 1 ≤ 1; decide)) <| O (Fl _ _ (V rfl) Un26 rfl 0 Sz3) <| O (Ld (V rfl) Ga3 (by show 0 < 2; decide)) <| O (Mv (V rfl)) <| CQ en78 (by exact ⟨⟨(Vi (g' := stG l) (V rfl) ⟨Z, Ir⟩), rfl⟩, ⟨(V rfl), rfl⟩, ⟨(V rfl), rfl⟩, Z⟩) (target_ct l t.pl k (by first | assumption | exact kb_nil | exact kb_of (by assumption) | exact kb_of fam_c5)) <| O (As (V rfl)) <| Nq <| Rx <| R1 rfl (V rfl) rfl (by show iv (tgtSt l t.pl k) = iv (tgtSt l t.pl k); rfl)
theorem deskAt_ct {f : FuncId} {caps : List SV} (p : He → Bool) (hE : Enters Try.prog f) (hro : allRO caps = true) (hC : ∀ x, Ct Try.prog f ([.agg 5 (heCell x)] ++ caps) (bv (p x))) (hs : List He) (k tg ph : Int) (D : Desk) (hl : hs.length ≤ 24) (hcl : D.calls.length ≤ 100000) : CtM Try.prog 105 [SV.bp 1000 0, heRow hs, iv (k), iv (tg), iv (ph), fnA f caps] [(1000, Own.box 3 (cmpG [SV.own 1001, SV.own 1002, bv (D.stop)]) 118), (1001, ownOf caCell 4 default D.calls 51), (1002, Own.amap (bmap D.heard))] (sv0) [(1000, Own.box 3 (cmpG [SV.own 0, SV.own 1, bv ((atD p k tg ph hs D).stop)]) 118), (0, ownOf caCell 4 default ((atD p k tg ph hs D).calls) 51), (1, Own.amap (bmap ((atD p k tg ph hs D).heard)))] := by
 refine CmO 67 Try.func105 rfl rfl rfl fun E => Rl (V (s := 1) rfl) fun hl1 => Sq <| Sq <| Rq <| O (Mv (V rfl)) <| O (q_nilB (V rfl)) <| O (FlB _ _ (V rfl) Un118 rfl 0 Sz4) <| O (LdB (V rfl) rfl Ga4 (by decide)) <| Nq <| Cd (V rfl) (fun hc1 => ?_) (fun hc1 => ?_)
 ·have hc1s := hc1; try simp only [BL] at hc1s
  exact c_mv 1001 0 rfl rfl <| c_mv 1002 1 rfl rfl <| c_ownE 0 ((atD p k tg ph hs D).calls) rfl (by first | exact congrArg (fun D : Desk => D.calls) (atD_1 hc1) | exact (congrArg (fun D : Desk => D.calls) (atD_1 hc1)).symm) <| c_mapE 1 (bmap ((atD p k tg ph hs D).heard)) rfl (by first | exact congrArg (fun D : Desk => bmap D.heard) (atD_1 hc1) | exact (congrArg (fun D : Desk => bmap D.heard) (atD_1 hc1)).symm) <| Rx <| retM0 rfl (by exact ⟨⟨_, rfl, ⟨rfl, rfl, ⟨⟨⟨Z, rfl⟩, rfl⟩, ((congrArg (fun D : Desk => bv D.stop) (atD_1 hc1)).symm)⟩⟩⟩, ⟨_, rfl, rfl⟩, ⟨_, rfl, rfl⟩, Z⟩) (by show sv0 = sv0; rfl)
 ·have hc1s := hc1; try simp only [BL] at hc1s
  refine Sk <| Sq <| Rq <| O (Mv (V rfl)) <| O (Ln (V rfl) ts45) <| O (Mv K) <| Nq <| Bo <| c_mv 1001 60 rfl rfl <| c_mv 1002 61 rfl rfl <| c_ownE 60 (((hs.take 0).foldl (deskS p k tg ph) D).calls) rfl (by rfl) <| c_mapE 61 (bmap (((hs.take 0).foldl (deskS p k tg ph) D).heard)) rfl (by rfl) <| Lo (fun (i : Nat) => ⟨[(0, SV.bp 1000 0), (2, iv (k)), (3, iv (tg)), (4, iv (ph)), (5, fnA f caps), (18, heRow hs), (19, iv ((hs.length : Int))), (20, iv ((i : Int)))], [(60, ownOf caCell 4 default (((hs.take i).foldl (deskS p k tg ph) D).calls) 51), (61, Own.amap (bmap (((hs.take i).foldl (deskS p k tg ph) D).heard))), (1000, Own.box 3 (cmpG [SV.own 60, SV.own 61, bv (((hs.take i).foldl (deskS p k tg ph) D).stop)]) 118)]⟩) (fun (i : Nat) => i ≤ hs.length) (fun (i : Nat) => hs.length - i) 0 (by show 0 ≤ hs.length; exact Nat.zero_le _) (We (ow := [(60, ownOf caCell 4 default (((hs.take 0).foldl (deskS p k tg ph) D).calls) 51), (61, Own.amap (bmap (((hs.take 0).foldl (deskS p k tg ph) D).heard))), (1000, Own.box 3 (cmpG [SV.own 60, SV.own 61, bv (((hs.take 0).foldl (deskS p k tg ph) D).stop)]) 118)]) (Vs rfl) (by exact ⟨⟨_, rfl, rfl⟩, ⟨_, rfl, rfl⟩, ⟨_, rfl, rfl, rfl, (An rfl)⟩, Z⟩)) <| ?_
  ·rintro i hI1
   have hJ1 : i ≤ hs.length := hI1
   have hdl := desk_len (p := p) (k := k) (tg := tg) (ph := ph) (hs := hs) (D := D) i
   refine Sq <| Rq <| O (Lt (V rfl) (V rfl)) <| Nq <| Sq <| Cd (V rfl) (fun hc2 => ?_) (fun hc2 => ?_)
   ·have hc2s := hc2; try simp only [BL] at hc2s
    have hil : i < hs.length := by omega
    refine Sk <| Sq <| Bo <| Sq <| Rt <| U (IxN (i := i) (V rfl) (V rfl) ts45 te45 (by omega)) <| U (LdA (V rfl) Ga54 Sz54 (by decide)) <| Al 1 zero54 rfl rfl <| StA (V rfl) rfl (V rfl) Sz54 <| Nt <| Sq <| Sq <| Rq <| O (FlB _ _ (V rfl) Un54 rfl 0 Sz3) <| O (LdB (V rfl) rfl Ga3 (by decide)) <| O (Mv (V rfl)) <| O (Qn (V rfl) (V rfl)) <| O (Mv (V rfl)) <| Og (Gn rfl rfl) (fun hg => Mv (V rfl)) <| Og (Gn rfl rfl) (fun hg => LBA (V rfl) rfl Ga54 Sz54 (by decide)) <| tq_callVGg (args := [SV.agg 5 (heCell ⟨(hs.getD i default).pl, (hs.getD i default).down, (hs.getD i default).once, (hs.getD i default).stops, (hs.getD i default).id⟩)]) (caps := caps) (Gn rfl rfl) (fun hg => (fnval_A (Vg (V rfl) hg))) hro hE (fun hg => (by exact ⟨⟨(Vi (g' := heCell ⟨(hs.getD i default).pl, (hs.getD i default).down, (hs.getD i default).once, (hs.getD i default).stops, (hs.getD i default).id⟩) (Vg (V rfl) hg) ⟨⟨⟨⟨⟨Z, Ir⟩, Ir⟩, Ir⟩, Ir⟩, Ir⟩), rfl⟩, Z⟩)) (fun hg => hC (hs.getD i default)) <| Og (Gn rfl rfl) (fun hg => Qo (Vg (V rfl) hg)) <| O (Qr (V rfl) (fun h => Vg (V rfl) (notT h))) <| Nq <| Cd (V rfl) (fun hc3 => ?_) (fun hc3 => ?_)
    ·have hc3s := hc3; try simp only [BL] at hc3s
     have hno : ¬ ((hs.getD i default).pl = k ∧ p (hs.getD i default) = true) := fun q => by rw [decide_eq_true q.1, q.2] at hc3; cases hc3
     refine Ex <| Rq <| O (Ad (V rfl) K (by omega)) <| O (Mv (V rfl)) <| Nq <| k_ownE 60 (((hs.take ((i + 1))).foldl (deskS p k tg ph) D).calls) rfl (by first | exact congrArg (fun D : Desk => D.calls) (desk_no (p := p) (tg := tg) (ph := ph) (D := D) hil hno) | exact (congrArg (fun D : Desk => D.calls) (desk_no (p := p) (tg := tg) (ph := ph) (D := D) hil hno)).symm) <| k_mapE 61 (bmap (((hs.take ((i + 1))).foldl (deskS p k tg ph) D).heard)) rfl (by first | exact congrArg (fun D : Desk => bmap D.heard) (desk_no (p := p) (tg := tg) (ph := ph) (D := D) hil hno) | exact (congrArg (fun D : Desk => bmap D.heard) (desk_no (p := p) (tg := tg) (ph := ph) (D := D) hil hno)).symm) <| Nx (i + 1) (by show (i + 1) ≤ hs.length; first | omega | (simp; done) | (refine ⟨?_, ?_⟩ <;> first | omega | (simp; done))) (by show hs.length - (i + 1) < hs.length - i; omega) (We (ow := [(60, ownOf caCell 4 default (((hs.take ((i + 1))).foldl (deskS p k tg ph) D).calls) 51), (61, Own.amap (bmap (((hs.take ((i + 1))).foldl (deskS p k tg ph) D).heard))), (1000, Own.box 3 (cmpG [SV.own 60, SV.own 61, bv (((hs.take ((i + 1))).foldl (deskS p k tg ph) D).stop)]) 118)]) (Vs rfl) (by exact ⟨⟨_, rfl, rfl⟩, ⟨_, rfl, rfl⟩, ⟨_, rfl, ⟨rfl, rfl, ⟨⟨⟨Z, rfl⟩, rfl⟩, (congrArg (fun D : Desk => bv D.stop) (desk_no (p := p) (tg := tg) (ph := ph) (D := D) hil hno)).symm⟩⟩⟩, Z⟩))
    ·have hc3s := hc3; try simp only [BL] at hc3s
     have hyes : (hs.getD i default).pl = k ∧ p (hs.getD i default) = true := by simpa using hc3
     refine Sk <| Sq <| c_rd (fun e => ⟨[(34, cj (e 0) (SV.bp 1000 0)), (35, cj (e 1) (SV.bp 1000 0)), (36, cj (e 2) (SV.bp 1000 0)), (37, cj (e 3) (SV.bp 1000 0)), (38, cj (e 4) (cjn (e 12) (SV.own 60))), (39, cj (e 5) (SV.bp 1 4)), (40, cj (e 6) (iv ((hs.getD i default).id))), (41, cj (e 7) (iv (k))), (42, cj (e 8) (iv (tg))), (43, cj (e 9) (iv (ph))), (44, cj (e 10) (SV.agg 4 (caCell ⟨(hs.getD i default).id, k, tg, ph⟩))), (45, cj (e 11) (caRow ([⟨(hs.getD i default).id, k, tg, ph⟩]))), (46, cj (e 12) (SV.own 2)), (47, cj (e 13) (SV.bp 1000 0)), (48, cj (e 14) (SV.bp 1000 0)), (0, SV.bp 1000 0), (2, iv (k)), (3, iv (tg)), (4, iv (ph)), (5, fnA f caps), (13, SV.bp 1 0), (18, heRow hs), (19, iv ((hs.length : Int))), (20, iv ((i : Int)))], (cb (e 12) (cb (e 15) [(1, Own.box 5 (fun zi => (rowG heCell default hs) i (0 + zi)) 54), (61, Own.amap (bmap (((hs.take i).foldl (deskS p k tg ph) D).heard))), (1000, Own.box 3 (upd (fun zt => kill 60 ((cmpG [SV.own 60, SV.own 61, bv (((hs.take i).foldl (deskS p k tg ph) D).stop)]) zt)) 0 (SV.own 2)) 118), (2, ownOf caCell 4 default ((((hs.take i).foldl (deskS p k tg ph) D).calls) ++ ([⟨(hs.getD i default).id, k, tg, ph⟩])) 51)] [(1, Own.box 5 (fun zi => (rowG heCell default hs) i (0 + zi)) 54), (61, Own.amap (bmap (((hs.take i).foldl (deskS p k tg ph) D).heard))), (1000, Own.box 3 (fun zt => kill 60 ((cmpG [SV.own 60, SV.own 61, bv (((hs.take i).foldl (deskS p k tg ph) D).stop)]) zt)) 118), (2, ownOf caCell 4 default ((((hs.take i).foldl (deskS p k tg ph) D).calls) ++ ([⟨(hs.getD i default).id, k, tg, ph⟩])) 51)]) (cb (e 15) [] [(1, Own.box 5 (fun zi => (rowG heCell default hs) i (0 + zi)) 54), (60, ownOf caCell 4 default (((hs.take i).foldl (deskS p k tg ph) D).calls) 51), (61, Own.amap (bmap (((hs.take i).foldl (deskS p k tg ph) D).heard))), (1000, Own.box 3 (cmpG [SV.own 60, SV.own 61, bv (((hs.take i).foldl (deskS p k tg ph) D).stop)]) 118)]))⟩) ⟨[(34, SV.bp 1000 0), (35, SV.bp 1000 0), (36, SV.bp 1000 0), (37, SV.bp 1000 0), (39, SV.bp 1 4), (40, iv ((hs.getD i default).id)), (41, iv (k)), (42, iv (tg)), (43, iv (ph)), (44, SV.agg 4 (caCell ⟨(hs.getD i default).id, k, tg, ph⟩)), (45, caRow ([⟨(hs.getD i default).id, k, tg, ph⟩])), (46, SV.own 2), (47, SV.bp 1000 0), (48, SV.bp 1000 0), (0, SV.bp 1000 0), (2, iv (k)), (3, iv (tg)), (4, iv (ph)), (5, fnA f caps), (13, SV.bp 1 0), (18, heRow hs), (19, iv ((hs.length : Int))), (20, iv ((i : Int)))], [(1, Own.box 5 (fun zi => (rowG heCell default hs) i (0 + zi)) 54), (61, Own.amap (bmap (((hs.take i).foldl (deskS p k tg ph) D).heard))), (1000, Own.box 3 (upd (fun zt => kill 60 ((cmpG [SV.own 60, SV.own 61, bv (((hs.take i).foldl (deskS p k tg ph) D).stop)]) zt)) 0 (SV.own 2)) 118), (2, ownOf caCell 4 default ((((hs.take i).foldl (deskS p k tg ph) D).calls) ++ ([⟨(hs.getD i default).id, k, tg, ph⟩])) 51)]⟩ (by kernel_rfl) (by kernel_rfl) ?_ ⟨?_, ?_, ?_, ?_, ?_, ?_, ?_, ?_, ?_, ?_, ?_, ?_, ?_, ?_, ?_, ?_, Z⟩ ?_ ?_
     ·show Weak _ _ ⟨[(34, SV.junk), (35, SV.junk), (36, SV.junk), (37, SV.junk), (38, SV.junk), (39, SV.junk), (40, SV.junk), (41, SV.junk), (42, SV.junk), (43, SV.junk), (44, SV.junk), (45, SV.junk), (46, SV.junk), (47, SV.junk), (48, SV.junk), (0, SV.bp 1000 0), (2, iv (k)), (3, iv (tg)), (4, iv (ph)), (5, fnA f caps), (13, SV.bp 1 0), (18, heRow hs), (19, iv ((hs.length : Int))), (20, iv ((i : Int)))], [(1, Own.box 5 (fun zi => (rowG heCell default hs) i (0 + zi)) 54), (60, ownOf caCell 4 default (((hs.take i).foldl (deskS p k tg ph) D).calls) 51), (61, Own.amap (bmap (((hs.take i).foldl (deskS p k tg ph) D).heard))), (1000, Own.box 3 (cmpG [SV.own 60, SV.own 61, bv (((hs.take i).foldl (deskS p k tg ph) D).stop)]) 118)]⟩
      refine We ?_ ?_
      ·exact ⟨Vj, Vj, Vj, Vj, Vj, Vj, Vj, Vj, Vj, Vj, Vj, Vj, Vj, Vj, Vj, V rfl, V rfl, V rfl, V rfl, V rfl, V rfl, V rfl, V rfl, V rfl, Z⟩
      ·exact ⟨⟨_, rfl, ⟨rfl, rfl, (An rfl)⟩⟩, ⟨_, rfl, rfl⟩, ⟨_, rfl, rfl⟩, ⟨_, rfl, ⟨rfl, rfl, (An rfl)⟩⟩, Z⟩
     ·intro e hdn he hdp
      obtain ⟨-, -, h15, -⟩ := dns1 hdn he [13, 14, 15] (by kernel_rfl)
      simp only [setE, he, h15, cj_t, cj_f, cjn_t, cjn_f, cb_t, cb_f]
      exact U (Mv (V rfl)) <| Nt <| weakS ⟨V rfl, V rfl, V rfl, V rfl, V rfl, V rfl, V rfl, V rfl, V rfl, V rfl, V rfl, V rfl, V rfl, V rfl, V rfl, V rfl, V rfl, V rfl, V rfl, V rfl, V rfl, V rfl, V rfl, V rfl, Z⟩
     ·intro e hdn he hdp
      obtain ⟨-, -, -, h12, -, -, h15, -⟩ := dns1 hdn he [2, 3, 4, 12, 13, 14, 15] (by kernel_rfl)
      simp only [setE, he, h12, h15, cj_t, cj_f, cjn_t, cjn_f, cb_t, cb_f]
      refine U (Mv (V rfl)) <| Nt <| We ?_ ?_
      ·exact ⟨V rfl, V rfl, V rfl, V rfl, V rfl, V rfl, V rfl, V rfl, V rfl, V rfl, V rfl, V rfl, Vj, V rfl, V rfl, V rfl, V rfl, V rfl, V rfl, V rfl, V rfl, V rfl, V rfl, V rfl, Z⟩
      ·exact ⟨⟨_, rfl, ⟨rfl, rfl, (An rfl)⟩⟩, ⟨_, rfl, rfl⟩, ⟨_, rfl, rfl⟩, ⟨_, rfl, ⟨rfl, rfl, (An rfl)⟩⟩, Z⟩
     ·intro e hdn he hdp
      obtain ⟨h1, -⟩ := ups hdn [1] hdp (by kernel_rfl)
      obtain ⟨-, -, h12, -, -, h15, -⟩ := dns1 hdn he [3, 4, 12, 13, 14, 15] (by kernel_rfl)
      simp only [setE, h1, he, h12, h15, cj_t, cj_f, cjn_t, cjn_f, cb_t, cb_f]
      refine U (q_nilB (V rfl)) <| Nt <| We ?_ ?_
      ·exact ⟨V rfl, V rfl, V rfl, V rfl, V rfl, V rfl, V rfl, V rfl, V rfl, V rfl, V rfl, V rfl, Vj, V rfl, V rfl, V rfl, V rfl, V rfl, V rfl, V rfl, V rfl, V rfl, V rfl, V rfl, Z⟩
      ·exact ⟨⟨_, rfl, ⟨rfl, rfl, (An rfl)⟩⟩, ⟨_, rfl, rfl⟩, ⟨_, rfl, rfl⟩, ⟨_, rfl, ⟨rfl, rfl, (An rfl)⟩⟩, Z⟩
     ·intro e hdn he hdp
      obtain ⟨h2, h1, -⟩ := ups hdn [2, 1] hdp (by kernel_rfl)
      obtain ⟨-, h12, -, -, h15, -⟩ := dns1 hdn he [4, 12, 13, 14, 15] (by kernel_rfl)
      simp only [setE, h1, h2, he, h12, h15, cj_t, cj_f, cjn_t, cjn_f, cb_t, cb_f]
      refine U (FlB _ _ (V rfl) Un118 rfl 0 Sz46) <| Nt <| We ?_ ?_
      ·exact ⟨V rfl, V rfl, V rfl, V rfl, V rfl, V rfl, V rfl, V rfl, V rfl, V rfl, V rfl, V rfl, Vj, V rfl, V rfl, V rfl, V rfl, V rfl, V rfl, V rfl, V rfl, V rfl, V rfl, V rfl, Z⟩
      ·exact ⟨⟨_, rfl, ⟨rfl, rfl, (An rfl)⟩⟩, ⟨_, rfl, rfl⟩, ⟨_, rfl, rfl⟩, ⟨_, rfl, ⟨rfl, rfl, (An rfl)⟩⟩, Z⟩
     ·intro e hdn he hdp
      obtain ⟨h3, h2, h1, -⟩ := ups hdn [3, 2, 1] hdp (by kernel_rfl)
      obtain ⟨h12, -, -, h15, -⟩ := dns1 hdn he [12, 13, 14, 15] (by kernel_rfl)
      simp only [setE, h1, h2, h3, he, h12, h15, cj_t, cj_f, cjn_t, cjn_f, cb_t, cb_f]
      refine U (LdB (V rfl) rfl Ga46 (by decide)) <| Nt <| We ?_ ?_
      ·exact ⟨V rfl, V rfl, V rfl, V rfl, V rfl, V rfl, V rfl, V rfl, V rfl, V rfl, V rfl, V rfl, Vj, V rfl, V rfl, V rfl, V rfl, V rfl, V rfl, V rfl, V rfl, V rfl, V rfl, V rfl, Z⟩
      ·exact ⟨⟨_, rfl, ⟨rfl, rfl, (An rfl)⟩⟩, ⟨_, rfl, rfl⟩, ⟨_, rfl, rfl⟩, ⟨_, rfl, ⟨rfl, rfl, (An rfl)⟩⟩, Z⟩
     ·intro e hdn he hdp
      obtain ⟨-, -, -, h12, -, -, h15, -⟩ := dns1 hdn he [6, 10, 11, 12, 13, 14, 15] (by kernel_rfl)
      simp only [setE, he, h12, h15, cj_t, cj_f, cjn_t, cjn_f, cb_t, cb_f]
      refine U (FlB _ _ (V rfl) Un54 rfl 0 Sz3) <| Nt <| We ?_ ?_
      ·exact ⟨V rfl, V rfl, V rfl, V rfl, V rfl, V rfl, V rfl, V rfl, V rfl, V rfl, V rfl, V rfl, Vj, V rfl, V rfl, V rfl, V rfl, V rfl, V rfl, V rfl, V rfl, V rfl, V rfl, V rfl, Z⟩
      ·exact ⟨⟨_, rfl, ⟨rfl, rfl, (An rfl)⟩⟩, ⟨_, rfl, rfl⟩, ⟨_, rfl, rfl⟩, ⟨_, rfl, ⟨rfl, rfl, (An rfl)⟩⟩, Z⟩
     ·intro e hdn he hdp
      obtain ⟨h5, -⟩ := ups hdn [5] hdp (by kernel_rfl)
      obtain ⟨-, -, h12, -, -, h15, -⟩ := dns1 hdn he [10, 11, 12, 13, 14, 15] (by kernel_rfl)
      simp only [setE, h5, he, h12, h15, cj_t, cj_f, cjn_t, cjn_f, cb_t, cb_f]
      refine U (LdB (V rfl) rfl Ga3 (by decide)) <| Nt <| We ?_ ?_
      ·exact ⟨V rfl, V rfl, V rfl, V rfl, V rfl, V rfl, V rfl, V rfl, V rfl, V rfl, V rfl, V rfl, Vj, V rfl, V rfl, V rfl, V rfl, V rfl, V rfl, V rfl, V rfl, V rfl, V rfl, V rfl, Z⟩
      ·exact ⟨⟨_, rfl, ⟨rfl, rfl, (An rfl)⟩⟩, ⟨_, rfl, rfl⟩, ⟨_, rfl, rfl⟩, ⟨_, rfl, ⟨rfl, rfl, (An rfl)⟩⟩, Z⟩
     ·intro e hdn he hdp
      obtain ⟨-, -, h12, -, -, h15, -⟩ := dns1 hdn he [10, 11, 12, 13, 14, 15] (by kernel_rfl)
      simp only [setE, he, h12, h15, cj_t, cj_f, cjn_t, cjn_f, cb_t, cb_f]
      refine U (Mv (V rfl)) <| Nt <| We ?_ ?_
      ·exact ⟨V rfl, V rfl, V rfl, V rfl, V rfl, V rfl, V rfl, V rfl, V rfl, V rfl, V rfl, V rfl, Vj, V rfl, V rfl, V rfl, V rfl, V rfl, V rfl, V rfl, V rfl, V rfl, V rfl, V rfl, Z⟩
      ·exact ⟨⟨_, rfl, ⟨rfl, rfl, (An rfl)⟩⟩, ⟨_, rfl, rfl⟩, ⟨_, rfl, rfl⟩, ⟨_, rfl, ⟨rfl, rfl, (An rfl)⟩⟩, Z⟩
     ·intro e hdn he hdp
      obtain ⟨-, -, h12, -, -, h15, -⟩ := dns1 hdn he [10, 11, 12, 13, 14, 15] (by kernel_rfl)
      simp only [setE, he, h12, h15, cj_t, cj_f, cjn_t, cjn_f, cb_t, cb_f]
      refine U (Mv (V rfl)) <| Nt <| We ?_ ?_
      ·exact ⟨V rfl, V rfl, V rfl, V rfl, V rfl, V rfl, V rfl, V rfl, V rfl, V rfl, V rfl, V rfl, Vj, V rfl, V rfl, V rfl, V rfl, V rfl, V rfl, V rfl, V rfl, V rfl, V rfl, V rfl, Z⟩
      ·exact ⟨⟨_, rfl, ⟨rfl, rfl, (An rfl)⟩⟩, ⟨_, rfl, rfl⟩, ⟨_, rfl, rfl⟩, ⟨_, rfl, ⟨rfl, rfl, (An rfl)⟩⟩, Z⟩
     ·intro e hdn he hdp
      obtain ⟨-, -, h12, -, -, h15, -⟩ := dns1 hdn he [10, 11, 12, 13, 14, 15] (by kernel_rfl)
      simp only [setE, he, h12, h15, cj_t, cj_f, cjn_t, cjn_f, cb_t, cb_f]
      refine U (Mv (V rfl)) <| Nt <| We ?_ ?_
      ·exact ⟨V rfl, V rfl, V rfl, V rfl, V rfl, V rfl, V rfl, V rfl, V rfl, V rfl, V rfl, V rfl, Vj, V rfl, V rfl, V rfl, V rfl, V rfl, V rfl, V rfl, V rfl, V rfl, V rfl, V rfl, Z⟩
      ·exact ⟨⟨_, rfl, ⟨rfl, rfl, (An rfl)⟩⟩, ⟨_, rfl, rfl⟩, ⟨_, rfl, rfl⟩, ⟨_, rfl, ⟨rfl, rfl, (An rfl)⟩⟩, Z⟩
     ·intro e hdn he hdp
      obtain ⟨h9, h8, h7, h6, h5, -⟩ := ups hdn [9, 8, 7, 6, 5] hdp (by kernel_rfl)
      obtain ⟨-, h12, -, -, h15, -⟩ := dns1 hdn he [11, 12, 13, 14, 15] (by kernel_rfl)
      simp only [setE, h5, h6, h7, h8, h9, he, h12, h15, cj_t, cj_f, cjn_t, cjn_f, cb_t, cb_f]
      refine U (Bu [(0, iv ((hs.getD i default).id)), (1, iv (k)), (2, iv (tg)), (3, iv (ph))] id (caCell ⟨(hs.getD i default).id, k, tg, ph⟩) zero51 build51 (by exact ⟨⟨rfl, (V rfl), rfl⟩, ⟨rfl, (V rfl), rfl⟩, ⟨rfl, (V rfl), rfl⟩, ⟨rfl, (V rfl), rfl⟩, Z⟩) (by decide) ⟨⟨⟨⟨Z, rfl⟩, rfl⟩, rfl⟩, rfl⟩) <| Nt <| We ?_ ?_
      ·exact ⟨V rfl, V rfl, V rfl, V rfl, V rfl, V rfl, V rfl, V rfl, V rfl, V rfl, V rfl, V rfl, Vj, V rfl, V rfl, V rfl, V rfl, V rfl, V rfl, V rfl, V rfl, V rfl, V rfl, V rfl, Z⟩
      ·exact ⟨⟨_, rfl, ⟨rfl, rfl, (An rfl)⟩⟩, ⟨_, rfl, rfl⟩, ⟨_, rfl, rfl⟩, ⟨_, rfl, ⟨rfl, rfl, (An rfl)⟩⟩, Z⟩
     ·intro e hdn he hdp
      obtain ⟨h10, h9, h8, h7, h6, h5, -⟩ := ups hdn [10, 9, 8, 7, 6, 5] hdp (by kernel_rfl)
      obtain ⟨h12, -, -, h15, -⟩ := dns1 hdn he [12, 13, 14, 15] (by kernel_rfl)
      simp only [setE, h5, h6, h7, h8, h9, h10, he, h12, h15, cj_t, cj_f, cjn_t, cjn_f, cb_t, cb_f]
      refine Uw (w_bs (n := 1) (zget := cmpG [iv (0), iv (0), iv (0), iv (0)]) [(caCell ⟨(hs.getD i default).id, k, tg, ph⟩)] (rowG caCell default [⟨(hs.getD i default).id, k, tg, ph⟩]) Un46 Sz51 zero51 (by decide) rfl (by decide) ⟨⟨rfl, .inl (V rfl), rfl⟩, Z⟩ ⟨Z, ⟨⟨⟨⟨Z, rfl⟩, rfl⟩, rfl⟩, rfl⟩⟩) <| Nt <| We ?_ ?_
      ·exact ⟨V rfl, V rfl, V rfl, V rfl, V rfl, V rfl, V rfl, V rfl, V rfl, V rfl, V rfl, V rfl, Vj, V rfl, V rfl, V rfl, V rfl, V rfl, V rfl, V rfl, V rfl, V rfl, V rfl, V rfl, Z⟩
      ·exact ⟨⟨_, rfl, ⟨rfl, rfl, (An rfl)⟩⟩, ⟨_, rfl, rfl⟩, ⟨_, rfl, rfl⟩, ⟨_, rfl, ⟨rfl, rfl, (An rfl)⟩⟩, Z⟩
     ·intro e hdn he hdp
      obtain ⟨h11, h10, h9, h8, h7, h6, h5, h4, h3, h2, h1, -⟩ := ups hdn [11, 10, 9, 8, 7, 6, 5, 4, 3, 2, 1] hdp (by kernel_rfl)
      obtain ⟨h13, h14, h15, -⟩ := dns1 hdn he [13, 14, 15] (by kernel_rfl)
      simp only [setE, h1, h2, h3, h4, h5, h6, h7, h8, h9, h10, h11, he, h13, h14, h15, cj_t, cj_f, cjn_t, cjn_f, cb_t, cb_f]
      refine Ap 2 (rowG caCell default ((((hs.take i).foldl (deskS p k tg ph) D).calls) ++ ([⟨(hs.getD i default).id, k, tg, ph⟩]))) eo46 (V rfl) rfl (V rfl) (fresh_mk ⟨(noId_cj rfl), rfl, rfl, rfl, rfl, rfl, rfl, rfl, rfl, rfl, rfl, rfl, rfl, rfl, rfl, rfl, rfl, rfl, rfl, rfl, rfl, rfl, rfl, rfl, Z⟩ rfl rfl) (len_app (((hs.take i).foldl (deskS p k tg ph) D).calls) ([⟨(hs.getD i default).id, k, tg, ph⟩])) (by first | (simp only [maxLen, List.length_append, List.length_set, List.length_nil, List.length_cons]; omega) | (simp only [maxLen]; omega)) (by first | (simp only [List.length_append, List.length_set, List.length_nil, List.length_cons]; omega) | (omega)) (app_typed (l := (((hs.take i).foldl (deskS p k tg ph) D).calls)) (m := ([⟨(hs.getD i default).id, k, tg, ph⟩]))) <| Nt <| We ?_ ?_
      ·exact ⟨val_kc rfl (V rfl), V rfl, V rfl, V rfl, Vj, V rfl, V rfl, V rfl, V rfl, V rfl, V rfl, V rfl, V rfl, Vj, Vj, V rfl, V rfl, V rfl, V rfl, V rfl, V rfl, V rfl, V rfl, V rfl, Z⟩
      ·exact ⟨⟨_, rfl, ⟨rfl, rfl, (An rfl)⟩⟩, ⟨_, rfl, rfl⟩, ⟨_, rfl, ⟨rfl, rfl, (An rfl)⟩⟩, ⟨_, rfl, rfl⟩, Z⟩
     ·intro e hdn he hdp
      obtain ⟨h12, h11, h10, h9, h8, h7, h6, h5, h4, h3, h2, h1, h0, -⟩ := ups hdn [12, 11, 10, 9, 8, 7, 6, 5, 4, 3, 2, 1, 0] hdp (by kernel_rfl)
      obtain ⟨-, h15, -⟩ := dns1 hdn he [14, 15] (by kernel_rfl)
      simp only [setE, h0, h1, h2, h3, h4, h5, h6, h7, h8, h9, h10, h11, h12, he, h15, cj_t, cj_f, cjn_t, cjn_f, cb_t, cb_f]
      refine U (q_nilB (V rfl)) <| Nt <| We ?_ ?_
      ·exact ⟨V rfl, V rfl, V rfl, V rfl, Vj, V rfl, V rfl, V rfl, V rfl, V rfl, V rfl, V rfl, V rfl, V rfl, V rfl, V rfl, V rfl, V rfl, V rfl, V rfl, V rfl, V rfl, V rfl, V rfl, Z⟩
      ·exact ⟨⟨_, rfl, ⟨rfl, rfl, (An rfl)⟩⟩, ⟨_, rfl, rfl⟩, ⟨_, rfl, ⟨rfl, rfl, (An rfl)⟩⟩, ⟨_, rfl, rfl⟩, Z⟩
     ·intro e hdn he hdp
      obtain ⟨h13, h12, h11, h10, h9, h8, h7, h6, h5, h4, h3, h2, h1, h0, -⟩ := ups hdn [13, 12, 11, 10, 9, 8, 7, 6, 5, 4, 3, 2, 1, 0] hdp (by kernel_rfl)
      obtain ⟨h15, -⟩ := dns1 hdn he [15] (by kernel_rfl)
      simp only [setE, h0, h1, h2, h3, h4, h5, h6, h7, h8, h9, h10, h11, h12, h13, he, h15, cj_t, cj_f, cjn_t, cjn_f, cb_t, cb_f]
      refine U (FlB _ _ (V rfl) Un118 rfl 0 Sz46) <| Nt <| We ?_ ?_
      ·exact ⟨V rfl, V rfl, V rfl, V rfl, Vj, V rfl, V rfl, V rfl, V rfl, V rfl, V rfl, V rfl, V rfl, V rfl, V rfl, V rfl, V rfl, V rfl, V rfl, V rfl, V rfl, V rfl, V rfl, V rfl, Z⟩
      ·exact ⟨⟨_, rfl, ⟨rfl, rfl, (An rfl)⟩⟩, ⟨_, rfl, rfl⟩, ⟨_, rfl, ⟨rfl, rfl, (An rfl)⟩⟩, ⟨_, rfl, rfl⟩, Z⟩
     ·intro e hdn he hdp
      obtain ⟨h14, h13, h12, h11, h10, h9, h8, h7, h6, h5, h4, h3, h2, h1, h0, -⟩ := ups hdn [14, 13, 12, 11, 10, 9, 8, 7, 6, 5, 4, 3, 2, 1, 0] hdp (by kernel_rfl)
      simp only [setE, h0, h1, h2, h3, h4, h5, h6, h7, h8, h9, h10, h11, h12, h13, h14, he, cj_t, cj_f, cjn_t, cjn_f, cb_t, cb_f]
      refine t_st1V (V rfl) rfl (V rfl) (one_own rfl) Sz46 (by decide) <| Nt <| We ?_ ?_
      ·exact ⟨V rfl, V rfl, V rfl, V rfl, Vj, V rfl, V rfl, V rfl, V rfl, V rfl, V rfl, V rfl, V rfl, V rfl, V rfl, V rfl, V rfl, V rfl, V rfl, V rfl, V rfl, V rfl, V rfl, V rfl, Z⟩
      ·exact ⟨⟨_, rfl, ⟨rfl, rfl, (An rfl)⟩⟩, ⟨_, rfl, rfl⟩, ⟨_, rfl, ⟨rfl, rfl, (An rfl)⟩⟩, ⟨_, rfl, rfl⟩, Z⟩
     ·intro e he
      have h0 := he 0 (by decide)
      have h1 := he 1 (by decide)
      have h2 := he 2 (by decide)
      have h3 := he 3 (by decide)
      have h4 := he 4 (by decide)
      have h5 := he 5 (by decide)
      have h6 := he 6 (by decide)
      have h7 := he 7 (by decide)
      have h8 := he 8 (by decide)
      have h9 := he 9 (by decide)
      have h10 := he 10 (by decide)
      have h11 := he 11 (by decide)
      have h12 := he 12 (by decide)
      have h13 := he 13 (by decide)
      have h14 := he 14 (by decide)
      have h15 := he 15 (by decide)
      show Weak _ ⟨[(34, cj (e 0) (SV.bp 1000 0)), (35, cj (e 1) (SV.bp 1000 0)), (36, cj (e 2) (SV.bp 1000 0)), (37, cj (e 3) (SV.bp 1000 0)), (38, cj (e 4) (cjn (e 12) (SV.own 60))), (39, cj (e 5) (SV.bp 1 4)), (40, cj (e 6) (iv ((hs.getD i default).id))), (41, cj (e 7) (iv (k))), (42, cj (e 8) (iv (tg))), (43, cj (e 9) (iv (ph))), (44, cj (e 10) (SV.agg 4 (caCell ⟨(hs.getD i default).id, k, tg, ph⟩))), (45, cj (e 11) (caRow ([⟨(hs.getD i default).id, k, tg, ph⟩]))), (46, cj (e 12) (SV.own 2)), (47, cj (e 13) (SV.bp 1000 0)), (48, cj (e 14) (SV.bp 1000 0)), (0, SV.bp 1000 0), (2, iv (k)), (3, iv (tg)), (4, iv (ph)), (5, fnA f caps), (13, SV.bp 1 0), (18, heRow hs), (19, iv ((hs.length : Int))), (20, iv ((i : Int)))], (cb (e 12) (cb (e 15) [(1, Own.box 5 (fun zi => (rowG heCell default hs) i (0 + zi)) 54), (61, Own.amap (bmap (((hs.take i).foldl (deskS p k tg ph) D).heard))), (1000, Own.box 3 (upd (fun zt => kill 60 ((cmpG [SV.own 60, SV.own 61, bv (((hs.take i).foldl (deskS p k tg ph) D).stop)]) zt)) 0 (SV.own 2)) 118), (2, ownOf caCell 4 default ((((hs.take i).foldl (deskS p k tg ph) D).calls) ++ ([⟨(hs.getD i default).id, k, tg, ph⟩])) 51)] [(1, Own.box 5 (fun zi => (rowG heCell default hs) i (0 + zi)) 54), (61, Own.amap (bmap (((hs.take i).foldl (deskS p k tg ph) D).heard))), (1000, Own.box 3 (fun zt => kill 60 ((cmpG [SV.own 60, SV.own 61, bv (((hs.take i).foldl (deskS p k tg ph) D).stop)]) zt)) 118), (2, ownOf caCell 4 default ((((hs.take i).foldl (deskS p k tg ph) D).calls) ++ ([⟨(hs.getD i default).id, k, tg, ph⟩])) 51)]) (cb (e 15) [] [(1, Own.box 5 (fun zi => (rowG heCell default hs) i (0 + zi)) 54), (60, ownOf caCell 4 default (((hs.take i).foldl (deskS p k tg ph) D).calls) 51), (61, Own.amap (bmap (((hs.take i).foldl (deskS p k tg ph) D).heard))), (1000, Own.box 3 (cmpG [SV.own 60, SV.own 61, bv (((hs.take i).foldl (deskS p k tg ph) D).stop)]) 118)]))⟩ _
      simp only [h0, h1, h2, h3, h4, h5, h6, h7, h8, h9, h10, h11, h12, h13, h14, h15]
      show Weak _ ⟨[(34, SV.bp 1000 0), (35, SV.bp 1000 0), (36, SV.bp 1000 0), (37, SV.bp 1000 0), (38, SV.junk), (39, SV.bp 1 4), (40, iv ((hs.getD i default).id)), (41, iv (k)), (42, iv (tg)), (43, iv (ph)), (44, SV.agg 4 (caCell ⟨(hs.getD i default).id, k, tg, ph⟩)), (45, caRow ([⟨(hs.getD i default).id, k, tg, ph⟩])), (46, SV.own 2), (47, SV.bp 1000 0), (48, SV.bp 1000 0), (0, SV.bp 1000 0), (2, iv (k)), (3, iv (tg)), (4, iv (ph)), (5, fnA f caps), (13, SV.bp 1 0), (18, heRow hs), (19, iv ((hs.length : Int))), (20, iv ((i : Int)))], [(1, Own.box 5 (fun zi => (rowG heCell default hs) i (0 + zi)) 54), (61, Own.amap (bmap (((hs.take i).foldl (deskS p k tg ph) D).heard))), (1000, Own.box 3 (upd (fun zt => kill 60 ((cmpG [SV.own 60, SV.own 61, bv (((hs.take i).foldl (deskS p k tg ph) D).stop)]) zt)) 0 (SV.own 2)) 118), (2, ownOf caCell 4 default ((((hs.take i).foldl (deskS p k tg ph) D).calls) ++ ([⟨(hs.getD i default).id, k, tg, ph⟩])) 51)]⟩ _
      refine We ?_ ?_
      ·exact ⟨V rfl, V rfl, V rfl, V rfl, V rfl, V rfl, V rfl, V rfl, V rfl, Va (V rfl) (An rfl), V rfl, V rfl, V rfl, V rfl, V rfl, V rfl, V rfl, V rfl, V rfl, V rfl, V rfl, V rfl, V rfl, Z⟩
      ·exact ⟨⟨_, rfl, ⟨rfl, rfl, (An rfl)⟩⟩, ⟨_, rfl, rfl⟩, ⟨_, rfl, ⟨rfl, rfl, (An rfl)⟩⟩, ⟨_, rfl, rfl⟩, Z⟩
     refine Sq <| c_rd (fun e => ⟨[(49, cj (e 0) (SV.bp 1000 0)), (50, cj (e 1) (SV.bp 1000 0)), (51, cj (e 2) (SV.bp 1000 1)), (52, cj (e 3) (SV.own 61)), (53, cj (e 4) (SV.bp 1 4)), (54, cj (e 5) (iv ((hs.getD i default).id))), (0, SV.bp 1000 0), (2, iv (k)), (3, iv (tg)), (4, iv (ph)), (5, fnA f caps), (13, SV.bp 1 0), (18, heRow hs), (19, iv ((hs.length : Int))), (20, iv ((i : Int)))], (cb (e 6) [(1, Own.box 5 (fun zi => (rowG heCell default hs) i (0 + zi)) 54), (2, ownOf caCell 4 default ((((hs.take i).foldl (deskS p k tg ph) D).calls) ++ ([⟨(hs.getD i default).id, k, tg, ph⟩])) 51), (61, Own.amap (bmap (kput (((hs.take i).foldl (deskS p k tg ph) D).heard) ((hs.getD i default).id) true))), (1000, Own.box 3 (upd (fun zt => kill 60 ((cmpG [SV.own 60, SV.own 61, bv (((hs.take i).foldl (deskS p k tg ph) D).stop)]) zt)) 0 (SV.own 2)) 118)] [(1, Own.box 5 (fun zi => (rowG heCell default hs) i (0 + zi)) 54), (2, ownOf caCell 4 default ((((hs.take i).foldl (deskS p k tg ph) D).calls) ++ ([⟨(hs.getD i default).id, k, tg, ph⟩])) 51), (61, Own.amap (bmap (((hs.take i).foldl (deskS p k tg ph) D).heard))), (1000, Own.box 3 (upd (fun zt => kill 60 ((cmpG [SV.own 60, SV.own 61, bv (((hs.take i).foldl (deskS p k tg ph) D).stop)]) zt)) 0 (SV.own 2)) 118)])⟩) ⟨[(49, SV.bp 1000 0), (50, SV.bp 1000 0), (51, SV.bp 1000 1), (52, SV.own 61), (53, SV.bp 1 4), (54, iv ((hs.getD i default).id)), (0, SV.bp 1000 0), (2, iv (k)), (3, iv (tg)), (4, iv (ph)), (5, fnA f caps), (13, SV.bp 1 0), (18, heRow hs), (19, iv ((hs.length : Int))), (20, iv ((i : Int)))], [(1, Own.box 5 (fun zi => (rowG heCell default hs) i (0 + zi)) 54), (2, ownOf caCell 4 default ((((hs.take i).foldl (deskS p k tg ph) D).calls) ++ ([⟨(hs.getD i default).id, k, tg, ph⟩])) 51), (61, Own.amap (bmap (kput (((hs.take i).foldl (deskS p k tg ph) D).heard) ((hs.getD i default).id) true))), (1000, Own.box 3 (upd (fun zt => kill 60 ((cmpG [SV.own 60, SV.own 61, bv (((hs.take i).foldl (deskS p k tg ph) D).stop)]) zt)) 0 (SV.own 2)) 118)]⟩ (by kernel_rfl) (by kernel_rfl) ?_ ⟨?_, ?_, ?_, ?_, ?_, ?_, ?_, Z⟩ ?_ ?_
     ·show Weak _ _ ⟨[(49, SV.junk), (50, SV.junk), (51, SV.junk), (52, SV.junk), (53, SV.junk), (54, SV.junk), (0, SV.bp 1000 0), (2, iv (k)), (3, iv (tg)), (4, iv (ph)), (5, fnA f caps), (13, SV.bp 1 0), (18, heRow hs), (19, iv ((hs.length : Int))), (20, iv ((i : Int)))], [(1, Own.box 5 (fun zi => (rowG heCell default hs) i (0 + zi)) 54), (2, ownOf caCell 4 default ((((hs.take i).foldl (deskS p k tg ph) D).calls) ++ ([⟨(hs.getD i default).id, k, tg, ph⟩])) 51), (61, Own.amap (bmap (((hs.take i).foldl (deskS p k tg ph) D).heard))), (1000, Own.box 3 (upd (fun zt => kill 60 ((cmpG [SV.own 60, SV.own 61, bv (((hs.take i).foldl (deskS p k tg ph) D).stop)]) zt)) 0 (SV.own 2)) 118)]⟩
      refine We ?_ ?_
      ·exact ⟨Vj, Vj, Vj, Vj, Vj, Vj, V rfl, V rfl, V rfl, V rfl, V rfl, V rfl, V rfl, V rfl, V rfl, Z⟩
      ·exact ⟨⟨_, rfl, ⟨rfl, rfl, (An rfl)⟩⟩, ⟨_, rfl, rfl⟩, ⟨_, rfl, rfl⟩, ⟨_, rfl, ⟨rfl, rfl, (An rfl)⟩⟩, Z⟩
     ·intro e hdn he hdp
      obtain ⟨-, -, -, h6, -⟩ := dns1 hdn he [1, 2, 3, 6] (by kernel_rfl)
      simp only [setE, he, h6, cj_t, cj_f, cjn_t, cjn_f, cb_t, cb_f]
      refine U (Mv (V rfl)) <| Nt <| We ?_ ?_
      ·exact (Vs rfl)
      ·exact ⟨⟨_, rfl, ⟨rfl, rfl, (An rfl)⟩⟩, ⟨_, rfl, rfl⟩, ⟨_, rfl, rfl⟩, ⟨_, rfl, ⟨rfl, rfl, (An rfl)⟩⟩, Z⟩
     ·intro e hdn he hdp
      obtain ⟨h0, -⟩ := ups hdn [0] hdp (by kernel_rfl)
      obtain ⟨-, -, h6, -⟩ := dns1 hdn he [2, 3, 6] (by kernel_rfl)
      simp only [setE, h0, he, h6, cj_t, cj_f, cjn_t, cjn_f, cb_t, cb_f]
      refine U (q_nilB (V rfl)) <| Nt <| We ?_ ?_
      ·exact (Vs rfl)
      ·exact ⟨⟨_, rfl, ⟨rfl, rfl, (An rfl)⟩⟩, ⟨_, rfl, rfl⟩, ⟨_, rfl, rfl⟩, ⟨_, rfl, ⟨rfl, rfl, (An rfl)⟩⟩, Z⟩
     ·intro e hdn he hdp
      obtain ⟨h1, h0, -⟩ := ups hdn [1, 0] hdp (by kernel_rfl)
      obtain ⟨-, h6, -⟩ := dns1 hdn he [3, 6] (by kernel_rfl)
      simp only [setE, h0, h1, he, h6, cj_t, cj_f, cjn_t, cjn_f, cb_t, cb_f]
      refine U (FlB _ _ (V rfl) Un118 rfl 0 Sz49) <| Nt <| We ?_ ?_
      ·exact (Vs rfl)
      ·exact ⟨⟨_, rfl, ⟨rfl, rfl, (An rfl)⟩⟩, ⟨_, rfl, rfl⟩, ⟨_, rfl, rfl⟩, ⟨_, rfl, ⟨rfl, rfl, (An rfl)⟩⟩, Z⟩
     ·intro e hdn he hdp
      obtain ⟨h2, h1, h0, -⟩ := ups hdn [2, 1, 0] hdp (by kernel_rfl)
      obtain ⟨h6, -⟩ := dns1 hdn he [6] (by kernel_rfl)
      simp only [setE, h0, h1, h2, he, h6, cj_t, cj_f, cjn_t, cjn_f, cb_t, cb_f]
      refine U (LdB (V rfl) rfl Ga49 (by decide)) <| Nt <| We ?_ ?_
      ·exact (Vs rfl)
      ·exact ⟨⟨_, rfl, ⟨rfl, rfl, (An rfl)⟩⟩, ⟨_, rfl, rfl⟩, ⟨_, rfl, rfl⟩, ⟨_, rfl, ⟨rfl, rfl, (An rfl)⟩⟩, Z⟩
     ·intro e hdn he hdp
      obtain ⟨-, h6, -⟩ := dns1 hdn he [5, 6] (by kernel_rfl)
      simp only [setE, he, h6, cj_t, cj_f, cjn_t, cjn_f, cb_t, cb_f]
      refine U (FlB _ _ (V rfl) Un54 rfl 0 Sz3) <| Nt <| We ?_ ?_
      ·exact (Vs rfl)
      ·exact ⟨⟨_, rfl, ⟨rfl, rfl, (An rfl)⟩⟩, ⟨_, rfl, rfl⟩, ⟨_, rfl, rfl⟩, ⟨_, rfl, ⟨rfl, rfl, (An rfl)⟩⟩, Z⟩
     ·intro e hdn he hdp
      obtain ⟨h4, -⟩ := ups hdn [4] hdp (by kernel_rfl)
      obtain ⟨h6, -⟩ := dns1 hdn he [6] (by kernel_rfl)
      simp only [setE, h4, he, h6, cj_t, cj_f, cjn_t, cjn_f, cb_t, cb_f]
      refine U (LdB (V rfl) rfl Ga3 (by decide)) <| Nt <| We ?_ ?_
      ·exact (Vs rfl)
      ·exact ⟨⟨_, rfl, ⟨rfl, rfl, (An rfl)⟩⟩, ⟨_, rfl, rfl⟩, ⟨_, rfl, rfl⟩, ⟨_, rfl, ⟨rfl, rfl, (An rfl)⟩⟩, Z⟩
     ·intro e hdn he hdp
      obtain ⟨h5, h4, h3, h2, h1, h0, -⟩ := ups hdn [5, 4, 3, 2, 1, 0] hdp (by kernel_rfl)
      simp only [setE, h0, h1, h2, h3, h4, h5, he, cj_t, cj_f, cjn_t, cjn_f, cb_t, cb_f]
      refine t_putB (l := ((hs.take i).foldl (deskS p k tg ph) D).heard) (.inr rfl) Un49 Un3 (V rfl) rfl (V rfl) K <| Nt <| We ?_ ?_
      ·exact (Vs rfl)
      ·exact ⟨⟨_, rfl, ⟨rfl, rfl, (An rfl)⟩⟩, ⟨_, rfl, rfl⟩, ⟨_, rfl, rfl⟩, ⟨_, rfl, ⟨rfl, rfl, (An rfl)⟩⟩, Z⟩
     ·intro e he
      have h0 := he 0 (by decide)
      have h1 := he 1 (by decide)
      have h2 := he 2 (by decide)
      have h3 := he 3 (by decide)
      have h4 := he 4 (by decide)
      have h5 := he 5 (by decide)
      have h6 := he 6 (by decide)
      show Weak _ ⟨[(49, cj (e 0) (SV.bp 1000 0)), (50, cj (e 1) (SV.bp 1000 0)), (51, cj (e 2) (SV.bp 1000 1)), (52, cj (e 3) (SV.own 61)), (53, cj (e 4) (SV.bp 1 4)), (54, cj (e 5) (iv ((hs.getD i default).id))), (0, SV.bp 1000 0), (2, iv (k)), (3, iv (tg)), (4, iv (ph)), (5, fnA f caps), (13, SV.bp 1 0), (18, heRow hs), (19, iv ((hs.length : Int))), (20, iv ((i : Int)))], (cb (e 6) [(1, Own.box 5 (fun zi => (rowG heCell default hs) i (0 + zi)) 54), (2, ownOf caCell 4 default ((((hs.take i).foldl (deskS p k tg ph) D).calls) ++ ([⟨(hs.getD i default).id, k, tg, ph⟩])) 51), (61, Own.amap (bmap (kput (((hs.take i).foldl (deskS p k tg ph) D).heard) ((hs.getD i default).id) true))), (1000, Own.box 3 (upd (fun zt => kill 60 ((cmpG [SV.own 60, SV.own 61, bv (((hs.take i).foldl (deskS p k tg ph) D).stop)]) zt)) 0 (SV.own 2)) 118)] [(1, Own.box 5 (fun zi => (rowG heCell default hs) i (0 + zi)) 54), (2, ownOf caCell 4 default ((((hs.take i).foldl (deskS p k tg ph) D).calls) ++ ([⟨(hs.getD i default).id, k, tg, ph⟩])) 51), (61, Own.amap (bmap (((hs.take i).foldl (deskS p k tg ph) D).heard))), (1000, Own.box 3 (upd (fun zt => kill 60 ((cmpG [SV.own 60, SV.own 61, bv (((hs.take i).foldl (deskS p k tg ph) D).stop)]) zt)) 0 (SV.own 2)) 118)])⟩ _
      simp only [h0, h1, h2, h3, h4, h5, h6]
      show Weak _ ⟨[(49, SV.bp 1000 0), (50, SV.bp 1000 0), (51, SV.bp 1000 1), (52, SV.own 61), (53, SV.bp 1 4), (54, iv ((hs.getD i default).id)), (0, SV.bp 1000 0), (2, iv (k)), (3, iv (tg)), (4, iv (ph)), (5, fnA f caps), (13, SV.bp 1 0), (18, heRow hs), (19, iv ((hs.length : Int))), (20, iv ((i : Int)))], [(1, Own.box 5 (fun zi => (rowG heCell default hs) i (0 + zi)) 54), (2, ownOf caCell 4 default ((((hs.take i).foldl (deskS p k tg ph) D).calls) ++ ([⟨(hs.getD i default).id, k, tg, ph⟩])) 51), (61, Own.amap (bmap (kput (((hs.take i).foldl (deskS p k tg ph) D).heard) ((hs.getD i default).id) true))), (1000, Own.box 3 (upd (fun zt => kill 60 ((cmpG [SV.own 60, SV.own 61, bv (((hs.take i).foldl (deskS p k tg ph) D).stop)]) zt)) 0 (SV.own 2)) 118)]⟩ _
      refine We ?_ ?_
      ·exact ⟨V rfl, V rfl, V rfl, V rfl, V rfl, V rfl, V rfl, V rfl, V rfl, V rfl, V rfl, V rfl, V rfl, V rfl, V rfl, Z⟩
      ·exact ⟨⟨_, rfl, ⟨rfl, rfl, (An rfl)⟩⟩, ⟨_, rfl, rfl⟩, ⟨_, rfl, rfl⟩, ⟨_, rfl, ⟨rfl, rfl, (An rfl)⟩⟩, Z⟩
     refine Rt <| U (Mv (V rfl)) <| U (Mv (V rfl)) <| U (q_nilB (V rfl)) <| U (FlB _ _ (V rfl) Un118 rfl 0 Sz4) <| U (LdB (V rfl) rfl Ga4 (by decide)) <| U (Mv (V rfl)) <| Ug (Gn rfl rfl) (fun hg => FlB _ _ (V rfl) Un54 rfl 0 Sz4) <| Ug (Gn rfl rfl) (fun hg => LdB (Vg (V rfl) hg) rfl Ga4 (by decide)) <| U (Qr (V rfl) (fun h => Vg (V rfl) (notT h))) <| U (q_nilB (V rfl)) <| U (FlB _ _ (V rfl) Un118 rfl 0 Sz4) <| St1 (V rfl) rfl (V rfl) rfl Sz4 (by decide) <| Nt <| Rq <| O (Ad (V rfl) K (by omega)) <| O (Mv (V rfl)) <| Nq <| k_mv 2 60 rfl rfl <| k_ownE 60 (((hs.take ((i + 1))).foldl (deskS p k tg ph) D).calls) rfl (by first | exact congrArg (fun D : Desk => D.calls) (desk_yes (p := p) (tg := tg) (ph := ph) (D := D) hil hyes) | exact (congrArg (fun D : Desk => D.calls) (desk_yes (p := p) (tg := tg) (ph := ph) (D := D) hil hyes)).symm) <| k_mapE 61 (bmap (((hs.take ((i + 1))).foldl (deskS p k tg ph) D).heard)) rfl (by first | exact congrArg (fun D : Desk => bmap D.heard) (desk_yes (p := p) (tg := tg) (ph := ph) (D := D) hil hyes) | exact (congrArg (fun D : Desk => bmap D.heard) (desk_yes (p := p) (tg := tg) (ph := ph) (D := D) hil hyes)).symm) <| Nx (i + 1) (by show (i + 1) ≤ hs.length; first | omega | (simp; done) | (refine ⟨?_, ?_⟩ <;> first | omega | (simp; done))) (by show hs.length - (i + 1) < hs.length - i; omega) (We (ow := [(60, ownOf caCell 4 default (((hs.take ((i + 1))).foldl (deskS p k tg ph) D).calls) 51), (61, Own.amap (bmap (((hs.take ((i + 1))).foldl (deskS p k tg ph) D).heard))), (1000, Own.box 3 (cmpG [SV.own 60, SV.own 61, bv (((hs.take ((i + 1))).foldl (deskS p k tg ph) D).stop)]) 118)]) (Vs rfl) (by exact ⟨⟨_, rfl, rfl⟩, ⟨_, rfl, rfl⟩, ⟨_, rfl, ⟨rfl, rfl, ⟨⟨⟨Z, rfl⟩, rfl⟩, (congrArg (fun D : Desk => bv D.stop) (desk_yes (p := p) (tg := tg) (ph := ph) (D := D) hil hyes)).symm⟩⟩⟩, Z⟩))
   ·have hc2s := hc2; try simp only [BL] at hc2s
    exact Ex <| k_mv 60 0 rfl rfl <| k_mv 61 1 rfl rfl <| k_ownE 0 ((atD p k tg ph hs D).calls) rfl (by rw [atD_2 hc1, List.take_of_length_le (by omega)]) <| k_mapE 1 (bmap ((atD p k tg ph hs D).heard)) rfl (by rw [atD_2 hc1, List.take_of_length_le (by omega)]) <| endM0 rfl (by exact ⟨⟨_, rfl, ⟨rfl, rfl, ⟨⟨⟨Z, rfl⟩, rfl⟩, (congrArg (fun D : Desk => bv D.stop) (by rw [atD_2 hc1, List.take_of_length_le (by omega)]))⟩⟩⟩, ⟨_, rfl, rfl⟩, ⟨_, rfl, rfl⟩, Z⟩) rfl
theorem cloneH_ct (l : List He) (hl : l.length ≤ 5864062014634) : CtM Try.prog 87 [heRow l] [] (SV.own 0) [(0, ownOf heCell 5 default l 54)] := by
 refine CmO 8 Try.func87 rfl rfl rfl fun E => Rl (V (s := 0) rfl) fun hl0 => Sq <| Rt <| t_nilO 1 5 (rowG heCell default []) 54 (.inl rfl) rfl <| Nt <| Sq <| Sq <| Rq <| O (Mv (V rfl)) <| tq_isnil (V rfl) (eqnil Un45) fun isn hisn => Nq <| Cd (V rfl) (fun hc1 => ?_) (fun hc1 => ?_)
 ·have hc1s := hc1; try simp only [BL] at hc1s
  exact Sq <| Rt <| t_nilO 2 5 (rowG heCell default []) 54 (.inl rfl) rfl <| Nt <| c_mv 2 0 rfl rfl <| c_ownE 0 l rfl (by exact (List.eq_nil_of_length_eq_zero (hisn hc1)).symm) <| Rx <| M1 rfl (V rfl) (by exact ⟨⟨_, rfl, rfl⟩, Z⟩) (by show SV.own 0 = SV.own 0; rfl)
 ·have hc1s := hc1; try simp only [BL] at hc1s
  exact Sk <| Sq <| Rt <| t_bs0 3 (rowG heCell default []) Un45 Sz54 rfl <| U (Mv (V rfl)) <| Ap 4 (rowG heCell default (([]) ++ l)) eo45 (V rfl) rfl (V rfl) rfl (len_app ([]) l) (by first | (simp only [maxLen, List.length_append, List.length_set, List.length_nil, List.length_cons]; omega) | (simp only [maxLen]; omega)) (by first | (simp only [List.length_append, List.length_set, List.length_nil, List.length_cons]; omega) | (omega)) (app_typed (l := ([])) (m := l)) <| U (As (V rfl)) <| Nt <| c_mv 4 0 rfl rfl <| c_ownE 0 l rfl (by rfl) <| Rx <| M1 rfl (V rfl) (by exact ⟨⟨_, rfl, rfl⟩, Z⟩) (by show SV.own 0 = SV.own 0; rfl)
theorem del108_ct {f : FuncId} {caps : List SV} (p : He → Bool) (hE : Enters Try.prog f) (hro : allRO caps = true) (hC : ∀ x, Ct Try.prog f ([.agg 5 (heCell x)] ++ caps) (bv (p x))) (l : List He) (hl : l.length ≤ 1000000000) : CtM Try.prog 108 [SV.own 1000, fnA f caps] [(1000, ownOf heCell 5 default l 54)] (SV.own 0) [(0, ownOf heCell 5 default (l.filter fun x => !p x) 54)] := by
 refine CmO 42 Try.func108 rfl rfl rfl fun E => Sq <| Rq <| O (As (Vn (k := 5) (get := rowG heCell default []))) <| Nq <| Sq <| Rq <| O (Mv (V rfl)) <| O (Mv (V rfl)) <| CQb en34 (by exact ⟨(vb_own (V rfl) rfl), (vb_ro (V rfl) rfl), Z⟩) (idxf34_ct p hE hro hC l) <| O (As (V rfl)) <| Nq <| Sq <| Sq <| Rq <| O (Mv (V rfl)) <| O (Ql (V rfl) K) <| Nq <| Cd (V rfl) (fun hc1 => ?_) (fun hc1 => ?_)
 ·have hc1s := hc1; try simp only [BL] at hc1s
  exact Sq <| Rq <| O (Mv (V rfl)) <| O (As (V rfl)) <| Nq <| c_mv 1000 0 rfl rfl <| c_ownE 0 (l.filter fun x => !p x) rfl (by exact del_none hc1s default) <| Rx <| M1 rfl (V rfl) (by exact ⟨⟨_, rfl, rfl⟩, Z⟩) (by show SV.own 0 = SV.own 0; rfl)
 ·have hc1s := hc1; try simp only [BL] at hc1s
  obtain ⟨i0, he0, hi0, hp0, hall0⟩ := (idxF_cases p default l).resolve_left fun h => hc1s h.1
  refine Sk <| Sq <| Sq <| Rq <| O (Mv (V rfl)) <| O (Ad (V rfl) K (by first | omega | (rw [he0]; omega))) <| O (As (V rfl)) <| Nq <| Bo <| c_ownE 1000 (delA p l ((i0 + 1))) rfl (by exact delA_0 default hi0 hp0 hall0) <| Lo (fun (j : Nat) => ⟨[(0, SV.own 1000), (1, fnA f caps), (5, iv (((keptL p l j).length : Int))), (6, iv ((j : Int)))], [(1000, ownOf heCell 5 default (delA p l j) 54)]⟩) (fun (j : Nat) => j ≤ l.length) (fun (j : Nat) => l.length - j) (i0 + 1) (by show (i0 + 1) ≤ l.length; show i0 + 1 ≤ l.length; omega) (We (sl := [(0, SV.own 1000), (1, fnA f caps), (5, iv (((keptL p l ((i0 + 1))).length : Int))), (6, iv (((i0 + 1) : Int)))]) (by exact ⟨V rfl, V rfl, val_eq (V rfl) (congrArg iv (he0.trans (by rw [kept_0 default hi0 hp0 hall0, List.length_take, Nat.min_eq_left (Nat.le_of_lt hi0)]))), val_eq (V rfl) (congrArg iv (by rw [he0])), Z⟩) (AOs rfl)) <| ?_
  ·rintro j hI1
   have hJ1 : j ≤ l.length := hI1
   have hjl := hJ1
   have hdl := delA_len p l j
   have hkl := kept_le p l j
   refine Sq <| Sq <| Rq <| O (Mv (V rfl)) <| O (Mv (V rfl)) <| O (LnO (V rfl) rfl ts45) <| O (Lt (V rfl) (V rfl)) <| Nq <| Cd (V rfl) (fun hc2 => ?_) (fun hc2 => ?_)
   ·have hc2s := hc2; try simp only [BL] at hc2s
    have hjj : j < l.length := by omega
    refine Sk <| Sq <| Bo <| Sq <| Rt <| U (Mv (V rfl)) <| U (Mv (V rfl)) <| U (IOn (i := j) (V rfl) rfl (V rfl) ts45 te45 (by omega)) <| U (LOA (V rfl) rfl Ga54 Sz54 (by decide)) <| Al 1 zero54 rfl rfl <| StA (V rfl) rfl (V rfl) Sz54 <| Nt <| Sq <| Rq <| O (Mv (V rfl)) <| O (LBA (V rfl) rfl Ga54 Sz54 (by decide)) <| CQv (args := [SV.agg 5 (heCell ⟨((delA p l j).getD j default).pl, ((delA p l j).getD j default).down, ((delA p l j).getD j default).once, ((delA p l j).getD j default).stops, ((delA p l j).getD j default).id⟩)]) (caps := caps) (fnval_A (V rfl)) hro hE (by exact ⟨⟨(Vi (g' := heCell ⟨((delA p l j).getD j default).pl, ((delA p l j).getD j default).down, ((delA p l j).getD j default).once, ((delA p l j).getD j default).stops, ((delA p l j).getD j default).id⟩) (V rfl) ⟨⟨⟨⟨⟨Z, Ir⟩, Ir⟩, Ir⟩, Ir⟩, Ir⟩), rfl⟩, Z⟩) (hC ((delA p l j).getD j default)) <| O (Qo (V rfl)) <| Nq <| Cd (V rfl) (fun hc3 => ?_) (fun hc3 => ?_)
    ·have hc3s := hc3; try simp only [BL] at hc3s
     have hpj : p (l.getD j default) = false := by rw [delA_at default hjj] at hc3; simpa using hc3
     exact Sq <| Rt <| U (Mv (V rfl)) <| U (Mv (V rfl)) <| U (LBA (V rfl) rfl Ga54 Sz54 (by decide)) <| U (IOn (i := (keptL p l j).length) (V rfl) rfl (V rfl) ts45 te45 (by omega)) <| t_stOAT (⟨((delA p l j).getD j default).pl, ((delA p l j).getD j default).down, ((delA p l j).getD j default).once, ((delA p l j).getD j default).stops, ((delA p l j).getD j default).id⟩) (V rfl) rfl (Vi (g' := heCell ⟨((delA p l j).getD j default).pl, ((delA p l j).getD j default).down, ((delA p l j).getD j default).once, ((delA p l j).getD j default).stops, ((delA p l j).getD j default).id⟩) (V rfl) ⟨⟨⟨⟨⟨Z, Ir⟩, Ir⟩, Ir⟩, Ir⟩, Ir⟩) (An rfl) Sz54 (by omega) (An rfl) <| Nt <| Rq <| O (Mv (V rfl)) <| O (Ad (V rfl) K (by first | omega | (rw [he0]; omega))) <| O (As (V rfl)) <| Nq <| Rq <| O (Mv (V rfl)) <| O (Ad (V rfl) K (by first | omega | (rw [he0]; omega))) <| O (As (V rfl)) <| Nq <| k_ownE 1000 (delA p l ((j + 1))) rfl (by rw [delA_at default hjj]; exact delA_no default hjj hpj) <| Nx (j + 1) (by show (j + 1) ≤ l.length; omega) (by show l.length - (j + 1) < l.length - j; omega) (We (sl := [(0, SV.own 1000), (1, fnA f caps), (5, iv (((keptL p l ((j + 1))).length : Int))), (6, iv (((j + 1) : Int)))]) (by exact ⟨V rfl, V rfl, val_eq (V rfl) (congrArg iv (by rw [kept_no default hjj hpj, List.length_append]; rfl)), V rfl, Z⟩) (AOs rfl))
    ·have hc3s := hc3; try simp only [BL] at hc3s
     have hpj : p (l.getD j default) = true := by rw [delA_at default hjj] at hc3; simpa using hc3
     exact Sk <| Rq <| O (Mv (V rfl)) <| O (Ad (V rfl) K (by first | omega | (rw [he0]; omega))) <| O (As (V rfl)) <| Nq <| k_ownE 1000 (delA p l ((j + 1))) rfl (by exact delA_yes default hjj hpj) <| Nx (j + 1) (by show (j + 1) ≤ l.length; omega) (by show l.length - (j + 1) < l.length - j; omega) (We (sl := [(0, SV.own 1000), (1, fnA f caps), (5, iv (((keptL p l ((j + 1))).length : Int))), (6, iv (((j + 1) : Int)))]) (by exact ⟨V rfl, V rfl, val_eq (V rfl) (congrArg iv (by rw [kept_yes default hjj hpj])), V rfl, Z⟩) (AOs rfl))
   ·have hc2s := hc2; try simp only [BL] at hc2s
    exact Ex <| Sq <| Rt <| U (Mv (V rfl)) <| U (Mv (V rfl)) <| U (q_slOL ts45 te45 (V rfl) rfl (V rfl) (by omega) (by first | omega | (rw [ovr_len (by rw [List.length_replicate]; omega)]; omega))) <| t_clrT (⟨0, false, false, false, 0⟩) Un45 zero54 (V rfl) rfl (by decide) (by omega) ⟨⟨⟨⟨⟨Z, impO_rfl⟩, impO_rfl⟩, impO_rfl⟩, impO_rfl⟩, impO_rfl⟩ <| Nt <| Sq <| Rq <| O (Mv (V rfl)) <| O (Mv (V rfl)) <| O (q_slOH ts45 te45 (V rfl) rfl (V rfl) (by omega) (by first | omega | (rw [ovr_len (by rw [List.length_replicate]; omega)]; omega))) <| O (As (V rfl)) <| Nq <| Tc (turn_cutT 4 1000 2 ((keptL p l j).length) rfl rfl (by rw [ovr_len (by rw [List.length_replicate]; omega)]; omega) rfl (by decide)) <| c_mv 2 0 rfl rfl <| c_ownE 0 (l.filter fun x => !p x) rfl (by exact del_end (by omega) _) <| Rx <| M1 rfl (V rfl) (by exact ⟨⟨_, rfl, rfl⟩, Z⟩) (by show SV.own 0 = SV.own 0; rfl)
theorem once_ct (x : He) (C : List Ca) (M : List (Int × Bool)) (S : Bool) : Ct Try.prog 109 [SV.agg 5 (heCell x), elB [elB [caRow C, mapSV (bmap M), bv (S)] 0] 0] (bv (x.once && (kget M x.id).getD false)) := by
 exact CtO 15 Try.func109 rfl rfl rfl fun E => Sq <| Rt <| BxA 1 (V rfl) rfl rfl <| U (As K) <| Nt <| Sq <| Rqd (by kernel_rfl) (by kernel_rfl) <| O (FlB _ _ (V rfl) Un54 rfl 0 Sz4) <| O (LdB (V rfl) rfl Ga4 (by decide)) <| O (Mv (V rfl)) <| Og (Gy rfl rfl) (fun hg => Ld (V rfl) Ga116 (by show 0 < 1; decide)) <| Og (Gy rfl rfl) (fun hg => q_nilE (Vg (V rfl) hg)) <| Og (Gy rfl rfl) (fun hg => Fl _ _ (Vg (V rfl) hg) Un118 rfl 0 Sz49) <| Og (Gy rfl rfl) (fun hg => Ld (Vg (V rfl) hg) Ga49 (by show 1 < 3; decide)) <| Og (Gy rfl rfl) (fun hg => FlB _ _ (V rfl) Un54 rfl 0 Sz3) <| Og (Gy rfl rfl) (fun hg => LdB (Vg (V rfl) hg) rfl Ga3 (by decide)) <| Og (Gy rfl rfl) (fun hg => q_lookB1R (l := M) Un49 Un3 (fun w => Try.zeroValue4 w) (Vg (V rfl) hg) (Vg (V rfl) hg)) <| O (Qa (V rfl) (fun h => Vg (V rfl) h)) <| O (As (V rfl)) <| Nq <| Rx <| R1 rfl (V rfl) rfl (by show bv (x.once && ((kget M x.id).getD false)) = bv (x.once && (kget M x.id).getD false); rfl)
end Go.Proofs.Ytmcdamcedemdiaa
namespace Go.Proofs.Ytmcdamcedemdiaa
open Go.RowKit Go.Eng
theorem eqCa_ct (l m : List Ca) : Ct Try.prog 88 [caRow l, caRow m] (bv (decide (l = m))) := by
 refine CtO 26 Try.func88 rfl rfl rfl fun E => Rl (V (s := 0) rfl) fun hl0 => Rl (V (s := 1) rfl) fun hl1 => Sq <| Rq <| O (As K) <| Nq <| Sq <| Sq <| Rq <| O (Mv (V rfl)) <| O (Ln (V rfl) ts46) <| O (Mv (V rfl)) <| O (Ln (V rfl) ts46) <| O (Qn (V rfl) (V rfl)) <| Nq <| Cd (V rfl) (fun hc1 => ?_) (fun hc1 => ?_)
 ·have hc1s := hc1; try simp only [BL] at hc1s
  exact Sq <| Rq <| O (As K) <| Nq <| Rx <| R1 rfl (V rfl) rfl (by show bv (false) = bv (decide (l = m)); rw [decide_eq_false (fun h => by rw [h] at hc1s; simp at hc1s)])
 ·have hc1s := hc1; try simp only [BL] at hc1s
  refine Sk <| Sq <| Sq <| Rq <| O (Mv (V rfl)) <| O (Ln (V rfl) ts46) <| O (Mv K) <| Nq <| Bo <| Lo (fun (i : Nat) => ⟨[(0, caRow l), (1, caRow m), (12, iv ((l.length : Int))), (13, iv ((i : Int)))], []⟩) (fun (i : Nat) => i ≤ l.length ∧ samePre default l m i) (fun (i : Nat) => l.length - i) 0 (by show 0 ≤ l.length ∧ samePre default l m 0; exact ⟨Nat.zero_le _, samePre_0 (by omega)⟩) (We (Vs rfl) Z) <| ?_
  ·rintro i hI1
   have hJ1 : i ≤ l.length ∧ samePre default l m i := hI1
   have hlm := hJ1.2.1
   refine Sq <| Rq <| O (Lt (V rfl) (V rfl)) <| Nq <| Sq <| Cd (V rfl) (fun hc2 => ?_) (fun hc2 => ?_)
   ·have hc2s := hc2; try simp only [BL] at hc2s
    refine Sk <| Sq <| Bo <| Sq <| Rq <| O (Mv (V rfl)) <| O (As (V rfl)) <| Nq <| Sq <| Rqd (by kernel_rfl) (by kernel_rfl) <| O (Mv (V rfl)) <| O (Mv (V rfl)) <| O (IxN (i := i) (V rfl) (V rfl) ts46 te46 (by omega)) <| O (LdA (V rfl) Ga51 Sz51 (by decide)) <| O (Mv (V rfl)) <| O (Mv (V rfl)) <| O (IxN (i := i) (V rfl) (V rfl) ts46 te46 (by omega)) <| O (LdA (V rfl) Ga51 Sz51 (by decide)) <| O (q_eqS (caVal ((l.getD i default))) (caVal ((m.getD i default))) (V rfl) (V rfl) ⟨⟨⟨⟨Z, rfl⟩, rfl⟩, rfl⟩, rfl⟩ ⟨⟨⟨⟨Z, rfl⟩, rfl⟩, rfl⟩, rfl⟩ (fun w => neS51 _ _ _ _ w)) <| Nq <| Cd (V rfl) (fun hc3 => ?_) (fun hc3 => ?_)
    ·have hc3s := hc3; try simp only [BL] at hc3s
     exact Sq <| Rq <| O (As K) <| Nq <| Rx <| R1 rfl (V rfl) rfl (by show bv (false) = bv (decide (l = m)); rw [decide_eq_false (samePre_ne (i := i) (d := default) (by simpa using hc3))])
    ·have hc3s := hc3; try simp only [BL] at hc3s
     exact Sk <| Rq <| O (Ad (V rfl) K (by omega)) <| O (Mv (V rfl)) <| Nq <| Nx (i + 1) (by show (i + 1) ≤ l.length ∧ samePre default l m (i + 1); exact ⟨by omega, samePre_s hJ1.2 (by simpa using hc3)⟩) (by show l.length - (i + 1) < l.length - i; omega) (We (Vs rfl) Z)
   ·have hc2s := hc2; try simp only [BL] at hc2s
    exact Ex <| Sq <| Rq <| O (As K) <| Nq <| Rx <| R1 rfl (V rfl) rfl (by show bv (true) = bv (decide (l = m)); rw [decide_eq_true (samePre_eq hJ1.2 (by omega))])
theorem path_ok_ct (l : List Nd) (t : Hd) (hb : ∀ n ∈ l, n.kids.length ≤ 17592186043904) (h : firstSt l [t] = 0) : Ct Try.prog 33 [SV.agg 1 (stG l), SV.agg 2 (hdCell t)] (sv2 (inRow (line l t.pl)) (iv 0)) := by
  have h1 := path_ct l t hb
  rw [path_2 h] at h1
  exact h1
theorem disp_ct (l : List Nd) (hs : List He) (t : Hd) (hb : ∀ n ∈ l, n.kids.length ≤ 17592186043904) : Ct Try.prog 31 [SV.agg 1 (stG l), heRow hs, SV.agg 2 (hdCell t)] (sv3 (caRow (dispSt l hs t).1) (heRow (dispSt l hs t).2.1) (iv (dispSt l hs t).2.2)) := by
 refine CtO 103 Try.func31 rfl rfl rfl fun E => row_lenA 0 (V (s := 0) rfl) rfl rfl fun hl0_0 => Rl (V (s := 1) rfl) fun hl1 => Sq <| Rt <| BxA 1 (V rfl) rfl rfl <| BxA 2 (V rfl) rfl rfl <| U (As (Vn (k := 4) (get := rowG caCell default []))) <| U (As (Vn (k := 5) (get := rowG heCell default []))) <| U (As K) <| Nt <| Sq <| Sq <| Rt <| U (LBA (V rfl) rfl Ga24 Sz24 (by decide)) <| U (LBA (V rfl) rfl Ga26 Sz26 (by decide)) <| CT en46 (by exact ⟨⟨(Vi (g' := stG l) (V rfl) ⟨Z, Ir⟩), rfl⟩, ⟨(Vi (g' := hdCell ⟨t.pl, t.use⟩) (V rfl) ⟨⟨Z, Ir⟩, Ir⟩), rfl⟩, Z⟩) (find_ct l t (by first | assumption | exact kb_nil | exact kb_of (by assumption) | exact kb_of fam_c5)) <| U (Mv (V rfl)) <| U (Xt (V rfl) (by decide)) <| U (Xt (V rfl) (by decide)) <| Al 3 zero61 rfl rfl <| StA (V rfl) rfl (V rfl) Sz61 <| U (As (V rfl)) <| Nt <| Sq <| Rq <| O (Mv (V rfl)) <| O (Qn (V rfl) K) <| Nq <| Cd (V rfl) (fun hc1 => ?_) (fun hc1 => ?_)
 ·have hc1s := hc1; try simp only [BL] at hc1s
  exact Sq <| Rq <| O (Mv (V rfl)) <| O (As (Vn (k := 4) (get := rowG caCell default []))) <| O (As (Vn (k := 5) (get := rowG heCell default []))) <| O (As (V rfl)) <| Nq <| Rx <| R3 rfl (V rfl) (V rfl) (V rfl) rfl rfl rfl (by show sv3 (caRow ([])) (heRow ([])) (iv ((findSt l t).2)) = sv3 (caRow (dispSt l hs t).1) (heRow (dispSt l hs t).2.1) (iv (dispSt l hs t).2.2); rw [disp_1 (t := t) (fun q => hc1s ((first_find l t).symm.trans q)), first_find])
 ·have hc1s := hc1; try simp only [BL] at hc1s
  have hf0 : firstSt l [t] = 0 := (first_find l t).trans hc1s
  have hcs := (first1 hf0).1
  have h24 := checkSt_len hcs
  have hll := line_len25 hcs t.pl
  refine Sk <| Sq <| Sq <| Rq <| O (Mv (V rfl)) <| O (FlB _ _ (V rfl) Un24 rfl 0 Sz22) <| O (LdB (V rfl) rfl Ga22 (by decide)) <| O (Ln (V rfl) ts22) <| CQ en93 (by exact ⟨⟨(V rfl), rfl⟩, ⟨(V rfl), rfl⟩, Z⟩) (chkHe_ct hs ((l.length : Int))) <| O (As (V rfl)) <| Nq <| Sq <| Rq <| O (Mv (V rfl)) <| O (Qn (V rfl) K) <| Nq <| Cd (V rfl) (fun hc2 => ?_) (fun hc2 => ?_)
  ·have hc2s := hc2; try simp only [BL] at hc2s
   exact Sq <| Rq <| O (Mv (V rfl)) <| O (As (Vn (k := 4) (get := rowG caCell default []))) <| O (As (Vn (k := 5) (get := rowG heCell default []))) <| O (As (V rfl)) <| Nq <| Rx <| R3 rfl (V rfl) (V rfl) (V rfl) rfl rfl rfl (by show sv3 (caRow ([])) (heRow ([])) (iv (chkHe hs ((l.length : Int)))) = sv3 (caRow (dispSt l hs t).1) (heRow (dispSt l hs t).2.1) (iv (dispSt l hs t).2.2); rw [disp_2 hf0 hc2s])
  ·have hc2s := hc2; try simp only [BL] at hc2s
   have hl24 := chk_len hc2s
   refine Sk <| Sq <| Rt <| U (LBA (V rfl) rfl Ga24 Sz24 (by decide)) <| U (LBA (V rfl) rfl Ga26 Sz26 (by decide)) <| CT en33 (by exact ⟨⟨(Vi (g' := stG l) (V rfl) ⟨Z, Ir⟩), rfl⟩, ⟨(Vi (g' := hdCell ⟨t.pl, t.use⟩) (V rfl) ⟨⟨Z, Ir⟩, Ir⟩), rfl⟩, Z⟩) (path_ok_ct l t (by assumption) hf0) <| U (Mv (V rfl)) <| U (Xt (V rfl) (by decide)) <| U (Xt (V rfl) (by decide)) <| U (As (V rfl)) <| U (As (V rfl)) <| Nt <| Sq <| Rt <| t_makeMap 4 rfl <| U (q_buildV [(1, SV.own 4)] id (cmpG [SV.v (Value.slice none 0 0), SV.own 4, bv (false)]) zero118 build118 (by exact ⟨⟨rfl, (V rfl), (one_map rfl)⟩, Z⟩) (by decide) ⟨⟨⟨Z, rfl⟩, rfl⟩, rfl⟩) <| BxA 5 (V rfl) rfl rfl <| Al 6 zero116 rfl rfl <| St1 (V rfl) rfl (V rfl) rfl Sz116 (by decide) <| Nt <| Sq <| c_frzB 1 [ndRow l] rfl rfl ⟨Z, rfl⟩ rfl <| c_frzB 2 [iv (t.pl), iv (t.use)] rfl rfl ⟨⟨Z, rfl⟩, rfl⟩ rfl <| Rq <| O (Mk (caps := [elB [ndRow l] 0, elB [iv (t.pl), iv (t.use)] 0]) ⟨(V rfl), (V rfl), Z⟩) <| O (As (V rfl)) <| Nq <| Sq <| Sq <| Rq <| O (Mv (V rfl)) <| O (Ln (V rfl) ts33) <| O (Sb (V rfl) K (by omega)) <| O (As (V rfl)) <| Nq <| Bo <| Tc (turn_nilB 5 0 60 4 (rowG caCell default []) 51 rfl rfl rfl) <| c_mv 4 61 rfl rfl <| c_ownE 60 ((dnR l t.pl hs 0).calls) rfl (by rfl) <| c_mapE 61 (bmap ((dnR l t.pl hs 0).heard)) rfl (by rfl) <| ?_
   refine Lo (fun (a : Nat) => ⟨[(1, heRow hs), (12, inRow (line l t.pl)), (14, SV.bp 6 0), (15, fnL 104 [elB [ndRow l] 0, elB [iv (t.pl), iv (t.use)] 0]), (16, iv (0 + ((line l t.pl).length : Int) - 1 - (a : Int)))], [(5, Own.box 3 (cmpG [SV.own 60, SV.own 61, bv ((dnR l t.pl hs a).stop)]) 118), (6, Own.box 1 (fun zt => SV.renm (mvN 4 61) ((upd (fun _ => SV.v (.pointer none)) 0 (SV.bp 5 0)) zt)) 116), (60, ownOf caCell 4 default ((dnR l t.pl hs a).calls) 51), (61, Own.amap (bmap ((dnR l t.pl hs a).heard)))]⟩) (fun (a : Nat) => a ≤ (line l t.pl).length) (fun (a : Nat) => (line l t.pl).length - a) 0 (by show 0 ≤ (line l t.pl).length; exact Nat.zero_le _) (We (sl := [(1, heRow hs), (12, inRow (line l t.pl)), (14, SV.bp 6 0), (15, fnL 104 [elB [ndRow l] 0, elB [iv (t.pl), iv (t.use)] 0]), (16, iv (0 + ((line l t.pl).length : Int) - 1 - (0 : Int)))]) (ow := [(5, Own.box 3 (cmpG [SV.own 60, SV.own 61, bv ((dnR l t.pl hs 0).stop)]) 118), (6, Own.box 1 (fun zt => SV.renm (mvN 4 61) ((upd (fun _ => SV.v (.pointer none)) 0 (SV.bp 5 0)) zt)) 116), (60, ownOf caCell 4 default ((dnR l t.pl hs 0).calls) 51), (61, Own.amap (bmap ((dnR l t.pl hs 0).heard)))]) (by exact ⟨V rfl, V rfl, V rfl, VF [elB [ndRow l] 0, elB [iv (t.pl), iv (t.use)] 0] (V rfl) (An rfl), val_eq (V rfl) (congrArg iv (by simp)), Z⟩) (by exact ⟨⟨_, rfl, rfl, rfl, (An rfl)⟩, ⟨_, rfl, rfl, rfl, (An rfl)⟩, ⟨_, rfl, rfl⟩, ⟨_, rfl, rfl⟩, Z⟩)) <| ?_
   ·rintro a hI1
    have hJ1 : a ≤ (line l t.pl).length := hI1
    have hal := hJ1
    have hdl := dnR_len (l := l) (t := t.pl) (i := a) hl24
    refine Sq <| Sq <| Rq <| O (Mv (V rfl)) <| O (Ge (V rfl) K) <| Nq <| Cd (V rfl) (fun hc3 => ?_) (fun hc3 => ?_)
    ·have hc3s := hc3; try simp only [BL] at hc3s
     have hka : Int.toNat (0 + ((line l t.pl).length : Int) - 1 - (a : Int)) = (line l t.pl).length - 1 - a := by omega
     have hdn := dn_s (hs := hs) (show a < (line l t.pl).length by omega) (k := ((line l t.pl).getD (Int.toNat (0 + ((line l t.pl).length : Int) - 1 - (a : Int))) 0)) (by rw [hka])
     refine Sk <| Sq <| Bo <| Sq <| Rq <| O (Mv (V rfl)) <| O (Mv (V rfl)) <| O (Ix (V rfl) (V rfl) ts33 te33 (by omega) (by omega)) <| O (Ld (V rfl) Ga3 (by decide)) <| O (As (V rfl)) <| Nq <| Sq <| Rq <| O (Mv (V rfl)) <| O (Mv (V rfl)) <| CQv (args := [iv (((line l t.pl).getD (Int.toNat (0 + ((line l t.pl).length : Int) - 1 - (a : Int))) 0))]) (caps := [elB [ndRow l] 0, elB [iv (t.pl), iv (t.use)] 0]) (fnval_L (VF [elB [ndRow l] 0, elB [iv (t.pl), iv (t.use)] 0] ((V rfl)) (An rfl))) rfl en104 (by exact ⟨⟨(V rfl), rfl⟩, Z⟩) (told_ct (((line l t.pl).getD (Int.toNat (0 + ((line l t.pl).length : Int) - 1 - (a : Int))) 0)) l t (by assumption)) <| O (As (V rfl)) <| O (As K) <| Nq <| Sq <| Sq <| Rq <| O (Mv (V rfl)) <| O (Mv (V rfl)) <| O (Ql (V rfl) (V rfl)) <| Nq <| Cd (V rfl) (fun hc4 => ?_) (fun hc4 => ?_)
     ·have hc4s := hc4; try simp only [BL] at hc4s
      have hdn2 := hdn
      rw [phD, if_pos hc4s] at hdn2
      refine Rq <| O (As K) <| Nq <| Rt <| U (LdB (V rfl) rfl Ga116 (by decide)) <| U (Mv (V rfl)) <| U (Mv (V rfl)) <| U (Mv (V rfl)) <| U (Mv (V rfl)) <| CM (cargs := [SV.bp 1000 0, heRow hs, iv (((line l t.pl).getD (Int.toNat (0 + ((line l t.pl).length : Int) - 1 - (a : Int))) 0)), iv (tgtSt l t.pl (((line l t.pl).getD (Int.toNat (0 + ((line l t.pl).length : Int) - 1 - (a : Int))) 0))), iv (2), fnA 106 ([])]) [(1000, 5), (1001, 60), (1002, 61)] [(0, 7), (1, 8)] en105 (by exact ⟨(V rfl), (V rfl), (V rfl), (V rfl), (V rfl), (VA (Vf) rfl), Z⟩) (deskAt_ct He.down en106 rfl down_ct hs (((line l t.pl).getD (Int.toNat (0 + ((line l t.pl).length : Int) - 1 - (a : Int))) 0)) (tgtSt l t.pl (((line l t.pl).getD (Int.toNat (0 + ((line l t.pl).length : Int) - 1 - (a : Int))) 0))) 2 (dnR l t.pl hs a) (by omega) (by omega)) (by exact ⟨⟨_, rfl, ⟨rfl, rfl, (An rfl)⟩⟩, ⟨_, rfl, rfl⟩, ⟨_, rfl, rfl⟩, Z⟩) rfl rfl rfl rfl <| Nt <| Rq <| O (Mv (V rfl)) <| O (Sb (V rfl) K (by omega)) <| O (As (V rfl)) <| Nq <| k_mv 7 60 rfl rfl <| k_mv 8 61 rfl rfl <| k_ownE 60 ((dnR l t.pl hs ((a + 1))).calls) rfl (by first | exact congrArg (fun D : Desk => D.calls) (hdn2) | exact (congrArg (fun D : Desk => D.calls) (hdn2)).symm) <| k_mapE 61 (bmap ((dnR l t.pl hs ((a + 1))).heard)) rfl (by first | exact congrArg (fun D : Desk => bmap D.heard) (hdn2) | exact (congrArg (fun D : Desk => bmap D.heard) (hdn2)).symm) <| Nx (a + 1) (by show (a + 1) ≤ (line l t.pl).length; first | omega | (simp; done) | (refine ⟨?_, ?_⟩ <;> first | omega | (simp; done))) (by show (line l t.pl).length - (a + 1) < (line l t.pl).length - a; omega) (We (sl := [(1, heRow hs), (12, inRow (line l t.pl)), (14, SV.bp 6 0), (15, fnL 104 [elB [ndRow l] 0, elB [iv (t.pl), iv (t.use)] 0]), (16, iv (0 + ((line l t.pl).length : Int) - 1 - ((a + 1) : Int)))]) (ow := [(5, Own.box 3 (cmpG [SV.own 60, SV.own 61, bv ((dnR l t.pl hs ((a + 1))).stop)]) 118), (6, Own.box 1 (fun zt => SV.renm (mvN 4 61) ((upd (fun _ => SV.v (.pointer none)) 0 (SV.bp 5 0)) zt)) 116), (60, ownOf caCell 4 default ((dnR l t.pl hs ((a + 1))).calls) 51), (61, Own.amap (bmap ((dnR l t.pl hs ((a + 1))).heard)))]) (by exact ⟨V rfl, V rfl, V rfl, VF [elB [ndRow l] 0, elB [iv (t.pl), iv (t.use)] 0] (V rfl) (An rfl), val_eq (V rfl) (congrArg iv (by push_cast; omega)), Z⟩) (by exact ⟨⟨_, rfl, ⟨rfl, rfl, ⟨⟨⟨Z, rfl⟩, rfl⟩, (congrArg (fun D : Desk => bv D.stop) (hdn2)).symm⟩⟩⟩, ⟨_, rfl, rfl, rfl, (An rfl)⟩, ⟨_, rfl, rfl⟩, ⟨_, rfl, rfl⟩, Z⟩))
     ·have hc4s := hc4; try simp only [BL] at hc4s
      have hdn2 := hdn
      rw [phD, if_neg hc4s] at hdn2
      refine Sk <| Rt <| U (LdB (V rfl) rfl Ga116 (by decide)) <| U (Mv (V rfl)) <| U (Mv (V rfl)) <| U (Mv (V rfl)) <| U (Mv (V rfl)) <| CM (cargs := [SV.bp 1000 0, heRow hs, iv (((line l t.pl).getD (Int.toNat (0 + ((line l t.pl).length : Int) - 1 - (a : Int))) 0)), iv (tgtSt l t.pl (((line l t.pl).getD (Int.toNat (0 + ((line l t.pl).length : Int) - 1 - (a : Int))) 0))), iv (1), fnA 106 ([])]) [(1000, 5), (1001, 60), (1002, 61)] [(0, 9), (1, 10)] en105 (by exact ⟨(V rfl), (V rfl), (V rfl), (V rfl), (V rfl), (VA (Vf) rfl), Z⟩) (deskAt_ct He.down en106 rfl down_ct hs (((line l t.pl).getD (Int.toNat (0 + ((line l t.pl).length : Int) - 1 - (a : Int))) 0)) (tgtSt l t.pl (((line l t.pl).getD (Int.toNat (0 + ((line l t.pl).length : Int) - 1 - (a : Int))) 0))) 1 (dnR l t.pl hs a) (by omega) (by omega)) (by exact ⟨⟨_, rfl, ⟨rfl, rfl, (An rfl)⟩⟩, ⟨_, rfl, rfl⟩, ⟨_, rfl, rfl⟩, Z⟩) rfl rfl rfl rfl <| Nt <| Rq <| O (Mv (V rfl)) <| O (Sb (V rfl) K (by omega)) <| O (As (V rfl)) <| Nq <| k_mv 9 60 rfl rfl <| k_mv 10 61 rfl rfl <| k_ownE 60 ((dnR l t.pl hs ((a + 1))).calls) rfl (by first | exact congrArg (fun D : Desk => D.calls) (hdn2) | exact (congrArg (fun D : Desk => D.calls) (hdn2)).symm) <| k_mapE 61 (bmap ((dnR l t.pl hs ((a + 1))).heard)) rfl (by first | exact congrArg (fun D : Desk => bmap D.heard) (hdn2) | exact (congrArg (fun D : Desk => bmap D.heard) (hdn2)).symm) <| Nx (a + 1) (by show (a + 1) ≤ (line l t.pl).length; first | omega | (simp; done) | (refine ⟨?_, ?_⟩ <;> first | omega | (simp; done))) (by show (line l t.pl).length - (a + 1) < (line l t.pl).length - a; omega) (We (sl := [(1, heRow hs), (12, inRow (line l t.pl)), (14, SV.bp 6 0), (15, fnL 104 [elB [ndRow l] 0, elB [iv (t.pl), iv (t.use)] 0]), (16, iv (0 + ((line l t.pl).length : Int) - 1 - ((a + 1) : Int)))]) (ow := [(5, Own.box 3 (cmpG [SV.own 60, SV.own 61, bv ((dnR l t.pl hs ((a + 1))).stop)]) 118), (6, Own.box 1 (fun zt => SV.renm (mvN 4 61) ((upd (fun _ => SV.v (.pointer none)) 0 (SV.bp 5 0)) zt)) 116), (60, ownOf caCell 4 default ((dnR l t.pl hs ((a + 1))).calls) 51), (61, Own.amap (bmap ((dnR l t.pl hs ((a + 1))).heard)))]) (by exact ⟨V rfl, V rfl, V rfl, VF [elB [ndRow l] 0, elB [iv (t.pl), iv (t.use)] 0] (V rfl) (An rfl), val_eq (V rfl) (congrArg iv (by push_cast; omega)), Z⟩) (by exact ⟨⟨_, rfl, ⟨rfl, rfl, ⟨⟨⟨Z, rfl⟩, rfl⟩, (congrArg (fun D : Desk => bv D.stop) (hdn2)).symm⟩⟩⟩, ⟨_, rfl, rfl, rfl, (An rfl)⟩, ⟨_, rfl, rfl⟩, ⟨_, rfl, rfl⟩, Z⟩))
    ·have hc3s := hc3; try simp only [BL] at hc3s
     have haL : a = (line l t.pl).length := by omega
     refine Ex <| Sq <| Sq <| Rq <| O (Mv (V rfl)) <| O (Ln (V rfl) ts33) <| O (Mv K) <| Nq <| Bo <| c_mv 60 62 rfl rfl <| c_mv 61 63 rfl rfl <| c_ownE 62 ((upR l t.pl hs 0).calls) rfl (by rw [up_0, haL]) <| c_mapE 63 (bmap ((upR l t.pl hs 0).heard)) rfl (by rw [up_0, haL]) <| Lo (fun (i : Nat) => ⟨[(1, heRow hs), (14, SV.bp 6 0), (15, fnL 104 [elB [ndRow l] 0, elB [iv (t.pl), iv (t.use)] 0]), (75, inRow (line l t.pl)), (76, iv (((line l t.pl).length : Int))), (77, iv ((i : Int)))], [(5, Own.box 3 (cmpG [SV.own 62, SV.own 63, bv ((upR l t.pl hs i).stop)]) 118), (6, Own.box 1 (fun zt => SV.renm (mvN 61 63) ((fun zt => SV.renm (mvN 60 62) ((fun zt => SV.renm (mvN 4 61) ((upd (fun _ => SV.v (.pointer none)) 0 (SV.bp 5 0)) zt)) zt)) zt)) 116), (62, ownOf caCell 4 default ((upR l t.pl hs i).calls) 51), (63, Own.amap (bmap ((upR l t.pl hs i).heard)))]⟩) (fun (i : Nat) => i ≤ (line l t.pl).length) (fun (i : Nat) => (line l t.pl).length - i) 0 (by show 0 ≤ (line l t.pl).length; exact Nat.zero_le _) (We (sl := [(1, heRow hs), (14, SV.bp 6 0), (15, fnL 104 [elB [ndRow l] 0, elB [iv (t.pl), iv (t.use)] 0]), (75, inRow (line l t.pl)), (76, iv (((line l t.pl).length : Int))), (77, iv ((0 : Int)))]) (ow := [(5, Own.box 3 (cmpG [SV.own 62, SV.own 63, bv ((upR l t.pl hs 0).stop)]) 118), (6, Own.box 1 (fun zt => SV.renm (mvN 61 63) ((fun zt => SV.renm (mvN 60 62) ((fun zt => SV.renm (mvN 4 61) ((upd (fun _ => SV.v (.pointer none)) 0 (SV.bp 5 0)) zt)) zt)) zt)) 116), (62, ownOf caCell 4 default ((upR l t.pl hs 0).calls) 51), (63, Own.amap (bmap ((upR l t.pl hs 0).heard)))]) (by exact ⟨V rfl, V rfl, VF [elB [ndRow l] 0, elB [iv (t.pl), iv (t.use)] 0] (V rfl) (An rfl), V rfl, V rfl, V rfl, Z⟩) (by exact ⟨⟨_, rfl, ⟨rfl, rfl, ⟨⟨⟨Z, rfl⟩, rfl⟩, (congrArg (fun D : Desk => bv D.stop) (show dnR l t.pl hs a = upR l t.pl hs 0 by rw [up_0, haL]))⟩⟩⟩, ⟨_, rfl, rfl, rfl, (An rfl)⟩, ⟨_, rfl, rfl⟩, ⟨_, rfl, rfl⟩, Z⟩)) <| ?_
     ·rintro i hI2
      have hJ2 : i ≤ (line l t.pl).length := hI2
      have hil := hJ2
      have hul := upR_len (l := l) (t := t.pl) (i := i) hl24
      refine Sq <| Rq <| O (Lt (V rfl) (V rfl)) <| Nq <| Sq <| Cd (V rfl) (fun hc5 => ?_) (fun hc5 => ?_)
      ·have hc5s := hc5; try simp only [BL] at hc5s
       have hup := up_s (hs := hs) (show i < (line l t.pl).length by omega) (k := ((line l t.pl).getD i 0)) rfl
       refine Sk <| Sq <| Bo <| Sq <| Rq <| O (IxN (i := i) (V rfl) (V rfl) ts33 te33 (by omega)) <| O (Ld (V rfl) Ga3 (by decide)) <| O (As (V rfl)) <| Nq <| Sq <| Rq <| O (Mv (V rfl)) <| O (Mv (V rfl)) <| CQv (args := [iv (((line l t.pl).getD i 0))]) (caps := [elB [ndRow l] 0, elB [iv (t.pl), iv (t.use)] 0]) (fnval_L (VF [elB [ndRow l] 0, elB [iv (t.pl), iv (t.use)] 0] ((V rfl)) (An rfl))) rfl en104 (by exact ⟨⟨(V rfl), rfl⟩, Z⟩) (told_ct (((line l t.pl).getD i 0)) l t (by assumption)) <| O (As (V rfl)) <| O (As K) <| Nq <| Sq <| Sq <| Rq <| O (Mv (V rfl)) <| O (Mv (V rfl)) <| O (Ql (V rfl) (V rfl)) <| Nq <| Cd (V rfl) (fun hc6 => ?_) (fun hc6 => ?_)
       ·have hc6s := hc6; try simp only [BL] at hc6s
        have hup2 := hup
        rw [phD, if_pos hc6s] at hup2
        refine Rq <| O (As K) <| Nq <| Rt <| U (LdB (V rfl) rfl Ga116 (by decide)) <| U (Mv (V rfl)) <| U (Mv (V rfl)) <| U (Mv (V rfl)) <| U (Mv (V rfl)) <| CM (cargs := [SV.bp 1000 0, heRow hs, iv (((line l t.pl).getD i 0)), iv (tgtSt l t.pl (((line l t.pl).getD i 0))), iv (2), fnA 107 ([])]) [(1000, 5), (1001, 62), (1002, 63)] [(0, 11), (1, 12)] en105 (by exact ⟨(V rfl), (V rfl), (V rfl), (V rfl), (V rfl), (VA (Vf) rfl), Z⟩) (deskAt_ct (fun h : He => !h.down) en107 rfl up_ct hs (((line l t.pl).getD i 0)) (tgtSt l t.pl (((line l t.pl).getD i 0))) 2 (upR l t.pl hs i) (by omega) (by omega)) (by exact ⟨⟨_, rfl, ⟨rfl, rfl, (An rfl)⟩⟩, ⟨_, rfl, rfl⟩, ⟨_, rfl, rfl⟩, Z⟩) rfl rfl rfl rfl <| Nt <| Rq <| O (Ad (V rfl) K (by omega)) <| O (Mv (V rfl)) <| Nq <| k_mv 11 62 rfl rfl <| k_mv 12 63 rfl rfl <| k_ownE 62 ((upR l t.pl hs ((i + 1))).calls) rfl (by first | exact congrArg (fun D : Desk => D.calls) (hup2) | exact (congrArg (fun D : Desk => D.calls) (hup2)).symm) <| k_mapE 63 (bmap ((upR l t.pl hs ((i + 1))).heard)) rfl (by first | exact congrArg (fun D : Desk => bmap D.heard) (hup2) | exact (congrArg (fun D : Desk => bmap D.heard) (hup2)).symm) <| Nx (i + 1) (by show (i + 1) ≤ (line l t.pl).length; first | omega | (simp; done) | (refine ⟨?_, ?_⟩ <;> first | omega | (simp; done))) (by show (line l t.pl).length - (i + 1) < (line l t.pl).length - i; omega) (We (sl := [(1, heRow hs), (14, SV.bp 6 0), (15, fnL 104 [elB [ndRow l] 0, elB [iv (t.pl), iv (t.use)] 0]), (75, inRow (line l t.pl)), (76, iv (((line l t.pl).length : Int))), (77, iv (((i + 1) : Int)))]) (ow := [(5, Own.box 3 (cmpG [SV.own 62, SV.own 63, bv ((upR l t.pl hs ((i + 1))).stop)]) 118), (6, Own.box 1 (fun zt => SV.renm (mvN 61 63) ((fun zt => SV.renm (mvN 60 62) ((fun zt => SV.renm (mvN 4 61) ((upd (fun _ => SV.v (.pointer none)) 0 (SV.bp 5 0)) zt)) zt)) zt)) 116), (62, ownOf caCell 4 default ((upR l t.pl hs ((i + 1))).calls) 51), (63, Own.amap (bmap ((upR l t.pl hs ((i + 1))).heard)))]) (by exact ⟨V rfl, V rfl, VF [elB [ndRow l] 0, elB [iv (t.pl), iv (t.use)] 0] (V rfl) (An rfl), V rfl, V rfl, V rfl, Z⟩) (by exact ⟨⟨_, rfl, ⟨rfl, rfl, ⟨⟨⟨Z, rfl⟩, rfl⟩, (congrArg (fun D : Desk => bv D.stop) (hup2)).symm⟩⟩⟩, ⟨_, rfl, rfl, rfl, (An rfl)⟩, ⟨_, rfl, rfl⟩, ⟨_, rfl, rfl⟩, Z⟩))
       ·have hc6s := hc6; try simp only [BL] at hc6s
        have hup2 := hup
        rw [phD, if_neg hc6s] at hup2
        refine Sk <| Rt <| U (LdB (V rfl) rfl Ga116 (by decide)) <| U (Mv (V rfl)) <| U (Mv (V rfl)) <| U (Mv (V rfl)) <| U (Mv (V rfl)) <| CM (cargs := [SV.bp 1000 0, heRow hs, iv (((line l t.pl).getD i 0)), iv (tgtSt l t.pl (((line l t.pl).getD i 0))), iv (3), fnA 107 ([])]) [(1000, 5), (1001, 62), (1002, 63)] [(0, 13), (1, 14)] en105 (by exact ⟨(V rfl), (V rfl), (V rfl), (V rfl), (V rfl), (VA (Vf) rfl), Z⟩) (deskAt_ct (fun h : He => !h.down) en107 rfl up_ct hs (((line l t.pl).getD i 0)) (tgtSt l t.pl (((line l t.pl).getD i 0))) 3 (upR l t.pl hs i) (by omega) (by omega)) (by exact ⟨⟨_, rfl, ⟨rfl, rfl, (An rfl)⟩⟩, ⟨_, rfl, rfl⟩, ⟨_, rfl, rfl⟩, Z⟩) rfl rfl rfl rfl <| Nt <| Rq <| O (Ad (V rfl) K (by omega)) <| O (Mv (V rfl)) <| Nq <| k_mv 13 62 rfl rfl <| k_mv 14 63 rfl rfl <| k_ownE 62 ((upR l t.pl hs ((i + 1))).calls) rfl (by first | exact congrArg (fun D : Desk => D.calls) (hup2) | exact (congrArg (fun D : Desk => D.calls) (hup2)).symm) <| k_mapE 63 (bmap ((upR l t.pl hs ((i + 1))).heard)) rfl (by first | exact congrArg (fun D : Desk => bmap D.heard) (hup2) | exact (congrArg (fun D : Desk => bmap D.heard) (hup2)).symm) <| Nx (i + 1) (by show (i + 1) ≤ (line l t.pl).length; first | omega | (simp; done) | (refine ⟨?_, ?_⟩ <;> first | omega | (simp; done))) (by show (line l t.pl).length - (i + 1) < (line l t.pl).length - i; omega) (We (sl := [(1, heRow hs), (14, SV.bp 6 0), (15, fnL 104 [elB [ndRow l] 0, elB [iv (t.pl), iv (t.use)] 0]), (75, inRow (line l t.pl)), (76, iv (((line l t.pl).length : Int))), (77, iv (((i + 1) : Int)))]) (ow := [(5, Own.box 3 (cmpG [SV.own 62, SV.own 63, bv ((upR l t.pl hs ((i + 1))).stop)]) 118), (6, Own.box 1 (fun zt => SV.renm (mvN 61 63) ((fun zt => SV.renm (mvN 60 62) ((fun zt => SV.renm (mvN 4 61) ((upd (fun _ => SV.v (.pointer none)) 0 (SV.bp 5 0)) zt)) zt)) zt)) 116), (62, ownOf caCell 4 default ((upR l t.pl hs ((i + 1))).calls) 51), (63, Own.amap (bmap ((upR l t.pl hs ((i + 1))).heard)))]) (by exact ⟨V rfl, V rfl, VF [elB [ndRow l] 0, elB [iv (t.pl), iv (t.use)] 0] (V rfl) (An rfl), V rfl, V rfl, V rfl, Z⟩) (by exact ⟨⟨_, rfl, ⟨rfl, rfl, ⟨⟨⟨Z, rfl⟩, rfl⟩, (congrArg (fun D : Desk => bv D.stop) (hup2)).symm⟩⟩⟩, ⟨_, rfl, rfl, rfl, (An rfl)⟩, ⟨_, rfl, rfl⟩, ⟨_, rfl, rfl⟩, Z⟩))
      ·have hc5s := hc5; try simp only [BL] at hc5s
       have hiL : i = (line l t.pl).length := by omega
       exact Ex <| Sq <| FzC 62 rfl <| c_frzM 63 rfl <| c_frzB 5 [caRow ((upR l t.pl hs i).calls), mapSV (bmap ((upR l t.pl hs i).heard)), bv ((upR l t.pl hs i).stop)] rfl rfl ⟨⟨⟨Z, rfl⟩, rfl⟩, rfl⟩ rfl <| c_frzB 6 [elB [caRow ((upR l t.pl hs i).calls), mapSV (bmap ((upR l t.pl hs i).heard)), bv ((upR l t.pl hs i).stop)] 0] rfl rfl ⟨Z, rfl⟩ rfl <| Rt <| U (Mv (V rfl)) <| CM (cargs := [heRow hs]) [] [(0, 15)] en87 (mv0 (by exact ⟨⟨(V rfl), rfl⟩, Z⟩)) (cloneH_ct hs (by omega)) (by exact Z) rfl rfl rfl rfl <| U (Mk (caps := [elB [elB [caRow ((upR l t.pl hs i).calls), mapSV (bmap ((upR l t.pl hs i).heard)), bv ((upR l t.pl hs i).stop)] 0] 0]) ⟨(V rfl), Z⟩) <| CM (cargs := [SV.own 1000, fnA 109 ([elB [elB [caRow ((upR l t.pl hs i).calls), mapSV (bmap ((upR l t.pl hs i).heard)), bv ((upR l t.pl hs i).stop)] 0] 0])]) [(1000, 15)] [(0, 16)] en108 (by exact ⟨(V rfl), (VA (VF [elB [elB [caRow ((upR l t.pl hs i).calls), mapSV (bmap ((upR l t.pl hs i).heard)), bv ((upR l t.pl hs i).stop)] 0] 0] ((V rfl)) (An rfl)) rfl), Z⟩) (del108_ct (fun h => h.once && (kget (upR l t.pl hs i).heard h.id).getD false) en109 rfl (fun x => once_ct x (upR l t.pl hs i).calls (upR l t.pl hs i).heard (upR l t.pl hs i).stop) hs (by omega)) (by exact ⟨⟨_, rfl, rfl⟩, Z⟩) rfl rfl rfl rfl <| U (As (V rfl)) <| Nt <| Sq <| Rq <| O (Ld (V rfl) Ga116 (by show 0 < 1; decide)) <| O (q_nilE (V rfl)) <| O (Fl _ _ (V rfl) Un118 rfl 0 Sz46) <| O (Ld (V rfl) Ga46 (by show 0 < 3; decide)) <| O (Mv (V rfl)) <| O (As (V rfl)) <| O (As (V rfl)) <| O (As K) <| Nq <| FzC 16 rfl <| Rx <| R3 rfl (V rfl) (V rfl) (V rfl) rfl rfl rfl (by show sv3 (caRow ((upR l t.pl hs i).calls)) (heRow (leftD (upR l t.pl hs i).heard hs)) (iv (0)) = sv3 (caRow (dispSt l hs t).1) (heRow (dispSt l hs t).2.1) (iv (dispSt l hs t).2.2); rw [disp_3 hf0 hc2s, run_up, hiL])
theorem happened_ct  : Ct Try.prog 32 [] (bv true) := by
 refine CtO 69 Try.func32 rfl rfl rfl fun E => Sq <| Rq <| O (As K) <| Nq <| Sq <| Rt <| CT en103 (by exact Z) (family_ct) <| U (Mv (V rfl)) <| U (Xt (V rfl) (by decide)) <| U (Xt (V rfl) (by decide)) <| U (Xt (V rfl) (by decide)) <| Al 1 zero24 rfl rfl <| Al 2 zero113 rfl rfl <| StA (V rfl) rfl (V rfl) Sz24 <| StA (V rfl) rfl (V rfl) Sz113 <| U (As (V rfl)) <| Nt <| Sq <| Rt <| U (LBA (V rfl) rfl Ga24 Sz24 (by decide)) <| U (q_ixB (i := 1) (V rfl) K ta113 te113 (by rw [al113]; decide)) <| U (LBA (V rfl) rfl Ga26 Sz26 (by decide)) <| CT en74 (by exact ⟨⟨(Vi (g' := stG fam5) (V rfl) ⟨Z, Ir⟩), rfl⟩, ⟨(Vi (g' := hdCell ⟨1, 1⟩) (V rfl) ⟨⟨Z, Ir⟩, Ir⟩), rfl⟩, ⟨K, rfl⟩, Z⟩) (attach_ct fam5 ⟨1, 1⟩ true (by first | assumption | exact kb_nil | exact kb_of (by assumption) | exact kb_of fam_c5)) <| U (Mv (V rfl)) <| U (Xt (V rfl) (by decide)) <| U (Xt (V rfl) (by decide)) <| U (Xt (V rfl) (by decide)) <| Al 3 zero26 rfl rfl <| StA (V rfl) rfl (V rfl) Sz24 <| StA (V rfl) rfl (V rfl) Sz26 <| U (As (V rfl)) <| Nt <| Sq <| Rt <| U (LBA (V rfl) rfl Ga24 Sz24 (by decide)) <| U (LBA (V rfl) rfl Ga26 Sz26 (by decide)) <| U (q_ixB (i := 2) (V rfl) K ta113 te113 (by rw [al113]; decide)) <| U (LBA (V rfl) rfl Ga26 Sz26 (by decide)) <| CT en56 (by exact ⟨⟨(Vi (g' := stG ((attSt fam5 ⟨1, 1⟩ true).1)) (V rfl) ⟨Z, Ir⟩), rfl⟩, ⟨(Vi (g' := hdCell ⟨(attSt fam5 ⟨1, 1⟩ true).2.1.pl, (attSt fam5 ⟨1, 1⟩ true).2.1.use⟩) (V rfl) ⟨⟨Z, Ir⟩, Ir⟩), rfl⟩, ⟨(Vi (g' := hdCell ⟨2, 1⟩) (V rfl) ⟨⟨Z, Ir⟩, Ir⟩), rfl⟩, ⟨Vn, rfl⟩, Z⟩) (insert_ct ((attSt fam5 ⟨1, 1⟩ true).1) (attSt fam5 ⟨1, 1⟩ true).2.1 ⟨2, 1⟩ ([]) (by first | assumption | exact kb_nil | exact kb_of (by assumption) | exact kb_of fam_c5)) <| ?_
 refine U (Mv (V rfl)) <| U (Xt (V rfl) (by decide)) <| U (Xt (V rfl) (by decide)) <| StA (V rfl) rfl (V rfl) Sz24 <| U (As (V rfl)) <| Nt <| Sq <| Rt <| U (LBA (V rfl) rfl Ga24 Sz24 (by decide)) <| U (Bu [(0, iv (0)), (4, iv (1))] id (heCell ⟨0, false, false, false, 1⟩) zero54 build54 (by exact ⟨⟨rfl, K, rfl⟩, ⟨rfl, K, rfl⟩, Z⟩) (by decide) ⟨⟨⟨⟨⟨Z, rfl⟩, rfl⟩, rfl⟩, rfl⟩, rfl⟩) <| U (Bu [(0, iv (0)), (1, bv (true)), (4, iv (2)), (2, bv (true))] id (heCell ⟨0, true, true, false, 2⟩) zero54 build54 (by exact ⟨⟨rfl, K, rfl⟩, ⟨rfl, K, rfl⟩, ⟨rfl, K, rfl⟩, ⟨rfl, K, rfl⟩, Z⟩) (by decide) ⟨⟨⟨⟨⟨Z, rfl⟩, rfl⟩, rfl⟩, rfl⟩, rfl⟩) <| U (Bu [(0, iv (2)), (4, iv (3))] id (heCell ⟨2, false, false, false, 3⟩) zero54 build54 (by exact ⟨⟨rfl, K, rfl⟩, ⟨rfl, K, rfl⟩, Z⟩) (by decide) ⟨⟨⟨⟨⟨Z, rfl⟩, rfl⟩, rfl⟩, rfl⟩, rfl⟩) <| Uw (w_bs (n := 3) (zget := cmpG [iv (0), bv (false), bv (false), bv (false), iv (0)]) [(heCell ⟨0, false, false, false, 1⟩), (heCell ⟨0, true, true, false, 2⟩), (heCell ⟨2, false, false, false, 3⟩)] (rowG heCell default [⟨0, false, false, false, 1⟩, ⟨0, true, true, false, 2⟩, ⟨2, false, false, false, 3⟩]) Un45 Sz54 zero54 (by decide) rfl (by decide) ⟨⟨rfl, .inl (V rfl), rfl⟩, ⟨rfl, .inl (V rfl), rfl⟩, ⟨rfl, .inl (V rfl), rfl⟩, Z⟩ ⟨⟨⟨Z, ⟨⟨⟨⟨⟨Z, rfl⟩, rfl⟩, rfl⟩, rfl⟩, rfl⟩⟩, ⟨⟨⟨⟨⟨Z, rfl⟩, rfl⟩, rfl⟩, rfl⟩, rfl⟩⟩, ⟨⟨⟨⟨⟨Z, rfl⟩, rfl⟩, rfl⟩, rfl⟩, rfl⟩⟩) <| U (q_ixB (i := 2) (V rfl) K ta113 te113 (by rw [al113]; decide)) <| U (LBA (V rfl) rfl Ga26 Sz26 (by decide)) <| CT en31 (by exact ⟨⟨(Vi (g' := stG ((insSt ((attSt fam5 ⟨1, 1⟩ true).1) (attSt fam5 ⟨1, 1⟩ true).2.1 ⟨2, 1⟩ ([])).1)) (V rfl) ⟨Z, Ir⟩), rfl⟩, ⟨(V rfl), rfl⟩, ⟨(Vi (g' := hdCell ⟨2, 1⟩) (V rfl) ⟨⟨Z, Ir⟩, Ir⟩), rfl⟩, Z⟩) (disp_ct ((insSt ((attSt fam5 ⟨1, 1⟩ true).1) (attSt fam5 ⟨1, 1⟩ true).2.1 ⟨2, 1⟩ ([])).1) ([⟨0, false, false, false, 1⟩, ⟨0, true, true, false, 2⟩, ⟨2, false, false, false, 3⟩]) ⟨2, 1⟩ (by first | assumption | exact kb_nil | exact kb_of (by assumption) | exact kb_of fam_c5)) <| U (Mv (V rfl)) <| U (Xt (V rfl) (by decide)) <| U (Xt (V rfl) (by decide)) <| U (Xt (V rfl) (by decide)) <| U (As (V rfl)) <| U (As (V rfl)) <| U (As (V rfl)) <| Nt <| Sq <| Rt <| U (Mv (V rfl)) <| U (Mv (V rfl)) <| Ug (Gy rfl rfl) (fun hg => Mv (V rfl)) <| Ug (Gy rfl rfl) (fun hg => Ql (Vg (V rfl) hg) K) <| U (Qa (V rfl) (fun h => Vg (V rfl) h)) <| U (Mv (V rfl)) <| Ug (Gy rfl rfl) (fun hg => Mv (V rfl)) <| Ug (Gy rfl rfl) (fun hg => Ql (Vg (V rfl) hg) K) <| U (Qa (V rfl) (fun h => Vg (V rfl) h)) <| U (Mv (V rfl)) <| Ug (Gy rfl rfl) (fun hg => Mv (V rfl)) <| Ug (Gy rfl rfl) (fun hg => Ql (Vg (V rfl) hg) K) <| U (Qa (V rfl) (fun h => Vg (V rfl) h)) <| U (Mv (V rfl)) <| ?_
 exact Ug (Gy rfl rfl) (fun hg => Mv (V rfl)) <| Ug (Gy rfl rfl) (fun hg => Ln (Vg (V rfl) hg) ts45) <| Ug (Gy rfl rfl) (fun hg => Ql (Vg (V rfl) hg) K) <| U (Qa (V rfl) (fun h => Vg (V rfl) h)) <| U (Mv (V rfl)) <| Ug (Gy rfl rfl) (fun hg => Mv (V rfl)) <| Ug (Gy rfl rfl) (fun hg => Bu [(0, iv (2)), (1, iv (0)), (2, iv (1)), (3, iv (1))] id (caCell ⟨2, 0, 1, 1⟩) zero51 build51 (by exact ⟨⟨rfl, K, rfl⟩, ⟨rfl, K, rfl⟩, ⟨rfl, K, rfl⟩, ⟨rfl, K, rfl⟩, Z⟩) (by decide) ⟨⟨⟨⟨Z, rfl⟩, rfl⟩, rfl⟩, rfl⟩) <| Ug (Gy rfl rfl) (fun hg => Bu [(0, iv (3)), (1, iv (2)), (2, iv (2)), (3, iv (2))] id (caCell ⟨3, 2, 2, 2⟩) zero51 build51 (by exact ⟨⟨rfl, K, rfl⟩, ⟨rfl, K, rfl⟩, ⟨rfl, K, rfl⟩, ⟨rfl, K, rfl⟩, Z⟩) (by decide) ⟨⟨⟨⟨Z, rfl⟩, rfl⟩, rfl⟩, rfl⟩) <| Ug (Gy rfl rfl) (fun hg => Bu [(0, iv (1)), (1, iv (0)), (2, iv (1)), (3, iv (3))] id (caCell ⟨1, 0, 1, 3⟩) zero51 build51 (by exact ⟨⟨rfl, K, rfl⟩, ⟨rfl, K, rfl⟩, ⟨rfl, K, rfl⟩, ⟨rfl, K, rfl⟩, Z⟩) (by decide) ⟨⟨⟨⟨Z, rfl⟩, rfl⟩, rfl⟩, rfl⟩) <| UwG (Gy rfl rfl) (fun hg => w_bs (n := 3) (zget := cmpG [iv (0), iv (0), iv (0), iv (0)]) [(caCell ⟨2, 0, 1, 1⟩), (caCell ⟨3, 2, 2, 2⟩), (caCell ⟨1, 0, 1, 3⟩)] (rowG caCell default [⟨2, 0, 1, 1⟩, ⟨3, 2, 2, 2⟩, ⟨1, 0, 1, 3⟩]) Un46 Sz51 zero51 (by decide) rfl (by decide) ⟨⟨rfl, .inl (Vg (V rfl) hg), rfl⟩, ⟨rfl, .inl (Vg (V rfl) hg), rfl⟩, ⟨rfl, .inl (Vg (V rfl) hg), rfl⟩, Z⟩ ⟨⟨⟨Z, ⟨⟨⟨⟨Z, rfl⟩, rfl⟩, rfl⟩, rfl⟩⟩, ⟨⟨⟨⟨Z, rfl⟩, rfl⟩, rfl⟩, rfl⟩⟩, ⟨⟨⟨⟨Z, rfl⟩, rfl⟩, rfl⟩, rfl⟩⟩) <| CTg (Gy rfl rfl) en88 (fun hg => (by exact ⟨⟨(Vg (V rfl) hg), rfl⟩, ⟨(Vg (V rfl) hg), rfl⟩, Z⟩)) (fun hg => eqCa_ct ((dispSt ((insSt ((attSt fam5 ⟨1, 1⟩ true).1) (attSt fam5 ⟨1, 1⟩ true).2.1 ⟨2, 1⟩ ([])).1) ([⟨0, false, false, false, 1⟩, ⟨0, true, true, false, 2⟩, ⟨2, false, false, false, 3⟩]) ⟨2, 1⟩).1) ([⟨2, 0, 1, 1⟩, ⟨3, 2, 2, 2⟩, ⟨1, 0, 1, 3⟩])) <| U (Qa (V rfl) (fun h => Vg (V rfl) h)) <| U (As (V rfl)) <| Nt <| Rx <| R1 rfl (V rfl) rfl (by show bv (((((true && (decide ((attSt fam5 ⟨1, 1⟩ true).2.2 = 0))) && (decide ((insSt ((attSt fam5 ⟨1, 1⟩ true).1) (attSt fam5 ⟨1, 1⟩ true).2.1 ⟨2, 1⟩ ([])).2 = 0))) && (decide ((dispSt ((insSt ((attSt fam5 ⟨1, 1⟩ true).1) (attSt fam5 ⟨1, 1⟩ true).2.1 ⟨2, 1⟩ ([])).1) ([⟨0, false, false, false, 1⟩, ⟨0, true, true, false, 2⟩, ⟨2, false, false, false, 3⟩]) ⟨2, 1⟩).2.2 = 0))) && (decide ((((dispSt ((insSt ((attSt fam5 ⟨1, 1⟩ true).1) (attSt fam5 ⟨1, 1⟩ true).2.1 ⟨2, 1⟩ ([])).1) ([⟨0, false, false, false, 1⟩, ⟨0, true, true, false, 2⟩, ⟨2, false, false, false, 3⟩]) ⟨2, 1⟩).2.1).length : Int) = 2))) && (decide ((dispSt ((insSt ((attSt fam5 ⟨1, 1⟩ true).1) (attSt fam5 ⟨1, 1⟩ true).2.1 ⟨2, 1⟩ ([])).1) ([⟨0, false, false, false, 1⟩, ⟨0, true, true, false, 2⟩, ⟨2, false, false, false, 3⟩]) ⟨2, 1⟩).1 = [⟨2, 0, 1, 1⟩, ⟨3, 2, 2, 2⟩, ⟨1, 0, 1, 3⟩]))) = bv true; exact congrArg bv (by decide +kernel))
end Go.Proofs.Ytmcdamcedemdiaa
namespace Go.Proofs.Ytmcdamcedemdiaa
open Go.RowKit Go.Eng
def atH (hs : List He) (s : Sp) : List He := hs.filter fun h => decide (h.pl = s.at_) && (h.down == s.down)
def runH (hs : List He) : List Sp → List He
  | [] => []
  | s :: r => atH hs s ++ if (atH hs s).any He.stops = true then [] else runH hs r
def mkC (l : List Nd) (t : Int) (h : He) : Ca := ⟨h.id, h.pl, tgtSt l t h.pl, phD (tgtSt l t h.pl) h.pl (if h.down = true then 1 else 3)⟩
theorem desk_fold {p : He → Bool} {k tg ph : Int} : ∀ (hs : List He) (D : Desk), hs.foldl (deskS p k tg ph) D =
    ⟨D.calls ++ (hs.filter fun h => decide (h.pl = k) && p h).map (fun h => ⟨h.id, k, tg, ph⟩), putAll (hs.filter fun h => decide (h.pl = k) && p h) D.heard, D.stop || (hs.filter fun h => decide (h.pl = k) && p h).any He.stops⟩
  | [], D => by cases D; simp [putAll]
  | h :: r, D => by
    rw [List.foldl_cons, desk_fold r]
    by_cases c : h.pl = k ∧ p h = true
    · rw [deskS, if_pos c, List.filter_cons_of_pos (by rw [decide_eq_true c.1, c.2]; rfl)]
      simp [putAll, List.append_assoc, Bool.or_assoc]
    · rw [deskS, if_neg c, List.filter_cons_of_neg (fun q => c (by simpa using q))]
section
variable {l : List Nd} {t : Int} {hs : List He} {D : Desk}
theorem atH_mem {s : Sp} {h : He} : h ∈ atH hs s ↔ h ∈ hs ∧ h.pl = s.at_ ∧ h.down = s.down := by
  unfold atH
  rw [List.mem_filter, Bool.and_eq_true, decide_eq_true_eq, beq_iff_eq]
theorem step_eq {s : Sp} (h : D.stop = false) : stepS l t hs D s = ⟨D.calls ++ (atH hs s).map (mkC l t), putAll (atH hs s) D.heard, (atH hs s).any He.stops⟩ := by
  rw [step_2 h, desk_fold, h, Bool.false_or]
  have e : (atH hs s).map (fun h => (⟨h.id, s.at_, tgtSt l t s.at_, phD (tgtSt l t s.at_) s.at_ (if s.down = true then 1 else 3)⟩ : Ca)) = (atH hs s).map (mkC l t) := List.map_congr_left fun x hx => by
    obtain ⟨_, h1, h2⟩ := atH_mem.1 hx
    rw [mkC, h1, h2]
  show (⟨D.calls ++ (atH hs s).map _, _, _⟩ : Desk) = _
  rw [e]; rfl
theorem run_H : ∀ (S : List Sp) (D : Desk), D.stop = false → (S.foldl (stepS l t hs) D).calls = D.calls ++ (runH hs S).map (mkC l t) ∧ (S.foldl (stepS l t hs) D).heard = putAll (runH hs S) D.heard
  | [], D, _ => ⟨by simp [runH], rfl⟩
  | s :: r, D, h => by
    rw [List.foldl_cons, step_eq h, runH]
    cases e : (atH hs s).any He.stops with
    | true =>
      rw [step_stuck (D := ⟨_, _, true⟩) rfl, if_pos rfl, List.append_nil]
      exact ⟨rfl, rfl⟩
    | false =>
      have ih := run_H r ⟨D.calls ++ (atH hs s).map (mkC l t), putAll (atH hs s) D.heard, false⟩ rfl
      rw [ih.1, ih.2, if_neg (by simp)]
      exact ⟨by rw [List.map_append, List.append_assoc], by unfold putAll; rw [List.foldl_append]⟩
theorem runD_calls : (runD l t hs).calls = (runH hs (stopsL l t)).map (mkC l t) := by
  unfold runD; rw [(run_H (stopsL l t) desk0 rfl).1]; rfl
theorem runD_heard (j : Int) : (kget (runD l t hs).heard j).getD false = (runH hs (stopsL l t)).any fun h => decide (h.id = j) := by
  unfold runD; rw [(run_H (stopsL l t) desk0 rfl).2, put_get]
  show (_ || (kget ([] : List (Int × Bool)) j).getD false) = _
  rw [show kget ([] : List (Int × Bool)) j = none from rfl]; simp
theorem runH_mem {h : He} : ∀ {S : List Sp}, h ∈ runH hs S → h ∈ hs ∧ ∃ s ∈ S, h.pl = s.at_ ∧ h.down = s.down
  | s :: r, hm => by
    rw [runH] at hm
    rcases List.mem_append.1 hm with hm | hm
    · obtain ⟨a, b⟩ := atH_mem.1 hm
      exact ⟨a, s, .head _, b⟩
    · split at hm
      · cases hm
      · obtain ⟨a, s', b, c⟩ := runH_mem hm
        exact ⟨a, s', .tail _ b, c⟩
end
def Dist (hs : List He) : Prop := ∀ i j, i < hs.length → j < hs.length → (hs.getD i default).id = (hs.getD j default).id → i = j
theorem chk_dist {hs : List He} {p : Int} (h : chkHe hs p = 0) : Dist hs := fun i j hi hj e => by
  have key : ∀ a b, a < b → b < hs.length → (hs.getD a default).id ≠ (hs.getD b default).id := fun a b hab hb e => by
    have := (chk_all h hb).2
    rw [List.any_eq_false] at this
    refine this (hs.getD a default) ?_ (decide_eq_true e)
    rw [getD_lt (by omega)]
    exact List.mem_iff_getElem.2 ⟨a, by rw [List.length_take]; omega, by rw [List.getElem_take]⟩
  rcases Nat.lt_trichotomy i j with q | q | q
  · exact absurd e (key i j q hj)
  · exact q
  · exact absurd e.symm (key j i q hi)
theorem dist_eq {hs : List He} (D : Dist hs) {a b : He} (ha : a ∈ hs) (hb : b ∈ hs) (e : a.id = b.id) : a = b := by
  obtain ⟨i, hi, rfl⟩ := getD_of_mem default ha
  obtain ⟨j, hj, rfl⟩ := getD_of_mem default hb
  rw [D i j hi hj e]
theorem dist_pw {hs : List He} (D : Dist hs) : hs.Pairwise fun a b => a.id ≠ b.id := by
  rw [List.pairwise_iff_getElem]
  intro i j hi hj hij e
  have := D i j hi hj (by rw [getD_lt hi, getD_lt hj]; exact e)
  omega
theorem runH_pw {hs : List He} (D : Dist hs) : ∀ {S : List Sp}, S.Pairwise (fun a b => a ≠ b ∧ (a.down = false → b.down = false)) → (runH hs S).Pairwise fun a b => a.id ≠ b.id ∧ (a.down = false → b.down = false)
  | [], _ => List.Pairwise.nil
  | s :: r, h => by
    obtain ⟨h1, h2⟩ := List.pairwise_cons.1 h
    rw [runH, List.pairwise_append]
    refine ⟨?_, ?_, fun a ha b hb => ?_⟩
    · have hp : (atH hs s).Pairwise fun a b => a.id ≠ b.id := (dist_pw D).filter _
      rw [List.pairwise_iff_getElem] at hp ⊢
      intro i j hi hj hij
      refine ⟨hp i j hi hj hij, fun e => ?_⟩
      rw [(atH_mem.1 (List.getElem_mem hi)).2.2] at e
      rw [(atH_mem.1 (List.getElem_mem hj)).2.2]; exact e
    · split
      · exact List.Pairwise.nil
      · exact runH_pw D h2
    · split at hb
      · cases hb
      · obtain ⟨a1, a2, a3⟩ := atH_mem.1 ha
        obtain ⟨b1, s', hs', b2, b3⟩ := runH_mem hb
        have hq := h1 s' hs'
        refine ⟨fun e => hq.1 ?_, fun e => ?_⟩
        · have := dist_eq D a1 b1 e
          subst this
          cases s; cases s'
          simp only at a2 a3 b2 b3
          rw [← a2, ← a3, ← b2, ← b3]
        · rw [b3]; exact hq.2 (by rw [← a3]; exact e)
theorem line_dpt {l : List Nd} (h : checkSt l = 0) {x : Int} : ∀ (d : Nat) (k : Int), dpt l k = d → -1 ≤ k ∧ k < (l.length : Int) → x ∈ line l k → dpt l x ≤ d
  | d, k, hd, hk, hx => by
    by_cases h0 : 0 ≤ k
    · rw [line_eq h ⟨h0, hk.2⟩] at hx
      rcases List.mem_cons.1 hx with rfl | hx
      · omega
      · have e := dpt_eq h ⟨h0, hk.2⟩
        have ha := above_in (checkSt_nodes h) ⟨h0, hk.2⟩
        cases d with
        | zero => omega
        | succ d => have := line_dpt h d _ (by omega) ha hx; omega
    · rw [line_neg (by omega)] at hx; cases hx
theorem line_nodup {l : List Nd} (h : checkSt l = 0) : ∀ (d : Nat) (k : Int), dpt l k = d → -1 ≤ k ∧ k < (l.length : Int) → (line l k).Nodup
  | d, k, hd, hk => by
    by_cases h0 : 0 ≤ k
    · have e := dpt_eq h ⟨h0, hk.2⟩
      have ha := above_in (checkSt_nodes h) ⟨h0, hk.2⟩
      rw [line_eq h ⟨h0, hk.2⟩]
      refine List.nodup_cons.2 ⟨fun q => ?_, ?_⟩
      · have := line_dpt h _ _ rfl ha q; omega
      · cases d with
        | zero => omega
        | succ d => exact line_nodup h d _ (by omega) ha
    · rw [line_neg (by omega)]; exact List.nodup_nil
theorem stops_pw {l : List Nd} {t : Int} (h : (line l t).Nodup) : (stopsL l t).Pairwise fun a b => a ≠ b ∧ (a.down = false → b.down = false) := by
  unfold stopsL
  rw [List.pairwise_append]
  refine ⟨?_, ?_, fun a ha b hb => ?_⟩
  · rw [List.pairwise_map]
    rw [List.pairwise_reverse]
    refine (h.imp ?_)
    intro a b hab
    exact ⟨fun e => hab (congrArg Sp.at_ e).symm, fun e => by cases e⟩
  · rw [List.pairwise_map]
    refine (h.imp ?_)
    intro a b hab
    exact ⟨fun e => hab (congrArg Sp.at_ e), fun _ => rfl⟩
  · obtain ⟨x, _, rfl⟩ := List.mem_map.1 ha
    obtain ⟨y, _, rfl⟩ := List.mem_map.1 hb
    exact ⟨fun e => (by have := congrArg Sp.down e; cases this), fun e => (by cases e)⟩
def seenC (L : List Ca) : List (Int × Bool) := L.foldl (fun m c => kput m c.id true) []
theorem seenC_s {L : List Ca} {i : Nat} (h : i < L.length) : seenC (L.take (i + 1)) = kput (seenC (L.take i)) (L.getD i default).id true := by
  unfold seenC; rw [foldl_take_s _ _ default _ _ h]
theorem seenC_get (j : Int) : ∀ (L : List Ca) (m : List (Int × Bool)), (kget (L.foldl (fun m c => kput m c.id true) m) j).getD false = (L.any (fun c => decide (c.id = j)) || (kget m j).getD false)
  | [], m => rfl
  | c :: r, m => by
    rw [List.foldl_cons, seenC_get j r, kget_put, List.any_cons]
    by_cases e : j = c.id
    · rw [if_pos e, decide_eq_true e.symm]; simp
    · rw [if_neg e, decide_eq_false fun q => e q.symm, Bool.false_or]
theorem seenC_any (L : List Ca) (j : Int) : (kget (seenC L) j).getD false = L.any fun c => decide (c.id = j) := by
  rw [seenC, seenC_get]
  show (_ || (kget ([] : List (Int × Bool)) j).getD false) = _
  rw [show kget ([] : List (Int × Bool)) j = none from rfl]; simp
def heOf (hs : List He) (j : Int) : He := hs.getD (idxF (fun x => decide (x.id = j)) hs).toNat default
def upT (hs : List He) (L : List Ca) : Bool := L.any fun c => !(heOf hs c.id).down
theorem upT_s {hs : List He} {L : List Ca} {i : Nat} (h : i < L.length) : upT hs (L.take (i + 1)) = (upT hs (L.take i) || !(heOf hs (L.getD i default).id).down) := by
  unfold upT; rw [take_s default h, List.any_append]; simp
theorem heOf_in {hs : List He} (D : Dist hs) {h : He} (hm : h ∈ hs) : (0 ≤ idxF (fun x => decide (x.id = h.id)) hs ∧ idxF (fun x => decide (x.id = h.id)) hs < (hs.length : Int)) ∧ heOf hs h.id = h := by
  obtain ⟨i, hi, rfl⟩ := getD_of_mem default hm
  rcases idxF_cases (fun x => decide (x.id = (hs.getD i default).id)) default hs with ⟨_, ha⟩ | ⟨n, e, hn, hp, _⟩
  · have := ha _ (mem_getD (d := default) hi)
    rw [decide_eq_true rfl] at this; cases this
  · have hp : (hs.getD n default).id = (hs.getD i default).id := of_decide_eq_true hp
    refine ⟨by rw [e]; omega, ?_⟩
    unfold heOf
    rw [e, show ((n : Int)).toNat = n by omega, D n i hn hi hp]
section
variable {l : List Nd} {hs : List He} {t : Hd} {i : Nat}
theorem calls_at (h0 : firstSt l [t] = 0) (hk : chkHe hs (l.length : Int) = 0) (hi : i < (dispSt l hs t).1.length) :
    ∃ h, h ∈ hs ∧ (dispSt l hs t).1.getD i default = mkC l t.pl h ∧ h.pl ∈ line l t.pl ∧ ((dispSt l hs t).1.take i).any (fun c => decide (c.id = h.id)) = false ∧ (upT hs ((dispSt l hs t).1.take i) = true → h.down = false) := by
  have D := chk_dist hk
  have hf := first1 h0
  have P := runH_pw D (stops_pw (line_nodup hf.1 _ t.pl rfl (by omega)))
  have e : (dispSt l hs t).1 = (runH hs (stopsL l t.pl)).map (mkC l t.pl) := by rw [disp_3 h0 hk]; exact runD_calls
  rw [e] at hi ⊢
  rw [List.length_map] at hi
  have hm := List.getElem_mem hi
  obtain ⟨a, s, hs', b, c⟩ := runH_mem hm
  rw [List.pairwise_iff_getElem] at P
  refine ⟨(runH hs (stopsL l t.pl))[i], a, ?_, ?_, ?_, fun hu => ?_⟩
  · rw [getD_lt (by rw [List.length_map]; exact hi), List.getElem_map]
  · rw [b]; exact stops_in hs'
  · rw [List.any_eq_false]
    intro x hx q
    obtain ⟨j, hj, rfl⟩ := List.mem_iff_getElem.1 hx
    rw [List.length_take, List.length_map] at hj
    rw [List.getElem_take, List.getElem_map, decide_eq_true_iff] at q
    exact (P j i (by omega) hi (by omega)).1 q
  · unfold upT at hu
    obtain ⟨x, hx, q⟩ := List.any_eq_true.1 hu
    obtain ⟨j, hj, rfl⟩ := List.mem_iff_getElem.1 hx
    rw [List.length_take, List.length_map] at hj
    rw [List.getElem_take, List.getElem_map] at q
    have hj2 : j < (runH hs (stopsL l t.pl)).length := by omega
    have := (heOf_in D (runH_mem (List.getElem_mem hj2)).1).2
    have q : (!(heOf hs (runH hs (stopsL l t.pl))[j].id).down) = true := q
    rw [this] at q
    exact (P j i hj2 hi (by omega)).2 (by simpa using q)
theorem told_A (h0 : firstSt l [t] = 0) (hk : chkHe hs (l.length : Int) = 0) (hi : i < (dispSt l hs t).1.length) :
    ∃ h, h ∈ hs ∧ (dispSt l hs t).1.getD i default = mkC l t.pl h ∧ (0 ≤ idxF (fun x => decide (x.id = h.id)) hs ∧ idxF (fun x => decide (x.id = h.id)) hs < (hs.length : Int)) ∧ hs.getD (idxF (fun x => decide (x.id = h.id)) hs).toNat default = h ∧
      (kget (seenC ((dispSt l hs t).1.take i)) h.id).getD false = false ∧ h.pl ∈ line l t.pl ∧ (upT hs ((dispSt l hs t).1.take i) && h.down) = false ∧
      (0 ≤ h.pl ∧ h.pl < (l.length : Int)) ∧ (0 ≤ tgtSt l t.pl h.pl ∧ tgtSt l t.pl h.pl < (l.length : Int)) ∧ usedB l (tgtSt l t.pl h.pl) = true ∧
      firstSt l [⟨h.pl, (l.getD h.pl.toNat default).uses⟩, ⟨tgtSt l t.pl h.pl, (l.getD (tgtSt l t.pl h.pl).toNat default).uses⟩] = 0 ∧ hiddenSt l h.pl (tgtSt l t.pl h.pl) false = false := by
  obtain ⟨h, a, e, b, c, u⟩ := calls_at h0 hk hi
  have hf := first1 h0
  have D := chk_dist hk
  have hh := heOf_in D a
  have hr := line_in b
  have tu := hf.2.2.2
  have hT := tgt_on hf.1 (told := h.pl) _ t.pl hf.2.2.1 rfl
  rw [← tgt_1 hf.1 hf.2.2.1 hr] at hT
  have hu1 := line_used hf.1 _ t.pl hf.2.2.1 rfl tu b
  have hu2 := line_used hf.1 _ t.pl hf.2.2.1 rfl tu hT.2.1
  have uses1 : ∀ {k : Int}, 0 ≤ k ∧ k < (l.length : Int) → (l.getD k.toNat default).used = true → 1 ≤ (l.getD k.toNat default).uses := fun hk hu => by
    have := (st_n1 hf.1 hk).use hu
    have := (st_n1 hf.1 hk).uses; omega
  refine ⟨h, a, e, hh.1, hh.2, (seenC_any _ _).trans c, b, ?_, hr, hT.1, used_t.2 ⟨hT.1, hu2⟩, first_2 hf.1 (holdsE hr (uses1 hr hu1) hu1 rfl) (holdsE hT.1 (uses1 hT.1 hu2) hu2 rfl), hid_mono hT.2.2⟩
  cases q : upT hs ((dispSt l hs t).1.take i) with
  | false => rfl
  | true => rw [u q]; rfl
theorem told_Z (h0 : firstSt l [t] = 0) (hk : chkHe hs (l.length : Int) = 0) (hi : i < hs.length) :
    decide (decide (hs.getD i default ∈ (dispSt l hs t).2.1) = ((hs.getD i default).once && (kget (seenC (dispSt l hs t).1) (hs.getD i default).id).getD false)) = false := by
  have e : (kget (seenC (dispSt l hs t).1) (hs.getD i default).id).getD false = (kget (runD l t.pl hs).heard (hs.getD i default).id).getD false := by
    rw [seenC_any, runD_heard, disp_3 h0 hk]
    show (runD l t.pl hs).calls.any _ = _
    rw [runD_calls, List.any_map]; rfl
  rw [e, disp_3 h0 hk]
  show decide (decide (hs.getD i default ∈ leftD (runD l t.pl hs).heard hs) = _) = false
  have hm : hs.getD i default ∈ hs := mem_getD hi
  unfold leftD
  rw [decide_eq_false_iff_not]
  intro q
  cases c : ((hs.getD i default).once && (kget (runD l t.pl hs).heard (hs.getD i default).id).getD false) with
  | true =>
    rw [c, decide_eq_true_iff, List.mem_filter, c] at q
    cases q.2
  | false =>
    rw [c, decide_eq_false_iff_not, List.mem_filter, c] at q
    exact q ⟨hm, rfl⟩
end
theorem disp_ok {l : List Nd} {hs : List He} {t : Hd} (e : (dispSt l hs t).2.2 = 0) : firstSt l [t] = 0 ∧ chkHe hs (l.length : Int) = 0 := by
  have h0 : firstSt l [t] = 0 := Classical.byContradiction fun q => by rw [disp_1 q] at e; exact q e
  exact ⟨h0, Classical.byContradiction fun q => by rw [disp_2 h0 q] at e; exact q e⟩
theorem idxF_mem {α : Type} [DecidableEq α] (l : List α) (v : α) : decide (0 ≤ idxF (fun y => decide (v = y)) l) = decide (v ∈ l) := by
  rw [idxF_any]
  rw [Bool.eq_iff_iff, List.any_eq_true, decide_eq_true_iff]
  exact ⟨fun ⟨y, hy, e⟩ => (of_decide_eq_true e) ▸ hy, fun h => ⟨v, h, decide_eq_true rfl⟩⟩
theorem told_B {S : Bool × Int} {ph at_ tg : Int} {d u : Bool} (hS : S = (true, 0)) (hp : ph = phD tg at_ (if d = true then 1 else 3)) (hu : (u && d) = false) :
    (((((!decide (S.2 = 0) || !S.1) || !decide (decide (ph = 2) = decide (at_ = tg))) || (decide (ph = 1) && !d)) || (decide (ph = 3) && d)) || (u && d)) = false := by
  subst hS hp
  rw [hu]
  unfold phD
  by_cases e : tg = at_
  · rw [if_pos e, decide_eq_true e.symm]; simp
  · rw [if_neg e, show decide (at_ = tg) = false from decide_eq_false fun q => e q.symm]
    cases d <;> simp
theorem told_len {l : List Nd} {hs : List He} {t : Hd} (h0 : firstSt l [t] = 0) (hk : chkHe hs (l.length : Int) = 0) : ((dispSt l hs t).2.1.length : Int) ≤ (hs.length : Int) := by
  rw [disp_3 h0 hk]
  have := left_len (runD l t.pl hs).heard hs
  show ((leftD (runD l t.pl hs).heard hs).length : Int) ≤ _
  omega
theorem disp_len {l : List Nd} {hs : List He} {t : Hd} (h0 : firstSt l [t] = 0) (hk : chkHe hs (l.length : Int) = 0) : (dispSt l hs t).1.length ≤ 48 * 25 := by
  rw [disp_3 h0 hk]
  have h1 := line_len25 (first1 h0).1 t.pl
  have h2 := checkSt_len (first1 h0).1
  have h3 := runS_len (l := l) (t := t.pl) (hs := hs) (i := (stopsL l t.pl).length) (chk_len hk)
  rw [List.take_length] at h3
  have h4 : (runD l t.pl hs).calls.length ≤ 48 * (line l t.pl).length := h3
  show (runD l t.pl hs).calls.length ≤ _
  omega
end Go.Proofs.Ytmcdamcedemdiaa
namespace Go.Proofs.Ytmcdamcedemdiaa
open Go.RowKit Go.Eng
theorem toldK_ct (x : He) (c : Ca) : Ct Try.prog 35 [SV.agg 5 (heCell x), elB [iv (c.id), iv (c.at_), iv (c.tgt), iv (c.ph)] 0] (bv (decide (x.id = c.id))) := by
 exact CtO 9 Try.func35 rfl rfl rfl fun E => Sq <| Rt <| BxA 1 (V rfl) rfl rfl <| U (As K) <| Nt <| Sq <| Rq <| O (FlB _ _ (V rfl) Un54 rfl 0 Sz3) <| O (LdB (V rfl) rfl Ga3 (by decide)) <| O (Fl _ _ (V rfl) Un51 rfl 0 Sz3) <| O (Ld (V rfl) Ga3 (by show 0 < 4; decide)) <| O (Ql (V rfl) (V rfl)) <| O (As (V rfl)) <| Nq <| Rx <| R1 rfl (V rfl) rfl (by show bv (decide (x.id = c.id)) = bv (decide (x.id = c.id)); rfl)
theorem indexH_ct (l : List He) (v : He) : Ct Try.prog 112 [heRow l, SV.agg 5 (heCell v)] (iv (idxF (fun y => decide (v = y)) l)) := by
 refine CtO 19 Try.func112 rfl rfl rfl fun E => Rl (V (s := 0) rfl) fun hl0 => Sq <| Rt <| BxA 1 (V rfl) rfl rfl <| U (As K) <| Nt <| Sq <| Sq <| Rq <| O (Mv (V rfl)) <| O (Ln (V rfl) ts45) <| O (Mv K) <| Nq <| Bo <| Lo (fun (i : Nat) => ⟨[(0, heRow l), (3, SV.bp 1 0), (7, iv ((l.length : Int))), (8, iv ((i : Int)))], [(1, Own.box 5 (heCell v) 54)]⟩) (fun (i : Nat) => i ≤ l.length ∧ ∀ j, j < i → (fun y => decide (v = y)) (l.getD j default) = false) (fun (i : Nat) => l.length - i) 0 (by show 0 ≤ l.length ∧ ∀ j, j < 0 → (fun y => decide (v = y)) (l.getD j default) = false; exact ⟨Nat.zero_le _, fun j hj => absurd hj (Nat.not_lt_zero _)⟩) (We (ow := [(1, Own.box 5 (heCell v) 54)]) (Vs rfl) (by exact ⟨⟨_, rfl, rfl, rfl, (An rfl)⟩, Z⟩)) <| ?_
 ·rintro i hI1
  have hJ1 : i ≤ l.length ∧ ∀ j, j < i → (fun y => decide (v = y)) (l.getD j default) = false := hI1
  have hi1 := hJ1.1
  have hall := hJ1.2
  refine Sq <| Rq <| O (Lt (V rfl) (V rfl)) <| Nq <| Sq <| Cd (V rfl) (fun hc1 => ?_) (fun hc1 => ?_)
  ·have hc1s := hc1; try simp only [BL] at hc1s
   refine Sk <| Sq <| Bo <| Sq <| Rq <| O (Mv (V rfl)) <| O (As (V rfl)) <| Nq <| Sq <| Rqd (by kernel_rfl) (by kernel_rfl) <| O (LBA (V rfl) rfl Ga54 Sz54 (by decide)) <| O (Mv (V rfl)) <| O (Mv (V rfl)) <| O (IxN (i := i) (V rfl) (V rfl) ts45 te45 (by clear hall hJ1 hI1; omega)) <| O (LdA (V rfl) Ga54 Sz54 (by decide)) <| O (q_eqS (heVal v) (heVal ((l.getD i default))) (V rfl) (V rfl) ⟨⟨⟨⟨⟨Z, rfl⟩, rfl⟩, rfl⟩, rfl⟩, rfl⟩ ⟨⟨⟨⟨⟨Z, rfl⟩, rfl⟩, rfl⟩, rfl⟩, rfl⟩ (fun w => eqS54 _ _ _ _ w)) <| Nq <| Cd (V rfl) (fun hc2 => ?_) (fun hc2 => ?_)
   ·have hc2s := hc2; try simp only [BL] at hc2s
    exact Sq <| Rq <| O (Mv (V rfl)) <| O (As (V rfl)) <| Nq <| Rx <| R1 rfl (V rfl) rfl (by show iv ((i : Int)) = iv (idxF (fun y => decide (v = y)) l); rw [idxF_hit (p := fun y => decide (v = y)) default (by clear hall hJ1 hI1; omega) hall hc2])
   ·have hc2s := hc2; try simp only [BL] at hc2s
    exact Sk <| Rq <| O (Ad (V rfl) K (by clear hall hJ1 hI1; omega)) <| O (Mv (V rfl)) <| Nq <| Nx (i + 1) (by show (i + 1) ≤ l.length ∧ ∀ j, j < (i + 1) → (fun y => decide (v = y)) (l.getD j default) = false; exact ⟨by clear hall hJ1 hI1; omega, idxF_s (p := fun y => decide (v = y)) hall hc2⟩) (by show l.length - (i + 1) < l.length - i; clear hall hJ1 hI1; omega) (We (ow := [(1, Own.box 5 (heCell v) 54)]) (Vs rfl) (by exact ⟨⟨_, rfl, rfl, rfl, (An rfl)⟩, Z⟩))
  ·have hc1s := hc1; try simp only [BL] at hc1s
   exact Ex <| Sq <| Rq <| O (As K) <| Nq <| Rx <| R1 rfl (V rfl) rfl (by show iv ((-1)) = iv (idxF (fun y => decide (v = y)) l); rw [idxF_none (p := fun y => decide (v = y)) default hall (by clear hall hJ1 hI1; omega)])
theorem containsH_ct (l : List He) (v : He) : Ct Try.prog 39 [heRow l, SV.agg 5 (heCell v)] (bv (decide (v ∈ l))) := by
 exact CtO 9 Try.func39 rfl rfl rfl fun E => Rl (V (s := 0) rfl) fun hl0 => Sq <| Rt <| BxA 1 (V rfl) rfl rfl <| U (As K) <| Nt <| Sq <| Rq <| O (Mv (V rfl)) <| O (LBA (V rfl) rfl Ga54 Sz54 (by decide)) <| CQ en112 (by exact ⟨⟨(V rfl), rfl⟩, ⟨(Vi (g' := heCell ⟨v.pl, v.down, v.once, v.stops, v.id⟩) (V rfl) ⟨⟨⟨⟨⟨Z, Ir⟩, Ir⟩, Ir⟩, Ir⟩, Ir⟩), rfl⟩, Z⟩) (indexH_ct l v) <| O (Ge (V rfl) K) <| O (As (V rfl)) <| Nq <| Rx <| R1 rfl (V rfl) rfl (by show bv (decide (0 ≤ idxF (fun y => decide (v = y)) l)) = bv (decide (v ∈ l)); exact congrArg bv (idxF_mem l v))
theorem eventTold_ct (l : List Nd) (hs : List He) (t : Hd) (hb : ∀ n ∈ l, n.kids.length ≤ 17592186043904) : Ct Try.prog 4 [SV.agg 1 (stG l), heRow hs, SV.agg 2 (hdCell t)] (bv true) := by
 refine CtO 199 Try.func4 rfl rfl rfl fun E => row_lenA 0 (V (s := 0) rfl) rfl rfl fun hl0_0 => Rl (V (s := 1) rfl) fun hl1 => Sq <| Rt <| BxA 1 (V rfl) rfl rfl <| BxA 2 (V rfl) rfl rfl <| U (As K) <| Nt <| Sq <| Rt <| U (LBA (V rfl) rfl Ga24 Sz24 (by decide)) <| U (Mv (V rfl)) <| U (LBA (V rfl) rfl Ga26 Sz26 (by decide)) <| CT en31 (by exact ⟨⟨(Vi (g' := stG l) (V rfl) ⟨Z, Ir⟩), rfl⟩, ⟨(V rfl), rfl⟩, ⟨(Vi (g' := hdCell ⟨t.pl, t.use⟩) (V rfl) ⟨⟨Z, Ir⟩, Ir⟩), rfl⟩, Z⟩) (disp_ct l hs t (by first | assumption | exact kb_nil | exact kb_of (by assumption) | exact kb_of fam_c5)) <| U (Mv (V rfl)) <| U (Xt (V rfl) (by decide)) <| U (Xt (V rfl) (by decide)) <| U (Xt (V rfl) (by decide)) <| U (As (V rfl)) <| U (As (V rfl)) <| U (As (V rfl)) <| Nt <| Sq <| Sq <| Rt <| CT en32 (by exact Z) (happened_ct) <| U (Qo (V rfl)) <| U (Mv (V rfl)) <| Ug (Gn rfl rfl) (fun hg => Mv (V rfl)) <| Ug (Gn rfl rfl) (fun hg => Qn (Vg (V rfl) hg) K) <| U (Qr (V rfl) (fun h => Vg (V rfl) (notT h))) <| Nt <| Cd (V rfl) (fun hc1 => ?_) (fun hc1 => ?_)
 ·have hc1s := hc1; try simp only [BL] at hc1s
  exact Sq <| Rt <| CT en32 (by exact Z) (happened_ct) <| U (As (V rfl)) <| Nt <| Rx <| R1 rfl (V rfl) rfl (by show bv (true) = bv true; rfl)
 ·have hc1s := hc1; try simp only [BL] at hc1s
  have hdk := disp_ok (l := l) (hs := hs) (t := t) (by simpa using hc1)
  have hf0 := hdk.1
  have hk0 := hdk.2
  have hl24 := chk_len hk0
  have hcl : (dispSt l hs t).1.length ≤ 48 * 25 := disp_len hf0 hk0
  refine Sk <| Sq <| Rt <| U (LBA (V rfl) rfl Ga24 Sz24 (by decide)) <| U (LBA (V rfl) rfl Ga26 Sz26 (by decide)) <| CT en33 (by exact ⟨⟨(Vi (g' := stG l) (V rfl) ⟨Z, Ir⟩), rfl⟩, ⟨(Vi (g' := hdCell ⟨t.pl, t.use⟩) (V rfl) ⟨⟨Z, Ir⟩, Ir⟩), rfl⟩, Z⟩) (path_ok_ct l t (by assumption) hf0) <| U (Mv (V rfl)) <| U (Xt (V rfl) (by decide)) <| U (Xt (V rfl) (by decide)) <| U (As (V rfl)) <| U (As (V rfl)) <| Nt <| Sq <| Sq <| Rq <| O (Mv (V rfl)) <| O (Qn (V rfl) K) <| Nq <| Cd (V rfl) (fun hc2 => ?_) (fun hc2 => ?_)
  ·exact absurd hc2 (by decide)
  ·have hc2s := hc2; try simp only [BL] at hc2s
   refine Sk <| Sq <| Rt <| t_makeMap 3 rfl <| U (As (V rfl)) <| Nt <| Sq <| Rq <| O (As K) <| Nq <| Sq <| Sq <| Rq <| O (Mv (V rfl)) <| O (Ln (V rfl) ts46) <| O (Mv K) <| Nq <| Bo <| c_mv 3 60 rfl rfl <| c_mapE 60 (bmap (seenC ((dispSt l hs t).1.take 0))) rfl (by rfl) <| Lo (fun (i : Nat) => ⟨[(1, heRow hs), (3, SV.bp 1 0), (8, heRow ((dispSt l hs t).2.1)), (10, inRow (line l t.pl)), (11, SV.own 60), (12, bv (upT hs ((dispSt l hs t).1.take i))), (44, caRow ((dispSt l hs t).1)), (45, iv ((((dispSt l hs t).1).length : Int))), (46, iv ((i : Int)))], [(1, Own.box 1 (fun zt => SV.renm (mvN 3 60) ((stG l) zt)) 24), (60, Own.amap (bmap (seenC ((dispSt l hs t).1.take i))))]⟩) (fun (i : Nat) => i ≤ (dispSt l hs t).1.length) (fun (i : Nat) => (dispSt l hs t).1.length - i) 0 (by show 0 ≤ (dispSt l hs t).1.length; exact Nat.zero_le _) (We (sl := [(1, heRow hs), (3, SV.bp 1 0), (8, heRow ((dispSt l hs t).2.1)), (10, inRow (line l t.pl)), (11, SV.own 60), (12, bv (upT hs ((dispSt l hs t).1.take 0))), (44, caRow ((dispSt l hs t).1)), (45, iv ((((dispSt l hs t).1).length : Int))), (46, iv ((0 : Int)))]) (ow := [(1, Own.box 1 (fun zt => SV.renm (mvN 3 60) ((stG l) zt)) 24), (60, Own.amap (bmap (seenC ((dispSt l hs t).1.take 0))))]) (by exact ⟨V rfl, V rfl, V rfl, V rfl, V rfl, val_eq (V rfl) rfl, V rfl, V rfl, V rfl, Z⟩) (by exact ⟨⟨_, rfl, rfl, rfl, (An rfl)⟩, ⟨_, rfl, rfl⟩, Z⟩)) <| ?_
   ·rintro i hI1
    have hJ1 : i ≤ (dispSt l hs t).1.length := hI1
    have hil := hJ1
    refine Sq <| Rq <| O (Lt (V rfl) (V rfl)) <| Nq <| Sq <| Cd (V rfl) (fun hc3 => ?_) (fun hc3 => ?_)
    ·have hc3s := hc3; try simp only [BL] at hc3s
     obtain ⟨h, hhm, hce, hix, hhe, hsn, hpa, hup, hpr, htr, htu, hfs, hhd⟩ := told_A hf0 hk0 (i := i) (by omega)
     have hid : ((dispSt l hs t).1.getD i default).id = h.id := by rw [hce]; rfl
     have hat : ((dispSt l hs t).1.getD i default).at_ = h.pl := by rw [hce]; rfl
     have htg : ((dispSt l hs t).1.getD i default).tgt = tgtSt l t.pl h.pl := by rw [hce]; rfl
     have hix2 : 0 ≤ (idxF (fun x => decide (x.id = ((dispSt l hs t).1.getD i default).id)) hs) ∧ (idxF (fun x => decide (x.id = ((dispSt l hs t).1.getD i default).id)) hs) < (hs.length : Int) := by rw [hid]; exact hix
     have hhe2 : (hs.getD (Int.toNat (idxF (fun x => decide (x.id = ((dispSt l hs t).1.getD i default).id)) hs)) default) = h := by rw [hid]; exact hhe
     have hpr2 : 0 ≤ ((dispSt l hs t).1.getD i default).at_ ∧ ((dispSt l hs t).1.getD i default).at_ < (l.length : Int) := by rw [hat]; exact hpr
     have htr2 : 0 ≤ ((dispSt l hs t).1.getD i default).tgt ∧ ((dispSt l hs t).1.getD i default).tgt < (l.length : Int) := by rw [htg]; exact htr
     have hsee : seenSt l ⟨((dispSt l hs t).1.getD i default).at_, (l.getD (Int.toNat ((dispSt l hs t).1.getD i default).at_) default).uses⟩ ⟨((dispSt l hs t).1.getD i default).tgt, (l.getD (Int.toNat ((dispSt l hs t).1.getD i default).tgt) default).uses⟩ = (true, 0) := by rw [hat, htg, seen_2 hfs]; show (!hiddenSt l h.pl (tgtSt l t.pl h.pl) false, (0 : Int)) = _; rw [hhd]; rfl
     have hph : ((dispSt l hs t).1.getD i default).ph = phD ((dispSt l hs t).1.getD i default).tgt ((dispSt l hs t).1.getD i default).at_ (if (hs.getD (Int.toNat (idxF (fun x => decide (x.id = ((dispSt l hs t).1.getD i default).id)) hs)) default).down = true then 1 else 3) := by rw [hhe2, htg, hat, hce]; rfl
     have hup2 : (upT hs (List.take i (dispSt l hs t).1) && (hs.getD (Int.toNat (idxF (fun x => decide (x.id = ((dispSt l hs t).1.getD i default).id)) hs)) default).down) = false := by rw [hhe2]; exact hup
     refine Sk <| Sq <| Bo <| Sq <| Rt <| U (IxN (i := i) (V rfl) (V rfl) ts46 te46 (by omega)) <| U (LdA (V rfl) Ga51 Sz51 (by decide)) <| Al 4 zero51 rfl rfl <| StA (V rfl) rfl (V rfl) Sz51 <| Nt <| Sq <| c_frzB 4 [iv ((((dispSt l hs t).1).getD i default).id), iv ((((dispSt l hs t).1).getD i default).at_), iv ((((dispSt l hs t).1).getD i default).tgt), iv ((((dispSt l hs t).1).getD i default).ph)] rfl rfl ⟨⟨⟨⟨Z, rfl⟩, rfl⟩, rfl⟩, rfl⟩ rfl <| Rt <| U (Mv (V rfl)) <| U (Mk (caps := [elB [iv ((((dispSt l hs t).1).getD i default).id), iv ((((dispSt l hs t).1).getD i default).at_), iv ((((dispSt l hs t).1).getD i default).tgt), iv ((((dispSt l hs t).1).getD i default).ph)] 0]) ⟨(V rfl), Z⟩) <| CT en34 (by exact ⟨⟨(V rfl), rfl⟩, ⟨(VA (VF [elB [iv ((((dispSt l hs t).1).getD i default).id), iv ((((dispSt l hs t).1).getD i default).at_), iv ((((dispSt l hs t).1).getD i default).tgt), iv ((((dispSt l hs t).1).getD i default).ph)] 0] ((V rfl)) (An rfl)) rfl), rfl⟩, Z⟩) (idxf34_ct (fun x => decide (x.id = ((dispSt l hs t).1.getD i default).id)) en35 rfl (fun x => toldK_ct x ((dispSt l hs t).1.getD i default)) hs) <| U (As (V rfl)) <| Nt <| Sq <| Sq <| Rqd (by kernel_rfl) (by kernel_rfl) <| O (Mv (V rfl)) <| O (Lt (V rfl) K) <| O (Mv (V rfl)) <| Og (Gn rfl rfl) (fun hg => Mv (V rfl)) <| Og (Gn rfl rfl) (fun hg => Fl _ _ (V rfl) Un51 rfl 0 Sz3) <| Og (Gn rfl rfl) (fun hg => Ld (Vg (V rfl) hg) Ga3 (by show 0 < 4; decide)) <| Og (Gn rfl rfl) (fun hg => q_lookB1 (l := seenC ((dispSt l hs t).1.take i)) Un49 Un3 (fun w => Try.zeroValue4 w) (Vg (V rfl) hg) rfl (Vg (V rfl) hg)) <| O (Qr (V rfl) (fun h => Vg (V rfl) (notT h))) <| O (Mv (V rfl)) <| Og (Gn rfl rfl) (fun hg => Mv (V rfl)) <| Og (Gn rfl rfl) (fun hg => Mv (V rfl)) <| Og (Gn rfl rfl) (fun hg => Ix (Vg (V rfl) hg) (Vg (V rfl) hg) ts45 te45 (by omega) (by omega)) <| Og (Gn rfl rfl) (fun hg => Fl _ _ (Vg (V rfl) hg) Un54 rfl 0 Sz3) <| Og (Gn rfl rfl) (fun hg => Ld (Vg (V rfl) hg) Ga3 (by decide)) <| Og (Gn rfl rfl) (fun hg => Fl _ _ (V rfl) Un51 rfl 0 Sz3) <| Og (Gn rfl rfl) (fun hg => Ld (Vg (V rfl) hg) Ga3 (by show 1 < 4; decide)) <| Og (Gn rfl rfl) (fun hg => Qn (Vg (V rfl) hg) (Vg (V rfl) hg)) <| O (Qr (V rfl) (fun h => Vg (V rfl) (notT h))) <| O (Mv (V rfl)) <| ?_
     refine Og (Gn rfl rfl) (fun hg => Mv (V rfl)) <| Og (Gn rfl rfl) (fun hg => Fl _ _ (V rfl) Un51 rfl 0 Sz3) <| Og (Gn rfl rfl) (fun hg => Ld (Vg (V rfl) hg) Ga3 (by show 1 < 4; decide)) <| CQg (Gn rfl rfl) en36 (fun hg => (by exact ⟨⟨(Vg (V rfl) hg), rfl⟩, ⟨(Vg (V rfl) hg), rfl⟩, Z⟩)) (fun hg => contains_ct (line l t.pl) ((((dispSt l hs t).1).getD i default).at_)) <| Og (Gn rfl rfl) (fun hg => Qo (Vg (V rfl) hg)) <| O (Qr (V rfl) (fun h => Vg (V rfl) (notT h))) <| O (Mv (V rfl)) <| Og (Gn rfl rfl) (fun hg => LBA (V rfl) rfl Ga24 Sz24 (by decide)) <| Og (Gn rfl rfl) (fun hg => Fl _ _ (V rfl) Un51 rfl 0 Sz3) <| Og (Gn rfl rfl) (fun hg => Ld (Vg (V rfl) hg) Ga3 (by show 2 < 4; decide)) <| CQg (Gn rfl rfl) en37 (fun hg => (by exact ⟨⟨(Vi (g' := stG l) (Vg (V rfl) hg) ⟨Z, Ir⟩), rfl⟩, ⟨(Vg (V rfl) hg), rfl⟩, Z⟩)) (fun hg => used_ct l ((((dispSt l hs t).1).getD i default).tgt)) <| Og (Gn rfl rfl) (fun hg => Qo (Vg (V rfl) hg)) <| O (Qr (V rfl) (fun h => Vg (V rfl) (notT h))) <| Nq <| Cd (V rfl) (fun hc4 => ?_) (fun hc4 => ?_)
     ·have hc4s := hc4; try simp only [BL] at hc4s
      exact absurd hc4 (by rw [hhe2, hid, hat, htg, hsn, decide_eq_true hpa, htu, decide_eq_false (show ¬ idxF (fun x => decide (x.id = h.id)) hs < 0 by omega)]; simp)
      --done
     ·have hc4s := hc4; try simp only [BL] at hc4s
      refine Sk <| Sq <| Rt <| U (Mv (V rfl)) <| U (Fl _ _ (V rfl) Un51 rfl 0 Sz3) <| U (Ld (V rfl) Ga3 (by show 0 < 4; decide)) <| t_putB (l := seenC ((dispSt l hs t).1.take i)) (.inr rfl) Un49 Un3 (V rfl) rfl (V rfl) K <| Nt <| Sq <| Rg [89, 90, 91, 92, 93, 94, 95, 96, 97, 98, 99, 100, 101, 102, 103, 104, 105, 106, 107, 108, 109, 110, 88, 111, 112, 16, 17] (by kernel_rfl) (by kernel_rfl) (by kernel_rfl) <| Gp (Gq (LBA (V rfl) rfl Ga24 Sz24 (by decide))) <| Gp (Gq (Fl _ _ (V rfl) Un51 rfl 0 Sz3)) <| Gp (Gq (Ld (V rfl) Ga3 (by show 1 < 4; decide))) <| Gp (Gq (FlB _ _ (V rfl) Un24 rfl 0 Sz22)) <| Gp (Gq (LdB (V rfl) rfl Ga22 (by decide))) <| Gp (Gq (Fl _ _ (V rfl) Un51 rfl 0 Sz3)) <| Gp (Gq (Ld (V rfl) Ga3 (by show 1 < 4; decide))) <| Gp (Gq (Ix (V rfl) (V rfl) ts22 te22 (by omega) (by omega))) <| Gp (Gq (Fl _ _ (V rfl) Un61 rfl 0 Sz3)) <| Gp (Gq (Ld (V rfl) Ga3 (by decide))) <| Gp (Gq (Bu [(0, iv ((((dispSt l hs t).1).getD i default).at_)), (1, iv ((l.getD (Int.toNat ((((dispSt l hs t).1).getD i default).at_)) default).uses))] id (hdCell ⟨(((dispSt l hs t).1).getD i default).at_, (l.getD (Int.toNat ((((dispSt l hs t).1).getD i default).at_)) default).uses⟩) zero26 build26 (by exact ⟨⟨rfl, (V rfl), rfl⟩, ⟨rfl, (V rfl), rfl⟩, Z⟩) (by decide) ⟨⟨Z, rfl⟩, rfl⟩)) <| Gp (Gq (Fl _ _ (V rfl) Un51 rfl 0 Sz3)) <| Gp (Gq (Ld (V rfl) Ga3 (by show 2 < 4; decide))) <| Gp (Gq (FlB _ _ (V rfl) Un24 rfl 0 Sz22)) <| Gp (Gq (LdB (V rfl) rfl Ga22 (by decide))) <| Gp (Gq (Fl _ _ (V rfl) Un51 rfl 0 Sz3)) <| Gp (Gq (Ld (V rfl) Ga3 (by show 2 < 4; decide))) <| Gp (Gq (Ix (V rfl) (V rfl) ts22 te22 (by omega) (by omega))) <| Gp (Gq (Fl _ _ (V rfl) Un61 rfl 0 Sz3)) <| Gp (Gq (Ld (V rfl) Ga3 (by decide))) <| Gp (Gq (Bu [(0, iv ((((dispSt l hs t).1).getD i default).tgt)), (1, iv ((l.getD (Int.toNat ((((dispSt l hs t).1).getD i default).tgt)) default).uses))] id (hdCell ⟨(((dispSt l hs t).1).getD i default).tgt, (l.getD (Int.toNat ((((dispSt l hs t).1).getD i default).tgt)) default).uses⟩) zero26 build26 (by exact ⟨⟨rfl, (V rfl), rfl⟩, ⟨rfl, (V rfl), rfl⟩, Z⟩) (by decide) ⟨⟨Z, rfl⟩, rfl⟩)) <| Gp (Gc en38 (by exact ⟨⟨(Vi (g' := stG l) (V rfl) ⟨Z, Ir⟩), rfl⟩, ⟨(V rfl), rfl⟩, ⟨(V rfl), rfl⟩, Z⟩) (seen_ct l ⟨(((dispSt l hs t).1).getD i default).at_, (l.getD (Int.toNat ((((dispSt l hs t).1).getD i default).at_)) default).uses⟩ ⟨(((dispSt l hs t).1).getD i default).tgt, (l.getD (Int.toNat ((((dispSt l hs t).1).getD i default).tgt)) default).uses⟩ (by first | assumption | exact kb_nil | exact kb_of (by assumption) | exact kb_of fam_c5))) <| Gp (Gq (Mv (V rfl))) <| Gp (Gq (Xt (V rfl) (by decide))) <| Gp (Gq (Xt (V rfl) (by decide))) <| Gp (Gq (As (V rfl))) <| Gp (Gq (As (V rfl))) <| Gz <| Sq <| Sq <| ?_
      refine Rq <| O (Mv (V rfl)) <| O (Qn (V rfl) K) <| O (Mv (V rfl)) <| Og (Gn rfl rfl) (fun hg => Mv (V rfl)) <| Og (Gn rfl rfl) (fun hg => Qo (Vg (V rfl) hg)) <| O (Qr (V rfl) (fun h => Vg (V rfl) (notT h))) <| O (Mv (V rfl)) <| Og (Gn rfl rfl) (fun hg => Fl _ _ (V rfl) Un51 rfl 0 Sz3) <| Og (Gn rfl rfl) (fun hg => Ld (Vg (V rfl) hg) Ga3 (by show 3 < 4; decide)) <| Og (Gn rfl rfl) (fun hg => Ql (Vg (V rfl) hg) K) <| Og (Gn rfl rfl) (fun hg => Fl _ _ (V rfl) Un51 rfl 0 Sz3) <| Og (Gn rfl rfl) (fun hg => Ld (Vg (V rfl) hg) Ga3 (by show 1 < 4; decide)) <| Og (Gn rfl rfl) (fun hg => Fl _ _ (V rfl) Un51 rfl 0 Sz3) <| Og (Gn rfl rfl) (fun hg => Ld (Vg (V rfl) hg) Ga3 (by show 2 < 4; decide)) <| Og (Gn rfl rfl) (fun hg => Ql (Vg (V rfl) hg) (Vg (V rfl) hg)) <| Og (Gn rfl rfl) (fun hg => q_neqb (Vg (V rfl) hg) (Vg (V rfl) hg) Un4) <| O (Qr (V rfl) (fun h => Vg (V rfl) (notT h))) <| O (Mv (V rfl)) <| Og (Gn rfl rfl) (fun hg => Fl _ _ (V rfl) Un51 rfl 0 Sz3) <| Og (Gn rfl rfl) (fun hg => Ld (Vg (V rfl) hg) Ga3 (by show 3 < 4; decide)) <| Og (Gn rfl rfl) (fun hg => Ql (Vg (V rfl) hg) K) <| Og (Gn rfl rfl) (fun hg => Mv (Vg (V rfl) hg)) <| Og (Gyy rfl rfl) (fun hg => Mv (V rfl)) <| Og (Gyy rfl rfl) (fun hg => Mv (V rfl)) <| Og (Gyy rfl rfl) (fun hg => Ix (Vg (V rfl) hg) (Vg (V rfl) hg) ts45 te45 (by omega) (by omega)) <| Og (Gyy rfl rfl) (fun hg => Fl _ _ (Vg (V rfl) hg) Un54 rfl 0 Sz4) <| Og (Gyy rfl rfl) (fun hg => Ld (Vg (V rfl) hg) Ga4 (by decide)) <| Og (Gyy rfl rfl) (fun hg => Qo (Vg (V rfl) hg)) <| Og (Gn rfl rfl) (fun hg => Qa (Vg (V rfl) hg) (fun h => Vg (V rfl) (andI hg h))) <| O (Qr (V rfl) (fun h => Vg (V rfl) (notT h))) <| O (Mv (V rfl)) <| Og (Gn rfl rfl) (fun hg => Fl _ _ (V rfl) Un51 rfl 0 Sz3) <| Og (Gn rfl rfl) (fun hg => Ld (Vg (V rfl) hg) Ga3 (by show 3 < 4; decide)) <| Og (Gn rfl rfl) (fun hg => Ql (Vg (V rfl) hg) K) <| Og (Gn rfl rfl) (fun hg => Mv (Vg (V rfl) hg)) <| Og (Gyy rfl rfl) (fun hg => Mv (V rfl)) <| Og (Gyy rfl rfl) (fun hg => Mv (V rfl)) <| Og (Gyy rfl rfl) (fun hg => Ix (Vg (V rfl) hg) (Vg (V rfl) hg) ts45 te45 (by omega) (by omega)) <| Og (Gyy rfl rfl) (fun hg => Fl _ _ (Vg (V rfl) hg) Un54 rfl 0 Sz4) <| ?_
      refine Og (Gyy rfl rfl) (fun hg => Ld (Vg (V rfl) hg) Ga4 (by decide)) <| Og (Gn rfl rfl) (fun hg => Qa (Vg (V rfl) hg) (fun h => Vg (V rfl) (andI hg h))) <| O (Qr (V rfl) (fun h => Vg (V rfl) (notT h))) <| O (Mv (V rfl)) <| Og (Gn rfl rfl) (fun hg => Mv (V rfl)) <| Og (Gn rfl rfl) (fun hg => Mv (Vg (V rfl) hg)) <| Og (Gyy rfl rfl) (fun hg => Mv (V rfl)) <| Og (Gyy rfl rfl) (fun hg => Mv (V rfl)) <| Og (Gyy rfl rfl) (fun hg => Ix (Vg (V rfl) hg) (Vg (V rfl) hg) ts45 te45 (by omega) (by omega)) <| Og (Gyy rfl rfl) (fun hg => Fl _ _ (Vg (V rfl) hg) Un54 rfl 0 Sz4) <| Og (Gyy rfl rfl) (fun hg => Ld (Vg (V rfl) hg) Ga4 (by decide)) <| Og (Gn rfl rfl) (fun hg => Qa (Vg (V rfl) hg) (fun h => Vg (V rfl) (andI hg h))) <| O (Qr (V rfl) (fun h => Vg (V rfl) (notT h))) <| Nq <| Cd (V rfl) (fun hc5 => ?_) (fun hc5 => ?_)
      ·have hc5s := hc5; try simp only [BL] at hc5s
       exact absurd hc5 (ff (told_B hsee hph hup2))
       --done
      ·have hc5s := hc5; try simp only [BL] at hc5s
       refine Sk <| Rq <| O (Mv (V rfl)) <| O (Mv (V rfl)) <| Og (Gn rfl rfl) (fun hg => Mv (V rfl)) <| Og (Gn rfl rfl) (fun hg => Mv (V rfl)) <| Og (Gn rfl rfl) (fun hg => Ix (Vg (V rfl) hg) (Vg (V rfl) hg) ts45 te45 (by omega) (by omega)) <| Og (Gn rfl rfl) (fun hg => Fl _ _ (Vg (V rfl) hg) Un54 rfl 0 Sz4) <| Og (Gn rfl rfl) (fun hg => Ld (Vg (V rfl) hg) Ga4 (by decide)) <| Og (Gn rfl rfl) (fun hg => Qo (Vg (V rfl) hg)) <| O (Qr (V rfl) (fun h => Vg (V rfl) (notT h))) <| O (As (V rfl)) <| Nq <| Rq <| O (Ad (V rfl) K (by omega)) <| O (Mv (V rfl)) <| Nq <| k_mapE 60 (bmap (seenC ((dispSt l hs t).1.take ((i + 1))))) rfl (by rw [seenC_s (by omega)]) <| Nx (i + 1) (by show (i + 1) ≤ (dispSt l hs t).1.length; first | omega | (simp; done) | (refine ⟨?_, ?_⟩ <;> first | omega | (simp; done))) (by show (dispSt l hs t).1.length - (i + 1) < (dispSt l hs t).1.length - i; omega) (We (sl := [(1, heRow hs), (3, SV.bp 1 0), (8, heRow ((dispSt l hs t).2.1)), (10, inRow (line l t.pl)), (11, SV.own 60), (12, bv (upT hs ((dispSt l hs t).1.take ((i + 1))))), (44, caRow ((dispSt l hs t).1)), (45, iv ((((dispSt l hs t).1).length : Int))), (46, iv (((i + 1) : Int)))]) (ow := [(1, Own.box 1 (fun zt => SV.renm (mvN 3 60) ((stG l) zt)) 24), (60, Own.amap (bmap (seenC ((dispSt l hs t).1.take ((i + 1))))))]) (by exact ⟨V rfl, V rfl, V rfl, V rfl, V rfl, val_eq (V rfl) (congrArg bv (upT_s (by omega)).symm), V rfl, V rfl, V rfl, Z⟩) (by exact ⟨⟨_, rfl, rfl, rfl, (An rfl)⟩, ⟨_, rfl, rfl⟩, Z⟩))
    ·have hc3s := hc3; try simp only [BL] at hc3s
     have hCe : List.take i (dispSt l hs t).1 = (dispSt l hs t).1 := List.take_of_length_le (by omega)
     refine Ex <| Sq <| Sq <| Rq <| O (Mv (V rfl)) <| O (Ln (V rfl) ts45) <| O (Mv K) <| Nq <| Bo <| Lo (fun (m : Nat) => ⟨[(1, heRow hs), (8, heRow ((dispSt l hs t).2.1)), (11, SV.own 60), (175, heRow hs), (176, iv ((hs.length : Int))), (177, iv ((m : Int)))], [(60, Own.amap (bmap (seenC ((dispSt l hs t).1.take i))))]⟩) (fun (m : Nat) => m ≤ hs.length) (fun (m : Nat) => hs.length - m) 0 (by show 0 ≤ hs.length; exact Nat.zero_le _) (We (Vs rfl) (AOs rfl)) <| ?_
     ·rintro m hI2
      have hJ2 : m ≤ hs.length := hI2
      have hml := hJ2
      refine Sq <| Rq <| O (Lt (V rfl) (V rfl)) <| Nq <| Sq <| Cd (V rfl) (fun hc6 => ?_) (fun hc6 => ?_)
      ·have hc6s := hc6; try simp only [BL] at hc6s
       refine Sk <| Sq <| Bo <| Sq <| Rt <| U (IxN (i := m) (V rfl) (V rfl) ts45 te45 (by omega)) <| U (LdA (V rfl) Ga54 Sz54 (by decide)) <| Al 5 zero54 rfl rfl <| StA (V rfl) rfl (V rfl) Sz54 <| Nt <| Sq <| Rqd (by kernel_rfl) (by kernel_rfl) <| O (Mv (V rfl)) <| O (LBA (V rfl) rfl Ga54 Sz54 (by decide)) <| CQ en39 (by exact ⟨⟨(V rfl), rfl⟩, ⟨(Vi (g' := heCell ⟨(hs.getD m default).pl, (hs.getD m default).down, (hs.getD m default).once, (hs.getD m default).stops, (hs.getD m default).id⟩) (V rfl) ⟨⟨⟨⟨⟨Z, Ir⟩, Ir⟩, Ir⟩, Ir⟩, Ir⟩), rfl⟩, Z⟩) (containsH_ct ((dispSt l hs t).2.1) ((hs.getD m default))) <| O (FlB _ _ (V rfl) Un54 rfl 0 Sz4) <| O (LdB (V rfl) rfl Ga4 (by decide)) <| O (Mv (V rfl)) <| Og (Gy rfl rfl) (fun hg => Mv (V rfl)) <| Og (Gy rfl rfl) (fun hg => FlB _ _ (V rfl) Un54 rfl 0 Sz3) <| Og (Gy rfl rfl) (fun hg => LdB (Vg (V rfl) hg) rfl Ga3 (by decide)) <| Og (Gy rfl rfl) (fun hg => q_lookB1 (l := seenC ((dispSt l hs t).1.take i)) Un49 Un3 (fun w => Try.zeroValue4 w) (Vg (V rfl) hg) rfl (Vg (V rfl) hg)) <| O (Qa (V rfl) (fun h => Vg (V rfl) h)) <| O (q_eqlb (V rfl) (V rfl) Un4) <| Nq <| Cd (V rfl) (fun hc7 => ?_) (fun hc7 => ?_)
       ·have hc7s := hc7; try simp only [BL] at hc7s
        rw [hCe] at hc7
        exact absurd hc7 (ff (told_Z hf0 hk0 (by omega)))
        --done
       ·have hc7s := hc7; try simp only [BL] at hc7s
        refine Sk <| Rq <| O (Ad (V rfl) K (by omega)) <| O (Mv (V rfl)) <| Nq <| Nx (m + 1) (by show (m + 1) ≤ hs.length; first | omega | (simp; done) | (refine ⟨?_, ?_⟩ <;> first | omega | (simp; done))) (by show hs.length - (m + 1) < hs.length - m; omega) (We (Vs rfl) (AOs rfl))
      ·have hc6s := hc6; try simp only [BL] at hc6s
       exact Ex <| Sq <| Rq <| O (Mv (V rfl)) <| O (Ln (V rfl) ts45) <| O (Mv (V rfl)) <| O (Ln (V rfl) ts45) <| O (Le (V rfl) (V rfl)) <| O (As (V rfl)) <| Nq <| Rx <| R1 rfl (V rfl) rfl (by show bv (decide ((((dispSt l hs t).2.1).length : Int) ≤ (hs.length : Int))) = bv true; exact congrArg bv (decide_eq_true (told_len hf0 hk0)))
end Go.Proofs.Ytmcdamcedemdiaa
