/- What the proof of EventStops rests on, part 5: the engine, the walks, the plain laws. -/
import Derived.Test.YtmcdamcedemdiaaEventStopsM4
set_option linter.unusedVariables false
set_option linter.unusedSimpArgs false
namespace Go.Proofs.Ytmcdamcedemdiaa
open Go.RowKit Go.Eng
theorem makeO_ct (l : List Nd) (tag : Int) (hb : ∀ n ∈ l, n.kids.length ≤ 17592186043904) : CtM Try.prog 40 [SV.agg 1 (stG l), iv (tag)] [] (sv3 (SV.agg 1 (cmpG [SV.own 0])) (SV.agg 2 (hdCell ((mkSt l tag).2.1))) (iv ((mkSt l tag).2.2))) [(0, ownOf ndCell 8 default ((mkSt l tag).1) 61)] := by
 refine CmO 59 Try.func40 rfl rfl rfl fun E => row_lenA 0 (V (s := 0) rfl) rfl rfl fun hl0_0 => Sq <| Rt <| BxA 1 (V rfl) rfl rfl <| Al 2 zero24 rfl rfl <| Al 3 zero26 rfl rfl <| U (As K) <| Nt <| Sq <| Sq <| Rq <| O (LBA (V rfl) rfl Ga24 Sz24 (by decide)) <| CQ en44 (by exact ⟨⟨(Vi (g' := stG l) (V rfl) ⟨Z, Ir⟩), rfl⟩, Z⟩) (stcheck_ct l (by first | assumption | exact kb_nil | exact kb_of (by assumption) | exact kb_of fam_c5)) <| O (As (V rfl)) <| Nq <| Sq <| Rq <| O (Mv (V rfl)) <| O (Qn (V rfl) K) <| Nq <| Cd (V rfl) (fun hc1 => ?_) (fun hc1 => ?_)
 ·have hc1s := hc1; try simp only [BL] at hc1s
  exact Sq <| Rt <| U (Bu [] id (cmpG [SV.v (Value.slice none 0 0)]) zero24 build24 (by exact Z) (by decide) ⟨Z, rfl⟩) <| U (Bu [] id (hdCell ⟨0, 0⟩) zero26 build26 (by exact Z) (by decide) ⟨⟨Z, rfl⟩, rfl⟩) <| U (Mv (V rfl)) <| StA (V rfl) rfl (V rfl) Sz24 <| StA (V rfl) rfl (V rfl) Sz26 <| U (As (V rfl)) <| Nt <| Tc (turn_nilB 2 0 4 8 (rowG ndCell default []) 61 (by exact rfl) (by exact rfl) (by exact rfl)) <| c_mv 4 0 rfl rfl <| c_ownE 0 ((mkSt l tag).1) rfl (by rw [mk_1 hc1s]) <| Rx <| RM3 rfl (rv_aggI (g' := cmpG [SV.own 0]) (rv_cell (V rfl) rfl Ga24 Sz24) ⟨Z, Ir⟩) (rv_aggI (g' := hdCell ⟨0, 0⟩) (rv_cell (V rfl) rfl Ga26 Sz26) ⟨⟨Z, Ir⟩, Ir⟩) (rv_tmp (V rfl)) (by exact ⟨⟨_, rfl, rfl⟩, Z⟩) (by show sv3 (SV.agg 1 (cmpG [SV.own 0])) (SV.agg 2 (hdCell ⟨0, 0⟩)) (iv (checkSt l)) = sv3 (SV.agg 1 (cmpG [SV.own 0])) (SV.agg 2 (hdCell ((mkSt l tag).2.1))) (iv ((mkSt l tag).2.2)); rw [mk_1 hc1s])
 ·have hc1s := hc1; try simp only [BL] at hc1s
  have hl24 := checkSt_len hc1s
  have hkf : ∀ i, i < l.length → (l.getD i default).kids.length ≤ 24 := fun i hi => kids_few hc1s hi
  refine Sk <| Sq <| Sq <| Rq <| O (Mv (V rfl)) <| O (Lt (V rfl) K) <| O (Mv (V rfl)) <| Og (Gn rfl rfl) (fun hg => Mv (V rfl)) <| Og (Gn rfl rfl) (fun hg => Gt (Vg (V rfl) hg) K) <| O (Qr (V rfl) (fun h => Vg (V rfl) (notT h))) <| Nq <| Cd (V rfl) (fun hc2 => ?_) (fun hc2 => ?_)
  ·have hc2s := hc2; try simp only [BL] at hc2s
   exact Sq <| Rt <| U (Bu [] id (cmpG [SV.v (Value.slice none 0 0)]) zero24 build24 (by exact Z) (by decide) ⟨Z, rfl⟩) <| U (Bu [] id (hdCell ⟨0, 0⟩) zero26 build26 (by exact Z) (by decide) ⟨⟨Z, rfl⟩, rfl⟩) <| StA (V rfl) rfl (V rfl) Sz24 <| StA (V rfl) rfl (V rfl) Sz26 <| U (As K) <| Nt <| Tc (turn_nilB 2 0 5 8 (rowG ndCell default []) 61 (by exact rfl) (by exact rfl) (by exact rfl)) <| c_mv 5 0 rfl rfl <| c_ownE 0 ((mkSt l tag).1) rfl (by rw [mk_2 hc1s hc2s]) <| Rx <| RM3 rfl (rv_aggI (g' := cmpG [SV.own 0]) (rv_cell (V rfl) rfl Ga24 Sz24) ⟨Z, Ir⟩) (rv_aggI (g' := hdCell ⟨0, 0⟩) (rv_cell (V rfl) rfl Ga26 Sz26) ⟨⟨Z, Ir⟩, Ir⟩) (rv_tmp (V rfl)) (by exact ⟨⟨_, rfl, rfl⟩, Z⟩) (by show sv3 (SV.agg 1 (cmpG [SV.own 0])) (SV.agg 2 (hdCell ⟨0, 0⟩)) (iv (2)) = sv3 (SV.agg 1 (cmpG [SV.own 0])) (SV.agg 2 (hdCell ((mkSt l tag).2.1))) (iv ((mkSt l tag).2.2)); rw [mk_2 hc1s hc2s])
  ·have hc2s := hc2; try simp only [BL] at hc2s
   refine Sk <| Sq <| Rt <| U (FlB _ _ (V rfl) Un24 rfl 0 Sz22) <| U (LdB (V rfl) rfl Ga22 (by decide)) <| CT en113 (by exact ⟨⟨(V rfl), rfl⟩, ⟨(VA (Vf) rfl), rfl⟩, Z⟩) (idxf113_ct roomB en114 rfl room_ct l) <| U (As (V rfl)) <| Nt <| Sq <| Sq <| Rq <| O (Mv (V rfl)) <| O (Lt (V rfl) K) <| Nq <| Cd (V rfl) (fun hc3 => ?_) (fun hc3 => ?_)
   ·have hc3s := hc3; try simp only [BL] at hc3s
    exact Sq <| Rt <| U (Bu [] id (cmpG [SV.v (Value.slice none 0 0)]) zero24 build24 (by exact Z) (by decide) ⟨Z, rfl⟩) <| U (Bu [] id (hdCell ⟨0, 0⟩) zero26 build26 (by exact Z) (by decide) ⟨⟨Z, rfl⟩, rfl⟩) <| StA (V rfl) rfl (V rfl) Sz24 <| StA (V rfl) rfl (V rfl) Sz26 <| U (As K) <| Nt <| Tc (turn_nilB 2 0 6 8 (rowG ndCell default []) 61 (by exact rfl) (by exact rfl) (by exact rfl)) <| c_mv 6 0 rfl rfl <| c_ownE 0 ((mkSt l tag).1) rfl (by rw [mk_3 hc1s (by omega) hc3s]) <| Rx <| RM3 rfl (rv_aggI (g' := cmpG [SV.own 0]) (rv_cell (V rfl) rfl Ga24 Sz24) ⟨Z, Ir⟩) (rv_aggI (g' := hdCell ⟨0, 0⟩) (rv_cell (V rfl) rfl Ga26 Sz26) ⟨⟨Z, Ir⟩, Ir⟩) (rv_tmp (V rfl)) (by exact ⟨⟨_, rfl, rfl⟩, Z⟩) (by show sv3 (SV.agg 1 (cmpG [SV.own 0])) (SV.agg 2 (hdCell ⟨0, 0⟩)) (iv (1)) = sv3 (SV.agg 1 (cmpG [SV.own 0])) (SV.agg 2 (hdCell ((mkSt l tag).2.1))) (iv ((mkSt l tag).2.2)); rw [mk_3 hc1s (by omega) hc3s])
   ·have hc3s := hc3; try simp only [BL] at hc3s
    obtain ⟨i0, he0, hi0, hp0, -⟩ := (idxF_cases roomB default l).resolve_left fun h => hc3s (by omega)
    have hku : (idxF roomB l).toNat < l.length := by omega
    have hmt : (mkTag l (Int.toNat (idxF roomB l)) tag).length = l.length := mkTag_len
    have hma : (mkAt l (Int.toNat (idxF roomB l)) tag).length = l.length := mkAt_len
    have hei : (idxF roomB l).toNat = i0 := by omega
    have hus := (uses_ok hc1s hi0)
    have hul := (roomB_lt hp0).2
    refine Sk <| Sq <| Rt <| U (LBA (V rfl) rfl Ga24 Sz24 (by decide)) <| CM (cargs := [SV.agg 1 (stG l)]) [] [(0, 7)] en115 (mv0 (by exact ⟨⟨(Vi (g' := stG l) (V rfl) ⟨Z, Ir⟩), rfl⟩, Z⟩)) (copy_ct l (by omega) (by assumption)) (by exact Z) rfl rfl rfl rfl <| StA (V rfl) rfl (V rfl) Sz24 <| Nt <| Sq <| Rq <| O (FlB _ _ (V rfl) Un24 rfl 0 Sz22) <| O (LdB (V rfl) rfl Ga22 (by decide)) <| O (Mv (V rfl)) <| O (IxO (V rfl) rfl (V rfl) ts22 te22 (by omega) (by first | omega | (simp only [List.length_set, mkTag_len, mkAt_len]; omega))) <| O (As (V rfl)) <| Nq <| Sq <| Rt <| U (Mv (V rfl)) <| U (Mv (V rfl)) <| U (Mv (V rfl)) <| U (q_nilO (V rfl)) <| U (FlO _ _ (V rfl) Un61 rfl 0 Sz4) <| ?_
    have hidx0 : Int.toNat (idxF roomB l) < l.length := by first | omega | (simp; omega)
    refine StO (rowG ndCell default (l.set (Int.toNat (idxF roomB l)) ({ (l.getD (Int.toNat (idxF roomB l)) default) with used := true }))) (V rfl) rfl K rfl rfl Sz4 (by decide) (show l.length = (l.set (Int.toNat (idxF roomB l)) ({ (l.getD (Int.toNat (idxF roomB l)) default) with used := true })).length from List.length_set.symm) (set_at hidx0 rfl) (set_typed hidx0 fun t ht hne => match t, ht, hne with | 0, _, hne => absurd rfl hne | 1, _, _ => rfl | 2, _, _ => rfl | 3, _, _ => rfl | 4, _, _ => rfl | 5, _, _ => rfl | 6, _, _ => rfl | 7, _, _ => rfl) <| U (q_nilO (V rfl)) <| U (FlO _ _ (V rfl) Un61 rfl 0 Sz3) <| ?_
    have hidx1 : Int.toNat (idxF roomB l) < (l.set (Int.toNat (idxF roomB l)) ({ (l.getD (Int.toNat (idxF roomB l)) default) with used := true })).length := by first | omega | (simp; omega)
    refine StO (rowG ndCell default ((l.set (Int.toNat (idxF roomB l)) ({ (l.getD (Int.toNat (idxF roomB l)) default) with used := true })).set (Int.toNat (idxF roomB l)) ({ ((l.set (Int.toNat (idxF roomB l)) ({ (l.getD (Int.toNat (idxF roomB l)) default) with used := true })).getD (Int.toNat (idxF roomB l)) default) with tag := tag }))) (V rfl) rfl (V rfl) rfl rfl Sz3 (by decide) (show (l.set (Int.toNat (idxF roomB l)) ({ (l.getD (Int.toNat (idxF roomB l)) default) with used := true })).length = ((l.set (Int.toNat (idxF roomB l)) ({ (l.getD (Int.toNat (idxF roomB l)) default) with used := true })).set (Int.toNat (idxF roomB l)) ({ ((l.set (Int.toNat (idxF roomB l)) ({ (l.getD (Int.toNat (idxF roomB l)) default) with used := true })).getD (Int.toNat (idxF roomB l)) default) with tag := tag })).length from List.length_set.symm) (set_at hidx1 rfl) (set_typed hidx1 fun t ht hne => match t, ht, hne with | 0, _, _ => rfl | 1, _, _ => rfl | 2, _, hne => absurd rfl hne | 3, _, _ => rfl | 4, _, _ => rfl | 5, _, _ => rfl | 6, _, _ => rfl | 7, _, _ => rfl) <| Nt <| Sq <| c_ownE 7 (mkTag l (Int.toNat (idxF roomB l)) tag) rfl (by exact mkTag_eq hku) <| Rt <| U (Mv (V rfl)) <| U (q_nilO (V rfl)) <| U (FlO _ _ (V rfl) Un61 rfl 0 Sz3) <| U (LdO (V rfl) rfl Ga3 (by decide)) <| U (Ad (V rfl) K (by rw [mkTag_uses hku, hei]; omega)) <| U (q_nilO (V rfl)) <| U (FlO _ _ (V rfl) Un61 rfl 0 Sz3) <| ?_
    have hidx2 : Int.toNat (idxF roomB l) < (mkTag l (Int.toNat (idxF roomB l)) tag).length := by first | omega | (simp; omega)
    refine StO (rowG ndCell default ((mkTag l (Int.toNat (idxF roomB l)) tag).set (Int.toNat (idxF roomB l)) ({ ((mkTag l (Int.toNat (idxF roomB l)) tag).getD (Int.toNat (idxF roomB l)) default) with uses := (((mkTag l (Int.toNat (idxF roomB l)) tag).getD (Int.toNat (idxF roomB l)) default).uses) + 1 }))) (V rfl) rfl (V rfl) rfl rfl Sz3 (by decide) (show (mkTag l (Int.toNat (idxF roomB l)) tag).length = ((mkTag l (Int.toNat (idxF roomB l)) tag).set (Int.toNat (idxF roomB l)) ({ ((mkTag l (Int.toNat (idxF roomB l)) tag).getD (Int.toNat (idxF roomB l)) default) with uses := (((mkTag l (Int.toNat (idxF roomB l)) tag).getD (Int.toNat (idxF roomB l)) default).uses) + 1 })).length from List.length_set.symm) (set_at hidx2 rfl) (set_typed hidx2 fun t ht hne => match t, ht, hne with | 0, _, _ => rfl | 1, _, hne => absurd rfl hne | 2, _, _ => rfl | 3, _, _ => rfl | 4, _, _ => rfl | 5, _, _ => rfl | 6, _, _ => rfl | 7, _, _ => rfl) <| Nt <| Sq <| c_ownE 7 (mkAt l (Int.toNat (idxF roomB l)) tag) rfl (by exact mkAt_eq hku) <| c_rd (fun e => ⟨[(52, cj (e 0) (SV.agg 1 (fun zi => (fun zt => SV.renm (rn [(0, 7)]) ((cmpG [SV.own 0]) zt)) (0 + zi)))), (53, cj (e 1) (iv (idxF roomB l))), (54, cj (e 2) (SV.oe 7 8 (Int.toNat (idxF roomB l)) 0)), (55, cj (e 3) (SV.oe 7 8 (Int.toNat (idxF roomB l)) 0)), (56, cj (e 4) (SV.oe 7 8 (Int.toNat (idxF roomB l)) 1)), (57, cj (e 5) (iv (((mkAt l (Int.toNat (idxF roomB l)) tag).getD (Int.toNat (idxF roomB l)) default).uses))), (58, cj (e 6) (SV.agg 2 (hdCell ⟨idxF roomB l, ((mkAt l (Int.toNat (idxF roomB l)) tag).getD (Int.toNat (idxF roomB l)) default).uses⟩))), (6, cj (e 9) (iv (0))), (2, SV.bp 1 0), (4, SV.bp 2 0), (5, SV.bp 3 0), (8, iv (idxF roomB l)), (9, SV.oe 7 8 (Int.toNat (idxF roomB l)) 0)], (cb (e 7) (cb (e 8) [(1, Own.box 1 (fun zt => SV.renm (rn [(0, 7)]) ((cmpG [SV.own 0]) zt)) 24), (2, Own.box 1 (fun zi => (fun zt => SV.renm (rn [(0, 7)]) ((cmpG [SV.own 0]) zt)) (0 + zi)) 24), (3, Own.box 2 (hdCell ⟨idxF roomB l, ((mkAt l (Int.toNat (idxF roomB l)) tag).getD (Int.toNat (idxF roomB l)) default).uses⟩) 26), (7, ownOf ndCell 8 default (mkAt l (Int.toNat (idxF roomB l)) tag) 61)] [(1, Own.box 1 (fun zt => SV.renm (rn [(0, 7)]) ((cmpG [SV.own 0]) zt)) 24), (2, Own.box 1 (fun zi => (fun zt => SV.renm (rn [(0, 7)]) ((cmpG [SV.own 0]) zt)) (0 + zi)) 24), (3, Own.box 2 (cmpG [iv (0), iv (0)]) 26), (7, ownOf ndCell 8 default (mkAt l (Int.toNat (idxF roomB l)) tag) 61)]) (cb (e 8) [] [(1, Own.box 1 (fun zt => SV.renm (rn [(0, 7)]) ((cmpG [SV.own 0]) zt)) 24), (2, Own.box 1 (cmpG [SV.v (Value.slice none 0 0)]) 24), (3, Own.box 2 (cmpG [iv (0), iv (0)]) 26), (7, ownOf ndCell 8 default (mkAt l (Int.toNat (idxF roomB l)) tag) 61)]))⟩) ⟨[(52, SV.agg 1 (fun zi => (fun zt => SV.renm (rn [(0, 7)]) ((cmpG [SV.own 0]) zt)) (0 + zi))), (53, iv (idxF roomB l)), (54, SV.oe 7 8 (Int.toNat (idxF roomB l)) 0), (55, SV.oe 7 8 (Int.toNat (idxF roomB l)) 0), (56, SV.oe 7 8 (Int.toNat (idxF roomB l)) 1), (57, iv (((mkAt l (Int.toNat (idxF roomB l)) tag).getD (Int.toNat (idxF roomB l)) default).uses)), (58, SV.agg 2 (hdCell ⟨idxF roomB l, ((mkAt l (Int.toNat (idxF roomB l)) tag).getD (Int.toNat (idxF roomB l)) default).uses⟩)), (6, iv (0)), (2, SV.bp 1 0), (4, SV.bp 2 0), (5, SV.bp 3 0), (8, iv (idxF roomB l)), (9, SV.oe 7 8 (Int.toNat (idxF roomB l)) 0)], [(1, Own.box 1 (fun zt => SV.renm (rn [(0, 7)]) ((cmpG [SV.own 0]) zt)) 24), (2, Own.box 1 (fun zi => (fun zt => SV.renm (rn [(0, 7)]) ((cmpG [SV.own 0]) zt)) (0 + zi)) 24), (3, Own.box 2 (hdCell ⟨idxF roomB l, ((mkAt l (Int.toNat (idxF roomB l)) tag).getD (Int.toNat (idxF roomB l)) default).uses⟩) 26), (7, ownOf ndCell 8 default (mkAt l (Int.toNat (idxF roomB l)) tag) 61)]⟩ (by kernel_rfl) (by kernel_rfl) ?_ ⟨?_, ?_, ?_, ?_, ?_, ?_, ?_, ?_, ?_, ?_, Z⟩ ?_ ?_
    ·show Weak _ _ ⟨[(52, SV.junk), (53, SV.junk), (54, SV.junk), (55, SV.junk), (56, SV.junk), (57, SV.junk), (58, SV.junk), (6, SV.junk), (2, SV.bp 1 0), (4, SV.bp 2 0), (5, SV.bp 3 0), (8, iv (idxF roomB l)), (9, SV.oe 7 8 (Int.toNat (idxF roomB l)) 0)], [(1, Own.box 1 (fun zt => SV.renm (rn [(0, 7)]) ((cmpG [SV.own 0]) zt)) 24), (2, Own.box 1 (cmpG [SV.v (Value.slice none 0 0)]) 24), (3, Own.box 2 (cmpG [iv (0), iv (0)]) 26), (7, ownOf ndCell 8 default (mkAt l (Int.toNat (idxF roomB l)) tag) 61)]⟩
     refine We ?_ ?_
     ·exact ⟨Vj, Vj, Vj, Vj, Vj, Vj, Vj, Vj, V rfl, V rfl, V rfl, V rfl, V rfl, Z⟩
     ·exact ⟨⟨_, rfl, ⟨rfl, rfl, (An rfl)⟩⟩, ⟨_, rfl, ⟨rfl, rfl, (An rfl)⟩⟩, ⟨_, rfl, ⟨rfl, rfl, (An rfl)⟩⟩, ⟨_, rfl, rfl⟩, Z⟩
    ·intro e hdn he hdp
     obtain ⟨h7, h8, -⟩ := dns1 hdn he [7, 8] (by kernel_rfl)
     simp only [setE, he, h7, h8, cj_t, cj_f, cjn_t, cjn_f, cb_t, cb_f]
     refine U (LBA (V rfl) rfl Ga24 Sz24 (by decide)) <| Nt <| We ?_ ?_
     ·exact (Vs rfl)
     ·exact ⟨⟨_, rfl, ⟨rfl, rfl, (An rfl)⟩⟩, ⟨_, rfl, ⟨rfl, rfl, (An rfl)⟩⟩, ⟨_, rfl, ⟨rfl, rfl, (An rfl)⟩⟩, ⟨_, rfl, rfl⟩, Z⟩
    ·intro e hdn he hdp
     obtain ⟨-, h8, -⟩ := dns1 hdn he [6, 8] (by kernel_rfl)
     simp only [setE, he, h8, cj_t, cj_f, cjn_t, cjn_f, cb_t, cb_f]
     exact U (Mv (V rfl)) <| Nt <| weakS ⟨V rfl, V rfl, V rfl, V rfl, V rfl, V rfl, V rfl, V rfl, V rfl, V rfl, V rfl, V rfl, V rfl, Z⟩
    ·intro e hdn he hdp
     obtain ⟨-, -, -, -, h8, -⟩ := dns1 hdn he [3, 4, 5, 6, 8] (by kernel_rfl)
     simp only [setE, he, h8, cj_t, cj_f, cjn_t, cjn_f, cb_t, cb_f]
     exact U (Mv (V rfl)) <| Nt <| weakS ⟨V rfl, V rfl, V rfl, V rfl, V rfl, V rfl, V rfl, V rfl, V rfl, V rfl, V rfl, V rfl, V rfl, Z⟩
    ·intro e hdn he hdp
     obtain ⟨h2, -⟩ := ups hdn [2] hdp (by kernel_rfl)
     obtain ⟨-, -, -, h8, -⟩ := dns1 hdn he [4, 5, 6, 8] (by kernel_rfl)
     cases hu7 : e 7
     ·simp only [setE, h2, he, h8, hu7, cj_t, cj_f, cjn_t, cjn_f, cb_t, cb_f]
      refine U (q_nilO (V rfl)) <| Nt <| We ?_ ?_
      ·exact (Vs rfl)
      ·exact ⟨⟨_, rfl, ⟨rfl, rfl, (An rfl)⟩⟩, ⟨_, rfl, ⟨rfl, rfl, (An rfl)⟩⟩, ⟨_, rfl, ⟨rfl, rfl, (An rfl)⟩⟩, ⟨_, rfl, rfl⟩, Z⟩
     ·simp only [setE, h2, he, h8, hu7, cj_t, cj_f, cjn_t, cjn_f, cb_t, cb_f]
      refine U (q_nilO (V rfl)) <| Nt <| We ?_ ?_
      ·exact (Vs rfl)
      ·exact ⟨⟨_, rfl, ⟨rfl, rfl, (An rfl)⟩⟩, ⟨_, rfl, ⟨rfl, rfl, (An rfl)⟩⟩, ⟨_, rfl, ⟨rfl, rfl, (An rfl)⟩⟩, ⟨_, rfl, rfl⟩, Z⟩
    ·intro e hdn he hdp
     obtain ⟨h3, h2, -⟩ := ups hdn [3, 2] hdp (by kernel_rfl)
     obtain ⟨-, -, h8, -⟩ := dns1 hdn he [5, 6, 8] (by kernel_rfl)
     simp only [setE, h2, h3, he, h8, cj_t, cj_f, cjn_t, cjn_f, cb_t, cb_f]
     exact U (FlO _ _ (V rfl) Un61 rfl 0 Sz3) <| Nt <| weakS ⟨V rfl, V rfl, V rfl, V rfl, V rfl, V rfl, V rfl, V rfl, V rfl, V rfl, V rfl, V rfl, V rfl, Z⟩
    ·intro e hdn he hdp
     obtain ⟨h4, h3, h2, -⟩ := ups hdn [4, 3, 2] hdp (by kernel_rfl)
     obtain ⟨-, h8, -⟩ := dns1 hdn he [6, 8] (by kernel_rfl)
     cases hu7 : e 7
     ·simp only [setE, h2, h3, h4, he, h8, hu7, cj_t, cj_f, cjn_t, cjn_f, cb_t, cb_f]
      refine U (LdO (V rfl) rfl Ga3 (by decide)) <| Nt <| We ?_ ?_
      ·exact (Vs rfl)
      ·exact ⟨⟨_, rfl, ⟨rfl, rfl, (An rfl)⟩⟩, ⟨_, rfl, ⟨rfl, rfl, (An rfl)⟩⟩, ⟨_, rfl, ⟨rfl, rfl, (An rfl)⟩⟩, ⟨_, rfl, rfl⟩, Z⟩
     ·simp only [setE, h2, h3, h4, he, h8, hu7, cj_t, cj_f, cjn_t, cjn_f, cb_t, cb_f]
      refine U (LdO (V rfl) rfl Ga3 (by decide)) <| Nt <| We ?_ ?_
      ·exact (Vs rfl)
      ·exact ⟨⟨_, rfl, ⟨rfl, rfl, (An rfl)⟩⟩, ⟨_, rfl, ⟨rfl, rfl, (An rfl)⟩⟩, ⟨_, rfl, ⟨rfl, rfl, (An rfl)⟩⟩, ⟨_, rfl, rfl⟩, Z⟩
    ·intro e hdn he hdp
     obtain ⟨h5, h4, h3, h2, h1, -⟩ := ups hdn [5, 4, 3, 2, 1] hdp (by kernel_rfl)
     obtain ⟨h8, -⟩ := dns1 hdn he [8] (by kernel_rfl)
     simp only [setE, h1, h2, h3, h4, h5, he, h8, cj_t, cj_f, cjn_t, cjn_f, cb_t, cb_f]
     exact U (Bu [(0, iv (idxF roomB l)), (1, iv (((mkAt l (Int.toNat (idxF roomB l)) tag).getD (Int.toNat (idxF roomB l)) default).uses))] id (hdCell ⟨idxF roomB l, ((mkAt l (Int.toNat (idxF roomB l)) tag).getD (Int.toNat (idxF roomB l)) default).uses⟩) zero26 build26 (by exact ⟨⟨rfl, (V rfl), rfl⟩, ⟨rfl, (V rfl), rfl⟩, Z⟩) (by decide) ⟨⟨Z, rfl⟩, rfl⟩) <| Nt <| weakS ⟨V rfl, V rfl, V rfl, V rfl, V rfl, V rfl, V rfl, V rfl, V rfl, V rfl, V rfl, V rfl, V rfl, Z⟩
    ·intro e hdn he hdp
     obtain ⟨h0, -⟩ := ups hdn [0] hdp (by kernel_rfl)
     obtain ⟨h8, -⟩ := dns1 hdn he [8] (by kernel_rfl)
     simp only [setE, h0, he, h8, cj_t, cj_f, cjn_t, cjn_f, cb_t, cb_f]
     refine StA (V rfl) rfl (V rfl) Sz24 <| Nt <| We ?_ ?_
     ·exact (Vs rfl)
     ·exact ⟨⟨_, rfl, ⟨rfl, rfl, (An rfl)⟩⟩, ⟨_, rfl, ⟨rfl, rfl, (An rfl)⟩⟩, ⟨_, rfl, ⟨rfl, rfl, (An rfl)⟩⟩, ⟨_, rfl, rfl⟩, Z⟩
    ·intro e hdn he hdp
     obtain ⟨h7, h6, h5, h4, h3, h2, h1, h0, -⟩ := ups hdn [7, 6, 5, 4, 3, 2, 1, 0] hdp (by kernel_rfl)
     simp only [setE, h0, h1, h2, h3, h4, h5, h6, h7, he, cj_t, cj_f, cjn_t, cjn_f, cb_t, cb_f]
     refine StA (V rfl) rfl (V rfl) Sz26 <| Nt <| We ?_ ?_
     ·exact (Vs rfl)
     ·exact ⟨⟨_, rfl, ⟨rfl, rfl, (An rfl)⟩⟩, ⟨_, rfl, ⟨rfl, rfl, (An rfl)⟩⟩, ⟨_, rfl, ⟨rfl, rfl, (An rfl)⟩⟩, ⟨_, rfl, rfl⟩, Z⟩
    ·intro e hdn he hdp
     obtain ⟨h8, h7, h6, h5, h4, h3, h2, h1, h0, -⟩ := ups hdn [8, 7, 6, 5, 4, 3, 2, 1, 0] hdp (by kernel_rfl)
     simp only [setE, h0, h1, h2, h3, h4, h5, h6, h7, h8, he, cj_t, cj_f, cjn_t, cjn_f, cb_t, cb_f]
     refine U (As K) <| Nt <| We ?_ ?_
     ·exact (Vs rfl)
     ·exact ⟨⟨_, rfl, ⟨rfl, rfl, (An rfl)⟩⟩, ⟨_, rfl, ⟨rfl, rfl, (An rfl)⟩⟩, ⟨_, rfl, ⟨rfl, rfl, (An rfl)⟩⟩, ⟨_, rfl, rfl⟩, Z⟩
    ·intro e he
     have h0 := he 0 (by decide)
     have h1 := he 1 (by decide)
     have h2 := he 2 (by decide)
     have h3 := he 3 (by decide)
     have h4 := he 4 (by decide)
     have h5 := he 5 (by decide)
     have h6 := he 6 (by decide)
     have h7 := he 7 (by decide)
     have h8 := he 8 (by decide)
     have h9 := he 9 (by decide)
     show Weak _ ⟨[(52, cj (e 0) (SV.agg 1 (fun zi => (fun zt => SV.renm (rn [(0, 7)]) ((cmpG [SV.own 0]) zt)) (0 + zi)))), (53, cj (e 1) (iv (idxF roomB l))), (54, cj (e 2) (SV.oe 7 8 (Int.toNat (idxF roomB l)) 0)), (55, cj (e 3) (SV.oe 7 8 (Int.toNat (idxF roomB l)) 0)), (56, cj (e 4) (SV.oe 7 8 (Int.toNat (idxF roomB l)) 1)), (57, cj (e 5) (iv (((mkAt l (Int.toNat (idxF roomB l)) tag).getD (Int.toNat (idxF roomB l)) default).uses))), (58, cj (e 6) (SV.agg 2 (hdCell ⟨idxF roomB l, ((mkAt l (Int.toNat (idxF roomB l)) tag).getD (Int.toNat (idxF roomB l)) default).uses⟩))), (6, cj (e 9) (iv (0))), (2, SV.bp 1 0), (4, SV.bp 2 0), (5, SV.bp 3 0), (8, iv (idxF roomB l)), (9, SV.oe 7 8 (Int.toNat (idxF roomB l)) 0)], (cb (e 7) (cb (e 8) [(1, Own.box 1 (fun zt => SV.renm (rn [(0, 7)]) ((cmpG [SV.own 0]) zt)) 24), (2, Own.box 1 (fun zi => (fun zt => SV.renm (rn [(0, 7)]) ((cmpG [SV.own 0]) zt)) (0 + zi)) 24), (3, Own.box 2 (hdCell ⟨idxF roomB l, ((mkAt l (Int.toNat (idxF roomB l)) tag).getD (Int.toNat (idxF roomB l)) default).uses⟩) 26), (7, ownOf ndCell 8 default (mkAt l (Int.toNat (idxF roomB l)) tag) 61)] [(1, Own.box 1 (fun zt => SV.renm (rn [(0, 7)]) ((cmpG [SV.own 0]) zt)) 24), (2, Own.box 1 (fun zi => (fun zt => SV.renm (rn [(0, 7)]) ((cmpG [SV.own 0]) zt)) (0 + zi)) 24), (3, Own.box 2 (cmpG [iv (0), iv (0)]) 26), (7, ownOf ndCell 8 default (mkAt l (Int.toNat (idxF roomB l)) tag) 61)]) (cb (e 8) [] [(1, Own.box 1 (fun zt => SV.renm (rn [(0, 7)]) ((cmpG [SV.own 0]) zt)) 24), (2, Own.box 1 (cmpG [SV.v (Value.slice none 0 0)]) 24), (3, Own.box 2 (cmpG [iv (0), iv (0)]) 26), (7, ownOf ndCell 8 default (mkAt l (Int.toNat (idxF roomB l)) tag) 61)]))⟩ _
     simp only [h0, h1, h2, h3, h4, h5, h6, h7, h8, h9]
     show Weak _ ⟨[(52, SV.agg 1 (fun zi => (fun zt => SV.renm (rn [(0, 7)]) ((cmpG [SV.own 0]) zt)) (0 + zi))), (53, iv (idxF roomB l)), (54, SV.oe 7 8 (Int.toNat (idxF roomB l)) 0), (55, SV.oe 7 8 (Int.toNat (idxF roomB l)) 0), (56, SV.oe 7 8 (Int.toNat (idxF roomB l)) 1), (57, iv (((mkAt l (Int.toNat (idxF roomB l)) tag).getD (Int.toNat (idxF roomB l)) default).uses)), (58, SV.agg 2 (hdCell ⟨idxF roomB l, ((mkAt l (Int.toNat (idxF roomB l)) tag).getD (Int.toNat (idxF roomB l)) default).uses⟩)), (6, iv (0)), (2, SV.bp 1 0), (4, SV.bp 2 0), (5, SV.bp 3 0), (8, iv (idxF roomB l)), (9, SV.oe 7 8 (Int.toNat (idxF roomB l)) 0)], [(1, Own.box 1 (fun zt => SV.renm (rn [(0, 7)]) ((cmpG [SV.own 0]) zt)) 24), (2, Own.box 1 (fun zi => (fun zt => SV.renm (rn [(0, 7)]) ((cmpG [SV.own 0]) zt)) (0 + zi)) 24), (3, Own.box 2 (hdCell ⟨idxF roomB l, ((mkAt l (Int.toNat (idxF roomB l)) tag).getD (Int.toNat (idxF roomB l)) default).uses⟩) 26), (7, ownOf ndCell 8 default (mkAt l (Int.toNat (idxF roomB l)) tag) 61)]⟩ _
     refine We ?_ ?_
     ·exact ⟨Va (V rfl) (An rfl), V rfl, V rfl, V rfl, V rfl, V rfl, Va (V rfl) (An rfl), V rfl, V rfl, V rfl, V rfl, V rfl, V rfl, Z⟩
     ·exact ⟨⟨_, rfl, ⟨rfl, rfl, (An rfl)⟩⟩, ⟨_, rfl, ⟨rfl, rfl, (An rfl)⟩⟩, ⟨_, rfl, ⟨rfl, rfl, (An rfl)⟩⟩, ⟨_, rfl, rfl⟩, Z⟩
    exact c_mv 7 0 rfl rfl <| c_ownE 0 ((mkSt l tag).1) rfl (by rw [mk_4 hc1s (by omega) hc3s]) <| Rx <| RM3 rfl (rv_aggI (g' := cmpG [SV.own 0]) (rv_cell (V rfl) rfl Ga24 Sz24) ⟨Z, Ir⟩) (rv_aggI (g' := hdCell ⟨idxF roomB l, ((mkAt l (Int.toNat (idxF roomB l)) tag).getD (Int.toNat (idxF roomB l)) default).uses⟩) (rv_cell (V rfl) rfl Ga26 Sz26) ⟨⟨Z, Ir⟩, Ir⟩) (rv_tmp (V rfl)) (by exact ⟨⟨_, rfl, rfl⟩, Z⟩) (by show sv3 (SV.agg 1 (cmpG [SV.own 0])) (SV.agg 2 (hdCell ⟨idxF roomB l, ((mkAt l (Int.toNat (idxF roomB l)) tag).getD (Int.toNat (idxF roomB l)) default).uses⟩)) (iv (0)) = sv3 (SV.agg 1 (cmpG [SV.own 0])) (SV.agg 2 (hdCell ((mkSt l tag).2.1))) (iv ((mkSt l tag).2.2)); rw [mk_4 hc1s (by omega) hc3s, mkAt_uses hku])
theorem attK_ct (x : Nd) (h : Hd) : Ct Try.prog 135 [SV.agg 8 (ndCell x), elB [iv (h.pl), iv (h.use)] 0] (bv (decide (x.host = h.pl))) := by
 exact CtO 9 Try.func135 rfl rfl rfl fun E => row_lenA 5 (V (s := 0) rfl) rfl rfl fun hl0_5 => Sq <| Rt <| BxA 1 (V rfl) rfl rfl <| U (As K) <| Nt <| Sq <| Rq <| O (FlB _ _ (V rfl) Un61 rfl 0 Sz3) <| O (LdB (V rfl) rfl Ga3 (by decide)) <| O (Fl _ _ (V rfl) Un26 rfl 0 Sz3) <| O (Ld (V rfl) Ga3 (by show 0 < 2; decide)) <| O (Ql (V rfl) (V rfl)) <| O (As (V rfl)) <| Nq <| Rx <| R1 rfl (V rfl) rfl (by show bv (decide (x.host = h.pl)) = bv (decide (x.host = h.pl)); rfl)
theorem attach_ct (l : List Nd) (h : Hd) (cl : Bool) (hb : ∀ n ∈ l, n.kids.length ≤ 17592186043904) : Ct Try.prog 74 [SV.agg 1 (stG l), SV.agg 2 (hdCell h), bv (cl)] (sv3 (SV.agg 1 (stG (attSt l h cl).1)) (SV.agg 2 (hdCell (attSt l h cl).2.1)) (iv (attSt l h cl).2.2)) := by
 refine CtO 58 Try.func74 rfl rfl rfl fun E => row_lenA 0 (V (s := 0) rfl) rfl rfl fun hl0_0 => Sq <| Rt <| BxA 1 (V rfl) rfl rfl <| BxA 2 (V rfl) rfl rfl <| Al 3 zero24 rfl rfl <| Al 4 zero26 rfl rfl <| U (As K) <| Nt <| Sq <| Sq <| c_frzB 2 [iv (h.pl), iv (h.use)] rfl rfl ⟨⟨Z, rfl⟩, rfl⟩ rfl <| Rt <| U (LBA (V rfl) rfl Ga24 Sz24 (by decide)) <| U (LdA (V rfl) Ga26 Sz26 (by show 0 + 2 ≤ 2; decide)) <| CT en46 (by exact ⟨⟨(Vi (g' := stG l) (V rfl) ⟨Z, Ir⟩), rfl⟩, ⟨(Vi (g' := hdCell ⟨h.pl, h.use⟩) (V rfl) ⟨⟨Z, Ir⟩, Ir⟩), rfl⟩, Z⟩) (find_ct l h (by first | assumption | exact kb_nil | exact kb_of (by assumption) | exact kb_of fam_c5)) <| U (Mv (V rfl)) <| U (Xt (V rfl) (by decide)) <| U (Xt (V rfl) (by decide)) <| Al 5 zero61 rfl rfl <| StA (V rfl) rfl (V rfl) Sz61 <| U (As (V rfl)) <| Nt <| Sq <| Rq <| O (Mv (V rfl)) <| O (Qn (V rfl) K) <| Nq <| Cd (V rfl) (fun hc1 => ?_) (fun hc1 => ?_)
 ·have hc1s := hc1; try simp only [BL] at hc1s
  exact Sq <| Rt <| U (Bu [] id (cmpG [SV.v (Value.slice none 0 0)]) zero24 build24 (by exact Z) (by decide) ⟨Z, rfl⟩) <| U (Bu [] id (hdCell ⟨0, 0⟩) zero26 build26 (by exact Z) (by decide) ⟨⟨Z, rfl⟩, rfl⟩) <| U (Mv (V rfl)) <| StA (V rfl) rfl (V rfl) Sz24 <| StA (V rfl) rfl (V rfl) Sz26 <| U (As (V rfl)) <| Nt <| Rx <| RR3 rfl (rv_aggI (g' := stG ([])) (rv_cell (V rfl) rfl Ga24 Sz24) ⟨Z, In⟩) (rv_cell (V rfl) rfl Ga26 Sz26) (rv_tmp (V rfl)) rfl rfl rfl (by show sv3 (SV.agg 1 (stG ([]))) (SV.agg 2 (hdCell ⟨0, 0⟩)) (iv ((findSt l h).2)) = sv3 (SV.agg 1 (stG (attSt l h cl).1)) (SV.agg 2 (hdCell (attSt l h cl).2.1)) (iv (attSt l h cl).2.2); rw [att_1 (h := h) (fun q => hc1s ((first_find l h).symm.trans q)), first_find])
 ·have hc1s := hc1; try simp only [BL] at hc1s
  have hf0 : firstSt l [h] = 0 := (first_find l h).trans hc1s
  have hc0 := (first1 hf0).1
  have hpl := (first1 hf0).2.2.1
  refine Sk <| Sq <| Sq <| Rt <| U (FlB _ _ (V rfl) Un24 rfl 0 Sz22) <| U (LdB (V rfl) rfl Ga22 (by decide)) <| U (Mk (caps := [elB [iv (h.pl), iv (h.use)] 0]) ⟨(V rfl), Z⟩) <| CT en116 (by exact ⟨⟨(V rfl), rfl⟩, ⟨(VA (VF [elB [iv (h.pl), iv (h.use)] 0] ((V rfl)) (An rfl)) rfl), rfl⟩, Z⟩) (conf116_ct (fun n => decide (n.host = h.pl)) en135 rfl (fun x => attK_ct x h) l) <| Nt <| Cd (V rfl) (fun hc2 => ?_) (fun hc2 => ?_)
  ·have hc2s := hc2; try simp only [BL] at hc2s
   exact Sq <| Rt <| U (Bu [] id (cmpG [SV.v (Value.slice none 0 0)]) zero24 build24 (by exact Z) (by decide) ⟨Z, rfl⟩) <| U (Bu [] id (hdCell ⟨0, 0⟩) zero26 build26 (by exact Z) (by decide) ⟨⟨Z, rfl⟩, rfl⟩) <| StA (V rfl) rfl (V rfl) Sz24 <| StA (V rfl) rfl (V rfl) Sz26 <| U (As K) <| Nt <| Rx <| RR3 rfl (rv_aggI (g' := stG ([])) (rv_cell (V rfl) rfl Ga24 Sz24) ⟨Z, In⟩) (rv_cell (V rfl) rfl Ga26 Sz26) (rv_tmp (V rfl)) rfl rfl rfl (by show sv3 (SV.agg 1 (stG ([]))) (SV.agg 2 (hdCell ⟨0, 0⟩)) (iv (6)) = sv3 (SV.agg 1 (stG (attSt l h cl).1)) (SV.agg 2 (hdCell (attSt l h cl).2.1)) (iv (attSt l h cl).2.2); rw [att_2 hf0 hc2])
  ·have hc2s := hc2; try simp only [BL] at hc2s
   refine Sk <| Sq <| Rt <| U (LBA (V rfl) rfl Ga24 Sz24 (by decide)) <| CM (cargs := [SV.agg 1 (stG l), iv (0)]) [] [(0, 6)] en40 (mv0 (by exact ⟨⟨(Vi (g' := stG l) (V rfl) ⟨Z, Ir⟩), rfl⟩, ⟨K, rfl⟩, Z⟩)) (makeO_ct l 0 (by first | assumption | exact kb_of (by assumption))) (by exact Z) rfl rfl rfl rfl <| U (Mv (V rfl)) <| U (Xt (V rfl) (by decide)) <| U (Xt (V rfl) (by decide)) <| U (Xt (V rfl) (by decide)) <| Al 7 zero26 rfl rfl <| StA (V rfl) rfl (V rfl) Sz24 <| StA (V rfl) rfl (V rfl) Sz26 <| U (As (V rfl)) <| Nt <| Sq <| Sq <| Rq <| O (Mv (V rfl)) <| O (Qn (V rfl) K) <| Nq <| Cd (V rfl) (fun hc3 => ?_) (fun hc3 => ?_)
   ·have hc3s := hc3; try simp only [BL] at hc3s
    exact Sq <| Rt <| U (Bu [] id (cmpG [SV.v (Value.slice none 0 0)]) zero24 build24 (by exact Z) (by decide) ⟨Z, rfl⟩) <| U (Bu [] id (hdCell ⟨0, 0⟩) zero26 build26 (by exact Z) (by decide) ⟨⟨Z, rfl⟩, rfl⟩) <| U (Mv (V rfl)) <| StA (V rfl) rfl (V rfl) Sz24 <| StA (V rfl) rfl (V rfl) Sz26 <| U (As (V rfl)) <| Nt <| Rx <| RR3 rfl (rv_aggI (g' := stG ([])) (rv_cell (V rfl) rfl Ga24 Sz24) ⟨Z, In⟩) (rv_cell (V rfl) rfl Ga26 Sz26) (rv_tmp (V rfl)) rfl rfl rfl (by show sv3 (SV.agg 1 (stG ([]))) (SV.agg 2 (hdCell ⟨0, 0⟩)) (iv ((mkSt l 0).2.2)) = sv3 (SV.agg 1 (stG (attSt l h cl).1)) (SV.agg 2 (hdCell (attSt l h cl).2.1)) (iv (attSt l h cl).2.2); rw [att_3 hf0 hc2 hc3s])
   ·have hc3s := hc3; try simp only [BL] at hc3s
    have hmk := mk_in hc3s
    refine Sk <| Sq <| c_rd (fun e => ⟨[(41, cj (e 0) (SV.bp 1 0)), (42, cj (e 1) (SV.own 6)), (43, cj (e 2) (SV.bp 7 0)), (44, cj (e 3) (iv ((mkSt l 0).2.1.pl))), (45, cj (e 4) (SV.bp 1 0)), (46, cj (e 5) (SV.own 6)), (47, cj (e 6) (SV.bp 7 0)), (48, cj (e 7) (iv ((mkSt l 0).2.1.pl))), (49, cj (e 8) (elB [iv (h.pl), iv (h.use)] 0)), (50, cj (e 9) (iv (h.pl))), (51, cj (e 10) (bv (cl))), (52, cj (e 11) (SV.oe 6 8 (Int.toNat ((mkSt l 0).2.1.pl)) 0)), (53, cj (e 12) (SV.oe 6 8 (Int.toNat ((mkSt l 0).2.1.pl)) 6)), (54, cj (e 14) (SV.oe 6 8 (Int.toNat ((mkSt l 0).2.1.pl)) 0)), (55, cj (e 15) (SV.oe 6 8 (Int.toNat ((mkSt l 0).2.1.pl)) 7)), (2, bv (cl)), (3, SV.bp 1 0), (4, elB [iv (h.pl), iv (h.use)] 0), (6, SV.bp 3 0), (7, SV.bp 4 0), (11, SV.bp 7 0)], (cb (e 13) (cb (e 16) [(1, Own.box 1 (fun zt => SV.renm (rn [(0, 6)]) ((cmpG [SV.own 0]) zt)) 24), (3, Own.box 1 (cmpG [SV.v (Value.slice none 0 0)]) 24), (4, Own.box 2 (cmpG [iv (0), iv (0)]) 26), (6, ownOf ndCell 8 default ((((mkSt l 0).1).set (Int.toNat ((mkSt l 0).2.1.pl)) ({ (((mkSt l 0).1).getD (Int.toNat ((mkSt l 0).2.1.pl)) default) with host := h.pl })).set (Int.toNat ((mkSt l 0).2.1.pl)) ({ ((((mkSt l 0).1).set (Int.toNat ((mkSt l 0).2.1.pl)) ({ (((mkSt l 0).1).getD (Int.toNat ((mkSt l 0).2.1.pl)) default) with host := h.pl })).getD (Int.toNat ((mkSt l 0).2.1.pl)) default) with closed := cl })) 61), (7, Own.box 2 (hdCell ((mkSt l 0).2.1)) 26)] [(1, Own.box 1 (fun zt => SV.renm (rn [(0, 6)]) ((cmpG [SV.own 0]) zt)) 24), (3, Own.box 1 (cmpG [SV.v (Value.slice none 0 0)]) 24), (4, Own.box 2 (cmpG [iv (0), iv (0)]) 26), (6, ownOf ndCell 8 default (((mkSt l 0).1).set (Int.toNat ((mkSt l 0).2.1.pl)) ({ (((mkSt l 0).1).getD (Int.toNat ((mkSt l 0).2.1.pl)) default) with host := h.pl })) 61), (7, Own.box 2 (hdCell ((mkSt l 0).2.1)) 26)]) (cb (e 16) [] [(1, Own.box 1 (fun zt => SV.renm (rn [(0, 6)]) ((cmpG [SV.own 0]) zt)) 24), (3, Own.box 1 (cmpG [SV.v (Value.slice none 0 0)]) 24), (4, Own.box 2 (cmpG [iv (0), iv (0)]) 26), (6, ownOf ndCell 8 default ((mkSt l 0).1) 61), (7, Own.box 2 (hdCell ((mkSt l 0).2.1)) 26)]))⟩) ⟨[(41, SV.bp 1 0), (42, SV.own 6), (43, SV.bp 7 0), (44, iv ((mkSt l 0).2.1.pl)), (45, SV.bp 1 0), (46, SV.own 6), (47, SV.bp 7 0), (48, iv ((mkSt l 0).2.1.pl)), (49, elB [iv (h.pl), iv (h.use)] 0), (50, iv (h.pl)), (51, bv (cl)), (52, SV.oe 6 8 (Int.toNat ((mkSt l 0).2.1.pl)) 0), (53, SV.oe 6 8 (Int.toNat ((mkSt l 0).2.1.pl)) 6), (54, SV.oe 6 8 (Int.toNat ((mkSt l 0).2.1.pl)) 0), (55, SV.oe 6 8 (Int.toNat ((mkSt l 0).2.1.pl)) 7), (2, bv (cl)), (3, SV.bp 1 0), (4, elB [iv (h.pl), iv (h.use)] 0), (6, SV.bp 3 0), (7, SV.bp 4 0), (11, SV.bp 7 0)], [(1, Own.box 1 (fun zt => SV.renm (rn [(0, 6)]) ((cmpG [SV.own 0]) zt)) 24), (3, Own.box 1 (cmpG [SV.v (Value.slice none 0 0)]) 24), (4, Own.box 2 (cmpG [iv (0), iv (0)]) 26), (6, ownOf ndCell 8 default ((((mkSt l 0).1).set (Int.toNat ((mkSt l 0).2.1.pl)) ({ (((mkSt l 0).1).getD (Int.toNat ((mkSt l 0).2.1.pl)) default) with host := h.pl })).set (Int.toNat ((mkSt l 0).2.1.pl)) ({ ((((mkSt l 0).1).set (Int.toNat ((mkSt l 0).2.1.pl)) ({ (((mkSt l 0).1).getD (Int.toNat ((mkSt l 0).2.1.pl)) default) with host := h.pl })).getD (Int.toNat ((mkSt l 0).2.1.pl)) default) with closed := cl })) 61), (7, Own.box 2 (hdCell ((mkSt l 0).2.1)) 26)]⟩ (by kernel_rfl) (by kernel_rfl) ?_ ⟨?_, ?_, ?_, ?_, ?_, ?_, ?_, ?_, ?_, ?_, ?_, ?_, ?_, ?_, ?_, ?_, ?_, Z⟩ ?_ ?_
    ·show Weak _ _ ⟨[(41, SV.junk), (42, SV.junk), (43, SV.junk), (44, SV.junk), (45, SV.junk), (46, SV.junk), (47, SV.junk), (48, SV.junk), (49, SV.junk), (50, SV.junk), (51, SV.junk), (52, SV.junk), (53, SV.junk), (54, SV.junk), (55, SV.junk), (2, bv (cl)), (3, SV.bp 1 0), (4, elB [iv (h.pl), iv (h.use)] 0), (6, SV.bp 3 0), (7, SV.bp 4 0), (11, SV.bp 7 0)], [(1, Own.box 1 (fun zt => SV.renm (rn [(0, 6)]) ((cmpG [SV.own 0]) zt)) 24), (3, Own.box 1 (cmpG [SV.v (Value.slice none 0 0)]) 24), (4, Own.box 2 (cmpG [iv (0), iv (0)]) 26), (6, ownOf ndCell 8 default ((mkSt l 0).1) 61), (7, Own.box 2 (hdCell ((mkSt l 0).2.1)) 26)]⟩
     refine We ?_ ?_
     ·exact ⟨Vj, Vj, Vj, Vj, Vj, Vj, Vj, Vj, Vj, Vj, Vj, Vj, Vj, Vj, Vj, V rfl, V rfl, V rfl, V rfl, V rfl, V rfl, Z⟩
     ·exact ⟨⟨_, rfl, ⟨rfl, rfl, (An rfl)⟩⟩, ⟨_, rfl, ⟨rfl, rfl, (An rfl)⟩⟩, ⟨_, rfl, ⟨rfl, rfl, (An rfl)⟩⟩, ⟨_, rfl, rfl⟩, ⟨_, rfl, ⟨rfl, rfl, (An rfl)⟩⟩, Z⟩
    ·intro e hdn he hdp
     obtain ⟨-, -, -, h13, -, -, h16, -⟩ := dns1 hdn he [1, 11, 12, 13, 14, 15, 16] (by kernel_rfl)
     simp only [setE, he, h13, h16, cj_t, cj_f, cjn_t, cjn_f, cb_t, cb_f]
     refine U (FlB _ _ (V rfl) Un24 rfl 0 Sz22) <| Nt <| We ?_ ?_
     ·exact (Vs rfl)
     ·exact ⟨⟨_, rfl, ⟨rfl, rfl, (An rfl)⟩⟩, ⟨_, rfl, ⟨rfl, rfl, (An rfl)⟩⟩, ⟨_, rfl, ⟨rfl, rfl, (An rfl)⟩⟩, ⟨_, rfl, rfl⟩, ⟨_, rfl, ⟨rfl, rfl, (An rfl)⟩⟩, Z⟩
    ·intro e hdn he hdp
     obtain ⟨h0, -⟩ := ups hdn [0] hdp (by kernel_rfl)
     obtain ⟨-, -, h13, -, -, h16, -⟩ := dns1 hdn he [11, 12, 13, 14, 15, 16] (by kernel_rfl)
     simp only [setE, h0, he, h13, h16, cj_t, cj_f, cjn_t, cjn_f, cb_t, cb_f]
     refine U (LdB (V rfl) rfl Ga22 (by decide)) <| Nt <| We ?_ ?_
     ·exact (Vs rfl)
     ·exact ⟨⟨_, rfl, ⟨rfl, rfl, (An rfl)⟩⟩, ⟨_, rfl, ⟨rfl, rfl, (An rfl)⟩⟩, ⟨_, rfl, ⟨rfl, rfl, (An rfl)⟩⟩, ⟨_, rfl, rfl⟩, ⟨_, rfl, ⟨rfl, rfl, (An rfl)⟩⟩, Z⟩
    ·intro e hdn he hdp
     obtain ⟨-, -, -, h13, -, -, h16, -⟩ := dns1 hdn he [3, 11, 12, 13, 14, 15, 16] (by kernel_rfl)
     simp only [setE, he, h13, h16, cj_t, cj_f, cjn_t, cjn_f, cb_t, cb_f]
     refine U (FlB _ _ (V rfl) Un26 rfl 0 Sz3) <| Nt <| We ?_ ?_
     ·exact (Vs rfl)
     ·exact ⟨⟨_, rfl, ⟨rfl, rfl, (An rfl)⟩⟩, ⟨_, rfl, ⟨rfl, rfl, (An rfl)⟩⟩, ⟨_, rfl, ⟨rfl, rfl, (An rfl)⟩⟩, ⟨_, rfl, rfl⟩, ⟨_, rfl, ⟨rfl, rfl, (An rfl)⟩⟩, Z⟩
    ·intro e hdn he hdp
     obtain ⟨h2, -⟩ := ups hdn [2] hdp (by kernel_rfl)
     obtain ⟨-, -, h13, -, -, h16, -⟩ := dns1 hdn he [11, 12, 13, 14, 15, 16] (by kernel_rfl)
     simp only [setE, h2, he, h13, h16, cj_t, cj_f, cjn_t, cjn_f, cb_t, cb_f]
     refine U (LdB (V rfl) rfl Ga3 (by decide)) <| Nt <| We ?_ ?_
     ·exact (Vs rfl)
     ·exact ⟨⟨_, rfl, ⟨rfl, rfl, (An rfl)⟩⟩, ⟨_, rfl, ⟨rfl, rfl, (An rfl)⟩⟩, ⟨_, rfl, ⟨rfl, rfl, (An rfl)⟩⟩, ⟨_, rfl, rfl⟩, ⟨_, rfl, ⟨rfl, rfl, (An rfl)⟩⟩, Z⟩
    ·intro e hdn he hdp
     obtain ⟨-, -, -, h16, -⟩ := dns1 hdn he [5, 14, 15, 16] (by kernel_rfl)
     simp only [setE, he, h16, cj_t, cj_f, cjn_t, cjn_f, cb_t, cb_f]
     exact U (FlB _ _ (V rfl) Un24 rfl 0 Sz22) <| Nt <| weakS ⟨V rfl, V rfl, V rfl, V rfl, V rfl, V rfl, V rfl, V rfl, V rfl, V rfl, V rfl, V rfl, V rfl, V rfl, V rfl, V rfl, V rfl, V rfl, V rfl, V rfl, V rfl, Z⟩
    ·intro e hdn he hdp
     obtain ⟨h4, -⟩ := ups hdn [4] hdp (by kernel_rfl)
     obtain ⟨-, -, h16, -⟩ := dns1 hdn he [14, 15, 16] (by kernel_rfl)
     cases hu13 : e 13
     ·simp only [setE, h4, he, h16, hu13, cj_t, cj_f, cjn_t, cjn_f, cb_t, cb_f]
      refine U (LdB (V rfl) rfl Ga22 (by decide)) <| Nt <| We ?_ ?_
      ·exact (Vs rfl)
      ·exact ⟨⟨_, rfl, ⟨rfl, rfl, (An rfl)⟩⟩, ⟨_, rfl, ⟨rfl, rfl, (An rfl)⟩⟩, ⟨_, rfl, ⟨rfl, rfl, (An rfl)⟩⟩, ⟨_, rfl, rfl⟩, ⟨_, rfl, ⟨rfl, rfl, (An rfl)⟩⟩, Z⟩
     ·simp only [setE, h4, he, h16, hu13, cj_t, cj_f, cjn_t, cjn_f, cb_t, cb_f]
      refine U (LdB (V rfl) rfl Ga22 (by decide)) <| Nt <| We ?_ ?_
      ·exact (Vs rfl)
      ·exact ⟨⟨_, rfl, ⟨rfl, rfl, (An rfl)⟩⟩, ⟨_, rfl, ⟨rfl, rfl, (An rfl)⟩⟩, ⟨_, rfl, ⟨rfl, rfl, (An rfl)⟩⟩, ⟨_, rfl, rfl⟩, ⟨_, rfl, ⟨rfl, rfl, (An rfl)⟩⟩, Z⟩
    ·intro e hdn he hdp
     obtain ⟨-, -, -, h16, -⟩ := dns1 hdn he [7, 14, 15, 16] (by kernel_rfl)
     simp only [setE, he, h16, cj_t, cj_f, cjn_t, cjn_f, cb_t, cb_f]
     exact U (FlB _ _ (V rfl) Un26 rfl 0 Sz3) <| Nt <| weakS ⟨V rfl, V rfl, V rfl, V rfl, V rfl, V rfl, V rfl, V rfl, V rfl, V rfl, V rfl, V rfl, V rfl, V rfl, V rfl, V rfl, V rfl, V rfl, V rfl, V rfl, V rfl, Z⟩
    ·intro e hdn he hdp
     obtain ⟨h6, -⟩ := ups hdn [6] hdp (by kernel_rfl)
     obtain ⟨-, -, h16, -⟩ := dns1 hdn he [14, 15, 16] (by kernel_rfl)
     cases hu13 : e 13
     ·simp only [setE, h6, he, h16, hu13, cj_t, cj_f, cjn_t, cjn_f, cb_t, cb_f]
      refine U (LdB (V rfl) rfl Ga3 (by decide)) <| Nt <| We ?_ ?_
      ·exact (Vs rfl)
      ·exact ⟨⟨_, rfl, ⟨rfl, rfl, (An rfl)⟩⟩, ⟨_, rfl, ⟨rfl, rfl, (An rfl)⟩⟩, ⟨_, rfl, ⟨rfl, rfl, (An rfl)⟩⟩, ⟨_, rfl, rfl⟩, ⟨_, rfl, ⟨rfl, rfl, (An rfl)⟩⟩, Z⟩
     ·simp only [setE, h6, he, h16, hu13, cj_t, cj_f, cjn_t, cjn_f, cb_t, cb_f]
      refine U (LdB (V rfl) rfl Ga3 (by decide)) <| Nt <| We ?_ ?_
      ·exact (Vs rfl)
      ·exact ⟨⟨_, rfl, ⟨rfl, rfl, (An rfl)⟩⟩, ⟨_, rfl, ⟨rfl, rfl, (An rfl)⟩⟩, ⟨_, rfl, ⟨rfl, rfl, (An rfl)⟩⟩, ⟨_, rfl, rfl⟩, ⟨_, rfl, ⟨rfl, rfl, (An rfl)⟩⟩, Z⟩
    ·intro e hdn he hdp
     obtain ⟨-, -, -, h13, -, -, h16, -⟩ := dns1 hdn he [9, 11, 12, 13, 14, 15, 16] (by kernel_rfl)
     simp only [setE, he, h13, h16, cj_t, cj_f, cjn_t, cjn_f, cb_t, cb_f]
     refine U (Fl _ _ (V rfl) Un26 rfl 0 Sz3) <| Nt <| We ?_ ?_
     ·exact (Vs rfl)
     ·exact ⟨⟨_, rfl, ⟨rfl, rfl, (An rfl)⟩⟩, ⟨_, rfl, ⟨rfl, rfl, (An rfl)⟩⟩, ⟨_, rfl, ⟨rfl, rfl, (An rfl)⟩⟩, ⟨_, rfl, rfl⟩, ⟨_, rfl, ⟨rfl, rfl, (An rfl)⟩⟩, Z⟩
    ·intro e hdn he hdp
     obtain ⟨h8, -⟩ := ups hdn [8] hdp (by kernel_rfl)
     obtain ⟨-, -, h13, -, -, h16, -⟩ := dns1 hdn he [11, 12, 13, 14, 15, 16] (by kernel_rfl)
     simp only [setE, h8, he, h13, h16, cj_t, cj_f, cjn_t, cjn_f, cb_t, cb_f]
     refine U (Ld (V rfl) Ga3 (by show 0 < 2; decide)) <| Nt <| We ?_ ?_
     ·exact (Vs rfl)
     ·exact ⟨⟨_, rfl, ⟨rfl, rfl, (An rfl)⟩⟩, ⟨_, rfl, ⟨rfl, rfl, (An rfl)⟩⟩, ⟨_, rfl, ⟨rfl, rfl, (An rfl)⟩⟩, ⟨_, rfl, rfl⟩, ⟨_, rfl, ⟨rfl, rfl, (An rfl)⟩⟩, Z⟩
    ·intro e hdn he hdp
     obtain ⟨-, -, h16, -⟩ := dns1 hdn he [14, 15, 16] (by kernel_rfl)
     simp only [setE, he, h16, cj_t, cj_f, cjn_t, cjn_f, cb_t, cb_f]
     exact U (Mv (V rfl)) <| Nt <| weakS ⟨V rfl, V rfl, V rfl, V rfl, V rfl, V rfl, V rfl, V rfl, V rfl, V rfl, V rfl, V rfl, V rfl, V rfl, V rfl, V rfl, V rfl, V rfl, V rfl, V rfl, V rfl, Z⟩
    ·intro e hdn he hdp
     obtain ⟨h9, h8, h3, h2, h1, h0, -⟩ := ups hdn [9, 8, 3, 2, 1, 0] hdp (by kernel_rfl)
     obtain ⟨-, h13, -, -, h16, -⟩ := dns1 hdn he [12, 13, 14, 15, 16] (by kernel_rfl)
     simp only [setE, h0, h1, h2, h3, h8, h9, he, h13, h16, cj_t, cj_f, cjn_t, cjn_f, cb_t, cb_f]
     refine U (IxO (V rfl) rfl (V rfl) ts22 te22 (by omega) (by first | omega | (simp only [List.length_set]; omega))) <| Nt <| We ?_ ?_
     ·exact (Vs rfl)
     ·exact ⟨⟨_, rfl, ⟨rfl, rfl, (An rfl)⟩⟩, ⟨_, rfl, ⟨rfl, rfl, (An rfl)⟩⟩, ⟨_, rfl, ⟨rfl, rfl, (An rfl)⟩⟩, ⟨_, rfl, rfl⟩, ⟨_, rfl, ⟨rfl, rfl, (An rfl)⟩⟩, Z⟩
    ·intro e hdn he hdp
     obtain ⟨h11, h9, h8, h3, h2, h1, h0, -⟩ := ups hdn [11, 9, 8, 3, 2, 1, 0] hdp (by kernel_rfl)
     obtain ⟨h13, -, -, h16, -⟩ := dns1 hdn he [13, 14, 15, 16] (by kernel_rfl)
     simp only [setE, h0, h1, h2, h3, h8, h9, h11, he, h13, h16, cj_t, cj_f, cjn_t, cjn_f, cb_t, cb_f]
     refine U (FlO _ _ (V rfl) Un61 rfl 0 Sz3) <| Nt <| We ?_ ?_
     ·exact (Vs rfl)
     ·exact ⟨⟨_, rfl, ⟨rfl, rfl, (An rfl)⟩⟩, ⟨_, rfl, ⟨rfl, rfl, (An rfl)⟩⟩, ⟨_, rfl, ⟨rfl, rfl, (An rfl)⟩⟩, ⟨_, rfl, rfl⟩, ⟨_, rfl, ⟨rfl, rfl, (An rfl)⟩⟩, Z⟩
    ·intro e hdn he hdp
     obtain ⟨h12, h11, h9, h8, h3, h2, h1, h0, -⟩ := ups hdn [12, 11, 9, 8, 3, 2, 1, 0] hdp (by kernel_rfl)
     obtain ⟨h14, h15, h16, -⟩ := dns1 hdn he [14, 15, 16] (by kernel_rfl)
     simp only [setE, h0, h1, h2, h3, h8, h9, h11, h12, he, h14, h15, h16, cj_t, cj_f, cjn_t, cjn_f, cb_t, cb_f]
     have hidx0 : Int.toNat ((mkSt l 0).2.1.pl) < ((mkSt l 0).1).length := by first | omega | (simp only [List.length_set]; omega)
     refine StO (rowG ndCell default (((mkSt l 0).1).set (Int.toNat ((mkSt l 0).2.1.pl)) ({ (((mkSt l 0).1).getD (Int.toNat ((mkSt l 0).2.1.pl)) default) with host := h.pl }))) (V rfl) rfl (V rfl) rfl rfl Sz3 (by decide) (show ((mkSt l 0).1).length = (((mkSt l 0).1).set (Int.toNat ((mkSt l 0).2.1.pl)) ({ (((mkSt l 0).1).getD (Int.toNat ((mkSt l 0).2.1.pl)) default) with host := h.pl })).length from List.length_set.symm) (set_at hidx0 rfl) (set_typed hidx0 fun t ht hne => match t, ht, hne with | 0, _, _ => rfl | 1, _, _ => rfl | 2, _, _ => rfl | 3, _, _ => rfl | 4, _, _ => rfl | 5, _, _ => rfl | 6, _, hne => absurd rfl hne | 7, _, _ => rfl) <| Nt <| We ?_ ?_
     ·exact ⟨V rfl, V rfl, V rfl, V rfl, V rfl, V rfl, V rfl, V rfl, V rfl, V rfl, V rfl, V rfl, V rfl, Vj, Vj, V rfl, V rfl, V rfl, V rfl, V rfl, V rfl, Z⟩
     ·exact ⟨⟨_, rfl, ⟨rfl, rfl, (An rfl)⟩⟩, ⟨_, rfl, ⟨rfl, rfl, (An rfl)⟩⟩, ⟨_, rfl, ⟨rfl, rfl, (An rfl)⟩⟩, ⟨_, rfl, rfl⟩, ⟨_, rfl, ⟨rfl, rfl, (An rfl)⟩⟩, Z⟩
    ·intro e hdn he hdp
     obtain ⟨h13, h12, h11, h10, h9, h8, h7, h6, h5, h4, h3, h2, h1, h0, -⟩ := ups hdn [13, 12, 11, 10, 9, 8, 7, 6, 5, 4, 3, 2, 1, 0] hdp (by kernel_rfl)
     obtain ⟨-, h16, -⟩ := dns1 hdn he [15, 16] (by kernel_rfl)
     simp only [setE, h0, h1, h2, h3, h4, h5, h6, h7, h8, h9, h10, h11, h12, h13, he, h16, cj_t, cj_f, cjn_t, cjn_f, cb_t, cb_f]
     refine U (IxO (V rfl) rfl (V rfl) ts22 te22 (by omega) (by first | omega | (simp only [List.length_set]; omega))) <| Nt <| We ?_ ?_
     ·exact (Vs rfl)
     ·exact ⟨⟨_, rfl, ⟨rfl, rfl, (An rfl)⟩⟩, ⟨_, rfl, ⟨rfl, rfl, (An rfl)⟩⟩, ⟨_, rfl, ⟨rfl, rfl, (An rfl)⟩⟩, ⟨_, rfl, rfl⟩, ⟨_, rfl, ⟨rfl, rfl, (An rfl)⟩⟩, Z⟩
    ·intro e hdn he hdp
     obtain ⟨h14, h13, h12, h11, h10, h9, h8, h7, h6, h5, h4, h3, h2, h1, h0, -⟩ := ups hdn [14, 13, 12, 11, 10, 9, 8, 7, 6, 5, 4, 3, 2, 1, 0] hdp (by kernel_rfl)
     obtain ⟨h16, -⟩ := dns1 hdn he [16] (by kernel_rfl)
     simp only [setE, h0, h1, h2, h3, h4, h5, h6, h7, h8, h9, h10, h11, h12, h13, h14, he, h16, cj_t, cj_f, cjn_t, cjn_f, cb_t, cb_f]
     refine U (FlO _ _ (V rfl) Un61 rfl 0 Sz4) <| Nt <| We ?_ ?_
     ·exact (Vs rfl)
     ·exact ⟨⟨_, rfl, ⟨rfl, rfl, (An rfl)⟩⟩, ⟨_, rfl, ⟨rfl, rfl, (An rfl)⟩⟩, ⟨_, rfl, ⟨rfl, rfl, (An rfl)⟩⟩, ⟨_, rfl, rfl⟩, ⟨_, rfl, ⟨rfl, rfl, (An rfl)⟩⟩, Z⟩
    ·intro e hdn he hdp
     obtain ⟨h15, h14, h13, h12, h11, h10, h9, h8, h7, h6, h5, h4, h3, h2, h1, h0, -⟩ := ups hdn [15, 14, 13, 12, 11, 10, 9, 8, 7, 6, 5, 4, 3, 2, 1, 0] hdp (by kernel_rfl)
     simp only [setE, h0, h1, h2, h3, h4, h5, h6, h7, h8, h9, h10, h11, h12, h13, h14, h15, he, cj_t, cj_f, cjn_t, cjn_f, cb_t, cb_f]
     have hidx1 : Int.toNat ((mkSt l 0).2.1.pl) < (((mkSt l 0).1).set (Int.toNat ((mkSt l 0).2.1.pl)) ({ (((mkSt l 0).1).getD (Int.toNat ((mkSt l 0).2.1.pl)) default) with host := h.pl })).length := by first | omega | (simp only [List.length_set]; omega)
     refine StO (rowG ndCell default ((((mkSt l 0).1).set (Int.toNat ((mkSt l 0).2.1.pl)) ({ (((mkSt l 0).1).getD (Int.toNat ((mkSt l 0).2.1.pl)) default) with host := h.pl })).set (Int.toNat ((mkSt l 0).2.1.pl)) ({ ((((mkSt l 0).1).set (Int.toNat ((mkSt l 0).2.1.pl)) ({ (((mkSt l 0).1).getD (Int.toNat ((mkSt l 0).2.1.pl)) default) with host := h.pl })).getD (Int.toNat ((mkSt l 0).2.1.pl)) default) with closed := cl }))) (V rfl) rfl (V rfl) rfl rfl Sz4 (by decide) (show (((mkSt l 0).1).set (Int.toNat ((mkSt l 0).2.1.pl)) ({ (((mkSt l 0).1).getD (Int.toNat ((mkSt l 0).2.1.pl)) default) with host := h.pl })).length = ((((mkSt l 0).1).set (Int.toNat ((mkSt l 0).2.1.pl)) ({ (((mkSt l 0).1).getD (Int.toNat ((mkSt l 0).2.1.pl)) default) with host := h.pl })).set (Int.toNat ((mkSt l 0).2.1.pl)) ({ ((((mkSt l 0).1).set (Int.toNat ((mkSt l 0).2.1.pl)) ({ (((mkSt l 0).1).getD (Int.toNat ((mkSt l 0).2.1.pl)) default) with host := h.pl })).getD (Int.toNat ((mkSt l 0).2.1.pl)) default) with closed := cl })).length from List.length_set.symm) (set_at hidx1 rfl) (set_typed hidx1 fun t ht hne => match t, ht, hne with | 0, _, _ => rfl | 1, _, _ => rfl | 2, _, _ => rfl | 3, _, _ => rfl | 4, _, _ => rfl | 5, _, _ => rfl | 6, _, _ => rfl | 7, _, hne => absurd rfl hne) <| Nt <| We ?_ ?_
     ·exact (Vs rfl)
     ·exact ⟨⟨_, rfl, ⟨rfl, rfl, (An rfl)⟩⟩, ⟨_, rfl, ⟨rfl, rfl, (An rfl)⟩⟩, ⟨_, rfl, ⟨rfl, rfl, (An rfl)⟩⟩, ⟨_, rfl, rfl⟩, ⟨_, rfl, ⟨rfl, rfl, (An rfl)⟩⟩, Z⟩
    ·intro e he
     have h0 := he 0 (by decide)
     have h1 := he 1 (by decide)
     have h2 := he 2 (by decide)
     have h3 := he 3 (by decide)
     have h4 := he 4 (by decide)
     have h5 := he 5 (by decide)
     have h6 := he 6 (by decide)
     have h7 := he 7 (by decide)
     have h8 := he 8 (by decide)
     have h9 := he 9 (by decide)
     have h10 := he 10 (by decide)
     have h11 := he 11 (by decide)
     have h12 := he 12 (by decide)
     have h13 := he 13 (by decide)
     have h14 := he 14 (by decide)
     have h15 := he 15 (by decide)
     have h16 := he 16 (by decide)
     show Weak _ ⟨[(41, cj (e 0) (SV.bp 1 0)), (42, cj (e 1) (SV.own 6)), (43, cj (e 2) (SV.bp 7 0)), (44, cj (e 3) (iv ((mkSt l 0).2.1.pl))), (45, cj (e 4) (SV.bp 1 0)), (46, cj (e 5) (SV.own 6)), (47, cj (e 6) (SV.bp 7 0)), (48, cj (e 7) (iv ((mkSt l 0).2.1.pl))), (49, cj (e 8) (elB [iv (h.pl), iv (h.use)] 0)), (50, cj (e 9) (iv (h.pl))), (51, cj (e 10) (bv (cl))), (52, cj (e 11) (SV.oe 6 8 (Int.toNat ((mkSt l 0).2.1.pl)) 0)), (53, cj (e 12) (SV.oe 6 8 (Int.toNat ((mkSt l 0).2.1.pl)) 6)), (54, cj (e 14) (SV.oe 6 8 (Int.toNat ((mkSt l 0).2.1.pl)) 0)), (55, cj (e 15) (SV.oe 6 8 (Int.toNat ((mkSt l 0).2.1.pl)) 7)), (2, bv (cl)), (3, SV.bp 1 0), (4, elB [iv (h.pl), iv (h.use)] 0), (6, SV.bp 3 0), (7, SV.bp 4 0), (11, SV.bp 7 0)], (cb (e 13) (cb (e 16) [(1, Own.box 1 (fun zt => SV.renm (rn [(0, 6)]) ((cmpG [SV.own 0]) zt)) 24), (3, Own.box 1 (cmpG [SV.v (Value.slice none 0 0)]) 24), (4, Own.box 2 (cmpG [iv (0), iv (0)]) 26), (6, ownOf ndCell 8 default ((((mkSt l 0).1).set (Int.toNat ((mkSt l 0).2.1.pl)) ({ (((mkSt l 0).1).getD (Int.toNat ((mkSt l 0).2.1.pl)) default) with host := h.pl })).set (Int.toNat ((mkSt l 0).2.1.pl)) ({ ((((mkSt l 0).1).set (Int.toNat ((mkSt l 0).2.1.pl)) ({ (((mkSt l 0).1).getD (Int.toNat ((mkSt l 0).2.1.pl)) default) with host := h.pl })).getD (Int.toNat ((mkSt l 0).2.1.pl)) default) with closed := cl })) 61), (7, Own.box 2 (hdCell ((mkSt l 0).2.1)) 26)] [(1, Own.box 1 (fun zt => SV.renm (rn [(0, 6)]) ((cmpG [SV.own 0]) zt)) 24), (3, Own.box 1 (cmpG [SV.v (Value.slice none 0 0)]) 24), (4, Own.box 2 (cmpG [iv (0), iv (0)]) 26), (6, ownOf ndCell 8 default (((mkSt l 0).1).set (Int.toNat ((mkSt l 0).2.1.pl)) ({ (((mkSt l 0).1).getD (Int.toNat ((mkSt l 0).2.1.pl)) default) with host := h.pl })) 61), (7, Own.box 2 (hdCell ((mkSt l 0).2.1)) 26)]) (cb (e 16) [] [(1, Own.box 1 (fun zt => SV.renm (rn [(0, 6)]) ((cmpG [SV.own 0]) zt)) 24), (3, Own.box 1 (cmpG [SV.v (Value.slice none 0 0)]) 24), (4, Own.box 2 (cmpG [iv (0), iv (0)]) 26), (6, ownOf ndCell 8 default ((mkSt l 0).1) 61), (7, Own.box 2 (hdCell ((mkSt l 0).2.1)) 26)]))⟩ _
     simp only [h0, h1, h2, h3, h4, h5, h6, h7, h8, h9, h10, h11, h12, h13, h14, h15, h16]
     show Weak _ ⟨[(41, SV.bp 1 0), (42, SV.own 6), (43, SV.bp 7 0), (44, iv ((mkSt l 0).2.1.pl)), (45, SV.bp 1 0), (46, SV.own 6), (47, SV.bp 7 0), (48, iv ((mkSt l 0).2.1.pl)), (49, elB [iv (h.pl), iv (h.use)] 0), (50, iv (h.pl)), (51, bv (cl)), (52, SV.oe 6 8 (Int.toNat ((mkSt l 0).2.1.pl)) 0), (53, SV.oe 6 8 (Int.toNat ((mkSt l 0).2.1.pl)) 6), (54, SV.oe 6 8 (Int.toNat ((mkSt l 0).2.1.pl)) 0), (55, SV.oe 6 8 (Int.toNat ((mkSt l 0).2.1.pl)) 7), (2, bv (cl)), (3, SV.bp 1 0), (4, elB [iv (h.pl), iv (h.use)] 0), (6, SV.bp 3 0), (7, SV.bp 4 0), (11, SV.bp 7 0)], [(1, Own.box 1 (fun zt => SV.renm (rn [(0, 6)]) ((cmpG [SV.own 0]) zt)) 24), (3, Own.box 1 (cmpG [SV.v (Value.slice none 0 0)]) 24), (4, Own.box 2 (cmpG [iv (0), iv (0)]) 26), (6, ownOf ndCell 8 default ((((mkSt l 0).1).set (Int.toNat ((mkSt l 0).2.1.pl)) ({ (((mkSt l 0).1).getD (Int.toNat ((mkSt l 0).2.1.pl)) default) with host := h.pl })).set (Int.toNat ((mkSt l 0).2.1.pl)) ({ ((((mkSt l 0).1).set (Int.toNat ((mkSt l 0).2.1.pl)) ({ (((mkSt l 0).1).getD (Int.toNat ((mkSt l 0).2.1.pl)) default) with host := h.pl })).getD (Int.toNat ((mkSt l 0).2.1.pl)) default) with closed := cl })) 61), (7, Own.box 2 (hdCell ((mkSt l 0).2.1)) 26)]⟩ _
     refine We ?_ ?_
     ·exact ⟨V rfl, V rfl, V rfl, V rfl, V rfl, V rfl, V rfl, V rfl, V rfl, V rfl, V rfl, V rfl, V rfl, V rfl, V rfl, V rfl, V rfl, V rfl, V rfl, V rfl, V rfl, Z⟩
     ·exact ⟨⟨_, rfl, ⟨rfl, rfl, (An rfl)⟩⟩, ⟨_, rfl, ⟨rfl, rfl, (An rfl)⟩⟩, ⟨_, rfl, ⟨rfl, rfl, (An rfl)⟩⟩, ⟨_, rfl, rfl⟩, ⟨_, rfl, ⟨rfl, rfl, (An rfl)⟩⟩, Z⟩
    refine Sq <| c_rd (fun e => ⟨[(56, cj (e 0) (SV.agg 1 (fun zi => (fun zt => SV.renm (rn [(0, 6)]) ((cmpG [SV.own 0]) zt)) (0 + zi)))), (57, cj (e 1) (SV.agg 2 (fun zi => (hdCell ((mkSt l 0).2.1)) (0 + zi)))), (8, cj (e 4) (iv (0))), (3, SV.bp 1 0), (6, SV.bp 3 0), (7, SV.bp 4 0), (11, SV.bp 7 0)], (cb (e 2) (cb (e 3) [(1, Own.box 1 (fun zt => SV.renm (rn [(0, 6)]) ((cmpG [SV.own 0]) zt)) 24), (3, Own.box 1 (fun zi => (fun zt => SV.renm (rn [(0, 6)]) ((cmpG [SV.own 0]) zt)) (0 + zi)) 24), (4, Own.box 2 (fun zi => (hdCell ((mkSt l 0).2.1)) (0 + zi)) 26), (6, ownOf ndCell 8 default ((((mkSt l 0).1).set (Int.toNat ((mkSt l 0).2.1.pl)) ({ (((mkSt l 0).1).getD (Int.toNat ((mkSt l 0).2.1.pl)) default) with host := h.pl })).set (Int.toNat ((mkSt l 0).2.1.pl)) ({ ((((mkSt l 0).1).set (Int.toNat ((mkSt l 0).2.1.pl)) ({ (((mkSt l 0).1).getD (Int.toNat ((mkSt l 0).2.1.pl)) default) with host := h.pl })).getD (Int.toNat ((mkSt l 0).2.1.pl)) default) with closed := cl })) 61), (7, Own.box 2 (hdCell ((mkSt l 0).2.1)) 26)] [(1, Own.box 1 (fun zt => SV.renm (rn [(0, 6)]) ((cmpG [SV.own 0]) zt)) 24), (3, Own.box 1 (fun zi => (fun zt => SV.renm (rn [(0, 6)]) ((cmpG [SV.own 0]) zt)) (0 + zi)) 24), (4, Own.box 2 (cmpG [iv (0), iv (0)]) 26), (6, ownOf ndCell 8 default ((((mkSt l 0).1).set (Int.toNat ((mkSt l 0).2.1.pl)) ({ (((mkSt l 0).1).getD (Int.toNat ((mkSt l 0).2.1.pl)) default) with host := h.pl })).set (Int.toNat ((mkSt l 0).2.1.pl)) ({ ((((mkSt l 0).1).set (Int.toNat ((mkSt l 0).2.1.pl)) ({ (((mkSt l 0).1).getD (Int.toNat ((mkSt l 0).2.1.pl)) default) with host := h.pl })).getD (Int.toNat ((mkSt l 0).2.1.pl)) default) with closed := cl })) 61), (7, Own.box 2 (hdCell ((mkSt l 0).2.1)) 26)]) (cb (e 3) [] [(1, Own.box 1 (fun zt => SV.renm (rn [(0, 6)]) ((cmpG [SV.own 0]) zt)) 24), (3, Own.box 1 (cmpG [SV.v (Value.slice none 0 0)]) 24), (4, Own.box 2 (cmpG [iv (0), iv (0)]) 26), (6, ownOf ndCell 8 default ((((mkSt l 0).1).set (Int.toNat ((mkSt l 0).2.1.pl)) ({ (((mkSt l 0).1).getD (Int.toNat ((mkSt l 0).2.1.pl)) default) with host := h.pl })).set (Int.toNat ((mkSt l 0).2.1.pl)) ({ ((((mkSt l 0).1).set (Int.toNat ((mkSt l 0).2.1.pl)) ({ (((mkSt l 0).1).getD (Int.toNat ((mkSt l 0).2.1.pl)) default) with host := h.pl })).getD (Int.toNat ((mkSt l 0).2.1.pl)) default) with closed := cl })) 61), (7, Own.box 2 (hdCell ((mkSt l 0).2.1)) 26)]))⟩) ⟨[(56, SV.agg 1 (fun zi => (fun zt => SV.renm (rn [(0, 6)]) ((cmpG [SV.own 0]) zt)) (0 + zi))), (57, SV.agg 2 (fun zi => (hdCell ((mkSt l 0).2.1)) (0 + zi))), (8, iv (0)), (3, SV.bp 1 0), (6, SV.bp 3 0), (7, SV.bp 4 0), (11, SV.bp 7 0)], [(1, Own.box 1 (fun zt => SV.renm (rn [(0, 6)]) ((cmpG [SV.own 0]) zt)) 24), (3, Own.box 1 (fun zi => (fun zt => SV.renm (rn [(0, 6)]) ((cmpG [SV.own 0]) zt)) (0 + zi)) 24), (4, Own.box 2 (fun zi => (hdCell ((mkSt l 0).2.1)) (0 + zi)) 26), (6, ownOf ndCell 8 default ((((mkSt l 0).1).set (Int.toNat ((mkSt l 0).2.1.pl)) ({ (((mkSt l 0).1).getD (Int.toNat ((mkSt l 0).2.1.pl)) default) with host := h.pl })).set (Int.toNat ((mkSt l 0).2.1.pl)) ({ ((((mkSt l 0).1).set (Int.toNat ((mkSt l 0).2.1.pl)) ({ (((mkSt l 0).1).getD (Int.toNat ((mkSt l 0).2.1.pl)) default) with host := h.pl })).getD (Int.toNat ((mkSt l 0).2.1.pl)) default) with closed := cl })) 61), (7, Own.box 2 (hdCell ((mkSt l 0).2.1)) 26)]⟩ (by kernel_rfl) (by kernel_rfl) ?_ ⟨?_, ?_, ?_, ?_, ?_, Z⟩ ?_ ?_
    ·show Weak _ _ ⟨[(56, SV.junk), (57, SV.junk), (8, SV.junk), (3, SV.bp 1 0), (6, SV.bp 3 0), (7, SV.bp 4 0), (11, SV.bp 7 0)], [(1, Own.box 1 (fun zt => SV.renm (rn [(0, 6)]) ((cmpG [SV.own 0]) zt)) 24), (3, Own.box 1 (cmpG [SV.v (Value.slice none 0 0)]) 24), (4, Own.box 2 (cmpG [iv (0), iv (0)]) 26), (6, ownOf ndCell 8 default ((((mkSt l 0).1).set (Int.toNat ((mkSt l 0).2.1.pl)) ({ (((mkSt l 0).1).getD (Int.toNat ((mkSt l 0).2.1.pl)) default) with host := h.pl })).set (Int.toNat ((mkSt l 0).2.1.pl)) ({ ((((mkSt l 0).1).set (Int.toNat ((mkSt l 0).2.1.pl)) ({ (((mkSt l 0).1).getD (Int.toNat ((mkSt l 0).2.1.pl)) default) with host := h.pl })).getD (Int.toNat ((mkSt l 0).2.1.pl)) default) with closed := cl })) 61), (7, Own.box 2 (hdCell ((mkSt l 0).2.1)) 26)]⟩
     refine We ?_ ?_
     ·exact ⟨Vj, Vj, Vj, V rfl, V rfl, V rfl, V rfl, Z⟩
     ·exact ⟨⟨_, rfl, ⟨rfl, rfl, (An rfl)⟩⟩, ⟨_, rfl, ⟨rfl, rfl, (An rfl)⟩⟩, ⟨_, rfl, ⟨rfl, rfl, (An rfl)⟩⟩, ⟨_, rfl, rfl⟩, ⟨_, rfl, ⟨rfl, rfl, (An rfl)⟩⟩, Z⟩
    ·intro e hdn he hdp
     obtain ⟨h2, h3, -⟩ := dns1 hdn he [2, 3] (by kernel_rfl)
     simp only [setE, he, h2, h3, cj_t, cj_f, cjn_t, cjn_f, cb_t, cb_f]
     refine U (LBA (V rfl) rfl Ga24 Sz24 (by decide)) <| Nt <| We ?_ ?_
     ·exact (Vs rfl)
     ·exact ⟨⟨_, rfl, ⟨rfl, rfl, (An rfl)⟩⟩, ⟨_, rfl, ⟨rfl, rfl, (An rfl)⟩⟩, ⟨_, rfl, ⟨rfl, rfl, (An rfl)⟩⟩, ⟨_, rfl, rfl⟩, ⟨_, rfl, ⟨rfl, rfl, (An rfl)⟩⟩, Z⟩
    ·intro e hdn he hdp
     obtain ⟨h3, -⟩ := dns1 hdn he [3] (by kernel_rfl)
     cases hu2 : e 2
     ·simp only [setE, he, h3, hu2, cj_t, cj_f, cjn_t, cjn_f, cb_t, cb_f]
      refine U (LBA (V rfl) rfl Ga26 Sz26 (by decide)) <| Nt <| We ?_ ?_
      ·exact (Vs rfl)
      ·exact ⟨⟨_, rfl, ⟨rfl, rfl, (An rfl)⟩⟩, ⟨_, rfl, ⟨rfl, rfl, (An rfl)⟩⟩, ⟨_, rfl, ⟨rfl, rfl, (An rfl)⟩⟩, ⟨_, rfl, rfl⟩, ⟨_, rfl, ⟨rfl, rfl, (An rfl)⟩⟩, Z⟩
     ·simp only [setE, he, h3, hu2, cj_t, cj_f, cjn_t, cjn_f, cb_t, cb_f]
      refine U (LBA (V rfl) rfl Ga26 Sz26 (by decide)) <| Nt <| We ?_ ?_
      ·exact (Vs rfl)
      ·exact ⟨⟨_, rfl, ⟨rfl, rfl, (An rfl)⟩⟩, ⟨_, rfl, ⟨rfl, rfl, (An rfl)⟩⟩, ⟨_, rfl, ⟨rfl, rfl, (An rfl)⟩⟩, ⟨_, rfl, rfl⟩, ⟨_, rfl, ⟨rfl, rfl, (An rfl)⟩⟩, Z⟩
    ·intro e hdn he hdp
     obtain ⟨h0, -⟩ := ups hdn [0] hdp (by kernel_rfl)
     obtain ⟨h3, -⟩ := dns1 hdn he [3] (by kernel_rfl)
     simp only [setE, h0, he, h3, cj_t, cj_f, cjn_t, cjn_f, cb_t, cb_f]
     refine StA (V rfl) rfl (V rfl) Sz24 <| Nt <| We ?_ ?_
     ·exact (Vs rfl)
     ·exact ⟨⟨_, rfl, ⟨rfl, rfl, (An rfl)⟩⟩, ⟨_, rfl, ⟨rfl, rfl, (An rfl)⟩⟩, ⟨_, rfl, ⟨rfl, rfl, (An rfl)⟩⟩, ⟨_, rfl, rfl⟩, ⟨_, rfl, ⟨rfl, rfl, (An rfl)⟩⟩, Z⟩
    ·intro e hdn he hdp
     obtain ⟨h2, h1, h0, -⟩ := ups hdn [2, 1, 0] hdp (by kernel_rfl)
     simp only [setE, h0, h1, h2, he, cj_t, cj_f, cjn_t, cjn_f, cb_t, cb_f]
     refine StA (V rfl) rfl (V rfl) Sz26 <| Nt <| We ?_ ?_
     ·exact (Vs rfl)
     ·exact ⟨⟨_, rfl, ⟨rfl, rfl, (An rfl)⟩⟩, ⟨_, rfl, ⟨rfl, rfl, (An rfl)⟩⟩, ⟨_, rfl, ⟨rfl, rfl, (An rfl)⟩⟩, ⟨_, rfl, rfl⟩, ⟨_, rfl, ⟨rfl, rfl, (An rfl)⟩⟩, Z⟩
    ·intro e hdn he hdp
     obtain ⟨h3, h2, h1, h0, -⟩ := ups hdn [3, 2, 1, 0] hdp (by kernel_rfl)
     simp only [setE, h0, h1, h2, h3, he, cj_t, cj_f, cjn_t, cjn_f, cb_t, cb_f]
     refine U (As K) <| Nt <| We ?_ ?_
     ·exact (Vs rfl)
     ·exact ⟨⟨_, rfl, ⟨rfl, rfl, (An rfl)⟩⟩, ⟨_, rfl, ⟨rfl, rfl, (An rfl)⟩⟩, ⟨_, rfl, ⟨rfl, rfl, (An rfl)⟩⟩, ⟨_, rfl, rfl⟩, ⟨_, rfl, ⟨rfl, rfl, (An rfl)⟩⟩, Z⟩
    ·intro e he
     have h0 := he 0 (by decide)
     have h1 := he 1 (by decide)
     have h2 := he 2 (by decide)
     have h3 := he 3 (by decide)
     have h4 := he 4 (by decide)
     show Weak _ ⟨[(56, cj (e 0) (SV.agg 1 (fun zi => (fun zt => SV.renm (rn [(0, 6)]) ((cmpG [SV.own 0]) zt)) (0 + zi)))), (57, cj (e 1) (SV.agg 2 (fun zi => (hdCell ((mkSt l 0).2.1)) (0 + zi)))), (8, cj (e 4) (iv (0))), (3, SV.bp 1 0), (6, SV.bp 3 0), (7, SV.bp 4 0), (11, SV.bp 7 0)], (cb (e 2) (cb (e 3) [(1, Own.box 1 (fun zt => SV.renm (rn [(0, 6)]) ((cmpG [SV.own 0]) zt)) 24), (3, Own.box 1 (fun zi => (fun zt => SV.renm (rn [(0, 6)]) ((cmpG [SV.own 0]) zt)) (0 + zi)) 24), (4, Own.box 2 (fun zi => (hdCell ((mkSt l 0).2.1)) (0 + zi)) 26), (6, ownOf ndCell 8 default ((((mkSt l 0).1).set (Int.toNat ((mkSt l 0).2.1.pl)) ({ (((mkSt l 0).1).getD (Int.toNat ((mkSt l 0).2.1.pl)) default) with host := h.pl })).set (Int.toNat ((mkSt l 0).2.1.pl)) ({ ((((mkSt l 0).1).set (Int.toNat ((mkSt l 0).2.1.pl)) ({ (((mkSt l 0).1).getD (Int.toNat ((mkSt l 0).2.1.pl)) default) with host := h.pl })).getD (Int.toNat ((mkSt l 0).2.1.pl)) default) with closed := cl })) 61), (7, Own.box 2 (hdCell ((mkSt l 0).2.1)) 26)] [(1, Own.box 1 (fun zt => SV.renm (rn [(0, 6)]) ((cmpG [SV.own 0]) zt)) 24), (3, Own.box 1 (fun zi => (fun zt => SV.renm (rn [(0, 6)]) ((cmpG [SV.own 0]) zt)) (0 + zi)) 24), (4, Own.box 2 (cmpG [iv (0), iv (0)]) 26), (6, ownOf ndCell 8 default ((((mkSt l 0).1).set (Int.toNat ((mkSt l 0).2.1.pl)) ({ (((mkSt l 0).1).getD (Int.toNat ((mkSt l 0).2.1.pl)) default) with host := h.pl })).set (Int.toNat ((mkSt l 0).2.1.pl)) ({ ((((mkSt l 0).1).set (Int.toNat ((mkSt l 0).2.1.pl)) ({ (((mkSt l 0).1).getD (Int.toNat ((mkSt l 0).2.1.pl)) default) with host := h.pl })).getD (Int.toNat ((mkSt l 0).2.1.pl)) default) with closed := cl })) 61), (7, Own.box 2 (hdCell ((mkSt l 0).2.1)) 26)]) (cb (e 3) [] [(1, Own.box 1 (fun zt => SV.renm (rn [(0, 6)]) ((cmpG [SV.own 0]) zt)) 24), (3, Own.box 1 (cmpG [SV.v (Value.slice none 0 0)]) 24), (4, Own.box 2 (cmpG [iv (0), iv (0)]) 26), (6, ownOf ndCell 8 default ((((mkSt l 0).1).set (Int.toNat ((mkSt l 0).2.1.pl)) ({ (((mkSt l 0).1).getD (Int.toNat ((mkSt l 0).2.1.pl)) default) with host := h.pl })).set (Int.toNat ((mkSt l 0).2.1.pl)) ({ ((((mkSt l 0).1).set (Int.toNat ((mkSt l 0).2.1.pl)) ({ (((mkSt l 0).1).getD (Int.toNat ((mkSt l 0).2.1.pl)) default) with host := h.pl })).getD (Int.toNat ((mkSt l 0).2.1.pl)) default) with closed := cl })) 61), (7, Own.box 2 (hdCell ((mkSt l 0).2.1)) 26)]))⟩ _
     simp only [h0, h1, h2, h3, h4]
     show Weak _ ⟨[(56, SV.agg 1 (fun zi => (fun zt => SV.renm (rn [(0, 6)]) ((cmpG [SV.own 0]) zt)) (0 + zi))), (57, SV.agg 2 (fun zi => (hdCell ((mkSt l 0).2.1)) (0 + zi))), (8, iv (0)), (3, SV.bp 1 0), (6, SV.bp 3 0), (7, SV.bp 4 0), (11, SV.bp 7 0)], [(1, Own.box 1 (fun zt => SV.renm (rn [(0, 6)]) ((cmpG [SV.own 0]) zt)) 24), (3, Own.box 1 (fun zi => (fun zt => SV.renm (rn [(0, 6)]) ((cmpG [SV.own 0]) zt)) (0 + zi)) 24), (4, Own.box 2 (fun zi => (hdCell ((mkSt l 0).2.1)) (0 + zi)) 26), (6, ownOf ndCell 8 default ((((mkSt l 0).1).set (Int.toNat ((mkSt l 0).2.1.pl)) ({ (((mkSt l 0).1).getD (Int.toNat ((mkSt l 0).2.1.pl)) default) with host := h.pl })).set (Int.toNat ((mkSt l 0).2.1.pl)) ({ ((((mkSt l 0).1).set (Int.toNat ((mkSt l 0).2.1.pl)) ({ (((mkSt l 0).1).getD (Int.toNat ((mkSt l 0).2.1.pl)) default) with host := h.pl })).getD (Int.toNat ((mkSt l 0).2.1.pl)) default) with closed := cl })) 61), (7, Own.box 2 (hdCell ((mkSt l 0).2.1)) 26)]⟩ _
     refine We ?_ ?_
     ·exact ⟨Va (V rfl) (An rfl), Va (V rfl) (An rfl), V rfl, V rfl, V rfl, V rfl, V rfl, Z⟩
     ·exact ⟨⟨_, rfl, ⟨rfl, rfl, (An rfl)⟩⟩, ⟨_, rfl, ⟨rfl, rfl, (An rfl)⟩⟩, ⟨_, rfl, ⟨rfl, rfl, (An rfl)⟩⟩, ⟨_, rfl, rfl⟩, ⟨_, rfl, ⟨rfl, rfl, (An rfl)⟩⟩, Z⟩
    exact FzC 6 rfl <| Rx <| RR3 rfl (rv_aggI (g' := stG ((((mkSt l 0).1).set (Int.toNat ((mkSt l 0).2.1.pl)) ({ (((mkSt l 0).1).getD (Int.toNat ((mkSt l 0).2.1.pl)) default) with host := h.pl })).set (Int.toNat ((mkSt l 0).2.1.pl)) ({ ((((mkSt l 0).1).set (Int.toNat ((mkSt l 0).2.1.pl)) ({ (((mkSt l 0).1).getD (Int.toNat ((mkSt l 0).2.1.pl)) default) with host := h.pl })).getD (Int.toNat ((mkSt l 0).2.1.pl)) default) with closed := cl }))) (rv_cell (V rfl) rfl Ga24 Sz24) ⟨Z, Ir⟩) (rv_aggI (g' := hdCell ⟨(mkSt l 0).2.1.pl, (mkSt l 0).2.1.use⟩) (rv_cell (V rfl) rfl Ga26 Sz26) ⟨⟨Z, Ir⟩, Ir⟩) (rv_tmp (V rfl)) rfl rfl rfl (by show sv3 (SV.agg 1 (stG ((((mkSt l 0).1).set (Int.toNat ((mkSt l 0).2.1.pl)) ({ (((mkSt l 0).1).getD (Int.toNat ((mkSt l 0).2.1.pl)) default) with host := h.pl })).set (Int.toNat ((mkSt l 0).2.1.pl)) ({ ((((mkSt l 0).1).set (Int.toNat ((mkSt l 0).2.1.pl)) ({ (((mkSt l 0).1).getD (Int.toNat ((mkSt l 0).2.1.pl)) default) with host := h.pl })).getD (Int.toNat ((mkSt l 0).2.1.pl)) default) with closed := cl })))) (SV.agg 2 (hdCell ⟨(mkSt l 0).2.1.pl, (mkSt l 0).2.1.use⟩)) (iv (0)) = sv3 (SV.agg 1 (stG (attSt l h cl).1)) (SV.agg 2 (hdCell (attSt l h cl).2.1)) (iv (attSt l h cl).2.2); rw [att_4 hf0 hc2 hc3s]; rfl)
theorem inside_ct (l : List Nd) (k top : Int) (hc : checkSt l = 0) (hk : -1 ≤ k ∧ k < (l.length : Int)) : Ct Try.prog 146 [SV.agg 1 (stG l), iv (k), iv (top)] (bv (underB l k top)) := by
 have h24 := checkSt_len hc
 refine CtO 18 Try.func146 rfl rfl rfl fun E => row_lenA 0 (V (s := 0) rfl) rfl rfl fun hl0_0 => Sq <| Rt <| BxA 1 (V rfl) rfl rfl <| U (As K) <| Nt <| Sq <| Bo <| Lo (fun (m : Nat) => ⟨[(1, iv (upN l m k)), (2, iv (top)), (3, SV.bp 1 0)], [(1, Own.box 1 (stG l) 24)]⟩) (fun (m : Nat) => m ≤ l.length ∧ ∀ q, q < m → ¬ upN l q k = top) (fun (m : Nat) => l.length - m) 0 (by show 0 ≤ l.length ∧ ∀ q, q < 0 → ¬ upN l q k = top; exact ⟨Nat.zero_le _, fun q hq => absurd hq (Nat.not_lt_zero q)⟩) (We (ow := [(1, Own.box 1 (stG l) 24)]) (Vs rfl) (by exact ⟨⟨_, rfl, rfl, rfl, (An rfl)⟩, Z⟩)) <| ?_
 ·rintro m hI1
  have hJ1 : m ≤ l.length ∧ ∀ q, q < m → ¬ upN l q k = top := hI1
  have hui := upN_in (checkSt_nodes hc) hk m
  refine Sq <| Sq <| Rq <| O (Mv (V rfl)) <| O (Ge (V rfl) K) <| Nq <| Cd (V rfl) (fun hc1 => ?_) (fun hc1 => ?_)
  ·have hc1s := hc1; try simp only [BL] at hc1s
   have hml := up_lt hc hk (m := m) (by omega)
   refine Sk <| Sq <| Bo <| Sq <| Rq <| O (Mv (V rfl)) <| O (Mv (V rfl)) <| O (Ql (V rfl) (V rfl)) <| Nq <| Cd (V rfl) (fun hc2 => ?_) (fun hc2 => ?_)
   ·have hc2s := hc2; try simp only [BL] at hc2s
    exact Sq <| Rq <| O (As K) <| Nq <| Rx <| R1 rfl (V rfl) rfl (by show bv (true) = bv (underB l k top); rw [under_yes hJ1.1 (by omega) hc2s])
   ·have hc2s := hc2; try simp only [BL] at hc2s
    exact Sk <| Rq <| O (FlB _ _ (V rfl) Un24 rfl 0 Sz22) <| O (LdB (V rfl) rfl Ga22 (by decide)) <| O (Mv (V rfl)) <| O (Ix (V rfl) (V rfl) ts22 te22 (by omega) (by omega)) <| O (LdA (V rfl) Ga61 Sz61 (by decide)) <| CQ en110 (by exact ⟨⟨(Vi (g' := ndCell ⟨(l.getD (Int.toNat (upN l m k)) default).used, (l.getD (Int.toNat (upN l m k)) default).uses, (l.getD (Int.toNat (upN l m k)) default).tag, (l.getD (Int.toNat (upN l m k)) default).mark, (l.getD (Int.toNat (upN l m k)) default).par, (l.getD (Int.toNat (upN l m k)) default).kids, (l.getD (Int.toNat (upN l m k)) default).host, (l.getD (Int.toNat (upN l m k)) default).closed⟩) (V rfl) ⟨⟨⟨⟨⟨⟨⟨⟨Z, Ir⟩, Ir⟩, Ir⟩, Ir⟩, Ir⟩, Ir⟩, Ir⟩, Ir⟩), rfl⟩, Z⟩) (above_ct (l.getD (Int.toNat (upN l m k)) default)) <| O (As (V rfl)) <| Nq <| Nx (m + 1) (by show (m + 1) ≤ l.length ∧ ∀ q, q < (m + 1) → ¬ upN l q k = top; exact ⟨by omega, all_s (p := fun q => ¬ upN l q k = top) hJ1.2 hc2s⟩) (by show l.length - (m + 1) < l.length - m; omega) (We (sl := [(1, iv (upN l ((m + 1)) k)), (2, iv (top)), (3, SV.bp 1 0)]) (ow := [(1, Own.box 1 (stG l) 24)]) (by exact ⟨val_eq (V rfl) (congrArg iv (by show above _ = up1 l (upN l m k); rw [up1, if_neg (by omega)])), V rfl, V rfl, Z⟩) (by exact ⟨⟨_, rfl, rfl, rfl, (An rfl)⟩, Z⟩))
  ·have hc1s := hc1; try simp only [BL] at hc1s
   exact Ex <| Sq <| Rq <| O (As K) <| Nq <| Rx <| R1 rfl (V rfl) rfl (by show bv (false) = bv (underB l k top); rw [under_no (m := m) (by omega) hJ1.2])
theorem hidden_ct (l : List Nd) (f k0 : Int) (all : Bool) (hc : checkSt l = 0) (hf : 0 ≤ f ∧ f < (l.length : Int)) (hk0 : 0 ≤ k0 ∧ k0 < (l.length : Int)) : Ct Try.prog 111 [SV.agg 1 (stG l), iv (f), iv (k0), bv (all)] (bv (hiddenSt l f k0 all)) := by
 refine CtO 39 Try.func111 rfl rfl rfl fun E => row_lenA 0 (V (s := 0) rfl) rfl rfl fun hl0_0 => Sq <| Rt <| BxA 1 (V rfl) rfl rfl <| U (As K) <| Nt <| Bo <| Lo (fun (k : Int) => ⟨[(1, iv (f)), (2, iv (k)), (3, bv (all)), (4, SV.bp 1 0)], [(1, Own.box 1 (stG l) 24)]⟩) (fun (k : Int) => (0 ≤ k ∧ k < (l.length : Int)) ∧ hiddenSt l f k0 all = hiddenSt l f k all) (fun (k : Int) => (rootsL l k).length) k0 (by show (0 ≤ k0 ∧ k0 < (l.length : Int)) ∧ hiddenSt l f k0 all = hiddenSt l f k0 all; exact ⟨hk0, rfl⟩) (We (ow := [(1, Own.box 1 (stG l) 24)]) (Vs rfl) (by exact ⟨⟨_, rfl, rfl, rfl, (An rfl)⟩, Z⟩)) <| ?_
 ·rintro k hI1
  have hJ1 : (0 ≤ k ∧ k < (l.length : Int)) ∧ hiddenSt l f k0 all = hiddenSt l f k all := hI1
  have hkr := hJ1.1
  have hke := hJ1.2
  have htr := (roots_t hc hkr).1
  refine Bo <| Sq <| Rq <| O (LBA (V rfl) rfl Ga24 Sz24 (by decide)) <| O (Mv (V rfl)) <| CQ en137 (by exact ⟨⟨(Vi (g' := stG l) (V rfl) ⟨Z, Ir⟩), rfl⟩, ⟨(V rfl), rfl⟩, Z⟩) (top_ct l k (by assumption) (by first | assumption | omega)) <| O (As (V rfl)) <| Nq <| Sq <| Rq <| O (FlB _ _ (V rfl) Un24 rfl 0 Sz22) <| O (LdB (V rfl) rfl Ga22 (by decide)) <| O (Mv (V rfl)) <| O (Ix (V rfl) (V rfl) ts22 te22 (by omega) (by omega)) <| O (Fl _ _ (V rfl) Un61 rfl 0 Sz3) <| O (Ld (V rfl) Ga3 (by decide)) <| O (As (V rfl)) <| Nq <| Sq <| Sq <| Rq <| O (Mv (V rfl)) <| O (Lt (V rfl) K) <| Nq <| Cd (V rfl) (fun hc1 => ?_) (fun hc1 => ?_)
  ·have hc1s := hc1; try simp only [BL] at hc1s
   exact Sq <| Rq <| O (As K) <| Nq <| Rx <| R1 rfl (V rfl) rfl (by show bv (false) = bv (hiddenSt l f k0 all); rw [hke, hidden_0 hc hkr hc1s])
  ·have hc1s := hc1; try simp only [BL] at hc1s
   refine Sk <| Sq <| Sq <| Rq <| O (LBA (V rfl) rfl Ga24 Sz24 (by decide)) <| O (Mv (V rfl)) <| O (Mv (V rfl)) <| CQ en146 (by exact ⟨⟨(Vi (g' := stG l) (V rfl) ⟨Z, Ir⟩), rfl⟩, ⟨(V rfl), rfl⟩, ⟨(V rfl), rfl⟩, Z⟩) (inside_ct l f (topSt l k) (by assumption) (by first | assumption | omega)) <| O (Qo (V rfl)) <| O (Mv (V rfl)) <| Og (Gy rfl rfl) (fun hg => Mv (V rfl)) <| Og (Gy rfl rfl) (fun hg => Mv (Vg (V rfl) hg)) <| Og (Gyn rfl rfl) (fun hg => FlB _ _ (V rfl) Un24 rfl 0 Sz22) <| Og (Gyn rfl rfl) (fun hg => LdB (Vg (V rfl) hg) rfl Ga22 (by decide)) <| Og (Gyn rfl rfl) (fun hg => Mv (V rfl)) <| Og (Gyn rfl rfl) (fun hg => Ix (Vg (V rfl) hg) (Vg (V rfl) hg) ts22 te22 (by omega) (by omega)) <| Og (Gyn rfl rfl) (fun hg => Fl _ _ (Vg (V rfl) hg) Un61 rfl 0 Sz4) <| Og (Gyn rfl rfl) (fun hg => Ld (Vg (V rfl) hg) Ga4 (by decide)) <| Og (Gy rfl rfl) (fun hg => Qr (Vg (V rfl) hg) (fun h => Vg (V rfl) (andI hg (notT h)))) <| O (Qa (V rfl) (fun h => Vg (V rfl) h)) <| Nq <| Cd (V rfl) (fun hc2 => ?_) (fun hc2 => ?_)
   ·have hc2s := hc2; try simp only [BL] at hc2s
    exact Sq <| Rq <| O (As K) <| Nq <| Rx <| R1 rfl (V rfl) rfl (by show bv (true) = bv (hiddenSt l f k0 all); rw [hke, hidden_1 hc hkr hc1s hc2])
   ·have hc2s := hc2; try simp only [BL] at hc2s
    have h2 := hidden_2 hc (f := f) (all := all) hkr hc1s hc2
    exact Sk <| Rq <| O (Mv (V rfl)) <| O (As (V rfl)) <| Nq <| NxH ((l.getD (Int.toNat (topSt l k)) default).host) (fun _ _ h => h) (by show (0 ≤ ((l.getD (Int.toNat (topSt l k)) default).host) ∧ ((l.getD (Int.toNat (topSt l k)) default).host) < (l.length : Int)) ∧ hiddenSt l f k0 all = hiddenSt l f ((l.getD (Int.toNat (topSt l k)) default).host) all; exact ⟨h2.2.2, hke.trans h2.1⟩) (by show (rootsL l ((l.getD (Int.toNat (topSt l k)) default).host)).length < (rootsL l k).length; have := h2.2.1; omega) (We (ow := [(1, Own.box 1 (stG l) 24)]) (Vs rfl) (by exact ⟨⟨_, rfl, rfl, rfl, (An rfl)⟩, Z⟩))
end Go.Proofs.Ytmcdamcedemdiaa
namespace Go.Proofs.Ytmcdamcedemdiaa
open Go.RowKit Go.Eng
theorem path_s {l : List Nd} (h : checkSt l = 0) {k k0 : Int} {acc : List Int} (hk : 0 ≤ k ∧ k < (l.length : Int)) (e : line l k0 = acc ++ line l k) :
    line l k0 = (acc ++ [k]) ++ line l (above (l.getD k.toNat default)) := by rw [e, line_eq h hk, List.append_assoc]; rfl
theorem path_n {l : List Nd} (h : checkSt l = 0) {k k0 : Int} {acc : List Int} (e : line l k0 = acc ++ line l k) : acc.length ≤ l.length + 1 := by
  have := line_len25 h k0; rw [e, List.length_append] at this; omega
theorem path_m {l : List Nd} (h : checkSt l = 0) {k : Int} (hk : 0 ≤ k ∧ k < (l.length : Int)) : (line l (above (l.getD k.toNat default))).length < (line l k).length := by
  rw [line_eq h hk, List.length_cons]; omega
theorem tgt_0 {l : List Nd} {k told : Int} (h : checkSt l ≠ 0 ∨ k < 0 ∨ (l.length : Int) ≤ k ∨ told < 0 ∨ (l.length : Int) ≤ told) : tgtSt l k told = k := if_pos h
theorem tgt_1 {l : List Nd} {k told : Int} (h : checkSt l = 0) (hk : 0 ≤ k ∧ k < (l.length : Int)) (ht : 0 ≤ told ∧ told < (l.length : Int)) : tgtSt l k told = tgtL l told k (rootsL l k) := if_neg (by omega)
end Go.Proofs.Ytmcdamcedemdiaa
namespace Go.Proofs.Ytmcdamcedemdiaa
open Go.RowKit Go.Eng
theorem path_ct (l : List Nd) (h : Hd) (hb : ∀ n ∈ l, n.kids.length ≤ 17592186043904) : Ct Try.prog 33 [SV.agg 1 (stG l), SV.agg 2 (hdCell h)] (sv2 (inRow (pathSt l h).1) (iv (pathSt l h).2)) := by
 refine CtO 34 Try.func33 rfl rfl rfl fun E => row_lenA 0 (V (s := 0) rfl) rfl rfl fun hl0_0 => Sq <| Rt <| BxA 1 (V rfl) rfl rfl <| BxA 2 (V rfl) rfl rfl <| t_nilO 3 1 (rowG inCell 0 []) 3 (.inl rfl) rfl <| U (As K) <| Nt <| Sq <| Sq <| Rt <| U (LBA (V rfl) rfl Ga24 Sz24 (by decide)) <| U (LBA (V rfl) rfl Ga26 Sz26 (by decide)) <| CT en46 (by exact ⟨⟨(Vi (g' := stG l) (V rfl) ⟨Z, Ir⟩), rfl⟩, ⟨(Vi (g' := hdCell ⟨h.pl, h.use⟩) (V rfl) ⟨⟨Z, Ir⟩, Ir⟩), rfl⟩, Z⟩) (find_ct l h (by first | assumption | exact kb_nil | exact kb_of (by assumption) | exact kb_of fam_c5)) <| U (Mv (V rfl)) <| U (Xt (V rfl) (by decide)) <| U (Xt (V rfl) (by decide)) <| Al 4 zero61 rfl rfl <| StA (V rfl) rfl (V rfl) Sz61 <| U (As (V rfl)) <| Nt <| Sq <| Rq <| O (Mv (V rfl)) <| O (Qn (V rfl) K) <| Nq <| Cd (V rfl) (fun hc1 => ?_) (fun hc1 => ?_)
 ·have hc1s := hc1; try simp only [BL] at hc1s
  exact Sq <| Rt <| U (Mv (V rfl)) <| t_nilO 5 1 (rowG inCell 0 []) 3 (.inl rfl) rfl <| U (As (V rfl)) <| Nt <| FzC 5 rfl <| Rx <| R2 rfl (V rfl) (V rfl) rfl rfl (by show sv2 (inRow ([])) (iv ((findSt l h).2)) = sv2 (inRow (pathSt l h).1) (iv (pathSt l h).2); rw [path_1 (h := h) (fun q => hc1s ((first_find l h).symm.trans q)), first_find])
 ·have hc1s := hc1; try simp only [BL] at hc1s
  have hf0 : firstSt l [h] = 0 := (first_find l h).trans hc1s
  have hc0 := (first1 hf0).1
  have hpl := (first1 hf0).2.2.1
  have h24 := checkSt_len hc0
  refine Sk <| Sq <| Rt <| t_nilO 6 1 (rowG inCell 0 []) 3 (.inl rfl) rfl <| Nt <| Sq <| Sq <| Rq <| O (FlB _ _ (V rfl) Un26 rfl 0 Sz3) <| O (LdB (V rfl) rfl Ga3 (by decide)) <| O (As (V rfl)) <| Nq <| Bo <| c_mv 6 60 rfl rfl <| c_ownE 60 (([])) rfl (by rfl) <| Lo (uc2 fun (acc : List Int) (k : Int) => ⟨[(2, SV.bp 1 0), (8, SV.own 60), (9, iv (k))], [(1, Own.box 1 (fun zt => SV.renm (mvN 6 60) ((stG l) zt)) 24), (60, ownOf inCell 1 0 acc 3)]⟩) (uc2 fun (acc : List Int) (k : Int) => (-1 ≤ k ∧ k < (l.length : Int)) ∧ line l h.pl = acc ++ line l k) (uc2 fun (acc : List Int) (k : Int) => (line l k).length) ([], h.pl) (by show (-1 ≤ (h.pl) ∧ (h.pl) < (l.length : Int)) ∧ line l h.pl = ([]) ++ line l (h.pl); exact ⟨by omega, rfl⟩) (We (ow := [(1, Own.box 1 (fun zt => SV.renm (mvN 6 60) ((stG l) zt)) 24), (60, ownOf inCell 1 0 (([])) 3)]) (Vs rfl) (by exact ⟨⟨_, rfl, rfl, rfl, (An rfl)⟩, ⟨_, rfl, rfl⟩, Z⟩)) <| ?_
  ·rintro ⟨acc, k⟩ hI1
   have hJ1 : (-1 ≤ k ∧ k < (l.length : Int)) ∧ line l h.pl = acc ++ line l k := hI1
   show C _ E _ ⟨[(2, SV.bp 1 0), (8, SV.own 60), (9, iv (k))], [(1, Own.box 1 (fun zt => SV.renm (mvN 6 60) ((stG l) zt)) 24), (60, ownOf inCell 1 0 acc 3)]⟩ _
   have hkr := hJ1.1
   have hln := hJ1.2
   have hal := path_n hc0 hln
   refine Sq <| Sq <| Rq <| O (Mv (V rfl)) <| O (Ge (V rfl) K) <| Nq <| Cd (V rfl) (fun hc2 => ?_) (fun hc2 => ?_)
   ·have hc2s := hc2; try simp only [BL] at hc2s
    exact Sk <| Sq <| Bo <| Rt <| U (Mv (V rfl)) <| U (Mv (V rfl)) <| Uw (w_bs (n := 1) (zget := fun _ => iv 0) [(fun _ => iv (k))] (rowG inCell 0 [k]) Un33 Sz3 zero3 (by decide) rfl (by decide) ⟨⟨rfl, .inr ⟨rfl, (V rfl), rfl⟩, rfl⟩, Z⟩ ⟨Z, ⟨Z, rfl⟩⟩) <| Ap 7 (rowG inCell 0 (acc ++ ([k]))) eo33 (V rfl) rfl (V rfl) rfl (len_app acc ([k])) (by first | (simp only [maxLen, List.length_append, List.length_set, List.length_nil, List.length_cons]; omega) | (simp only [maxLen]; omega)) (by first | (simp only [List.length_append, List.length_set, List.length_nil, List.length_cons]; omega) | (omega)) (app_typed (l := acc) (m := ([k]))) <| U (As (V rfl)) <| Nt <| Rq <| O (FlB _ _ (V rfl) Un24 rfl 0 Sz22) <| O (LdB (V rfl) rfl Ga22 (by decide)) <| O (Mv (V rfl)) <| O (Ix (V rfl) (V rfl) ts22 te22 (by omega) (by omega)) <| O (LdA (V rfl) Ga61 Sz61 (by decide)) <| CQ en110 (by exact ⟨⟨(Vi (g' := ndCell ⟨(l.getD (Int.toNat k) default).used, (l.getD (Int.toNat k) default).uses, (l.getD (Int.toNat k) default).tag, (l.getD (Int.toNat k) default).mark, (l.getD (Int.toNat k) default).par, (l.getD (Int.toNat k) default).kids, (l.getD (Int.toNat k) default).host, (l.getD (Int.toNat k) default).closed⟩) (V rfl) ⟨⟨⟨⟨⟨⟨⟨⟨Z, Ir⟩, Ir⟩, Ir⟩, Ir⟩, Ir⟩, Ir⟩, Ir⟩, Ir⟩), rfl⟩, Z⟩) (above_ct (l.getD (Int.toNat k) default)) <| O (As (V rfl)) <| Nq <| k_mv 7 60 rfl rfl <| Nx (acc ++ [k], above (l.getD (Int.toNat k) default)) (by show (-1 ≤ (above (l.getD (Int.toNat k) default)) ∧ (above (l.getD (Int.toNat k) default)) < (l.length : Int)) ∧ line l h.pl = (acc ++ [k]) ++ line l (above (l.getD (Int.toNat k) default)); exact ⟨above_in (checkSt_nodes hc0) (by omega), path_s hc0 (by omega) hln⟩) (by show (line l (above (l.getD (Int.toNat k) default))).length < (line l k).length; exact path_m hc0 (by omega)) (We (ow := [(1, Own.box 1 (fun zt => SV.renm (mvN 6 60) ((stG l) zt)) 24), (60, ownOf inCell 1 0 ((acc ++ [k])) 3)]) (Vs rfl) (by exact ⟨⟨_, rfl, rfl, rfl, (An rfl)⟩, ⟨_, rfl, rfl⟩, Z⟩))
   ·have hc2s := hc2; try simp only [BL] at hc2s
    exact Ex <| Sq <| Rq <| O (Mv (V rfl)) <| O (As (V rfl)) <| O (As K) <| Nq <| FzC 60 rfl <| Rx <| R2 rfl (V rfl) (V rfl) rfl rfl (by show sv2 (inRow acc) (iv (0)) = sv2 (inRow (pathSt l h).1) (iv (pathSt l h).2); rw [path_2 hf0, hln, line_neg (k := k) (by omega), List.append_nil])
theorem target_ct (l : List Nd) (k0 told : Int) (hb : ∀ n ∈ l, n.kids.length ≤ 17592186043904) : Ct Try.prog 78 [SV.agg 1 (stG l), iv (k0), iv (told)] (iv (tgtSt l k0 told)) := by
 refine CtO 46 Try.func78 rfl rfl rfl fun E => row_lenA 0 (V (s := 0) rfl) rfl rfl fun hl0_0 => Sq <| Rt <| BxA 1 (V rfl) rfl rfl <| U (As K) <| Nt <| Sq <| Sq <| Rq <| O (LBA (V rfl) rfl Ga24 Sz24 (by decide)) <| CQ en44 (by exact ⟨⟨(Vi (g' := stG l) (V rfl) ⟨Z, Ir⟩), rfl⟩, Z⟩) (stcheck_ct l (by first | assumption | exact kb_nil | exact kb_of (by assumption) | exact kb_of fam_c5)) <| O (Qn (V rfl) K) <| O (Mv (V rfl)) <| Og (Gn rfl rfl) (fun hg => Mv (V rfl)) <| Og (Gn rfl rfl) (fun hg => Lt (Vg (V rfl) hg) K) <| O (Qr (V rfl) (fun h => Vg (V rfl) (notT h))) <| O (Mv (V rfl)) <| Og (Gn rfl rfl) (fun hg => Mv (V rfl)) <| Og (Gn rfl rfl) (fun hg => FlB _ _ (V rfl) Un24 rfl 0 Sz22) <| Og (Gn rfl rfl) (fun hg => LdB (Vg (V rfl) hg) rfl Ga22 (by decide)) <| Og (Gn rfl rfl) (fun hg => Ln (Vg (V rfl) hg) ts22) <| Og (Gn rfl rfl) (fun hg => Ge (Vg (V rfl) hg) (Vg (V rfl) hg)) <| O (Qr (V rfl) (fun h => Vg (V rfl) (notT h))) <| O (Mv (V rfl)) <| Og (Gn rfl rfl) (fun hg => Mv (V rfl)) <| Og (Gn rfl rfl) (fun hg => Lt (Vg (V rfl) hg) K) <| O (Qr (V rfl) (fun h => Vg (V rfl) (notT h))) <| O (Mv (V rfl)) <| Og (Gn rfl rfl) (fun hg => Mv (V rfl)) <| Og (Gn rfl rfl) (fun hg => FlB _ _ (V rfl) Un24 rfl 0 Sz22) <| Og (Gn rfl rfl) (fun hg => LdB (Vg (V rfl) hg) rfl Ga22 (by decide)) <| Og (Gn rfl rfl) (fun hg => Ln (Vg (V rfl) hg) ts22) <| Og (Gn rfl rfl) (fun hg => Ge (Vg (V rfl) hg) (Vg (V rfl) hg)) <| O (Qr (V rfl) (fun h => Vg (V rfl) (notT h))) <| Nq <| Cd (V rfl) (fun hc1 => ?_) (fun hc1 => ?_)
 ·have hc1s := hc1; try simp only [BL] at hc1s
  have hbad : checkSt l ≠ 0 ∨ k0 < 0 ∨ (l.length : Int) ≤ k0 ∨ told < 0 ∨ (l.length : Int) ≤ told := by simpa [or_assoc] using hc1
  exact Sq <| Rq <| O (Mv (V rfl)) <| O (As (V rfl)) <| Nq <| Rx <| R1 rfl (V rfl) rfl (by show iv (k0) = iv (tgtSt l k0 told); rw [tgt_0 hbad])
 ·have hc1s := hc1; try simp only [BL] at hc1s
  have hgood : ¬ (checkSt l ≠ 0 ∨ k0 < 0 ∨ (l.length : Int) ≤ k0 ∨ told < 0 ∨ (l.length : Int) ≤ told) := fun q => Bool.false_ne_true (hc1.symm.trans (by simpa [or_assoc] using q))
  have hc0 : checkSt l = 0 := Classical.byContradiction fun q => hgood (.inl q)
  refine Sk <| Sq <| Bo <| Lo (fun (k : Int) => ⟨[(1, iv (k)), (2, iv (told)), (3, SV.bp 1 0)], [(1, Own.box 1 (stG l) 24)]⟩) (fun (k : Int) => (0 ≤ k ∧ k < (l.length : Int)) ∧ tgtSt l k0 told = tgtL l told k (rootsL l k)) (fun (k : Int) => (rootsL l k).length) k0 (by show (0 ≤ k0 ∧ k0 < (l.length : Int)) ∧ tgtSt l k0 told = tgtL l told k0 (rootsL l k0); exact ⟨by omega, tgt_1 hc0 (by omega) (by omega)⟩) (We (ow := [(1, Own.box 1 (stG l) 24)]) (Vs rfl) (by exact ⟨⟨_, rfl, rfl, rfl, (An rfl)⟩, Z⟩)) <| ?_
  ·rintro k hI1
   have hJ1 : (0 ≤ k ∧ k < (l.length : Int)) ∧ tgtSt l k0 told = tgtL l told k (rootsL l k) := hI1
   have hkr := hJ1.1
   have hke := hJ1.2
   refine Sq <| Sq <| Rq <| O (LBA (V rfl) rfl Ga24 Sz24 (by decide)) <| O (Mv (V rfl)) <| O (Mv (V rfl)) <| CQ en111 (by exact ⟨⟨(Vi (g' := stG l) (V rfl) ⟨Z, Ir⟩), rfl⟩, ⟨(V rfl), rfl⟩, ⟨(V rfl), rfl⟩, ⟨K, rfl⟩, Z⟩) (hidden_ct l told k true (by assumption) (by first | assumption | omega) (by first | assumption | omega)) <| Nq <| Cd (V rfl) (fun hc2 => ?_) (fun hc2 => ?_)
   ·have hc2s := hc2; try simp only [BL] at hc2s
    have htt := tgt_t hc0 hkr hc2
    exact Sk <| Bo <| Rqd (by kernel_rfl) (by kernel_rfl) <| O (FlB _ _ (V rfl) Un24 rfl 0 Sz22) <| O (LdB (V rfl) rfl Ga22 (by decide)) <| O (LBA (V rfl) rfl Ga24 Sz24 (by decide)) <| O (Mv (V rfl)) <| CQ en137 (by exact ⟨⟨(Vi (g' := stG l) (V rfl) ⟨Z, Ir⟩), rfl⟩, ⟨(V rfl), rfl⟩, Z⟩) (top_ct l k (by assumption) (by first | assumption | omega)) <| O (Ix (V rfl) (V rfl) ts22 te22 (by omega) (by omega)) <| O (Fl _ _ (V rfl) Un61 rfl 0 Sz3) <| O (Ld (V rfl) Ga3 (by decide)) <| O (As (V rfl)) <| Nq <| NxH ((l.getD (Int.toNat (topSt l k)) default).host) (fun _ _ h => h) (by show (0 ≤ ((l.getD (Int.toNat (topSt l k)) default).host) ∧ ((l.getD (Int.toNat (topSt l k)) default).host) < (l.length : Int)) ∧ tgtSt l k0 told = tgtL l told ((l.getD (Int.toNat (topSt l k)) default).host) (rootsL l ((l.getD (Int.toNat (topSt l k)) default).host)); exact ⟨htt.2.2.2, hke.trans htt.1⟩) (by show (rootsL l ((l.getD (Int.toNat (topSt l k)) default).host)).length < (rootsL l k).length; have := htt.2.1; omega) (We (ow := [(1, Own.box 1 (stG l) 24)]) (Vs rfl) (by exact ⟨⟨_, rfl, rfl, rfl, (An rfl)⟩, Z⟩))
   ·have hc2s := hc2; try simp only [BL] at hc2s
    exact Ex <| Sq <| Rq <| O (Mv (V rfl)) <| O (As (V rfl)) <| Nq <| Rx <| R1 rfl (V rfl) rfl (by show iv (k) = iv (tgtSt l k0 told); rw [hke, tgt_f hc0 hkr hc2])
end Go.Proofs.Ytmcdamcedemdiaa
namespace Go.Eng
open Go.RowKit
variable {P : Program} {NN : Nat} {E : Env NN}
theorem q_nilE {S : St} {x : Operand} {n k i off : Nat} {g : Nat → Nat → SV} (hx : Val E S x (.el n k g i off)) : OpQ P E S (.nilCheck x) (.el n k g i off) := fun b a w hr dst ty pos after gd => by
  obtain ⟨h1, bb, o, hv, hr2⟩ := hx b a w hr
  refine ⟨.pointer (some ⟨bb, o + (i * k + off), none⟩), fun w' hw' => ?_, h1, bb, o, rfl, hr2⟩
  simp [execOp, hv]
theorem q_lookB1R {S : St} {t kt et : TypeId} {m xk : Operand} {k : Int} {l : List (Int × Bool)} (ht : P.underlying t = some (.map kt et)) (hkt : P.underlying kt = some (.int .i64)) (hz : ∀ w, (zeroValue et).run P w = .ok (.bool false) w)
    (hm : Val E S m (mapSV (bmap l))) (hk : Val E S xk (iv k)) : OpQ P E S (.lookup t m xk false) (bv ((kget l k).getD false)) := fun b a w hr dst ty pos after gd => by
  obtain ⟨g, es, clk, h1, hlt, _, hh, hkv⟩ := hm b a w hr
  have h2 : a.eval xk = .int .i64 k := hk b a w hr
  have e : ((mget (bmap l) k).getD (.bool false)) = .bool ((kget l k).getD false) := by rw [bmap, mget_map]; cases kget l k <;> rfl
  refine ⟨(mget (bmap l) k).getD (.bool false), fun w' hw' => ?_, e⟩
  have hh' : w'.heap[g]? = some (.map es clk) := by rw [hw'.block g hlt]; exact hh
  have hck : ∀ e n, (Instr.checkKey e (n + 1) kt (.int .i64 k)).run P w' = .ok () w' := fun e n => MapKept.run_checkKey (k := .int .i64 k) hkt rfl e n
  rcases find_at (k := k) es.toList (bmap l) 0 hkv with ⟨h3, h4, _⟩ | ⟨i, e, h3, h5, _, h4, _⟩
  · have hf := MapKept.run_findKey (P := P) (w := w') hkt h3
    simp [execOp, h1, h2, Instr.lookup, run_underlying ht, MapKept.run_getObj_map hh', hck, hf, hz, h4]
  · have hf := MapKept.run_findKey (P := P) (w := w') hkt h3
    simp [execOp, h1, h2, Instr.lookup, run_underlying ht, MapKept.run_getObj_map hh', hck, hf, h4]
theorem tq_callVGg {ops : Array Oper} {rest : List Oper} {S : St} {K : St → Prop} {d : Tmp} {f : FuncId} {caps : List SV} {xf : Operand} {xs : List Operand} {ats : Array TypeId} {ty : TypeId} {pos : String} {after : Array Edge} {args : List SV} {x : Value} {gd : Nat × Bool} {c : Bool}
    (hg : Guard E S ops gd c) (hxf : c = true → FnVal E S xf f caps) (hro : allRO caps = true) (hf : Enters P f) (ha : c = true → Vals E S xs args) (h : c = true → Ct P f (args ++ caps) (.v x)) (hk : TQ P E ops rest (nextQ S d (.grd c (.v x))) K) (hd : d < NN := by decide) :
    TQ P E ops ({ dst := some d, op := .call { callee := .value xf, args := xs.toArray, argTypes := ats }, type := ty, pos, after, guard := some gd } :: rest) S K := fun b a w hr => by
  unfold wpQuiet
  rw [hg b a w hr _ rfl]
  cases c with
  | false => exact hk b _ w (hr.put hd ⟨(fun h => by cases h), fun _ => rfl⟩)
  | true =>
    refine ⟨x, fun w' hw' => ?_, hk b _ w (hr.put hd ⟨fun _ => rfl, fun h => by cases h⟩)⟩
    unfold Oper.quietAt
    have hr' : RepB E b S a w' := hr.world hw'
    obtain ⟨vals, hv, hc⟩ := hxf rfl b a w' hr'
    rw [run_callV hf a xf vals hv]
    refine ⟨rfl, ?_⟩
    refine (h rfl w' (S.excl E b) _ (fun g hg => Nat.lt_of_lt_of_le (hr.excl_lt hg) hw'.size) (ros_app (hr' |> (ha rfl).ros) (hc.ros hro))).mono ?_
    rintro e w'' ⟨v, rfl, hv, hb⟩
    have : v = x := hv
    subst this
    exact ⟨rfl, hw'.trans (hb.mono hw'.size)⟩
end Go.Eng
namespace Go.Eng
open Go.RowKit
variable {P : Program} {NN : Nat} {E : Env NN}
end Go.Eng
namespace Go.Proofs.Ytmcdamcedemdiaa
open Go.RowKit Go.Eng
theorem en105 : Enters Try.prog 105 := fun args w => by kernel_rfl
def heBad (l : List He) (p : Int) (i : Nat) : Int := if (l.getD i default).pl < 0 ∨ p ≤ (l.getD i default).pl then 4 else if (l.take i).any (fun x => decide (x.id = (l.getD i default).id)) = true then 3 else 0
def chkHe (l : List He) (p : Int) : Int := if 24 < l.length then 1 else firstErr (heBad l p) 0 l.length
section
variable {l : List He} {p : Int} {i : Nat}
theorem chk_1 (h : 24 < l.length) : chkHe l p = 1 := if_pos h
theorem chk_0 (h : ¬ 24 < l.length) : chkHe l p = firstErr (heBad l p) 0 (l.length - 0) := if_neg h
theorem heBad_4 (h : (l.getD i default).pl < 0 ∨ p ≤ (l.getD i default).pl) : heBad l p i = 4 := if_pos h
theorem heBad_3 (h : ¬ ((l.getD i default).pl < 0 ∨ p ≤ (l.getD i default).pl)) (e : (l.take i).any (fun x => decide (x.id = (l.getD i default).id)) = true) : heBad l p i = 3 := by
  unfold heBad; rw [if_neg h, if_pos e]
theorem heBad_0 (h : ¬ ((l.getD i default).pl < 0 ∨ p ≤ (l.getD i default).pl)) (e : (l.take i).any (fun x => decide (x.id = (l.getD i default).id)) = false) : heBad l p i = 0 := by
  unfold heBad; rw [if_neg h, if_neg (ff e)]
theorem chk_len (h : chkHe l p = 0) : l.length ≤ 24 := by
  by_cases c : 24 < l.length
  · rw [chk_1 c] at h; cases h
  · omega
theorem chk_all (h : chkHe l p = 0) (hi : i < l.length) : (0 ≤ (l.getD i default).pl ∧ (l.getD i default).pl < p) ∧ (l.take i).any (fun x => decide (x.id = (l.getD i default).id)) = false := by
  have hl := chk_len h
  rw [chk_0 (by omega)] at h
  have := firstErr_all _ _ h i (Nat.zero_le _) (by omega)
  by_cases a : (l.getD i default).pl < 0 ∨ p ≤ (l.getD i default).pl
  · rw [heBad_4 a] at this; cases this
  · refine ⟨by omega, ?_⟩
    cases e : (l.take i).any (fun x => decide (x.id = (l.getD i default).id)) with
    | false => rfl
    | true => rw [heBad_3 a e] at this; cases this
end
def putAll (l : List He) (m : List (Int × Bool)) : List (Int × Bool) := l.foldl (fun m h => kput m h.id true) m
structure Desk where
  calls : List Ca
  heard : List (Int × Bool)
  stop : Bool
def desk0 : Desk := ⟨[], [], false⟩
def deskS (p : He → Bool) (k tg ph : Int) (D : Desk) (h : He) : Desk := if h.pl = k ∧ p h = true then ⟨D.calls ++ [⟨h.id, k, tg, ph⟩], kput D.heard h.id true, D.stop || h.stops⟩ else D
def atD (p : He → Bool) (k tg ph : Int) (hs : List He) (D : Desk) : Desk := if D.stop = true then D else hs.foldl (deskS p k tg ph) D
section
variable {p : He → Bool} {k tg ph : Int} {hs : List He} {D : Desk} {i : Nat}
theorem atD_1 (h : D.stop = true) : atD p k tg ph hs D = D := if_pos h
theorem atD_2 (h : D.stop = false) : atD p k tg ph hs D = hs.foldl (deskS p k tg ph) D := if_neg (ff h)
theorem desk_no (hi : i < hs.length) (h : ¬ ((hs.getD i default).pl = k ∧ p (hs.getD i default) = true)) : (hs.take (i + 1)).foldl (deskS p k tg ph) D = (hs.take i).foldl (deskS p k tg ph) D := by
  rw [foldl_take_s _ _ default _ _ hi, deskS, if_neg h]
theorem desk_yes (hi : i < hs.length) (h : (hs.getD i default).pl = k ∧ p (hs.getD i default) = true) : (hs.take (i + 1)).foldl (deskS p k tg ph) D =
    ⟨((hs.take i).foldl (deskS p k tg ph) D).calls ++ [⟨(hs.getD i default).id, k, tg, ph⟩], kput ((hs.take i).foldl (deskS p k tg ph) D).heard (hs.getD i default).id true, ((hs.take i).foldl (deskS p k tg ph) D).stop || (hs.getD i default).stops⟩ := by
  rw [foldl_take_s _ _ default _ _ hi, deskS, if_pos h]
theorem deskF_len : ∀ (hs : List He) (D : Desk), (hs.foldl (deskS p k tg ph) D).calls.length ≤ D.calls.length + hs.length
  | [], D => Nat.le_refl _
  | h :: r, D => by
    rw [List.foldl_cons, List.length_cons]
    have := deskF_len r (deskS p k tg ph D h)
    have h2 : (deskS p k tg ph D h).calls.length ≤ D.calls.length + 1 := by
      unfold deskS; split
      · rw [List.length_append]; exact Nat.le_refl _
      · omega
    omega
theorem desk_len (i : Nat) : ((hs.take i).foldl (deskS p k tg ph) D).calls.length ≤ D.calls.length + hs.length := by
  have := deskF_len (p := p) (k := k) (tg := tg) (ph := ph) (hs.take i) D
  rw [List.length_take] at this; omega
theorem atD_len : (atD p k tg ph hs D).calls.length ≤ D.calls.length + hs.length := by
  unfold atD; split
  · omega
  · exact deskF_len hs D
end
def phD (tg k b : Int) : Int := if tg = k then 2 else b
def stepS (l : List Nd) (t : Int) (hs : List He) (D : Desk) (s : Sp) : Desk := atD (fun h => h.down == s.down) s.at_ (tgtSt l t s.at_) (phD (tgtSt l t s.at_) s.at_ (if s.down = true then 1 else 3)) hs D
def dnSp (k : Int) : Sp := ⟨k, true⟩
def upSp (k : Int) : Sp := ⟨k, false⟩
def stopsL (l : List Nd) (t : Int) : List Sp := (line l t).reverse.map dnSp ++ (line l t).map upSp
def runD (l : List Nd) (t : Int) (hs : List He) : Desk := (stopsL l t).foldl (stepS l t hs) desk0
def leftD (M : List (Int × Bool)) (hs : List He) : List He := hs.filter fun h => !(h.once && (kget M h.id).getD false)
def dispSt (l : List Nd) (hs : List He) (t : Hd) : List Ca × List He × Int :=
  if firstSt l [t] ≠ 0 then ([], [], firstSt l [t]) else if chkHe hs (l.length : Int) ≠ 0 then ([], [], chkHe hs (l.length : Int)) else ((runD l t.pl hs).calls, leftD (runD l t.pl hs).heard hs, 0)
section
variable {l : List Nd} {hs : List He} {t : Hd}
theorem disp_1 (h : ¬ firstSt l [t] = 0) : dispSt l hs t = ([], [], firstSt l [t]) := if_pos h
theorem disp_2 (h : firstSt l [t] = 0) (c : ¬ chkHe hs (l.length : Int) = 0) : dispSt l hs t = ([], [], chkHe hs (l.length : Int)) := by unfold dispSt; rw [if_neg (not_not_intro h), if_pos c]
theorem disp_3 (h : firstSt l [t] = 0) (c : chkHe hs (l.length : Int) = 0) : dispSt l hs t = ((runD l t.pl hs).calls, leftD (runD l t.pl hs).heard hs, 0) := by unfold dispSt; rw [if_neg (not_not_intro h), if_neg (not_not_intro c)]
end
section
variable {l : List Nd} {t : Int} {hs : List He} {D : Desk} {i : Nat}
theorem step_1 {s : Sp} (h : D.stop = true) : stepS l t hs D s = D := atD_1 h
theorem step_2 {s : Sp} (h : D.stop = false) : stepS l t hs D s = hs.foldl (deskS (fun h => h.down == s.down) s.at_ (tgtSt l t s.at_) (phD (tgtSt l t s.at_) s.at_ (if s.down = true then 1 else 3))) D := atD_2 h
theorem step_stuck (h : D.stop = true) : ∀ S : List Sp, S.foldl (stepS l t hs) D = D
  | [] => rfl
  | s :: r => by rw [List.foldl_cons, step_1 h]; exact step_stuck h r
theorem run_len (S : List Sp) (h24 : hs.length ≤ 24) : (S.foldl (stepS l t hs) D).calls.length ≤ D.calls.length + 24 * S.length := by
  induction S generalizing D with
  | nil => exact Nat.le_refl _
  | cons s r ih =>
    rw [List.foldl_cons, List.length_cons]
    have h1 := ih (D := stepS l t hs D s)
    have h2 : (stepS l t hs D s).calls.length ≤ D.calls.length + hs.length := atD_len
    omega
def dnR (l : List Nd) (t : Int) (hs : List He) (i : Nat) : Desk := ((line l t).reverse.take i).foldl (fun D k => stepS l t hs D (dnSp k)) desk0
def upR (l : List Nd) (t : Int) (hs : List He) (i : Nat) : Desk := ((line l t).take i).foldl (fun D k => stepS l t hs D (upSp k)) (dnR l t hs (line l t).length)
theorem run_up : runD l t hs = upR l t hs (line l t).length := by
  unfold runD upR dnR stopsL
  rw [List.foldl_append, List.foldl_map, List.foldl_map, List.take_of_length_le (Nat.le_refl _), List.take_of_length_le (by rw [List.length_reverse]; exact Nat.le_refl _)]
theorem up_0 : upR l t hs 0 = dnR l t hs (line l t).length := rfl
theorem rev_getD {L : List Int} (h : i < L.length) : L.reverse.getD i 0 = L.getD (L.length - 1 - i) 0 := by
  rw [getD_lt (by rw [List.length_reverse]; exact h), getD_lt (by omega), List.getElem_reverse]
theorem dn_s (h : i < (line l t).length) {k : Int} (e : (line l t).getD ((line l t).length - 1 - i) 0 = k) : dnR l t hs (i + 1) = atD He.down k (tgtSt l t k) (phD (tgtSt l t k) k 1) hs (dnR l t hs i) := by
  unfold dnR
  rw [foldl_take_s _ _ 0 _ _ (by rw [List.length_reverse]; exact h), rev_getD h, e]
  show atD (fun h => h.down == true) _ _ _ _ _ = _
  rw [show (fun h : He => h.down == true) = He.down from funext fun h => by cases h.down <;> rfl]; rfl
theorem up_s (h : i < (line l t).length) {k : Int} (e : (line l t).getD i 0 = k) : upR l t hs (i + 1) = atD (fun h => !h.down) k (tgtSt l t k) (phD (tgtSt l t k) k 3) hs (upR l t hs i) := by
  unfold upR
  rw [foldl_take_s _ _ 0 _ _ h, e]
  show atD (fun h => h.down == false) _ _ _ _ _ = _
  rw [show (fun h : He => h.down == false) = (fun h : He => !h.down) from funext fun h => by cases h.down <;> rfl]; rfl
theorem dnR_len (h24 : hs.length ≤ 24) : (dnR l t hs i).calls.length ≤ 24 * (line l t).length := by
  unfold dnR
  have := run_len (l := l) (t := t) (hs := hs) (D := desk0) (((line l t).reverse.take i).map dnSp) h24
  rw [List.foldl_map, List.length_map, List.length_take, List.length_reverse] at this
  have h0 : desk0.calls.length = 0 := rfl
  have h1 : 24 * min i (line l t).length ≤ 24 * (line l t).length := Nat.mul_le_mul_left _ (Nat.min_le_right _ _)
  omega
theorem upR_len (h24 : hs.length ≤ 24) : (upR l t hs i).calls.length ≤ 48 * (line l t).length := by
  unfold upR
  have := run_len (l := l) (t := t) (hs := hs) (D := dnR l t hs (line l t).length) (((line l t).take i).map upSp) h24
  rw [List.foldl_map, List.length_map, List.length_take] at this
  have h0 := dnR_len (l := l) (t := t) (i := (line l t).length) h24
  have h1 : 24 * min i (line l t).length ≤ 24 * (line l t).length := Nat.mul_le_mul_left _ (Nat.min_le_right _ _)
  omega
end
def caVal (h : Ca) : Nat → Value
  | 0 => .int .i64 h.id
  | 1 => .int .i64 h.at_
  | 2 => .int .i64 h.tgt
  | _ => .int .i64 h.ph
theorem fields51 : Try.prog.underlying 51 = some (.struct (Try.prog.fieldsOf 51)) := by kernel_rfl
theorem held51 : Try.prog.stoodInHeld 51 = false := by kernel_rfl
theorem guard51 : Try.prog.eqGuardType Try.prog.depth 51 = false := by kernel_rfl
theorem fl51 : (Try.prog.fieldsOf 51).toList = (match Try.prog.underlying 51 with | some (.struct fs) => fs.toList | _ => []) := by kernel_rfl
theorem eq51 (f g : Ca) (w : World) : (Op.equalIn 10000 51 (.agg (Array.ofFn fun i : Fin 4 => caVal f i.1)) (.agg (Array.ofFn fun i : Fin 4 => caVal g i.1))).run Try.prog w = .ok (decide (f = g)) w := by
  rw [run_equalIn_agg w 9999 51 _ _ fields51 held51, fl51, Try.underlying51]
  simp [Op.eqFields, part, Try.isAgg3, Try.isAgg4, caVal, run_equalIn_int w 9998 3 .i64 .i64 _ _ Try.underlying3, run_equalIn_bool w 9998 4 _ _ Try.underlying4]
  obtain ⟨a0, a1, a2, a3⟩ := f
  obtain ⟨b0, b1, b2, b3⟩ := g
  simp only [Ca.mk.injEq]
  repeat (split <;> simp_all)
theorem neS51 (x y : Operand) (f g : Ca) (w : World) : (do eqGuard .neq 51 x y (.agg (Array.ofFn fun i : Fin 4 => caVal f i.1)) (.agg (Array.ofFn fun i : Fin 4 => caVal g i.1)); binOp .neq 51 (.agg (Array.ofFn fun i : Fin 4 => caVal f i.1)) (.agg (Array.ofFn fun i : Fin 4 => caVal g i.1))).run Try.prog w = .ok (.bool (!decide (f = g))) w := by
  simp only [Sem.run_bind, run_eqGuard_agg w .neq 51 x y _ _ guard51, Result.andThen_ok, run_neq_struct w 51, eq51 f g w]
theorem stops_len (l : List Nd) (t : Int) : (stopsL l t).length = 2 * (line l t).length := by
  unfold stopsL; rw [List.length_append, List.length_map, List.length_map, List.length_reverse]; omega
theorem runS_len {l : List Nd} {t : Int} {hs : List He} {i : Nat} (h24 : hs.length ≤ 24) : (((stopsL l t).take i).foldl (stepS l t hs) desk0).calls.length ≤ 48 * (line l t).length := by
  have := run_len (l := l) (t := t) (hs := hs) (D := desk0) ((stopsL l t).take i) h24
  rw [List.length_take, stops_len] at this
  have h0 : desk0.calls.length = 0 := rfl
  have h1 : 24 * min i (2 * (line l t).length) ≤ 24 * (2 * (line l t).length) := Nat.mul_le_mul_left _ (Nat.min_le_right _ _)
  omega
theorem zero116 : ZeroOk Try.prog 116 1 (fun _ => SV.v (.pointer none)) := zero_one (fun w => by kernel_rfl) rfl rfl
theorem zero118 : ZeroOk Try.prog 118 3 (cmpG [.v (.slice none 0 0), .v (.map none), bv false]) := by
  refine ⟨_, Try.zeroValue118, rfl, fun t ht => ?_⟩
  match t, ht with
  | 0, _ => exact ⟨_, rfl, rfl, fun _ _ => rfl⟩
  | 1, _ => exact ⟨_, rfl, rfl, fun _ _ => rfl⟩
  | 2, _ => exact ⟨_, rfl, rfl, fun _ _ => rfl⟩
theorem build118 : ∀ (w : World) (parts : List (Nat × Value)) (z : Value) (cs : Array Value), (zeroValue 118).run Try.prog w = .ok z w → Instr.fill (fun i => if i < 3 then some (i, 1) else none) z.cells parts = some cs → (∀ p ∈ parts, p.1 < 3) → (Instr.build 118 parts.toArray).run Try.prog w = .ok (.agg cs) w :=
  build_struct Try.underlying118 (fun w => by simp [Try.sizeOf46, Try.sizeOf49, Try.sizeOf4]; rfl)
end Go.Proofs.Ytmcdamcedemdiaa
namespace Go.Proofs.Ytmcdamcedemdiaa
open Go.RowKit Go.Eng
theorem idxf34_ct {f : FuncId} {caps : List SV} (p : He → Bool) (hE : Enters Try.prog f) (hro : allRO caps = true) (hC : ∀ x, Ct Try.prog f ([.agg 5 (heCell x)] ++ caps) (bv (p x))) (l : List He) : Ct Try.prog 34 [heRow l, fnA f caps] (iv (idxF p l)) := by
 refine CtO 19 Try.func34 rfl rfl rfl fun E => Rl (V (s := 0) rfl) fun hl0 => Sq <| Rq <| O (As K) <| Nq <| Sq <| Sq <| Rq <| O (Mv (V rfl)) <| O (Ln (V rfl) ts45) <| O (Mv K) <| Nq <| Bo <| Lo (fun (i : Nat) => ⟨[(0, heRow l), (1, fnA f caps), (7, iv ((l.length : Int))), (8, iv ((i : Int)))], []⟩) (fun (i : Nat) => i ≤ l.length ∧ ∀ j, j < i → p (l.getD j default) = false) (fun (i : Nat) => l.length - i) 0 (by show 0 ≤ l.length ∧ ∀ j, j < 0 → p (l.getD j default) = false; exact ⟨Nat.zero_le _, fun j hj => absurd hj (Nat.not_lt_zero _)⟩) (We (Vs rfl) Z) <| ?_
 ·rintro i hI1
  have hJ1 : i ≤ l.length ∧ ∀ j, j < i → p (l.getD j default) = false := hI1
  have hi1 := hJ1.1
  have hall := hJ1.2
  refine Sq <| Rq <| O (Lt (V rfl) (V rfl)) <| Nq <| Sq <| Cd (V rfl) (fun hc1 => ?_) (fun hc1 => ?_)
  ·have hc1s := hc1; try simp only [BL] at hc1s
   refine Sk <| Sq <| Bo <| Sq <| Rq <| O (Mv (V rfl)) <| O (As (V rfl)) <| Nq <| Sq <| Rq <| O (Mv (V rfl)) <| O (Mv (V rfl)) <| O (Mv (V rfl)) <| O (IxN (i := i) (V rfl) (V rfl) ts45 te45 (by clear hall hJ1 hI1; omega)) <| O (LdA (V rfl) Ga54 Sz54 (by decide)) <| CQv (args := [SV.agg 5 (heCell ⟨(l.getD i default).pl, (l.getD i default).down, (l.getD i default).once, (l.getD i default).stops, (l.getD i default).id⟩)]) (caps := caps) (fnval_A (V rfl)) hro hE (by exact ⟨⟨(Vi (g' := heCell ⟨(l.getD i default).pl, (l.getD i default).down, (l.getD i default).once, (l.getD i default).stops, (l.getD i default).id⟩) (V rfl) ⟨⟨⟨⟨⟨Z, Ir⟩, Ir⟩, Ir⟩, Ir⟩, Ir⟩), rfl⟩, Z⟩) (hC (l.getD i default)) <| Nq <| Cd (V rfl) (fun hc2 => ?_) (fun hc2 => ?_)
   ·have hc2s := hc2; try simp only [BL] at hc2s
    exact Sq <| Rq <| O (Mv (V rfl)) <| O (As (V rfl)) <| Nq <| Rx <| R1 rfl (V rfl) rfl (by show iv ((i : Int)) = iv (idxF p l); rw [idxF_hit default (by clear hall hJ1 hI1; omega) hall hc2])
   ·have hc2s := hc2; try simp only [BL] at hc2s
    exact Sk <| Rq <| O (Ad (V rfl) K (by clear hall hJ1 hI1; omega)) <| O (Mv (V rfl)) <| Nq <| Nx (i + 1) (by show (i + 1) ≤ l.length ∧ ∀ j, j < (i + 1) → p (l.getD j default) = false; exact ⟨by clear hall hJ1 hI1; omega, idxF_s hall hc2⟩) (by show l.length - (i + 1) < l.length - i; clear hall hJ1 hI1; omega) (We (Vs rfl) Z)
  ·have hc1s := hc1; try simp only [BL] at hc1s
   exact Ex <| Sq <| Rq <| O (As K) <| Nq <| Rx <| R1 rfl (V rfl) rfl (by show iv ((-1)) = iv (idxF p l); rw [idxF_none default hall (by clear hall hJ1 hI1; omega)])
theorem conf138_ct {f : FuncId} {caps : List SV} (p : He → Bool) (hE : Enters Try.prog f) (hro : allRO caps = true) (hC : ∀ x, Ct Try.prog f ([.agg 5 (heCell x)] ++ caps) (bv (p x))) (l : List He) : Ct Try.prog 138 [heRow l, fnA f caps] (bv (l.any p)) := by
 exact CtO 9 Try.func138 rfl rfl rfl fun E => Rl (V (s := 0) rfl) fun hl0 => Sq <| Rq <| O (As K) <| Nq <| Sq <| Rq <| O (Mv (V rfl)) <| O (Mv (V rfl)) <| CQ en34 (by exact ⟨⟨(V rfl), rfl⟩, ⟨(V rfl), rfl⟩, Z⟩) (idxf34_ct p hE hro hC l) <| O (Ge (V rfl) K) <| O (As (V rfl)) <| Nq <| Rx <| R1 rfl (V rfl) rfl (by show bv (decide (0 ≤ idxF p l)) = bv (l.any p); exact congrArg bv (idxF_any p l))
theorem sameId_ct (x h : He) : Ct Try.prog 139 [SV.agg 5 (heCell x), elB [iv (h.pl), bv (h.down), bv (h.once), bv (h.stops), iv (h.id)] 0] (bv (decide (x.id = h.id))) := by
 exact CtO 9 Try.func139 rfl rfl rfl fun E => Sq <| Rt <| BxA 1 (V rfl) rfl rfl <| U (As K) <| Nt <| Sq <| Rq <| O (FlB _ _ (V rfl) Un54 rfl 0 Sz3) <| O (LdB (V rfl) rfl Ga3 (by decide)) <| O (Fl _ _ (V rfl) Un54 rfl 0 Sz3) <| O (Ld (V rfl) Ga3 (by show 4 < 5; decide)) <| O (Ql (V rfl) (V rfl)) <| O (As (V rfl)) <| Nq <| Rx <| R1 rfl (V rfl) rfl (by show bv (decide (x.id = h.id)) = bv (decide (x.id = h.id)); rfl)
theorem chkHe_ct (l : List He) (p : Int) : Ct Try.prog 93 [heRow l, iv (p)] (iv (chkHe l p)) := by
 refine CtO 32 Try.func93 rfl rfl rfl fun E => Rl (V (s := 0) rfl) fun hl0 => Sq <| Rq <| O (As K) <| Nq <| Sq <| Sq <| Rq <| O (Mv (V rfl)) <| O (Ln (V rfl) ts45) <| O (Gt (V rfl) K) <| Nq <| Cd (V rfl) (fun hc1 => ?_) (fun hc1 => ?_)
 ·have hc1s := hc1; try simp only [BL] at hc1s
  exact Sq <| Rq <| O (As K) <| Nq <| Rx <| R1 rfl (V rfl) rfl (by show iv (1) = iv (chkHe l p); rw [chk_1 (by omega)])
 ·have hc1s := hc1; try simp only [BL] at hc1s
  refine Sk <| Sq <| Sq <| Rq <| O (Mv (V rfl)) <| O (Ln (V rfl) ts45) <| O (Mv K) <| Nq <| Bo <| Lo (fun (i : Nat) => ⟨[(0, heRow l), (1, iv (p)), (10, heRow l), (11, iv ((l.length : Int))), (12, iv ((i : Int)))], []⟩) (fun (i : Nat) => i ≤ l.length ∧ chkHe l p = firstErr (heBad l p) i (l.length - i)) (fun (i : Nat) => l.length - i) 0 (by show 0 ≤ l.length ∧ chkHe l p = firstErr (heBad l p) 0 (l.length - 0); exact ⟨Nat.zero_le _, chk_0 (by omega)⟩) (We (Vs rfl) Z) <| ?_
  ·rintro i hI1
   have hJ1 : i ≤ l.length ∧ chkHe l p = firstErr (heBad l p) i (l.length - i) := hI1
   have hiv := hJ1.1
   have hch := hJ1.2
   refine Sq <| Rq <| O (Lt (V rfl) (V rfl)) <| Nq <| Sq <| Cd (V rfl) (fun hc2 => ?_) (fun hc2 => ?_)
   ·have hc2s := hc2; try simp only [BL] at hc2s
    have hil : i < l.length := by omega
    refine Sk <| Sq <| Bo <| Sq <| Rt <| U (Mv (V rfl)) <| U (IxN (i := i) (V rfl) (V rfl) ts45 te45 (by omega)) <| U (LdA (V rfl) Ga54 Sz54 (by decide)) <| Al 1 zero54 rfl rfl <| U (As (V rfl)) <| StA (V rfl) rfl (V rfl) Sz54 <| Nt <| Sq <| Sq <| Rq <| O (FlB _ _ (V rfl) Un54 rfl 0 Sz3) <| O (LdB (V rfl) rfl Ga3 (by decide)) <| O (Lt (V rfl) K) <| O (Mv (V rfl)) <| Og (Gn rfl rfl) (fun hg => FlB _ _ (V rfl) Un54 rfl 0 Sz3) <| Og (Gn rfl rfl) (fun hg => LdB (Vg (V rfl) hg) rfl Ga3 (by decide)) <| Og (Gn rfl rfl) (fun hg => Mv (V rfl)) <| Og (Gn rfl rfl) (fun hg => Ge (Vg (V rfl) hg) (Vg (V rfl) hg)) <| O (Qr (V rfl) (fun h => Vg (V rfl) (notT h))) <| Nq <| Cd (V rfl) (fun hc3 => ?_) (fun hc3 => ?_)
    ·have hc3s := hc3; try simp only [BL] at hc3s
     have hbd : (l.getD i default).pl < 0 ∨ p ≤ (l.getD i default).pl := by simpa using hc3
     exact Sq <| Rq <| O (As K) <| Nq <| Rx <| R1 rfl (V rfl) rfl (by show iv (4) = iv (chkHe l p); rw [firstErr_hit hil hch (heBad_4 hbd) (by decide)])
    ·have hc3s := hc3; try simp only [BL] at hc3s
     have hpl : ¬ ((l.getD i default).pl < 0 ∨ p ≤ (l.getD i default).pl) := fun q => Bool.false_ne_true (hc3.symm.trans (by simpa using q))
     refine Sk <| Sq <| c_frzB 1 [iv ((l.getD i default).pl), bv ((l.getD i default).down), bv ((l.getD i default).once), bv ((l.getD i default).stops), iv ((l.getD i default).id)] rfl rfl ⟨⟨⟨⟨⟨Z, rfl⟩, rfl⟩, rfl⟩, rfl⟩, rfl⟩ rfl <| Rt <| U (Mv (V rfl)) <| U (Mv (V rfl)) <| U (q_slHN (h := i) ts45 te45 (V rfl) (V rfl) (by omega)) <| U (Mk (caps := [elB [iv ((l.getD i default).pl), bv ((l.getD i default).down), bv ((l.getD i default).once), bv ((l.getD i default).stops), iv ((l.getD i default).id)] 0]) ⟨(V rfl), Z⟩) <| CT en138 (by exact ⟨⟨(V rfl), rfl⟩, ⟨(VA (VF [elB [iv ((l.getD i default).pl), bv ((l.getD i default).down), bv ((l.getD i default).once), bv ((l.getD i default).stops), iv ((l.getD i default).id)] 0] ((V rfl)) (An rfl)) rfl), rfl⟩, Z⟩) (conf138_ct (fun x => decide (x.id = (l.getD i default).id)) en139 rfl (fun x => sameId_ct x (l.getD i default)) (l.take i)) <| Nt <| Cd (V rfl) (fun hc4 => ?_) (fun hc4 => ?_)
     ·have hc4s := hc4; try simp only [BL] at hc4s
      exact Sq <| Rq <| O (As K) <| Nq <| Rx <| R1 rfl (V rfl) rfl (by show iv (3) = iv (chkHe l p); rw [firstErr_hit hil hch (heBad_3 hpl hc4) (by decide)])
     ·have hc4s := hc4; try simp only [BL] at hc4s
      exact Sk <| Rq <| O (Ad (V rfl) K (by omega)) <| O (Mv (V rfl)) <| Nq <| Nx (i + 1) (by show (i + 1) ≤ l.length ∧ chkHe l p = firstErr (heBad l p) (i + 1) (l.length - (i + 1)); exact ⟨by omega, firstErr_next hil hch (heBad_0 hpl hc4)⟩) (by show l.length - (i + 1) < l.length - i; omega) (We (Vs rfl) Z)
   ·have hc2s := hc2; try simp only [BL] at hc2s
    exact Ex <| Sq <| Rq <| O (As K) <| Nq <| Rx <| R1 rfl (V rfl) rfl (by show iv (0) = iv (chkHe l p); rw [firstErr_end (by omega) hch])
theorem down_ct (x : He) : Ct Try.prog 106 [SV.agg 5 (heCell x)] (bv x.down) := by
 exact CtO 5 Try.func106 rfl rfl rfl fun E => Sq <| Rt <| BxA 1 (V rfl) rfl rfl <| U (As K) <| Nt <| Sq <| Rq <| O (FlB _ _ (V rfl) Un54 rfl 0 Sz4) <| O (LdB (V rfl) rfl Ga4 (by decide)) <| O (As (V rfl)) <| Nq <| Rx <| R1 rfl (V rfl) rfl (by show bv (x.down) = bv x.down; rfl)
theorem up_ct (x : He) : Ct Try.prog 107 [SV.agg 5 (heCell x)] (bv (!x.down)) := by
 exact CtO 6 Try.func107 rfl rfl rfl fun E => Sq <| Rt <| BxA 1 (V rfl) rfl rfl <| U (As K) <| Nt <| Sq <| Rq <| O (FlB _ _ (V rfl) Un54 rfl 0 Sz4) <| O (LdB (V rfl) rfl Ga4 (by decide)) <| O (Qo (V rfl)) <| O (As (V rfl)) <| Nq <| Rx <| R1 rfl (V rfl) rfl (by show bv (!x.down) = bv (!x.down); rfl)
theorem told_ct (k : Int) (l : List Nd) (t : Hd) (hb : ∀ n ∈ l, n.kids.length ≤ 17592186043904) : Ct Try.prog 104 [iv (k), elB [ndRow l] 0, elB [iv (t.pl), iv (t.use)] 0] (iv (tgtSt l t.pl k)) := by
 exact CtO 10 Try.func104 rfl rfl rfl fun E => Sq <| Rq <| O (As K) <| Nq <| Sq <| Rq <| O (LdA (V rfl) Ga24 Sz24 (by show 0 + 1 ≤ 1; decide)) <| O (Fl _ _ (V rfl) Un26 rfl 0 Sz3) <| O (Ld (V rfl) Ga3 (by show 0 < 2; decide)) <| O (Mv (V rfl)) <| CQ en78 (by exact ⟨⟨(Vi (g' := stG l) (V rfl) ⟨Z, Ir⟩), rfl⟩, ⟨(V rfl), rfl⟩, ⟨(V rfl), rfl⟩, Z⟩) (target_ct l t.pl k (by first | assumption | exact kb_nil | exact kb_of (by assumption) | exact kb_of fam_c5)) <| O (As (V rfl)) <| Nq <| Rx <| R1 rfl (V rfl) rfl (by show iv (tgtSt l t.pl k) = iv (tgtSt l t.pl k); rfl)
theorem deskAt_ct {f : FuncId} {caps : List SV} (p : He → Bool) (hE : Enters Try.prog f) (hro : allRO caps = true) (hC : ∀ x, Ct Try.prog f ([.agg 5 (heCell x)] ++ caps) (bv (p x))) (hs : List He) (k tg ph : Int) (D : Desk) (hl : hs.length ≤ 24) (hcl : D.calls.length ≤ 100000) : CtM Try.prog 105 [SV.bp 1000 0, heRow hs, iv (k), iv (tg), iv (ph), fnA f caps] [(1000, Own.box 3 (cmpG [SV.own 1001, SV.own 1002, bv (D.stop)]) 118), (1001, ownOf caCell 4 default D.calls 51), (1002, Own.amap (bmap D.heard))] (sv0) [(1000, Own.box 3 (cmpG [SV.own 0, SV.own 1, bv ((atD p k tg ph hs D).stop)]) 118), (0, ownOf caCell 4 default ((atD p k tg ph hs D).calls) 51), (1, Own.amap (bmap ((atD p k tg ph hs D).heard)))] := by
 refine CmO 67 Try.func105 rfl rfl rfl fun E => Rl (V (s := 1) rfl) fun hl1 => Sq <| Sq <| Rq <| O (Mv (V rfl)) <| O (q_nilB (V rfl)) <| O (FlB _ _ (V rfl) Un118 rfl 0 Sz4) <| O (LdB (V rfl) rfl Ga4 (by decide)) <| Nq <| Cd (V rfl) (fun hc1 => ?_) (fun hc1 => ?_)
 ·have hc1s := hc1; try simp only [BL] at hc1s
  exact c_mv 1001 0 rfl rfl <| c_mv 1002 1 rfl rfl <| c_ownE 0 ((atD p k tg ph hs D).calls) rfl (by first | exact congrArg (fun D : Desk => D.calls) (atD_1 hc1) | exact (congrArg (fun D : Desk => D.calls) (atD_1 hc1)).symm) <| c_mapE 1 (bmap ((atD p k tg ph hs D).heard)) rfl (by first | exact congrArg (fun D : Desk => bmap D.heard) (atD_1 hc1) | exact (congrArg (fun D : Desk => bmap D.heard) (atD_1 hc1)).symm) <| Rx <| retM0 rfl (by exact ⟨⟨_, rfl, ⟨rfl, rfl, ⟨⟨⟨Z, rfl⟩, rfl⟩, ((congrArg (fun D : Desk => bv D.stop) (atD_1 hc1)).symm)⟩⟩⟩, ⟨_, rfl, rfl⟩, ⟨_, rfl, rfl⟩, Z⟩) (by show sv0 = sv0; rfl)
 ·have hc1s := hc1; try simp only [BL] at hc1s
  refine Sk <| Sq <| Rq <| O (Mv (V rfl)) <| O (Ln (V rfl) ts45) <| O (Mv K) <| Nq <| Bo <| c_mv 1001 60 rfl rfl <| c_mv 1002 61 rfl rfl <| c_ownE 60 (((hs.take 0).foldl (deskS p k tg ph) D).calls) rfl (by rfl) <| c_mapE 61 (bmap (((hs.take 0).foldl (deskS p k tg ph) D).heard)) rfl (by rfl) <| Lo (fun (i : Nat) => ⟨[(0, SV.bp 1000 0), (2, iv (k)), (3, iv (tg)), (4, iv (ph)), (5, fnA f caps), (18, heRow hs), (19, iv ((hs.length : Int))), (20, iv ((i : Int)))], [(60, ownOf caCell 4 default (((hs.take i).foldl (deskS p k tg ph) D).calls) 51), (61, Own.amap (bmap (((hs.take i).foldl (deskS p k tg ph) D).heard))), (1000, Own.box 3 (cmpG [SV.own 60, SV.own 61, bv (((hs.take i).foldl (deskS p k tg ph) D).stop)]) 118)]⟩) (fun (i : Nat) => i ≤ hs.length) (fun (i : Nat) => hs.length - i) 0 (by show 0 ≤ hs.length; exact Nat.zero_le _) (We (ow := [(60, ownOf caCell 4 default (((hs.take 0).foldl (deskS p k tg ph) D).calls) 51), (61, Own.amap (bmap (((hs.take 0).foldl (deskS p k tg ph) D).heard))), (1000, Own.box 3 (cmpG [SV.own 60, SV.own 61, bv (((hs.take 0).foldl (deskS p k tg ph) D).stop)]) 118)]) (Vs rfl) (by exact ⟨⟨_, rfl, rfl⟩, ⟨_, rfl, rfl⟩, ⟨_, rfl, rfl, rfl, (An rfl)⟩, Z⟩)) <| ?_
  ·rintro i hI1
   have hJ1 : i ≤ hs.length := hI1
   have hdl := desk_len (p := p) (k := k) (tg := tg) (ph := ph) (hs := hs) (D := D) i
   refine Sq <| Rq <| O (Lt (V rfl) (V rfl)) <| Nq <| Sq <| Cd (V rfl) (fun hc2 => ?_) (fun hc2 => ?_)
   ·have hc2s := hc2; try simp only [BL] at hc2s
    have hil : i < hs.length := by omega
    refine Sk <| Sq <| Bo <| Sq <| Rt <| U (IxN (i := i) (V rfl) (V rfl) ts45 te45 (by omega)) <| U (LdA (V rfl) Ga54 Sz54 (by decide)) <| Al 1 zero54 rfl rfl <| StA (V rfl) rfl (V rfl) Sz54 <| Nt <| Sq <| Sq <| Rq <| O (FlB _ _ (V rfl) Un54 rfl 0 Sz3) <| O (LdB (V rfl) rfl Ga3 (by decide)) <| O (Mv (V rfl)) <| O (Qn (V rfl) (V rfl)) <| O (Mv (V rfl)) <| Og (Gn rfl rfl) (fun hg => Mv (V rfl)) <| Og (Gn rfl rfl) (fun hg => LBA (V rfl) rfl Ga54 Sz54 (by decide)) <| tq_callVGg (args := [SV.agg 5 (heCell ⟨(hs.getD i default).pl, (hs.getD i default).down, (hs.getD i default).once, (hs.getD i default).stops, (hs.getD i default).id⟩)]) (caps := caps) (Gn rfl rfl) (fun hg => (fnval_A (Vg (V rfl) hg))) hro hE (fun hg => (by exact ⟨⟨(Vi (g' := heCell ⟨(hs.getD i default).pl, (hs.getD i default).down, (hs.getD i default).once, (hs.getD i default).stops, (hs.getD i default).id⟩) (Vg (V rfl) hg) ⟨⟨⟨⟨⟨Z, Ir⟩, Ir⟩, Ir⟩, Ir⟩, Ir⟩), rfl⟩, Z⟩)) (fun hg => hC (hs.getD i default)) <| Og (Gn rfl rfl) (fun hg => Qo (Vg (V rfl) hg)) <| O (Qr (V rfl) (fun h => Vg (V rfl) (notT h))) <| Nq <| Cd (V rfl) (fun hc3 => ?_) (fun hc3 => ?_)
    ·have hc3s := hc3; try simp only [BL] at hc3s
     have hno : ¬ ((hs.getD i default).pl = k ∧ p (hs.getD i default) = true) := fun q => by rw [decide_eq_true q.1, q.2] at hc3; cases hc3
     refine Ex <| Rq <| O (Ad (V rfl) K (by omega)) <| O (Mv (V rfl)) <| Nq <| k_ownE 60 (((hs.take ((i + 1))).foldl (deskS p k tg ph) D).calls) rfl (by first | exact congrArg (fun D : Desk => D.calls) (desk_no (p := p) (tg := tg) (ph := ph) (D := D) hil hno) | exact (congrArg (fun D : Desk => D.calls) (desk_no (p := p) (tg := tg) (ph := ph) (D := D) hil hno)).symm) <| k_mapE 61 (bmap (((hs.take ((i + 1))).foldl (deskS p k tg ph) D).heard)) rfl (by first | exact congrArg (fun D : Desk => bmap D.heard) (desk_no (p := p) (tg := tg) (ph := ph) (D := D) hil hno) | exact (congrArg (fun D : Desk => bmap D.heard) (desk_no (p := p) (tg := tg) (ph := ph) (D := D) hil hno)).symm) <| Nx (i + 1) (by show (i + 1) ≤ hs.length; first | omega | (simp; done) | (refine ⟨?_, ?_⟩ <;> first | omega | (simp; done))) (by show hs.length - (i + 1) < hs.length - i; omega) (We (ow := [(60, ownOf caCell 4 default (((hs.take ((i + 1))).foldl (deskS p k tg ph) D).calls) 51), (61, Own.amap (bmap (((hs.take ((i + 1))).foldl (deskS p k tg ph) D).heard))), (1000, Own.box 3 (cmpG [SV.own 60, SV.own 61, bv (((hs.take ((i + 1))).foldl (deskS p k tg ph) D).stop)]) 118)]) (Vs rfl) (by exact ⟨⟨_, rfl, rfl⟩, ⟨_, rfl, rfl⟩, ⟨_, rfl, ⟨rfl, rfl, ⟨⟨⟨Z, rfl⟩, rfl⟩, (congrArg (fun D : Desk => bv D.stop) (desk_no (p := p) (tg := tg) (ph := ph) (D := D) hil hno)).symm⟩⟩⟩, Z⟩))
    ·have hc3s := hc3; try simp only [BL] at hc3s
     have hyes : (hs.getD i default).pl = k ∧ p (hs.getD i default) = true := by simpa using hc3
     refine Sk <| Sq <| c_rd (fun e => ⟨[(34, cj (e 0) (SV.bp 1000 0)), (35, cj (e 1) (SV.bp 1000 0)), (36, cj (e 2) (SV.bp 1000 0)), (37, cj (e 3) (SV.bp 1000 0)), (38, cj (e 4) (cjn (e 12) (SV.own 60))), (39, cj (e 5) (SV.bp 1 4)), (40, cj (e 6) (iv ((hs.getD i default).id))), (41, cj (e 7) (iv (k))), (42, cj (e 8) (iv (tg))), (43, cj (e 9) (iv (ph))), (44, cj (e 10) (SV.agg 4 (caCell ⟨(hs.getD i default).id, k, tg, ph⟩))), (45, cj (e 11) (caRow ([⟨(hs.getD i default).id, k, tg, ph⟩]))), (46, cj (e 12) (SV.own 2)), (47, cj (e 13) (SV.bp 1000 0)), (48, cj (e 14) (SV.bp 1000 0)), (0, SV.bp 1000 0), (2, iv (k)), (3, iv (tg)), (4, iv (ph)), (5, fnA f caps), (13, SV.bp 1 0), (18, heRow hs), (19, iv ((hs.length : Int))), (20, iv ((i : Int)))], (cb (e 12) (cb (e 15) [(1, Own.box 5 (fun zi => (rowG heCell default hs) i (0 + zi)) 54), (61, Own.amap (bmap (((hs.take i).foldl (deskS p k tg ph) D).heard))), (1000, Own.box 3 (upd (fun zt => kill 60 ((cmpG [SV.own 60, SV.own 61, bv (((hs.take i).foldl (deskS p k tg ph) D).stop)]) zt)) 0 (SV.own 2)) 118), (2, ownOf caCell 4 default ((((hs.take i).foldl (deskS p k tg ph) D).calls) ++ ([⟨(hs.getD i default).id, k, tg, ph⟩])) 51)] [(1, Own.box 5 (fun zi => (rowG heCell default hs) i (0 + zi)) 54), (61, Own.amap (bmap (((hs.take i).foldl (deskS p k tg ph) D).heard))), (1000, Own.box 3 (fun zt => kill 60 ((cmpG [SV.own 60, SV.own 61, bv (((hs.take i).foldl (deskS p k tg ph) D).stop)]) zt)) 118), (2, ownOf caCell 4 default ((((hs.take i).foldl (deskS p k tg ph) D).calls) ++ ([⟨(hs.getD i default).id, k, tg, ph⟩])) 51)]) (cb (e 15) [] [(1, Own.box 5 (fun zi => (rowG heCell default hs) i (0 + zi)) 54), (60, ownOf caCell 4 default (((hs.take i).foldl (deskS p k tg ph) D).calls) 51), (61, Own.amap (bmap (((hs.take i).foldl (deskS p k tg ph) D).heard))), (1000, Own.box 3 (cmpG [SV.own 60, SV.own 61, bv (((hs.take i).foldl (deskS p k tg ph) D).stop)]) 118)]))⟩) ⟨[(34, SV.bp 1000 0), (35, SV.bp 1000 0), (36, SV.bp 1000 0), (37, SV.bp 1000 0), (39, SV.bp 1 4), (40, iv ((hs.getD i default).id)), (41, iv (k)), (42, iv (tg)), (43, iv (ph)), (44, SV.agg 4 (caCell ⟨(hs.getD i default).id, k, tg, ph⟩)), (45, caRow ([⟨(hs.getD i default).id, k, tg, ph⟩])), (46, SV.own 2), (47, SV.bp 1000 0), (48, SV.bp 1000 0), (0, SV.bp 1000 0), (2, iv (k)), (3, iv (tg)), (4, iv (ph)), (5, fnA f caps), (13, SV.bp 1 0), (18, heRow hs), (19, iv ((hs.length : Int))), (20, iv ((i : Int)))], [(1, Own.box 5 (fun zi => (rowG heCell default hs) i (0 + zi)) 54), (61, Own.amap (bmap (((hs.take i).foldl (deskS p k tg ph) D).heard))), (1000, Own.box 3 (upd (fun zt => kill 60 ((cmpG [SV.own 60, SV.own 61, bv (((hs.take i).foldl (deskS p k tg ph) D).stop)]) zt)) 0 (SV.own 2)) 118), (2, ownOf caCell 4 default ((((hs.take i).foldl (deskS p k tg ph) D).calls) ++ ([⟨(hs.getD i default).id, k, tg, ph⟩])) 51)]⟩ (by kernel_rfl) (by kernel_rfl) ?_ ⟨?_, ?_, ?_, ?_, ?_, ?_, ?_, ?_, ?_, ?_, ?_, ?_, ?_, ?_, ?_, ?_, Z⟩ ?_ ?_
     ·show Weak _ _ ⟨[(34, SV.junk), (35, SV.junk), (36, SV.junk), (37, SV.junk), (38, SV.junk), (39, SV.junk), (40, SV.junk), (41, SV.junk), (42, SV.junk), (43, SV.junk), (44, SV.junk), (45, SV.junk), (46, SV.junk), (47, SV.junk), (48, SV.junk), (0, SV.bp 1000 0), (2, iv (k)), (3, iv (tg)), (4, iv (ph)), (5, fnA f caps), (13, SV.bp 1 0), (18, heRow hs), (19, iv ((hs.length : Int))), (20, iv ((i : Int)))], [(1, Own.box 5 (fun zi => (rowG heCell default hs) i (0 + zi)) 54), (60, ownOf caCell 4 default (((hs.take i).foldl (deskS p k tg ph) D).calls) 51), (61, Own.amap (bmap (((hs.take i).foldl (deskS p k tg ph) D).heard))), (1000, Own.box 3 (cmpG [SV.own 60, SV.own 61, bv (((hs.take i).foldl (deskS p k tg ph) D).stop)]) 118)]⟩
      refine We ?_ ?_
      ·exact ⟨Vj, Vj, Vj, Vj, Vj, Vj, Vj, Vj, Vj, Vj, Vj, Vj, Vj, Vj, Vj, V rfl, V rfl, V rfl, V rfl, V rfl, V rfl, V rfl, V rfl, V rfl, Z⟩
      ·exact ⟨⟨_, rfl, ⟨rfl, rfl, (An rfl)⟩⟩, ⟨_, rfl, rfl⟩, ⟨_, rfl, rfl⟩, ⟨_, rfl, ⟨rfl, rfl, (An rfl)⟩⟩, Z⟩
     ·intro e hdn he hdp
      obtain ⟨-, -, h15, -⟩ := dns1 hdn he [13, 14, 15] (by kernel_rfl)
      simp only [setE, he, h15, cj_t, cj_f, cjn_t, cjn_f, cb_t, cb_f]
      exact U (Mv (V rfl)) <| Nt <| weakS ⟨V rfl, V rfl, V rfl, V rfl, V rfl, V rfl, V rfl, V rfl, V rfl, V rfl, V rfl, V rfl, V rfl, V rfl, V rfl, V rfl, V rfl, V rfl, V rfl, V rfl, V rfl, V rfl, V rfl, V rfl, Z⟩
     ·intro e hdn he hdp
      obtain ⟨-, -, -, h12, -, -, h15, -⟩ := dns1 hdn he [2, 3, 4, 12, 13, 14, 15] (by kernel_rfl)
      simp only [setE, he, h12, h15, cj_t, cj_f, cjn_t, cjn_f, cb_t, cb_f]
      refine U (Mv (V rfl)) <| Nt <| We ?_ ?_
      ·exact ⟨V rfl, V rfl, V rfl, V rfl, V rfl, V rfl, V rfl, V rfl, V rfl, V rfl, V rfl, V rfl, Vj, V rfl, V rfl, V rfl, V rfl, V rfl, V rfl, V rfl, V rfl, V rfl, V rfl, V rfl, Z⟩
      ·exact ⟨⟨_, rfl, ⟨rfl, rfl, (An rfl)⟩⟩, ⟨_, rfl, rfl⟩, ⟨_, rfl, rfl⟩, ⟨_, rfl, ⟨rfl, rfl, (An rfl)⟩⟩, Z⟩
     ·intro e hdn he hdp
      obtain ⟨h1, -⟩ := ups hdn [1] hdp (by kernel_rfl)
      obtain ⟨-, -, h12, -, -, h15, -⟩ := dns1 hdn he [3, 4, 12, 13, 14, 15] (by kernel_rfl)
      simp only [setE, h1, he, h12, h15, cj_t, cj_f, cjn_t, cjn_f, cb_t, cb_f]
      refine U (q_nilB (V rfl)) <| Nt <| We ?_ ?_
      ·exact ⟨V rfl, V rfl, V rfl, V rfl, V rfl, V rfl, V rfl, V rfl, V rfl, V rfl, V rfl, V rfl, Vj, V rfl, V rfl, V rfl, V rfl, V rfl, V rfl, V rfl, V rfl, V rfl, V rfl, V rfl, Z⟩
      ·exact ⟨⟨_, rfl, ⟨rfl, rfl, (An rfl)⟩⟩, ⟨_, rfl, rfl⟩, ⟨_, rfl, rfl⟩, ⟨_, rfl, ⟨rfl, rfl, (An rfl)⟩⟩, Z⟩
     ·intro e hdn he hdp
      obtain ⟨h2, h1, -⟩ := ups hdn [2, 1] hdp (by kernel_rfl)
      obtain ⟨-, h12, -, -, h15, -⟩ := dns1 hdn he [4, 12, 13, 14, 15] (by kernel_rfl)
      simp only [setE, h1, h2, he, h12, h15, cj_t, cj_f, cjn_t, cjn_f, cb_t, cb_f]
      refine U (FlB _ _ (V rfl) Un118 rfl 0 Sz46) <| Nt <| We ?_ ?_
      ·exact ⟨V rfl, V rfl, V rfl, V rfl, V rfl, V rfl, V rfl, V rfl, V rfl, V rfl, V rfl, V rfl, Vj, V rfl, V rfl, V rfl, V rfl, V rfl, V rfl, V rfl, V rfl, V rfl, V rfl, V rfl, Z⟩
      ·exact ⟨⟨_, rfl, ⟨rfl, rfl, (An rfl)⟩⟩, ⟨_, rfl, rfl⟩, ⟨_, rfl, rfl⟩, ⟨_, rfl, ⟨rfl, rfl, (An rfl)⟩⟩, Z⟩
     ·intro e hdn he hdp
      obtain ⟨h3, h2, h1, -⟩ := ups hdn [3, 2, 1] hdp (by kernel_rfl)
      obtain ⟨h12, -, -, h15, -⟩ := dns1 hdn he [12, 13, 14, 15] (by kernel_rfl)
      simp only [setE, h1, h2, h3, he, h12, h15, cj_t, cj_f, cjn_t, cjn_f, cb_t, cb_f]
      refine U (LdB (V rfl) rfl Ga46 (by decide)) <| Nt <| We ?_ ?_
      ·exact ⟨V rfl, V rfl, V rfl, V rfl, V rfl, V rfl, V rfl, V rfl, V rfl, V rfl, V rfl, V rfl, Vj, V rfl, V rfl, V rfl, V rfl, V rfl, V rfl, V rfl, V rfl, V rfl, V rfl, V rfl, Z⟩
      ·exact ⟨⟨_, rfl, ⟨rfl, rfl, (An rfl)⟩⟩, ⟨_, rfl, rfl⟩, ⟨_, rfl, rfl⟩, ⟨_, rfl, ⟨rfl, rfl, (An rfl)⟩⟩, Z⟩
     ·intro e hdn he hdp
      obtain ⟨-, -, -, h12, -, -, h15, -⟩ := dns1 hdn he [6, 10, 11, 12, 13, 14, 15] (by kernel_rfl)
      simp only [setE, he, h12, h15, cj_t, cj_f, cjn_t, cjn_f, cb_t, cb_f]
      refine U (FlB _ _ (V rfl) Un54 rfl 0 Sz3) <| Nt <| We ?_ ?_
      ·exact ⟨V rfl, V rfl, V rfl, V rfl, V rfl, V rfl, V rfl, V rfl, V rfl, V rfl, V rfl, V rfl, Vj, V rfl, V rfl, V rfl, V rfl, V rfl, V rfl, V rfl, V rfl, V rfl, V rfl, V rfl, Z⟩
      ·exact ⟨⟨_, rfl, ⟨rfl, rfl, (An rfl)⟩⟩, ⟨_, rfl, rfl⟩, ⟨_, rfl, rfl⟩, ⟨_, rfl, ⟨rfl, rfl, (An rfl)⟩⟩, Z⟩
     ·intro e hdn he hdp
      obtain ⟨h5, -⟩ := ups hdn [5] hdp (by kernel_rfl)
      obtain ⟨-, -, h12, -, -, h15, -⟩ := dns1 hdn he [10, 11, 12, 13, 14, 15] (by kernel_rfl)
      simp only [setE, h5, he, h12, h15, cj_t, cj_f, cjn_t, cjn_f, cb_t, cb_f]
      refine U (LdB (V rfl) rfl Ga3 (by decide)) <| Nt <| We ?_ ?_
      ·exact ⟨V rfl, V rfl, V rfl, V rfl, V rfl, V rfl, V rfl, V rfl, V rfl, V rfl, V rfl, V rfl, Vj, V rfl, V rfl, V rfl, V rfl, V rfl, V rfl, V rfl, V rfl, V rfl, V rfl, V rfl, Z⟩
      ·exact ⟨⟨_, rfl, ⟨rfl, rfl, (An rfl)⟩⟩, ⟨_, rfl, rfl⟩, ⟨_, rfl, rfl⟩, ⟨_, rfl, ⟨rfl, rfl, (An rfl)⟩⟩, Z⟩
     ·intro e hdn he hdp
      obtain ⟨-, -, h12, -, -, h15, -⟩ := dns1 hdn he [10, 11, 12, 13, 14, 15] (by kernel_rfl)
      simp only [setE, he, h12, h15, cj_t, cj_f, cjn_t, cjn_f, cb_t, cb_f]
      refine U (Mv (V rfl)) <| Nt <| We ?_ ?_
      ·exact ⟨V rfl, V rfl, V rfl, V rfl, V rfl, V rfl, V rfl, V rfl, V rfl, V rfl, V rfl, V rfl, Vj, V rfl, V rfl, V rfl, V rfl, V rfl, V rfl, V rfl, V rfl, V rfl, V rfl, V rfl, Z⟩
      ·exact ⟨⟨_, rfl, ⟨rfl, rfl, (An rfl)⟩⟩, ⟨_, rfl, rfl⟩, ⟨_, rfl, rfl⟩, ⟨_, rfl, ⟨rfl, rfl, (An rfl)⟩⟩, Z⟩
     ·intro e hdn he hdp
      obtain ⟨-, -, h12, -, -, h15, -⟩ := dns1 hdn he [10, 11, 12, 13, 14, 15] (by kernel_rfl)
      simp only [setE, he, h12, h15, cj_t, cj_f, cjn_t, cjn_f, cb_t, cb_f]
      refine U (Mv (V rfl)) <| Nt <| We ?_ ?_
      ·exact ⟨V rfl, V rfl, V rfl, V rfl, V rfl, V rfl, V rfl, V rfl, V rfl, V rfl, V rfl, V rfl, Vj, V rfl, V rfl, V rfl, V rfl, V rfl, V rfl, V rfl, V rfl, V rfl, V rfl, V rfl, Z⟩
      ·exact ⟨⟨_, rfl, ⟨rfl, rfl, (An rfl)⟩⟩, ⟨_, rfl, rfl⟩, ⟨_, rfl, rfl⟩, ⟨_, rfl, ⟨rfl, rfl, (An rfl)⟩⟩, Z⟩
     ·intro e hdn he hdp
      obtain ⟨-, -, h12, -, -, h15, -⟩ := dns1 hdn he [10, 11, 12, 13, 14, 15] (by kernel_rfl)
      simp only [setE, he, h12, h15, cj_t, cj_f, cjn_t, cjn_f, cb_t, cb_f]
      refine U (Mv (V rfl)) <| Nt <| We ?_ ?_
      ·exact ⟨V rfl, V rfl, V rfl, V rfl, V rfl, V rfl, V rfl, V rfl, V rfl, V rfl, V rfl, V rfl, Vj, V rfl, V rfl, V rfl, V rfl, V rfl, V rfl, V rfl, V rfl, V rfl, V rfl, V rfl, Z⟩
      ·exact ⟨⟨_, rfl, ⟨rfl, rfl, (An rfl)⟩⟩, ⟨_, rfl, rfl⟩, ⟨_, rfl, rfl⟩, ⟨_, rfl, ⟨rfl, rfl, (An rfl)⟩⟩, Z⟩
     ·intro e hdn he hdp
      obtain ⟨h9, h8, h7, h6, h5, -⟩ := ups hdn [9, 8, 7, 6, 5] hdp (by kernel_rfl)
      obtain ⟨-, h12, -, -, h15, -⟩ := dns1 hdn he [11, 12, 13, 14, 15] (by kernel_rfl)
      simp only [setE, h5, h6, h7, h8, h9, he, h12, h15, cj_t, cj_f, cjn_t, cjn_f, cb_t, cb_f]
      refine U (Bu [(0, iv ((hs.getD i default).id)), (1, iv (k)), (2, iv (tg)), (3, iv (ph))] id (caCell ⟨(hs.getD i default).id, k, tg, ph⟩) zero51 build51 (by exact ⟨⟨rfl, (V rfl), rfl⟩, ⟨rfl, (V rfl), rfl⟩, ⟨rfl, (V rfl), rfl⟩, ⟨rfl, (V rfl), rfl⟩, Z⟩) (by decide) ⟨⟨⟨⟨Z, rfl⟩, rfl⟩, rfl⟩, rfl⟩) <| Nt <| We ?_ ?_
      ·exact ⟨V rfl, V rfl, V rfl, V rfl, V rfl, V rfl, V rfl, V rfl, V rfl, V rfl, V rfl, V rfl, Vj, V rfl, V rfl, V rfl, V rfl, V rfl, V rfl, V rfl, V rfl, V rfl, V rfl, V rfl, Z⟩
      ·exact ⟨⟨_, rfl, ⟨rfl, rfl, (An rfl)⟩⟩, ⟨_, rfl, rfl⟩, ⟨_, rfl, rfl⟩, ⟨_, rfl, ⟨rfl, rfl, (An rfl)⟩⟩, Z⟩
     ·intro e hdn he hdp
      obtain ⟨h10, h9, h8, h7, h6, h5, -⟩ := ups hdn [10, 9, 8, 7, 6, 5] hdp (by kernel_rfl)
      obtain ⟨h12, -, -, h15, -⟩ := dns1 hdn he [12, 13, 14, 15] (by kernel_rfl)
      simp only [setE, h5, h6, h7, h8, h9, h10, he, h12, h15, cj_t, cj_f, cjn_t, cjn_f, cb_t, cb_f]
      refine Uw (w_bs (n := 1) (zget := cmpG [iv (0), iv (0), iv (0), iv (0)]) [(caCell ⟨(hs.getD i default).id, k, tg, ph⟩)] (rowG caCell default [⟨(hs.getD i default).id, k, tg, ph⟩]) Un46 Sz51 zero51 (by decide) rfl (by decide) ⟨⟨rfl, .inl (V rfl), rfl⟩, Z⟩ ⟨Z, ⟨⟨⟨⟨Z, rfl⟩, rfl⟩, rfl⟩, rfl⟩⟩) <| Nt <| We ?_ ?_
      ·exact ⟨V rfl, V rfl, V rfl, V rfl, V rfl, V rfl, V rfl, V rfl, V rfl, V rfl, V rfl, V rfl, Vj, V rfl, V rfl, V rfl, V rfl, V rfl, V rfl, V rfl, V rfl, V rfl, V rfl, V rfl, Z⟩
      ·exact ⟨⟨_, rfl, ⟨rfl, rfl, (An rfl)⟩⟩, ⟨_, rfl, rfl⟩, ⟨_, rfl, rfl⟩, ⟨_, rfl, ⟨rfl, rfl, (An rfl)⟩⟩, Z⟩
     ·intro e hdn he hdp
      obtain ⟨h11, h10, h9, h8, h7, h6, h5, h4, h3, h2, h1, -⟩ := ups hdn [11, 10, 9, 8, 7, 6, 5, 4, 3, 2, 1] hdp (by kernel_rfl)
      obtain ⟨h13, h14, h15, -⟩ := dns1 hdn he [13, 14, 15] (by kernel_rfl)
      simp only [setE, h1, h2, h3, h4, h5, h6, h7, h8, h9, h10, h11, he, h13, h14, h15, cj_t, cj_f, cjn_t, cjn_f, cb_t, cb_f]
      refine Ap 2 (rowG caCell default ((((hs.take i).foldl (deskS p k tg ph) D).calls) ++ ([⟨(hs.getD i default).id, k, tg, ph⟩]))) eo46 (V rfl) rfl (V rfl) (fresh_mk ⟨(noId_cj rfl), rfl, rfl, rfl, rfl, rfl, rfl, rfl, rfl, rfl, rfl, rfl, rfl, rfl, rfl, rfl, rfl, rfl, rfl, rfl, rfl, rfl, rfl, rfl, Z⟩ rfl rfl) (len_app (((hs.take i).foldl (deskS p k tg ph) D).calls) ([⟨(hs.getD i default).id, k, tg, ph⟩])) (by first | (simp only [maxLen, List.length_append, List.length_set, List.length_nil, List.length_cons]; omega) | (simp only [maxLen]; omega)) (by first | (simp only [List.length_append, List.length_set, List.length_nil, List.length_cons]; omega) | (omega)) (app_typed (l := (((hs.take i).foldl (deskS p k tg ph) D).calls)) (m := ([⟨(hs.getD i default).id, k, tg, ph⟩]))) <| Nt <| We ?_ ?_
      ·exact ⟨val_kc rfl (V rfl), V rfl, V rfl, V rfl, Vj, V rfl, V rfl, V rfl, V rfl, V rfl, V rfl, V rfl, V rfl, Vj, Vj, V rfl, V rfl, V rfl, V rfl, V rfl, V rfl, V rfl, V rfl, V rfl, Z⟩
      ·exact ⟨⟨_, rfl, ⟨rfl, rfl, (An rfl)⟩⟩, ⟨_, rfl, rfl⟩, ⟨_, rfl, ⟨rfl, rfl, (An rfl)⟩⟩, ⟨_, rfl, rfl⟩, Z⟩
     ·intro e hdn he hdp
      obtain ⟨h12, h11, h10, h9, h8, h7, h6, h5, h4, h3, h2, h1, h0, -⟩ := ups hdn [12, 11, 10, 9, 8, 7, 6, 5, 4, 3, 2, 1, 0] hdp (by kernel_rfl)
      obtain ⟨-, h15, -⟩ := dns1 hdn he [14, 15] (by kernel_rfl)
      simp only [setE, h0, h1, h2, h3, h4, h5, h6, h7, h8, h9, h10, h11, h12, he, h15, cj_t, cj_f, cjn_t, cjn_f, cb_t, cb_f]
      refine U (q_nilB (V rfl)) <| Nt <| We ?_ ?_
      ·exact ⟨V rfl, V rfl, V rfl, V rfl, Vj, V rfl, V rfl, V rfl, V rfl, V rfl, V rfl, V rfl, V rfl, V rfl, V rfl, V rfl, V rfl, V rfl, V rfl, V rfl, V rfl, V rfl, V rfl, V rfl, Z⟩
      ·exact ⟨⟨_, rfl, ⟨rfl, rfl, (An rfl)⟩⟩, ⟨_, rfl, rfl⟩, ⟨_, rfl, ⟨rfl, rfl, (An rfl)⟩⟩, ⟨_, rfl, rfl⟩, Z⟩
     ·intro e hdn he hdp
      obtain ⟨h13, h12, h11, h10, h9, h8, h7, h6, h5, h4, h3, h2, h1, h0, -⟩ := ups hdn [13, 12, 11, 10, 9, 8, 7, 6, 5, 4, 3, 2, 1, 0] hdp (by kernel_rfl)
      obtain ⟨h15, -⟩ := dns1 hdn he [15] (by kernel_rfl)
      simp only [setE, h0, h1, h2, h3, h4, h5, h6, h7, h8, h9, h10, h11, h12, h13, he, h15, cj_t, cj_f, cjn_t, cjn_f, cb_t, cb_f]
      refine U (FlB _ _ (V rfl) Un118 rfl 0 Sz46) <| Nt <| We ?_ ?_
      ·exact ⟨V rfl, V rfl, V rfl, V rfl, Vj, V rfl, V rfl, V rfl, V rfl, V rfl, V rfl, V rfl, V rfl, V rfl, V rfl, V rfl, V rfl, V rfl, V rfl, V rfl, V rfl, V rfl, V rfl, V rfl, Z⟩
      ·exact ⟨⟨_, rfl, ⟨rfl, rfl, (An rfl)⟩⟩, ⟨_, rfl, rfl⟩, ⟨_, rfl, ⟨rfl, rfl, (An rfl)⟩⟩, ⟨_, rfl, rfl⟩, Z⟩
     ·intro e hdn he hdp
      obtain ⟨h14, h13, h12, h11, h10, h9, h8, h7, h6, h5, h4, h3, h2, h1, h0, -⟩ := ups hdn [14, 13, 12, 11, 10, 9, 8, 7, 6, 5, 4, 3, 2, 1, 0] hdp (by kernel_rfl)
      simp only [setE, h0, h1, h2, h3, h4, h5, h6, h7, h8, h9, h10, h11, h12, h13, h14, he, cj_t, cj_f, cjn_t, cjn_f, cb_t, cb_f]
      refine t_st1V (V rfl) rfl (V rfl) (one_own rfl) Sz46 (by decide) <| Nt <| We ?_ ?_
      ·exact ⟨V rfl, V rfl, V rfl, V rfl, Vj, V rfl, V rfl, V rfl, V rfl, V rfl, V rfl, V rfl, V rfl, V rfl, V rfl, V rfl, V rfl, V rfl, V rfl, V rfl, V rfl, V rfl, V rfl, V rfl, Z⟩
      ·exact ⟨⟨_, rfl, ⟨rfl, rfl, (An rfl)⟩⟩, ⟨_, rfl, rfl⟩, ⟨_, rfl, ⟨rfl, rfl, (An rfl)⟩⟩, ⟨_, rfl, rfl⟩, Z⟩
     ·intro e he
      have h0 := he 0 (by decide)
      have h1 := he 1 (by decide)
      have h2 := he 2 (by decide)
      have h3 := he 3 (by decide)
      have h4 := he 4 (by decide)
      have h5 := he 5 (by decide)
      have h6 := he 6 (by decide)
      have h7 := he 7 (by decide)
      have h8 := he 8 (by decide)
      have h9 := he 9 (by decide)
      have h10 := he 10 (by decide)
      have h11 := he 11 (by decide)
      have h12 := he 12 (by decide)
      have h13 := he 13 (by decide)
      have h14 := he 14 (by decide)
      have h15 := he 15 (by decide)
      show Weak _ ⟨[(34, cj (e 0) (SV.bp 1000 0)), (35, cj (e 1) (SV.bp 1000 0)), (36, cj (e 2) (SV.bp 1000 0)), (37, cj (e 3) (SV.bp 1000 0)), (38, cj (e 4) (cjn (e 12) (SV.own 60))), (39, cj (e 5) (SV.bp 1 4)), (40, cj (e 6) (iv ((hs.getD i default).id))), (41, cj (e 7) (iv (k))), (42, cj (e 8) (iv (tg))), (43, cj (e 9) (iv (ph))), (44, cj (e 10) (SV.agg 4 (caCell ⟨(hs.getD i default).id, k, tg, ph⟩))), (45, cj (e 11) (caRow ([⟨(hs.getD i default).id, k, tg, ph⟩]))), (46, cj (e 12) (SV.own 2)), (47, cj (e 13) (SV.bp 1000 0)), (48, cj (e 14) (SV.bp 1000 0)), (0, SV.bp 1000 0), (2, iv (k)), (3, iv (tg)), (4, iv (ph)), (5, fnA f caps), (13, SV.bp 1 0), (18, heRow hs), (19, iv ((hs.length : Int))), (20, iv ((i : Int)))], (cb (e 12) (cb (e 15) [(1, Own.box 5 (fun zi => (rowG heCell default hs) i (0 + zi)) 54), (61, Own.amap (bmap (((hs.take i).foldl (deskS p k tg ph) D).heard))), (1000, Own.box 3 (upd (fun zt => kill 60 ((cmpG [SV.own 60, SV.own 61, bv (((hs.take i).foldl (deskS p k tg ph) D).stop)]) zt)) 0 (SV.own 2)) 118), (2, ownOf caCell 4 default ((((hs.take i).foldl (deskS p k tg ph) D).calls) ++ ([⟨(hs.getD i default).id, k, tg, ph⟩])) 51)] [(1, Own.box 5 (fun zi => (rowG heCell default hs) i (0 + zi)) 54), (61, Own.amap (bmap (((hs.take i).foldl (deskS p k tg ph) D).heard))), (1000, Own.box 3 (fun zt => kill 60 ((cmpG [SV.own 60, SV.own 61, bv (((hs.take i).foldl (deskS p k tg ph) D).stop)]) zt)) 118), (2, ownOf caCell 4 default ((((hs.take i).foldl (deskS p k tg ph) D).calls) ++ ([⟨(hs.getD i default).id, k, tg, ph⟩])) 51)]) (cb (e 15) [] [(1, Own.box 5 (fun zi => (rowG heCell default hs) i (0 + zi)) 54), (60, ownOf caCell 4 default (((hs.take i).foldl (deskS p k tg ph) D).calls) 51), (61, Own.amap (bmap (((hs.take i).foldl (deskS p k tg ph) D).heard))), (1000, Own.box 3 (cmpG [SV.own 60, SV.own 61, bv (((hs.take i).foldl (deskS p k tg ph) D).stop)]) 118)]))⟩ _
      simp only [h0, h1, h2, h3, h4, h5, h6, h7, h8, h9, h10, h11, h12, h13, h14, h15]
      show Weak _ ⟨[(34, SV.bp 1000 0), (35, SV.bp 1000 0), (36, SV.bp 1000 0), (37, SV.bp 1000 0), (38, SV.junk), (39, SV.bp 1 4), (40, iv ((hs.getD i default).id)), (41, iv (k)), (42, iv (tg)), (43, iv (ph)), (44, SV.agg 4 (caCell ⟨(hs.getD i default).id, k, tg, ph⟩)), (45, caRow ([⟨(hs.getD i default).id, k, tg, ph⟩])), (46, SV.own 2), (47, SV.bp 1000 0), (48, SV.bp 1000 0), (0, SV.bp 1000 0), (2, iv (k)), (3, iv (tg)), (4, iv (ph)), (5, fnA f caps), (13, SV.bp 1 0), (18, heRow hs), (19, iv ((hs.length : Int))), (20, iv ((i : Int)))], [(1, Own.box 5 (fun zi => (rowG heCell default hs) i (0 + zi)) 54), (61, Own.amap (bmap (((hs.take i).foldl (deskS p k tg ph) D).heard))), (1000, Own.box 3 (upd (fun zt => kill 60 ((cmpG [SV.own 60, SV.own 61, bv (((hs.take i).foldl (deskS p k tg ph) D).stop)]) zt)) 0 (SV.own 2)) 118), (2, ownOf caCell 4 default ((((hs.take i).foldl (deskS p k tg ph) D).calls) ++ ([⟨(hs.getD i default).id, k, tg, ph⟩])) 51)]⟩ _
      refine We ?_ ?_
      ·exact ⟨V rfl, V rfl, V rfl, V rfl, V rfl, V rfl, V rfl, V rfl, V rfl, Va (V rfl) (An rfl), V rfl, V rfl, V rfl, V rfl, V rfl, V rfl, V rfl, V rfl, V rfl, V rfl, V rfl, V rfl, V rfl, Z⟩
      ·exact ⟨⟨_, rfl, ⟨rfl, rfl, (An rfl)⟩⟩, ⟨_, rfl, rfl⟩, ⟨_, rfl, ⟨rfl, rfl, (An rfl)⟩⟩, ⟨_, rfl, rfl⟩, Z⟩
     refine Sq <| c_rd (fun e => ⟨[(49, cj (e 0) (SV.bp 1000 0)), (50, cj (e 1) (SV.bp 1000 0)), (51, cj (e 2) (SV.bp 1000 1)), (52, cj (e 3) (SV.own 61)), (53, cj (e 4) (SV.bp 1 4)), (54, cj (e 5) (iv ((hs.getD i default).id))), (0, SV.bp 1000 0), (2, iv (k)), (3, iv (tg)), (4, iv (ph)), (5, fnA f caps), (13, SV.bp 1 0), (18, heRow hs), (19, iv ((hs.length : Int))), (20, iv ((i : Int)))], (cb (e 6) [(1, Own.box 5 (fun zi => (rowG heCell default hs) i (0 + zi)) 54), (2, ownOf caCell 4 default ((((hs.take i).foldl (deskS p k tg ph) D).calls) ++ ([⟨(hs.getD i default).id, k, tg, ph⟩])) 51), (61, Own.amap (bmap (kput (((hs.take i).foldl (deskS p k tg ph) D).heard) ((hs.getD i default).id) true))), (1000, Own.box 3 (upd (fun zt => kill 60 ((cmpG [SV.own 60, SV.own 61, bv (((hs.take i).foldl (deskS p k tg ph) D).stop)]) zt)) 0 (SV.own 2)) 118)] [(1, Own.box 5 (fun zi => (rowG heCell default hs) i (0 + zi)) 54), (2, ownOf caCell 4 default ((((hs.take i).foldl (deskS p k tg ph) D).calls) ++ ([⟨(hs.getD i default).id, k, tg, ph⟩])) 51), (61, Own.amap (bmap (((hs.take i).foldl (deskS p k tg ph) D).heard))), (1000, Own.box 3 (upd (fun zt => kill 60 ((cmpG [SV.own 60, SV.own 61, bv (((hs.take i).foldl (deskS p k tg ph) D).stop)]) zt)) 0 (SV.own 2)) 118)])⟩) ⟨[(49, SV.bp 1000 0), (50, SV.bp 1000 0), (51, SV.bp 1000 1), (52, SV.own 61), (53, SV.bp 1 4), (54, iv ((hs.getD i default).id)), (0, SV.bp 1000 0), (2, iv (k)), (3, iv (tg)), (4, iv (ph)), (5, fnA f caps), (13, SV.bp 1 0), (18, heRow hs), (19, iv ((hs.length : Int))), (20, iv ((i : Int)))], [(1, Own.box 5 (fun zi => (rowG heCell default hs) i (0 + zi)) 54), (2, ownOf caCell 4 default ((((hs.take i).foldl (deskS p k tg ph) D).calls) ++ ([⟨(hs.getD i default).id, k, tg, ph⟩])) 51), (61, Own.amap (bmap (kput (((hs.take i).foldl (deskS p k tg ph) D).heard) ((hs.getD i default).id) true))), (1000, Own.box 3 (upd (fun zt => kill 60 ((cmpG [SV.own 60, SV.own 61, bv (((hs.take i).foldl (deskS p k tg ph) D).stop)]) zt)) 0 (SV.own 2)) 118)]⟩ (by kernel_rfl) (by kernel_rfl) ?_ ⟨?_, ?_, ?_, ?_, ?_, ?_, ?_, Z⟩ ?_ ?_
     ·show Weak _ _ ⟨[(49, SV.junk), (50, SV.junk), (51, SV.junk), (52, SV.junk), (53, SV.junk), (54, SV.junk), (0, SV.bp 1000 0), (2, iv (k)), (3, iv (tg)), (4, iv (ph)), (5, fnA f caps), (13, SV.bp 1 0), (18, heRow hs), (19, iv ((hs.length : Int))), (20, iv ((i : Int)))], [(1, Own.box 5 (fun zi => (rowG heCell default hs) i (0 + zi)) 54), (2, ownOf caCell 4 default ((((hs.take i).foldl (deskS p k tg ph) D).calls) ++ ([⟨(hs.getD i default).id, k, tg, ph⟩])) 51), (61, Own.amap (bmap (((hs.take i).foldl (deskS p k tg ph) D).heard))), (1000, Own.box 3 (upd (fun zt => kill 60 ((cmpG [SV.own 60, SV.own 61, bv (((hs.take i).foldl (deskS p k tg ph) D).stop)]) zt)) 0 (SV.own 2)) 118)]⟩
      refine We ?_ ?_
      ·exact ⟨Vj, Vj, Vj, Vj, Vj, Vj, V rfl, V rfl, V rfl, V rfl, V rfl, V rfl, V rfl, V rfl, V rfl, Z⟩
      ·exact ⟨⟨_, rfl, ⟨rfl, rfl, (An rfl)⟩⟩, ⟨_, rfl, rfl⟩, ⟨_, rfl, rfl⟩, ⟨_, rfl, ⟨rfl, rfl, (An rfl)⟩⟩, Z⟩
     ·intro e hdn he hdp
      obtain ⟨-, -, -, h6, -⟩ := dns1 hdn he [1, 2, 3, 6] (by kernel_rfl)
      simp only [setE, he, h6, cj_t, cj_f, cjn_t, cjn_f, cb_t, cb_f]
      refine U (Mv (V rfl)) <| Nt <| We ?_ ?_
      ·exact (Vs rfl)
      ·exact ⟨⟨_, rfl, ⟨rfl, rfl, (An rfl)⟩⟩, ⟨_, rfl, rfl⟩, ⟨_, rfl, rfl⟩, ⟨_, rfl, ⟨rfl, rfl, (An rfl)⟩⟩, Z⟩
     ·intro e hdn he hdp
      obtain ⟨h0, -⟩ := ups hdn [0] hdp (by kernel_rfl)
      obtain ⟨-, -, h6, -⟩ := dns1 hdn he [2, 3, 6] (by kernel_rfl)
      simp only [setE, h0, he, h6, cj_t, cj_f, cjn_t, cjn_f, cb_t, cb_f]
      refine U (q_nilB (V rfl)) <| Nt <| We ?_ ?_
      ·exact (Vs rfl)
      ·exact ⟨⟨_, rfl, ⟨rfl, rfl, (An rfl)⟩⟩, ⟨_, rfl, rfl⟩, ⟨_, rfl, rfl⟩, ⟨_, rfl, ⟨rfl, rfl, (An rfl)⟩⟩, Z⟩
     ·intro e hdn he hdp
      obtain ⟨h1, h0, -⟩ := ups hdn [1, 0] hdp (by kernel_rfl)
      obtain ⟨-, h6, -⟩ := dns1 hdn he [3, 6] (by kernel_rfl)
      simp only [setE, h0, h1, he, h6, cj_t, cj_f, cjn_t, cjn_f, cb_t, cb_f]
      refine U (FlB _ _ (V rfl) Un118 rfl 0 Sz49) <| Nt <| We ?_ ?_
      ·exact (Vs rfl)
      ·exact ⟨⟨_, rfl, ⟨rfl, rfl, (An rfl)⟩⟩, ⟨_, rfl, rfl⟩, ⟨_, rfl, rfl⟩, ⟨_, rfl, ⟨rfl, rfl, (An rfl)⟩⟩, Z⟩
     ·intro e hdn he hdp
      obtain ⟨h2, h1, h0, -⟩ := ups hdn [2, 1, 0] hdp (by kernel_rfl)
      obtain ⟨h6, -⟩ := dns1 hdn he [6] (by kernel_rfl)
      simp only [setE, h0, h1, h2, he, h6, cj_t, cj_f, cjn_t, cjn_f, cb_t, cb_f]
      refine U (LdB (V rfl) rfl Ga49 (by decide)) <| Nt <| We ?_ ?_
      ·exact (Vs rfl)
      ·exact ⟨⟨_, rfl, ⟨rfl, rfl, (An rfl)⟩⟩, ⟨_, rfl, rfl⟩, ⟨_, rfl, rfl⟩, ⟨_, rfl, ⟨rfl, rfl, (An rfl)⟩⟩, Z⟩
     ·intro e hdn he hdp
      obtain ⟨-, h6, -⟩ := dns1 hdn he [5, 6] (by kernel_rfl)
      simp only [setE, he, h6, cj_t, cj_f, cjn_t, cjn_f, cb_t, cb_f]
      refine U (FlB _ _ (V rfl) Un54 rfl 0 Sz3) <| Nt <| We ?_ ?_
      ·exact (Vs rfl)
      ·exact ⟨⟨_, rfl, ⟨rfl, rfl, (An rfl)⟩⟩, ⟨_, rfl, rfl⟩, ⟨_, rfl, rfl⟩, ⟨_, rfl, ⟨rfl, rfl, (An rfl)⟩⟩, Z⟩
     ·intro e hdn he hdp
      obtain ⟨h4, -⟩ := ups hdn [4] hdp (by kernel_rfl)
      obtain ⟨h6, -⟩ := dns1 hdn he [6] (by kernel_rfl)
      simp only [setE, h4, he, h6, cj_t, cj_f, cjn_t, cjn_f, cb_t, cb_f]
      refine U (LdB (V rfl) rfl Ga3 (by decide)) <| Nt <| We ?_ ?_
      ·exact (Vs rfl)
      ·exact ⟨⟨_, rfl, ⟨rfl, rfl, (An rfl)⟩⟩, ⟨_, rfl, rfl⟩, ⟨_, rfl, rfl⟩, ⟨_, rfl, ⟨rfl, rfl, (An rfl)⟩⟩, Z⟩
     ·intro e hdn he hdp
      obtain ⟨h5, h4, h3, h2, h1, h0, -⟩ := ups hdn [5, 4, 3, 2, 1, 0] hdp (by kernel_rfl)
      simp only [setE, h0, h1, h2, h3, h4, h5, he, cj_t, cj_f, cjn_t, cjn_f, cb_t, cb_f]
      refine t_putB (l := ((hs.take i).foldl (deskS p k tg ph) D).heard) (.inr rfl) Un49 Un3 (V rfl) rfl (V rfl) K <| Nt <| We ?_ ?_
      ·exact (Vs rfl)
      ·exact ⟨⟨_, rfl, ⟨rfl, rfl, (An rfl)⟩⟩, ⟨_, rfl, rfl⟩, ⟨_, rfl, rfl⟩, ⟨_, rfl, ⟨rfl, rfl, (An rfl)⟩⟩, Z⟩
     ·intro e he
      have h0 := he 0 (by decide)
      have h1 := he 1 (by decide)
      have h2 := he 2 (by decide)
      have h3 := he 3 (by decide)
      have h4 := he 4 (by decide)
      have h5 := he 5 (by decide)
      have h6 := he 6 (by decide)
      show Weak _ ⟨[(49, cj (e 0) (SV.bp 1000 0)), (50, cj (e 1) (SV.bp 1000 0)), (51, cj (e 2) (SV.bp 1000 1)), (52, cj (e 3) (SV.own 61)), (53, cj (e 4) (SV.bp 1 4)), (54, cj (e 5) (iv ((hs.getD i default).id))), (0, SV.bp 1000 0), (2, iv (k)), (3, iv (tg)), (4, iv (ph)), (5, fnA f caps), (13, SV.bp 1 0), (18, heRow hs), (19, iv ((hs.length : Int))), (20, iv ((i : Int)))], (cb (e 6) [(1, Own.box 5 (fun zi => (rowG heCell default hs) i (0 + zi)) 54), (2, ownOf caCell 4 default ((((hs.take i).foldl (deskS p k tg ph) D).calls) ++ ([⟨(hs.getD i default).id, k, tg, ph⟩])) 51), (61, Own.amap (bmap (kput (((hs.take i).foldl (deskS p k tg ph) D).heard) ((hs.getD i default).id) true))), (1000, Own.box 3 (upd (fun zt => kill 60 ((cmpG [SV.own 60, SV.own 61, bv (((hs.take i).foldl (deskS p k tg ph) D).stop)]) zt)) 0 (SV.own 2)) 118)] [(1, Own.box 5 (fun zi => (rowG heCell default hs) i (0 + zi)) 54), (2, ownOf caCell 4 default ((((hs.take i).foldl (deskS p k tg ph) D).calls) ++ ([⟨(hs.getD i default).id, k, tg, ph⟩])) 51), (61, Own.amap (bmap (((hs.take i).foldl (deskS p k tg ph) D).heard))), (1000, Own.box 3 (upd (fun zt => kill 60 ((cmpG [SV.own 60, SV.own 61, bv (((hs.take i).foldl (deskS p k tg ph) D).stop)]) zt)) 0 (SV.own 2)) 118)])⟩ _
      simp only [h0, h1, h2, h3, h4, h5, h6]
      show Weak _ ⟨[(49, SV.bp 1000 0), (50, SV.bp 1000 0), (51, SV.bp 1000 1), (52, SV.own 61), (53, SV.bp 1 4), (54, iv ((hs.getD i default).id)), (0, SV.bp 1000 0), (2, iv (k)), (3, iv (tg)), (4, iv (ph)), (5, fnA f caps), (13, SV.bp 1 0), (18, heRow hs), (19, iv ((hs.length : Int))), (20, iv ((i : Int)))], [(1, Own.box 5 (fun zi => (rowG heCell default hs) i (0 + zi)) 54), (2, ownOf caCell 4 default ((((hs.take i).foldl (deskS p k tg ph) D).calls) ++ ([⟨(hs.getD i default).id, k, tg, ph⟩])) 51), (61, Own.amap (bmap (kput (((hs.take i).foldl (deskS p k tg ph) D).heard) ((hs.getD i default).id) true))), (1000, Own.box 3 (upd (fun zt => kill 60 ((cmpG [SV.own 60, SV.own 61, bv (((hs.take i).foldl (deskS p k tg ph) D).stop)]) zt)) 0 (SV.own 2)) 118)]⟩ _
      refine We ?_ ?_
      ·exact ⟨V rfl, V rfl, V rfl, V rfl, V rfl, V rfl, V rfl, V rfl, V rfl, V rfl, V rfl, V rfl, V rfl, V rfl, V rfl, Z⟩
      ·exact ⟨⟨_, rfl, ⟨rfl, rfl, (An rfl)⟩⟩, ⟨_, rfl, rfl⟩, ⟨_, rfl, rfl⟩, ⟨_, rfl, ⟨rfl, rfl, (An rfl)⟩⟩, Z⟩
     refine Rt <| U (Mv (V rfl)) <| U (Mv (V rfl)) <| U (q_nilB (V rfl)) <| U (FlB _ _ (V rfl) Un118 rfl 0 Sz4) <| U (LdB (V rfl) rfl Ga4 (by decide)) <| U (Mv (V rfl)) <| Ug (Gn rfl rfl) (fun hg => FlB _ _ (V rfl) Un54 rfl 0 Sz4) <| Ug (Gn rfl rfl) (fun hg => LdB (Vg (V rfl) hg) rfl Ga4 (by decide)) <| U (Qr (V rfl) (fun h => Vg (V rfl) (notT h))) <| U (q_nilB (V rfl)) <| U (FlB _ _ (V rfl) Un118 rfl 0 Sz4) <| St1 (V rfl) rfl (V rfl) rfl Sz4 (by decide) <| Nt <| Rq <| O (Ad (V rfl) K (by omega)) <| O (Mv (V rfl)) <| Nq <| k_mv 2 60 rfl rfl <| k_ownE 60 (((hs.take ((i + 1))).foldl (deskS p k tg ph) D).calls) rfl (by first | exact congrArg (fun D : Desk => D.calls) (desk_yes (p := p) (tg := tg) (ph := ph) (D := D) hil hyes) | exact (congrArg (fun D : Desk => D.calls) (desk_yes (p := p) (tg := tg) (ph := ph) (D := D) hil hyes)).symm) <| k_mapE 61 (bmap (((hs.take ((i + 1))).foldl (deskS p k tg ph) D).heard)) rfl (by first | exact congrArg (fun D : Desk => bmap D.heard) (desk_yes (p := p) (tg := tg) (ph := ph) (D := D) hil hyes) | exact (congrArg (fun D : Desk => bmap D.heard) (desk_yes (p := p) (tg := tg) (ph := ph) (D := D) hil hyes)).symm) <| Nx (i + 1) (by show (i + 1) ≤ hs.length; first | omega | (simp; done) | (refine ⟨?_, ?_⟩ <;> first | omega | (simp; done))) (by show hs.length - (i + 1) < hs.length - i; omega) (We (ow := [(60, ownOf caCell 4 default (((hs.take ((i + 1))).foldl (deskS p k tg ph) D).calls) 51), (61, Own.amap (bmap (((hs.take ((i + 1))).foldl (deskS p k tg ph) D).heard))), (1000, Own.box 3 (cmpG [SV.own 60, SV.own 61, bv (((hs.take ((i + 1))).foldl (deskS p k tg ph) D).stop)]) 118)]) (Vs rfl) (by exact ⟨⟨_, rfl, rfl⟩, ⟨_, rfl, rfl⟩, ⟨_, rfl, ⟨rfl, rfl, ⟨⟨⟨Z, rfl⟩, rfl⟩, (congrArg (fun D : Desk => bv D.stop) (desk_yes (p := p) (tg := tg) (ph := ph) (D := D) hil hyes)).symm⟩⟩⟩, Z⟩))
   ·have hc2s := hc2; try simp only [BL] at hc2s
    exact Ex <| k_mv 60 0 rfl rfl <| k_mv 61 1 rfl rfl <| k_ownE 0 ((atD p k tg ph hs D).calls) rfl (by rw [atD_2 hc1, List.take_of_length_le (by omega)]) <| k_mapE 1 (bmap ((atD p k tg ph hs D).heard)) rfl (by rw [atD_2 hc1, List.take_of_length_le (by omega)]) <| endM0 rfl (by exact ⟨⟨_, rfl, ⟨rfl, rfl, ⟨⟨⟨Z, rfl⟩, rfl⟩, (congrArg (fun D : Desk => bv D.stop) (by rw [atD_2 hc1, List.take_of_length_le (by omega)]))⟩⟩⟩, ⟨_, rfl, rfl⟩, ⟨_, rfl, rfl⟩, Z⟩) rfl
theorem cloneH_ct (l : List He) (hl : l.length ≤ 5864062014634) : CtM Try.prog 87 [heRow l] [] (SV.own 0) [(0, ownOf heCell 5 default l 54)] := by
 refine CmO 8 Try.func87 rfl rfl rfl fun E => Rl (V (s := 0) rfl) fun hl0 => Sq <| Rt <| t_nilO 1 5 (rowG heCell default []) 54 (.inl rfl) rfl <| Nt <| Sq <| Sq <| Rq <| O (Mv (V rfl)) <| tq_isnil (V rfl) (eqnil Un45) fun isn hisn => Nq <| Cd (V rfl) (fun hc1 => ?_) (fun hc1 => ?_)
 ·have hc1s := hc1; try simp only [BL] at hc1s
  exact Sq <| Rt <| t_nilO 2 5 (rowG heCell default []) 54 (.inl rfl) rfl <| Nt <| c_mv 2 0 rfl rfl <| c_ownE 0 l rfl (by exact (List.eq_nil_of_length_eq_zero (hisn hc1)).symm) <| Rx <| M1 rfl (V rfl) (by exact ⟨⟨_, rfl, rfl⟩, Z⟩) (by show SV.own 0 = SV.own 0; rfl)
 ·have hc1s := hc1; try simp only [BL] at hc1s
  exact Sk <| Sq <| Rt <| t_bs0 3 (rowG heCell default []) Un45 Sz54 rfl <| U (Mv (V rfl)) <| Ap 4 (rowG heCell default (([]) ++ l)) eo45 (V rfl) rfl (V rfl) rfl (len_app ([]) l) (by first | (simp only [maxLen, List.length_append, List.length_set, List.length_nil, List.length_cons]; omega) | (simp only [maxLen]; omega)) (by first | (simp only [List.length_append, List.length_set, List.length_nil, List.length_cons]; omega) | (omega)) (app_typed (l := ([])) (m := l)) <| U (As (V rfl)) <| Nt <| c_mv 4 0 rfl rfl <| c_ownE 0 l rfl (by rfl) <| Rx <| M1 rfl (V rfl) (by exact ⟨⟨_, rfl, rfl⟩, Z⟩) (by show SV.own 0 = SV.own 0; rfl)
theorem del108_ct {f : FuncId} {caps : List SV} (p : He → Bool) (hE : Enters Try.prog f) (hro : allRO caps = true) (hC : ∀ x, Ct Try.prog f ([.agg 5 (heCell x)] ++ caps) (bv (p x))) (l : List He) (hl : l.length ≤ 1000000000) : CtM Try.prog 108 [SV.own 1000, fnA f caps] [(1000, ownOf heCell 5 default l 54)] (SV.own 0) [(0, ownOf heCell 5 default (l.filter fun x => !p x) 54)] := by
 refine CmO 42 Try.func108 rfl rfl rfl fun E => Sq <| Rq <| O (As (Vn (k := 5) (get := rowG heCell default []))) <| Nq <| Sq <| Rq <| O (Mv (V rfl)) <| O (Mv (V rfl)) <| CQb en34 (by exact ⟨(vb_own (V rfl) rfl), (vb_ro (V rfl) rfl), Z⟩) (idxf34_ct p hE hro hC l) <| O (As (V rfl)) <| Nq <| Sq <| Sq <| Rq <| O (Mv (V rfl)) <| O (Ql (V rfl) K) <| Nq <| Cd (V rfl) (fun hc1 => ?_) (fun hc1 => ?_)
 ·have hc1s := hc1; try simp only [BL] at hc1s
  exact Sq <| Rq <| O (Mv (V rfl)) <| O (As (V rfl)) <| Nq <| c_mv 1000 0 rfl rfl <| c_ownE 0 (l.filter fun x => !p x) rfl (by exact del_none hc1s default) <| Rx <| M1 rfl (V rfl) (by exact ⟨⟨_, rfl, rfl⟩, Z⟩) (by show SV.own 0 = SV.own 0; rfl)
 ·have hc1s := hc1; try simp only [BL] at hc1s
  obtain ⟨i0, he0, hi0, hp0, hall0⟩ := (idxF_cases p default l).resolve_left fun h => hc1s h.1
  refine Sk <| Sq <| Sq <| Rq <| O (Mv (V rfl)) <| O (Ad (V rfl) K (by first | omega | (rw [he0]; omega))) <| O (As (V rfl)) <| Nq <| Bo <| c_ownE 1000 (delA p l ((i0 + 1))) rfl (by exact delA_0 default hi0 hp0 hall0) <| Lo (fun (j : Nat) => ⟨[(0, SV.own 1000), (1, fnA f caps), (5, iv (((keptL p l j).length : Int))), (6, iv ((j : Int)))], [(1000, ownOf heCell 5 default (delA p l j) 54)]⟩) (fun (j : Nat) => j ≤ l.length) (fun (j : Nat) => l.length - j) (i0 + 1) (by show (i0 + 1) ≤ l.length; show i0 + 1 ≤ l.length; omega) (We (sl := [(0, SV.own 1000), (1, fnA f caps), (5, iv (((keptL p l ((i0 + 1))).length : Int))), (6, iv (((i0 + 1) : Int)))]) (by exact ⟨V rfl, V rfl, val_eq (V rfl) (congrArg iv (he0.trans (by rw [kept_0 default hi0 hp0 hall0, List.length_take, Nat.min_eq_left (Nat.le_of_lt hi0)]))), val_eq (V rfl) (congrArg iv (by rw [he0])), Z⟩) (AOs rfl)) <| ?_
  ·rintro j hI1
   have hJ1 : j ≤ l.length := hI1
   have hjl := hJ1
   have hdl := delA_len p l j
   have hkl := kept_le p l j
   refine Sq <| Sq <| Rq <| O (Mv (V rfl)) <| O (Mv (V rfl)) <| O (LnO (V rfl) rfl ts45) <| O (Lt (V rfl) (V rfl)) <| Nq <| Cd (V rfl) (fun hc2 => ?_) (fun hc2 => ?_)
   ·have hc2s := hc2; try simp only [BL] at hc2s
    have hjj : j < l.length := by omega
    refine Sk <| Sq <| Bo <| Sq <| Rt <| U (Mv (V rfl)) <| U (Mv (V rfl)) <| U (IOn (i := j) (V rfl) rfl (V rfl) ts45 te45 (by omega)) <| U (LOA (V rfl) rfl Ga54 Sz54 (by decide)) <| Al 1 zero54 rfl rfl <| StA (V rfl) rfl (V rfl) Sz54 <| Nt <| Sq <| Rq <| O (Mv (V rfl)) <| O (LBA (V rfl) rfl Ga54 Sz54 (by decide)) <| CQv (args := [SV.agg 5 (heCell ⟨((delA p l j).getD j default).pl, ((delA p l j).getD j default).down, ((delA p l j).getD j default).once, ((delA p l j).getD j default).stops, ((delA p l j).getD j default).id⟩)]) (caps := caps) (fnval_A (V rfl)) hro hE (by exact ⟨⟨(Vi (g' := heCell ⟨((delA p l j).getD j default).pl, ((delA p l j).getD j default).down, ((delA p l j).getD j default).once, ((delA p l j).getD j default).stops, ((delA p l j).getD j default).id⟩) (V rfl) ⟨⟨⟨⟨⟨Z, Ir⟩, Ir⟩, Ir⟩, Ir⟩, Ir⟩), rfl⟩, Z⟩) (hC ((delA p l j).getD j default)) <| O (Qo (V rfl)) <| Nq <| Cd (V rfl) (fun hc3 => ?_) (fun hc3 => ?_)
    ·have hc3s := hc3; try simp only [BL] at hc3s
     have hpj : p (l.getD j default) = false := by rw [delA_at default hjj] at hc3; simpa using hc3
     exact Sq <| Rt <| U (Mv (V rfl)) <| U (Mv (V rfl)) <| U (LBA (V rfl) rfl Ga54 Sz54 (by decide)) <| U (IOn (i := (keptL p l j).length) (V rfl) rfl (V rfl) ts45 te45 (by omega)) <| t_stOAT (⟨((delA p l j).getD j default).pl, ((delA p l j).getD j default).down, ((delA p l j).getD j default).once, ((delA p l j).getD j default).stops, ((delA p l j).getD j default).id⟩) (V rfl) rfl (Vi (g' := heCell ⟨((delA p l j).getD j default).pl, ((delA p l j).getD j default).down, ((delA p l j).getD j default).once, ((delA p l j).getD j default).stops, ((delA p l j).getD j default).id⟩) (V rfl) ⟨⟨⟨⟨⟨Z, Ir⟩, Ir⟩, Ir⟩, Ir⟩, Ir⟩) (An rfl) Sz54 (by omega) (An rfl) <| Nt <| Rq <| O (Mv (V rfl)) <| O (Ad (V rfl) K (by first | omega | (rw [he0]; omega))) <| O (As (V rfl)) <| Nq <| Rq <| O (Mv (V rfl)) <| O (Ad (V rfl) K (by first | omega | (rw [he0]; omega))) <| O (As (V rfl)) <| Nq <| k_ownE 1000 (delA p l ((j + 1))) rfl (by rw [delA_at default hjj]; exact delA_no default hjj hpj) <| Nx (j + 1) (by show (j + 1) ≤ l.length; omega) (by show l.length - (j + 1) < l.length - j; omega) (We (sl := [(0, SV.own 1000), (1, fnA f caps), (5, iv (((keptL p l ((j + 1))).length : Int))), (6, iv (((j + 1) : Int)))]) (by exact ⟨V rfl, V rfl, val_eq (V rfl) (congrArg iv (by rw [kept_no default hjj hpj, List.length_append]; rfl)), V rfl, Z⟩) (AOs rfl))
    ·have hc3s := hc3; try simp only [BL] at hc3s
     have hpj : p (l.getD j default) = true := by rw [delA_at default hjj] at hc3; simpa using hc3
     exact Sk <| Rq <| O (Mv (V rfl)) <| O (Ad (V rfl) K (by first | omega | (rw [he0]; omega))) <| O (As (V rfl)) <| Nq <| k_ownE 1000 (delA p l ((j + 1))) rfl (by exact delA_yes default hjj hpj) <| Nx (j + 1) (by show (j + 1) ≤ l.length; omega) (by show l.length - (j + 1) < l.length - j; omega) (We (sl := [(0, SV.own 1000), (1, fnA f caps), (5, iv (((keptL p l ((j + 1))).length : Int))), (6, iv (((j + 1) : Int)))]) (by exact ⟨V rfl, V rfl, val_eq (V rfl) (congrArg iv (by rw [kept_yes default hjj hpj])), V rfl, Z⟩) (AOs rfl))
   ·have hc2s := hc2; try simp only [BL] at hc2s
    exact Ex <| Sq <| Rt <| U (Mv (V rfl)) <| U (Mv (V rfl)) <| U (q_slOL ts45 te45 (V rfl) rfl (V rfl) (by omega) (by first | omega | (rw [ovr_len (by rw [List.length_replicate]; omega)]; omega))) <| t_clrT (⟨0, false, false, false, 0⟩) Un45 zero54 (V rfl) rfl (by decide) (by omega) ⟨⟨⟨⟨⟨Z, impO_rfl⟩, impO_rfl⟩, impO_rfl⟩, impO_rfl⟩, impO_rfl⟩ <| Nt <| Sq <| Rq <| O (Mv (V rfl)) <| O (Mv (V rfl)) <| O (q_slOH ts45 te45 (V rfl) rfl (V rfl) (by omega) (by first | omega | (rw [ovr_len (by rw [List.length_replicate]; omega)]; omega))) <| O (As (V rfl)) <| Nq <| Tc (turn_cutT 4 1000 2 ((keptL p l j).length) rfl rfl (by rw [ovr_len (by rw [List.length_replicate]; omega)]; omega) rfl (by decide)) <| c_mv 2 0 rfl rfl <| c_ownE 0 (l.filter fun x => !p x) rfl (by exact del_end (by omega) _) <| Rx <| M1 rfl (V rfl) (by exact ⟨⟨_, rfl, rfl⟩, Z⟩) (by show SV.own 0 = SV.own 0; rfl)
theorem once_ct (x : He) (C : List Ca) (M : List (Int × Bool)) (S : Bool) : Ct Try.prog 109 [SV.agg 5 (heCell x), elB [elB [caRow C, mapSV (bmap M), bv (S)] 0] 0] (bv (x.once && (kget M x.id).getD false)) := by
 exact CtO 15 Try.func109 rfl rfl rfl fun E => Sq <| Rt <| BxA 1 (V rfl) rfl rfl <| U (As K) <| Nt <| Sq <| Rqd (by kernel_rfl) (by kernel_rfl) <| O (FlB _ _ (V rfl) Un54 rfl 0 Sz4) <| O (LdB (V rfl) rfl Ga4 (by decide)) <| O (Mv (V rfl)) <| Og (Gy rfl rfl) (fun hg => Ld (V rfl) Ga116 (by show 0 < 1; decide)) <| Og (Gy rfl rfl) (fun hg => q_nilE (Vg (V rfl) hg)) <| Og (Gy rfl rfl) (fun hg => Fl _ _ (Vg (V rfl) hg) Un118 rfl 0 Sz49) <| Og (Gy rfl rfl) (fun hg => Ld (Vg (V rfl) hg) Ga49 (by show 1 < 3; decide)) <| Og (Gy rfl rfl) (fun hg => FlB _ _ (V rfl) Un54 rfl 0 Sz3) <| Og (Gy rfl rfl) (fun hg => LdB (Vg (V rfl) hg) rfl Ga3 (by decide)) <| Og (Gy rfl rfl) (fun hg => q_lookB1R (l := M) Un49 Un3 (fun w => Try.zeroValue4 w) (Vg (V rfl) hg) (Vg (V rfl) hg)) <| O (Qa (V rfl) (fun h => Vg (V rfl) h)) <| O (As (V rfl)) <| Nq <| Rx <| R1 rfl (V rfl) rfl (by show bv (x.once && ((kget M x.id).getD false)) = bv (x.once && (kget M x.id).getD false); rfl)
end Go.Proofs.Ytmcdamcedemdiaa
namespace Go.Proofs.Ytmcdamcedemdiaa
open Go.RowKit Go.Eng
theorem eqCa_ct (l m : List Ca) : Ct Try.prog 88 [caRow l, caRow m] (bv (decide (l = m))) := by
 refine CtO 26 Try.func88 rfl rfl rfl fun E => Rl (V (s := 0) rfl) fun hl0 => Rl (V (s := 1) rfl) fun hl1 => Sq <| Rq <| O (As K) <| Nq <| Sq <| Sq <| Rq <| O (Mv (V rfl)) <| O (Ln (V rfl) ts46) <| O (Mv (V rfl)) <| O (Ln (V rfl) ts46) <| O (Qn (V rfl) (V rfl)) <| Nq <| Cd (V rfl) (fun hc1 => ?_) (fun hc1 => ?_)
 ·have hc1s := hc1; try simp only [BL] at hc1s
  exact Sq <| Rq <| O (As K) <| Nq <| Rx <| R1 rfl (V rfl) rfl (by show bv (false) = bv (decide (l = m)); rw [decide_eq_false (fun h => by rw [h] at hc1s; simp at hc1s)])
 ·have hc1s := hc1; try simp only [BL] at hc1s
  refine Sk <| Sq <| Sq <| Rq <| O (Mv (V rfl)) <| O (Ln (V rfl) ts46) <| O (Mv K) <| Nq <| Bo <| Lo (fun (i : Nat) => ⟨[(0, caRow l), (1, caRow m), (12, iv ((l.length : Int))), (13, iv ((i : Int)))], []⟩) (fun (i : Nat) => i ≤ l.length ∧ samePre default l m i) (fun (i : Nat) => l.length - i) 0 (by show 0 ≤ l.length ∧ samePre default l m 0; exact ⟨Nat.zero_le _, samePre_0 (by omega)⟩) (We (Vs rfl) Z) <| ?_
  ·rintro i hI1
   have hJ1 : i ≤ l.length ∧ samePre default l m i := hI1
   have hlm := hJ1.2.1
   refine Sq <| Rq <| O (Lt (V rfl) (V rfl)) <| Nq <| Sq <| Cd (V rfl) (fun hc2 => ?_) (fun hc2 => ?_)
   ·have hc2s := hc2; try simp only [BL] at hc2s
    refine Sk <| Sq <| Bo <| Sq <| Rq <| O (Mv (V rfl)) <| O (As (V rfl)) <| Nq <| Sq <| Rqd (by kernel_rfl) (by kernel_rfl) <| O (Mv (V rfl)) <| O (Mv (V rfl)) <| O (IxN (i := i) (V rfl) (V rfl) ts46 te46 (by omega)) <| O (LdA (V rfl) Ga51 Sz51 (by decide)) <| O (Mv (V rfl)) <| O (Mv (V rfl)) <| O (IxN (i := i) (V rfl) (V rfl) ts46 te46 (by omega)) <| O (LdA (V rfl) Ga51 Sz51 (by decide)) <| O (q_eqS (caVal ((l.getD i default))) (caVal ((m.getD i default))) (V rfl) (V rfl) ⟨⟨⟨⟨Z, rfl⟩, rfl⟩, rfl⟩, rfl⟩ ⟨⟨⟨⟨Z, rfl⟩, rfl⟩, rfl⟩, rfl⟩ (fun w => neS51 _ _ _ _ w)) <| Nq <| Cd (V rfl) (fun hc3 => ?_) (fun hc3 => ?_)
    ·have hc3s := hc3; try simp only [BL] at hc3s
     exact Sq <| Rq <| O (As K) <| Nq <| Rx <| R1 rfl (V rfl) rfl (by show bv (false) = bv (decide (l = m)); rw [decide_eq_false (samePre_ne (i := i) (d := default) (by simpa using hc3))])
    ·have hc3s := hc3; try simp only [BL] at hc3s
     exact Sk <| Rq <| O (Ad (V rfl) K (by omega)) <| O (Mv (V rfl)) <| Nq <| Nx (i + 1) (by show (i + 1) ≤ l.length ∧ samePre default l m (i + 1); exact ⟨by omega, samePre_s hJ1.2 (by simpa using hc3)⟩) (by show l.length - (i + 1) < l.length - i; omega) (We (Vs rfl) Z)
   ·have hc2s := hc2; try simp only [BL] at hc2s
    exact Ex <| Sq <| Rq <| O (As K) <| Nq <| Rx <| R1 rfl (V rfl) rfl (by show bv (true) = bv (decide (l = m)); rw [decide_eq_true (samePre_eq hJ1.2 (by omega))])
theorem path_ok_ct (l : List Nd) (t : Hd) (hb : ∀ n ∈ l, n.kids.length ≤ 17592186043904) (h : firstSt l [t] = 0) : Ct Try.prog 33 [SV.agg 1 (stG l), SV.agg 2 (hdCell t)] (sv2 (inRow (line l t.pl)) (iv 0)) := by
  have h1 := path_ct l t hb
  rw [path_2 h] at h1
  exact h1
theorem disp_ct (l : List Nd) (hs : List He) (t : Hd) (hb : ∀ n ∈ l, n.kids.length ≤ 17592186043904) : Ct Try.prog 31 [SV.agg 1 (stG l), heRow hs, SV.agg 2 (hdCell t)] (sv3 (caRow (dispSt l hs t).1) (heRow (dispSt l hs t).2.1) (iv (dispSt l hs t).2.2)) := by
 refine CtO 103 Try.func31 rfl rfl rfl fun E => row_lenA 0 (V (s := 0) rfl) rfl rfl fun hl0_0 => Rl (V (s := 1) rfl) fun hl1 => Sq <| Rt <| BxA 1 (V rfl) rfl rfl <| BxA 2 (V rfl) rfl rfl <| U (As (Vn (k := 4) (get := rowG caCell default []))) <| U (As (Vn (k := 5) (get := rowG heCell default []))) <| U (As K) <| Nt <| Sq <| Sq <| Rt <| U (LBA (V rfl) rfl Ga24 Sz24 (by decide)) <| U (LBA (V rfl) rfl Ga26 Sz26 (by decide)) <| CT en46 (by exact ⟨⟨(Vi (g' := stG l) (V rfl) ⟨Z, Ir⟩), rfl⟩, ⟨(Vi (g' := hdCell ⟨t.pl, t.use⟩) (V rfl) ⟨⟨Z, Ir⟩, Ir⟩), rfl⟩, Z⟩) (find_ct l t (by first | assumption | exact kb_nil | exact kb_of (by assumption) | exact kb_of fam_c5)) <| U (Mv (V rfl)) <| U (Xt (V rfl) (by decide)) <| U (Xt (V rfl) (by decide)) <| Al 3 zero61 rfl rfl <| StA (V rfl) rfl (V rfl) Sz61 <| U (As (V rfl)) <| Nt <| Sq <| Rq <| O (Mv (V rfl)) <| O (Qn (V rfl) K) <| Nq <| Cd (V rfl) (fun hc1 => ?_) (fun hc1 => ?_)
 ·have hc1s := hc1; try simp only [BL] at hc1s
  exact Sq <| Rq <| O (Mv (V rfl)) <| O (As (Vn (k := 4) (get := rowG caCell default []))) <| O (As (Vn (k := 5) (get := rowG heCell default []))) <| O (As (V rfl)) <| Nq <| Rx <| R3 rfl (V rfl) (V rfl) (V rfl) rfl rfl rfl (by show sv3 (caRow ([])) (heRow ([])) (iv ((findSt l t).2)) = sv3 (caRow (dispSt l hs t).1) (heRow (dispSt l hs t).2.1) (iv (dispSt l hs t).2.2); rw [disp_1 (t := t) (fun q => hc1s ((first_find l t).symm.trans q)), first_find])
 ·have hc1s := hc1; try simp only [BL] at hc1s
  have hf0 : firstSt l [t] = 0 := (first_find l t).trans hc1s
  have hcs := (first1 hf0).1
  have h24 := checkSt_len hcs
  have hll := line_len25 hcs t.pl
  refine Sk <| Sq <| Sq <| Rq <| O (Mv (V rfl)) <| O (FlB _ _ (V rfl) Un24 rfl 0 Sz22) <| O (LdB (V rfl) rfl Ga22 (by decide)) <| O (Ln (V rfl) ts22) <| CQ en93 (by exact ⟨⟨(V rfl), rfl⟩, ⟨(V rfl), rfl⟩, Z⟩) (chkHe_ct hs ((l.length : Int))) <| O (As (V rfl)) <| Nq <| Sq <| Rq <| O (Mv (V rfl)) <| O (Qn (V rfl) K) <| Nq <| Cd (V rfl) (fun hc2 => ?_) (fun hc2 => ?_)
  ·have hc2s := hc2; try simp only [BL] at hc2s
   exact Sq <| Rq <| O (Mv (V rfl)) <| O (As (Vn (k := 4) (get := rowG caCell default []))) <| O (As (Vn (k := 5) (get := rowG heCell default []))) <| O (As (V rfl)) <| Nq <| Rx <| R3 rfl (V rfl) (V rfl) (V rfl) rfl rfl rfl (by show sv3 (caRow ([])) (heRow ([])) (iv (chkHe hs ((l.length : Int)))) = sv3 (caRow (dispSt l hs t).1) (heRow (dispSt l hs t).2.1) (iv (dispSt l hs t).2.2); rw [disp_2 hf0 hc2s])
  ·have hc2s := hc2; try simp only [BL] at hc2s
   have hl24 := chk_len hc2s
   refine Sk <| Sq <| Rt <| U (LBA (V rfl) rfl Ga24 Sz24 (by decide)) <| U (LBA (V rfl) rfl Ga26 Sz26 (by decide)) <| CT en33 (by exact ⟨⟨(Vi (g' := stG l) (V rfl) ⟨Z, Ir⟩), rfl⟩, ⟨(Vi (g' := hdCell ⟨t.pl, t.use⟩) (V rfl) ⟨⟨Z, Ir⟩, Ir⟩), rfl⟩, Z⟩) (path_ok_ct l t (by assumption) hf0) <| U (Mv (V rfl)) <| U (Xt (V rfl) (by decide)) <| U (Xt (V rfl) (by decide)) <| U (As (V rfl)) <| U (As (V rfl)) <| Nt <| Sq <| Rt <| t_makeMap 4 rfl <| U (q_buildV [(1, SV.own 4)] id (cmpG [SV.v (Value.slice none 0 0), SV.own 4, bv (false)]) zero118 build118 (by exact ⟨⟨rfl, (V rfl), (one_map rfl)⟩, Z⟩) (by decide) ⟨⟨⟨Z, rfl⟩, rfl⟩, rfl⟩) <| BxA 5 (V rfl) rfl rfl <| Al 6 zero116 rfl rfl <| St1 (V rfl) rfl (V rfl) rfl Sz116 (by decide) <| Nt <| Sq <| c_frzB 1 [ndRow l] rfl rfl ⟨Z, rfl⟩ rfl <| c_frzB 2 [iv (t.pl), iv (t.use)] rfl rfl ⟨⟨Z, rfl⟩, rfl⟩ rfl <| Rq <| O (Mk (caps := [elB [ndRow l] 0, elB [iv (t.pl), iv (t.use)] 0]) ⟨(V rfl), (V rfl), Z⟩) <| O (As (V rfl)) <| Nq <| Sq <| Sq <| Rq <| O (Mv (V rfl)) <| O (Ln (V rfl) ts33) <| O (Sb (V rfl) K (by omega)) <| O (As (V rfl)) <| Nq <| Bo <| Tc (turn_nilB 5 0 60 4 (rowG caCell default []) 51 rfl rfl rfl) <| c_mv 4 61 rfl rfl <| c_ownE 60 ((dnR l t.pl hs 0).calls) rfl (by rfl) <| c_mapE 61 (bmap ((dnR l t.pl hs 0).heard)) rfl (by rfl) <| ?_
   refine Lo (fun (a : Nat) => ⟨[(1, heRow hs), (12, inRow (line l t.pl)), (14, SV.bp 6 0), (15, fnL 104 [elB [ndRow l] 0, elB [iv (t.pl), iv (t.use)] 0]), (16, iv (0 + ((line l t.pl).length : Int) - 1 - (a : Int)))], [(5, Own.box 3 (cmpG [SV.own 60, SV.own 61, bv ((dnR l t.pl hs a).stop)]) 118), (6, Own.box 1 (fun zt => SV.renm (mvN 4 61) ((upd (fun _ => SV.v (.pointer none)) 0 (SV.bp 5 0)) zt)) 116), (60, ownOf caCell 4 default ((dnR l t.pl hs a).calls) 51), (61, Own.amap (bmap ((dnR l t.pl hs a).heard)))]⟩) (fun (a : Nat) => a ≤ (line l t.pl).length) (fun (a : Nat) => (line l t.pl).length - a) 0 (by show 0 ≤ (line l t.pl).length; exact Nat.zero_le _) (We (sl := [(1, heRow hs), (12, inRow (line l t.pl)), (14, SV.bp 6 0), (15, fnL 104 [elB [ndRow l] 0, elB [iv (t.pl), iv (t.use)] 0]), (16, iv (0 + ((line l t.pl).length : Int) - 1 - (0 : Int)))]) (ow := [(5, Own.box 3 (cmpG [SV.own 60, SV.own 61, bv ((dnR l t.pl hs 0).stop)]) 118), (6, Own.box 1 (fun zt => SV.renm (mvN 4 61) ((upd (fun _ => SV.v (.pointer none)) 0 (SV.bp 5 0)) zt)) 116), (60, ownOf caCell 4 default ((dnR l t.pl hs 0).calls) 51), (61, Own.amap (bmap ((dnR l t.pl hs 0).heard)))]) (by exact ⟨V rfl, V rfl, V rfl, VF [elB [ndRow l] 0, elB [iv (t.pl), iv (t.use)] 0] (V rfl) (An rfl), val_eq (V rfl) (congrArg iv (by simp)), Z⟩) (by exact ⟨⟨_, rfl, rfl, rfl, (An rfl)⟩, ⟨_, rfl, rfl, rfl, (An rfl)⟩, ⟨_, rfl, rfl⟩, ⟨_, rfl, rfl⟩, Z⟩)) <| ?_
   ·rintro a hI1
    have hJ1 : a ≤ (line l t.pl).length := hI1
    have hal := hJ1
    have hdl := dnR_len (l := l) (t := t.pl) (i := a) hl24
    refine Sq <| Sq <| Rq <| O (Mv (V rfl)) <| O (Ge (V rfl) K) <| Nq <| Cd (V rfl) (fun hc3 => ?_) (fun hc3 => ?_)
    ·have hc3s := hc3; try simp only [BL] at hc3s
     have hka : Int.toNat (0 + ((line l t.pl).length : Int) - 1 - (a : Int)) = (line l t.pl).length - 1 - a := by omega
     have hdn := dn_s (hs := hs) (show a < (line l t.pl).length by omega) (k := ((line l t.pl).getD (Int.toNat (0 + ((line l t.pl).length : Int) - 1 - (a : Int))) 0)) (by rw [hka])
     refine Sk <| Sq <| Bo <| Sq <| Rq <| O (Mv (V rfl)) <| O (Mv (V rfl)) <| O (Ix (V rfl) (V rfl) ts33 te33 (by omega) (by omega)) <| O (Ld (V rfl) Ga3 (by decide)) <| O (As (V rfl)) <| Nq <| Sq <| Rq <| O (Mv (V rfl)) <| O (Mv (V rfl)) <| CQv (args := [iv (((line l t.pl).getD (Int.toNat (0 + ((line l t.pl).length : Int) - 1 - (a : Int))) 0))]) (caps := [elB [ndRow l] 0, elB [iv (t.pl), iv (t.use)] 0]) (fnval_L (VF [elB [ndRow l] 0, elB [iv (t.pl), iv (t.use)] 0] ((V rfl)) (An rfl))) rfl en104 (by exact ⟨⟨(V rfl), rfl⟩, Z⟩) (told_ct (((line l t.pl).getD (Int.toNat (0 + ((line l t.pl).length : Int) - 1 - (a : Int))) 0)) l t (by assumption)) <| O (As (V rfl)) <| O (As K) <| Nq <| Sq <| Sq <| Rq <| O (Mv (V rfl)) <| O (Mv (V rfl)) <| O (Ql (V rfl) (V rfl)) <| Nq <| Cd (V rfl) (fun hc4 => ?_) (fun hc4 => ?_)
     ·have hc4s := hc4; try simp only [BL] at hc4s
      have hdn2 := hdn
      rw [phD, if_pos hc4s] at hdn2
      refine Rq <| O (As K) <| Nq <| Rt <| U (LdB (V rfl) rfl Ga116 (by decide)) <| U (Mv (V rfl)) <| U (Mv (V rfl)) <| U (Mv (V rfl)) <| U (Mv (V rfl)) <| CM (cargs := [SV.bp 1000 0, heRow hs, iv (((line l t.pl).getD (Int.toNat (0 + ((line l t.pl).length : Int) - 1 - (a : Int))) 0)), iv (tgtSt l t.pl (((line l t.pl).getD (Int.toNat (0 + ((line l t.pl).length : Int) - 1 - (a : Int))) 0))), iv (2), fnA 106 ([])]) [(1000, 5), (1001, 60), (1002, 61)] [(0, 7), (1, 8)] en105 (by exact ⟨(V rfl), (V rfl), (V rfl), (V rfl), (V rfl), (VA (Vf) rfl), Z⟩) (deskAt_ct He.down en106 rfl down_ct hs (((line l t.pl).getD (Int.toNat (0 + ((line l t.pl).length : Int) - 1 - (a : Int))) 0)) (tgtSt l t.pl (((line l t.pl).getD (Int.toNat (0 + ((line l t.pl).length : Int) - 1 - (a : Int))) 0))) 2 (dnR l t.pl hs a) (by omega) (by omega)) (by exact ⟨⟨_, rfl, ⟨rfl, rfl, (An rfl)⟩⟩, ⟨_, rfl, rfl⟩, ⟨_, rfl, rfl⟩, Z⟩) rfl rfl rfl rfl <| Nt <| Rq <| O (Mv (V rfl)) <| O (Sb (V rfl) K (by omega)) <| O (As (V rfl)) <| Nq <| k_mv 7 60 rfl rfl <| k_mv 8 61 rfl rfl <| k_ownE 60 ((dnR l t.pl hs ((a + 1))).calls) rfl (by first | exact congrArg (fun D : Desk => D.calls) (hdn2) | exact (congrArg (fun D : Desk => D.calls) (hdn2)).symm) <| k_mapE 61 (bmap ((dnR l t.pl hs ((a + 1))).heard)) rfl (by first | exact congrArg (fun D : Desk => bmap D.heard) (hdn2) | exact (congrArg (fun D : Desk => bmap D.heard) (hdn2)).symm) <| Nx (a + 1) (by show (a + 1) ≤ (line l t.pl).length; first | omega | (simp; done) | (refine ⟨?_, ?_⟩ <;> first | omega | (simp; done))) (by show (line l t.pl).length - (a + 1) < (line l t.pl).length - a; omega) (We (sl := [(1, heRow hs), (12, inRow (line l t.pl)), (14, SV.bp 6 0), (15, fnL 104 [elB [ndRow l] 0, elB [iv (t.pl), iv (t.use)] 0]), (16, iv (0 + ((line l t.pl).length : Int) - 1 - ((a + 1) : Int)))]) (ow := [(5, Own.box 3 (cmpG [SV.own 60, SV.own 61, bv ((dnR l t.pl hs ((a + 1))).stop)]) 118), (6, Own.box 1 (fun zt => SV.renm (mvN 4 61) ((upd (fun _ => SV.v (.pointer none)) 0 (SV.bp 5 0)) zt)) 116), (60, ownOf caCell 4 default ((dnR l t.pl hs ((a + 1))).calls) 51), (61, Own.amap (bmap ((dnR l t.pl hs ((a + 1))).heard)))]) (by exact ⟨V rfl, V rfl, V rfl, VF [elB [ndRow l] 0, elB [iv (t.pl), iv (t.use)] 0] (V rfl) (An rfl), val_eq (V rfl) (congrArg iv (by push_cast; omega)), Z⟩) (by exact ⟨⟨_, rfl, ⟨rfl, rfl, ⟨⟨⟨Z, rfl⟩, rfl⟩, (congrArg (fun D : Desk => bv D.stop) (hdn2)).symm⟩⟩⟩, ⟨_, rfl, rfl, rfl, (An rfl)⟩, ⟨_, rfl, rfl⟩, ⟨_, rfl, rfl⟩, Z⟩))
     ·have hc4s := hc4; try simp only [BL] at hc4s
      have hdn2 := hdn
      rw [phD, if_neg hc4s] at hdn2
      refine Sk <| Rt <| U (LdB (V rfl) rfl Ga116 (by decide)) <| U (Mv (V rfl)) <| U (Mv (V rfl)) <| U (Mv (V rfl)) <| U (Mv (V rfl)) <| CM (cargs := [SV.bp 1000 0, heRow hs, iv (((line l t.pl).getD (Int.toNat (0 + ((line l t.pl).length : Int) - 1 - (a : Int))) 0)), iv (tgtSt l t.pl (((line l t.pl).getD (Int.toNat (0 + ((line l t.pl).length : Int) - 1 - (a : Int))) 0))), iv (1), fnA 106 ([])]) [(1000, 5), (1001, 60), (1002, 61)] [(0, 9), (1, 10)] en105 (by exact ⟨(V rfl), (V rfl), (V rfl), (V rfl), (V rfl), (VA (Vf) rfl), Z⟩) (deskAt_ct He.down en106 rfl down_ct hs (((line l t.pl).getD (Int.toNat (0 + ((line l t.pl).length : Int) - 1 - (a : Int))) 0)) (tgtSt l t.pl (((line l t.pl).getD (Int.toNat (0 + ((line l t.pl).length : Int) - 1 - (a : Int))) 0))) 1 (dnR l t.pl hs a) (by omega) (by omega)) (by exact ⟨⟨_, rfl, ⟨rfl, rfl, (An rfl)⟩⟩, ⟨_, rfl, rfl⟩, ⟨_, rfl, rfl⟩, Z⟩) rfl rfl rfl rfl <| Nt <| Rq <| O (Mv (V rfl)) <| O (Sb (V rfl) K (by omega)) <| O (As (V rfl)) <| Nq <| k_mv 9 60 rfl rfl <| k_mv 10 61 rfl rfl <| k_ownE 60 ((dnR l t.pl hs ((a + 1))).calls) rfl (by first | exact congrArg (fun D : Desk => D.calls) (hdn2) | exact (congrArg (fun D : Desk => D.calls) (hdn2)).symm) <| k_mapE 61 (bmap ((dnR l t.pl hs ((a + 1))).heard)) rfl (by first | exact congrArg (fun D : Desk => bmap D.heard) (hdn2) | exact (congrArg (fun D : Desk => bmap D.heard) (hdn2)).symm) <| Nx (a + 1) (by show (a + 1) ≤ (line l t.pl).length; first | omega | (simp; done) | (refine ⟨?_, ?_⟩ <;> first | omega | (simp; done))) (by show (line l t.pl).length - (a + 1) < (line l t.pl).length - a; omega) (We (sl := [(1, heRow hs), (12, inRow (line l t.pl)), (14, SV.bp 6 0), (15, fnL 104 [elB [ndRow l] 0, elB [iv (t.pl), iv (t.use)] 0]), (16, iv (0 + ((line l t.pl).length : Int) - 1 - ((a + 1) : Int)))]) (ow := [(5, Own.box 3 (cmpG [SV.own 60, SV.own 61, bv ((dnR l t.pl hs ((a + 1))).stop)]) 118), (6, Own.box 1 (fun zt => SV.renm (mvN 4 61) ((upd (fun _ => SV.v (.pointer none)) 0 (SV.bp 5 0)) zt)) 116), (60, ownOf caCell 4 default ((dnR l t.pl hs ((a + 1))).calls) 51), (61, Own.amap (bmap ((dnR l t.pl hs ((a + 1))).heard)))]) (by exact ⟨V rfl, V rfl, V rfl, VF [elB [ndRow l] 0, elB [iv (t.pl), iv (t.use)] 0] (V rfl) (An rfl), val_eq (V rfl) (congrArg iv (by push_cast; omega)), Z⟩) (by exact ⟨⟨_, rfl, ⟨rfl, rfl, ⟨⟨⟨Z, rfl⟩, rfl⟩, (congrArg (fun D : Desk => bv D.stop) (hdn2)).symm⟩⟩⟩, ⟨_, rfl, rfl, rfl, (An rfl)⟩, ⟨_, rfl, rfl⟩, ⟨_, rfl, rfl⟩, Z⟩))
    ·have hc3s := hc3; try simp only [BL] at hc3s
     have haL : a = (line l t.pl).length := by omega
     refine Ex <| Sq <| Sq <| Rq <| O (Mv (V rfl)) <| O (Ln (V rfl) ts33) <| O (Mv K) <| Nq <| Bo <| c_mv 60 62 rfl rfl <| c_mv 61 63 rfl rfl <| c_ownE 62 ((upR l t.pl hs 0).calls) rfl (by rw [up_0, haL]) <| c_mapE 63 (bmap ((upR l t.pl hs 0).heard)) rfl (by rw [up_0, haL]) <| Lo (fun (i : Nat) => ⟨[(1, heRow hs), (14, SV.bp 6 0), (15, fnL 104 [elB [ndRow l] 0, elB [iv (t.pl), iv (t.use)] 0]), (75, inRow (line l t.pl)), (76, iv (((line l t.pl).length : Int))), (77, iv ((i : Int)))], [(5, Own.box 3 (cmpG [SV.own 62, SV.own 63, bv ((upR l t.pl hs i).stop)]) 118), (6, Own.box 1 (fun zt => SV.renm (mvN 61 63) ((fun zt => SV.renm (mvN 60 62) ((fun zt => SV.renm (mvN 4 61) ((upd (fun _ => SV.v (.pointer none)) 0 (SV.bp 5 0)) zt)) zt)) zt)) 116), (62, ownOf caCell 4 default ((upR l t.pl hs i).calls) 51), (63, Own.amap (bmap ((upR l t.pl hs i).heard)))]⟩) (fun (i : Nat) => i ≤ (line l t.pl).length) (fun (i : Nat) => (line l t.pl).length - i) 0 (by show 0 ≤ (line l t.pl).length; exact Nat.zero_le _) (We (sl := [(1, heRow hs), (14, SV.bp 6 0), (15, fnL 104 [elB [ndRow l] 0, elB [iv (t.pl), iv (t.use)] 0]), (75, inRow (line l t.pl)), (76, iv (((line l t.pl).length : Int))), (77, iv ((0 : Int)))]) (ow := [(5, Own.box 3 (cmpG [SV.own 62, SV.own 63, bv ((upR l t.pl hs 0).stop)]) 118), (6, Own.box 1 (fun zt => SV.renm (mvN 61 63) ((fun zt => SV.renm (mvN 60 62) ((fun zt => SV.renm (mvN 4 61) ((upd (fun _ => SV.v (.pointer none)) 0 (SV.bp 5 0)) zt)) zt)) zt)) 116), (62, ownOf caCell 4 default ((upR l t.pl hs 0).calls) 51), (63, Own.amap (bmap ((upR l t.pl hs 0).heard)))]) (by exact ⟨V rfl, V rfl, VF [elB [ndRow l] 0, elB [iv (t.pl), iv (t.use)] 0] (V rfl) (An rfl), V rfl, V rfl, V rfl, Z⟩) (by exact ⟨⟨_, rfl, ⟨rfl, rfl, ⟨⟨⟨Z, rfl⟩, rfl⟩, (congrArg (fun D : Desk => bv D.stop) (show dnR l t.pl hs a = upR l t.pl hs 0 by rw [up_0, haL]))⟩⟩⟩, ⟨_, rfl, rfl, rfl, (An rfl)⟩, ⟨_, rfl, rfl⟩, ⟨_, rfl, rfl⟩, Z⟩)) <| ?_
     ·rintro i hI2
      have hJ2 : i ≤ (line l t.pl).length := hI2
      have hil := hJ2
      have hul := upR_len (l := l) (t := t.pl) (i := i) hl24
      refine Sq <| Rq <| O (Lt (V rfl) (V rfl)) <| Nq <| Sq <| Cd (V rfl) (fun hc5 => ?_) (fun hc5 => ?_)
      ·have hc5s := hc5; try simp only [BL] at hc5s
       have hup := up_s (hs := hs) (show i < (line l t.pl).length by omega) (k := ((line l t.pl).getD i 0)) rfl
       refine Sk <| Sq <| Bo <| Sq <| Rq <| O (IxN (i := i) (V rfl) (V rfl) ts33 te33 (by omega)) <| O (Ld (V rfl) Ga3 (by decide)) <| O (As (V rfl)) <| Nq <| Sq <| Rq <| O (Mv (V rfl)) <| O (Mv (V rfl)) <| CQv (args := [iv (((line l t.pl).getD i 0))]) (caps := [elB [ndRow l] 0, elB [iv (t.pl), iv (t.use)] 0]) (fnval_L (VF [elB [ndRow l] 0, elB [iv (t.pl), iv (t.use)] 0] ((V rfl)) (An rfl))) rfl en104 (by exact ⟨⟨(V rfl), rfl⟩, Z⟩) (told_ct (((line l t.pl).getD i 0)) l t (by assumption)) <| O (As (V rfl)) <| O (As K) <| Nq <| Sq <| Sq <| Rq <| O (Mv (V rfl)) <| O (Mv (V rfl)) <| O (Ql (V rfl) (V rfl)) <| Nq <| Cd (V rfl) (fun hc6 => ?_) (fun hc6 => ?_)
       ·have hc6s := hc6; try simp only [BL] at hc6s
        have hup2 := hup
        rw [phD, if_pos hc6s] at hup2
        refine Rq <| O (As K) <| Nq <| Rt <| U (LdB (V rfl) rfl Ga116 (by decide)) <| U (Mv (V rfl)) <| U (Mv (V rfl)) <| U (Mv (V rfl)) <| U (Mv (V rfl)) <| CM (cargs := [SV.bp 1000 0, heRow hs, iv (((line l t.pl).getD i 0)), iv (tgtSt l t.pl (((line l t.pl).getD i 0))), iv (2), fnA 107 ([])]) [(1000, 5), (1001, 62), (1002, 63)] [(0, 11), (1, 12)] en105 (by exact ⟨(V rfl), (V rfl), (V rfl), (V rfl), (V rfl), (VA (Vf) rfl), Z⟩) (deskAt_ct (fun h : He => !h.down) en107 rfl up_ct hs (((line l t.pl).getD i 0)) (tgtSt l t.pl (((line l t.pl).getD i 0))) 2 (upR l t.pl hs i) (by omega) (by omega)) (by exact ⟨⟨_, rfl, ⟨rfl, rfl, (An rfl)⟩⟩, ⟨_, rfl, rfl⟩, ⟨_, rfl, rfl⟩, Z⟩) rfl rfl rfl rfl <| Nt <| Rq <| O (Ad (V rfl) K (by omega)) <| O (Mv (V rfl)) <| Nq <| k_mv 11 62 rfl rfl <| k_mv 12 63 rfl rfl <| k_ownE 62 ((upR l t.pl hs ((i + 1))).calls) rfl (by first | exact congrArg (fun D : Desk => D.calls) (hup2) | exact (congrArg (fun D : Desk => D.calls) (hup2)).symm) <| k_mapE 63 (bmap ((upR l t.pl hs ((i + 1))).heard)) rfl (by first | exact congrArg (fun D : Desk => bmap D.heard) (hup2) | exact (congrArg (fun D : Desk => bmap D.heard) (hup2)).symm) <| Nx (i + 1) (by show (i + 1) ≤ (line l t.pl).length; first | omega | (simp; done) | (refine ⟨?_, ?_⟩ <;> first | omega | (simp; done))) (by show (line l t.pl).length - (i + 1) < (line l t.pl).length - i; omega) (We (sl := [(1, heRow hs), (14, SV.bp 6 0), (15, fnL 104 [elB [ndRow l] 0, elB [iv (t.pl), iv (t.use)] 0]), (75, inRow (line l t.pl)), (76, iv (((line l t.pl).length : Int))), (77, iv (((i + 1) : Int)))]) (ow := [(5, Own.box 3 (cmpG [SV.own 62, SV.own 63, bv ((upR l t.pl hs ((i + 1))).stop)]) 118), (6, Own.box 1 (fun zt => SV.renm (mvN 61 63) ((fun zt => SV.renm (mvN 60 62) ((fun zt => SV.renm (mvN 4 61) ((upd (fun _ => SV.v (.pointer none)) 0 (SV.bp 5 0)) zt)) zt)) zt)) 116), (62, ownOf caCell 4 default ((upR l t.pl hs ((i + 1))).calls) 51), (63, Own.amap (bmap ((upR l t.pl hs ((i + 1))).heard)))]) (by exact ⟨V rfl, V rfl, VF [elB [ndRow l] 0, elB [iv (t.pl), iv (t.use)] 0] (V rfl) (An rfl), V rfl, V rfl, V rfl, Z⟩) (by exact ⟨⟨_, rfl, ⟨rfl, rfl, ⟨⟨⟨Z, rfl⟩, rfl⟩, (congrArg (fun D : Desk => bv D.stop) (hup2)).symm⟩⟩⟩, ⟨_, rfl, rfl, rfl, (An rfl)⟩, ⟨_, rfl, rfl⟩, ⟨_, rfl, rfl⟩, Z⟩))
       ·have hc6s := hc6; try simp only [BL] at hc6s
        have hup2 := hup
        rw [phD, if_neg hc6s] at hup2
        refine Sk <| Rt <| U (LdB (V rfl) rfl Ga116 (by decide)) <| U (Mv (V rfl)) <| U (Mv (V rfl)) <| U (Mv (V rfl)) <| U (Mv (V rfl)) <| CM (cargs := [SV.bp 1000 0, heRow hs, iv (((line l t.pl).getD i 0)), iv (tgtSt l t.pl (((line l t.pl).getD i 0))), iv (3), fnA 107 ([])]) [(1000, 5), (1001, 62), (1002, 63)] [(0, 13), (1, 14)] en105 (by exact ⟨(V rfl), (V rfl), (V rfl), (V rfl), (V rfl), (VA (Vf) rfl), Z⟩) (deskAt_ct (fun h : He => !h.down) en107 rfl up_ct hs (((line l t.pl).getD i 0)) (tgtSt l t.pl (((line l t.pl).getD i 0))) 3 (upR l t.pl hs i) (by omega) (by omega)) (by exact ⟨⟨_, rfl, ⟨rfl, rfl, (An rfl)⟩⟩, ⟨_, rfl, rfl⟩, ⟨_, rfl, rfl⟩, Z⟩) rfl rfl rfl rfl <| Nt <| Rq <| O (Ad (V rfl) K (by omega)) <| O (Mv (V rfl)) <| Nq <| k_mv 13 62 rfl rfl <| k_mv 14 63 rfl rfl <| k_ownE 62 ((upR l t.pl hs ((i + 1))).calls) rfl (by first | exact congrArg (fun D : Desk => D.calls) (hup2) | exact (congrArg (fun D : Desk => D.calls) (hup2)).symm) <| k_mapE 63 (bmap ((upR l t.pl hs ((i + 1))).heard)) rfl (by first | exact congrArg (fun D : Desk => bmap D.heard) (hup2) | exact (congrArg (fun D : Desk => bmap D.heard) (hup2)).symm) <| Nx (i + 1) (by show (i + 1) ≤ (line l t.pl).length; first | omega | (simp; done) | (refine ⟨?_, ?_⟩ <;> first | omega | (simp; done))) (by show (line l t.pl).length - (i + 1) < (line l t.pl).length - i; omega) (We (sl := [(1, heRow hs), (14, SV.bp 6 0), (15, fnL 104 [elB [ndRow l] 0, elB [iv (t.pl), iv (t.use)] 0]), (75, inRow (line l t.pl)), (76, iv (((line l t.pl).length : Int))), (77, iv (((i + 1) : Int)))]) (ow := [(5, Own.box 3 (cmpG [SV.own 62, SV.own 63, bv ((upR l t.pl hs ((i + 1))).stop)]) 118), (6, Own.box 1 (fun zt => SV.renm (mvN 61 63) ((fun zt => SV.renm (mvN 60 62) ((fun zt => SV.renm (mvN 4 61) ((upd (fun _ => SV.v (.pointer none)) 0 (SV.bp 5 0)) zt)) zt)) zt)) 116), (62, ownOf caCell 4 default ((upR l t.pl hs ((i + 1))).calls) 51), (63, Own.amap (bmap ((upR l t.pl hs ((i + 1))).heard)))]) (by exact ⟨V rfl, V rfl, VF [elB [ndRow l] 0, elB [iv (t.pl), iv (t.use)] 0] (V rfl) (An rfl), V rfl, V rfl, V rfl, Z⟩) (by exact ⟨⟨_, rfl, ⟨rfl, rfl, ⟨⟨⟨Z, rfl⟩, rfl⟩, (congrArg (fun D : Desk => bv D.stop) (hup2)).symm⟩⟩⟩, ⟨_, rfl, rfl, rfl, (An rfl)⟩, ⟨_, rfl, rfl⟩, ⟨_, rfl, rfl⟩, Z⟩))
      ·have hc5s := hc5; try simp only [BL] at hc5s
       have hiL : i = (line l t.pl).length := by omega
       exact Ex <| Sq <| FzC 62 rfl <| c_frzM 63 rfl <| c_frzB 5 [caRow ((upR l t.pl hs i).calls), mapSV (bmap ((upR l t.pl hs i).heard)), bv ((upR l t.pl hs i).stop)] rfl rfl ⟨⟨⟨Z, rfl⟩, rfl⟩, rfl⟩ rfl <| c_frzB 6 [elB [caRow ((upR l t.pl hs i).calls), mapSV (bmap ((upR l t.pl hs i).heard)), bv ((upR l t.pl hs i).stop)] 0] rfl rfl ⟨Z, rfl⟩ rfl <| Rt <| U (Mv (V rfl)) <| CM (cargs := [heRow hs]) [] [(0, 15)] en87 (mv0 (by exact ⟨⟨(V rfl), rfl⟩, Z⟩)) (cloneH_ct hs (by omega)) (by exact Z) rfl rfl rfl rfl <| U (Mk (caps := [elB [elB [caRow ((upR l t.pl hs i).calls), mapSV (bmap ((upR l t.pl hs i).heard)), bv ((upR l t.pl hs i).stop)] 0] 0]) ⟨(V rfl), Z⟩) <| CM (cargs := [SV.own 1000, fnA 109 ([elB [elB [caRow ((upR l t.pl hs i).calls), mapSV (bmap ((upR l t.pl hs i).heard)), bv ((upR l t.pl hs i).stop)] 0] 0])]) [(1000, 15)] [(0, 16)] en108 (by exact ⟨(V rfl), (VA (VF [elB [elB [caRow ((upR l t.pl hs i).calls), mapSV (bmap ((upR l t.pl hs i).heard)), bv ((upR l t.pl hs i).stop)] 0] 0] ((V rfl)) (An rfl)) rfl), Z⟩) (del108_ct (fun h => h.once && (kget (upR l t.pl hs i).heard h.id).getD false) en109 rfl (fun x => once_ct x (upR l t.pl hs i).calls (upR l t.pl hs i).heard (upR l t.pl hs i).stop) hs (by omega)) (by exact ⟨⟨_, rfl, rfl⟩, Z⟩) rfl rfl rfl rfl <| U (As (V rfl)) <| Nt <| Sq <| Rq <| O (Ld (V rfl) Ga116 (by show 0 < 1; decide)) <| O (q_nilE (V rfl)) <| O (Fl _ _ (V rfl) Un118 rfl 0 Sz46) <| O (Ld (V rfl) Ga46 (by show 0 < 3; decide)) <| O (Mv (V rfl)) <| O (As (V rfl)) <| O (As (V rfl)) <| O (As K) <| Nq <| FzC 16 rfl <| Rx <| R3 rfl (V rfl) (V rfl) (V rfl) rfl rfl rfl (by show sv3 (caRow ((upR l t.pl hs i).calls)) (heRow (leftD (upR l t.pl hs i).heard hs)) (iv (0)) = sv3 (caRow (dispSt l hs t).1) (heRow (dispSt l hs t).2.1) (iv (dispSt l hs t).2.2); rw [disp_3 hf0 hc2s, run_up, hiL])
theorem happened_ct  : Ct Try.prog 32 [] (bv true) := by
 refine CtO 69 Try.func32 rfl rfl rfl fun E => Sq <| Rq <| O (As K) <| Nq <| Sq <| Rt <| CT en103 (by exact Z) (family_ct) <| U (Mv (V rfl)) <| U (Xt (V rfl) (by decide)) <| U (Xt (V rfl) (by decide)) <| U (Xt (V rfl) (by decide)) <| Al 1 zero24 rfl rfl <| Al 2 zero113 rfl rfl <| StA (V rfl) rfl (V rfl) Sz24 <| StA (V rfl) rfl (V rfl) Sz113 <| U (As (V rfl)) <| Nt <| Sq <| Rt <| U (LBA (V rfl) rfl Ga24 Sz24 (by decide)) <| U (q_ixB (i := 1) (V rfl) K ta113 te113 (by rw [al113]; decide)) <| U (LBA (V rfl) rfl Ga26 Sz26 (by decide)) <| CT en74 (by exact ⟨⟨(Vi (g' := stG fam5) (V rfl) ⟨Z, Ir⟩), rfl⟩, ⟨(Vi (g' := hdCell ⟨1, 1⟩) (V rfl) ⟨⟨Z, Ir⟩, Ir⟩), rfl⟩, ⟨K, rfl⟩, Z⟩) (attach_ct fam5 ⟨1, 1⟩ true (by first | assumption | exact kb_nil | exact kb_of (by assumption) | exact kb_of fam_c5)) <| U (Mv (V rfl)) <| U (Xt (V rfl) (by decide)) <| U (Xt (V rfl) (by decide)) <| U (Xt (V rfl) (by decide)) <| Al 3 zero26 rfl rfl <| StA (V rfl) rfl (V rfl) Sz24 <| StA (V rfl) rfl (V rfl) Sz26 <| U (As (V rfl)) <| Nt <| Sq <| Rt <| U (LBA (V rfl) rfl Ga24 Sz24 (by decide)) <| U (LBA (V rfl) rfl Ga26 Sz26 (by decide)) <| U (q_ixB (i := 2) (V rfl) K ta113 te113 (by rw [al113]; decide)) <| U (LBA (V rfl) rfl Ga26 Sz26 (by decide)) <| CT en56 (by exact ⟨⟨(Vi (g' := stG ((attSt fam5 ⟨1, 1⟩ true).1)) (V rfl) ⟨Z, Ir⟩), rfl⟩, ⟨(Vi (g' := hdCell ⟨(attSt fam5 ⟨1, 1⟩ true).2.1.pl, (attSt fam5 ⟨1, 1⟩ true).2.1.use⟩) (V rfl) ⟨⟨Z, Ir⟩, Ir⟩), rfl⟩, ⟨(Vi (g' := hdCell ⟨2, 1⟩) (V rfl) ⟨⟨Z, Ir⟩, Ir⟩), rfl⟩, ⟨Vn, rfl⟩, Z⟩) (insert_ct ((attSt fam5 ⟨1, 1⟩ true).1) (attSt fam5 ⟨1, 1⟩ true).2.1 ⟨2, 1⟩ ([]) (by first | assumption | exact kb_nil | exact kb_of (by assumption) | exact kb_of fam_c5)) <| ?_
 refine U (Mv (V rfl)) <| U (Xt (V rfl) (by decide)) <| U (Xt (V rfl) (by decide)) <| StA (V rfl) rfl (V rfl) Sz24 <| U (As (V rfl)) <| Nt <| Sq <| Rt <| U (LBA (V rfl) rfl Ga24 Sz24 (by decide)) <| U (Bu [(0, iv (0)), (4, iv (1))] id (heCell ⟨0, false, false, false, 1⟩) zero54 build54 (by exact ⟨⟨rfl, K, rfl⟩, ⟨rfl, K, rfl⟩, Z⟩) (by decide) ⟨⟨⟨⟨⟨Z, rfl⟩, rfl⟩, rfl⟩, rfl⟩, rfl⟩) <| U (Bu [(0, iv (0)), (1, bv (true)), (4, iv (2)), (2, bv (true))] id (heCell ⟨0, true, true, false, 2⟩) zero54 build54 (by exact ⟨⟨rfl, K, rfl⟩, ⟨rfl, K, rfl⟩, ⟨rfl, K, rfl⟩, ⟨rfl, K, rfl⟩, Z⟩) (by decide) ⟨⟨⟨⟨⟨Z, rfl⟩, rfl⟩, rfl⟩, rfl⟩, rfl⟩) <| U (Bu [(0, iv (2)), (4, iv (3))] id (heCell ⟨2, false, false, false, 3⟩) zero54 build54 (by exact ⟨⟨rfl, K, rfl⟩, ⟨rfl, K, rfl⟩, Z⟩) (by decide) ⟨⟨⟨⟨⟨Z, rfl⟩, rfl⟩, rfl⟩, rfl⟩, rfl⟩) <| Uw (w_bs (n := 3) (zget := cmpG [iv (0), bv (false), bv (false), bv (false), iv (0)]) [(heCell ⟨0, false, false, false, 1⟩), (heCell ⟨0, true, true, false, 2⟩), (heCell ⟨2, false, false, false, 3⟩)] (rowG heCell default [⟨0, false, false, false, 1⟩, ⟨0, true, true, false, 2⟩, ⟨2, false, false, false, 3⟩]) Un45 Sz54 zero54 (by decide) rfl (by decide) ⟨⟨rfl, .inl (V rfl), rfl⟩, ⟨rfl, .inl (V rfl), rfl⟩, ⟨rfl, .inl (V rfl), rfl⟩, Z⟩ ⟨⟨⟨Z, ⟨⟨⟨⟨⟨Z, rfl⟩, rfl⟩, rfl⟩, rfl⟩, rfl⟩⟩, ⟨⟨⟨⟨⟨Z, rfl⟩, rfl⟩, rfl⟩, rfl⟩, rfl⟩⟩, ⟨⟨⟨⟨⟨Z, rfl⟩, rfl⟩, rfl⟩, rfl⟩, rfl⟩⟩) <| U (q_ixB (i := 2) (V rfl) K ta113 te113 (by rw [al113]; decide)) <| U (LBA (V rfl) rfl Ga26 Sz26 (by decide)) <| CT en31 (by exact ⟨⟨(Vi (g' := stG ((insSt ((attSt fam5 ⟨1, 1⟩ true).1) (attSt fam5 ⟨1, 1⟩ true).2.1 ⟨2, 1⟩ ([])).1)) (V rfl) ⟨Z, Ir⟩), rfl⟩, ⟨(V rfl), rfl⟩, ⟨(Vi (g' := hdCell ⟨2, 1⟩) (V rfl) ⟨⟨Z, Ir⟩, Ir⟩), rfl⟩, Z⟩) (disp_ct ((insSt ((attSt fam5 ⟨1, 1⟩ true).1) (attSt fam5 ⟨1, 1⟩ true).2.1 ⟨2, 1⟩ ([])).1) ([⟨0, false, false, false, 1⟩, ⟨0, true, true, false, 2⟩, ⟨2, false, false, false, 3⟩]) ⟨2, 1⟩ (by first | assumption | exact kb_nil | exact kb_of (by assumption) | exact kb_of fam_c5)) <| U (Mv (V rfl)) <| U (Xt (V rfl) (by decide)) <| U (Xt (V rfl) (by decide)) <| U (Xt (V rfl) (by decide)) <| U (As (V rfl)) <| U (As (V rfl)) <| U (As (V rfl)) <| Nt <| Sq <| Rt <| U (Mv (V rfl)) <| U (Mv (V rfl)) <| Ug (Gy rfl rfl) (fun hg => Mv (V rfl)) <| Ug (Gy rfl rfl) (fun hg => Ql (Vg (V rfl) hg) K) <| U (Qa (V rfl) (fun h => Vg (V rfl) h)) <| U (Mv (V rfl)) <| Ug (Gy rfl rfl) (fun hg => Mv (V rfl)) <| Ug (Gy rfl rfl) (fun hg => Ql (Vg (V rfl) hg) K) <| U (Qa (V rfl) (fun h => Vg (V rfl) h)) <| U (Mv (V rfl)) <| Ug (Gy rfl rfl) (fun hg => Mv (V rfl)) <| Ug (Gy rfl rfl) (fun hg => Ql (Vg (V rfl) hg) K) <| U (Qa (V rfl) (fun h => Vg (V rfl) h)) <| U (Mv (V rfl)) <| ?_
 exact Ug (Gy rfl rfl) (fun hg => Mv (V rfl)) <| Ug (Gy rfl rfl) (fun hg => Ln (Vg (V rfl) hg) ts45) <| Ug (Gy rfl rfl) (fun hg => Ql (Vg (V rfl) hg) K) <| U (Qa (V rfl) (fun h => Vg (V rfl) h)) <| U (Mv (V rfl)) <| Ug (Gy rfl rfl) (fun hg => Mv (V rfl)) <| Ug (Gy rfl rfl) (fun hg => Bu [(0, iv (2)), (1, iv (0)), (2, iv (1)), (3, iv (1))] id (caCell ⟨2, 0, 1, 1⟩) zero51 build51 (by exact ⟨⟨rfl, K, rfl⟩, ⟨rfl, K, rfl⟩, ⟨rfl, K, rfl⟩, ⟨rfl, K, rfl⟩, Z⟩) (by decide) ⟨⟨⟨⟨Z, rfl⟩, rfl⟩, rfl⟩, rfl⟩) <| Ug (Gy rfl rfl) (fun hg => Bu [(0, iv (3)), (1, iv (2)), (2, iv (2)), (3, iv (2))] id (caCell ⟨3, 2, 2, 2⟩) zero51 build51 (by exact ⟨⟨rfl, K, rfl⟩, ⟨rfl, K, rfl⟩, ⟨rfl, K, rfl⟩, ⟨rfl, K, rfl⟩, Z⟩) (by decide) ⟨⟨⟨⟨Z, rfl⟩, rfl⟩, rfl⟩, rfl⟩) <| Ug (Gy rfl rfl) (fun hg => Bu [(0, iv (1)), (1, iv (0)), (2, iv (1)), (3, iv (3))] id (caCell ⟨1, 0, 1, 3⟩) zero51 build51 (by exact ⟨⟨rfl, K, rfl⟩, ⟨rfl, K, rfl⟩, ⟨rfl, K, rfl⟩, ⟨rfl, K, rfl⟩, Z⟩) (by decide) ⟨⟨⟨⟨Z, rfl⟩, rfl⟩, rfl⟩, rfl⟩) <| UwG (Gy rfl rfl) (fun hg => w_bs (n := 3) (zget := cmpG [iv (0), iv (0), iv (0), iv (0)]) [(caCell ⟨2, 0, 1, 1⟩), (caCell ⟨3, 2, 2, 2⟩), (caCell ⟨1, 0, 1, 3⟩)] (rowG caCell default [⟨2, 0, 1, 1⟩, ⟨3, 2, 2, 2⟩, ⟨1, 0, 1, 3⟩]) Un46 Sz51 zero51 (by decide) rfl (by decide) ⟨⟨rfl, .inl (Vg (V rfl) hg), rfl⟩, ⟨rfl, .inl (Vg (V rfl) hg), rfl⟩, ⟨rfl, .inl (Vg (V rfl) hg), rfl⟩, Z⟩ ⟨⟨⟨Z, ⟨⟨⟨⟨Z, rfl⟩, rfl⟩, rfl⟩, rfl⟩⟩, ⟨⟨⟨⟨Z, rfl⟩, rfl⟩, rfl⟩, rfl⟩⟩, ⟨⟨⟨⟨Z, rfl⟩, rfl⟩, rfl⟩, rfl⟩⟩) <| CTg (Gy rfl rfl) en88 (fun hg => (by exact ⟨⟨(Vg (V rfl) hg), rfl⟩, ⟨(Vg (V rfl) hg), rfl⟩, Z⟩)) (fun hg => eqCa_ct ((dispSt ((insSt ((attSt fam5 ⟨1, 1⟩ true).1) (attSt fam5 ⟨1, 1⟩ true).2.1 ⟨2, 1⟩ ([])).1) ([⟨0, false, false, false, 1⟩, ⟨0, true, true, false, 2⟩, ⟨2, false, false, false, 3⟩]) ⟨2, 1⟩).1) ([⟨2, 0, 1, 1⟩, ⟨3, 2, 2, 2⟩, ⟨1, 0, 1, 3⟩])) <| U (Qa (V rfl) (fun h => Vg (V rfl) h)) <| U (As (V rfl)) <| Nt <| Rx <| R1 rfl (V rfl) rfl (by show bv (((((true && (decide ((attSt fam5 ⟨1, 1⟩ true).2.2 = 0))) && (decide ((insSt ((attSt fam5 ⟨1, 1⟩ true).1) (attSt fam5 ⟨1, 1⟩ true).2.1 ⟨2, 1⟩ ([])).2 = 0))) && (decide ((dispSt ((insSt ((attSt fam5 ⟨1, 1⟩ true).1) (attSt fam5 ⟨1, 1⟩ true).2.1 ⟨2, 1⟩ ([])).1) ([⟨0, false, false, false, 1⟩, ⟨0, true, true, false, 2⟩, ⟨2, false, false, false, 3⟩]) ⟨2, 1⟩).2.2 = 0))) && (decide ((((dispSt ((insSt ((attSt fam5 ⟨1, 1⟩ true).1) (attSt fam5 ⟨1, 1⟩ true).2.1 ⟨2, 1⟩ ([])).1) ([⟨0, false, false, false, 1⟩, ⟨0, true, true, false, 2⟩, ⟨2, false, false, false, 3⟩]) ⟨2, 1⟩).2.1).length : Int) = 2))) && (decide ((dispSt ((insSt ((attSt fam5 ⟨1, 1⟩ true).1) (attSt fam5 ⟨1, 1⟩ true).2.1 ⟨2, 1⟩ ([])).1) ([⟨0, false, false, false, 1⟩, ⟨0, true, true, false, 2⟩, ⟨2, false, false, false, 3⟩]) ⟨2, 1⟩).1 = [⟨2, 0, 1, 1⟩, ⟨3, 2, 2, 2⟩, ⟨1, 0, 1, 3⟩]))) = bv true; exact congrArg bv (by decide +kernel))
end Go.Proofs.Ytmcdamcedemdiaa
namespace Go.Proofs.Ytmcdamcedemdiaa
open Go.RowKit Go.Eng
def atH (hs : List He) (s : Sp) : List He := hs.filter fun h => decide (h.pl = s.at_) && (h.down == s.down)
def runH (hs : List He) : List Sp → List He
  | [] => []
  | s :: r => atH hs s ++ if (atH hs s).any He.stops = true then [] else runH hs r
def mkC (l : List Nd) (t : Int) (h : He) : Ca := ⟨h.id, h.pl, tgtSt l t h.pl, phD (tgtSt l t h.pl) h.pl (if h.down = true then 1 else 3)⟩
theorem desk_fold {p : He → Bool} {k tg ph : Int} : ∀ (hs : List He) (D : Desk), hs.foldl (deskS p k tg ph) D =
    ⟨D.calls ++ (hs.filter fun h => decide (h.pl = k) && p h).map (fun h => ⟨h.id, k, tg, ph⟩), putAll (hs.filter fun h => decide (h.pl = k) && p h) D.heard, D.stop || (hs.filter fun h => decide (h.pl = k) && p h).any He.stops⟩
  | [], D => by cases D; simp [putAll]
  | h :: r, D => by
    rw [List.foldl_cons, desk_fold r]
    by_cases c : h.pl = k ∧ p h = true
    · rw [deskS, if_pos c, List.filter_cons_of_pos (by rw [decide_eq_true c.1, c.2]; rfl)]
      simp [putAll, List.append_assoc, Bool.or_assoc]
    · rw [deskS, if_neg c, List.filter_cons_of_neg (fun q => c (by simpa using q))]
section
variable {l : List Nd} {t : Int} {hs : List He} {D : Desk}
theorem atH_mem {s : Sp} {h : He} : h ∈ atH hs s ↔ h ∈ hs ∧ h.pl = s.at_ ∧ h.down = s.down := by
  unfold atH
  rw [List.mem_filter, Bool.and_eq_true, decide_eq_true_eq, beq_iff_eq]
theorem step_eq {s : Sp} (h : D.stop = false) : stepS l t hs D s = ⟨D.calls ++ (atH hs s).map (mkC l t), putAll (atH hs s) D.heard, (atH hs s).any He.stops⟩ := by
  rw [step_2 h, desk_fold, h, Bool.false_or]
  have e : (atH hs s).map (fun h => (⟨h.id, s.at_, tgtSt l t s.at_, phD (tgtSt l t s.at_) s.at_ (if s.down = true then 1 else 3)⟩ : Ca)) = (atH hs s).map (mkC l t) := List.map_congr_left fun x hx => by
    obtain ⟨_, h1, h2⟩ := atH_mem.1 hx
    rw [mkC, h1, h2]
  show (⟨D.calls ++ (atH hs s).map _, _, _⟩ : Desk) = _
  rw [e]; rfl
theorem run_H : ∀ (S : List Sp) (D : Desk), D.stop = false → (S.foldl (stepS l t hs) D).calls = D.calls ++ (runH hs S).map (mkC l t) ∧ (S.foldl (stepS l t hs) D).heard = putAll (runH hs S) D.heard
  | [], D, _ => ⟨by simp [runH], rfl⟩
  | s :: r, D, h => by
    rw [List.foldl_cons, step_eq h, runH]
    cases e : (atH hs s).any He.stops with
    | true =>
      rw [step_stuck (D := ⟨_, _, true⟩) rfl, if_pos rfl, List.append_nil]
      exact ⟨rfl, rfl⟩
    | false =>
      have ih := run_H r ⟨D.calls ++ (atH hs s).map (mkC l t), putAll (atH hs s) D.heard, false⟩ rfl
      rw [ih.1, ih.2, if_neg (by simp)]
      exact ⟨by rw [List.map_append, List.append_assoc], by unfold putAll; rw [List.foldl_append]⟩
theorem runD_calls : (runD l t hs).calls = (runH hs (stopsL l t)).map (mkC l t) := by
  unfold runD; rw [(run_H (stopsL l t) desk0 rfl).1]; rfl
theorem runH_mem {h : He} : ∀ {S : List Sp}, h ∈ runH hs S → h ∈ hs ∧ ∃ s ∈ S, h.pl = s.at_ ∧ h.down = s.down
  | s :: r, hm => by
    rw [runH] at hm
    rcases List.mem_append.1 hm with hm | hm
    · obtain ⟨a, b⟩ := atH_mem.1 hm
      exact ⟨a, s, .head _, b⟩
    · split at hm
      · cases hm
      · obtain ⟨a, s', b, c⟩ := runH_mem hm
        exact ⟨a, s', .tail _ b, c⟩
end
def Dist (hs : List He) : Prop := ∀ i j, i < hs.length → j < hs.length → (hs.getD i default).id = (hs.getD j default).id → i = j
theorem chk_dist {hs : List He} {p : Int} (h : chkHe hs p = 0) : Dist hs := fun i j hi hj e => by
  have key : ∀ a b, a < b → b < hs.length → (hs.getD a default).id ≠ (hs.getD b default).id := fun a b hab hb e => by
    have := (chk_all h hb).2
    rw [List.any_eq_false] at this
    refine this (hs.getD a default) ?_ (decide_eq_true e)
    rw [getD_lt (by omega)]
    exact List.mem_iff_getElem.2 ⟨a, by rw [List.length_take]; omega, by rw [List.getElem_take]⟩
  rcases Nat.lt_trichotomy i j with q | q | q
  · exact absurd e (key i j q hj)
  · exact q
  · exact absurd e.symm (key j i q hi)
theorem dist_eq {hs : List He} (D : Dist hs) {a b : He} (ha : a ∈ hs) (hb : b ∈ hs) (e : a.id = b.id) : a = b := by
  obtain ⟨i, hi, rfl⟩ := getD_of_mem default ha
  obtain ⟨j, hj, rfl⟩ := getD_of_mem default hb
  rw [D i j hi hj e]
def heOf (hs : List He) (j : Int) : He := hs.getD (idxF (fun x => decide (x.id = j)) hs).toNat default
theorem heOf_in {hs : List He} (D : Dist hs) {h : He} (hm : h ∈ hs) : (0 ≤ idxF (fun x => decide (x.id = h.id)) hs ∧ idxF (fun x => decide (x.id = h.id)) hs < (hs.length : Int)) ∧ heOf hs h.id = h := by
  obtain ⟨i, hi, rfl⟩ := getD_of_mem default hm
  rcases idxF_cases (fun x => decide (x.id = (hs.getD i default).id)) default hs with ⟨_, ha⟩ | ⟨n, e, hn, hp, _⟩
  · have := ha _ (mem_getD (d := default) hi)
    rw [decide_eq_true rfl] at this; cases this
  · have hp : (hs.getD n default).id = (hs.getD i default).id := of_decide_eq_true hp
    refine ⟨by rw [e]; omega, ?_⟩
    unfold heOf
    rw [e, show ((n : Int)).toNat = n by omega, D n i hn hi hp]
section
variable {l : List Nd} {hs : List He} {t : Hd} {i : Nat}
end
theorem disp_ok {l : List Nd} {hs : List He} {t : Hd} (e : (dispSt l hs t).2.2 = 0) : firstSt l [t] = 0 ∧ chkHe hs (l.length : Int) = 0 := by
  have h0 : firstSt l [t] = 0 := Classical.byContradiction fun q => by rw [disp_1 q] at e; exact q e
  exact ⟨h0, Classical.byContradiction fun q => by rw [disp_2 h0 q] at e; exact q e⟩
theorem disp_len {l : List Nd} {hs : List He} {t : Hd} (h0 : firstSt l [t] = 0) (hk : chkHe hs (l.length : Int) = 0) : (dispSt l hs t).1.length ≤ 48 * 25 := by
  rw [disp_3 h0 hk]
  have h1 := line_len25 (first1 h0).1 t.pl
  have h2 := checkSt_len (first1 h0).1
  have h3 := runS_len (l := l) (t := t.pl) (hs := hs) (i := (stopsL l t.pl).length) (chk_len hk)
  rw [List.take_length] at h3
  have h4 : (runD l t.pl hs).calls.length ≤ 48 * (line l t.pl).length := h3
  show (runD l t.pl hs).calls.length ≤ _
  omega
end Go.Proofs.Ytmcdamcedemdiaa
namespace Go.Proofs.Ytmcdamcedemdiaa
open Go.RowKit Go.Eng
def er (h : He) : He := { h with stops := false }
theorem filter_set {p : He → Bool} : ∀ {L : List He} {k : Nat} {x : He}, p (L.getD k default) = false → p x = false → (L.set k x).filter p = L.filter p
  | [], _, _, _, _ => rfl
  | h :: r, 0, x, h1, h2 => by
    have h1 : p h = false := h1
    show (x :: r).filter p = _
    rw [List.filter_cons_of_neg (ff h2), List.filter_cons_of_neg (ff h1)]
  | h :: r, k + 1, x, h1, h2 => by
    show (h :: r.set k x).filter p = _
    have ih := filter_set (L := r) (k := k) (x := x) h1 h2
    by_cases q : p h = true
    · rw [List.filter_cons_of_pos q, List.filter_cons_of_pos q, ih]
    · rw [List.filter_cons_of_neg q, List.filter_cons_of_neg q, ih]
theorem map_er_set : ∀ {L : List He} {k : Nat} {x : He}, er x = er (L.getD k default) → (L.set k x).map er = L.map er
  | [], _, _, _ => rfl
  | h :: r, 0, x, e => by
    have e : er x = er h := e
    show er x :: r.map er = er h :: r.map er
    rw [e]
  | h :: r, k + 1, x, e => by
    show er h :: (r.set k x).map er = er h :: r.map er
    rw [map_er_set (L := r) (k := k) e]
theorem filter_er (L : List He) (s : Sp) : (atH L s).map er = (L.map er).filter fun h => decide (h.pl = s.at_) && (h.down == s.down) := by
  unfold atH; rw [List.filter_map]; rfl
theorem atH_er {L M : List He} (e : L.map er = M.map er) (s : Sp) : (atH L s).map er = (atH M s).map er := by rw [filter_er, filter_er, e]
section
variable {L : List He} {k : Nat}
def onH (L : List He) (k : Nat) : List He := L.set k { (L.getD k default) with stops := true }
def offH (L : List He) (k : Nat) : List He := L.set k { (L.getD k default) with stops := false }
def theH (L : List He) (k : Nat) : He := { (L.getD k default) with stops := true }
theorem on_len : (onH L k).length = L.length := List.length_set
theorem on_at (hk : k < L.length) (i : Nat) : (onH L k).getD i default = if i = k then theH L k else L.getD i default := by
  unfold onH theH
  by_cases e : i = k
  · subst e; rw [if_pos rfl, getD_setS hk]
  · rw [if_neg e]
    simp only [List.getD_eq_getElem?_getD]
    rw [List.getElem?_set_ne (fun q => e q.symm)]
theorem on_mem (hk : k < L.length) : theH L k ∈ onH L k := by
  have := mem_getD (l := onH L k) (d := default) (i := k) (by rw [on_len]; exact hk)
  rwa [on_at hk, if_pos rfl] at this
theorem on_er : (onH L k).map er = (offH L k).map er := by
  unfold onH offH
  exact (map_er_set (x := { (L.getD k default) with stops := true }) rfl).trans (map_er_set (x := { (L.getD k default) with stops := false }) rfl).symm
theorem two_no {s : Sp} (h : ¬ ((theH L k).pl = s.at_ ∧ (theH L k).down = s.down)) : atH (onH L k) s = atH (offH L k) s := by
  have q : (decide ((L.getD k default).pl = s.at_) && ((L.getD k default).down == s.down)) = false := by
    rw [Bool.eq_false_iff]
    intro c
    rw [Bool.and_eq_true, decide_eq_true_eq, beq_iff_eq] at c
    exact h c
  unfold atH onH offH
  exact (filter_set (p := fun h => decide (h.pl = s.at_) && (h.down == s.down)) (x := { (L.getD k default) with stops := true }) q q).trans (filter_set (p := fun h => decide (h.pl = s.at_) && (h.down == s.down)) (x := { (L.getD k default) with stops := false }) q q).symm
theorem run_two (hk : k < L.length) : ∀ S : List Sp, (∃ R, (runH (offH L k) S).map er = (runH (onH L k) S).map er ++ R) ∧ (¬ theH L k ∈ runH (onH L k) S → (runH (onH L k) S).map er = (runH (offH L k) S).map er) ∧
    (runH (onH L k) S).Pairwise fun a b => a = theH L k → b.pl = a.pl ∧ b.down = a.down
  | [] => ⟨⟨[], rfl⟩, fun _ => rfl, List.Pairwise.nil⟩
  | s :: r => by
    rw [runH, runH]
    by_cases q : (theH L k).pl = s.at_ ∧ (theH L k).down = s.down
    · have hm : theH L k ∈ atH (onH L k) s := atH_mem.2 ⟨on_mem hk, q⟩
      have hs : (atH (onH L k) s).any He.stops = true := List.any_eq_true.2 ⟨_, hm, rfl⟩
      rw [if_pos hs, List.append_nil]
      refine ⟨⟨_, by rw [List.map_append, atH_er on_er]⟩, fun n => absurd hm n, ?_⟩
      rw [List.pairwise_iff_getElem]
      intro i j hi hj hij _
      have a1 := (atH_mem.1 (List.getElem_mem hi)).2
      have a2 := (atH_mem.1 (List.getElem_mem hj)).2
      exact ⟨by rw [a1.1, a2.1], by rw [a1.2, a2.2]⟩
    · rw [two_no q]
      have pw : (atH (offH L k) s).Pairwise fun a b => a = theH L k → b.pl = a.pl ∧ b.down = a.down := by
        rw [List.pairwise_iff_getElem]
        intro i j hi hj hij _
        have a1 := (atH_mem.1 (List.getElem_mem hi)).2
        have a2 := (atH_mem.1 (List.getElem_mem hj)).2
        exact ⟨by rw [a1.1, a2.1], by rw [a1.2, a2.2]⟩
      cases c : (atH (offH L k) s).any He.stops with
      | true =>
        rw [if_pos rfl, if_pos rfl, List.append_nil]
        exact ⟨⟨[], by rw [List.append_nil]⟩, fun _ => rfl, pw⟩
      | false =>
        rw [if_neg (by simp), if_neg (by simp)]
        obtain ⟨⟨R, i1⟩, i2, i3⟩ := run_two hk r
        refine ⟨⟨R, by rw [List.map_append, List.map_append, i1, List.append_assoc]⟩, fun n => ?_, ?_⟩
        · rw [List.map_append, List.map_append, i2 fun m => n (List.mem_append_right _ m)]
        · rw [List.pairwise_append]
          refine ⟨pw, i3, fun a ha b hb e => ?_⟩
          subst e
          exact absurd (atH_mem.1 ha).2 q
end
theorem map_mkC_er (l : List Nd) (t : Int) (L : List He) : (L.map er).map (mkC l t) = L.map (mkC l t) := by rw [List.map_map]; rfl
section
variable {l : List Nd} {L : List He} {t : Hd} {k : Nat}
theorem calls_eq {hs : List He} (h0 : firstSt l [t] = 0) (hk : chkHe hs (l.length : Int) = 0) : (dispSt l hs t).1 = (runH hs (stopsL l t.pl)).map (mkC l t.pl) := by rw [disp_3 h0 hk]; exact runD_calls
theorem stops_1 (hk : k < L.length) (h0 : firstSt l [t] = 0) (ha : chkHe (onH L k) (l.length : Int) = 0) (hb : chkHe (offH L k) (l.length : Int) = 0) :
    (dispSt l (onH L k) t).1.length ≤ (dispSt l (offH L k) t).1.length ∧ (dispSt l (onH L k) t).1 = (dispSt l (offH L k) t).1.take (dispSt l (onH L k) t).1.length := by
  obtain ⟨⟨R, e⟩, _, _⟩ := run_two hk (stopsL l t.pl)
  have q : (dispSt l (offH L k) t).1 = (dispSt l (onH L k) t).1 ++ R.map (mkC l t.pl) := by
    rw [calls_eq h0 hb, calls_eq h0 ha, ← map_mkC_er, e, List.map_append, map_mkC_er]
  rw [q]
  exact ⟨by rw [List.length_append]; omega, by rw [List.take_left']; rfl⟩
theorem stops_3 (hk : k < L.length) (h0 : firstSt l [t] = 0) (ha : chkHe (onH L k) (l.length : Int) = 0) (hb : chkHe (offH L k) (l.length : Int) = 0) (n : ∀ c ∈ (dispSt l (onH L k) t).1, c.id ≠ (theH L k).id) :
    (dispSt l (onH L k) t).1 = (dispSt l (offH L k) t).1 := by
  obtain ⟨_, i2, _⟩ := run_two hk (stopsL l t.pl)
  rw [calls_eq h0 ha] at n
  rw [calls_eq h0 ha, calls_eq h0 hb, ← map_mkC_er, i2 fun m => n _ (List.mem_map_of_mem m) rfl, map_mkC_er]
theorem on_dist (hk : k < L.length) (D : Dist (onH L k)) : Dist L := fun i j hi hj e => D i j (by rw [on_len]; exact hi) (by rw [on_len]; exact hj) (by
  have key : ∀ i, ((onH L k).getD i default).id = (L.getD i default).id := fun i => by
    rw [on_at hk]; split
    · rename_i q; rw [q]; rfl
    · rfl
  rw [key, key, e])
theorem on_find (hk : k < L.length) (D : Dist L) {y : He} (hy : y ∈ onH L k) : heOf L y.id ∈ L ∧ (heOf L y.id).id = y.id ∧ (heOf L y.id).down = y.down ∧ (0 ≤ idxF (fun x => decide (x.id = y.id)) L ∧ idxF (fun x => decide (x.id = y.id)) L < (L.length : Int)) := by
  obtain ⟨n, hn, e⟩ := getD_of_mem default hy
  rw [on_len] at hn
  have hm : L.getD n default ∈ L := mem_getD hn
  have q : y.id = (L.getD n default).id ∧ y.down = (L.getD n default).down := by
    rw [← e, on_at hk]; split
    · rename_i q; rw [q]; exact ⟨rfl, rfl⟩
    · exact ⟨rfl, rfl⟩
  have h1 := heOf_in D hm
  rw [q.1, q.2, h1.2]
  exact ⟨hm, rfl, rfl, h1.1⟩
theorem stops_2 (hk : k < L.length) (h0 : firstSt l [t] = 0) (ha : chkHe (onH L k) (l.length : Int) = 0) {i j : Nat} (hij : i < j) (hj : j < (dispSt l (onH L k) t).1.length) (e : ((dispSt l (onH L k) t).1.getD i default).id = (theH L k).id) :
    ((dispSt l (onH L k) t).1.getD j default).at_ = ((dispSt l (onH L k) t).1.getD i default).at_ ∧ (heOf L ((dispSt l (onH L k) t).1.getD j default).id).down = (L.getD k default).down ∧
      (0 ≤ idxF (fun x => decide (x.id = ((dispSt l (onH L k) t).1.getD j default).id)) L ∧ idxF (fun x => decide (x.id = ((dispSt l (onH L k) t).1.getD j default).id)) L < (L.length : Int)) := by
  obtain ⟨_, _, P⟩ := run_two hk (stopsL l t.pl)
  have D := chk_dist ha
  rw [calls_eq h0 ha] at hj e ⊢
  rw [List.length_map] at hj
  have hi : i < (runH (onH L k) (stopsL l t.pl)).length := by omega
  have g : ∀ {i : Nat} (hi : i < (runH (onH L k) (stopsL l t.pl)).length), ((runH (onH L k) (stopsL l t.pl)).map (mkC l t.pl)).getD i default = mkC l t.pl (runH (onH L k) (stopsL l t.pl))[i] := fun hi => by
    rw [getD_lt (by rw [List.length_map]; exact hi), List.getElem_map]
  rw [g hi] at e
  rw [g hi, g hj]
  have ei : (runH (onH L k) (stopsL l t.pl))[i] = theH L k := dist_eq D (runH_mem (List.getElem_mem hi)).1 (on_mem hk) e
  rw [List.pairwise_iff_getElem] at P
  have p := P i j hi hj hij ei
  have y := on_find hk (on_dist hk D) (runH_mem (List.getElem_mem hj)).1
  refine ⟨p.1, ?_, y.2.2.2⟩
  show (heOf L (runH (onH L k) (stopsL l t.pl))[j].id).down = _
  rw [y.2.2.1, p.2, ei]; rfl
theorem ends_ok (hk : k < L.length) (h0 : firstSt l [t] = 0) (ha : chkHe (onH L k) (l.length : Int) = 0) (hb : chkHe (offH L k) (l.length : Int) = 0) :
    (decide (0 ≤ idxF (fun c : Ca => decide (c.id = ((onH L k).getD k default).id)) (dispSt l (onH L k) t).1) || decide ((dispSt l (onH L k) t).1 = (dispSt l (offH L k) t).1)) = true := by
  rw [idxF_any]
  cases q : (dispSt l (onH L k) t).1.any (fun c : Ca => decide (c.id = ((onH L k).getD k default).id)) with
  | true => rfl
  | false =>
    rw [Bool.false_or, decide_eq_true_iff]
    rw [List.any_eq_false] at q
    refine stops_3 hk h0 ha hb fun c hc e => q c hc (decide_eq_true ?_)
    rw [on_at hk, if_pos rfl]; exact e
end
theorem he_len {l : List He} (o : l.length * 24 ≤ reachBytes ∧ l.length ≤ maxLen ∧ ∀ x ∈ l, okHe x) : l.length ≤ 5864062014634 := by
  have h := o.1
  have e : reachBytes = 140737488351232 := by decide +kernel
  omega
end Go.Proofs.Ytmcdamcedemdiaa
namespace Go.Proofs.Ytmcdamcedemdiaa
open Go.RowKit Go.Eng
theorem idxf89_ct {f : FuncId} {caps : List SV} (p : Ca → Bool) (hE : Enters Try.prog f) (hro : allRO caps = true) (hC : ∀ x, Ct Try.prog f ([.agg 4 (caCell x)] ++ caps) (bv (p x))) (l : List Ca) : Ct Try.prog 89 [caRow l, fnA f caps] (iv (idxF p l)) := by
 refine CtO 19 Try.func89 rfl rfl rfl fun E => Rl (V (s := 0) rfl) fun hl0 => Sq <| Rq <| O (As K) <| Nq <| Sq <| Sq <| Rq <| O (Mv (V rfl)) <| O (Ln (V rfl) ts46) <| O (Mv K) <| Nq <| Bo <| Lo (fun (i : Nat) => ⟨[(0, caRow l), (1, fnA f caps), (7, iv ((l.length : Int))), (8, iv ((i : Int)))], []⟩) (fun (i : Nat) => i ≤ l.length ∧ ∀ j, j < i → p (l.getD j default) = false) (fun (i : Nat) => l.length - i) 0 (by show 0 ≤ l.length ∧ ∀ j, j < 0 → p (l.getD j default) = false; exact ⟨Nat.zero_le _, fun j hj => absurd hj (Nat.not_lt_zero _)⟩) (We (Vs rfl) Z) <| ?_
 ·rintro i hI1
  have hJ1 : i ≤ l.length ∧ ∀ j, j < i → p (l.getD j default) = false := hI1
  have hi1 := hJ1.1
  have hall := hJ1.2
  refine Sq <| Rq <| O (Lt (V rfl) (V rfl)) <| Nq <| Sq <| Cd (V rfl) (fun hc1 => ?_) (fun hc1 => ?_)
  ·have hc1s := hc1; try simp only [BL] at hc1s
   refine Sk <| Sq <| Bo <| Sq <| Rq <| O (Mv (V rfl)) <| O (As (V rfl)) <| Nq <| Sq <| Rq <| O (Mv (V rfl)) <| O (Mv (V rfl)) <| O (Mv (V rfl)) <| O (IxN (i := i) (V rfl) (V rfl) ts46 te46 (by clear hall hJ1 hI1; omega)) <| O (LdA (V rfl) Ga51 Sz51 (by decide)) <| CQv (args := [SV.agg 4 (caCell ⟨(l.getD i default).id, (l.getD i default).at_, (l.getD i default).tgt, (l.getD i default).ph⟩)]) (caps := caps) (fnval_A (V rfl)) hro hE (by exact ⟨⟨(Vi (g' := caCell ⟨(l.getD i default).id, (l.getD i default).at_, (l.getD i default).tgt, (l.getD i default).ph⟩) (V rfl) ⟨⟨⟨⟨Z, Ir⟩, Ir⟩, Ir⟩, Ir⟩), rfl⟩, Z⟩) (hC (l.getD i default)) <| Nq <| Cd (V rfl) (fun hc2 => ?_) (fun hc2 => ?_)
   ·have hc2s := hc2; try simp only [BL] at hc2s
    exact Sq <| Rq <| O (Mv (V rfl)) <| O (As (V rfl)) <| Nq <| Rx <| R1 rfl (V rfl) rfl (by show iv ((i : Int)) = iv (idxF p l); rw [idxF_hit default (by clear hall hJ1 hI1; omega) hall hc2])
   ·have hc2s := hc2; try simp only [BL] at hc2s
    exact Sk <| Rq <| O (Ad (V rfl) K (by clear hall hJ1 hI1; omega)) <| O (Mv (V rfl)) <| Nq <| Nx (i + 1) (by show (i + 1) ≤ l.length ∧ ∀ j, j < (i + 1) → p (l.getD j default) = false; exact ⟨by clear hall hJ1 hI1; omega, idxF_s hall hc2⟩) (by show l.length - (i + 1) < l.length - i; clear hall hJ1 hI1; omega) (We (Vs rfl) Z)
  ·have hc1s := hc1; try simp only [BL] at hc1s
   exact Ex <| Sq <| Rq <| O (As K) <| Nq <| Rx <| R1 rfl (V rfl) rfl (by show iv ((-1)) = iv (idxF p l); rw [idxF_none default hall (by clear hall hJ1 hI1; omega)])
theorem onK_ct (x : Ca) (A : List He) (k : Int) (hk : 0 ≤ k ∧ k < (A.length : Int)) : Ct Try.prog 90 [SV.agg 4 (caCell x), elB [heRow A] 0, elB [iv (k)] 0] (bv (decide (x.id = (A.getD (Int.toNat k) default).id))) := by
 exact CtO 13 Try.func90 rfl rfl rfl fun E => Sq <| Rt <| BxA 1 (V rfl) rfl rfl <| U (As K) <| Nt <| Sq <| Rqd (by kernel_rfl) (by kernel_rfl) <| O (FlB _ _ (V rfl) Un51 rfl 0 Sz3) <| O (LdB (V rfl) rfl Ga3 (by decide)) <| O (Ld (V rfl) Ga45 (by show 0 < 1; decide)) <| O (Ld (V rfl) Ga3 (by show 0 < 1; decide)) <| O (Ix (V rfl) (V rfl) ts45 te45 (by omega) (by omega)) <| O (Fl _ _ (V rfl) Un54 rfl 0 Sz3) <| O (Ld (V rfl) Ga3 (by decide)) <| O (Ql (V rfl) (V rfl)) <| O (As (V rfl)) <| Nq <| Rx <| R1 rfl (V rfl) rfl (by show bv (decide (x.id = (A.getD (Int.toNat k) default).id)) = bv (decide (x.id = (A.getD (Int.toNat k) default).id)); rfl)
theorem offK_ct (x : He) (A : List Ca) (j : Nat) (hj : j < A.length) : Ct Try.prog 91 [SV.agg 5 (heCell x), elB [caRow A] 0, elB [iv ((j : Int))] 0] (bv (decide (x.id = (A.getD j default).id))) := by
 exact CtO 13 Try.func91 rfl rfl rfl fun E => Sq <| Rt <| BxA 1 (V rfl) rfl rfl <| U (As K) <| Nt <| Sq <| Rqd (by kernel_rfl) (by kernel_rfl) <| O (FlB _ _ (V rfl) Un54 rfl 0 Sz3) <| O (LdB (V rfl) rfl Ga3 (by decide)) <| O (Ld (V rfl) Ga46 (by show 0 < 1; decide)) <| O (Ld (V rfl) Ga3 (by show 0 < 1; decide)) <| O (IxN (i := j) (V rfl) (V rfl) ts46 te46 (by omega)) <| O (Fl _ _ (V rfl) Un51 rfl 0 Sz3) <| O (Ld (V rfl) Ga3 (by decide)) <| O (Ql (V rfl) (V rfl)) <| O (As (V rfl)) <| Nq <| Rx <| R1 rfl (V rfl) rfl (by show bv (decide (x.id = (A.getD j default).id)) = bv (decide (x.id = (A.getD j default).id)); rfl)
theorem eventStops_ct (l : List Nd) (hs : List He) (t : Hd) (k : Int) (hb : ∀ n ∈ l, n.kids.length ≤ 17592186043904) (hl : hs.length ≤ 5864062014634) : Ct Try.prog 19 [SV.agg 1 (stG l), heRow hs, SV.agg 2 (hdCell t), iv (k)] (bv true) := by
 refine CtO 130 Try.func19 rfl rfl rfl fun E => row_lenA 0 (V (s := 0) rfl) rfl rfl fun hl0_0 => Rl (V (s := 1) rfl) fun hl1 => Sq <| Rt <| BxA 1 (V rfl) rfl rfl <| BxA 2 (V rfl) rfl rfl <| Bx1 3 (V rfl) rfl rfl rfl <| U (As K) <| Nt <| Sq <| Sq <| Rq <| O (Mv (V rfl)) <| O (Ln (V rfl) ts45) <| O (Ql (V rfl) K) <| Nq <| Cd (V rfl) (fun hc1 => ?_) (fun hc1 => ?_)
 ·have hc1s := hc1; try simp only [BL] at hc1s
  exact Sq <| Rq <| O (As K) <| Nq <| Rx <| R1 rfl (V rfl) rfl (by show bv (true) = bv true; rfl)
 ·have hc1s := hc1; try simp only [BL] at hc1s
  have hki : 0 ≤ (atI k (hs.length : Int)) ∧ (atI k (hs.length : Int)) < (hs.length : Int) := atI_in k (by omega)
  have hkn : (Int.toNat (atI k (hs.length : Int))) < hs.length := by omega
  refine Sk <| Sq <| Rt <| U (LdB (V rfl) rfl Ga3 (by decide)) <| U (Mv (V rfl)) <| U (Ln (V rfl) ts45) <| CT en42 (by exact ⟨⟨(V rfl), rfl⟩, ⟨(V rfl), rfl⟩, Z⟩) (at_ct (k) ((hs.length : Int)) (by first | assumption | omega) (by omega)) <| St1 (V rfl) rfl (V rfl) rfl Sz3 (by decide) <| Nt <| Sq <| Rt <| U (Mv (V rfl)) <| CM (cargs := [heRow hs]) [] [(0, 4)] en87 (mv0 (by exact ⟨⟨(V rfl), rfl⟩, Z⟩)) (cloneH_ct hs (by omega)) (by exact Z) rfl rfl rfl rfl <| U (Mv (V rfl)) <| CM (cargs := [heRow hs]) [] [(0, 5)] en87 (mv0 (by exact ⟨⟨(V rfl), rfl⟩, Z⟩)) (cloneH_ct hs (by omega)) (by exact Z) rfl rfl rfl rfl <| Al 6 zero45 rfl rfl <| t_st1V (V rfl) rfl (V rfl) (one_own rfl) Sz45 (by decide) <| U (As (V rfl)) <| Nt <| Sq <| c_rd (fun e => ⟨[(31, cj (e 0) (SV.own 4)), (32, cj (e 1) (iv (atI (k) ((hs.length : Int))))), (33, cj (e 2) (SV.own 5)), (34, cj (e 3) (iv (atI (k) ((hs.length : Int))))), (35, cj (e 4) (SV.oe 4 5 (Int.toNat (atI (k) ((hs.length : Int)))) 0)), (36, cj (e 5) (SV.oe 4 5 (Int.toNat (atI (k) ((hs.length : Int)))) 3)), (37, cj (e 7) (SV.oe 5 5 (Int.toNat (atI (k) ((hs.length : Int)))) 0)), (38, cj (e 8) (SV.oe 5 5 (Int.toNat (atI (k) ((hs.length : Int)))) 3)), (1, heRow hs), (4, SV.bp 1 0), (6, SV.bp 2 0), (7, SV.bp 3 0), (9, SV.bp 6 0), (10, SV.own 5)], (cb (e 6) (cb (e 9) [(1, Own.box 1 (stG l) 24), (2, Own.box 2 (hdCell t) 26), (3, Own.box 1 (upd (fun _ => iv (k)) 0 (iv (atI (k) ((hs.length : Int))))) 3), (4, ownOf heCell 5 default (hs.set (Int.toNat (atI (k) ((hs.length : Int)))) ({ (hs.getD (Int.toNat (atI (k) ((hs.length : Int)))) default) with stops := true })) 54), (5, ownOf heCell 5 default (hs.set (Int.toNat (atI (k) ((hs.length : Int)))) ({ (hs.getD (Int.toNat (atI (k) ((hs.length : Int)))) default) with stops := false })) 54), (6, Own.box 1 (upd (cmpG [SV.v (Value.slice none 0 0)]) 0 (SV.own 4)) 45)] [(1, Own.box 1 (stG l) 24), (2, Own.box 2 (hdCell t) 26), (3, Own.box 1 (upd (fun _ => iv (k)) 0 (iv (atI (k) ((hs.length : Int))))) 3), (4, ownOf heCell 5 default (hs.set (Int.toNat (atI (k) ((hs.length : Int)))) ({ (hs.getD (Int.toNat (atI (k) ((hs.length : Int)))) default) with stops := true })) 54), (5, ownOf heCell 5 default hs 54), (6, Own.box 1 (upd (cmpG [SV.v (Value.slice none 0 0)]) 0 (SV.own 4)) 45)]) (cb (e 9) [] [(1, Own.box 1 (stG l) 24), (2, Own.box 2 (hdCell t) 26), (3, Own.box 1 (upd (fun _ => iv (k)) 0 (iv (atI (k) ((hs.length : Int))))) 3), (4, ownOf heCell 5 default hs 54), (5, ownOf heCell 5 default hs 54), (6, Own.box 1 (upd (cmpG [SV.v (Value.slice none 0 0)]) 0 (SV.own 4)) 45)]))⟩) ⟨[(31, SV.own 4), (32, iv (atI (k) ((hs.length : Int)))), (33, SV.own 5), (34, iv (atI (k) ((hs.length : Int)))), (35, SV.oe 4 5 (Int.toNat (atI (k) ((hs.length : Int)))) 0), (36, SV.oe 4 5 (Int.toNat (atI (k) ((hs.length : Int)))) 3), (37, SV.oe 5 5 (Int.toNat (atI (k) ((hs.length : Int)))) 0), (38, SV.oe 5 5 (Int.toNat (atI (k) ((hs.length : Int)))) 3), (1, heRow hs), (4, SV.bp 1 0), (6, SV.bp 2 0), (7, SV.bp 3 0), (9, SV.bp 6 0), (10, SV.own 5)], [(1, Own.box 1 (stG l) 24), (2, Own.box 2 (hdCell t) 26), (3, Own.box 1 (upd (fun _ => iv (k)) 0 (iv (atI (k) ((hs.length : Int))))) 3), (4, ownOf heCell 5 default (hs.set (Int.toNat (atI (k) ((hs.length : Int)))) ({ (hs.getD (Int.toNat (atI (k) ((hs.length : Int)))) default) with stops := true })) 54), (5, ownOf heCell 5 default (hs.set (Int.toNat (atI (k) ((hs.length : Int)))) ({ (hs.getD (Int.toNat (atI (k) ((hs.length : Int)))) default) with stops := false })) 54), (6, Own.box 1 (upd (cmpG [SV.v (Value.slice none 0 0)]) 0 (SV.own 4)) 45)]⟩ (by kernel_rfl) (by kernel_rfl) ?_ ⟨?_, ?_, ?_, ?_, ?_, ?_, ?_, ?_, ?_, ?_, Z⟩ ?_ ?_
  ·show Weak _ _ ⟨[(31, SV.junk), (32, SV.junk), (33, SV.junk), (34, SV.junk), (35, SV.junk), (36, SV.junk), (37, SV.junk), (38, SV.junk), (1, heRow hs), (4, SV.bp 1 0), (6, SV.bp 2 0), (7, SV.bp 3 0), (9, SV.bp 6 0), (10, SV.own 5)], [(1, Own.box 1 (stG l) 24), (2, Own.box 2 (hdCell t) 26), (3, Own.box 1 (upd (fun _ => iv (k)) 0 (iv (atI (k) ((hs.length : Int))))) 3), (4, ownOf heCell 5 default hs 54), (5, ownOf heCell 5 default hs 54), (6, Own.box 1 (upd (cmpG [SV.v (Value.slice none 0 0)]) 0 (SV.own 4)) 45)]⟩
   refine We ?_ ?_
   ·exact ⟨Vj, Vj, Vj, Vj, Vj, Vj, Vj, Vj, V rfl, V rfl, V rfl, V rfl, V rfl, V rfl, Z⟩
   ·exact ⟨⟨_, rfl, ⟨rfl, rfl, (An rfl)⟩⟩, ⟨_, rfl, ⟨rfl, rfl, (An rfl)⟩⟩, ⟨_, rfl, ⟨rfl, rfl, (An rfl)⟩⟩, ⟨_, rfl, rfl⟩, ⟨_, rfl, rfl⟩, ⟨_, rfl, ⟨rfl, rfl, (An rfl)⟩⟩, Z⟩
  ·intro e hdn he hdp
   obtain ⟨-, -, h6, -, -, h9, -⟩ := dns1 hdn he [4, 5, 6, 7, 8, 9] (by kernel_rfl)
   simp only [setE, he, h6, h9, cj_t, cj_f, cjn_t, cjn_f, cb_t, cb_f]
   refine U (LdB (V rfl) rfl Ga45 (by decide)) <| Nt <| We ?_ ?_
   ·exact (Vs rfl)
   ·exact ⟨⟨_, rfl, ⟨rfl, rfl, (An rfl)⟩⟩, ⟨_, rfl, ⟨rfl, rfl, (An rfl)⟩⟩, ⟨_, rfl, ⟨rfl, rfl, (An rfl)⟩⟩, ⟨_, rfl, rfl⟩, ⟨_, rfl, rfl⟩, ⟨_, rfl, ⟨rfl, rfl, (An rfl)⟩⟩, Z⟩
  ·intro e hdn he hdp
   obtain ⟨-, -, h6, -, -, h9, -⟩ := dns1 hdn he [4, 5, 6, 7, 8, 9] (by kernel_rfl)
   simp only [setE, he, h6, h9, cj_t, cj_f, cjn_t, cjn_f, cb_t, cb_f]
   refine U (LdB (V rfl) rfl Ga3 (by decide)) <| Nt <| We ?_ ?_
   ·exact (Vs rfl)
   ·exact ⟨⟨_, rfl, ⟨rfl, rfl, (An rfl)⟩⟩, ⟨_, rfl, ⟨rfl, rfl, (An rfl)⟩⟩, ⟨_, rfl, ⟨rfl, rfl, (An rfl)⟩⟩, ⟨_, rfl, rfl⟩, ⟨_, rfl, rfl⟩, ⟨_, rfl, ⟨rfl, rfl, (An rfl)⟩⟩, Z⟩
  ·intro e hdn he hdp
   obtain ⟨-, -, h9, -⟩ := dns1 hdn he [7, 8, 9] (by kernel_rfl)
   simp only [setE, he, h9, cj_t, cj_f, cjn_t, cjn_f, cb_t, cb_f]
   exact U (Mv (V rfl)) <| Nt <| weakS ⟨V rfl, V rfl, V rfl, V rfl, V rfl, V rfl, V rfl, V rfl, V rfl, V rfl, V rfl, V rfl, V rfl, V rfl, Z⟩
  ·intro e hdn he hdp
   obtain ⟨-, -, h9, -⟩ := dns1 hdn he [7, 8, 9] (by kernel_rfl)
   cases hu6 : e 6
   ·simp only [setE, he, h9, hu6, cj_t, cj_f, cjn_t, cjn_f, cb_t, cb_f]
    refine U (LdB (V rfl) rfl Ga3 (by decide)) <| Nt <| We ?_ ?_
    ·exact (Vs rfl)
    ·exact ⟨⟨_, rfl, ⟨rfl, rfl, (An rfl)⟩⟩, ⟨_, rfl, ⟨rfl, rfl, (An rfl)⟩⟩, ⟨_, rfl, ⟨rfl, rfl, (An rfl)⟩⟩, ⟨_, rfl, rfl⟩, ⟨_, rfl, rfl⟩, ⟨_, rfl, ⟨rfl, rfl, (An rfl)⟩⟩, Z⟩
   ·simp only [setE, he, h9, hu6, cj_t, cj_f, cjn_t, cjn_f, cb_t, cb_f]
    refine U (LdB (V rfl) rfl Ga3 (by decide)) <| Nt <| We ?_ ?_
    ·exact (Vs rfl)
    ·exact ⟨⟨_, rfl, ⟨rfl, rfl, (An rfl)⟩⟩, ⟨_, rfl, ⟨rfl, rfl, (An rfl)⟩⟩, ⟨_, rfl, ⟨rfl, rfl, (An rfl)⟩⟩, ⟨_, rfl, rfl⟩, ⟨_, rfl, rfl⟩, ⟨_, rfl, ⟨rfl, rfl, (An rfl)⟩⟩, Z⟩
  ·intro e hdn he hdp
   obtain ⟨h1, h0, -⟩ := ups hdn [1, 0] hdp (by kernel_rfl)
   obtain ⟨-, h6, -, -, h9, -⟩ := dns1 hdn he [5, 6, 7, 8, 9] (by kernel_rfl)
   simp only [setE, h0, h1, he, h6, h9, cj_t, cj_f, cjn_t, cjn_f, cb_t, cb_f]
   refine U (IxO (V rfl) rfl (V rfl) ts45 te45 (by omega) (by omega)) <| Nt <| We ?_ ?_
   ·exact (Vs rfl)
   ·exact ⟨⟨_, rfl, ⟨rfl, rfl, (An rfl)⟩⟩, ⟨_, rfl, ⟨rfl, rfl, (An rfl)⟩⟩, ⟨_, rfl, ⟨rfl, rfl, (An rfl)⟩⟩, ⟨_, rfl, rfl⟩, ⟨_, rfl, rfl⟩, ⟨_, rfl, ⟨rfl, rfl, (An rfl)⟩⟩, Z⟩
  ·intro e hdn he hdp
   obtain ⟨h4, h1, h0, -⟩ := ups hdn [4, 1, 0] hdp (by kernel_rfl)
   obtain ⟨h6, -, -, h9, -⟩ := dns1 hdn he [6, 7, 8, 9] (by kernel_rfl)
   simp only [setE, h0, h1, h4, he, h6, h9, cj_t, cj_f, cjn_t, cjn_f, cb_t, cb_f]
   refine U (FlO _ _ (V rfl) Un54 rfl 0 Sz4) <| Nt <| We ?_ ?_
   ·exact (Vs rfl)
   ·exact ⟨⟨_, rfl, ⟨rfl, rfl, (An rfl)⟩⟩, ⟨_, rfl, ⟨rfl, rfl, (An rfl)⟩⟩, ⟨_, rfl, ⟨rfl, rfl, (An rfl)⟩⟩, ⟨_, rfl, rfl⟩, ⟨_, rfl, rfl⟩, ⟨_, rfl, ⟨rfl, rfl, (An rfl)⟩⟩, Z⟩
  ·intro e hdn he hdp
   obtain ⟨h5, h4, h1, h0, -⟩ := ups hdn [5, 4, 1, 0] hdp (by kernel_rfl)
   obtain ⟨h7, h8, h9, -⟩ := dns1 hdn he [7, 8, 9] (by kernel_rfl)
   simp only [setE, h0, h1, h4, h5, he, h7, h8, h9, cj_t, cj_f, cjn_t, cjn_f, cb_t, cb_f]
   have hidx0 : Int.toNat (atI (k) ((hs.length : Int))) < hs.length := by first | omega | (simp; omega)
   refine StO (rowG heCell default (hs.set (Int.toNat (atI (k) ((hs.length : Int)))) ({ (hs.getD (Int.toNat (atI (k) ((hs.length : Int)))) default) with stops := true }))) (V rfl) rfl K rfl rfl Sz4 (by decide) (show hs.length = (hs.set (Int.toNat (atI (k) ((hs.length : Int)))) ({ (hs.getD (Int.toNat (atI (k) ((hs.length : Int)))) default) with stops := true })).length from List.length_set.symm) (set_at hidx0 rfl) (set_typed hidx0 fun t ht hne => match t, ht, hne with | 0, _, _ => rfl | 1, _, _ => rfl | 2, _, _ => rfl | 3, _, hne => absurd rfl hne | 4, _, _ => rfl) <| Nt <| We ?_ ?_
   ·exact ⟨V rfl, V rfl, V rfl, V rfl, V rfl, V rfl, Vj, Vj, V rfl, V rfl, V rfl, V rfl, V rfl, V rfl, Z⟩
   ·exact ⟨⟨_, rfl, ⟨rfl, rfl, (An rfl)⟩⟩, ⟨_, rfl, ⟨rfl, rfl, (An rfl)⟩⟩, ⟨_, rfl, ⟨rfl, rfl, (An rfl)⟩⟩, ⟨_, rfl, rfl⟩, ⟨_, rfl, rfl⟩, ⟨_, rfl, ⟨rfl, rfl, (An rfl)⟩⟩, Z⟩
  ·intro e hdn he hdp
   obtain ⟨h6, h5, h4, h3, h2, h1, h0, -⟩ := ups hdn [6, 5, 4, 3, 2, 1, 0] hdp (by kernel_rfl)
   obtain ⟨-, h9, -⟩ := dns1 hdn he [8, 9] (by kernel_rfl)
   simp only [setE, h0, h1, h2, h3, h4, h5, h6, he, h9, cj_t, cj_f, cjn_t, cjn_f, cb_t, cb_f]
   refine U (IxO (V rfl) rfl (V rfl) ts45 te45 (by omega) (by omega)) <| Nt <| We ?_ ?_
   ·exact (Vs rfl)
   ·exact ⟨⟨_, rfl, ⟨rfl, rfl, (An rfl)⟩⟩, ⟨_, rfl, ⟨rfl, rfl, (An rfl)⟩⟩, ⟨_, rfl, ⟨rfl, rfl, (An rfl)⟩⟩, ⟨_, rfl, rfl⟩, ⟨_, rfl, rfl⟩, ⟨_, rfl, ⟨rfl, rfl, (An rfl)⟩⟩, Z⟩
  ·intro e hdn he hdp
   obtain ⟨h7, h6, h5, h4, h3, h2, h1, h0, -⟩ := ups hdn [7, 6, 5, 4, 3, 2, 1, 0] hdp (by kernel_rfl)
   obtain ⟨h9, -⟩ := dns1 hdn he [9] (by kernel_rfl)
   simp only [setE, h0, h1, h2, h3, h4, h5, h6, h7, he, h9, cj_t, cj_f, cjn_t, cjn_f, cb_t, cb_f]
   refine U (FlO _ _ (V rfl) Un54 rfl 0 Sz4) <| Nt <| We ?_ ?_
   ·exact (Vs rfl)
   ·exact ⟨⟨_, rfl, ⟨rfl, rfl, (An rfl)⟩⟩, ⟨_, rfl, ⟨rfl, rfl, (An rfl)⟩⟩, ⟨_, rfl, ⟨rfl, rfl, (An rfl)⟩⟩, ⟨_, rfl, rfl⟩, ⟨_, rfl, rfl⟩, ⟨_, rfl, ⟨rfl, rfl, (An rfl)⟩⟩, Z⟩
  ·intro e hdn he hdp
   obtain ⟨h8, h7, h6, h5, h4, h3, h2, h1, h0, -⟩ := ups hdn [8, 7, 6, 5, 4, 3, 2, 1, 0] hdp (by kernel_rfl)
   simp only [setE, h0, h1, h2, h3, h4, h5, h6, h7, h8, he, cj_t, cj_f, cjn_t, cjn_f, cb_t, cb_f]
   have hidx1 : Int.toNat (atI (k) ((hs.length : Int))) < hs.length := by first | omega | (simp; omega)
   refine StO (rowG heCell default (hs.set (Int.toNat (atI (k) ((hs.length : Int)))) ({ (hs.getD (Int.toNat (atI (k) ((hs.length : Int)))) default) with stops := false }))) (V rfl) rfl K rfl rfl Sz4 (by decide) (show hs.length = (hs.set (Int.toNat (atI (k) ((hs.length : Int)))) ({ (hs.getD (Int.toNat (atI (k) ((hs.length : Int)))) default) with stops := false })).length from List.length_set.symm) (set_at hidx1 rfl) (set_typed hidx1 fun t ht hne => match t, ht, hne with | 0, _, _ => rfl | 1, _, _ => rfl | 2, _, _ => rfl | 3, _, hne => absurd rfl hne | 4, _, _ => rfl) <| Nt <| We ?_ ?_
   ·exact (Vs rfl)
   ·exact ⟨⟨_, rfl, ⟨rfl, rfl, (An rfl)⟩⟩, ⟨_, rfl, ⟨rfl, rfl, (An rfl)⟩⟩, ⟨_, rfl, ⟨rfl, rfl, (An rfl)⟩⟩, ⟨_, rfl, rfl⟩, ⟨_, rfl, rfl⟩, ⟨_, rfl, ⟨rfl, rfl, (An rfl)⟩⟩, Z⟩
  ·intro e he
   have h0 := he 0 (by decide)
   have h1 := he 1 (by decide)
   have h2 := he 2 (by decide)
   have h3 := he 3 (by decide)
   have h4 := he 4 (by decide)
   have h5 := he 5 (by decide)
   have h6 := he 6 (by decide)
   have h7 := he 7 (by decide)
   have h8 := he 8 (by decide)
   have h9 := he 9 (by decide)
   show Weak _ ⟨[(31, cj (e 0) (SV.own 4)), (32, cj (e 1) (iv (atI (k) ((hs.length : Int))))), (33, cj (e 2) (SV.own 5)), (34, cj (e 3) (iv (atI (k) ((hs.length : Int))))), (35, cj (e 4) (SV.oe 4 5 (Int.toNat (atI (k) ((hs.length : Int)))) 0)), (36, cj (e 5) (SV.oe 4 5 (Int.toNat (atI (k) ((hs.length : Int)))) 3)), (37, cj (e 7) (SV.oe 5 5 (Int.toNat (atI (k) ((hs.length : Int)))) 0)), (38, cj (e 8) (SV.oe 5 5 (Int.toNat (atI (k) ((hs.length : Int)))) 3)), (1, heRow hs), (4, SV.bp 1 0), (6, SV.bp 2 0), (7, SV.bp 3 0), (9, SV.bp 6 0), (10, SV.own 5)], (cb (e 6) (cb (e 9) [(1, Own.box 1 (stG l) 24), (2, Own.box 2 (hdCell t) 26), (3, Own.box 1 (upd (fun _ => iv (k)) 0 (iv (atI (k) ((hs.length : Int))))) 3), (4, ownOf heCell 5 default (hs.set (Int.toNat (atI (k) ((hs.length : Int)))) ({ (hs.getD (Int.toNat (atI (k) ((hs.length : Int)))) default) with stops := true })) 54), (5, ownOf heCell 5 default (hs.set (Int.toNat (atI (k) ((hs.length : Int)))) ({ (hs.getD (Int.toNat (atI (k) ((hs.length : Int)))) default) with stops := false })) 54), (6, Own.box 1 (upd (cmpG [SV.v (Value.slice none 0 0)]) 0 (SV.own 4)) 45)] [(1, Own.box 1 (stG l) 24), (2, Own.box 2 (hdCell t) 26), (3, Own.box 1 (upd (fun _ => iv (k)) 0 (iv (atI (k) ((hs.length : Int))))) 3), (4, ownOf heCell 5 default (hs.set (Int.toNat (atI (k) ((hs.length : Int)))) ({ (hs.getD (Int.toNat (atI (k) ((hs.length : Int)))) default) with stops := true })) 54), (5, ownOf heCell 5 default hs 54), (6, Own.box 1 (upd (cmpG [SV.v (Value.slice none 0 0)]) 0 (SV.own 4)) 45)]) (cb (e 9) [] [(1, Own.box 1 (stG l) 24), (2, Own.box 2 (hdCell t) 26), (3, Own.box 1 (upd (fun _ => iv (k)) 0 (iv (atI (k) ((hs.length : Int))))) 3), (4, ownOf heCell 5 default hs 54), (5, ownOf heCell 5 default hs 54), (6, Own.box 1 (upd (cmpG [SV.v (Value.slice none 0 0)]) 0 (SV.own 4)) 45)]))⟩ _
   simp only [h0, h1, h2, h3, h4, h5, h6, h7, h8, h9]
   show Weak _ ⟨[(31, SV.own 4), (32, iv (atI (k) ((hs.length : Int)))), (33, SV.own 5), (34, iv (atI (k) ((hs.length : Int)))), (35, SV.oe 4 5 (Int.toNat (atI (k) ((hs.length : Int)))) 0), (36, SV.oe 4 5 (Int.toNat (atI (k) ((hs.length : Int)))) 3), (37, SV.oe 5 5 (Int.toNat (atI (k) ((hs.length : Int)))) 0), (38, SV.oe 5 5 (Int.toNat (atI (k) ((hs.length : Int)))) 3), (1, heRow hs), (4, SV.bp 1 0), (6, SV.bp 2 0), (7, SV.bp 3 0), (9, SV.bp 6 0), (10, SV.own 5)], [(1, Own.box 1 (stG l) 24), (2, Own.box 2 (hdCell t) 26), (3, Own.box 1 (upd (fun _ => iv (k)) 0 (iv (atI (k) ((hs.length : Int))))) 3), (4, ownOf heCell 5 default (hs.set (Int.toNat (atI (k) ((hs.length : Int)))) ({ (hs.getD (Int.toNat (atI (k) ((hs.length : Int)))) default) with stops := true })) 54), (5, ownOf heCell 5 default (hs.set (Int.toNat (atI (k) ((hs.length : Int)))) ({ (hs.getD (Int.toNat (atI (k) ((hs.length : Int)))) default) with stops := false })) 54), (6, Own.box 1 (upd (cmpG [SV.v (Value.slice none 0 0)]) 0 (SV.own 4)) 45)]⟩ _
   refine We ?_ ?_
   ·exact ⟨V rfl, V rfl, V rfl, V rfl, V rfl, V rfl, V rfl, V rfl, V rfl, V rfl, V rfl, V rfl, V rfl, V rfl, Z⟩
   ·exact ⟨⟨_, rfl, ⟨rfl, rfl, (An rfl)⟩⟩, ⟨_, rfl, ⟨rfl, rfl, (An rfl)⟩⟩, ⟨_, rfl, ⟨rfl, rfl, (An rfl)⟩⟩, ⟨_, rfl, rfl⟩, ⟨_, rfl, rfl⟩, ⟨_, rfl, ⟨rfl, rfl, (An rfl)⟩⟩, Z⟩
  refine Sq <| FzC 4 rfl <| c_frzB 6 [heRow (hs.set (Int.toNat (atI (k) ((hs.length : Int)))) ({ (hs.getD (Int.toNat (atI (k) ((hs.length : Int)))) default) with stops := true }))] rfl rfl ⟨Z, rfl⟩ rfl <| FzC 5 rfl <| Rt <| U (LBA (V rfl) rfl Ga24 Sz24 (by decide)) <| U (Ld (V rfl) Ga45 (by show 0 < 1; decide)) <| U (LBA (V rfl) rfl Ga26 Sz26 (by decide)) <| CT en31 (by exact ⟨⟨(Vi (g' := stG l) (V rfl) ⟨Z, Ir⟩), rfl⟩, ⟨(V rfl), rfl⟩, ⟨(Vi (g' := hdCell ⟨t.pl, t.use⟩) (V rfl) ⟨⟨Z, Ir⟩, Ir⟩), rfl⟩, Z⟩) (disp_ct l (hs.set (Int.toNat (atI (k) ((hs.length : Int)))) ({ (hs.getD (Int.toNat (atI (k) ((hs.length : Int)))) default) with stops := true })) t (by first | assumption | exact kb_nil | exact kb_of (by assumption) | exact kb_of fam_c5)) <| U (Mv (V rfl)) <| U (Xt (V rfl) (by decide)) <| U (Xt (V rfl) (by decide)) <| U (Xt (V rfl) (by decide)) <| Al 7 zero46 rfl rfl <| St1 (V rfl) rfl (V rfl) rfl Sz46 (by decide) <| U (As (V rfl)) <| U (As (V rfl)) <| Nt <| Sq <| Rt <| U (LBA (V rfl) rfl Ga24 Sz24 (by decide)) <| U (Mv (V rfl)) <| U (LBA (V rfl) rfl Ga26 Sz26 (by decide)) <| CT en31 (by exact ⟨⟨(Vi (g' := stG l) (V rfl) ⟨Z, Ir⟩), rfl⟩, ⟨(V rfl), rfl⟩, ⟨(Vi (g' := hdCell ⟨t.pl, t.use⟩) (V rfl) ⟨⟨Z, Ir⟩, Ir⟩), rfl⟩, Z⟩) (disp_ct l (hs.set (Int.toNat (atI (k) ((hs.length : Int)))) ({ (hs.getD (Int.toNat (atI (k) ((hs.length : Int)))) default) with stops := false })) t (by first | assumption | exact kb_nil | exact kb_of (by assumption) | exact kb_of fam_c5)) <| U (Mv (V rfl)) <| U (Xt (V rfl) (by decide)) <| U (Xt (V rfl) (by decide)) <| U (Xt (V rfl) (by decide)) <| U (As (V rfl)) <| U (As (V rfl)) <| U (As (V rfl)) <| Nt <| Sq <| Sq <| Rt <| CT en32 (by exact Z) (happened_ct) <| U (Qo (V rfl)) <| U (Mv (V rfl)) <| Ug (Gn rfl rfl) (fun hg => Mv (V rfl)) <| Ug (Gn rfl rfl) (fun hg => Qn (Vg (V rfl) hg) K) <| ?_
  refine U (Qr (V rfl) (fun h => Vg (V rfl) (notT h))) <| U (Mv (V rfl)) <| Ug (Gn rfl rfl) (fun hg => Mv (V rfl)) <| Ug (Gn rfl rfl) (fun hg => Qn (Vg (V rfl) hg) K) <| U (Qr (V rfl) (fun h => Vg (V rfl) (notT h))) <| Nt <| Cd (V rfl) (fun hc2 => ?_) (fun hc2 => ?_)
  ·have hc2s := hc2; try simp only [BL] at hc2s
   exact Sq <| Rt <| CT en32 (by exact Z) (happened_ct) <| U (As (V rfl)) <| Nt <| Rx <| R1 rfl (V rfl) rfl (by show bv (true) = bv true; rfl)
  ·have hc2s := hc2; try simp only [BL] at hc2s
   have hdd : (dispSt l (hs.set (Int.toNat (atI k (hs.length : Int))) { (hs.getD (Int.toNat (atI k (hs.length : Int))) default) with stops := true }) t).2.2 = 0 ∧ (dispSt l (hs.set (Int.toNat (atI k (hs.length : Int))) { (hs.getD (Int.toNat (atI k (hs.length : Int))) default) with stops := false }) t).2.2 = 0 := by simpa using hc2
   have hf0 := (disp_ok hdd.1).1
   have hka := (disp_ok hdd.1).2
   have hkb := (disp_ok hdd.2).2
   have hAl : (dispSt l (hs.set (Int.toNat (atI k (hs.length : Int))) { (hs.getD (Int.toNat (atI k (hs.length : Int))) default) with stops := true }) t).1.length ≤ 48 * 25 := disp_len hf0 hka
   have hs1 := stops_1 hkn hf0 hka hkb
   have hs1a : (dispSt l (hs.set (Int.toNat (atI k (hs.length : Int))) { (hs.getD (Int.toNat (atI k (hs.length : Int))) default) with stops := true }) t).1.length ≤ (dispSt l (hs.set (Int.toNat (atI k (hs.length : Int))) { (hs.getD (Int.toNat (atI k (hs.length : Int))) default) with stops := false }) t).1.length := hs1.1
   have hs1b : (dispSt l (hs.set (Int.toNat (atI k (hs.length : Int))) { (hs.getD (Int.toNat (atI k (hs.length : Int))) default) with stops := true }) t).1 = List.take (dispSt l (hs.set (Int.toNat (atI k (hs.length : Int))) { (hs.getD (Int.toNat (atI k (hs.length : Int))) default) with stops := true }) t).1.length (dispSt l (hs.set (Int.toNat (atI k (hs.length : Int))) { (hs.getD (Int.toNat (atI k (hs.length : Int))) default) with stops := false }) t).1 := hs1.2
   refine Sk <| Sq <| Sq <| Rqd (by kernel_rfl) (by kernel_rfl) <| O (LdB (V rfl) rfl Ga46 (by decide)) <| O (Ln (V rfl) ts46) <| O (Mv (V rfl)) <| O (Ln (V rfl) ts46) <| O (Gt (V rfl) (V rfl)) <| O (Mv (V rfl)) <| Og (Gn rfl rfl) (fun hg => LdB (V rfl) rfl Ga46 (by decide)) <| Og (Gn rfl rfl) (fun hg => Mv (V rfl)) <| Og (Gn rfl rfl) (fun hg => LdB (V rfl) rfl Ga46 (by decide)) <| Og (Gn rfl rfl) (fun hg => Ln (Vg (V rfl) hg) ts46) <| Og (Gn rfl rfl) (fun hg => q_slHN (h := ((dispSt l (hs.set (Int.toNat (atI (k) ((hs.length : Int)))) ({ (hs.getD (Int.toNat (atI (k) ((hs.length : Int)))) default) with stops := true })) t).1).length) ts46 te46 (Vg (V rfl) hg) (Vg (V rfl) hg) (by omega)) <| CQg (Gn rfl rfl) en88 (fun hg => (by exact ⟨⟨(Vg (V rfl) hg), rfl⟩, ⟨(Vg (V rfl) hg), rfl⟩, Z⟩)) (fun hg => eqCa_ct ((dispSt l (hs.set (Int.toNat (atI (k) ((hs.length : Int)))) ({ (hs.getD (Int.toNat (atI (k) ((hs.length : Int)))) default) with stops := true })) t).1) (((dispSt l (hs.set (Int.toNat (atI (k) ((hs.length : Int)))) ({ (hs.getD (Int.toNat (atI (k) ((hs.length : Int)))) default) with stops := false })) t).1).take (((dispSt l (hs.set (Int.toNat (atI (k) ((hs.length : Int)))) ({ (hs.getD (Int.toNat (atI (k) ((hs.length : Int)))) default) with stops := true })) t).1).length))) <| Og (Gn rfl rfl) (fun hg => Qo (Vg (V rfl) hg)) <| O (Qr (V rfl) (fun h => Vg (V rfl) (notT h))) <| Nq <| Cd (V rfl) (fun hc3 => ?_) (fun hc3 => ?_)
   ·have hc3s := hc3; try simp only [BL] at hc3s
    exact absurd hc3 (ff (by rw [decide_eq_false (by omega), decide_eq_true hs1b]; rfl))
    --done
   ·have hc3s := hc3; try simp only [BL] at hc3s
    have hix := idxF_cases (fun c : Ca => decide (c.id = ((hs.set (Int.toNat (atI k (hs.length : Int))) { (hs.getD (Int.toNat (atI k (hs.length : Int))) default) with stops := true }).getD (Int.toNat (atI k (hs.length : Int))) default).id)) default (dispSt l (hs.set (Int.toNat (atI k (hs.length : Int))) { (hs.getD (Int.toNat (atI k (hs.length : Int))) default) with stops := true }) t).1
    have hixl : -1 ≤ (idxF (fun c : Ca => decide (c.id = ((hs.set (Int.toNat (atI k (hs.length : Int))) { (hs.getD (Int.toNat (atI k (hs.length : Int))) default) with stops := true }).getD (Int.toNat (atI k (hs.length : Int))) default).id)) (dispSt l (hs.set (Int.toNat (atI k (hs.length : Int))) { (hs.getD (Int.toNat (atI k (hs.length : Int))) default) with stops := true }) t).1) ∧ (idxF (fun c : Ca => decide (c.id = ((hs.set (Int.toNat (atI k (hs.length : Int))) { (hs.getD (Int.toNat (atI k (hs.length : Int))) default) with stops := true }).getD (Int.toNat (atI k (hs.length : Int))) default).id)) (dispSt l (hs.set (Int.toNat (atI k (hs.length : Int))) { (hs.getD (Int.toNat (atI k (hs.length : Int))) default) with stops := true }) t).1) < ((dispSt l (hs.set (Int.toNat (atI k (hs.length : Int))) { (hs.getD (Int.toNat (atI k (hs.length : Int))) default) with stops := true }) t).1.length : Int) := by rcases hix with ⟨e, _⟩ | ⟨n, e, hn0, _⟩ <;> omega
    refine Sk <| Sq <| c_frzB 3 [iv (atI (k) ((hs.length : Int)))] rfl rfl ⟨Z, rfl⟩ rfl <| c_frzB 7 [caRow ((dispSt l (hs.set (Int.toNat (atI (k) ((hs.length : Int)))) ({ (hs.getD (Int.toNat (atI (k) ((hs.length : Int)))) default) with stops := true })) t).1)] rfl rfl ⟨Z, rfl⟩ rfl <| Rt <| U (Ld (V rfl) Ga46 (by show 0 < 1; decide)) <| U (Mk (caps := [elB [heRow (hs.set (Int.toNat (atI (k) ((hs.length : Int)))) ({ (hs.getD (Int.toNat (atI (k) ((hs.length : Int)))) default) with stops := true }))] 0, elB [iv (atI (k) ((hs.length : Int)))] 0]) ⟨(V rfl), (V rfl), Z⟩) <| CT en89 (by exact ⟨⟨(V rfl), rfl⟩, ⟨(VA (VF [elB [heRow (hs.set (Int.toNat (atI (k) ((hs.length : Int)))) ({ (hs.getD (Int.toNat (atI (k) ((hs.length : Int)))) default) with stops := true }))] 0, elB [iv (atI (k) ((hs.length : Int)))] 0] ((V rfl)) (An rfl)) rfl), rfl⟩, Z⟩) (idxf89_ct (fun c : Ca => decide (c.id = ((hs.set (Int.toNat (atI k (hs.length : Int))) { (hs.getD (Int.toNat (atI k (hs.length : Int))) default) with stops := true }).getD (Int.toNat (atI k (hs.length : Int))) default).id)) en90 rfl (fun x => onK_ct x (hs.set (Int.toNat (atI k (hs.length : Int))) { (hs.getD (Int.toNat (atI k (hs.length : Int))) default) with stops := true }) (atI k (hs.length : Int)) (by rw [List.length_set]; exact hki)) ((dispSt l (hs.set (Int.toNat (atI (k) ((hs.length : Int)))) ({ (hs.getD (Int.toNat (atI (k) ((hs.length : Int)))) default) with stops := true })) t).1)) <| U (As (V rfl)) <| Nt <| Sq <| Sq <| Rt <| U (Mv (V rfl)) <| U (Ad (V rfl) K (by omega)) <| Al 8 zero3 rfl rfl <| St1 (V rfl) rfl (V rfl) rfl Sz3 (by decide) <| Nt <| Bo <| c_mv 8 50 rfl rfl <| Lo (fun (j : Nat) => ⟨[(1, heRow hs), (7, elB [iv (atI (k) ((hs.length : Int)))] 0), (11, elB [caRow ((dispSt l (hs.set (Int.toNat (atI (k) ((hs.length : Int)))) ({ (hs.getD (Int.toNat (atI (k) ((hs.length : Int)))) default) with stops := true })) t).1)] 0), (14, caRow ((dispSt l (hs.set (Int.toNat (atI (k) ((hs.length : Int)))) ({ (hs.getD (Int.toNat (atI (k) ((hs.length : Int)))) default) with stops := false })) t).1)), (17, iv (idxF (fun c : Ca => decide (c.id = ((hs.set (Int.toNat (atI k (hs.length : Int))) { (hs.getD (Int.toNat (atI k (hs.length : Int))) default) with stops := true }).getD (Int.toNat (atI k (hs.length : Int))) default).id)) ((dispSt l (hs.set (Int.toNat (atI (k) ((hs.length : Int)))) ({ (hs.getD (Int.toNat (atI (k) ((hs.length : Int)))) default) with stops := true })) t).1))), (18, SV.bp 50 0)], [(50, Own.box 1 (fun _ => iv (j : Int)) 3)]⟩) (fun (j : Nat) => (idxF (fun c : Ca => decide (c.id = ((hs.set (Int.toNat (atI k (hs.length : Int))) { (hs.getD (Int.toNat (atI k (hs.length : Int))) default) with stops := true }).getD (Int.toNat (atI k (hs.length : Int))) default).id)) (dispSt l (hs.set (Int.toNat (atI k (hs.length : Int))) { (hs.getD (Int.toNat (atI k (hs.length : Int))) default) with stops := true }) t).1) + 1 ≤ (j : Int)) (fun (j : Nat) => (dispSt l (hs.set (Int.toNat (atI k (hs.length : Int))) { (hs.getD (Int.toNat (atI k (hs.length : Int))) default) with stops := true }) t).1.length - j) (Int.toNat ((idxF (fun c : Ca => decide (c.id = ((hs.set (Int.toNat (atI k (hs.length : Int))) { (hs.getD (Int.toNat (atI k (hs.length : Int))) default) with stops := true }).getD (Int.toNat (atI k (hs.length : Int))) default).id)) (dispSt l (hs.set (Int.toNat (atI k (hs.length : Int))) { (hs.getD (Int.toNat (atI k (hs.length : Int))) default) with stops := true }) t).1) + 1)) (by show (idxF (fun c : Ca => decide (c.id = ((hs.set (Int.toNat (atI k (hs.length : Int))) { (hs.getD (Int.toNat (atI k (hs.length : Int))) default) with stops := true }).getD (Int.toNat (atI k (hs.length : Int))) default).id)) (dispSt l (hs.set (Int.toNat (atI k (hs.length : Int))) { (hs.getD (Int.toNat (atI k (hs.length : Int))) default) with stops := true }) t).1) + 1 ≤ ((Int.toNat ((idxF (fun c : Ca => decide (c.id = ((hs.set (Int.toNat (atI k (hs.length : Int))) { (hs.getD (Int.toNat (atI k (hs.length : Int))) default) with stops := true }).getD (Int.toNat (atI k (hs.length : Int))) default).id)) (dispSt l (hs.set (Int.toNat (atI k (hs.length : Int))) { (hs.getD (Int.toNat (atI k (hs.length : Int))) default) with stops := true }) t).1) + 1)) : Int); omega) (We (ow := [(50, Own.box 1 (fun _ => iv ((Int.toNat ((idxF (fun c : Ca => decide (c.id = ((hs.set (Int.toNat (atI k (hs.length : Int))) { (hs.getD (Int.toNat (atI k (hs.length : Int))) default) with stops := true }).getD (Int.toNat (atI k (hs.length : Int))) default).id)) (dispSt l (hs.set (Int.toNat (atI k (hs.length : Int))) { (hs.getD (Int.toNat (atI k (hs.length : Int))) default) with stops := true }) t).1) + 1)) : Int)) 3)]) (Vs rfl) (by exact ⟨⟨_, rfl, ⟨rfl, rfl, ⟨Z, (congrArg iv (by omega))⟩⟩⟩, Z⟩)) <| ?_
    ·rintro j hI1
     have hJ1 : (idxF (fun c : Ca => decide (c.id = ((hs.set (Int.toNat (atI k (hs.length : Int))) { (hs.getD (Int.toNat (atI k (hs.length : Int))) default) with stops := true }).getD (Int.toNat (atI k (hs.length : Int))) default).id)) (dispSt l (hs.set (Int.toNat (atI k (hs.length : Int))) { (hs.getD (Int.toNat (atI k (hs.length : Int))) default) with stops := true }) t).1) + 1 ≤ (j : Int) := hI1
     have hjx := hJ1
     refine Sq <| Sq <| Rq <| O (Mv (V rfl)) <| O (Ge (V rfl) K) <| O (Mv (V rfl)) <| Og (Gy rfl rfl) (fun hg => LdB (V rfl) rfl Ga3 (by decide)) <| Og (Gy rfl rfl) (fun hg => Ld (V rfl) Ga46 (by show 0 < 1; decide)) <| Og (Gy rfl rfl) (fun hg => Ln (Vg (V rfl) hg) ts46) <| Og (Gy rfl rfl) (fun hg => Lt (Vg (V rfl) hg) (Vg (V rfl) hg)) <| O (Qa (V rfl) (fun h => Vg (V rfl) h)) <| Nq <| Cd (V rfl) (fun hc4 => ?_) (fun hc4 => ?_)
     ·have hc4s := hc4; try simp only [BL] at hc4s
      have hgj : 0 ≤ (idxF (fun c : Ca => decide (c.id = ((hs.set (Int.toNat (atI k (hs.length : Int))) { (hs.getD (Int.toNat (atI k (hs.length : Int))) default) with stops := true }).getD (Int.toNat (atI k (hs.length : Int))) default).id)) (dispSt l (hs.set (Int.toNat (atI k (hs.length : Int))) { (hs.getD (Int.toNat (atI k (hs.length : Int))) default) with stops := true }) t).1) ∧ (j : Int) < ((dispSt l (hs.set (Int.toNat (atI k (hs.length : Int))) { (hs.getD (Int.toNat (atI k (hs.length : Int))) default) with stops := true }) t).1.length : Int) := by simpa using hc4
      have hja : j < (dispSt l (hs.set (Int.toNat (atI k (hs.length : Int))) { (hs.getD (Int.toNat (atI k (hs.length : Int))) default) with stops := true }) t).1.length := by omega
      obtain ⟨n, hn, hn2, hp, -⟩ := hix.resolve_left (fun h => by omega)
      have hid : ((dispSt l (hs.set (Int.toNat (atI k (hs.length : Int))) { (hs.getD (Int.toNat (atI k (hs.length : Int))) default) with stops := true }) t).1.getD n default).id = ((hs.set (Int.toNat (atI k (hs.length : Int))) { (hs.getD (Int.toNat (atI k (hs.length : Int))) default) with stops := true }).getD (Int.toNat (atI k (hs.length : Int))) default).id := of_decide_eq_true hp
      have hs2 := stops_2 hkn hf0 hka (i := n) (j := j) (by omega) hja (hid.trans (congrArg He.id ((on_at hkn _).trans (if_pos rfl))))
      have hji : 0 ≤ idxF (fun x : He => decide (x.id = ((dispSt l (hs.set (Int.toNat (atI k (hs.length : Int))) { (hs.getD (Int.toNat (atI k (hs.length : Int))) default) with stops := true }) t).1.getD j default).id)) hs ∧ idxF (fun x : He => decide (x.id = ((dispSt l (hs.set (Int.toNat (atI k (hs.length : Int))) { (hs.getD (Int.toNat (atI k (hs.length : Int))) default) with stops := true }) t).1.getD j default).id)) hs < (hs.length : Int) := hs2.2.2
      have hnn : Int.toNat (idxF (fun c : Ca => decide (c.id = ((hs.set (Int.toNat (atI k (hs.length : Int))) { (hs.getD (Int.toNat (atI k (hs.length : Int))) default) with stops := true }).getD (Int.toNat (atI k (hs.length : Int))) default).id)) (dispSt l (hs.set (Int.toNat (atI k (hs.length : Int))) { (hs.getD (Int.toNat (atI k (hs.length : Int))) default) with stops := true }) t).1) = n := by omega
      refine Sk <| Sq <| Bo <| Sq <| c_frzB 50 [iv ((j : Int))] rfl rfl ⟨Z, rfl⟩ rfl <| Rt <| U (Mv (V rfl)) <| U (Mk (caps := [elB [caRow ((dispSt l (hs.set (Int.toNat (atI (k) ((hs.length : Int)))) ({ (hs.getD (Int.toNat (atI (k) ((hs.length : Int)))) default) with stops := true })) t).1)] 0, elB [iv ((j : Int))] 0]) ⟨(V rfl), (V rfl), Z⟩) <| CT en34 (by exact ⟨⟨(V rfl), rfl⟩, ⟨(VA (VF [elB [caRow ((dispSt l (hs.set (Int.toNat (atI (k) ((hs.length : Int)))) ({ (hs.getD (Int.toNat (atI (k) ((hs.length : Int)))) default) with stops := true })) t).1)] 0, elB [iv ((j : Int))] 0] ((V rfl)) (An rfl)) rfl), rfl⟩, Z⟩) (idxf34_ct (fun x : He => decide (x.id = ((dispSt l (hs.set (Int.toNat (atI k (hs.length : Int))) { (hs.getD (Int.toNat (atI k (hs.length : Int))) default) with stops := true }) t).1.getD j default).id)) en91 rfl (fun x => offK_ct x (dispSt l (hs.set (Int.toNat (atI k (hs.length : Int))) { (hs.getD (Int.toNat (atI k (hs.length : Int))) default) with stops := true }) t).1 j hja) hs) <| U (As (V rfl)) <| Nt <| Sq <| Rqd (by kernel_rfl) (by kernel_rfl) <| O (Ld (V rfl) Ga46 (by show 0 < 1; decide)) <| O (Ld (V rfl) Ga3 (by show 0 < 1; decide)) <| O (IxN (i := j) (V rfl) (V rfl) ts46 te46 (by omega)) <| O (Fl _ _ (V rfl) Un51 rfl 0 Sz3) <| O (Ld (V rfl) Ga3 (by decide)) <| O (Ld (V rfl) Ga46 (by show 0 < 1; decide)) <| O (Mv (V rfl)) <| O (Ix (V rfl) (V rfl) ts46 te46 (by omega) (by omega)) <| O (Fl _ _ (V rfl) Un51 rfl 0 Sz3) <| O (Ld (V rfl) Ga3 (by decide)) <| O (Qn (V rfl) (V rfl)) <| O (Mv (V rfl)) <| Og (Gn rfl rfl) (fun hg => Mv (V rfl)) <| Og (Gn rfl rfl) (fun hg => Mv (V rfl)) <| Og (Gn rfl rfl) (fun hg => Ix (Vg (V rfl) hg) (Vg (V rfl) hg) ts45 te45 (by omega) (by omega)) <| Og (Gn rfl rfl) (fun hg => Fl _ _ (Vg (V rfl) hg) Un54 rfl 0 Sz4) <| Og (Gn rfl rfl) (fun hg => Ld (Vg (V rfl) hg) Ga4 (by decide)) <| Og (Gn rfl rfl) (fun hg => Mv (V rfl)) <| Og (Gn rfl rfl) (fun hg => Ld (V rfl) Ga3 (by show 0 < 1; decide)) <| Og (Gn rfl rfl) (fun hg => Ix (Vg (V rfl) hg) (Vg (V rfl) hg) ts45 te45 (by omega) (by omega)) <| Og (Gn rfl rfl) (fun hg => Fl _ _ (Vg (V rfl) hg) Un54 rfl 0 Sz4) <| Og (Gn rfl rfl) (fun hg => Ld (Vg (V rfl) hg) Ga4 (by decide)) <| Og (Gn rfl rfl) (fun hg => q_neqb (Vg (V rfl) hg) (Vg (V rfl) hg) Un4) <| O (Qr (V rfl) (fun h => Vg (V rfl) (notT h))) <| Nq <| Cd (V rfl) (fun hc5 => ?_) (fun hc5 => ?_)
      ·have hc5s := hc5; try simp only [BL] at hc5s
       exact absurd hc5 (ff (by rw [hnn, show ((dispSt l (hs.set (Int.toNat (atI k (hs.length : Int))) { (hs.getD (Int.toNat (atI k (hs.length : Int))) default) with stops := true }) t).1.getD j default).at_ = ((dispSt l (hs.set (Int.toNat (atI k (hs.length : Int))) { (hs.getD (Int.toNat (atI k (hs.length : Int))) default) with stops := true }) t).1.getD n default).at_ from hs2.1, show (hs.getD (Int.toNat (idxF (fun x : He => decide (x.id = ((dispSt l (hs.set (Int.toNat (atI k (hs.length : Int))) { (hs.getD (Int.toNat (atI k (hs.length : Int))) default) with stops := true }) t).1.getD j default).id)) hs)) default).down = (hs.getD (Int.toNat (atI k (hs.length : Int))) default).down from hs2.2.1]; simp))
       --done
      ·have hc5s := hc5; try simp only [BL] at hc5s
       refine Sk <| Sq <| Sq <| Rq <| O (Ld (V rfl) Ga3 (by show 0 < 1; decide)) <| Nq <| Rt <| Al 9 zero3 rfl rfl <| St1 (V rfl) rfl (V rfl) rfl Sz3 (by decide) <| Nt <| Rt <| U (LdB (V rfl) rfl Ga3 (by decide)) <| U (Ad (V rfl) K (by omega)) <| St1 (V rfl) rfl (V rfl) rfl Sz3 (by decide) <| Nt <| k_mv 9 50 rfl rfl <| Nx (j + 1) (by show (idxF (fun c : Ca => decide (c.id = ((hs.set (Int.toNat (atI k (hs.length : Int))) { (hs.getD (Int.toNat (atI k (hs.length : Int))) default) with stops := true }).getD (Int.toNat (atI k (hs.length : Int))) default).id)) (dispSt l (hs.set (Int.toNat (atI k (hs.length : Int))) { (hs.getD (Int.toNat (atI k (hs.length : Int))) default) with stops := true }) t).1) + 1 ≤ ((j + 1) : Int); first | omega | (simp; done) | (refine ⟨?_, ?_⟩ <;> first | omega | (simp; done))) (by show (dispSt l (hs.set (Int.toNat (atI k (hs.length : Int))) { (hs.getD (Int.toNat (atI k (hs.length : Int))) default) with stops := true }) t).1.length - (j + 1) < (dispSt l (hs.set (Int.toNat (atI k (hs.length : Int))) { (hs.getD (Int.toNat (atI k (hs.length : Int))) default) with stops := true }) t).1.length - j; omega) (We (ow := [(50, Own.box 1 (fun _ => iv ((j + 1) : Int)) 3)]) (Vs rfl) (by exact ⟨⟨_, rfl, rfl, rfl, (An rfl)⟩, Z⟩))
     ·have hc4s := hc4; try simp only [BL] at hc4s
      exact Ex <| Sq <| Rq <| O (Mv (V rfl)) <| O (Ge (V rfl) K) <| O (Mv (V rfl)) <| Og (Gn rfl rfl) (fun hg => Ld (V rfl) Ga46 (by show 0 < 1; decide)) <| Og (Gn rfl rfl) (fun hg => Mv (V rfl)) <| CQg (Gn rfl rfl) en88 (fun hg => (by exact ⟨⟨(Vg (V rfl) hg), rfl⟩, ⟨(Vg (V rfl) hg), rfl⟩, Z⟩)) (fun hg => eqCa_ct ((dispSt l (hs.set (Int.toNat (atI (k) ((hs.length : Int)))) ({ (hs.getD (Int.toNat (atI (k) ((hs.length : Int)))) default) with stops := true })) t).1) ((dispSt l (hs.set (Int.toNat (atI (k) ((hs.length : Int)))) ({ (hs.getD (Int.toNat (atI (k) ((hs.length : Int)))) default) with stops := false })) t).1)) <| O (Qr (V rfl) (fun h => Vg (V rfl) (notT h))) <| O (As (V rfl)) <| Nq <| Rx <| R1 rfl (V rfl) rfl (by show bv ((decide (0 ≤ idxF (fun c : Ca => decide (c.id = ((hs.set (Int.toNat (atI k (hs.length : Int))) { (hs.getD (Int.toNat (atI k (hs.length : Int))) default) with stops := true }).getD (Int.toNat (atI k (hs.length : Int))) default).id)) ((dispSt l (hs.set (Int.toNat (atI (k) ((hs.length : Int)))) ({ (hs.getD (Int.toNat (atI (k) ((hs.length : Int)))) default) with stops := true })) t).1))) || (decide ((dispSt l (hs.set (Int.toNat (atI (k) ((hs.length : Int)))) ({ (hs.getD (Int.toNat (atI (k) ((hs.length : Int)))) default) with stops := true })) t).1 = (dispSt l (hs.set (Int.toNat (atI (k) ((hs.length : Int)))) ({ (hs.getD (Int.toNat (atI (k) ((hs.length : Int)))) default) with stops := false })) t).1))) = bv true; exact congrArg bv (ends_ok hkn hf0 hka hkb))
end Go.Proofs.Ytmcdamcedemdiaa
