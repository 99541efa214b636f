/- What the proof of ShadowOpen rests on, part 5: the engine, the walks, the plain laws. -/
import Derived.Test.YtmcdamcedemdiaaShadowOpenM4
set_option linter.unusedVariables false
set_option linter.unusedSimpArgs false
namespace Go.Proofs.Ytmcdamcedemdiaa
open Go.RowKit Go.Eng
theorem path_ct (l : List Nd) (h : Hd) (hb : ∀ n ∈ l, n.kids.length ≤ 17592186043904) : Ct Try.prog 33 [SV.agg 1 (stG l), SV.agg 2 (hdCell h)] (sv2 (inRow (pathSt l h).1) (iv (pathSt l h).2)) := by
 refine CtO 34 Try.func33 rfl rfl rfl fun E => row_lenA 0 (V (s := 0) rfl) rfl rfl fun hl0_0 => Sq <| Rt <| BxA 1 (V rfl) rfl rfl <| BxA 2 (V rfl) rfl rfl <| t_nilO 3 1 (rowG inCell 0 []) 3 (.inl rfl) rfl <| U (As K) <| Nt <| Sq <| Sq <| Rt <| U (LBA (V rfl) rfl Ga24 Sz24 (by decide)) <| U (LBA (V rfl) rfl Ga26 Sz26 (by decide)) <| CT en46 (by exact ⟨⟨(Vi (g' := stG l) (V rfl) ⟨Z, Ir⟩), rfl⟩, ⟨(Vi (g' := hdCell ⟨h.pl, h.use⟩) (V rfl) ⟨⟨Z, Ir⟩, Ir⟩), rfl⟩, Z⟩) (find_ct l h (by first | assumption | exact kb_nil | exact kb_of (by assumption) | exact kb_of fam_c5)) <| U (Mv (V rfl)) <| U (Xt (V rfl) (by decide)) <| U (Xt (V rfl) (by decide)) <| Al 4 zero61 rfl rfl <| StA (V rfl) rfl (V rfl) Sz61 <| U (As (V rfl)) <| Nt <| Sq <| Rq <| O (Mv (V rfl)) <| O (Qn (V rfl) K) <| Nq <| Cd (V rfl) (fun hc1 => ?_) (fun hc1 => ?_)
 ·have hc1s := hc1; try simp only [BL] at hc1s
  exact Sq <| Rt <| U (Mv (V rfl)) <| t_nilO 5 1 (rowG inCell 0 []) 3 (.inl rfl) rfl <| U (As (V rfl)) <| Nt <| FzC 5 rfl <| Rx <| R2 rfl (V rfl) (V rfl) rfl rfl (by show sv2 (inRow ([])) (iv ((findSt l h).2)) = sv2 (inRow (pathSt l h).1) (iv (pathSt l h).2); rw [path_1 (h := h) (fun q => hc1s ((first_find l h).symm.trans q)), first_find])
 ·have hc1s := hc1; try simp only [BL] at hc1s
  have hf0 : firstSt l [h] = 0 := (first_find l h).trans hc1s
  have hc0 := (first1 hf0).1
  have hpl := (first1 hf0).2.2.1
  have h24 := checkSt_len hc0
  refine Sk <| Sq <| Rt <| t_nilO 6 1 (rowG inCell 0 []) 3 (.inl rfl) rfl <| Nt <| Sq <| Sq <| Rq <| O (FlB _ _ (V rfl) Un26 rfl 0 Sz3) <| O (LdB (V rfl) rfl Ga3 (by decide)) <| O (As (V rfl)) <| Nq <| Bo <| c_mv 6 60 rfl rfl <| c_ownE 60 (([])) rfl (by rfl) <| Lo (uc2 fun (acc : List Int) (k : Int) => ⟨[(2, SV.bp 1 0), (8, SV.own 60), (9, iv (k))], [(1, Own.box 1 (fun zt => SV.renm (mvN 6 60) ((stG l) zt)) 24), (60, ownOf inCell 1 0 acc 3)]⟩) (uc2 fun (acc : List Int) (k : Int) => (-1 ≤ k ∧ k < (l.length : Int)) ∧ line l h.pl = acc ++ line l k) (uc2 fun (acc : List Int) (k : Int) => (line l k).length) ([], h.pl) (by show (-1 ≤ (h.pl) ∧ (h.pl) < (l.length : Int)) ∧ line l h.pl = ([]) ++ line l (h.pl); exact ⟨by omega, rfl⟩) (We (ow := [(1, Own.box 1 (fun zt => SV.renm (mvN 6 60) ((stG l) zt)) 24), (60, ownOf inCell 1 0 (([])) 3)]) (Vs rfl) (by exact ⟨⟨_, rfl, rfl, rfl, (An rfl)⟩, ⟨_, rfl, rfl⟩, Z⟩)) <| ?_
  ·rintro ⟨acc, k⟩ hI1
   have hJ1 : (-1 ≤ k ∧ k < (l.length : Int)) ∧ line l h.pl = acc ++ line l k := hI1
   show C _ E _ ⟨[(2, SV.bp 1 0), (8, SV.own 60), (9, iv (k))], [(1, Own.box 1 (fun zt => SV.renm (mvN 6 60) ((stG l) zt)) 24), (60, ownOf inCell 1 0 acc 3)]⟩ _
   have hkr := hJ1.1
   have hln := hJ1.2
   have hal := path_n hc0 hln
   refine Sq <| Sq <| Rq <| O (Mv (V rfl)) <| O (Ge (V rfl) K) <| Nq <| Cd (V rfl) (fun hc2 => ?_) (fun hc2 => ?_)
   ·have hc2s := hc2; try simp only [BL] at hc2s
    exact Sk <| Sq <| Bo <| Rt <| U (Mv (V rfl)) <| U (Mv (V rfl)) <| Uw (w_bs (n := 1) (zget := fun _ => iv 0) [(fun _ => iv (k))] (rowG inCell 0 [k]) Un33 Sz3 zero3 (by decide) rfl (by decide) ⟨⟨rfl, .inr ⟨rfl, (V rfl), rfl⟩, rfl⟩, Z⟩ ⟨Z, ⟨Z, rfl⟩⟩) <| Ap 7 (rowG inCell 0 (acc ++ ([k]))) eo33 (V rfl) rfl (V rfl) rfl (len_app acc ([k])) (by first | (simp only [maxLen, List.length_append, List.length_set, List.length_nil, List.length_cons]; omega) | (simp only [maxLen]; omega)) (by first | (simp only [List.length_append, List.length_set, List.length_nil, List.length_cons]; omega) | (omega)) (app_typed (l := acc) (m := ([k]))) <| U (As (V rfl)) <| Nt <| Rq <| O (FlB _ _ (V rfl) Un24 rfl 0 Sz22) <| O (LdB (V rfl) rfl Ga22 (by decide)) <| O (Mv (V rfl)) <| O (Ix (V rfl) (V rfl) ts22 te22 (by omega) (by omega)) <| O (LdA (V rfl) Ga61 Sz61 (by decide)) <| CQ en110 (by exact ⟨⟨(Vi (g' := ndCell ⟨(l.getD (Int.toNat k) default).used, (l.getD (Int.toNat k) default).uses, (l.getD (Int.toNat k) default).tag, (l.getD (Int.toNat k) default).mark, (l.getD (Int.toNat k) default).par, (l.getD (Int.toNat k) default).kids, (l.getD (Int.toNat k) default).host, (l.getD (Int.toNat k) default).closed⟩) (V rfl) ⟨⟨⟨⟨⟨⟨⟨⟨Z, Ir⟩, Ir⟩, Ir⟩, Ir⟩, Ir⟩, Ir⟩, Ir⟩, Ir⟩), rfl⟩, Z⟩) (above_ct (l.getD (Int.toNat k) default)) <| O (As (V rfl)) <| Nq <| k_mv 7 60 rfl rfl <| Nx (acc ++ [k], above (l.getD (Int.toNat k) default)) (by show (-1 ≤ (above (l.getD (Int.toNat k) default)) ∧ (above (l.getD (Int.toNat k) default)) < (l.length : Int)) ∧ line l h.pl = (acc ++ [k]) ++ line l (above (l.getD (Int.toNat k) default)); exact ⟨above_in (checkSt_nodes hc0) (by omega), path_s hc0 (by omega) hln⟩) (by show (line l (above (l.getD (Int.toNat k) default))).length < (line l k).length; exact path_m hc0 (by omega)) (We (ow := [(1, Own.box 1 (fun zt => SV.renm (mvN 6 60) ((stG l) zt)) 24), (60, ownOf inCell 1 0 ((acc ++ [k])) 3)]) (Vs rfl) (by exact ⟨⟨_, rfl, rfl, rfl, (An rfl)⟩, ⟨_, rfl, rfl⟩, Z⟩))
   ·have hc2s := hc2; try simp only [BL] at hc2s
    exact Ex <| Sq <| Rq <| O (Mv (V rfl)) <| O (As (V rfl)) <| O (As K) <| Nq <| FzC 60 rfl <| Rx <| R2 rfl (V rfl) (V rfl) rfl rfl (by show sv2 (inRow acc) (iv (0)) = sv2 (inRow (pathSt l h).1) (iv (pathSt l h).2); rw [path_2 hf0, hln, line_neg (k := k) (by omega), List.append_nil])
theorem seen_ct (l : List Nd) (f t : Hd) (hb : ∀ n ∈ l, n.kids.length ≤ 17592186043904) : Ct Try.prog 38 [SV.agg 1 (stG l), SV.agg 2 (hdCell f), SV.agg 2 (hdCell t)] (sv2 (bv (seenSt l f t).1) (iv (seenSt l f t).2)) := by
 refine CtO 35 Try.func38 rfl rfl rfl fun E => row_lenA 0 (V (s := 0) rfl) rfl rfl fun hl0_0 => Sq <| Rt <| BxA 1 (V rfl) rfl rfl <| BxA 2 (V rfl) rfl rfl <| BxA 3 (V rfl) rfl rfl <| U (As K) <| U (As K) <| Nt <| Sq <| Sq <| Rq <| O (LBA (V rfl) rfl Ga26 Sz26 (by decide)) <| O (LBA (V rfl) rfl Ga26 Sz26 (by decide)) <| O (q_bld22 (g0 := fun zi => (hdCell f) (0 + zi)) (g1 := fun zi => (hdCell t) (0 + zi)) (V rfl) (V rfl) Un123 Sz26 zero123v (arr22 (fun zi => (hdCell f) (0 + zi)) (fun zi => (hdCell t) (0 + zi))) ⟨rfl, rfl, rfl, rfl⟩) <| O (Mv K) <| Nq <| Bo <| Lo (fun (i : Nat) => ⟨[(3, SV.bp 1 0), (4, SV.bp 2 0), (5, SV.bp 3 0), (14, SV.agg 4 (arr22 (fun zi => (hdCell f) (0 + zi)) (fun zi => (hdCell t) (0 + zi)))), (15, iv ((i : Int)))], [(1, Own.box 1 (stG l) 24), (2, Own.box 2 (hdCell f) 26), (3, Own.box 2 (hdCell t) 26)]⟩) (fun (i : Nat) => i ≤ 2 ∧ (0 < i → (findSt l f).2 = 0) ∧ (1 < i → (findSt l t).2 = 0)) (fun (i : Nat) => 2 - i) 0 (by show 0 ≤ 2 ∧ (0 < 0 → (findSt l f).2 = 0) ∧ (1 < 0 → (findSt l t).2 = 0); exact ⟨by decide, fun q => absurd q (by decide), fun q => absurd q (by decide)⟩) (We (sl := [(3, SV.bp 1 0), (4, SV.bp 2 0), (5, SV.bp 3 0), (14, SV.agg 4 (arr22 (fun zi => (hdCell f) (0 + zi)) (fun zi => (hdCell t) (0 + zi)))), (15, iv (0))]) (ow := [(1, Own.box 1 (stG l) 24), (2, Own.box 2 (hdCell f) 26), (3, Own.box 2 (hdCell t) 26)]) (by exact ⟨V rfl, V rfl, V rfl, Va (V rfl) (An rfl), V rfl, Z⟩) (by exact ⟨⟨_, rfl, rfl, rfl, (An rfl)⟩, ⟨_, rfl, rfl, rfl, (An rfl)⟩, ⟨_, rfl, rfl, rfl, (An rfl)⟩, Z⟩)) <| ?_
 ·rintro i hI1
  have hJ1 : i ≤ 2 ∧ (0 < i → (findSt l f).2 = 0) ∧ (1 < i → (findSt l t).2 = 0) := hI1
  rcases (show i = 0 ∨ i = 1 ∨ i = 2 by omega) with rfl | rfl | rfl
  ·show C _ E _ ⟨[(3, SV.bp 1 0), (4, SV.bp 2 0), (5, SV.bp 3 0), (14, SV.agg 4 (arr22 (fun zi => (hdCell f) (0 + zi)) (fun zi => (hdCell t) (0 + zi)))), (15, iv (0))], [(1, Own.box 1 (stG l) 24), (2, Own.box 2 (hdCell f) 26), (3, Own.box 2 (hdCell t) 26)]⟩ _
   refine Sq <| Rq <| O (Lt (V rfl) K) <| Nq <| Sq <| Cd (V rfl) (fun hc1 => ?_) (fun hc1 => ?_)
   ·have hc1s := hc1; try simp only [BL] at hc1s
    refine Sk <| Sq <| Bo <| Sq <| Rt <| U (q_ixAA (i := 0) (V rfl) (V rfl) 26 Un123 Sz26 Ga26 (by omega) rfl) <| Al 4 zero26 rfl rfl <| StA (V rfl) rfl (V rfl) Sz26 <| Nt <| Sq <| Rt <| U (LBA (V rfl) rfl Ga24 Sz24 (by decide)) <| U (LBA (V rfl) rfl Ga26 Sz26 (by decide)) <| CT en46 (by exact ⟨⟨(Vi (g' := stG l) (V rfl) ⟨Z, Ir⟩), rfl⟩, ⟨(Vi (g' := hdCell ⟨f.pl, f.use⟩) (V rfl) ⟨⟨Z, Ir⟩, Ir⟩), rfl⟩, Z⟩) (find_ct l f (by first | assumption | exact kb_nil | exact kb_of (by assumption) | exact kb_of fam_c5)) <| U (Mv (V rfl)) <| U (Xt (V rfl) (by decide)) <| U (Xt (V rfl) (by decide)) <| Al 5 zero61 rfl rfl <| StA (V rfl) rfl (V rfl) Sz61 <| U (As (V rfl)) <| Nt <| Sq <| Rq <| O (Mv (V rfl)) <| O (Qn (V rfl) K) <| Nq <| Cd (V rfl) (fun hc2 => ?_) (fun hc2 => ?_)
    ·have hc2s := hc2; try simp only [BL] at hc2s
     exact Sq <| Rq <| O (Mv (V rfl)) <| O (As K) <| O (As (V rfl)) <| Nq <| Rx <| R2 rfl (V rfl) (V rfl) rfl rfl (by show sv2 (bv (false)) (iv ((findSt l f).2)) = sv2 (bv (seenSt l f t).1) (iv (seenSt l f t).2); rw [seen_1 (f := f) (t := t) (by rw [first_two, if_pos hc2s]; exact hc2s), first_two, if_pos hc2s])
    ·have hc2s := hc2; try simp only [BL] at hc2s
     exact Sk <| Rq <| O (Ad (V rfl) K (by omega)) <| O (Mv (V rfl)) <| Nq <| Nx (1) (by show 1 ≤ 2 ∧ (0 < 1 → (findSt l f).2 = 0) ∧ (1 < 1 → (findSt l t).2 = 0); exact ⟨by decide, fun _ => hc2s, fun q => absurd q (by decide)⟩) (by show 2 - 1 < 2 - 0; decide) (We (sl := [(3, SV.bp 1 0), (4, SV.bp 2 0), (5, SV.bp 3 0), (14, SV.agg 4 (arr22 (fun zi => (hdCell f) (0 + zi)) (fun zi => (hdCell t) (0 + zi)))), (15, iv (1))]) (ow := [(1, Own.box 1 (stG l) 24), (2, Own.box 2 (hdCell f) 26), (3, Own.box 2 (hdCell t) 26)]) (by exact ⟨V rfl, V rfl, V rfl, Va (V rfl) (An rfl), V rfl, Z⟩) (by exact ⟨⟨_, rfl, rfl, rfl, (An rfl)⟩, ⟨_, rfl, rfl, rfl, (An rfl)⟩, ⟨_, rfl, rfl, rfl, (An rfl)⟩, Z⟩))
   ·exact absurd hc1 (by decide)
  ·show C _ E _ ⟨[(3, SV.bp 1 0), (4, SV.bp 2 0), (5, SV.bp 3 0), (14, SV.agg 4 (arr22 (fun zi => (hdCell f) (0 + zi)) (fun zi => (hdCell t) (0 + zi)))), (15, iv (1))], [(1, Own.box 1 (stG l) 24), (2, Own.box 2 (hdCell f) 26), (3, Own.box 2 (hdCell t) 26)]⟩ _
   refine Sq <| Rq <| O (Lt (V rfl) K) <| Nq <| Sq <| Cd (V rfl) (fun hc3 => ?_) (fun hc3 => ?_)
   ·have hc3s := hc3; try simp only [BL] at hc3s
    have he1 : (findSt l f).2 = 0 := hJ1.2.1 (by decide)
    refine Sk <| Sq <| Bo <| Sq <| Rt <| U (q_ixAA (i := 1) (V rfl) (V rfl) 26 Un123 Sz26 Ga26 (by omega) rfl) <| Al 6 zero26 rfl rfl <| StA (V rfl) rfl (V rfl) Sz26 <| Nt <| Sq <| Rt <| U (LBA (V rfl) rfl Ga24 Sz24 (by decide)) <| U (LBA (V rfl) rfl Ga26 Sz26 (by decide)) <| CT en46 (by exact ⟨⟨(Vi (g' := stG l) (V rfl) ⟨Z, Ir⟩), rfl⟩, ⟨(Vi (g' := hdCell ⟨t.pl, t.use⟩) (V rfl) ⟨⟨Z, Ir⟩, Ir⟩), rfl⟩, Z⟩) (find_ct l t (by first | assumption | exact kb_nil | exact kb_of (by assumption) | exact kb_of fam_c5)) <| U (Mv (V rfl)) <| U (Xt (V rfl) (by decide)) <| U (Xt (V rfl) (by decide)) <| Al 7 zero61 rfl rfl <| StA (V rfl) rfl (V rfl) Sz61 <| U (As (V rfl)) <| Nt <| Sq <| Rq <| O (Mv (V rfl)) <| O (Qn (V rfl) K) <| Nq <| Cd (V rfl) (fun hc4 => ?_) (fun hc4 => ?_)
    ·have hc4s := hc4; try simp only [BL] at hc4s
     exact Sq <| Rq <| O (Mv (V rfl)) <| O (As K) <| O (As (V rfl)) <| Nq <| Rx <| R2 rfl (V rfl) (V rfl) rfl rfl (by show sv2 (bv (false)) (iv ((findSt l t).2)) = sv2 (bv (seenSt l f t).1) (iv (seenSt l f t).2); rw [seen_1 (f := f) (t := t) (by rw [first_two, if_neg (not_not_intro he1)]; exact hc4s), first_two, if_neg (not_not_intro he1)])
    ·have hc4s := hc4; try simp only [BL] at hc4s
     exact Sk <| Rq <| O (Ad (V rfl) K (by omega)) <| O (Mv (V rfl)) <| Nq <| Nx (2) (by show 2 ≤ 2 ∧ (0 < 2 → (findSt l f).2 = 0) ∧ (1 < 2 → (findSt l t).2 = 0); exact ⟨by decide, fun _ => hJ1.2.1 (by decide), fun _ => hc4s⟩) (by show 2 - 2 < 2 - 1; decide) (We (sl := [(3, SV.bp 1 0), (4, SV.bp 2 0), (5, SV.bp 3 0), (14, SV.agg 4 (arr22 (fun zi => (hdCell f) (0 + zi)) (fun zi => (hdCell t) (0 + zi)))), (15, iv (2))]) (ow := [(1, Own.box 1 (stG l) 24), (2, Own.box 2 (hdCell f) 26), (3, Own.box 2 (hdCell t) 26)]) (by exact ⟨V rfl, V rfl, V rfl, Va (V rfl) (An rfl), V rfl, Z⟩) (by exact ⟨⟨_, rfl, rfl, rfl, (An rfl)⟩, ⟨_, rfl, rfl, rfl, (An rfl)⟩, ⟨_, rfl, rfl, rfl, (An rfl)⟩, Z⟩))
   ·exact absurd hc3 (by decide)
  ·show C _ E _ ⟨[(3, SV.bp 1 0), (4, SV.bp 2 0), (5, SV.bp 3 0), (14, SV.agg 4 (arr22 (fun zi => (hdCell f) (0 + zi)) (fun zi => (hdCell t) (0 + zi)))), (15, iv (2))], [(1, Own.box 1 (stG l) 24), (2, Own.box 2 (hdCell f) 26), (3, Own.box 2 (hdCell t) 26)]⟩ _
   refine Sq <| Rq <| O (Lt (V rfl) K) <| Nq <| Sq <| Cd (V rfl) (fun hc5 => ?_) (fun hc5 => ?_)
   ·exact absurd hc5 (by decide)
   ·have hc5s := hc5; try simp only [BL] at hc5s
    have hf2 : firstSt l [f, t] = 0 := by rw [first_two, if_neg (not_not_intro (hJ1.2.1 (by decide)))]; exact hJ1.2.2 (by decide)
    have h2 := first2 hf2
    have hc0 := h2.1
    have hfp := h2.2.1
    have htp := h2.2.2
    exact Ex <| Sq <| Rq <| O (LBA (V rfl) rfl Ga24 Sz24 (by decide)) <| O (FlB _ _ (V rfl) Un26 rfl 0 Sz3) <| O (LdB (V rfl) rfl Ga3 (by decide)) <| O (FlB _ _ (V rfl) Un26 rfl 0 Sz3) <| O (LdB (V rfl) rfl Ga3 (by decide)) <| CQ en111 (by exact ⟨⟨(Vi (g' := stG l) (V rfl) ⟨Z, Ir⟩), rfl⟩, ⟨(V rfl), rfl⟩, ⟨(V rfl), rfl⟩, ⟨K, rfl⟩, Z⟩) (hidden_ct l f.pl t.pl false (by assumption) (by first | assumption | omega) (by first | assumption | omega)) <| O (Qo (V rfl)) <| O (As (V rfl)) <| O (As K) <| Nq <| Rx <| R2 rfl (V rfl) (V rfl) rfl rfl (by show sv2 (bv (!(hiddenSt l f.pl t.pl false))) (iv (0)) = sv2 (bv (seenSt l f t).1) (iv (seenSt l f t).2); rw [seen_2 hf2])
theorem target_ct (l : List Nd) (k0 told : Int) (hb : ∀ n ∈ l, n.kids.length ≤ 17592186043904) : Ct Try.prog 78 [SV.agg 1 (stG l), iv (k0), iv (told)] (iv (tgtSt l k0 told)) := by
 refine CtO 46 Try.func78 rfl rfl rfl fun E => row_lenA 0 (V (s := 0) rfl) rfl rfl fun hl0_0 => Sq <| Rt <| BxA 1 (V rfl) rfl rfl <| U (As K) <| Nt <| Sq <| Sq <| Rq <| O (LBA (V rfl) rfl Ga24 Sz24 (by decide)) <| CQ en44 (by exact ⟨⟨(Vi (g' := stG l) (V rfl) ⟨Z, Ir⟩), rfl⟩, Z⟩) (stcheck_ct l (by first | assumption | exact kb_nil | exact kb_of (by assumption) | exact kb_of fam_c5)) <| O (Qn (V rfl) K) <| O (Mv (V rfl)) <| Og (Gn rfl rfl) (fun hg => Mv (V rfl)) <| Og (Gn rfl rfl) (fun hg => Lt (Vg (V rfl) hg) K) <| O (Qr (V rfl) (fun h => Vg (V rfl) (notT h))) <| O (Mv (V rfl)) <| Og (Gn rfl rfl) (fun hg => Mv (V rfl)) <| Og (Gn rfl rfl) (fun hg => FlB _ _ (V rfl) Un24 rfl 0 Sz22) <| Og (Gn rfl rfl) (fun hg => LdB (Vg (V rfl) hg) rfl Ga22 (by decide)) <| Og (Gn rfl rfl) (fun hg => Ln (Vg (V rfl) hg) ts22) <| Og (Gn rfl rfl) (fun hg => Ge (Vg (V rfl) hg) (Vg (V rfl) hg)) <| O (Qr (V rfl) (fun h => Vg (V rfl) (notT h))) <| O (Mv (V rfl)) <| Og (Gn rfl rfl) (fun hg => Mv (V rfl)) <| Og (Gn rfl rfl) (fun hg => Lt (Vg (V rfl) hg) K) <| O (Qr (V rfl) (fun h => Vg (V rfl) (notT h))) <| O (Mv (V rfl)) <| Og (Gn rfl rfl) (fun hg => Mv (V rfl)) <| Og (Gn rfl rfl) (fun hg => FlB _ _ (V rfl) Un24 rfl 0 Sz22) <| Og (Gn rfl rfl) (fun hg => LdB (Vg (V rfl) hg) rfl Ga22 (by decide)) <| Og (Gn rfl rfl) (fun hg => Ln (Vg (V rfl) hg) ts22) <| Og (Gn rfl rfl) (fun hg => Ge (Vg (V rfl) hg) (Vg (V rfl) hg)) <| O (Qr (V rfl) (fun h => Vg (V rfl) (notT h))) <| Nq <| Cd (V rfl) (fun hc1 => ?_) (fun hc1 => ?_)
 ·have hc1s := hc1; try simp only [BL] at hc1s
  have hbad : checkSt l ≠ 0 ∨ k0 < 0 ∨ (l.length : Int) ≤ k0 ∨ told < 0 ∨ (l.length : Int) ≤ told := by simpa [or_assoc] using hc1
  exact Sq <| Rq <| O (Mv (V rfl)) <| O (As (V rfl)) <| Nq <| Rx <| R1 rfl (V rfl) rfl (by show iv (k0) = iv (tgtSt l k0 told); rw [tgt_0 hbad])
 ·have hc1s := hc1; try simp only [BL] at hc1s
  have hgood : ¬ (checkSt l ≠ 0 ∨ k0 < 0 ∨ (l.length : Int) ≤ k0 ∨ told < 0 ∨ (l.length : Int) ≤ told) := fun q => Bool.false_ne_true (hc1.symm.trans (by simpa [or_assoc] using q))
  have hc0 : checkSt l = 0 := Classical.byContradiction fun q => hgood (.inl q)
  refine Sk <| Sq <| Bo <| Lo (fun (k : Int) => ⟨[(1, iv (k)), (2, iv (told)), (3, SV.bp 1 0)], [(1, Own.box 1 (stG l) 24)]⟩) (fun (k : Int) => (0 ≤ k ∧ k < (l.length : Int)) ∧ tgtSt l k0 told = tgtL l told k (rootsL l k)) (fun (k : Int) => (rootsL l k).length) k0 (by show (0 ≤ k0 ∧ k0 < (l.length : Int)) ∧ tgtSt l k0 told = tgtL l told k0 (rootsL l k0); exact ⟨by omega, tgt_1 hc0 (by omega) (by omega)⟩) (We (ow := [(1, Own.box 1 (stG l) 24)]) (Vs rfl) (by exact ⟨⟨_, rfl, rfl, rfl, (An rfl)⟩, Z⟩)) <| ?_
  ·rintro k hI1
   have hJ1 : (0 ≤ k ∧ k < (l.length : Int)) ∧ tgtSt l k0 told = tgtL l told k (rootsL l k) := hI1
   have hkr := hJ1.1
   have hke := hJ1.2
   refine Sq <| Sq <| Rq <| O (LBA (V rfl) rfl Ga24 Sz24 (by decide)) <| O (Mv (V rfl)) <| O (Mv (V rfl)) <| CQ en111 (by exact ⟨⟨(Vi (g' := stG l) (V rfl) ⟨Z, Ir⟩), rfl⟩, ⟨(V rfl), rfl⟩, ⟨(V rfl), rfl⟩, ⟨K, rfl⟩, Z⟩) (hidden_ct l told k true (by assumption) (by first | assumption | omega) (by first | assumption | omega)) <| Nq <| Cd (V rfl) (fun hc2 => ?_) (fun hc2 => ?_)
   ·have hc2s := hc2; try simp only [BL] at hc2s
    have htt := tgt_t hc0 hkr hc2
    exact Sk <| Bo <| Rqd (by kernel_rfl) (by kernel_rfl) <| O (FlB _ _ (V rfl) Un24 rfl 0 Sz22) <| O (LdB (V rfl) rfl Ga22 (by decide)) <| O (LBA (V rfl) rfl Ga24 Sz24 (by decide)) <| O (Mv (V rfl)) <| CQ en137 (by exact ⟨⟨(Vi (g' := stG l) (V rfl) ⟨Z, Ir⟩), rfl⟩, ⟨(V rfl), rfl⟩, Z⟩) (top_ct l k (by assumption) (by first | assumption | omega)) <| O (Ix (V rfl) (V rfl) ts22 te22 (by omega) (by omega)) <| O (Fl _ _ (V rfl) Un61 rfl 0 Sz3) <| O (Ld (V rfl) Ga3 (by decide)) <| O (As (V rfl)) <| Nq <| NxH ((l.getD (Int.toNat (topSt l k)) default).host) (fun _ _ h => h) (by show (0 ≤ ((l.getD (Int.toNat (topSt l k)) default).host) ∧ ((l.getD (Int.toNat (topSt l k)) default).host) < (l.length : Int)) ∧ tgtSt l k0 told = tgtL l told ((l.getD (Int.toNat (topSt l k)) default).host) (rootsL l ((l.getD (Int.toNat (topSt l k)) default).host)); exact ⟨htt.2.2.2, hke.trans htt.1⟩) (by show (rootsL l ((l.getD (Int.toNat (topSt l k)) default).host)).length < (rootsL l k).length; have := htt.2.1; omega) (We (ow := [(1, Own.box 1 (stG l) 24)]) (Vs rfl) (by exact ⟨⟨_, rfl, rfl, rfl, (An rfl)⟩, Z⟩))
   ·have hc2s := hc2; try simp only [BL] at hc2s
    exact Ex <| Sq <| Rq <| O (Mv (V rfl)) <| O (As (V rfl)) <| Nq <| Rx <| R1 rfl (V rfl) rfl (by show iv (k) = iv (tgtSt l k0 told); rw [hke, tgt_f hc0 hkr hc2])
theorem veiled_ct  : Ct Try.prog 75 [] (bv true) := by
 refine CtO 96 Try.func75 rfl rfl rfl fun E => Sq <| Rq <| O (As K) <| Nq <| Sq <| Rt <| CT en103 (by exact Z) (family_ct) <| U (Mv (V rfl)) <| U (Xt (V rfl) (by decide)) <| U (Xt (V rfl) (by decide)) <| U (Xt (V rfl) (by decide)) <| Al 1 zero24 rfl rfl <| Al 2 zero113 rfl rfl <| StA (V rfl) rfl (V rfl) Sz24 <| StA (V rfl) rfl (V rfl) Sz113 <| U (As (V rfl)) <| Nt <| Sq <| Rt <| U (LBA (V rfl) rfl Ga24 Sz24 (by decide)) <| U (q_ixB (i := 1) (V rfl) K ta113 te113 (by rw [al113]; decide)) <| U (LBA (V rfl) rfl Ga26 Sz26 (by decide)) <| CT en74 (by exact ⟨⟨(Vi (g' := stG fam5) (V rfl) ⟨Z, Ir⟩), rfl⟩, ⟨(Vi (g' := hdCell ⟨1, 1⟩) (V rfl) ⟨⟨Z, Ir⟩, Ir⟩), rfl⟩, ⟨K, rfl⟩, Z⟩) (attach_ct fam5 ⟨1, 1⟩ true (by first | assumption | exact kb_nil | exact kb_of (by assumption) | exact kb_of fam_c5)) <| U (Mv (V rfl)) <| U (Xt (V rfl) (by decide)) <| U (Xt (V rfl) (by decide)) <| U (Xt (V rfl) (by decide)) <| Al 3 zero26 rfl rfl <| StA (V rfl) rfl (V rfl) Sz24 <| StA (V rfl) rfl (V rfl) Sz26 <| U (As (V rfl)) <| Nt <| Sq <| Rt <| U (LBA (V rfl) rfl Ga24 Sz24 (by decide)) <| U (LBA (V rfl) rfl Ga26 Sz26 (by decide)) <| U (q_ixB (i := 2) (V rfl) K ta113 te113 (by rw [al113]; decide)) <| U (LBA (V rfl) rfl Ga26 Sz26 (by decide)) <| CT en56 (by exact ⟨⟨(Vi (g' := stG ((attSt fam5 ⟨1, 1⟩ true).1)) (V rfl) ⟨Z, Ir⟩), rfl⟩, ⟨(Vi (g' := hdCell ⟨(attSt fam5 ⟨1, 1⟩ true).2.1.pl, (attSt fam5 ⟨1, 1⟩ true).2.1.use⟩) (V rfl) ⟨⟨Z, Ir⟩, Ir⟩), rfl⟩, ⟨(Vi (g' := hdCell ⟨2, 1⟩) (V rfl) ⟨⟨Z, Ir⟩, Ir⟩), rfl⟩, ⟨Vn, rfl⟩, Z⟩) (insert_ct ((attSt fam5 ⟨1, 1⟩ true).1) (attSt fam5 ⟨1, 1⟩ true).2.1 ⟨2, 1⟩ ([]) (by first | assumption | exact kb_nil | exact kb_of (by assumption) | exact kb_of fam_c5)) <| ?_
 refine U (Mv (V rfl)) <| U (Xt (V rfl) (by decide)) <| U (Xt (V rfl) (by decide)) <| StA (V rfl) rfl (V rfl) Sz24 <| U (As (V rfl)) <| Nt <| Sq <| Rt <| U (LBA (V rfl) rfl Ga24 Sz24 (by decide)) <| U (q_ixB (i := 0) (V rfl) K ta113 te113 (by rw [al113]; decide)) <| U (LBA (V rfl) rfl Ga26 Sz26 (by decide)) <| U (q_ixB (i := 2) (V rfl) K ta113 te113 (by rw [al113]; decide)) <| U (LBA (V rfl) rfl Ga26 Sz26 (by decide)) <| CT en38 (by exact ⟨⟨(Vi (g' := stG ((insSt ((attSt fam5 ⟨1, 1⟩ true).1) (attSt fam5 ⟨1, 1⟩ true).2.1 ⟨2, 1⟩ ([])).1)) (V rfl) ⟨Z, Ir⟩), rfl⟩, ⟨(Vi (g' := hdCell ⟨0, 1⟩) (V rfl) ⟨⟨Z, Ir⟩, Ir⟩), rfl⟩, ⟨(Vi (g' := hdCell ⟨2, 1⟩) (V rfl) ⟨⟨Z, Ir⟩, Ir⟩), rfl⟩, Z⟩) (seen_ct ((insSt ((attSt fam5 ⟨1, 1⟩ true).1) (attSt fam5 ⟨1, 1⟩ true).2.1 ⟨2, 1⟩ ([])).1) ⟨0, 1⟩ ⟨2, 1⟩ (by first | assumption | exact kb_nil | exact kb_of (by assumption) | exact kb_of fam_c5)) <| U (Mv (V rfl)) <| U (Xt (V rfl) (by decide)) <| U (Xt (V rfl) (by decide)) <| U (As (V rfl)) <| U (As (V rfl)) <| Nt <| Sq <| Rt <| U (LBA (V rfl) rfl Ga24 Sz24 (by decide)) <| U (LBA (V rfl) rfl Ga26 Sz26 (by decide)) <| U (q_ixB (i := 2) (V rfl) K ta113 te113 (by rw [al113]; decide)) <| U (LBA (V rfl) rfl Ga26 Sz26 (by decide)) <| CT en38 (by exact ⟨⟨(Vi (g' := stG ((insSt ((attSt fam5 ⟨1, 1⟩ true).1) (attSt fam5 ⟨1, 1⟩ true).2.1 ⟨2, 1⟩ ([])).1)) (V rfl) ⟨Z, Ir⟩), rfl⟩, ⟨(Vi (g' := hdCell ⟨(attSt fam5 ⟨1, 1⟩ true).2.1.pl, (attSt fam5 ⟨1, 1⟩ true).2.1.use⟩) (V rfl) ⟨⟨Z, Ir⟩, Ir⟩), rfl⟩, ⟨(Vi (g' := hdCell ⟨2, 1⟩) (V rfl) ⟨⟨Z, Ir⟩, Ir⟩), rfl⟩, Z⟩) (seen_ct ((insSt ((attSt fam5 ⟨1, 1⟩ true).1) (attSt fam5 ⟨1, 1⟩ true).2.1 ⟨2, 1⟩ ([])).1) (attSt fam5 ⟨1, 1⟩ true).2.1 ⟨2, 1⟩ (by first | assumption | exact kb_nil | exact kb_of (by assumption) | exact kb_of fam_c5)) <| U (Mv (V rfl)) <| U (Xt (V rfl) (by decide)) <| U (Xt (V rfl) (by decide)) <| U (As (V rfl)) <| U (As (V rfl)) <| Nt <| Sq <| Rt <| U (LBA (V rfl) rfl Ga24 Sz24 (by decide)) <| U (q_ixB (i := 2) (V rfl) K ta113 te113 (by rw [al113]; decide)) <| U (LBA (V rfl) rfl Ga26 Sz26 (by decide)) <| CT en33 (by exact ⟨⟨(Vi (g' := stG ((insSt ((attSt fam5 ⟨1, 1⟩ true).1) (attSt fam5 ⟨1, 1⟩ true).2.1 ⟨2, 1⟩ ([])).1)) (V rfl) ⟨Z, Ir⟩), rfl⟩, ⟨(Vi (g' := hdCell ⟨2, 1⟩) (V rfl) ⟨⟨Z, Ir⟩, Ir⟩), rfl⟩, Z⟩) (path_ct ((insSt ((attSt fam5 ⟨1, 1⟩ true).1) (attSt fam5 ⟨1, 1⟩ true).2.1 ⟨2, 1⟩ ([])).1) ⟨2, 1⟩ (by first | assumption | exact kb_nil | exact kb_of (by assumption) | exact kb_of fam_c5)) <| U (Mv (V rfl)) <| ?_
 refine U (Xt (V rfl) (by decide)) <| U (Xt (V rfl) (by decide)) <| U (As (V rfl)) <| U (As (V rfl)) <| Nt <| Sq <| Rt <| U (Mv (V rfl)) <| U (Mv (V rfl)) <| Ug (Gy rfl rfl) (fun hg => Mv (V rfl)) <| Ug (Gy rfl rfl) (fun hg => Ql (Vg (V rfl) hg) K) <| U (Qa (V rfl) (fun h => Vg (V rfl) h)) <| U (Mv (V rfl)) <| Ug (Gy rfl rfl) (fun hg => Mv (V rfl)) <| Ug (Gy rfl rfl) (fun hg => Ql (Vg (V rfl) hg) K) <| U (Qa (V rfl) (fun h => Vg (V rfl) h)) <| U (Mv (V rfl)) <| Ug (Gy rfl rfl) (fun hg => Mv (V rfl)) <| Ug (Gy rfl rfl) (fun hg => Ql (Vg (V rfl) hg) K) <| U (Qa (V rfl) (fun h => Vg (V rfl) h)) <| U (Mv (V rfl)) <| Ug (Gy rfl rfl) (fun hg => Mv (V rfl)) <| Ug (Gy rfl rfl) (fun hg => Ql (Vg (V rfl) hg) K) <| U (Qa (V rfl) (fun h => Vg (V rfl) h)) <| U (Mv (V rfl)) <| Ug (Gy rfl rfl) (fun hg => Mv (V rfl)) <| Ug (Gy rfl rfl) (fun hg => Ql (Vg (V rfl) hg) K) <| U (Qa (V rfl) (fun h => Vg (V rfl) h)) <| U (Mv (V rfl)) <| Ug (Gy rfl rfl) (fun hg => Mv (V rfl)) <| Ug (Gy rfl rfl) (fun hg => Qo (Vg (V rfl) hg)) <| U (Qa (V rfl) (fun h => Vg (V rfl) h)) <| U (Mv (V rfl)) <| Ug (Gy rfl rfl) (fun hg => Mv (V rfl)) <| U (Qa (V rfl) (fun h => Vg (V rfl) h)) <| U (Mv (V rfl)) <| Ug (Gy rfl rfl) (fun hg => Mv (V rfl)) <| UwG (Gy rfl rfl) (fun hg => w_bs (n := 4) (zget := fun _ => iv 0) [(fun _ => iv (2)), (fun _ => iv (3)), (fun _ => iv (1)), (fun _ => iv (0))] (rowG inCell 0 [2, 3, 1, 0]) Un33 Sz3 zero3 (by decide) rfl (by decide) ⟨⟨rfl, .inr ⟨rfl, K, rfl⟩, rfl⟩, ⟨rfl, .inr ⟨rfl, K, rfl⟩, rfl⟩, ⟨rfl, .inr ⟨rfl, K, rfl⟩, rfl⟩, ⟨rfl, .inr ⟨rfl, K, rfl⟩, rfl⟩, Z⟩ ⟨⟨⟨⟨Z, ⟨Z, rfl⟩⟩, ⟨Z, rfl⟩⟩, ⟨Z, rfl⟩⟩, ⟨Z, rfl⟩⟩) <| CTg (Gy rfl rfl) en26 (fun hg => (by exact ⟨⟨(Vg (V rfl) hg), rfl⟩, ⟨(Vg (V rfl) hg), rfl⟩, Z⟩)) (fun hg => equal_ct ((pathSt ((insSt ((attSt fam5 ⟨1, 1⟩ true).1) (attSt fam5 ⟨1, 1⟩ true).2.1 ⟨2, 1⟩ ([])).1) ⟨2, 1⟩).1) ([2, 3, 1, 0])) <| U (Qa (V rfl) (fun h => Vg (V rfl) h)) <| ?_
 exact U (Mv (V rfl)) <| Ug (Gy rfl rfl) (fun hg => LBA (V rfl) rfl Ga24 Sz24 (by decide)) <| CTg (Gy rfl rfl) en78 (fun hg => (by exact ⟨⟨(Vi (g' := stG ((insSt ((attSt fam5 ⟨1, 1⟩ true).1) (attSt fam5 ⟨1, 1⟩ true).2.1 ⟨2, 1⟩ ([])).1)) (Vg (V rfl) hg) ⟨Z, Ir⟩), rfl⟩, ⟨K, rfl⟩, ⟨K, rfl⟩, Z⟩)) (fun hg => target_ct ((insSt ((attSt fam5 ⟨1, 1⟩ true).1) (attSt fam5 ⟨1, 1⟩ true).2.1 ⟨2, 1⟩ ([])).1) 2 0 (by first | assumption | exact kb_nil | exact kb_of (by assumption) | exact kb_of fam_c5)) <| Ug (Gy rfl rfl) (fun hg => Ql (Vg (V rfl) hg) K) <| U (Qa (V rfl) (fun h => Vg (V rfl) h)) <| U (As (V rfl)) <| Nt <| Rx <| R1 rfl (V rfl) rfl (by show bv (((((((((true && (decide ((attSt fam5 ⟨1, 1⟩ true).2.2 = 0))) && (decide ((insSt ((attSt fam5 ⟨1, 1⟩ true).1) (attSt fam5 ⟨1, 1⟩ true).2.1 ⟨2, 1⟩ ([])).2 = 0))) && (decide ((seenSt ((insSt ((attSt fam5 ⟨1, 1⟩ true).1) (attSt fam5 ⟨1, 1⟩ true).2.1 ⟨2, 1⟩ ([])).1) ⟨0, 1⟩ ⟨2, 1⟩).2 = 0))) && (decide ((seenSt ((insSt ((attSt fam5 ⟨1, 1⟩ true).1) (attSt fam5 ⟨1, 1⟩ true).2.1 ⟨2, 1⟩ ([])).1) (attSt fam5 ⟨1, 1⟩ true).2.1 ⟨2, 1⟩).2 = 0))) && (decide ((pathSt ((insSt ((attSt fam5 ⟨1, 1⟩ true).1) (attSt fam5 ⟨1, 1⟩ true).2.1 ⟨2, 1⟩ ([])).1) ⟨2, 1⟩).2 = 0))) && (!((seenSt ((insSt ((attSt fam5 ⟨1, 1⟩ true).1) (attSt fam5 ⟨1, 1⟩ true).2.1 ⟨2, 1⟩ ([])).1) ⟨0, 1⟩ ⟨2, 1⟩).1))) && ((seenSt ((insSt ((attSt fam5 ⟨1, 1⟩ true).1) (attSt fam5 ⟨1, 1⟩ true).2.1 ⟨2, 1⟩ ([])).1) (attSt fam5 ⟨1, 1⟩ true).2.1 ⟨2, 1⟩).1)) && (eqInt ((pathSt ((insSt ((attSt fam5 ⟨1, 1⟩ true).1) (attSt fam5 ⟨1, 1⟩ true).2.1 ⟨2, 1⟩ ([])).1) ⟨2, 1⟩).1) ([2, 3, 1, 0]))) && (decide (tgtSt ((insSt ((attSt fam5 ⟨1, 1⟩ true).1) (attSt fam5 ⟨1, 1⟩ true).2.1 ⟨2, 1⟩ ([])).1) 2 0 = 1))) = bv true; exact congrArg bv (by decide +kernel))
end Go.Proofs.Ytmcdamcedemdiaa
namespace Go.Proofs.Ytmcdamcedemdiaa
open Go.RowKit Go.Eng
theorem holdsE {l : List Nd} {h : Hd} (a : 0 ≤ h.pl ∧ h.pl < (l.length : Int)) (b : 1 ≤ h.use) (u : (l.getD h.pl.toNat default).used = true) (e : (l.getD h.pl.toNat default).uses = h.use) : holdsSt l h = 0 := by
  refine holds_0 ?_ ?_
  · unfold holdsWho
    rw [decide_eq_false (by omega), decide_eq_false (by omega), decide_eq_false (by omega), decide_eq_false (by omega)]; rfl
  · unfold holdsGone
    rw [u, decide_eq_true e]; rfl
theorem first_2 {l : List Nd} {f t : Hd} (c : checkSt l = 0) (a : holdsSt l f = 0) (b : holdsSt l t = 0) : firstSt l [f, t] = 0 := by
  show stepH l (stepH l (checkSt l) f) t = 0
  rw [stepH, stepH, if_pos c, if_pos a]; exact b
theorem first2h {l : List Nd} {f t : Hd} (e : firstSt l [f, t] = 0) : checkSt l = 0 ∧ holdsSt l f = 0 ∧ holdsSt l t = 0 := by
  have h := first_ok e
  exact ⟨h.1, h.2 0 (by show 0 < 2; omega), h.2 1 (by show 1 < 2; omega)⟩
theorem seen_0 {l : List Nd} {f t : Hd} (e : (seenSt l f t).2 = 0) : firstSt l [f, t] = 0 := Classical.byContradiction fun q => by rw [seen_1 q] at e; exact q e
theorem up_used {l : List Nd} (h : checkSt l = 0) {k : Int} (hk : 0 ≤ k ∧ k < (l.length : Int)) (ha : 0 ≤ above (l.getD k.toNat default)) : (l.getD (above (l.getD k.toNat default)).toNat default).used = true := by
  by_cases hh : 0 ≤ (l.getD k.toNat default).host
  · rw [show above (l.getD k.toNat default) = (l.getD k.toNat default).host by unfold above; rw [if_pos hh]]
    exact (right_to h).host k hk hh
  · have e : above (l.getD k.toNat default) = (l.getD k.toNat default).par := by unfold above; rw [if_neg hh]
    rw [e] at ha ⊢
    obtain ⟨hlt, hm⟩ := par_kid h hk ha
    refine Classical.byContradiction fun q => ?_
    rw [((st_n1 h ⟨ha, hlt⟩).free (Bool.eq_false_iff.2 q)).2.2.2.2.2] at hm
    cases hm
section
variable {l : List Nd} {f t : Hd}
end
end Go.Proofs.Ytmcdamcedemdiaa
namespace Go.Proofs.Ytmcdamcedemdiaa
open Go.RowKit Go.Eng
def rootSt (l : List Nd) (k h : Int) (cl : Bool) : List Nd := l.set k.toNat { (l.getD k.toNat default) with used := true, tag := 0, uses := (l.getD k.toNat default).uses + 1, host := h, closed := cl }
theorem att_root {l : List Nd} {k : Nat} {h : Int} {cl : Bool} (hk : k < l.length) : attAt (mkAt l k 0) k h cl = rootSt l k h cl := by
  have hm : k < (mkAt l k 0).length := by rw [mkAt_len]; exact hk
  unfold attAt
  rw [getD_setS hm, List.set_set]
  unfold mkAt rootSt
  rw [getD_setS hk, List.set_set]; rfl
structure Roots (l : List Nd) (k h : Int) : Prop where
  c : checkSt l = 0
  kr : 0 ≤ k ∧ k < (l.length : Int)
  hr : 0 ≤ h ∧ h < (l.length : Int)
  hu : (l.getD h.toNat default).used = true
  ku : (l.getD k.toNat default).used = false
  room : (l.getD k.toNat default).uses < 1000000
  no : ∀ q : Int, 0 ≤ q ∧ q < (l.length : Int) → (l.getD q.toNat default).host ≠ h
theorem att_of {l : List Nd} {h : Hd} {cl : Bool} (e : (attSt l h cl).2.2 = 0) : ∃ k : Int, Roots l k h.pl ∧ holdsSt l h = 0 ∧ attSt l h cl = (rootSt l k h.pl cl, ⟨k, (l.getD k.toNat default).uses + 1⟩, 0) := by
  have h1 : firstSt l [h] = 0 := Classical.byContradiction fun q => by rw [att_1 q] at e; exact q e
  cases h2 : l.any fun n => decide (n.host = h.pl) with
  | true => rw [att_2 h1 h2] at e; cases e
  | false =>
    have h3 : (mkSt l 0).2.2 = 0 := Classical.byContradiction fun q => by rw [att_3 h1 h2 q] at e; exact q e
    obtain ⟨k, hk, hr, _, hc, e1, e2⟩ := mk_pl h3
    have hf := first1 h1
    have hl := roomB_lt hr
    have h2' := List.any_eq_false.1 h2
    refine ⟨k, ⟨hc, by omega, hf.2.2.1, hf.2.2.2, hl.1, hl.2, fun q hq e => ?_⟩, hf.2.1, ?_⟩
    · exact h2' _ (mem_getD (d := default) (show q.toNat < l.length by omega)) (decide_eq_true e)
    · rw [att_4 h1 h2 h3, e1, e2]
      show (attAt (mkAt l k 0) ((k : Int)).toNat h.pl cl, _, _) = _
      rw [show ((k : Int)).toNat = k by omega, att_root hk]
section
variable {l : List Nd} {k h : Int} {cl : Bool}
theorem root_at (R : Roots l k h) {q : Int} (hq : 0 ≤ q) (hne : q ≠ k) : (rootSt l k h cl).getD q.toNat default = l.getD q.toNat default := by
  unfold rootSt; rw [getD_setI R.kr hq, if_neg hne]
theorem root_k (R : Roots l k h) : (rootSt l k h cl).getD k.toNat default = { (l.getD k.toNat default) with used := true, tag := 0, uses := (l.getD k.toNat default).uses + 1, host := h, closed := cl } := by
  unfold rootSt; rw [getD_setI R.kr R.kr.1, if_pos rfl]
theorem root_len : (rootSt l k h cl).length = l.length := List.length_set
theorem root_ne (R : Roots l k h) {q : Int} (u : (l.getD q.toNat default).used = true) : q ≠ k := fun e => by rw [e, R.ku] at u; cases u
theorem root_kids (R : Roots l k h) : (l.getD k.toNat default).kids = [] := ((st_n1 R.c R.kr).free R.ku).2.2.2.2.2
theorem root_above (R : Roots l k h) {q : Int} (hq : 0 ≤ q ∧ q < (l.length : Int)) (ha : 0 ≤ above (l.getD q.toNat default)) : above (l.getD q.toNat default) ≠ k := root_ne R (up_used R.c hq ha)
theorem root_right (R : Roots l k h) : RightSt (rootSt l k h cl) := by
  have S := right_to R.c
  have n0 := st_n1 R.c R.kr
  have f0 := n0.free R.ku
  have hnk := root_ne R R.hu
  have hl : (rootSt l k h cl).length = l.length := root_len
  have at_ : ∀ {q : Int}, 0 ≤ q → q ≠ k → (rootSt l k h cl).getD q.toNat default = l.getD q.toNat default := fun a b => root_at R a b
  have atk := root_k (cl := cl) R
  refine ⟨by rw [hl]; exact S.len, fun q hq => ?_, fun q hq x hx => ?_, fun q hq => ?_, fun q hq h0 => ?_, fun q hq h0 => ?_, fun a b ha hb h0 e => ?_, ?_⟩
  · rw [hl] at hq ⊢
    by_cases e : q = k
    · subst e
      rw [atk]
      have hu := n0.uses
      have hr := R.room
      refine ⟨⟨by show 0 ≤ (l.getD q.toNat default).uses + 1; omega, by show (l.getD q.toNat default).uses + 1 ≤ _; omega⟩, ⟨Int.le_refl 0, by show (0 : Int) ≤ 99; omega⟩, n0.mark, n0.kids, n0.par, ⟨?_, R.hr.2⟩, fun hf => ?_, fun _ => ?_, fun _ => R.hr.1, fun _ => f0.2.2.1⟩
      · show -1 ≤ h; have := R.hr; omega
      · cases hf
      · show (l.getD q.toNat default).uses + 1 ≠ 0; omega
    · rw [at_ hq.1 e]; exact S.node q hq
  · rw [hl] at hq
    by_cases e : q = k
    · subst e
      rw [atk] at hx
      have hx : x ∈ (l.getD q.toNat default).kids := hx
      rw [root_kids R] at hx; cases hx
    · rw [at_ hq.1 e] at hx
      obtain ⟨a, b, d⟩ := S.kid q hq x hx
      rw [at_ a (root_ne R b)]
      exact ⟨a, b, d⟩
  · rw [hl] at hq
    by_cases e : q = k
    · subst e
      rw [atk]
      show (l.getD q.toNat default).kids.Nodup
      exact S.nodup q hq
    · rw [at_ hq.1 e]; exact S.nodup q hq
  · rw [hl] at hq
    by_cases e : q = k
    · subst e
      rw [atk] at h0
      have h0 : 0 ≤ (l.getD q.toNat default).par := h0
      rw [f0.2.2.1] at h0; omega
    · rw [at_ hq.1 e] at h0 ⊢
      have m := S.par q hq h0
      by_cases e2 : (l.getD q.toNat default).par = k
      · rw [e2, root_kids R] at m; cases m
      · rw [at_ h0 e2]; exact m
  · rw [hl] at hq
    by_cases e : q = k
    · subst e
      rw [atk]
      show ((rootSt l q h cl).getD h.toNat default).used = true
      rw [at_ R.hr.1 hnk]; exact R.hu
    · rw [at_ hq.1 e] at h0 ⊢
      have m := S.host q hq h0
      rw [at_ h0 (root_ne R m)]; exact m
  · rw [hl] at ha hb
    by_cases e1 : a = k
    · subst e1
      by_cases e2 : b = a
      · exact e2.symm
      · rw [atk, at_ hb.1 e2] at e
        exact absurd e.symm (R.no b hb)
    · by_cases e2 : b = k
      · subst e2
        rw [atk, at_ ha.1 e1] at e
        exact absurd e (R.no a ha)
      · rw [at_ ha.1 e1] at h0 e
        rw [at_ hb.1 e2] at e
        exact S.one a b ha hb h0 e
  · obtain ⟨r, hr⟩ := S.rank
    refine ⟨fun q => if q = k then r h + 1 else r q, fun q hq h0 => ?_⟩
    rw [hl] at hq
    by_cases e : q = k
    · subst e
      rw [atk] at h0 ⊢
      have ea : above { (l.getD q.toNat default) with used := true, tag := 0, uses := (l.getD q.toNat default).uses + 1, host := h, closed := cl } = h := by
        unfold above; show (if 0 ≤ h then h else _) = h; rw [if_pos R.hr.1]
      rw [ea]
      show (if h = q then r h + 1 else r h) < if q = q then r h + 1 else r q
      rw [if_neg hnk, if_pos rfl]; omega
    · rw [at_ hq.1 e] at h0 ⊢
      have := hr q hq h0
      show (if _ = k then _ else r (above (l.getD q.toNat default))) < if q = k then _ else r q
      rw [if_neg (root_above R hq h0), if_neg e]; exact this
theorem root_c (R : Roots l k h) : checkSt (rootSt l k h cl) = 0 := right_of (root_right R)
theorem root_line (R : Roots l k h) : ∀ (d : Nat) (q : Int), 0 ≤ q ∧ q < (l.length : Int) → q ≠ k → dpt l q = d → line (rootSt l k h cl) q = line l q ∧ ∀ x ∈ line l q, x ≠ k
  | 0, q, hq, _, hd => by rw [dpt_eq R.c hq] at hd; cases hd
  | d + 1, q, hq, hne, hd => by
    rw [line_eq (root_c R) (by rw [root_len]; exact hq), line_eq R.c hq, root_at R hq.1 hne]
    by_cases ha : 0 ≤ above (l.getD q.toNat default)
    · have ih := root_line R d _ ⟨ha, (above_in (checkSt_nodes R.c) hq).2⟩ (root_above R hq ha) (by rw [dpt_eq R.c hq] at hd; omega)
      rw [ih.1]
      exact ⟨rfl, fun x hx => by
        rcases List.mem_cons.1 hx with rfl | hx
        · exact hne
        · exact ih.2 x hx⟩
    · rw [line_neg (by omega), line_neg (by omega)]
      exact ⟨rfl, fun x hx => by
        rcases List.mem_cons.1 hx with rfl | hx
        · exact hne
        · cases hx⟩
theorem root_roots (R : Roots l k h) {q : Int} (hq : 0 ≤ q ∧ q < (l.length : Int)) (hne : q ≠ k) : rootsL (rootSt l k h cl) q = rootsL l q := by
  obtain ⟨e, m⟩ := root_line (cl := cl) R _ q hq hne rfl
  unfold rootsL
  rw [e]
  exact List.filter_congr fun x hx => by rw [root_at R (line_in hx).1 (m x hx)]
theorem root_under (R : Roots l k h) {q x : Int} (hq : 0 ≤ q ∧ q < (l.length : Int)) (hne : q ≠ k) (hx : 0 ≤ x) : underB (rootSt l k h cl) q x = underB l q x := by
  rw [← line_under (root_c R) (by rw [root_len]; omega) hx, ← line_under R.c (by omega) hx, (root_line (cl := cl) R _ q hq hne rfl).1]
theorem root_hidden (R : Roots l k h) {f t : Int} (hf : 0 ≤ f ∧ f < (l.length : Int)) (ht : 0 ≤ t ∧ t < (l.length : Int)) (nf : f ≠ k) (nt : t ≠ k) (all : Bool) : hiddenSt (rootSt l k h cl) f t all = hiddenSt l f t all := by
  unfold hiddenSt
  rw [root_roots R ht nt]
  rw [Bool.eq_iff_iff, List.any_eq_true, List.any_eq_true]
  have key : ∀ x ∈ rootsL l t, shutB (rootSt l k h cl) f all x = shutB l f all x := fun x hx => by
    obtain ⟨a, _, m⟩ := roots_in R.c (by omega) hx
    have := (root_line (cl := cl) R _ t ht nt rfl).2 x m
    rw [shutB, shutB, root_under R hf nf a.1, root_at R a.1 this]
  exact ⟨fun ⟨x, hx, e⟩ => ⟨x, hx, by rw [← key x hx]; exact e⟩, fun ⟨x, hx, e⟩ => ⟨x, hx, by rw [key x hx]; exact e⟩⟩
theorem root_holds (R : Roots l k h) {f : Hd} (hf : holdsSt l f = 0) : holdsSt (rootSt l k h cl) f = 0 ∧ f.pl ≠ k := by
  obtain ⟨a, b, c, d, e⟩ := holds_in hf
  have ne := root_ne R d
  exact ⟨holdsE (by rw [root_len]; exact ⟨a, b⟩) c (by rw [root_at R a ne]; exact d) (by rw [root_at R a ne]; exact e), ne⟩
theorem root_self (R : Roots l k h) : holdsSt (rootSt l k h cl) ⟨k, (l.getD k.toNat default).uses + 1⟩ = 0 := by
  have := (st_n1 R.c R.kr).uses
  refine holdsE (by rw [root_len]; exact R.kr) (by show 1 ≤ (l.getD k.toNat default).uses + 1; omega) ?_ ?_
  · show ((rootSt l k h cl).getD k.toNat default).used = true; rw [root_k R]
  · show ((rootSt l k h cl).getD k.toNat default).uses = _; rw [root_k R]
theorem root_open (R : Roots l k h) {f : Int} : hiddenSt (rootSt l k h false) f k false = hiddenSt (rootSt l k h false) f h false := by
  have hk : 0 ≤ k ∧ k < ((rootSt l k h false).length : Int) := by rw [root_len]; exact R.kr
  have hho : ((rootSt l k h false).getD k.toNat default).host = h := by rw [root_k R]
  have hcl : ((rootSt l k h false).getD k.toNat default).closed = false := by rw [root_k R]
  have ea : above ((rootSt l k h false).getD k.toNat default) = h := by unfold above; rw [hho, if_pos R.hr.1]
  have e : rootsL (rootSt l k h false) k = k :: rootsL (rootSt l k h false) h := by
    unfold rootsL
    rw [line_eq (root_c R) hk, ea, List.filter_cons_of_pos (by rw [hho]; exact decide_eq_true R.hr.1)]
  unfold hiddenSt
  rw [e, List.any_cons, shutB, hcl]; simp
end
theorem open_ok {l : List Nd} {h f t : Hd} (e1 : (seenSt l f t).2 = 0) (e2 : (attSt l h false).2.2 = 0) :
    (((((decide ((seenSt (attSt l h false).1 f t).2 = 0) && decide ((seenSt (attSt l h false).1 f (attSt l h false).2.1).2 = 0)) && decide ((seenSt (attSt l h false).1 f h).2 = 0)) && decide ((seenSt (attSt l h false).1 f t).1 = (seenSt l f t).1)) && decide ((seenSt (attSt l h false).1 f (attSt l h false).2.1).1 = (seenSt (attSt l h false).1 f h).1))) = true := by
  obtain ⟨k, R, hh, ea⟩ := att_of e2
  have ef := seen_0 e1
  have h3 := first2h ef
  have hi := holds_in h3.2.1
  have ti := holds_in h3.2.2
  have rf := root_holds (cl := false) R h3.2.1
  have rt := root_holds (cl := false) R h3.2.2
  have rh := root_holds (cl := false) R hh
  have rc := root_c (cl := false) R
  rw [ea]
  show (((((decide ((seenSt (rootSt l k h.pl false) f t).2 = 0) && decide ((seenSt (rootSt l k h.pl false) f ⟨k, (l.getD k.toNat default).uses + 1⟩).2 = 0)) && decide ((seenSt (rootSt l k h.pl false) f h).2 = 0)) && decide ((seenSt (rootSt l k h.pl false) f t).1 = (seenSt l f t).1)) && decide ((seenSt (rootSt l k h.pl false) f ⟨k, (l.getD k.toNat default).uses + 1⟩).1 = (seenSt (rootSt l k h.pl false) f h).1))) = true
  rw [seen_2 (first_2 rc rf.1 rt.1), seen_2 (first_2 rc rf.1 (root_self R)), seen_2 (first_2 rc rf.1 rh.1), seen_2 ef, root_open R, root_hidden R ⟨hi.1, hi.2.1⟩ ⟨ti.1, ti.2.1⟩ rf.2 rt.2]
  simp
end Go.Proofs.Ytmcdamcedemdiaa
namespace Go.Proofs.Ytmcdamcedemdiaa
open Go.RowKit Go.Eng
theorem shadowOpen_ct (l : List Nd) (h f t : Hd) (hb : ∀ n ∈ l, n.kids.length ≤ 17592186043904) : Ct Try.prog 13 [SV.agg 1 (stG l), SV.agg 2 (hdCell h), SV.agg 2 (hdCell f), SV.agg 2 (hdCell t)] (bv true) := by
 refine CtO 84 Try.func13 rfl rfl rfl fun E => row_lenA 0 (V (s := 0) rfl) rfl rfl fun hl0_0 => Sq <| Rt <| BxA 1 (V rfl) rfl rfl <| BxA 2 (V rfl) rfl rfl <| BxA 3 (V rfl) rfl rfl <| BxA 4 (V rfl) rfl rfl <| U (As K) <| Nt <| Sq <| Rt <| U (LBA (V rfl) rfl Ga24 Sz24 (by decide)) <| U (LBA (V rfl) rfl Ga26 Sz26 (by decide)) <| U (LBA (V rfl) rfl Ga26 Sz26 (by decide)) <| CT en38 (by exact ⟨⟨(Vi (g' := stG l) (V rfl) ⟨Z, Ir⟩), rfl⟩, ⟨(Vi (g' := hdCell ⟨f.pl, f.use⟩) (V rfl) ⟨⟨Z, Ir⟩, Ir⟩), rfl⟩, ⟨(Vi (g' := hdCell ⟨t.pl, t.use⟩) (V rfl) ⟨⟨Z, Ir⟩, Ir⟩), rfl⟩, Z⟩) (seen_ct l f t (by first | assumption | exact kb_nil | exact kb_of (by assumption) | exact kb_of fam_c5)) <| U (Mv (V rfl)) <| U (Xt (V rfl) (by decide)) <| U (Xt (V rfl) (by decide)) <| U (As (V rfl)) <| U (As (V rfl)) <| Nt <| Sq <| Rt <| U (LBA (V rfl) rfl Ga24 Sz24 (by decide)) <| U (LBA (V rfl) rfl Ga26 Sz26 (by decide)) <| CT en74 (by exact ⟨⟨(Vi (g' := stG l) (V rfl) ⟨Z, Ir⟩), rfl⟩, ⟨(Vi (g' := hdCell ⟨h.pl, h.use⟩) (V rfl) ⟨⟨Z, Ir⟩, Ir⟩), rfl⟩, ⟨K, rfl⟩, Z⟩) (attach_ct l h false (by first | assumption | exact kb_nil | exact kb_of (by assumption) | exact kb_of fam_c5)) <| U (Mv (V rfl)) <| U (Xt (V rfl) (by decide)) <| U (Xt (V rfl) (by decide)) <| U (Xt (V rfl) (by decide)) <| Al 5 zero24 rfl rfl <| Al 6 zero26 rfl rfl <| StA (V rfl) rfl (V rfl) Sz24 <| StA (V rfl) rfl (V rfl) Sz26 <| U (As (V rfl)) <| Nt <| Sq <| Sq <| Rt <| ?_
 refine CT en75 (by exact Z) (veiled_ct) <| U (Qo (V rfl)) <| U (Mv (V rfl)) <| Ug (Gn rfl rfl) (fun hg => Mv (V rfl)) <| Ug (Gn rfl rfl) (fun hg => Qn (Vg (V rfl) hg) K) <| U (Qr (V rfl) (fun h => Vg (V rfl) (notT h))) <| U (Mv (V rfl)) <| Ug (Gn rfl rfl) (fun hg => Mv (V rfl)) <| Ug (Gn rfl rfl) (fun hg => Qn (Vg (V rfl) hg) K) <| U (Qr (V rfl) (fun h => Vg (V rfl) (notT h))) <| Nt <| Cd (V rfl) (fun hc1 => ?_) (fun hc1 => ?_)
 ·have hc1s := hc1; try simp only [BL] at hc1s
  exact Sq <| Rt <| CT en75 (by exact Z) (veiled_ct) <| U (As (V rfl)) <| Nt <| Rx <| R1 rfl (V rfl) rfl (by show bv (true) = bv true; rfl)
 ·have hc1s := hc1; try simp only [BL] at hc1s
  have hs1 : (seenSt l f t).2 = 0 ∧ (attSt l h false).2.2 = 0 := by simpa using hc1
  obtain ⟨kR, hR, hho, hea⟩ := att_of hs1.2
  have hka : ∀ n ∈ (attSt l h false).1, n.kids.length ≤ 17592186043904 := by rw [hea]; exact kb_of (root_c hR)
  refine Sk <| Sq <| Rt <| U (LBA (V rfl) rfl Ga24 Sz24 (by decide)) <| U (LBA (V rfl) rfl Ga26 Sz26 (by decide)) <| U (LBA (V rfl) rfl Ga26 Sz26 (by decide)) <| CT en38 (by exact ⟨⟨(Vi (g' := stG ((attSt l h false).1)) (V rfl) ⟨Z, Ir⟩), rfl⟩, ⟨(Vi (g' := hdCell ⟨f.pl, f.use⟩) (V rfl) ⟨⟨Z, Ir⟩, Ir⟩), rfl⟩, ⟨(Vi (g' := hdCell ⟨t.pl, t.use⟩) (V rfl) ⟨⟨Z, Ir⟩, Ir⟩), rfl⟩, Z⟩) (seen_ct ((attSt l h false).1) f t (by first | assumption | exact kb_nil | exact kb_of (by assumption) | exact kb_of fam_c5)) <| U (Mv (V rfl)) <| U (Xt (V rfl) (by decide)) <| U (Xt (V rfl) (by decide)) <| U (As (V rfl)) <| U (As (V rfl)) <| Nt <| Sq <| Rt <| U (LBA (V rfl) rfl Ga24 Sz24 (by decide)) <| U (LBA (V rfl) rfl Ga26 Sz26 (by decide)) <| U (LBA (V rfl) rfl Ga26 Sz26 (by decide)) <| CT en38 (by exact ⟨⟨(Vi (g' := stG ((attSt l h false).1)) (V rfl) ⟨Z, Ir⟩), rfl⟩, ⟨(Vi (g' := hdCell ⟨f.pl, f.use⟩) (V rfl) ⟨⟨Z, Ir⟩, Ir⟩), rfl⟩, ⟨(Vi (g' := hdCell ⟨(attSt l h false).2.1.pl, (attSt l h false).2.1.use⟩) (V rfl) ⟨⟨Z, Ir⟩, Ir⟩), rfl⟩, Z⟩) (seen_ct ((attSt l h false).1) f (attSt l h false).2.1 (by first | assumption | exact kb_nil | exact kb_of (by assumption) | exact kb_of fam_c5)) <| U (Mv (V rfl)) <| U (Xt (V rfl) (by decide)) <| U (Xt (V rfl) (by decide)) <| U (As (V rfl)) <| U (As (V rfl)) <| Nt <| Sq <| Rt <| U (LBA (V rfl) rfl Ga24 Sz24 (by decide)) <| U (LBA (V rfl) rfl Ga26 Sz26 (by decide)) <| U (LBA (V rfl) rfl Ga26 Sz26 (by decide)) <| CT en38 (by exact ⟨⟨(Vi (g' := stG ((attSt l h false).1)) (V rfl) ⟨Z, Ir⟩), rfl⟩, ⟨(Vi (g' := hdCell ⟨f.pl, f.use⟩) (V rfl) ⟨⟨Z, Ir⟩, Ir⟩), rfl⟩, ⟨(Vi (g' := hdCell ⟨h.pl, h.use⟩) (V rfl) ⟨⟨Z, Ir⟩, Ir⟩), rfl⟩, Z⟩) (seen_ct ((attSt l h false).1) f h (by first | assumption | exact kb_nil | exact kb_of (by assumption) | exact kb_of fam_c5)) <| U (Mv (V rfl)) <| U (Xt (V rfl) (by decide)) <| U (Xt (V rfl) (by decide)) <| U (As (V rfl)) <| U (As (V rfl)) <| Nt <| Sq <| Rq <| O (Mv (V rfl)) <| ?_
  exact O (Ql (V rfl) K) <| O (Mv (V rfl)) <| Og (Gy rfl rfl) (fun hg => Mv (V rfl)) <| Og (Gy rfl rfl) (fun hg => Ql (Vg (V rfl) hg) K) <| O (Qa (V rfl) (fun h => Vg (V rfl) h)) <| O (Mv (V rfl)) <| Og (Gy rfl rfl) (fun hg => Mv (V rfl)) <| Og (Gy rfl rfl) (fun hg => Ql (Vg (V rfl) hg) K) <| O (Qa (V rfl) (fun h => Vg (V rfl) h)) <| O (Mv (V rfl)) <| Og (Gy rfl rfl) (fun hg => Mv (V rfl)) <| Og (Gy rfl rfl) (fun hg => Mv (V rfl)) <| Og (Gy rfl rfl) (fun hg => q_eqlb (Vg (V rfl) hg) (Vg (V rfl) hg) Un4) <| O (Qa (V rfl) (fun h => Vg (V rfl) h)) <| O (Mv (V rfl)) <| Og (Gy rfl rfl) (fun hg => Mv (V rfl)) <| Og (Gy rfl rfl) (fun hg => Mv (V rfl)) <| Og (Gy rfl rfl) (fun hg => q_eqlb (Vg (V rfl) hg) (Vg (V rfl) hg) Un4) <| O (Qa (V rfl) (fun h => Vg (V rfl) h)) <| O (As (V rfl)) <| Nq <| Rx <| R1 rfl (V rfl) rfl (by show bv (((((decide ((seenSt ((attSt l h false).1) f t).2 = 0)) && (decide ((seenSt ((attSt l h false).1) f (attSt l h false).2.1).2 = 0))) && (decide ((seenSt ((attSt l h false).1) f h).2 = 0))) && (((seenSt ((attSt l h false).1) f t).1) == ((seenSt l f t).1))) && (((seenSt ((attSt l h false).1) f (attSt l h false).2.1).1) == ((seenSt ((attSt l h false).1) f h).1))) = bv true; exact congrArg bv (open_ok hs1.1 hs1.2))
end Go.Proofs.Ytmcdamcedemdiaa
