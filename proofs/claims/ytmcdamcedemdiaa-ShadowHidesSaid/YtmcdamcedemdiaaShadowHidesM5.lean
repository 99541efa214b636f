/- What the proof of ShadowHides rests on, part 5: the engine, the walks, the plain laws. -/
import Derived.Test.YtmcdamcedemdiaaShadowHidesM4
set_option linter.unusedVariables false
set_option linter.unusedSimpArgs false
namespace Go.Proofs.Ytmcdamcedemdiaa
open Go.RowKit Go.Eng
theorem path_ct (l : List Nd) (h : Hd) (hb : ∀ n ∈ l, n.kids.length ≤ 17592186043904) : Ct Try.prog 33 [SV.agg 1 (stG l), SV.agg 2 (hdCell h)] (sv2 (inRow (pathSt l h).1) (iv (pathSt l h).2)) := by
 refine CtO 34 Try.func33 rfl rfl rfl fun E => row_lenA 0 (V (s := 0) rfl) rfl rfl fun hl0_0 => Sq <| Rt <| BxA 1 (V rfl) rfl rfl <| BxA 2 (V rfl) rfl rfl <| t_nilO 3 1 (rowG inCell 0 []) 3 (.inl rfl) rfl <| U (As K) <| Nt <| Sq <| Sq <| Rt <| U (LBA (V rfl) rfl Ga24 Sz24 (by decide)) <| U (LBA (V rfl) rfl Ga26 Sz26 (by decide)) <| CT en46 (by exact ⟨⟨(Vi (g' := stG l) (V rfl) ⟨Z, Ir⟩), rfl⟩, ⟨(Vi (g' := hdCell ⟨h.pl, h.use⟩) (V rfl) ⟨⟨Z, Ir⟩, Ir⟩), rfl⟩, Z⟩) (find_ct l h (by first | assumption | exact kb_nil | exact kb_of (by assumption) | exact kb_of fam_c5)) <| U (Mv (V rfl)) <| U (Xt (V rfl) (by decide)) <| U (Xt (V rfl) (by decide)) <| Al 4 zero61 rfl rfl <| StA (V rfl) rfl (V rfl) Sz61 <| U (As (V rfl)) <| Nt <| Sq <| Rq <| O (Mv (V rfl)) <| O (Qn (V rfl) K) <| Nq <| Cd (V rfl) (fun hc1 => ?_) (fun hc1 => ?_)
 ·have hc1s := hc1; try simp only [BL] at hc1s
  exact Sq <| Rt <| U (Mv (V rfl)) <| t_nilO 5 1 (rowG inCell 0 []) 3 (.inl rfl) rfl <| U (As (V rfl)) <| Nt <| FzC 5 rfl <| Rx <| R2 rfl (V rfl) (V rfl) rfl rfl (by show sv2 (inRow ([])) (iv ((findSt l h).2)) = sv2 (inRow (pathSt l h).1) (iv (pathSt l h).2); rw [path_1 (h := h) (fun q => hc1s ((first_find l h).symm.trans q)), first_find])
 ·have hc1s := hc1; try simp only [BL] at hc1s
  have hf0 : firstSt l [h] = 0 := (first_find l h).trans hc1s
  have hc0 := (first1 hf0).1
  have hpl := (first1 hf0).2.2.1
  have h24 := checkSt_len hc0
  refine Sk <| Sq <| Rt <| t_nilO 6 1 (rowG inCell 0 []) 3 (.inl rfl) rfl <| Nt <| Sq <| Sq <| Rq <| O (FlB _ _ (V rfl) Un26 rfl 0 Sz3) <| O (LdB (V rfl) rfl Ga3 (by decide)) <| O (As (V rfl)) <| Nq <| Bo <| c_mv 6 60 rfl rfl <| c_ownE 60 (([])) rfl (by rfl) <| Lo (uc2 fun (acc : List Int) (k : Int) => ⟨[(2, SV.bp 1 0), (8, SV.own 60), (9, iv (k))], [(1, Own.box 1 (fun zt => SV.renm (mvN 6 60) ((stG l) zt)) 24), (60, ownOf inCell 1 0 acc 3)]⟩) (uc2 fun (acc : List Int) (k : Int) => (-1 ≤ k ∧ k < (l.length : Int)) ∧ line l h.pl = acc ++ line l k) (uc2 fun (acc : List Int) (k : Int) => (line l k).length) ([], h.pl) (by show (-1 ≤ (h.pl) ∧ (h.pl) < (l.length : Int)) ∧ line l h.pl = ([]) ++ line l (h.pl); exact ⟨by omega, rfl⟩) (We (ow := [(1, Own.box 1 (fun zt => SV.renm (mvN 6 60) ((stG l) zt)) 24), (60, ownOf inCell 1 0 (([])) 3)]) (Vs rfl) (by exact ⟨⟨_, rfl, rfl, rfl, (An rfl)⟩, ⟨_, rfl, rfl⟩, Z⟩)) <| ?_
  ·rintro ⟨acc, k⟩ hI1
   have hJ1 : (-1 ≤ k ∧ k < (l.length : Int)) ∧ line l h.pl = acc ++ line l k := hI1
   show C _ E _ ⟨[(2, SV.bp 1 0), (8, SV.own 60), (9, iv (k))], [(1, Own.box 1 (fun zt => SV.renm (mvN 6 60) ((stG l) zt)) 24), (60, ownOf inCell 1 0 acc 3)]⟩ _
   have hkr := hJ1.1
   have hln := hJ1.2
   have hal := path_n hc0 hln
   refine Sq <| Sq <| Rq <| O (Mv (V rfl)) <| O (Ge (V rfl) K) <| Nq <| Cd (V rfl) (fun hc2 => ?_) (fun hc2 => ?_)
   ·have hc2s := hc2; try simp only [BL] at hc2s
    exact Sk <| Sq <| Bo <| Rt <| U (Mv (V rfl)) <| U (Mv (V rfl)) <| Uw (w_bs (n := 1) (zget := fun _ => iv 0) [(fun _ => iv (k))] (rowG inCell 0 [k]) Un33 Sz3 zero3 (by decide) rfl (by decide) ⟨⟨rfl, .inr ⟨rfl, (V rfl), rfl⟩, rfl⟩, Z⟩ ⟨Z, ⟨Z, rfl⟩⟩) <| Ap 7 (rowG inCell 0 (acc ++ ([k]))) eo33 (V rfl) rfl (V rfl) rfl (len_app acc ([k])) (by first | (simp only [maxLen, List.length_append, List.length_set, List.length_nil, List.length_cons]; omega) | (simp only [maxLen]; omega)) (by first | (simp only [List.length_append, List.length_set, List.length_nil, List.length_cons]; omega) | (omega)) (app_typed (l := acc) (m := ([k]))) <| U (As (V rfl)) <| Nt <| Rq <| O (FlB _ _ (V rfl) Un24 rfl 0 Sz22) <| O (LdB (V rfl) rfl Ga22 (by decide)) <| O (Mv (V rfl)) <| O (Ix (V rfl) (V rfl) ts22 te22 (by omega) (by omega)) <| O (LdA (V rfl) Ga61 Sz61 (by decide)) <| CQ en110 (by exact ⟨⟨(Vi (g' := ndCell ⟨(l.getD (Int.toNat k) default).used, (l.getD (Int.toNat k) default).uses, (l.getD (Int.toNat k) default).tag, (l.getD (Int.toNat k) default).mark, (l.getD (Int.toNat k) default).par, (l.getD (Int.toNat k) default).kids, (l.getD (Int.toNat k) default).host, (l.getD (Int.toNat k) default).closed⟩) (V rfl) ⟨⟨⟨⟨⟨⟨⟨⟨Z, Ir⟩, Ir⟩, Ir⟩, Ir⟩, Ir⟩, Ir⟩, Ir⟩, Ir⟩), rfl⟩, Z⟩) (above_ct (l.getD (Int.toNat k) default)) <| O (As (V rfl)) <| Nq <| k_mv 7 60 rfl rfl <| Nx (acc ++ [k], above (l.getD (Int.toNat k) default)) (by show (-1 ≤ (above (l.getD (Int.toNat k) default)) ∧ (above (l.getD (Int.toNat k) default)) < (l.length : Int)) ∧ line l h.pl = (acc ++ [k]) ++ line l (above (l.getD (Int.toNat k) default)); exact ⟨above_in (checkSt_nodes hc0) (by omega), path_s hc0 (by omega) hln⟩) (by show (line l (above (l.getD (Int.toNat k) default))).length < (line l k).length; exact path_m hc0 (by omega)) (We (ow := [(1, Own.box 1 (fun zt => SV.renm (mvN 6 60) ((stG l) zt)) 24), (60, ownOf inCell 1 0 ((acc ++ [k])) 3)]) (Vs rfl) (by exact ⟨⟨_, rfl, rfl, rfl, (An rfl)⟩, ⟨_, rfl, rfl⟩, Z⟩))
   ·have hc2s := hc2; try simp only [BL] at hc2s
    exact Ex <| Sq <| Rq <| O (Mv (V rfl)) <| O (As (V rfl)) <| O (As K) <| Nq <| FzC 60 rfl <| Rx <| R2 rfl (V rfl) (V rfl) rfl rfl (by show sv2 (inRow acc) (iv (0)) = sv2 (inRow (pathSt l h).1) (iv (pathSt l h).2); rw [path_2 hf0, hln, line_neg (k := k) (by omega), List.append_nil])
theorem seen_ct (l : List Nd) (f t : Hd) (hb : ∀ n ∈ l, n.kids.length ≤ 17592186043904) : Ct Try.prog 38 [SV.agg 1 (stG l), SV.agg 2 (hdCell f), SV.agg 2 (hdCell t)] (sv2 (bv (seenSt l f t).1) (iv (seenSt l f t).2)) := by
 refine CtO 35 Try.func38 rfl rfl rfl fun E => row_lenA 0 (V (s := 0) rfl) rfl rfl fun hl0_0 => Sq <| Rt <| BxA 1 (V rfl) rfl rfl <| BxA 2 (V rfl) rfl rfl <| BxA 3 (V rfl) rfl rfl <| U (As K) <| U (As K) <| Nt <| Sq <| Sq <| Rq <| O (LBA (V rfl) rfl Ga26 Sz26 (by decide)) <| O (LBA (V rfl) rfl Ga26 Sz26 (by decide)) <| O (q_bld22 (g0 := fun zi => (hdCell f) (0 + zi)) (g1 := fun zi => (hdCell t) (0 + zi)) (V rfl) (V rfl) Un123 Sz26 zero123v (arr22 (fun zi => (hdCell f) (0 + zi)) (fun zi => (hdCell t) (0 + zi))) ⟨rfl, rfl, rfl, rfl⟩) <| O (Mv K) <| Nq <| Bo <| Lo (fun (i : Nat) => ⟨[(3, SV.bp 1 0), (4, SV.bp 2 0), (5, SV.bp 3 0), (14, SV.agg 4 (arr22 (fun zi => (hdCell f) (0 + zi)) (fun zi => (hdCell t) (0 + zi)))), (15, iv ((i : Int)))], [(1, Own.box 1 (stG l) 24), (2, Own.box 2 (hdCell f) 26), (3, Own.box 2 (hdCell t) 26)]⟩) (fun (i : Nat) => i ≤ 2 ∧ (0 < i → (findSt l f).2 = 0) ∧ (1 < i → (findSt l t).2 = 0)) (fun (i : Nat) => 2 - i) 0 (by show 0 ≤ 2 ∧ (0 < 0 → (findSt l f).2 = 0) ∧ (1 < 0 → (findSt l t).2 = 0); exact ⟨by decide, fun q => absurd q (by decide), fun q => absurd q (by decide)⟩) (We (sl := [(3, SV.bp 1 0), (4, SV.bp 2 0), (5, SV.bp 3 0), (14, SV.agg 4 (arr22 (fun zi => (hdCell f) (0 + zi)) (fun zi => (hdCell t) (0 + zi)))), (15, iv (0))]) (ow := [(1, Own.box 1 (stG l) 24), (2, Own.box 2 (hdCell f) 26), (3, Own.box 2 (hdCell t) 26)]) (by exact ⟨V rfl, V rfl, V rfl, Va (V rfl) (An rfl), V rfl, Z⟩) (by exact ⟨⟨_, rfl, rfl, rfl, (An rfl)⟩, ⟨_, rfl, rfl, rfl, (An rfl)⟩, ⟨_, rfl, rfl, rfl, (An rfl)⟩, Z⟩)) <| ?_
 ·rintro i hI1
  have hJ1 : i ≤ 2 ∧ (0 < i → (findSt l f).2 = 0) ∧ (1 < i → (findSt l t).2 = 0) := hI1
  rcases (show i = 0 ∨ i = 1 ∨ i = 2 by omega) with rfl | rfl | rfl
  ·show C _ E _ ⟨[(3, SV.bp 1 0), (4, SV.bp 2 0), (5, SV.bp 3 0), (14, SV.agg 4 (arr22 (fun zi => (hdCell f) (0 + zi)) (fun zi => (hdCell t) (0 + zi)))), (15, iv (0))], [(1, Own.box 1 (stG l) 24), (2, Own.box 2 (hdCell f) 26), (3, Own.box 2 (hdCell t) 26)]⟩ _
   refine Sq <| Rq <| O (Lt (V rfl) K) <| Nq <| Sq <| Cd (V rfl) (fun hc1 => ?_) (fun hc1 => ?_)
   ·have hc1s := hc1; try simp only [BL] at hc1s
    refine Sk <| Sq <| Bo <| Sq <| Rt <| U (q_ixAA (i := 0) (V rfl) (V rfl) 26 Un123 Sz26 Ga26 (by omega) rfl) <| Al 4 zero26 rfl rfl <| StA (V rfl) rfl (V rfl) Sz26 <| Nt <| Sq <| Rt <| U (LBA (V rfl) rfl Ga24 Sz24 (by decide)) <| U (LBA (V rfl) rfl Ga26 Sz26 (by decide)) <| CT en46 (by exact ⟨⟨(Vi (g' := stG l) (V rfl) ⟨Z, Ir⟩), rfl⟩, ⟨(Vi (g' := hdCell ⟨f.pl, f.use⟩) (V rfl) ⟨⟨Z, Ir⟩, Ir⟩), rfl⟩, Z⟩) (find_ct l f (by first | assumption | exact kb_nil | exact kb_of (by assumption) | exact kb_of fam_c5)) <| U (Mv (V rfl)) <| U (Xt (V rfl) (by decide)) <| U (Xt (V rfl) (by decide)) <| Al 5 zero61 rfl rfl <| StA (V rfl) rfl (V rfl) Sz61 <| U (As (V rfl)) <| Nt <| Sq <| Rq <| O (Mv (V rfl)) <| O (Qn (V rfl) K) <| Nq <| Cd (V rfl) (fun hc2 => ?_) (fun hc2 => ?_)
    ·have hc2s := hc2; try simp only [BL] at hc2s
     exact Sq <| Rq <| O (Mv (V rfl)) <| O (As K) <| O (As (V rfl)) <| Nq <| Rx <| R2 rfl (V rfl) (V rfl) rfl rfl (by show sv2 (bv (false)) (iv ((findSt l f).2)) = sv2 (bv (seenSt l f t).1) (iv (seenSt l f t).2); rw [seen_1 (f := f) (t := t) (by rw [first_two, if_pos hc2s]; exact hc2s), first_two, if_pos hc2s])
    ·have hc2s := hc2; try simp only [BL] at hc2s
     exact Sk <| Rq <| O (Ad (V rfl) K (by omega)) <| O (Mv (V rfl)) <| Nq <| Nx (1) (by show 1 ≤ 2 ∧ (0 < 1 → (findSt l f).2 = 0) ∧ (1 < 1 → (findSt l t).2 = 0); exact ⟨by decide, fun _ => hc2s, fun q => absurd q (by decide)⟩) (by show 2 - 1 < 2 - 0; decide) (We (sl := [(3, SV.bp 1 0), (4, SV.bp 2 0), (5, SV.bp 3 0), (14, SV.agg 4 (arr22 (fun zi => (hdCell f) (0 + zi)) (fun zi => (hdCell t) (0 + zi)))), (15, iv (1))]) (ow := [(1, Own.box 1 (stG l) 24), (2, Own.box 2 (hdCell f) 26), (3, Own.box 2 (hdCell t) 26)]) (by exact ⟨V rfl, V rfl, V rfl, Va (V rfl) (An rfl), V rfl, Z⟩) (by exact ⟨⟨_, rfl, rfl, rfl, (An rfl)⟩, ⟨_, rfl, rfl, rfl, (An rfl)⟩, ⟨_, rfl, rfl, rfl, (An rfl)⟩, Z⟩))
   ·exact absurd hc1 (by decide)
  ·show C _ E _ ⟨[(3, SV.bp 1 0), (4, SV.bp 2 0), (5, SV.bp 3 0), (14, SV.agg 4 (arr22 (fun zi => (hdCell f) (0 + zi)) (fun zi => (hdCell t) (0 + zi)))), (15, iv (1))], [(1, Own.box 1 (stG l) 24), (2, Own.box 2 (hdCell f) 26), (3, Own.box 2 (hdCell t) 26)]⟩ _
   refine Sq <| Rq <| O (Lt (V rfl) K) <| Nq <| Sq <| Cd (V rfl) (fun hc3 => ?_) (fun hc3 => ?_)
   ·have hc3s := hc3; try simp only [BL] at hc3s
    have he1 : (findSt l f).2 = 0 := hJ1.2.1 (by decide)
    refine Sk <| Sq <| Bo <| Sq <| Rt <| U (q_ixAA (i := 1) (V rfl) (V rfl) 26 Un123 Sz26 Ga26 (by omega) rfl) <| Al 6 zero26 rfl rfl <| StA (V rfl) rfl (V rfl) Sz26 <| Nt <| Sq <| Rt <| U (LBA (V rfl) rfl Ga24 Sz24 (by decide)) <| U (LBA (V rfl) rfl Ga26 Sz26 (by decide)) <| CT en46 (by exact ⟨⟨(Vi (g' := stG l) (V rfl) ⟨Z, Ir⟩), rfl⟩, ⟨(Vi (g' := hdCell ⟨t.pl, t.use⟩) (V rfl) ⟨⟨Z, Ir⟩, Ir⟩), rfl⟩, Z⟩) (find_ct l t (by first | assumption | exact kb_nil | exact kb_of (by assumption) | exact kb_of fam_c5)) <| U (Mv (V rfl)) <| U (Xt (V rfl) (by decide)) <| U (Xt (V rfl) (by decide)) <| Al 7 zero61 rfl rfl <| StA (V rfl) rfl (V rfl) Sz61 <| U (As (V rfl)) <| Nt <| Sq <| Rq <| O (Mv (V rfl)) <| O (Qn (V rfl) K) <| Nq <| Cd (V rfl) (fun hc4 => ?_) (fun hc4 => ?_)
    ·have hc4s := hc4; try simp only [BL] at hc4s
     exact Sq <| Rq <| O (Mv (V rfl)) <| O (As K) <| O (As (V rfl)) <| Nq <| Rx <| R2 rfl (V rfl) (V rfl) rfl rfl (by show sv2 (bv (false)) (iv ((findSt l t).2)) = sv2 (bv (seenSt l f t).1) (iv (seenSt l f t).2); rw [seen_1 (f := f) (t := t) (by rw [first_two, if_neg (not_not_intro he1)]; exact hc4s), first_two, if_neg (not_not_intro he1)])
    ·have hc4s := hc4; try simp only [BL] at hc4s
     exact Sk <| Rq <| O (Ad (V rfl) K (by omega)) <| O (Mv (V rfl)) <| Nq <| Nx (2) (by show 2 ≤ 2 ∧ (0 < 2 → (findSt l f).2 = 0) ∧ (1 < 2 → (findSt l t).2 = 0); exact ⟨by decide, fun _ => hJ1.2.1 (by decide), fun _ => hc4s⟩) (by show 2 - 2 < 2 - 1; decide) (We (sl := [(3, SV.bp 1 0), (4, SV.bp 2 0), (5, SV.bp 3 0), (14, SV.agg 4 (arr22 (fun zi => (hdCell f) (0 + zi)) (fun zi => (hdCell t) (0 + zi)))), (15, iv (2))]) (ow := [(1, Own.box 1 (stG l) 24), (2, Own.box 2 (hdCell f) 26), (3, Own.box 2 (hdCell t) 26)]) (by exact ⟨V rfl, V rfl, V rfl, Va (V rfl) (An rfl), V rfl, Z⟩) (by exact ⟨⟨_, rfl, rfl, rfl, (An rfl)⟩, ⟨_, rfl, rfl, rfl, (An rfl)⟩, ⟨_, rfl, rfl, rfl, (An rfl)⟩, Z⟩))
   ·exact absurd hc3 (by decide)
  ·show C _ E _ ⟨[(3, SV.bp 1 0), (4, SV.bp 2 0), (5, SV.bp 3 0), (14, SV.agg 4 (arr22 (fun zi => (hdCell f) (0 + zi)) (fun zi => (hdCell t) (0 + zi)))), (15, iv (2))], [(1, Own.box 1 (stG l) 24), (2, Own.box 2 (hdCell f) 26), (3, Own.box 2 (hdCell t) 26)]⟩ _
   refine Sq <| Rq <| O (Lt (V rfl) K) <| Nq <| Sq <| Cd (V rfl) (fun hc5 => ?_) (fun hc5 => ?_)
   ·exact absurd hc5 (by decide)
   ·have hc5s := hc5; try simp only [BL] at hc5s
    have hf2 : firstSt l [f, t] = 0 := by rw [first_two, if_neg (not_not_intro (hJ1.2.1 (by decide)))]; exact hJ1.2.2 (by decide)
    have h2 := first2 hf2
    have hc0 := h2.1
    have hfp := h2.2.1
    have htp := h2.2.2
    exact Ex <| Sq <| Rq <| O (LBA (V rfl) rfl Ga24 Sz24 (by decide)) <| O (FlB _ _ (V rfl) Un26 rfl 0 Sz3) <| O (LdB (V rfl) rfl Ga3 (by decide)) <| O (FlB _ _ (V rfl) Un26 rfl 0 Sz3) <| O (LdB (V rfl) rfl Ga3 (by decide)) <| CQ en111 (by exact ⟨⟨(Vi (g' := stG l) (V rfl) ⟨Z, Ir⟩), rfl⟩, ⟨(V rfl), rfl⟩, ⟨(V rfl), rfl⟩, ⟨K, rfl⟩, Z⟩) (hidden_ct l f.pl t.pl false (by assumption) (by first | assumption | omega) (by first | assumption | omega)) <| O (Qo (V rfl)) <| O (As (V rfl)) <| O (As K) <| Nq <| Rx <| R2 rfl (V rfl) (V rfl) rfl rfl (by show sv2 (bv (!(hiddenSt l f.pl t.pl false))) (iv (0)) = sv2 (bv (seenSt l f t).1) (iv (seenSt l f t).2); rw [seen_2 hf2])
theorem target_ct (l : List Nd) (k0 told : Int) (hb : ∀ n ∈ l, n.kids.length ≤ 17592186043904) : Ct Try.prog 78 [SV.agg 1 (stG l), iv (k0), iv (told)] (iv (tgtSt l k0 told)) := by
 refine CtO 46 Try.func78 rfl rfl rfl fun E => row_lenA 0 (V (s := 0) rfl) rfl rfl fun hl0_0 => Sq <| Rt <| BxA 1 (V rfl) rfl rfl <| U (As K) <| Nt <| Sq <| Sq <| Rq <| O (LBA (V rfl) rfl Ga24 Sz24 (by decide)) <| CQ en44 (by exact ⟨⟨(Vi (g' := stG l) (V rfl) ⟨Z, Ir⟩), rfl⟩, Z⟩) (stcheck_ct l (by first | assumption | exact kb_nil | exact kb_of (by assumption) | exact kb_of fam_c5)) <| O (Qn (V rfl) K) <| O (Mv (V rfl)) <| Og (Gn rfl rfl) (fun hg => Mv (V rfl)) <| Og (Gn rfl rfl) (fun hg => Lt (Vg (V rfl) hg) K) <| O (Qr (V rfl) (fun h => Vg (V rfl) (notT h))) <| O (Mv (V rfl)) <| Og (Gn rfl rfl) (fun hg => Mv (V rfl)) <| Og (Gn rfl rfl) (fun hg => FlB _ _ (V rfl) Un24 rfl 0 Sz22) <| Og (Gn rfl rfl) (fun hg => LdB (Vg (V rfl) hg) rfl Ga22 (by decide)) <| Og (Gn rfl rfl) (fun hg => Ln (Vg (V rfl) hg) ts22) <| Og (Gn rfl rfl) (fun hg => Ge (Vg (V rfl) hg) (Vg (V rfl) hg)) <| O (Qr (V rfl) (fun h => Vg (V rfl) (notT h))) <| O (Mv (V rfl)) <| Og (Gn rfl rfl) (fun hg => Mv (V rfl)) <| Og (Gn rfl rfl) (fun hg => Lt (Vg (V rfl) hg) K) <| O (Qr (V rfl) (fun h => Vg (V rfl) (notT h))) <| O (Mv (V rfl)) <| Og (Gn rfl rfl) (fun hg => Mv (V rfl)) <| Og (Gn rfl rfl) (fun hg => FlB _ _ (V rfl) Un24 rfl 0 Sz22) <| Og (Gn rfl rfl) (fun hg => LdB (Vg (V rfl) hg) rfl Ga22 (by decide)) <| Og (Gn rfl rfl) (fun hg => Ln (Vg (V rfl) hg) ts22) <| Og (Gn rfl rfl) (fun hg => Ge (Vg (V rfl) hg) (Vg (V rfl) hg)) <| O (Qr (V rfl) (fun h => Vg (V rfl) (notT h))) <| Nq <| Cd (V rfl) (fun hc1 => ?_) (fun hc1 => ?_)
 ·have hc1s := hc1; try simp only [BL] at hc1s
  have hbad : checkSt l ≠ 0 ∨ k0 < 0 ∨ (l.length : Int) ≤ k0 ∨ told < 0 ∨ (l.length : Int) ≤ told := by simpa [or_assoc] using hc1
  exact Sq <| Rq <| O (Mv (V rfl)) <| O (As (V rfl)) <| Nq <| Rx <| R1 rfl (V rfl) rfl (by show iv (k0) = iv (tgtSt l k0 told); rw [tgt_0 hbad])
 ·have hc1s := hc1; try simp only [BL] at hc1s
  have hgood : ¬ (checkSt l ≠ 0 ∨ k0 < 0 ∨ (l.length : Int) ≤ k0 ∨ told < 0 ∨ (l.length : Int) ≤ told) := fun q => Bool.false_ne_true (hc1.symm.trans (by simpa [or_assoc] using q))
  have hc0 : checkSt l = 0 := Classical.byContradiction fun q => hgood (.inl q)
  refine Sk <| Sq <| Bo <| Lo (fun (k : Int) => ⟨[(1, iv (k)), (2, iv (told)), (3, SV.bp 1 0)], [(1, Own.box 1 (stG l) 24)]⟩) (fun (k : Int) => (0 ≤ k ∧ k < (l.length : Int)) ∧ tgtSt l k0 told = tgtL l told k (rootsL l k)) (fun (k : Int) => (rootsL l k).length) k0 (by show (0 ≤ k0 ∧ k0 < (l.length : Int)) ∧ tgtSt l k0 told = tgtL l told k0 (rootsL l k0); exact ⟨by omega, tgt_1 hc0 (by omega) (by omega)⟩) (We (ow := [(1, Own.box 1 (stG l) 24)]) (Vs rfl) (by exact ⟨⟨_, rfl, rfl, rfl, (An rfl)⟩, Z⟩)) <| ?_
  ·rintro k hI1
   have hJ1 : (0 ≤ k ∧ k < (l.length : Int)) ∧ tgtSt l k0 told = tgtL l told k (rootsL l k) := hI1
   have hkr := hJ1.1
   have hke := hJ1.2
   refine Sq <| Sq <| Rq <| O (LBA (V rfl) rfl Ga24 Sz24 (by decide)) <| O (Mv (V rfl)) <| O (Mv (V rfl)) <| CQ en111 (by exact ⟨⟨(Vi (g' := stG l) (V rfl) ⟨Z, Ir⟩), rfl⟩, ⟨(V rfl), rfl⟩, ⟨(V rfl), rfl⟩, ⟨K, rfl⟩, Z⟩) (hidden_ct l told k true (by assumption) (by first | assumption | omega) (by first | assumption | omega)) <| Nq <| Cd (V rfl) (fun hc2 => ?_) (fun hc2 => ?_)
   ·have hc2s := hc2; try simp only [BL] at hc2s
    have htt := tgt_t hc0 hkr hc2
    exact Sk <| Bo <| Rqd (by kernel_rfl) (by kernel_rfl) <| O (FlB _ _ (V rfl) Un24 rfl 0 Sz22) <| O (LdB (V rfl) rfl Ga22 (by decide)) <| O (LBA (V rfl) rfl Ga24 Sz24 (by decide)) <| O (Mv (V rfl)) <| CQ en137 (by exact ⟨⟨(Vi (g' := stG l) (V rfl) ⟨Z, Ir⟩), rfl⟩, ⟨(V rfl), rfl⟩, Z⟩) (top_ct l k (by assumption) (by first | assumption | omega)) <| O (Ix (V rfl) (V rfl) ts22 te22 (by omega) (by omega)) <| O (Fl _ _ (V rfl) Un61 rfl 0 Sz3) <| O (Ld (V rfl) Ga3 (by decide)) <| O (As (V rfl)) <| Nq <| NxH ((l.getD (Int.toNat (topSt l k)) default).host) (fun _ _ h => h) (by show (0 ≤ ((l.getD (Int.toNat (topSt l k)) default).host) ∧ ((l.getD (Int.toNat (topSt l k)) default).host) < (l.length : Int)) ∧ tgtSt l k0 told = tgtL l told ((l.getD (Int.toNat (topSt l k)) default).host) (rootsL l ((l.getD (Int.toNat (topSt l k)) default).host)); exact ⟨htt.2.2.2, hke.trans htt.1⟩) (by show (rootsL l ((l.getD (Int.toNat (topSt l k)) default).host)).length < (rootsL l k).length; have := htt.2.1; omega) (We (ow := [(1, Own.box 1 (stG l) 24)]) (Vs rfl) (by exact ⟨⟨_, rfl, rfl, rfl, (An rfl)⟩, Z⟩))
   ·have hc2s := hc2; try simp only [BL] at hc2s
    exact Ex <| Sq <| Rq <| O (Mv (V rfl)) <| O (As (V rfl)) <| Nq <| Rx <| R1 rfl (V rfl) rfl (by show iv (k) = iv (tgtSt l k0 told); rw [hke, tgt_f hc0 hkr hc2])
theorem veiled_ct  : Ct Try.prog 75 [] (bv true) := by
 refine CtO 96 Try.func75 rfl rfl rfl fun E => Sq <| Rq <| O (As K) <| Nq <| Sq <| Rt <| CT en103 (by exact Z) (family_ct) <| U (Mv (V rfl)) <| U (Xt (V rfl) (by decide)) <| U (Xt (V rfl) (by decide)) <| U (Xt (V rfl) (by decide)) <| Al 1 zero24 rfl rfl <| Al 2 zero113 rfl rfl <| StA (V rfl) rfl (V rfl) Sz24 <| StA (V rfl) rfl (V rfl) Sz113 <| U (As (V rfl)) <| Nt <| Sq <| Rt <| U (LBA (V rfl) rfl Ga24 Sz24 (by decide)) <| U (q_ixB (i := 1) (V rfl) K ta113 te113 (by rw [al113]; decide)) <| U (LBA (V rfl) rfl Ga26 Sz26 (by decide)) <| CT en74 (by exact ⟨⟨(Vi (g' := stG fam5) (V rfl) ⟨Z, Ir⟩), rfl⟩, ⟨(Vi (g' := hdCell ⟨1, 1⟩) (V rfl) ⟨⟨Z, Ir⟩, Ir⟩), rfl⟩, ⟨K, rfl⟩, Z⟩) (attach_ct fam5 ⟨1, 1⟩ true (by first | assumption | exact kb_nil | exact kb_of (by assumption) | exact kb_of fam_c5)) <| U (Mv (V rfl)) <| U (Xt (V rfl) (by decide)) <| U (Xt (V rfl) (by decide)) <| U (Xt (V rfl) (by decide)) <| Al 3 zero26 rfl rfl <| StA (V rfl) rfl (V rfl) Sz24 <| StA (V rfl) rfl (V rfl) Sz26 <| U (As (V rfl)) <| Nt <| Sq <| Rt <| U (LBA (V rfl) rfl Ga24 Sz24 (by decide)) <| U (LBA (V rfl) rfl Ga26 Sz26 (by decide)) <| U (q_ixB (i := 2) (V rfl) K ta113 te113 (by rw [al113]; decide)) <| U (LBA (V rfl) rfl Ga26 Sz26 (by decide)) <| CT en56 (by exact ⟨⟨(Vi (g' := stG ((attSt fam5 ⟨1, 1⟩ true).1)) (V rfl) ⟨Z, Ir⟩), rfl⟩, ⟨(Vi (g' := hdCell ⟨(attSt fam5 ⟨1, 1⟩ true).2.1.pl, (attSt fam5 ⟨1, 1⟩ true).2.1.use⟩) (V rfl) ⟨⟨Z, Ir⟩, Ir⟩), rfl⟩, ⟨(Vi (g' := hdCell ⟨2, 1⟩) (V rfl) ⟨⟨Z, Ir⟩, Ir⟩), rfl⟩, ⟨Vn, rfl⟩, Z⟩) (insert_ct ((attSt fam5 ⟨1, 1⟩ true).1) (attSt fam5 ⟨1, 1⟩ true).2.1 ⟨2, 1⟩ ([]) (by first | assumption | exact kb_nil | exact kb_of (by assumption) | exact kb_of fam_c5)) <| ?_
 refine U (Mv (V rfl)) <| U (Xt (V rfl) (by decide)) <| U (Xt (V rfl) (by decide)) <| StA (V rfl) rfl (V rfl) Sz24 <| U (As (V rfl)) <| Nt <| Sq <| Rt <| U (LBA (V rfl) rfl Ga24 Sz24 (by decide)) <| U (q_ixB (i := 0) (V rfl) K ta113 te113 (by rw [al113]; decide)) <| U (LBA (V rfl) rfl Ga26 Sz26 (by decide)) <| U (q_ixB (i := 2) (V rfl) K ta113 te113 (by rw [al113]; decide)) <| U (LBA (V rfl) rfl Ga26 Sz26 (by decide)) <| CT en38 (by exact ⟨⟨(Vi (g' := stG ((insSt ((attSt fam5 ⟨1, 1⟩ true).1) (attSt fam5 ⟨1, 1⟩ true).2.1 ⟨2, 1⟩ ([])).1)) (V rfl) ⟨Z, Ir⟩), rfl⟩, ⟨(Vi (g' := hdCell ⟨0, 1⟩) (V rfl) ⟨⟨Z, Ir⟩, Ir⟩), rfl⟩, ⟨(Vi (g' := hdCell ⟨2, 1⟩) (V rfl) ⟨⟨Z, Ir⟩, Ir⟩), rfl⟩, Z⟩) (seen_ct ((insSt ((attSt fam5 ⟨1, 1⟩ true).1) (attSt fam5 ⟨1, 1⟩ true).2.1 ⟨2, 1⟩ ([])).1) ⟨0, 1⟩ ⟨2, 1⟩ (by first | assumption | exact kb_nil | exact kb_of (by assumption) | exact kb_of fam_c5)) <| U (Mv (V rfl)) <| U (Xt (V rfl) (by decide)) <| U (Xt (V rfl) (by decide)) <| U (As (V rfl)) <| U (As (V rfl)) <| Nt <| Sq <| Rt <| U (LBA (V rfl) rfl Ga24 Sz24 (by decide)) <| U (LBA (V rfl) rfl Ga26 Sz26 (by decide)) <| U (q_ixB (i := 2) (V rfl) K ta113 te113 (by rw [al113]; decide)) <| U (LBA (V rfl) rfl Ga26 Sz26 (by decide)) <| CT en38 (by exact ⟨⟨(Vi (g' := stG ((insSt ((attSt fam5 ⟨1, 1⟩ true).1) (attSt fam5 ⟨1, 1⟩ true).2.1 ⟨2, 1⟩ ([])).1)) (V rfl) ⟨Z, Ir⟩), rfl⟩, ⟨(Vi (g' := hdCell ⟨(attSt fam5 ⟨1, 1⟩ true).2.1.pl, (attSt fam5 ⟨1, 1⟩ true).2.1.use⟩) (V rfl) ⟨⟨Z, Ir⟩, Ir⟩), rfl⟩, ⟨(Vi (g' := hdCell ⟨2, 1⟩) (V rfl) ⟨⟨Z, Ir⟩, Ir⟩), rfl⟩, Z⟩) (seen_ct ((insSt ((attSt fam5 ⟨1, 1⟩ true).1) (attSt fam5 ⟨1, 1⟩ true).2.1 ⟨2, 1⟩ ([])).1) (attSt fam5 ⟨1, 1⟩ true).2.1 ⟨2, 1⟩ (by first | assumption | exact kb_nil | exact kb_of (by assumption) | exact kb_of fam_c5)) <| U (Mv (V rfl)) <| U (Xt (V rfl) (by decide)) <| U (Xt (V rfl) (by decide)) <| U (As (V rfl)) <| U (As (V rfl)) <| Nt <| Sq <| Rt <| U (LBA (V rfl) rfl Ga24 Sz24 (by decide)) <| U (q_ixB (i := 2) (V rfl) K ta113 te113 (by rw [al113]; decide)) <| U (LBA (V rfl) rfl Ga26 Sz26 (by decide)) <| CT en33 (by exact ⟨⟨(Vi (g' := stG ((insSt ((attSt fam5 ⟨1, 1⟩ true).1) (attSt fam5 ⟨1, 1⟩ true).2.1 ⟨2, 1⟩ ([])).1)) (V rfl) ⟨Z, Ir⟩), rfl⟩, ⟨(Vi (g' := hdCell ⟨2, 1⟩) (V rfl) ⟨⟨Z, Ir⟩, Ir⟩), rfl⟩, Z⟩) (path_ct ((insSt ((attSt fam5 ⟨1, 1⟩ true).1) (attSt fam5 ⟨1, 1⟩ true).2.1 ⟨2, 1⟩ ([])).1) ⟨2, 1⟩ (by first | assumption | exact kb_nil | exact kb_of (by assumption) | exact kb_of fam_c5)) <| U (Mv (V rfl)) <| ?_
 refine U (Xt (V rfl) (by decide)) <| U (Xt (V rfl) (by decide)) <| U (As (V rfl)) <| U (As (V rfl)) <| Nt <| Sq <| Rt <| U (Mv (V rfl)) <| U (Mv (V rfl)) <| Ug (Gy rfl rfl) (fun hg => Mv (V rfl)) <| Ug (Gy rfl rfl) (fun hg => Ql (Vg (V rfl) hg) K) <| U (Qa (V rfl) (fun h => Vg (V rfl) h)) <| U (Mv (V rfl)) <| Ug (Gy rfl rfl) (fun hg => Mv (V rfl)) <| Ug (Gy rfl rfl) (fun hg => Ql (Vg (V rfl) hg) K) <| U (Qa (V rfl) (fun h => Vg (V rfl) h)) <| U (Mv (V rfl)) <| Ug (Gy rfl rfl) (fun hg => Mv (V rfl)) <| Ug (Gy rfl rfl) (fun hg => Ql (Vg (V rfl) hg) K) <| U (Qa (V rfl) (fun h => Vg (V rfl) h)) <| U (Mv (V rfl)) <| Ug (Gy rfl rfl) (fun hg => Mv (V rfl)) <| Ug (Gy rfl rfl) (fun hg => Ql (Vg (V rfl) hg) K) <| U (Qa (V rfl) (fun h => Vg (V rfl) h)) <| U (Mv (V rfl)) <| Ug (Gy rfl rfl) (fun hg => Mv (V rfl)) <| Ug (Gy rfl rfl) (fun hg => Ql (Vg (V rfl) hg) K) <| U (Qa (V rfl) (fun h => Vg (V rfl) h)) <| U (Mv (V rfl)) <| Ug (Gy rfl rfl) (fun hg => Mv (V rfl)) <| Ug (Gy rfl rfl) (fun hg => Qo (Vg (V rfl) hg)) <| U (Qa (V rfl) (fun h => Vg (V rfl) h)) <| U (Mv (V rfl)) <| Ug (Gy rfl rfl) (fun hg => Mv (V rfl)) <| U (Qa (V rfl) (fun h => Vg (V rfl) h)) <| U (Mv (V rfl)) <| Ug (Gy rfl rfl) (fun hg => Mv (V rfl)) <| UwG (Gy rfl rfl) (fun hg => w_bs (n := 4) (zget := fun _ => iv 0) [(fun _ => iv (2)), (fun _ => iv (3)), (fun _ => iv (1)), (fun _ => iv (0))] (rowG inCell 0 [2, 3, 1, 0]) Un33 Sz3 zero3 (by decide) rfl (by decide) ⟨⟨rfl, .inr ⟨rfl, K, rfl⟩, rfl⟩, ⟨rfl, .inr ⟨rfl, K, rfl⟩, rfl⟩, ⟨rfl, .inr ⟨rfl, K, rfl⟩, rfl⟩, ⟨rfl, .inr ⟨rfl, K, rfl⟩, rfl⟩, Z⟩ ⟨⟨⟨⟨Z, ⟨Z, rfl⟩⟩, ⟨Z, rfl⟩⟩, ⟨Z, rfl⟩⟩, ⟨Z, rfl⟩⟩) <| CTg (Gy rfl rfl) en26 (fun hg => (by exact ⟨⟨(Vg (V rfl) hg), rfl⟩, ⟨(Vg (V rfl) hg), rfl⟩, Z⟩)) (fun hg => equal_ct ((pathSt ((insSt ((attSt fam5 ⟨1, 1⟩ true).1) (attSt fam5 ⟨1, 1⟩ true).2.1 ⟨2, 1⟩ ([])).1) ⟨2, 1⟩).1) ([2, 3, 1, 0])) <| U (Qa (V rfl) (fun h => Vg (V rfl) h)) <| ?_
 exact U (Mv (V rfl)) <| Ug (Gy rfl rfl) (fun hg => LBA (V rfl) rfl Ga24 Sz24 (by decide)) <| CTg (Gy rfl rfl) en78 (fun hg => (by exact ⟨⟨(Vi (g' := stG ((insSt ((attSt fam5 ⟨1, 1⟩ true).1) (attSt fam5 ⟨1, 1⟩ true).2.1 ⟨2, 1⟩ ([])).1)) (Vg (V rfl) hg) ⟨Z, Ir⟩), rfl⟩, ⟨K, rfl⟩, ⟨K, rfl⟩, Z⟩)) (fun hg => target_ct ((insSt ((attSt fam5 ⟨1, 1⟩ true).1) (attSt fam5 ⟨1, 1⟩ true).2.1 ⟨2, 1⟩ ([])).1) 2 0 (by first | assumption | exact kb_nil | exact kb_of (by assumption) | exact kb_of fam_c5)) <| Ug (Gy rfl rfl) (fun hg => Ql (Vg (V rfl) hg) K) <| U (Qa (V rfl) (fun h => Vg (V rfl) h)) <| U (As (V rfl)) <| Nt <| Rx <| R1 rfl (V rfl) rfl (by show bv (((((((((true && (decide ((attSt fam5 ⟨1, 1⟩ true).2.2 = 0))) && (decide ((insSt ((attSt fam5 ⟨1, 1⟩ true).1) (attSt fam5 ⟨1, 1⟩ true).2.1 ⟨2, 1⟩ ([])).2 = 0))) && (decide ((seenSt ((insSt ((attSt fam5 ⟨1, 1⟩ true).1) (attSt fam5 ⟨1, 1⟩ true).2.1 ⟨2, 1⟩ ([])).1) ⟨0, 1⟩ ⟨2, 1⟩).2 = 0))) && (decide ((seenSt ((insSt ((attSt fam5 ⟨1, 1⟩ true).1) (attSt fam5 ⟨1, 1⟩ true).2.1 ⟨2, 1⟩ ([])).1) (attSt fam5 ⟨1, 1⟩ true).2.1 ⟨2, 1⟩).2 = 0))) && (decide ((pathSt ((insSt ((attSt fam5 ⟨1, 1⟩ true).1) (attSt fam5 ⟨1, 1⟩ true).2.1 ⟨2, 1⟩ ([])).1) ⟨2, 1⟩).2 = 0))) && (!((seenSt ((insSt ((attSt fam5 ⟨1, 1⟩ true).1) (attSt fam5 ⟨1, 1⟩ true).2.1 ⟨2, 1⟩ ([])).1) ⟨0, 1⟩ ⟨2, 1⟩).1))) && ((seenSt ((insSt ((attSt fam5 ⟨1, 1⟩ true).1) (attSt fam5 ⟨1, 1⟩ true).2.1 ⟨2, 1⟩ ([])).1) (attSt fam5 ⟨1, 1⟩ true).2.1 ⟨2, 1⟩).1)) && (eqInt ((pathSt ((insSt ((attSt fam5 ⟨1, 1⟩ true).1) (attSt fam5 ⟨1, 1⟩ true).2.1 ⟨2, 1⟩ ([])).1) ⟨2, 1⟩).1) ([2, 3, 1, 0]))) && (decide (tgtSt ((insSt ((attSt fam5 ⟨1, 1⟩ true).1) (attSt fam5 ⟨1, 1⟩ true).2.1 ⟨2, 1⟩ ([])).1) 2 0 = 1))) = bv true; exact congrArg bv (by decide +kernel))
end Go.Proofs.Ytmcdamcedemdiaa
namespace Go.Proofs.Ytmcdamcedemdiaa
open Go.RowKit Go.Eng
theorem first_h {l : List Nd} {h : Hd} (a : checkSt l = 0) : firstSt l [h] = holdsSt l h := if_pos a
theorem holdsE {l : List Nd} {h : Hd} (a : 0 ≤ h.pl ∧ h.pl < (l.length : Int)) (b : 1 ≤ h.use) (u : (l.getD h.pl.toNat default).used = true) (e : (l.getD h.pl.toNat default).uses = h.use) : holdsSt l h = 0 := by
  refine holds_0 ?_ ?_
  · unfold holdsWho
    rw [decide_eq_false (by omega), decide_eq_false (by omega), decide_eq_false (by omega), decide_eq_false (by omega)]; rfl
  · unfold holdsGone
    rw [u, decide_eq_true e]; rfl
theorem first_2 {l : List Nd} {f t : Hd} (c : checkSt l = 0) (a : holdsSt l f = 0) (b : holdsSt l t = 0) : firstSt l [f, t] = 0 := by
  show stepH l (stepH l (checkSt l) f) t = 0
  rw [stepH, stepH, if_pos c, if_pos a]; exact b
theorem first2h {l : List Nd} {f t : Hd} (e : firstSt l [f, t] = 0) : checkSt l = 0 ∧ holdsSt l f = 0 ∧ holdsSt l t = 0 := by
  have h := first_ok e
  exact ⟨h.1, h.2 0 (by show 0 < 2; omega), h.2 1 (by show 1 < 2; omega)⟩
theorem seen_0 {l : List Nd} {f t : Hd} (e : (seenSt l f t).2 = 0) : firstSt l [f, t] = 0 := Classical.byContradiction fun q => by rw [seen_1 q] at e; exact q e
theorem top_line {l : List Nd} (h : checkSt l = 0) {y : Int} : ∀ (d : Nat) (k : Int), 0 ≤ k ∧ k < (l.length : Int) → dpt l k = d → y ∈ line l (l.getD (topSt l k).toNat default).host → y ∈ line l k
  | 0, k, hk, hd, _ => by rw [dpt_eq h hk] at hd; cases hd
  | d + 1, k, hk, hd, hy => by
    by_cases hp : 0 ≤ (l.getD k.toNat default).par
    · obtain ⟨ea, hh⟩ := above_par h hk hp
      rw [top_par h hk hp] at hy
      have hpk := (par_kid h hk hp).1
      rw [line_eq h hk, ea]
      exact .tail _ (top_line h d _ ⟨hp, hpk⟩ (by rw [dpt_eq h hk, ea] at hd; omega) hy)
    · rw [top_self hp] at hy
      by_cases hh : (l.getD k.toNat default).host < 0
      · rw [line_neg hh] at hy; cases hy
      · rw [line_eq h hk, show above (l.getD k.toNat default) = (l.getD k.toNat default).host by unfold above; rw [if_pos (by omega)]]
        exact .tail _ hy
theorem line_self {l : List Nd} (h : checkSt l = 0) {k : Int} (hk : 0 ≤ k ∧ k < (l.length : Int)) : k ∈ line l k := by rw [line_eq h hk]; exact .head _
theorem tgt_on {l : List Nd} (h : checkSt l = 0) {told : Int} : ∀ (n : Nat) (k : Int), 0 ≤ k ∧ k < (l.length : Int) → (rootsL l k).length = n →
    (0 ≤ tgtL l told k (rootsL l k) ∧ tgtL l told k (rootsL l k) < (l.length : Int)) ∧ tgtL l told k (rootsL l k) ∈ line l k ∧ hiddenSt l told (tgtL l told k (rootsL l k)) true = false := fun n => by
  induction n with
  | zero =>
    intro k hk hn
    cases q : hiddenSt l told k true with
    | false => rw [tgt_f h hk q]; exact ⟨hk, line_self h hk, q⟩
    | true => have := (tgt_t h hk q).2.1; omega
  | succ n ih =>
    intro k hk hn
    cases q : hiddenSt l told k true with
    | false => rw [tgt_f h hk q]; exact ⟨hk, line_self h hk, q⟩
    | true =>
      obtain ⟨e, el, _, hh⟩ := tgt_t h hk q
      have ih := ih _ hh (by omega)
      rw [e]
      exact ⟨ih.1, top_line h _ k hk rfl ih.2.1, ih.2.2⟩
theorem up_used {l : List Nd} (h : checkSt l = 0) {k : Int} (hk : 0 ≤ k ∧ k < (l.length : Int)) (ha : 0 ≤ above (l.getD k.toNat default)) : (l.getD (above (l.getD k.toNat default)).toNat default).used = true := by
  by_cases hh : 0 ≤ (l.getD k.toNat default).host
  · rw [show above (l.getD k.toNat default) = (l.getD k.toNat default).host by unfold above; rw [if_pos hh]]
    exact (right_to h).host k hk hh
  · have e : above (l.getD k.toNat default) = (l.getD k.toNat default).par := by unfold above; rw [if_neg hh]
    rw [e] at ha ⊢
    obtain ⟨hlt, hm⟩ := par_kid h hk ha
    refine Classical.byContradiction fun q => ?_
    rw [((st_n1 h ⟨ha, hlt⟩).free (Bool.eq_false_iff.2 q)).2.2.2.2.2] at hm
    cases hm
theorem line_used {l : List Nd} (h : checkSt l = 0) {y : Int} : ∀ (d : Nat) (k : Int), 0 ≤ k ∧ k < (l.length : Int) → dpt l k = d → (l.getD k.toNat default).used = true → y ∈ line l k → (l.getD y.toNat default).used = true
  | 0, k, hk, hd, _, _ => by rw [dpt_eq h hk] at hd; cases hd
  | d + 1, k, hk, hd, hu, hy => by
    rw [line_eq h hk] at hy
    rcases List.mem_cons.1 hy with rfl | hy
    · exact hu
    · by_cases ha : 0 ≤ above (l.getD k.toNat default)
      · exact line_used h d _ ⟨ha, (above_in (checkSt_nodes h) hk).2⟩ (by rw [dpt_eq h hk] at hd; omega) (up_used h hk ha) hy
      · rw [line_neg (by omega)] at hy; cases hy
theorem hid_mono {l : List Nd} {f k : Int} (q : hiddenSt l f k true = false) : hiddenSt l f k false = false := by
  unfold hiddenSt at q ⊢
  rw [List.any_eq_false] at q ⊢
  intro x hx hc
  refine q x hx ?_
  simp only [shutB, Bool.and_eq_true] at hc ⊢
  exact ⟨hc.1, by simp⟩
theorem hid_self {l : List Nd} (h : checkSt l = 0) {k : Int} (hk : 0 ≤ k ∧ k < (l.length : Int)) (all : Bool) : hiddenSt l k k all = false := by
  unfold hiddenSt
  rw [List.any_eq_false]
  intro x hx
  obtain ⟨a, _, m⟩ := roots_in h (by omega) hx
  have : underB l k x = true := by rw [← line_under h (by omega) a.1, decide_eq_true m]
  rw [shutB, this]; simp
theorem hid_closed {l : List Nd} (h : checkSt l = 0) {f k : Int} (hk : 0 ≤ k ∧ k < (l.length : Int)) (q : hiddenSt l f k false = true) : (line l k).any (fun x => (l.getD x.toNat default).closed) = true := by
  unfold hiddenSt at q
  rw [List.any_eq_true] at q ⊢
  obtain ⟨x, hx, e⟩ := q
  simp only [shutB, Bool.and_eq_true, Bool.false_or] at e
  exact ⟨x, (roots_in h (by omega) hx).2.2, e.2⟩
section
variable {l : List Nd} {f t : Hd}
theorem hides_T (e : firstSt l [f, t] = 0) : (0 ≤ tgtSt l t.pl f.pl ∧ tgtSt l t.pl f.pl < (l.length : Int)) ∧ tgtSt l t.pl f.pl ∈ line l t.pl ∧ hiddenSt l f.pl (tgtSt l t.pl f.pl) true = false ∧ (l.getD (tgtSt l t.pl f.pl).toNat default).used = true := by
  obtain ⟨c, hf, ht⟩ := first2 e
  have hh := first2h e
  rw [tgt_1 c ht hf]
  have := tgt_on c (told := f.pl) _ t.pl ht rfl
  exact ⟨this.1, this.2.1, this.2.2, line_used c _ t.pl ht rfl (holds_in hh.2.2).2.2.2.1 this.2.1⟩
theorem first_t (e : firstSt l [f, t] = 0) : firstSt l [t] = 0 := by
  have h := first2h e
  rw [first_h h.1]; exact h.2.2
theorem hides_A (e : firstSt l [f, t] = 0) : (!decide ((pathSt l t).2 = 0) || !usedB l (tgtSt l t.pl f.pl) || !decide (tgtSt l t.pl f.pl ∈ (pathSt l t).1)) = false := by
  obtain ⟨a, b, _, u⟩ := hides_T e
  rw [path_2 (first_t e), decide_eq_true rfl, used_t.2 ⟨a, u⟩, decide_eq_true b]; rfl
theorem hides_H (e : firstSt l [f, t] = 0) : firstSt l [f, ⟨tgtSt l t.pl f.pl, (l.getD (tgtSt l t.pl f.pl).toNat default).uses⟩] = 0 := by
  obtain ⟨a, b, _, u⟩ := hides_T e
  have hh := first2h e
  have n1 := st_n1 hh.1 a
  have := n1.use u
  have := n1.uses
  exact first_2 hh.1 hh.2.1 (holdsE a (by show 1 ≤ (l.getD (tgtSt l t.pl f.pl).toNat default).uses; omega) u rfl)
theorem hides_B (e : firstSt l [f, t] = 0) : (!decide ((seenSt l f ⟨tgtSt l t.pl f.pl, (l.getD (tgtSt l t.pl f.pl).toNat default).uses⟩).2 = 0) || !(seenSt l f ⟨tgtSt l t.pl f.pl, (l.getD (tgtSt l t.pl f.pl).toNat default).uses⟩).1 || (!(seenSt l f t).1 && decide (tgtSt l t.pl f.pl = t.pl))) = false := by
  obtain ⟨a, b, q, u⟩ := hides_T e
  rw [seen_2 (hides_H e), seen_2 e]
  show (!decide ((0 : Int) = 0) || !(!hiddenSt l f.pl (tgtSt l t.pl f.pl) false) || (!(!hiddenSt l f.pl t.pl false) && _)) = false
  rw [hid_mono q]
  by_cases c : tgtSt l t.pl f.pl = t.pl
  · rw [c] at q
    rw [hid_mono q]; rfl
  · rw [decide_eq_false c, Bool.and_false]; rfl
theorem hides_C (e : firstSt l [f, t] = 0) : (!decide ((seenSt l t t).2 = 0) || !(seenSt l t t).1 || !decide (tgtSt l t.pl t.pl = t.pl)) = false := by
  obtain ⟨c, hf, ht⟩ := first2 e
  have hh := first2h e
  rw [seen_2 (first_2 hh.1 hh.2.2 hh.2.2), tgt_1 c ht ht, tgt_f c ht (hid_self c ht true), decide_eq_true (rfl : t.pl = t.pl)]
  show (!decide ((0 : Int) = 0) || !(!hiddenSt l t.pl t.pl false) || _) = false
  rw [hid_self c ht false]; rfl
theorem hides_Z (e : firstSt l [f, t] = 0) : ((seenSt l f t).1 || (pathSt l t).1.any (fun x => (l.getD x.toNat default).closed)) = true := by
  obtain ⟨c, hf, ht⟩ := first2 e
  rw [seen_2 e, path_2 (first_t e)]
  show ((!hiddenSt l f.pl t.pl false) || (line l t.pl).any _) = true
  cases q : hiddenSt l f.pl t.pl false with
  | false => rfl
  | true => rw [hid_closed c ht q]; rfl
end
end Go.Proofs.Ytmcdamcedemdiaa
namespace Go.Proofs.Ytmcdamcedemdiaa
open Go.RowKit Go.Eng
theorem idxf129M_ct {f : FuncId} {caps : List SV} (p : Int → Bool) (hE : Enters Try.prog f) (hro : allRO caps = true) (l : List Int) (hC : ∀ x ∈ l, Ct Try.prog f ([iv x] ++ caps) (bv (p x))) : Ct Try.prog 129 [inRow l, fnA f caps] (iv (idxF p l)) := by
 refine CtO 19 Try.func129 rfl rfl rfl fun E => Rl (V (s := 0) rfl) fun hl0 => Sq <| Rq <| O (As K) <| Nq <| Sq <| Sq <| Rq <| O (Mv (V rfl)) <| O (Ln (V rfl) ts33) <| O (Mv K) <| Nq <| Bo <| Lo (fun (i : Nat) => ⟨[(0, inRow l), (1, fnA f caps), (7, iv ((l.length : Int))), (8, iv ((i : Int)))], []⟩) (fun (i : Nat) => i ≤ l.length ∧ ∀ j, j < i → p (l.getD j 0) = false) (fun (i : Nat) => l.length - i) 0 (by show 0 ≤ l.length ∧ ∀ j, j < 0 → p (l.getD j 0) = false; exact ⟨Nat.zero_le _, fun j hj => absurd hj (Nat.not_lt_zero j)⟩) (We (Vs rfl) Z) <| ?_
 ·rintro i hI1
  have hJ1 : i ≤ l.length ∧ ∀ j, j < i → p (l.getD j 0) = false := hI1
  have hi1 := hJ1.1
  have hall := hJ1.2
  refine Sq <| Rq <| O (Lt (V rfl) (V rfl)) <| Nq <| Sq <| Cd (V rfl) (fun hc1 => ?_) (fun hc1 => ?_)
  ·have hc1s := hc1; try simp only [BL] at hc1s
   have hil : i < l.length := by clear hall hJ1 hI1; omega
   refine Sk <| Sq <| Bo <| Sq <| Rq <| O (Mv (V rfl)) <| O (As (V rfl)) <| Nq <| Sq <| Rq <| O (Mv (V rfl)) <| O (Mv (V rfl)) <| O (Mv (V rfl)) <| O (IxN (i := i) (V rfl) (V rfl) ts33 te33 (by clear hall hJ1 hI1; omega)) <| O (Ld (V rfl) Ga3 (by decide)) <| CQv (args := [iv ((l.getD i 0))]) (caps := caps) (fnval_A (V rfl)) hro hE (by exact ⟨⟨(V rfl), rfl⟩, Z⟩) (hC ((l.getD i 0)) (mem_getD (d := 0) hil)) <| Nq <| Cd (V rfl) (fun hc2 => ?_) (fun hc2 => ?_)
   ·have hc2s := hc2; try simp only [BL] at hc2s
    exact Sq <| Rq <| O (Mv (V rfl)) <| O (As (V rfl)) <| Nq <| Rx <| R1 rfl (V rfl) rfl (by show iv ((i : Int)) = iv (idxF p l); rw [idxF_hit 0 (by clear hall hJ1 hI1; omega) hall hc2])
   ·have hc2s := hc2; try simp only [BL] at hc2s
    exact Sk <| Rq <| O (Ad (V rfl) K (by clear hall hJ1 hI1; omega)) <| O (Mv (V rfl)) <| Nq <| Nx (i + 1) (by show (i + 1) ≤ l.length ∧ ∀ j, j < (i + 1) → p (l.getD j 0) = false; exact ⟨by clear hall hJ1 hI1; omega, idxF_s hall hc2⟩) (by show l.length - (i + 1) < l.length - i; clear hall hJ1 hI1; omega) (We (Vs rfl) Z)
  ·have hc1s := hc1; try simp only [BL] at hc1s
   exact Ex <| Sq <| Rq <| O (As K) <| Nq <| Rx <| R1 rfl (V rfl) rfl (by show iv ((-1)) = iv (idxF p l); rw [idxF_none 0 hall (by clear hall hJ1 hI1; omega)])
theorem conf81M_ct {f : FuncId} {caps : List SV} (p : Int → Bool) (hE : Enters Try.prog f) (hro : allRO caps = true) (l : List Int) (hC : ∀ x ∈ l, Ct Try.prog f ([iv x] ++ caps) (bv (p x))) : Ct Try.prog 81 [inRow l, fnA f caps] (bv (l.any p)) := by
 exact CtO 9 Try.func81 rfl rfl rfl fun E => Rl (V (s := 0) rfl) fun hl0 => Sq <| Rq <| O (As K) <| Nq <| Sq <| Rq <| O (Mv (V rfl)) <| O (Mv (V rfl)) <| CQ en129 (by exact ⟨⟨(V rfl), rfl⟩, ⟨(V rfl), rfl⟩, Z⟩) (idxf129M_ct p hE hro l hC) <| O (Ge (V rfl) K) <| O (As (V rfl)) <| Nq <| Rx <| R1 rfl (V rfl) rfl (by show bv (decide (0 ≤ idxF p l)) = bv (l.any p); exact congrArg bv (idxF_any p l))
theorem hidesK_ct (x : Int) (l : List Nd) (hx : 0 ≤ x ∧ x < (l.length : Int)) : Ct Try.prog 82 [iv (x), elB [ndRow l] 0] (bv ((l.getD (Int.toNat x) default).closed)) := by
 exact CtO 10 Try.func82 rfl rfl rfl fun E => Sq <| Rq <| O (As K) <| Nq <| Sq <| Rq <| O (Fl _ _ (V rfl) Un24 rfl 0 Sz22) <| O (Ld (V rfl) Ga22 (by show 0 < 1; decide)) <| O (Mv (V rfl)) <| O (Ix (V rfl) (V rfl) ts22 te22 (by omega) (by omega)) <| O (Fl _ _ (V rfl) Un61 rfl 0 Sz4) <| O (Ld (V rfl) Ga4 (by decide)) <| O (As (V rfl)) <| Nq <| Rx <| R1 rfl (V rfl) rfl (by show bv ((l.getD (Int.toNat x) default).closed) = bv ((l.getD (Int.toNat x) default).closed); rfl)
theorem shadowHides_ct (l : List Nd) (f t : Hd) (hb : ∀ n ∈ l, n.kids.length ≤ 17592186043904) : Ct Try.prog 15 [SV.agg 1 (stG l), SV.agg 2 (hdCell f), SV.agg 2 (hdCell t)] (bv true) := by
 refine CtO 116 Try.func15 rfl rfl rfl fun E => row_lenA 0 (V (s := 0) rfl) rfl rfl fun hl0_0 => Sq <| Rt <| BxA 1 (V rfl) rfl rfl <| BxA 2 (V rfl) rfl rfl <| BxA 3 (V rfl) rfl rfl <| U (As K) <| Nt <| Sq <| c_frzB 1 [ndRow l] rfl rfl ⟨Z, rfl⟩ rfl <| Rt <| U (LdA (V rfl) Ga24 Sz24 (by show 0 + 1 ≤ 1; decide)) <| U (LBA (V rfl) rfl Ga26 Sz26 (by decide)) <| U (LBA (V rfl) rfl Ga26 Sz26 (by decide)) <| CT en38 (by exact ⟨⟨(Vi (g' := stG l) (V rfl) ⟨Z, Ir⟩), rfl⟩, ⟨(Vi (g' := hdCell ⟨f.pl, f.use⟩) (V rfl) ⟨⟨Z, Ir⟩, Ir⟩), rfl⟩, ⟨(Vi (g' := hdCell ⟨t.pl, t.use⟩) (V rfl) ⟨⟨Z, Ir⟩, Ir⟩), rfl⟩, Z⟩) (seen_ct l f t (by first | assumption | exact kb_nil | exact kb_of (by assumption) | exact kb_of fam_c5)) <| U (Mv (V rfl)) <| U (Xt (V rfl) (by decide)) <| U (Xt (V rfl) (by decide)) <| U (As (V rfl)) <| U (As (V rfl)) <| Nt <| Sq <| Sq <| Rt <| CT en75 (by exact Z) (veiled_ct) <| U (Qo (V rfl)) <| U (Mv (V rfl)) <| Ug (Gn rfl rfl) (fun hg => Mv (V rfl)) <| Ug (Gn rfl rfl) (fun hg => Qn (Vg (V rfl) hg) K) <| U (Qr (V rfl) (fun h => Vg (V rfl) (notT h))) <| Nt <| Cd (V rfl) (fun hc1 => ?_) (fun hc1 => ?_)
 ·have hc1s := hc1; try simp only [BL] at hc1s
  exact Sq <| Rt <| CT en75 (by exact Z) (veiled_ct) <| U (As (V rfl)) <| Nt <| Rx <| R1 rfl (V rfl) rfl (by show bv (true) = bv true; rfl)
 ·have hc1s := hc1; try simp only [BL] at hc1s
  have hft2 : firstSt l [f, t] = 0 := seen_0 (f := f) (t := t) (by simpa using hc1)
  have hT := hides_T hft2
  have hTr := hT.1
  have hft := first_t hft2
  refine Sk <| Sq <| Rt <| U (LdA (V rfl) Ga24 Sz24 (by show 0 + 1 ≤ 1; decide)) <| U (LBA (V rfl) rfl Ga26 Sz26 (by decide)) <| CT en33 (by exact ⟨⟨(Vi (g' := stG l) (V rfl) ⟨Z, Ir⟩), rfl⟩, ⟨(Vi (g' := hdCell ⟨t.pl, t.use⟩) (V rfl) ⟨⟨Z, Ir⟩, Ir⟩), rfl⟩, Z⟩) (path_ct l t (by first | assumption | exact kb_nil | exact kb_of (by assumption) | exact kb_of fam_c5)) <| U (Mv (V rfl)) <| U (Xt (V rfl) (by decide)) <| U (Xt (V rfl) (by decide)) <| U (As (V rfl)) <| U (As (V rfl)) <| Nt <| Sq <| Rq <| O (LdA (V rfl) Ga24 Sz24 (by show 0 + 1 ≤ 1; decide)) <| O (FlB _ _ (V rfl) Un26 rfl 0 Sz3) <| O (LdB (V rfl) rfl Ga3 (by decide)) <| O (FlB _ _ (V rfl) Un26 rfl 0 Sz3) <| O (LdB (V rfl) rfl Ga3 (by decide)) <| CQ en78 (by exact ⟨⟨(Vi (g' := stG l) (V rfl) ⟨Z, Ir⟩), rfl⟩, ⟨(V rfl), rfl⟩, ⟨(V rfl), rfl⟩, Z⟩) (target_ct l t.pl f.pl (by first | assumption | exact kb_nil | exact kb_of (by assumption) | exact kb_of fam_c5)) <| O (As (V rfl)) <| Nq <| Sq <| Sq <| Rq <| O (Mv (V rfl)) <| O (Qn (V rfl) K) <| O (Mv (V rfl)) <| Og (Gn rfl rfl) (fun hg => LdA (V rfl) Ga24 Sz24 (by show 0 + 1 ≤ 1; decide)) <| Og (Gn rfl rfl) (fun hg => Mv (V rfl)) <| CQg (Gn rfl rfl) en37 (fun hg => (by exact ⟨⟨(Vi (g' := stG l) (Vg (V rfl) hg) ⟨Z, Ir⟩), rfl⟩, ⟨(Vg (V rfl) hg), rfl⟩, Z⟩)) (fun hg => used_ct l (tgtSt l t.pl f.pl)) <| Og (Gn rfl rfl) (fun hg => Qo (Vg (V rfl) hg)) <| O (Qr (V rfl) (fun h => Vg (V rfl) (notT h))) <| O (Mv (V rfl)) <| Og (Gn rfl rfl) (fun hg => Mv (V rfl)) <| Og (Gn rfl rfl) (fun hg => Mv (V rfl)) <| CQg (Gn rfl rfl) en36 (fun hg => (by exact ⟨⟨(Vg (V rfl) hg), rfl⟩, ⟨(Vg (V rfl) hg), rfl⟩, Z⟩)) (fun hg => contains_ct ((pathSt l t).1) (tgtSt l t.pl f.pl)) <| Og (Gn rfl rfl) (fun hg => Qo (Vg (V rfl) hg)) <| O (Qr (V rfl) (fun h => Vg (V rfl) (notT h))) <| Nq <| ?_
  refine Cd (V rfl) (fun hc2 => ?_) (fun hc2 => ?_)
  ·have hc2s := hc2; try simp only [BL] at hc2s
   exact absurd hc2 (ff (hides_A hft2))
   --done
  ·have hc2s := hc2; try simp only [BL] at hc2s
   refine Sk <| Sq <| Rg [56, 57, 58, 59, 60, 61, 62, 63, 64, 65, 66, 55, 67, 68, 11, 8] (by kernel_rfl) (by kernel_rfl) (by kernel_rfl) <| Gp (Gq (LdA (V rfl) Ga24 Sz24 (by show 0 + 1 ≤ 1; decide))) <| Gp (Gq (LBA (V rfl) rfl Ga26 Sz26 (by decide))) <| Gp (Gq (Mv (V rfl))) <| Gp (Gq (Fl _ _ (V rfl) Un24 rfl 0 Sz22)) <| Gp (Gq (Ld (V rfl) Ga22 (by show 0 < 1; decide))) <| Gp (Gq (Mv (V rfl))) <| Gp (Gq (Ix (V rfl) (V rfl) ts22 te22 (by omega) (by omega))) <| Gp (Gq (Fl _ _ (V rfl) Un61 rfl 0 Sz3)) <| Gp (Gq (Ld (V rfl) Ga3 (by decide))) <| Gp (Gq (Bu [(0, iv (tgtSt l t.pl f.pl)), (1, iv ((l.getD (Int.toNat (tgtSt l t.pl f.pl)) default).uses))] id (hdCell ⟨tgtSt l t.pl f.pl, (l.getD (Int.toNat (tgtSt l t.pl f.pl)) default).uses⟩) zero26 build26 (by exact ⟨⟨rfl, (V rfl), rfl⟩, ⟨rfl, (V rfl), rfl⟩, Z⟩) (by decide) ⟨⟨Z, rfl⟩, rfl⟩)) <| Gp (Gc en38 (by exact ⟨⟨(Vi (g' := stG l) (V rfl) ⟨Z, Ir⟩), rfl⟩, ⟨(Vi (g' := hdCell ⟨f.pl, f.use⟩) (V rfl) ⟨⟨Z, Ir⟩, Ir⟩), rfl⟩, ⟨(V rfl), rfl⟩, Z⟩) (seen_ct l f ⟨tgtSt l t.pl f.pl, (l.getD (Int.toNat (tgtSt l t.pl f.pl)) default).uses⟩ (by first | assumption | exact kb_nil | exact kb_of (by assumption) | exact kb_of fam_c5))) <| Gp (Gq (Mv (V rfl))) <| Gp (Gq (Xt (V rfl) (by decide))) <| Gp (Gq (Xt (V rfl) (by decide))) <| Gp (Gq (As (V rfl))) <| Gp (Gq (As (V rfl))) <| Gz <| Sq <| Sq <| Rq <| O (Mv (V rfl)) <| O (Qn (V rfl) K) <| O (Mv (V rfl)) <| Og (Gn rfl rfl) (fun hg => Mv (V rfl)) <| Og (Gn rfl rfl) (fun hg => Qo (Vg (V rfl) hg)) <| O (Qr (V rfl) (fun h => Vg (V rfl) (notT h))) <| O (Mv (V rfl)) <| Og (Gn rfl rfl) (fun hg => Mv (V rfl)) <| Og (Gn rfl rfl) (fun hg => Qo (Vg (V rfl) hg)) <| Og (Gn rfl rfl) (fun hg => Mv (Vg (V rfl) hg)) <| Og (Gyy rfl rfl) (fun hg => Mv (V rfl)) <| Og (Gyy rfl rfl) (fun hg => FlB _ _ (V rfl) Un26 rfl 0 Sz3) <| Og (Gyy rfl rfl) (fun hg => LdB (Vg (V rfl) hg) rfl Ga3 (by decide)) <| Og (Gyy rfl rfl) (fun hg => Ql (Vg (V rfl) hg) (Vg (V rfl) hg)) <| Og (Gn rfl rfl) (fun hg => Qa (Vg (V rfl) hg) (fun h => Vg (V rfl) (andI hg h))) <| O (Qr (V rfl) (fun h => Vg (V rfl) (notT h))) <| Nq <| ?_
   refine Cd (V rfl) (fun hc3 => ?_) (fun hc3 => ?_)
   ·have hc3s := hc3; try simp only [BL] at hc3s
    exact absurd hc3 (ff (hides_B hft2))
    --done
   ·have hc3s := hc3; try simp only [BL] at hc3s
    refine Sk <| Sq <| Sq <| Rt <| U (LdA (V rfl) Ga24 Sz24 (by show 0 + 1 ≤ 1; decide)) <| U (LBA (V rfl) rfl Ga26 Sz26 (by decide)) <| U (LBA (V rfl) rfl Ga26 Sz26 (by decide)) <| CT en38 (by exact ⟨⟨(Vi (g' := stG l) (V rfl) ⟨Z, Ir⟩), rfl⟩, ⟨(Vi (g' := hdCell ⟨t.pl, t.use⟩) (V rfl) ⟨⟨Z, Ir⟩, Ir⟩), rfl⟩, ⟨(Vi (g' := hdCell ⟨t.pl, t.use⟩) (V rfl) ⟨⟨Z, Ir⟩, Ir⟩), rfl⟩, Z⟩) (seen_ct l t t (by first | assumption | exact kb_nil | exact kb_of (by assumption) | exact kb_of fam_c5)) <| U (Mv (V rfl)) <| U (Xt (V rfl) (by decide)) <| U (Xt (V rfl) (by decide)) <| U (As (V rfl)) <| U (As (V rfl)) <| Nt <| Sq <| Rqd (by kernel_rfl) (by kernel_rfl) <| O (Mv (V rfl)) <| O (Qn (V rfl) K) <| O (Mv (V rfl)) <| Og (Gn rfl rfl) (fun hg => Mv (V rfl)) <| Og (Gn rfl rfl) (fun hg => Qo (Vg (V rfl) hg)) <| O (Qr (V rfl) (fun h => Vg (V rfl) (notT h))) <| O (Mv (V rfl)) <| Og (Gn rfl rfl) (fun hg => LdA (V rfl) Ga24 Sz24 (by show 0 + 1 ≤ 1; decide)) <| Og (Gn rfl rfl) (fun hg => FlB _ _ (V rfl) Un26 rfl 0 Sz3) <| Og (Gn rfl rfl) (fun hg => LdB (Vg (V rfl) hg) rfl Ga3 (by decide)) <| Og (Gn rfl rfl) (fun hg => FlB _ _ (V rfl) Un26 rfl 0 Sz3) <| Og (Gn rfl rfl) (fun hg => LdB (Vg (V rfl) hg) rfl Ga3 (by decide)) <| CQg (Gn rfl rfl) en78 (fun hg => (by exact ⟨⟨(Vi (g' := stG l) (Vg (V rfl) hg) ⟨Z, Ir⟩), rfl⟩, ⟨(Vg (V rfl) hg), rfl⟩, ⟨(Vg (V rfl) hg), rfl⟩, Z⟩)) (fun hg => target_ct l t.pl t.pl (by first | assumption | exact kb_nil | exact kb_of (by assumption) | exact kb_of fam_c5)) <| Og (Gn rfl rfl) (fun hg => FlB _ _ (V rfl) Un26 rfl 0 Sz3) <| Og (Gn rfl rfl) (fun hg => LdB (Vg (V rfl) hg) rfl Ga3 (by decide)) <| Og (Gn rfl rfl) (fun hg => Qn (Vg (V rfl) hg) (Vg (V rfl) hg)) <| O (Qr (V rfl) (fun h => Vg (V rfl) (notT h))) <| Nq <| Cd (V rfl) (fun hc4 => ?_) (fun hc4 => ?_)
    ·have hc4s := hc4; try simp only [BL] at hc4s
     exact absurd hc4 (ff (hides_C hft2))
     --done
    ·have hc4s := hc4; try simp only [BL] at hc4s
     exact Sk <| Sq <| Rt <| U (Mv (V rfl)) <| U (Mk (caps := [elB [ndRow l] 0]) ⟨(V rfl), Z⟩) <| CT en81 (by exact ⟨⟨(V rfl), rfl⟩, ⟨(VA (VF [elB [ndRow l] 0] ((V rfl)) (An rfl)) rfl), rfl⟩, Z⟩) (conf81M_ct (fun x => (l.getD (Int.toNat x) default).closed) en82 rfl ((pathSt l t).1) (fun x hx => hidesK_ct x l (line_in (by rw [path_2 hft] at hx; exact hx)))) <| U (As (V rfl)) <| Nt <| Sq <| Rq <| O (Mv (V rfl)) <| O (Mv (V rfl)) <| Og (Gn rfl rfl) (fun hg => Mv (V rfl)) <| O (Qr (V rfl) (fun h => Vg (V rfl) (notT h))) <| O (As (V rfl)) <| Nq <| Rx <| R1 rfl (V rfl) rfl (by show bv (((seenSt l f t).1) || (((pathSt l t).1).any (fun x => (l.getD (Int.toNat x) default).closed))) = bv true; exact congrArg bv (hides_Z hft2))
end Go.Proofs.Ytmcdamcedemdiaa
