/- What the proof of QuerySays rests on, part 4: the engine, the walks, the plain laws. -/
import Derived.Test.YtmcdamcedemdiaaQuerySaysM3
set_option linter.unusedVariables false
set_option linter.unusedSimpArgs false
namespace Go.Proofs.Ytmcdamcedemdiaa
open Go.RowKit Go.Eng
theorem ordered_ct (l : List Nd) (h : Hd) (hb : ∀ n ∈ l, n.kids.length ≤ 17592186043904) : Ct Try.prog 66 [SV.agg 1 (stG l), SV.agg 2 (hdCell h)] (sv2 (inRow (orderSt l h).1) (iv (orderSt l h).2)) := by
 refine CtO 64 Try.func66 rfl rfl rfl fun E => row_lenA 0 (V (s := 0) rfl) rfl rfl fun hl0_0 => Sq <| Rt <| BxA 1 (V rfl) rfl rfl <| BxA 2 (V rfl) rfl rfl <| U (As (Vn (k := 1) (get := rowG inCell 0 []))) <| U (As K) <| Nt <| Sq <| Sq <| Rt <| U (LBA (V rfl) rfl Ga24 Sz24 (by decide)) <| U (LBA (V rfl) rfl Ga26 Sz26 (by decide)) <| Uw (w_bs (n := 1) (zget := cmpG [iv (0), iv (0)]) [(fun zi => (hdCell h) (0 + zi))] (rowG hdCell default [⟨h.pl, h.use⟩]) Un80 Sz26 zero26 (by decide) rfl (by decide) ⟨⟨rfl, .inl (V rfl), rfl⟩, Z⟩ ⟨Z, ⟨⟨Z, rfl⟩, rfl⟩⟩) <| CT en100 (by exact ⟨⟨(Vi (g' := stG l) (V rfl) ⟨Z, Ir⟩), rfl⟩, ⟨(V rfl), rfl⟩, Z⟩) (first_ct l ([⟨h.pl, h.use⟩]) (by first | assumption | exact kb_nil | exact kb_of (by assumption))) <| U (As (V rfl)) <| Nt <| Sq <| Rq <| O (Mv (V rfl)) <| O (Qn (V rfl) K) <| Nq <| Cd (V rfl) (fun hc1 => ?_) (fun hc1 => ?_)
 ·have hc1s := hc1; try simp only [BL] at hc1s
  exact Sq <| Rq <| O (Mv (V rfl)) <| O (As (Vn (k := 1) (get := rowG inCell 0 []))) <| O (As (V rfl)) <| Nq <| Rx <| R2 rfl (V rfl) (V rfl) rfl rfl (by show sv2 (inRow ([])) (iv (firstSt l ([⟨h.pl, h.use⟩]))) = sv2 (inRow (orderSt l h).1) (iv (orderSt l h).2); rw [order_1 hc1s])
 ·have hc1s := hc1; try simp only [BL] at hc1s
  obtain ⟨hc0, _, hpl, hus⟩ := first1 (h := h) hc1s
  have h24 := checkSt_len hc0
  refine Sk <| Sq <| Rt <| U (FlB _ _ (V rfl) Un26 rfl 0 Sz3) <| U (LdB (V rfl) rfl Ga3 (by decide)) <| t_bsO 3 (n := 1) (zget := fun _ => iv 0) [(fun _ => iv (h.pl))] (rowG inCell 0 [h.pl]) Un33 Sz3 zero3 (by decide) (by decide) rfl (by decide) ⟨⟨rfl, .inr ⟨rfl, (V rfl), rfl⟩, rfl⟩, Z⟩ ⟨Z, ⟨Z, rfl⟩⟩ rfl <| U (As (V rfl)) <| Nt <| Sq <| Rt <| t_nilO 4 1 (rowG inCell 0 []) 3 (.inl rfl) rfl <| Nt <| Sq <| Bo <| c_mv 3 60 rfl rfl <| c_mv 4 61 rfl rfl <| c_ownE 60 (([h.pl])) rfl (by rfl) <| c_ownE 61 (([])) rfl (by rfl) <| Lo (uc2 fun (stk : List Int) (out : List Int) => ⟨[(2, SV.bp 1 0), (7, SV.own 60), (8, SV.own 61)], [(1, Own.box 1 (fun zt => SV.renm (mvN 4 61) ((fun zt => SV.renm (mvN 3 60) ((stG l) zt)) zt)) 24), (60, ownOf inCell 1 0 stk 3), (61, ownOf inCell 1 0 out 3)]⟩) (uc2 fun (stk : List Int) (out : List Int) => Stk l h.pl stk out) (uc2 fun (stk : List Int) (out : List Int) => (stkF l stk).length) ([h.pl], []) (by show Stk l h.pl ([h.pl]) ([]); exact stk_0 hpl) (We (ow := [(1, Own.box 1 (fun zt => SV.renm (mvN 4 61) ((fun zt => SV.renm (mvN 3 60) ((stG l) zt)) zt)) 24), (60, ownOf inCell 1 0 (([h.pl])) 3), (61, ownOf inCell 1 0 (([])) 3)]) (Vs rfl) (by exact ⟨⟨_, rfl, rfl, rfl, (An rfl)⟩, ⟨_, rfl, rfl⟩, ⟨_, rfl, rfl⟩, Z⟩)) <| ?_
  ·rintro ⟨stk, out⟩ hI1
   have hJ1 : Stk l h.pl stk out := hI1
   show C _ E _ ⟨[(2, SV.bp 1 0), (7, SV.own 60), (8, SV.own 61)], [(1, Own.box 1 (fun zt => SV.renm (mvN 4 61) ((fun zt => SV.renm (mvN 3 60) ((stG l) zt)) zt)) 24), (60, ownOf inCell 1 0 stk 3), (61, ownOf inCell 1 0 out 3)]⟩ _
   have hst := hJ1
   have hroom := stk_room hc0 hpl hst
   refine Sq <| Sq <| Rq <| O (Mv (V rfl)) <| O (LnO (V rfl) rfl ts33) <| O (Gt (V rfl) K) <| Nq <| Cd (V rfl) (fun hc2 => ?_) (fun hc2 => ?_)
   ·have hc2s := hc2; try simp only [BL] at hc2s
    have hs1 : 0 < stk.length := by omega
    have hs2 : Int.toNat ((stk.length : Int) - 1) = stk.length - 1 := by omega
    obtain ⟨hkr, hsz, hst3⟩ := stk_f hc0 hst hs1
    rw [← hs2] at hkr hsz hst3
    have hkf := kids_few hc0 (i := Int.toNat (stk.getD (Int.toNat ((stk.length : Int) - 1)) 0)) (by omega)
    refine Sk <| Bo <| Sq <| Rq <| O (Mv (V rfl)) <| O (Mv (V rfl)) <| O (LnO (V rfl) rfl ts33) <| O (Sb (V rfl) K (by omega)) <| O (IxO (V rfl) rfl (V rfl) ts33 te33 (by omega) (by omega)) <| O (LdO (V rfl) rfl Ga3 (by decide)) <| O (As (V rfl)) <| Nq <| Sq <| Rq <| O (Mv (V rfl)) <| O (Mv (V rfl)) <| O (LnO (V rfl) rfl ts33) <| O (Sb (V rfl) K (by omega)) <| O (q_slOH ts33 te33 (V rfl) rfl (V rfl) (by omega) (by omega)) <| O (As (V rfl)) <| Nq <| Tc (turn_cutT 7 60 5 (Int.toNat (((stk.length : Int)) - 1)) rfl rfl (by omega) rfl (by decide)) <| Sq <| Rt <| U (Mv (V rfl)) <| U (Mv (V rfl)) <| Uw (w_bs (n := 1) (zget := fun _ => iv 0) [(fun _ => iv ((stk.getD (Int.toNat (((stk.length : Int)) - 1)) 0)))] (rowG inCell 0 [(stk.getD (Int.toNat (((stk.length : Int)) - 1)) 0)]) Un33 Sz3 zero3 (by decide) rfl (by decide) ⟨⟨rfl, .inr ⟨rfl, (V rfl), rfl⟩, rfl⟩, Z⟩ ⟨Z, ⟨Z, rfl⟩⟩) <| Ap 6 (rowG inCell 0 (out ++ ([(stk.getD (Int.toNat (((stk.length : Int)) - 1)) 0)]))) eo33 (V rfl) rfl (V rfl) rfl (len_app out ([(stk.getD (Int.toNat (((stk.length : Int)) - 1)) 0)])) (by first | (simp only [maxLen, List.length_append, List.length_set, List.length_nil, List.length_cons]; first | omega | (simp only [List.length_take, List.length_reverse]; omega)) | (simp only [maxLen]; first | omega | (simp only [List.length_take, List.length_reverse]; omega))) (by first | (simp only [List.length_append, List.length_set, List.length_nil, List.length_cons]; first | omega | (simp only [List.length_take, List.length_reverse]; omega)) | (first | omega | (simp only [List.length_take, List.length_reverse]; omega))) (app_typed (l := out) (m := ([(stk.getD (Int.toNat (((stk.length : Int)) - 1)) 0)]))) <| U (As (V rfl)) <| Nt <| Sq <| Rq <| O (FlB _ _ (V rfl) Un24 rfl 0 Sz22) <| O (LdB (V rfl) rfl Ga22 (by decide)) <| O (Mv (V rfl)) <| O (Ix (V rfl) (V rfl) ts22 te22 (by omega) (by omega)) <| O (Fl _ _ (V rfl) Un61 rfl 0 Sz33) <| O (Ld (V rfl) Ga33 (by decide)) <| O (Ln (V rfl) ts33) <| O (Sb (V rfl) K (by omega)) <| ?_
    refine O (As (V rfl)) <| Nq <| Bo <| c_mv 5 62 rfl rfl <| c_ownE 62 (stk.take (Int.toNat ((stk.length : Int) - 1)) ++ (l.getD (Int.toNat (stk.getD (Int.toNat ((stk.length : Int) - 1)) 0)) default).kids.reverse.take 0) rfl (by simp) <| Lo (fun (i : Nat) => ⟨[(2, SV.bp 1 0), (7, SV.own 62), (8, SV.own 6), (9, iv ((stk.getD (Int.toNat (((stk.length : Int)) - 1)) 0))), (10, iv (0 + ((l.getD (Int.toNat (stk.getD (Int.toNat ((stk.length : Int) - 1)) 0)) default).kids.length : Int) - 1 - (i : Int)))], [(1, Own.box 1 (fun zt => SV.renm (mvN 5 62) ((fun zt => SV.renm (mvN 4 61) ((fun zt => SV.renm (mvN 3 60) ((stG l) zt)) zt)) zt)) 24), (6, ownOf inCell 1 0 (out ++ ([(stk.getD (Int.toNat (((stk.length : Int)) - 1)) 0)])) 3), (62, ownOf inCell 1 0 (stk.take (Int.toNat ((stk.length : Int) - 1)) ++ (l.getD (Int.toNat (stk.getD (Int.toNat ((stk.length : Int) - 1)) 0)) default).kids.reverse.take i) 3)]⟩) (fun (i : Nat) => i ≤ (l.getD (Int.toNat (stk.getD (Int.toNat ((stk.length : Int) - 1)) 0)) default).kids.length) (fun (i : Nat) => (l.getD (Int.toNat (stk.getD (Int.toNat ((stk.length : Int) - 1)) 0)) default).kids.length - i) 0 (by show 0 ≤ (l.getD (Int.toNat (stk.getD (Int.toNat ((stk.length : Int) - 1)) 0)) default).kids.length; exact Nat.zero_le _) (We (sl := [(2, SV.bp 1 0), (7, SV.own 62), (8, SV.own 6), (9, iv ((stk.getD (Int.toNat (((stk.length : Int)) - 1)) 0))), (10, iv (0 + ((l.getD (Int.toNat (stk.getD (Int.toNat ((stk.length : Int) - 1)) 0)) default).kids.length : Int) - 1 - (0 : Int)))]) (ow := [(1, Own.box 1 (fun zt => SV.renm (mvN 5 62) ((fun zt => SV.renm (mvN 4 61) ((fun zt => SV.renm (mvN 3 60) ((stG l) zt)) zt)) zt)) 24), (6, ownOf inCell 1 0 (out ++ ([(stk.getD (Int.toNat (((stk.length : Int)) - 1)) 0)])) 3), (62, ownOf inCell 1 0 (stk.take (Int.toNat ((stk.length : Int) - 1)) ++ (l.getD (Int.toNat (stk.getD (Int.toNat ((stk.length : Int) - 1)) 0)) default).kids.reverse.take 0) 3)]) (by exact ⟨V rfl, V rfl, V rfl, V rfl, val_eq (V rfl) (congrArg iv (by simp)), Z⟩) (by exact ⟨⟨_, rfl, rfl, rfl, (An rfl)⟩, ⟨_, rfl, rfl⟩, ⟨_, rfl, rfl⟩, Z⟩)) <| ?_
    ·rintro i hI2
     have hJ2 : i ≤ (l.getD (Int.toNat (stk.getD (Int.toNat ((stk.length : Int) - 1)) 0)) default).kids.length := hI2
     have hiv := hJ2
     refine Sq <| Sq <| Rq <| O (Mv (V rfl)) <| O (Ge (V rfl) K) <| Nq <| Cd (V rfl) (fun hc3 => ?_) (fun hc3 => ?_)
     ·have hc3s := hc3; try simp only [BL] at hc3s
      refine Sk <| Sq <| Bo <| Rt <| U (Mv (V rfl)) <| U (FlB _ _ (V rfl) Un24 rfl 0 Sz22) <| U (LdB (V rfl) rfl Ga22 (by decide)) <| U (Mv (V rfl)) <| U (Ix (V rfl) (V rfl) ts22 te22 (by omega) (by omega)) <| U (Fl _ _ (V rfl) Un61 rfl 0 Sz33) <| U (Ld (V rfl) Ga33 (by decide)) <| U (Mv (V rfl)) <| U (Ix (V rfl) (V rfl) ts33 te33 (by omega) (by omega)) <| U (Ld (V rfl) Ga3 (by decide)) <| Uw (w_bs (n := 1) (zget := fun _ => iv 0) [(fun _ => iv ((((l.getD (Int.toNat ((stk.getD (Int.toNat (((stk.length : Int)) - 1)) 0))) default).kids).getD (Int.toNat (0 + ((l.getD (Int.toNat (stk.getD (Int.toNat ((stk.length : Int) - 1)) 0)) default).kids.length : Int) - 1 - (i : Int))) 0)))] (rowG inCell 0 [(((l.getD (Int.toNat ((stk.getD (Int.toNat (((stk.length : Int)) - 1)) 0))) default).kids).getD (Int.toNat (0 + ((l.getD (Int.toNat (stk.getD (Int.toNat ((stk.length : Int) - 1)) 0)) default).kids.length : Int) - 1 - (i : Int))) 0)]) Un33 Sz3 zero3 (by decide) rfl (by decide) ⟨⟨rfl, .inr ⟨rfl, (V rfl), rfl⟩, rfl⟩, Z⟩ ⟨Z, ⟨Z, rfl⟩⟩) <| Ap 7 (rowG inCell 0 ((stk.take (Int.toNat ((stk.length : Int) - 1)) ++ (l.getD (Int.toNat (stk.getD (Int.toNat ((stk.length : Int) - 1)) 0)) default).kids.reverse.take i) ++ ([(((l.getD (Int.toNat ((stk.getD (Int.toNat (((stk.length : Int)) - 1)) 0))) default).kids).getD (Int.toNat (0 + ((l.getD (Int.toNat (stk.getD (Int.toNat ((stk.length : Int) - 1)) 0)) default).kids.length : Int) - 1 - (i : Int))) 0)]))) eo33 (V rfl) rfl (V rfl) rfl (len_app (stk.take (Int.toNat ((stk.length : Int) - 1)) ++ (l.getD (Int.toNat (stk.getD (Int.toNat ((stk.length : Int) - 1)) 0)) default).kids.reverse.take i) ([(((l.getD (Int.toNat ((stk.getD (Int.toNat (((stk.length : Int)) - 1)) 0))) default).kids).getD (Int.toNat (0 + ((l.getD (Int.toNat (stk.getD (Int.toNat ((stk.length : Int) - 1)) 0)) default).kids.length : Int) - 1 - (i : Int))) 0)])) (by first | (simp only [maxLen, List.length_append, List.length_set, List.length_nil, List.length_cons]; first | omega | (simp only [List.length_take, List.length_reverse]; omega)) | (simp only [maxLen]; first | omega | (simp only [List.length_take, List.length_reverse]; omega))) (by first | (simp only [List.length_append, List.length_set, List.length_nil, List.length_cons]; first | omega | (simp only [List.length_take, List.length_reverse]; omega)) | (first | omega | (simp only [List.length_take, List.length_reverse]; omega))) (app_typed (l := (stk.take (Int.toNat ((stk.length : Int) - 1)) ++ (l.getD (Int.toNat (stk.getD (Int.toNat ((stk.length : Int) - 1)) 0)) default).kids.reverse.take i)) (m := ([(((l.getD (Int.toNat ((stk.getD (Int.toNat (((stk.length : Int)) - 1)) 0))) default).kids).getD (Int.toNat (0 + ((l.getD (Int.toNat (stk.getD (Int.toNat ((stk.length : Int) - 1)) 0)) default).kids.length : Int) - 1 - (i : Int))) 0)]))) <| U (As (V rfl)) <| Nt <| Rq <| O (Mv (V rfl)) <| O (Sb (V rfl) K (by omega)) <| O (As (V rfl)) <| Nq <| k_mv 7 62 rfl rfl <| k_ownE 62 (stk.take (Int.toNat ((stk.length : Int) - 1)) ++ (l.getD (Int.toNat (stk.getD (Int.toNat ((stk.length : Int) - 1)) 0)) default).kids.reverse.take ((i + 1))) rfl (by rw [take_s 0 (by rw [List.length_reverse]; omega), rev_at (by omega), List.append_assoc, show (Int.toNat (0 + ((l.getD (Int.toNat (stk.getD (Int.toNat ((stk.length : Int) - 1)) 0)) default).kids.length : Int) - 1 - (i : Int))) = (l.getD (Int.toNat (stk.getD (Int.toNat ((stk.length : Int) - 1)) 0)) default).kids.length - 1 - i by omega]) <| Nx (i + 1) (by show (i + 1) ≤ (l.getD (Int.toNat (stk.getD (Int.toNat ((stk.length : Int) - 1)) 0)) default).kids.length; first | omega | (simp; done) | (refine ⟨?_, ?_⟩ <;> first | omega | (simp; done))) (by show (l.getD (Int.toNat (stk.getD (Int.toNat ((stk.length : Int) - 1)) 0)) default).kids.length - (i + 1) < (l.getD (Int.toNat (stk.getD (Int.toNat ((stk.length : Int) - 1)) 0)) default).kids.length - i; omega) (We (sl := [(2, SV.bp 1 0), (7, SV.own 62), (8, SV.own 6), (9, iv ((stk.getD (Int.toNat (((stk.length : Int)) - 1)) 0))), (10, iv (0 + ((l.getD (Int.toNat (stk.getD (Int.toNat ((stk.length : Int) - 1)) 0)) default).kids.length : Int) - 1 - ((i + 1) : Int)))]) (ow := [(1, Own.box 1 (fun zt => SV.renm (mvN 5 62) ((fun zt => SV.renm (mvN 4 61) ((fun zt => SV.renm (mvN 3 60) ((stG l) zt)) zt)) zt)) 24), (6, ownOf inCell 1 0 (out ++ ([(stk.getD (Int.toNat (((stk.length : Int)) - 1)) 0)])) 3), (62, ownOf inCell 1 0 (stk.take (Int.toNat ((stk.length : Int) - 1)) ++ (l.getD (Int.toNat (stk.getD (Int.toNat ((stk.length : Int) - 1)) 0)) default).kids.reverse.take ((i + 1))) 3)]) (by exact ⟨V rfl, V rfl, V rfl, V rfl, val_eq (V rfl) (congrArg iv (by push_cast; omega)), Z⟩) (by exact ⟨⟨_, rfl, rfl, rfl, (An rfl)⟩, ⟨_, rfl, rfl⟩, ⟨_, rfl, rfl⟩, Z⟩))
     ·have hc3s := hc3; try simp only [BL] at hc3s
      exact Ex <| k_mv 62 60 rfl rfl <| k_mv 6 61 rfl rfl <| k_ownE 60 ((stk.take (Int.toNat ((stk.length : Int) - 1)) ++ (l.getD (Int.toNat (stk.getD (Int.toNat ((stk.length : Int) - 1)) 0)) default).kids.reverse)) rfl (by rw [List.take_of_length_le (l := (l.getD (Int.toNat (stk.getD (Int.toNat ((stk.length : Int) - 1)) 0)) default).kids.reverse) (by rw [List.length_reverse]; omega)]) <| NxH (stk.take (Int.toNat ((stk.length : Int) - 1)) ++ (l.getD (Int.toNat (stk.getD (Int.toNat ((stk.length : Int) - 1)) 0)) default).kids.reverse, out ++ [(stk.getD (Int.toNat ((stk.length : Int) - 1)) 0)]) (fun _ _ h => h) (by show Stk l h.pl (stk.take (Int.toNat ((stk.length : Int) - 1)) ++ (l.getD (Int.toNat (stk.getD (Int.toNat ((stk.length : Int) - 1)) 0)) default).kids.reverse) (out ++ [(stk.getD (Int.toNat ((stk.length : Int) - 1)) 0)]); exact hst3) (by show (stkF l (stk.take (Int.toNat ((stk.length : Int) - 1)) ++ (l.getD (Int.toNat (stk.getD (Int.toNat ((stk.length : Int) - 1)) 0)) default).kids.reverse)).length < (stkF l stk).length; omega) (We (ow := [(1, Own.box 1 (fun zt => SV.renm (mvN 4 61) ((fun zt => SV.renm (mvN 3 60) ((stG l) zt)) zt)) 24), (60, ownOf inCell 1 0 ((stk.take (Int.toNat ((stk.length : Int) - 1)) ++ (l.getD (Int.toNat (stk.getD (Int.toNat ((stk.length : Int) - 1)) 0)) default).kids.reverse)) 3), (61, ownOf inCell 1 0 ((out ++ [(stk.getD (Int.toNat ((stk.length : Int) - 1)) 0)])) 3)]) (Vs rfl) (by exact ⟨⟨_, rfl, rfl, rfl, (An rfl)⟩, ⟨_, rfl, rfl⟩, ⟨_, rfl, rfl⟩, Z⟩))
   ·have hc2s := hc2; try simp only [BL] at hc2s
    exact Ex <| Sq <| Rq <| O (Mv (V rfl)) <| O (As (V rfl)) <| O (As K) <| Nq <| FzC 61 rfl <| Rx <| R2 rfl (V rfl) (V rfl) rfl rfl (by show sv2 (inRow out) (iv (0)) = sv2 (inRow (orderSt l h).1) (iv (orderSt l h).2); rw [order_2 hc1s, stk_end hst (by omega)])
end Go.Proofs.Ytmcdamcedemdiaa
namespace Go.Proofs.Ytmcdamcedemdiaa
open Go.RowKit Go.Eng
theorem insert_ct (l : List Nd) (p c : Hd) (ah : List Hd) (hb : ∀ n ∈ l, n.kids.length ≤ 17592186043904) : Ct Try.prog 56 [SV.agg 1 (stG l), SV.agg 2 (hdCell p), SV.agg 2 (hdCell c), hdRow ah] (sv2 (SV.agg 1 (stG (insSt l p c ah).1)) (iv (insSt l p c ah).2)) := by
 refine CtO 124 Try.func56 rfl rfl rfl fun E => row_lenA 0 (V (s := 0) rfl) rfl rfl fun hl0_0 => Rl (V (s := 3) rfl) fun hl3 => Sq <| Rt <| BxA 1 (V rfl) rfl rfl <| BxA 2 (V rfl) rfl rfl <| BxA 3 (V rfl) rfl rfl <| Al 4 zero24 rfl rfl <| U (As K) <| Nt <| Sq <| Sq <| Rq <| O (Mv (V rfl)) <| O (Ln (V rfl) ts80) <| O (Gt (V rfl) K) <| Nq <| Cd (V rfl) (fun hc1 => ?_) (fun hc1 => ?_)
 ·have hc1s := hc1; try simp only [BL] at hc1s
  exact Sq <| Rt <| U (Bu [] id (cmpG [SV.v (Value.slice none 0 0)]) zero24 build24 (by exact Z) (by decide) ⟨Z, rfl⟩) <| StA (V rfl) rfl (V rfl) Sz24 <| U (As K) <| Nt <| Rx <| RR2 rfl (rv_aggI (g' := stG ([])) (rv_cell (V rfl) rfl Ga24 Sz24) ⟨Z, In⟩) (rv_tmp (V rfl)) rfl rfl (by show sv2 (SV.agg 1 (stG ([]))) (iv (3)) = sv2 (SV.agg 1 (stG (insSt l p c ah).1)) (iv (insSt l p c ah).2); rw [ins_1 (by omega)])
 ·have hc1s := hc1; try simp only [BL] at hc1s
  refine Sk <| Sq <| Sq <| c_rd (fun e => ⟨[(18, cj (e 0) (SV.agg 1 (fun zi => (stG l) (0 + zi)))), (19, cj (e 1) (SV.agg 2 (fun zi => (hdCell p) (0 + zi)))), (20, cj (e 2) (SV.agg 2 (fun zi => (hdCell c) (0 + zi)))), (21, cj (e 3) (cjn (e 5) (SV.own 5))), (22, cj (e 4) (hdRow ah)), (23, cj (e 5) (SV.own 6)), (24, cj (e 6) (iv (firstSt l (([⟨p.pl, p.use⟩, ⟨c.pl, c.use⟩]) ++ ah)))), (10, cj (e 7) (iv (firstSt l (([⟨p.pl, p.use⟩, ⟨c.pl, c.use⟩]) ++ ah)))), (3, hdRow ah), (4, SV.bp 1 0), (5, SV.bp 2 0), (6, SV.bp 3 0), (8, SV.bp 4 0)], (cb (e 3) (cb (e 5) [(1, Own.box 1 (stG l) 24), (2, Own.box 2 (hdCell p) 26), (3, Own.box 2 (hdCell c) 26), (4, Own.box 1 (cmpG [SV.v (Value.slice none 0 0)]) 24), (6, ownOf hdCell 2 default (([⟨p.pl, p.use⟩, ⟨c.pl, c.use⟩]) ++ ah) 26)] [(1, Own.box 1 (stG l) 24), (2, Own.box 2 (hdCell p) 26), (3, Own.box 2 (hdCell c) 26), (4, Own.box 1 (cmpG [SV.v (Value.slice none 0 0)]) 24), (5, ownOf hdCell 2 default ([⟨p.pl, p.use⟩, ⟨c.pl, c.use⟩]) 26)]) (cb (e 5) [] [(1, Own.box 1 (stG l) 24), (2, Own.box 2 (hdCell p) 26), (3, Own.box 2 (hdCell c) 26), (4, Own.box 1 (cmpG [SV.v (Value.slice none 0 0)]) 24)]))⟩) ⟨[(18, SV.agg 1 (fun zi => (stG l) (0 + zi))), (19, SV.agg 2 (fun zi => (hdCell p) (0 + zi))), (20, SV.agg 2 (fun zi => (hdCell c) (0 + zi))), (22, hdRow ah), (23, SV.own 6), (24, iv (firstSt l (([⟨p.pl, p.use⟩, ⟨c.pl, c.use⟩]) ++ ah))), (10, iv (firstSt l (([⟨p.pl, p.use⟩, ⟨c.pl, c.use⟩]) ++ ah))), (3, hdRow ah), (4, SV.bp 1 0), (5, SV.bp 2 0), (6, SV.bp 3 0), (8, SV.bp 4 0)], [(1, Own.box 1 (stG l) 24), (2, Own.box 2 (hdCell p) 26), (3, Own.box 2 (hdCell c) 26), (4, Own.box 1 (cmpG [SV.v (Value.slice none 0 0)]) 24), (6, ownOf hdCell 2 default (([⟨p.pl, p.use⟩, ⟨c.pl, c.use⟩]) ++ ah) 26)]⟩ (by kernel_rfl) (by kernel_rfl) ?_ ⟨?_, ?_, ?_, ?_, ?_, ?_, ?_, ?_, Z⟩ ?_ ?_
  ·show Weak _ _ ⟨[(18, SV.junk), (19, SV.junk), (20, SV.junk), (21, SV.junk), (22, SV.junk), (23, SV.junk), (24, SV.junk), (10, SV.junk), (3, hdRow ah), (4, SV.bp 1 0), (5, SV.bp 2 0), (6, SV.bp 3 0), (8, SV.bp 4 0)], [(1, Own.box 1 (stG l) 24), (2, Own.box 2 (hdCell p) 26), (3, Own.box 2 (hdCell c) 26), (4, Own.box 1 (cmpG [SV.v (Value.slice none 0 0)]) 24)]⟩
   refine We ?_ ?_
   ·exact ⟨Vj, Vj, Vj, Vj, Vj, Vj, Vj, Vj, V rfl, V rfl, V rfl, V rfl, V rfl, Z⟩
   ·exact ⟨⟨_, rfl, ⟨rfl, rfl, (An rfl)⟩⟩, ⟨_, rfl, ⟨rfl, rfl, (An rfl)⟩⟩, ⟨_, rfl, ⟨rfl, rfl, (An rfl)⟩⟩, ⟨_, rfl, ⟨rfl, rfl, (An rfl)⟩⟩, Z⟩
  ·intro e hdn he hdp
   cases hu3 : e 3
   ·have h5 : e 5 = false := fls hu3 fun q => by obtain ⟨r3, -, -⟩ := (show e 3 = true ∧ e 4 = true ∧ True from hdn 5 q); exact r3
    simp only [setE, he, hu3, h5, cj_t, cj_f, cjn_t, cjn_f, cb_t, cb_f]
    refine U (LBA (V rfl) rfl Ga24 Sz24 (by decide)) <| Nt <| We ?_ ?_
    ·exact ⟨V rfl, V rfl, V rfl, Vj, V rfl, Vj, V rfl, V rfl, V rfl, V rfl, V rfl, V rfl, V rfl, Z⟩
    ·exact ⟨⟨_, rfl, ⟨rfl, rfl, (An rfl)⟩⟩, ⟨_, rfl, ⟨rfl, rfl, (An rfl)⟩⟩, ⟨_, rfl, ⟨rfl, rfl, (An rfl)⟩⟩, ⟨_, rfl, ⟨rfl, rfl, (An rfl)⟩⟩, Z⟩
   ·cases hu5 : e 5
    ·simp only [setE, he, hu3, hu5, cj_t, cj_f, cjn_t, cjn_f, cb_t, cb_f]
     refine U (LBA (V rfl) rfl Ga24 Sz24 (by decide)) <| Nt <| We ?_ ?_
     ·exact ⟨V rfl, V rfl, V rfl, V rfl, V rfl, Vj, V rfl, V rfl, V rfl, V rfl, V rfl, V rfl, V rfl, Z⟩
     ·exact ⟨⟨_, rfl, ⟨rfl, rfl, (An rfl)⟩⟩, ⟨_, rfl, ⟨rfl, rfl, (An rfl)⟩⟩, ⟨_, rfl, ⟨rfl, rfl, (An rfl)⟩⟩, ⟨_, rfl, ⟨rfl, rfl, (An rfl)⟩⟩, ⟨_, rfl, rfl⟩, Z⟩
    ·simp only [setE, he, hu3, hu5, cj_t, cj_f, cjn_t, cjn_f, cb_t, cb_f]
     refine U (LBA (V rfl) rfl Ga24 Sz24 (by decide)) <| Nt <| We ?_ ?_
     ·exact ⟨V rfl, V rfl, V rfl, Vj, V rfl, V rfl, V rfl, V rfl, V rfl, V rfl, V rfl, V rfl, V rfl, Z⟩
     ·exact ⟨⟨_, rfl, ⟨rfl, rfl, (An rfl)⟩⟩, ⟨_, rfl, ⟨rfl, rfl, (An rfl)⟩⟩, ⟨_, rfl, ⟨rfl, rfl, (An rfl)⟩⟩, ⟨_, rfl, ⟨rfl, rfl, (An rfl)⟩⟩, ⟨_, rfl, rfl⟩, Z⟩
  ·intro e hdn he hdp
   have h3 : e 3 = false := fls he fun q => by obtain ⟨r1, -, -⟩ := (show e 1 = true ∧ e 2 = true ∧ True from hdn 3 q); exact r1
   have h5 : e 5 = false := fls he fun q => by obtain ⟨r3, -, -⟩ := (show e 3 = true ∧ e 4 = true ∧ True from hdn 5 q); obtain ⟨r1, -, -⟩ := (show e 1 = true ∧ e 2 = true ∧ True from hdn 3 r3); exact r1
   simp only [setE, he, h3, h5, cj_t, cj_f, cjn_t, cjn_f, cb_t, cb_f]
   refine U (LBA (V rfl) rfl Ga26 Sz26 (by decide)) <| Nt <| We ?_ ?_
   ·exact ⟨V rfl, V rfl, V rfl, Vj, V rfl, Vj, V rfl, V rfl, V rfl, V rfl, V rfl, V rfl, V rfl, Z⟩
   ·exact ⟨⟨_, rfl, ⟨rfl, rfl, (An rfl)⟩⟩, ⟨_, rfl, ⟨rfl, rfl, (An rfl)⟩⟩, ⟨_, rfl, ⟨rfl, rfl, (An rfl)⟩⟩, ⟨_, rfl, ⟨rfl, rfl, (An rfl)⟩⟩, Z⟩
  ·intro e hdn he hdp
   have h3 : e 3 = false := fls he fun q => by obtain ⟨-, r2, -⟩ := (show e 1 = true ∧ e 2 = true ∧ True from hdn 3 q); exact r2
   have h5 : e 5 = false := fls he fun q => by obtain ⟨r3, -, -⟩ := (show e 3 = true ∧ e 4 = true ∧ True from hdn 5 q); obtain ⟨-, r2, -⟩ := (show e 1 = true ∧ e 2 = true ∧ True from hdn 3 r3); exact r2
   simp only [setE, he, h3, h5, cj_t, cj_f, cjn_t, cjn_f, cb_t, cb_f]
   refine U (LBA (V rfl) rfl Ga26 Sz26 (by decide)) <| Nt <| We ?_ ?_
   ·exact ⟨V rfl, V rfl, V rfl, Vj, V rfl, Vj, V rfl, V rfl, V rfl, V rfl, V rfl, V rfl, V rfl, Z⟩
   ·exact ⟨⟨_, rfl, ⟨rfl, rfl, (An rfl)⟩⟩, ⟨_, rfl, ⟨rfl, rfl, (An rfl)⟩⟩, ⟨_, rfl, ⟨rfl, rfl, (An rfl)⟩⟩, ⟨_, rfl, ⟨rfl, rfl, (An rfl)⟩⟩, Z⟩
  ·intro e hdn he hdp
   obtain ⟨h1, h2, -⟩ := (show e 1 = true ∧ e 2 = true ∧ True from hdp)
   have h5 : e 5 = false := fls he fun q => by obtain ⟨r3, -, -⟩ := (show e 3 = true ∧ e 4 = true ∧ True from hdn 5 q); exact r3
   simp only [setE, h1, h2, he, h5, cj_t, cj_f, cjn_t, cjn_f, cb_t, cb_f]
   refine t_bsO 5 (n := 2) (zget := cmpG [iv (0), iv (0)]) [(fun zi => (hdCell p) (0 + zi)), (fun zi => (hdCell c) (0 + zi))] (rowG hdCell default [⟨p.pl, p.use⟩, ⟨c.pl, c.use⟩]) Un80 Sz26 zero26 (by decide) (by decide) rfl (by decide) ⟨⟨rfl, .inl (V rfl), rfl⟩, ⟨rfl, .inl (V rfl), rfl⟩, Z⟩ ⟨⟨Z, ⟨⟨Z, rfl⟩, rfl⟩⟩, ⟨⟨Z, rfl⟩, rfl⟩⟩ (fresh_mk ⟨(noId_cj rfl), rfl, rfl, rfl, (noId_cj rfl), rfl, (noId_cj rfl), (noId_cj rfl), rfl, rfl, rfl, rfl, rfl, Z⟩ rfl rfl) <| Nt <| We ?_ ?_
   ·exact ⟨V rfl, V rfl, V rfl, V rfl, V rfl, Vj, V rfl, V rfl, V rfl, V rfl, V rfl, V rfl, V rfl, Z⟩
   ·exact ⟨⟨_, rfl, ⟨rfl, rfl, (An rfl)⟩⟩, ⟨_, rfl, ⟨rfl, rfl, (An rfl)⟩⟩, ⟨_, rfl, ⟨rfl, rfl, (An rfl)⟩⟩, ⟨_, rfl, ⟨rfl, rfl, (An rfl)⟩⟩, ⟨_, rfl, rfl⟩, Z⟩
  ·intro e hdn he hdp
   have h5 : e 5 = false := fls he fun q => by obtain ⟨-, r4, -⟩ := (show e 3 = true ∧ e 4 = true ∧ True from hdn 5 q); exact r4
   simp only [setE, he, h5, cj_t, cj_f, cjn_t, cjn_f, cb_t, cb_f]
   exact U (Mv (V rfl)) <| Nt <| weakS ⟨V rfl, V rfl, V rfl, V rfl, V rfl, Vj, V rfl, V rfl, V rfl, V rfl, V rfl, V rfl, V rfl, Z⟩
  ·intro e hdn he hdp
   obtain ⟨h3, h4, -⟩ := (show e 3 = true ∧ e 4 = true ∧ True from hdp)
   obtain ⟨h1, h2, -⟩ := (show e 1 = true ∧ e 2 = true ∧ True from hdn 3 h3)
   simp only [setE, h1, h2, h3, h4, he, cj_t, cj_f, cjn_t, cjn_f, cb_t, cb_f]
   refine Ap 6 (rowG hdCell default (([⟨p.pl, p.use⟩, ⟨c.pl, c.use⟩]) ++ ah)) eo80 (V rfl) rfl (V rfl) (fresh_mk ⟨(noId_cj rfl), rfl, rfl, rfl, rfl, rfl, (noId_cj rfl), (noId_cj rfl), rfl, rfl, rfl, rfl, rfl, Z⟩ rfl rfl) (len_app ([⟨p.pl, p.use⟩, ⟨c.pl, c.use⟩]) ah) (by first | (simp only [maxLen, List.length_append, List.length_set, List.length_nil, List.length_cons]; omega) | (simp only [maxLen]; omega)) (by first | (simp only [List.length_append, List.length_set, List.length_nil, List.length_cons]; omega) | (omega)) (app_typed (l := ([⟨p.pl, p.use⟩, ⟨c.pl, c.use⟩])) (m := ah)) <| Nt <| We ?_ ?_
   ·exact ⟨val_kc rfl (V rfl), V rfl, V rfl, Vj, V rfl, V rfl, val_kc rfl (V rfl), val_kc rfl (V rfl), V rfl, V rfl, V rfl, V rfl, V rfl, Z⟩
   ·exact ⟨⟨_, rfl, ⟨rfl, rfl, (An rfl)⟩⟩, ⟨_, rfl, ⟨rfl, rfl, (An rfl)⟩⟩, ⟨_, rfl, ⟨rfl, rfl, (An rfl)⟩⟩, ⟨_, rfl, ⟨rfl, rfl, (An rfl)⟩⟩, ⟨_, rfl, rfl⟩, Z⟩
  ·intro e hdn he hdp
   obtain ⟨h0, h5, -, -⟩ := (show e 0 = true ∧ e 5 = true ∧ e 5 = true ∧ True from hdp)
   obtain ⟨h3, h4, -⟩ := (show e 3 = true ∧ e 4 = true ∧ True from hdn 5 h5)
   obtain ⟨h1, h2, -⟩ := (show e 1 = true ∧ e 2 = true ∧ True from hdn 3 h3)
   simp only [setE, h0, h1, h2, h3, h4, h5, he, cj_t, cj_f, cjn_t, cjn_f, cb_t, cb_f]
   refine CTb en125 (by exact ⟨(vb_ro (Vi (g' := stG l) (V rfl) ⟨Z, Ir⟩) rfl), (vb_own (V rfl) rfl), Z⟩) (both_ct l (([⟨p.pl, p.use⟩, ⟨c.pl, c.use⟩]) ++ ah) (by first | assumption | exact kb_nil | exact kb_of (by assumption))) <| Nt <| We ?_ ?_
   ·exact ⟨V rfl, V rfl, V rfl, Vj, V rfl, V rfl, V rfl, V rfl, V rfl, V rfl, V rfl, V rfl, V rfl, Z⟩
   ·exact ⟨⟨_, rfl, ⟨rfl, rfl, (An rfl)⟩⟩, ⟨_, rfl, ⟨rfl, rfl, (An rfl)⟩⟩, ⟨_, rfl, ⟨rfl, rfl, (An rfl)⟩⟩, ⟨_, rfl, ⟨rfl, rfl, (An rfl)⟩⟩, ⟨_, rfl, rfl⟩, Z⟩
  ·intro e hdn he hdp
   obtain ⟨h6, -, h0, h1, h2, h3, h4, h5, -, -⟩ := (show e 6 = true ∧ e 6 = true ∧ e 0 = true ∧ e 1 = true ∧ e 2 = true ∧ e 3 = true ∧ e 4 = true ∧ e 5 = true ∧ e 6 = true ∧ True from hdp)
   simp only [setE, h0, h1, h2, h3, h4, h5, h6, he, cj_t, cj_f, cjn_t, cjn_f, cb_t, cb_f]
   refine U (As (V rfl)) <| Nt <| We ?_ ?_
   ·exact ⟨V rfl, V rfl, V rfl, Vj, V rfl, V rfl, V rfl, V rfl, V rfl, V rfl, V rfl, V rfl, V rfl, Z⟩
   ·exact ⟨⟨_, rfl, ⟨rfl, rfl, (An rfl)⟩⟩, ⟨_, rfl, ⟨rfl, rfl, (An rfl)⟩⟩, ⟨_, rfl, ⟨rfl, rfl, (An rfl)⟩⟩, ⟨_, rfl, ⟨rfl, rfl, (An rfl)⟩⟩, ⟨_, rfl, rfl⟩, Z⟩
  ·intro e he
   have h0 := he 0 (by decide)
   have h1 := he 1 (by decide)
   have h2 := he 2 (by decide)
   have h3 := he 3 (by decide)
   have h4 := he 4 (by decide)
   have h5 := he 5 (by decide)
   have h6 := he 6 (by decide)
   have h7 := he 7 (by decide)
   show Weak _ ⟨[(18, cj (e 0) (SV.agg 1 (fun zi => (stG l) (0 + zi)))), (19, cj (e 1) (SV.agg 2 (fun zi => (hdCell p) (0 + zi)))), (20, cj (e 2) (SV.agg 2 (fun zi => (hdCell c) (0 + zi)))), (21, cj (e 3) (cjn (e 5) (SV.own 5))), (22, cj (e 4) (hdRow ah)), (23, cj (e 5) (SV.own 6)), (24, cj (e 6) (iv (firstSt l (([⟨p.pl, p.use⟩, ⟨c.pl, c.use⟩]) ++ ah)))), (10, cj (e 7) (iv (firstSt l (([⟨p.pl, p.use⟩, ⟨c.pl, c.use⟩]) ++ ah)))), (3, hdRow ah), (4, SV.bp 1 0), (5, SV.bp 2 0), (6, SV.bp 3 0), (8, SV.bp 4 0)], (cb (e 3) (cb (e 5) [(1, Own.box 1 (stG l) 24), (2, Own.box 2 (hdCell p) 26), (3, Own.box 2 (hdCell c) 26), (4, Own.box 1 (cmpG [SV.v (Value.slice none 0 0)]) 24), (6, ownOf hdCell 2 default (([⟨p.pl, p.use⟩, ⟨c.pl, c.use⟩]) ++ ah) 26)] [(1, Own.box 1 (stG l) 24), (2, Own.box 2 (hdCell p) 26), (3, Own.box 2 (hdCell c) 26), (4, Own.box 1 (cmpG [SV.v (Value.slice none 0 0)]) 24), (5, ownOf hdCell 2 default ([⟨p.pl, p.use⟩, ⟨c.pl, c.use⟩]) 26)]) (cb (e 5) [] [(1, Own.box 1 (stG l) 24), (2, Own.box 2 (hdCell p) 26), (3, Own.box 2 (hdCell c) 26), (4, Own.box 1 (cmpG [SV.v (Value.slice none 0 0)]) 24)]))⟩ _
   simp only [h0, h1, h2, h3, h4, h5, h6, h7]
   show Weak _ ⟨[(18, SV.agg 1 (fun zi => (stG l) (0 + zi))), (19, SV.agg 2 (fun zi => (hdCell p) (0 + zi))), (20, SV.agg 2 (fun zi => (hdCell c) (0 + zi))), (21, SV.junk), (22, hdRow ah), (23, SV.own 6), (24, iv (firstSt l (([⟨p.pl, p.use⟩, ⟨c.pl, c.use⟩]) ++ ah))), (10, iv (firstSt l (([⟨p.pl, p.use⟩, ⟨c.pl, c.use⟩]) ++ ah))), (3, hdRow ah), (4, SV.bp 1 0), (5, SV.bp 2 0), (6, SV.bp 3 0), (8, SV.bp 4 0)], [(1, Own.box 1 (stG l) 24), (2, Own.box 2 (hdCell p) 26), (3, Own.box 2 (hdCell c) 26), (4, Own.box 1 (cmpG [SV.v (Value.slice none 0 0)]) 24), (6, ownOf hdCell 2 default (([⟨p.pl, p.use⟩, ⟨c.pl, c.use⟩]) ++ ah) 26)]⟩ _
   refine We ?_ ?_
   ·exact ⟨Va (V rfl) (An rfl), Va (V rfl) (An rfl), Va (V rfl) (An rfl), V rfl, V rfl, V rfl, V rfl, V rfl, V rfl, V rfl, V rfl, V rfl, Z⟩
   ·exact ⟨⟨_, rfl, ⟨rfl, rfl, (An rfl)⟩⟩, ⟨_, rfl, ⟨rfl, rfl, (An rfl)⟩⟩, ⟨_, rfl, ⟨rfl, rfl, (An rfl)⟩⟩, ⟨_, rfl, ⟨rfl, rfl, (An rfl)⟩⟩, ⟨_, rfl, rfl⟩, Z⟩
  refine Sq <| Rq <| O (Mv (V rfl)) <| O (Qn (V rfl) K) <| Nq <| Cd (V rfl) (fun hc2 => ?_) (fun hc2 => ?_)
  ·have hc2s := hc2; try simp only [BL] at hc2s
   exact Sq <| Rt <| U (Bu [] id (cmpG [SV.v (Value.slice none 0 0)]) zero24 build24 (by exact Z) (by decide) ⟨Z, rfl⟩) <| U (Mv (V rfl)) <| StA (V rfl) rfl (V rfl) Sz24 <| U (As (V rfl)) <| Nt <| Rx <| RR2 rfl (rv_aggI (g' := stG ([])) (rv_cell (V rfl) rfl Ga24 Sz24) ⟨Z, In⟩) (rv_tmp (V rfl)) rfl rfl (by show sv2 (SV.agg 1 (stG ([]))) (iv (firstSt l (([⟨p.pl, p.use⟩, ⟨c.pl, c.use⟩]) ++ ah))) = sv2 (SV.agg 1 (stG (insSt l p c ah).1)) (iv (insSt l p c ah).2); rw [ins_2 (by omega) hc2s])
  ·have hc2s := hc2; try simp only [BL] at hc2s
   have KK := insOk_of (p := p) (c := c) hc2s
   have Kp := KK.pr
   have Kc := KK.cr
   have Ka := KK.ar
   have h24 := checkSt_len KK.ok
   have hc0 := KK.ok
   have hkf : ∀ i, i < l.length → (l.getD i default).kids.length ≤ 24 := fun i hi => kids_few KK.ok hi
   refine Sk <| Sq <| Rqd (by kernel_rfl) (by kernel_rfl) <| O (FlB _ _ (V rfl) Un26 rfl 0 Sz3) <| O (LdB (V rfl) rfl Ga3 (by decide)) <| O (FlB _ _ (V rfl) Un26 rfl 0 Sz3) <| O (LdB (V rfl) rfl Ga3 (by decide)) <| O (As (V rfl)) <| O (As (V rfl)) <| Nq <| Sq <| Sq <| Rq <| O (FlB _ _ (V rfl) Un24 rfl 0 Sz22) <| O (LdB (V rfl) rfl Ga22 (by decide)) <| O (Mv (V rfl)) <| O (Ix (V rfl) (V rfl) ts22 te22 (by omega) (by first | omega | (simp only [List.length_set]; omega))) <| O (Fl _ _ (V rfl) Un61 rfl 0 Sz3) <| O (Ld (V rfl) Ga3 (by decide)) <| O (Ge (V rfl) K) <| O (Mv (V rfl)) <| Og (Gn rfl rfl) (fun hg => LBA (V rfl) rfl Ga24 Sz24 (by decide)) <| Og (Gn rfl rfl) (fun hg => Mv (V rfl)) <| Og (Gn rfl rfl) (fun hg => Mv (V rfl)) <| CQg (Gn rfl rfl) en126 (fun hg => (by exact ⟨⟨(Vi (g' := stG l) (Vg (V rfl) hg) ⟨Z, Ir⟩), rfl⟩, ⟨(Vg (V rfl) hg), rfl⟩, ⟨(Vg (V rfl) hg), rfl⟩, Z⟩)) (fun hg => under_ct l p.pl c.pl (by assumption) (by first | assumption | omega)) <| O (Qr (V rfl) (fun h => Vg (V rfl) (notT h))) <| Nq <| Cd (V rfl) (fun hc3 => ?_) (fun hc3 => ?_)
   ·have hc3s := hc3; try simp only [BL] at hc3s
    exact Sq <| Rt <| U (Bu [] id (cmpG [SV.v (Value.slice none 0 0)]) zero24 build24 (by exact Z) (by decide) ⟨Z, rfl⟩) <| StA (V rfl) rfl (V rfl) Sz24 <| U (As K) <| Nt <| Rx <| RR2 rfl (rv_aggI (g' := stG ([])) (rv_cell (V rfl) rfl Ga24 Sz24) ⟨Z, In⟩) (rv_tmp (V rfl)) rfl rfl (by show sv2 (SV.agg 1 (stG ([]))) (iv (6)) = sv2 (SV.agg 1 (stG (insSt l p c ah).1)) (iv (insSt l p c ah).2); rw [ins_3 (by omega) hc2s hc3])
   ·have hc3s := hc3; try simp only [BL] at hc3s
    have hq3 : insBad l p c = false := hc3
    have hbf := bad_f hq3
    refine Sk <| Sq <| Sq <| Rqd (by kernel_rfl) (by kernel_rfl) <| O (Mv (V rfl)) <| O (Ln (V rfl) ts80) <| O (Gt (V rfl) K) <| O (Mv (V rfl)) <| Og (Gy rfl rfl) (fun hg => FlB _ _ (V rfl) Un24 rfl 0 Sz22) <| Og (Gy rfl rfl) (fun hg => LdB (Vg (V rfl) hg) rfl Ga22 (by decide)) <| Og (Gy rfl rfl) (fun hg => Mv (V rfl)) <| Og (Gy rfl rfl) (fun hg => Ix (Vg (V rfl) hg) K ts80 te80 (by omega) (by have hq := hg; simp only [BL] at hq; omega)) <| Og (Gy rfl rfl) (fun hg => Fl _ _ (Vg (V rfl) hg) Un26 rfl 0 Sz3) <| Og (Gy rfl rfl) (fun hg => Ld (Vg (V rfl) hg) Ga3 (by decide)) <| Og (Gy rfl rfl) (fun hg => Ix (Vg (V rfl) hg) (Vg (V rfl) hg) ts22 te22 (by have hq := hg; simp only [BL] at hq; have hka : 0 ≤ (ah.getD (Int.toNat 0) default).pl ∧ (ah.getD (Int.toNat 0) default).pl < (l.length : Int) := Ka (by omega); omega) (by have hq := hg; simp only [BL] at hq; have hka : 0 ≤ (ah.getD (Int.toNat 0) default).pl ∧ (ah.getD (Int.toNat 0) default).pl < (l.length : Int) := Ka (by omega); omega)) <| Og (Gy rfl rfl) (fun hg => Fl _ _ (Vg (V rfl) hg) Un61 rfl 0 Sz3) <| Og (Gy rfl rfl) (fun hg => Ld (Vg (V rfl) hg) Ga3 (by decide)) <| Og (Gy rfl rfl) (fun hg => Mv (V rfl)) <| Og (Gy rfl rfl) (fun hg => Qn (Vg (V rfl) hg) (Vg (V rfl) hg)) <| O (Qa (V rfl) (fun h => Vg (V rfl) h)) <| Nq <| Cd (V rfl) (fun hc4 => ?_) (fun hc4 => ?_)
    ·have hc4s := hc4; try simp only [BL] at hc4s
     exact Sq <| Rt <| U (Bu [] id (cmpG [SV.v (Value.slice none 0 0)]) zero24 build24 (by exact Z) (by decide) ⟨Z, rfl⟩) <| StA (V rfl) rfl (V rfl) Sz24 <| U (As K) <| Nt <| Rx <| RR2 rfl (rv_aggI (g' := stG ([])) (rv_cell (V rfl) rfl Ga24 Sz24) ⟨Z, In⟩) (rv_tmp (V rfl)) rfl rfl (by show sv2 (SV.agg 1 (stG ([]))) (iv (6)) = sv2 (SV.agg 1 (stG (insSt l p c ah).1)) (iv (insSt l p c ah).2); rw [ins_4 (by omega) hc2s hq3 ⟨by omega, hc4s.2⟩])
    ·have hc4s := hc4; try simp only [BL] at hc4s
     have hq4 : ¬ (0 < ah.length ∧ (l.getD (hd0 ah).pl.toNat default).par ≠ p.pl) := fun q => by rw [show hd0 ah = ah.getD 0 default from rfl] at q; rcases hc4s with e | e; exact e (by omega); exact q.2 e
     refine Sk <| Sq <| Sq <| Rq <| O (Mv (V rfl)) <| O (Ln (V rfl) ts80) <| O (Gt (V rfl) K) <| O (Mv (V rfl)) <| Og (Gy rfl rfl) (fun hg => Mv (V rfl)) <| Og (Gy rfl rfl) (fun hg => Ix (Vg (V rfl) hg) K ts80 te80 (by omega) (by have hq := hg; simp only [BL] at hq; omega)) <| Og (Gy rfl rfl) (fun hg => Fl _ _ (Vg (V rfl) hg) Un26 rfl 0 Sz3) <| Og (Gy rfl rfl) (fun hg => Ld (Vg (V rfl) hg) Ga3 (by decide)) <| Og (Gy rfl rfl) (fun hg => Mv (V rfl)) <| Og (Gy rfl rfl) (fun hg => Ql (Vg (V rfl) hg) (Vg (V rfl) hg)) <| O (Qa (V rfl) (fun h => Vg (V rfl) h)) <| Nq <| Cd (V rfl) (fun hc5 => ?_) (fun hc5 => ?_)
     ·have hc5s := hc5; try simp only [BL] at hc5s
      exact Sq <| Rt <| U (LBA (V rfl) rfl Ga24 Sz24 (by decide)) <| CM (cargs := [SV.agg 1 (stG l)]) [] [(0, 7)] en115 (mv0 (by exact ⟨⟨(Vi (g' := stG l) (V rfl) ⟨Z, Ir⟩), rfl⟩, Z⟩)) (copyU_ct l (by omega) (by assumption)) (by exact Z) rfl rfl rfl rfl <| StA (V rfl) rfl (V rfl) Sz24 <| U (As K) <| Nt <| Tc (turn_uAT 7 rfl rfl (fun _ => rfl)) <| FzC 7 rfl <| Rx <| RR2 rfl (rv_aggI (g' := stG l) (rv_cell (V rfl) rfl Ga24 Sz24) ⟨Z, Ir⟩) (rv_tmp (V rfl)) rfl rfl (by show sv2 (SV.agg 1 (stG l)) (iv (0)) = sv2 (SV.agg 1 (stG (insSt l p c ah).1)) (iv (insSt l p c ah).2); rw [ins_5 (by omega) hc2s hq3 hq4 ⟨by omega, hc5s.2⟩])
     ·have hc5s := hc5; try simp only [BL] at hc5s
      have hq5 : ¬ (0 < ah.length ∧ (hd0 ah).pl = c.pl) := fun q => by rcases hc5s with e | e; exact e (by omega); exact e q.2
      have hol := out_len l c.pl
      have hko := kids_few (out_ok KK) (i := Int.toNat p.pl) (by omega)
      refine Sk <| Sq <| Rt <| U (LBA (V rfl) rfl Ga24 Sz24 (by decide)) <| CM (cargs := [SV.agg 1 (stG l)]) [] [(0, 8)] en115 (mv0 (by exact ⟨⟨(Vi (g' := stG l) (V rfl) ⟨Z, Ir⟩), rfl⟩, Z⟩)) (copyU_ct l (by omega) (by assumption)) (by exact Z) rfl rfl rfl rfl <| StA (V rfl) rfl (V rfl) Sz24 <| Nt <| Sq <| Rt <| U (Mv (V rfl)) <| CM (cargs := [SV.bp 1000 0, iv (c.pl)]) [(1000, 1), (1001, 8)] [(0, 9)] en127 (by exact ⟨(V rfl), (V rfl), Z⟩) (out_ct l c.pl (by assumption) (by assumption)) (by exact ⟨⟨_, rfl, ⟨rfl, rfl, (An rfl)⟩⟩, ⟨_, rfl, rfl⟩, Z⟩) rfl rfl rfl rfl <| Nt <| Sq <| Tc (turn_splitT 9 (Int.toNat p.pl) 10 rfl (by omega) rfl rfl) <| Rq <| O (FlB _ _ (V rfl) Un24 rfl 0 Sz22) <| O (LdB (V rfl) rfl Ga22 (by decide)) <| O (Mv (V rfl)) <| O (q_idxU (V rfl) rfl (V rfl) ts22 te22 (by omega) (by first | omega | (simp only [List.length_set]; omega))) <| O (FlO _ _ (V rfl) Un61 rfl 0 Sz33) <| O (LdU (V rfl) rfl Ga33 (by decide) uat_hole) <| O (LnO (V rfl) rfl ts33) <| O (As (V rfl)) <| Nq <| Sq <| Sq <| Rq <| O (Mv (V rfl)) <| O (Ln (V rfl) ts80) <| O (Gt (V rfl) K) <| Nq <| Cd (V rfl) (fun hc6 => ?_) (fun hc6 => ?_)
      ·have hc6s := hc6; try simp only [BL] at hc6s
       have hah : 0 < ah.length := by omega
       have hpos := pos_le KK hq4 hq5 hah
       have hposA : 0 ≤ idxI ((outSt l c.pl).getD (Int.toNat p.pl) default).kids (ah.getD 0 default).pl ∧ idxI ((outSt l c.pl).getD (Int.toNat p.pl) default).kids (ah.getD 0 default).pl < (((outSt l c.pl).getD (Int.toNat p.pl) default).kids.length : Int) := hpos
       have hpos : 0 ≤ idxI ((outSt l c.pl).getD (Int.toNat p.pl) default).kids (ah.getD (Int.toNat 0) default).pl ∧ idxI ((outSt l c.pl).getD (Int.toNat p.pl) default).kids (ah.getD (Int.toNat 0) default).pl < (((outSt l c.pl).getD (Int.toNat p.pl) default).kids.length : Int) := hpos
       refine Rqd (by kernel_rfl) (by kernel_rfl) <| O (FlB _ _ (V rfl) Un24 rfl 0 Sz22) <| O (LdB (V rfl) rfl Ga22 (by decide)) <| O (Mv (V rfl)) <| O (q_idxU (V rfl) rfl (V rfl) ts22 te22 (by omega) (by first | omega | (simp only [List.length_set]; omega))) <| O (FlO _ _ (V rfl) Un61 rfl 0 Sz33) <| O (LdU (V rfl) rfl Ga33 (by decide) uat_hole) <| O (Mv (V rfl)) <| O (Ix (V rfl) K ts80 te80 (by omega) (by first | omega | (simp only [List.length_set]; omega))) <| O (Fl _ _ (V rfl) Un26 rfl 0 Sz3) <| O (Ld (V rfl) Ga3 (by decide)) <| CQb en62 (by exact ⟨(vb_own (V rfl) rfl), (vb_ro (V rfl) rfl), Z⟩) (index_ct (Nd.kids ((outSt l c.pl).getD (Int.toNat p.pl) default)) ((ah.getD 0 default).pl)) <| O (As (V rfl)) <| Nq <| Sq <| c_rd (fun e => ⟨[(102, cj (e 0) (SV.bp 1 0)), (103, cj (e 1) (SV.own 9)), (104, cj (e 2) (iv (p.pl))), (105, cj (e 3) (SV.bp 1 0)), (106, cj (e 4) (SV.own 9)), (107, cj (e 5) (iv (p.pl))), (108, cj (e 6) (SV.oe 9 8 (Int.toNat p.pl) 0)), (109, cj (e 7) (SV.oe 9 8 (Int.toNat p.pl) 5)), (110, cj (e 8) (SV.own 10)), (111, cj (e 9) (iv (idxI (Nd.kids ((outSt l c.pl).getD (Int.toNat p.pl) default)) ((ah.getD 0 default).pl)))), (112, cj (e 10) (iv (c.pl))), (113, cj (e 11) (inRow ([c.pl]))), (114, cj (e 12) (SV.own 11)), (115, cj (e 13) (SV.oe 9 8 (Int.toNat p.pl) 0)), (116, cj (e 14) (SV.oe 9 8 (Int.toNat p.pl) 5)), (4, SV.bp 1 0), (8, SV.bp 4 0), (11, iv (p.pl)), (12, iv (c.pl)), (13, iv (idxI (Nd.kids ((outSt l c.pl).getD (Int.toNat p.pl) default)) ((ah.getD 0 default).pl)))], (cb (e 12) (cb (e 15) [(1, Own.box 1 (fun zt => SV.renm (rn [(1000, 1), (1001, 8), (0, 9)]) ((cmpG [SV.own 0]) zt)) 24), (4, Own.box 1 (cmpG [SV.v (Value.slice none 0 0)]) 24), (9, urowOf ndCell 8 default (outSt l c.pl) 61 5 Nd.kids inCell 1 0 3 l.length (some (Int.toNat p.pl, SV.own 11))), (11, ownOf inCell 1 0 ((Nd.kids ((outSt l c.pl).getD (Int.toNat p.pl) default)).take (Int.toNat (idxI (Nd.kids ((outSt l c.pl).getD (Int.toNat p.pl) default)) ((ah.getD 0 default).pl))) ++ ([c.pl]) ++ (Nd.kids ((outSt l c.pl).getD (Int.toNat p.pl) default)).drop (Int.toNat (idxI (Nd.kids ((outSt l c.pl).getD (Int.toNat p.pl) default)) ((ah.getD 0 default).pl)))) 3)] [(1, Own.box 1 (fun zt => SV.renm (rn [(1000, 1), (1001, 8), (0, 9)]) ((cmpG [SV.own 0]) zt)) 24), (4, Own.box 1 (cmpG [SV.v (Value.slice none 0 0)]) 24), (9, urowOf ndCell 8 default (outSt l c.pl) 61 5 Nd.kids inCell 1 0 3 l.length (some (Int.toNat p.pl, SV.own 10))), (11, ownOf inCell 1 0 ((Nd.kids ((outSt l c.pl).getD (Int.toNat p.pl) default)).take (Int.toNat (idxI (Nd.kids ((outSt l c.pl).getD (Int.toNat p.pl) default)) ((ah.getD 0 default).pl))) ++ ([c.pl]) ++ (Nd.kids ((outSt l c.pl).getD (Int.toNat p.pl) default)).drop (Int.toNat (idxI (Nd.kids ((outSt l c.pl).getD (Int.toNat p.pl) default)) ((ah.getD 0 default).pl)))) 3)]) (cb (e 15) [] [(1, Own.box 1 (fun zt => SV.renm (rn [(1000, 1), (1001, 8), (0, 9)]) ((cmpG [SV.own 0]) zt)) 24), (4, Own.box 1 (cmpG [SV.v (Value.slice none 0 0)]) 24), (9, urowOf ndCell 8 default (outSt l c.pl) 61 5 Nd.kids inCell 1 0 3 l.length (some (Int.toNat p.pl, SV.own 10))), (10, ownOf inCell 1 0 (Nd.kids ((outSt l c.pl).getD (Int.toNat p.pl) default)) 3)]))⟩) ⟨[(102, SV.bp 1 0), (103, SV.own 9), (104, iv (p.pl)), (105, SV.bp 1 0), (106, SV.own 9), (107, iv (p.pl)), (108, SV.oe 9 8 (Int.toNat p.pl) 0), (109, SV.oe 9 8 (Int.toNat p.pl) 5), (110, SV.own 10), (111, iv (idxI (Nd.kids ((outSt l c.pl).getD (Int.toNat p.pl) default)) ((ah.getD 0 default).pl))), (112, iv (c.pl)), (113, inRow ([c.pl])), (114, SV.own 11), (115, SV.oe 9 8 (Int.toNat p.pl) 0), (116, SV.oe 9 8 (Int.toNat p.pl) 5), (4, SV.bp 1 0), (8, SV.bp 4 0), (11, iv (p.pl)), (12, iv (c.pl)), (13, iv (idxI (Nd.kids ((outSt l c.pl).getD (Int.toNat p.pl) default)) ((ah.getD 0 default).pl)))], [(1, Own.box 1 (fun zt => SV.renm (rn [(1000, 1), (1001, 8), (0, 9)]) ((cmpG [SV.own 0]) zt)) 24), (4, Own.box 1 (cmpG [SV.v (Value.slice none 0 0)]) 24), (9, urowOf ndCell 8 default (outSt l c.pl) 61 5 Nd.kids inCell 1 0 3 l.length (some (Int.toNat p.pl, SV.own 11))), (11, ownOf inCell 1 0 ((Nd.kids ((outSt l c.pl).getD (Int.toNat p.pl) default)).take (Int.toNat (idxI (Nd.kids ((outSt l c.pl).getD (Int.toNat p.pl) default)) ((ah.getD 0 default).pl))) ++ ([c.pl]) ++ (Nd.kids ((outSt l c.pl).getD (Int.toNat p.pl) default)).drop (Int.toNat (idxI (Nd.kids ((outSt l c.pl).getD (Int.toNat p.pl) default)) ((ah.getD 0 default).pl)))) 3)]⟩ (by kernel_rfl) (by kernel_rfl) ?_ ⟨?_, ?_, ?_, ?_, ?_, ?_, ?_, ?_, ?_, ?_, ?_, ?_, ?_, ?_, ?_, ?_, Z⟩ ?_ ?_
       ·show Weak _ _ ⟨[(102, SV.junk), (103, SV.junk), (104, SV.junk), (105, SV.junk), (106, SV.junk), (107, SV.junk), (108, SV.junk), (109, SV.junk), (110, SV.junk), (111, SV.junk), (112, SV.junk), (113, SV.junk), (114, SV.junk), (115, SV.junk), (116, SV.junk), (4, SV.bp 1 0), (8, SV.bp 4 0), (11, iv (p.pl)), (12, iv (c.pl)), (13, iv (idxI (Nd.kids ((outSt l c.pl).getD (Int.toNat p.pl) default)) ((ah.getD 0 default).pl)))], [(1, Own.box 1 (fun zt => SV.renm (rn [(1000, 1), (1001, 8), (0, 9)]) ((cmpG [SV.own 0]) zt)) 24), (4, Own.box 1 (cmpG [SV.v (Value.slice none 0 0)]) 24), (9, urowOf ndCell 8 default (outSt l c.pl) 61 5 Nd.kids inCell 1 0 3 l.length (some (Int.toNat p.pl, SV.own 10))), (10, ownOf inCell 1 0 (Nd.kids ((outSt l c.pl).getD (Int.toNat p.pl) default)) 3)]⟩
        refine We ?_ ?_
        ·exact ⟨Vj, Vj, Vj, Vj, Vj, Vj, Vj, Vj, Vj, Vj, Vj, Vj, Vj, Vj, Vj, V rfl, V rfl, V rfl, V rfl, V rfl, Z⟩
        ·exact ⟨⟨_, rfl, ⟨rfl, rfl, (An rfl)⟩⟩, ⟨_, rfl, ⟨rfl, rfl, (An rfl)⟩⟩, ⟨_, rfl, rfl⟩, ⟨_, rfl, rfl⟩, Z⟩
       ·intro e hdn he hdp
        have h15 : e 15 = false := fls he fun q => by obtain ⟨r14, -, -, -, -, -, -, -, -, -, -, -, -, -, -, -, -⟩ := (show e 14 = true ∧ e 12 = true ∧ e 12 = true ∧ e 0 = true ∧ e 1 = true ∧ e 2 = true ∧ e 3 = true ∧ e 4 = true ∧ e 5 = true ∧ e 6 = true ∧ e 7 = true ∧ e 8 = true ∧ e 9 = true ∧ e 10 = true ∧ e 11 = true ∧ e 12 = true ∧ True from hdn 15 q); obtain ⟨r13, -, -, -, -, -, -, -, -, -, -, -, -, -, -⟩ := (show e 13 = true ∧ e 0 = true ∧ e 1 = true ∧ e 2 = true ∧ e 3 = true ∧ e 4 = true ∧ e 5 = true ∧ e 6 = true ∧ e 7 = true ∧ e 8 = true ∧ e 9 = true ∧ e 10 = true ∧ e 11 = true ∧ e 12 = true ∧ True from hdn 14 r14); obtain ⟨r1, -, -, -, -, -, -, -, -, -, -, -, -, -, -, -⟩ := (show e 1 = true ∧ e 2 = true ∧ e 0 = true ∧ e 1 = true ∧ e 2 = true ∧ e 3 = true ∧ e 4 = true ∧ e 5 = true ∧ e 6 = true ∧ e 7 = true ∧ e 8 = true ∧ e 9 = true ∧ e 10 = true ∧ e 11 = true ∧ e 12 = true ∧ True from hdn 13 r13); obtain ⟨r0, -⟩ := (show e 0 = true ∧ True from hdn 1 r1); exact r0
        simp only [setE, he, h15, cj_t, cj_f, cjn_t, cjn_f, cb_t, cb_f]
        exact U (FlB _ _ (V rfl) Un24 rfl 0 Sz22) <| Nt <| weakS ⟨V rfl, V rfl, V rfl, V rfl, V rfl, V rfl, V rfl, V rfl, V rfl, V rfl, V rfl, V rfl, V rfl, V rfl, V rfl, V rfl, V rfl, V rfl, V rfl, V rfl, Z⟩
       ·intro e hdn he hdp
        obtain ⟨h0, -⟩ := (show e 0 = true ∧ True from hdp)
        have h15 : e 15 = false := fls he fun q => by obtain ⟨r14, -, -, -, -, -, -, -, -, -, -, -, -, -, -, -, -⟩ := (show e 14 = true ∧ e 12 = true ∧ e 12 = true ∧ e 0 = true ∧ e 1 = true ∧ e 2 = true ∧ e 3 = true ∧ e 4 = true ∧ e 5 = true ∧ e 6 = true ∧ e 7 = true ∧ e 8 = true ∧ e 9 = true ∧ e 10 = true ∧ e 11 = true ∧ e 12 = true ∧ True from hdn 15 q); obtain ⟨r13, -, -, -, -, -, -, -, -, -, -, -, -, -, -⟩ := (show e 13 = true ∧ e 0 = true ∧ e 1 = true ∧ e 2 = true ∧ e 3 = true ∧ e 4 = true ∧ e 5 = true ∧ e 6 = true ∧ e 7 = true ∧ e 8 = true ∧ e 9 = true ∧ e 10 = true ∧ e 11 = true ∧ e 12 = true ∧ True from hdn 14 r14); obtain ⟨r1, -, -, -, -, -, -, -, -, -, -, -, -, -, -, -⟩ := (show e 1 = true ∧ e 2 = true ∧ e 0 = true ∧ e 1 = true ∧ e 2 = true ∧ e 3 = true ∧ e 4 = true ∧ e 5 = true ∧ e 6 = true ∧ e 7 = true ∧ e 8 = true ∧ e 9 = true ∧ e 10 = true ∧ e 11 = true ∧ e 12 = true ∧ True from hdn 13 r13); exact r1
        cases hu12 : e 12
        ·simp only [setE, h0, he, h15, hu12, cj_t, cj_f, cjn_t, cjn_f, cb_t, cb_f]
         refine U (LdB (V rfl) rfl Ga22 (by decide)) <| Nt <| We ?_ ?_
         ·exact ⟨V rfl, V rfl, V rfl, V rfl, V rfl, V rfl, V rfl, V rfl, V rfl, V rfl, V rfl, V rfl, Vj, V rfl, V rfl, V rfl, V rfl, V rfl, V rfl, V rfl, Z⟩
         ·exact ⟨⟨_, rfl, ⟨rfl, rfl, (An rfl)⟩⟩, ⟨_, rfl, ⟨rfl, rfl, (An rfl)⟩⟩, ⟨_, rfl, rfl⟩, ⟨_, rfl, rfl⟩, Z⟩
        ·simp only [setE, h0, he, h15, hu12, cj_t, cj_f, cjn_t, cjn_f, cb_t, cb_f]
         refine U (LdB (V rfl) rfl Ga22 (by decide)) <| Nt <| We ?_ ?_
         ·exact ⟨V rfl, V rfl, V rfl, V rfl, V rfl, V rfl, V rfl, V rfl, V rfl, V rfl, V rfl, V rfl, V rfl, V rfl, V rfl, V rfl, V rfl, V rfl, V rfl, V rfl, Z⟩
         ·exact ⟨⟨_, rfl, ⟨rfl, rfl, (An rfl)⟩⟩, ⟨_, rfl, ⟨rfl, rfl, (An rfl)⟩⟩, ⟨_, rfl, rfl⟩, ⟨_, rfl, rfl⟩, Z⟩
       ·intro e hdn he hdp
        have h15 : e 15 = false := fls he fun q => by obtain ⟨r14, -, -, -, -, -, -, -, -, -, -, -, -, -, -, -, -⟩ := (show e 14 = true ∧ e 12 = true ∧ e 12 = true ∧ e 0 = true ∧ e 1 = true ∧ e 2 = true ∧ e 3 = true ∧ e 4 = true ∧ e 5 = true ∧ e 6 = true ∧ e 7 = true ∧ e 8 = true ∧ e 9 = true ∧ e 10 = true ∧ e 11 = true ∧ e 12 = true ∧ True from hdn 15 q); obtain ⟨r13, -, -, -, -, -, -, -, -, -, -, -, -, -, -⟩ := (show e 13 = true ∧ e 0 = true ∧ e 1 = true ∧ e 2 = true ∧ e 3 = true ∧ e 4 = true ∧ e 5 = true ∧ e 6 = true ∧ e 7 = true ∧ e 8 = true ∧ e 9 = true ∧ e 10 = true ∧ e 11 = true ∧ e 12 = true ∧ True from hdn 14 r14); obtain ⟨-, r2, -, -, -, -, -, -, -, -, -, -, -, -, -, -⟩ := (show e 1 = true ∧ e 2 = true ∧ e 0 = true ∧ e 1 = true ∧ e 2 = true ∧ e 3 = true ∧ e 4 = true ∧ e 5 = true ∧ e 6 = true ∧ e 7 = true ∧ e 8 = true ∧ e 9 = true ∧ e 10 = true ∧ e 11 = true ∧ e 12 = true ∧ True from hdn 13 r13); exact r2
        simp only [setE, he, h15, cj_t, cj_f, cjn_t, cjn_f, cb_t, cb_f]
        exact U (Mv (V rfl)) <| Nt <| weakS ⟨V rfl, V rfl, V rfl, V rfl, V rfl, V rfl, V rfl, V rfl, V rfl, V rfl, V rfl, V rfl, V rfl, V rfl, V rfl, V rfl, V rfl, V rfl, V rfl, V rfl, Z⟩
       ·intro e hdn he hdp
        have h12 : e 12 = false := fls he fun q => by obtain ⟨r8, -, -, -⟩ := (show e 8 = true ∧ e 9 = true ∧ e 11 = true ∧ True from hdn 12 q); obtain ⟨r7, -⟩ := (show e 7 = true ∧ True from hdn 8 r8); obtain ⟨r6, -⟩ := (show e 6 = true ∧ True from hdn 7 r7); obtain ⟨r4, -, -⟩ := (show e 4 = true ∧ e 5 = true ∧ True from hdn 6 r6); obtain ⟨r3, -⟩ := (show e 3 = true ∧ True from hdn 4 r4); exact r3
        have h15 : e 15 = false := fls he fun q => by obtain ⟨r14, -, -, -, -, -, -, -, -, -, -, -, -, -, -, -, -⟩ := (show e 14 = true ∧ e 12 = true ∧ e 12 = true ∧ e 0 = true ∧ e 1 = true ∧ e 2 = true ∧ e 3 = true ∧ e 4 = true ∧ e 5 = true ∧ e 6 = true ∧ e 7 = true ∧ e 8 = true ∧ e 9 = true ∧ e 10 = true ∧ e 11 = true ∧ e 12 = true ∧ True from hdn 15 q); obtain ⟨r13, -, -, -, -, -, -, -, -, -, -, -, -, -, -⟩ := (show e 13 = true ∧ e 0 = true ∧ e 1 = true ∧ e 2 = true ∧ e 3 = true ∧ e 4 = true ∧ e 5 = true ∧ e 6 = true ∧ e 7 = true ∧ e 8 = true ∧ e 9 = true ∧ e 10 = true ∧ e 11 = true ∧ e 12 = true ∧ True from hdn 14 r14); obtain ⟨-, -, -, -, -, -, -, -, -, -, -, -, -, -, r12, -⟩ := (show e 1 = true ∧ e 2 = true ∧ e 0 = true ∧ e 1 = true ∧ e 2 = true ∧ e 3 = true ∧ e 4 = true ∧ e 5 = true ∧ e 6 = true ∧ e 7 = true ∧ e 8 = true ∧ e 9 = true ∧ e 10 = true ∧ e 11 = true ∧ e 12 = true ∧ True from hdn 13 r13); obtain ⟨r8, -, -, -⟩ := (show e 8 = true ∧ e 9 = true ∧ e 11 = true ∧ True from hdn 12 r12); obtain ⟨r7, -⟩ := (show e 7 = true ∧ True from hdn 8 r8); obtain ⟨r6, -⟩ := (show e 6 = true ∧ True from hdn 7 r7); obtain ⟨r4, -, -⟩ := (show e 4 = true ∧ e 5 = true ∧ True from hdn 6 r6); obtain ⟨r3, -⟩ := (show e 3 = true ∧ True from hdn 4 r4); exact r3
        simp only [setE, he, h12, h15, cj_t, cj_f, cjn_t, cjn_f, cb_t, cb_f]
        refine U (FlB _ _ (V rfl) Un24 rfl 0 Sz22) <| Nt <| We ?_ ?_
        ·exact ⟨V rfl, V rfl, V rfl, V rfl, V rfl, V rfl, V rfl, V rfl, V rfl, V rfl, V rfl, V rfl, Vj, V rfl, V rfl, V rfl, V rfl, V rfl, V rfl, V rfl, Z⟩
        ·exact ⟨⟨_, rfl, ⟨rfl, rfl, (An rfl)⟩⟩, ⟨_, rfl, ⟨rfl, rfl, (An rfl)⟩⟩, ⟨_, rfl, rfl⟩, ⟨_, rfl, rfl⟩, Z⟩
       ·intro e hdn he hdp
        obtain ⟨h3, -⟩ := (show e 3 = true ∧ True from hdp)
        have h12 : e 12 = false := fls he fun q => by obtain ⟨r8, -, -, -⟩ := (show e 8 = true ∧ e 9 = true ∧ e 11 = true ∧ True from hdn 12 q); obtain ⟨r7, -⟩ := (show e 7 = true ∧ True from hdn 8 r8); obtain ⟨r6, -⟩ := (show e 6 = true ∧ True from hdn 7 r7); obtain ⟨r4, -, -⟩ := (show e 4 = true ∧ e 5 = true ∧ True from hdn 6 r6); exact r4
        have h15 : e 15 = false := fls he fun q => by obtain ⟨r14, -, -, -, -, -, -, -, -, -, -, -, -, -, -, -, -⟩ := (show e 14 = true ∧ e 12 = true ∧ e 12 = true ∧ e 0 = true ∧ e 1 = true ∧ e 2 = true ∧ e 3 = true ∧ e 4 = true ∧ e 5 = true ∧ e 6 = true ∧ e 7 = true ∧ e 8 = true ∧ e 9 = true ∧ e 10 = true ∧ e 11 = true ∧ e 12 = true ∧ True from hdn 15 q); obtain ⟨r13, -, -, -, -, -, -, -, -, -, -, -, -, -, -⟩ := (show e 13 = true ∧ e 0 = true ∧ e 1 = true ∧ e 2 = true ∧ e 3 = true ∧ e 4 = true ∧ e 5 = true ∧ e 6 = true ∧ e 7 = true ∧ e 8 = true ∧ e 9 = true ∧ e 10 = true ∧ e 11 = true ∧ e 12 = true ∧ True from hdn 14 r14); obtain ⟨-, -, -, -, -, -, -, -, -, -, -, -, -, -, r12, -⟩ := (show e 1 = true ∧ e 2 = true ∧ e 0 = true ∧ e 1 = true ∧ e 2 = true ∧ e 3 = true ∧ e 4 = true ∧ e 5 = true ∧ e 6 = true ∧ e 7 = true ∧ e 8 = true ∧ e 9 = true ∧ e 10 = true ∧ e 11 = true ∧ e 12 = true ∧ True from hdn 13 r13); obtain ⟨r8, -, -, -⟩ := (show e 8 = true ∧ e 9 = true ∧ e 11 = true ∧ True from hdn 12 r12); obtain ⟨r7, -⟩ := (show e 7 = true ∧ True from hdn 8 r8); obtain ⟨r6, -⟩ := (show e 6 = true ∧ True from hdn 7 r7); obtain ⟨r4, -, -⟩ := (show e 4 = true ∧ e 5 = true ∧ True from hdn 6 r6); exact r4
        simp only [setE, h3, he, h12, h15, cj_t, cj_f, cjn_t, cjn_f, cb_t, cb_f]
        refine U (LdB (V rfl) rfl Ga22 (by decide)) <| Nt <| We ?_ ?_
        ·exact ⟨V rfl, V rfl, V rfl, V rfl, V rfl, V rfl, V rfl, V rfl, V rfl, V rfl, V rfl, V rfl, Vj, V rfl, V rfl, V rfl, V rfl, V rfl, V rfl, V rfl, Z⟩
        ·exact ⟨⟨_, rfl, ⟨rfl, rfl, (An rfl)⟩⟩, ⟨_, rfl, ⟨rfl, rfl, (An rfl)⟩⟩, ⟨_, rfl, rfl⟩, ⟨_, rfl, rfl⟩, Z⟩
       ·intro e hdn he hdp
        have h12 : e 12 = false := fls he fun q => by obtain ⟨r8, -, -, -⟩ := (show e 8 = true ∧ e 9 = true ∧ e 11 = true ∧ True from hdn 12 q); obtain ⟨r7, -⟩ := (show e 7 = true ∧ True from hdn 8 r8); obtain ⟨r6, -⟩ := (show e 6 = true ∧ True from hdn 7 r7); obtain ⟨-, r5, -⟩ := (show e 4 = true ∧ e 5 = true ∧ True from hdn 6 r6); exact r5
        have h15 : e 15 = false := fls he fun q => by obtain ⟨r14, -, -, -, -, -, -, -, -, -, -, -, -, -, -, -, -⟩ := (show e 14 = true ∧ e 12 = true ∧ e 12 = true ∧ e 0 = true ∧ e 1 = true ∧ e 2 = true ∧ e 3 = true ∧ e 4 = true ∧ e 5 = true ∧ e 6 = true ∧ e 7 = true ∧ e 8 = true ∧ e 9 = true ∧ e 10 = true ∧ e 11 = true ∧ e 12 = true ∧ True from hdn 15 q); obtain ⟨r13, -, -, -, -, -, -, -, -, -, -, -, -, -, -⟩ := (show e 13 = true ∧ e 0 = true ∧ e 1 = true ∧ e 2 = true ∧ e 3 = true ∧ e 4 = true ∧ e 5 = true ∧ e 6 = true ∧ e 7 = true ∧ e 8 = true ∧ e 9 = true ∧ e 10 = true ∧ e 11 = true ∧ e 12 = true ∧ True from hdn 14 r14); obtain ⟨-, -, -, -, -, -, -, -, -, -, -, -, -, -, r12, -⟩ := (show e 1 = true ∧ e 2 = true ∧ e 0 = true ∧ e 1 = true ∧ e 2 = true ∧ e 3 = true ∧ e 4 = true ∧ e 5 = true ∧ e 6 = true ∧ e 7 = true ∧ e 8 = true ∧ e 9 = true ∧ e 10 = true ∧ e 11 = true ∧ e 12 = true ∧ True from hdn 13 r13); obtain ⟨r8, -, -, -⟩ := (show e 8 = true ∧ e 9 = true ∧ e 11 = true ∧ True from hdn 12 r12); obtain ⟨r7, -⟩ := (show e 7 = true ∧ True from hdn 8 r8); obtain ⟨r6, -⟩ := (show e 6 = true ∧ True from hdn 7 r7); obtain ⟨-, r5, -⟩ := (show e 4 = true ∧ e 5 = true ∧ True from hdn 6 r6); exact r5
        simp only [setE, he, h12, h15, cj_t, cj_f, cjn_t, cjn_f, cb_t, cb_f]
        refine U (Mv (V rfl)) <| Nt <| We ?_ ?_
        ·exact ⟨V rfl, V rfl, V rfl, V rfl, V rfl, V rfl, V rfl, V rfl, V rfl, V rfl, V rfl, V rfl, Vj, V rfl, V rfl, V rfl, V rfl, V rfl, V rfl, V rfl, Z⟩
        ·exact ⟨⟨_, rfl, ⟨rfl, rfl, (An rfl)⟩⟩, ⟨_, rfl, ⟨rfl, rfl, (An rfl)⟩⟩, ⟨_, rfl, rfl⟩, ⟨_, rfl, rfl⟩, Z⟩
       ·intro e hdn he hdp
        obtain ⟨h4, h5, -⟩ := (show e 4 = true ∧ e 5 = true ∧ True from hdp)
        obtain ⟨h3, -⟩ := (show e 3 = true ∧ True from hdn 4 h4)
        have h12 : e 12 = false := fls he fun q => by obtain ⟨r8, -, -, -⟩ := (show e 8 = true ∧ e 9 = true ∧ e 11 = true ∧ True from hdn 12 q); obtain ⟨r7, -⟩ := (show e 7 = true ∧ True from hdn 8 r8); obtain ⟨r6, -⟩ := (show e 6 = true ∧ True from hdn 7 r7); exact r6
        have h15 : e 15 = false := fls he fun q => by obtain ⟨r14, -, -, -, -, -, -, -, -, -, -, -, -, -, -, -, -⟩ := (show e 14 = true ∧ e 12 = true ∧ e 12 = true ∧ e 0 = true ∧ e 1 = true ∧ e 2 = true ∧ e 3 = true ∧ e 4 = true ∧ e 5 = true ∧ e 6 = true ∧ e 7 = true ∧ e 8 = true ∧ e 9 = true ∧ e 10 = true ∧ e 11 = true ∧ e 12 = true ∧ True from hdn 15 q); obtain ⟨r13, -, -, -, -, -, -, -, -, -, -, -, -, -, -⟩ := (show e 13 = true ∧ e 0 = true ∧ e 1 = true ∧ e 2 = true ∧ e 3 = true ∧ e 4 = true ∧ e 5 = true ∧ e 6 = true ∧ e 7 = true ∧ e 8 = true ∧ e 9 = true ∧ e 10 = true ∧ e 11 = true ∧ e 12 = true ∧ True from hdn 14 r14); obtain ⟨-, -, -, -, -, -, -, -, -, -, -, -, -, -, r12, -⟩ := (show e 1 = true ∧ e 2 = true ∧ e 0 = true ∧ e 1 = true ∧ e 2 = true ∧ e 3 = true ∧ e 4 = true ∧ e 5 = true ∧ e 6 = true ∧ e 7 = true ∧ e 8 = true ∧ e 9 = true ∧ e 10 = true ∧ e 11 = true ∧ e 12 = true ∧ True from hdn 13 r13); obtain ⟨r8, -, -, -⟩ := (show e 8 = true ∧ e 9 = true ∧ e 11 = true ∧ True from hdn 12 r12); obtain ⟨r7, -⟩ := (show e 7 = true ∧ True from hdn 8 r8); obtain ⟨r6, -⟩ := (show e 6 = true ∧ True from hdn 7 r7); exact r6
        simp only [setE, h3, h4, h5, he, h12, h15, cj_t, cj_f, cjn_t, cjn_f, cb_t, cb_f]
        refine U (q_idxU (V rfl) rfl (V rfl) ts22 te22 (by omega) (by first | omega | (simp only [List.length_set]; omega))) <| Nt <| We ?_ ?_
        ·exact ⟨V rfl, V rfl, V rfl, V rfl, V rfl, V rfl, V rfl, V rfl, V rfl, V rfl, V rfl, V rfl, Vj, V rfl, V rfl, V rfl, V rfl, V rfl, V rfl, V rfl, Z⟩
        ·exact ⟨⟨_, rfl, ⟨rfl, rfl, (An rfl)⟩⟩, ⟨_, rfl, ⟨rfl, rfl, (An rfl)⟩⟩, ⟨_, rfl, rfl⟩, ⟨_, rfl, rfl⟩, Z⟩
       ·intro e hdn he hdp
        obtain ⟨h6, -⟩ := (show e 6 = true ∧ True from hdp)
        obtain ⟨h4, h5, -⟩ := (show e 4 = true ∧ e 5 = true ∧ True from hdn 6 h6)
        obtain ⟨h3, -⟩ := (show e 3 = true ∧ True from hdn 4 h4)
        have h12 : e 12 = false := fls he fun q => by obtain ⟨r8, -, -, -⟩ := (show e 8 = true ∧ e 9 = true ∧ e 11 = true ∧ True from hdn 12 q); obtain ⟨r7, -⟩ := (show e 7 = true ∧ True from hdn 8 r8); exact r7
        have h15 : e 15 = false := fls he fun q => by obtain ⟨r14, -, -, -, -, -, -, -, -, -, -, -, -, -, -, -, -⟩ := (show e 14 = true ∧ e 12 = true ∧ e 12 = true ∧ e 0 = true ∧ e 1 = true ∧ e 2 = true ∧ e 3 = true ∧ e 4 = true ∧ e 5 = true ∧ e 6 = true ∧ e 7 = true ∧ e 8 = true ∧ e 9 = true ∧ e 10 = true ∧ e 11 = true ∧ e 12 = true ∧ True from hdn 15 q); obtain ⟨r13, -, -, -, -, -, -, -, -, -, -, -, -, -, -⟩ := (show e 13 = true ∧ e 0 = true ∧ e 1 = true ∧ e 2 = true ∧ e 3 = true ∧ e 4 = true ∧ e 5 = true ∧ e 6 = true ∧ e 7 = true ∧ e 8 = true ∧ e 9 = true ∧ e 10 = true ∧ e 11 = true ∧ e 12 = true ∧ True from hdn 14 r14); obtain ⟨-, -, -, -, -, -, -, -, -, -, -, -, -, -, r12, -⟩ := (show e 1 = true ∧ e 2 = true ∧ e 0 = true ∧ e 1 = true ∧ e 2 = true ∧ e 3 = true ∧ e 4 = true ∧ e 5 = true ∧ e 6 = true ∧ e 7 = true ∧ e 8 = true ∧ e 9 = true ∧ e 10 = true ∧ e 11 = true ∧ e 12 = true ∧ True from hdn 13 r13); obtain ⟨r8, -, -, -⟩ := (show e 8 = true ∧ e 9 = true ∧ e 11 = true ∧ True from hdn 12 r12); obtain ⟨r7, -⟩ := (show e 7 = true ∧ True from hdn 8 r8); exact r7
        simp only [setE, h3, h4, h5, h6, he, h12, h15, cj_t, cj_f, cjn_t, cjn_f, cb_t, cb_f]
        refine U (FlO _ _ (V rfl) Un61 rfl 0 Sz33) <| Nt <| We ?_ ?_
        ·exact ⟨V rfl, V rfl, V rfl, V rfl, V rfl, V rfl, V rfl, V rfl, V rfl, V rfl, V rfl, V rfl, Vj, V rfl, V rfl, V rfl, V rfl, V rfl, V rfl, V rfl, Z⟩
        ·exact ⟨⟨_, rfl, ⟨rfl, rfl, (An rfl)⟩⟩, ⟨_, rfl, ⟨rfl, rfl, (An rfl)⟩⟩, ⟨_, rfl, rfl⟩, ⟨_, rfl, rfl⟩, Z⟩
       ·intro e hdn he hdp
        obtain ⟨h7, -⟩ := (show e 7 = true ∧ True from hdp)
        obtain ⟨h6, -⟩ := (show e 6 = true ∧ True from hdn 7 h7)
        obtain ⟨h4, h5, -⟩ := (show e 4 = true ∧ e 5 = true ∧ True from hdn 6 h6)
        obtain ⟨h3, -⟩ := (show e 3 = true ∧ True from hdn 4 h4)
        have h12 : e 12 = false := fls he fun q => by obtain ⟨r8, -, -, -⟩ := (show e 8 = true ∧ e 9 = true ∧ e 11 = true ∧ True from hdn 12 q); exact r8
        have h15 : e 15 = false := fls he fun q => by obtain ⟨r14, -, -, -, -, -, -, -, -, -, -, -, -, -, -, -, -⟩ := (show e 14 = true ∧ e 12 = true ∧ e 12 = true ∧ e 0 = true ∧ e 1 = true ∧ e 2 = true ∧ e 3 = true ∧ e 4 = true ∧ e 5 = true ∧ e 6 = true ∧ e 7 = true ∧ e 8 = true ∧ e 9 = true ∧ e 10 = true ∧ e 11 = true ∧ e 12 = true ∧ True from hdn 15 q); obtain ⟨r13, -, -, -, -, -, -, -, -, -, -, -, -, -, -⟩ := (show e 13 = true ∧ e 0 = true ∧ e 1 = true ∧ e 2 = true ∧ e 3 = true ∧ e 4 = true ∧ e 5 = true ∧ e 6 = true ∧ e 7 = true ∧ e 8 = true ∧ e 9 = true ∧ e 10 = true ∧ e 11 = true ∧ e 12 = true ∧ True from hdn 14 r14); obtain ⟨-, -, -, -, -, -, -, -, -, -, -, -, -, -, r12, -⟩ := (show e 1 = true ∧ e 2 = true ∧ e 0 = true ∧ e 1 = true ∧ e 2 = true ∧ e 3 = true ∧ e 4 = true ∧ e 5 = true ∧ e 6 = true ∧ e 7 = true ∧ e 8 = true ∧ e 9 = true ∧ e 10 = true ∧ e 11 = true ∧ e 12 = true ∧ True from hdn 13 r13); obtain ⟨r8, -, -, -⟩ := (show e 8 = true ∧ e 9 = true ∧ e 11 = true ∧ True from hdn 12 r12); exact r8
        simp only [setE, h3, h4, h5, h6, h7, he, h12, h15, cj_t, cj_f, cjn_t, cjn_f, cb_t, cb_f]
        refine U (LdU (V rfl) rfl Ga33 (by decide) uat_hole) <| Nt <| We ?_ ?_
        ·exact ⟨V rfl, V rfl, V rfl, V rfl, V rfl, V rfl, V rfl, V rfl, V rfl, V rfl, V rfl, V rfl, Vj, V rfl, V rfl, V rfl, V rfl, V rfl, V rfl, V rfl, Z⟩
        ·exact ⟨⟨_, rfl, ⟨rfl, rfl, (An rfl)⟩⟩, ⟨_, rfl, ⟨rfl, rfl, (An rfl)⟩⟩, ⟨_, rfl, rfl⟩, ⟨_, rfl, rfl⟩, Z⟩
       ·intro e hdn he hdp
        have h12 : e 12 = false := fls he fun q => by obtain ⟨-, r9, -, -⟩ := (show e 8 = true ∧ e 9 = true ∧ e 11 = true ∧ True from hdn 12 q); exact r9
        have h15 : e 15 = false := fls he fun q => by obtain ⟨r14, -, -, -, -, -, -, -, -, -, -, -, -, -, -, -, -⟩ := (show e 14 = true ∧ e 12 = true ∧ e 12 = true ∧ e 0 = true ∧ e 1 = true ∧ e 2 = true ∧ e 3 = true ∧ e 4 = true ∧ e 5 = true ∧ e 6 = true ∧ e 7 = true ∧ e 8 = true ∧ e 9 = true ∧ e 10 = true ∧ e 11 = true ∧ e 12 = true ∧ True from hdn 15 q); obtain ⟨r13, -, -, -, -, -, -, -, -, -, -, -, -, -, -⟩ := (show e 13 = true ∧ e 0 = true ∧ e 1 = true ∧ e 2 = true ∧ e 3 = true ∧ e 4 = true ∧ e 5 = true ∧ e 6 = true ∧ e 7 = true ∧ e 8 = true ∧ e 9 = true ∧ e 10 = true ∧ e 11 = true ∧ e 12 = true ∧ True from hdn 14 r14); obtain ⟨-, -, -, -, -, -, -, -, -, -, -, -, -, -, r12, -⟩ := (show e 1 = true ∧ e 2 = true ∧ e 0 = true ∧ e 1 = true ∧ e 2 = true ∧ e 3 = true ∧ e 4 = true ∧ e 5 = true ∧ e 6 = true ∧ e 7 = true ∧ e 8 = true ∧ e 9 = true ∧ e 10 = true ∧ e 11 = true ∧ e 12 = true ∧ True from hdn 13 r13); obtain ⟨-, r9, -, -⟩ := (show e 8 = true ∧ e 9 = true ∧ e 11 = true ∧ True from hdn 12 r12); exact r9
        simp only [setE, he, h12, h15, cj_t, cj_f, cjn_t, cjn_f, cb_t, cb_f]
        refine U (Mv (V rfl)) <| Nt <| We ?_ ?_
        ·exact ⟨V rfl, V rfl, V rfl, V rfl, V rfl, V rfl, V rfl, V rfl, V rfl, V rfl, V rfl, V rfl, Vj, V rfl, V rfl, V rfl, V rfl, V rfl, V rfl, V rfl, Z⟩
        ·exact ⟨⟨_, rfl, ⟨rfl, rfl, (An rfl)⟩⟩, ⟨_, rfl, ⟨rfl, rfl, (An rfl)⟩⟩, ⟨_, rfl, rfl⟩, ⟨_, rfl, rfl⟩, Z⟩
       ·intro e hdn he hdp
        have h12 : e 12 = false := fls he fun q => by obtain ⟨-, -, r11, -⟩ := (show e 8 = true ∧ e 9 = true ∧ e 11 = true ∧ True from hdn 12 q); obtain ⟨r10, -⟩ := (show e 10 = true ∧ True from hdn 11 r11); exact r10
        have h15 : e 15 = false := fls he fun q => by obtain ⟨r14, -, -, -, -, -, -, -, -, -, -, -, -, -, -, -, -⟩ := (show e 14 = true ∧ e 12 = true ∧ e 12 = true ∧ e 0 = true ∧ e 1 = true ∧ e 2 = true ∧ e 3 = true ∧ e 4 = true ∧ e 5 = true ∧ e 6 = true ∧ e 7 = true ∧ e 8 = true ∧ e 9 = true ∧ e 10 = true ∧ e 11 = true ∧ e 12 = true ∧ True from hdn 15 q); obtain ⟨r13, -, -, -, -, -, -, -, -, -, -, -, -, -, -⟩ := (show e 13 = true ∧ e 0 = true ∧ e 1 = true ∧ e 2 = true ∧ e 3 = true ∧ e 4 = true ∧ e 5 = true ∧ e 6 = true ∧ e 7 = true ∧ e 8 = true ∧ e 9 = true ∧ e 10 = true ∧ e 11 = true ∧ e 12 = true ∧ True from hdn 14 r14); obtain ⟨-, -, -, -, -, -, -, -, -, -, -, -, -, -, r12, -⟩ := (show e 1 = true ∧ e 2 = true ∧ e 0 = true ∧ e 1 = true ∧ e 2 = true ∧ e 3 = true ∧ e 4 = true ∧ e 5 = true ∧ e 6 = true ∧ e 7 = true ∧ e 8 = true ∧ e 9 = true ∧ e 10 = true ∧ e 11 = true ∧ e 12 = true ∧ True from hdn 13 r13); obtain ⟨-, -, r11, -⟩ := (show e 8 = true ∧ e 9 = true ∧ e 11 = true ∧ True from hdn 12 r12); obtain ⟨r10, -⟩ := (show e 10 = true ∧ True from hdn 11 r11); exact r10
        simp only [setE, he, h12, h15, cj_t, cj_f, cjn_t, cjn_f, cb_t, cb_f]
        refine U (Mv (V rfl)) <| Nt <| We ?_ ?_
        ·exact ⟨V rfl, V rfl, V rfl, V rfl, V rfl, V rfl, V rfl, V rfl, V rfl, V rfl, V rfl, V rfl, Vj, V rfl, V rfl, V rfl, V rfl, V rfl, V rfl, V rfl, Z⟩
        ·exact ⟨⟨_, rfl, ⟨rfl, rfl, (An rfl)⟩⟩, ⟨_, rfl, ⟨rfl, rfl, (An rfl)⟩⟩, ⟨_, rfl, rfl⟩, ⟨_, rfl, rfl⟩, Z⟩
       ·intro e hdn he hdp
        obtain ⟨h10, -⟩ := (show e 10 = true ∧ True from hdp)
        have h12 : e 12 = false := fls he fun q => by obtain ⟨-, -, r11, -⟩ := (show e 8 = true ∧ e 9 = true ∧ e 11 = true ∧ True from hdn 12 q); exact r11
        have h15 : e 15 = false := fls he fun q => by obtain ⟨r14, -, -, -, -, -, -, -, -, -, -, -, -, -, -, -, -⟩ := (show e 14 = true ∧ e 12 = true ∧ e 12 = true ∧ e 0 = true ∧ e 1 = true ∧ e 2 = true ∧ e 3 = true ∧ e 4 = true ∧ e 5 = true ∧ e 6 = true ∧ e 7 = true ∧ e 8 = true ∧ e 9 = true ∧ e 10 = true ∧ e 11 = true ∧ e 12 = true ∧ True from hdn 15 q); obtain ⟨r13, -, -, -, -, -, -, -, -, -, -, -, -, -, -⟩ := (show e 13 = true ∧ e 0 = true ∧ e 1 = true ∧ e 2 = true ∧ e 3 = true ∧ e 4 = true ∧ e 5 = true ∧ e 6 = true ∧ e 7 = true ∧ e 8 = true ∧ e 9 = true ∧ e 10 = true ∧ e 11 = true ∧ e 12 = true ∧ True from hdn 14 r14); obtain ⟨-, -, -, -, -, -, -, -, -, -, -, -, -, -, r12, -⟩ := (show e 1 = true ∧ e 2 = true ∧ e 0 = true ∧ e 1 = true ∧ e 2 = true ∧ e 3 = true ∧ e 4 = true ∧ e 5 = true ∧ e 6 = true ∧ e 7 = true ∧ e 8 = true ∧ e 9 = true ∧ e 10 = true ∧ e 11 = true ∧ e 12 = true ∧ True from hdn 13 r13); obtain ⟨-, -, r11, -⟩ := (show e 8 = true ∧ e 9 = true ∧ e 11 = true ∧ True from hdn 12 r12); exact r11
        simp only [setE, h10, he, h12, h15, cj_t, cj_f, cjn_t, cjn_f, cb_t, cb_f]
        refine Uw (w_bs (n := 1) (zget := fun _ => iv 0) [(fun _ => iv (c.pl))] (rowG inCell 0 [c.pl]) Un33 Sz3 zero3 (by decide) rfl (by decide) ⟨⟨rfl, .inr ⟨rfl, (V rfl), rfl⟩, rfl⟩, Z⟩ ⟨Z, ⟨Z, rfl⟩⟩) <| Nt <| We ?_ ?_
        ·exact ⟨V rfl, V rfl, V rfl, V rfl, V rfl, V rfl, V rfl, V rfl, V rfl, V rfl, V rfl, V rfl, Vj, V rfl, V rfl, V rfl, V rfl, V rfl, V rfl, V rfl, Z⟩
        ·exact ⟨⟨_, rfl, ⟨rfl, rfl, (An rfl)⟩⟩, ⟨_, rfl, ⟨rfl, rfl, (An rfl)⟩⟩, ⟨_, rfl, rfl⟩, ⟨_, rfl, rfl⟩, Z⟩
       ·intro e hdn he hdp
        obtain ⟨h8, h9, h11, -⟩ := (show e 8 = true ∧ e 9 = true ∧ e 11 = true ∧ True from hdp)
        obtain ⟨h10, -⟩ := (show e 10 = true ∧ True from hdn 11 h11)
        obtain ⟨h7, -⟩ := (show e 7 = true ∧ True from hdn 8 h8)
        obtain ⟨h6, -⟩ := (show e 6 = true ∧ True from hdn 7 h7)
        obtain ⟨h4, h5, -⟩ := (show e 4 = true ∧ e 5 = true ∧ True from hdn 6 h6)
        obtain ⟨h3, -⟩ := (show e 3 = true ∧ True from hdn 4 h4)
        have h13 : e 13 = false := fls he fun q => by obtain ⟨-, -, -, -, -, -, -, -, -, -, -, -, -, -, r12, -⟩ := (show e 1 = true ∧ e 2 = true ∧ e 0 = true ∧ e 1 = true ∧ e 2 = true ∧ e 3 = true ∧ e 4 = true ∧ e 5 = true ∧ e 6 = true ∧ e 7 = true ∧ e 8 = true ∧ e 9 = true ∧ e 10 = true ∧ e 11 = true ∧ e 12 = true ∧ True from hdn 13 q); exact r12
        have h14 : e 14 = false := fls he fun q => by obtain ⟨r13, -, -, -, -, -, -, -, -, -, -, -, -, -, -⟩ := (show e 13 = true ∧ e 0 = true ∧ e 1 = true ∧ e 2 = true ∧ e 3 = true ∧ e 4 = true ∧ e 5 = true ∧ e 6 = true ∧ e 7 = true ∧ e 8 = true ∧ e 9 = true ∧ e 10 = true ∧ e 11 = true ∧ e 12 = true ∧ True from hdn 14 q); obtain ⟨-, -, -, -, -, -, -, -, -, -, -, -, -, -, r12, -⟩ := (show e 1 = true ∧ e 2 = true ∧ e 0 = true ∧ e 1 = true ∧ e 2 = true ∧ e 3 = true ∧ e 4 = true ∧ e 5 = true ∧ e 6 = true ∧ e 7 = true ∧ e 8 = true ∧ e 9 = true ∧ e 10 = true ∧ e 11 = true ∧ e 12 = true ∧ True from hdn 13 r13); exact r12
        have h15 : e 15 = false := fls he fun q => by obtain ⟨r14, -, -, -, -, -, -, -, -, -, -, -, -, -, -, -, -⟩ := (show e 14 = true ∧ e 12 = true ∧ e 12 = true ∧ e 0 = true ∧ e 1 = true ∧ e 2 = true ∧ e 3 = true ∧ e 4 = true ∧ e 5 = true ∧ e 6 = true ∧ e 7 = true ∧ e 8 = true ∧ e 9 = true ∧ e 10 = true ∧ e 11 = true ∧ e 12 = true ∧ True from hdn 15 q); obtain ⟨r13, -, -, -, -, -, -, -, -, -, -, -, -, -, -⟩ := (show e 13 = true ∧ e 0 = true ∧ e 1 = true ∧ e 2 = true ∧ e 3 = true ∧ e 4 = true ∧ e 5 = true ∧ e 6 = true ∧ e 7 = true ∧ e 8 = true ∧ e 9 = true ∧ e 10 = true ∧ e 11 = true ∧ e 12 = true ∧ True from hdn 14 r14); obtain ⟨-, -, -, -, -, -, -, -, -, -, -, -, -, -, r12, -⟩ := (show e 1 = true ∧ e 2 = true ∧ e 0 = true ∧ e 1 = true ∧ e 2 = true ∧ e 3 = true ∧ e 4 = true ∧ e 5 = true ∧ e 6 = true ∧ e 7 = true ∧ e 8 = true ∧ e 9 = true ∧ e 10 = true ∧ e 11 = true ∧ e 12 = true ∧ True from hdn 13 r13); exact r12
        simp only [setE, h3, h4, h5, h6, h7, h8, h9, h10, h11, he, h13, h14, h15, cj_t, cj_f, cjn_t, cjn_f, cb_t, cb_f]
        refine CM (cargs := [SV.own 1000, iv (idxI (Nd.kids ((outSt l c.pl).getD (Int.toNat p.pl) default)) ((ah.getD 0 default).pl)), inRow ([c.pl])]) [(1000, 10)] [(0, 11)] en98 (by exact ⟨(V rfl), (V rfl), (V rfl), Z⟩) (insI_ct (Nd.kids ((outSt l c.pl).getD (Int.toNat p.pl) default)) ([c.pl]) (idxI (Nd.kids ((outSt l c.pl).getD (Int.toNat p.pl) default)) ((ah.getD 0 default).pl)) (by first | omega | assumption) (by first | omega | (simp only [List.length_cons, List.length_nil]; omega) | assumption)) (by exact ⟨⟨_, rfl, rfl⟩, Z⟩) rfl (freshN_cons (fresh_mk ⟨(noId_cj rfl), (noId_cj rfl), (noId_cj rfl), rfl, rfl, rfl, rfl, rfl, rfl, rfl, rfl, rfl, rfl, rfl, rfl, rfl, rfl, rfl, rfl, rfl, Z⟩ rfl rfl) rfl rfl) rfl rfl <| Nt <| We ?_ ?_
        ·exact ⟨V rfl, V rfl, V rfl, V rfl, V rfl, V rfl, V rfl, V rfl, V rfl, V rfl, V rfl, V rfl, V rfl, Vj, Vj, V rfl, V rfl, V rfl, V rfl, V rfl, Z⟩
        ·exact ⟨⟨_, rfl, ⟨rfl, rfl, (An rfl)⟩⟩, ⟨_, rfl, ⟨rfl, rfl, (An rfl)⟩⟩, ⟨_, rfl, rfl⟩, ⟨_, rfl, rfl⟩, Z⟩
       ·intro e hdn he hdp
        obtain ⟨h1, h2, h0, -, -, h3, h4, h5, h6, h7, h8, h9, h10, h11, h12, -⟩ := (show e 1 = true ∧ e 2 = true ∧ e 0 = true ∧ e 1 = true ∧ e 2 = true ∧ e 3 = true ∧ e 4 = true ∧ e 5 = true ∧ e 6 = true ∧ e 7 = true ∧ e 8 = true ∧ e 9 = true ∧ e 10 = true ∧ e 11 = true ∧ e 12 = true ∧ True from hdp)
        have h15 : e 15 = false := fls he fun q => by obtain ⟨r14, -, -, -, -, -, -, -, -, -, -, -, -, -, -, -, -⟩ := (show e 14 = true ∧ e 12 = true ∧ e 12 = true ∧ e 0 = true ∧ e 1 = true ∧ e 2 = true ∧ e 3 = true ∧ e 4 = true ∧ e 5 = true ∧ e 6 = true ∧ e 7 = true ∧ e 8 = true ∧ e 9 = true ∧ e 10 = true ∧ e 11 = true ∧ e 12 = true ∧ True from hdn 15 q); obtain ⟨r13, -, -, -, -, -, -, -, -, -, -, -, -, -, -⟩ := (show e 13 = true ∧ e 0 = true ∧ e 1 = true ∧ e 2 = true ∧ e 3 = true ∧ e 4 = true ∧ e 5 = true ∧ e 6 = true ∧ e 7 = true ∧ e 8 = true ∧ e 9 = true ∧ e 10 = true ∧ e 11 = true ∧ e 12 = true ∧ True from hdn 14 r14); exact r13
        simp only [setE, h0, h1, h2, h3, h4, h5, h6, h7, h8, h9, h10, h11, h12, he, h15, cj_t, cj_f, cjn_t, cjn_f, cb_t, cb_f]
        refine U (q_idxU (V rfl) rfl (V rfl) ts22 te22 (by omega) (by first | omega | (simp only [List.length_set]; omega))) <| Nt <| We ?_ ?_
        ·exact ⟨V rfl, V rfl, V rfl, V rfl, V rfl, V rfl, V rfl, V rfl, V rfl, V rfl, V rfl, V rfl, V rfl, V rfl, V rfl, V rfl, V rfl, V rfl, V rfl, V rfl, Z⟩
        ·exact ⟨⟨_, rfl, ⟨rfl, rfl, (An rfl)⟩⟩, ⟨_, rfl, ⟨rfl, rfl, (An rfl)⟩⟩, ⟨_, rfl, rfl⟩, ⟨_, rfl, rfl⟩, Z⟩
       ·intro e hdn he hdp
        obtain ⟨h13, h0, h1, h2, h3, h4, h5, h6, h7, h8, h9, h10, h11, h12, -⟩ := (show e 13 = true ∧ e 0 = true ∧ e 1 = true ∧ e 2 = true ∧ e 3 = true ∧ e 4 = true ∧ e 5 = true ∧ e 6 = true ∧ e 7 = true ∧ e 8 = true ∧ e 9 = true ∧ e 10 = true ∧ e 11 = true ∧ e 12 = true ∧ True from hdp)
        have h15 : e 15 = false := fls he fun q => by obtain ⟨r14, -, -, -, -, -, -, -, -, -, -, -, -, -, -, -, -⟩ := (show e 14 = true ∧ e 12 = true ∧ e 12 = true ∧ e 0 = true ∧ e 1 = true ∧ e 2 = true ∧ e 3 = true ∧ e 4 = true ∧ e 5 = true ∧ e 6 = true ∧ e 7 = true ∧ e 8 = true ∧ e 9 = true ∧ e 10 = true ∧ e 11 = true ∧ e 12 = true ∧ True from hdn 15 q); exact r14
        simp only [setE, h0, h1, h2, h3, h4, h5, h6, h7, h8, h9, h10, h11, h12, h13, he, h15, cj_t, cj_f, cjn_t, cjn_f, cb_t, cb_f]
        refine U (FlO _ _ (V rfl) Un61 rfl 0 Sz33) <| Nt <| We ?_ ?_
        ·exact ⟨V rfl, V rfl, V rfl, V rfl, V rfl, V rfl, V rfl, V rfl, V rfl, V rfl, V rfl, V rfl, V rfl, V rfl, V rfl, V rfl, V rfl, V rfl, V rfl, V rfl, Z⟩
        ·exact ⟨⟨_, rfl, ⟨rfl, rfl, (An rfl)⟩⟩, ⟨_, rfl, ⟨rfl, rfl, (An rfl)⟩⟩, ⟨_, rfl, rfl⟩, ⟨_, rfl, rfl⟩, Z⟩
       ·intro e hdn he hdp
        obtain ⟨h14, h12, -, h0, h1, h2, h3, h4, h5, h6, h7, h8, h9, h10, h11, -, -⟩ := (show e 14 = true ∧ e 12 = true ∧ e 12 = true ∧ e 0 = true ∧ e 1 = true ∧ e 2 = true ∧ e 3 = true ∧ e 4 = true ∧ e 5 = true ∧ e 6 = true ∧ e 7 = true ∧ e 8 = true ∧ e 9 = true ∧ e 10 = true ∧ e 11 = true ∧ e 12 = true ∧ True from hdp)
        obtain ⟨h13, -, -, -, -, -, -, -, -, -, -, -, -, -, -⟩ := (show e 13 = true ∧ e 0 = true ∧ e 1 = true ∧ e 2 = true ∧ e 3 = true ∧ e 4 = true ∧ e 5 = true ∧ e 6 = true ∧ e 7 = true ∧ e 8 = true ∧ e 9 = true ∧ e 10 = true ∧ e 11 = true ∧ e 12 = true ∧ True from hdn 14 h14)
        simp only [setE, h0, h1, h2, h3, h4, h5, h6, h7, h8, h9, h10, h11, h12, h13, h14, he, cj_t, cj_f, cjn_t, cjn_f, cb_t, cb_f]
        refine t_stH (V rfl) rfl (V rfl) (one_own rfl) Sz33 (by decide) (.inl rfl) <| Nt <| We ?_ ?_
        ·exact ⟨V rfl, V rfl, V rfl, V rfl, V rfl, V rfl, V rfl, V rfl, V rfl, V rfl, V rfl, V rfl, V rfl, V rfl, V rfl, V rfl, V rfl, V rfl, V rfl, V rfl, Z⟩
        ·exact ⟨⟨_, rfl, ⟨rfl, rfl, (An rfl)⟩⟩, ⟨_, rfl, ⟨rfl, rfl, (An rfl)⟩⟩, ⟨_, rfl, rfl⟩, ⟨_, rfl, rfl⟩, Z⟩
       ·intro e he
        have h0 := he 0 (by decide)
        have h1 := he 1 (by decide)
        have h2 := he 2 (by decide)
        have h3 := he 3 (by decide)
        have h4 := he 4 (by decide)
        have h5 := he 5 (by decide)
        have h6 := he 6 (by decide)
        have h7 := he 7 (by decide)
        have h8 := he 8 (by decide)
        have h9 := he 9 (by decide)
        have h10 := he 10 (by decide)
        have h11 := he 11 (by decide)
        have h12 := he 12 (by decide)
        have h13 := he 13 (by decide)
        have h14 := he 14 (by decide)
        have h15 := he 15 (by decide)
        show Weak _ ⟨[(102, cj (e 0) (SV.bp 1 0)), (103, cj (e 1) (SV.own 9)), (104, cj (e 2) (iv (p.pl))), (105, cj (e 3) (SV.bp 1 0)), (106, cj (e 4) (SV.own 9)), (107, cj (e 5) (iv (p.pl))), (108, cj (e 6) (SV.oe 9 8 (Int.toNat p.pl) 0)), (109, cj (e 7) (SV.oe 9 8 (Int.toNat p.pl) 5)), (110, cj (e 8) (SV.own 10)), (111, cj (e 9) (iv (idxI (Nd.kids ((outSt l c.pl).getD (Int.toNat p.pl) default)) ((ah.getD 0 default).pl)))), (112, cj (e 10) (iv (c.pl))), (113, cj (e 11) (inRow ([c.pl]))), (114, cj (e 12) (SV.own 11)), (115, cj (e 13) (SV.oe 9 8 (Int.toNat p.pl) 0)), (116, cj (e 14) (SV.oe 9 8 (Int.toNat p.pl) 5)), (4, SV.bp 1 0), (8, SV.bp 4 0), (11, iv (p.pl)), (12, iv (c.pl)), (13, iv (idxI (Nd.kids ((outSt l c.pl).getD (Int.toNat p.pl) default)) ((ah.getD 0 default).pl)))], (cb (e 12) (cb (e 15) [(1, Own.box 1 (fun zt => SV.renm (rn [(1000, 1), (1001, 8), (0, 9)]) ((cmpG [SV.own 0]) zt)) 24), (4, Own.box 1 (cmpG [SV.v (Value.slice none 0 0)]) 24), (9, urowOf ndCell 8 default (outSt l c.pl) 61 5 Nd.kids inCell 1 0 3 l.length (some (Int.toNat p.pl, SV.own 11))), (11, ownOf inCell 1 0 ((Nd.kids ((outSt l c.pl).getD (Int.toNat p.pl) default)).take (Int.toNat (idxI (Nd.kids ((outSt l c.pl).getD (Int.toNat p.pl) default)) ((ah.getD 0 default).pl))) ++ ([c.pl]) ++ (Nd.kids ((outSt l c.pl).getD (Int.toNat p.pl) default)).drop (Int.toNat (idxI (Nd.kids ((outSt l c.pl).getD (Int.toNat p.pl) default)) ((ah.getD 0 default).pl)))) 3)] [(1, Own.box 1 (fun zt => SV.renm (rn [(1000, 1), (1001, 8), (0, 9)]) ((cmpG [SV.own 0]) zt)) 24), (4, Own.box 1 (cmpG [SV.v (Value.slice none 0 0)]) 24), (9, urowOf ndCell 8 default (outSt l c.pl) 61 5 Nd.kids inCell 1 0 3 l.length (some (Int.toNat p.pl, SV.own 10))), (11, ownOf inCell 1 0 ((Nd.kids ((outSt l c.pl).getD (Int.toNat p.pl) default)).take (Int.toNat (idxI (Nd.kids ((outSt l c.pl).getD (Int.toNat p.pl) default)) ((ah.getD 0 default).pl))) ++ ([c.pl]) ++ (Nd.kids ((outSt l c.pl).getD (Int.toNat p.pl) default)).drop (Int.toNat (idxI (Nd.kids ((outSt l c.pl).getD (Int.toNat p.pl) default)) ((ah.getD 0 default).pl)))) 3)]) (cb (e 15) [] [(1, Own.box 1 (fun zt => SV.renm (rn [(1000, 1), (1001, 8), (0, 9)]) ((cmpG [SV.own 0]) zt)) 24), (4, Own.box 1 (cmpG [SV.v (Value.slice none 0 0)]) 24), (9, urowOf ndCell 8 default (outSt l c.pl) 61 5 Nd.kids inCell 1 0 3 l.length (some (Int.toNat p.pl, SV.own 10))), (10, ownOf inCell 1 0 (Nd.kids ((outSt l c.pl).getD (Int.toNat p.pl) default)) 3)]))⟩ _
        simp only [h0, h1, h2, h3, h4, h5, h6, h7, h8, h9, h10, h11, h12, h13, h14, h15]
        show Weak _ ⟨[(102, SV.bp 1 0), (103, SV.own 9), (104, iv (p.pl)), (105, SV.bp 1 0), (106, SV.own 9), (107, iv (p.pl)), (108, SV.oe 9 8 (Int.toNat p.pl) 0), (109, SV.oe 9 8 (Int.toNat p.pl) 5), (110, SV.own 10), (111, iv (idxI (Nd.kids ((outSt l c.pl).getD (Int.toNat p.pl) default)) ((ah.getD 0 default).pl))), (112, iv (c.pl)), (113, inRow ([c.pl])), (114, SV.own 11), (115, SV.oe 9 8 (Int.toNat p.pl) 0), (116, SV.oe 9 8 (Int.toNat p.pl) 5), (4, SV.bp 1 0), (8, SV.bp 4 0), (11, iv (p.pl)), (12, iv (c.pl)), (13, iv (idxI (Nd.kids ((outSt l c.pl).getD (Int.toNat p.pl) default)) ((ah.getD 0 default).pl)))], [(1, Own.box 1 (fun zt => SV.renm (rn [(1000, 1), (1001, 8), (0, 9)]) ((cmpG [SV.own 0]) zt)) 24), (4, Own.box 1 (cmpG [SV.v (Value.slice none 0 0)]) 24), (9, urowOf ndCell 8 default (outSt l c.pl) 61 5 Nd.kids inCell 1 0 3 l.length (some (Int.toNat p.pl, SV.own 11))), (11, ownOf inCell 1 0 ((Nd.kids ((outSt l c.pl).getD (Int.toNat p.pl) default)).take (Int.toNat (idxI (Nd.kids ((outSt l c.pl).getD (Int.toNat p.pl) default)) ((ah.getD 0 default).pl))) ++ ([c.pl]) ++ (Nd.kids ((outSt l c.pl).getD (Int.toNat p.pl) default)).drop (Int.toNat (idxI (Nd.kids ((outSt l c.pl).getD (Int.toNat p.pl) default)) ((ah.getD 0 default).pl)))) 3)]⟩ _
        refine We ?_ ?_
        ·exact ⟨V rfl, V rfl, V rfl, V rfl, V rfl, V rfl, V rfl, V rfl, V rfl, V rfl, V rfl, V rfl, V rfl, V rfl, V rfl, V rfl, V rfl, V rfl, V rfl, V rfl, Z⟩
        ·exact ⟨⟨_, rfl, ⟨rfl, rfl, (An rfl)⟩⟩, ⟨_, rfl, ⟨rfl, rfl, (An rfl)⟩⟩, ⟨_, rfl, rfl⟩, ⟨_, rfl, rfl⟩, Z⟩
       exact Sq <| Tc (turn_joinT 9 (Int.toNat p.pl) 11 l.length ({ ((outSt l c.pl).getD (Int.toNat p.pl) default) with kids := (Nd.kids ((outSt l c.pl).getD (Int.toNat p.pl) default)).take (Int.toNat (idxI (Nd.kids ((outSt l c.pl).getD (Int.toNat p.pl) default)) ((ah.getD 0 default).pl))) ++ ([c.pl]) ++ (Nd.kids ((outSt l c.pl).getD (Int.toNat p.pl) default)).drop (Int.toNat (idxI (Nd.kids ((outSt l c.pl).getD (Int.toNat p.pl) default)) ((ah.getD 0 default).pl))) }) rfl rfl rfl (by first | omega | (simp only [List.length_set]; omega)) (by omega) (by rw [if_pos (by omega)]) rfl rfl (fun t ht hne => match t, ht, hne with | 0, _, _ => rfl | 1, _, _ => rfl | 2, _, _ => rfl | 3, _, _ => rfl | 4, _, _ => rfl | 5, _, hne => absurd rfl hne | 6, _, _ => rfl | 7, _, _ => rfl) rfl) <| Rt <| U (FlB _ _ (V rfl) Un24 rfl 0 Sz22) <| U (LdB (V rfl) rfl Ga22 (by decide)) <| U (Mv (V rfl)) <| U (Mv (V rfl)) <| U (q_idxU (V rfl) rfl (V rfl) ts22 te22 (by omega) (by first | omega | (simp only [List.length_set]; omega))) <| U (FlO _ _ (V rfl) Un61 rfl 0 Sz3) <| t_stUT ({ (((outSt l c.pl).set (Int.toNat p.pl) ({ ((outSt l c.pl).getD (Int.toNat p.pl) default) with kids := (Nd.kids ((outSt l c.pl).getD (Int.toNat p.pl) default)).take (Int.toNat (idxI (Nd.kids ((outSt l c.pl).getD (Int.toNat p.pl) default)) ((ah.getD 0 default).pl))) ++ ([c.pl]) ++ (Nd.kids ((outSt l c.pl).getD (Int.toNat p.pl) default)).drop (Int.toNat (idxI (Nd.kids ((outSt l c.pl).getD (Int.toNat p.pl) default)) ((ah.getD 0 default).pl))) })).getD (Int.toNat c.pl) default) with par := p.pl }) (V rfl) rfl (V rfl) rfl rfl Sz3 (by decide) (by decide) (by first | omega | (simp only [List.length_set]; omega)) rfl (fun t ht hne => match t, ht, hne with | 0, _, _ => rfl | 1, _, _ => rfl | 2, _, _ => rfl | 3, _, _ => rfl | 4, _, hne => absurd rfl hne | 5, _, _ => rfl | 6, _, _ => rfl | 7, _, _ => rfl) rfl <| Nt <| Sq <| Rt <| U (LBA (V rfl) rfl Ga24 Sz24 (by decide)) <| StA (V rfl) rfl (V rfl) Sz24 <| U (As K) <| Nt <| Tc (turn_uAT 9 rfl rfl (fun _ => rfl)) <| FzC 9 rfl <| Rx <| RR2 rfl (rv_aggI (g' := stG (((outSt l c.pl).set (Int.toNat p.pl) ({ ((outSt l c.pl).getD (Int.toNat p.pl) default) with kids := (Nd.kids ((outSt l c.pl).getD (Int.toNat p.pl) default)).take (Int.toNat (idxI (Nd.kids ((outSt l c.pl).getD (Int.toNat p.pl) default)) ((ah.getD 0 default).pl))) ++ ([c.pl]) ++ (Nd.kids ((outSt l c.pl).getD (Int.toNat p.pl) default)).drop (Int.toNat (idxI (Nd.kids ((outSt l c.pl).getD (Int.toNat p.pl) default)) ((ah.getD 0 default).pl))) })).set (Int.toNat c.pl) ({ (((outSt l c.pl).set (Int.toNat p.pl) ({ ((outSt l c.pl).getD (Int.toNat p.pl) default) with kids := (Nd.kids ((outSt l c.pl).getD (Int.toNat p.pl) default)).take (Int.toNat (idxI (Nd.kids ((outSt l c.pl).getD (Int.toNat p.pl) default)) ((ah.getD 0 default).pl))) ++ ([c.pl]) ++ (Nd.kids ((outSt l c.pl).getD (Int.toNat p.pl) default)).drop (Int.toNat (idxI (Nd.kids ((outSt l c.pl).getD (Int.toNat p.pl) default)) ((ah.getD 0 default).pl))) })).getD (Int.toNat c.pl) default) with par := p.pl }))) (rv_cell (V rfl) rfl Ga24 Sz24) ⟨Z, Ir⟩) (rv_tmp (V rfl)) rfl rfl (by show sv2 (SV.agg 1 (stG (((outSt l c.pl).set (Int.toNat p.pl) ({ ((outSt l c.pl).getD (Int.toNat p.pl) default) with kids := (Nd.kids ((outSt l c.pl).getD (Int.toNat p.pl) default)).take (Int.toNat (idxI (Nd.kids ((outSt l c.pl).getD (Int.toNat p.pl) default)) ((ah.getD 0 default).pl))) ++ ([c.pl]) ++ (Nd.kids ((outSt l c.pl).getD (Int.toNat p.pl) default)).drop (Int.toNat (idxI (Nd.kids ((outSt l c.pl).getD (Int.toNat p.pl) default)) ((ah.getD 0 default).pl))) })).set (Int.toNat c.pl) ({ (((outSt l c.pl).set (Int.toNat p.pl) ({ ((outSt l c.pl).getD (Int.toNat p.pl) default) with kids := (Nd.kids ((outSt l c.pl).getD (Int.toNat p.pl) default)).take (Int.toNat (idxI (Nd.kids ((outSt l c.pl).getD (Int.toNat p.pl) default)) ((ah.getD 0 default).pl))) ++ ([c.pl]) ++ (Nd.kids ((outSt l c.pl).getD (Int.toNat p.pl) default)).drop (Int.toNat (idxI (Nd.kids ((outSt l c.pl).getD (Int.toNat p.pl) default)) ((ah.getD 0 default).pl))) })).getD (Int.toNat c.pl) default) with par := p.pl })))) (iv (0)) = sv2 (SV.agg 1 (stG (insSt l p c ah).1)) (iv (insSt l p c ah).2); rw [ins_6 (by omega) hc2s hq3 hq4 hq5, insPos, if_pos hah]; rfl)
      ·have hc6s := hc6; try simp only [BL] at hc6s
       refine Sk <| Sq <| c_rd (fun e => ⟨[(102, cj (e 0) (SV.bp 1 0)), (103, cj (e 1) (SV.own 9)), (104, cj (e 2) (iv (p.pl))), (105, cj (e 3) (SV.bp 1 0)), (106, cj (e 4) (SV.own 9)), (107, cj (e 5) (iv (p.pl))), (108, cj (e 6) (SV.oe 9 8 (Int.toNat p.pl) 0)), (109, cj (e 7) (SV.oe 9 8 (Int.toNat p.pl) 5)), (110, cj (e 8) (SV.own 10)), (111, cj (e 9) (iv (((Nd.kids ((outSt l c.pl).getD (Int.toNat p.pl) default)).length : Int)))), (112, cj (e 10) (iv (c.pl))), (113, cj (e 11) (inRow ([c.pl]))), (114, cj (e 12) (SV.own 12)), (115, cj (e 13) (SV.oe 9 8 (Int.toNat p.pl) 0)), (116, cj (e 14) (SV.oe 9 8 (Int.toNat p.pl) 5)), (4, SV.bp 1 0), (8, SV.bp 4 0), (11, iv (p.pl)), (12, iv (c.pl)), (13, iv (((Nd.kids ((outSt l c.pl).getD (Int.toNat p.pl) default)).length : Int)))], (cb (e 12) (cb (e 15) [(1, Own.box 1 (fun zt => SV.renm (rn [(1000, 1), (1001, 8), (0, 9)]) ((cmpG [SV.own 0]) zt)) 24), (4, Own.box 1 (cmpG [SV.v (Value.slice none 0 0)]) 24), (9, urowOf ndCell 8 default (outSt l c.pl) 61 5 Nd.kids inCell 1 0 3 l.length (some (Int.toNat p.pl, SV.own 12))), (12, ownOf inCell 1 0 ((Nd.kids ((outSt l c.pl).getD (Int.toNat p.pl) default)).take ((Nd.kids ((outSt l c.pl).getD (Int.toNat p.pl) default)).length) ++ ([c.pl]) ++ (Nd.kids ((outSt l c.pl).getD (Int.toNat p.pl) default)).drop ((Nd.kids ((outSt l c.pl).getD (Int.toNat p.pl) default)).length)) 3)] [(1, Own.box 1 (fun zt => SV.renm (rn [(1000, 1), (1001, 8), (0, 9)]) ((cmpG [SV.own 0]) zt)) 24), (4, Own.box 1 (cmpG [SV.v (Value.slice none 0 0)]) 24), (9, urowOf ndCell 8 default (outSt l c.pl) 61 5 Nd.kids inCell 1 0 3 l.length (some (Int.toNat p.pl, SV.own 10))), (12, ownOf inCell 1 0 ((Nd.kids ((outSt l c.pl).getD (Int.toNat p.pl) default)).take ((Nd.kids ((outSt l c.pl).getD (Int.toNat p.pl) default)).length) ++ ([c.pl]) ++ (Nd.kids ((outSt l c.pl).getD (Int.toNat p.pl) default)).drop ((Nd.kids ((outSt l c.pl).getD (Int.toNat p.pl) default)).length)) 3)]) (cb (e 15) [] [(1, Own.box 1 (fun zt => SV.renm (rn [(1000, 1), (1001, 8), (0, 9)]) ((cmpG [SV.own 0]) zt)) 24), (4, Own.box 1 (cmpG [SV.v (Value.slice none 0 0)]) 24), (9, urowOf ndCell 8 default (outSt l c.pl) 61 5 Nd.kids inCell 1 0 3 l.length (some (Int.toNat p.pl, SV.own 10))), (10, ownOf inCell 1 0 (Nd.kids ((outSt l c.pl).getD (Int.toNat p.pl) default)) 3)]))⟩) ⟨[(102, SV.bp 1 0), (103, SV.own 9), (104, iv (p.pl)), (105, SV.bp 1 0), (106, SV.own 9), (107, iv (p.pl)), (108, SV.oe 9 8 (Int.toNat p.pl) 0), (109, SV.oe 9 8 (Int.toNat p.pl) 5), (110, SV.own 10), (111, iv (((Nd.kids ((outSt l c.pl).getD (Int.toNat p.pl) default)).length : Int))), (112, iv (c.pl)), (113, inRow ([c.pl])), (114, SV.own 12), (115, SV.oe 9 8 (Int.toNat p.pl) 0), (116, SV.oe 9 8 (Int.toNat p.pl) 5), (4, SV.bp 1 0), (8, SV.bp 4 0), (11, iv (p.pl)), (12, iv (c.pl)), (13, iv (((Nd.kids ((outSt l c.pl).getD (Int.toNat p.pl) default)).length : Int)))], [(1, Own.box 1 (fun zt => SV.renm (rn [(1000, 1), (1001, 8), (0, 9)]) ((cmpG [SV.own 0]) zt)) 24), (4, Own.box 1 (cmpG [SV.v (Value.slice none 0 0)]) 24), (9, urowOf ndCell 8 default (outSt l c.pl) 61 5 Nd.kids inCell 1 0 3 l.length (some (Int.toNat p.pl, SV.own 12))), (12, ownOf inCell 1 0 ((Nd.kids ((outSt l c.pl).getD (Int.toNat p.pl) default)).take ((Nd.kids ((outSt l c.pl).getD (Int.toNat p.pl) default)).length) ++ ([c.pl]) ++ (Nd.kids ((outSt l c.pl).getD (Int.toNat p.pl) default)).drop ((Nd.kids ((outSt l c.pl).getD (Int.toNat p.pl) default)).length)) 3)]⟩ (by kernel_rfl) (by kernel_rfl) ?_ ⟨?_, ?_, ?_, ?_, ?_, ?_, ?_, ?_, ?_, ?_, ?_, ?_, ?_, ?_, ?_, ?_, Z⟩ ?_ ?_
       ·show Weak _ _ ⟨[(102, SV.junk), (103, SV.junk), (104, SV.junk), (105, SV.junk), (106, SV.junk), (107, SV.junk), (108, SV.junk), (109, SV.junk), (110, SV.junk), (111, SV.junk), (112, SV.junk), (113, SV.junk), (114, SV.junk), (115, SV.junk), (116, SV.junk), (4, SV.bp 1 0), (8, SV.bp 4 0), (11, iv (p.pl)), (12, iv (c.pl)), (13, iv (((Nd.kids ((outSt l c.pl).getD (Int.toNat p.pl) default)).length : Int)))], [(1, Own.box 1 (fun zt => SV.renm (rn [(1000, 1), (1001, 8), (0, 9)]) ((cmpG [SV.own 0]) zt)) 24), (4, Own.box 1 (cmpG [SV.v (Value.slice none 0 0)]) 24), (9, urowOf ndCell 8 default (outSt l c.pl) 61 5 Nd.kids inCell 1 0 3 l.length (some (Int.toNat p.pl, SV.own 10))), (10, ownOf inCell 1 0 (Nd.kids ((outSt l c.pl).getD (Int.toNat p.pl) default)) 3)]⟩
        refine We ?_ ?_
        ·exact ⟨Vj, Vj, Vj, Vj, Vj, Vj, Vj, Vj, Vj, Vj, Vj, Vj, Vj, Vj, Vj, V rfl, V rfl, V rfl, V rfl, V rfl, Z⟩
        ·exact ⟨⟨_, rfl, ⟨rfl, rfl, (An rfl)⟩⟩, ⟨_, rfl, ⟨rfl, rfl, (An rfl)⟩⟩, ⟨_, rfl, rfl⟩, ⟨_, rfl, rfl⟩, Z⟩
       ·intro e hdn he hdp
        have h15 : e 15 = false := fls he fun q => by obtain ⟨r14, -, -, -, -, -, -, -, -, -, -, -, -, -, -, -, -⟩ := (show e 14 = true ∧ e 12 = true ∧ e 12 = true ∧ e 0 = true ∧ e 1 = true ∧ e 2 = true ∧ e 3 = true ∧ e 4 = true ∧ e 5 = true ∧ e 6 = true ∧ e 7 = true ∧ e 8 = true ∧ e 9 = true ∧ e 10 = true ∧ e 11 = true ∧ e 12 = true ∧ True from hdn 15 q); obtain ⟨r13, -, -, -, -, -, -, -, -, -, -, -, -, -, -⟩ := (show e 13 = true ∧ e 0 = true ∧ e 1 = true ∧ e 2 = true ∧ e 3 = true ∧ e 4 = true ∧ e 5 = true ∧ e 6 = true ∧ e 7 = true ∧ e 8 = true ∧ e 9 = true ∧ e 10 = true ∧ e 11 = true ∧ e 12 = true ∧ True from hdn 14 r14); obtain ⟨r1, -, -, -, -, -, -, -, -, -, -, -, -, -, -, -⟩ := (show e 1 = true ∧ e 2 = true ∧ e 0 = true ∧ e 1 = true ∧ e 2 = true ∧ e 3 = true ∧ e 4 = true ∧ e 5 = true ∧ e 6 = true ∧ e 7 = true ∧ e 8 = true ∧ e 9 = true ∧ e 10 = true ∧ e 11 = true ∧ e 12 = true ∧ True from hdn 13 r13); obtain ⟨r0, -⟩ := (show e 0 = true ∧ True from hdn 1 r1); exact r0
        simp only [setE, he, h15, cj_t, cj_f, cjn_t, cjn_f, cb_t, cb_f]
        exact U (FlB _ _ (V rfl) Un24 rfl 0 Sz22) <| Nt <| weakS ⟨V rfl, V rfl, V rfl, V rfl, V rfl, V rfl, V rfl, V rfl, V rfl, V rfl, V rfl, V rfl, V rfl, V rfl, V rfl, V rfl, V rfl, V rfl, V rfl, V rfl, Z⟩
       ·intro e hdn he hdp
        obtain ⟨h0, -⟩ := (show e 0 = true ∧ True from hdp)
        have h15 : e 15 = false := fls he fun q => by obtain ⟨r14, -, -, -, -, -, -, -, -, -, -, -, -, -, -, -, -⟩ := (show e 14 = true ∧ e 12 = true ∧ e 12 = true ∧ e 0 = true ∧ e 1 = true ∧ e 2 = true ∧ e 3 = true ∧ e 4 = true ∧ e 5 = true ∧ e 6 = true ∧ e 7 = true ∧ e 8 = true ∧ e 9 = true ∧ e 10 = true ∧ e 11 = true ∧ e 12 = true ∧ True from hdn 15 q); obtain ⟨r13, -, -, -, -, -, -, -, -, -, -, -, -, -, -⟩ := (show e 13 = true ∧ e 0 = true ∧ e 1 = true ∧ e 2 = true ∧ e 3 = true ∧ e 4 = true ∧ e 5 = true ∧ e 6 = true ∧ e 7 = true ∧ e 8 = true ∧ e 9 = true ∧ e 10 = true ∧ e 11 = true ∧ e 12 = true ∧ True from hdn 14 r14); obtain ⟨r1, -, -, -, -, -, -, -, -, -, -, -, -, -, -, -⟩ := (show e 1 = true ∧ e 2 = true ∧ e 0 = true ∧ e 1 = true ∧ e 2 = true ∧ e 3 = true ∧ e 4 = true ∧ e 5 = true ∧ e 6 = true ∧ e 7 = true ∧ e 8 = true ∧ e 9 = true ∧ e 10 = true ∧ e 11 = true ∧ e 12 = true ∧ True from hdn 13 r13); exact r1
        cases hu12 : e 12
        ·simp only [setE, h0, he, h15, hu12, cj_t, cj_f, cjn_t, cjn_f, cb_t, cb_f]
         refine U (LdB (V rfl) rfl Ga22 (by decide)) <| Nt <| We ?_ ?_
         ·exact ⟨V rfl, V rfl, V rfl, V rfl, V rfl, V rfl, V rfl, V rfl, V rfl, V rfl, V rfl, V rfl, Vj, V rfl, V rfl, V rfl, V rfl, V rfl, V rfl, V rfl, Z⟩
         ·exact ⟨⟨_, rfl, ⟨rfl, rfl, (An rfl)⟩⟩, ⟨_, rfl, ⟨rfl, rfl, (An rfl)⟩⟩, ⟨_, rfl, rfl⟩, ⟨_, rfl, rfl⟩, Z⟩
        ·simp only [setE, h0, he, h15, hu12, cj_t, cj_f, cjn_t, cjn_f, cb_t, cb_f]
         refine U (LdB (V rfl) rfl Ga22 (by decide)) <| Nt <| We ?_ ?_
         ·exact ⟨V rfl, V rfl, V rfl, V rfl, V rfl, V rfl, V rfl, V rfl, V rfl, V rfl, V rfl, V rfl, V rfl, V rfl, V rfl, V rfl, V rfl, V rfl, V rfl, V rfl, Z⟩
         ·exact ⟨⟨_, rfl, ⟨rfl, rfl, (An rfl)⟩⟩, ⟨_, rfl, ⟨rfl, rfl, (An rfl)⟩⟩, ⟨_, rfl, rfl⟩, ⟨_, rfl, rfl⟩, Z⟩
       ·intro e hdn he hdp
        have h15 : e 15 = false := fls he fun q => by obtain ⟨r14, -, -, -, -, -, -, -, -, -, -, -, -, -, -, -, -⟩ := (show e 14 = true ∧ e 12 = true ∧ e 12 = true ∧ e 0 = true ∧ e 1 = true ∧ e 2 = true ∧ e 3 = true ∧ e 4 = true ∧ e 5 = true ∧ e 6 = true ∧ e 7 = true ∧ e 8 = true ∧ e 9 = true ∧ e 10 = true ∧ e 11 = true ∧ e 12 = true ∧ True from hdn 15 q); obtain ⟨r13, -, -, -, -, -, -, -, -, -, -, -, -, -, -⟩ := (show e 13 = true ∧ e 0 = true ∧ e 1 = true ∧ e 2 = true ∧ e 3 = true ∧ e 4 = true ∧ e 5 = true ∧ e 6 = true ∧ e 7 = true ∧ e 8 = true ∧ e 9 = true ∧ e 10 = true ∧ e 11 = true ∧ e 12 = true ∧ True from hdn 14 r14); obtain ⟨-, r2, -, -, -, -, -, -, -, -, -, -, -, -, -, -⟩ := (show e 1 = true ∧ e 2 = true ∧ e 0 = true ∧ e 1 = true ∧ e 2 = true ∧ e 3 = true ∧ e 4 = true ∧ e 5 = true ∧ e 6 = true ∧ e 7 = true ∧ e 8 = true ∧ e 9 = true ∧ e 10 = true ∧ e 11 = true ∧ e 12 = true ∧ True from hdn 13 r13); exact r2
        simp only [setE, he, h15, cj_t, cj_f, cjn_t, cjn_f, cb_t, cb_f]
        exact U (Mv (V rfl)) <| Nt <| weakS ⟨V rfl, V rfl, V rfl, V rfl, V rfl, V rfl, V rfl, V rfl, V rfl, V rfl, V rfl, V rfl, V rfl, V rfl, V rfl, V rfl, V rfl, V rfl, V rfl, V rfl, Z⟩
       ·intro e hdn he hdp
        have h12 : e 12 = false := fls he fun q => by obtain ⟨r8, -, -, -⟩ := (show e 8 = true ∧ e 9 = true ∧ e 11 = true ∧ True from hdn 12 q); obtain ⟨r7, -⟩ := (show e 7 = true ∧ True from hdn 8 r8); obtain ⟨r6, -⟩ := (show e 6 = true ∧ True from hdn 7 r7); obtain ⟨r4, -, -⟩ := (show e 4 = true ∧ e 5 = true ∧ True from hdn 6 r6); obtain ⟨r3, -⟩ := (show e 3 = true ∧ True from hdn 4 r4); exact r3
        have h15 : e 15 = false := fls he fun q => by obtain ⟨r14, -, -, -, -, -, -, -, -, -, -, -, -, -, -, -, -⟩ := (show e 14 = true ∧ e 12 = true ∧ e 12 = true ∧ e 0 = true ∧ e 1 = true ∧ e 2 = true ∧ e 3 = true ∧ e 4 = true ∧ e 5 = true ∧ e 6 = true ∧ e 7 = true ∧ e 8 = true ∧ e 9 = true ∧ e 10 = true ∧ e 11 = true ∧ e 12 = true ∧ True from hdn 15 q); obtain ⟨r13, -, -, -, -, -, -, -, -, -, -, -, -, -, -⟩ := (show e 13 = true ∧ e 0 = true ∧ e 1 = true ∧ e 2 = true ∧ e 3 = true ∧ e 4 = true ∧ e 5 = true ∧ e 6 = true ∧ e 7 = true ∧ e 8 = true ∧ e 9 = true ∧ e 10 = true ∧ e 11 = true ∧ e 12 = true ∧ True from hdn 14 r14); obtain ⟨-, -, -, -, -, -, -, -, -, -, -, -, -, -, r12, -⟩ := (show e 1 = true ∧ e 2 = true ∧ e 0 = true ∧ e 1 = true ∧ e 2 = true ∧ e 3 = true ∧ e 4 = true ∧ e 5 = true ∧ e 6 = true ∧ e 7 = true ∧ e 8 = true ∧ e 9 = true ∧ e 10 = true ∧ e 11 = true ∧ e 12 = true ∧ True from hdn 13 r13); obtain ⟨r8, -, -, -⟩ := (show e 8 = true ∧ e 9 = true ∧ e 11 = true ∧ True from hdn 12 r12); obtain ⟨r7, -⟩ := (show e 7 = true ∧ True from hdn 8 r8); obtain ⟨r6, -⟩ := (show e 6 = true ∧ True from hdn 7 r7); obtain ⟨r4, -, -⟩ := (show e 4 = true ∧ e 5 = true ∧ True from hdn 6 r6); obtain ⟨r3, -⟩ := (show e 3 = true ∧ True from hdn 4 r4); exact r3
        simp only [setE, he, h12, h15, cj_t, cj_f, cjn_t, cjn_f, cb_t, cb_f]
        refine U (FlB _ _ (V rfl) Un24 rfl 0 Sz22) <| Nt <| We ?_ ?_
        ·exact ⟨V rfl, V rfl, V rfl, V rfl, V rfl, V rfl, V rfl, V rfl, V rfl, V rfl, V rfl, V rfl, Vj, V rfl, V rfl, V rfl, V rfl, V rfl, V rfl, V rfl, Z⟩
        ·exact ⟨⟨_, rfl, ⟨rfl, rfl, (An rfl)⟩⟩, ⟨_, rfl, ⟨rfl, rfl, (An rfl)⟩⟩, ⟨_, rfl, rfl⟩, ⟨_, rfl, rfl⟩, Z⟩
       ·intro e hdn he hdp
        obtain ⟨h3, -⟩ := (show e 3 = true ∧ True from hdp)
        have h12 : e 12 = false := fls he fun q => by obtain ⟨r8, -, -, -⟩ := (show e 8 = true ∧ e 9 = true ∧ e 11 = true ∧ True from hdn 12 q); obtain ⟨r7, -⟩ := (show e 7 = true ∧ True from hdn 8 r8); obtain ⟨r6, -⟩ := (show e 6 = true ∧ True from hdn 7 r7); obtain ⟨r4, -, -⟩ := (show e 4 = true ∧ e 5 = true ∧ True from hdn 6 r6); exact r4
        have h15 : e 15 = false := fls he fun q => by obtain ⟨r14, -, -, -, -, -, -, -, -, -, -, -, -, -, -, -, -⟩ := (show e 14 = true ∧ e 12 = true ∧ e 12 = true ∧ e 0 = true ∧ e 1 = true ∧ e 2 = true ∧ e 3 = true ∧ e 4 = true ∧ e 5 = true ∧ e 6 = true ∧ e 7 = true ∧ e 8 = true ∧ e 9 = true ∧ e 10 = true ∧ e 11 = true ∧ e 12 = true ∧ True from hdn 15 q); obtain ⟨r13, -, -, -, -, -, -, -, -, -, -, -, -, -, -⟩ := (show e 13 = true ∧ e 0 = true ∧ e 1 = true ∧ e 2 = true ∧ e 3 = true ∧ e 4 = true ∧ e 5 = true ∧ e 6 = true ∧ e 7 = true ∧ e 8 = true ∧ e 9 = true ∧ e 10 = true ∧ e 11 = true ∧ e 12 = true ∧ True from hdn 14 r14); obtain ⟨-, -, -, -, -, -, -, -, -, -, -, -, -, -, r12, -⟩ := (show e 1 = true ∧ e 2 = true ∧ e 0 = true ∧ e 1 = true ∧ e 2 = true ∧ e 3 = true ∧ e 4 = true ∧ e 5 = true ∧ e 6 = true ∧ e 7 = true ∧ e 8 = true ∧ e 9 = true ∧ e 10 = true ∧ e 11 = true ∧ e 12 = true ∧ True from hdn 13 r13); obtain ⟨r8, -, -, -⟩ := (show e 8 = true ∧ e 9 = true ∧ e 11 = true ∧ True from hdn 12 r12); obtain ⟨r7, -⟩ := (show e 7 = true ∧ True from hdn 8 r8); obtain ⟨r6, -⟩ := (show e 6 = true ∧ True from hdn 7 r7); obtain ⟨r4, -, -⟩ := (show e 4 = true ∧ e 5 = true ∧ True from hdn 6 r6); exact r4
        simp only [setE, h3, he, h12, h15, cj_t, cj_f, cjn_t, cjn_f, cb_t, cb_f]
        refine U (LdB (V rfl) rfl Ga22 (by decide)) <| Nt <| We ?_ ?_
        ·exact ⟨V rfl, V rfl, V rfl, V rfl, V rfl, V rfl, V rfl, V rfl, V rfl, V rfl, V rfl, V rfl, Vj, V rfl, V rfl, V rfl, V rfl, V rfl, V rfl, V rfl, Z⟩
        ·exact ⟨⟨_, rfl, ⟨rfl, rfl, (An rfl)⟩⟩, ⟨_, rfl, ⟨rfl, rfl, (An rfl)⟩⟩, ⟨_, rfl, rfl⟩, ⟨_, rfl, rfl⟩, Z⟩
       ·intro e hdn he hdp
        have h12 : e 12 = false := fls he fun q => by obtain ⟨r8, -, -, -⟩ := (show e 8 = true ∧ e 9 = true ∧ e 11 = true ∧ True from hdn 12 q); obtain ⟨r7, -⟩ := (show e 7 = true ∧ True from hdn 8 r8); obtain ⟨r6, -⟩ := (show e 6 = true ∧ True from hdn 7 r7); obtain ⟨-, r5, -⟩ := (show e 4 = true ∧ e 5 = true ∧ True from hdn 6 r6); exact r5
        have h15 : e 15 = false := fls he fun q => by obtain ⟨r14, -, -, -, -, -, -, -, -, -, -, -, -, -, -, -, -⟩ := (show e 14 = true ∧ e 12 = true ∧ e 12 = true ∧ e 0 = true ∧ e 1 = true ∧ e 2 = true ∧ e 3 = true ∧ e 4 = true ∧ e 5 = true ∧ e 6 = true ∧ e 7 = true ∧ e 8 = true ∧ e 9 = true ∧ e 10 = true ∧ e 11 = true ∧ e 12 = true ∧ True from hdn 15 q); obtain ⟨r13, -, -, -, -, -, -, -, -, -, -, -, -, -, -⟩ := (show e 13 = true ∧ e 0 = true ∧ e 1 = true ∧ e 2 = true ∧ e 3 = true ∧ e 4 = true ∧ e 5 = true ∧ e 6 = true ∧ e 7 = true ∧ e 8 = true ∧ e 9 = true ∧ e 10 = true ∧ e 11 = true ∧ e 12 = true ∧ True from hdn 14 r14); obtain ⟨-, -, -, -, -, -, -, -, -, -, -, -, -, -, r12, -⟩ := (show e 1 = true ∧ e 2 = true ∧ e 0 = true ∧ e 1 = true ∧ e 2 = true ∧ e 3 = true ∧ e 4 = true ∧ e 5 = true ∧ e 6 = true ∧ e 7 = true ∧ e 8 = true ∧ e 9 = true ∧ e 10 = true ∧ e 11 = true ∧ e 12 = true ∧ True from hdn 13 r13); obtain ⟨r8, -, -, -⟩ := (show e 8 = true ∧ e 9 = true ∧ e 11 = true ∧ True from hdn 12 r12); obtain ⟨r7, -⟩ := (show e 7 = true ∧ True from hdn 8 r8); obtain ⟨r6, -⟩ := (show e 6 = true ∧ True from hdn 7 r7); obtain ⟨-, r5, -⟩ := (show e 4 = true ∧ e 5 = true ∧ True from hdn 6 r6); exact r5
        simp only [setE, he, h12, h15, cj_t, cj_f, cjn_t, cjn_f, cb_t, cb_f]
        refine U (Mv (V rfl)) <| Nt <| We ?_ ?_
        ·exact ⟨V rfl, V rfl, V rfl, V rfl, V rfl, V rfl, V rfl, V rfl, V rfl, V rfl, V rfl, V rfl, Vj, V rfl, V rfl, V rfl, V rfl, V rfl, V rfl, V rfl, Z⟩
        ·exact ⟨⟨_, rfl, ⟨rfl, rfl, (An rfl)⟩⟩, ⟨_, rfl, ⟨rfl, rfl, (An rfl)⟩⟩, ⟨_, rfl, rfl⟩, ⟨_, rfl, rfl⟩, Z⟩
       ·intro e hdn he hdp
        obtain ⟨h4, h5, -⟩ := (show e 4 = true ∧ e 5 = true ∧ True from hdp)
        obtain ⟨h3, -⟩ := (show e 3 = true ∧ True from hdn 4 h4)
        have h12 : e 12 = false := fls he fun q => by obtain ⟨r8, -, -, -⟩ := (show e 8 = true ∧ e 9 = true ∧ e 11 = true ∧ True from hdn 12 q); obtain ⟨r7, -⟩ := (show e 7 = true ∧ True from hdn 8 r8); obtain ⟨r6, -⟩ := (show e 6 = true ∧ True from hdn 7 r7); exact r6
        have h15 : e 15 = false := fls he fun q => by obtain ⟨r14, -, -, -, -, -, -, -, -, -, -, -, -, -, -, -, -⟩ := (show e 14 = true ∧ e 12 = true ∧ e 12 = true ∧ e 0 = true ∧ e 1 = true ∧ e 2 = true ∧ e 3 = true ∧ e 4 = true ∧ e 5 = true ∧ e 6 = true ∧ e 7 = true ∧ e 8 = true ∧ e 9 = true ∧ e 10 = true ∧ e 11 = true ∧ e 12 = true ∧ True from hdn 15 q); obtain ⟨r13, -, -, -, -, -, -, -, -, -, -, -, -, -, -⟩ := (show e 13 = true ∧ e 0 = true ∧ e 1 = true ∧ e 2 = true ∧ e 3 = true ∧ e 4 = true ∧ e 5 = true ∧ e 6 = true ∧ e 7 = true ∧ e 8 = true ∧ e 9 = true ∧ e 10 = true ∧ e 11 = true ∧ e 12 = true ∧ True from hdn 14 r14); obtain ⟨-, -, -, -, -, -, -, -, -, -, -, -, -, -, r12, -⟩ := (show e 1 = true ∧ e 2 = true ∧ e 0 = true ∧ e 1 = true ∧ e 2 = true ∧ e 3 = true ∧ e 4 = true ∧ e 5 = true ∧ e 6 = true ∧ e 7 = true ∧ e 8 = true ∧ e 9 = true ∧ e 10 = true ∧ e 11 = true ∧ e 12 = true ∧ True from hdn 13 r13); obtain ⟨r8, -, -, -⟩ := (show e 8 = true ∧ e 9 = true ∧ e 11 = true ∧ True from hdn 12 r12); obtain ⟨r7, -⟩ := (show e 7 = true ∧ True from hdn 8 r8); obtain ⟨r6, -⟩ := (show e 6 = true ∧ True from hdn 7 r7); exact r6
        simp only [setE, h3, h4, h5, he, h12, h15, cj_t, cj_f, cjn_t, cjn_f, cb_t, cb_f]
        refine U (q_idxU (V rfl) rfl (V rfl) ts22 te22 (by omega) (by first | omega | (simp only [List.length_set]; omega))) <| Nt <| We ?_ ?_
        ·exact ⟨V rfl, V rfl, V rfl, V rfl, V rfl, V rfl, V rfl, V rfl, V rfl, V rfl, V rfl, V rfl, Vj, V rfl, V rfl, V rfl, V rfl, V rfl, V rfl, V rfl, Z⟩
        ·exact ⟨⟨_, rfl, ⟨rfl, rfl, (An rfl)⟩⟩, ⟨_, rfl, ⟨rfl, rfl, (An rfl)⟩⟩, ⟨_, rfl, rfl⟩, ⟨_, rfl, rfl⟩, Z⟩
       ·intro e hdn he hdp
        obtain ⟨h6, -⟩ := (show e 6 = true ∧ True from hdp)
        obtain ⟨h4, h5, -⟩ := (show e 4 = true ∧ e 5 = true ∧ True from hdn 6 h6)
        obtain ⟨h3, -⟩ := (show e 3 = true ∧ True from hdn 4 h4)
        have h12 : e 12 = false := fls he fun q => by obtain ⟨r8, -, -, -⟩ := (show e 8 = true ∧ e 9 = true ∧ e 11 = true ∧ True from hdn 12 q); obtain ⟨r7, -⟩ := (show e 7 = true ∧ True from hdn 8 r8); exact r7
        have h15 : e 15 = false := fls he fun q => by obtain ⟨r14, -, -, -, -, -, -, -, -, -, -, -, -, -, -, -, -⟩ := (show e 14 = true ∧ e 12 = true ∧ e 12 = true ∧ e 0 = true ∧ e 1 = true ∧ e 2 = true ∧ e 3 = true ∧ e 4 = true ∧ e 5 = true ∧ e 6 = true ∧ e 7 = true ∧ e 8 = true ∧ e 9 = true ∧ e 10 = true ∧ e 11 = true ∧ e 12 = true ∧ True from hdn 15 q); obtain ⟨r13, -, -, -, -, -, -, -, -, -, -, -, -, -, -⟩ := (show e 13 = true ∧ e 0 = true ∧ e 1 = true ∧ e 2 = true ∧ e 3 = true ∧ e 4 = true ∧ e 5 = true ∧ e 6 = true ∧ e 7 = true ∧ e 8 = true ∧ e 9 = true ∧ e 10 = true ∧ e 11 = true ∧ e 12 = true ∧ True from hdn 14 r14); obtain ⟨-, -, -, -, -, -, -, -, -, -, -, -, -, -, r12, -⟩ := (show e 1 = true ∧ e 2 = true ∧ e 0 = true ∧ e 1 = true ∧ e 2 = true ∧ e 3 = true ∧ e 4 = true ∧ e 5 = true ∧ e 6 = true ∧ e 7 = true ∧ e 8 = true ∧ e 9 = true ∧ e 10 = true ∧ e 11 = true ∧ e 12 = true ∧ True from hdn 13 r13); obtain ⟨r8, -, -, -⟩ := (show e 8 = true ∧ e 9 = true ∧ e 11 = true ∧ True from hdn 12 r12); obtain ⟨r7, -⟩ := (show e 7 = true ∧ True from hdn 8 r8); exact r7
        simp only [setE, h3, h4, h5, h6, he, h12, h15, cj_t, cj_f, cjn_t, cjn_f, cb_t, cb_f]
        refine U (FlO _ _ (V rfl) Un61 rfl 0 Sz33) <| Nt <| We ?_ ?_
        ·exact ⟨V rfl, V rfl, V rfl, V rfl, V rfl, V rfl, V rfl, V rfl, V rfl, V rfl, V rfl, V rfl, Vj, V rfl, V rfl, V rfl, V rfl, V rfl, V rfl, V rfl, Z⟩
        ·exact ⟨⟨_, rfl, ⟨rfl, rfl, (An rfl)⟩⟩, ⟨_, rfl, ⟨rfl, rfl, (An rfl)⟩⟩, ⟨_, rfl, rfl⟩, ⟨_, rfl, rfl⟩, Z⟩
       ·intro e hdn he hdp
        obtain ⟨h7, -⟩ := (show e 7 = true ∧ True from hdp)
        obtain ⟨h6, -⟩ := (show e 6 = true ∧ True from hdn 7 h7)
        obtain ⟨h4, h5, -⟩ := (show e 4 = true ∧ e 5 = true ∧ True from hdn 6 h6)
        obtain ⟨h3, -⟩ := (show e 3 = true ∧ True from hdn 4 h4)
        have h12 : e 12 = false := fls he fun q => by obtain ⟨r8, -, -, -⟩ := (show e 8 = true ∧ e 9 = true ∧ e 11 = true ∧ True from hdn 12 q); exact r8
        have h15 : e 15 = false := fls he fun q => by obtain ⟨r14, -, -, -, -, -, -, -, -, -, -, -, -, -, -, -, -⟩ := (show e 14 = true ∧ e 12 = true ∧ e 12 = true ∧ e 0 = true ∧ e 1 = true ∧ e 2 = true ∧ e 3 = true ∧ e 4 = true ∧ e 5 = true ∧ e 6 = true ∧ e 7 = true ∧ e 8 = true ∧ e 9 = true ∧ e 10 = true ∧ e 11 = true ∧ e 12 = true ∧ True from hdn 15 q); obtain ⟨r13, -, -, -, -, -, -, -, -, -, -, -, -, -, -⟩ := (show e 13 = true ∧ e 0 = true ∧ e 1 = true ∧ e 2 = true ∧ e 3 = true ∧ e 4 = true ∧ e 5 = true ∧ e 6 = true ∧ e 7 = true ∧ e 8 = true ∧ e 9 = true ∧ e 10 = true ∧ e 11 = true ∧ e 12 = true ∧ True from hdn 14 r14); obtain ⟨-, -, -, -, -, -, -, -, -, -, -, -, -, -, r12, -⟩ := (show e 1 = true ∧ e 2 = true ∧ e 0 = true ∧ e 1 = true ∧ e 2 = true ∧ e 3 = true ∧ e 4 = true ∧ e 5 = true ∧ e 6 = true ∧ e 7 = true ∧ e 8 = true ∧ e 9 = true ∧ e 10 = true ∧ e 11 = true ∧ e 12 = true ∧ True from hdn 13 r13); obtain ⟨r8, -, -, -⟩ := (show e 8 = true ∧ e 9 = true ∧ e 11 = true ∧ True from hdn 12 r12); exact r8
        simp only [setE, h3, h4, h5, h6, h7, he, h12, h15, cj_t, cj_f, cjn_t, cjn_f, cb_t, cb_f]
        refine U (LdU (V rfl) rfl Ga33 (by decide) uat_hole) <| Nt <| We ?_ ?_
        ·exact ⟨V rfl, V rfl, V rfl, V rfl, V rfl, V rfl, V rfl, V rfl, V rfl, V rfl, V rfl, V rfl, Vj, V rfl, V rfl, V rfl, V rfl, V rfl, V rfl, V rfl, Z⟩
        ·exact ⟨⟨_, rfl, ⟨rfl, rfl, (An rfl)⟩⟩, ⟨_, rfl, ⟨rfl, rfl, (An rfl)⟩⟩, ⟨_, rfl, rfl⟩, ⟨_, rfl, rfl⟩, Z⟩
       ·intro e hdn he hdp
        have h12 : e 12 = false := fls he fun q => by obtain ⟨-, r9, -, -⟩ := (show e 8 = true ∧ e 9 = true ∧ e 11 = true ∧ True from hdn 12 q); exact r9
        have h15 : e 15 = false := fls he fun q => by obtain ⟨r14, -, -, -, -, -, -, -, -, -, -, -, -, -, -, -, -⟩ := (show e 14 = true ∧ e 12 = true ∧ e 12 = true ∧ e 0 = true ∧ e 1 = true ∧ e 2 = true ∧ e 3 = true ∧ e 4 = true ∧ e 5 = true ∧ e 6 = true ∧ e 7 = true ∧ e 8 = true ∧ e 9 = true ∧ e 10 = true ∧ e 11 = true ∧ e 12 = true ∧ True from hdn 15 q); obtain ⟨r13, -, -, -, -, -, -, -, -, -, -, -, -, -, -⟩ := (show e 13 = true ∧ e 0 = true ∧ e 1 = true ∧ e 2 = true ∧ e 3 = true ∧ e 4 = true ∧ e 5 = true ∧ e 6 = true ∧ e 7 = true ∧ e 8 = true ∧ e 9 = true ∧ e 10 = true ∧ e 11 = true ∧ e 12 = true ∧ True from hdn 14 r14); obtain ⟨-, -, -, -, -, -, -, -, -, -, -, -, -, -, r12, -⟩ := (show e 1 = true ∧ e 2 = true ∧ e 0 = true ∧ e 1 = true ∧ e 2 = true ∧ e 3 = true ∧ e 4 = true ∧ e 5 = true ∧ e 6 = true ∧ e 7 = true ∧ e 8 = true ∧ e 9 = true ∧ e 10 = true ∧ e 11 = true ∧ e 12 = true ∧ True from hdn 13 r13); obtain ⟨-, r9, -, -⟩ := (show e 8 = true ∧ e 9 = true ∧ e 11 = true ∧ True from hdn 12 r12); exact r9
        simp only [setE, he, h12, h15, cj_t, cj_f, cjn_t, cjn_f, cb_t, cb_f]
        refine U (Mv (V rfl)) <| Nt <| We ?_ ?_
        ·exact ⟨V rfl, V rfl, V rfl, V rfl, V rfl, V rfl, V rfl, V rfl, V rfl, V rfl, V rfl, V rfl, Vj, V rfl, V rfl, V rfl, V rfl, V rfl, V rfl, V rfl, Z⟩
        ·exact ⟨⟨_, rfl, ⟨rfl, rfl, (An rfl)⟩⟩, ⟨_, rfl, ⟨rfl, rfl, (An rfl)⟩⟩, ⟨_, rfl, rfl⟩, ⟨_, rfl, rfl⟩, Z⟩
       ·intro e hdn he hdp
        have h12 : e 12 = false := fls he fun q => by obtain ⟨-, -, r11, -⟩ := (show e 8 = true ∧ e 9 = true ∧ e 11 = true ∧ True from hdn 12 q); obtain ⟨r10, -⟩ := (show e 10 = true ∧ True from hdn 11 r11); exact r10
        have h15 : e 15 = false := fls he fun q => by obtain ⟨r14, -, -, -, -, -, -, -, -, -, -, -, -, -, -, -, -⟩ := (show e 14 = true ∧ e 12 = true ∧ e 12 = true ∧ e 0 = true ∧ e 1 = true ∧ e 2 = true ∧ e 3 = true ∧ e 4 = true ∧ e 5 = true ∧ e 6 = true ∧ e 7 = true ∧ e 8 = true ∧ e 9 = true ∧ e 10 = true ∧ e 11 = true ∧ e 12 = true ∧ True from hdn 15 q); obtain ⟨r13, -, -, -, -, -, -, -, -, -, -, -, -, -, -⟩ := (show e 13 = true ∧ e 0 = true ∧ e 1 = true ∧ e 2 = true ∧ e 3 = true ∧ e 4 = true ∧ e 5 = true ∧ e 6 = true ∧ e 7 = true ∧ e 8 = true ∧ e 9 = true ∧ e 10 = true ∧ e 11 = true ∧ e 12 = true ∧ True from hdn 14 r14); obtain ⟨-, -, -, -, -, -, -, -, -, -, -, -, -, -, r12, -⟩ := (show e 1 = true ∧ e 2 = true ∧ e 0 = true ∧ e 1 = true ∧ e 2 = true ∧ e 3 = true ∧ e 4 = true ∧ e 5 = true ∧ e 6 = true ∧ e 7 = true ∧ e 8 = true ∧ e 9 = true ∧ e 10 = true ∧ e 11 = true ∧ e 12 = true ∧ True from hdn 13 r13); obtain ⟨-, -, r11, -⟩ := (show e 8 = true ∧ e 9 = true ∧ e 11 = true ∧ True from hdn 12 r12); obtain ⟨r10, -⟩ := (show e 10 = true ∧ True from hdn 11 r11); exact r10
        simp only [setE, he, h12, h15, cj_t, cj_f, cjn_t, cjn_f, cb_t, cb_f]
        refine U (Mv (V rfl)) <| Nt <| We ?_ ?_
        ·exact ⟨V rfl, V rfl, V rfl, V rfl, V rfl, V rfl, V rfl, V rfl, V rfl, V rfl, V rfl, V rfl, Vj, V rfl, V rfl, V rfl, V rfl, V rfl, V rfl, V rfl, Z⟩
        ·exact ⟨⟨_, rfl, ⟨rfl, rfl, (An rfl)⟩⟩, ⟨_, rfl, ⟨rfl, rfl, (An rfl)⟩⟩, ⟨_, rfl, rfl⟩, ⟨_, rfl, rfl⟩, Z⟩
       ·intro e hdn he hdp
        obtain ⟨h10, -⟩ := (show e 10 = true ∧ True from hdp)
        have h12 : e 12 = false := fls he fun q => by obtain ⟨-, -, r11, -⟩ := (show e 8 = true ∧ e 9 = true ∧ e 11 = true ∧ True from hdn 12 q); exact r11
        have h15 : e 15 = false := fls he fun q => by obtain ⟨r14, -, -, -, -, -, -, -, -, -, -, -, -, -, -, -, -⟩ := (show e 14 = true ∧ e 12 = true ∧ e 12 = true ∧ e 0 = true ∧ e 1 = true ∧ e 2 = true ∧ e 3 = true ∧ e 4 = true ∧ e 5 = true ∧ e 6 = true ∧ e 7 = true ∧ e 8 = true ∧ e 9 = true ∧ e 10 = true ∧ e 11 = true ∧ e 12 = true ∧ True from hdn 15 q); obtain ⟨r13, -, -, -, -, -, -, -, -, -, -, -, -, -, -⟩ := (show e 13 = true ∧ e 0 = true ∧ e 1 = true ∧ e 2 = true ∧ e 3 = true ∧ e 4 = true ∧ e 5 = true ∧ e 6 = true ∧ e 7 = true ∧ e 8 = true ∧ e 9 = true ∧ e 10 = true ∧ e 11 = true ∧ e 12 = true ∧ True from hdn 14 r14); obtain ⟨-, -, -, -, -, -, -, -, -, -, -, -, -, -, r12, -⟩ := (show e 1 = true ∧ e 2 = true ∧ e 0 = true ∧ e 1 = true ∧ e 2 = true ∧ e 3 = true ∧ e 4 = true ∧ e 5 = true ∧ e 6 = true ∧ e 7 = true ∧ e 8 = true ∧ e 9 = true ∧ e 10 = true ∧ e 11 = true ∧ e 12 = true ∧ True from hdn 13 r13); obtain ⟨-, -, r11, -⟩ := (show e 8 = true ∧ e 9 = true ∧ e 11 = true ∧ True from hdn 12 r12); exact r11
        simp only [setE, h10, he, h12, h15, cj_t, cj_f, cjn_t, cjn_f, cb_t, cb_f]
        refine Uw (w_bs (n := 1) (zget := fun _ => iv 0) [(fun _ => iv (c.pl))] (rowG inCell 0 [c.pl]) Un33 Sz3 zero3 (by decide) rfl (by decide) ⟨⟨rfl, .inr ⟨rfl, (V rfl), rfl⟩, rfl⟩, Z⟩ ⟨Z, ⟨Z, rfl⟩⟩) <| Nt <| We ?_ ?_
        ·exact ⟨V rfl, V rfl, V rfl, V rfl, V rfl, V rfl, V rfl, V rfl, V rfl, V rfl, V rfl, V rfl, Vj, V rfl, V rfl, V rfl, V rfl, V rfl, V rfl, V rfl, Z⟩
        ·exact ⟨⟨_, rfl, ⟨rfl, rfl, (An rfl)⟩⟩, ⟨_, rfl, ⟨rfl, rfl, (An rfl)⟩⟩, ⟨_, rfl, rfl⟩, ⟨_, rfl, rfl⟩, Z⟩
       ·intro e hdn he hdp
        obtain ⟨h8, h9, h11, -⟩ := (show e 8 = true ∧ e 9 = true ∧ e 11 = true ∧ True from hdp)
        obtain ⟨h10, -⟩ := (show e 10 = true ∧ True from hdn 11 h11)
        obtain ⟨h7, -⟩ := (show e 7 = true ∧ True from hdn 8 h8)
        obtain ⟨h6, -⟩ := (show e 6 = true ∧ True from hdn 7 h7)
        obtain ⟨h4, h5, -⟩ := (show e 4 = true ∧ e 5 = true ∧ True from hdn 6 h6)
        obtain ⟨h3, -⟩ := (show e 3 = true ∧ True from hdn 4 h4)
        have h13 : e 13 = false := fls he fun q => by obtain ⟨-, -, -, -, -, -, -, -, -, -, -, -, -, -, r12, -⟩ := (show e 1 = true ∧ e 2 = true ∧ e 0 = true ∧ e 1 = true ∧ e 2 = true ∧ e 3 = true ∧ e 4 = true ∧ e 5 = true ∧ e 6 = true ∧ e 7 = true ∧ e 8 = true ∧ e 9 = true ∧ e 10 = true ∧ e 11 = true ∧ e 12 = true ∧ True from hdn 13 q); exact r12
        have h14 : e 14 = false := fls he fun q => by obtain ⟨r13, -, -, -, -, -, -, -, -, -, -, -, -, -, -⟩ := (show e 13 = true ∧ e 0 = true ∧ e 1 = true ∧ e 2 = true ∧ e 3 = true ∧ e 4 = true ∧ e 5 = true ∧ e 6 = true ∧ e 7 = true ∧ e 8 = true ∧ e 9 = true ∧ e 10 = true ∧ e 11 = true ∧ e 12 = true ∧ True from hdn 14 q); obtain ⟨-, -, -, -, -, -, -, -, -, -, -, -, -, -, r12, -⟩ := (show e 1 = true ∧ e 2 = true ∧ e 0 = true ∧ e 1 = true ∧ e 2 = true ∧ e 3 = true ∧ e 4 = true ∧ e 5 = true ∧ e 6 = true ∧ e 7 = true ∧ e 8 = true ∧ e 9 = true ∧ e 10 = true ∧ e 11 = true ∧ e 12 = true ∧ True from hdn 13 r13); exact r12
        have h15 : e 15 = false := fls he fun q => by obtain ⟨r14, -, -, -, -, -, -, -, -, -, -, -, -, -, -, -, -⟩ := (show e 14 = true ∧ e 12 = true ∧ e 12 = true ∧ e 0 = true ∧ e 1 = true ∧ e 2 = true ∧ e 3 = true ∧ e 4 = true ∧ e 5 = true ∧ e 6 = true ∧ e 7 = true ∧ e 8 = true ∧ e 9 = true ∧ e 10 = true ∧ e 11 = true ∧ e 12 = true ∧ True from hdn 15 q); obtain ⟨r13, -, -, -, -, -, -, -, -, -, -, -, -, -, -⟩ := (show e 13 = true ∧ e 0 = true ∧ e 1 = true ∧ e 2 = true ∧ e 3 = true ∧ e 4 = true ∧ e 5 = true ∧ e 6 = true ∧ e 7 = true ∧ e 8 = true ∧ e 9 = true ∧ e 10 = true ∧ e 11 = true ∧ e 12 = true ∧ True from hdn 14 r14); obtain ⟨-, -, -, -, -, -, -, -, -, -, -, -, -, -, r12, -⟩ := (show e 1 = true ∧ e 2 = true ∧ e 0 = true ∧ e 1 = true ∧ e 2 = true ∧ e 3 = true ∧ e 4 = true ∧ e 5 = true ∧ e 6 = true ∧ e 7 = true ∧ e 8 = true ∧ e 9 = true ∧ e 10 = true ∧ e 11 = true ∧ e 12 = true ∧ True from hdn 13 r13); exact r12
        simp only [setE, h3, h4, h5, h6, h7, h8, h9, h10, h11, he, h13, h14, h15, cj_t, cj_f, cjn_t, cjn_f, cb_t, cb_f]
        refine CM (cargs := [SV.own 1000, iv (((Nd.kids ((outSt l c.pl).getD (Int.toNat p.pl) default)).length : Int)), inRow ([c.pl])]) [(1000, 10)] [(0, 12)] en98 (by exact ⟨(V rfl), (V rfl), (V rfl), Z⟩) (ins_ct (Nd.kids ((outSt l c.pl).getD (Int.toNat p.pl) default)) ([c.pl]) ((Nd.kids ((outSt l c.pl).getD (Int.toNat p.pl) default)).length) (by first | omega | assumption) (by first | omega | (simp only [List.length_cons, List.length_nil]; omega) | assumption)) (by exact ⟨⟨_, rfl, rfl⟩, Z⟩) rfl (freshN_cons (fresh_mk ⟨(noId_cj rfl), (noId_cj rfl), (noId_cj rfl), rfl, rfl, rfl, rfl, rfl, rfl, rfl, rfl, rfl, rfl, rfl, rfl, rfl, rfl, rfl, rfl, rfl, Z⟩ rfl rfl) rfl rfl) rfl rfl <| Nt <| We ?_ ?_
        ·exact ⟨V rfl, V rfl, V rfl, V rfl, V rfl, V rfl, V rfl, V rfl, V rfl, V rfl, V rfl, V rfl, V rfl, Vj, Vj, V rfl, V rfl, V rfl, V rfl, V rfl, Z⟩
        ·exact ⟨⟨_, rfl, ⟨rfl, rfl, (An rfl)⟩⟩, ⟨_, rfl, ⟨rfl, rfl, (An rfl)⟩⟩, ⟨_, rfl, rfl⟩, ⟨_, rfl, rfl⟩, Z⟩
       ·intro e hdn he hdp
        obtain ⟨h1, h2, h0, -, -, h3, h4, h5, h6, h7, h8, h9, h10, h11, h12, -⟩ := (show e 1 = true ∧ e 2 = true ∧ e 0 = true ∧ e 1 = true ∧ e 2 = true ∧ e 3 = true ∧ e 4 = true ∧ e 5 = true ∧ e 6 = true ∧ e 7 = true ∧ e 8 = true ∧ e 9 = true ∧ e 10 = true ∧ e 11 = true ∧ e 12 = true ∧ True from hdp)
        have h15 : e 15 = false := fls he fun q => by obtain ⟨r14, -, -, -, -, -, -, -, -, -, -, -, -, -, -, -, -⟩ := (show e 14 = true ∧ e 12 = true ∧ e 12 = true ∧ e 0 = true ∧ e 1 = true ∧ e 2 = true ∧ e 3 = true ∧ e 4 = true ∧ e 5 = true ∧ e 6 = true ∧ e 7 = true ∧ e 8 = true ∧ e 9 = true ∧ e 10 = true ∧ e 11 = true ∧ e 12 = true ∧ True from hdn 15 q); obtain ⟨r13, -, -, -, -, -, -, -, -, -, -, -, -, -, -⟩ := (show e 13 = true ∧ e 0 = true ∧ e 1 = true ∧ e 2 = true ∧ e 3 = true ∧ e 4 = true ∧ e 5 = true ∧ e 6 = true ∧ e 7 = true ∧ e 8 = true ∧ e 9 = true ∧ e 10 = true ∧ e 11 = true ∧ e 12 = true ∧ True from hdn 14 r14); exact r13
        simp only [setE, h0, h1, h2, h3, h4, h5, h6, h7, h8, h9, h10, h11, h12, he, h15, cj_t, cj_f, cjn_t, cjn_f, cb_t, cb_f]
        refine U (q_idxU (V rfl) rfl (V rfl) ts22 te22 (by omega) (by first | omega | (simp only [List.length_set]; omega))) <| Nt <| We ?_ ?_
        ·exact ⟨V rfl, V rfl, V rfl, V rfl, V rfl, V rfl, V rfl, V rfl, V rfl, V rfl, V rfl, V rfl, V rfl, V rfl, V rfl, V rfl, V rfl, V rfl, V rfl, V rfl, Z⟩
        ·exact ⟨⟨_, rfl, ⟨rfl, rfl, (An rfl)⟩⟩, ⟨_, rfl, ⟨rfl, rfl, (An rfl)⟩⟩, ⟨_, rfl, rfl⟩, ⟨_, rfl, rfl⟩, Z⟩
       ·intro e hdn he hdp
        obtain ⟨h13, h0, h1, h2, h3, h4, h5, h6, h7, h8, h9, h10, h11, h12, -⟩ := (show e 13 = true ∧ e 0 = true ∧ e 1 = true ∧ e 2 = true ∧ e 3 = true ∧ e 4 = true ∧ e 5 = true ∧ e 6 = true ∧ e 7 = true ∧ e 8 = true ∧ e 9 = true ∧ e 10 = true ∧ e 11 = true ∧ e 12 = true ∧ True from hdp)
        have h15 : e 15 = false := fls he fun q => by obtain ⟨r14, -, -, -, -, -, -, -, -, -, -, -, -, -, -, -, -⟩ := (show e 14 = true ∧ e 12 = true ∧ e 12 = true ∧ e 0 = true ∧ e 1 = true ∧ e 2 = true ∧ e 3 = true ∧ e 4 = true ∧ e 5 = true ∧ e 6 = true ∧ e 7 = true ∧ e 8 = true ∧ e 9 = true ∧ e 10 = true ∧ e 11 = true ∧ e 12 = true ∧ True from hdn 15 q); exact r14
        simp only [setE, h0, h1, h2, h3, h4, h5, h6, h7, h8, h9, h10, h11, h12, h13, he, h15, cj_t, cj_f, cjn_t, cjn_f, cb_t, cb_f]
        refine U (FlO _ _ (V rfl) Un61 rfl 0 Sz33) <| Nt <| We ?_ ?_
        ·exact ⟨V rfl, V rfl, V rfl, V rfl, V rfl, V rfl, V rfl, V rfl, V rfl, V rfl, V rfl, V rfl, V rfl, V rfl, V rfl, V rfl, V rfl, V rfl, V rfl, V rfl, Z⟩
        ·exact ⟨⟨_, rfl, ⟨rfl, rfl, (An rfl)⟩⟩, ⟨_, rfl, ⟨rfl, rfl, (An rfl)⟩⟩, ⟨_, rfl, rfl⟩, ⟨_, rfl, rfl⟩, Z⟩
       ·intro e hdn he hdp
        obtain ⟨h14, h12, -, h0, h1, h2, h3, h4, h5, h6, h7, h8, h9, h10, h11, -, -⟩ := (show e 14 = true ∧ e 12 = true ∧ e 12 = true ∧ e 0 = true ∧ e 1 = true ∧ e 2 = true ∧ e 3 = true ∧ e 4 = true ∧ e 5 = true ∧ e 6 = true ∧ e 7 = true ∧ e 8 = true ∧ e 9 = true ∧ e 10 = true ∧ e 11 = true ∧ e 12 = true ∧ True from hdp)
        obtain ⟨h13, -, -, -, -, -, -, -, -, -, -, -, -, -, -⟩ := (show e 13 = true ∧ e 0 = true ∧ e 1 = true ∧ e 2 = true ∧ e 3 = true ∧ e 4 = true ∧ e 5 = true ∧ e 6 = true ∧ e 7 = true ∧ e 8 = true ∧ e 9 = true ∧ e 10 = true ∧ e 11 = true ∧ e 12 = true ∧ True from hdn 14 h14)
        simp only [setE, h0, h1, h2, h3, h4, h5, h6, h7, h8, h9, h10, h11, h12, h13, h14, he, cj_t, cj_f, cjn_t, cjn_f, cb_t, cb_f]
        refine t_stH (V rfl) rfl (V rfl) (one_own rfl) Sz33 (by decide) (.inl rfl) <| Nt <| We ?_ ?_
        ·exact ⟨V rfl, V rfl, V rfl, V rfl, V rfl, V rfl, V rfl, V rfl, V rfl, V rfl, V rfl, V rfl, V rfl, V rfl, V rfl, V rfl, V rfl, V rfl, V rfl, V rfl, Z⟩
        ·exact ⟨⟨_, rfl, ⟨rfl, rfl, (An rfl)⟩⟩, ⟨_, rfl, ⟨rfl, rfl, (An rfl)⟩⟩, ⟨_, rfl, rfl⟩, ⟨_, rfl, rfl⟩, Z⟩
       ·intro e he
        have h0 := he 0 (by decide)
        have h1 := he 1 (by decide)
        have h2 := he 2 (by decide)
        have h3 := he 3 (by decide)
        have h4 := he 4 (by decide)
        have h5 := he 5 (by decide)
        have h6 := he 6 (by decide)
        have h7 := he 7 (by decide)
        have h8 := he 8 (by decide)
        have h9 := he 9 (by decide)
        have h10 := he 10 (by decide)
        have h11 := he 11 (by decide)
        have h12 := he 12 (by decide)
        have h13 := he 13 (by decide)
        have h14 := he 14 (by decide)
        have h15 := he 15 (by decide)
        show Weak _ ⟨[(102, cj (e 0) (SV.bp 1 0)), (103, cj (e 1) (SV.own 9)), (104, cj (e 2) (iv (p.pl))), (105, cj (e 3) (SV.bp 1 0)), (106, cj (e 4) (SV.own 9)), (107, cj (e 5) (iv (p.pl))), (108, cj (e 6) (SV.oe 9 8 (Int.toNat p.pl) 0)), (109, cj (e 7) (SV.oe 9 8 (Int.toNat p.pl) 5)), (110, cj (e 8) (SV.own 10)), (111, cj (e 9) (iv (((Nd.kids ((outSt l c.pl).getD (Int.toNat p.pl) default)).length : Int)))), (112, cj (e 10) (iv (c.pl))), (113, cj (e 11) (inRow ([c.pl]))), (114, cj (e 12) (SV.own 12)), (115, cj (e 13) (SV.oe 9 8 (Int.toNat p.pl) 0)), (116, cj (e 14) (SV.oe 9 8 (Int.toNat p.pl) 5)), (4, SV.bp 1 0), (8, SV.bp 4 0), (11, iv (p.pl)), (12, iv (c.pl)), (13, iv (((Nd.kids ((outSt l c.pl).getD (Int.toNat p.pl) default)).length : Int)))], (cb (e 12) (cb (e 15) [(1, Own.box 1 (fun zt => SV.renm (rn [(1000, 1), (1001, 8), (0, 9)]) ((cmpG [SV.own 0]) zt)) 24), (4, Own.box 1 (cmpG [SV.v (Value.slice none 0 0)]) 24), (9, urowOf ndCell 8 default (outSt l c.pl) 61 5 Nd.kids inCell 1 0 3 l.length (some (Int.toNat p.pl, SV.own 12))), (12, ownOf inCell 1 0 ((Nd.kids ((outSt l c.pl).getD (Int.toNat p.pl) default)).take ((Nd.kids ((outSt l c.pl).getD (Int.toNat p.pl) default)).length) ++ ([c.pl]) ++ (Nd.kids ((outSt l c.pl).getD (Int.toNat p.pl) default)).drop ((Nd.kids ((outSt l c.pl).getD (Int.toNat p.pl) default)).length)) 3)] [(1, Own.box 1 (fun zt => SV.renm (rn [(1000, 1), (1001, 8), (0, 9)]) ((cmpG [SV.own 0]) zt)) 24), (4, Own.box 1 (cmpG [SV.v (Value.slice none 0 0)]) 24), (9, urowOf ndCell 8 default (outSt l c.pl) 61 5 Nd.kids inCell 1 0 3 l.length (some (Int.toNat p.pl, SV.own 10))), (12, ownOf inCell 1 0 ((Nd.kids ((outSt l c.pl).getD (Int.toNat p.pl) default)).take ((Nd.kids ((outSt l c.pl).getD (Int.toNat p.pl) default)).length) ++ ([c.pl]) ++ (Nd.kids ((outSt l c.pl).getD (Int.toNat p.pl) default)).drop ((Nd.kids ((outSt l c.pl).getD (Int.toNat p.pl) default)).length)) 3)]) (cb (e 15) [] [(1, Own.box 1 (fun zt => SV.renm (rn [(1000, 1), (1001, 8), (0, 9)]) ((cmpG [SV.own 0]) zt)) 24), (4, Own.box 1 (cmpG [SV.v (Value.slice none 0 0)]) 24), (9, urowOf ndCell 8 default (outSt l c.pl) 61 5 Nd.kids inCell 1 0 3 l.length (some (Int.toNat p.pl, SV.own 10))), (10, ownOf inCell 1 0 (Nd.kids ((outSt l c.pl).getD (Int.toNat p.pl) default)) 3)]))⟩ _
        simp only [h0, h1, h2, h3, h4, h5, h6, h7, h8, h9, h10, h11, h12, h13, h14, h15]
        show Weak _ ⟨[(102, SV.bp 1 0), (103, SV.own 9), (104, iv (p.pl)), (105, SV.bp 1 0), (106, SV.own 9), (107, iv (p.pl)), (108, SV.oe 9 8 (Int.toNat p.pl) 0), (109, SV.oe 9 8 (Int.toNat p.pl) 5), (110, SV.own 10), (111, iv (((Nd.kids ((outSt l c.pl).getD (Int.toNat p.pl) default)).length : Int))), (112, iv (c.pl)), (113, inRow ([c.pl])), (114, SV.own 12), (115, SV.oe 9 8 (Int.toNat p.pl) 0), (116, SV.oe 9 8 (Int.toNat p.pl) 5), (4, SV.bp 1 0), (8, SV.bp 4 0), (11, iv (p.pl)), (12, iv (c.pl)), (13, iv (((Nd.kids ((outSt l c.pl).getD (Int.toNat p.pl) default)).length : Int)))], [(1, Own.box 1 (fun zt => SV.renm (rn [(1000, 1), (1001, 8), (0, 9)]) ((cmpG [SV.own 0]) zt)) 24), (4, Own.box 1 (cmpG [SV.v (Value.slice none 0 0)]) 24), (9, urowOf ndCell 8 default (outSt l c.pl) 61 5 Nd.kids inCell 1 0 3 l.length (some (Int.toNat p.pl, SV.own 12))), (12, ownOf inCell 1 0 ((Nd.kids ((outSt l c.pl).getD (Int.toNat p.pl) default)).take ((Nd.kids ((outSt l c.pl).getD (Int.toNat p.pl) default)).length) ++ ([c.pl]) ++ (Nd.kids ((outSt l c.pl).getD (Int.toNat p.pl) default)).drop ((Nd.kids ((outSt l c.pl).getD (Int.toNat p.pl) default)).length)) 3)]⟩ _
        refine We ?_ ?_
        ·exact ⟨V rfl, V rfl, V rfl, V rfl, V rfl, V rfl, V rfl, V rfl, V rfl, V rfl, V rfl, V rfl, V rfl, V rfl, V rfl, V rfl, V rfl, V rfl, V rfl, V rfl, Z⟩
        ·exact ⟨⟨_, rfl, ⟨rfl, rfl, (An rfl)⟩⟩, ⟨_, rfl, ⟨rfl, rfl, (An rfl)⟩⟩, ⟨_, rfl, rfl⟩, ⟨_, rfl, rfl⟩, Z⟩
       exact Sq <| Tc (turn_joinT 9 (Int.toNat p.pl) 12 l.length ({ ((outSt l c.pl).getD (Int.toNat p.pl) default) with kids := (Nd.kids ((outSt l c.pl).getD (Int.toNat p.pl) default)).take ((Nd.kids ((outSt l c.pl).getD (Int.toNat p.pl) default)).length) ++ ([c.pl]) ++ (Nd.kids ((outSt l c.pl).getD (Int.toNat p.pl) default)).drop ((Nd.kids ((outSt l c.pl).getD (Int.toNat p.pl) default)).length) }) rfl rfl rfl (by first | omega | (simp only [List.length_set]; omega)) (by omega) (by rw [if_pos (by omega)]) rfl rfl (fun t ht hne => match t, ht, hne with | 0, _, _ => rfl | 1, _, _ => rfl | 2, _, _ => rfl | 3, _, _ => rfl | 4, _, _ => rfl | 5, _, hne => absurd rfl hne | 6, _, _ => rfl | 7, _, _ => rfl) rfl) <| Rt <| U (FlB _ _ (V rfl) Un24 rfl 0 Sz22) <| U (LdB (V rfl) rfl Ga22 (by decide)) <| U (Mv (V rfl)) <| U (Mv (V rfl)) <| U (q_idxU (V rfl) rfl (V rfl) ts22 te22 (by omega) (by first | omega | (simp only [List.length_set]; omega))) <| U (FlO _ _ (V rfl) Un61 rfl 0 Sz3) <| t_stUT ({ (((outSt l c.pl).set (Int.toNat p.pl) ({ ((outSt l c.pl).getD (Int.toNat p.pl) default) with kids := (Nd.kids ((outSt l c.pl).getD (Int.toNat p.pl) default)).take ((Nd.kids ((outSt l c.pl).getD (Int.toNat p.pl) default)).length) ++ ([c.pl]) ++ (Nd.kids ((outSt l c.pl).getD (Int.toNat p.pl) default)).drop ((Nd.kids ((outSt l c.pl).getD (Int.toNat p.pl) default)).length) })).getD (Int.toNat c.pl) default) with par := p.pl }) (V rfl) rfl (V rfl) rfl rfl Sz3 (by decide) (by decide) (by first | omega | (simp only [List.length_set]; omega)) rfl (fun t ht hne => match t, ht, hne with | 0, _, _ => rfl | 1, _, _ => rfl | 2, _, _ => rfl | 3, _, _ => rfl | 4, _, hne => absurd rfl hne | 5, _, _ => rfl | 6, _, _ => rfl | 7, _, _ => rfl) rfl <| Nt <| Sq <| Rt <| U (LBA (V rfl) rfl Ga24 Sz24 (by decide)) <| StA (V rfl) rfl (V rfl) Sz24 <| U (As K) <| Nt <| Tc (turn_uAT 9 rfl rfl (fun _ => rfl)) <| FzC 9 rfl <| Rx <| RR2 rfl (rv_aggI (g' := stG (((outSt l c.pl).set (Int.toNat p.pl) ({ ((outSt l c.pl).getD (Int.toNat p.pl) default) with kids := (Nd.kids ((outSt l c.pl).getD (Int.toNat p.pl) default)).take ((Nd.kids ((outSt l c.pl).getD (Int.toNat p.pl) default)).length) ++ ([c.pl]) ++ (Nd.kids ((outSt l c.pl).getD (Int.toNat p.pl) default)).drop ((Nd.kids ((outSt l c.pl).getD (Int.toNat p.pl) default)).length) })).set (Int.toNat c.pl) ({ (((outSt l c.pl).set (Int.toNat p.pl) ({ ((outSt l c.pl).getD (Int.toNat p.pl) default) with kids := (Nd.kids ((outSt l c.pl).getD (Int.toNat p.pl) default)).take ((Nd.kids ((outSt l c.pl).getD (Int.toNat p.pl) default)).length) ++ ([c.pl]) ++ (Nd.kids ((outSt l c.pl).getD (Int.toNat p.pl) default)).drop ((Nd.kids ((outSt l c.pl).getD (Int.toNat p.pl) default)).length) })).getD (Int.toNat c.pl) default) with par := p.pl }))) (rv_cell (V rfl) rfl Ga24 Sz24) ⟨Z, Ir⟩) (rv_tmp (V rfl)) rfl rfl (by show sv2 (SV.agg 1 (stG (((outSt l c.pl).set (Int.toNat p.pl) ({ ((outSt l c.pl).getD (Int.toNat p.pl) default) with kids := (Nd.kids ((outSt l c.pl).getD (Int.toNat p.pl) default)).take ((Nd.kids ((outSt l c.pl).getD (Int.toNat p.pl) default)).length) ++ ([c.pl]) ++ (Nd.kids ((outSt l c.pl).getD (Int.toNat p.pl) default)).drop ((Nd.kids ((outSt l c.pl).getD (Int.toNat p.pl) default)).length) })).set (Int.toNat c.pl) ({ (((outSt l c.pl).set (Int.toNat p.pl) ({ ((outSt l c.pl).getD (Int.toNat p.pl) default) with kids := (Nd.kids ((outSt l c.pl).getD (Int.toNat p.pl) default)).take ((Nd.kids ((outSt l c.pl).getD (Int.toNat p.pl) default)).length) ++ ([c.pl]) ++ (Nd.kids ((outSt l c.pl).getD (Int.toNat p.pl) default)).drop ((Nd.kids ((outSt l c.pl).getD (Int.toNat p.pl) default)).length) })).getD (Int.toNat c.pl) default) with par := p.pl })))) (iv (0)) = sv2 (SV.agg 1 (stG (insSt l p c ah).1)) (iv (insSt l p c ah).2); rw [ins_6 (by omega) hc2s hq3 hq4 hq5, insPos, if_neg (by omega)]; rfl)
end Go.Proofs.Ytmcdamcedemdiaa
namespace Go.Proofs.Ytmcdamcedemdiaa
open Go.RowKit Go.Eng
theorem zero113 : ZeroOk Try.prog 113 6 (cmpG [iv 0, iv 0, iv 0, iv 0, iv 0, iv 0]) := by
  refine ⟨.agg #[.int .i64 0, .int .i64 0, .int .i64 0, .int .i64 0, .int .i64 0, .int .i64 0], fun w => by kernel_rfl, rfl, fun t ht => ?_⟩
  match t, ht with
  | 0, _ => exact ⟨_, rfl, rfl, fun _ _ => rfl⟩
  | 1, _ => exact ⟨_, rfl, rfl, fun _ _ => rfl⟩
  | 2, _ => exact ⟨_, rfl, rfl, fun _ _ => rfl⟩
  | 3, _ => exact ⟨_, rfl, rfl, fun _ _ => rfl⟩
  | 4, _ => exact ⟨_, rfl, rfl, fun _ _ => rfl⟩
  | 5, _ => exact ⟨_, rfl, rfl, fun _ _ => rfl⟩
theorem ta113 : Try.prog.underlying 113 = some (.array (Try.prog.arrayLen 113) (Try.prog.elem 113)) := by kernel_rfl
theorem te113 : ∀ w, (sizeOf (Try.prog.elem 113)).run Try.prog w = .ok 2 w := fun w => by kernel_rfl
theorem al113 : Try.prog.arrayLen 113 = 3 := by kernel_rfl
def nz : Nd := ⟨false, 0, 0, 0, -1, [], -1, false⟩
def fam0 : List Nd := [nz, nz, nz, nz, nz, nz]
def fam1 : List Nd := [⟨true, 1, 0, 0, -1, [], -1, false⟩, nz, nz, nz, nz, nz]
def fam2 : List Nd := [⟨true, 1, 0, 0, -1, [], -1, false⟩, ⟨true, 1, 1, 0, -1, [], -1, false⟩, nz, nz, nz, nz]
def fam3 : List Nd := [⟨true, 1, 0, 0, -1, [], -1, false⟩, ⟨true, 1, 1, 0, -1, [], -1, false⟩, ⟨true, 1, 2, 0, -1, [], -1, false⟩, nz, nz, nz]
def fam4 : List Nd := [⟨true, 1, 0, 0, -1, [1], -1, false⟩, ⟨true, 1, 1, 0, 0, [], -1, false⟩, ⟨true, 1, 2, 0, -1, [], -1, false⟩, nz, nz, nz]
def fam5 : List Nd := [⟨true, 1, 0, 0, -1, [2, 1], -1, false⟩, ⟨true, 1, 1, 0, 0, [], -1, false⟩, ⟨true, 1, 2, 0, 0, [], -1, false⟩, nz, nz, nz]
def famS : Nat → List Nd
  | 0 => fam0 | 1 => fam1 | 2 => fam2 | _ => fam3
def famH : Nat → Nat → SV
  | 0 => cmpG [iv 0, iv 0, iv 0, iv 0, iv 0, iv 0]
  | 1 => cmpG [iv 0, iv 1, iv 0, iv 0, iv 0, iv 0]
  | 2 => cmpG [iv 0, iv 1, iv 1, iv 1, iv 0, iv 0]
  | _ => cmpG [iv 0, iv 1, iv 1, iv 1, iv 2, iv 1]
theorem fam_0 : newSt 6 = (fam0, 0) := by decide +kernel
theorem fam_1 : mkSt fam0 0 = (fam1, ⟨0, 1⟩, 0) := by decide +kernel
theorem fam_2 : mkSt fam1 1 = (fam2, ⟨1, 1⟩, 0) := by decide +kernel
theorem fam_3 : mkSt fam2 2 = (fam3, ⟨2, 1⟩, 0) := by decide +kernel
theorem fam_4 : insSt fam3 ⟨0, 1⟩ ⟨1, 1⟩ [] = (fam4, 0) := by decide +kernel
theorem fam_5 : insSt fam4 ⟨0, 1⟩ ⟨2, 1⟩ [⟨1, 1⟩] = (fam5, 0) := by decide +kernel
theorem fam_c0 : checkSt fam0 = 0 := by decide +kernel
theorem fam_c1 : checkSt fam1 = 0 := by decide +kernel
theorem fam_c2 : checkSt fam2 = 0 := by decide +kernel
theorem fam_c3 : checkSt fam3 = 0 := by decide +kernel
theorem fam_c4 : checkSt fam4 = 0 := by decide +kernel
theorem fam_c5 : checkSt fam5 = 0 := by decide +kernel
end Go.Proofs.Ytmcdamcedemdiaa
namespace Go.Proofs.Ytmcdamcedemdiaa
open Go.RowKit Go.Eng
theorem famN : Ct Try.prog 47 [iv 6] (sv2 (SV.agg 1 (stG fam0)) (iv 0)) := by
  have h := new_ct 6
  rw [fam_0] at h
  exact h
theorem famM0 : Ct Try.prog 40 [SV.agg 1 (stG fam0), iv 0] (sv3 (SV.agg 1 (stG fam1)) (SV.agg 2 (hdCell ⟨0, 1⟩)) (iv 0)) := by
  have h := make_ct fam0 0 (kb_of fam_c0)
  rw [fam_1] at h
  exact h
theorem famM1 : Ct Try.prog 40 [SV.agg 1 (stG fam1), iv 1] (sv3 (SV.agg 1 (stG fam2)) (SV.agg 2 (hdCell ⟨1, 1⟩)) (iv 0)) := by
  have h := make_ct fam1 1 (kb_of fam_c1)
  rw [fam_2] at h
  exact h
theorem famM2 : Ct Try.prog 40 [SV.agg 1 (stG fam2), iv 2] (sv3 (SV.agg 1 (stG fam3)) (SV.agg 2 (hdCell ⟨2, 1⟩)) (iv 0)) := by
  have h := make_ct fam2 2 (kb_of fam_c2)
  rw [fam_3] at h
  exact h
theorem famI4 : Ct Try.prog 56 [SV.agg 1 (stG fam3), SV.agg 2 (hdCell ⟨0, 1⟩), SV.agg 2 (hdCell ⟨1, 1⟩), hdRow []] (sv2 (SV.agg 1 (stG fam4)) (iv 0)) := by
  have h := insert_ct fam3 ⟨0, 1⟩ ⟨1, 1⟩ [] (kb_of fam_c3)
  rw [fam_4] at h
  exact h
theorem famI5 : Ct Try.prog 56 [SV.agg 1 (stG fam4), SV.agg 2 (hdCell ⟨0, 1⟩), SV.agg 2 (hdCell ⟨2, 1⟩), hdRow [⟨1, 1⟩]] (sv2 (SV.agg 1 (stG fam5)) (iv 0)) := by
  have h := insert_ct fam4 ⟨0, 1⟩ ⟨2, 1⟩ [⟨1, 1⟩] (kb_of fam_c4)
  rw [fam_5] at h
  exact h
theorem family_ct  : Ct Try.prog 103 [] (sv3 (SV.agg 1 (stG fam5)) (SV.agg 6 (cmpG [iv (0), iv (1), iv (1), iv (1), iv (2), iv (1)])) (bv (true))) := by
 refine CtO 69 Try.func103 rfl rfl rfl fun E => Sq <| Rt <| Al 1 zero24 rfl rfl <| Al 2 zero113 rfl rfl <| U (As K) <| Nt <| Sq <| Rt <| CT en47 (by exact ⟨⟨K, rfl⟩, Z⟩) (famN) <| U (Mv (V rfl)) <| U (Xt (V rfl) (by decide)) <| U (Xt (V rfl) (by decide)) <| Al 3 zero24 rfl rfl <| StA (V rfl) rfl (V rfl) Sz24 <| U (As (V rfl)) <| Nt <| Sq <| Rq <| O (Mv (V rfl)) <| O (Ql (V rfl) K) <| O (As (V rfl)) <| Nq <| Sq <| Rt <| Al 4 zero113 rfl rfl <| Nt <| Sq <| Sq <| Rq <| O (Mv K) <| Nq <| Bo <| Lo (fun (i : Nat) => ⟨[(0, SV.bp 1 0), (1, SV.bp 2 0), (3, SV.bp 3 0), (5, bv (true)), (6, SV.bp 4 0), (14, iv ((i : Int)))], [(1, Own.box 1 (cmpG [SV.v (Value.slice none 0 0)]) 24), (2, Own.box 6 (cmpG [iv (0), iv (0), iv (0), iv (0), iv (0), iv (0)]) 113), (3, Own.box 1 (stG (famS i)) 24), (4, Own.box 6 (famH i) 113)]⟩) (fun (i : Nat) => i ≤ 3) (fun (i : Nat) => 3 - i) 0 (by show 0 ≤ 3; decide) (We (sl := [(0, SV.bp 1 0), (1, SV.bp 2 0), (3, SV.bp 3 0), (5, bv (true)), (6, SV.bp 4 0), (14, iv (0))]) (ow := [(1, Own.box 1 (cmpG [SV.v (Value.slice none 0 0)]) 24), (2, Own.box 6 (cmpG [iv (0), iv (0), iv (0), iv (0), iv (0), iv (0)]) 113), (3, Own.box 1 (stG (fam0)) 24), (4, Own.box 6 (famH 0) 113)]) (by exact ⟨V rfl, V rfl, V rfl, val_eq (V rfl) rfl, V rfl, V rfl, Z⟩) (by exact ⟨⟨_, rfl, rfl, rfl, (An rfl)⟩, ⟨_, rfl, rfl, rfl, (An rfl)⟩, ⟨_, rfl, rfl, rfl, (An rfl)⟩, ⟨_, rfl, rfl, rfl, (An rfl)⟩, Z⟩)) <| ?_
 ·rintro i hI1
  have hJ1 : i ≤ 3 := hI1
  rcases (show i = 0 ∨ i = 1 ∨ i = 2 ∨ i = 3 by omega) with rfl | rfl | rfl | rfl
  ·show C _ E _ ⟨[(0, SV.bp 1 0), (1, SV.bp 2 0), (3, SV.bp 3 0), (5, bv (true)), (6, SV.bp 4 0), (14, iv (0))], [(1, Own.box 1 (cmpG [SV.v (Value.slice none 0 0)]) 24), (2, Own.box 6 (cmpG [iv (0), iv (0), iv (0), iv (0), iv (0), iv (0)]) 113), (3, Own.box 1 (stG (fam0)) 24), (4, Own.box 6 (famH 0) 113)]⟩ _
   refine Sq <| Rq <| O (Lt (V rfl) K) <| Nq <| Sq <| Cd (V rfl) (fun hc1 => ?_) (fun hc1 => ?_)
   ·have hc1s := hc1; try simp only [BL] at hc1s
    exact Sk <| Sq <| Bo <| Sq <| Rq <| O (Mv (V rfl)) <| O (As (V rfl)) <| Nq <| Sq <| Rt <| U (Mv (V rfl)) <| U (LBA (V rfl) rfl Ga24 Sz24 (by decide)) <| U (Mv (V rfl)) <| CT en40 (by exact ⟨⟨(Vi (g' := stG fam0) (V rfl) ⟨Z, Ir⟩), rfl⟩, ⟨(V rfl), rfl⟩, Z⟩) (famM0) <| U (Mv (V rfl)) <| U (Xt (V rfl) (by decide)) <| U (Xt (V rfl) (by decide)) <| U (Xt (V rfl) (by decide)) <| StA (V rfl) rfl (V rfl) Sz24 <| U (q_ixB (i := 0) (V rfl) (V rfl) ta113 te113 (by rw [al113]; decide)) <| t_stP (fun zt => ([iv (0), iv (1), iv (0), iv (0), iv (0), iv (0)] : List SV).getD zt .junk) (V rfl) rfl (V rfl) Sz26 (by decide) (An rfl) <| U (As (V rfl)) <| Nt <| Rq <| O (Mv (V rfl)) <| O (Mv (V rfl)) <| Og (Gy rfl rfl) (fun hg => Mv (V rfl)) <| Og (Gy rfl rfl) (fun hg => Ql (Vg (V rfl) hg) K) <| O (Qa (V rfl) (fun h => Vg (V rfl) h)) <| O (As (V rfl)) <| Nq <| Rq <| O (Ad (V rfl) K (by omega)) <| O (Mv (V rfl)) <| Nq <| Nx (1) (by show 1 ≤ 3; decide) (by show 3 - 1 < 3 - 0; decide) (We (sl := [(0, SV.bp 1 0), (1, SV.bp 2 0), (3, SV.bp 3 0), (5, bv (true)), (6, SV.bp 4 0), (14, iv (1))]) (ow := [(1, Own.box 1 (cmpG [SV.v (Value.slice none 0 0)]) 24), (2, Own.box 6 (cmpG [iv (0), iv (0), iv (0), iv (0), iv (0), iv (0)]) 113), (3, Own.box 1 (stG (fam1)) 24), (4, Own.box 6 (famH 1) 113)]) (by exact ⟨V rfl, V rfl, V rfl, val_eq (V rfl) rfl, V rfl, V rfl, Z⟩) (by exact ⟨⟨_, rfl, rfl, rfl, (An rfl)⟩, ⟨_, rfl, rfl, rfl, (An rfl)⟩, ⟨_, rfl, rfl, rfl, (An rfl)⟩, ⟨_, rfl, rfl, rfl, (An rfl)⟩, Z⟩))
   ·exact absurd hc1 (by decide)
  ·show C _ E _ ⟨[(0, SV.bp 1 0), (1, SV.bp 2 0), (3, SV.bp 3 0), (5, bv (true)), (6, SV.bp 4 0), (14, iv (1))], [(1, Own.box 1 (cmpG [SV.v (Value.slice none 0 0)]) 24), (2, Own.box 6 (cmpG [iv (0), iv (0), iv (0), iv (0), iv (0), iv (0)]) 113), (3, Own.box 1 (stG (fam1)) 24), (4, Own.box 6 (famH 1) 113)]⟩ _
   refine Sq <| Rq <| O (Lt (V rfl) K) <| Nq <| Sq <| Cd (V rfl) (fun hc2 => ?_) (fun hc2 => ?_)
   ·have hc2s := hc2; try simp only [BL] at hc2s
    exact Sk <| Sq <| Bo <| Sq <| Rq <| O (Mv (V rfl)) <| O (As (V rfl)) <| Nq <| Sq <| Rt <| U (Mv (V rfl)) <| U (LBA (V rfl) rfl Ga24 Sz24 (by decide)) <| U (Mv (V rfl)) <| CT en40 (by exact ⟨⟨(Vi (g' := stG fam1) (V rfl) ⟨Z, Ir⟩), rfl⟩, ⟨(V rfl), rfl⟩, Z⟩) (famM1) <| U (Mv (V rfl)) <| U (Xt (V rfl) (by decide)) <| U (Xt (V rfl) (by decide)) <| U (Xt (V rfl) (by decide)) <| StA (V rfl) rfl (V rfl) Sz24 <| U (q_ixB (i := 1) (V rfl) (V rfl) ta113 te113 (by rw [al113]; decide)) <| t_stP (fun zt => ([iv (0), iv (1), iv (1), iv (1), iv (0), iv (0)] : List SV).getD zt .junk) (V rfl) rfl (V rfl) Sz26 (by decide) (An rfl) <| U (As (V rfl)) <| Nt <| Rq <| O (Mv (V rfl)) <| O (Mv (V rfl)) <| Og (Gy rfl rfl) (fun hg => Mv (V rfl)) <| Og (Gy rfl rfl) (fun hg => Ql (Vg (V rfl) hg) K) <| O (Qa (V rfl) (fun h => Vg (V rfl) h)) <| O (As (V rfl)) <| Nq <| Rq <| O (Ad (V rfl) K (by omega)) <| O (Mv (V rfl)) <| Nq <| Nx (2) (by show 2 ≤ 3; decide) (by show 3 - 2 < 3 - 1; decide) (We (sl := [(0, SV.bp 1 0), (1, SV.bp 2 0), (3, SV.bp 3 0), (5, bv (true)), (6, SV.bp 4 0), (14, iv (2))]) (ow := [(1, Own.box 1 (cmpG [SV.v (Value.slice none 0 0)]) 24), (2, Own.box 6 (cmpG [iv (0), iv (0), iv (0), iv (0), iv (0), iv (0)]) 113), (3, Own.box 1 (stG (fam2)) 24), (4, Own.box 6 (famH 2) 113)]) (by exact ⟨V rfl, V rfl, V rfl, val_eq (V rfl) rfl, V rfl, V rfl, Z⟩) (by exact ⟨⟨_, rfl, rfl, rfl, (An rfl)⟩, ⟨_, rfl, rfl, rfl, (An rfl)⟩, ⟨_, rfl, rfl, rfl, (An rfl)⟩, ⟨_, rfl, rfl, rfl, (An rfl)⟩, Z⟩))
   ·exact absurd hc2 (by decide)
  ·show C _ E _ ⟨[(0, SV.bp 1 0), (1, SV.bp 2 0), (3, SV.bp 3 0), (5, bv (true)), (6, SV.bp 4 0), (14, iv (2))], [(1, Own.box 1 (cmpG [SV.v (Value.slice none 0 0)]) 24), (2, Own.box 6 (cmpG [iv (0), iv (0), iv (0), iv (0), iv (0), iv (0)]) 113), (3, Own.box 1 (stG (fam2)) 24), (4, Own.box 6 (famH 2) 113)]⟩ _
   refine Sq <| Rq <| O (Lt (V rfl) K) <| Nq <| Sq <| Cd (V rfl) (fun hc3 => ?_) (fun hc3 => ?_)
   ·have hc3s := hc3; try simp only [BL] at hc3s
    exact Sk <| Sq <| Bo <| Sq <| Rq <| O (Mv (V rfl)) <| O (As (V rfl)) <| Nq <| Sq <| Rt <| U (Mv (V rfl)) <| U (LBA (V rfl) rfl Ga24 Sz24 (by decide)) <| U (Mv (V rfl)) <| CT en40 (by exact ⟨⟨(Vi (g' := stG fam2) (V rfl) ⟨Z, Ir⟩), rfl⟩, ⟨(V rfl), rfl⟩, Z⟩) (famM2) <| U (Mv (V rfl)) <| U (Xt (V rfl) (by decide)) <| U (Xt (V rfl) (by decide)) <| U (Xt (V rfl) (by decide)) <| StA (V rfl) rfl (V rfl) Sz24 <| U (q_ixB (i := 2) (V rfl) (V rfl) ta113 te113 (by rw [al113]; decide)) <| t_stP (fun zt => ([iv (0), iv (1), iv (1), iv (1), iv (2), iv (1)] : List SV).getD zt .junk) (V rfl) rfl (V rfl) Sz26 (by decide) (An rfl) <| U (As (V rfl)) <| Nt <| Rq <| O (Mv (V rfl)) <| O (Mv (V rfl)) <| Og (Gy rfl rfl) (fun hg => Mv (V rfl)) <| Og (Gy rfl rfl) (fun hg => Ql (Vg (V rfl) hg) K) <| O (Qa (V rfl) (fun h => Vg (V rfl) h)) <| O (As (V rfl)) <| Nq <| Rq <| O (Ad (V rfl) K (by omega)) <| O (Mv (V rfl)) <| Nq <| Nx (3) (by show 3 ≤ 3; decide) (by show 3 - 3 < 3 - 2; decide) (We (sl := [(0, SV.bp 1 0), (1, SV.bp 2 0), (3, SV.bp 3 0), (5, bv (true)), (6, SV.bp 4 0), (14, iv (3))]) (ow := [(1, Own.box 1 (cmpG [SV.v (Value.slice none 0 0)]) 24), (2, Own.box 6 (cmpG [iv (0), iv (0), iv (0), iv (0), iv (0), iv (0)]) 113), (3, Own.box 1 (stG (fam3)) 24), (4, Own.box 6 (famH 3) 113)]) (by exact ⟨V rfl, V rfl, V rfl, val_eq (V rfl) rfl, V rfl, V rfl, Z⟩) (by exact ⟨⟨_, rfl, rfl, rfl, (An rfl)⟩, ⟨_, rfl, rfl, rfl, (An rfl)⟩, ⟨_, rfl, rfl, rfl, (An rfl)⟩, ⟨_, rfl, rfl, rfl, (An rfl)⟩, Z⟩))
   ·exact absurd hc3 (by decide)
  ·show C _ E _ ⟨[(0, SV.bp 1 0), (1, SV.bp 2 0), (3, SV.bp 3 0), (5, bv (true)), (6, SV.bp 4 0), (14, iv (3))], [(1, Own.box 1 (cmpG [SV.v (Value.slice none 0 0)]) 24), (2, Own.box 6 (cmpG [iv (0), iv (0), iv (0), iv (0), iv (0), iv (0)]) 113), (3, Own.box 1 (stG (fam3)) 24), (4, Own.box 6 (famH 3) 113)]⟩ _
   refine Sq <| Rq <| O (Lt (V rfl) K) <| Nq <| Sq <| Cd (V rfl) (fun hc4 => ?_) (fun hc4 => ?_)
   ·exact absurd hc4 (by decide)
   ·have hc4s := hc4; try simp only [BL] at hc4s
    refine Ex <| Sq <| Rt <| U (LBA (V rfl) rfl Ga24 Sz24 (by decide)) <| U (q_ixB (i := 0) (V rfl) K ta113 te113 (by rw [al113]; decide)) <| U (LBA (V rfl) rfl Ga26 Sz26 (by decide)) <| U (q_ixB (i := 1) (V rfl) K ta113 te113 (by rw [al113]; decide)) <| U (LBA (V rfl) rfl Ga26 Sz26 (by decide)) <| CT en56 (by exact ⟨⟨(Vi (g' := stG fam3) (V rfl) ⟨Z, Ir⟩), rfl⟩, ⟨(Vi (g' := hdCell ⟨0, 1⟩) (V rfl) ⟨⟨Z, Ir⟩, Ir⟩), rfl⟩, ⟨(Vi (g' := hdCell ⟨1, 1⟩) (V rfl) ⟨⟨Z, Ir⟩, Ir⟩), rfl⟩, ⟨Vn, rfl⟩, Z⟩) (famI4) <| U (Mv (V rfl)) <| U (Xt (V rfl) (by decide)) <| U (Xt (V rfl) (by decide)) <| StA (V rfl) rfl (V rfl) Sz24 <| U (As (V rfl)) <| Nt <| Sq <| Rq <| O (Mv (V rfl)) <| O (Mv (V rfl)) <| Og (Gy rfl rfl) (fun hg => Mv (V rfl)) <| Og (Gy rfl rfl) (fun hg => Ql (Vg (V rfl) hg) K) <| O (Qa (V rfl) (fun h => Vg (V rfl) h)) <| O (As (V rfl)) <| Nq <| Sq <| c_frzB 4 [iv (0), iv (1), iv (1), iv (1), iv (2), iv (1)] rfl rfl ⟨⟨⟨⟨⟨⟨Z, rfl⟩, rfl⟩, rfl⟩, rfl⟩, rfl⟩, rfl⟩ rfl <| c_rd (fun e => ⟨[(47, cj (e 0) (SV.agg 1 (fun zi => (stG fam4) (0 + zi)))), (48, cj (e 1) (elB [iv (0), iv (1), iv (1), iv (1), iv (2), iv (1)] 0)), (49, cj (e 2) (SV.agg 2 (fun zi => (fun zt => ([iv (0), iv (1), iv (1), iv (1), iv (2), iv (1)] : List SV).getD zt .junk) (0 + zi)))), (50, cj (e 3) (elB [iv (0), iv (1), iv (1), iv (1), iv (2), iv (1)] 4)), (51, cj (e 4) (SV.agg 2 (fun zi => (fun zt => ([iv (0), iv (1), iv (1), iv (1), iv (2), iv (1)] : List SV).getD zt .junk) (4 + zi)))), (52, cj (e 5) (hdRow ([⟨1, 1⟩]))), (53, cj (e 6) (sv2 (SV.agg 1 (stG fam5)) (iv (0)))), (46, cj (e 7) (sv2 (SV.agg 1 (stG fam5)) (iv (0)))), (54, cj (e 8) (SV.agg 1 (stG fam5))), (55, cj (e 9) (iv (0))), (4, cj (e 11) (iv (0))), (0, SV.bp 1 0), (1, SV.bp 2 0), (3, SV.bp 3 0), (5, bv (true && (decide ((0 : Int) = 0)))), (6, elB [iv (0), iv (1), iv (1), iv (1), iv (2), iv (1)] 0)], (cb (e 10) [(1, Own.box 1 (cmpG [SV.v (Value.slice none 0 0)]) 24), (2, Own.box 6 (cmpG [iv (0), iv (0), iv (0), iv (0), iv (0), iv (0)]) 113), (3, Own.box 1 (stG fam5) 24)] [(1, Own.box 1 (cmpG [SV.v (Value.slice none 0 0)]) 24), (2, Own.box 6 (cmpG [iv (0), iv (0), iv (0), iv (0), iv (0), iv (0)]) 113), (3, Own.box 1 (stG fam4) 24)])⟩) ⟨[(47, SV.agg 1 (fun zi => (stG fam4) (0 + zi))), (48, elB [iv (0), iv (1), iv (1), iv (1), iv (2), iv (1)] 0), (49, SV.agg 2 (fun zi => (fun zt => ([iv (0), iv (1), iv (1), iv (1), iv (2), iv (1)] : List SV).getD zt .junk) (0 + zi))), (50, elB [iv (0), iv (1), iv (1), iv (1), iv (2), iv (1)] 4), (51, SV.agg 2 (fun zi => (fun zt => ([iv (0), iv (1), iv (1), iv (1), iv (2), iv (1)] : List SV).getD zt .junk) (4 + zi))), (52, hdRow ([⟨1, 1⟩])), (53, sv2 (SV.agg 1 (stG fam5)) (iv (0))), (46, sv2 (SV.agg 1 (stG fam5)) (iv (0))), (54, SV.agg 1 (stG fam5)), (55, iv (0)), (4, iv (0)), (0, SV.bp 1 0), (1, SV.bp 2 0), (3, SV.bp 3 0), (5, bv (true && (decide ((0 : Int) = 0)))), (6, elB [iv (0), iv (1), iv (1), iv (1), iv (2), iv (1)] 0)], [(1, Own.box 1 (cmpG [SV.v (Value.slice none 0 0)]) 24), (2, Own.box 6 (cmpG [iv (0), iv (0), iv (0), iv (0), iv (0), iv (0)]) 113), (3, Own.box 1 (stG fam5) 24)]⟩ (by kernel_rfl) (by kernel_rfl) ?_ ⟨?_, ?_, ?_, ?_, ?_, ?_, ?_, ?_, ?_, ?_, ?_, ?_, Z⟩ ?_ ?_
    ·show Weak _ _ ⟨[(47, SV.junk), (48, SV.junk), (49, SV.junk), (50, SV.junk), (51, SV.junk), (52, SV.junk), (53, SV.junk), (46, SV.junk), (54, SV.junk), (55, SV.junk), (4, SV.junk), (0, SV.bp 1 0), (1, SV.bp 2 0), (3, SV.bp 3 0), (5, bv (true && (decide ((0 : Int) = 0)))), (6, elB [iv (0), iv (1), iv (1), iv (1), iv (2), iv (1)] 0)], [(1, Own.box 1 (cmpG [SV.v (Value.slice none 0 0)]) 24), (2, Own.box 6 (cmpG [iv (0), iv (0), iv (0), iv (0), iv (0), iv (0)]) 113), (3, Own.box 1 (stG fam4) 24)]⟩
     refine We ?_ ?_
     ·exact ⟨Vj, Vj, Vj, Vj, Vj, Vj, Vj, Vj, Vj, Vj, Vj, V rfl, V rfl, V rfl, V rfl, V rfl, Z⟩
     ·exact ⟨⟨_, rfl, ⟨rfl, rfl, (An rfl)⟩⟩, ⟨_, rfl, ⟨rfl, rfl, (An rfl)⟩⟩, ⟨_, rfl, ⟨rfl, rfl, (An rfl)⟩⟩, Z⟩
    ·intro e hdn he hdp
     have h10 : e 10 = false := fls he fun q => by obtain ⟨r8, -, -, -, -, -, -, -, -, -, -, -⟩ := (show e 8 = true ∧ e 6 = true ∧ e 0 = true ∧ e 1 = true ∧ e 2 = true ∧ e 3 = true ∧ e 4 = true ∧ e 5 = true ∧ e 6 = true ∧ e 7 = true ∧ e 8 = true ∧ True from hdn 10 q); obtain ⟨r7, -⟩ := (show e 7 = true ∧ True from hdn 8 r8); obtain ⟨r6, -⟩ := (show e 6 = true ∧ True from hdn 7 r7); obtain ⟨r0, -, -, -, -⟩ := (show e 0 = true ∧ e 2 = true ∧ e 4 = true ∧ e 5 = true ∧ True from hdn 6 r6); exact r0
     simp only [setE, he, h10, cj_t, cj_f, cjn_t, cjn_f, cb_t, cb_f]
     refine U (LBA (V rfl) rfl Ga24 Sz24 (by decide)) <| Nt <| We ?_ ?_
     ·exact ⟨V rfl, V rfl, V rfl, V rfl, V rfl, V rfl, V rfl, V rfl, V rfl, V rfl, V rfl, V rfl, V rfl, V rfl, V rfl, V rfl, Z⟩
     ·exact ⟨⟨_, rfl, ⟨rfl, rfl, (An rfl)⟩⟩, ⟨_, rfl, ⟨rfl, rfl, (An rfl)⟩⟩, ⟨_, rfl, ⟨rfl, rfl, (An rfl)⟩⟩, Z⟩
    ·intro e hdn he hdp
     have h10 : e 10 = false := fls he fun q => by obtain ⟨r8, -, -, -, -, -, -, -, -, -, -, -⟩ := (show e 8 = true ∧ e 6 = true ∧ e 0 = true ∧ e 1 = true ∧ e 2 = true ∧ e 3 = true ∧ e 4 = true ∧ e 5 = true ∧ e 6 = true ∧ e 7 = true ∧ e 8 = true ∧ True from hdn 10 q); obtain ⟨r7, -⟩ := (show e 7 = true ∧ True from hdn 8 r8); obtain ⟨r6, -⟩ := (show e 6 = true ∧ True from hdn 7 r7); obtain ⟨-, r2, -, -, -⟩ := (show e 0 = true ∧ e 2 = true ∧ e 4 = true ∧ e 5 = true ∧ True from hdn 6 r6); obtain ⟨r1, -⟩ := (show e 1 = true ∧ True from hdn 2 r2); exact r1
     simp only [setE, he, h10, cj_t, cj_f, cjn_t, cjn_f, cb_t, cb_f]
     refine U (q_ixE (i := 0) (V rfl) K ta113 te113 (by rw [al113]; decide)) <| Nt <| We ?_ ?_
     ·exact ⟨V rfl, V rfl, V rfl, V rfl, V rfl, V rfl, V rfl, V rfl, V rfl, V rfl, V rfl, V rfl, V rfl, V rfl, V rfl, V rfl, Z⟩
     ·exact ⟨⟨_, rfl, ⟨rfl, rfl, (An rfl)⟩⟩, ⟨_, rfl, ⟨rfl, rfl, (An rfl)⟩⟩, ⟨_, rfl, ⟨rfl, rfl, (An rfl)⟩⟩, Z⟩
    ·intro e hdn he hdp
     obtain ⟨h1, -⟩ := (show e 1 = true ∧ True from hdp)
     have h10 : e 10 = false := fls he fun q => by obtain ⟨r8, -, -, -, -, -, -, -, -, -, -, -⟩ := (show e 8 = true ∧ e 6 = true ∧ e 0 = true ∧ e 1 = true ∧ e 2 = true ∧ e 3 = true ∧ e 4 = true ∧ e 5 = true ∧ e 6 = true ∧ e 7 = true ∧ e 8 = true ∧ True from hdn 10 q); obtain ⟨r7, -⟩ := (show e 7 = true ∧ True from hdn 8 r8); obtain ⟨r6, -⟩ := (show e 6 = true ∧ True from hdn 7 r7); obtain ⟨-, r2, -, -, -⟩ := (show e 0 = true ∧ e 2 = true ∧ e 4 = true ∧ e 5 = true ∧ True from hdn 6 r6); exact r2
     simp only [setE, h1, he, h10, cj_t, cj_f, cjn_t, cjn_f, cb_t, cb_f]
     refine U (LdA (V rfl) Ga26 Sz26 (by show 0 + 2 ≤ 6; decide)) <| Nt <| We ?_ ?_
     ·exact ⟨V rfl, V rfl, V rfl, V rfl, V rfl, V rfl, V rfl, V rfl, V rfl, V rfl, V rfl, V rfl, V rfl, V rfl, V rfl, V rfl, Z⟩
     ·exact ⟨⟨_, rfl, ⟨rfl, rfl, (An rfl)⟩⟩, ⟨_, rfl, ⟨rfl, rfl, (An rfl)⟩⟩, ⟨_, rfl, ⟨rfl, rfl, (An rfl)⟩⟩, Z⟩
    ·intro e hdn he hdp
     have h10 : e 10 = false := fls he fun q => by obtain ⟨r8, -, -, -, -, -, -, -, -, -, -, -⟩ := (show e 8 = true ∧ e 6 = true ∧ e 0 = true ∧ e 1 = true ∧ e 2 = true ∧ e 3 = true ∧ e 4 = true ∧ e 5 = true ∧ e 6 = true ∧ e 7 = true ∧ e 8 = true ∧ True from hdn 10 q); obtain ⟨r7, -⟩ := (show e 7 = true ∧ True from hdn 8 r8); obtain ⟨r6, -⟩ := (show e 6 = true ∧ True from hdn 7 r7); obtain ⟨-, -, r4, -, -⟩ := (show e 0 = true ∧ e 2 = true ∧ e 4 = true ∧ e 5 = true ∧ True from hdn 6 r6); obtain ⟨r3, -⟩ := (show e 3 = true ∧ True from hdn 4 r4); exact r3
     simp only [setE, he, h10, cj_t, cj_f, cjn_t, cjn_f, cb_t, cb_f]
     refine U (q_ixE (i := 2) (V rfl) K ta113 te113 (by rw [al113]; decide)) <| Nt <| We ?_ ?_
     ·exact ⟨V rfl, V rfl, V rfl, V rfl, V rfl, V rfl, V rfl, V rfl, V rfl, V rfl, V rfl, V rfl, V rfl, V rfl, V rfl, V rfl, Z⟩
     ·exact ⟨⟨_, rfl, ⟨rfl, rfl, (An rfl)⟩⟩, ⟨_, rfl, ⟨rfl, rfl, (An rfl)⟩⟩, ⟨_, rfl, ⟨rfl, rfl, (An rfl)⟩⟩, Z⟩
    ·intro e hdn he hdp
     obtain ⟨h3, -⟩ := (show e 3 = true ∧ True from hdp)
     have h10 : e 10 = false := fls he fun q => by obtain ⟨r8, -, -, -, -, -, -, -, -, -, -, -⟩ := (show e 8 = true ∧ e 6 = true ∧ e 0 = true ∧ e 1 = true ∧ e 2 = true ∧ e 3 = true ∧ e 4 = true ∧ e 5 = true ∧ e 6 = true ∧ e 7 = true ∧ e 8 = true ∧ True from hdn 10 q); obtain ⟨r7, -⟩ := (show e 7 = true ∧ True from hdn 8 r8); obtain ⟨r6, -⟩ := (show e 6 = true ∧ True from hdn 7 r7); obtain ⟨-, -, r4, -, -⟩ := (show e 0 = true ∧ e 2 = true ∧ e 4 = true ∧ e 5 = true ∧ True from hdn 6 r6); exact r4
     simp only [setE, h3, he, h10, cj_t, cj_f, cjn_t, cjn_f, cb_t, cb_f]
     refine U (LdA (V rfl) Ga26 Sz26 (by show 4 + 2 ≤ 6; decide)) <| Nt <| We ?_ ?_
     ·exact ⟨V rfl, V rfl, V rfl, V rfl, V rfl, V rfl, V rfl, V rfl, V rfl, V rfl, V rfl, V rfl, V rfl, V rfl, V rfl, V rfl, Z⟩
     ·exact ⟨⟨_, rfl, ⟨rfl, rfl, (An rfl)⟩⟩, ⟨_, rfl, ⟨rfl, rfl, (An rfl)⟩⟩, ⟨_, rfl, ⟨rfl, rfl, (An rfl)⟩⟩, Z⟩
    ·intro e hdn he hdp
     have h10 : e 10 = false := fls he fun q => by obtain ⟨r8, -, -, -, -, -, -, -, -, -, -, -⟩ := (show e 8 = true ∧ e 6 = true ∧ e 0 = true ∧ e 1 = true ∧ e 2 = true ∧ e 3 = true ∧ e 4 = true ∧ e 5 = true ∧ e 6 = true ∧ e 7 = true ∧ e 8 = true ∧ True from hdn 10 q); obtain ⟨r7, -⟩ := (show e 7 = true ∧ True from hdn 8 r8); obtain ⟨r6, -⟩ := (show e 6 = true ∧ True from hdn 7 r7); obtain ⟨-, -, -, r5, -⟩ := (show e 0 = true ∧ e 2 = true ∧ e 4 = true ∧ e 5 = true ∧ True from hdn 6 r6); exact r5
     simp only [setE, he, h10, cj_t, cj_f, cjn_t, cjn_f, cb_t, cb_f]
     refine U (q_slA (cell := hdCell) (d := default) (k := 2) (l := 1) (h := 2) [⟨1, 1⟩] ta113 te113 (V rfl) K K (by decide) (by rw [al113]; decide) (by rw [al113]; decide) (by rw [al113]; decide) rfl (fun i hi => match i, hi with | 0, _ => An rfl)) <| Nt <| We ?_ ?_
     ·exact ⟨V rfl, V rfl, V rfl, V rfl, V rfl, V rfl, V rfl, V rfl, V rfl, V rfl, V rfl, V rfl, V rfl, V rfl, V rfl, V rfl, Z⟩
     ·exact ⟨⟨_, rfl, ⟨rfl, rfl, (An rfl)⟩⟩, ⟨_, rfl, ⟨rfl, rfl, (An rfl)⟩⟩, ⟨_, rfl, ⟨rfl, rfl, (An rfl)⟩⟩, Z⟩
    ·intro e hdn he hdp
     obtain ⟨h0, h2, h4, h5, -⟩ := (show e 0 = true ∧ e 2 = true ∧ e 4 = true ∧ e 5 = true ∧ True from hdp)
     obtain ⟨h3, -⟩ := (show e 3 = true ∧ True from hdn 4 h4)
     obtain ⟨h1, -⟩ := (show e 1 = true ∧ True from hdn 2 h2)
     have h10 : e 10 = false := fls he fun q => by obtain ⟨r8, -, -, -, -, -, -, -, -, -, -, -⟩ := (show e 8 = true ∧ e 6 = true ∧ e 0 = true ∧ e 1 = true ∧ e 2 = true ∧ e 3 = true ∧ e 4 = true ∧ e 5 = true ∧ e 6 = true ∧ e 7 = true ∧ e 8 = true ∧ True from hdn 10 q); obtain ⟨r7, -⟩ := (show e 7 = true ∧ True from hdn 8 r8); obtain ⟨r6, -⟩ := (show e 6 = true ∧ True from hdn 7 r7); exact r6
     simp only [setE, h0, h1, h2, h3, h4, h5, he, h10, cj_t, cj_f, cjn_t, cjn_f, cb_t, cb_f]
     refine CT en56 (by exact ⟨⟨(Vi (g' := stG fam4) (V rfl) ⟨Z, Ir⟩), rfl⟩, ⟨(Vi (g' := hdCell ⟨0, 1⟩) (V rfl) ⟨⟨Z, Ir⟩, Ir⟩), rfl⟩, ⟨(Vi (g' := hdCell ⟨2, 1⟩) (V rfl) ⟨⟨Z, Ir⟩, Ir⟩), rfl⟩, ⟨(V rfl), rfl⟩, Z⟩) (famI5) <| Nt <| We ?_ ?_
     ·exact ⟨V rfl, V rfl, V rfl, V rfl, V rfl, V rfl, V rfl, V rfl, V rfl, V rfl, V rfl, V rfl, V rfl, V rfl, V rfl, V rfl, Z⟩
     ·exact ⟨⟨_, rfl, ⟨rfl, rfl, (An rfl)⟩⟩, ⟨_, rfl, ⟨rfl, rfl, (An rfl)⟩⟩, ⟨_, rfl, ⟨rfl, rfl, (An rfl)⟩⟩, Z⟩
    ·intro e hdn he hdp
     obtain ⟨h6, -⟩ := (show e 6 = true ∧ True from hdp)
     obtain ⟨h0, h2, h4, h5, -⟩ := (show e 0 = true ∧ e 2 = true ∧ e 4 = true ∧ e 5 = true ∧ True from hdn 6 h6)
     obtain ⟨h3, -⟩ := (show e 3 = true ∧ True from hdn 4 h4)
     obtain ⟨h1, -⟩ := (show e 1 = true ∧ True from hdn 2 h2)
     have h10 : e 10 = false := fls he fun q => by obtain ⟨r8, -, -, -, -, -, -, -, -, -, -, -⟩ := (show e 8 = true ∧ e 6 = true ∧ e 0 = true ∧ e 1 = true ∧ e 2 = true ∧ e 3 = true ∧ e 4 = true ∧ e 5 = true ∧ e 6 = true ∧ e 7 = true ∧ e 8 = true ∧ True from hdn 10 q); obtain ⟨r7, -⟩ := (show e 7 = true ∧ True from hdn 8 r8); exact r7
     simp only [setE, h0, h1, h2, h3, h4, h5, h6, he, h10, cj_t, cj_f, cjn_t, cjn_f, cb_t, cb_f]
     refine U (Mv (V rfl)) <| Nt <| We ?_ ?_
     ·exact ⟨V rfl, V rfl, V rfl, V rfl, V rfl, V rfl, V rfl, V rfl, V rfl, V rfl, V rfl, V rfl, V rfl, V rfl, V rfl, V rfl, Z⟩
     ·exact ⟨⟨_, rfl, ⟨rfl, rfl, (An rfl)⟩⟩, ⟨_, rfl, ⟨rfl, rfl, (An rfl)⟩⟩, ⟨_, rfl, ⟨rfl, rfl, (An rfl)⟩⟩, Z⟩
    ·intro e hdn he hdp
     obtain ⟨h7, -⟩ := (show e 7 = true ∧ True from hdp)
     obtain ⟨h6, -⟩ := (show e 6 = true ∧ True from hdn 7 h7)
     obtain ⟨h0, h2, h4, h5, -⟩ := (show e 0 = true ∧ e 2 = true ∧ e 4 = true ∧ e 5 = true ∧ True from hdn 6 h6)
     obtain ⟨h3, -⟩ := (show e 3 = true ∧ True from hdn 4 h4)
     obtain ⟨h1, -⟩ := (show e 1 = true ∧ True from hdn 2 h2)
     have h10 : e 10 = false := fls he fun q => by obtain ⟨r8, -, -, -, -, -, -, -, -, -, -, -⟩ := (show e 8 = true ∧ e 6 = true ∧ e 0 = true ∧ e 1 = true ∧ e 2 = true ∧ e 3 = true ∧ e 4 = true ∧ e 5 = true ∧ e 6 = true ∧ e 7 = true ∧ e 8 = true ∧ True from hdn 10 q); exact r8
     simp only [setE, h0, h1, h2, h3, h4, h5, h6, h7, he, h10, cj_t, cj_f, cjn_t, cjn_f, cb_t, cb_f]
     refine U (Xt (V rfl) (by decide)) <| Nt <| We ?_ ?_
     ·exact ⟨V rfl, V rfl, V rfl, V rfl, V rfl, V rfl, V rfl, V rfl, V rfl, V rfl, V rfl, V rfl, V rfl, V rfl, V rfl, V rfl, Z⟩
     ·exact ⟨⟨_, rfl, ⟨rfl, rfl, (An rfl)⟩⟩, ⟨_, rfl, ⟨rfl, rfl, (An rfl)⟩⟩, ⟨_, rfl, ⟨rfl, rfl, (An rfl)⟩⟩, Z⟩
    ·intro e hdn he hdp
     obtain ⟨h7, -⟩ := (show e 7 = true ∧ True from hdp)
     obtain ⟨h6, -⟩ := (show e 6 = true ∧ True from hdn 7 h7)
     obtain ⟨h0, h2, h4, h5, -⟩ := (show e 0 = true ∧ e 2 = true ∧ e 4 = true ∧ e 5 = true ∧ True from hdn 6 h6)
     obtain ⟨h3, -⟩ := (show e 3 = true ∧ True from hdn 4 h4)
     obtain ⟨h1, -⟩ := (show e 1 = true ∧ True from hdn 2 h2)
     simp only [setE, h0, h1, h2, h3, h4, h5, h6, h7, he, cj_t, cj_f, cjn_t, cjn_f, cb_t, cb_f]
     exact U (Xt (V rfl) (by decide)) <| Nt <| weakS ⟨V rfl, V rfl, V rfl, V rfl, V rfl, V rfl, V rfl, V rfl, V rfl, V rfl, V rfl, V rfl, V rfl, V rfl, V rfl, V rfl, Z⟩
    ·intro e hdn he hdp
     obtain ⟨h8, h6, h0, h1, h2, h3, h4, h5, -, h7, -, -⟩ := (show e 8 = true ∧ e 6 = true ∧ e 0 = true ∧ e 1 = true ∧ e 2 = true ∧ e 3 = true ∧ e 4 = true ∧ e 5 = true ∧ e 6 = true ∧ e 7 = true ∧ e 8 = true ∧ True from hdp)
     simp only [setE, h0, h1, h2, h3, h4, h5, h6, h7, h8, he, cj_t, cj_f, cjn_t, cjn_f, cb_t, cb_f]
     refine StA (V rfl) rfl (V rfl) Sz24 <| Nt <| We ?_ ?_
     ·exact ⟨V rfl, V rfl, V rfl, V rfl, V rfl, V rfl, V rfl, V rfl, V rfl, V rfl, V rfl, V rfl, V rfl, V rfl, V rfl, V rfl, Z⟩
     ·exact ⟨⟨_, rfl, ⟨rfl, rfl, (An rfl)⟩⟩, ⟨_, rfl, ⟨rfl, rfl, (An rfl)⟩⟩, ⟨_, rfl, ⟨rfl, rfl, (An rfl)⟩⟩, Z⟩
    ·intro e hdn he hdp
     obtain ⟨h9, h10, h0, h1, h2, h3, h4, h5, h6, h7, h8, -, -, -⟩ := (show e 9 = true ∧ e 10 = true ∧ e 0 = true ∧ e 1 = true ∧ e 2 = true ∧ e 3 = true ∧ e 4 = true ∧ e 5 = true ∧ e 6 = true ∧ e 7 = true ∧ e 8 = true ∧ e 9 = true ∧ e 10 = true ∧ True from hdp)
     simp only [setE, h0, h1, h2, h3, h4, h5, h6, h7, h8, h9, h10, he, cj_t, cj_f, cjn_t, cjn_f, cb_t, cb_f]
     refine U (As (V rfl)) <| Nt <| We ?_ ?_
     ·exact ⟨V rfl, V rfl, V rfl, V rfl, V rfl, V rfl, V rfl, V rfl, V rfl, V rfl, V rfl, V rfl, V rfl, V rfl, V rfl, V rfl, Z⟩
     ·exact ⟨⟨_, rfl, ⟨rfl, rfl, (An rfl)⟩⟩, ⟨_, rfl, ⟨rfl, rfl, (An rfl)⟩⟩, ⟨_, rfl, ⟨rfl, rfl, (An rfl)⟩⟩, Z⟩
    ·intro e he
     have h0 := he 0 (by decide)
     have h1 := he 1 (by decide)
     have h2 := he 2 (by decide)
     have h3 := he 3 (by decide)
     have h4 := he 4 (by decide)
     have h5 := he 5 (by decide)
     have h6 := he 6 (by decide)
     have h7 := he 7 (by decide)
     have h8 := he 8 (by decide)
     have h9 := he 9 (by decide)
     have h10 := he 10 (by decide)
     have h11 := he 11 (by decide)
     show Weak _ ⟨[(47, cj (e 0) (SV.agg 1 (fun zi => (stG fam4) (0 + zi)))), (48, cj (e 1) (elB [iv (0), iv (1), iv (1), iv (1), iv (2), iv (1)] 0)), (49, cj (e 2) (SV.agg 2 (fun zi => (fun zt => ([iv (0), iv (1), iv (1), iv (1), iv (2), iv (1)] : List SV).getD zt .junk) (0 + zi)))), (50, cj (e 3) (elB [iv (0), iv (1), iv (1), iv (1), iv (2), iv (1)] 4)), (51, cj (e 4) (SV.agg 2 (fun zi => (fun zt => ([iv (0), iv (1), iv (1), iv (1), iv (2), iv (1)] : List SV).getD zt .junk) (4 + zi)))), (52, cj (e 5) (hdRow ([⟨1, 1⟩]))), (53, cj (e 6) (sv2 (SV.agg 1 (stG fam5)) (iv (0)))), (46, cj (e 7) (sv2 (SV.agg 1 (stG fam5)) (iv (0)))), (54, cj (e 8) (SV.agg 1 (stG fam5))), (55, cj (e 9) (iv (0))), (4, cj (e 11) (iv (0))), (0, SV.bp 1 0), (1, SV.bp 2 0), (3, SV.bp 3 0), (5, bv (true && (decide ((0 : Int) = 0)))), (6, elB [iv (0), iv (1), iv (1), iv (1), iv (2), iv (1)] 0)], (cb (e 10) [(1, Own.box 1 (cmpG [SV.v (Value.slice none 0 0)]) 24), (2, Own.box 6 (cmpG [iv (0), iv (0), iv (0), iv (0), iv (0), iv (0)]) 113), (3, Own.box 1 (stG fam5) 24)] [(1, Own.box 1 (cmpG [SV.v (Value.slice none 0 0)]) 24), (2, Own.box 6 (cmpG [iv (0), iv (0), iv (0), iv (0), iv (0), iv (0)]) 113), (3, Own.box 1 (stG fam4) 24)])⟩ _
     simp only [h0, h1, h2, h3, h4, h5, h6, h7, h8, h9, h10, h11]
     show Weak _ ⟨[(47, SV.agg 1 (fun zi => (stG fam4) (0 + zi))), (48, elB [iv (0), iv (1), iv (1), iv (1), iv (2), iv (1)] 0), (49, SV.agg 2 (fun zi => (fun zt => ([iv (0), iv (1), iv (1), iv (1), iv (2), iv (1)] : List SV).getD zt .junk) (0 + zi))), (50, elB [iv (0), iv (1), iv (1), iv (1), iv (2), iv (1)] 4), (51, SV.agg 2 (fun zi => (fun zt => ([iv (0), iv (1), iv (1), iv (1), iv (2), iv (1)] : List SV).getD zt .junk) (4 + zi))), (52, hdRow ([⟨1, 1⟩])), (53, sv2 (SV.agg 1 (stG fam5)) (iv (0))), (46, sv2 (SV.agg 1 (stG fam5)) (iv (0))), (54, SV.agg 1 (stG fam5)), (55, iv (0)), (4, iv (0)), (0, SV.bp 1 0), (1, SV.bp 2 0), (3, SV.bp 3 0), (5, bv (true && (decide ((0 : Int) = 0)))), (6, elB [iv (0), iv (1), iv (1), iv (1), iv (2), iv (1)] 0)], [(1, Own.box 1 (cmpG [SV.v (Value.slice none 0 0)]) 24), (2, Own.box 6 (cmpG [iv (0), iv (0), iv (0), iv (0), iv (0), iv (0)]) 113), (3, Own.box 1 (stG fam5) 24)]⟩ _
     refine We ?_ ?_
     ·exact ⟨Va (V rfl) (An rfl), V rfl, Va (V rfl) (An rfl), V rfl, Va (V rfl) (An rfl), V rfl, V rfl, V rfl, Va (V rfl) (An rfl), V rfl, V rfl, V rfl, V rfl, V rfl, V rfl, V rfl, Z⟩
     ·exact ⟨⟨_, rfl, ⟨rfl, rfl, (An rfl)⟩⟩, ⟨_, rfl, ⟨rfl, rfl, (An rfl)⟩⟩, ⟨_, rfl, ⟨rfl, rfl, (An rfl)⟩⟩, Z⟩
    refine Sq <| c_rd (fun e => ⟨[(56, cj (e 0) (SV.agg 1 (fun zi => (stG fam5) (0 + zi)))), (57, cj (e 1) (SV.agg 6 (fun zi => (fun zt => ([iv (0), iv (1), iv (1), iv (1), iv (2), iv (1)] : List SV).getD zt .junk) (0 + zi)))), (58, cj (e 2) (bv (true && (decide ((0 : Int) = 0))))), (59, cj (e 3) (bv (true && (decide ((0 : Int) = 0))))), (60, cj (e 4) (SV.grd ((true && (decide ((0 : Int) = 0)))) (iv (0)))), (61, cj (e 5) (SV.grd ((true && (decide ((0 : Int) = 0)))) (bv (decide ((0 : Int) = 0))))), (62, cj (e 6) (bv ((true && (decide ((0 : Int) = 0))) && (decide ((0 : Int) = 0))))), (63, cj (e 7) (bv ((true && (decide ((0 : Int) = 0))) && (decide ((0 : Int) = 0))))), (64, cj (e 8) (SV.grd (((true && (decide ((0 : Int) = 0))) && (decide ((0 : Int) = 0)))) (SV.bp 3 0))), (65, cj (e 9) (SV.grd (((true && (decide ((0 : Int) = 0))) && (decide ((0 : Int) = 0)))) (ndRow fam5))), (66, cj (e 10) (SV.grd (((true && (decide ((0 : Int) = 0))) && (decide ((0 : Int) = 0)))) (iv ((fam5.length : Int))))), (67, cj (e 11) (SV.grd (((true && (decide ((0 : Int) = 0))) && (decide ((0 : Int) = 0)))) (bv (decide ((fam5.length : Int) = 6))))), (68, cj (e 12) (bv (((true && (decide ((0 : Int) = 0))) && (decide ((0 : Int) = 0))) && (decide ((fam5.length : Int) = 6))))), (2, cj (e 15) (bv (((true && (decide ((0 : Int) = 0))) && (decide ((0 : Int) = 0))) && (decide ((fam5.length : Int) = 6))))), (0, SV.bp 1 0), (1, SV.bp 2 0), (3, SV.bp 3 0), (4, iv (0)), (5, bv (true && (decide ((0 : Int) = 0)))), (6, elB [iv (0), iv (1), iv (1), iv (1), iv (2), iv (1)] 0)], (cb (e 13) (cb (e 14) [(1, Own.box 1 (fun zi => (stG fam5) (0 + zi)) 24), (2, Own.box 6 (fun zi => (fun zt => ([iv (0), iv (1), iv (1), iv (1), iv (2), iv (1)] : List SV).getD zt .junk) (0 + zi)) 113), (3, Own.box 1 (stG fam5) 24)] [(1, Own.box 1 (fun zi => (stG fam5) (0 + zi)) 24), (2, Own.box 6 (cmpG [iv (0), iv (0), iv (0), iv (0), iv (0), iv (0)]) 113), (3, Own.box 1 (stG fam5) 24)]) (cb (e 14) [] [(1, Own.box 1 (cmpG [SV.v (Value.slice none 0 0)]) 24), (2, Own.box 6 (cmpG [iv (0), iv (0), iv (0), iv (0), iv (0), iv (0)]) 113), (3, Own.box 1 (stG fam5) 24)]))⟩) ⟨[(56, SV.agg 1 (fun zi => (stG fam5) (0 + zi))), (57, SV.agg 6 (fun zi => (fun zt => ([iv (0), iv (1), iv (1), iv (1), iv (2), iv (1)] : List SV).getD zt .junk) (0 + zi))), (58, bv (true && (decide ((0 : Int) = 0)))), (59, bv (true && (decide ((0 : Int) = 0)))), (60, SV.grd ((true && (decide ((0 : Int) = 0)))) (iv (0))), (61, SV.grd ((true && (decide ((0 : Int) = 0)))) (bv (decide ((0 : Int) = 0)))), (62, bv ((true && (decide ((0 : Int) = 0))) && (decide ((0 : Int) = 0)))), (63, bv ((true && (decide ((0 : Int) = 0))) && (decide ((0 : Int) = 0)))), (64, SV.grd (((true && (decide ((0 : Int) = 0))) && (decide ((0 : Int) = 0)))) (SV.bp 3 0)), (65, SV.grd (((true && (decide ((0 : Int) = 0))) && (decide ((0 : Int) = 0)))) (ndRow fam5)), (66, SV.grd (((true && (decide ((0 : Int) = 0))) && (decide ((0 : Int) = 0)))) (iv ((fam5.length : Int)))), (67, SV.grd (((true && (decide ((0 : Int) = 0))) && (decide ((0 : Int) = 0)))) (bv (decide ((fam5.length : Int) = 6)))), (68, bv (((true && (decide ((0 : Int) = 0))) && (decide ((0 : Int) = 0))) && (decide ((fam5.length : Int) = 6)))), (2, bv (((true && (decide ((0 : Int) = 0))) && (decide ((0 : Int) = 0))) && (decide ((fam5.length : Int) = 6)))), (0, SV.bp 1 0), (1, SV.bp 2 0), (3, SV.bp 3 0), (4, iv (0)), (5, bv (true && (decide ((0 : Int) = 0)))), (6, elB [iv (0), iv (1), iv (1), iv (1), iv (2), iv (1)] 0)], [(1, Own.box 1 (fun zi => (stG fam5) (0 + zi)) 24), (2, Own.box 6 (fun zi => (fun zt => ([iv (0), iv (1), iv (1), iv (1), iv (2), iv (1)] : List SV).getD zt .junk) (0 + zi)) 113), (3, Own.box 1 (stG fam5) 24)]⟩ (by kernel_rfl) (by kernel_rfl) ?_ ⟨?_, ?_, ?_, ?_, ?_, ?_, ?_, ?_, ?_, ?_, ?_, ?_, ?_, ?_, ?_, ?_, Z⟩ ?_ ?_
    ·show Weak _ _ ⟨[(56, SV.junk), (57, SV.junk), (58, SV.junk), (59, SV.junk), (60, SV.junk), (61, SV.junk), (62, SV.junk), (63, SV.junk), (64, SV.junk), (65, SV.junk), (66, SV.junk), (67, SV.junk), (68, SV.junk), (2, SV.junk), (0, SV.bp 1 0), (1, SV.bp 2 0), (3, SV.bp 3 0), (4, iv (0)), (5, bv (true && (decide ((0 : Int) = 0)))), (6, elB [iv (0), iv (1), iv (1), iv (1), iv (2), iv (1)] 0)], [(1, Own.box 1 (cmpG [SV.v (Value.slice none 0 0)]) 24), (2, Own.box 6 (cmpG [iv (0), iv (0), iv (0), iv (0), iv (0), iv (0)]) 113), (3, Own.box 1 (stG fam5) 24)]⟩
     refine We ?_ ?_
     ·exact ⟨Vj, Vj, Vj, Vj, Vj, Vj, Vj, Vj, Vj, Vj, Vj, Vj, Vj, Vj, V rfl, V rfl, V rfl, V rfl, V rfl, V rfl, Z⟩
     ·exact ⟨⟨_, rfl, ⟨rfl, rfl, (An rfl)⟩⟩, ⟨_, rfl, ⟨rfl, rfl, (An rfl)⟩⟩, ⟨_, rfl, ⟨rfl, rfl, (An rfl)⟩⟩, Z⟩
    ·intro e hdn he hdp
     have h13 : e 13 = false := fls he fun q => by obtain ⟨r0, -, -, -⟩ := (show e 0 = true ∧ e 7 = true ∧ e 0 = true ∧ True from hdn 13 q); exact r0
     have h14 : e 14 = false := fls he fun q => by obtain ⟨-, r13, -, -, -, -⟩ := (show e 1 = true ∧ e 13 = true ∧ e 0 = true ∧ e 1 = true ∧ e 13 = true ∧ True from hdn 14 q); obtain ⟨r0, -, -, -⟩ := (show e 0 = true ∧ e 7 = true ∧ e 0 = true ∧ True from hdn 13 r13); exact r0
     simp only [setE, he, h13, h14, cj_t, cj_f, cjn_t, cjn_f, cb_t, cb_f]
     refine U (LBA (V rfl) rfl Ga24 Sz24 (by decide)) <| Nt <| We ?_ ?_
     ·exact ⟨V rfl, V rfl, V rfl, V rfl, V rfl, V rfl, V rfl, V rfl, V rfl, V rfl, V rfl, V rfl, V rfl, V rfl, V rfl, V rfl, V rfl, V rfl, V rfl, V rfl, Z⟩
     ·exact ⟨⟨_, rfl, ⟨rfl, rfl, (An rfl)⟩⟩, ⟨_, rfl, ⟨rfl, rfl, (An rfl)⟩⟩, ⟨_, rfl, ⟨rfl, rfl, (An rfl)⟩⟩, Z⟩
    ·intro e hdn he hdp
     have h14 : e 14 = false := fls he fun q => by obtain ⟨r1, -, -, -, -, -⟩ := (show e 1 = true ∧ e 13 = true ∧ e 0 = true ∧ e 1 = true ∧ e 13 = true ∧ True from hdn 14 q); exact r1
     simp only [setE, he, h14, cj_t, cj_f, cjn_t, cjn_f, cb_t, cb_f]
     exact U (LdA (V rfl) Ga113 Sz113 (by show 0 + 6 ≤ 6; decide)) <| Nt <| weakS ⟨V rfl, V rfl, V rfl, V rfl, V rfl, V rfl, V rfl, V rfl, V rfl, V rfl, V rfl, V rfl, V rfl, V rfl, V rfl, V rfl, V rfl, V rfl, V rfl, V rfl, Z⟩
    ·intro e hdn he hdp
     have h13 : e 13 = false := fls he fun q => by obtain ⟨-, r7, -, -⟩ := (show e 0 = true ∧ e 7 = true ∧ e 0 = true ∧ True from hdn 13 q); obtain ⟨r6, -, -⟩ := (show e 6 = true ∧ e 3 = true ∧ True from hdn 7 r7); obtain ⟨-, r5, -⟩ := (show e 3 = true ∧ e 5 = true ∧ True from hdn 6 r6); obtain ⟨r4, -, -⟩ := (show e 4 = true ∧ e 3 = true ∧ True from hdn 5 r5); obtain ⟨r3, -⟩ := (show e 3 = true ∧ True from hdn 4 r4); obtain ⟨r2, -⟩ := (show e 2 = true ∧ True from hdn 3 r3); exact r2
     have h14 : e 14 = false := fls he fun q => by obtain ⟨-, r13, -, -, -, -⟩ := (show e 1 = true ∧ e 13 = true ∧ e 0 = true ∧ e 1 = true ∧ e 13 = true ∧ True from hdn 14 q); obtain ⟨-, r7, -, -⟩ := (show e 0 = true ∧ e 7 = true ∧ e 0 = true ∧ True from hdn 13 r13); obtain ⟨r6, -, -⟩ := (show e 6 = true ∧ e 3 = true ∧ True from hdn 7 r7); obtain ⟨-, r5, -⟩ := (show e 3 = true ∧ e 5 = true ∧ True from hdn 6 r6); obtain ⟨r4, -, -⟩ := (show e 4 = true ∧ e 3 = true ∧ True from hdn 5 r5); obtain ⟨r3, -⟩ := (show e 3 = true ∧ True from hdn 4 r4); obtain ⟨r2, -⟩ := (show e 2 = true ∧ True from hdn 3 r3); exact r2
     simp only [setE, he, h13, h14, cj_t, cj_f, cjn_t, cjn_f, cb_t, cb_f]
     refine U (Mv (V rfl)) <| Nt <| We ?_ ?_
     ·exact ⟨V rfl, V rfl, V rfl, V rfl, V rfl, V rfl, V rfl, V rfl, V rfl, V rfl, V rfl, V rfl, V rfl, V rfl, V rfl, V rfl, V rfl, V rfl, V rfl, V rfl, Z⟩
     ·exact ⟨⟨_, rfl, ⟨rfl, rfl, (An rfl)⟩⟩, ⟨_, rfl, ⟨rfl, rfl, (An rfl)⟩⟩, ⟨_, rfl, ⟨rfl, rfl, (An rfl)⟩⟩, Z⟩
    ·intro e hdn he hdp
     obtain ⟨h2, -⟩ := (show e 2 = true ∧ True from hdp)
     have h13 : e 13 = false := fls he fun q => by obtain ⟨-, r7, -, -⟩ := (show e 0 = true ∧ e 7 = true ∧ e 0 = true ∧ True from hdn 13 q); obtain ⟨r6, -, -⟩ := (show e 6 = true ∧ e 3 = true ∧ True from hdn 7 r7); obtain ⟨-, r5, -⟩ := (show e 3 = true ∧ e 5 = true ∧ True from hdn 6 r6); obtain ⟨r4, -, -⟩ := (show e 4 = true ∧ e 3 = true ∧ True from hdn 5 r5); obtain ⟨r3, -⟩ := (show e 3 = true ∧ True from hdn 4 r4); exact r3
     have h14 : e 14 = false := fls he fun q => by obtain ⟨-, r13, -, -, -, -⟩ := (show e 1 = true ∧ e 13 = true ∧ e 0 = true ∧ e 1 = true ∧ e 13 = true ∧ True from hdn 14 q); obtain ⟨-, r7, -, -⟩ := (show e 0 = true ∧ e 7 = true ∧ e 0 = true ∧ True from hdn 13 r13); obtain ⟨r6, -, -⟩ := (show e 6 = true ∧ e 3 = true ∧ True from hdn 7 r7); obtain ⟨-, r5, -⟩ := (show e 3 = true ∧ e 5 = true ∧ True from hdn 6 r6); obtain ⟨r4, -, -⟩ := (show e 4 = true ∧ e 3 = true ∧ True from hdn 5 r5); obtain ⟨r3, -⟩ := (show e 3 = true ∧ True from hdn 4 r4); exact r3
     simp only [setE, h2, he, h13, h14, cj_t, cj_f, cjn_t, cjn_f, cb_t, cb_f]
     refine U (Mv (V rfl)) <| Nt <| We ?_ ?_
     ·exact ⟨V rfl, V rfl, V rfl, V rfl, V rfl, V rfl, V rfl, V rfl, V rfl, V rfl, V rfl, V rfl, V rfl, V rfl, V rfl, V rfl, V rfl, V rfl, V rfl, V rfl, Z⟩
     ·exact ⟨⟨_, rfl, ⟨rfl, rfl, (An rfl)⟩⟩, ⟨_, rfl, ⟨rfl, rfl, (An rfl)⟩⟩, ⟨_, rfl, ⟨rfl, rfl, (An rfl)⟩⟩, Z⟩
    ·intro e hdn he hdp
     obtain ⟨h3, -⟩ := (show e 3 = true ∧ True from hdp)
     obtain ⟨h2, -⟩ := (show e 2 = true ∧ True from hdn 3 h3)
     have h13 : e 13 = false := fls he fun q => by obtain ⟨-, r7, -, -⟩ := (show e 0 = true ∧ e 7 = true ∧ e 0 = true ∧ True from hdn 13 q); obtain ⟨r6, -, -⟩ := (show e 6 = true ∧ e 3 = true ∧ True from hdn 7 r7); obtain ⟨-, r5, -⟩ := (show e 3 = true ∧ e 5 = true ∧ True from hdn 6 r6); obtain ⟨r4, -, -⟩ := (show e 4 = true ∧ e 3 = true ∧ True from hdn 5 r5); exact r4
     have h14 : e 14 = false := fls he fun q => by obtain ⟨-, r13, -, -, -, -⟩ := (show e 1 = true ∧ e 13 = true ∧ e 0 = true ∧ e 1 = true ∧ e 13 = true ∧ True from hdn 14 q); obtain ⟨-, r7, -, -⟩ := (show e 0 = true ∧ e 7 = true ∧ e 0 = true ∧ True from hdn 13 r13); obtain ⟨r6, -, -⟩ := (show e 6 = true ∧ e 3 = true ∧ True from hdn 7 r7); obtain ⟨-, r5, -⟩ := (show e 3 = true ∧ e 5 = true ∧ True from hdn 6 r6); obtain ⟨r4, -, -⟩ := (show e 4 = true ∧ e 3 = true ∧ True from hdn 5 r5); exact r4
     simp only [setE, h2, h3, he, h13, h14, cj_t, cj_f, cjn_t, cjn_f, cb_t, cb_f]
     refine Ug (Gy rfl rfl) (fun hg => Mv (V rfl)) <| Nt <| We ?_ ?_
     ·exact ⟨V rfl, V rfl, V rfl, V rfl, V rfl, V rfl, V rfl, V rfl, V rfl, V rfl, V rfl, V rfl, V rfl, V rfl, V rfl, V rfl, V rfl, V rfl, V rfl, V rfl, Z⟩
     ·exact ⟨⟨_, rfl, ⟨rfl, rfl, (An rfl)⟩⟩, ⟨_, rfl, ⟨rfl, rfl, (An rfl)⟩⟩, ⟨_, rfl, ⟨rfl, rfl, (An rfl)⟩⟩, Z⟩
    ·intro e hdn he hdp
     obtain ⟨h4, h3, -⟩ := (show e 4 = true ∧ e 3 = true ∧ True from hdp)
     obtain ⟨h2, -⟩ := (show e 2 = true ∧ True from hdn 3 h3)
     have h13 : e 13 = false := fls he fun q => by obtain ⟨-, r7, -, -⟩ := (show e 0 = true ∧ e 7 = true ∧ e 0 = true ∧ True from hdn 13 q); obtain ⟨r6, -, -⟩ := (show e 6 = true ∧ e 3 = true ∧ True from hdn 7 r7); obtain ⟨-, r5, -⟩ := (show e 3 = true ∧ e 5 = true ∧ True from hdn 6 r6); exact r5
     have h14 : e 14 = false := fls he fun q => by obtain ⟨-, r13, -, -, -, -⟩ := (show e 1 = true ∧ e 13 = true ∧ e 0 = true ∧ e 1 = true ∧ e 13 = true ∧ True from hdn 14 q); obtain ⟨-, r7, -, -⟩ := (show e 0 = true ∧ e 7 = true ∧ e 0 = true ∧ True from hdn 13 r13); obtain ⟨r6, -, -⟩ := (show e 6 = true ∧ e 3 = true ∧ True from hdn 7 r7); obtain ⟨-, r5, -⟩ := (show e 3 = true ∧ e 5 = true ∧ True from hdn 6 r6); exact r5
     simp only [setE, h2, h3, h4, he, h13, h14, cj_t, cj_f, cjn_t, cjn_f, cb_t, cb_f]
     refine Ug (Gy rfl rfl) (fun hg => Ql (Vg (V rfl) hg) K) <| Nt <| We ?_ ?_
     ·exact ⟨V rfl, V rfl, V rfl, V rfl, V rfl, V rfl, V rfl, V rfl, V rfl, V rfl, V rfl, V rfl, V rfl, V rfl, V rfl, V rfl, V rfl, V rfl, V rfl, V rfl, Z⟩
     ·exact ⟨⟨_, rfl, ⟨rfl, rfl, (An rfl)⟩⟩, ⟨_, rfl, ⟨rfl, rfl, (An rfl)⟩⟩, ⟨_, rfl, ⟨rfl, rfl, (An rfl)⟩⟩, Z⟩
    ·intro e hdn he hdp
     obtain ⟨h3, h5, -⟩ := (show e 3 = true ∧ e 5 = true ∧ True from hdp)
     obtain ⟨h4, -, -⟩ := (show e 4 = true ∧ e 3 = true ∧ True from hdn 5 h5)
     obtain ⟨h2, -⟩ := (show e 2 = true ∧ True from hdn 3 h3)
     have h13 : e 13 = false := fls he fun q => by obtain ⟨-, r7, -, -⟩ := (show e 0 = true ∧ e 7 = true ∧ e 0 = true ∧ True from hdn 13 q); obtain ⟨r6, -, -⟩ := (show e 6 = true ∧ e 3 = true ∧ True from hdn 7 r7); exact r6
     have h14 : e 14 = false := fls he fun q => by obtain ⟨-, r13, -, -, -, -⟩ := (show e 1 = true ∧ e 13 = true ∧ e 0 = true ∧ e 1 = true ∧ e 13 = true ∧ True from hdn 14 q); obtain ⟨-, r7, -, -⟩ := (show e 0 = true ∧ e 7 = true ∧ e 0 = true ∧ True from hdn 13 r13); obtain ⟨r6, -, -⟩ := (show e 6 = true ∧ e 3 = true ∧ True from hdn 7 r7); exact r6
     simp only [setE, h2, h3, h4, h5, he, h13, h14, cj_t, cj_f, cjn_t, cjn_f, cb_t, cb_f]
     refine U (Qa (V rfl) (fun h => Vg (V rfl) h)) <| Nt <| We ?_ ?_
     ·exact ⟨V rfl, V rfl, V rfl, V rfl, V rfl, V rfl, V rfl, V rfl, V rfl, V rfl, V rfl, V rfl, V rfl, V rfl, V rfl, V rfl, V rfl, V rfl, V rfl, V rfl, Z⟩
     ·exact ⟨⟨_, rfl, ⟨rfl, rfl, (An rfl)⟩⟩, ⟨_, rfl, ⟨rfl, rfl, (An rfl)⟩⟩, ⟨_, rfl, ⟨rfl, rfl, (An rfl)⟩⟩, Z⟩
    ·intro e hdn he hdp
     obtain ⟨h6, h3, -⟩ := (show e 6 = true ∧ e 3 = true ∧ True from hdp)
     obtain ⟨-, h5, -⟩ := (show e 3 = true ∧ e 5 = true ∧ True from hdn 6 h6)
     obtain ⟨h4, -, -⟩ := (show e 4 = true ∧ e 3 = true ∧ True from hdn 5 h5)
     obtain ⟨h2, -⟩ := (show e 2 = true ∧ True from hdn 3 h3)
     have h13 : e 13 = false := fls he fun q => by obtain ⟨-, r7, -, -⟩ := (show e 0 = true ∧ e 7 = true ∧ e 0 = true ∧ True from hdn 13 q); exact r7
     have h14 : e 14 = false := fls he fun q => by obtain ⟨-, r13, -, -, -, -⟩ := (show e 1 = true ∧ e 13 = true ∧ e 0 = true ∧ e 1 = true ∧ e 13 = true ∧ True from hdn 14 q); obtain ⟨-, r7, -, -⟩ := (show e 0 = true ∧ e 7 = true ∧ e 0 = true ∧ True from hdn 13 r13); exact r7
     simp only [setE, h2, h3, h4, h5, h6, he, h13, h14, cj_t, cj_f, cjn_t, cjn_f, cb_t, cb_f]
     refine U (Mv (V rfl)) <| Nt <| We ?_ ?_
     ·exact ⟨V rfl, V rfl, V rfl, V rfl, V rfl, V rfl, V rfl, V rfl, V rfl, V rfl, V rfl, V rfl, V rfl, V rfl, V rfl, V rfl, V rfl, V rfl, V rfl, V rfl, Z⟩
     ·exact ⟨⟨_, rfl, ⟨rfl, rfl, (An rfl)⟩⟩, ⟨_, rfl, ⟨rfl, rfl, (An rfl)⟩⟩, ⟨_, rfl, ⟨rfl, rfl, (An rfl)⟩⟩, Z⟩
    ·intro e hdn he hdp
     obtain ⟨h7, -⟩ := (show e 7 = true ∧ True from hdp)
     obtain ⟨h6, h3, -⟩ := (show e 6 = true ∧ e 3 = true ∧ True from hdn 7 h7)
     obtain ⟨-, h5, -⟩ := (show e 3 = true ∧ e 5 = true ∧ True from hdn 6 h6)
     obtain ⟨h4, -, -⟩ := (show e 4 = true ∧ e 3 = true ∧ True from hdn 5 h5)
     obtain ⟨h2, -⟩ := (show e 2 = true ∧ True from hdn 3 h3)
     simp only [setE, h2, h3, h4, h5, h6, h7, he, cj_t, cj_f, cjn_t, cjn_f, cb_t, cb_f]
     exact Ug (Gy rfl rfl) (fun hg => FlB _ _ (V rfl) Un24 rfl 0 Sz22) <| Nt <| weakS ⟨V rfl, V rfl, V rfl, V rfl, V rfl, V rfl, V rfl, V rfl, V rfl, V rfl, V rfl, V rfl, V rfl, V rfl, V rfl, V rfl, V rfl, V rfl, V rfl, V rfl, Z⟩
    ·intro e hdn he hdp
     obtain ⟨h8, h7, -⟩ := (show e 8 = true ∧ e 7 = true ∧ True from hdp)
     obtain ⟨h6, h3, -⟩ := (show e 6 = true ∧ e 3 = true ∧ True from hdn 7 h7)
     obtain ⟨-, h5, -⟩ := (show e 3 = true ∧ e 5 = true ∧ True from hdn 6 h6)
     obtain ⟨h4, -, -⟩ := (show e 4 = true ∧ e 3 = true ∧ True from hdn 5 h5)
     obtain ⟨h2, -⟩ := (show e 2 = true ∧ True from hdn 3 h3)
     cases hu13 : e 13
     ·have h14 : e 14 = false := fls hu13 fun q => by obtain ⟨-, r13, -, -, -, -⟩ := (show e 1 = true ∧ e 13 = true ∧ e 0 = true ∧ e 1 = true ∧ e 13 = true ∧ True from hdn 14 q); exact r13
      simp only [setE, h2, h3, h4, h5, h6, h7, h8, he, hu13, h14, cj_t, cj_f, cjn_t, cjn_f, cb_t, cb_f]
      refine Ug (Gy rfl rfl) (fun hg => LdB (Vg (V rfl) hg) rfl Ga22 (by decide)) <| Nt <| We ?_ ?_
      ·exact ⟨V rfl, V rfl, V rfl, V rfl, V rfl, V rfl, V rfl, V rfl, V rfl, V rfl, V rfl, V rfl, V rfl, V rfl, V rfl, V rfl, V rfl, V rfl, V rfl, V rfl, Z⟩
      ·exact ⟨⟨_, rfl, ⟨rfl, rfl, (An rfl)⟩⟩, ⟨_, rfl, ⟨rfl, rfl, (An rfl)⟩⟩, ⟨_, rfl, ⟨rfl, rfl, (An rfl)⟩⟩, Z⟩
     ·cases hu14 : e 14
      ·simp only [setE, h2, h3, h4, h5, h6, h7, h8, he, hu13, hu14, cj_t, cj_f, cjn_t, cjn_f, cb_t, cb_f]
       refine Ug (Gy rfl rfl) (fun hg => LdB (Vg (V rfl) hg) rfl Ga22 (by decide)) <| Nt <| We ?_ ?_
       ·exact ⟨V rfl, V rfl, V rfl, V rfl, V rfl, V rfl, V rfl, V rfl, V rfl, V rfl, V rfl, V rfl, V rfl, V rfl, V rfl, V rfl, V rfl, V rfl, V rfl, V rfl, Z⟩
       ·exact ⟨⟨_, rfl, ⟨rfl, rfl, (An rfl)⟩⟩, ⟨_, rfl, ⟨rfl, rfl, (An rfl)⟩⟩, ⟨_, rfl, ⟨rfl, rfl, (An rfl)⟩⟩, Z⟩
      ·simp only [setE, h2, h3, h4, h5, h6, h7, h8, he, hu13, hu14, cj_t, cj_f, cjn_t, cjn_f, cb_t, cb_f]
       refine Ug (Gy rfl rfl) (fun hg => LdB (Vg (V rfl) hg) rfl Ga22 (by decide)) <| Nt <| We ?_ ?_
       ·exact ⟨V rfl, V rfl, V rfl, V rfl, V rfl, V rfl, V rfl, V rfl, V rfl, V rfl, V rfl, V rfl, V rfl, V rfl, V rfl, V rfl, V rfl, V rfl, V rfl, V rfl, Z⟩
       ·exact ⟨⟨_, rfl, ⟨rfl, rfl, (An rfl)⟩⟩, ⟨_, rfl, ⟨rfl, rfl, (An rfl)⟩⟩, ⟨_, rfl, ⟨rfl, rfl, (An rfl)⟩⟩, Z⟩
    ·intro e hdn he hdp
     obtain ⟨h9, h7, -⟩ := (show e 9 = true ∧ e 7 = true ∧ True from hdp)
     obtain ⟨h8, -, -⟩ := (show e 8 = true ∧ e 7 = true ∧ True from hdn 9 h9)
     obtain ⟨h6, h3, -⟩ := (show e 6 = true ∧ e 3 = true ∧ True from hdn 7 h7)
     obtain ⟨-, h5, -⟩ := (show e 3 = true ∧ e 5 = true ∧ True from hdn 6 h6)
     obtain ⟨h4, -, -⟩ := (show e 4 = true ∧ e 3 = true ∧ True from hdn 5 h5)
     obtain ⟨h2, -⟩ := (show e 2 = true ∧ True from hdn 3 h3)
     simp only [setE, h2, h3, h4, h5, h6, h7, h8, h9, he, cj_t, cj_f, cjn_t, cjn_f, cb_t, cb_f]
     exact Ug (Gy rfl rfl) (fun hg => Ln (Vg (V rfl) hg) ts22) <| Nt <| weakS ⟨V rfl, V rfl, V rfl, V rfl, V rfl, V rfl, V rfl, V rfl, V rfl, V rfl, V rfl, V rfl, V rfl, V rfl, V rfl, V rfl, V rfl, V rfl, V rfl, V rfl, Z⟩
    ·intro e hdn he hdp
     obtain ⟨h10, h7, -⟩ := (show e 10 = true ∧ e 7 = true ∧ True from hdp)
     obtain ⟨h9, -, -⟩ := (show e 9 = true ∧ e 7 = true ∧ True from hdn 10 h10)
     obtain ⟨h8, -, -⟩ := (show e 8 = true ∧ e 7 = true ∧ True from hdn 9 h9)
     obtain ⟨h6, h3, -⟩ := (show e 6 = true ∧ e 3 = true ∧ True from hdn 7 h7)
     obtain ⟨-, h5, -⟩ := (show e 3 = true ∧ e 5 = true ∧ True from hdn 6 h6)
     obtain ⟨h4, -, -⟩ := (show e 4 = true ∧ e 3 = true ∧ True from hdn 5 h5)
     obtain ⟨h2, -⟩ := (show e 2 = true ∧ True from hdn 3 h3)
     simp only [setE, h2, h3, h4, h5, h6, h7, h8, h9, h10, he, cj_t, cj_f, cjn_t, cjn_f, cb_t, cb_f]
     exact Ug (Gy rfl rfl) (fun hg => Ql (Vg (V rfl) hg) K) <| Nt <| weakS ⟨V rfl, V rfl, V rfl, V rfl, V rfl, V rfl, V rfl, V rfl, V rfl, V rfl, V rfl, V rfl, V rfl, V rfl, V rfl, V rfl, V rfl, V rfl, V rfl, V rfl, Z⟩
    ·intro e hdn he hdp
     obtain ⟨h7, h11, -⟩ := (show e 7 = true ∧ e 11 = true ∧ True from hdp)
     obtain ⟨h10, -, -⟩ := (show e 10 = true ∧ e 7 = true ∧ True from hdn 11 h11)
     obtain ⟨h9, -, -⟩ := (show e 9 = true ∧ e 7 = true ∧ True from hdn 10 h10)
     obtain ⟨h8, -, -⟩ := (show e 8 = true ∧ e 7 = true ∧ True from hdn 9 h9)
     obtain ⟨h6, h3, -⟩ := (show e 6 = true ∧ e 3 = true ∧ True from hdn 7 h7)
     obtain ⟨-, h5, -⟩ := (show e 3 = true ∧ e 5 = true ∧ True from hdn 6 h6)
     obtain ⟨h4, -, -⟩ := (show e 4 = true ∧ e 3 = true ∧ True from hdn 5 h5)
     obtain ⟨h2, -⟩ := (show e 2 = true ∧ True from hdn 3 h3)
     simp only [setE, h2, h3, h4, h5, h6, h7, h8, h9, h10, h11, he, cj_t, cj_f, cjn_t, cjn_f, cb_t, cb_f]
     exact U (Qa (V rfl) (fun h => Vg (V rfl) h)) <| Nt <| weakS ⟨V rfl, V rfl, V rfl, V rfl, V rfl, V rfl, V rfl, V rfl, V rfl, V rfl, V rfl, V rfl, V rfl, V rfl, V rfl, V rfl, V rfl, V rfl, V rfl, V rfl, Z⟩
    ·intro e hdn he hdp
     obtain ⟨h0, h7, -, -⟩ := (show e 0 = true ∧ e 7 = true ∧ e 0 = true ∧ True from hdp)
     obtain ⟨h6, h3, -⟩ := (show e 6 = true ∧ e 3 = true ∧ True from hdn 7 h7)
     obtain ⟨-, h5, -⟩ := (show e 3 = true ∧ e 5 = true ∧ True from hdn 6 h6)
     obtain ⟨h4, -, -⟩ := (show e 4 = true ∧ e 3 = true ∧ True from hdn 5 h5)
     obtain ⟨h2, -⟩ := (show e 2 = true ∧ True from hdn 3 h3)
     have h14 : e 14 = false := fls he fun q => by obtain ⟨-, r13, -, -, -, -⟩ := (show e 1 = true ∧ e 13 = true ∧ e 0 = true ∧ e 1 = true ∧ e 13 = true ∧ True from hdn 14 q); exact r13
     simp only [setE, h0, h2, h3, h4, h5, h6, h7, he, h14, cj_t, cj_f, cjn_t, cjn_f, cb_t, cb_f]
     refine StA (V rfl) rfl (V rfl) Sz24 <| Nt <| We ?_ ?_
     ·exact ⟨V rfl, V rfl, V rfl, V rfl, V rfl, V rfl, V rfl, V rfl, V rfl, V rfl, V rfl, V rfl, V rfl, V rfl, V rfl, V rfl, V rfl, V rfl, V rfl, V rfl, Z⟩
     ·exact ⟨⟨_, rfl, ⟨rfl, rfl, (An rfl)⟩⟩, ⟨_, rfl, ⟨rfl, rfl, (An rfl)⟩⟩, ⟨_, rfl, ⟨rfl, rfl, (An rfl)⟩⟩, Z⟩
    ·intro e hdn he hdp
     obtain ⟨h1, h13, h0, -, -, -⟩ := (show e 1 = true ∧ e 13 = true ∧ e 0 = true ∧ e 1 = true ∧ e 13 = true ∧ True from hdp)
     obtain ⟨-, h7, -, -⟩ := (show e 0 = true ∧ e 7 = true ∧ e 0 = true ∧ True from hdn 13 h13)
     obtain ⟨h6, h3, -⟩ := (show e 6 = true ∧ e 3 = true ∧ True from hdn 7 h7)
     obtain ⟨-, h5, -⟩ := (show e 3 = true ∧ e 5 = true ∧ True from hdn 6 h6)
     obtain ⟨h4, -, -⟩ := (show e 4 = true ∧ e 3 = true ∧ True from hdn 5 h5)
     obtain ⟨h2, -⟩ := (show e 2 = true ∧ True from hdn 3 h3)
     simp only [setE, h0, h1, h2, h3, h4, h5, h6, h7, h13, he, cj_t, cj_f, cjn_t, cjn_f, cb_t, cb_f]
     refine StA (V rfl) rfl (V rfl) Sz113 <| Nt <| We ?_ ?_
     ·exact ⟨V rfl, V rfl, V rfl, V rfl, V rfl, V rfl, V rfl, V rfl, V rfl, V rfl, V rfl, V rfl, V rfl, V rfl, V rfl, V rfl, V rfl, V rfl, V rfl, V rfl, Z⟩
     ·exact ⟨⟨_, rfl, ⟨rfl, rfl, (An rfl)⟩⟩, ⟨_, rfl, ⟨rfl, rfl, (An rfl)⟩⟩, ⟨_, rfl, ⟨rfl, rfl, (An rfl)⟩⟩, Z⟩
    ·intro e hdn he hdp
     obtain ⟨h12, h14, h0, h1, h2, h3, h4, h5, h6, h7, h8, h9, h10, h11, -, h13, -, -⟩ := (show e 12 = true ∧ e 14 = true ∧ e 0 = true ∧ e 1 = true ∧ e 2 = true ∧ e 3 = true ∧ e 4 = true ∧ e 5 = true ∧ e 6 = true ∧ e 7 = true ∧ e 8 = true ∧ e 9 = true ∧ e 10 = true ∧ e 11 = true ∧ e 12 = true ∧ e 13 = true ∧ e 14 = true ∧ True from hdp)
     simp only [setE, h0, h1, h2, h3, h4, h5, h6, h7, h8, h9, h10, h11, h12, h13, h14, he, cj_t, cj_f, cjn_t, cjn_f, cb_t, cb_f]
     refine U (As (V rfl)) <| Nt <| We ?_ ?_
     ·exact ⟨V rfl, V rfl, V rfl, V rfl, V rfl, V rfl, V rfl, V rfl, V rfl, V rfl, V rfl, V rfl, V rfl, V rfl, V rfl, V rfl, V rfl, V rfl, V rfl, V rfl, Z⟩
     ·exact ⟨⟨_, rfl, ⟨rfl, rfl, (An rfl)⟩⟩, ⟨_, rfl, ⟨rfl, rfl, (An rfl)⟩⟩, ⟨_, rfl, ⟨rfl, rfl, (An rfl)⟩⟩, Z⟩
    ·intro e he
     have h0 := he 0 (by decide)
     have h1 := he 1 (by decide)
     have h2 := he 2 (by decide)
     have h3 := he 3 (by decide)
     have h4 := he 4 (by decide)
     have h5 := he 5 (by decide)
     have h6 := he 6 (by decide)
     have h7 := he 7 (by decide)
     have h8 := he 8 (by decide)
     have h9 := he 9 (by decide)
     have h10 := he 10 (by decide)
     have h11 := he 11 (by decide)
     have h12 := he 12 (by decide)
     have h13 := he 13 (by decide)
     have h14 := he 14 (by decide)
     have h15 := he 15 (by decide)
     show Weak _ ⟨[(56, cj (e 0) (SV.agg 1 (fun zi => (stG fam5) (0 + zi)))), (57, cj (e 1) (SV.agg 6 (fun zi => (fun zt => ([iv (0), iv (1), iv (1), iv (1), iv (2), iv (1)] : List SV).getD zt .junk) (0 + zi)))), (58, cj (e 2) (bv (true && (decide ((0 : Int) = 0))))), (59, cj (e 3) (bv (true && (decide ((0 : Int) = 0))))), (60, cj (e 4) (SV.grd ((true && (decide ((0 : Int) = 0)))) (iv (0)))), (61, cj (e 5) (SV.grd ((true && (decide ((0 : Int) = 0)))) (bv (decide ((0 : Int) = 0))))), (62, cj (e 6) (bv ((true && (decide ((0 : Int) = 0))) && (decide ((0 : Int) = 0))))), (63, cj (e 7) (bv ((true && (decide ((0 : Int) = 0))) && (decide ((0 : Int) = 0))))), (64, cj (e 8) (SV.grd (((true && (decide ((0 : Int) = 0))) && (decide ((0 : Int) = 0)))) (SV.bp 3 0))), (65, cj (e 9) (SV.grd (((true && (decide ((0 : Int) = 0))) && (decide ((0 : Int) = 0)))) (ndRow fam5))), (66, cj (e 10) (SV.grd (((true && (decide ((0 : Int) = 0))) && (decide ((0 : Int) = 0)))) (iv ((fam5.length : Int))))), (67, cj (e 11) (SV.grd (((true && (decide ((0 : Int) = 0))) && (decide ((0 : Int) = 0)))) (bv (decide ((fam5.length : Int) = 6))))), (68, cj (e 12) (bv (((true && (decide ((0 : Int) = 0))) && (decide ((0 : Int) = 0))) && (decide ((fam5.length : Int) = 6))))), (2, cj (e 15) (bv (((true && (decide ((0 : Int) = 0))) && (decide ((0 : Int) = 0))) && (decide ((fam5.length : Int) = 6))))), (0, SV.bp 1 0), (1, SV.bp 2 0), (3, SV.bp 3 0), (4, iv (0)), (5, bv (true && (decide ((0 : Int) = 0)))), (6, elB [iv (0), iv (1), iv (1), iv (1), iv (2), iv (1)] 0)], (cb (e 13) (cb (e 14) [(1, Own.box 1 (fun zi => (stG fam5) (0 + zi)) 24), (2, Own.box 6 (fun zi => (fun zt => ([iv (0), iv (1), iv (1), iv (1), iv (2), iv (1)] : List SV).getD zt .junk) (0 + zi)) 113), (3, Own.box 1 (stG fam5) 24)] [(1, Own.box 1 (fun zi => (stG fam5) (0 + zi)) 24), (2, Own.box 6 (cmpG [iv (0), iv (0), iv (0), iv (0), iv (0), iv (0)]) 113), (3, Own.box 1 (stG fam5) 24)]) (cb (e 14) [] [(1, Own.box 1 (cmpG [SV.v (Value.slice none 0 0)]) 24), (2, Own.box 6 (cmpG [iv (0), iv (0), iv (0), iv (0), iv (0), iv (0)]) 113), (3, Own.box 1 (stG fam5) 24)]))⟩ _
     simp only [h0, h1, h2, h3, h4, h5, h6, h7, h8, h9, h10, h11, h12, h13, h14, h15]
     show Weak _ ⟨[(56, SV.agg 1 (fun zi => (stG fam5) (0 + zi))), (57, SV.agg 6 (fun zi => (fun zt => ([iv (0), iv (1), iv (1), iv (1), iv (2), iv (1)] : List SV).getD zt .junk) (0 + zi))), (58, bv (true && (decide ((0 : Int) = 0)))), (59, bv (true && (decide ((0 : Int) = 0)))), (60, SV.grd ((true && (decide ((0 : Int) = 0)))) (iv (0))), (61, SV.grd ((true && (decide ((0 : Int) = 0)))) (bv (decide ((0 : Int) = 0)))), (62, bv ((true && (decide ((0 : Int) = 0))) && (decide ((0 : Int) = 0)))), (63, bv ((true && (decide ((0 : Int) = 0))) && (decide ((0 : Int) = 0)))), (64, SV.grd (((true && (decide ((0 : Int) = 0))) && (decide ((0 : Int) = 0)))) (SV.bp 3 0)), (65, SV.grd (((true && (decide ((0 : Int) = 0))) && (decide ((0 : Int) = 0)))) (ndRow fam5)), (66, SV.grd (((true && (decide ((0 : Int) = 0))) && (decide ((0 : Int) = 0)))) (iv ((fam5.length : Int)))), (67, SV.grd (((true && (decide ((0 : Int) = 0))) && (decide ((0 : Int) = 0)))) (bv (decide ((fam5.length : Int) = 6)))), (68, bv (((true && (decide ((0 : Int) = 0))) && (decide ((0 : Int) = 0))) && (decide ((fam5.length : Int) = 6)))), (2, bv (((true && (decide ((0 : Int) = 0))) && (decide ((0 : Int) = 0))) && (decide ((fam5.length : Int) = 6)))), (0, SV.bp 1 0), (1, SV.bp 2 0), (3, SV.bp 3 0), (4, iv (0)), (5, bv (true && (decide ((0 : Int) = 0)))), (6, elB [iv (0), iv (1), iv (1), iv (1), iv (2), iv (1)] 0)], [(1, Own.box 1 (fun zi => (stG fam5) (0 + zi)) 24), (2, Own.box 6 (fun zi => (fun zt => ([iv (0), iv (1), iv (1), iv (1), iv (2), iv (1)] : List SV).getD zt .junk) (0 + zi)) 113), (3, Own.box 1 (stG fam5) 24)]⟩ _
     refine We ?_ ?_
     ·exact ⟨Va (V rfl) (An rfl), Va (V rfl) (An rfl), V rfl, V rfl, V rfl, V rfl, V rfl, V rfl, V rfl, V rfl, V rfl, V rfl, V rfl, V rfl, V rfl, V rfl, V rfl, V rfl, V rfl, V rfl, Z⟩
     ·exact ⟨⟨_, rfl, ⟨rfl, rfl, (An rfl)⟩⟩, ⟨_, rfl, ⟨rfl, rfl, (An rfl)⟩⟩, ⟨_, rfl, ⟨rfl, rfl, (An rfl)⟩⟩, Z⟩
    exact Rx <| RR3 rfl (rv_aggI (g' := stG fam5) (rv_cell (V rfl) rfl Ga24 Sz24) ⟨Z, Ir⟩) (rv_aggI (g' := cmpG [iv (0), iv (1), iv (1), iv (1), iv (2), iv (1)]) (rv_cell (V rfl) rfl Ga113 Sz113) ⟨⟨⟨⟨⟨⟨Z, Ir⟩, Ir⟩, Ir⟩, Ir⟩, Ir⟩, Ir⟩) (rv_tmp (V rfl)) rfl rfl rfl (by show sv3 (SV.agg 1 (stG fam5)) (SV.agg 6 (cmpG [iv (0), iv (1), iv (1), iv (1), iv (2), iv (1)])) (bv (((true && (decide ((0 : Int) = 0))) && (decide ((0 : Int) = 0))) && (decide ((fam5.length : Int) = 6)))) = sv3 (SV.agg 1 (stG fam5)) (SV.agg 6 (cmpG [iv (0), iv (1), iv (1), iv (1), iv (2), iv (1)])) (bv (true)); rfl)
end Go.Proofs.Ytmcdamcedemdiaa
namespace Go.Proofs.Ytmcdamcedemdiaa
open Go.RowKit Go.Eng
section
variable {l : List Nd} {h : Hd}
theorem order_ok (q : (orderSt l h).2 = 0) : firstSt l [h] = 0 ∧ (orderSt l h).1 = ordSt l h.pl := by
  by_cases e : firstSt l [h] = 0
  · exact ⟨e, by rw [order_2 e]⟩
  · rw [order_1 e] at q; exact absurd q e
theorem to_3 (q : (orderSt l h).2 = 0) : 0 < (orderSt l h).1.length ∧ (orderSt l h).1.getD 0 0 = h.pl := by
  obtain ⟨e, eo⟩ := order_ok q
  obtain ⟨hc, _, hp, hu⟩ := first1 e
  rw [eo, ord_eq hc hp]
  exact ⟨Nat.succ_pos _, rfl⟩
theorem to_len (q : (orderSt l h).2 = 0) : (orderSt l h).1.length ≤ 24 ∧ l.length ≤ 24 := by
  obtain ⟨e, eo⟩ := order_ok q
  obtain ⟨hc, _, hp, hu⟩ := first1 e
  have h1 := ord_len hc hp
  have h2 := checkSt_len hc
  rw [eo]; omega
theorem to_in (q : (orderSt l h).2 = 0) {i : Nat} (hi : i < (orderSt l h).1.length) : 0 ≤ (orderSt l h).1.getD i 0 ∧ (orderSt l h).1.getD i 0 < (l.length : Int) := by
  obtain ⟨e, eo⟩ := order_ok q
  obtain ⟨hc, _, hp, hu⟩ := first1 e
  rw [eo] at hi ⊢
  exact ord_in hc _ _ hp _ (mem_getD hi)
end
end Go.Proofs.Ytmcdamcedemdiaa
namespace Go.Proofs.Ytmcdamcedemdiaa
open Go.RowKit Go.Eng
theorem dpt_le {l : List Nd} (h : checkSt l = 0) {k : Int} (hk : 0 ≤ k ∧ k < (l.length : Int)) : dpt l k ≤ l.length := by
  have h1 := (line_len (checkSt_nodes h) (l.length + 1) k (by omega)).1
  have h2 := (line_len (checkSt_nodes h) (l.length + 1) k (by omega)).2
  have h3 := (st_cnt h (i := k.toNat) (by omega)).2.2.2
  rw [show ((k.toNat : Nat) : Int) = k by omega] at h3
  have h2 : dpt l k = l.length + 1 ↔ l.length + 1 = 0 ∨ 0 ≤ upN l l.length k := h2
  have h1 : dpt l k ≤ l.length + 1 := h1
  by_cases e : dpt l k = l.length + 1
  · rcases h2.1 e with q | q <;> omega
  · omega
theorem above_par {l : List Nd} (h : checkSt l = 0) {k : Int} (hk : 0 ≤ k ∧ k < (l.length : Int)) (hp : 0 ≤ (l.getD k.toNat default).par) : above (l.getD k.toNat default) = (l.getD k.toNat default).par ∧ (l.getD k.toNat default).host < 0 := by
  have hh : (l.getD k.toNat default).host < 0 := Classical.byContradiction fun q => by have := (st_n1 h hk).one (by omega); omega
  exact ⟨by unfold above; rw [if_neg (by omega)], hh⟩
section
variable {l : List Nd} {h : Hd} {cl : Bool}
end
end Go.Proofs.Ytmcdamcedemdiaa
namespace Go.Proofs.Ytmcdamcedemdiaa
open Go.RowKit Go.Eng
theorem idxf129M_ct {f : FuncId} {caps : List SV} (p : Int → Bool) (hE : Enters Try.prog f) (hro : allRO caps = true) (l : List Int) (hC : ∀ x ∈ l, Ct Try.prog f ([iv x] ++ caps) (bv (p x))) : Ct Try.prog 129 [inRow l, fnA f caps] (iv (idxF p l)) := by
 refine CtO 19 Try.func129 rfl rfl rfl fun E => Rl (V (s := 0) rfl) fun hl0 => Sq <| Rq <| O (As K) <| Nq <| Sq <| Sq <| Rq <| O (Mv (V rfl)) <| O (Ln (V rfl) ts33) <| O (Mv K) <| Nq <| Bo <| Lo (fun (i : Nat) => ⟨[(0, inRow l), (1, fnA f caps), (7, iv ((l.length : Int))), (8, iv ((i : Int)))], []⟩) (fun (i : Nat) => i ≤ l.length ∧ ∀ j, j < i → p (l.getD j 0) = false) (fun (i : Nat) => l.length - i) 0 (by show 0 ≤ l.length ∧ ∀ j, j < 0 → p (l.getD j 0) = false; exact ⟨Nat.zero_le _, fun j hj => absurd hj (Nat.not_lt_zero j)⟩) (We (Vs rfl) Z) <| ?_
 ·rintro i hI1
  have hJ1 : i ≤ l.length ∧ ∀ j, j < i → p (l.getD j 0) = false := hI1
  have hi1 := hJ1.1
  have hall := hJ1.2
  refine Sq <| Rq <| O (Lt (V rfl) (V rfl)) <| Nq <| Sq <| Cd (V rfl) (fun hc1 => ?_) (fun hc1 => ?_)
  ·have hc1s := hc1; try simp only [BL] at hc1s
   have hil : i < l.length := by clear hall hJ1 hI1; omega
   refine Sk <| Sq <| Bo <| Sq <| Rq <| O (Mv (V rfl)) <| O (As (V rfl)) <| Nq <| Sq <| Rq <| O (Mv (V rfl)) <| O (Mv (V rfl)) <| O (Mv (V rfl)) <| O (IxN (i := i) (V rfl) (V rfl) ts33 te33 (by clear hall hJ1 hI1; omega)) <| O (Ld (V rfl) Ga3 (by decide)) <| CQv (args := [iv ((l.getD i 0))]) (caps := caps) (fnval_A (V rfl)) hro hE (by exact ⟨⟨(V rfl), rfl⟩, Z⟩) (hC ((l.getD i 0)) (mem_getD (d := 0) hil)) <| Nq <| Cd (V rfl) (fun hc2 => ?_) (fun hc2 => ?_)
   ·have hc2s := hc2; try simp only [BL] at hc2s
    exact Sq <| Rq <| O (Mv (V rfl)) <| O (As (V rfl)) <| Nq <| Rx <| R1 rfl (V rfl) rfl (by show iv ((i : Int)) = iv (idxF p l); rw [idxF_hit 0 (by clear hall hJ1 hI1; omega) hall hc2])
   ·have hc2s := hc2; try simp only [BL] at hc2s
    exact Sk <| Rq <| O (Ad (V rfl) K (by clear hall hJ1 hI1; omega)) <| O (Mv (V rfl)) <| Nq <| Nx (i + 1) (by show (i + 1) ≤ l.length ∧ ∀ j, j < (i + 1) → p (l.getD j 0) = false; exact ⟨by clear hall hJ1 hI1; omega, idxF_s hall hc2⟩) (by show l.length - (i + 1) < l.length - i; clear hall hJ1 hI1; omega) (We (Vs rfl) Z)
  ·have hc1s := hc1; try simp only [BL] at hc1s
   exact Ex <| Sq <| Rq <| O (As K) <| Nq <| Rx <| R1 rfl (V rfl) rfl (by show iv ((-1)) = iv (idxF p l); rw [idxF_none 0 hall (by clear hall hJ1 hI1; omega)])
end Go.Proofs.Ytmcdamcedemdiaa
namespace Go.Proofs.Ytmcdamcedemdiaa
open Go.RowKit Go.Eng
def isT (n : Nd) (t : Te) : Bool := (decide (t.tag = -1000001) || decide (n.tag = t.tag)) && (decide (t.mark = -1000001) || decide (n.mark = t.mark))
def parN (l : List Nd) : Nat → Int → List Int
  | 0, _ => []
  | n + 1, k => if 0 ≤ k ∧ k < (l.length : Int) then k :: parN l n (l.getD k.toNat default).par else []
def parC (l : List Nd) (k : Int) : List Int := parN l (l.length + 1) k
theorem parN_neg {l : List Nd} {k : Int} (hk : k < 0) : ∀ n, parN l n k = []
  | 0 => rfl
  | n + 1 => if_neg (by omega)
theorem dpt_par {l : List Nd} (h : checkSt l = 0) {k : Int} (hk : 0 ≤ k ∧ k < (l.length : Int)) (hp : 0 ≤ (l.getD k.toNat default).par) : dpt l k = dpt l (l.getD k.toNat default).par + 1 := by
  rw [dpt_eq h hk, (above_par h hk hp).1]
theorem parN_s {l : List Nd} (h : checkSt l = 0) : ∀ (n : Nat) (k : Int), k < (l.length : Int) → dpt l k ≤ n → parN l (n + 1) k = parN l n k
  | 0, k, hk, hd => by
    by_cases h0 : 0 ≤ k
    · rw [dpt_eq h ⟨h0, hk⟩] at hd; omega
    · rw [parN_neg (by omega), parN_neg (by omega)]
  | n + 1, k, hk, hd => by
    by_cases h0 : 0 ≤ k
    · show (if _ then _ else _) = if _ then _ else _
      rw [if_pos ⟨h0, hk⟩, if_pos ⟨h0, hk⟩]
      congr 1
      by_cases hp : 0 ≤ (l.getD k.toNat default).par
      · exact parN_s h n _ (par_kid h ⟨h0, hk⟩ hp).1 (by rw [dpt_par h ⟨h0, hk⟩ hp] at hd; omega)
      · rw [parN_neg (by omega), parN_neg (by omega)]
    · rw [parN_neg (by omega), parN_neg (by omega)]
theorem parC_neg {l : List Nd} {k : Int} (hk : k < 0) : parC l k = [] := parN_neg hk _
theorem parC_eq {l : List Nd} (h : checkSt l = 0) {k : Int} (hk : 0 ≤ k ∧ k < (l.length : Int)) : parC l k = k :: parC l (l.getD k.toNat default).par := by
  unfold parC
  rw [parN, if_pos hk]
  congr 1
  by_cases hp : 0 ≤ (l.getD k.toNat default).par
  · have hp2 := (par_kid h hk hp).1
    exact (parN_s h l.length _ hp2 (dpt_le h ⟨hp, hp2⟩)).symm
  · rw [parN_neg (by omega), parN_neg (by omega)]
theorem parN_len {l : List Nd} : ∀ (n : Nat) (k : Int), (parN l n k).length ≤ n
  | 0, _ => Nat.le_refl _
  | n + 1, k => by
    rw [parN]; split
    · rw [List.length_cons]; have := parN_len (l := l) n (l.getD k.toNat default).par; omega
    · exact Nat.zero_le _
def fitsR (l : List Nd) : List Te → Int → Bool
  | [], _ => true
  | t :: r, k => isT (l.getD k.toNat default) t && (r.isEmpty || if t.near = true then decide (0 ≤ (l.getD k.toNat default).par) && fitsR l r (l.getD k.toNat default).par else (parC l (l.getD k.toNat default).par).any (fitsR l r))
def fitsB (l : List Nd) (k : Int) (q : List Te) : Bool := fitsR l q.reverse k
theorem rev_last {q : List Te} (h : 0 < q.length) : q.reverse = q.getD (q.length - 1) default :: (q.take (q.length - 1)).reverse := by
  have e : q = q.take (q.length - 1) ++ [q.getD (q.length - 1) default] := by
    rw [← take_s default (by omega), List.take_of_length_le (by omega)]
  rw [congrArg List.reverse e, List.reverse_append]; rfl
theorem fits_eq {l : List Nd} {k : Int} {q : List Te} (h : 0 < q.length) : fitsB l k q = (isT (l.getD k.toNat default) (q.getD (q.length - 1) default) && (decide (q.length = 1) ||
    if (q.getD (q.length - 1) default).near = true then decide (0 ≤ (l.getD k.toNat default).par) && fitsB l (l.getD k.toNat default).par (q.take (q.length - 1)) else (parC l (l.getD k.toNat default).par).any fun p => fitsB l p (q.take (q.length - 1)))) := by
  have e : (q.take (q.length - 1)).reverse.isEmpty = decide (q.length = 1) := by
    rw [Bool.eq_iff_iff, List.isEmpty_iff, decide_eq_true_iff, List.reverse_eq_nil_iff]
    constructor
    · intro c
      have := congrArg List.length c
      rw [List.length_take] at this
      have : min (q.length - 1) q.length = 0 := this
      omega
    · intro c
      rw [c]; rfl
  show fitsR l q.reverse k = _
  rw [rev_last h, fitsR, e]; rfl
section
variable {l : List Nd} {k : Int} {q : List Te}
theorem fits_0 (h : 0 < q.length) (c : isT (l.getD k.toNat default) (q.getD (q.length - 1) default) = false) : fitsB l k q = false := by rw [fits_eq h, c]; rfl
theorem fits_1 (h : q.length = 1) (c : isT (l.getD k.toNat default) (q.getD (q.length - 1) default) = true) : fitsB l k q = true := by rw [fits_eq (by omega), c, decide_eq_true h]; rfl
theorem fits_n (h : 1 < q.length) (c : isT (l.getD k.toNat default) (q.getD (q.length - 1) default) = true) (n : (q.getD (q.length - 1) default).near = true) : fitsB l k q = (decide (0 ≤ (l.getD k.toNat default).par) && fitsB l (l.getD k.toNat default).par (q.take (q.length - 1))) := by
  rw [fits_eq (by omega), c, decide_eq_false (by omega), if_pos n]; rfl
theorem fits_a (h : 1 < q.length) (c : isT (l.getD k.toNat default) (q.getD (q.length - 1) default) = true) (n : (q.getD (q.length - 1) default).near = false) : fitsB l k q = (parC l (l.getD k.toNat default).par).any fun p => fitsB l p (q.take (q.length - 1)) := by
  rw [fits_eq (by omega), c, decide_eq_false (by omega), if_neg (ff n)]; rfl
end
def teBad (t : Te) : Bool := (!decide (t.tag = -1000001) && (decide (t.tag < 0) || decide (99 < t.tag))) || (!decide (t.mark = -1000001) && (decide (t.mark < -1000000) || decide (1000000 < t.mark)))
def teErr (q : List Te) (i : Nat) : Int := if teBad (q.getD i default) = true then 2 else if (decide (i = 0) && (q.getD i default).near) = true then 3 else 0
def chkQ (q : List Te) : Int := if q.length = 0 ∨ 6 < q.length then 1 else firstErr (teErr q) 0 q.length
theorem chkQ_1 {q : List Te} (h : q.length = 0 ∨ 6 < q.length) : chkQ q = 1 := if_pos h
theorem chkQ_0 {q : List Te} (h : ¬ (q.length = 0 ∨ 6 < q.length)) : chkQ q = firstErr (teErr q) 0 (q.length - 0) := if_neg h
theorem chkQ_len {q : List Te} (h : chkQ q = 0) : 0 < q.length ∧ q.length ≤ 6 := by
  by_cases c : q.length = 0 ∨ 6 < q.length
  · rw [chkQ_1 c] at h; cases h
  · omega
def fitSt (l : List Nd) (h : Hd) (q : List Te) : Bool × Int := if firstSt l [h] ≠ 0 then (false, firstSt l [h]) else if chkQ q ≠ 0 then (false, chkQ q) else (fitsB l h.pl q, 0)
def fndSt (l : List Nd) (h : Hd) (q : List Te) : List Int × Int := if (orderSt l h).2 ≠ 0 then ([], (orderSt l h).2) else if chkQ q ≠ 0 then ([], chkQ q) else (((orderSt l h).1.drop 1).filter fun k => fitsB l k q, 0)
section
variable {l : List Nd} {h : Hd} {q : List Te}
theorem fit_1 (c : ¬ firstSt l [h] = 0) : fitSt l h q = (false, firstSt l [h]) := if_pos c
theorem fit_2 (c : firstSt l [h] = 0) (d : ¬ chkQ q = 0) : fitSt l h q = (false, chkQ q) := by unfold fitSt; rw [if_neg (not_not_intro c), if_pos d]
theorem fit_3 (c : firstSt l [h] = 0) (d : chkQ q = 0) : fitSt l h q = (fitsB l h.pl q, 0) := by unfold fitSt; rw [if_neg (not_not_intro c), if_neg (not_not_intro d)]
theorem fnd_1 (c : ¬ (orderSt l h).2 = 0) : fndSt l h q = ([], (orderSt l h).2) := if_pos c
theorem fnd_2 (c : (orderSt l h).2 = 0) (d : ¬ chkQ q = 0) : fndSt l h q = ([], chkQ q) := by unfold fndSt; rw [if_neg (not_not_intro c), if_pos d]
theorem fnd_3 (c : (orderSt l h).2 = 0) (d : chkQ q = 0) : fndSt l h q = (((orderSt l h).1.drop 1).filter fun k => fitsB l k q, 0) := by unfold fndSt; rw [if_neg (not_not_intro c), if_neg (not_not_intro d)]
end
def rowB (l : List Nd) (q : List Te) (k : Int) : List Bool := (List.range q.length).map fun j => fitsB l k (q.take (j + 1))
def reachB (l : List Nd) (q : List Te) (ks : List Int) : List Bool := (List.range q.length).map fun j => ks.any fun k => fitsB l k (q.take (j + 1))
theorem rowB_len (l : List Nd) (q : List Te) (k : Int) : (rowB l q k).length = q.length := by unfold rowB; rw [List.length_map, List.length_range]
theorem reachB_len (l : List Nd) (q : List Te) (ks : List Int) : (reachB l q ks).length = q.length := by unfold reachB; rw [List.length_map, List.length_range]
theorem rowB_at {l : List Nd} {q : List Te} {k : Int} {j : Nat} (h : j < q.length) : (rowB l q k).getD j false = fitsB l k (q.take (j + 1)) := by
  rw [getD_lt (by rw [rowB_len]; exact h)]; simp [rowB]
theorem reachB_at {l : List Nd} {q : List Te} {ks : List Int} {j : Nat} (h : j < q.length) : (reachB l q ks).getD j false = ks.any fun k => fitsB l k (q.take (j + 1)) := by
  rw [getD_lt (by rw [reachB_len]; exact h)]; simp [reachB]
theorem take_last {q : List Te} {j : Nat} (h : j < q.length) : (q.take (j + 1)).getD ((q.take (j + 1)).length - 1) default = q.getD j default ∧ (q.take (j + 1)).length = j + 1 ∧ (q.take (j + 1)).take ((q.take (j + 1)).length - 1) = q.take j := by
  have e : (q.take (j + 1)).length = j + 1 := by rw [List.length_take]; omega
  rw [e]
  refine ⟨?_, rfl, ?_⟩
  · rw [getD_lt (by rw [e]; omega), getD_lt h, List.getElem_take]; rfl
  · rw [List.take_take]; congr 1; omega
theorem cell_0 {l : List Nd} {q : List Te} {k : Int} (h : 0 < q.length) : fitsB l k (q.take 1) = isT (l.getD k.toNat default) (q.getD 0 default) := by
  obtain ⟨a, b, _⟩ := take_last (j := 0) h
  rw [fits_eq (by rw [b]; omega), a, b]; simp
theorem cell_s {l : List Nd} {q : List Te} {k : Int} {j : Nat} (h : j + 1 < q.length) : fitsB l k (q.take (j + 2)) = (isT (l.getD k.toNat default) (q.getD (j + 1) default) &&
    if (q.getD (j + 1) default).near = true then decide (0 ≤ (l.getD k.toNat default).par) && fitsB l (l.getD k.toNat default).par (q.take (j + 1)) else (parC l (l.getD k.toNat default).par).any fun p => fitsB l p (q.take (j + 1))) := by
  obtain ⟨a, b, c⟩ := take_last (j := j + 1) h
  rw [fits_eq (by rw [b]; omega), a, c, b, decide_eq_false (by omega), Bool.false_or]
theorem range_set {α : Type} {n j : Nat} {f g : Nat → α} {v : α} (hv : v = g j) (h : ∀ i, i ≠ j → f i = g i) : ((List.range n).map f).set j v = (List.range n).map g := by
  apply List.ext_getElem (by simp)
  intro i h1 h2
  rw [List.getElem_set]; split
  · rename_i e; subst e; simp [hv]
  · rename_i e; simp [h i (fun q => e q.symm)]
theorem range_at {α : Type} {n j : Nat} {f : Nat → α} {d : α} (h : j < n) : ((List.range n).map f).getD j d = f j := by
  rw [getD_lt (by rw [List.length_map, List.length_range]; exact h)]; simp
def lastB (l : List Nd) (q : List Te) (L : List Int) (i : Nat) : List Bool := if i = 0 then List.replicate q.length false else rowB l q (L.getD (i - 1) 0)
theorem lastB_len (l : List Nd) (q : List Te) (L : List Int) (i : Nat) : (lastB l q L i).length = q.length := by
  unfold lastB; split
  · exact List.length_replicate
  · exact rowB_len _ _ _
def tblF (l : List Nd) (q : List Te) (p : Int) (j : Nat) : List Bool := (List.range q.length).map fun i => if i < j then fitsB l p (q.take (i + 1)) else false
def tblR (l : List Nd) (q : List Te) (ks : List Int) (p : Int) (j : Nat) : List Bool := (List.range q.length).map fun i => (ks.any fun k => fitsB l k (q.take (i + 1))) || if i < j then fitsB l p (q.take (i + 1)) else false
section
variable {l : List Nd} {q : List Te} {p : Int} {ks : List Int} {j : Nat} {v : Bool}
theorem tblF_len : (tblF l q p j).length = q.length := by unfold tblF; rw [List.length_map, List.length_range]
theorem tblR_len : (tblR l q ks p j).length = q.length := by unfold tblR; rw [List.length_map, List.length_range]
theorem tblF_0 : List.replicate q.length false = tblF l q p 0 := by
  unfold tblF
  apply List.ext_getElem <;> simp
theorem tblF_e (h : q.length ≤ j) : tblF l q p j = rowB l q p := by
  unfold tblF rowB
  refine List.map_congr_left fun i hi => ?_
  rw [if_pos (by have := List.mem_range.1 hi; omega)]
theorem tblF_s (e : v = fitsB l p (q.take (j + 1))) : (tblF l q p j).set j v = tblF l q p (j + 1) :=
  range_set (by rw [e, if_pos (by omega)]) fun i hi => by
    by_cases c : i < j
    · rw [if_pos c, if_pos (by omega)]
    · rw [if_neg c, if_neg (by omega)]
theorem tblR_0 : reachB l q ks = tblR l q ks p 0 := by
  unfold tblR reachB
  refine List.map_congr_left fun i hi => ?_
  rw [if_neg (by omega), Bool.or_false]
theorem tblR_e (h : q.length ≤ j) : tblR l q ks p j = reachB l q (ks ++ [p]) := by
  unfold tblR reachB
  refine List.map_congr_left fun i hi => ?_
  rw [if_pos (by have := List.mem_range.1 hi; omega), List.any_append]; simp
theorem tblR_at (h : j < q.length) : (tblR l q ks p j).getD j false = ks.any fun k => fitsB l k (q.take (j + 1)) := by
  unfold tblR; rw [range_at h, if_neg (by omega), Bool.or_false]
theorem tblR_s (e : v = ((ks.any fun k => fitsB l k (q.take (j + 1))) || fitsB l p (q.take (j + 1)))) : (tblR l q ks p j).set j v = tblR l q ks p (j + 1) :=
  range_set (by rw [e, if_pos (by omega)]) fun i hi => by
    by_cases c : i < j
    · rw [if_pos c, if_pos (by omega)]
    · rw [if_neg c, if_neg (by omega)]
end
theorem rev_getI {L : List Int} {i : Nat} (h : i < L.length) : L.reverse.getD i 0 = L.getD (L.length - 1 - i) 0 := by
  rw [getD_lt (by rw [List.length_reverse]; exact h), getD_lt (by omega), List.getElem_reverse]
theorem par_lt {l : List Nd} (h : checkSt l = 0) {k : Int} (hk : 0 ≤ k ∧ k < (l.length : Int)) : (l.getD k.toNat default).par < (l.length : Int) := (st_n1 h hk).par.2
theorem par_drop {l : List Nd} (h : checkSt l = 0) : ∀ (n : Nat) (k : Int), k < (l.length : Int) → n < (parC l k).length → (parC l k).drop n = parC l ((parC l k).getD n 0) ∧ (0 ≤ (parC l k).getD n 0 ∧ (parC l k).getD n 0 < (l.length : Int))
  | n, k, hk, hn => by
    by_cases h0 : 0 ≤ k
    · have e := parC_eq h ⟨h0, hk⟩
      cases n with
      | zero => rw [e]; exact ⟨e.symm, h0, hk⟩
      | succ n =>
        rw [e, List.length_cons] at hn
        rw [e]
        exact par_drop h n _ (par_lt h ⟨h0, hk⟩) (by omega)
    · rw [parC_neg (by omega)] at hn; exact absurd hn (Nat.not_lt_zero _)
theorem line_p {l : List Nd} (h : checkSt l = 0) {k : Int} (hk : k < (l.length : Int)) {i : Nat} (hi : i < (parC l k).length) :
    (0 ≤ (parC l k).reverse.getD i 0 ∧ (parC l k).reverse.getD i 0 < (l.length : Int)) ∧ (parC l k).reverse.take i = (parC l (l.getD ((parC l k).reverse.getD i 0).toNat default).par).reverse ∧
      (i = 0 → (l.getD ((parC l k).reverse.getD i 0).toNat default).par < 0) ∧ (0 < i → 0 ≤ (l.getD ((parC l k).reverse.getD i 0).toNat default).par ∧ (parC l k).reverse.getD (i - 1) 0 = (l.getD ((parC l k).reverse.getD i 0).toNat default).par) := by
  obtain ⟨e, r⟩ := par_drop h ((parC l k).length - 1 - i) k hk (by omega)
  rw [rev_getI hi]
  have e2 := parC_eq h r
  have e3 : (parC l k).drop ((parC l k).length - i) = parC l (l.getD ((parC l k).getD ((parC l k).length - 1 - i) 0).toNat default).par := by
    rw [show (parC l k).length - i = ((parC l k).length - 1 - i) + 1 by omega, ← List.drop_drop, e, e2]; rfl
  have hl := congrArg List.length e3
  rw [List.length_drop] at hl
  have pin : ∀ x : Int, x < (l.length : Int) → (0 ≤ x ↔ 0 < (parC l x).length) := fun x hx => by
    constructor
    · intro a; rw [parC_eq h ⟨a, hx⟩, List.length_cons]; omega
    · intro a
      refine Classical.byContradiction fun q => ?_
      rw [parC_neg (by omega)] at a; exact absurd a (Nat.lt_irrefl 0)
  have pp := pin _ (par_lt h r)
  refine ⟨r, ?_, fun i0 => ?_, fun i0 => ?_⟩
  · rw [List.take_reverse, e3]
  · omega
  · have p0 : 0 ≤ (l.getD ((parC l k).getD ((parC l k).length - 1 - i) 0).toNat default).par := by omega
    refine ⟨p0, ?_⟩
    rw [rev_getI (by omega), show (parC l k).length - 1 - (i - 1) = (parC l k).length - i by omega]
    have : (parC l k).getD ((parC l k).length - i) 0 = ((parC l k).drop ((parC l k).length - i)).getD 0 0 := by
      rw [getD_lt (by omega), getD_lt (by rw [List.length_drop]; omega), List.getElem_drop]; simp
    rw [this, e3, parC_eq h ⟨p0, par_lt h r⟩]; rfl
section
variable {l : List Nd} {q : List Te} {k : Int} {i j : Nat}
theorem last_at (h : checkSt l = 0) (hk : k < (l.length : Int)) (hi : i < (parC l k).length) (hj : j < q.length) :
    (lastB l q (parC l k).reverse i).getD j false = (decide (0 ≤ (l.getD ((parC l k).reverse.getD i 0).toNat default).par) && fitsB l (l.getD ((parC l k).reverse.getD i 0).toNat default).par (q.take (j + 1))) := by
  obtain ⟨_, _, a, b⟩ := line_p h hk hi
  unfold lastB
  by_cases e : i = 0
  · rw [if_pos e, decide_eq_false (by have := a e; omega), Bool.false_and]
    rw [getD_lt (by rw [List.length_replicate]; exact hj)]; simp
  · rw [if_neg e, rowB_at hj, (b (by omega)).2, decide_eq_true (b (by omega)).1, Bool.true_and]
theorem reach_at (h : checkSt l = 0) (hk : k < (l.length : Int)) (hi : i < (parC l k).length) (hj : j < q.length) :
    (reachB l q ((parC l k).reverse.take i)).getD j false = (parC l (l.getD ((parC l k).reverse.getD i 0).toNat default).par).any fun p => fitsB l p (q.take (j + 1)) := by
  obtain ⟨_, a, _⟩ := line_p h hk hi
  rw [reachB_at hj, a, List.any_reverse]
theorem isT_ref (n : Nd) (t : Te) : ((decide (t.tag = -1000001) || decide (t.tag = n.tag)) && (decide (t.mark = -1000001) || decide (t.mark = n.mark))) = isT n t := by
  have c : ∀ a b : Int, decide (a = b) = decide (b = a) := fun a b => by rw [Bool.eq_iff_iff, decide_eq_true_iff, decide_eq_true_iff]; exact eq_comm
  unfold isT; rw [c t.tag n.tag, c t.mark n.mark]
theorem last_end (h : checkSt l = 0) (hk : 0 ≤ k ∧ k < (l.length : Int)) (hq : 0 < q.length) : (lastB l q (parC l k).reverse (parC l k).length).getD (q.length - 1) false = fitsB l k q := by
  have e := parC_eq h hk
  have hl : 0 < (parC l k).length := by rw [e, List.length_cons]; omega
  unfold lastB
  rw [if_neg (by omega), rowB_at (by omega), rev_getI (by omega), show (parC l k).length - 1 - ((parC l k).length - 1) = 0 by omega, show q.length - 1 + 1 = q.length by omega, List.take_of_length_le (Nat.le_refl _)]
  rw [e]; rfl
end
theorem teErr_2 {q : List Te} {i : Nat} (h : teBad (q.getD i default) = true) : teErr q i = 2 := if_pos h
theorem teErr_3 {q : List Te} {i : Nat} (h : teBad (q.getD i default) = false) (e : (decide (i = 0) && (q.getD i default).near) = true) : teErr q i = 3 := by unfold teErr; rw [if_neg (ff h), if_pos e]
theorem teErr_0 {q : List Te} {i : Nat} (h : teBad (q.getD i default) = false) (e : (decide (i = 0) && (q.getD i default).near) = false) : teErr q i = 0 := by unfold teErr; rw [if_neg (ff h), if_neg (ff e)]
theorem te_ref (t : Te) : ((!decide (t.tag = -1000001) && !inI t.tag 0 99) || !inI t.mark (-1000001) 1000000) = teBad t := by
  rw [Bool.eq_iff_iff]
  simp [inI, teBad]
  omega
theorem reach_nil (l : List Nd) (q : List Te) : List.replicate q.length false = reachB l q [] := by
  unfold reachB
  apply List.ext_getElem <;> simp
section
variable {l : List Nd} {k p : Int} {q : List Te} {m : Nat}
theorem fits_hit (h : checkSt l = 0) (hm : m = q.length - 1) (h1 : 1 < q.length) (c : isT (l.getD k.toNat default) (q.getD (q.length - 1) default) = true) (hn : (q.getD m default).near = true → p = (l.getD k.toNat default).par)
    (he : (parC l (l.getD k.toNat default).par).any (fun p => fitsB l p (q.take m)) = (parC l p).any fun p => fitsB l p (q.take m)) (hp : 0 ≤ p ∧ p < (l.length : Int)) (hf : fitsB l p (q.take m) = true) : fitsB l k q = true := by
  subst hm
  cases n : (q.getD (q.length - 1) default).near with
  | true => rw [fits_n h1 c n, ← hn n, hf, decide_eq_true hp.1]; rfl
  | false => rw [fits_a h1 c n, he, parC_eq h hp, List.any_cons, hf]; rfl
theorem fits_end (hm : m = q.length - 1) (h1 : 1 < q.length) (c : isT (l.getD k.toNat default) (q.getD (q.length - 1) default) = true) (hn : (q.getD m default).near = true → p = (l.getD k.toNat default).par)
    (he : (parC l (l.getD k.toNat default).par).any (fun p => fitsB l p (q.take m)) = (parC l p).any fun p => fitsB l p (q.take m)) (hp : p < 0) : fitsB l k q = false := by
  subst hm
  cases n : (q.getD (q.length - 1) default).near with
  | true => rw [fits_n h1 c n, ← hn n, decide_eq_false (by omega)]; rfl
  | false => rw [fits_a h1 c n, he, parC_neg hp]; rfl
theorem fits_brk (hm : m = q.length - 1) (h1 : 1 < q.length) (c : isT (l.getD k.toNat default) (q.getD (q.length - 1) default) = true) (hn : (q.getD m default).near = true → p = (l.getD k.toNat default).par)
    (n : (q.getD m default).near = true) (hf : fitsB l p (q.take m) = false) : fitsB l k q = false := by
  subst hm
  rw [fits_n h1 c n, ← hn n, hf, Bool.and_false]
theorem fit_j {h : Hd} (c : firstSt l [h] = 0) : fitSt l h q = (decide (chkQ q = 0) && fitsB l h.pl q, chkQ q) := by
  by_cases d : chkQ q = 0
  · rw [fit_3 c d, d]; simp
  · rw [fit_2 c d, decide_eq_false d]; rfl
theorem fit_k {h : Hd} (c : ¬ firstSt l [h] = 0) (b : Bool) : fitSt l h q = (decide (firstSt l [h] = 0) && b, firstSt l [h]) := by
  rw [fit_1 c, decide_eq_false c]; rfl
end
theorem filt_s {L : List Int} {i : Nat} {f : Int → Bool} (h : i < L.length) : (L.take (i + 1)).filter f = (L.take i).filter f ++ (if f (L.getD i 0) = true then [L.getD i 0] else []) := by
  rw [take_s 0 h, List.filter_append]
  split
  · rename_i q; rw [List.filter_cons_of_pos q]; rfl
  · rename_i q; rw [List.filter_cons_of_neg q]; rfl
theorem ord_first {l : List Nd} {h : Hd} (q : (orderSt l h).2 = 0) : firstSt l [h] = 0 := Classical.byContradiction fun c => by rw [order_1 c] at q; exact c q
theorem ord_pos {l : List Nd} {h : Hd} (q : (orderSt l h).2 = 0) : 0 < (orderSt l h).1.length := (to_3 q).1
theorem ord_drop {l : List Nd} {h : Hd} (q : (orderSt l h).2 = 0) {i : Nat} (hi : i < ((orderSt l h).1.drop 1).length) : 0 ≤ ((orderSt l h).1.drop 1).getD i 0 ∧ ((orderSt l h).1.drop 1).getD i 0 < (l.length : Int) := by
  have hi2 := hi
  rw [List.length_drop] at hi2
  have e : ((orderSt l h).1.drop 1).getD i 0 = (orderSt l h).1.getD (i + 1) 0 := by
    rw [getD_lt hi, getD_lt (by omega), List.getElem_drop]; congr 1; omega
  rw [e]
  exact to_in q (by omega)
def fitsQ (l : List Nd) (q : List Te) : Int → Bool := fun p => fitsB l p q
section
variable {l : List Nd} {q : List Te} {k : Int} {i j : Nat}
theorem tb_n (h : checkSt l = 0) (hk : k < (l.length : Int)) (hi : i < (parC l k).length) (hj : j < q.length) (c : (decide (0 < (j : Int)) && (q.getD j default).near) = true) :
    (((decide ((q.getD j default).tag = -1000001) || decide ((q.getD j default).tag = (l.getD ((parC l k).reverse.getD i 0).toNat default).tag)) && (decide ((q.getD j default).mark = -1000001) || decide ((q.getD j default).mark = (l.getD ((parC l k).reverse.getD i 0).toNat default).mark))) && (lastB l q (parC l k).reverse i).getD (Int.toNat ((j : Int) - 1)) false) = fitsB l ((parC l k).reverse.getD i 0) (q.take (j + 1)) := by
  rw [Bool.and_eq_true, decide_eq_true_iff] at c
  obtain ⟨m, rfl⟩ : ∃ m, j = m + 1 := ⟨j - 1, by omega⟩
  rw [isT_ref, show Int.toNat (((m + 1 : Nat) : Int) - 1) = m by omega, last_at h hk hi (by omega), cell_s (by omega), if_pos c.2]
theorem tb_a (h : checkSt l = 0) (hk : k < (l.length : Int)) (hi : i < (parC l k).length) (hj : j < q.length) (c : (decide (0 < (j : Int)) && (q.getD j default).near) = false) (d : decide (0 < (j : Int)) = true) :
    (((decide ((q.getD j default).tag = -1000001) || decide ((q.getD j default).tag = (l.getD ((parC l k).reverse.getD i 0).toNat default).tag)) && (decide ((q.getD j default).mark = -1000001) || decide ((q.getD j default).mark = (l.getD ((parC l k).reverse.getD i 0).toNat default).mark))) && (reachB l q ((parC l k).reverse.take i)).getD (Int.toNat ((j : Int) - 1)) false) = fitsB l ((parC l k).reverse.getD i 0) (q.take (j + 1)) := by
  rw [d, Bool.true_and] at c
  rw [decide_eq_true_iff] at d
  obtain ⟨m, rfl⟩ : ∃ m, j = m + 1 := ⟨j - 1, by omega⟩
  rw [isT_ref, show Int.toNat (((m + 1 : Nat) : Int) - 1) = m by omega, reach_at h hk hi (by omega), cell_s (by omega), if_neg (ff c)]
theorem tb_0 (hj : j < q.length) (d : decide (0 < (j : Int)) = false) {p : Int} :
    ((decide ((q.getD j default).tag = -1000001) || decide ((q.getD j default).tag = (l.getD p.toNat default).tag)) && (decide ((q.getD j default).mark = -1000001) || decide ((q.getD j default).mark = (l.getD p.toNat default).mark))) = fitsB l p (q.take (j + 1)) := by
  rw [decide_eq_false_iff_not] at d
  obtain rfl : j = 0 := by omega
  rw [isT_ref]; exact (cell_0 hj).symm
end
end Go.Proofs.Ytmcdamcedemdiaa
namespace Go.Proofs.Ytmcdamcedemdiaa
open Go.RowKit Go.Eng
theorem is_ct (n : Nd) (t : Te) : Ct Try.prog 151 [SV.agg 8 (ndCell n), SV.agg 3 (teCell t)] (bv (isT n t)) := by
 exact CtO 27 Try.func151 rfl rfl rfl fun E => row_lenA 5 (V (s := 0) rfl) rfl rfl fun hl0_5 => Sq <| Rt <| BxA 1 (V rfl) rfl rfl <| BxA 2 (V rfl) rfl rfl <| U (As K) <| Nt <| Sq <| Rq <| O (FlB _ _ (V rfl) Un100 rfl 0 Sz3) <| O (LdB (V rfl) rfl Ga3 (by decide)) <| O (Ql (V rfl) K) <| O (Mv (V rfl)) <| Og (Gn rfl rfl) (fun hg => FlB _ _ (V rfl) Un61 rfl 0 Sz3) <| Og (Gn rfl rfl) (fun hg => LdB (Vg (V rfl) hg) rfl Ga3 (by decide)) <| Og (Gn rfl rfl) (fun hg => FlB _ _ (V rfl) Un100 rfl 0 Sz3) <| Og (Gn rfl rfl) (fun hg => LdB (Vg (V rfl) hg) rfl Ga3 (by decide)) <| Og (Gn rfl rfl) (fun hg => Ql (Vg (V rfl) hg) (Vg (V rfl) hg)) <| O (Qr (V rfl) (fun h => Vg (V rfl) (notT h))) <| O (Mv (V rfl)) <| Og (Gy rfl rfl) (fun hg => FlB _ _ (V rfl) Un100 rfl 0 Sz3) <| Og (Gy rfl rfl) (fun hg => LdB (Vg (V rfl) hg) rfl Ga3 (by decide)) <| Og (Gy rfl rfl) (fun hg => Ql (Vg (V rfl) hg) K) <| Og (Gy rfl rfl) (fun hg => Mv (Vg (V rfl) hg)) <| Og (Gyn rfl rfl) (fun hg => FlB _ _ (V rfl) Un61 rfl 0 Sz3) <| Og (Gyn rfl rfl) (fun hg => LdB (Vg (V rfl) hg) rfl Ga3 (by decide)) <| Og (Gyn rfl rfl) (fun hg => FlB _ _ (V rfl) Un100 rfl 0 Sz3) <| Og (Gyn rfl rfl) (fun hg => LdB (Vg (V rfl) hg) rfl Ga3 (by decide)) <| Og (Gyn rfl rfl) (fun hg => Ql (Vg (V rfl) hg) (Vg (V rfl) hg)) <| Og (Gy rfl rfl) (fun hg => Qr (Vg (V rfl) hg) (fun h => Vg (V rfl) (andI hg (notT h)))) <| O (Qa (V rfl) (fun h => Vg (V rfl) h)) <| O (As (V rfl)) <| Nq <| Rx <| R1 rfl (V rfl) rfl (by show bv (((decide (t.tag = (-1000001))) || (decide (n.tag = t.tag))) && ((decide (t.mark = (-1000001))) || (decide (n.mark = t.mark)))) = bv (isT n t); rfl)
theorem chkQ_ct (q : List Te) : Ct Try.prog 72 [teRow q] (iv (chkQ q)) := by
 refine CtO 55 Try.func72 rfl rfl rfl fun E => Rl (V (s := 0) rfl) fun hl0 => Sq <| Rq <| O (As K) <| Nq <| Sq <| Sq <| Rq <| O (Mv (V rfl)) <| O (Ln (V rfl) ts87) <| O (Ql (V rfl) K) <| O (Mv (V rfl)) <| Og (Gn rfl rfl) (fun hg => Mv (V rfl)) <| Og (Gn rfl rfl) (fun hg => Ln (Vg (V rfl) hg) ts87) <| Og (Gn rfl rfl) (fun hg => Gt (Vg (V rfl) hg) K) <| O (Qr (V rfl) (fun h => Vg (V rfl) (notT h))) <| Nq <| Cd (V rfl) (fun hc1 => ?_) (fun hc1 => ?_)
 ·have hc1s := hc1; try simp only [BL] at hc1s
  have h1 : q.length = 0 ∨ 6 < q.length := by simp at hc1; omega
  exact Sq <| Rq <| O (As K) <| Nq <| Rx <| R1 rfl (V rfl) rfl (by show iv (1) = iv (chkQ q); rw [chkQ_1 h1])
 ·have hc1s := hc1; try simp only [BL] at hc1s
  have h1n : ¬ (q.length = 0 ∨ 6 < q.length) := by simp at hc1; omega
  refine Sk <| Sq <| Sq <| Rq <| O (Mv (V rfl)) <| O (Ln (V rfl) ts87) <| O (Mv K) <| Nq <| Bo <| Lo (fun (i : Nat) => ⟨[(13, teRow q), (14, iv ((q.length : Int))), (15, iv ((i : Int)))], []⟩) (fun (i : Nat) => i ≤ q.length ∧ chkQ q = firstErr (teErr q) i (q.length - i)) (fun (i : Nat) => q.length - i) 0 (by show 0 ≤ q.length ∧ chkQ q = firstErr (teErr q) 0 (q.length - 0); exact ⟨Nat.zero_le _, chkQ_0 h1n⟩) (We (Vs rfl) Z) <| ?_
  ·rintro i hI1
   have hJ1 : i ≤ q.length ∧ chkQ q = firstErr (teErr q) i (q.length - i) := hI1
   have hiv := hJ1.1
   have hch := hJ1.2
   refine Sq <| Rq <| O (Lt (V rfl) (V rfl)) <| Nq <| Sq <| Cd (V rfl) (fun hc2 => ?_) (fun hc2 => ?_)
   ·have hc2s := hc2; try simp only [BL] at hc2s
    have hil : i < q.length := by omega
    refine Sk <| Sq <| Bo <| Sq <| Rt <| U (Mv (V rfl)) <| U (IxN (i := i) (V rfl) (V rfl) ts87 te87 (by omega)) <| U (LdA (V rfl) Ga100 Sz100 (by decide)) <| Al 1 zero100 rfl rfl <| U (As (V rfl)) <| StA (V rfl) rfl (V rfl) Sz100 <| Nt <| Sq <| Sq <| Rq <| O (FlB _ _ (V rfl) Un100 rfl 0 Sz3) <| O (LdB (V rfl) rfl Ga3 (by decide)) <| O (Qn (V rfl) K) <| O (Mv (V rfl)) <| Og (Gy rfl rfl) (fun hg => FlB _ _ (V rfl) Un100 rfl 0 Sz3) <| Og (Gy rfl rfl) (fun hg => LdB (Vg (V rfl) hg) rfl Ga3 (by decide)) <| Og (Gy rfl rfl) (fun hg => Lt (Vg (V rfl) hg) K) <| Og (Gy rfl rfl) (fun hg => Mv (Vg (V rfl) hg)) <| Og (Gyn rfl rfl) (fun hg => FlB _ _ (V rfl) Un100 rfl 0 Sz3) <| Og (Gyn rfl rfl) (fun hg => LdB (Vg (V rfl) hg) rfl Ga3 (by decide)) <| Og (Gyn rfl rfl) (fun hg => Gt (Vg (V rfl) hg) K) <| Og (Gy rfl rfl) (fun hg => Qr (Vg (V rfl) hg) (fun h => Vg (V rfl) (andI hg (notT h)))) <| O (Qa (V rfl) (fun h => Vg (V rfl) h)) <| O (Mv (V rfl)) <| Og (Gn rfl rfl) (fun hg => FlB _ _ (V rfl) Un100 rfl 0 Sz3) <| Og (Gn rfl rfl) (fun hg => LdB (Vg (V rfl) hg) rfl Ga3 (by decide)) <| Og (Gn rfl rfl) (fun hg => Qn (Vg (V rfl) hg) K) <| Og (Gn rfl rfl) (fun hg => Mv (Vg (V rfl) hg)) <| Og (Gyy rfl rfl) (fun hg => FlB _ _ (V rfl) Un100 rfl 0 Sz3) <| Og (Gyy rfl rfl) (fun hg => LdB (Vg (V rfl) hg) rfl Ga3 (by decide)) <| Og (Gyy rfl rfl) (fun hg => Lt (Vg (V rfl) hg) K) <| Og (Gyy rfl rfl) (fun hg => Mv (Vg (V rfl) hg)) <| Og (Gyn rfl rfl) (fun hg => FlB _ _ (V rfl) Un100 rfl 0 Sz3) <| Og (Gyn rfl rfl) (fun hg => LdB (Vg (V rfl) hg) rfl Ga3 (by decide)) <| Og (Gyn rfl rfl) (fun hg => Gt (Vg (V rfl) hg) K) <| ?_
    refine Og (Gyy rfl rfl) (fun hg => Qr (Vg (V rfl) hg) (fun h => Vg (V rfl) (andI hg (notT h)))) <| Og (Gn rfl rfl) (fun hg => Qa (Vg (V rfl) hg) (fun h => Vg (V rfl) (andI hg h))) <| O (Qr (V rfl) (fun h => Vg (V rfl) (notT h))) <| Nq <| Cd (V rfl) (fun hc3 => ?_) (fun hc3 => ?_)
    ·have hc3s := hc3; try simp only [BL] at hc3s
     have h3 : teBad (q.getD i default) = true := hc3
     exact Sq <| Rq <| O (As K) <| Nq <| Rx <| R1 rfl (V rfl) rfl (by show iv (2) = iv (chkQ q); rw [firstErr_hit hil hch (teErr_2 h3) (by decide)])
    ·have hc3s := hc3; try simp only [BL] at hc3s
     have h3 : teBad (q.getD i default) = false := hc3
     refine Sk <| Sq <| Rq <| O (Mv (V rfl)) <| O (Ql (V rfl) K) <| O (Mv (V rfl)) <| Og (Gy rfl rfl) (fun hg => FlB _ _ (V rfl) Un100 rfl 0 Sz4) <| Og (Gy rfl rfl) (fun hg => LdB (Vg (V rfl) hg) rfl Ga4 (by decide)) <| O (Qa (V rfl) (fun h => Vg (V rfl) h)) <| Nq <| Cd (V rfl) (fun hc4 => ?_) (fun hc4 => ?_)
     ·have hc4s := hc4; try simp only [BL] at hc4s
      have h4 : (decide (i = 0) && (q.getD i default).near) = true := by simpa using hc4
      exact Sq <| Rq <| O (As K) <| Nq <| Rx <| R1 rfl (V rfl) rfl (by show iv (3) = iv (chkQ q); rw [firstErr_hit hil hch (teErr_3 h3 h4) (by decide)])
     ·have hc4s := hc4; try simp only [BL] at hc4s
      have h4 : (decide (i = 0) && (q.getD i default).near) = false := by simpa using hc4
      exact Sk <| Rq <| O (Ad (V rfl) K (by omega)) <| O (Mv (V rfl)) <| Nq <| Nx (i + 1) (by show (i + 1) ≤ q.length ∧ chkQ q = firstErr (teErr q) (i + 1) (q.length - (i + 1)); exact ⟨by omega, firstErr_next hil hch (teErr_0 h3 h4)⟩) (by show q.length - (i + 1) < q.length - i; omega) (We (Vs rfl) Z)
   ·have hc2s := hc2; try simp only [BL] at hc2s
    exact Ex <| Sq <| Rq <| O (As K) <| Nq <| Rx <| R1 rfl (V rfl) rfl (by show iv (0) = iv (chkQ q); rw [firstErr_end (by omega) hch])
theorem rchkQ_ct (q : List Te) : Ct Try.prog 73 [teRow q] (iv (chkQ q)) := by
 refine CtO 38 Try.func73 rfl rfl rfl fun E => Rl (V (s := 0) rfl) fun hl0 => Sq <| Rq <| O (As K) <| Nq <| Sq <| Sq <| Rq <| O (Mv (V rfl)) <| O (Ln (V rfl) ts87) <| CQ en120 (by exact ⟨⟨(V rfl), rfl⟩, ⟨K, rfl⟩, ⟨K, rfl⟩, Z⟩) (in_ct ((q.length : Int)) 1 6) <| O (Qo (V rfl)) <| Nq <| Cd (V rfl) (fun hc1 => ?_) (fun hc1 => ?_)
 ·have hc1s := hc1; try simp only [BL] at hc1s
  have h1 : q.length = 0 ∨ 6 < q.length := by simp [inI] at hc1; omega
  exact Sq <| Rq <| O (As K) <| Nq <| Rx <| R1 rfl (V rfl) rfl (by show iv (1) = iv (chkQ q); rw [chkQ_1 h1])
 ·have hc1s := hc1; try simp only [BL] at hc1s
  have h1n : ¬ (q.length = 0 ∨ 6 < q.length) := by simp [inI] at hc1; omega
  refine Sk <| Sq <| Sq <| Rq <| O (Mv (V rfl)) <| O (Ln (V rfl) ts87) <| O (Mv K) <| Nq <| Bo <| Lo (fun (i : Nat) => ⟨[(9, teRow q), (10, iv ((q.length : Int))), (11, iv ((i : Int)))], []⟩) (fun (i : Nat) => i ≤ q.length ∧ chkQ q = firstErr (teErr q) i (q.length - i)) (fun (i : Nat) => q.length - i) 0 (by show 0 ≤ q.length ∧ chkQ q = firstErr (teErr q) 0 (q.length - 0); exact ⟨Nat.zero_le _, chkQ_0 h1n⟩) (We (Vs rfl) Z) <| ?_
  ·rintro i hI1
   have hJ1 : i ≤ q.length ∧ chkQ q = firstErr (teErr q) i (q.length - i) := hI1
   have hiv := hJ1.1
   have hch := hJ1.2
   refine Sq <| Rq <| O (Lt (V rfl) (V rfl)) <| Nq <| Sq <| Cd (V rfl) (fun hc2 => ?_) (fun hc2 => ?_)
   ·have hc2s := hc2; try simp only [BL] at hc2s
    have hil : i < q.length := by omega
    refine Sk <| Sq <| Bo <| Sq <| Rt <| U (Mv (V rfl)) <| U (IxN (i := i) (V rfl) (V rfl) ts87 te87 (by omega)) <| U (LdA (V rfl) Ga100 Sz100 (by decide)) <| Al 1 zero100 rfl rfl <| U (As (V rfl)) <| StA (V rfl) rfl (V rfl) Sz100 <| Nt <| Sq <| Sq <| Rq <| O (FlB _ _ (V rfl) Un100 rfl 0 Sz3) <| O (LdB (V rfl) rfl Ga3 (by decide)) <| O (Qn (V rfl) K) <| O (Mv (V rfl)) <| Og (Gy rfl rfl) (fun hg => FlB _ _ (V rfl) Un100 rfl 0 Sz3) <| Og (Gy rfl rfl) (fun hg => LdB (Vg (V rfl) hg) rfl Ga3 (by decide)) <| CQg (Gy rfl rfl) en120 (fun hg => (by exact ⟨⟨(Vg (V rfl) hg), rfl⟩, ⟨K, rfl⟩, ⟨K, rfl⟩, Z⟩)) (fun hg => in_ct ((q.getD i default).tag) 0 99) <| Og (Gy rfl rfl) (fun hg => Qo (Vg (V rfl) hg)) <| O (Qa (V rfl) (fun h => Vg (V rfl) h)) <| O (Mv (V rfl)) <| Og (Gn rfl rfl) (fun hg => FlB _ _ (V rfl) Un100 rfl 0 Sz3) <| Og (Gn rfl rfl) (fun hg => LdB (Vg (V rfl) hg) rfl Ga3 (by decide)) <| CQg (Gn rfl rfl) en120 (fun hg => (by exact ⟨⟨(Vg (V rfl) hg), rfl⟩, ⟨K, rfl⟩, ⟨K, rfl⟩, Z⟩)) (fun hg => in_ct ((q.getD i default).mark) ((-1000001)) 1000000) <| Og (Gn rfl rfl) (fun hg => Qo (Vg (V rfl) hg)) <| O (Qr (V rfl) (fun h => Vg (V rfl) (notT h))) <| Nq <| Cd (V rfl) (fun hc3 => ?_) (fun hc3 => ?_)
    ·have hc3s := hc3; try simp only [BL] at hc3s
     have h3 : teBad (q.getD i default) = true := (te_ref _).symm.trans hc3
     exact Sq <| Rq <| O (As K) <| Nq <| Rx <| R1 rfl (V rfl) rfl (by show iv (2) = iv (chkQ q); rw [firstErr_hit hil hch (teErr_2 h3) (by decide)])
    ·have hc3s := hc3; try simp only [BL] at hc3s
     have h3 : teBad (q.getD i default) = false := (te_ref _).symm.trans hc3
     refine Sk <| Sq <| Rq <| O (FlB _ _ (V rfl) Un100 rfl 0 Sz4) <| O (LdB (V rfl) rfl Ga4 (by decide)) <| O (Mv (V rfl)) <| Og (Gy rfl rfl) (fun hg => Mv (V rfl)) <| Og (Gy rfl rfl) (fun hg => Ql (Vg (V rfl) hg) K) <| O (Qa (V rfl) (fun h => Vg (V rfl) h)) <| Nq <| Cd (V rfl) (fun hc4 => ?_) (fun hc4 => ?_)
     ·have hc4s := hc4; try simp only [BL] at hc4s
      have h4 : (decide (i = 0) && (q.getD i default).near) = true := by rw [Bool.and_comm]; simpa using hc4
      exact Sq <| Rq <| O (As K) <| Nq <| Rx <| R1 rfl (V rfl) rfl (by show iv (3) = iv (chkQ q); rw [firstErr_hit hil hch (teErr_3 h3 h4) (by decide)])
     ·have hc4s := hc4; try simp only [BL] at hc4s
      have h4 : (decide (i = 0) && (q.getD i default).near) = false := by rw [Bool.and_comm]; simpa using hc4
      exact Sk <| Rq <| O (Ad (V rfl) K (by omega)) <| O (Mv (V rfl)) <| Nq <| Nx (i + 1) (by show (i + 1) ≤ q.length ∧ chkQ q = firstErr (teErr q) (i + 1) (q.length - (i + 1)); exact ⟨by omega, firstErr_next hil hch (teErr_0 h3 h4)⟩) (by show q.length - (i + 1) < q.length - i; omega) (We (Vs rfl) Z)
   ·have hc2s := hc2; try simp only [BL] at hc2s
    exact Ex <| Sq <| Rq <| O (As K) <| Nq <| Rx <| R1 rfl (V rfl) rfl (by show iv (0) = iv (chkQ q); rw [firstErr_end (by omega) hch])
def FitsCt (l : List Nd) (n : Nat) : Prop := ∀ (k : Int) (q : List Te), 0 ≤ k ∧ k < (l.length : Int) → q.length = n + 1 → Ct Try.prog 132 [SV.agg 1 (stG l), iv k, teRow q] (bv (fitsB l k q))
theorem fitsK_ct (l : List Nd) (n : Nat) (hc : checkSt l = 0) (ih : n = 0 ∨ FitsCt l (n - 1)) (k : Int) (q : List Te) (hk : 0 ≤ k ∧ k < (l.length : Int)) (hq : q.length = n + 1) : Ct Try.prog 132 [SV.agg 1 (stG l), iv (k), teRow q] (bv (fitsB l k q)) := by
 have h24 := checkSt_len hc
 have hq1 : (Int.toNat ((q.length : Int) - 1)) = q.length - 1 := by omega
 refine CtO 51 Try.func132 rfl rfl rfl fun E => row_lenA 0 (V (s := 0) rfl) rfl rfl fun hl0_0 => Rl (V (s := 2) rfl) fun hl2 => Sq <| Rt <| BxA 1 (V rfl) rfl rfl <| U (As K) <| Nt <| Sq <| Rt <| U (Mv (V rfl)) <| U (Mv (V rfl)) <| U (Ln (V rfl) ts87) <| U (Sb (V rfl) K (by omega)) <| U (Ix (V rfl) (V rfl) ts87 te87 (by omega) (by omega)) <| U (LdA (V rfl) Ga100 Sz100 (by decide)) <| Al 2 zero100 rfl rfl <| StA (V rfl) rfl (V rfl) Sz100 <| Nt <| Sq <| Sq <| Rqd (by kernel_rfl) (by kernel_rfl) <| O (FlB _ _ (V rfl) Un24 rfl 0 Sz22) <| O (LdB (V rfl) rfl Ga22 (by decide)) <| O (Mv (V rfl)) <| O (Ix (V rfl) (V rfl) ts22 te22 (by omega) (by omega)) <| O (LdA (V rfl) Ga61 Sz61 (by decide)) <| O (LBA (V rfl) rfl Ga100 Sz100 (by decide)) <| CQ en151 (by exact ⟨⟨(Vi (g' := ndCell ⟨(l.getD (Int.toNat k) default).used, (l.getD (Int.toNat k) default).uses, (l.getD (Int.toNat k) default).tag, (l.getD (Int.toNat k) default).mark, (l.getD (Int.toNat k) default).par, (l.getD (Int.toNat k) default).kids, (l.getD (Int.toNat k) default).host, (l.getD (Int.toNat k) default).closed⟩) (V rfl) ⟨⟨⟨⟨⟨⟨⟨⟨Z, Ir⟩, Ir⟩, Ir⟩, Ir⟩, Ir⟩, Ir⟩, Ir⟩, Ir⟩), rfl⟩, ⟨(Vi (g' := teCell ⟨(q.getD (Int.toNat (((q.length : Int)) - 1)) default).tag, (q.getD (Int.toNat (((q.length : Int)) - 1)) default).mark, (q.getD (Int.toNat (((q.length : Int)) - 1)) default).near⟩) (V rfl) ⟨⟨⟨Z, Ir⟩, Ir⟩, Ir⟩), rfl⟩, Z⟩) (is_ct ((l.getD (Int.toNat k) default)) ((q.getD (Int.toNat (((q.length : Int)) - 1)) default))) <| O (Qo (V rfl)) <| Nq <| Cd (V rfl) (fun hc1 => ?_) (fun hc1 => ?_)
 ·have hc1s := hc1; try simp only [BL] at hc1s
  have hi : isT (l.getD (Int.toNat k) default) (q.getD (q.length - 1) default) = false := by rw [← hq1]; simpa using hc1
  exact Sq <| Rq <| O (As K) <| Nq <| Rx <| R1 rfl (V rfl) rfl (by show bv (false) = bv (fitsB l k q); rw [fits_0 (by omega) hi])
 ·have hc1s := hc1; try simp only [BL] at hc1s
  have hi : isT (l.getD (Int.toNat k) default) (q.getD (q.length - 1) default) = true := by rw [← hq1]; simpa using hc1
  refine Sk <| Sq <| Sq <| Rq <| O (Mv (V rfl)) <| O (Mv (V rfl)) <| O (Ln (V rfl) ts87) <| O (Sb (V rfl) K (by omega)) <| O (q_slHT ts87 te87 (V rfl) (V rfl) (by omega) (by omega)) <| O (As (V rfl)) <| Nq <| Sq <| Rq <| O (Mv (V rfl)) <| O (Ln (V rfl) ts87) <| O (Ql (V rfl) K) <| Nq <| Cd (V rfl) (fun hc2 => ?_) (fun hc2 => ?_)
  ·have hc2s := hc2; try simp only [BL] at hc2s
   have hq2 : q.length = 1 := by simp at hc2; omega
   exact Sq <| Rq <| O (As K) <| Nq <| Rx <| R1 rfl (V rfl) rfl (by show bv (true) = bv (fitsB l k q); rw [fits_1 hq2 hi])
  ·have hc2s := hc2; try simp only [BL] at hc2s
   have hq2 : 1 < q.length := by simp at hc2; omega
   have ihh := ih.resolve_left (by omega)
   refine Sk <| Sq <| Sq <| Rq <| O (FlB _ _ (V rfl) Un24 rfl 0 Sz22) <| O (LdB (V rfl) rfl Ga22 (by decide)) <| O (Mv (V rfl)) <| O (Ix (V rfl) (V rfl) ts22 te22 (by omega) (by omega)) <| O (Fl _ _ (V rfl) Un61 rfl 0 Sz3) <| O (Ld (V rfl) Ga3 (by decide)) <| O (As (V rfl)) <| Nq <| Bo <| Lo (fun (p : Int) => ⟨[(2, teRow (q.take (Int.toNat (((q.length : Int)) - 1)))), (3, SV.bp 1 0), (7, SV.bp 2 0), (8, iv (p))], [(1, Own.box 1 (stG l) 24), (2, Own.box 3 (fun zi => (rowG teCell default q) (Int.toNat (((q.length : Int)) - 1)) (0 + zi)) 100)]⟩) (fun (p : Int) => (-1 ≤ p ∧ p < (l.length : Int)) ∧ ((q.getD (Int.toNat ((q.length : Int) - 1)) default).near = true → p = (l.getD (Int.toNat k) default).par) ∧ (parC l (l.getD (Int.toNat k) default).par).any (fitsQ l (q.take (Int.toNat ((q.length : Int) - 1)))) = (parC l p).any (fitsQ l (q.take (Int.toNat ((q.length : Int) - 1))))) (fun (p : Int) => (parC l p).length) ((l.getD (Int.toNat k) default).par) (by show (-1 ≤ ((l.getD (Int.toNat k) default).par) ∧ ((l.getD (Int.toNat k) default).par) < (l.length : Int)) ∧ ((q.getD (Int.toNat ((q.length : Int) - 1)) default).near = true → ((l.getD (Int.toNat k) default).par) = (l.getD (Int.toNat k) default).par) ∧ (parC l (l.getD (Int.toNat k) default).par).any (fitsQ l (q.take (Int.toNat ((q.length : Int) - 1)))) = (parC l ((l.getD (Int.toNat k) default).par)).any (fitsQ l (q.take (Int.toNat ((q.length : Int) - 1)))); exact ⟨(st_n1 hc hk).par, fun _ => rfl, rfl⟩) (We (ow := [(1, Own.box 1 (stG l) 24), (2, Own.box 3 (fun zi => (rowG teCell default q) (Int.toNat (((q.length : Int)) - 1)) (0 + zi)) 100)]) (Vs rfl) (by exact ⟨⟨_, rfl, rfl, rfl, (An rfl)⟩, ⟨_, rfl, rfl, rfl, (An rfl)⟩, Z⟩)) <| ?_
   ·rintro p hI1
    have hJ1 : (-1 ≤ p ∧ p < (l.length : Int)) ∧ ((q.getD (Int.toNat ((q.length : Int) - 1)) default).near = true → p = (l.getD (Int.toNat k) default).par) ∧ (parC l (l.getD (Int.toNat k) default).par).any (fitsQ l (q.take (Int.toNat ((q.length : Int) - 1)))) = (parC l p).any (fitsQ l (q.take (Int.toNat ((q.length : Int) - 1)))) := hI1
    have hpr := hJ1.1
    have hpn := hJ1.2.1
    have hpe := hJ1.2.2
    refine Sq <| Sq <| Rq <| O (Mv (V rfl)) <| O (Ge (V rfl) K) <| Nq <| Cd (V rfl) (fun hc3 => ?_) (fun hc3 => ?_)
    ·have hc3s := hc3; try simp only [BL] at hc3s
     have hp0 : 0 ≤ p ∧ p < (l.length : Int) := by omega
     refine Sk <| Sq <| Bo <| Sq <| Sq <| Rt <| U (LBA (V rfl) rfl Ga24 Sz24 (by decide)) <| U (Mv (V rfl)) <| U (Mv (V rfl)) <| CT en132 (by exact ⟨⟨(Vi (g' := stG l) (V rfl) ⟨Z, Ir⟩), rfl⟩, ⟨(V rfl), rfl⟩, ⟨(V rfl), rfl⟩, Z⟩) (ihh p (q.take (Int.toNat ((q.length : Int) - 1))) (by omega) (by rw [List.length_take]; omega)) <| Nt <| Cd (V rfl) (fun hc4 => ?_) (fun hc4 => ?_)
     ·have hc4s := hc4; try simp only [BL] at hc4s
      exact Sq <| Rq <| O (As K) <| Nq <| Rx <| R1 rfl (V rfl) rfl (by show bv (true) = bv (fitsB l k q); rw [fits_hit hc hq1 hq2 hi hpn hpe hp0 hc4])
     ·have hc4s := hc4; try simp only [BL] at hc4s
      refine Sk <| Sq <| Rq <| O (FlB _ _ (V rfl) Un100 rfl 0 Sz4) <| O (LdB (V rfl) rfl Ga4 (by decide)) <| Nq <| Cd (V rfl) (fun hc5 => ?_) (fun hc5 => ?_)
      ·have hc5s := hc5; try simp only [BL] at hc5s
       exact Ex <| Sq <| Rq <| O (As K) <| Nq <| Rx <| R1 rfl (V rfl) rfl (by show bv (false) = bv (fitsB l k q); rw [fits_brk hq1 hq2 hi hpn hc5 hc4])
      ·have hc5s := hc5; try simp only [BL] at hc5s
       exact Sk <| Rq <| O (FlB _ _ (V rfl) Un24 rfl 0 Sz22) <| O (LdB (V rfl) rfl Ga22 (by decide)) <| O (Mv (V rfl)) <| O (Ix (V rfl) (V rfl) ts22 te22 (by omega) (by omega)) <| O (Fl _ _ (V rfl) Un61 rfl 0 Sz3) <| O (Ld (V rfl) Ga3 (by decide)) <| O (As (V rfl)) <| Nq <| Nx ((l.getD (Int.toNat p) default).par) (by show (-1 ≤ ((l.getD (Int.toNat p) default).par) ∧ ((l.getD (Int.toNat p) default).par) < (l.length : Int)) ∧ ((q.getD (Int.toNat ((q.length : Int) - 1)) default).near = true → ((l.getD (Int.toNat p) default).par) = (l.getD (Int.toNat k) default).par) ∧ (parC l (l.getD (Int.toNat k) default).par).any (fitsQ l (q.take (Int.toNat ((q.length : Int) - 1)))) = (parC l ((l.getD (Int.toNat p) default).par)).any (fitsQ l (q.take (Int.toNat ((q.length : Int) - 1)))); exact ⟨(st_n1 hc hp0).par, fun z => absurd z (ff hc5), hpe.trans (by rw [parC_eq hc hp0, List.any_cons, show fitsQ l (q.take (Int.toNat ((q.length : Int) - 1))) p = false from hc4]; rfl)⟩) (by show (parC l ((l.getD (Int.toNat p) default).par)).length < (parC l p).length; rw [parC_eq hc hp0, List.length_cons]; omega) (We (ow := [(1, Own.box 1 (stG l) 24), (2, Own.box 3 (fun zi => (rowG teCell default q) (Int.toNat (((q.length : Int)) - 1)) (0 + zi)) 100)]) (Vs rfl) (by exact ⟨⟨_, rfl, rfl, rfl, (An rfl)⟩, ⟨_, rfl, rfl, rfl, (An rfl)⟩, Z⟩))
    ·have hc3s := hc3; try simp only [BL] at hc3s
     exact Ex <| Sq <| Rq <| O (As K) <| Nq <| Rx <| R1 rfl (V rfl) rfl (by show bv (false) = bv (fitsB l k q); rw [fits_end hq1 hq2 hi hpn hpe (by omega)])
theorem fitsAll (l : List Nd) (hc : checkSt l = 0) : ∀ n, FitsCt l n
  | 0 => fun k q hk hq => fitsK_ct l 0 hc (.inl rfl) k q hk hq
  | n + 1 => fun k q hk hq => fitsK_ct l (n + 1) hc (.inr (fitsAll l hc n)) k q hk hq
theorem fits_ct (l : List Nd) (k : Int) (q : List Te) (hc : checkSt l = 0) (hk : 0 ≤ k ∧ k < (l.length : Int)) (hq : 0 < q.length) : Ct Try.prog 132 [SV.agg 1 (stG l), iv k, teRow q] (bv (fitsB l k q)) := fitsAll l hc (q.length - 1) k q hk (by omega)
theorem fndK_ct (k : Int) (l : List Nd) (q : List Te) (hc : checkSt l = 0) (hk : 0 ≤ k ∧ k < (l.length : Int)) (hq : 0 < q.length) : Ct Try.prog 133 [iv (k), elB [ndRow l] 0, elB [teRow q] 0] (bv (!fitsB l k q)) := by
 exact CtO 10 Try.func133 rfl rfl rfl fun E => Sq <| Rq <| O (As K) <| Nq <| Sq <| Rq <| O (LdA (V rfl) Ga24 Sz24 (by show 0 + 1 ≤ 1; decide)) <| O (Mv (V rfl)) <| O (Ld (V rfl) Ga87 (by show 0 < 1; decide)) <| CQ en132 (by exact ⟨⟨(Vi (g' := stG l) (V rfl) ⟨Z, Ir⟩), rfl⟩, ⟨(V rfl), rfl⟩, ⟨(V rfl), rfl⟩, Z⟩) (fits_ct l k q (by first | assumption | omega) (by first | assumption | omega) (by first | assumption | omega)) <| O (Qo (V rfl)) <| O (As (V rfl)) <| Nq <| Rx <| R1 rfl (V rfl) rfl (by show bv (!(fitsB l k q)) = bv (!fitsB l k q); rfl)
theorem fit_ct (l : List Nd) (h : Hd) (q : List Te) (hb : ∀ n ∈ l, n.kids.length ≤ 17592186043904) : Ct Try.prog 67 [SV.agg 1 (stG l), SV.agg 2 (hdCell h), teRow q] (sv2 (bv (fitSt l h q).1) (iv (fitSt l h q).2)) := by
 refine CtO 30 Try.func67 rfl rfl rfl fun E => row_lenA 0 (V (s := 0) rfl) rfl rfl fun hl0_0 => Rl (V (s := 2) rfl) fun hl2 => Sq <| Rt <| BxA 1 (V rfl) rfl rfl <| BxA 2 (V rfl) rfl rfl <| U (As K) <| U (As K) <| Nt <| Sq <| Sq <| Rt <| U (LBA (V rfl) rfl Ga24 Sz24 (by decide)) <| U (LBA (V rfl) rfl Ga26 Sz26 (by decide)) <| CT en46 (by exact ⟨⟨(Vi (g' := stG l) (V rfl) ⟨Z, Ir⟩), rfl⟩, ⟨(Vi (g' := hdCell ⟨h.pl, h.use⟩) (V rfl) ⟨⟨Z, Ir⟩, Ir⟩), rfl⟩, Z⟩) (find_ct l h (by first | assumption | exact kb_nil | exact kb_of (by assumption) | exact kb_of fam_c5)) <| U (Mv (V rfl)) <| U (Xt (V rfl) (by decide)) <| U (Xt (V rfl) (by decide)) <| Al 3 zero61 rfl rfl <| StA (V rfl) rfl (V rfl) Sz61 <| U (As (V rfl)) <| Nt <| Sq <| Rq <| O (Mv (V rfl)) <| O (Qn (V rfl) K) <| Nq <| Cd (V rfl) (fun hc1 => ?_) (fun hc1 => ?_)
 ·have hc1s := hc1; try simp only [BL] at hc1s
  exact Sq <| Rq <| O (Mv (V rfl)) <| O (As K) <| O (As (V rfl)) <| Nq <| Rx <| R2 rfl (V rfl) (V rfl) rfl rfl (by show sv2 (bv (false)) (iv ((findSt l h).2)) = sv2 (bv (fitSt l h q).1) (iv (fitSt l h q).2); rw [fit_1 (h := h) (fun z => hc1s ((first_find l h).symm.trans z)), first_find])
 ·have hc1s := hc1; try simp only [BL] at hc1s
  have hf0 : firstSt l [h] = 0 := (first_find l h).trans hc1s
  have hc0 := (first1 hf0).1
  have hpl := (first1 hf0).2.2.1
  have h24 := checkSt_len hc0
  refine Sk <| Sq <| Sq <| Rq <| O (Mv (V rfl)) <| CQ en72 (by exact ⟨⟨(V rfl), rfl⟩, Z⟩) (chkQ_ct q) <| O (As (V rfl)) <| Nq <| Sq <| Rq <| O (Mv (V rfl)) <| O (Qn (V rfl) K) <| Nq <| Cd (V rfl) (fun hc2 => ?_) (fun hc2 => ?_)
  ·have hc2s := hc2; try simp only [BL] at hc2s
   exact Sq <| Rq <| O (Mv (V rfl)) <| O (As K) <| O (As (V rfl)) <| Nq <| Rx <| R2 rfl (V rfl) (V rfl) rfl rfl (by show sv2 (bv (false)) (iv (chkQ q)) = sv2 (bv (fitSt l h q).1) (iv (fitSt l h q).2); rw [fit_2 hf0 hc2s])
  ·have hc2s := hc2; try simp only [BL] at hc2s
   have hql := (chkQ_len hc2s).1
   exact Sk <| Sq <| Rq <| O (LBA (V rfl) rfl Ga24 Sz24 (by decide)) <| O (FlB _ _ (V rfl) Un26 rfl 0 Sz3) <| O (LdB (V rfl) rfl Ga3 (by decide)) <| O (Mv (V rfl)) <| CQ en132 (by exact ⟨⟨(Vi (g' := stG l) (V rfl) ⟨Z, Ir⟩), rfl⟩, ⟨(V rfl), rfl⟩, ⟨(V rfl), rfl⟩, Z⟩) (fits_ct l h.pl q (by first | assumption | omega) (by first | assumption | omega) (by first | assumption | omega)) <| O (As (V rfl)) <| O (As K) <| Nq <| Rx <| R2 rfl (V rfl) (V rfl) rfl rfl (by show sv2 (bv (fitsB l h.pl q)) (iv (0)) = sv2 (bv (fitSt l h q).1) (iv (fitSt l h q).2); rw [fit_3 hf0 hc2s])
theorem isSo_ct (l : List Nd) (k : Int) (q : List Te) (hc : checkSt l = 0) (hk : 0 ≤ k ∧ k < (l.length : Int)) (hq : 0 < q.length ∧ q.length ≤ 6) : Ct Try.prog 134 [SV.agg 1 (stG l), iv (k), teRow q] (bv (fitsB l k q)) := by
 have h24 := checkSt_len hc
 have hcl : (parC l k).length ≤ l.length + 1 := parN_len _ _
 refine CtO 137 Try.func134 rfl rfl rfl fun E => row_lenA 0 (V (s := 0) rfl) rfl rfl fun hl0_0 => Rl (V (s := 2) rfl) fun hl2 => Sq <| Rt <| BxA 1 (V rfl) rfl rfl <| U (As K) <| Nt <| Sq <| Rt <| t_nilO 2 1 (rowG inCell 0 []) 3 (.inl rfl) rfl <| Nt <| Sq <| Sq <| Rq <| O (Mv (V rfl)) <| O (As (V rfl)) <| Nq <| Bo <| c_mv 2 60 rfl rfl <| c_ownE 60 ((([])).reverse) rfl (by rfl) <| Lo (uc2 fun (acc : List Int) (p : Int) => ⟨[(2, teRow q), (3, SV.bp 1 0), (7, SV.own 60), (8, iv (p))], [(1, Own.box 1 (fun zt => SV.renm (mvN 2 60) ((stG l) zt)) 24), (60, ownOf inCell 1 0 acc.reverse 3)]⟩) (uc2 fun (acc : List Int) (p : Int) => (-1 ≤ p ∧ p < (l.length : Int)) ∧ (parC l k) = acc ++ parC l p) (uc2 fun (acc : List Int) (p : Int) => (parC l p).length) ([], k) (by show (-1 ≤ k ∧ k < (l.length : Int)) ∧ (parC l k) = ([]) ++ parC l k; exact ⟨by omega, rfl⟩) (We (ow := [(1, Own.box 1 (fun zt => SV.renm (mvN 2 60) ((stG l) zt)) 24), (60, ownOf inCell 1 0 ((([])).reverse) 3)]) (Vs rfl) (by exact ⟨⟨_, rfl, rfl, rfl, (An rfl)⟩, ⟨_, rfl, rfl⟩, Z⟩)) <| ?_
 ·rintro ⟨acc, p⟩ hI1
  have hJ1 : (-1 ≤ p ∧ p < (l.length : Int)) ∧ (parC l k) = acc ++ parC l p := hI1
  show C _ E _ ⟨[(2, teRow q), (3, SV.bp 1 0), (7, SV.own 60), (8, iv (p))], [(1, Own.box 1 (fun zt => SV.renm (mvN 2 60) ((stG l) zt)) 24), (60, ownOf inCell 1 0 acc.reverse 3)]⟩ _
  have hpr := hJ1.1
  have hpe := hJ1.2
  have hal : acc.length ≤ 25 := by have := congrArg List.length hpe; rw [List.length_append] at this; omega
  refine Sq <| Sq <| Rq <| O (Mv (V rfl)) <| O (Qn (V rfl) K) <| Nq <| Cd (V rfl) (fun hc1 => ?_) (fun hc1 => ?_)
  ·have hc1s := hc1; try simp only [BL] at hc1s
   have hp0 : 0 ≤ p ∧ p < (l.length : Int) := by omega
   exact Sk <| Sq <| Bo <| Rt <| U (Mv (V rfl)) <| t_bsO 3 (n := 1) (zget := fun _ => iv 0) [(fun _ => iv (p))] (rowG inCell 0 [p]) Un33 Sz3 zero3 (by decide) (by decide) rfl (by decide) ⟨⟨rfl, .inr ⟨rfl, (V rfl), rfl⟩, rfl⟩, Z⟩ ⟨Z, ⟨Z, rfl⟩⟩ rfl <| U (Mv (V rfl)) <| FzT 60 rfl <| Ap 4 (rowG inCell 0 (([p]) ++ acc.reverse)) eo33 (V rfl) rfl (V rfl) rfl (len_app ([p]) acc.reverse) (by first | (simp only [maxLen, List.length_append, List.length_set, List.length_nil, List.length_cons]; first | omega | (rw [List.length_reverse]; omega)) | (simp only [maxLen]; first | omega | (rw [List.length_reverse]; omega))) (by first | (simp only [List.length_append, List.length_set, List.length_nil, List.length_cons]; first | omega | (rw [List.length_reverse]; omega)) | (first | omega | (rw [List.length_reverse]; omega))) (app_typed (l := ([p])) (m := acc.reverse)) <| U (As (V rfl)) <| Nt <| Rq <| O (FlB _ _ (V rfl) Un24 rfl 0 Sz22) <| O (LdB (V rfl) rfl Ga22 (by decide)) <| O (Mv (V rfl)) <| O (Ix (V rfl) (V rfl) ts22 te22 (by omega) (by first | omega | (rw [tblF_len]; omega) | (rw [tblR_len]; omega) | (rw [lastB_len]; omega) | (rw [reachB_len]; omega))) <| O (Fl _ _ (V rfl) Un61 rfl 0 Sz3) <| O (Ld (V rfl) Ga3 (by decide)) <| O (As (V rfl)) <| Nq <| k_mv 4 60 rfl rfl <| k_ownE 60 (((acc ++ [p])).reverse) rfl (by rw [List.reverse_append]; rfl) <| Nx (acc ++ [p], (l.getD (Int.toNat p) default).par) (by show (-1 ≤ ((l.getD (Int.toNat p) default).par) ∧ ((l.getD (Int.toNat p) default).par) < (l.length : Int)) ∧ (parC l k) = (acc ++ [p]) ++ parC l ((l.getD (Int.toNat p) default).par); exact ⟨(st_n1 hc hp0).par, by rw [hpe, parC_eq hc hp0, List.append_assoc]; rfl⟩) (by show (parC l ((l.getD (Int.toNat p) default).par)).length < (parC l p).length; rw [parC_eq hc hp0, List.length_cons]; omega) (We (ow := [(1, Own.box 1 (fun zt => SV.renm (mvN 2 60) ((stG l) zt)) 24), (60, ownOf inCell 1 0 (((acc ++ [p])).reverse) 3)]) (Vs rfl) (by exact ⟨⟨_, rfl, rfl, rfl, (An rfl)⟩, ⟨_, rfl, rfl⟩, Z⟩))
  ·have hc1s := hc1; try simp only [BL] at hc1s
   have hac : acc = (parC l k) := by rw [hpe, parC_neg (by omega), List.append_nil]
   refine Ex <| Sq <| c_ownE 60 ((parC l k).reverse) rfl (by rw [hac]) <| Rt <| U (Mv (V rfl)) <| U (Ln (V rfl) ts87) <| Mk2 (cell := boCell) (dd := false) 5 false eo161 zero4 (V rfl) (V rfl) (by omega) ⟨Z, impO_rfl⟩ rfl <| U (As (V rfl)) <| Nt <| Sq <| Rt <| U (Mv (V rfl)) <| U (Ln (V rfl) ts87) <| Mk2 (cell := boCell) (dd := false) 6 false eo161 zero4 (V rfl) (V rfl) (by omega) ⟨Z, impO_rfl⟩ rfl <| U (As (V rfl)) <| Nt <| Sq <| Sq <| FzC 60 rfl <| Rq <| O (Mv (V rfl)) <| O (Ln (V rfl) ts33) <| O (Mv K) <| Nq <| Bo <| c_mv 6 70 rfl rfl <| c_mv 5 71 rfl rfl <| c_ownE 70 (lastB l q (parC l k).reverse 0) rfl (by first | rfl | exact tblF_0 | (exact (reach_nil l q).symm) | exact reach_nil l q) <| c_ownE 71 (reachB l q ((parC l k).reverse.take 0)) rfl (by first | rfl | exact tblF_0 | (exact (reach_nil l q).symm) | exact reach_nil l q) <| Lo (fun (i : Nat) => ⟨[(2, teRow q), (3, SV.bp 1 0), (9, SV.own 71), (10, SV.own 70), (38, inRow ((parC l k).reverse)), (39, iv ((((parC l k).reverse).length : Int))), (40, iv ((i : Int)))], [(1, Own.box 1 (fun zt => SV.renm (mvN 5 71) ((fun zt => SV.renm (mvN 6 70) ((fun zt => SV.renm (mvN 2 60) ((stG l) zt)) zt)) zt)) 24), (70, ownOf boCell 1 false (lastB l q (parC l k).reverse i) 4), (71, ownOf boCell 1 false (reachB l q ((parC l k).reverse.take i)) 4)]⟩) (fun (i : Nat) => i ≤ (parC l k).reverse.length) (fun (i : Nat) => (parC l k).reverse.length - i) 0 (by show 0 ≤ (parC l k).reverse.length; exact Nat.zero_le _) (We (ow := [(1, Own.box 1 (fun zt => SV.renm (mvN 5 71) ((fun zt => SV.renm (mvN 6 70) ((fun zt => SV.renm (mvN 2 60) ((stG l) zt)) zt)) zt)) 24), (70, ownOf boCell 1 false (lastB l q (parC l k).reverse 0) 4), (71, ownOf boCell 1 false (reachB l q ((parC l k).reverse.take 0)) 4)]) (Vs rfl) (by exact ⟨⟨_, rfl, rfl, rfl, (An rfl)⟩, ⟨_, rfl, rfl⟩, ⟨_, rfl, rfl⟩, Z⟩)) <| ?_
   ·rintro i hI2
    have hJ2 : i ≤ (parC l k).reverse.length := hI2
    have hil := hJ2
    have hlb := lastB_len l q (parC l k).reverse i
    have hrb := reachB_len l q ((parC l k).reverse.take i)
    refine Sq <| Rq <| O (Lt (V rfl) (V rfl)) <| Nq <| Sq <| Cd (V rfl) (fun hc2 => ?_) (fun hc2 => ?_)
    ·have hc2s := hc2; try simp only [BL] at hc2s
     have hic : i < (parC l k).length := by rw [List.length_reverse] at *; omega
     have hlp := line_p hc hk.2 hic
     have hpk := hlp.1
     refine Sk <| Sq <| Bo <| Sq <| Rq <| O (IxN (i := i) (V rfl) (V rfl) ts33 te33 (by first | omega | (rw [tblF_len]; omega) | (rw [tblR_len]; omega) | (rw [lastB_len]; omega) | (rw [reachB_len]; omega))) <| O (Ld (V rfl) Ga3 (by decide)) <| O (As (V rfl)) <| Nq <| Sq <| Rt <| U (FlB _ _ (V rfl) Un24 rfl 0 Sz22) <| U (LdB (V rfl) rfl Ga22 (by decide)) <| U (Mv (V rfl)) <| U (Ix (V rfl) (V rfl) ts22 te22 (by omega) (by first | omega | (rw [tblF_len]; omega) | (rw [tblR_len]; omega) | (rw [lastB_len]; omega) | (rw [reachB_len]; omega))) <| U (LdA (V rfl) Ga61 Sz61 (by decide)) <| Al 7 zero61 rfl rfl <| StA (V rfl) rfl (V rfl) Sz61 <| Nt <| Sq <| Rt <| U (Mv (V rfl)) <| U (Ln (V rfl) ts87) <| Mk2 (cell := boCell) (dd := false) 8 false eo161 zero4 (V rfl) (V rfl) (by omega) ⟨Z, impO_rfl⟩ rfl <| U (As (V rfl)) <| Nt <| Sq <| Sq <| Rq <| O (Mv (V rfl)) <| O (Ln (V rfl) ts87) <| O (Mv K) <| Nq <| Bo <| c_mv 8 80 rfl rfl <| c_ownE 80 (tblF l q ((parC l k).reverse.getD i 0) 0) rfl (by exact tblF_0) <| Lo (fun (j : Nat) => ⟨[(2, teRow q), (3, SV.bp 1 0), (9, SV.own 71), (10, SV.own 70), (13, SV.bp 7 0), (14, SV.own 80), (38, inRow ((parC l k).reverse)), (39, iv ((((parC l k).reverse).length : Int))), (40, iv ((i : Int))), (52, teRow q), (53, iv ((q.length : Int))), (54, iv ((j : Int)))], [(1, Own.box 1 (fun zt => SV.renm (mvN 8 80) ((fun zt => SV.renm (mvN 5 71) ((fun zt => SV.renm (mvN 6 70) ((fun zt => SV.renm (mvN 2 60) ((stG l) zt)) zt)) zt)) zt)) 24), (7, Own.box 8 (fun zt => SV.renm (mvN 8 80) ((fun zi => (rowG ndCell default l) (Int.toNat ((((parC l k).reverse).getD i 0))) (0 + zi)) zt)) 61), (70, ownOf boCell 1 false (lastB l q (parC l k).reverse i) 4), (71, ownOf boCell 1 false (reachB l q ((parC l k).reverse.take i)) 4), (80, ownOf boCell 1 false (tblF l q ((parC l k).reverse.getD i 0) j) 4)]⟩) (fun (j : Nat) => j ≤ q.length) (fun (j : Nat) => q.length - j) 0 (by show 0 ≤ q.length; exact Nat.zero_le _) (We (ow := [(1, Own.box 1 (fun zt => SV.renm (mvN 8 80) ((fun zt => SV.renm (mvN 5 71) ((fun zt => SV.renm (mvN 6 70) ((fun zt => SV.renm (mvN 2 60) ((stG l) zt)) zt)) zt)) zt)) 24), (7, Own.box 8 (fun zt => SV.renm (mvN 8 80) ((fun zi => (rowG ndCell default l) (Int.toNat ((((parC l k).reverse).getD i 0))) (0 + zi)) zt)) 61), (70, ownOf boCell 1 false (lastB l q (parC l k).reverse i) 4), (71, ownOf boCell 1 false (reachB l q ((parC l k).reverse.take i)) 4), (80, ownOf boCell 1 false (tblF l q ((parC l k).reverse.getD i 0) 0) 4)]) (Vs rfl) (by exact ⟨⟨_, rfl, rfl, rfl, (An rfl)⟩, ⟨_, rfl, rfl, rfl, (An rfl)⟩, ⟨_, rfl, rfl⟩, ⟨_, rfl, rfl⟩, ⟨_, rfl, rfl⟩, Z⟩)) <| ?_
     ·rintro j hI3
      have hJ3 : j ≤ q.length := hI3
      have hjl := hJ3
      have htf : (tblF l q ((parC l k).reverse.getD i 0) j).length = q.length := tblF_len
      refine Sq <| Rq <| O (Lt (V rfl) (V rfl)) <| Nq <| Sq <| Cd (V rfl) (fun hc3 => ?_) (fun hc3 => ?_)
      ·have hc3s := hc3; try simp only [BL] at hc3s
       refine Sk <| Sq <| Bo <| Sq <| Rt <| U (Mv (V rfl)) <| U (IxN (i := j) (V rfl) (V rfl) ts87 te87 (by first | omega | (rw [tblF_len]; omega) | (rw [tblR_len]; omega) | (rw [lastB_len]; omega) | (rw [reachB_len]; omega))) <| U (LdA (V rfl) Ga100 Sz100 (by decide)) <| Al 9 zero100 rfl rfl <| U (As (V rfl)) <| StA (V rfl) rfl (V rfl) Sz100 <| Nt <| Sq <| Rq <| O (FlB _ _ (V rfl) Un100 rfl 0 Sz3) <| O (LdB (V rfl) rfl Ga3 (by decide)) <| O (Ql (V rfl) K) <| O (Mv (V rfl)) <| Og (Gn rfl rfl) (fun hg => FlB _ _ (V rfl) Un100 rfl 0 Sz3) <| Og (Gn rfl rfl) (fun hg => LdB (Vg (V rfl) hg) rfl Ga3 (by decide)) <| Og (Gn rfl rfl) (fun hg => FlB _ _ (V rfl) Un61 rfl 0 Sz3) <| Og (Gn rfl rfl) (fun hg => LdB (Vg (V rfl) hg) rfl Ga3 (by decide)) <| Og (Gn rfl rfl) (fun hg => Ql (Vg (V rfl) hg) (Vg (V rfl) hg)) <| O (Qr (V rfl) (fun h => Vg (V rfl) (notT h))) <| O (Mv (V rfl)) <| Og (Gy rfl rfl) (fun hg => FlB _ _ (V rfl) Un100 rfl 0 Sz3) <| Og (Gy rfl rfl) (fun hg => LdB (Vg (V rfl) hg) rfl Ga3 (by decide)) <| Og (Gy rfl rfl) (fun hg => Ql (Vg (V rfl) hg) K) <| Og (Gy rfl rfl) (fun hg => Mv (Vg (V rfl) hg)) <| Og (Gyn rfl rfl) (fun hg => FlB _ _ (V rfl) Un100 rfl 0 Sz3) <| Og (Gyn rfl rfl) (fun hg => LdB (Vg (V rfl) hg) rfl Ga3 (by decide)) <| Og (Gyn rfl rfl) (fun hg => FlB _ _ (V rfl) Un61 rfl 0 Sz3) <| Og (Gyn rfl rfl) (fun hg => LdB (Vg (V rfl) hg) rfl Ga3 (by decide)) <| Og (Gyn rfl rfl) (fun hg => Ql (Vg (V rfl) hg) (Vg (V rfl) hg)) <| Og (Gy rfl rfl) (fun hg => Qr (Vg (V rfl) hg) (fun h => Vg (V rfl) (andI hg (notT h)))) <| O (Qa (V rfl) (fun h => Vg (V rfl) h)) <| O (As (V rfl)) <| Nq <| Sq <| Sq <| ?_
       refine Rq <| O (Mv (V rfl)) <| O (Gt (V rfl) K) <| O (Mv (V rfl)) <| Og (Gy rfl rfl) (fun hg => FlB _ _ (V rfl) Un100 rfl 0 Sz4) <| Og (Gy rfl rfl) (fun hg => LdB (Vg (V rfl) hg) rfl Ga4 (by decide)) <| O (Qa (V rfl) (fun h => Vg (V rfl) h)) <| Nq <| Cd (V rfl) (fun hc4 => ?_) (fun hc4 => ?_)
       ·have hc4s := hc4; try simp only [BL] at hc4s
        refine Rq <| O (Mv (V rfl)) <| O (Mv (V rfl)) <| Og (Gy rfl rfl) (fun hg => Mv (V rfl)) <| Og (Gy rfl rfl) (fun hg => Mv (V rfl)) <| Og (Gy rfl rfl) (fun hg => Sb (Vg (V rfl) hg) K (by omega)) <| Og (Gy rfl rfl) (fun hg => IxO (Vg (V rfl) hg) rfl (Vg (V rfl) hg) ts161 te161 (by omega) (by first | omega | (rw [tblF_len]; omega) | (rw [tblR_len]; omega) | (rw [lastB_len]; omega) | (rw [reachB_len]; omega))) <| Og (Gy rfl rfl) (fun hg => LdO (Vg (V rfl) hg) rfl Ga4 (by decide)) <| O (Qa (V rfl) (fun h => Vg (V rfl) h)) <| O (As (V rfl)) <| Nq <| Rt <| U (Mv (V rfl)) <| U (Mv (V rfl)) <| U (Mv (V rfl)) <| U (IOn (i := j) (V rfl) rfl (V rfl) ts161 te161 (by first | omega | (rw [tblF_len]; omega) | (rw [tblR_len]; omega) | (rw [lastB_len]; omega) | (rw [reachB_len]; omega))) <| ?_
        have hidx0 : j < (tblF l q ((parC l k).reverse.getD i 0) j).length := by first | omega | (rw [tblF_len]; omega) | (rw [tblR_len]; omega)
        refine StO (rowG boCell false ((tblF l q ((parC l k).reverse.getD i 0) j).set j ((((decide ((q.getD j default).tag = (-1000001))) || (decide ((q.getD j default).tag = (l.getD (Int.toNat ((((parC l k).reverse).getD i 0))) default).tag))) && ((decide ((q.getD j default).mark = (-1000001))) || (decide ((q.getD j default).mark = (l.getD (Int.toNat ((((parC l k).reverse).getD i 0))) default).mark)))) && (((lastB l q (parC l k).reverse i).getD (Int.toNat (((j : Int)) - 1)) false))))) (V rfl) rfl (V rfl) rfl rfl Sz4 (by decide) (show (tblF l q ((parC l k).reverse.getD i 0) j).length = ((tblF l q ((parC l k).reverse.getD i 0) j).set j ((((decide ((q.getD j default).tag = (-1000001))) || (decide ((q.getD j default).tag = (l.getD (Int.toNat ((((parC l k).reverse).getD i 0))) default).tag))) && ((decide ((q.getD j default).mark = (-1000001))) || (decide ((q.getD j default).mark = (l.getD (Int.toNat ((((parC l k).reverse).getD i 0))) default).mark)))) && (((lastB l q (parC l k).reverse i).getD (Int.toNat (((j : Int)) - 1)) false)))).length from List.length_set.symm) (set_at hidx0 rfl) (set_typed hidx0 fun t ht hne => match t, ht, hne with | 0, _, hne => absurd rfl hne) <| Nt <| Rq <| O (Ad (V rfl) K (by omega)) <| O (Mv (V rfl)) <| Nq <| k_ownE 80 (tblF l q ((parC l k).reverse.getD i 0) ((j + 1))) rfl (by exact tblF_s (tb_n hc hk.2 hic (by omega) hc4)) <| Nx (j + 1) (by show (j + 1) ≤ q.length; first | omega | (simp; done) | (refine ⟨?_, ?_⟩ <;> first | omega | (simp; done))) (by show q.length - (j + 1) < q.length - j; omega) (We (ow := [(1, Own.box 1 (fun zt => SV.renm (mvN 8 80) ((fun zt => SV.renm (mvN 5 71) ((fun zt => SV.renm (mvN 6 70) ((fun zt => SV.renm (mvN 2 60) ((stG l) zt)) zt)) zt)) zt)) 24), (7, Own.box 8 (fun zt => SV.renm (mvN 8 80) ((fun zi => (rowG ndCell default l) (Int.toNat ((((parC l k).reverse).getD i 0))) (0 + zi)) zt)) 61), (70, ownOf boCell 1 false (lastB l q (parC l k).reverse i) 4), (71, ownOf boCell 1 false (reachB l q ((parC l k).reverse.take i)) 4), (80, ownOf boCell 1 false (tblF l q ((parC l k).reverse.getD i 0) ((j + 1))) 4)]) (Vs rfl) (by exact ⟨⟨_, rfl, rfl, rfl, (An rfl)⟩, ⟨_, rfl, rfl, rfl, (An rfl)⟩, ⟨_, rfl, rfl⟩, ⟨_, rfl, rfl⟩, ⟨_, rfl, rfl⟩, Z⟩))
       ·have hc4s := hc4; try simp only [BL] at hc4s
        refine Sq <| Rq <| O (Mv (V rfl)) <| O (Gt (V rfl) K) <| Nq <| Cd (V rfl) (fun hc5 => ?_) (fun hc5 => ?_)
        ·have hc5s := hc5; try simp only [BL] at hc5s
         refine Rq <| O (Mv (V rfl)) <| O (Mv (V rfl)) <| Og (Gy rfl rfl) (fun hg => Mv (V rfl)) <| Og (Gy rfl rfl) (fun hg => Mv (V rfl)) <| Og (Gy rfl rfl) (fun hg => Sb (Vg (V rfl) hg) K (by omega)) <| Og (Gy rfl rfl) (fun hg => IxO (Vg (V rfl) hg) rfl (Vg (V rfl) hg) ts161 te161 (by omega) (by first | omega | (rw [tblF_len]; omega) | (rw [tblR_len]; omega) | (rw [lastB_len]; omega) | (rw [reachB_len]; omega))) <| Og (Gy rfl rfl) (fun hg => LdO (Vg (V rfl) hg) rfl Ga4 (by decide)) <| O (Qa (V rfl) (fun h => Vg (V rfl) h)) <| O (As (V rfl)) <| Nq <| Rt <| U (Mv (V rfl)) <| U (Mv (V rfl)) <| U (Mv (V rfl)) <| U (IOn (i := j) (V rfl) rfl (V rfl) ts161 te161 (by first | omega | (rw [tblF_len]; omega) | (rw [tblR_len]; omega) | (rw [lastB_len]; omega) | (rw [reachB_len]; omega))) <| ?_
         have hidx1 : j < (tblF l q ((parC l k).reverse.getD i 0) j).length := by first | omega | (rw [tblF_len]; omega) | (rw [tblR_len]; omega)
         refine StO (rowG boCell false ((tblF l q ((parC l k).reverse.getD i 0) j).set j ((((decide ((q.getD j default).tag = (-1000001))) || (decide ((q.getD j default).tag = (l.getD (Int.toNat ((((parC l k).reverse).getD i 0))) default).tag))) && ((decide ((q.getD j default).mark = (-1000001))) || (decide ((q.getD j default).mark = (l.getD (Int.toNat ((((parC l k).reverse).getD i 0))) default).mark)))) && (((reachB l q ((parC l k).reverse.take i)).getD (Int.toNat (((j : Int)) - 1)) false))))) (V rfl) rfl (V rfl) rfl rfl Sz4 (by decide) (show (tblF l q ((parC l k).reverse.getD i 0) j).length = ((tblF l q ((parC l k).reverse.getD i 0) j).set j ((((decide ((q.getD j default).tag = (-1000001))) || (decide ((q.getD j default).tag = (l.getD (Int.toNat ((((parC l k).reverse).getD i 0))) default).tag))) && ((decide ((q.getD j default).mark = (-1000001))) || (decide ((q.getD j default).mark = (l.getD (Int.toNat ((((parC l k).reverse).getD i 0))) default).mark)))) && (((reachB l q ((parC l k).reverse.take i)).getD (Int.toNat (((j : Int)) - 1)) false)))).length from List.length_set.symm) (set_at hidx1 rfl) (set_typed hidx1 fun t ht hne => match t, ht, hne with | 0, _, hne => absurd rfl hne) <| Nt <| Rq <| O (Ad (V rfl) K (by omega)) <| O (Mv (V rfl)) <| Nq <| k_ownE 80 (tblF l q ((parC l k).reverse.getD i 0) ((j + 1))) rfl (by exact tblF_s (tb_a hc hk.2 hic (by omega) hc4 hc5)) <| Nx (j + 1) (by show (j + 1) ≤ q.length; first | omega | (simp; done) | (refine ⟨?_, ?_⟩ <;> first | omega | (simp; done))) (by show q.length - (j + 1) < q.length - j; omega) (We (ow := [(1, Own.box 1 (fun zt => SV.renm (mvN 8 80) ((fun zt => SV.renm (mvN 5 71) ((fun zt => SV.renm (mvN 6 70) ((fun zt => SV.renm (mvN 2 60) ((stG l) zt)) zt)) zt)) zt)) 24), (7, Own.box 8 (fun zt => SV.renm (mvN 8 80) ((fun zi => (rowG ndCell default l) (Int.toNat ((((parC l k).reverse).getD i 0))) (0 + zi)) zt)) 61), (70, ownOf boCell 1 false (lastB l q (parC l k).reverse i) 4), (71, ownOf boCell 1 false (reachB l q ((parC l k).reverse.take i)) 4), (80, ownOf boCell 1 false (tblF l q ((parC l k).reverse.getD i 0) ((j + 1))) 4)]) (Vs rfl) (by exact ⟨⟨_, rfl, rfl, rfl, (An rfl)⟩, ⟨_, rfl, rfl, rfl, (An rfl)⟩, ⟨_, rfl, rfl⟩, ⟨_, rfl, rfl⟩, ⟨_, rfl, rfl⟩, Z⟩))
        ·have hc5s := hc5; try simp only [BL] at hc5s
         refine Sk <| Rt <| U (Mv (V rfl)) <| U (Mv (V rfl)) <| U (Mv (V rfl)) <| U (IOn (i := j) (V rfl) rfl (V rfl) ts161 te161 (by first | omega | (rw [tblF_len]; omega) | (rw [tblR_len]; omega) | (rw [lastB_len]; omega) | (rw [reachB_len]; omega))) <| ?_
         have hidx2 : j < (tblF l q ((parC l k).reverse.getD i 0) j).length := by first | omega | (rw [tblF_len]; omega) | (rw [tblR_len]; omega)
         refine StO (rowG boCell false ((tblF l q ((parC l k).reverse.getD i 0) j).set j (((decide ((q.getD j default).tag = (-1000001))) || (decide ((q.getD j default).tag = (l.getD (Int.toNat ((((parC l k).reverse).getD i 0))) default).tag))) && ((decide ((q.getD j default).mark = (-1000001))) || (decide ((q.getD j default).mark = (l.getD (Int.toNat ((((parC l k).reverse).getD i 0))) default).mark)))))) (V rfl) rfl (V rfl) rfl rfl Sz4 (by decide) (show (tblF l q ((parC l k).reverse.getD i 0) j).length = ((tblF l q ((parC l k).reverse.getD i 0) j).set j (((decide ((q.getD j default).tag = (-1000001))) || (decide ((q.getD j default).tag = (l.getD (Int.toNat ((((parC l k).reverse).getD i 0))) default).tag))) && ((decide ((q.getD j default).mark = (-1000001))) || (decide ((q.getD j default).mark = (l.getD (Int.toNat ((((parC l k).reverse).getD i 0))) default).mark))))).length from List.length_set.symm) (set_at hidx2 rfl) (set_typed hidx2 fun t ht hne => match t, ht, hne with | 0, _, hne => absurd rfl hne) <| Nt <| Rq <| O (Ad (V rfl) K (by omega)) <| O (Mv (V rfl)) <| Nq <| k_ownE 80 (tblF l q ((parC l k).reverse.getD i 0) ((j + 1))) rfl (by exact tblF_s (tb_0 (by omega) hc5)) <| Nx (j + 1) (by show (j + 1) ≤ q.length; first | omega | (simp; done) | (refine ⟨?_, ?_⟩ <;> first | omega | (simp; done))) (by show q.length - (j + 1) < q.length - j; omega) (We (ow := [(1, Own.box 1 (fun zt => SV.renm (mvN 8 80) ((fun zt => SV.renm (mvN 5 71) ((fun zt => SV.renm (mvN 6 70) ((fun zt => SV.renm (mvN 2 60) ((stG l) zt)) zt)) zt)) zt)) 24), (7, Own.box 8 (fun zt => SV.renm (mvN 8 80) ((fun zi => (rowG ndCell default l) (Int.toNat ((((parC l k).reverse).getD i 0))) (0 + zi)) zt)) 61), (70, ownOf boCell 1 false (lastB l q (parC l k).reverse i) 4), (71, ownOf boCell 1 false (reachB l q ((parC l k).reverse.take i)) 4), (80, ownOf boCell 1 false (tblF l q ((parC l k).reverse.getD i 0) ((j + 1))) 4)]) (Vs rfl) (by exact ⟨⟨_, rfl, rfl, rfl, (An rfl)⟩, ⟨_, rfl, rfl, rfl, (An rfl)⟩, ⟨_, rfl, rfl⟩, ⟨_, rfl, rfl⟩, ⟨_, rfl, rfl⟩, Z⟩))
      ·have hc3s := hc3; try simp only [BL] at hc3s
       refine Ex <| Sq <| Rq <| O (Mv (V rfl)) <| O (As (V rfl)) <| Nq <| Sq <| Rq <| O (Mv (V rfl)) <| O (LnO (V rfl) rfl ts161) <| O (Mv K) <| Nq <| Bo <| c_ownE 71 (tblR l q ((parC l k).reverse.take i) ((parC l k).reverse.getD i 0) 0) rfl (by exact tblR_0) <| Lo (fun (m : Nat) => ⟨[(2, teRow q), (3, SV.bp 1 0), (9, SV.own 71), (10, SV.own 80), (14, SV.own 80), (38, inRow ((parC l k).reverse)), (39, iv ((((parC l k).reverse).length : Int))), (40, iv ((i : Int))), (112, iv (((tblF l q ((parC l k).reverse.getD i 0) j).length : Int))), (113, iv ((m : Int)))], [(1, Own.box 1 (fun zt => SV.renm (mvN 8 80) ((fun zt => SV.renm (mvN 5 71) ((fun zt => SV.renm (mvN 6 70) ((fun zt => SV.renm (mvN 2 60) ((stG l) zt)) zt)) zt)) zt)) 24), (71, ownOf boCell 1 false (tblR l q ((parC l k).reverse.take i) ((parC l k).reverse.getD i 0) m) 4), (80, ownOf boCell 1 false (tblF l q ((parC l k).reverse.getD i 0) j) 4)]⟩) (fun (m : Nat) => m ≤ q.length) (fun (m : Nat) => q.length - m) 0 (by show 0 ≤ q.length; exact Nat.zero_le _) (We (ow := [(1, Own.box 1 (fun zt => SV.renm (mvN 8 80) ((fun zt => SV.renm (mvN 5 71) ((fun zt => SV.renm (mvN 6 70) ((fun zt => SV.renm (mvN 2 60) ((stG l) zt)) zt)) zt)) zt)) 24), (71, ownOf boCell 1 false (tblR l q ((parC l k).reverse.take i) ((parC l k).reverse.getD i 0) 0) 4), (80, ownOf boCell 1 false (tblF l q ((parC l k).reverse.getD i 0) j) 4)]) (Vs rfl) (by exact ⟨⟨_, rfl, rfl, rfl, (An rfl)⟩, ⟨_, rfl, rfl⟩, ⟨_, rfl, rfl⟩, Z⟩)) <| ?_
       ·rintro m hI4
        have hJ4 : m ≤ q.length := hI4
        have hml := hJ4
        have htr : (tblR l q ((parC l k).reverse.take i) ((parC l k).reverse.getD i 0) m).length = q.length := tblR_len
        refine Sq <| Rq <| O (Lt (V rfl) (V rfl)) <| Nq <| Sq <| Cd (V rfl) (fun hc6 => ?_) (fun hc6 => ?_)
        ·have hc6s := hc6; try simp only [BL] at hc6s
         refine Sk <| Sq <| Bo <| Sq <| Rq <| O (Mv (V rfl)) <| O (As (V rfl)) <| Nq <| Rt <| U (Mv (V rfl)) <| U (Mv (V rfl)) <| U (Mv (V rfl)) <| U (Mv (V rfl)) <| U (IOn (i := m) (V rfl) rfl (V rfl) ts161 te161 (by first | omega | (rw [tblF_len]; omega) | (rw [tblR_len]; omega) | (rw [lastB_len]; omega) | (rw [reachB_len]; omega))) <| U (LdO (V rfl) rfl Ga4 (by decide)) <| U (Mv (V rfl)) <| Ug (Gn rfl rfl) (fun hg => Mv (V rfl)) <| Ug (Gn rfl rfl) (fun hg => Mv (V rfl)) <| Ug (Gn rfl rfl) (fun hg => IOn (i := m) (Vg (V rfl) hg) rfl (Vg (V rfl) hg) ts161 te161 (by first | omega | (rw [tblF_len]; omega) | (rw [tblR_len]; omega) | (rw [lastB_len]; omega) | (rw [reachB_len]; omega))) <| Ug (Gn rfl rfl) (fun hg => LdO (Vg (V rfl) hg) rfl Ga4 (by decide)) <| U (Qr (V rfl) (fun h => Vg (V rfl) (notT h))) <| U (IOn (i := m) (V rfl) rfl (V rfl) ts161 te161 (by first | omega | (rw [tblF_len]; omega) | (rw [tblR_len]; omega) | (rw [lastB_len]; omega) | (rw [reachB_len]; omega))) <| ?_
         have hidx3 : m < (tblR l q ((parC l k).reverse.take i) ((parC l k).reverse.getD i 0) m).length := by first | omega | (rw [tblF_len]; omega) | (rw [tblR_len]; omega)
         refine StO (rowG boCell false ((tblR l q ((parC l k).reverse.take i) ((parC l k).reverse.getD i 0) m).set m ((((tblR l q ((parC l k).reverse.take i) ((parC l k).reverse.getD i 0) m).getD m false)) || (((tblF l q ((parC l k).reverse.getD i 0) j).getD m false))))) (V rfl) rfl (V rfl) rfl rfl Sz4 (by decide) (show (tblR l q ((parC l k).reverse.take i) ((parC l k).reverse.getD i 0) m).length = ((tblR l q ((parC l k).reverse.take i) ((parC l k).reverse.getD i 0) m).set m ((((tblR l q ((parC l k).reverse.take i) ((parC l k).reverse.getD i 0) m).getD m false)) || (((tblF l q ((parC l k).reverse.getD i 0) j).getD m false)))).length from List.length_set.symm) (set_at hidx3 rfl) (set_typed hidx3 fun t ht hne => match t, ht, hne with | 0, _, hne => absurd rfl hne) <| Nt <| Rq <| O (Ad (V rfl) K (by omega)) <| O (Mv (V rfl)) <| Nq <| k_ownE 71 (tblR l q ((parC l k).reverse.take i) ((parC l k).reverse.getD i 0) ((m + 1))) rfl (by exact tblR_s (by rw [tblR_at (by omega), tblF_e (by omega), rowB_at (by omega)])) <| Nx (m + 1) (by show (m + 1) ≤ q.length; first | omega | (simp; done) | (refine ⟨?_, ?_⟩ <;> first | omega | (simp; done))) (by show q.length - (m + 1) < q.length - m; omega) (We (ow := [(1, Own.box 1 (fun zt => SV.renm (mvN 8 80) ((fun zt => SV.renm (mvN 5 71) ((fun zt => SV.renm (mvN 6 70) ((fun zt => SV.renm (mvN 2 60) ((stG l) zt)) zt)) zt)) zt)) 24), (71, ownOf boCell 1 false (tblR l q ((parC l k).reverse.take i) ((parC l k).reverse.getD i 0) ((m + 1))) 4), (80, ownOf boCell 1 false (tblF l q ((parC l k).reverse.getD i 0) j) 4)]) (Vs rfl) (by exact ⟨⟨_, rfl, rfl, rfl, (An rfl)⟩, ⟨_, rfl, rfl⟩, ⟨_, rfl, rfl⟩, Z⟩))
        ·have hc6s := hc6; try simp only [BL] at hc6s
         refine Ex <| Rq <| O (Ad (V rfl) K (by omega)) <| O (Mv (V rfl)) <| Nq <| k_mv 80 70 rfl rfl <| k_ownE 70 (lastB l q (parC l k).reverse ((i + 1))) rfl (by rw [tblF_e (by omega), lastB, if_neg (by omega)]; rfl) <| k_ownE 71 (reachB l q ((parC l k).reverse.take ((i + 1)))) rfl (by rw [tblR_e (by omega), take_s 0 (by omega)]) <| Nx (i + 1) (by show (i + 1) ≤ (parC l k).reverse.length; first | omega | (simp; done) | (refine ⟨?_, ?_⟩ <;> first | omega | (simp; done))) (by show (parC l k).reverse.length - (i + 1) < (parC l k).reverse.length - i; omega) (We (ow := [(1, Own.box 1 (fun zt => SV.renm (mvN 5 71) ((fun zt => SV.renm (mvN 6 70) ((fun zt => SV.renm (mvN 2 60) ((stG l) zt)) zt)) zt)) 24), (70, ownOf boCell 1 false (lastB l q (parC l k).reverse ((i + 1))) 4), (71, ownOf boCell 1 false (reachB l q ((parC l k).reverse.take ((i + 1)))) 4)]) (Vs rfl) (by exact ⟨⟨_, rfl, rfl, rfl, (An rfl)⟩, ⟨_, rfl, rfl⟩, ⟨_, rfl, rfl⟩, Z⟩))
    ·have hc2s := hc2; try simp only [BL] at hc2s
     exact Ex <| Sq <| Rq <| O (Mv (V rfl)) <| O (Mv (V rfl)) <| O (Ln (V rfl) ts87) <| O (Sb (V rfl) K (by omega)) <| O (IxO (V rfl) rfl (V rfl) ts161 te161 (by omega) (by first | omega | (rw [tblF_len]; omega) | (rw [tblR_len]; omega) | (rw [lastB_len]; omega) | (rw [reachB_len]; omega))) <| O (LdO (V rfl) rfl Ga4 (by decide)) <| O (As (V rfl)) <| Nq <| Rx <| R1 rfl (V rfl) rfl (by show bv (((lastB l q (parC l k).reverse i).getD (Int.toNat (((q.length : Int)) - 1)) false)) = bv (fitsB l k q); rw [show i = (parC l k).length by rw [List.length_reverse] at *; omega, show Int.toNat ((q.length : Int) - 1) = q.length - 1 by omega, last_end hc hk hq.1])
theorem fitR_ct (l : List Nd) (h : Hd) (q : List Te) (hb : ∀ n ∈ l, n.kids.length ≤ 17592186043904) : Ct Try.prog 69 [SV.agg 1 (stG l), SV.agg 2 (hdCell h), teRow q] (sv2 (bv (fitSt l h q).1) (iv (fitSt l h q).2)) := by
 refine CtO 27 Try.func69 rfl rfl rfl fun E => row_lenA 0 (V (s := 0) rfl) rfl rfl fun hl0_0 => Rl (V (s := 2) rfl) fun hl2 => Sq <| Rt <| BxA 1 (V rfl) rfl rfl <| BxA 2 (V rfl) rfl rfl <| U (As K) <| U (As K) <| Nt <| Sq <| Rt <| U (LBA (V rfl) rfl Ga24 Sz24 (by decide)) <| U (LBA (V rfl) rfl Ga26 Sz26 (by decide)) <| Uw (w_bs (n := 1) (zget := cmpG [iv (0), iv (0)]) [(fun zi => (hdCell h) (0 + zi))] (rowG hdCell default [h]) Un80 Sz26 zero26 (by decide) rfl (by decide) ⟨⟨rfl, .inl (V rfl), rfl⟩, Z⟩ ⟨Z, ⟨⟨Z, rfl⟩, rfl⟩⟩) <| CT en100 (by exact ⟨⟨(Vi (g' := stG l) (V rfl) ⟨Z, Ir⟩), rfl⟩, ⟨(V rfl), rfl⟩, Z⟩) (first_ct l ([h]) (by first | assumption | exact kb_nil | exact kb_of (by assumption) | exact kb_of fam_c5)) <| U (As (V rfl)) <| Nt <| Sq <| Sq <| Rq <| O (Mv (V rfl)) <| O (Ql (V rfl) K) <| Nq <| Cd (V rfl) (fun hc1 => ?_) (fun hc1 => ?_)
 ·have hc1s := hc1; try simp only [BL] at hc1s
  have hf1 := first1 (h := h) hc1s
  have hc0 := hf1.1
  have hpl := hf1.2.2.1
  exact Rq <| O (Mv (V rfl)) <| CQ en73 (by exact ⟨⟨(V rfl), rfl⟩, Z⟩) (rchkQ_ct q) <| O (As (V rfl)) <| Nq <| Sq <| Rq <| O (Mv (V rfl)) <| O (Ql (V rfl) K) <| O (Mv (V rfl)) <| Og (Gy rfl rfl) (fun hg => LBA (V rfl) rfl Ga24 Sz24 (by decide)) <| Og (Gy rfl rfl) (fun hg => FlB _ _ (V rfl) Un26 rfl 0 Sz3) <| Og (Gy rfl rfl) (fun hg => LdB (Vg (V rfl) hg) rfl Ga3 (by decide)) <| Og (Gy rfl rfl) (fun hg => Mv (V rfl)) <| CQg (Gy rfl rfl) en134 (fun hg => (by exact ⟨⟨(Vi (g' := stG l) (Vg (V rfl) hg) ⟨Z, Ir⟩), rfl⟩, ⟨(Vg (V rfl) hg), rfl⟩, ⟨(Vg (V rfl) hg), rfl⟩, Z⟩)) (fun hg => isSo_ct l h.pl q (by first | assumption | exact absurd (of_decide_eq_true hg) hc1s) (by first | assumption | omega | exact absurd (of_decide_eq_true hg) hc1s) (by first | assumption | exact chkQ_len (by assumption) | exact chkQ_len (of_decide_eq_true hg) | exact absurd (of_decide_eq_true hg) hc1s)) <| O (Qa (V rfl) (fun h => Vg (V rfl) h)) <| O (Mv (V rfl)) <| O (As (V rfl)) <| O (As (V rfl)) <| Nq <| Rx <| R2 rfl (V rfl) (V rfl) rfl rfl (by show sv2 (bv ((decide (chkQ q = 0)) && (fitsB l h.pl q))) (iv (chkQ q)) = sv2 (bv (fitSt l h q).1) (iv (fitSt l h q).2); rw [fit_j hc1s])
 ·have hc1s := hc1; try simp only [BL] at hc1s
  exact Sk <| Sq <| Rq <| O (Mv (V rfl)) <| O (Ql (V rfl) K) <| O (Mv (V rfl)) <| Og (Gy rfl rfl) (fun hg => LBA (V rfl) rfl Ga24 Sz24 (by decide)) <| Og (Gy rfl rfl) (fun hg => FlB _ _ (V rfl) Un26 rfl 0 Sz3) <| Og (Gy rfl rfl) (fun hg => LdB (Vg (V rfl) hg) rfl Ga3 (by decide)) <| Og (Gy rfl rfl) (fun hg => Mv (V rfl)) <| CQg (Gy rfl rfl) en134 (fun hg => (by exact ⟨⟨(Vi (g' := stG l) (Vg (V rfl) hg) ⟨Z, Ir⟩), rfl⟩, ⟨(Vg (V rfl) hg), rfl⟩, ⟨(Vg (V rfl) hg), rfl⟩, Z⟩)) (fun hg => isSo_ct l h.pl q (by first | assumption | exact absurd (of_decide_eq_true hg) hc1s) (by first | assumption | omega | exact absurd (of_decide_eq_true hg) hc1s) (by first | assumption | exact chkQ_len (by assumption) | exact chkQ_len (of_decide_eq_true hg) | exact absurd (of_decide_eq_true hg) hc1s)) <| O (Qa (V rfl) (fun h => Vg (V rfl) h)) <| O (Mv (V rfl)) <| O (As (V rfl)) <| O (As (V rfl)) <| Nq <| Rx <| R2 rfl (V rfl) (V rfl) rfl rfl (by show sv2 (bv ((decide (firstSt l ([h]) = 0)) && (fitsB l h.pl q))) (iv (firstSt l ([h]))) = sv2 (bv (fitSt l h q).1) (iv (fitSt l h q).2); rw [fit_k hc1s (fitsB l h.pl q)])
theorem fndR_ct (l : List Nd) (h : Hd) (q : List Te) (hb : ∀ n ∈ l, n.kids.length ≤ 17592186043904) : Ct Try.prog 70 [SV.agg 1 (stG l), SV.agg 2 (hdCell h), teRow q] (sv2 (inRow (fndSt l h q).1) (iv (fndSt l h q).2)) := by
 refine CtO 43 Try.func70 rfl rfl rfl fun E => row_lenA 0 (V (s := 0) rfl) rfl rfl fun hl0_0 => Rl (V (s := 2) rfl) fun hl2 => Sq <| Rt <| BxA 1 (V rfl) rfl rfl <| BxA 2 (V rfl) rfl rfl <| U (As (Vn (k := 1) (get := rowG inCell 0 []))) <| U (As K) <| Nt <| Sq <| Rt <| U (LBA (V rfl) rfl Ga24 Sz24 (by decide)) <| U (LBA (V rfl) rfl Ga26 Sz26 (by decide)) <| CT en66 (by exact ⟨⟨(Vi (g' := stG l) (V rfl) ⟨Z, Ir⟩), rfl⟩, ⟨(Vi (g' := hdCell ⟨h.pl, h.use⟩) (V rfl) ⟨⟨Z, Ir⟩, Ir⟩), rfl⟩, Z⟩) (ordered_ct l h (by first | assumption | exact kb_nil | exact kb_of (by assumption) | exact kb_of fam_c5)) <| U (Mv (V rfl)) <| U (Xt (V rfl) (by decide)) <| U (Xt (V rfl) (by decide)) <| U (As (V rfl)) <| U (As (V rfl)) <| Nt <| Sq <| Sq <| Rq <| O (Mv (V rfl)) <| O (Ql (V rfl) K) <| Nq <| Cd (V rfl) (fun hc1 => ?_) (fun hc1 => ?_)
 ·have hc1s := hc1; try simp only [BL] at hc1s
  have hto := to_3 hc1s
  have h24 := to_len hc1s
  refine Rq <| O (Mv (V rfl)) <| CQ en73 (by exact ⟨⟨(V rfl), rfl⟩, Z⟩) (rchkQ_ct q) <| O (As (V rfl)) <| Nq <| Sq <| Sq <| Rq <| O (Mv (V rfl)) <| O (Qn (V rfl) K) <| Nq <| Cd (V rfl) (fun hc2 => ?_) (fun hc2 => ?_)
  ·have hc2s := hc2; try simp only [BL] at hc2s
   exact Sq <| Rq <| O (Mv (V rfl)) <| O (As (Vn (k := 1) (get := rowG inCell 0 []))) <| O (As (V rfl)) <| Nq <| Rx <| R2 rfl (V rfl) (V rfl) rfl rfl (by show sv2 (inRow ([])) (iv (chkQ q)) = sv2 (inRow (fndSt l h q).1) (iv (fndSt l h q).2); rw [fnd_2 hc1s hc2s])
  ·have hc2s := hc2; try simp only [BL] at hc2s
   have hql := chkQ_len hc2s
   have hf1 := first1 (h := h) (ord_first hc1s)
   have hc0 := hf1.1
   have hol : 0 < (orderSt l h).1.length := ord_pos hc1s
   have hdl : ((orderSt l h).1.drop 1).length = (orderSt l h).1.length - 1 := List.length_drop
   refine Sk <| Sq <| Rt <| t_nilO 3 1 (rowG inCell 0 []) 3 (.inl rfl) rfl <| Nt <| Sq <| Sq <| Rq <| O (Mv (V rfl)) <| O (q_slLN (h := 1) ts33 te33 (V rfl) K (by omega)) <| O (Ln (V rfl) ts33) <| O (Mv K) <| Nq <| Bo <| c_mv 3 60 rfl rfl <| c_ownE 60 ((((orderSt l h).1.drop 1).take 0).filter (fun k => fitsB l k q)) rfl (by rfl) <| Lo (fun (i : Nat) => ⟨[(2, teRow q), (3, SV.bp 1 0), (10, SV.own 60), (27, inRow (((orderSt l h).1).drop 1)), (28, iv (((((orderSt l h).1).drop 1).length : Int))), (29, iv ((i : Int)))], [(1, Own.box 1 (fun zt => SV.renm (mvN 3 60) ((stG l) zt)) 24), (60, ownOf inCell 1 0 ((((orderSt l h).1.drop 1).take i).filter (fun k => fitsB l k q)) 3)]⟩) (fun (i : Nat) => i ≤ ((orderSt l h).1.drop 1).length) (fun (i : Nat) => ((orderSt l h).1.drop 1).length - i) 0 (by show 0 ≤ ((orderSt l h).1.drop 1).length; exact Nat.zero_le _) (We (ow := [(1, Own.box 1 (fun zt => SV.renm (mvN 3 60) ((stG l) zt)) 24), (60, ownOf inCell 1 0 ((((orderSt l h).1.drop 1).take 0).filter (fun k => fitsB l k q)) 3)]) (Vs rfl) (by exact ⟨⟨_, rfl, rfl, rfl, (An rfl)⟩, ⟨_, rfl, rfl⟩, Z⟩)) <| ?_
   ·rintro i hI1
    have hJ1 : i ≤ ((orderSt l h).1.drop 1).length := hI1
    have hil := hJ1
    have hfl := List.length_filter_le (fun k => fitsB l k q) (((orderSt l h).1.drop 1).take i)
    rw [List.length_take] at hfl
    refine Sq <| Rq <| O (Lt (V rfl) (V rfl)) <| Nq <| Sq <| Cd (V rfl) (fun hc3 => ?_) (fun hc3 => ?_)
    ·have hc3s := hc3; try simp only [BL] at hc3s
     have hin := ord_drop hc1s (i := i) (by omega)
     refine Sk <| Sq <| Bo <| Sq <| Rq <| O (IxN (i := i) (V rfl) (V rfl) ts33 te33 (by omega)) <| O (Ld (V rfl) Ga3 (by decide)) <| O (As (V rfl)) <| Nq <| Sq <| Rq <| O (LBA (V rfl) rfl Ga24 Sz24 (by decide)) <| O (Mv (V rfl)) <| O (Mv (V rfl)) <| CQ en134 (by exact ⟨⟨(Vi (g' := stG l) (V rfl) ⟨Z, Ir⟩), rfl⟩, ⟨(V rfl), rfl⟩, ⟨(V rfl), rfl⟩, Z⟩) (isSo_ct l (((((orderSt l h).1).drop 1).getD i 0)) q (by first | assumption | exact absurd (of_decide_eq_true hg) hc1s) (by first | assumption | omega | exact absurd (of_decide_eq_true hg) hc1s) (by first | assumption | exact chkQ_len (by assumption) | exact chkQ_len (of_decide_eq_true hg) | exact absurd (of_decide_eq_true hg) hc1s)) <| Nq <| Cd (V rfl) (fun hc4 => ?_) (fun hc4 => ?_)
     ·have hc4s := hc4; try simp only [BL] at hc4s
      refine Rt <| U (Mv (V rfl)) <| U (Mv (V rfl)) <| Uw (w_bs (n := 1) (zget := fun _ => iv 0) [(fun _ => iv (((((orderSt l h).1).drop 1).getD i 0)))] (rowG inCell 0 [((((orderSt l h).1).drop 1).getD i 0)]) Un33 Sz3 zero3 (by decide) rfl (by decide) ⟨⟨rfl, .inr ⟨rfl, (V rfl), rfl⟩, rfl⟩, Z⟩ ⟨Z, ⟨Z, rfl⟩⟩) <| Ap 4 (rowG inCell 0 (((((orderSt l h).1.drop 1).take i).filter (fun k => fitsB l k q)) ++ ([((((orderSt l h).1).drop 1).getD i 0)]))) eo33 (V rfl) rfl (V rfl) rfl (len_app ((((orderSt l h).1.drop 1).take i).filter (fun k => fitsB l k q)) ([((((orderSt l h).1).drop 1).getD i 0)])) (by first | (simp only [maxLen, List.length_append, List.length_set, List.length_nil, List.length_cons]; omega) | (simp only [maxLen]; omega)) (by first | (simp only [List.length_append, List.length_set, List.length_nil, List.length_cons]; omega) | (omega)) (app_typed (l := ((((orderSt l h).1.drop 1).take i).filter (fun k => fitsB l k q))) (m := ([((((orderSt l h).1).drop 1).getD i 0)]))) <| U (As (V rfl)) <| Nt <| Rq <| O (Ad (V rfl) K (by omega)) <| O (Mv (V rfl)) <| Nq <| k_mv 4 60 rfl rfl <| k_ownE 60 ((((orderSt l h).1.drop 1).take ((i + 1))).filter (fun k => fitsB l k q)) rfl (by rw [filt_s (by omega), if_pos hc4]) <| Nx (i + 1) (by show (i + 1) ≤ ((orderSt l h).1.drop 1).length; first | omega | (simp; done) | (refine ⟨?_, ?_⟩ <;> first | omega | (simp; done))) (by show ((orderSt l h).1.drop 1).length - (i + 1) < ((orderSt l h).1.drop 1).length - i; omega) (We (ow := [(1, Own.box 1 (fun zt => SV.renm (mvN 3 60) ((stG l) zt)) 24), (60, ownOf inCell 1 0 ((((orderSt l h).1.drop 1).take ((i + 1))).filter (fun k => fitsB l k q)) 3)]) (Vs rfl) (by exact ⟨⟨_, rfl, rfl, rfl, (An rfl)⟩, ⟨_, rfl, rfl⟩, Z⟩))
     ·have hc4s := hc4; try simp only [BL] at hc4s
      refine Sk <| Rq <| O (Ad (V rfl) K (by omega)) <| O (Mv (V rfl)) <| Nq <| k_ownE 60 ((((orderSt l h).1.drop 1).take ((i + 1))).filter (fun k => fitsB l k q)) rfl (by rw [filt_s (by omega), if_neg (ff hc4), List.append_nil]) <| Nx (i + 1) (by show (i + 1) ≤ ((orderSt l h).1.drop 1).length; first | omega | (simp; done) | (refine ⟨?_, ?_⟩ <;> first | omega | (simp; done))) (by show ((orderSt l h).1.drop 1).length - (i + 1) < ((orderSt l h).1.drop 1).length - i; omega) (We (ow := [(1, Own.box 1 (fun zt => SV.renm (mvN 3 60) ((stG l) zt)) 24), (60, ownOf inCell 1 0 ((((orderSt l h).1.drop 1).take ((i + 1))).filter (fun k => fitsB l k q)) 3)]) (Vs rfl) (by exact ⟨⟨_, rfl, rfl, rfl, (An rfl)⟩, ⟨_, rfl, rfl⟩, Z⟩))
    ·have hc3s := hc3; try simp only [BL] at hc3s
     exact Ex <| Sq <| Rq <| O (Mv (V rfl)) <| O (As (V rfl)) <| O (As K) <| Nq <| FzC 60 rfl <| Rx <| R2 rfl (V rfl) (V rfl) rfl rfl (by show sv2 (inRow ((((orderSt l h).1.drop 1).take i).filter (fun k => fitsB l k q))) (iv (0)) = sv2 (inRow (fndSt l h q).1) (iv (fndSt l h q).2); rw [fnd_3 hc1s hc2s, List.take_of_length_le (by omega)])
 ·have hc1s := hc1; try simp only [BL] at hc1s
  refine Sk <| Sq <| Sq <| Rq <| O (Mv (V rfl)) <| O (Qn (V rfl) K) <| Nq <| Cd (V rfl) (fun hc5 => ?_) (fun hc5 => ?_)
  ·have hc5s := hc5; try simp only [BL] at hc5s
   exact Sq <| Rq <| O (Mv (V rfl)) <| O (As (Vn (k := 1) (get := rowG inCell 0 []))) <| O (As (V rfl)) <| Nq <| Rx <| R2 rfl (V rfl) (V rfl) rfl rfl (by show sv2 (inRow ([])) (iv ((orderSt l h).2)) = sv2 (inRow (fndSt l h q).1) (iv (fndSt l h q).2); rw [fnd_1 hc1s])
  ·have hc5s := hc5; try simp only [BL] at hc5s
   exact absurd hc5s hc1s
   --done
end Go.Proofs.Ytmcdamcedemdiaa
namespace Go.Proofs.Ytmcdamcedemdiaa
open Go.RowKit Go.Eng
def off (B L : List Int) : List Int := L.filter fun x => !decide (x ∈ B)
section
variable {l a : List Nd} {p c : Hd} {ah : List Hd}
end
end Go.Proofs.Ytmcdamcedemdiaa
namespace Go.Proofs.Ytmcdamcedemdiaa
open Go.RowKit Go.Eng
def delE (p : Int → Bool) (l : List Int) : List Int := if idxF p l = -1 then l else ovr (delA p l l.length) (keptL p l l.length).length (List.replicate (l.length - (keptL p l l.length).length) 0)
theorem delE_1 {p : Int → Bool} {l : List Int} (h : idxF p l = -1) : delE p l = l := if_pos h
theorem ovr_cons {α : Type} (h : α) (l z : List α) (i : Nat) : ovr (h :: l) (i + 1) z = h :: ovr l i z := by
  simp [ovr, Nat.add_right_comm]
theorem delE_2 {p : Int → Bool} {l : List Int} (h0 : Int) {j : Nat} (h : ¬ idxF p l = -1) (hj : j = l.length) : ovr (h0 :: delA p l j) ((keptL p l j).length + 1) (List.replicate (l.length - (keptL p l j).length) 0) = h0 :: delE p l := by
  subst hj
  rw [ovr_cons, delE, if_neg h]
theorem delE_take {p : Int → Bool} (l : List Int) : (l.filter fun x => !p x) = (delE p l).take (l.filter fun x => !p x).length := by
  by_cases h : idxF p l = -1
  · rw [delE_1 h, ← del_none h 0, List.take_length]
  · rw [delE, if_neg h]
    have := del_end (p := p) (l := l) (Nat.le_refl l.length) (List.replicate (l.length - (keptL p l l.length).length) 0)
    rw [kept_all (Nat.le_refl _)] at this ⊢
    exact this.symm
theorem delE_len {p : Int → Bool} (l : List Int) : (l.filter fun x => !p x).length ≤ (delE p l).length := by
  have := congrArg List.length (delE_take (p := p) l)
  rw [List.length_take] at this; omega
theorem delE_t {p : Int → Bool} {L : List Int} (h : 0 < L.length) : 1 + ((L.drop 1).filter fun x => !p x).length ≤ (L.take 1 ++ delE p (L.drop 1)).length ∧ ((L.drop 1).filter fun x => !p x) = ((L.take 1 ++ delE p (L.drop 1)).drop 1).take ((L.drop 1).filter fun x => !p x).length := by
  cases L with
  | nil => exact absurd h (Nat.lt_irrefl 0)
  | cons x t =>
    refine ⟨?_, delE_take t⟩
    have := delE_len (p := p) t
    show 1 + _ ≤ (x :: delE p t).length
    rw [List.length_cons, Nat.add_comm]
    exact Nat.succ_le_succ this
theorem kept_lt {p : Int → Bool} {l : List Int} {i : Nat} (hi : i < l.length) (hp : p (l.getD i 0) = true) (hall : ∀ j, j < i → p (l.getD j 0) = false) : (keptL p l (i + 1)).length < i + 1 := by
  rw [kept_0 0 hi hp hall, List.length_take]; omega
section
variable {l : List Nd} {h : Hd} {q : List Te} {t : Te}
end
theorem ord_mdrop {l : List Nd} {h : Hd} {x : Int} (q : (orderSt l h).2 = 0) (hx : x ∈ (orderSt l h).1.drop 1) : 0 ≤ x ∧ x < (l.length : Int) := by
  obtain ⟨i, hi, rfl⟩ := getD_of_mem 0 hx
  exact ord_drop q hi
end Go.Proofs.Ytmcdamcedemdiaa
