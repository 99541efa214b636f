import Derived.Test.YtmcdamcedemdiaaV6
import Derived.Test.YtmcdamcedemdiaaB6
set_option linter.unusedVariables false
set_option linter.unusedSimpArgs false
namespace Go.Proofs.Ytmcdamcedemdiaa
open Go.RowKit Go.Eng
/-- Repeated, the number as it comes. -/
theorem repI_ct (z : Nd) {n : Int} (hn : 0 ≤ n ∧ n ≤ 24) : Ct Try.prog 55 [ndRow ([z]), iv n] (ndRow (List.replicate n.toNat z)) := by
  have h := repeat_ct z n.toNat (by omega)
  rwa [show ((n.toNat : Nat) : Int) = n by omega] at h

/-- glasshouse/store.New -/
theorem new_ct (n : Int) : Ct Try.prog 47 [iv (n)] (sv2 (SV.agg 1 (stG (newSt n).1)) (iv (newSt n).2)) := by
 refine CtO 16 Try.func47 rfl rfl rfl fun E => Sq <| Rt <| Al 1 zero24 rfl rfl <| U (As K) <| Nt <| Sq <| Sq <| Rq <| O (Mv (V rfl)) <| O (Lt (V rfl) K) <| O (Mv (V rfl)) <| Og (Gn rfl rfl) (fun hg => Mv (V rfl)) <| Og (Gn rfl rfl) (fun hg => Gt (Vg (V rfl) hg) K) <| O (Qr (V rfl) (fun h => Vg (V rfl) (notT h))) <| Nq <| Cd (V rfl) (fun hc1 => ?_) (fun hc1 => ?_)
 ·have hc1s := hc1; try simp only [BL] at hc1s
  exact Sq <| Rt <| U (Bu [] id (cmpG [SV.v (Value.slice none 0 0)]) zero24 build24 (by exact Z) (by decide) ⟨Z, rfl⟩) <| StA (V rfl) rfl (V rfl) Sz24 <| U (As K) <| Nt <| Rx <| RR2 rfl (rv_aggI (g' := stG ([])) (rv_cell (V rfl) rfl Ga24 Sz24) ⟨Z, In⟩) (rv_tmp (V rfl)) rfl rfl (by show sv2 (SV.agg 1 (stG ([]))) (iv (2)) = sv2 (SV.agg 1 (stG (newSt n).1)) (iv (newSt n).2); rw [new_1 hc1])
 ·have hc1s := hc1; try simp only [BL] at hc1s
  exact Sk <| Sq <| Rt <| U (Bu [(4, iv ((-1))), (6, iv ((-1)))] id (cmpG [bv (false), iv (0), iv (0), iv (0), iv ((-1)), SV.v (Value.slice none 0 0), iv ((-1)), bv (false)]) zero61 build61 (by exact ⟨⟨rfl, K, rfl⟩, ⟨rfl, K, rfl⟩, Z⟩) (by decide) ⟨⟨⟨⟨⟨⟨⟨⟨Z, rfl⟩, rfl⟩, rfl⟩, rfl⟩, rfl⟩, rfl⟩, rfl⟩, rfl⟩) <| Uw (w_rowI (get' := rowG ndCell default [⟨false, 0, 0, 0, (-1), [], (-1), false⟩]) (w_bs (n := 1) (zget := cmpG [bv (false), iv (0), iv (0), iv (0), iv (0), SV.v (Value.slice none 0 0), iv (0), bv (false)]) [(cmpG [bv (false), iv (0), iv (0), iv (0), iv ((-1)), SV.v (Value.slice none 0 0), iv ((-1)), bv (false)])] (fun zi zt => ([(cmpG [bv (false), iv (0), iv (0), iv (0), iv ((-1)), SV.v (Value.slice none 0 0), iv ((-1)), bv (false)])].getD zi fun _ => SV.junk) zt) Un22 Sz61 zero61 (by decide) rfl (by decide) ⟨⟨rfl, .inl (V rfl), rfl⟩, Z⟩ ⟨Z, ⟨⟨⟨⟨⟨⟨⟨⟨Z, rfl⟩, rfl⟩, rfl⟩, rfl⟩, rfl⟩, rfl⟩, rfl⟩, rfl⟩⟩) ⟨Z, ⟨⟨⟨⟨⟨⟨⟨⟨Z, impO_rfl⟩, impO_rfl⟩, impO_rfl⟩, impO_rfl⟩, impO_rfl⟩, impO_nil⟩, impO_rfl⟩, impO_rfl⟩⟩) <| U (Mv (V rfl)) <| CT en55 (by exact ⟨⟨(V rfl), rfl⟩, ⟨(V rfl), rfl⟩, Z⟩) (repI_ct (⟨false, 0, 0, 0, (-1), [], (-1), false⟩) (by omega)) <| U (Bu [(0, ndRow (List.replicate (Int.toNat n) (⟨false, 0, 0, 0, (-1), [], (-1), false⟩)))] id (stG (List.replicate (Int.toNat n) (⟨false, 0, 0, 0, (-1), [], (-1), false⟩))) zero24 build24 (by exact ⟨⟨rfl, (V rfl), rfl⟩, Z⟩) (by decide) ⟨Z, rfl⟩) <| StA (V rfl) rfl (V rfl) Sz24 <| U (As K) <| Nt <| Rx <| RR2 rfl (rv_cell (V rfl) rfl Ga24 Sz24) (rv_tmp (V rfl)) rfl rfl (by show sv2 (SV.agg 1 (stG (List.replicate (Int.toNat n) (⟨false, 0, 0, 0, (-1), [], (-1), false⟩)))) (iv (0)) = sv2 (SV.agg 1 (stG (newSt n).1)) (iv (newSt n).2); rw [new_2 hc1]; rfl)

/-- glasshouse/store.Make$1 -/
theorem room_ct (n : Nd) : Ct Try.prog 114 [SV.agg 8 (ndCell n)] (bv (roomB n)) := by
 exact CtO 11 Try.func114 rfl rfl rfl fun E => row_lenA 5 (V (s := 0) rfl) rfl rfl fun hl0_5 => Sq <| Rt <| BxA 1 (V rfl) rfl rfl <| U (As K) <| Nt <| Sq <| Rq <| O (FlB _ _ (V rfl) Un61 rfl 0 Sz4) <| O (LdB (V rfl) rfl Ga4 (by decide)) <| O (Qo (V rfl)) <| O (Mv (V rfl)) <| Og (Gy rfl rfl) (fun hg => FlB _ _ (V rfl) Un61 rfl 0 Sz3) <| Og (Gy rfl rfl) (fun hg => LdB (Vg (V rfl) hg) rfl Ga3 (by decide)) <| Og (Gy rfl rfl) (fun hg => Lt (Vg (V rfl) hg) K) <| O (Qa (V rfl) (fun h => Vg (V rfl) h)) <| O (As (V rfl)) <| Nq <| Rx <| R1 rfl (V rfl) rfl (by show bv ((!n.used) && (decide (n.uses < 1000000))) = bv (roomB n); rfl)

/-- glasshouse/store.Copy -/
theorem copy_ct (l : List Nd) (hl : l.length ≤ 24) (hk : ∀ i, i < l.length → (l.getD i default).kids.length ≤ 24) : CtM Try.prog 115 [SV.agg 1 (stG l)] [] (SV.agg 1 (cmpG [SV.own 0])) [(0, ownOf ndCell 8 default l 61)] := by
 refine CmO 27 Try.func115 rfl rfl rfl fun E => row_lenA 0 (V (s := 0) rfl) rfl rfl fun hl0_0 => Sq <| Rt <| BxA 1 (V rfl) rfl rfl <| Al 2 zero24 rfl rfl <| Nt <| Sq <| Rt <| U (FlB _ _ (V rfl) Un24 rfl 0 Sz22) <| U (LdB (V rfl) rfl Ga22 (by decide)) <| CM (cargs := [ndRow l]) [] [(0, 3)] en147 (by exact ⟨(V rfl), Z⟩) (cloneN_ct l (by omega)) (by exact Z) rfl rfl rfl rfl <| U (FlB _ _ (V rfl) Un24 rfl 0 Sz22) <| t_st1V (V rfl) rfl (V rfl) (one_own rfl) Sz22 (by decide) <| Nt <| Sq <| Sq <| Rq <| O (FlB _ _ (V rfl) Un24 rfl 0 Sz22) <| O (LdB (V rfl) rfl Ga22 (by decide)) <| O (LnO (V rfl) rfl ts22) <| O (Mv K) <| Nq <| Bo <| Lo (fun (i : Nat) => ⟨[(1, SV.bp 1 0), (2, SV.bp 2 0), (10, SV.own 3), (11, iv ((l.length : Int))), (12, iv ((i : Int)))], [(1, Own.box 1 (upd (stG l) 0 (SV.own 3)) 24), (2, Own.box 1 (cmpG [SV.v (Value.slice none 0 0)]) 24), (3, ownOf ndCell 8 default l 61)]⟩) (fun (i : Nat) => i ≤ l.length) (fun (i : Nat) => l.length - i) 0 (by show 0 ≤ l.length; exact Nat.zero_le _) (We (ow := [(1, Own.box 1 (upd (stG l) 0 (SV.own 3)) 24), (2, Own.box 1 (cmpG [SV.v (Value.slice none 0 0)]) 24), (3, ownOf ndCell 8 default l 61)]) (Vs rfl) (by exact ⟨⟨_, rfl, rfl, rfl, (An rfl)⟩, ⟨_, rfl, rfl, rfl, (An rfl)⟩, ⟨_, rfl, rfl⟩, Z⟩)) <| ?_
 ·rintro i hI1
  have hJ1 : i ≤ l.length := hI1
  refine Sq <| Rq <| O (Lt (V rfl) (V rfl)) <| Nq <| Sq <| Cd (V rfl) (fun hc1 => ?_) (fun hc1 => ?_)
  ·have hc1s := hc1; try simp only [BL] at hc1s
   have hki := hk i (by omega)
   refine Sk <| Sq <| Bo <| Sq <| Rt <| U (Mv (V rfl)) <| U (IOn (i := i) (V rfl) rfl (V rfl) ts22 te22 (by omega)) <| U (LOA (V rfl) rfl Ga61 Sz61 (by decide)) <| Al 4 zero61 rfl rfl <| U (As (V rfl)) <| StA (V rfl) rfl (V rfl) Sz61 <| Nt <| c_rd (fun e => ⟨[(17, cj (e 0) (SV.bp 1 0)), (18, cj (e 1) (SV.own 3)), (19, cj (e 2) (iv ((i : Int)))), (20, cj (e 3) (SV.bp 4 5)), (21, cj (e 4) (inRow ((l.getD i default).kids))), (22, cj (e 5) (cjn (e 8) (SV.own 5))), (23, cj (e 6) (SV.oe 3 8 i 0)), (24, cj (e 7) (SV.oe 3 8 i 5)), (1, SV.bp 1 0), (2, SV.bp 2 0), (3, iv ((i : Int))), (4, SV.bp 4 0), (10, SV.own 3), (11, iv ((l.length : Int))), (12, iv ((i : Int)))], (cb (e 5) (cb (e 8) [(1, Own.box 1 (upd (stG l) 0 (SV.own 3)) 24), (2, Own.box 1 (cmpG [SV.v (Value.slice none 0 0)]) 24), (3, ownOf ndCell 8 default (l.set i ({ (l.getD i default) with kids := (l.getD i default).kids })) 61), (4, Own.box 8 (fun zi => (rowG ndCell default l) i (0 + zi)) 61)] [(1, Own.box 1 (upd (stG l) 0 (SV.own 3)) 24), (2, Own.box 1 (cmpG [SV.v (Value.slice none 0 0)]) 24), (3, ownOf ndCell 8 default l 61), (4, Own.box 8 (fun zi => (rowG ndCell default l) i (0 + zi)) 61), (5, ownOf inCell 1 0 ((l.getD i default).kids) 3)]) (cb (e 8) [] [(1, Own.box 1 (upd (stG l) 0 (SV.own 3)) 24), (2, Own.box 1 (cmpG [SV.v (Value.slice none 0 0)]) 24), (3, ownOf ndCell 8 default l 61), (4, Own.box 8 (fun zi => (rowG ndCell default l) i (0 + zi)) 61)]))⟩) ⟨[(17, SV.bp 1 0), (18, SV.own 3), (19, iv ((i : Int))), (20, SV.bp 4 5), (21, inRow ((l.getD i default).kids)), (23, SV.oe 3 8 i 0), (24, SV.oe 3 8 i 5), (1, SV.bp 1 0), (2, SV.bp 2 0), (3, iv ((i : Int))), (4, SV.bp 4 0), (10, SV.own 3), (11, iv ((l.length : Int))), (12, iv ((i : Int)))], [(1, Own.box 1 (upd (stG l) 0 (SV.own 3)) 24), (2, Own.box 1 (cmpG [SV.v (Value.slice none 0 0)]) 24), (3, ownOf ndCell 8 default (l.set i ({ (l.getD i default) with kids := (l.getD i default).kids })) 61), (4, Own.box 8 (fun zi => (rowG ndCell default l) i (0 + zi)) 61)]⟩ (by kernel_rfl) (by kernel_rfl) ?_ ⟨?_, ?_, ?_, ?_, ?_, ?_, ?_, ?_, ?_, Z⟩ ?_ ?_
   ·show Weak _ _ ⟨[(17, SV.junk), (18, SV.junk), (19, SV.junk), (20, SV.junk), (21, SV.junk), (22, SV.junk), (23, SV.junk), (24, SV.junk), (1, SV.bp 1 0), (2, SV.bp 2 0), (3, iv ((i : Int))), (4, SV.bp 4 0), (10, SV.own 3), (11, iv ((l.length : Int))), (12, iv ((i : Int)))], [(1, Own.box 1 (upd (stG l) 0 (SV.own 3)) 24), (2, Own.box 1 (cmpG [SV.v (Value.slice none 0 0)]) 24), (3, ownOf ndCell 8 default l 61), (4, Own.box 8 (fun zi => (rowG ndCell default l) i (0 + zi)) 61)]⟩
    refine We ?_ ?_
    ·exact ⟨Vj, Vj, Vj, Vj, Vj, Vj, Vj, Vj, V rfl, V rfl, V rfl, V rfl, V rfl, V rfl, V rfl, Z⟩
    ·exact ⟨⟨_, rfl, ⟨rfl, rfl, (An rfl)⟩⟩, ⟨_, rfl, ⟨rfl, rfl, (An rfl)⟩⟩, ⟨_, rfl, rfl⟩, ⟨_, rfl, ⟨rfl, rfl, (An rfl)⟩⟩, Z⟩
   ·intro e hdn he hdp
    have h8 : e 8 = false := fls he fun q => by obtain ⟨r7, -, -, -, -, -, -, -, -, -⟩ := (show e 7 = true ∧ e 5 = true ∧ e 5 = true ∧ e 0 = true ∧ e 1 = true ∧ e 2 = true ∧ e 3 = true ∧ e 4 = true ∧ e 5 = true ∧ True from hdn 8 q); obtain ⟨r6, -, -, -, -, -, -, -⟩ := (show e 6 = true ∧ e 0 = true ∧ e 1 = true ∧ e 2 = true ∧ e 3 = true ∧ e 4 = true ∧ e 5 = true ∧ True from hdn 7 r7); obtain ⟨r1, -, -, -, -, -, -, -, -⟩ := (show e 1 = true ∧ e 2 = true ∧ e 0 = true ∧ e 1 = true ∧ e 2 = true ∧ e 3 = true ∧ e 4 = true ∧ e 5 = true ∧ True from hdn 6 r6); obtain ⟨r0, -⟩ := (show e 0 = true ∧ True from hdn 1 r1); exact r0
    simp only [setE, he, h8, cj_t, cj_f, cjn_t, cjn_f, cb_t, cb_f]
    exact U (FlB _ _ (V rfl) Un24 rfl 0 Sz22) <| Nt <| weakS ⟨V rfl, V rfl, V rfl, V rfl, V rfl, V rfl, V rfl, V rfl, V rfl, V rfl, V rfl, V rfl, V rfl, V rfl, V rfl, Z⟩
   ·intro e hdn he hdp
    obtain ⟨h0, -⟩ := (show e 0 = true ∧ True from hdp)
    have h8 : e 8 = false := fls he fun q => by obtain ⟨r7, -, -, -, -, -, -, -, -, -⟩ := (show e 7 = true ∧ e 5 = true ∧ e 5 = true ∧ e 0 = true ∧ e 1 = true ∧ e 2 = true ∧ e 3 = true ∧ e 4 = true ∧ e 5 = true ∧ True from hdn 8 q); obtain ⟨r6, -, -, -, -, -, -, -⟩ := (show e 6 = true ∧ e 0 = true ∧ e 1 = true ∧ e 2 = true ∧ e 3 = true ∧ e 4 = true ∧ e 5 = true ∧ True from hdn 7 r7); obtain ⟨r1, -, -, -, -, -, -, -, -⟩ := (show e 1 = true ∧ e 2 = true ∧ e 0 = true ∧ e 1 = true ∧ e 2 = true ∧ e 3 = true ∧ e 4 = true ∧ e 5 = true ∧ True from hdn 6 r6); exact r1
    cases hu5 : e 5
    ·simp only [setE, h0, he, h8, hu5, cj_t, cj_f, cjn_t, cjn_f, cb_t, cb_f]
     refine U (LdB (V rfl) rfl Ga22 (by decide)) <| Nt <| We ?_ ?_
     ·exact ⟨V rfl, V rfl, V rfl, V rfl, V rfl, Vj, V rfl, V rfl, V rfl, V rfl, V rfl, V rfl, V rfl, V rfl, V rfl, Z⟩
     ·exact ⟨⟨_, rfl, ⟨rfl, rfl, (An rfl)⟩⟩, ⟨_, rfl, ⟨rfl, rfl, (An rfl)⟩⟩, ⟨_, rfl, rfl⟩, ⟨_, rfl, ⟨rfl, rfl, (An rfl)⟩⟩, Z⟩
    ·simp only [setE, h0, he, h8, hu5, cj_t, cj_f, cjn_t, cjn_f, cb_t, cb_f]
     refine U (LdB (V rfl) rfl Ga22 (by decide)) <| Nt <| We ?_ ?_
     ·exact ⟨V rfl, V rfl, V rfl, V rfl, V rfl, V rfl, V rfl, V rfl, V rfl, V rfl, V rfl, V rfl, V rfl, V rfl, V rfl, Z⟩
     ·exact ⟨⟨_, rfl, ⟨rfl, rfl, (An rfl)⟩⟩, ⟨_, rfl, ⟨rfl, rfl, (An rfl)⟩⟩, ⟨_, rfl, rfl⟩, ⟨_, rfl, ⟨rfl, rfl, (An rfl)⟩⟩, ⟨_, rfl, rfl⟩, Z⟩
   ·intro e hdn he hdp
    have h8 : e 8 = false := fls he fun q => by obtain ⟨r7, -, -, -, -, -, -, -, -, -⟩ := (show e 7 = true ∧ e 5 = true ∧ e 5 = true ∧ e 0 = true ∧ e 1 = true ∧ e 2 = true ∧ e 3 = true ∧ e 4 = true ∧ e 5 = true ∧ True from hdn 8 q); obtain ⟨r6, -, -, -, -, -, -, -⟩ := (show e 6 = true ∧ e 0 = true ∧ e 1 = true ∧ e 2 = true ∧ e 3 = true ∧ e 4 = true ∧ e 5 = true ∧ True from hdn 7 r7); obtain ⟨-, r2, -, -, -, -, -, -, -⟩ := (show e 1 = true ∧ e 2 = true ∧ e 0 = true ∧ e 1 = true ∧ e 2 = true ∧ e 3 = true ∧ e 4 = true ∧ e 5 = true ∧ True from hdn 6 r6); exact r2
    simp only [setE, he, h8, cj_t, cj_f, cjn_t, cjn_f, cb_t, cb_f]
    exact U (Mv (V rfl)) <| Nt <| weakS ⟨V rfl, V rfl, V rfl, V rfl, V rfl, V rfl, V rfl, V rfl, V rfl, V rfl, V rfl, V rfl, V rfl, V rfl, V rfl, Z⟩
   ·intro e hdn he hdp
    have h5 : e 5 = false := fls he fun q => by obtain ⟨r4, -⟩ := (show e 4 = true ∧ True from hdn 5 q); obtain ⟨r3, -⟩ := (show e 3 = true ∧ True from hdn 4 r4); exact r3
    have h8 : e 8 = false := fls he fun q => by obtain ⟨r7, -, -, -, -, -, -, -, -, -⟩ := (show e 7 = true ∧ e 5 = true ∧ e 5 = true ∧ e 0 = true ∧ e 1 = true ∧ e 2 = true ∧ e 3 = true ∧ e 4 = true ∧ e 5 = true ∧ True from hdn 8 q); obtain ⟨r6, -, -, -, -, -, -, -⟩ := (show e 6 = true ∧ e 0 = true ∧ e 1 = true ∧ e 2 = true ∧ e 3 = true ∧ e 4 = true ∧ e 5 = true ∧ True from hdn 7 r7); obtain ⟨-, -, -, -, -, -, -, r5, -⟩ := (show e 1 = true ∧ e 2 = true ∧ e 0 = true ∧ e 1 = true ∧ e 2 = true ∧ e 3 = true ∧ e 4 = true ∧ e 5 = true ∧ True from hdn 6 r6); obtain ⟨r4, -⟩ := (show e 4 = true ∧ True from hdn 5 r5); obtain ⟨r3, -⟩ := (show e 3 = true ∧ True from hdn 4 r4); exact r3
    simp only [setE, he, h5, h8, cj_t, cj_f, cjn_t, cjn_f, cb_t, cb_f]
    refine U (FlB _ _ (V rfl) Un61 rfl 0 Sz33) <| Nt <| We ?_ ?_
    ·exact ⟨V rfl, V rfl, V rfl, V rfl, V rfl, Vj, V rfl, V rfl, V rfl, V rfl, V rfl, V rfl, V rfl, V rfl, V rfl, Z⟩
    ·exact ⟨⟨_, rfl, ⟨rfl, rfl, (An rfl)⟩⟩, ⟨_, rfl, ⟨rfl, rfl, (An rfl)⟩⟩, ⟨_, rfl, rfl⟩, ⟨_, rfl, ⟨rfl, rfl, (An rfl)⟩⟩, Z⟩
   ·intro e hdn he hdp
    obtain ⟨h3, -⟩ := (show e 3 = true ∧ True from hdp)
    have h5 : e 5 = false := fls he fun q => by obtain ⟨r4, -⟩ := (show e 4 = true ∧ True from hdn 5 q); exact r4
    have h8 : e 8 = false := fls he fun q => by obtain ⟨r7, -, -, -, -, -, -, -, -, -⟩ := (show e 7 = true ∧ e 5 = true ∧ e 5 = true ∧ e 0 = true ∧ e 1 = true ∧ e 2 = true ∧ e 3 = true ∧ e 4 = true ∧ e 5 = true ∧ True from hdn 8 q); obtain ⟨r6, -, -, -, -, -, -, -⟩ := (show e 6 = true ∧ e 0 = true ∧ e 1 = true ∧ e 2 = true ∧ e 3 = true ∧ e 4 = true ∧ e 5 = true ∧ True from hdn 7 r7); obtain ⟨-, -, -, -, -, -, -, r5, -⟩ := (show e 1 = true ∧ e 2 = true ∧ e 0 = true ∧ e 1 = true ∧ e 2 = true ∧ e 3 = true ∧ e 4 = true ∧ e 5 = true ∧ True from hdn 6 r6); obtain ⟨r4, -⟩ := (show e 4 = true ∧ True from hdn 5 r5); exact r4
    simp only [setE, h3, he, h5, h8, cj_t, cj_f, cjn_t, cjn_f, cb_t, cb_f]
    refine U (LdB (V rfl) rfl Ga33 (by decide)) <| Nt <| We ?_ ?_
    ·exact ⟨V rfl, V rfl, V rfl, V rfl, V rfl, Vj, V rfl, V rfl, V rfl, V rfl, V rfl, V rfl, V rfl, V rfl, V rfl, Z⟩
    ·exact ⟨⟨_, rfl, ⟨rfl, rfl, (An rfl)⟩⟩, ⟨_, rfl, ⟨rfl, rfl, (An rfl)⟩⟩, ⟨_, rfl, rfl⟩, ⟨_, rfl, ⟨rfl, rfl, (An rfl)⟩⟩, Z⟩
   ·intro e hdn he hdp
    obtain ⟨h4, -⟩ := (show e 4 = true ∧ True from hdp)
    obtain ⟨h3, -⟩ := (show e 3 = true ∧ True from hdn 4 h4)
    have h6 : e 6 = false := fls he fun q => by obtain ⟨-, -, -, -, -, -, -, r5, -⟩ := (show e 1 = true ∧ e 2 = true ∧ e 0 = true ∧ e 1 = true ∧ e 2 = true ∧ e 3 = true ∧ e 4 = true ∧ e 5 = true ∧ True from hdn 6 q); exact r5
    have h7 : e 7 = false := fls he fun q => by obtain ⟨r6, -, -, -, -, -, -, -⟩ := (show e 6 = true ∧ e 0 = true ∧ e 1 = true ∧ e 2 = true ∧ e 3 = true ∧ e 4 = true ∧ e 5 = true ∧ True from hdn 7 q); obtain ⟨-, -, -, -, -, -, -, r5, -⟩ := (show e 1 = true ∧ e 2 = true ∧ e 0 = true ∧ e 1 = true ∧ e 2 = true ∧ e 3 = true ∧ e 4 = true ∧ e 5 = true ∧ True from hdn 6 r6); exact r5
    have h8 : e 8 = false := fls he fun q => by obtain ⟨r7, -, -, -, -, -, -, -, -, -⟩ := (show e 7 = true ∧ e 5 = true ∧ e 5 = true ∧ e 0 = true ∧ e 1 = true ∧ e 2 = true ∧ e 3 = true ∧ e 4 = true ∧ e 5 = true ∧ True from hdn 8 q); obtain ⟨r6, -, -, -, -, -, -, -⟩ := (show e 6 = true ∧ e 0 = true ∧ e 1 = true ∧ e 2 = true ∧ e 3 = true ∧ e 4 = true ∧ e 5 = true ∧ True from hdn 7 r7); obtain ⟨-, -, -, -, -, -, -, r5, -⟩ := (show e 1 = true ∧ e 2 = true ∧ e 0 = true ∧ e 1 = true ∧ e 2 = true ∧ e 3 = true ∧ e 4 = true ∧ e 5 = true ∧ True from hdn 6 r6); exact r5
    simp only [setE, h3, h4, he, h6, h7, h8, cj_t, cj_f, cjn_t, cjn_f, cb_t, cb_f]
    refine CM (cargs := [inRow ((l.getD i default).kids)]) [] [(0, 5)] en61 (by exact ⟨(V rfl), Z⟩) (clone_ct ((l.getD i default).kids) (by omega)) (by exact Z) rfl (freshN_cons (fresh_mk ⟨(noId_cj rfl), (noId_cj rfl), (noId_cj rfl), rfl, rfl, rfl, rfl, rfl, rfl, rfl, rfl, rfl, rfl, rfl, rfl, Z⟩ rfl rfl) rfl rfl) rfl rfl <| Nt <| We ?_ ?_
    ·exact ⟨V rfl, V rfl, V rfl, V rfl, V rfl, V rfl, Vj, Vj, V rfl, V rfl, V rfl, V rfl, V rfl, V rfl, V rfl, Z⟩
    ·exact ⟨⟨_, rfl, ⟨rfl, rfl, (An rfl)⟩⟩, ⟨_, rfl, ⟨rfl, rfl, (An rfl)⟩⟩, ⟨_, rfl, rfl⟩, ⟨_, rfl, ⟨rfl, rfl, (An rfl)⟩⟩, ⟨_, rfl, rfl⟩, Z⟩
   ·intro e hdn he hdp
    obtain ⟨h1, h2, h0, -, -, h3, h4, h5, -⟩ := (show e 1 = true ∧ e 2 = true ∧ e 0 = true ∧ e 1 = true ∧ e 2 = true ∧ e 3 = true ∧ e 4 = true ∧ e 5 = true ∧ True from hdp)
    have h8 : e 8 = false := fls he fun q => by obtain ⟨r7, -, -, -, -, -, -, -, -, -⟩ := (show e 7 = true ∧ e 5 = true ∧ e 5 = true ∧ e 0 = true ∧ e 1 = true ∧ e 2 = true ∧ e 3 = true ∧ e 4 = true ∧ e 5 = true ∧ True from hdn 8 q); obtain ⟨r6, -, -, -, -, -, -, -⟩ := (show e 6 = true ∧ e 0 = true ∧ e 1 = true ∧ e 2 = true ∧ e 3 = true ∧ e 4 = true ∧ e 5 = true ∧ True from hdn 7 r7); exact r6
    simp only [setE, h0, h1, h2, h3, h4, h5, he, h8, cj_t, cj_f, cjn_t, cjn_f, cb_t, cb_f]
    refine U (IOn (i := i) (V rfl) rfl (V rfl) ts22 te22 (by omega)) <| Nt <| We ?_ ?_
    ·exact ⟨V rfl, V rfl, V rfl, V rfl, V rfl, V rfl, V rfl, V rfl, V rfl, V rfl, V rfl, V rfl, V rfl, V rfl, V rfl, Z⟩
    ·exact ⟨⟨_, rfl, ⟨rfl, rfl, (An rfl)⟩⟩, ⟨_, rfl, ⟨rfl, rfl, (An rfl)⟩⟩, ⟨_, rfl, rfl⟩, ⟨_, rfl, ⟨rfl, rfl, (An rfl)⟩⟩, ⟨_, rfl, rfl⟩, Z⟩
   ·intro e hdn he hdp
    obtain ⟨h6, h0, h1, h2, h3, h4, h5, -⟩ := (show e 6 = true ∧ e 0 = true ∧ e 1 = true ∧ e 2 = true ∧ e 3 = true ∧ e 4 = true ∧ e 5 = true ∧ True from hdp)
    have h8 : e 8 = false := fls he fun q => by obtain ⟨r7, -, -, -, -, -, -, -, -, -⟩ := (show e 7 = true ∧ e 5 = true ∧ e 5 = true ∧ e 0 = true ∧ e 1 = true ∧ e 2 = true ∧ e 3 = true ∧ e 4 = true ∧ e 5 = true ∧ True from hdn 8 q); exact r7
    simp only [setE, h0, h1, h2, h3, h4, h5, h6, he, h8, cj_t, cj_f, cjn_t, cjn_f, cb_t, cb_f]
    refine U (FlO _ _ (V rfl) Un61 rfl 0 Sz33) <| Nt <| We ?_ ?_
    ·exact ⟨V rfl, V rfl, V rfl, V rfl, V rfl, V rfl, V rfl, V rfl, V rfl, V rfl, V rfl, V rfl, V rfl, V rfl, V rfl, Z⟩
    ·exact ⟨⟨_, rfl, ⟨rfl, rfl, (An rfl)⟩⟩, ⟨_, rfl, ⟨rfl, rfl, (An rfl)⟩⟩, ⟨_, rfl, rfl⟩, ⟨_, rfl, ⟨rfl, rfl, (An rfl)⟩⟩, ⟨_, rfl, rfl⟩, Z⟩
   ·intro e hdn he hdp
    obtain ⟨h7, h5, -, h0, h1, h2, h3, h4, -, -⟩ := (show e 7 = true ∧ e 5 = true ∧ e 5 = true ∧ e 0 = true ∧ e 1 = true ∧ e 2 = true ∧ e 3 = true ∧ e 4 = true ∧ e 5 = true ∧ True from hdp)
    obtain ⟨h6, -, -, -, -, -, -, -⟩ := (show e 6 = true ∧ e 0 = true ∧ e 1 = true ∧ e 2 = true ∧ e 3 = true ∧ e 4 = true ∧ e 5 = true ∧ True from hdn 7 h7)
    simp only [setE, h0, h1, h2, h3, h4, h5, h6, h7, he, cj_t, cj_f, cjn_t, cjn_f, cb_t, cb_f]
    refine FzT 5 rfl <| ?_
    have hidx0 : i < l.length := by first | omega | (simp; omega)
    refine StO (rowG ndCell default (l.set i ({ (l.getD i default) with kids := (l.getD i default).kids }))) (V rfl) rfl (V rfl) rfl rfl Sz33 (by decide) (show l.length = (l.set i ({ (l.getD i default) with kids := (l.getD i default).kids })).length from List.length_set.symm) (set_at hidx0 rfl) (set_typed hidx0 fun t ht hne => match t, ht, hne with | 0, _, _ => rfl | 1, _, _ => rfl | 2, _, _ => rfl | 3, _, _ => rfl | 4, _, _ => rfl | 5, _, hne => absurd rfl hne | 6, _, _ => rfl | 7, _, _ => rfl) <| Nt <| We ?_ ?_
    ·exact ⟨V rfl, V rfl, V rfl, V rfl, V rfl, Vj, V rfl, V rfl, V rfl, V rfl, V rfl, V rfl, V rfl, V rfl, V rfl, Z⟩
    ·exact ⟨⟨_, rfl, ⟨rfl, rfl, (An rfl)⟩⟩, ⟨_, rfl, ⟨rfl, rfl, (An rfl)⟩⟩, ⟨_, rfl, rfl⟩, ⟨_, rfl, ⟨rfl, rfl, (An rfl)⟩⟩, Z⟩
   ·intro e he
    have h0 := he 0 (by decide)
    have h1 := he 1 (by decide)
    have h2 := he 2 (by decide)
    have h3 := he 3 (by decide)
    have h4 := he 4 (by decide)
    have h5 := he 5 (by decide)
    have h6 := he 6 (by decide)
    have h7 := he 7 (by decide)
    have h8 := he 8 (by decide)
    show Weak _ ⟨[(17, cj (e 0) (SV.bp 1 0)), (18, cj (e 1) (SV.own 3)), (19, cj (e 2) (iv ((i : Int)))), (20, cj (e 3) (SV.bp 4 5)), (21, cj (e 4) (inRow ((l.getD i default).kids))), (22, cj (e 5) (cjn (e 8) (SV.own 5))), (23, cj (e 6) (SV.oe 3 8 i 0)), (24, cj (e 7) (SV.oe 3 8 i 5)), (1, SV.bp 1 0), (2, SV.bp 2 0), (3, iv ((i : Int))), (4, SV.bp 4 0), (10, SV.own 3), (11, iv ((l.length : Int))), (12, iv ((i : Int)))], (cb (e 5) (cb (e 8) [(1, Own.box 1 (upd (stG l) 0 (SV.own 3)) 24), (2, Own.box 1 (cmpG [SV.v (Value.slice none 0 0)]) 24), (3, ownOf ndCell 8 default (l.set i ({ (l.getD i default) with kids := (l.getD i default).kids })) 61), (4, Own.box 8 (fun zi => (rowG ndCell default l) i (0 + zi)) 61)] [(1, Own.box 1 (upd (stG l) 0 (SV.own 3)) 24), (2, Own.box 1 (cmpG [SV.v (Value.slice none 0 0)]) 24), (3, ownOf ndCell 8 default l 61), (4, Own.box 8 (fun zi => (rowG ndCell default l) i (0 + zi)) 61), (5, ownOf inCell 1 0 ((l.getD i default).kids) 3)]) (cb (e 8) [] [(1, Own.box 1 (upd (stG l) 0 (SV.own 3)) 24), (2, Own.box 1 (cmpG [SV.v (Value.slice none 0 0)]) 24), (3, ownOf ndCell 8 default l 61), (4, Own.box 8 (fun zi => (rowG ndCell default l) i (0 + zi)) 61)]))⟩ _
    simp only [h0, h1, h2, h3, h4, h5, h6, h7, h8]
    show Weak _ ⟨[(17, SV.bp 1 0), (18, SV.own 3), (19, iv ((i : Int))), (20, SV.bp 4 5), (21, inRow ((l.getD i default).kids)), (22, SV.junk), (23, SV.oe 3 8 i 0), (24, SV.oe 3 8 i 5), (1, SV.bp 1 0), (2, SV.bp 2 0), (3, iv ((i : Int))), (4, SV.bp 4 0), (10, SV.own 3), (11, iv ((l.length : Int))), (12, iv ((i : Int)))], [(1, Own.box 1 (upd (stG l) 0 (SV.own 3)) 24), (2, Own.box 1 (cmpG [SV.v (Value.slice none 0 0)]) 24), (3, ownOf ndCell 8 default (l.set i ({ (l.getD i default) with kids := (l.getD i default).kids })) 61), (4, Own.box 8 (fun zi => (rowG ndCell default l) i (0 + zi)) 61)]⟩ _
    refine We ?_ ?_
    ·exact ⟨V rfl, V rfl, V rfl, V rfl, V rfl, V rfl, V rfl, V rfl, V rfl, V rfl, V rfl, V rfl, V rfl, V rfl, Z⟩
    ·exact ⟨⟨_, rfl, ⟨rfl, rfl, (An rfl)⟩⟩, ⟨_, rfl, ⟨rfl, rfl, (An rfl)⟩⟩, ⟨_, rfl, rfl⟩, ⟨_, rfl, ⟨rfl, rfl, (An rfl)⟩⟩, Z⟩
   refine Rq <| O (Ad (V rfl) K (by omega)) <| O (Mv (V rfl)) <| Nq <| k_ownE 3 l rfl (by exact set_kids (by omega)) <| Nx (i + 1) (by show (i + 1) ≤ l.length; first | omega | (simp; done) | (refine ⟨?_, ?_⟩ <;> first | omega | (simp; done))) (by show l.length - (i + 1) < l.length - i; omega) (We (ow := [(1, Own.box 1 (upd (stG l) 0 (SV.own 3)) 24), (2, Own.box 1 (cmpG [SV.v (Value.slice none 0 0)]) 24), (3, ownOf ndCell 8 default l 61)]) (Vs rfl) (by exact ⟨⟨_, rfl, rfl, rfl, (An rfl)⟩, ⟨_, rfl, rfl, rfl, (An rfl)⟩, ⟨_, rfl, rfl⟩, Z⟩))
  ·have hc1s := hc1; try simp only [BL] at hc1s
   exact Ex <| Sq <| Rt <| U (LBA (V rfl) rfl Ga24 Sz24 (by decide)) <| StA (V rfl) rfl (V rfl) Sz24 <| Nt <| c_mv 3 0 rfl rfl <| Rx <| RM1 rfl (rv_aggI (g' := cmpG [SV.own 0]) (rv_cell (V rfl) rfl Ga24 Sz24) ⟨Z, Ir⟩) (by exact ⟨⟨_, rfl, rfl⟩, Z⟩) (by show SV.agg 1 (cmpG [SV.own 0]) = SV.agg 1 (cmpG [SV.own 0]); rfl)

/-- glasshouse/store.Make -/
theorem make_ct (l : List Nd) (tag : Int) (hb : ∀ n ∈ l, n.kids.length ≤ 17592186043904) : Ct Try.prog 40 [SV.agg 1 (stG l), iv (tag)] (sv3 (SV.agg 1 (stG (mkSt l tag).1)) (SV.agg 2 (hdCell (mkSt l tag).2.1)) (iv (mkSt l tag).2.2)) := by
 refine CtO 59 Try.func40 rfl rfl rfl fun E => row_lenA 0 (V (s := 0) rfl) rfl rfl fun hl0_0 => Sq <| Rt <| BxA 1 (V rfl) rfl rfl <| Al 2 zero24 rfl rfl <| Al 3 zero26 rfl rfl <| U (As K) <| Nt <| Sq <| Sq <| Rq <| O (LBA (V rfl) rfl Ga24 Sz24 (by decide)) <| CQ en44 (by exact ⟨⟨(Vi (g' := stG l) (V rfl) ⟨Z, Ir⟩), rfl⟩, Z⟩) (stcheck_ct l (by first | assumption | exact kb_nil | exact kb_of (by assumption))) <| O (As (V rfl)) <| Nq <| Sq <| Rq <| O (Mv (V rfl)) <| O (Qn (V rfl) K) <| Nq <| Cd (V rfl) (fun hc1 => ?_) (fun hc1 => ?_)
 ·have hc1s := hc1; try simp only [BL] at hc1s
  exact Sq <| Rt <| U (Bu [] id (cmpG [SV.v (Value.slice none 0 0)]) zero24 build24 (by exact Z) (by decide) ⟨Z, rfl⟩) <| U (Bu [] id (hdCell ⟨0, 0⟩) zero26 build26 (by exact Z) (by decide) ⟨⟨Z, rfl⟩, rfl⟩) <| U (Mv (V rfl)) <| StA (V rfl) rfl (V rfl) Sz24 <| StA (V rfl) rfl (V rfl) Sz26 <| U (As (V rfl)) <| Nt <| Rx <| RR3 rfl (rv_aggI (g' := stG ([])) (rv_cell (V rfl) rfl Ga24 Sz24) ⟨Z, In⟩) (rv_cell (V rfl) rfl Ga26 Sz26) (rv_tmp (V rfl)) rfl rfl rfl (by show sv3 (SV.agg 1 (stG ([]))) (SV.agg 2 (hdCell ⟨0, 0⟩)) (iv (checkSt l)) = sv3 (SV.agg 1 (stG (mkSt l tag).1)) (SV.agg 2 (hdCell (mkSt l tag).2.1)) (iv (mkSt l tag).2.2); rw [mk_1 hc1s])
 ·have hc1s := hc1; try simp only [BL] at hc1s
  have hl24 := checkSt_len hc1s
  have hkf : ∀ i, i < l.length → (l.getD i default).kids.length ≤ 24 := fun i hi => kids_few hc1s hi
  refine Sk <| Sq <| Sq <| Rq <| O (Mv (V rfl)) <| O (Lt (V rfl) K) <| O (Mv (V rfl)) <| Og (Gn rfl rfl) (fun hg => Mv (V rfl)) <| Og (Gn rfl rfl) (fun hg => Gt (Vg (V rfl) hg) K) <| O (Qr (V rfl) (fun h => Vg (V rfl) (notT h))) <| Nq <| Cd (V rfl) (fun hc2 => ?_) (fun hc2 => ?_)
  ·have hc2s := hc2; try simp only [BL] at hc2s
   exact Sq <| Rt <| U (Bu [] id (cmpG [SV.v (Value.slice none 0 0)]) zero24 build24 (by exact Z) (by decide) ⟨Z, rfl⟩) <| U (Bu [] id (hdCell ⟨0, 0⟩) zero26 build26 (by exact Z) (by decide) ⟨⟨Z, rfl⟩, rfl⟩) <| StA (V rfl) rfl (V rfl) Sz24 <| StA (V rfl) rfl (V rfl) Sz26 <| U (As K) <| Nt <| Rx <| RR3 rfl (rv_aggI (g' := stG ([])) (rv_cell (V rfl) rfl Ga24 Sz24) ⟨Z, In⟩) (rv_cell (V rfl) rfl Ga26 Sz26) (rv_tmp (V rfl)) rfl rfl rfl (by show sv3 (SV.agg 1 (stG ([]))) (SV.agg 2 (hdCell ⟨0, 0⟩)) (iv (2)) = sv3 (SV.agg 1 (stG (mkSt l tag).1)) (SV.agg 2 (hdCell (mkSt l tag).2.1)) (iv (mkSt l tag).2.2); rw [mk_2 hc1s hc2s])
  ·have hc2s := hc2; try simp only [BL] at hc2s
   refine Sk <| Sq <| Rt <| U (FlB _ _ (V rfl) Un24 rfl 0 Sz22) <| U (LdB (V rfl) rfl Ga22 (by decide)) <| CT en113 (by exact ⟨⟨(V rfl), rfl⟩, ⟨(VA (Vf) rfl), rfl⟩, Z⟩) (idxf113_ct roomB en114 rfl room_ct l) <| U (As (V rfl)) <| Nt <| Sq <| Sq <| Rq <| O (Mv (V rfl)) <| O (Lt (V rfl) K) <| Nq <| Cd (V rfl) (fun hc3 => ?_) (fun hc3 => ?_)
   ·have hc3s := hc3; try simp only [BL] at hc3s
    exact Sq <| Rt <| U (Bu [] id (cmpG [SV.v (Value.slice none 0 0)]) zero24 build24 (by exact Z) (by decide) ⟨Z, rfl⟩) <| U (Bu [] id (hdCell ⟨0, 0⟩) zero26 build26 (by exact Z) (by decide) ⟨⟨Z, rfl⟩, rfl⟩) <| StA (V rfl) rfl (V rfl) Sz24 <| StA (V rfl) rfl (V rfl) Sz26 <| U (As K) <| Nt <| Rx <| RR3 rfl (rv_aggI (g' := stG ([])) (rv_cell (V rfl) rfl Ga24 Sz24) ⟨Z, In⟩) (rv_cell (V rfl) rfl Ga26 Sz26) (rv_tmp (V rfl)) rfl rfl rfl (by show sv3 (SV.agg 1 (stG ([]))) (SV.agg 2 (hdCell ⟨0, 0⟩)) (iv (1)) = sv3 (SV.agg 1 (stG (mkSt l tag).1)) (SV.agg 2 (hdCell (mkSt l tag).2.1)) (iv (mkSt l tag).2.2); rw [mk_3 hc1s (by omega) hc3s])
   ·have hc3s := hc3; try simp only [BL] at hc3s
    obtain ⟨i0, he0, hi0, hp0, -⟩ := (idxF_cases roomB default l).resolve_left fun h => hc3s (by omega)
    have hku : (idxF roomB l).toNat < l.length := by omega
    have hmt : (mkTag l (Int.toNat (idxF roomB l)) tag).length = l.length := mkTag_len
    have hma : (mkAt l (Int.toNat (idxF roomB l)) tag).length = l.length := mkAt_len
    have hei : (idxF roomB l).toNat = i0 := by omega
    have hus := (uses_ok hc1s hi0)
    have hul := (roomB_lt hp0).2
    refine Sk <| Sq <| Rt <| U (LBA (V rfl) rfl Ga24 Sz24 (by decide)) <| CM (cargs := [SV.agg 1 (stG l)]) [] [(0, 4)] en115 (by exact ⟨(Vi (g' := stG l) (V rfl) ⟨Z, Ir⟩), Z⟩) (copy_ct l (by omega) (by assumption)) (by exact Z) rfl rfl rfl rfl <| StA (V rfl) rfl (V rfl) Sz24 <| Nt <| Sq <| Rq <| O (FlB _ _ (V rfl) Un24 rfl 0 Sz22) <| O (LdB (V rfl) rfl Ga22 (by decide)) <| O (Mv (V rfl)) <| O (IxO (V rfl) rfl (V rfl) ts22 te22 (by omega) (by first | omega | (simp only [List.length_set, mkTag_len, mkAt_len]; omega))) <| O (As (V rfl)) <| Nq <| Sq <| Rt <| U (Mv (V rfl)) <| U (Mv (V rfl)) <| U (Mv (V rfl)) <| U (q_nilO (V rfl)) <| U (FlO _ _ (V rfl) Un61 rfl 0 Sz4) <| ?_
    have hidx0 : Int.toNat (idxF roomB l) < l.length := by first | omega | (simp; omega)
    refine StO (rowG ndCell default (l.set (Int.toNat (idxF roomB l)) ({ (l.getD (Int.toNat (idxF roomB l)) default) with used := true }))) (V rfl) rfl K rfl rfl Sz4 (by decide) (show l.length = (l.set (Int.toNat (idxF roomB l)) ({ (l.getD (Int.toNat (idxF roomB l)) default) with used := true })).length from List.length_set.symm) (set_at hidx0 rfl) (set_typed hidx0 fun t ht hne => match t, ht, hne with | 0, _, hne => absurd rfl hne | 1, _, _ => rfl | 2, _, _ => rfl | 3, _, _ => rfl | 4, _, _ => rfl | 5, _, _ => rfl | 6, _, _ => rfl | 7, _, _ => rfl) <| U (q_nilO (V rfl)) <| U (FlO _ _ (V rfl) Un61 rfl 0 Sz3) <| ?_
    have hidx1 : Int.toNat (idxF roomB l) < (l.set (Int.toNat (idxF roomB l)) ({ (l.getD (Int.toNat (idxF roomB l)) default) with used := true })).length := by first | omega | (simp; omega)
    refine StO (rowG ndCell default ((l.set (Int.toNat (idxF roomB l)) ({ (l.getD (Int.toNat (idxF roomB l)) default) with used := true })).set (Int.toNat (idxF roomB l)) ({ ((l.set (Int.toNat (idxF roomB l)) ({ (l.getD (Int.toNat (idxF roomB l)) default) with used := true })).getD (Int.toNat (idxF roomB l)) default) with tag := tag }))) (V rfl) rfl (V rfl) rfl rfl Sz3 (by decide) (show (l.set (Int.toNat (idxF roomB l)) ({ (l.getD (Int.toNat (idxF roomB l)) default) with used := true })).length = ((l.set (Int.toNat (idxF roomB l)) ({ (l.getD (Int.toNat (idxF roomB l)) default) with used := true })).set (Int.toNat (idxF roomB l)) ({ ((l.set (Int.toNat (idxF roomB l)) ({ (l.getD (Int.toNat (idxF roomB l)) default) with used := true })).getD (Int.toNat (idxF roomB l)) default) with tag := tag })).length from List.length_set.symm) (set_at hidx1 rfl) (set_typed hidx1 fun t ht hne => match t, ht, hne with | 0, _, _ => rfl | 1, _, _ => rfl | 2, _, hne => absurd rfl hne | 3, _, _ => rfl | 4, _, _ => rfl | 5, _, _ => rfl | 6, _, _ => rfl | 7, _, _ => rfl) <| Nt <| Sq <| c_ownE 4 (mkTag l (Int.toNat (idxF roomB l)) tag) rfl (by exact mkTag_eq hku) <| Rt <| U (Mv (V rfl)) <| U (q_nilO (V rfl)) <| U (FlO _ _ (V rfl) Un61 rfl 0 Sz3) <| U (LdO (V rfl) rfl Ga3 (by decide)) <| U (Ad (V rfl) K (by rw [mkTag_uses hku, hei]; omega)) <| U (q_nilO (V rfl)) <| U (FlO _ _ (V rfl) Un61 rfl 0 Sz3) <| ?_
    have hidx2 : Int.toNat (idxF roomB l) < (mkTag l (Int.toNat (idxF roomB l)) tag).length := by first | omega | (simp; omega)
    refine StO (rowG ndCell default ((mkTag l (Int.toNat (idxF roomB l)) tag).set (Int.toNat (idxF roomB l)) ({ ((mkTag l (Int.toNat (idxF roomB l)) tag).getD (Int.toNat (idxF roomB l)) default) with uses := (((mkTag l (Int.toNat (idxF roomB l)) tag).getD (Int.toNat (idxF roomB l)) default).uses) + 1 }))) (V rfl) rfl (V rfl) rfl rfl Sz3 (by decide) (show (mkTag l (Int.toNat (idxF roomB l)) tag).length = ((mkTag l (Int.toNat (idxF roomB l)) tag).set (Int.toNat (idxF roomB l)) ({ ((mkTag l (Int.toNat (idxF roomB l)) tag).getD (Int.toNat (idxF roomB l)) default) with uses := (((mkTag l (Int.toNat (idxF roomB l)) tag).getD (Int.toNat (idxF roomB l)) default).uses) + 1 })).length from List.length_set.symm) (set_at hidx2 rfl) (set_typed hidx2 fun t ht hne => match t, ht, hne with | 0, _, _ => rfl | 1, _, hne => absurd rfl hne | 2, _, _ => rfl | 3, _, _ => rfl | 4, _, _ => rfl | 5, _, _ => rfl | 6, _, _ => rfl | 7, _, _ => rfl) <| Nt <| Sq <| c_ownE 4 (mkAt l (Int.toNat (idxF roomB l)) tag) rfl (by exact mkAt_eq hku) <| c_rd (fun e => ⟨[(52, cj (e 0) (SV.agg 1 (fun zi => (fun zt => SV.renm (rn [(0, 4)]) ((cmpG [SV.own 0]) zt)) (0 + zi)))), (53, cj (e 1) (iv (idxF roomB l))), (54, cj (e 2) (SV.oe 4 8 (Int.toNat (idxF roomB l)) 0)), (55, cj (e 3) (SV.oe 4 8 (Int.toNat (idxF roomB l)) 0)), (56, cj (e 4) (SV.oe 4 8 (Int.toNat (idxF roomB l)) 1)), (57, cj (e 5) (iv (((mkAt l (Int.toNat (idxF roomB l)) tag).getD (Int.toNat (idxF roomB l)) default).uses))), (58, cj (e 6) (SV.agg 2 (hdCell ⟨idxF roomB l, ((mkAt l (Int.toNat (idxF roomB l)) tag).getD (Int.toNat (idxF roomB l)) default).uses⟩))), (6, cj (e 9) (iv (0))), (2, SV.bp 1 0), (4, SV.bp 2 0), (5, SV.bp 3 0), (8, iv (idxF roomB l)), (9, SV.oe 4 8 (Int.toNat (idxF roomB l)) 0)], (cb (e 7) (cb (e 8) [(1, Own.box 1 (fun zt => SV.renm (rn [(0, 4)]) ((cmpG [SV.own 0]) zt)) 24), (2, Own.box 1 (fun zi => (fun zt => SV.renm (rn [(0, 4)]) ((cmpG [SV.own 0]) zt)) (0 + zi)) 24), (3, Own.box 2 (hdCell ⟨idxF roomB l, ((mkAt l (Int.toNat (idxF roomB l)) tag).getD (Int.toNat (idxF roomB l)) default).uses⟩) 26), (4, ownOf ndCell 8 default (mkAt l (Int.toNat (idxF roomB l)) tag) 61)] [(1, Own.box 1 (fun zt => SV.renm (rn [(0, 4)]) ((cmpG [SV.own 0]) zt)) 24), (2, Own.box 1 (fun zi => (fun zt => SV.renm (rn [(0, 4)]) ((cmpG [SV.own 0]) zt)) (0 + zi)) 24), (3, Own.box 2 (cmpG [iv (0), iv (0)]) 26), (4, ownOf ndCell 8 default (mkAt l (Int.toNat (idxF roomB l)) tag) 61)]) (cb (e 8) [] [(1, Own.box 1 (fun zt => SV.renm (rn [(0, 4)]) ((cmpG [SV.own 0]) zt)) 24), (2, Own.box 1 (cmpG [SV.v (Value.slice none 0 0)]) 24), (3, Own.box 2 (cmpG [iv (0), iv (0)]) 26), (4, ownOf ndCell 8 default (mkAt l (Int.toNat (idxF roomB l)) tag) 61)]))⟩) ⟨[(52, SV.agg 1 (fun zi => (fun zt => SV.renm (rn [(0, 4)]) ((cmpG [SV.own 0]) zt)) (0 + zi))), (53, iv (idxF roomB l)), (54, SV.oe 4 8 (Int.toNat (idxF roomB l)) 0), (55, SV.oe 4 8 (Int.toNat (idxF roomB l)) 0), (56, SV.oe 4 8 (Int.toNat (idxF roomB l)) 1), (57, iv (((mkAt l (Int.toNat (idxF roomB l)) tag).getD (Int.toNat (idxF roomB l)) default).uses)), (58, SV.agg 2 (hdCell ⟨idxF roomB l, ((mkAt l (Int.toNat (idxF roomB l)) tag).getD (Int.toNat (idxF roomB l)) default).uses⟩)), (6, iv (0)), (2, SV.bp 1 0), (4, SV.bp 2 0), (5, SV.bp 3 0), (8, iv (idxF roomB l)), (9, SV.oe 4 8 (Int.toNat (idxF roomB l)) 0)], [(1, Own.box 1 (fun zt => SV.renm (rn [(0, 4)]) ((cmpG [SV.own 0]) zt)) 24), (2, Own.box 1 (fun zi => (fun zt => SV.renm (rn [(0, 4)]) ((cmpG [SV.own 0]) zt)) (0 + zi)) 24), (3, Own.box 2 (hdCell ⟨idxF roomB l, ((mkAt l (Int.toNat (idxF roomB l)) tag).getD (Int.toNat (idxF roomB l)) default).uses⟩) 26), (4, ownOf ndCell 8 default (mkAt l (Int.toNat (idxF roomB l)) tag) 61)]⟩ (by kernel_rfl) (by kernel_rfl) ?_ ⟨?_, ?_, ?_, ?_, ?_, ?_, ?_, ?_, ?_, ?_, Z⟩ ?_ ?_
    ·show Weak _ _ ⟨[(52, SV.junk), (53, SV.junk), (54, SV.junk), (55, SV.junk), (56, SV.junk), (57, SV.junk), (58, SV.junk), (6, SV.junk), (2, SV.bp 1 0), (4, SV.bp 2 0), (5, SV.bp 3 0), (8, iv (idxF roomB l)), (9, SV.oe 4 8 (Int.toNat (idxF roomB l)) 0)], [(1, Own.box 1 (fun zt => SV.renm (rn [(0, 4)]) ((cmpG [SV.own 0]) zt)) 24), (2, Own.box 1 (cmpG [SV.v (Value.slice none 0 0)]) 24), (3, Own.box 2 (cmpG [iv (0), iv (0)]) 26), (4, ownOf ndCell 8 default (mkAt l (Int.toNat (idxF roomB l)) tag) 61)]⟩
     refine We ?_ ?_
     ·exact ⟨Vj, Vj, Vj, Vj, Vj, Vj, Vj, Vj, V rfl, V rfl, V rfl, V rfl, V rfl, Z⟩
     ·exact ⟨⟨_, rfl, ⟨rfl, rfl, (An rfl)⟩⟩, ⟨_, rfl, ⟨rfl, rfl, (An rfl)⟩⟩, ⟨_, rfl, ⟨rfl, rfl, (An rfl)⟩⟩, ⟨_, rfl, rfl⟩, Z⟩
    ·intro e hdn he hdp
     have h7 : e 7 = false := fls he fun q => by obtain ⟨r0, -, -⟩ := (show e 0 = true ∧ e 0 = true ∧ True from hdn 7 q); exact r0
     have h8 : e 8 = false := fls he fun q => by obtain ⟨-, r7, -, -, -, -, -, -, -, -, -⟩ := (show e 6 = true ∧ e 7 = true ∧ e 0 = true ∧ e 1 = true ∧ e 2 = true ∧ e 3 = true ∧ e 4 = true ∧ e 5 = true ∧ e 6 = true ∧ e 7 = true ∧ True from hdn 8 q); obtain ⟨r0, -, -⟩ := (show e 0 = true ∧ e 0 = true ∧ True from hdn 7 r7); exact r0
     simp only [setE, he, h7, h8, cj_t, cj_f, cjn_t, cjn_f, cb_t, cb_f]
     refine U (LBA (V rfl) rfl Ga24 Sz24 (by decide)) <| Nt <| We ?_ ?_
     ·exact ⟨V rfl, V rfl, V rfl, V rfl, V rfl, V rfl, V rfl, V rfl, V rfl, V rfl, V rfl, V rfl, V rfl, Z⟩
     ·exact ⟨⟨_, rfl, ⟨rfl, rfl, (An rfl)⟩⟩, ⟨_, rfl, ⟨rfl, rfl, (An rfl)⟩⟩, ⟨_, rfl, ⟨rfl, rfl, (An rfl)⟩⟩, ⟨_, rfl, rfl⟩, Z⟩
    ·intro e hdn he hdp
     have h8 : e 8 = false := fls he fun q => by obtain ⟨r6, -, -, -, -, -, -, -, -, -, -⟩ := (show e 6 = true ∧ e 7 = true ∧ e 0 = true ∧ e 1 = true ∧ e 2 = true ∧ e 3 = true ∧ e 4 = true ∧ e 5 = true ∧ e 6 = true ∧ e 7 = true ∧ True from hdn 8 q); obtain ⟨r1, -, -⟩ := (show e 1 = true ∧ e 5 = true ∧ True from hdn 6 r6); exact r1
     simp only [setE, he, h8, cj_t, cj_f, cjn_t, cjn_f, cb_t, cb_f]
     exact U (Mv (V rfl)) <| Nt <| weakS ⟨V rfl, V rfl, V rfl, V rfl, V rfl, V rfl, V rfl, V rfl, V rfl, V rfl, V rfl, V rfl, V rfl, Z⟩
    ·intro e hdn he hdp
     have h8 : e 8 = false := fls he fun q => by obtain ⟨r6, -, -, -, -, -, -, -, -, -, -⟩ := (show e 6 = true ∧ e 7 = true ∧ e 0 = true ∧ e 1 = true ∧ e 2 = true ∧ e 3 = true ∧ e 4 = true ∧ e 5 = true ∧ e 6 = true ∧ e 7 = true ∧ True from hdn 8 q); obtain ⟨-, r5, -⟩ := (show e 1 = true ∧ e 5 = true ∧ True from hdn 6 r6); obtain ⟨r4, -⟩ := (show e 4 = true ∧ True from hdn 5 r5); obtain ⟨r3, -⟩ := (show e 3 = true ∧ True from hdn 4 r4); obtain ⟨r2, -⟩ := (show e 2 = true ∧ True from hdn 3 r3); exact r2
     simp only [setE, he, h8, cj_t, cj_f, cjn_t, cjn_f, cb_t, cb_f]
     exact U (Mv (V rfl)) <| Nt <| weakS ⟨V rfl, V rfl, V rfl, V rfl, V rfl, V rfl, V rfl, V rfl, V rfl, V rfl, V rfl, V rfl, V rfl, Z⟩
    ·intro e hdn he hdp
     obtain ⟨h2, -⟩ := (show e 2 = true ∧ True from hdp)
     have h8 : e 8 = false := fls he fun q => by obtain ⟨r6, -, -, -, -, -, -, -, -, -, -⟩ := (show e 6 = true ∧ e 7 = true ∧ e 0 = true ∧ e 1 = true ∧ e 2 = true ∧ e 3 = true ∧ e 4 = true ∧ e 5 = true ∧ e 6 = true ∧ e 7 = true ∧ True from hdn 8 q); obtain ⟨-, r5, -⟩ := (show e 1 = true ∧ e 5 = true ∧ True from hdn 6 r6); obtain ⟨r4, -⟩ := (show e 4 = true ∧ True from hdn 5 r5); obtain ⟨r3, -⟩ := (show e 3 = true ∧ True from hdn 4 r4); exact r3
     cases hu7 : e 7
     ·simp only [setE, h2, he, h8, hu7, cj_t, cj_f, cjn_t, cjn_f, cb_t, cb_f]
      refine U (q_nilO (V rfl)) <| Nt <| We ?_ ?_
      ·exact ⟨V rfl, V rfl, V rfl, V rfl, V rfl, V rfl, V rfl, V rfl, V rfl, V rfl, V rfl, V rfl, V rfl, Z⟩
      ·exact ⟨⟨_, rfl, ⟨rfl, rfl, (An rfl)⟩⟩, ⟨_, rfl, ⟨rfl, rfl, (An rfl)⟩⟩, ⟨_, rfl, ⟨rfl, rfl, (An rfl)⟩⟩, ⟨_, rfl, rfl⟩, Z⟩
     ·simp only [setE, h2, he, h8, hu7, cj_t, cj_f, cjn_t, cjn_f, cb_t, cb_f]
      refine U (q_nilO (V rfl)) <| Nt <| We ?_ ?_
      ·exact ⟨V rfl, V rfl, V rfl, V rfl, V rfl, V rfl, V rfl, V rfl, V rfl, V rfl, V rfl, V rfl, V rfl, Z⟩
      ·exact ⟨⟨_, rfl, ⟨rfl, rfl, (An rfl)⟩⟩, ⟨_, rfl, ⟨rfl, rfl, (An rfl)⟩⟩, ⟨_, rfl, ⟨rfl, rfl, (An rfl)⟩⟩, ⟨_, rfl, rfl⟩, Z⟩
    ·intro e hdn he hdp
     obtain ⟨h3, -⟩ := (show e 3 = true ∧ True from hdp)
     obtain ⟨h2, -⟩ := (show e 2 = true ∧ True from hdn 3 h3)
     have h8 : e 8 = false := fls he fun q => by obtain ⟨r6, -, -, -, -, -, -, -, -, -, -⟩ := (show e 6 = true ∧ e 7 = true ∧ e 0 = true ∧ e 1 = true ∧ e 2 = true ∧ e 3 = true ∧ e 4 = true ∧ e 5 = true ∧ e 6 = true ∧ e 7 = true ∧ True from hdn 8 q); obtain ⟨-, r5, -⟩ := (show e 1 = true ∧ e 5 = true ∧ True from hdn 6 r6); obtain ⟨r4, -⟩ := (show e 4 = true ∧ True from hdn 5 r5); exact r4
     simp only [setE, h2, h3, he, h8, cj_t, cj_f, cjn_t, cjn_f, cb_t, cb_f]
     exact U (FlO _ _ (V rfl) Un61 rfl 0 Sz3) <| Nt <| weakS ⟨V rfl, V rfl, V rfl, V rfl, V rfl, V rfl, V rfl, V rfl, V rfl, V rfl, V rfl, V rfl, V rfl, Z⟩
    ·intro e hdn he hdp
     obtain ⟨h4, -⟩ := (show e 4 = true ∧ True from hdp)
     obtain ⟨h3, -⟩ := (show e 3 = true ∧ True from hdn 4 h4)
     obtain ⟨h2, -⟩ := (show e 2 = true ∧ True from hdn 3 h3)
     have h8 : e 8 = false := fls he fun q => by obtain ⟨r6, -, -, -, -, -, -, -, -, -, -⟩ := (show e 6 = true ∧ e 7 = true ∧ e 0 = true ∧ e 1 = true ∧ e 2 = true ∧ e 3 = true ∧ e 4 = true ∧ e 5 = true ∧ e 6 = true ∧ e 7 = true ∧ True from hdn 8 q); obtain ⟨-, r5, -⟩ := (show e 1 = true ∧ e 5 = true ∧ True from hdn 6 r6); exact r5
     cases hu7 : e 7
     ·simp only [setE, h2, h3, h4, he, h8, hu7, cj_t, cj_f, cjn_t, cjn_f, cb_t, cb_f]
      refine U (LdO (V rfl) rfl Ga3 (by decide)) <| Nt <| We ?_ ?_
      ·exact ⟨V rfl, V rfl, V rfl, V rfl, V rfl, V rfl, V rfl, V rfl, V rfl, V rfl, V rfl, V rfl, V rfl, Z⟩
      ·exact ⟨⟨_, rfl, ⟨rfl, rfl, (An rfl)⟩⟩, ⟨_, rfl, ⟨rfl, rfl, (An rfl)⟩⟩, ⟨_, rfl, ⟨rfl, rfl, (An rfl)⟩⟩, ⟨_, rfl, rfl⟩, Z⟩
     ·simp only [setE, h2, h3, h4, he, h8, hu7, cj_t, cj_f, cjn_t, cjn_f, cb_t, cb_f]
      refine U (LdO (V rfl) rfl Ga3 (by decide)) <| Nt <| We ?_ ?_
      ·exact ⟨V rfl, V rfl, V rfl, V rfl, V rfl, V rfl, V rfl, V rfl, V rfl, V rfl, V rfl, V rfl, V rfl, Z⟩
      ·exact ⟨⟨_, rfl, ⟨rfl, rfl, (An rfl)⟩⟩, ⟨_, rfl, ⟨rfl, rfl, (An rfl)⟩⟩, ⟨_, rfl, ⟨rfl, rfl, (An rfl)⟩⟩, ⟨_, rfl, rfl⟩, Z⟩
    ·intro e hdn he hdp
     obtain ⟨h1, h5, -⟩ := (show e 1 = true ∧ e 5 = true ∧ True from hdp)
     obtain ⟨h4, -⟩ := (show e 4 = true ∧ True from hdn 5 h5)
     obtain ⟨h3, -⟩ := (show e 3 = true ∧ True from hdn 4 h4)
     obtain ⟨h2, -⟩ := (show e 2 = true ∧ True from hdn 3 h3)
     have h8 : e 8 = false := fls he fun q => by obtain ⟨r6, -, -, -, -, -, -, -, -, -, -⟩ := (show e 6 = true ∧ e 7 = true ∧ e 0 = true ∧ e 1 = true ∧ e 2 = true ∧ e 3 = true ∧ e 4 = true ∧ e 5 = true ∧ e 6 = true ∧ e 7 = true ∧ True from hdn 8 q); exact r6
     simp only [setE, h1, h2, h3, h4, h5, he, h8, cj_t, cj_f, cjn_t, cjn_f, cb_t, cb_f]
     exact U (Bu [(0, iv (idxF roomB l)), (1, iv (((mkAt l (Int.toNat (idxF roomB l)) tag).getD (Int.toNat (idxF roomB l)) default).uses))] id (hdCell ⟨idxF roomB l, ((mkAt l (Int.toNat (idxF roomB l)) tag).getD (Int.toNat (idxF roomB l)) default).uses⟩) zero26 build26 (by exact ⟨⟨rfl, (V rfl), rfl⟩, ⟨rfl, (V rfl), rfl⟩, Z⟩) (by decide) ⟨⟨Z, rfl⟩, rfl⟩) <| Nt <| weakS ⟨V rfl, V rfl, V rfl, V rfl, V rfl, V rfl, V rfl, V rfl, V rfl, V rfl, V rfl, V rfl, V rfl, Z⟩
    ·intro e hdn he hdp
     obtain ⟨h0, -, -⟩ := (show e 0 = true ∧ e 0 = true ∧ True from hdp)
     have h8 : e 8 = false := fls he fun q => by obtain ⟨-, r7, -, -, -, -, -, -, -, -, -⟩ := (show e 6 = true ∧ e 7 = true ∧ e 0 = true ∧ e 1 = true ∧ e 2 = true ∧ e 3 = true ∧ e 4 = true ∧ e 5 = true ∧ e 6 = true ∧ e 7 = true ∧ True from hdn 8 q); exact r7
     simp only [setE, h0, he, h8, cj_t, cj_f, cjn_t, cjn_f, cb_t, cb_f]
     refine StA (V rfl) rfl (V rfl) Sz24 <| Nt <| We ?_ ?_
     ·exact ⟨V rfl, V rfl, V rfl, V rfl, V rfl, V rfl, V rfl, V rfl, V rfl, V rfl, V rfl, V rfl, V rfl, Z⟩
     ·exact ⟨⟨_, rfl, ⟨rfl, rfl, (An rfl)⟩⟩, ⟨_, rfl, ⟨rfl, rfl, (An rfl)⟩⟩, ⟨_, rfl, ⟨rfl, rfl, (An rfl)⟩⟩, ⟨_, rfl, rfl⟩, Z⟩
    ·intro e hdn he hdp
     obtain ⟨h6, h7, h0, h1, h2, h3, h4, h5, -, -, -⟩ := (show e 6 = true ∧ e 7 = true ∧ e 0 = true ∧ e 1 = true ∧ e 2 = true ∧ e 3 = true ∧ e 4 = true ∧ e 5 = true ∧ e 6 = true ∧ e 7 = true ∧ True from hdp)
     simp only [setE, h0, h1, h2, h3, h4, h5, h6, h7, he, cj_t, cj_f, cjn_t, cjn_f, cb_t, cb_f]
     refine StA (V rfl) rfl (V rfl) Sz26 <| Nt <| We ?_ ?_
     ·exact ⟨V rfl, V rfl, V rfl, V rfl, V rfl, V rfl, V rfl, V rfl, V rfl, V rfl, V rfl, V rfl, V rfl, Z⟩
     ·exact ⟨⟨_, rfl, ⟨rfl, rfl, (An rfl)⟩⟩, ⟨_, rfl, ⟨rfl, rfl, (An rfl)⟩⟩, ⟨_, rfl, ⟨rfl, rfl, (An rfl)⟩⟩, ⟨_, rfl, rfl⟩, Z⟩
    ·intro e hdn he hdp
     obtain ⟨h8, h0, h1, h2, h3, h4, h5, h6, h7, -, -⟩ := (show e 8 = true ∧ e 0 = true ∧ e 1 = true ∧ e 2 = true ∧ e 3 = true ∧ e 4 = true ∧ e 5 = true ∧ e 6 = true ∧ e 7 = true ∧ e 8 = true ∧ True from hdp)
     simp only [setE, h0, h1, h2, h3, h4, h5, h6, h7, h8, he, cj_t, cj_f, cjn_t, cjn_f, cb_t, cb_f]
     refine U (As K) <| Nt <| We ?_ ?_
     ·exact ⟨V rfl, V rfl, V rfl, V rfl, V rfl, V rfl, V rfl, V rfl, V rfl, V rfl, V rfl, V rfl, V rfl, Z⟩
     ·exact ⟨⟨_, rfl, ⟨rfl, rfl, (An rfl)⟩⟩, ⟨_, rfl, ⟨rfl, rfl, (An rfl)⟩⟩, ⟨_, rfl, ⟨rfl, rfl, (An rfl)⟩⟩, ⟨_, rfl, rfl⟩, Z⟩
    ·intro e he
     have h0 := he 0 (by decide)
     have h1 := he 1 (by decide)
     have h2 := he 2 (by decide)
     have h3 := he 3 (by decide)
     have h4 := he 4 (by decide)
     have h5 := he 5 (by decide)
     have h6 := he 6 (by decide)
     have h7 := he 7 (by decide)
     have h8 := he 8 (by decide)
     have h9 := he 9 (by decide)
     show Weak _ ⟨[(52, cj (e 0) (SV.agg 1 (fun zi => (fun zt => SV.renm (rn [(0, 4)]) ((cmpG [SV.own 0]) zt)) (0 + zi)))), (53, cj (e 1) (iv (idxF roomB l))), (54, cj (e 2) (SV.oe 4 8 (Int.toNat (idxF roomB l)) 0)), (55, cj (e 3) (SV.oe 4 8 (Int.toNat (idxF roomB l)) 0)), (56, cj (e 4) (SV.oe 4 8 (Int.toNat (idxF roomB l)) 1)), (57, cj (e 5) (iv (((mkAt l (Int.toNat (idxF roomB l)) tag).getD (Int.toNat (idxF roomB l)) default).uses))), (58, cj (e 6) (SV.agg 2 (hdCell ⟨idxF roomB l, ((mkAt l (Int.toNat (idxF roomB l)) tag).getD (Int.toNat (idxF roomB l)) default).uses⟩))), (6, cj (e 9) (iv (0))), (2, SV.bp 1 0), (4, SV.bp 2 0), (5, SV.bp 3 0), (8, iv (idxF roomB l)), (9, SV.oe 4 8 (Int.toNat (idxF roomB l)) 0)], (cb (e 7) (cb (e 8) [(1, Own.box 1 (fun zt => SV.renm (rn [(0, 4)]) ((cmpG [SV.own 0]) zt)) 24), (2, Own.box 1 (fun zi => (fun zt => SV.renm (rn [(0, 4)]) ((cmpG [SV.own 0]) zt)) (0 + zi)) 24), (3, Own.box 2 (hdCell ⟨idxF roomB l, ((mkAt l (Int.toNat (idxF roomB l)) tag).getD (Int.toNat (idxF roomB l)) default).uses⟩) 26), (4, ownOf ndCell 8 default (mkAt l (Int.toNat (idxF roomB l)) tag) 61)] [(1, Own.box 1 (fun zt => SV.renm (rn [(0, 4)]) ((cmpG [SV.own 0]) zt)) 24), (2, Own.box 1 (fun zi => (fun zt => SV.renm (rn [(0, 4)]) ((cmpG [SV.own 0]) zt)) (0 + zi)) 24), (3, Own.box 2 (cmpG [iv (0), iv (0)]) 26), (4, ownOf ndCell 8 default (mkAt l (Int.toNat (idxF roomB l)) tag) 61)]) (cb (e 8) [] [(1, Own.box 1 (fun zt => SV.renm (rn [(0, 4)]) ((cmpG [SV.own 0]) zt)) 24), (2, Own.box 1 (cmpG [SV.v (Value.slice none 0 0)]) 24), (3, Own.box 2 (cmpG [iv (0), iv (0)]) 26), (4, ownOf ndCell 8 default (mkAt l (Int.toNat (idxF roomB l)) tag) 61)]))⟩ _
     simp only [h0, h1, h2, h3, h4, h5, h6, h7, h8, h9]
     show Weak _ ⟨[(52, SV.agg 1 (fun zi => (fun zt => SV.renm (rn [(0, 4)]) ((cmpG [SV.own 0]) zt)) (0 + zi))), (53, iv (idxF roomB l)), (54, SV.oe 4 8 (Int.toNat (idxF roomB l)) 0), (55, SV.oe 4 8 (Int.toNat (idxF roomB l)) 0), (56, SV.oe 4 8 (Int.toNat (idxF roomB l)) 1), (57, iv (((mkAt l (Int.toNat (idxF roomB l)) tag).getD (Int.toNat (idxF roomB l)) default).uses)), (58, SV.agg 2 (hdCell ⟨idxF roomB l, ((mkAt l (Int.toNat (idxF roomB l)) tag).getD (Int.toNat (idxF roomB l)) default).uses⟩)), (6, iv (0)), (2, SV.bp 1 0), (4, SV.bp 2 0), (5, SV.bp 3 0), (8, iv (idxF roomB l)), (9, SV.oe 4 8 (Int.toNat (idxF roomB l)) 0)], [(1, Own.box 1 (fun zt => SV.renm (rn [(0, 4)]) ((cmpG [SV.own 0]) zt)) 24), (2, Own.box 1 (fun zi => (fun zt => SV.renm (rn [(0, 4)]) ((cmpG [SV.own 0]) zt)) (0 + zi)) 24), (3, Own.box 2 (hdCell ⟨idxF roomB l, ((mkAt l (Int.toNat (idxF roomB l)) tag).getD (Int.toNat (idxF roomB l)) default).uses⟩) 26), (4, ownOf ndCell 8 default (mkAt l (Int.toNat (idxF roomB l)) tag) 61)]⟩ _
     refine We ?_ ?_
     ·exact ⟨Va (V rfl) (An rfl), V rfl, V rfl, V rfl, V rfl, V rfl, Va (V rfl) (An rfl), V rfl, V rfl, V rfl, V rfl, V rfl, V rfl, Z⟩
     ·exact ⟨⟨_, rfl, ⟨rfl, rfl, (An rfl)⟩⟩, ⟨_, rfl, ⟨rfl, rfl, (An rfl)⟩⟩, ⟨_, rfl, ⟨rfl, rfl, (An rfl)⟩⟩, ⟨_, rfl, rfl⟩, Z⟩
    exact FzC 4 rfl <| Rx <| RR3 rfl (rv_aggI (g' := stG (mkAt l (Int.toNat (idxF roomB l)) tag)) (rv_cell (V rfl) rfl Ga24 Sz24) ⟨Z, Ir⟩) (rv_aggI (g' := hdCell ⟨idxF roomB l, ((mkAt l (Int.toNat (idxF roomB l)) tag).getD (Int.toNat (idxF roomB l)) default).uses⟩) (rv_cell (V rfl) rfl Ga26 Sz26) ⟨⟨Z, Ir⟩, Ir⟩) (rv_tmp (V rfl)) rfl rfl rfl (by show sv3 (SV.agg 1 (stG (mkAt l (Int.toNat (idxF roomB l)) tag))) (SV.agg 2 (hdCell ⟨idxF roomB l, ((mkAt l (Int.toNat (idxF roomB l)) tag).getD (Int.toNat (idxF roomB l)) default).uses⟩)) (iv (0)) = sv3 (SV.agg 1 (stG (mkSt l tag).1)) (SV.agg 2 (hdCell (mkSt l tag).2.1)) (iv (mkSt l tag).2.2); rw [mk_4 hc1s (by omega) hc3s, mkAt_uses hku])

/-- glasshouse/glasshouseref.OwnStore -/
theorem own_ct (l : List Nd) (hl : l.length ≤ 1759218604390) (hk : ∀ n ∈ l, n.kids.length ≤ 17592186043904) : CtM Try.prog 48 [SV.agg 1 (stG l)] [] (SV.agg 1 (cmpG [SV.own 0])) [(0, ownOf ndCell 8 default l 61)] := by
 refine CmO 26 Try.func48 rfl rfl rfl fun E => row_lenA 0 (V (s := 0) rfl) rfl rfl fun hl0_0 => Sq <| Rt <| BxA 1 (V rfl) rfl rfl <| Al 2 zero24 rfl rfl <| Nt <| Sq <| Rt <| Al 3 zero24 rfl rfl <| Nt <| Sq <| Sq <| Rq <| O (FlB _ _ (V rfl) Un24 rfl 0 Sz22) <| O (LdB (V rfl) rfl Ga22 (by decide)) <| O (Ln (V rfl) ts22) <| O (Mv K) <| Nq <| Bo <| Tc (turn_nilB 3 0 61 8 (rowG ndCell default []) 61 rfl rfl rfl) <| Lo (fun (i : Nat) => ⟨[(2, SV.bp 2 0), (3, SV.bp 3 0), (7, ndRow l), (8, iv ((l.length : Int))), (9, iv ((i : Int)))], [(2, Own.box 1 (cmpG [SV.v (Value.slice none 0 0)]) 24), (3, Own.box 1 (fun _ => SV.own 61) 24), (61, ownOf ndCell 8 default (l.take i) 61)]⟩) (fun (i : Nat) => i ≤ l.length) (fun (i : Nat) => l.length - i) 0 (by show 0 ≤ l.length; exact Nat.zero_le _) (We (ow := [(2, Own.box 1 (cmpG [SV.v (Value.slice none 0 0)]) 24), (3, Own.box 1 (fun _ => SV.own 61) 24), (61, ownOf ndCell 8 default (l.take 0) 61)]) (Vs rfl) (by exact ⟨⟨_, rfl, rfl, rfl, (An rfl)⟩, ⟨_, rfl, rfl, rfl, (An rfl)⟩, ⟨_, rfl, rfl⟩, Z⟩)) <| ?_
 ·rintro i hI1
  have hJ1 : i ≤ l.length := hI1
  have htk := List.length_take_le i l
  refine Sq <| Rq <| O (Lt (V rfl) (V rfl)) <| Nq <| Sq <| Cd (V rfl) (fun hc1 => ?_) (fun hc1 => ?_)
  ·have hc1s := hc1; try simp only [BL] at hc1s
   have hki := hk _ (mem_getD (d := default) (show i < l.length by omega))
   refine Sk <| Sq <| Bo <| Sq <| Rt <| U (IxN (i := i) (V rfl) (V rfl) ts22 te22 (by omega)) <| U (LdA (V rfl) Ga61 Sz61 (by decide)) <| Al 4 zero61 rfl rfl <| StA (V rfl) rfl (V rfl) Sz61 <| Nt <| Sq <| Rt <| t_bs0 5 (rowG inCell 0 []) Un33 Sz3 rfl <| U (FlB _ _ (V rfl) Un61 rfl 0 Sz33) <| U (LdB (V rfl) rfl Ga33 (by decide)) <| Ap 6 (rowG inCell 0 (([]) ++ ((l.getD i default).kids))) eo33 (V rfl) rfl (V rfl) rfl (len_app ([]) ((l.getD i default).kids)) (by first | (simp only [maxLen, List.length_append, List.length_set, List.length_nil, List.length_cons]; omega) | (simp only [maxLen]; omega)) (by first | (simp only [List.length_append, List.length_set, List.length_nil, List.length_cons]; omega) | (omega)) (app_typed (l := ([])) (m := ((l.getD i default).kids))) <| U (FlB _ _ (V rfl) Un61 rfl 0 Sz33) <| t_st1V (V rfl) rfl (V rfl) (one_own rfl) Sz33 (by decide) <| Nt <| Rt <| U (FlB _ _ (V rfl) Un24 rfl 0 Sz22) <| U (LdB (V rfl) rfl Ga22 (by decide)) <| U (LBA (V rfl) rfl Ga61 Sz61 (by decide)) <| FzT 6 rfl <| Uw (w_bs (n := 1) (zget := cmpG [bv (false), iv (0), iv (0), iv (0), iv (0), SV.v (Value.slice none 0 0), iv (0), bv (false)]) [_] (rowG ndCell default [⟨(l.getD i default).used, (l.getD i default).uses, (l.getD i default).tag, (l.getD i default).mark, (l.getD i default).par, ([]) ++ ((l.getD i default).kids), (l.getD i default).host, (l.getD i default).closed⟩]) Un22 Sz61 zero61 (by decide) rfl (by decide) ⟨⟨rfl, .inl (V rfl), rfl⟩, Z⟩ ⟨Z, ⟨⟨⟨⟨⟨⟨⟨⟨Z, rfl⟩, rfl⟩, rfl⟩, rfl⟩, rfl⟩, rfl⟩, rfl⟩, rfl⟩⟩) <| Ap 7 (rowG ndCell default ((l.take i) ++ ([⟨(l.getD i default).used, (l.getD i default).uses, (l.getD i default).tag, (l.getD i default).mark, (l.getD i default).par, ([]) ++ ((l.getD i default).kids), (l.getD i default).host, (l.getD i default).closed⟩]))) eo22 (V rfl) rfl (V rfl) rfl (len_app (l.take i) ([⟨(l.getD i default).used, (l.getD i default).uses, (l.getD i default).tag, (l.getD i default).mark, (l.getD i default).par, ([]) ++ ((l.getD i default).kids), (l.getD i default).host, (l.getD i default).closed⟩])) (by first | (simp only [maxLen, List.length_append, List.length_set, List.length_nil, List.length_cons]; omega) | (simp only [maxLen]; omega)) (by first | (simp only [List.length_append, List.length_set, List.length_nil, List.length_cons]; omega) | (omega)) (app_typed (l := (l.take i)) (m := ([⟨(l.getD i default).used, (l.getD i default).uses, (l.getD i default).tag, (l.getD i default).mark, (l.getD i default).par, ([]) ++ ((l.getD i default).kids), (l.getD i default).host, (l.getD i default).closed⟩]))) <| U (FlB _ _ (V rfl) Un24 rfl 0 Sz22) <| t_st1V (V rfl) rfl (V rfl) (one_own rfl) Sz22 (by decide) <| Nt <| Rq <| O (Ad (V rfl) K (by omega)) <| O (Mv (V rfl)) <| Nq <| k_mv 7 61 rfl rfl <| k_ownE 61 (l.take ((i + 1))) rfl (by exact (take_s (l := l) (i := i) default (by omega)).symm) <| Nx (i + 1) (by show (i + 1) ≤ l.length; first | omega | (simp; done) | (refine ⟨?_, ?_⟩ <;> first | omega | (simp; done))) (by show l.length - (i + 1) < l.length - i; omega) (We (ow := [(2, Own.box 1 (cmpG [SV.v (Value.slice none 0 0)]) 24), (3, Own.box 1 (fun _ => SV.own 61) 24), (61, ownOf ndCell 8 default (l.take ((i + 1))) 61)]) (Vs rfl) (by exact ⟨⟨_, rfl, rfl, rfl, (An rfl)⟩, ⟨_, rfl, rfl, rfl, (An rfl)⟩, ⟨_, rfl, rfl⟩, Z⟩))
  ·have hc1s := hc1; try simp only [BL] at hc1s
   exact Ex <| Sq <| Rt <| U (LBA (V rfl) rfl Ga24 Sz24 (by decide)) <| StA (V rfl) rfl (V rfl) Sz24 <| Nt <| c_mv 61 0 rfl rfl <| c_ownE 0 l rfl (by exact List.take_of_length_le (by omega)) <| Rx <| RM1 rfl (rv_aggI (g' := cmpG [SV.own 0]) (rv_cell (V rfl) rfl Ga24 Sz24) ⟨Z, Ir⟩) (by exact ⟨⟨_, rfl, rfl⟩, Z⟩) (by show SV.agg 1 (cmpG [SV.own 0]) = SV.agg 1 (cmpG [SV.own 0]); rfl)

/-- glasshouse/glasshouseref.Made -/
theorem made_ct (l : List Nd) (tag : Int) (hb : ∀ n ∈ l, n.kids.length ≤ 17592186043904) : Ct Try.prog 49 [SV.agg 1 (stG l), iv (tag)] (sv3 (SV.agg 1 (stG (mkSt l tag).1)) (SV.agg 2 (hdCell (mkSt l tag).2.1)) (iv (mkSt l tag).2.2)) := by
 refine CtO 70 Try.func49 rfl rfl rfl fun E => row_lenA 0 (V (s := 0) rfl) rfl rfl fun hl0_0 => Sq <| Rt <| BxA 1 (V rfl) rfl rfl <| Al 2 zero24 rfl rfl <| Al 3 zero26 rfl rfl <| U (As K) <| Nt <| Sq <| Sq <| Rq <| O (LBA (V rfl) rfl Ga24 Sz24 (by decide)) <| CQ en51 (by exact ⟨⟨(Vi (g' := stG l) (V rfl) ⟨Z, Ir⟩), rfl⟩, Z⟩) (rcheck_ct l (by first | assumption | exact kb_nil | exact kb_of (by assumption))) <| O (As (V rfl)) <| Nq <| Sq <| Rq <| O (Mv (V rfl)) <| O (Qn (V rfl) K) <| Nq <| Cd (V rfl) (fun hc1 => ?_) (fun hc1 => ?_)
 ·have hc1s := hc1; try simp only [BL] at hc1s
  exact Sq <| Rt <| U (Bu [] id (cmpG [SV.v (Value.slice none 0 0)]) zero24 build24 (by exact Z) (by decide) ⟨Z, rfl⟩) <| U (Bu [] id (hdCell ⟨0, 0⟩) zero26 build26 (by exact Z) (by decide) ⟨⟨Z, rfl⟩, rfl⟩) <| U (Mv (V rfl)) <| StA (V rfl) rfl (V rfl) Sz24 <| StA (V rfl) rfl (V rfl) Sz26 <| U (As (V rfl)) <| Nt <| Rx <| RR3 rfl (rv_aggI (g' := stG ([])) (rv_cell (V rfl) rfl Ga24 Sz24) ⟨Z, In⟩) (rv_cell (V rfl) rfl Ga26 Sz26) (rv_tmp (V rfl)) rfl rfl rfl (by show sv3 (SV.agg 1 (stG ([]))) (SV.agg 2 (hdCell ⟨0, 0⟩)) (iv (checkSt l)) = sv3 (SV.agg 1 (stG (mkSt l tag).1)) (SV.agg 2 (hdCell (mkSt l tag).2.1)) (iv (mkSt l tag).2.2); rw [mk_1 hc1s])
 ·have hc1s := hc1; try simp only [BL] at hc1s
  have hl24 := checkSt_len hc1s
  have hkf : ∀ i, i < l.length → (l.getD i default).kids.length ≤ 24 := fun i hi => kids_few hc1s hi
  refine Sk <| Sq <| Sq <| Rq <| O (Mv (V rfl)) <| CQ en120 (by exact ⟨⟨(V rfl), rfl⟩, ⟨K, rfl⟩, ⟨K, rfl⟩, Z⟩) (in_ct tag 0 99) <| O (Qo (V rfl)) <| Nq <| Cd (V rfl) (fun hc2 => ?_) (fun hc2 => ?_)
  ·have hc2s := hc2; try simp only [BL] at hc2s
   exact Sq <| Rt <| U (Bu [] id (cmpG [SV.v (Value.slice none 0 0)]) zero24 build24 (by exact Z) (by decide) ⟨Z, rfl⟩) <| U (Bu [] id (hdCell ⟨0, 0⟩) zero26 build26 (by exact Z) (by decide) ⟨⟨Z, rfl⟩, rfl⟩) <| StA (V rfl) rfl (V rfl) Sz24 <| StA (V rfl) rfl (V rfl) Sz26 <| U (As K) <| Nt <| Rx <| RR3 rfl (rv_aggI (g' := stG ([])) (rv_cell (V rfl) rfl Ga24 Sz24) ⟨Z, In⟩) (rv_cell (V rfl) rfl Ga26 Sz26) (rv_tmp (V rfl)) rfl rfl rfl (by show sv3 (SV.agg 1 (stG ([]))) (SV.agg 2 (hdCell ⟨0, 0⟩)) (iv (2)) = sv3 (SV.agg 1 (stG (mkSt l tag).1)) (SV.agg 2 (hdCell (mkSt l tag).2.1)) (iv (mkSt l tag).2.2); rw [mk_2 hc1s (by simpa [inI] using hc2)])
  ·have hc2s := hc2; try simp only [BL] at hc2s
   refine Sk <| Sq <| Rt <| U (LBA (V rfl) rfl Ga24 Sz24 (by decide)) <| CM (cargs := [SV.agg 1 (stG l)]) [] [(0, 4)] en48 (by exact ⟨(Vi (g' := stG l) (V rfl) ⟨Z, Ir⟩), Z⟩) (own_ct l (by omega) hb) (by exact Z) rfl rfl rfl rfl <| StA (V rfl) rfl (V rfl) Sz24 <| Nt <| Sq <| Sq <| Rq <| O (FlB _ _ (V rfl) Un24 rfl 0 Sz22) <| O (LdB (V rfl) rfl Ga22 (by decide)) <| O (LnO (V rfl) rfl ts22) <| O (Mv K) <| Nq <| Bo <| Lo (fun (k : Nat) => ⟨[(1, iv (tag)), (2, SV.bp 1 0), (4, SV.bp 2 0), (5, SV.bp 3 0), (26, iv ((l.length : Int))), (27, iv ((k : Int)))], [(1, Own.box 1 (fun zt => SV.renm (rn [(0, 4)]) ((cmpG [SV.own 0]) zt)) 24), (2, Own.box 1 (cmpG [SV.v (Value.slice none 0 0)]) 24), (3, Own.box 2 (cmpG [iv (0), iv (0)]) 26), (4, ownOf ndCell 8 default l 61)]⟩) (fun (k : Nat) => k ≤ l.length ∧ ∀ j, j < k → roomB (l.getD j default) = false) (fun (k : Nat) => l.length - k) 0 (by show 0 ≤ l.length ∧ ∀ j, j < 0 → roomB (l.getD j default) = false; exact ⟨Nat.zero_le _, fun j hj => absurd hj (Nat.not_lt_zero j)⟩) (We (ow := [(1, Own.box 1 (fun zt => SV.renm (rn [(0, 4)]) ((cmpG [SV.own 0]) zt)) 24), (2, Own.box 1 (cmpG [SV.v (Value.slice none 0 0)]) 24), (3, Own.box 2 (cmpG [iv (0), iv (0)]) 26), (4, ownOf ndCell 8 default l 61)]) (Vs rfl) (by exact ⟨⟨_, rfl, rfl, rfl, (An rfl)⟩, ⟨_, rfl, rfl, rfl, (An rfl)⟩, ⟨_, rfl, rfl, rfl, (An rfl)⟩, ⟨_, rfl, rfl⟩, Z⟩)) <| ?_
   ·rintro k hI1
    have hJ1 : k ≤ l.length ∧ ∀ j, j < k → roomB (l.getD j default) = false := hI1
    refine Sq <| Rq <| O (Lt (V rfl) (V rfl)) <| Nq <| Sq <| Cd (V rfl) (fun hc3 => ?_) (fun hc3 => ?_)
    ·have hc3s := hc3; try simp only [BL] at hc3s
     have hkl : k < l.length := by omega
     have hus := uses_ok hc1s hkl
     refine Sk <| Sq <| Bo <| Sq <| Rq <| O (Mv (V rfl)) <| O (As (V rfl)) <| Nq <| Sq <| Rq <| O (FlB _ _ (V rfl) Un24 rfl 0 Sz22) <| O (LdB (V rfl) rfl Ga22 (by decide)) <| O (Mv (V rfl)) <| O (IOn (i := k) (V rfl) rfl (V rfl) ts22 te22 (by first | omega | (simp only [List.length_set, mkU_len]; omega))) <| O (As (V rfl)) <| Nq <| Sq <| Rq <| O (Mv (V rfl)) <| O (q_nilO (V rfl)) <| O (FlO _ _ (V rfl) Un61 rfl 0 Sz4) <| O (LdO (V rfl) rfl Ga4 (by decide)) <| O (Qo (V rfl)) <| O (Mv (V rfl)) <| Og (Gy rfl rfl) (fun hg => Mv (V rfl)) <| Og (Gy rfl rfl) (fun hg => q_nilO (Vg (V rfl) hg)) <| Og (Gy rfl rfl) (fun hg => FlO _ _ (Vg (V rfl) hg) Un61 rfl 0 Sz3) <| Og (Gy rfl rfl) (fun hg => LdO (Vg (V rfl) hg) rfl Ga3 (by decide)) <| Og (Gy rfl rfl) (fun hg => Qn (Vg (V rfl) hg) K) <| O (Qa (V rfl) (fun h => Vg (V rfl) h)) <| Nq <| Cd (V rfl) (fun hc4 => ?_) (fun hc4 => ?_)
     ·have hc4s := hc4; try simp only [BL] at hc4s
      have hrm : roomB (l.getD k default) = true := (room_b hus.2).symm.trans hc4
      have hul := (roomB_lt hrm).2
      have hmu : (mkU l k).length = l.length := mkU_len
      have hma : (mkAt l k tag).length = l.length := mkAt_len
      refine Sq <| Rt <| U (Mv (V rfl)) <| U (q_nilO (V rfl)) <| U (FlO _ _ (V rfl) Un61 rfl 0 Sz3) <| U (LdO (V rfl) rfl Ga3 (by decide)) <| U (Ad (V rfl) K (by omega)) <| U (q_nilO (V rfl)) <| U (FlO _ _ (V rfl) Un61 rfl 0 Sz3) <| ?_
      have hidx0 : k < l.length := by first | omega | (simp; omega)
      refine StO (rowG ndCell default (l.set k ({ (l.getD k default) with uses := ((l.getD k default).uses) + 1 }))) (V rfl) rfl (V rfl) rfl rfl Sz3 (by decide) (show l.length = (l.set k ({ (l.getD k default) with uses := ((l.getD k default).uses) + 1 })).length from List.length_set.symm) (set_at hidx0 rfl) (set_typed hidx0 fun t ht hne => match t, ht, hne with | 0, _, _ => rfl | 1, _, hne => absurd rfl hne | 2, _, _ => rfl | 3, _, _ => rfl | 4, _, _ => rfl | 5, _, _ => rfl | 6, _, _ => rfl | 7, _, _ => rfl) <| Nt <| Sq <| c_ownE 4 (mkU l k) rfl (by rfl) <| Rt <| U (Mv (V rfl)) <| U (Mv (V rfl)) <| U (Mv (V rfl)) <| U (q_nilO (V rfl)) <| U (FlO _ _ (V rfl) Un61 rfl 0 Sz4) <| ?_
      have hidx1 : k < (mkU l k).length := by first | omega | (simp; omega)
      refine StO (rowG ndCell default ((mkU l k).set k ({ ((mkU l k).getD k default) with used := true }))) (V rfl) rfl K rfl rfl Sz4 (by decide) (show (mkU l k).length = ((mkU l k).set k ({ ((mkU l k).getD k default) with used := true })).length from List.length_set.symm) (set_at hidx1 rfl) (set_typed hidx1 fun t ht hne => match t, ht, hne with | 0, _, hne => absurd rfl hne | 1, _, _ => rfl | 2, _, _ => rfl | 3, _, _ => rfl | 4, _, _ => rfl | 5, _, _ => rfl | 6, _, _ => rfl | 7, _, _ => rfl) <| U (q_nilO (V rfl)) <| U (FlO _ _ (V rfl) Un61 rfl 0 Sz3) <| ?_
      have hidx2 : k < ((mkU l k).set k ({ ((mkU l k).getD k default) with used := true })).length := by first | omega | (simp; omega)
      refine StO (rowG ndCell default (((mkU l k).set k ({ ((mkU l k).getD k default) with used := true })).set k ({ (((mkU l k).set k ({ ((mkU l k).getD k default) with used := true })).getD k default) with tag := tag }))) (V rfl) rfl (V rfl) rfl rfl Sz3 (by decide) (show ((mkU l k).set k ({ ((mkU l k).getD k default) with used := true })).length = (((mkU l k).set k ({ ((mkU l k).getD k default) with used := true })).set k ({ (((mkU l k).set k ({ ((mkU l k).getD k default) with used := true })).getD k default) with tag := tag })).length from List.length_set.symm) (set_at hidx2 rfl) (set_typed hidx2 fun t ht hne => match t, ht, hne with | 0, _, _ => rfl | 1, _, _ => rfl | 2, _, hne => absurd rfl hne | 3, _, _ => rfl | 4, _, _ => rfl | 5, _, _ => rfl | 6, _, _ => rfl | 7, _, _ => rfl) <| Nt <| Sq <| c_ownE 4 (mkAt l k tag) rfl (by exact mkU_at hkl) <| c_rd (fun e => ⟨[(60, cj (e 0) (SV.agg 1 (fun zi => (fun zt => SV.renm (rn [(0, 4)]) ((cmpG [SV.own 0]) zt)) (0 + zi)))), (61, cj (e 1) (iv ((k : Int)))), (62, cj (e 2) (SV.oe 4 8 k 0)), (63, cj (e 3) (SV.oe 4 8 k 0)), (64, cj (e 4) (SV.oe 4 8 k 1)), (65, cj (e 5) (iv (((mkAt l k tag).getD k default).uses))), (66, cj (e 6) (SV.agg 2 (hdCell ⟨(k : Int), ((mkAt l k tag).getD k default).uses⟩))), (6, cj (e 9) (iv (0))), (2, SV.bp 1 0), (4, SV.bp 2 0), (5, SV.bp 3 0), (8, iv ((k : Int))), (9, SV.oe 4 8 k 0)], (cb (e 7) (cb (e 8) [(1, Own.box 1 (fun zt => SV.renm (rn [(0, 4)]) ((cmpG [SV.own 0]) zt)) 24), (2, Own.box 1 (fun zi => (fun zt => SV.renm (rn [(0, 4)]) ((cmpG [SV.own 0]) zt)) (0 + zi)) 24), (3, Own.box 2 (hdCell ⟨(k : Int), ((mkAt l k tag).getD k default).uses⟩) 26), (4, ownOf ndCell 8 default (mkAt l k tag) 61)] [(1, Own.box 1 (fun zt => SV.renm (rn [(0, 4)]) ((cmpG [SV.own 0]) zt)) 24), (2, Own.box 1 (fun zi => (fun zt => SV.renm (rn [(0, 4)]) ((cmpG [SV.own 0]) zt)) (0 + zi)) 24), (3, Own.box 2 (cmpG [iv (0), iv (0)]) 26), (4, ownOf ndCell 8 default (mkAt l k tag) 61)]) (cb (e 8) [] [(1, Own.box 1 (fun zt => SV.renm (rn [(0, 4)]) ((cmpG [SV.own 0]) zt)) 24), (2, Own.box 1 (cmpG [SV.v (Value.slice none 0 0)]) 24), (3, Own.box 2 (cmpG [iv (0), iv (0)]) 26), (4, ownOf ndCell 8 default (mkAt l k tag) 61)]))⟩) ⟨[(60, SV.agg 1 (fun zi => (fun zt => SV.renm (rn [(0, 4)]) ((cmpG [SV.own 0]) zt)) (0 + zi))), (61, iv ((k : Int))), (62, SV.oe 4 8 k 0), (63, SV.oe 4 8 k 0), (64, SV.oe 4 8 k 1), (65, iv (((mkAt l k tag).getD k default).uses)), (66, SV.agg 2 (hdCell ⟨(k : Int), ((mkAt l k tag).getD k default).uses⟩)), (6, iv (0)), (2, SV.bp 1 0), (4, SV.bp 2 0), (5, SV.bp 3 0), (8, iv ((k : Int))), (9, SV.oe 4 8 k 0)], [(1, Own.box 1 (fun zt => SV.renm (rn [(0, 4)]) ((cmpG [SV.own 0]) zt)) 24), (2, Own.box 1 (fun zi => (fun zt => SV.renm (rn [(0, 4)]) ((cmpG [SV.own 0]) zt)) (0 + zi)) 24), (3, Own.box 2 (hdCell ⟨(k : Int), ((mkAt l k tag).getD k default).uses⟩) 26), (4, ownOf ndCell 8 default (mkAt l k tag) 61)]⟩ (by kernel_rfl) (by kernel_rfl) ?_ ⟨?_, ?_, ?_, ?_, ?_, ?_, ?_, ?_, ?_, ?_, Z⟩ ?_ ?_
      ·show Weak _ _ ⟨[(60, SV.junk), (61, SV.junk), (62, SV.junk), (63, SV.junk), (64, SV.junk), (65, SV.junk), (66, SV.junk), (6, SV.junk), (2, SV.bp 1 0), (4, SV.bp 2 0), (5, SV.bp 3 0), (8, iv ((k : Int))), (9, SV.oe 4 8 k 0)], [(1, Own.box 1 (fun zt => SV.renm (rn [(0, 4)]) ((cmpG [SV.own 0]) zt)) 24), (2, Own.box 1 (cmpG [SV.v (Value.slice none 0 0)]) 24), (3, Own.box 2 (cmpG [iv (0), iv (0)]) 26), (4, ownOf ndCell 8 default (mkAt l k tag) 61)]⟩
       refine We ?_ ?_
       ·exact ⟨Vj, Vj, Vj, Vj, Vj, Vj, Vj, Vj, V rfl, V rfl, V rfl, V rfl, V rfl, Z⟩
       ·exact ⟨⟨_, rfl, ⟨rfl, rfl, (An rfl)⟩⟩, ⟨_, rfl, ⟨rfl, rfl, (An rfl)⟩⟩, ⟨_, rfl, ⟨rfl, rfl, (An rfl)⟩⟩, ⟨_, rfl, rfl⟩, Z⟩
      ·intro e hdn he hdp
       have h7 : e 7 = false := fls he fun q => by obtain ⟨r0, -, -⟩ := (show e 0 = true ∧ e 0 = true ∧ True from hdn 7 q); exact r0
       have h8 : e 8 = false := fls he fun q => by obtain ⟨-, r7, -, -, -, -, -, -, -, -, -⟩ := (show e 6 = true ∧ e 7 = true ∧ e 0 = true ∧ e 1 = true ∧ e 2 = true ∧ e 3 = true ∧ e 4 = true ∧ e 5 = true ∧ e 6 = true ∧ e 7 = true ∧ True from hdn 8 q); obtain ⟨r0, -, -⟩ := (show e 0 = true ∧ e 0 = true ∧ True from hdn 7 r7); exact r0
       simp only [setE, he, h7, h8, cj_t, cj_f, cjn_t, cjn_f, cb_t, cb_f]
       refine U (LBA (V rfl) rfl Ga24 Sz24 (by decide)) <| Nt <| We ?_ ?_
       ·exact ⟨V rfl, V rfl, V rfl, V rfl, V rfl, V rfl, V rfl, V rfl, V rfl, V rfl, V rfl, V rfl, V rfl, Z⟩
       ·exact ⟨⟨_, rfl, ⟨rfl, rfl, (An rfl)⟩⟩, ⟨_, rfl, ⟨rfl, rfl, (An rfl)⟩⟩, ⟨_, rfl, ⟨rfl, rfl, (An rfl)⟩⟩, ⟨_, rfl, rfl⟩, Z⟩
      ·intro e hdn he hdp
       have h8 : e 8 = false := fls he fun q => by obtain ⟨r6, -, -, -, -, -, -, -, -, -, -⟩ := (show e 6 = true ∧ e 7 = true ∧ e 0 = true ∧ e 1 = true ∧ e 2 = true ∧ e 3 = true ∧ e 4 = true ∧ e 5 = true ∧ e 6 = true ∧ e 7 = true ∧ True from hdn 8 q); obtain ⟨r1, -, -⟩ := (show e 1 = true ∧ e 5 = true ∧ True from hdn 6 r6); exact r1
       simp only [setE, he, h8, cj_t, cj_f, cjn_t, cjn_f, cb_t, cb_f]
       exact U (Mv (V rfl)) <| Nt <| weakS ⟨V rfl, V rfl, V rfl, V rfl, V rfl, V rfl, V rfl, V rfl, V rfl, V rfl, V rfl, V rfl, V rfl, Z⟩
      ·intro e hdn he hdp
       have h8 : e 8 = false := fls he fun q => by obtain ⟨r6, -, -, -, -, -, -, -, -, -, -⟩ := (show e 6 = true ∧ e 7 = true ∧ e 0 = true ∧ e 1 = true ∧ e 2 = true ∧ e 3 = true ∧ e 4 = true ∧ e 5 = true ∧ e 6 = true ∧ e 7 = true ∧ True from hdn 8 q); obtain ⟨-, r5, -⟩ := (show e 1 = true ∧ e 5 = true ∧ True from hdn 6 r6); obtain ⟨r4, -⟩ := (show e 4 = true ∧ True from hdn 5 r5); obtain ⟨r3, -⟩ := (show e 3 = true ∧ True from hdn 4 r4); obtain ⟨r2, -⟩ := (show e 2 = true ∧ True from hdn 3 r3); exact r2
       simp only [setE, he, h8, cj_t, cj_f, cjn_t, cjn_f, cb_t, cb_f]
       exact U (Mv (V rfl)) <| Nt <| weakS ⟨V rfl, V rfl, V rfl, V rfl, V rfl, V rfl, V rfl, V rfl, V rfl, V rfl, V rfl, V rfl, V rfl, Z⟩
      ·intro e hdn he hdp
       obtain ⟨h2, -⟩ := (show e 2 = true ∧ True from hdp)
       have h8 : e 8 = false := fls he fun q => by obtain ⟨r6, -, -, -, -, -, -, -, -, -, -⟩ := (show e 6 = true ∧ e 7 = true ∧ e 0 = true ∧ e 1 = true ∧ e 2 = true ∧ e 3 = true ∧ e 4 = true ∧ e 5 = true ∧ e 6 = true ∧ e 7 = true ∧ True from hdn 8 q); obtain ⟨-, r5, -⟩ := (show e 1 = true ∧ e 5 = true ∧ True from hdn 6 r6); obtain ⟨r4, -⟩ := (show e 4 = true ∧ True from hdn 5 r5); obtain ⟨r3, -⟩ := (show e 3 = true ∧ True from hdn 4 r4); exact r3
       cases hu7 : e 7
       ·simp only [setE, h2, he, h8, hu7, cj_t, cj_f, cjn_t, cjn_f, cb_t, cb_f]
        refine U (q_nilO (V rfl)) <| Nt <| We ?_ ?_
        ·exact ⟨V rfl, V rfl, V rfl, V rfl, V rfl, V rfl, V rfl, V rfl, V rfl, V rfl, V rfl, V rfl, V rfl, Z⟩
        ·exact ⟨⟨_, rfl, ⟨rfl, rfl, (An rfl)⟩⟩, ⟨_, rfl, ⟨rfl, rfl, (An rfl)⟩⟩, ⟨_, rfl, ⟨rfl, rfl, (An rfl)⟩⟩, ⟨_, rfl, rfl⟩, Z⟩
       ·simp only [setE, h2, he, h8, hu7, cj_t, cj_f, cjn_t, cjn_f, cb_t, cb_f]
        refine U (q_nilO (V rfl)) <| Nt <| We ?_ ?_
        ·exact ⟨V rfl, V rfl, V rfl, V rfl, V rfl, V rfl, V rfl, V rfl, V rfl, V rfl, V rfl, V rfl, V rfl, Z⟩
        ·exact ⟨⟨_, rfl, ⟨rfl, rfl, (An rfl)⟩⟩, ⟨_, rfl, ⟨rfl, rfl, (An rfl)⟩⟩, ⟨_, rfl, ⟨rfl, rfl, (An rfl)⟩⟩, ⟨_, rfl, rfl⟩, Z⟩
      ·intro e hdn he hdp
       obtain ⟨h3, -⟩ := (show e 3 = true ∧ True from hdp)
       obtain ⟨h2, -⟩ := (show e 2 = true ∧ True from hdn 3 h3)
       have h8 : e 8 = false := fls he fun q => by obtain ⟨r6, -, -, -, -, -, -, -, -, -, -⟩ := (show e 6 = true ∧ e 7 = true ∧ e 0 = true ∧ e 1 = true ∧ e 2 = true ∧ e 3 = true ∧ e 4 = true ∧ e 5 = true ∧ e 6 = true ∧ e 7 = true ∧ True from hdn 8 q); obtain ⟨-, r5, -⟩ := (show e 1 = true ∧ e 5 = true ∧ True from hdn 6 r6); obtain ⟨r4, -⟩ := (show e 4 = true ∧ True from hdn 5 r5); exact r4
       simp only [setE, h2, h3, he, h8, cj_t, cj_f, cjn_t, cjn_f, cb_t, cb_f]
       exact U (FlO _ _ (V rfl) Un61 rfl 0 Sz3) <| Nt <| weakS ⟨V rfl, V rfl, V rfl, V rfl, V rfl, V rfl, V rfl, V rfl, V rfl, V rfl, V rfl, V rfl, V rfl, Z⟩
      ·intro e hdn he hdp
       obtain ⟨h4, -⟩ := (show e 4 = true ∧ True from hdp)
       obtain ⟨h3, -⟩ := (show e 3 = true ∧ True from hdn 4 h4)
       obtain ⟨h2, -⟩ := (show e 2 = true ∧ True from hdn 3 h3)
       have h8 : e 8 = false := fls he fun q => by obtain ⟨r6, -, -, -, -, -, -, -, -, -, -⟩ := (show e 6 = true ∧ e 7 = true ∧ e 0 = true ∧ e 1 = true ∧ e 2 = true ∧ e 3 = true ∧ e 4 = true ∧ e 5 = true ∧ e 6 = true ∧ e 7 = true ∧ True from hdn 8 q); obtain ⟨-, r5, -⟩ := (show e 1 = true ∧ e 5 = true ∧ True from hdn 6 r6); exact r5
       cases hu7 : e 7
       ·simp only [setE, h2, h3, h4, he, h8, hu7, cj_t, cj_f, cjn_t, cjn_f, cb_t, cb_f]
        refine U (LdO (V rfl) rfl Ga3 (by decide)) <| Nt <| We ?_ ?_
        ·exact ⟨V rfl, V rfl, V rfl, V rfl, V rfl, V rfl, V rfl, V rfl, V rfl, V rfl, V rfl, V rfl, V rfl, Z⟩
        ·exact ⟨⟨_, rfl, ⟨rfl, rfl, (An rfl)⟩⟩, ⟨_, rfl, ⟨rfl, rfl, (An rfl)⟩⟩, ⟨_, rfl, ⟨rfl, rfl, (An rfl)⟩⟩, ⟨_, rfl, rfl⟩, Z⟩
       ·simp only [setE, h2, h3, h4, he, h8, hu7, cj_t, cj_f, cjn_t, cjn_f, cb_t, cb_f]
        refine U (LdO (V rfl) rfl Ga3 (by decide)) <| Nt <| We ?_ ?_
        ·exact ⟨V rfl, V rfl, V rfl, V rfl, V rfl, V rfl, V rfl, V rfl, V rfl, V rfl, V rfl, V rfl, V rfl, Z⟩
        ·exact ⟨⟨_, rfl, ⟨rfl, rfl, (An rfl)⟩⟩, ⟨_, rfl, ⟨rfl, rfl, (An rfl)⟩⟩, ⟨_, rfl, ⟨rfl, rfl, (An rfl)⟩⟩, ⟨_, rfl, rfl⟩, Z⟩
      ·intro e hdn he hdp
       obtain ⟨h1, h5, -⟩ := (show e 1 = true ∧ e 5 = true ∧ True from hdp)
       obtain ⟨h4, -⟩ := (show e 4 = true ∧ True from hdn 5 h5)
       obtain ⟨h3, -⟩ := (show e 3 = true ∧ True from hdn 4 h4)
       obtain ⟨h2, -⟩ := (show e 2 = true ∧ True from hdn 3 h3)
       have h8 : e 8 = false := fls he fun q => by obtain ⟨r6, -, -, -, -, -, -, -, -, -, -⟩ := (show e 6 = true ∧ e 7 = true ∧ e 0 = true ∧ e 1 = true ∧ e 2 = true ∧ e 3 = true ∧ e 4 = true ∧ e 5 = true ∧ e 6 = true ∧ e 7 = true ∧ True from hdn 8 q); exact r6
       simp only [setE, h1, h2, h3, h4, h5, he, h8, cj_t, cj_f, cjn_t, cjn_f, cb_t, cb_f]
       exact U (Bu [(0, iv ((k : Int))), (1, iv (((mkAt l k tag).getD k default).uses))] id (hdCell ⟨(k : Int), ((mkAt l k tag).getD k default).uses⟩) zero26 build26 (by exact ⟨⟨rfl, (V rfl), rfl⟩, ⟨rfl, (V rfl), rfl⟩, Z⟩) (by decide) ⟨⟨Z, rfl⟩, rfl⟩) <| Nt <| weakS ⟨V rfl, V rfl, V rfl, V rfl, V rfl, V rfl, V rfl, V rfl, V rfl, V rfl, V rfl, V rfl, V rfl, Z⟩
      ·intro e hdn he hdp
       obtain ⟨h0, -, -⟩ := (show e 0 = true ∧ e 0 = true ∧ True from hdp)
       have h8 : e 8 = false := fls he fun q => by obtain ⟨-, r7, -, -, -, -, -, -, -, -, -⟩ := (show e 6 = true ∧ e 7 = true ∧ e 0 = true ∧ e 1 = true ∧ e 2 = true ∧ e 3 = true ∧ e 4 = true ∧ e 5 = true ∧ e 6 = true ∧ e 7 = true ∧ True from hdn 8 q); exact r7
       simp only [setE, h0, he, h8, cj_t, cj_f, cjn_t, cjn_f, cb_t, cb_f]
       refine StA (V rfl) rfl (V rfl) Sz24 <| Nt <| We ?_ ?_
       ·exact ⟨V rfl, V rfl, V rfl, V rfl, V rfl, V rfl, V rfl, V rfl, V rfl, V rfl, V rfl, V rfl, V rfl, Z⟩
       ·exact ⟨⟨_, rfl, ⟨rfl, rfl, (An rfl)⟩⟩, ⟨_, rfl, ⟨rfl, rfl, (An rfl)⟩⟩, ⟨_, rfl, ⟨rfl, rfl, (An rfl)⟩⟩, ⟨_, rfl, rfl⟩, Z⟩
      ·intro e hdn he hdp
       obtain ⟨h6, h7, h0, h1, h2, h3, h4, h5, -, -, -⟩ := (show e 6 = true ∧ e 7 = true ∧ e 0 = true ∧ e 1 = true ∧ e 2 = true ∧ e 3 = true ∧ e 4 = true ∧ e 5 = true ∧ e 6 = true ∧ e 7 = true ∧ True from hdp)
       simp only [setE, h0, h1, h2, h3, h4, h5, h6, h7, he, cj_t, cj_f, cjn_t, cjn_f, cb_t, cb_f]
       refine StA (V rfl) rfl (V rfl) Sz26 <| Nt <| We ?_ ?_
       ·exact ⟨V rfl, V rfl, V rfl, V rfl, V rfl, V rfl, V rfl, V rfl, V rfl, V rfl, V rfl, V rfl, V rfl, Z⟩
       ·exact ⟨⟨_, rfl, ⟨rfl, rfl, (An rfl)⟩⟩, ⟨_, rfl, ⟨rfl, rfl, (An rfl)⟩⟩, ⟨_, rfl, ⟨rfl, rfl, (An rfl)⟩⟩, ⟨_, rfl, rfl⟩, Z⟩
      ·intro e hdn he hdp
       obtain ⟨h8, h0, h1, h2, h3, h4, h5, h6, h7, -, -⟩ := (show e 8 = true ∧ e 0 = true ∧ e 1 = true ∧ e 2 = true ∧ e 3 = true ∧ e 4 = true ∧ e 5 = true ∧ e 6 = true ∧ e 7 = true ∧ e 8 = true ∧ True from hdp)
       simp only [setE, h0, h1, h2, h3, h4, h5, h6, h7, h8, he, cj_t, cj_f, cjn_t, cjn_f, cb_t, cb_f]
       refine U (As K) <| Nt <| We ?_ ?_
       ·exact ⟨V rfl, V rfl, V rfl, V rfl, V rfl, V rfl, V rfl, V rfl, V rfl, V rfl, V rfl, V rfl, V rfl, Z⟩
       ·exact ⟨⟨_, rfl, ⟨rfl, rfl, (An rfl)⟩⟩, ⟨_, rfl, ⟨rfl, rfl, (An rfl)⟩⟩, ⟨_, rfl, ⟨rfl, rfl, (An rfl)⟩⟩, ⟨_, rfl, rfl⟩, Z⟩
      ·intro e he
       have h0 := he 0 (by decide)
       have h1 := he 1 (by decide)
       have h2 := he 2 (by decide)
       have h3 := he 3 (by decide)
       have h4 := he 4 (by decide)
       have h5 := he 5 (by decide)
       have h6 := he 6 (by decide)
       have h7 := he 7 (by decide)
       have h8 := he 8 (by decide)
       have h9 := he 9 (by decide)
       show Weak _ ⟨[(60, cj (e 0) (SV.agg 1 (fun zi => (fun zt => SV.renm (rn [(0, 4)]) ((cmpG [SV.own 0]) zt)) (0 + zi)))), (61, cj (e 1) (iv ((k : Int)))), (62, cj (e 2) (SV.oe 4 8 k 0)), (63, cj (e 3) (SV.oe 4 8 k 0)), (64, cj (e 4) (SV.oe 4 8 k 1)), (65, cj (e 5) (iv (((mkAt l k tag).getD k default).uses))), (66, cj (e 6) (SV.agg 2 (hdCell ⟨(k : Int), ((mkAt l k tag).getD k default).uses⟩))), (6, cj (e 9) (iv (0))), (2, SV.bp 1 0), (4, SV.bp 2 0), (5, SV.bp 3 0), (8, iv ((k : Int))), (9, SV.oe 4 8 k 0)], (cb (e 7) (cb (e 8) [(1, Own.box 1 (fun zt => SV.renm (rn [(0, 4)]) ((cmpG [SV.own 0]) zt)) 24), (2, Own.box 1 (fun zi => (fun zt => SV.renm (rn [(0, 4)]) ((cmpG [SV.own 0]) zt)) (0 + zi)) 24), (3, Own.box 2 (hdCell ⟨(k : Int), ((mkAt l k tag).getD k default).uses⟩) 26), (4, ownOf ndCell 8 default (mkAt l k tag) 61)] [(1, Own.box 1 (fun zt => SV.renm (rn [(0, 4)]) ((cmpG [SV.own 0]) zt)) 24), (2, Own.box 1 (fun zi => (fun zt => SV.renm (rn [(0, 4)]) ((cmpG [SV.own 0]) zt)) (0 + zi)) 24), (3, Own.box 2 (cmpG [iv (0), iv (0)]) 26), (4, ownOf ndCell 8 default (mkAt l k tag) 61)]) (cb (e 8) [] [(1, Own.box 1 (fun zt => SV.renm (rn [(0, 4)]) ((cmpG [SV.own 0]) zt)) 24), (2, Own.box 1 (cmpG [SV.v (Value.slice none 0 0)]) 24), (3, Own.box 2 (cmpG [iv (0), iv (0)]) 26), (4, ownOf ndCell 8 default (mkAt l k tag) 61)]))⟩ _
       simp only [h0, h1, h2, h3, h4, h5, h6, h7, h8, h9]
       show Weak _ ⟨[(60, SV.agg 1 (fun zi => (fun zt => SV.renm (rn [(0, 4)]) ((cmpG [SV.own 0]) zt)) (0 + zi))), (61, iv ((k : Int))), (62, SV.oe 4 8 k 0), (63, SV.oe 4 8 k 0), (64, SV.oe 4 8 k 1), (65, iv (((mkAt l k tag).getD k default).uses)), (66, SV.agg 2 (hdCell ⟨(k : Int), ((mkAt l k tag).getD k default).uses⟩)), (6, iv (0)), (2, SV.bp 1 0), (4, SV.bp 2 0), (5, SV.bp 3 0), (8, iv ((k : Int))), (9, SV.oe 4 8 k 0)], [(1, Own.box 1 (fun zt => SV.renm (rn [(0, 4)]) ((cmpG [SV.own 0]) zt)) 24), (2, Own.box 1 (fun zi => (fun zt => SV.renm (rn [(0, 4)]) ((cmpG [SV.own 0]) zt)) (0 + zi)) 24), (3, Own.box 2 (hdCell ⟨(k : Int), ((mkAt l k tag).getD k default).uses⟩) 26), (4, ownOf ndCell 8 default (mkAt l k tag) 61)]⟩ _
       refine We ?_ ?_
       ·exact ⟨Va (V rfl) (An rfl), V rfl, V rfl, V rfl, V rfl, V rfl, Va (V rfl) (An rfl), V rfl, V rfl, V rfl, V rfl, V rfl, V rfl, Z⟩
       ·exact ⟨⟨_, rfl, ⟨rfl, rfl, (An rfl)⟩⟩, ⟨_, rfl, ⟨rfl, rfl, (An rfl)⟩⟩, ⟨_, rfl, ⟨rfl, rfl, (An rfl)⟩⟩, ⟨_, rfl, rfl⟩, Z⟩
      exact FzC 4 rfl <| Rx <| RR3 rfl (rv_aggI (g' := stG (mkAt l k tag)) (rv_cell (V rfl) rfl Ga24 Sz24) ⟨Z, Ir⟩) (rv_aggI (g' := hdCell ⟨(k : Int), ((mkAt l k tag).getD k default).uses⟩) (rv_cell (V rfl) rfl Ga26 Sz26) ⟨⟨Z, Ir⟩, Ir⟩) (rv_tmp (V rfl)) rfl rfl rfl (by show sv3 (SV.agg 1 (stG (mkAt l k tag))) (SV.agg 2 (hdCell ⟨(k : Int), ((mkAt l k tag).getD k default).uses⟩)) (iv (0)) = sv3 (SV.agg 1 (stG (mkSt l tag).1)) (SV.agg 2 (hdCell (mkSt l tag).2.1)) (iv (mkSt l tag).2.2); rw [mk_hit hc1s (by simpa [inI] using hc2) hkl hJ1.2 hrm, mkAt_uses hkl])
     ·have hc4s := hc4; try simp only [BL] at hc4s
      exact Sk <| Rq <| O (Ad (V rfl) K (by omega)) <| O (Mv (V rfl)) <| Nq <| Nx (k + 1) (by show (k + 1) ≤ l.length ∧ ∀ j, j < (k + 1) → roomB (l.getD j default) = false; exact ⟨by omega, idxF_s hJ1.2 ((room_b hus.2).symm.trans hc4)⟩) (by show l.length - (k + 1) < l.length - k; omega) (We (ow := [(1, Own.box 1 (fun zt => SV.renm (rn [(0, 4)]) ((cmpG [SV.own 0]) zt)) 24), (2, Own.box 1 (cmpG [SV.v (Value.slice none 0 0)]) 24), (3, Own.box 2 (cmpG [iv (0), iv (0)]) 26), (4, ownOf ndCell 8 default l 61)]) (Vs rfl) (by exact ⟨⟨_, rfl, rfl, rfl, (An rfl)⟩, ⟨_, rfl, rfl, rfl, (An rfl)⟩, ⟨_, rfl, rfl, rfl, (An rfl)⟩, ⟨_, rfl, rfl⟩, Z⟩))
    ·have hc3s := hc3; try simp only [BL] at hc3s
     exact Ex <| Sq <| Rt <| U (Bu [] id (cmpG [SV.v (Value.slice none 0 0)]) zero24 build24 (by exact Z) (by decide) ⟨Z, rfl⟩) <| U (Bu [] id (hdCell ⟨0, 0⟩) zero26 build26 (by exact Z) (by decide) ⟨⟨Z, rfl⟩, rfl⟩) <| StA (V rfl) rfl (V rfl) Sz24 <| StA (V rfl) rfl (V rfl) Sz26 <| U (As K) <| Nt <| Rx <| RR3 rfl (rv_aggI (g' := stG ([])) (rv_cell (V rfl) rfl Ga24 Sz24) ⟨Z, In⟩) (rv_cell (V rfl) rfl Ga26 Sz26) (rv_tmp (V rfl)) rfl rfl rfl (by show sv3 (SV.agg 1 (stG ([]))) (SV.agg 2 (hdCell ⟨0, 0⟩)) (iv (1)) = sv3 (SV.agg 1 (stG (mkSt l tag).1)) (SV.agg 2 (hdCell (mkSt l tag).2.1)) (iv (mkSt l tag).2.2); rw [mk_no hc1s (by simpa [inI] using hc2) (by omega) hJ1.2])

end Go.Proofs.Ytmcdamcedemdiaa
