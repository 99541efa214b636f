import Derived.Test.YtmcdamcedemdiaaV9
import Derived.Test.YtmcdamcedemdiaaB9
set_option linter.unusedVariables false
set_option linter.unusedSimpArgs false
namespace Go.Proofs.Ytmcdamcedemdiaa
open Go.RowKit Go.Eng
/-- glasshouse/glasshouselaw.StoreRoom -/
theorem storeRoom_ct (p : Int) (fs : List Int) : Ct Try.prog 6 [iv (p), inRow fs] (bv true) := by
 refine CtO 102 Try.func6 rfl rfl rfl fun E => Rl (V (s := 1) rfl) fun hl1 => Sq <| Rq <| O (As K) <| Nq <| Sq <| Rt <| U (Mv (V rfl)) <| CT en47 (by exact ⟨⟨(V rfl), rfl⟩, Z⟩) (new_ct p) <| U (Mv (V rfl)) <| U (Xt (V rfl) (by decide)) <| U (Xt (V rfl) (by decide)) <| Al 1 zero24 rfl rfl <| StA (V rfl) rfl (V rfl) Sz24 <| U (As (V rfl)) <| Nt <| Sq <| Sq <| Rq <| CQ en41 (by exact Z) (stored_ct) <| O (Qo (V rfl)) <| O (Mv (V rfl)) <| Og (Gn rfl rfl) (fun hg => Mv (V rfl)) <| Og (Gn rfl rfl) (fun hg => Qn (Vg (V rfl) hg) K) <| O (Qr (V rfl) (fun h => Vg (V rfl) (notT h))) <| Nq <| Cd (V rfl) (fun hc1 => ?_) (fun hc1 => ?_)
 ·have hc1s := hc1; try simp only [BL] at hc1s
  exact Sq <| Rq <| CQ en41 (by exact Z) (stored_ct) <| O (As (V rfl)) <| Nq <| Rx <| R1 rfl (V rfl) rfl (by show bv (true) = bv true; rfl)
 ·have hc1s := hc1; try simp only [BL] at hc1s
  have hn0 : (newSt p).2 = 0 := hc1s.2
  obtain ⟨hp0, hp24⟩ := new_in hn0
  refine Sk <| Sq <| Sq <| Rq <| O (Mv (V rfl)) <| O (Mv K) <| Nq <| Bo <| Lo (uc2 fun (i : Nat) (s : List Nd) => ⟨[(0, iv (p)), (1, inRow fs), (5, SV.bp 1 0), (28, iv (p)), (29, iv ((i : Int)))], [(1, Own.box 1 (stG s) 24)]⟩) (uc2 fun (i : Nat) (s : List Nd) => i ≤ p.toNat ∧ RoomSt p.toNat s (p.toNat - i) i) (uc2 fun (i : Nat) (s : List Nd) => p.toNat - i) (0, (newSt p).1) (by show 0 ≤ p.toNat ∧ RoomSt p.toNat ((newSt p).1) (p.toNat - 0) 0; exact ⟨Nat.zero_le _, room_new hp0 hn0⟩) (We (ow := [(1, Own.box 1 (stG (((newSt p).1))) 24)]) (Vs rfl) (by exact ⟨⟨_, rfl, rfl, rfl, (An rfl)⟩, Z⟩)) <| ?_
  ·rintro ⟨i, s⟩ hI1
   have hJ1 : i ≤ p.toNat ∧ RoomSt p.toNat s (p.toNat - i) i := hI1
   have hst := hJ1.2
   have hok := hst.ok
   have hlen := hst.len
   refine Sq <| Rq <| O (Lt (V rfl) (V rfl)) <| Nq <| Sq <| Cd (V rfl) (fun hc2 => ?_) (fun hc2 => ?_)
   ·have hc2s := hc2; try simp only [BL] at hc2s
    have hmk := room_mk (n := p.toNat) (s := s) (u := (i : Int)) (r := p.toNat - (i + 1)) (g := 1) (by rw [show p.toNat - (i + 1) + 1 = p.toNat - i by omega]; exact hst) (by decide)
    refine Sk <| Sq <| Bo <| Sq <| Rt <| U (LBA (V rfl) rfl Ga24 Sz24 (by decide)) <| CT en40 (by exact ⟨⟨(Vi (g' := stG s) (V rfl) ⟨Z, Ir⟩), rfl⟩, ⟨K, rfl⟩, Z⟩) (make_ct s 1 (by first | assumption | exact kb_nil | exact kb_of (by assumption))) <| U (Mv (V rfl)) <| U (Xt (V rfl) (by decide)) <| U (Xt (V rfl) (by decide)) <| U (Xt (V rfl) (by decide)) <| StA (V rfl) rfl (V rfl) Sz24 <| U (As (V rfl)) <| Nt <| Sq <| Rq <| O (Mv (V rfl)) <| O (Qn (V rfl) K) <| Nq <| Cd (V rfl) (fun hc3 => ?_) (fun hc3 => ?_)
    ·have hc3s := hc3; try simp only [BL] at hc3s
     exact absurd hmk.2 hc3s
     --done
    ·have hc3s := hc3; try simp only [BL] at hc3s
     exact Sk <| Rq <| O (Ad (V rfl) K (by omega)) <| O (Mv (V rfl)) <| Nq <| Nx (i + 1, (mkSt s 1).1) (by show (i + 1) ≤ p.toNat ∧ RoomSt p.toNat ((mkSt s 1).1) (p.toNat - (i + 1)) (i + 1); exact ⟨by omega, by push_cast; exact hmk.1⟩) (by show p.toNat - (i + 1) < p.toNat - i; omega) (We (ow := [(1, Own.box 1 (stG (((mkSt s 1).1))) 24)]) (Vs rfl) (by exact ⟨⟨_, rfl, rfl, rfl, (An rfl)⟩, Z⟩))
   ·have hc2s := hc2; try simp only [BL] at hc2s
    have hfull : (mkSt s 1).2.2 = 1 := mk_full hok (by decide) (by have := hst.cnt; omega)
    refine Ex <| Sq <| Sq <| Rt <| U (LBA (V rfl) rfl Ga24 Sz24 (by decide)) <| CT en40 (by exact ⟨⟨(Vi (g' := stG s) (V rfl) ⟨Z, Ir⟩), rfl⟩, ⟨K, rfl⟩, Z⟩) (make_ct s 1 (by first | assumption | exact kb_nil | exact kb_of (by assumption))) <| U (Mv (V rfl)) <| U (Xt (V rfl) (by decide)) <| U (Xt (V rfl) (by decide)) <| U (Xt (V rfl) (by decide)) <| Al 2 zero24 rfl rfl <| Al 3 zero26 rfl rfl <| StA (V rfl) rfl (V rfl) Sz24 <| StA (V rfl) rfl (V rfl) Sz26 <| U (As (V rfl)) <| Nt <| Sq <| Rq <| O (Mv (V rfl)) <| O (Qn (V rfl) K) <| Nq <| Cd (V rfl) (fun hc4 => ?_) (fun hc4 => ?_)
    ·have hc4s := hc4; try simp only [BL] at hc4s
     exact absurd hfull hc4s
     --done
    ·have hc4s := hc4; try simp only [BL] at hc4s
     refine Sk <| Sq <| Rq <| O (As K) <| Nq <| Sq <| Sq <| Rq <| O (Mv (V rfl)) <| O (Mv (V rfl)) <| O (Ln (V rfl) ts33) <| O (q_min (V rfl) K) <| O (q_slHT ts33 te33 (V rfl) (V rfl) (by omega) (by omega)) <| O (Ln (V rfl) ts33) <| O (Mv K) <| Nq <| Bo <| Lo (uc3 fun (j : Nat) (t : List Nd) (r : Nat) => ⟨[(0, iv (p)), (5, SV.bp 1 0), (10, iv ((r : Int))), (52, inRow (fs.take (Int.toNat (min ((fs.length : Int)) 30)))), (53, iv (((fs.take (Int.toNat (min ((fs.length : Int)) 30))).length : Int))), (54, iv ((j : Int)))], [(1, Own.box 1 (stG t) 24)]⟩) (uc3 fun (j : Nat) (t : List Nd) (r : Nat) => r ≤ j ∧ j ≤ (fs.take (Int.toNat (min (fs.length : Int) 30))).length ∧ RoomSt p.toNat t r 24) (uc3 fun (j : Nat) (t : List Nd) (r : Nat) => (fs.take (Int.toNat (min (fs.length : Int) 30))).length - j) (0, s, 0) (by show 0 ≤ 0 ∧ 0 ≤ (fs.take (Int.toNat (min (fs.length : Int) 30))).length ∧ RoomSt p.toNat s 0 24; exact ⟨Nat.le_refl _, Nat.zero_le _, room_le hst (by omega) (by omega)⟩) (We (ow := [(1, Own.box 1 (stG s) 24)]) (Vs rfl) (by exact ⟨⟨_, rfl, rfl, rfl, (An rfl)⟩, Z⟩)) <| ?_
     ·rintro ⟨j, t, r⟩ hI2
      have hJ2 : r ≤ j ∧ j ≤ (fs.take (Int.toNat (min (fs.length : Int) 30))).length ∧ RoomSt p.toNat t r 24 := hI2
      have hst2 := hJ2.2.2
      have hok2 := hst2.ok
      have hlen2 := hst2.len
      have hTl : (fs.take (Int.toNat (min (fs.length : Int) 30))).length ≤ 30 := by rw [List.length_take]; omega
      refine Sq <| Rq <| O (Lt (V rfl) (V rfl)) <| Nq <| Sq <| Cd (V rfl) (fun hc5 => ?_) (fun hc5 => ?_)
      ·have hc5s := hc5; try simp only [BL] at hc5s
       refine Sk <| Sq <| Bo <| Sq <| Rq <| O (IxN (i := j) (V rfl) (V rfl) ts33 te33 (by omega)) <| O (Ld (V rfl) Ga3 (by decide)) <| O (As (V rfl)) <| Nq <| Sq <| Sq <| Rq <| O (Mv (V rfl)) <| O (Ql (V rfl) K) <| Nq <| Cd (V rfl) (fun hc6 => ?_) (fun hc6 => ?_)
       ·have hc6s := hc6; try simp only [BL] at hc6s
        refine Ex <| Sq <| Sq <| Rq <| O (Mv (V rfl)) <| O (Mv K) <| Nq <| Bo <| Lo (uc2 fun (k : Nat) (v : List Nd) => ⟨[(5, SV.bp 1 0), (82, iv ((r : Int))), (83, iv ((k : Int)))], [(1, Own.box 1 (stG v) 24)]⟩) (uc2 fun (k : Nat) (v : List Nd) => k ≤ r ∧ ∃ u, RoomSt p.toNat v (r - k) u) (uc2 fun (k : Nat) (v : List Nd) => r - k) (0, t) (by show 0 ≤ r ∧ ∃ u, RoomSt p.toNat t (r - 0) u; exact ⟨Nat.zero_le _, 24, hst2⟩) (We (ow := [(1, Own.box 1 (stG t) 24)]) (Vs rfl) (by exact ⟨⟨_, rfl, rfl, rfl, (An rfl)⟩, Z⟩)) <| ?_
        ·rintro ⟨k, v⟩ hI3
         have hJ3 : k ≤ r ∧ ∃ u, RoomSt p.toNat v (r - k) u := hI3
         obtain ⟨hkr, u3, hst3⟩ := hJ3
         have hok3 := hst3.ok
         refine Sq <| Rq <| O (Lt (V rfl) (V rfl)) <| Nq <| Sq <| Cd (V rfl) (fun hc7 => ?_) (fun hc7 => ?_)
         ·have hc7s := hc7; try simp only [BL] at hc7s
          have hmk3 := room_mk (n := p.toNat) (s := v) (u := u3) (r := r - (k + 1)) (g := 2) (by rw [show r - (k + 1) + 1 = r - k by omega]; exact hst3) (by decide)
          refine Sk <| Sq <| Bo <| Sq <| Rt <| U (LBA (V rfl) rfl Ga24 Sz24 (by decide)) <| CT en40 (by exact ⟨⟨(Vi (g' := stG v) (V rfl) ⟨Z, Ir⟩), rfl⟩, ⟨K, rfl⟩, Z⟩) (make_ct v 2 (by first | assumption | exact kb_nil | exact kb_of (by assumption))) <| U (Mv (V rfl)) <| U (Xt (V rfl) (by decide)) <| U (Xt (V rfl) (by decide)) <| U (Xt (V rfl) (by decide)) <| StA (V rfl) rfl (V rfl) Sz24 <| U (As (V rfl)) <| Nt <| Sq <| Rq <| O (Mv (V rfl)) <| O (Qn (V rfl) K) <| Nq <| Cd (V rfl) (fun hc8 => ?_) (fun hc8 => ?_)
          ·have hc8s := hc8; try simp only [BL] at hc8s
           exact absurd hmk3.2 hc8s
           --done
          ·have hc8s := hc8; try simp only [BL] at hc8s
           exact Sk <| Rq <| O (Ad (V rfl) K (by omega)) <| O (Mv (V rfl)) <| Nq <| Nx (k + 1, (mkSt v 2).1) (by show (k + 1) ≤ r ∧ ∃ u, RoomSt p.toNat ((mkSt v 2).1) (r - (k + 1)) u; exact ⟨by omega, _, hmk3.1⟩) (by show r - (k + 1) < r - k; omega) (We (ow := [(1, Own.box 1 (stG (((mkSt v 2).1))) 24)]) (Vs rfl) (by exact ⟨⟨_, rfl, rfl, rfl, (An rfl)⟩, Z⟩))
         ·have hc7s := hc7; try simp only [BL] at hc7s
          exact Ex <| Sq <| Rt <| U (LBA (V rfl) rfl Ga24 Sz24 (by decide)) <| CT en40 (by exact ⟨⟨(Vi (g' := stG v) (V rfl) ⟨Z, Ir⟩), rfl⟩, ⟨K, rfl⟩, Z⟩) (make_ct v 3 (by first | assumption | exact kb_nil | exact kb_of (by assumption))) <| U (Mv (V rfl)) <| U (Xt (V rfl) (by decide)) <| U (Xt (V rfl) (by decide)) <| U (Xt (V rfl) (by decide)) <| U (As (V rfl)) <| Nt <| Sq <| Rq <| O (Mv (V rfl)) <| O (Ql (V rfl) K) <| O (As (V rfl)) <| Nq <| Rx <| R1 rfl (V rfl) rfl (by show bv (decide ((mkSt v 3).2.2 = 1)) = bv true; exact congrArg bv (decide_eq_true (mk_full hst3.ok (by decide) (by have := hst3.cnt; omega))))
       ·have hc6s := hc6; try simp only [BL] at hc6s
        have hpp : 0 < p := by omega
        have hat := atI_in ((fs.take (Int.toNat (min (fs.length : Int) 30))).getD j 0) hpp
        refine Sk <| Sq <| Rq <| O (Mv (V rfl)) <| O (Mv (V rfl)) <| CQ en42 (by exact ⟨⟨(V rfl), rfl⟩, ⟨(V rfl), rfl⟩, Z⟩) (at_ct (((fs.take (Int.toNat (min ((fs.length : Int)) 30))).getD j 0)) (p) (by first | assumption | omega) (by omega)) <| O (As (V rfl)) <| Nq <| Sq <| c_rd (fun e => ⟨[(64, cj (e 0) (SV.agg 1 (fun zi => (stG t) (0 + zi)))), (65, cj (e 1) (iv (atI (((fs.take (Int.toNat (min ((fs.length : Int)) 30))).getD j 0)) (p)))), (66, cj (e 2) (SV.bp 1 0)), (67, cj (e 3) (ndRow t)), (68, cj (e 4) (iv (atI (((fs.take (Int.toNat (min ((fs.length : Int)) 30))).getD j 0)) (p)))), (69, cj (e 5) (SV.el t.length 8 (rowG ndCell default t) (Int.toNat (atI (((fs.take (Int.toNat (min ((fs.length : Int)) 30))).getD j 0)) (p))) 0)), (70, cj (e 6) (SV.el t.length 8 (rowG ndCell default t) (Int.toNat (atI (((fs.take (Int.toNat (min ((fs.length : Int)) 30))).getD j 0)) (p))) 1)), (71, cj (e 7) (iv ((t.getD (Int.toNat (atI (((fs.take (Int.toNat (min ((fs.length : Int)) 30))).getD j 0)) (p))) default).uses))), (72, cj (e 8) (SV.agg 2 (hdCell ⟨atI (((fs.take (Int.toNat (min ((fs.length : Int)) 30))).getD j 0)) (p), (t.getD (Int.toNat (atI (((fs.take (Int.toNat (min ((fs.length : Int)) 30))).getD j 0)) (p))) default).uses⟩))), (73, cj (e 9) (sv2 (SV.agg 1 (stG ((freeSt t ⟨atI (((fs.take (Int.toNat (min ((fs.length : Int)) 30))).getD j 0)) (p), (t.getD (Int.toNat (atI (((fs.take (Int.toNat (min ((fs.length : Int)) 30))).getD j 0)) (p))) default).uses⟩).1))) (iv ((freeSt t ⟨atI (((fs.take (Int.toNat (min ((fs.length : Int)) 30))).getD j 0)) (p), (t.getD (Int.toNat (atI (((fs.take (Int.toNat (min ((fs.length : Int)) 30))).getD j 0)) (p))) default).uses⟩).2)))), (63, cj (e 10) (sv2 (SV.agg 1 (stG ((freeSt t ⟨atI (((fs.take (Int.toNat (min ((fs.length : Int)) 30))).getD j 0)) (p), (t.getD (Int.toNat (atI (((fs.take (Int.toNat (min ((fs.length : Int)) 30))).getD j 0)) (p))) default).uses⟩).1))) (iv ((freeSt t ⟨atI (((fs.take (Int.toNat (min ((fs.length : Int)) 30))).getD j 0)) (p), (t.getD (Int.toNat (atI (((fs.take (Int.toNat (min ((fs.length : Int)) 30))).getD j 0)) (p))) default).uses⟩).2)))), (74, cj (e 11) (SV.agg 1 (stG ((freeSt t ⟨atI (((fs.take (Int.toNat (min ((fs.length : Int)) 30))).getD j 0)) (p), (t.getD (Int.toNat (atI (((fs.take (Int.toNat (min ((fs.length : Int)) 30))).getD j 0)) (p))) default).uses⟩).1)))), (75, cj (e 12) (iv ((freeSt t ⟨atI (((fs.take (Int.toNat (min ((fs.length : Int)) 30))).getD j 0)) (p), (t.getD (Int.toNat (atI (((fs.take (Int.toNat (min ((fs.length : Int)) 30))).getD j 0)) (p))) default).uses⟩).2))), (14, cj (e 13) (SV.bp 4 0)), (15, cj (e 15) (iv ((freeSt t ⟨atI (((fs.take (Int.toNat (min ((fs.length : Int)) 30))).getD j 0)) (p), (t.getD (Int.toNat (atI (((fs.take (Int.toNat (min ((fs.length : Int)) 30))).getD j 0)) (p))) default).uses⟩).2))), (0, iv (p)), (5, SV.bp 1 0), (10, iv ((r : Int))), (13, iv (atI (((fs.take (Int.toNat (min ((fs.length : Int)) 30))).getD j 0)) (p))), (52, inRow (fs.take (Int.toNat (min ((fs.length : Int)) 30)))), (53, iv (((fs.take (Int.toNat (min ((fs.length : Int)) 30))).length : Int))), (54, iv ((j : Int)))], (cb (e 13) (cb (e 14) [(1, Own.box 1 (stG t) 24), (4, Own.box 1 (stG ((freeSt t ⟨atI (((fs.take (Int.toNat (min ((fs.length : Int)) 30))).getD j 0)) (p), (t.getD (Int.toNat (atI (((fs.take (Int.toNat (min ((fs.length : Int)) 30))).getD j 0)) (p))) default).uses⟩).1)) 24)] [(1, Own.box 1 (stG t) 24), (4, Own.box 1 (cmpG [SV.v (Value.slice none 0 0)]) 24)]) (cb (e 14) [] [(1, Own.box 1 (stG t) 24)]))⟩) ⟨[(64, SV.agg 1 (fun zi => (stG t) (0 + zi))), (65, iv (atI (((fs.take (Int.toNat (min ((fs.length : Int)) 30))).getD j 0)) (p))), (66, SV.bp 1 0), (67, ndRow t), (68, iv (atI (((fs.take (Int.toNat (min ((fs.length : Int)) 30))).getD j 0)) (p))), (69, SV.el t.length 8 (rowG ndCell default t) (Int.toNat (atI (((fs.take (Int.toNat (min ((fs.length : Int)) 30))).getD j 0)) (p))) 0), (70, SV.el t.length 8 (rowG ndCell default t) (Int.toNat (atI (((fs.take (Int.toNat (min ((fs.length : Int)) 30))).getD j 0)) (p))) 1), (71, iv ((t.getD (Int.toNat (atI (((fs.take (Int.toNat (min ((fs.length : Int)) 30))).getD j 0)) (p))) default).uses)), (72, SV.agg 2 (hdCell ⟨atI (((fs.take (Int.toNat (min ((fs.length : Int)) 30))).getD j 0)) (p), (t.getD (Int.toNat (atI (((fs.take (Int.toNat (min ((fs.length : Int)) 30))).getD j 0)) (p))) default).uses⟩)), (73, sv2 (SV.agg 1 (stG ((freeSt t ⟨atI (((fs.take (Int.toNat (min ((fs.length : Int)) 30))).getD j 0)) (p), (t.getD (Int.toNat (atI (((fs.take (Int.toNat (min ((fs.length : Int)) 30))).getD j 0)) (p))) default).uses⟩).1))) (iv ((freeSt t ⟨atI (((fs.take (Int.toNat (min ((fs.length : Int)) 30))).getD j 0)) (p), (t.getD (Int.toNat (atI (((fs.take (Int.toNat (min ((fs.length : Int)) 30))).getD j 0)) (p))) default).uses⟩).2))), (63, sv2 (SV.agg 1 (stG ((freeSt t ⟨atI (((fs.take (Int.toNat (min ((fs.length : Int)) 30))).getD j 0)) (p), (t.getD (Int.toNat (atI (((fs.take (Int.toNat (min ((fs.length : Int)) 30))).getD j 0)) (p))) default).uses⟩).1))) (iv ((freeSt t ⟨atI (((fs.take (Int.toNat (min ((fs.length : Int)) 30))).getD j 0)) (p), (t.getD (Int.toNat (atI (((fs.take (Int.toNat (min ((fs.length : Int)) 30))).getD j 0)) (p))) default).uses⟩).2))), (74, SV.agg 1 (stG ((freeSt t ⟨atI (((fs.take (Int.toNat (min ((fs.length : Int)) 30))).getD j 0)) (p), (t.getD (Int.toNat (atI (((fs.take (Int.toNat (min ((fs.length : Int)) 30))).getD j 0)) (p))) default).uses⟩).1))), (75, iv ((freeSt t ⟨atI (((fs.take (Int.toNat (min ((fs.length : Int)) 30))).getD j 0)) (p), (t.getD (Int.toNat (atI (((fs.take (Int.toNat (min ((fs.length : Int)) 30))).getD j 0)) (p))) default).uses⟩).2)), (14, SV.bp 4 0), (15, iv ((freeSt t ⟨atI (((fs.take (Int.toNat (min ((fs.length : Int)) 30))).getD j 0)) (p), (t.getD (Int.toNat (atI (((fs.take (Int.toNat (min ((fs.length : Int)) 30))).getD j 0)) (p))) default).uses⟩).2)), (0, iv (p)), (5, SV.bp 1 0), (10, iv ((r : Int))), (13, iv (atI (((fs.take (Int.toNat (min ((fs.length : Int)) 30))).getD j 0)) (p))), (52, inRow (fs.take (Int.toNat (min ((fs.length : Int)) 30)))), (53, iv (((fs.take (Int.toNat (min ((fs.length : Int)) 30))).length : Int))), (54, iv ((j : Int)))], [(1, Own.box 1 (stG t) 24), (4, Own.box 1 (stG ((freeSt t ⟨atI (((fs.take (Int.toNat (min ((fs.length : Int)) 30))).getD j 0)) (p), (t.getD (Int.toNat (atI (((fs.take (Int.toNat (min ((fs.length : Int)) 30))).getD j 0)) (p))) default).uses⟩).1)) 24)]⟩ (by kernel_rfl) (by kernel_rfl) ?_ ⟨?_, ?_, ?_, ?_, ?_, ?_, ?_, ?_, ?_, ?_, ?_, ?_, ?_, ?_, ?_, ?_, Z⟩ ?_ ?_
        ·show Weak _ _ ⟨[(64, SV.junk), (65, SV.junk), (66, SV.junk), (67, SV.junk), (68, SV.junk), (69, SV.junk), (70, SV.junk), (71, SV.junk), (72, SV.junk), (73, SV.junk), (63, SV.junk), (74, SV.junk), (75, SV.junk), (14, SV.junk), (15, SV.junk), (0, iv (p)), (5, SV.bp 1 0), (10, iv ((r : Int))), (13, iv (atI (((fs.take (Int.toNat (min ((fs.length : Int)) 30))).getD j 0)) (p))), (52, inRow (fs.take (Int.toNat (min ((fs.length : Int)) 30)))), (53, iv (((fs.take (Int.toNat (min ((fs.length : Int)) 30))).length : Int))), (54, iv ((j : Int)))], [(1, Own.box 1 (stG t) 24)]⟩
         refine We ?_ ?_
         ·exact ⟨Vj, Vj, Vj, Vj, Vj, Vj, Vj, Vj, Vj, Vj, Vj, Vj, Vj, Vj, Vj, V rfl, V rfl, V rfl, V rfl, V rfl, V rfl, V rfl, Z⟩
         ·exact ⟨⟨_, rfl, ⟨rfl, rfl, (An rfl)⟩⟩, Z⟩
        ·intro e hdn he hdp
         have h14 : e 14 = false := fls he fun q => by obtain ⟨-, r11, -, -, -, -, -, -, -, -, -, -, -, -, -, -, -⟩ := (show e 13 = true ∧ e 11 = true ∧ e 9 = true ∧ e 0 = true ∧ e 1 = true ∧ e 2 = true ∧ e 3 = true ∧ e 4 = true ∧ e 5 = true ∧ e 6 = true ∧ e 7 = true ∧ e 8 = true ∧ e 9 = true ∧ e 10 = true ∧ e 11 = true ∧ e 13 = true ∧ True from hdn 14 q); obtain ⟨r10, -⟩ := (show e 10 = true ∧ True from hdn 11 r11); obtain ⟨r9, -⟩ := (show e 9 = true ∧ True from hdn 10 r10); obtain ⟨r0, -, -⟩ := (show e 0 = true ∧ e 8 = true ∧ True from hdn 9 r9); exact r0
         cases hu13 : e 13
         ·simp only [setE, he, h14, hu13, cj_t, cj_f, cjn_t, cjn_f, cb_t, cb_f]
          refine U (LBA (V rfl) rfl Ga24 Sz24 (by decide)) <| Nt <| We ?_ ?_
          ·exact ⟨V rfl, V rfl, V rfl, V rfl, V rfl, V rfl, V rfl, V rfl, V rfl, V rfl, V rfl, V rfl, V rfl, Vj, V rfl, V rfl, V rfl, V rfl, V rfl, V rfl, V rfl, V rfl, Z⟩
          ·exact ⟨⟨_, rfl, ⟨rfl, rfl, (An rfl)⟩⟩, Z⟩
         ·simp only [setE, he, h14, hu13, cj_t, cj_f, cjn_t, cjn_f, cb_t, cb_f]
          refine U (LBA (V rfl) rfl Ga24 Sz24 (by decide)) <| Nt <| We ?_ ?_
          ·exact ⟨V rfl, V rfl, V rfl, V rfl, V rfl, V rfl, V rfl, V rfl, V rfl, V rfl, V rfl, V rfl, V rfl, V rfl, V rfl, V rfl, V rfl, V rfl, V rfl, V rfl, V rfl, V rfl, Z⟩
          ·exact ⟨⟨_, rfl, ⟨rfl, rfl, (An rfl)⟩⟩, ⟨_, rfl, ⟨rfl, rfl, (An rfl)⟩⟩, Z⟩
        ·intro e hdn he hdp
         have h14 : e 14 = false := fls he fun q => by obtain ⟨-, r11, -, -, -, -, -, -, -, -, -, -, -, -, -, -, -⟩ := (show e 13 = true ∧ e 11 = true ∧ e 9 = true ∧ e 0 = true ∧ e 1 = true ∧ e 2 = true ∧ e 3 = true ∧ e 4 = true ∧ e 5 = true ∧ e 6 = true ∧ e 7 = true ∧ e 8 = true ∧ e 9 = true ∧ e 10 = true ∧ e 11 = true ∧ e 13 = true ∧ True from hdn 14 q); obtain ⟨r10, -⟩ := (show e 10 = true ∧ True from hdn 11 r11); obtain ⟨r9, -⟩ := (show e 9 = true ∧ True from hdn 10 r10); obtain ⟨-, r8, -⟩ := (show e 0 = true ∧ e 8 = true ∧ True from hdn 9 r9); obtain ⟨r1, -, -⟩ := (show e 1 = true ∧ e 7 = true ∧ True from hdn 8 r8); exact r1
         simp only [setE, he, h14, cj_t, cj_f, cjn_t, cjn_f, cb_t, cb_f]
         exact U (Mv (V rfl)) <| Nt <| weakS ⟨V rfl, V rfl, V rfl, V rfl, V rfl, V rfl, V rfl, V rfl, V rfl, V rfl, V rfl, V rfl, V rfl, V rfl, V rfl, V rfl, V rfl, V rfl, V rfl, V rfl, V rfl, V rfl, Z⟩
        ·intro e hdn he hdp
         have h14 : e 14 = false := fls he fun q => by obtain ⟨-, r11, -, -, -, -, -, -, -, -, -, -, -, -, -, -, -⟩ := (show e 13 = true ∧ e 11 = true ∧ e 9 = true ∧ e 0 = true ∧ e 1 = true ∧ e 2 = true ∧ e 3 = true ∧ e 4 = true ∧ e 5 = true ∧ e 6 = true ∧ e 7 = true ∧ e 8 = true ∧ e 9 = true ∧ e 10 = true ∧ e 11 = true ∧ e 13 = true ∧ True from hdn 14 q); obtain ⟨r10, -⟩ := (show e 10 = true ∧ True from hdn 11 r11); obtain ⟨r9, -⟩ := (show e 9 = true ∧ True from hdn 10 r10); obtain ⟨-, r8, -⟩ := (show e 0 = true ∧ e 8 = true ∧ True from hdn 9 r9); obtain ⟨-, r7, -⟩ := (show e 1 = true ∧ e 7 = true ∧ True from hdn 8 r8); obtain ⟨r6, -⟩ := (show e 6 = true ∧ True from hdn 7 r7); obtain ⟨r5, -⟩ := (show e 5 = true ∧ True from hdn 6 r6); obtain ⟨r3, -, -⟩ := (show e 3 = true ∧ e 4 = true ∧ True from hdn 5 r5); obtain ⟨r2, -⟩ := (show e 2 = true ∧ True from hdn 3 r3); exact r2
         simp only [setE, he, h14, cj_t, cj_f, cjn_t, cjn_f, cb_t, cb_f]
         exact U (FlB _ _ (V rfl) Un24 rfl 0 Sz22) <| Nt <| weakS ⟨V rfl, V rfl, V rfl, V rfl, V rfl, V rfl, V rfl, V rfl, V rfl, V rfl, V rfl, V rfl, V rfl, V rfl, V rfl, V rfl, V rfl, V rfl, V rfl, V rfl, V rfl, V rfl, Z⟩
        ·intro e hdn he hdp
         obtain ⟨h2, -⟩ := (show e 2 = true ∧ True from hdp)
         have h14 : e 14 = false := fls he fun q => by obtain ⟨-, r11, -, -, -, -, -, -, -, -, -, -, -, -, -, -, -⟩ := (show e 13 = true ∧ e 11 = true ∧ e 9 = true ∧ e 0 = true ∧ e 1 = true ∧ e 2 = true ∧ e 3 = true ∧ e 4 = true ∧ e 5 = true ∧ e 6 = true ∧ e 7 = true ∧ e 8 = true ∧ e 9 = true ∧ e 10 = true ∧ e 11 = true ∧ e 13 = true ∧ True from hdn 14 q); obtain ⟨r10, -⟩ := (show e 10 = true ∧ True from hdn 11 r11); obtain ⟨r9, -⟩ := (show e 9 = true ∧ True from hdn 10 r10); obtain ⟨-, r8, -⟩ := (show e 0 = true ∧ e 8 = true ∧ True from hdn 9 r9); obtain ⟨-, r7, -⟩ := (show e 1 = true ∧ e 7 = true ∧ True from hdn 8 r8); obtain ⟨r6, -⟩ := (show e 6 = true ∧ True from hdn 7 r7); obtain ⟨r5, -⟩ := (show e 5 = true ∧ True from hdn 6 r6); obtain ⟨r3, -, -⟩ := (show e 3 = true ∧ e 4 = true ∧ True from hdn 5 r5); exact r3
         cases hu13 : e 13
         ·simp only [setE, h2, he, h14, hu13, cj_t, cj_f, cjn_t, cjn_f, cb_t, cb_f]
          refine U (LdB (V rfl) rfl Ga22 (by decide)) <| Nt <| We ?_ ?_
          ·exact ⟨V rfl, V rfl, V rfl, V rfl, V rfl, V rfl, V rfl, V rfl, V rfl, V rfl, V rfl, V rfl, V rfl, Vj, V rfl, V rfl, V rfl, V rfl, V rfl, V rfl, V rfl, V rfl, Z⟩
          ·exact ⟨⟨_, rfl, ⟨rfl, rfl, (An rfl)⟩⟩, Z⟩
         ·simp only [setE, h2, he, h14, hu13, cj_t, cj_f, cjn_t, cjn_f, cb_t, cb_f]
          refine U (LdB (V rfl) rfl Ga22 (by decide)) <| Nt <| We ?_ ?_
          ·exact ⟨V rfl, V rfl, V rfl, V rfl, V rfl, V rfl, V rfl, V rfl, V rfl, V rfl, V rfl, V rfl, V rfl, V rfl, V rfl, V rfl, V rfl, V rfl, V rfl, V rfl, V rfl, V rfl, Z⟩
          ·exact ⟨⟨_, rfl, ⟨rfl, rfl, (An rfl)⟩⟩, ⟨_, rfl, ⟨rfl, rfl, (An rfl)⟩⟩, Z⟩
        ·intro e hdn he hdp
         have h14 : e 14 = false := fls he fun q => by obtain ⟨-, r11, -, -, -, -, -, -, -, -, -, -, -, -, -, -, -⟩ := (show e 13 = true ∧ e 11 = true ∧ e 9 = true ∧ e 0 = true ∧ e 1 = true ∧ e 2 = true ∧ e 3 = true ∧ e 4 = true ∧ e 5 = true ∧ e 6 = true ∧ e 7 = true ∧ e 8 = true ∧ e 9 = true ∧ e 10 = true ∧ e 11 = true ∧ e 13 = true ∧ True from hdn 14 q); obtain ⟨r10, -⟩ := (show e 10 = true ∧ True from hdn 11 r11); obtain ⟨r9, -⟩ := (show e 9 = true ∧ True from hdn 10 r10); obtain ⟨-, r8, -⟩ := (show e 0 = true ∧ e 8 = true ∧ True from hdn 9 r9); obtain ⟨-, r7, -⟩ := (show e 1 = true ∧ e 7 = true ∧ True from hdn 8 r8); obtain ⟨r6, -⟩ := (show e 6 = true ∧ True from hdn 7 r7); obtain ⟨r5, -⟩ := (show e 5 = true ∧ True from hdn 6 r6); obtain ⟨-, r4, -⟩ := (show e 3 = true ∧ e 4 = true ∧ True from hdn 5 r5); exact r4
         simp only [setE, he, h14, cj_t, cj_f, cjn_t, cjn_f, cb_t, cb_f]
         exact U (Mv (V rfl)) <| Nt <| weakS ⟨V rfl, V rfl, V rfl, V rfl, V rfl, V rfl, V rfl, V rfl, V rfl, V rfl, V rfl, V rfl, V rfl, V rfl, V rfl, V rfl, V rfl, V rfl, V rfl, V rfl, V rfl, V rfl, Z⟩
        ·intro e hdn he hdp
         obtain ⟨h3, h4, -⟩ := (show e 3 = true ∧ e 4 = true ∧ True from hdp)
         obtain ⟨h2, -⟩ := (show e 2 = true ∧ True from hdn 3 h3)
         have h14 : e 14 = false := fls he fun q => by obtain ⟨-, r11, -, -, -, -, -, -, -, -, -, -, -, -, -, -, -⟩ := (show e 13 = true ∧ e 11 = true ∧ e 9 = true ∧ e 0 = true ∧ e 1 = true ∧ e 2 = true ∧ e 3 = true ∧ e 4 = true ∧ e 5 = true ∧ e 6 = true ∧ e 7 = true ∧ e 8 = true ∧ e 9 = true ∧ e 10 = true ∧ e 11 = true ∧ e 13 = true ∧ True from hdn 14 q); obtain ⟨r10, -⟩ := (show e 10 = true ∧ True from hdn 11 r11); obtain ⟨r9, -⟩ := (show e 9 = true ∧ True from hdn 10 r10); obtain ⟨-, r8, -⟩ := (show e 0 = true ∧ e 8 = true ∧ True from hdn 9 r9); obtain ⟨-, r7, -⟩ := (show e 1 = true ∧ e 7 = true ∧ True from hdn 8 r8); obtain ⟨r6, -⟩ := (show e 6 = true ∧ True from hdn 7 r7); obtain ⟨r5, -⟩ := (show e 5 = true ∧ True from hdn 6 r6); exact r5
         simp only [setE, h2, h3, h4, he, h14, cj_t, cj_f, cjn_t, cjn_f, cb_t, cb_f]
         exact U (Ix (V rfl) (V rfl) ts22 te22 (by omega) (by omega)) <| Nt <| weakS ⟨V rfl, V rfl, V rfl, V rfl, V rfl, V rfl, V rfl, V rfl, V rfl, V rfl, V rfl, V rfl, V rfl, V rfl, V rfl, V rfl, V rfl, V rfl, V rfl, V rfl, V rfl, V rfl, Z⟩
        ·intro e hdn he hdp
         obtain ⟨h5, -⟩ := (show e 5 = true ∧ True from hdp)
         obtain ⟨h3, h4, -⟩ := (show e 3 = true ∧ e 4 = true ∧ True from hdn 5 h5)
         obtain ⟨h2, -⟩ := (show e 2 = true ∧ True from hdn 3 h3)
         have h14 : e 14 = false := fls he fun q => by obtain ⟨-, r11, -, -, -, -, -, -, -, -, -, -, -, -, -, -, -⟩ := (show e 13 = true ∧ e 11 = true ∧ e 9 = true ∧ e 0 = true ∧ e 1 = true ∧ e 2 = true ∧ e 3 = true ∧ e 4 = true ∧ e 5 = true ∧ e 6 = true ∧ e 7 = true ∧ e 8 = true ∧ e 9 = true ∧ e 10 = true ∧ e 11 = true ∧ e 13 = true ∧ True from hdn 14 q); obtain ⟨r10, -⟩ := (show e 10 = true ∧ True from hdn 11 r11); obtain ⟨r9, -⟩ := (show e 9 = true ∧ True from hdn 10 r10); obtain ⟨-, r8, -⟩ := (show e 0 = true ∧ e 8 = true ∧ True from hdn 9 r9); obtain ⟨-, r7, -⟩ := (show e 1 = true ∧ e 7 = true ∧ True from hdn 8 r8); obtain ⟨r6, -⟩ := (show e 6 = true ∧ True from hdn 7 r7); exact r6
         simp only [setE, h2, h3, h4, h5, he, h14, cj_t, cj_f, cjn_t, cjn_f, cb_t, cb_f]
         exact U (Fl _ _ (V rfl) Un61 rfl 0 Sz3) <| Nt <| weakS ⟨V rfl, V rfl, V rfl, V rfl, V rfl, V rfl, V rfl, V rfl, V rfl, V rfl, V rfl, V rfl, V rfl, V rfl, V rfl, V rfl, V rfl, V rfl, V rfl, V rfl, V rfl, V rfl, Z⟩
        ·intro e hdn he hdp
         obtain ⟨h6, -⟩ := (show e 6 = true ∧ True from hdp)
         obtain ⟨h5, -⟩ := (show e 5 = true ∧ True from hdn 6 h6)
         obtain ⟨h3, h4, -⟩ := (show e 3 = true ∧ e 4 = true ∧ True from hdn 5 h5)
         obtain ⟨h2, -⟩ := (show e 2 = true ∧ True from hdn 3 h3)
         have h14 : e 14 = false := fls he fun q => by obtain ⟨-, r11, -, -, -, -, -, -, -, -, -, -, -, -, -, -, -⟩ := (show e 13 = true ∧ e 11 = true ∧ e 9 = true ∧ e 0 = true ∧ e 1 = true ∧ e 2 = true ∧ e 3 = true ∧ e 4 = true ∧ e 5 = true ∧ e 6 = true ∧ e 7 = true ∧ e 8 = true ∧ e 9 = true ∧ e 10 = true ∧ e 11 = true ∧ e 13 = true ∧ True from hdn 14 q); obtain ⟨r10, -⟩ := (show e 10 = true ∧ True from hdn 11 r11); obtain ⟨r9, -⟩ := (show e 9 = true ∧ True from hdn 10 r10); obtain ⟨-, r8, -⟩ := (show e 0 = true ∧ e 8 = true ∧ True from hdn 9 r9); obtain ⟨-, r7, -⟩ := (show e 1 = true ∧ e 7 = true ∧ True from hdn 8 r8); exact r7
         simp only [setE, h2, h3, h4, h5, h6, he, h14, cj_t, cj_f, cjn_t, cjn_f, cb_t, cb_f]
         exact U (Ld (V rfl) Ga3 (by decide)) <| Nt <| weakS ⟨V rfl, V rfl, V rfl, V rfl, V rfl, V rfl, V rfl, V rfl, V rfl, V rfl, V rfl, V rfl, V rfl, V rfl, V rfl, V rfl, V rfl, V rfl, V rfl, V rfl, V rfl, V rfl, Z⟩
        ·intro e hdn he hdp
         obtain ⟨h1, h7, -⟩ := (show e 1 = true ∧ e 7 = true ∧ True from hdp)
         obtain ⟨h6, -⟩ := (show e 6 = true ∧ True from hdn 7 h7)
         obtain ⟨h5, -⟩ := (show e 5 = true ∧ True from hdn 6 h6)
         obtain ⟨h3, h4, -⟩ := (show e 3 = true ∧ e 4 = true ∧ True from hdn 5 h5)
         obtain ⟨h2, -⟩ := (show e 2 = true ∧ True from hdn 3 h3)
         have h14 : e 14 = false := fls he fun q => by obtain ⟨-, r11, -, -, -, -, -, -, -, -, -, -, -, -, -, -, -⟩ := (show e 13 = true ∧ e 11 = true ∧ e 9 = true ∧ e 0 = true ∧ e 1 = true ∧ e 2 = true ∧ e 3 = true ∧ e 4 = true ∧ e 5 = true ∧ e 6 = true ∧ e 7 = true ∧ e 8 = true ∧ e 9 = true ∧ e 10 = true ∧ e 11 = true ∧ e 13 = true ∧ True from hdn 14 q); obtain ⟨r10, -⟩ := (show e 10 = true ∧ True from hdn 11 r11); obtain ⟨r9, -⟩ := (show e 9 = true ∧ True from hdn 10 r10); obtain ⟨-, r8, -⟩ := (show e 0 = true ∧ e 8 = true ∧ True from hdn 9 r9); exact r8
         simp only [setE, h1, h2, h3, h4, h5, h6, h7, he, h14, cj_t, cj_f, cjn_t, cjn_f, cb_t, cb_f]
         exact U (Bu [(0, iv (atI (((fs.take (Int.toNat (min ((fs.length : Int)) 30))).getD j 0)) (p))), (1, iv ((t.getD (Int.toNat (atI (((fs.take (Int.toNat (min ((fs.length : Int)) 30))).getD j 0)) (p))) default).uses))] id (hdCell ⟨atI (((fs.take (Int.toNat (min ((fs.length : Int)) 30))).getD j 0)) (p), (t.getD (Int.toNat (atI (((fs.take (Int.toNat (min ((fs.length : Int)) 30))).getD j 0)) (p))) default).uses⟩) zero26 build26 (by exact ⟨⟨rfl, (V rfl), rfl⟩, ⟨rfl, (V rfl), rfl⟩, Z⟩) (by decide) ⟨⟨Z, rfl⟩, rfl⟩) <| Nt <| weakS ⟨V rfl, V rfl, V rfl, V rfl, V rfl, V rfl, V rfl, V rfl, V rfl, V rfl, V rfl, V rfl, V rfl, V rfl, V rfl, V rfl, V rfl, V rfl, V rfl, V rfl, V rfl, V rfl, Z⟩
        ·intro e hdn he hdp
         obtain ⟨h0, h8, -⟩ := (show e 0 = true ∧ e 8 = true ∧ True from hdp)
         obtain ⟨h1, h7, -⟩ := (show e 1 = true ∧ e 7 = true ∧ True from hdn 8 h8)
         obtain ⟨h6, -⟩ := (show e 6 = true ∧ True from hdn 7 h7)
         obtain ⟨h5, -⟩ := (show e 5 = true ∧ True from hdn 6 h6)
         obtain ⟨h3, h4, -⟩ := (show e 3 = true ∧ e 4 = true ∧ True from hdn 5 h5)
         obtain ⟨h2, -⟩ := (show e 2 = true ∧ True from hdn 3 h3)
         have h14 : e 14 = false := fls he fun q => by obtain ⟨-, r11, -, -, -, -, -, -, -, -, -, -, -, -, -, -, -⟩ := (show e 13 = true ∧ e 11 = true ∧ e 9 = true ∧ e 0 = true ∧ e 1 = true ∧ e 2 = true ∧ e 3 = true ∧ e 4 = true ∧ e 5 = true ∧ e 6 = true ∧ e 7 = true ∧ e 8 = true ∧ e 9 = true ∧ e 10 = true ∧ e 11 = true ∧ e 13 = true ∧ True from hdn 14 q); obtain ⟨r10, -⟩ := (show e 10 = true ∧ True from hdn 11 r11); obtain ⟨r9, -⟩ := (show e 9 = true ∧ True from hdn 10 r10); exact r9
         simp only [setE, h0, h1, h2, h3, h4, h5, h6, h7, h8, he, h14, cj_t, cj_f, cjn_t, cjn_f, cb_t, cb_f]
         exact CT en43 (by exact ⟨⟨(Vi (g' := stG t) (V rfl) ⟨Z, Ir⟩), rfl⟩, ⟨(V rfl), rfl⟩, Z⟩) (free_ct t ⟨atI (((fs.take (Int.toNat (min ((fs.length : Int)) 30))).getD j 0)) (p), (t.getD (Int.toNat (atI (((fs.take (Int.toNat (min ((fs.length : Int)) 30))).getD j 0)) (p))) default).uses⟩ (by first | assumption | exact kb_nil | exact kb_of (by assumption))) <| Nt <| weakS ⟨V rfl, V rfl, V rfl, V rfl, V rfl, V rfl, V rfl, V rfl, V rfl, V rfl, V rfl, V rfl, V rfl, V rfl, V rfl, V rfl, V rfl, V rfl, V rfl, V rfl, V rfl, V rfl, Z⟩
        ·intro e hdn he hdp
         obtain ⟨h9, -⟩ := (show e 9 = true ∧ True from hdp)
         obtain ⟨h0, h8, -⟩ := (show e 0 = true ∧ e 8 = true ∧ True from hdn 9 h9)
         obtain ⟨h1, h7, -⟩ := (show e 1 = true ∧ e 7 = true ∧ True from hdn 8 h8)
         obtain ⟨h6, -⟩ := (show e 6 = true ∧ True from hdn 7 h7)
         obtain ⟨h5, -⟩ := (show e 5 = true ∧ True from hdn 6 h6)
         obtain ⟨h3, h4, -⟩ := (show e 3 = true ∧ e 4 = true ∧ True from hdn 5 h5)
         obtain ⟨h2, -⟩ := (show e 2 = true ∧ True from hdn 3 h3)
         have h14 : e 14 = false := fls he fun q => by obtain ⟨-, r11, -, -, -, -, -, -, -, -, -, -, -, -, -, -, -⟩ := (show e 13 = true ∧ e 11 = true ∧ e 9 = true ∧ e 0 = true ∧ e 1 = true ∧ e 2 = true ∧ e 3 = true ∧ e 4 = true ∧ e 5 = true ∧ e 6 = true ∧ e 7 = true ∧ e 8 = true ∧ e 9 = true ∧ e 10 = true ∧ e 11 = true ∧ e 13 = true ∧ True from hdn 14 q); obtain ⟨r10, -⟩ := (show e 10 = true ∧ True from hdn 11 r11); exact r10
         simp only [setE, h0, h1, h2, h3, h4, h5, h6, h7, h8, h9, he, h14, cj_t, cj_f, cjn_t, cjn_f, cb_t, cb_f]
         exact U (Mv (V rfl)) <| Nt <| weakS ⟨V rfl, V rfl, V rfl, V rfl, V rfl, V rfl, V rfl, V rfl, V rfl, V rfl, V rfl, V rfl, V rfl, V rfl, V rfl, V rfl, V rfl, V rfl, V rfl, V rfl, V rfl, V rfl, Z⟩
        ·intro e hdn he hdp
         obtain ⟨h10, -⟩ := (show e 10 = true ∧ True from hdp)
         obtain ⟨h9, -⟩ := (show e 9 = true ∧ True from hdn 10 h10)
         obtain ⟨h0, h8, -⟩ := (show e 0 = true ∧ e 8 = true ∧ True from hdn 9 h9)
         obtain ⟨h1, h7, -⟩ := (show e 1 = true ∧ e 7 = true ∧ True from hdn 8 h8)
         obtain ⟨h6, -⟩ := (show e 6 = true ∧ True from hdn 7 h7)
         obtain ⟨h5, -⟩ := (show e 5 = true ∧ True from hdn 6 h6)
         obtain ⟨h3, h4, -⟩ := (show e 3 = true ∧ e 4 = true ∧ True from hdn 5 h5)
         obtain ⟨h2, -⟩ := (show e 2 = true ∧ True from hdn 3 h3)
         have h14 : e 14 = false := fls he fun q => by obtain ⟨-, r11, -, -, -, -, -, -, -, -, -, -, -, -, -, -, -⟩ := (show e 13 = true ∧ e 11 = true ∧ e 9 = true ∧ e 0 = true ∧ e 1 = true ∧ e 2 = true ∧ e 3 = true ∧ e 4 = true ∧ e 5 = true ∧ e 6 = true ∧ e 7 = true ∧ e 8 = true ∧ e 9 = true ∧ e 10 = true ∧ e 11 = true ∧ e 13 = true ∧ True from hdn 14 q); exact r11
         simp only [setE, h0, h1, h2, h3, h4, h5, h6, h7, h8, h9, h10, he, h14, cj_t, cj_f, cjn_t, cjn_f, cb_t, cb_f]
         exact U (Xt (V rfl) (by decide)) <| Nt <| weakS ⟨V rfl, V rfl, V rfl, V rfl, V rfl, V rfl, V rfl, V rfl, V rfl, V rfl, V rfl, V rfl, V rfl, V rfl, V rfl, V rfl, V rfl, V rfl, V rfl, V rfl, V rfl, V rfl, Z⟩
        ·intro e hdn he hdp
         obtain ⟨h10, -⟩ := (show e 10 = true ∧ True from hdp)
         obtain ⟨h9, -⟩ := (show e 9 = true ∧ True from hdn 10 h10)
         obtain ⟨h0, h8, -⟩ := (show e 0 = true ∧ e 8 = true ∧ True from hdn 9 h9)
         obtain ⟨h1, h7, -⟩ := (show e 1 = true ∧ e 7 = true ∧ True from hdn 8 h8)
         obtain ⟨h6, -⟩ := (show e 6 = true ∧ True from hdn 7 h7)
         obtain ⟨h5, -⟩ := (show e 5 = true ∧ True from hdn 6 h6)
         obtain ⟨h3, h4, -⟩ := (show e 3 = true ∧ e 4 = true ∧ True from hdn 5 h5)
         obtain ⟨h2, -⟩ := (show e 2 = true ∧ True from hdn 3 h3)
         simp only [setE, h0, h1, h2, h3, h4, h5, h6, h7, h8, h9, h10, he, cj_t, cj_f, cjn_t, cjn_f, cb_t, cb_f]
         exact U (Xt (V rfl) (by decide)) <| Nt <| weakS ⟨V rfl, V rfl, V rfl, V rfl, V rfl, V rfl, V rfl, V rfl, V rfl, V rfl, V rfl, V rfl, V rfl, V rfl, V rfl, V rfl, V rfl, V rfl, V rfl, V rfl, V rfl, V rfl, Z⟩
        ·intro e hdn he hdp
         have h14 : e 14 = false := fls he fun q => by obtain ⟨r13, -, -, -, -, -, -, -, -, -, -, -, -, -, -, -, -⟩ := (show e 13 = true ∧ e 11 = true ∧ e 9 = true ∧ e 0 = true ∧ e 1 = true ∧ e 2 = true ∧ e 3 = true ∧ e 4 = true ∧ e 5 = true ∧ e 6 = true ∧ e 7 = true ∧ e 8 = true ∧ e 9 = true ∧ e 10 = true ∧ e 11 = true ∧ e 13 = true ∧ True from hdn 14 q); exact r13
         simp only [setE, he, h14, cj_t, cj_f, cjn_t, cjn_f, cb_t, cb_f]
         refine Al 4 zero24 (fresh_mk ⟨(noId_cj rfl), (noId_cj rfl), (noId_cj rfl), (noId_cj rfl), (noId_cj rfl), (noId_cj rfl), (noId_cj rfl), (noId_cj rfl), (noId_cj rfl), (noId_cj rfl), (noId_cj rfl), (noId_cj rfl), (noId_cj rfl), rfl, (noId_cj rfl), rfl, rfl, rfl, rfl, rfl, rfl, rfl, Z⟩ rfl rfl) rfl <| Nt <| We ?_ ?_
         ·exact ⟨V rfl, V rfl, V rfl, V rfl, V rfl, V rfl, V rfl, V rfl, V rfl, V rfl, V rfl, V rfl, V rfl, V rfl, V rfl, V rfl, V rfl, V rfl, V rfl, V rfl, V rfl, V rfl, Z⟩
         ·exact ⟨⟨_, rfl, ⟨rfl, rfl, (An rfl)⟩⟩, ⟨_, rfl, ⟨rfl, rfl, (An rfl)⟩⟩, Z⟩
        ·intro e hdn he hdp
         obtain ⟨h13, h11, h9, h0, h1, h2, h3, h4, h5, h6, h7, h8, -, h10, -, -, -⟩ := (show e 13 = true ∧ e 11 = true ∧ e 9 = true ∧ e 0 = true ∧ e 1 = true ∧ e 2 = true ∧ e 3 = true ∧ e 4 = true ∧ e 5 = true ∧ e 6 = true ∧ e 7 = true ∧ e 8 = true ∧ e 9 = true ∧ e 10 = true ∧ e 11 = true ∧ e 13 = true ∧ True from hdp)
         simp only [setE, h0, h1, h2, h3, h4, h5, h6, h7, h8, h9, h10, h11, h13, he, cj_t, cj_f, cjn_t, cjn_f, cb_t, cb_f]
         refine StA (V rfl) rfl (V rfl) Sz24 <| Nt <| We ?_ ?_
         ·exact ⟨V rfl, V rfl, V rfl, V rfl, V rfl, V rfl, V rfl, V rfl, V rfl, V rfl, V rfl, V rfl, V rfl, V rfl, V rfl, V rfl, V rfl, V rfl, V rfl, V rfl, V rfl, V rfl, Z⟩
         ·exact ⟨⟨_, rfl, ⟨rfl, rfl, (An rfl)⟩⟩, ⟨_, rfl, ⟨rfl, rfl, (An rfl)⟩⟩, Z⟩
        ·intro e hdn he hdp
         obtain ⟨h12, h14, h0, h1, h2, h3, h4, h5, h6, h7, h8, h9, h10, h11, -, h13, -, -⟩ := (show e 12 = true ∧ e 14 = true ∧ e 0 = true ∧ e 1 = true ∧ e 2 = true ∧ e 3 = true ∧ e 4 = true ∧ e 5 = true ∧ e 6 = true ∧ e 7 = true ∧ e 8 = true ∧ e 9 = true ∧ e 10 = true ∧ e 11 = true ∧ e 12 = true ∧ e 13 = true ∧ e 14 = true ∧ True from hdp)
         simp only [setE, h0, h1, h2, h3, h4, h5, h6, h7, h8, h9, h10, h11, h12, h13, h14, he, cj_t, cj_f, cjn_t, cjn_f, cb_t, cb_f]
         refine U (As (V rfl)) <| Nt <| We ?_ ?_
         ·exact ⟨V rfl, V rfl, V rfl, V rfl, V rfl, V rfl, V rfl, V rfl, V rfl, V rfl, V rfl, V rfl, V rfl, V rfl, V rfl, V rfl, V rfl, V rfl, V rfl, V rfl, V rfl, V rfl, Z⟩
         ·exact ⟨⟨_, rfl, ⟨rfl, rfl, (An rfl)⟩⟩, ⟨_, rfl, ⟨rfl, rfl, (An rfl)⟩⟩, Z⟩
        ·intro e he
         have h0 := he 0 (by decide)
         have h1 := he 1 (by decide)
         have h2 := he 2 (by decide)
         have h3 := he 3 (by decide)
         have h4 := he 4 (by decide)
         have h5 := he 5 (by decide)
         have h6 := he 6 (by decide)
         have h7 := he 7 (by decide)
         have h8 := he 8 (by decide)
         have h9 := he 9 (by decide)
         have h10 := he 10 (by decide)
         have h11 := he 11 (by decide)
         have h12 := he 12 (by decide)
         have h13 := he 13 (by decide)
         have h14 := he 14 (by decide)
         have h15 := he 15 (by decide)
         show Weak _ ⟨[(64, cj (e 0) (SV.agg 1 (fun zi => (stG t) (0 + zi)))), (65, cj (e 1) (iv (atI (((fs.take (Int.toNat (min ((fs.length : Int)) 30))).getD j 0)) (p)))), (66, cj (e 2) (SV.bp 1 0)), (67, cj (e 3) (ndRow t)), (68, cj (e 4) (iv (atI (((fs.take (Int.toNat (min ((fs.length : Int)) 30))).getD j 0)) (p)))), (69, cj (e 5) (SV.el t.length 8 (rowG ndCell default t) (Int.toNat (atI (((fs.take (Int.toNat (min ((fs.length : Int)) 30))).getD j 0)) (p))) 0)), (70, cj (e 6) (SV.el t.length 8 (rowG ndCell default t) (Int.toNat (atI (((fs.take (Int.toNat (min ((fs.length : Int)) 30))).getD j 0)) (p))) 1)), (71, cj (e 7) (iv ((t.getD (Int.toNat (atI (((fs.take (Int.toNat (min ((fs.length : Int)) 30))).getD j 0)) (p))) default).uses))), (72, cj (e 8) (SV.agg 2 (hdCell ⟨atI (((fs.take (Int.toNat (min ((fs.length : Int)) 30))).getD j 0)) (p), (t.getD (Int.toNat (atI (((fs.take (Int.toNat (min ((fs.length : Int)) 30))).getD j 0)) (p))) default).uses⟩))), (73, cj (e 9) (sv2 (SV.agg 1 (stG ((freeSt t ⟨atI (((fs.take (Int.toNat (min ((fs.length : Int)) 30))).getD j 0)) (p), (t.getD (Int.toNat (atI (((fs.take (Int.toNat (min ((fs.length : Int)) 30))).getD j 0)) (p))) default).uses⟩).1))) (iv ((freeSt t ⟨atI (((fs.take (Int.toNat (min ((fs.length : Int)) 30))).getD j 0)) (p), (t.getD (Int.toNat (atI (((fs.take (Int.toNat (min ((fs.length : Int)) 30))).getD j 0)) (p))) default).uses⟩).2)))), (63, cj (e 10) (sv2 (SV.agg 1 (stG ((freeSt t ⟨atI (((fs.take (Int.toNat (min ((fs.length : Int)) 30))).getD j 0)) (p), (t.getD (Int.toNat (atI (((fs.take (Int.toNat (min ((fs.length : Int)) 30))).getD j 0)) (p))) default).uses⟩).1))) (iv ((freeSt t ⟨atI (((fs.take (Int.toNat (min ((fs.length : Int)) 30))).getD j 0)) (p), (t.getD (Int.toNat (atI (((fs.take (Int.toNat (min ((fs.length : Int)) 30))).getD j 0)) (p))) default).uses⟩).2)))), (74, cj (e 11) (SV.agg 1 (stG ((freeSt t ⟨atI (((fs.take (Int.toNat (min ((fs.length : Int)) 30))).getD j 0)) (p), (t.getD (Int.toNat (atI (((fs.take (Int.toNat (min ((fs.length : Int)) 30))).getD j 0)) (p))) default).uses⟩).1)))), (75, cj (e 12) (iv ((freeSt t ⟨atI (((fs.take (Int.toNat (min ((fs.length : Int)) 30))).getD j 0)) (p), (t.getD (Int.toNat (atI (((fs.take (Int.toNat (min ((fs.length : Int)) 30))).getD j 0)) (p))) default).uses⟩).2))), (14, cj (e 13) (SV.bp 4 0)), (15, cj (e 15) (iv ((freeSt t ⟨atI (((fs.take (Int.toNat (min ((fs.length : Int)) 30))).getD j 0)) (p), (t.getD (Int.toNat (atI (((fs.take (Int.toNat (min ((fs.length : Int)) 30))).getD j 0)) (p))) default).uses⟩).2))), (0, iv (p)), (5, SV.bp 1 0), (10, iv ((r : Int))), (13, iv (atI (((fs.take (Int.toNat (min ((fs.length : Int)) 30))).getD j 0)) (p))), (52, inRow (fs.take (Int.toNat (min ((fs.length : Int)) 30)))), (53, iv (((fs.take (Int.toNat (min ((fs.length : Int)) 30))).length : Int))), (54, iv ((j : Int)))], (cb (e 13) (cb (e 14) [(1, Own.box 1 (stG t) 24), (4, Own.box 1 (stG ((freeSt t ⟨atI (((fs.take (Int.toNat (min ((fs.length : Int)) 30))).getD j 0)) (p), (t.getD (Int.toNat (atI (((fs.take (Int.toNat (min ((fs.length : Int)) 30))).getD j 0)) (p))) default).uses⟩).1)) 24)] [(1, Own.box 1 (stG t) 24), (4, Own.box 1 (cmpG [SV.v (Value.slice none 0 0)]) 24)]) (cb (e 14) [] [(1, Own.box 1 (stG t) 24)]))⟩ _
         simp only [h0, h1, h2, h3, h4, h5, h6, h7, h8, h9, h10, h11, h12, h13, h14, h15]
         show Weak _ ⟨[(64, SV.agg 1 (fun zi => (stG t) (0 + zi))), (65, iv (atI (((fs.take (Int.toNat (min ((fs.length : Int)) 30))).getD j 0)) (p))), (66, SV.bp 1 0), (67, ndRow t), (68, iv (atI (((fs.take (Int.toNat (min ((fs.length : Int)) 30))).getD j 0)) (p))), (69, SV.el t.length 8 (rowG ndCell default t) (Int.toNat (atI (((fs.take (Int.toNat (min ((fs.length : Int)) 30))).getD j 0)) (p))) 0), (70, SV.el t.length 8 (rowG ndCell default t) (Int.toNat (atI (((fs.take (Int.toNat (min ((fs.length : Int)) 30))).getD j 0)) (p))) 1), (71, iv ((t.getD (Int.toNat (atI (((fs.take (Int.toNat (min ((fs.length : Int)) 30))).getD j 0)) (p))) default).uses)), (72, SV.agg 2 (hdCell ⟨atI (((fs.take (Int.toNat (min ((fs.length : Int)) 30))).getD j 0)) (p), (t.getD (Int.toNat (atI (((fs.take (Int.toNat (min ((fs.length : Int)) 30))).getD j 0)) (p))) default).uses⟩)), (73, sv2 (SV.agg 1 (stG ((freeSt t ⟨atI (((fs.take (Int.toNat (min ((fs.length : Int)) 30))).getD j 0)) (p), (t.getD (Int.toNat (atI (((fs.take (Int.toNat (min ((fs.length : Int)) 30))).getD j 0)) (p))) default).uses⟩).1))) (iv ((freeSt t ⟨atI (((fs.take (Int.toNat (min ((fs.length : Int)) 30))).getD j 0)) (p), (t.getD (Int.toNat (atI (((fs.take (Int.toNat (min ((fs.length : Int)) 30))).getD j 0)) (p))) default).uses⟩).2))), (63, sv2 (SV.agg 1 (stG ((freeSt t ⟨atI (((fs.take (Int.toNat (min ((fs.length : Int)) 30))).getD j 0)) (p), (t.getD (Int.toNat (atI (((fs.take (Int.toNat (min ((fs.length : Int)) 30))).getD j 0)) (p))) default).uses⟩).1))) (iv ((freeSt t ⟨atI (((fs.take (Int.toNat (min ((fs.length : Int)) 30))).getD j 0)) (p), (t.getD (Int.toNat (atI (((fs.take (Int.toNat (min ((fs.length : Int)) 30))).getD j 0)) (p))) default).uses⟩).2))), (74, SV.agg 1 (stG ((freeSt t ⟨atI (((fs.take (Int.toNat (min ((fs.length : Int)) 30))).getD j 0)) (p), (t.getD (Int.toNat (atI (((fs.take (Int.toNat (min ((fs.length : Int)) 30))).getD j 0)) (p))) default).uses⟩).1))), (75, iv ((freeSt t ⟨atI (((fs.take (Int.toNat (min ((fs.length : Int)) 30))).getD j 0)) (p), (t.getD (Int.toNat (atI (((fs.take (Int.toNat (min ((fs.length : Int)) 30))).getD j 0)) (p))) default).uses⟩).2)), (14, SV.bp 4 0), (15, iv ((freeSt t ⟨atI (((fs.take (Int.toNat (min ((fs.length : Int)) 30))).getD j 0)) (p), (t.getD (Int.toNat (atI (((fs.take (Int.toNat (min ((fs.length : Int)) 30))).getD j 0)) (p))) default).uses⟩).2)), (0, iv (p)), (5, SV.bp 1 0), (10, iv ((r : Int))), (13, iv (atI (((fs.take (Int.toNat (min ((fs.length : Int)) 30))).getD j 0)) (p))), (52, inRow (fs.take (Int.toNat (min ((fs.length : Int)) 30)))), (53, iv (((fs.take (Int.toNat (min ((fs.length : Int)) 30))).length : Int))), (54, iv ((j : Int)))], [(1, Own.box 1 (stG t) 24), (4, Own.box 1 (stG ((freeSt t ⟨atI (((fs.take (Int.toNat (min ((fs.length : Int)) 30))).getD j 0)) (p), (t.getD (Int.toNat (atI (((fs.take (Int.toNat (min ((fs.length : Int)) 30))).getD j 0)) (p))) default).uses⟩).1)) 24)]⟩ _
         refine We ?_ ?_
         ·exact ⟨Va (V rfl) (An rfl), V rfl, V rfl, V rfl, V rfl, V rfl, V rfl, V rfl, Va (V rfl) (An rfl), V rfl, V rfl, Va (V rfl) (An rfl), V rfl, V rfl, V rfl, V rfl, V rfl, V rfl, V rfl, V rfl, V rfl, V rfl, Z⟩
         ·exact ⟨⟨_, rfl, ⟨rfl, rfl, (An rfl)⟩⟩, ⟨_, rfl, ⟨rfl, rfl, (An rfl)⟩⟩, Z⟩
        refine Sq <| Rq <| O (Mv (V rfl)) <| O (Ql (V rfl) K) <| Nq <| Cd (V rfl) (fun hc9 => ?_) (fun hc9 => ?_)
        ·have hc9s := hc9; try simp only [BL] at hc9s
         have hfr := room_fr (n := p.toNat) hst2 (by decide) (p := atI ((fs.take (Int.toNat (min (fs.length : Int) 30))).getD j 0) p) (by omega) hc9s
         exact Sq <| Rt <| U (LBA (V rfl) rfl Ga24 Sz24 (by decide)) <| StA (V rfl) rfl (V rfl) Sz24 <| Nt <| Rq <| O (Mv (V rfl)) <| O (Ad (V rfl) K (by omega)) <| O (As (V rfl)) <| Nq <| Rq <| O (Ad (V rfl) K (by omega)) <| O (Mv (V rfl)) <| Nq <| Nx (j + 1, (freeSt t (⟨atI ((fs.take (Int.toNat (min (fs.length : Int) 30))).getD j 0) p, (t.getD (Int.toNat (atI ((fs.take (Int.toNat (min (fs.length : Int) 30))).getD j 0) p)) default).uses⟩ : Hd)).1, r + 1) (by show (r + 1) ≤ (j + 1) ∧ (j + 1) ≤ (fs.take (Int.toNat (min (fs.length : Int) 30))).length ∧ RoomSt p.toNat ((freeSt t (⟨atI ((fs.take (Int.toNat (min (fs.length : Int) 30))).getD j 0) p, (t.getD (Int.toNat (atI ((fs.take (Int.toNat (min (fs.length : Int) 30))).getD j 0) p)) default).uses⟩ : Hd)).1) (r + 1) 24; exact ⟨by omega, by omega, hfr⟩) (by show (fs.take (Int.toNat (min (fs.length : Int) 30))).length - (j + 1) < (fs.take (Int.toNat (min (fs.length : Int) 30))).length - j; omega) (We (ow := [(1, Own.box 1 (stG (((freeSt t (⟨atI ((fs.take (Int.toNat (min (fs.length : Int) 30))).getD j 0) p, (t.getD (Int.toNat (atI ((fs.take (Int.toNat (min (fs.length : Int) 30))).getD j 0) p)) default).uses⟩ : Hd)).1))) 24)]) (Vs rfl) (by exact ⟨⟨_, rfl, rfl, rfl, (An rfl)⟩, Z⟩))
        ·have hc9s := hc9; try simp only [BL] at hc9s
         exact Sk <| Rq <| O (Ad (V rfl) K (by omega)) <| O (Mv (V rfl)) <| Nq <| Nx (j + 1, t, r) (by show r ≤ (j + 1) ∧ (j + 1) ≤ (fs.take (Int.toNat (min (fs.length : Int) 30))).length ∧ RoomSt p.toNat t r 24; exact ⟨by omega, by omega, hst2⟩) (by show (fs.take (Int.toNat (min (fs.length : Int) 30))).length - (j + 1) < (fs.take (Int.toNat (min (fs.length : Int) 30))).length - j; omega) (We (ow := [(1, Own.box 1 (stG t) 24)]) (Vs rfl) (by exact ⟨⟨_, rfl, rfl, rfl, (An rfl)⟩, Z⟩))
      ·have hc5s := hc5; try simp only [BL] at hc5s
       refine Ex <| Sq <| Sq <| Rq <| O (Mv (V rfl)) <| O (Mv K) <| Nq <| Bo <| Lo (uc2 fun (k : Nat) (v : List Nd) => ⟨[(5, SV.bp 1 0), (82, iv ((r : Int))), (83, iv ((k : Int)))], [(1, Own.box 1 (stG v) 24)]⟩) (uc2 fun (k : Nat) (v : List Nd) => k ≤ r ∧ ∃ u, RoomSt p.toNat v (r - k) u) (uc2 fun (k : Nat) (v : List Nd) => r - k) (0, t) (by show 0 ≤ r ∧ ∃ u, RoomSt p.toNat t (r - 0) u; exact ⟨Nat.zero_le _, 24, hst2⟩) (We (ow := [(1, Own.box 1 (stG t) 24)]) (Vs rfl) (by exact ⟨⟨_, rfl, rfl, rfl, (An rfl)⟩, Z⟩)) <| ?_
       ·rintro ⟨k, v⟩ hI4
        have hJ4 : k ≤ r ∧ ∃ u, RoomSt p.toNat v (r - k) u := hI4
        obtain ⟨hkr, u3, hst3⟩ := hJ4
        have hok3 := hst3.ok
        refine Sq <| Rq <| O (Lt (V rfl) (V rfl)) <| Nq <| Sq <| Cd (V rfl) (fun hc10 => ?_) (fun hc10 => ?_)
        ·have hc10s := hc10; try simp only [BL] at hc10s
         have hmk3 := room_mk (n := p.toNat) (s := v) (u := u3) (r := r - (k + 1)) (g := 2) (by rw [show r - (k + 1) + 1 = r - k by omega]; exact hst3) (by decide)
         refine Sk <| Sq <| Bo <| Sq <| Rt <| U (LBA (V rfl) rfl Ga24 Sz24 (by decide)) <| CT en40 (by exact ⟨⟨(Vi (g' := stG v) (V rfl) ⟨Z, Ir⟩), rfl⟩, ⟨K, rfl⟩, Z⟩) (make_ct v 2 (by first | assumption | exact kb_nil | exact kb_of (by assumption))) <| U (Mv (V rfl)) <| U (Xt (V rfl) (by decide)) <| U (Xt (V rfl) (by decide)) <| U (Xt (V rfl) (by decide)) <| StA (V rfl) rfl (V rfl) Sz24 <| U (As (V rfl)) <| Nt <| Sq <| Rq <| O (Mv (V rfl)) <| O (Qn (V rfl) K) <| Nq <| Cd (V rfl) (fun hc11 => ?_) (fun hc11 => ?_)
         ·have hc11s := hc11; try simp only [BL] at hc11s
          exact absurd hmk3.2 hc11s
          --done
         ·have hc11s := hc11; try simp only [BL] at hc11s
          exact Sk <| Rq <| O (Ad (V rfl) K (by omega)) <| O (Mv (V rfl)) <| Nq <| Nx (k + 1, (mkSt v 2).1) (by show (k + 1) ≤ r ∧ ∃ u, RoomSt p.toNat ((mkSt v 2).1) (r - (k + 1)) u; exact ⟨by omega, _, hmk3.1⟩) (by show r - (k + 1) < r - k; omega) (We (ow := [(1, Own.box 1 (stG (((mkSt v 2).1))) 24)]) (Vs rfl) (by exact ⟨⟨_, rfl, rfl, rfl, (An rfl)⟩, Z⟩))
        ·have hc10s := hc10; try simp only [BL] at hc10s
         exact Ex <| Sq <| Rt <| U (LBA (V rfl) rfl Ga24 Sz24 (by decide)) <| CT en40 (by exact ⟨⟨(Vi (g' := stG v) (V rfl) ⟨Z, Ir⟩), rfl⟩, ⟨K, rfl⟩, Z⟩) (make_ct v 3 (by first | assumption | exact kb_nil | exact kb_of (by assumption))) <| U (Mv (V rfl)) <| U (Xt (V rfl) (by decide)) <| U (Xt (V rfl) (by decide)) <| U (Xt (V rfl) (by decide)) <| U (As (V rfl)) <| Nt <| Sq <| Rq <| O (Mv (V rfl)) <| O (Ql (V rfl) K) <| O (As (V rfl)) <| Nq <| Rx <| R1 rfl (V rfl) rfl (by show bv (decide ((mkSt v 3).2.2 = 1)) = bv true; exact congrArg bv (decide_eq_true (mk_full hst3.ok (by decide) (by have := hst3.cnt; omega))))

end Go.Proofs.Ytmcdamcedemdiaa
