/- What the proof of EventSays rests on, part 5: the engine, the walks, the plain laws. -/
import Derived.Test.YtmcdamcedemdiaaEventSaysM4
set_option linter.unusedVariables false
set_option linter.unusedSimpArgs false
namespace Go.Proofs.Ytmcdamcedemdiaa
open Go.RowKit Go.Eng
theorem famN : Ct Try.prog 47 [iv 6] (sv2 (SV.agg 1 (stG fam0)) (iv 0)) := by
  have h := new_ct 6
  rw [fam_0] at h
  exact h
theorem famM0 : Ct Try.prog 40 [SV.agg 1 (stG fam0), iv 0] (sv3 (SV.agg 1 (stG fam1)) (SV.agg 2 (hdCell ⟨0, 1⟩)) (iv 0)) := by
  have h := make_ct fam0 0 (kb_of fam_c0)
  rw [fam_1] at h
  exact h
theorem famM1 : Ct Try.prog 40 [SV.agg 1 (stG fam1), iv 1] (sv3 (SV.agg 1 (stG fam2)) (SV.agg 2 (hdCell ⟨1, 1⟩)) (iv 0)) := by
  have h := make_ct fam1 1 (kb_of fam_c1)
  rw [fam_2] at h
  exact h
theorem famM2 : Ct Try.prog 40 [SV.agg 1 (stG fam2), iv 2] (sv3 (SV.agg 1 (stG fam3)) (SV.agg 2 (hdCell ⟨2, 1⟩)) (iv 0)) := by
  have h := make_ct fam2 2 (kb_of fam_c2)
  rw [fam_3] at h
  exact h
theorem famI4 : Ct Try.prog 56 [SV.agg 1 (stG fam3), SV.agg 2 (hdCell ⟨0, 1⟩), SV.agg 2 (hdCell ⟨1, 1⟩), hdRow []] (sv2 (SV.agg 1 (stG fam4)) (iv 0)) := by
  have h := insert_ct fam3 ⟨0, 1⟩ ⟨1, 1⟩ [] (kb_of fam_c3)
  rw [fam_4] at h
  exact h
theorem famI5 : Ct Try.prog 56 [SV.agg 1 (stG fam4), SV.agg 2 (hdCell ⟨0, 1⟩), SV.agg 2 (hdCell ⟨2, 1⟩), hdRow [⟨1, 1⟩]] (sv2 (SV.agg 1 (stG fam5)) (iv 0)) := by
  have h := insert_ct fam4 ⟨0, 1⟩ ⟨2, 1⟩ [⟨1, 1⟩] (kb_of fam_c4)
  rw [fam_5] at h
  exact h
theorem family_ct  : Ct Try.prog 103 [] (sv3 (SV.agg 1 (stG fam5)) (SV.agg 6 (cmpG [iv (0), iv (1), iv (1), iv (1), iv (2), iv (1)])) (bv (true))) := by
 refine CtO 69 Try.func103 rfl rfl rfl fun E => Sq <| Rt <| Al 1 zero24 rfl rfl <| Al 2 zero113 rfl rfl <| U (As K) <| Nt <| Sq <| Rt <| CT en47 (by exact ⟨⟨K, rfl⟩, Z⟩) (famN) <| U (Mv (V rfl)) <| U (Xt (V rfl) (by decide)) <| U (Xt (V rfl) (by decide)) <| Al 3 zero24 rfl rfl <| StA (V rfl) rfl (V rfl) Sz24 <| U (As (V rfl)) <| Nt <| Sq <| Rq <| O (Mv (V rfl)) <| O (Ql (V rfl) K) <| O (As (V rfl)) <| Nq <| Sq <| Rt <| Al 4 zero113 rfl rfl <| Nt <| Sq <| Sq <| Rq <| O (Mv K) <| Nq <| Bo <| Lo (fun (i : Nat) => ⟨[(0, SV.bp 1 0), (1, SV.bp 2 0), (3, SV.bp 3 0), (5, bv (true)), (6, SV.bp 4 0), (14, iv ((i : Int)))], [(1, Own.box 1 (cmpG [SV.v (Value.slice none 0 0)]) 24), (2, Own.box 6 (cmpG [iv (0), iv (0), iv (0), iv (0), iv (0), iv (0)]) 113), (3, Own.box 1 (stG (famS i)) 24), (4, Own.box 6 (famH i) 113)]⟩) (fun (i : Nat) => i ≤ 3) (fun (i : Nat) => 3 - i) 0 (by show 0 ≤ 3; decide) (We (sl := [(0, SV.bp 1 0), (1, SV.bp 2 0), (3, SV.bp 3 0), (5, bv (true)), (6, SV.bp 4 0), (14, iv (0))]) (ow := [(1, Own.box 1 (cmpG [SV.v (Value.slice none 0 0)]) 24), (2, Own.box 6 (cmpG [iv (0), iv (0), iv (0), iv (0), iv (0), iv (0)]) 113), (3, Own.box 1 (stG (fam0)) 24), (4, Own.box 6 (famH 0) 113)]) (by exact ⟨V rfl, V rfl, V rfl, val_eq (V rfl) rfl, V rfl, V rfl, Z⟩) (by exact ⟨⟨_, rfl, rfl, rfl, (An rfl)⟩, ⟨_, rfl, rfl, rfl, (An rfl)⟩, ⟨_, rfl, rfl, rfl, (An rfl)⟩, ⟨_, rfl, rfl, rfl, (An rfl)⟩, Z⟩)) <| ?_
 ·rintro i hI1
  have hJ1 : i ≤ 3 := hI1
  rcases (show i = 0 ∨ i = 1 ∨ i = 2 ∨ i = 3 by omega) with rfl | rfl | rfl | rfl
  ·show C _ E _ ⟨[(0, SV.bp 1 0), (1, SV.bp 2 0), (3, SV.bp 3 0), (5, bv (true)), (6, SV.bp 4 0), (14, iv (0))], [(1, Own.box 1 (cmpG [SV.v (Value.slice none 0 0)]) 24), (2, Own.box 6 (cmpG [iv (0), iv (0), iv (0), iv (0), iv (0), iv (0)]) 113), (3, Own.box 1 (stG (fam0)) 24), (4, Own.box 6 (famH 0) 113)]⟩ _
   refine Sq <| Rq <| O (Lt (V rfl) K) <| Nq <| Sq <| Cd (V rfl) (fun hc1 => ?_) (fun hc1 => ?_)
   ·have hc1s := hc1; try simp only [BL] at hc1s
    exact Sk <| Sq <| Bo <| Sq <| Rq <| O (Mv (V rfl)) <| O (As (V rfl)) <| Nq <| Sq <| Rt <| U (Mv (V rfl)) <| U (LBA (V rfl) rfl Ga24 Sz24 (by decide)) <| U (Mv (V rfl)) <| CT en40 (by exact ⟨⟨(Vi (g' := stG fam0) (V rfl) ⟨Z, Ir⟩), rfl⟩, ⟨(V rfl), rfl⟩, Z⟩) (famM0) <| U (Mv (V rfl)) <| U (Xt (V rfl) (by decide)) <| U (Xt (V rfl) (by decide)) <| U (Xt (V rfl) (by decide)) <| StA (V rfl) rfl (V rfl) Sz24 <| U (q_ixB (i := 0) (V rfl) (V rfl) ta113 te113 (by rw [al113]; decide)) <| t_stP (fun zt => ([iv (0), iv (1), iv (0), iv (0), iv (0), iv (0)] : List SV).getD zt .junk) (V rfl) rfl (V rfl) Sz26 (by decide) (An rfl) <| U (As (V rfl)) <| Nt <| Rq <| O (Mv (V rfl)) <| O (Mv (V rfl)) <| Og (Gy rfl rfl) (fun hg => Mv (V rfl)) <| Og (Gy rfl rfl) (fun hg => Ql (Vg (V rfl) hg) K) <| O (Qa (V rfl) (fun h => Vg (V rfl) h)) <| O (As (V rfl)) <| Nq <| Rq <| O (Ad (V rfl) K (by omega)) <| O (Mv (V rfl)) <| Nq <| Nx (1) (by show 1 ≤ 3; decide) (by show 3 - 1 < 3 - 0; decide) (We (sl := [(0, SV.bp 1 0), (1, SV.bp 2 0), (3, SV.bp 3 0), (5, bv (true)), (6, SV.bp 4 0), (14, iv (1))]) (ow := [(1, Own.box 1 (cmpG [SV.v (Value.slice none 0 0)]) 24), (2, Own.box 6 (cmpG [iv (0), iv (0), iv (0), iv (0), iv (0), iv (0)]) 113), (3, Own.box 1 (stG (fam1)) 24), (4, Own.box 6 (famH 1) 113)]) (by exact ⟨V rfl, V rfl, V rfl, val_eq (V rfl) rfl, V rfl, V rfl, Z⟩) (by exact ⟨⟨_, rfl, rfl, rfl, (An rfl)⟩, ⟨_, rfl, rfl, rfl, (An rfl)⟩, ⟨_, rfl, rfl, rfl, (An rfl)⟩, ⟨_, rfl, rfl, rfl, (An rfl)⟩, Z⟩))
   ·exact absurd hc1 (by decide)
  ·show C _ E _ ⟨[(0, SV.bp 1 0), (1, SV.bp 2 0), (3, SV.bp 3 0), (5, bv (true)), (6, SV.bp 4 0), (14, iv (1))], [(1, Own.box 1 (cmpG [SV.v (Value.slice none 0 0)]) 24), (2, Own.box 6 (cmpG [iv (0), iv (0), iv (0), iv (0), iv (0), iv (0)]) 113), (3, Own.box 1 (stG (fam1)) 24), (4, Own.box 6 (famH 1) 113)]⟩ _
   refine Sq <| Rq <| O (Lt (V rfl) K) <| Nq <| Sq <| Cd (V rfl) (fun hc2 => ?_) (fun hc2 => ?_)
   ·have hc2s := hc2; try simp only [BL] at hc2s
    exact Sk <| Sq <| Bo <| Sq <| Rq <| O (Mv (V rfl)) <| O (As (V rfl)) <| Nq <| Sq <| Rt <| U (Mv (V rfl)) <| U (LBA (V rfl) rfl Ga24 Sz24 (by decide)) <| U (Mv (V rfl)) <| CT en40 (by exact ⟨⟨(Vi (g' := stG fam1) (V rfl) ⟨Z, Ir⟩), rfl⟩, ⟨(V rfl), rfl⟩, Z⟩) (famM1) <| U (Mv (V rfl)) <| U (Xt (V rfl) (by decide)) <| U (Xt (V rfl) (by decide)) <| U (Xt (V rfl) (by decide)) <| StA (V rfl) rfl (V rfl) Sz24 <| U (q_ixB (i := 1) (V rfl) (V rfl) ta113 te113 (by rw [al113]; decide)) <| t_stP (fun zt => ([iv (0), iv (1), iv (1), iv (1), iv (0), iv (0)] : List SV).getD zt .junk) (V rfl) rfl (V rfl) Sz26 (by decide) (An rfl) <| U (As (V rfl)) <| Nt <| Rq <| O (Mv (V rfl)) <| O (Mv (V rfl)) <| Og (Gy rfl rfl) (fun hg => Mv (V rfl)) <| Og (Gy rfl rfl) (fun hg => Ql (Vg (V rfl) hg) K) <| O (Qa (V rfl) (fun h => Vg (V rfl) h)) <| O (As (V rfl)) <| Nq <| Rq <| O (Ad (V rfl) K (by omega)) <| O (Mv (V rfl)) <| Nq <| Nx (2) (by show 2 ≤ 3; decide) (by show 3 - 2 < 3 - 1; decide) (We (sl := [(0, SV.bp 1 0), (1, SV.bp 2 0), (3, SV.bp 3 0), (5, bv (true)), (6, SV.bp 4 0), (14, iv (2))]) (ow := [(1, Own.box 1 (cmpG [SV.v (Value.slice none 0 0)]) 24), (2, Own.box 6 (cmpG [iv (0), iv (0), iv (0), iv (0), iv (0), iv (0)]) 113), (3, Own.box 1 (stG (fam2)) 24), (4, Own.box 6 (famH 2) 113)]) (by exact ⟨V rfl, V rfl, V rfl, val_eq (V rfl) rfl, V rfl, V rfl, Z⟩) (by exact ⟨⟨_, rfl, rfl, rfl, (An rfl)⟩, ⟨_, rfl, rfl, rfl, (An rfl)⟩, ⟨_, rfl, rfl, rfl, (An rfl)⟩, ⟨_, rfl, rfl, rfl, (An rfl)⟩, Z⟩))
   ·exact absurd hc2 (by decide)
  ·show C _ E _ ⟨[(0, SV.bp 1 0), (1, SV.bp 2 0), (3, SV.bp 3 0), (5, bv (true)), (6, SV.bp 4 0), (14, iv (2))], [(1, Own.box 1 (cmpG [SV.v (Value.slice none 0 0)]) 24), (2, Own.box 6 (cmpG [iv (0), iv (0), iv (0), iv (0), iv (0), iv (0)]) 113), (3, Own.box 1 (stG (fam2)) 24), (4, Own.box 6 (famH 2) 113)]⟩ _
   refine Sq <| Rq <| O (Lt (V rfl) K) <| Nq <| Sq <| Cd (V rfl) (fun hc3 => ?_) (fun hc3 => ?_)
   ·have hc3s := hc3; try simp only [BL] at hc3s
    exact Sk <| Sq <| Bo <| Sq <| Rq <| O (Mv (V rfl)) <| O (As (V rfl)) <| Nq <| Sq <| Rt <| U (Mv (V rfl)) <| U (LBA (V rfl) rfl Ga24 Sz24 (by decide)) <| U (Mv (V rfl)) <| CT en40 (by exact ⟨⟨(Vi (g' := stG fam2) (V rfl) ⟨Z, Ir⟩), rfl⟩, ⟨(V rfl), rfl⟩, Z⟩) (famM2) <| U (Mv (V rfl)) <| U (Xt (V rfl) (by decide)) <| U (Xt (V rfl) (by decide)) <| U (Xt (V rfl) (by decide)) <| StA (V rfl) rfl (V rfl) Sz24 <| U (q_ixB (i := 2) (V rfl) (V rfl) ta113 te113 (by rw [al113]; decide)) <| t_stP (fun zt => ([iv (0), iv (1), iv (1), iv (1), iv (2), iv (1)] : List SV).getD zt .junk) (V rfl) rfl (V rfl) Sz26 (by decide) (An rfl) <| U (As (V rfl)) <| Nt <| Rq <| O (Mv (V rfl)) <| O (Mv (V rfl)) <| Og (Gy rfl rfl) (fun hg => Mv (V rfl)) <| Og (Gy rfl rfl) (fun hg => Ql (Vg (V rfl) hg) K) <| O (Qa (V rfl) (fun h => Vg (V rfl) h)) <| O (As (V rfl)) <| Nq <| Rq <| O (Ad (V rfl) K (by omega)) <| O (Mv (V rfl)) <| Nq <| Nx (3) (by show 3 ≤ 3; decide) (by show 3 - 3 < 3 - 2; decide) (We (sl := [(0, SV.bp 1 0), (1, SV.bp 2 0), (3, SV.bp 3 0), (5, bv (true)), (6, SV.bp 4 0), (14, iv (3))]) (ow := [(1, Own.box 1 (cmpG [SV.v (Value.slice none 0 0)]) 24), (2, Own.box 6 (cmpG [iv (0), iv (0), iv (0), iv (0), iv (0), iv (0)]) 113), (3, Own.box 1 (stG (fam3)) 24), (4, Own.box 6 (famH 3) 113)]) (by exact ⟨V rfl, V rfl, V rfl, val_eq (V rfl) rfl, V rfl, V rfl, Z⟩) (by exact ⟨⟨_, rfl, rfl, rfl, (An rfl)⟩, ⟨_, rfl, rfl, rfl, (An rfl)⟩, ⟨_, rfl, rfl, rfl, (An rfl)⟩, ⟨_, rfl, rfl, rfl, (An rfl)⟩, Z⟩))
   ·exact absurd hc3 (by decide)
  ·show C _ E _ ⟨[(0, SV.bp 1 0), (1, SV.bp 2 0), (3, SV.bp 3 0), (5, bv (true)), (6, SV.bp 4 0), (14, iv (3))], [(1, Own.box 1 (cmpG [SV.v (Value.slice none 0 0)]) 24), (2, Own.box 6 (cmpG [iv (0), iv (0), iv (0), iv (0), iv (0), iv (0)]) 113), (3, Own.box 1 (stG (fam3)) 24), (4, Own.box 6 (famH 3) 113)]⟩ _
   refine Sq <| Rq <| O (Lt (V rfl) K) <| Nq <| Sq <| Cd (V rfl) (fun hc4 => ?_) (fun hc4 => ?_)
   ·exact absurd hc4 (by decide)
   ·have hc4s := hc4; try simp only [BL] at hc4s
    refine Ex <| Sq <| Rt <| U (LBA (V rfl) rfl Ga24 Sz24 (by decide)) <| U (q_ixB (i := 0) (V rfl) K ta113 te113 (by rw [al113]; decide)) <| U (LBA (V rfl) rfl Ga26 Sz26 (by decide)) <| U (q_ixB (i := 1) (V rfl) K ta113 te113 (by rw [al113]; decide)) <| U (LBA (V rfl) rfl Ga26 Sz26 (by decide)) <| CT en56 (by exact ⟨⟨(Vi (g' := stG fam3) (V rfl) ⟨Z, Ir⟩), rfl⟩, ⟨(Vi (g' := hdCell ⟨0, 1⟩) (V rfl) ⟨⟨Z, Ir⟩, Ir⟩), rfl⟩, ⟨(Vi (g' := hdCell ⟨1, 1⟩) (V rfl) ⟨⟨Z, Ir⟩, Ir⟩), rfl⟩, ⟨Vn, rfl⟩, Z⟩) (famI4) <| U (Mv (V rfl)) <| U (Xt (V rfl) (by decide)) <| U (Xt (V rfl) (by decide)) <| StA (V rfl) rfl (V rfl) Sz24 <| U (As (V rfl)) <| Nt <| Sq <| Rq <| O (Mv (V rfl)) <| O (Mv (V rfl)) <| Og (Gy rfl rfl) (fun hg => Mv (V rfl)) <| Og (Gy rfl rfl) (fun hg => Ql (Vg (V rfl) hg) K) <| O (Qa (V rfl) (fun h => Vg (V rfl) h)) <| O (As (V rfl)) <| Nq <| Sq <| c_frzB 4 [iv (0), iv (1), iv (1), iv (1), iv (2), iv (1)] rfl rfl ⟨⟨⟨⟨⟨⟨Z, rfl⟩, rfl⟩, rfl⟩, rfl⟩, rfl⟩, rfl⟩ rfl <| c_rd (fun e => ⟨[(47, cj (e 0) (SV.agg 1 (fun zi => (stG fam4) (0 + zi)))), (48, cj (e 1) (elB [iv (0), iv (1), iv (1), iv (1), iv (2), iv (1)] 0)), (49, cj (e 2) (SV.agg 2 (fun zi => (fun zt => ([iv (0), iv (1), iv (1), iv (1), iv (2), iv (1)] : List SV).getD zt .junk) (0 + zi)))), (50, cj (e 3) (elB [iv (0), iv (1), iv (1), iv (1), iv (2), iv (1)] 4)), (51, cj (e 4) (SV.agg 2 (fun zi => (fun zt => ([iv (0), iv (1), iv (1), iv (1), iv (2), iv (1)] : List SV).getD zt .junk) (4 + zi)))), (52, cj (e 5) (hdRow ([⟨1, 1⟩]))), (53, cj (e 6) (sv2 (SV.agg 1 (stG fam5)) (iv (0)))), (46, cj (e 7) (sv2 (SV.agg 1 (stG fam5)) (iv (0)))), (54, cj (e 8) (SV.agg 1 (stG fam5))), (55, cj (e 9) (iv (0))), (4, cj (e 11) (iv (0))), (0, SV.bp 1 0), (1, SV.bp 2 0), (3, SV.bp 3 0), (5, bv (true && (decide ((0 : Int) = 0)))), (6, elB [iv (0), iv (1), iv (1), iv (1), iv (2), iv (1)] 0)], (cb (e 10) [(1, Own.box 1 (cmpG [SV.v (Value.slice none 0 0)]) 24), (2, Own.box 6 (cmpG [iv (0), iv (0), iv (0), iv (0), iv (0), iv (0)]) 113), (3, Own.box 1 (stG fam5) 24)] [(1, Own.box 1 (cmpG [SV.v (Value.slice none 0 0)]) 24), (2, Own.box 6 (cmpG [iv (0), iv (0), iv (0), iv (0), iv (0), iv (0)]) 113), (3, Own.box 1 (stG fam4) 24)])⟩) ⟨[(47, SV.agg 1 (fun zi => (stG fam4) (0 + zi))), (48, elB [iv (0), iv (1), iv (1), iv (1), iv (2), iv (1)] 0), (49, SV.agg 2 (fun zi => (fun zt => ([iv (0), iv (1), iv (1), iv (1), iv (2), iv (1)] : List SV).getD zt .junk) (0 + zi))), (50, elB [iv (0), iv (1), iv (1), iv (1), iv (2), iv (1)] 4), (51, SV.agg 2 (fun zi => (fun zt => ([iv (0), iv (1), iv (1), iv (1), iv (2), iv (1)] : List SV).getD zt .junk) (4 + zi))), (52, hdRow ([⟨1, 1⟩])), (53, sv2 (SV.agg 1 (stG fam5)) (iv (0))), (46, sv2 (SV.agg 1 (stG fam5)) (iv (0))), (54, SV.agg 1 (stG fam5)), (55, iv (0)), (4, iv (0)), (0, SV.bp 1 0), (1, SV.bp 2 0), (3, SV.bp 3 0), (5, bv (true && (decide ((0 : Int) = 0)))), (6, elB [iv (0), iv (1), iv (1), iv (1), iv (2), iv (1)] 0)], [(1, Own.box 1 (cmpG [SV.v (Value.slice none 0 0)]) 24), (2, Own.box 6 (cmpG [iv (0), iv (0), iv (0), iv (0), iv (0), iv (0)]) 113), (3, Own.box 1 (stG fam5) 24)]⟩ (by kernel_rfl) (by kernel_rfl) ?_ ⟨?_, ?_, ?_, ?_, ?_, ?_, ?_, ?_, ?_, ?_, ?_, ?_, Z⟩ ?_ ?_
    ·show Weak _ _ ⟨[(47, SV.junk), (48, SV.junk), (49, SV.junk), (50, SV.junk), (51, SV.junk), (52, SV.junk), (53, SV.junk), (46, SV.junk), (54, SV.junk), (55, SV.junk), (4, SV.junk), (0, SV.bp 1 0), (1, SV.bp 2 0), (3, SV.bp 3 0), (5, bv (true && (decide ((0 : Int) = 0)))), (6, elB [iv (0), iv (1), iv (1), iv (1), iv (2), iv (1)] 0)], [(1, Own.box 1 (cmpG [SV.v (Value.slice none 0 0)]) 24), (2, Own.box 6 (cmpG [iv (0), iv (0), iv (0), iv (0), iv (0), iv (0)]) 113), (3, Own.box 1 (stG fam4) 24)]⟩
     refine We ?_ ?_
     ·exact ⟨Vj, Vj, Vj, Vj, Vj, Vj, Vj, Vj, Vj, Vj, Vj, V rfl, V rfl, V rfl, V rfl, V rfl, Z⟩
     ·exact ⟨⟨_, rfl, ⟨rfl, rfl, (An rfl)⟩⟩, ⟨_, rfl, ⟨rfl, rfl, (An rfl)⟩⟩, ⟨_, rfl, ⟨rfl, rfl, (An rfl)⟩⟩, Z⟩
    ·intro e hdn he hdp
     have h10 : e 10 = false := fls he fun q => by obtain ⟨r8, -, -, -, -, -, -, -, -, -, -, -⟩ := (show e 8 = true ∧ e 6 = true ∧ e 0 = true ∧ e 1 = true ∧ e 2 = true ∧ e 3 = true ∧ e 4 = true ∧ e 5 = true ∧ e 6 = true ∧ e 7 = true ∧ e 8 = true ∧ True from hdn 10 q); obtain ⟨r7, -⟩ := (show e 7 = true ∧ True from hdn 8 r8); obtain ⟨r6, -⟩ := (show e 6 = true ∧ True from hdn 7 r7); obtain ⟨r0, -, -, -, -⟩ := (show e 0 = true ∧ e 2 = true ∧ e 4 = true ∧ e 5 = true ∧ True from hdn 6 r6); exact r0
     simp only [setE, he, h10, cj_t, cj_f, cjn_t, cjn_f, cb_t, cb_f]
     refine U (LBA (V rfl) rfl Ga24 Sz24 (by decide)) <| Nt <| We ?_ ?_
     ·exact ⟨V rfl, V rfl, V rfl, V rfl, V rfl, V rfl, V rfl, V rfl, V rfl, V rfl, V rfl, V rfl, V rfl, V rfl, V rfl, V rfl, Z⟩
     ·exact ⟨⟨_, rfl, ⟨rfl, rfl, (An rfl)⟩⟩, ⟨_, rfl, ⟨rfl, rfl, (An rfl)⟩⟩, ⟨_, rfl, ⟨rfl, rfl, (An rfl)⟩⟩, Z⟩
    ·intro e hdn he hdp
     have h10 : e 10 = false := fls he fun q => by obtain ⟨r8, -, -, -, -, -, -, -, -, -, -, -⟩ := (show e 8 = true ∧ e 6 = true ∧ e 0 = true ∧ e 1 = true ∧ e 2 = true ∧ e 3 = true ∧ e 4 = true ∧ e 5 = true ∧ e 6 = true ∧ e 7 = true ∧ e 8 = true ∧ True from hdn 10 q); obtain ⟨r7, -⟩ := (show e 7 = true ∧ True from hdn 8 r8); obtain ⟨r6, -⟩ := (show e 6 = true ∧ True from hdn 7 r7); obtain ⟨-, r2, -, -, -⟩ := (show e 0 = true ∧ e 2 = true ∧ e 4 = true ∧ e 5 = true ∧ True from hdn 6 r6); obtain ⟨r1, -⟩ := (show e 1 = true ∧ True from hdn 2 r2); exact r1
     simp only [setE, he, h10, cj_t, cj_f, cjn_t, cjn_f, cb_t, cb_f]
     refine U (q_ixE (i := 0) (V rfl) K ta113 te113 (by rw [al113]; decide)) <| Nt <| We ?_ ?_
     ·exact ⟨V rfl, V rfl, V rfl, V rfl, V rfl, V rfl, V rfl, V rfl, V rfl, V rfl, V rfl, V rfl, V rfl, V rfl, V rfl, V rfl, Z⟩
     ·exact ⟨⟨_, rfl, ⟨rfl, rfl, (An rfl)⟩⟩, ⟨_, rfl, ⟨rfl, rfl, (An rfl)⟩⟩, ⟨_, rfl, ⟨rfl, rfl, (An rfl)⟩⟩, Z⟩
    ·intro e hdn he hdp
     obtain ⟨h1, -⟩ := (show e 1 = true ∧ True from hdp)
     have h10 : e 10 = false := fls he fun q => by obtain ⟨r8, -, -, -, -, -, -, -, -, -, -, -⟩ := (show e 8 = true ∧ e 6 = true ∧ e 0 = true ∧ e 1 = true ∧ e 2 = true ∧ e 3 = true ∧ e 4 = true ∧ e 5 = true ∧ e 6 = true ∧ e 7 = true ∧ e 8 = true ∧ True from hdn 10 q); obtain ⟨r7, -⟩ := (show e 7 = true ∧ True from hdn 8 r8); obtain ⟨r6, -⟩ := (show e 6 = true ∧ True from hdn 7 r7); obtain ⟨-, r2, -, -, -⟩ := (show e 0 = true ∧ e 2 = true ∧ e 4 = true ∧ e 5 = true ∧ True from hdn 6 r6); exact r2
     simp only [setE, h1, he, h10, cj_t, cj_f, cjn_t, cjn_f, cb_t, cb_f]
     refine U (LdA (V rfl) Ga26 Sz26 (by show 0 + 2 ≤ 6; decide)) <| Nt <| We ?_ ?_
     ·exact ⟨V rfl, V rfl, V rfl, V rfl, V rfl, V rfl, V rfl, V rfl, V rfl, V rfl, V rfl, V rfl, V rfl, V rfl, V rfl, V rfl, Z⟩
     ·exact ⟨⟨_, rfl, ⟨rfl, rfl, (An rfl)⟩⟩, ⟨_, rfl, ⟨rfl, rfl, (An rfl)⟩⟩, ⟨_, rfl, ⟨rfl, rfl, (An rfl)⟩⟩, Z⟩
    ·intro e hdn he hdp
     have h10 : e 10 = false := fls he fun q => by obtain ⟨r8, -, -, -, -, -, -, -, -, -, -, -⟩ := (show e 8 = true ∧ e 6 = true ∧ e 0 = true ∧ e 1 = true ∧ e 2 = true ∧ e 3 = true ∧ e 4 = true ∧ e 5 = true ∧ e 6 = true ∧ e 7 = true ∧ e 8 = true ∧ True from hdn 10 q); obtain ⟨r7, -⟩ := (show e 7 = true ∧ True from hdn 8 r8); obtain ⟨r6, -⟩ := (show e 6 = true ∧ True from hdn 7 r7); obtain ⟨-, -, r4, -, -⟩ := (show e 0 = true ∧ e 2 = true ∧ e 4 = true ∧ e 5 = true ∧ True from hdn 6 r6); obtain ⟨r3, -⟩ := (show e 3 = true ∧ True from hdn 4 r4); exact r3
     simp only [setE, he, h10, cj_t, cj_f, cjn_t, cjn_f, cb_t, cb_f]
     refine U (q_ixE (i := 2) (V rfl) K ta113 te113 (by rw [al113]; decide)) <| Nt <| We ?_ ?_
     ·exact ⟨V rfl, V rfl, V rfl, V rfl, V rfl, V rfl, V rfl, V rfl, V rfl, V rfl, V rfl, V rfl, V rfl, V rfl, V rfl, V rfl, Z⟩
     ·exact ⟨⟨_, rfl, ⟨rfl, rfl, (An rfl)⟩⟩, ⟨_, rfl, ⟨rfl, rfl, (An rfl)⟩⟩, ⟨_, rfl, ⟨rfl, rfl, (An rfl)⟩⟩, Z⟩
    ·intro e hdn he hdp
     obtain ⟨h3, -⟩ := (show e 3 = true ∧ True from hdp)
     have h10 : e 10 = false := fls he fun q => by obtain ⟨r8, -, -, -, -, -, -, -, -, -, -, -⟩ := (show e 8 = true ∧ e 6 = true ∧ e 0 = true ∧ e 1 = true ∧ e 2 = true ∧ e 3 = true ∧ e 4 = true ∧ e 5 = true ∧ e 6 = true ∧ e 7 = true ∧ e 8 = true ∧ True from hdn 10 q); obtain ⟨r7, -⟩ := (show e 7 = true ∧ True from hdn 8 r8); obtain ⟨r6, -⟩ := (show e 6 = true ∧ True from hdn 7 r7); obtain ⟨-, -, r4, -, -⟩ := (show e 0 = true ∧ e 2 = true ∧ e 4 = true ∧ e 5 = true ∧ True from hdn 6 r6); exact r4
     simp only [setE, h3, he, h10, cj_t, cj_f, cjn_t, cjn_f, cb_t, cb_f]
     refine U (LdA (V rfl) Ga26 Sz26 (by show 4 + 2 ≤ 6; decide)) <| Nt <| We ?_ ?_
     ·exact ⟨V rfl, V rfl, V rfl, V rfl, V rfl, V rfl, V rfl, V rfl, V rfl, V rfl, V rfl, V rfl, V rfl, V rfl, V rfl, V rfl, Z⟩
     ·exact ⟨⟨_, rfl, ⟨rfl, rfl, (An rfl)⟩⟩, ⟨_, rfl, ⟨rfl, rfl, (An rfl)⟩⟩, ⟨_, rfl, ⟨rfl, rfl, (An rfl)⟩⟩, Z⟩
    ·intro e hdn he hdp
     have h10 : e 10 = false := fls he fun q => by obtain ⟨r8, -, -, -, -, -, -, -, -, -, -, -⟩ := (show e 8 = true ∧ e 6 = true ∧ e 0 = true ∧ e 1 = true ∧ e 2 = true ∧ e 3 = true ∧ e 4 = true ∧ e 5 = true ∧ e 6 = true ∧ e 7 = true ∧ e 8 = true ∧ True from hdn 10 q); obtain ⟨r7, -⟩ := (show e 7 = true ∧ True from hdn 8 r8); obtain ⟨r6, -⟩ := (show e 6 = true ∧ True from hdn 7 r7); obtain ⟨-, -, -, r5, -⟩ := (show e 0 = true ∧ e 2 = true ∧ e 4 = true ∧ e 5 = true ∧ True from hdn 6 r6); exact r5
     simp only [setE, he, h10, cj_t, cj_f, cjn_t, cjn_f, cb_t, cb_f]
     refine U (q_slA (cell := hdCell) (d := default) (k := 2) (l := 1) (h := 2) [⟨1, 1⟩] ta113 te113 (V rfl) K K (by decide) (by rw [al113]; decide) (by rw [al113]; decide) (by rw [al113]; decide) rfl (fun i hi => match i, hi with | 0, _ => An rfl)) <| Nt <| We ?_ ?_
     ·exact ⟨V rfl, V rfl, V rfl, V rfl, V rfl, V rfl, V rfl, V rfl, V rfl, V rfl, V rfl, V rfl, V rfl, V rfl, V rfl, V rfl, Z⟩
     ·exact ⟨⟨_, rfl, ⟨rfl, rfl, (An rfl)⟩⟩, ⟨_, rfl, ⟨rfl, rfl, (An rfl)⟩⟩, ⟨_, rfl, ⟨rfl, rfl, (An rfl)⟩⟩, Z⟩
    ·intro e hdn he hdp
     obtain ⟨h0, h2, h4, h5, -⟩ := (show e 0 = true ∧ e 2 = true ∧ e 4 = true ∧ e 5 = true ∧ True from hdp)
     obtain ⟨h3, -⟩ := (show e 3 = true ∧ True from hdn 4 h4)
     obtain ⟨h1, -⟩ := (show e 1 = true ∧ True from hdn 2 h2)
     have h10 : e 10 = false := fls he fun q => by obtain ⟨r8, -, -, -, -, -, -, -, -, -, -, -⟩ := (show e 8 = true ∧ e 6 = true ∧ e 0 = true ∧ e 1 = true ∧ e 2 = true ∧ e 3 = true ∧ e 4 = true ∧ e 5 = true ∧ e 6 = true ∧ e 7 = true ∧ e 8 = true ∧ True from hdn 10 q); obtain ⟨r7, -⟩ := (show e 7 = true ∧ True from hdn 8 r8); obtain ⟨r6, -⟩ := (show e 6 = true ∧ True from hdn 7 r7); exact r6
     simp only [setE, h0, h1, h2, h3, h4, h5, he, h10, cj_t, cj_f, cjn_t, cjn_f, cb_t, cb_f]
     refine CT en56 (by exact ⟨⟨(Vi (g' := stG fam4) (V rfl) ⟨Z, Ir⟩), rfl⟩, ⟨(Vi (g' := hdCell ⟨0, 1⟩) (V rfl) ⟨⟨Z, Ir⟩, Ir⟩), rfl⟩, ⟨(Vi (g' := hdCell ⟨2, 1⟩) (V rfl) ⟨⟨Z, Ir⟩, Ir⟩), rfl⟩, ⟨(V rfl), rfl⟩, Z⟩) (famI5) <| Nt <| We ?_ ?_
     ·exact ⟨V rfl, V rfl, V rfl, V rfl, V rfl, V rfl, V rfl, V rfl, V rfl, V rfl, V rfl, V rfl, V rfl, V rfl, V rfl, V rfl, Z⟩
     ·exact ⟨⟨_, rfl, ⟨rfl, rfl, (An rfl)⟩⟩, ⟨_, rfl, ⟨rfl, rfl, (An rfl)⟩⟩, ⟨_, rfl, ⟨rfl, rfl, (An rfl)⟩⟩, Z⟩
    ·intro e hdn he hdp
     obtain ⟨h6, -⟩ := (show e 6 = true ∧ True from hdp)
     obtain ⟨h0, h2, h4, h5, -⟩ := (show e 0 = true ∧ e 2 = true ∧ e 4 = true ∧ e 5 = true ∧ True from hdn 6 h6)
     obtain ⟨h3, -⟩ := (show e 3 = true ∧ True from hdn 4 h4)
     obtain ⟨h1, -⟩ := (show e 1 = true ∧ True from hdn 2 h2)
     have h10 : e 10 = false := fls he fun q => by obtain ⟨r8, -, -, -, -, -, -, -, -, -, -, -⟩ := (show e 8 = true ∧ e 6 = true ∧ e 0 = true ∧ e 1 = true ∧ e 2 = true ∧ e 3 = true ∧ e 4 = true ∧ e 5 = true ∧ e 6 = true ∧ e 7 = true ∧ e 8 = true ∧ True from hdn 10 q); obtain ⟨r7, -⟩ := (show e 7 = true ∧ True from hdn 8 r8); exact r7
     simp only [setE, h0, h1, h2, h3, h4, h5, h6, he, h10, cj_t, cj_f, cjn_t, cjn_f, cb_t, cb_f]
     refine U (Mv (V rfl)) <| Nt <| We ?_ ?_
     ·exact ⟨V rfl, V rfl, V rfl, V rfl, V rfl, V rfl, V rfl, V rfl, V rfl, V rfl, V rfl, V rfl, V rfl, V rfl, V rfl, V rfl, Z⟩
     ·exact ⟨⟨_, rfl, ⟨rfl, rfl, (An rfl)⟩⟩, ⟨_, rfl, ⟨rfl, rfl, (An rfl)⟩⟩, ⟨_, rfl, ⟨rfl, rfl, (An rfl)⟩⟩, Z⟩
    ·intro e hdn he hdp
     obtain ⟨h7, -⟩ := (show e 7 = true ∧ True from hdp)
     obtain ⟨h6, -⟩ := (show e 6 = true ∧ True from hdn 7 h7)
     obtain ⟨h0, h2, h4, h5, -⟩ := (show e 0 = true ∧ e 2 = true ∧ e 4 = true ∧ e 5 = true ∧ True from hdn 6 h6)
     obtain ⟨h3, -⟩ := (show e 3 = true ∧ True from hdn 4 h4)
     obtain ⟨h1, -⟩ := (show e 1 = true ∧ True from hdn 2 h2)
     have h10 : e 10 = false := fls he fun q => by obtain ⟨r8, -, -, -, -, -, -, -, -, -, -, -⟩ := (show e 8 = true ∧ e 6 = true ∧ e 0 = true ∧ e 1 = true ∧ e 2 = true ∧ e 3 = true ∧ e 4 = true ∧ e 5 = true ∧ e 6 = true ∧ e 7 = true ∧ e 8 = true ∧ True from hdn 10 q); exact r8
     simp only [setE, h0, h1, h2, h3, h4, h5, h6, h7, he, h10, cj_t, cj_f, cjn_t, cjn_f, cb_t, cb_f]
     refine U (Xt (V rfl) (by decide)) <| Nt <| We ?_ ?_
     ·exact ⟨V rfl, V rfl, V rfl, V rfl, V rfl, V rfl, V rfl, V rfl, V rfl, V rfl, V rfl, V rfl, V rfl, V rfl, V rfl, V rfl, Z⟩
     ·exact ⟨⟨_, rfl, ⟨rfl, rfl, (An rfl)⟩⟩, ⟨_, rfl, ⟨rfl, rfl, (An rfl)⟩⟩, ⟨_, rfl, ⟨rfl, rfl, (An rfl)⟩⟩, Z⟩
    ·intro e hdn he hdp
     obtain ⟨h7, -⟩ := (show e 7 = true ∧ True from hdp)
     obtain ⟨h6, -⟩ := (show e 6 = true ∧ True from hdn 7 h7)
     obtain ⟨h0, h2, h4, h5, -⟩ := (show e 0 = true ∧ e 2 = true ∧ e 4 = true ∧ e 5 = true ∧ True from hdn 6 h6)
     obtain ⟨h3, -⟩ := (show e 3 = true ∧ True from hdn 4 h4)
     obtain ⟨h1, -⟩ := (show e 1 = true ∧ True from hdn 2 h2)
     simp only [setE, h0, h1, h2, h3, h4, h5, h6, h7, he, cj_t, cj_f, cjn_t, cjn_f, cb_t, cb_f]
     exact U (Xt (V rfl) (by decide)) <| Nt <| weakS ⟨V rfl, V rfl, V rfl, V rfl, V rfl, V rfl, V rfl, V rfl, V rfl, V rfl, V rfl, V rfl, V rfl, V rfl, V rfl, V rfl, Z⟩
    ·intro e hdn he hdp
     obtain ⟨h8, h6, h0, h1, h2, h3, h4, h5, -, h7, -, -⟩ := (show e 8 = true ∧ e 6 = true ∧ e 0 = true ∧ e 1 = true ∧ e 2 = true ∧ e 3 = true ∧ e 4 = true ∧ e 5 = true ∧ e 6 = true ∧ e 7 = true ∧ e 8 = true ∧ True from hdp)
     simp only [setE, h0, h1, h2, h3, h4, h5, h6, h7, h8, he, cj_t, cj_f, cjn_t, cjn_f, cb_t, cb_f]
     refine StA (V rfl) rfl (V rfl) Sz24 <| Nt <| We ?_ ?_
     ·exact ⟨V rfl, V rfl, V rfl, V rfl, V rfl, V rfl, V rfl, V rfl, V rfl, V rfl, V rfl, V rfl, V rfl, V rfl, V rfl, V rfl, Z⟩
     ·exact ⟨⟨_, rfl, ⟨rfl, rfl, (An rfl)⟩⟩, ⟨_, rfl, ⟨rfl, rfl, (An rfl)⟩⟩, ⟨_, rfl, ⟨rfl, rfl, (An rfl)⟩⟩, Z⟩
    ·intro e hdn he hdp
     obtain ⟨h9, h10, h0, h1, h2, h3, h4, h5, h6, h7, h8, -, -, -⟩ := (show e 9 = true ∧ e 10 = true ∧ e 0 = true ∧ e 1 = true ∧ e 2 = true ∧ e 3 = true ∧ e 4 = true ∧ e 5 = true ∧ e 6 = true ∧ e 7 = true ∧ e 8 = true ∧ e 9 = true ∧ e 10 = true ∧ True from hdp)
     simp only [setE, h0, h1, h2, h3, h4, h5, h6, h7, h8, h9, h10, he, cj_t, cj_f, cjn_t, cjn_f, cb_t, cb_f]
     refine U (As (V rfl)) <| Nt <| We ?_ ?_
     ·exact ⟨V rfl, V rfl, V rfl, V rfl, V rfl, V rfl, V rfl, V rfl, V rfl, V rfl, V rfl, V rfl, V rfl, V rfl, V rfl, V rfl, Z⟩
     ·exact ⟨⟨_, rfl, ⟨rfl, rfl, (An rfl)⟩⟩, ⟨_, rfl, ⟨rfl, rfl, (An rfl)⟩⟩, ⟨_, rfl, ⟨rfl, rfl, (An rfl)⟩⟩, Z⟩
    ·intro e he
     have h0 := he 0 (by decide)
     have h1 := he 1 (by decide)
     have h2 := he 2 (by decide)
     have h3 := he 3 (by decide)
     have h4 := he 4 (by decide)
     have h5 := he 5 (by decide)
     have h6 := he 6 (by decide)
     have h7 := he 7 (by decide)
     have h8 := he 8 (by decide)
     have h9 := he 9 (by decide)
     have h10 := he 10 (by decide)
     have h11 := he 11 (by decide)
     show Weak _ ⟨[(47, cj (e 0) (SV.agg 1 (fun zi => (stG fam4) (0 + zi)))), (48, cj (e 1) (elB [iv (0), iv (1), iv (1), iv (1), iv (2), iv (1)] 0)), (49, cj (e 2) (SV.agg 2 (fun zi => (fun zt => ([iv (0), iv (1), iv (1), iv (1), iv (2), iv (1)] : List SV).getD zt .junk) (0 + zi)))), (50, cj (e 3) (elB [iv (0), iv (1), iv (1), iv (1), iv (2), iv (1)] 4)), (51, cj (e 4) (SV.agg 2 (fun zi => (fun zt => ([iv (0), iv (1), iv (1), iv (1), iv (2), iv (1)] : List SV).getD zt .junk) (4 + zi)))), (52, cj (e 5) (hdRow ([⟨1, 1⟩]))), (53, cj (e 6) (sv2 (SV.agg 1 (stG fam5)) (iv (0)))), (46, cj (e 7) (sv2 (SV.agg 1 (stG fam5)) (iv (0)))), (54, cj (e 8) (SV.agg 1 (stG fam5))), (55, cj (e 9) (iv (0))), (4, cj (e 11) (iv (0))), (0, SV.bp 1 0), (1, SV.bp 2 0), (3, SV.bp 3 0), (5, bv (true && (decide ((0 : Int) = 0)))), (6, elB [iv (0), iv (1), iv (1), iv (1), iv (2), iv (1)] 0)], (cb (e 10) [(1, Own.box 1 (cmpG [SV.v (Value.slice none 0 0)]) 24), (2, Own.box 6 (cmpG [iv (0), iv (0), iv (0), iv (0), iv (0), iv (0)]) 113), (3, Own.box 1 (stG fam5) 24)] [(1, Own.box 1 (cmpG [SV.v (Value.slice none 0 0)]) 24), (2, Own.box 6 (cmpG [iv (0), iv (0), iv (0), iv (0), iv (0), iv (0)]) 113), (3, Own.box 1 (stG fam4) 24)])⟩ _
     simp only [h0, h1, h2, h3, h4, h5, h6, h7, h8, h9, h10, h11]
     show Weak _ ⟨[(47, SV.agg 1 (fun zi => (stG fam4) (0 + zi))), (48, elB [iv (0), iv (1), iv (1), iv (1), iv (2), iv (1)] 0), (49, SV.agg 2 (fun zi => (fun zt => ([iv (0), iv (1), iv (1), iv (1), iv (2), iv (1)] : List SV).getD zt .junk) (0 + zi))), (50, elB [iv (0), iv (1), iv (1), iv (1), iv (2), iv (1)] 4), (51, SV.agg 2 (fun zi => (fun zt => ([iv (0), iv (1), iv (1), iv (1), iv (2), iv (1)] : List SV).getD zt .junk) (4 + zi))), (52, hdRow ([⟨1, 1⟩])), (53, sv2 (SV.agg 1 (stG fam5)) (iv (0))), (46, sv2 (SV.agg 1 (stG fam5)) (iv (0))), (54, SV.agg 1 (stG fam5)), (55, iv (0)), (4, iv (0)), (0, SV.bp 1 0), (1, SV.bp 2 0), (3, SV.bp 3 0), (5, bv (true && (decide ((0 : Int) = 0)))), (6, elB [iv (0), iv (1), iv (1), iv (1), iv (2), iv (1)] 0)], [(1, Own.box 1 (cmpG [SV.v (Value.slice none 0 0)]) 24), (2, Own.box 6 (cmpG [iv (0), iv (0), iv (0), iv (0), iv (0), iv (0)]) 113), (3, Own.box 1 (stG fam5) 24)]⟩ _
     refine We ?_ ?_
     ·exact ⟨Va (V rfl) (An rfl), V rfl, Va (V rfl) (An rfl), V rfl, Va (V rfl) (An rfl), V rfl, V rfl, V rfl, Va (V rfl) (An rfl), V rfl, V rfl, V rfl, V rfl, V rfl, V rfl, V rfl, Z⟩
     ·exact ⟨⟨_, rfl, ⟨rfl, rfl, (An rfl)⟩⟩, ⟨_, rfl, ⟨rfl, rfl, (An rfl)⟩⟩, ⟨_, rfl, ⟨rfl, rfl, (An rfl)⟩⟩, Z⟩
    refine Sq <| c_rd (fun e => ⟨[(56, cj (e 0) (SV.agg 1 (fun zi => (stG fam5) (0 + zi)))), (57, cj (e 1) (SV.agg 6 (fun zi => (fun zt => ([iv (0), iv (1), iv (1), iv (1), iv (2), iv (1)] : List SV).getD zt .junk) (0 + zi)))), (58, cj (e 2) (bv (true && (decide ((0 : Int) = 0))))), (59, cj (e 3) (bv (true && (decide ((0 : Int) = 0))))), (60, cj (e 4) (SV.grd ((true && (decide ((0 : Int) = 0)))) (iv (0)))), (61, cj (e 5) (SV.grd ((true && (decide ((0 : Int) = 0)))) (bv (decide ((0 : Int) = 0))))), (62, cj (e 6) (bv ((true && (decide ((0 : Int) = 0))) && (decide ((0 : Int) = 0))))), (63, cj (e 7) (bv ((true && (decide ((0 : Int) = 0))) && (decide ((0 : Int) = 0))))), (64, cj (e 8) (SV.grd (((true && (decide ((0 : Int) = 0))) && (decide ((0 : Int) = 0)))) (SV.bp 3 0))), (65, cj (e 9) (SV.grd (((true && (decide ((0 : Int) = 0))) && (decide ((0 : Int) = 0)))) (ndRow fam5))), (66, cj (e 10) (SV.grd (((true && (decide ((0 : Int) = 0))) && (decide ((0 : Int) = 0)))) (iv ((fam5.length : Int))))), (67, cj (e 11) (SV.grd (((true && (decide ((0 : Int) = 0))) && (decide ((0 : Int) = 0)))) (bv (decide ((fam5.length : Int) = 6))))), (68, cj (e 12) (bv (((true && (decide ((0 : Int) = 0))) && (decide ((0 : Int) = 0))) && (decide ((fam5.length : Int) = 6))))), (2, cj (e 15) (bv (((true && (decide ((0 : Int) = 0))) && (decide ((0 : Int) = 0))) && (decide ((fam5.length : Int) = 6))))), (0, SV.bp 1 0), (1, SV.bp 2 0), (3, SV.bp 3 0), (4, iv (0)), (5, bv (true && (decide ((0 : Int) = 0)))), (6, elB [iv (0), iv (1), iv (1), iv (1), iv (2), iv (1)] 0)], (cb (e 13) (cb (e 14) [(1, Own.box 1 (fun zi => (stG fam5) (0 + zi)) 24), (2, Own.box 6 (fun zi => (fun zt => ([iv (0), iv (1), iv (1), iv (1), iv (2), iv (1)] : List SV).getD zt .junk) (0 + zi)) 113), (3, Own.box 1 (stG fam5) 24)] [(1, Own.box 1 (fun zi => (stG fam5) (0 + zi)) 24), (2, Own.box 6 (cmpG [iv (0), iv (0), iv (0), iv (0), iv (0), iv (0)]) 113), (3, Own.box 1 (stG fam5) 24)]) (cb (e 14) [] [(1, Own.box 1 (cmpG [SV.v (Value.slice none 0 0)]) 24), (2, Own.box 6 (cmpG [iv (0), iv (0), iv (0), iv (0), iv (0), iv (0)]) 113), (3, Own.box 1 (stG fam5) 24)]))⟩) ⟨[(56, SV.agg 1 (fun zi => (stG fam5) (0 + zi))), (57, SV.agg 6 (fun zi => (fun zt => ([iv (0), iv (1), iv (1), iv (1), iv (2), iv (1)] : List SV).getD zt .junk) (0 + zi))), (58, bv (true && (decide ((0 : Int) = 0)))), (59, bv (true && (decide ((0 : Int) = 0)))), (60, SV.grd ((true && (decide ((0 : Int) = 0)))) (iv (0))), (61, SV.grd ((true && (decide ((0 : Int) = 0)))) (bv (decide ((0 : Int) = 0)))), (62, bv ((true && (decide ((0 : Int) = 0))) && (decide ((0 : Int) = 0)))), (63, bv ((true && (decide ((0 : Int) = 0))) && (decide ((0 : Int) = 0)))), (64, SV.grd (((true && (decide ((0 : Int) = 0))) && (decide ((0 : Int) = 0)))) (SV.bp 3 0)), (65, SV.grd (((true && (decide ((0 : Int) = 0))) && (decide ((0 : Int) = 0)))) (ndRow fam5)), (66, SV.grd (((true && (decide ((0 : Int) = 0))) && (decide ((0 : Int) = 0)))) (iv ((fam5.length : Int)))), (67, SV.grd (((true && (decide ((0 : Int) = 0))) && (decide ((0 : Int) = 0)))) (bv (decide ((fam5.length : Int) = 6)))), (68, bv (((true && (decide ((0 : Int) = 0))) && (decide ((0 : Int) = 0))) && (decide ((fam5.length : Int) = 6)))), (2, bv (((true && (decide ((0 : Int) = 0))) && (decide ((0 : Int) = 0))) && (decide ((fam5.length : Int) = 6)))), (0, SV.bp 1 0), (1, SV.bp 2 0), (3, SV.bp 3 0), (4, iv (0)), (5, bv (true && (decide ((0 : Int) = 0)))), (6, elB [iv (0), iv (1), iv (1), iv (1), iv (2), iv (1)] 0)], [(1, Own.box 1 (fun zi => (stG fam5) (0 + zi)) 24), (2, Own.box 6 (fun zi => (fun zt => ([iv (0), iv (1), iv (1), iv (1), iv (2), iv (1)] : List SV).getD zt .junk) (0 + zi)) 113), (3, Own.box 1 (stG fam5) 24)]⟩ (by kernel_rfl) (by kernel_rfl) ?_ ⟨?_, ?_, ?_, ?_, ?_, ?_, ?_, ?_, ?_, ?_, ?_, ?_, ?_, ?_, ?_, ?_, Z⟩ ?_ ?_
    ·show Weak _ _ ⟨[(56, SV.junk), (57, SV.junk), (58, SV.junk), (59, SV.junk), (60, SV.junk), (61, SV.junk), (62, SV.junk), (63, SV.junk), (64, SV.junk), (65, SV.junk), (66, SV.junk), (67, SV.junk), (68, SV.junk), (2, SV.junk), (0, SV.bp 1 0), (1, SV.bp 2 0), (3, SV.bp 3 0), (4, iv (0)), (5, bv (true && (decide ((0 : Int) = 0)))), (6, elB [iv (0), iv (1), iv (1), iv (1), iv (2), iv (1)] 0)], [(1, Own.box 1 (cmpG [SV.v (Value.slice none 0 0)]) 24), (2, Own.box 6 (cmpG [iv (0), iv (0), iv (0), iv (0), iv (0), iv (0)]) 113), (3, Own.box 1 (stG fam5) 24)]⟩
     refine We ?_ ?_
     ·exact ⟨Vj, Vj, Vj, Vj, Vj, Vj, Vj, Vj, Vj, Vj, Vj, Vj, Vj, Vj, V rfl, V rfl, V rfl, V rfl, V rfl, V rfl, Z⟩
     ·exact ⟨⟨_, rfl, ⟨rfl, rfl, (An rfl)⟩⟩, ⟨_, rfl, ⟨rfl, rfl, (An rfl)⟩⟩, ⟨_, rfl, ⟨rfl, rfl, (An rfl)⟩⟩, Z⟩
    ·intro e hdn he hdp
     have h13 : e 13 = false := fls he fun q => by obtain ⟨r0, -, -, -⟩ := (show e 0 = true ∧ e 7 = true ∧ e 0 = true ∧ True from hdn 13 q); exact r0
     have h14 : e 14 = false := fls he fun q => by obtain ⟨-, r13, -, -, -, -⟩ := (show e 1 = true ∧ e 13 = true ∧ e 0 = true ∧ e 1 = true ∧ e 13 = true ∧ True from hdn 14 q); obtain ⟨r0, -, -, -⟩ := (show e 0 = true ∧ e 7 = true ∧ e 0 = true ∧ True from hdn 13 r13); exact r0
     simp only [setE, he, h13, h14, cj_t, cj_f, cjn_t, cjn_f, cb_t, cb_f]
     refine U (LBA (V rfl) rfl Ga24 Sz24 (by decide)) <| Nt <| We ?_ ?_
     ·exact ⟨V rfl, V rfl, V rfl, V rfl, V rfl, V rfl, V rfl, V rfl, V rfl, V rfl, V rfl, V rfl, V rfl, V rfl, V rfl, V rfl, V rfl, V rfl, V rfl, V rfl, Z⟩
     ·exact ⟨⟨_, rfl, ⟨rfl, rfl, (An rfl)⟩⟩, ⟨_, rfl, ⟨rfl, rfl, (An rfl)⟩⟩, ⟨_, rfl, ⟨rfl, rfl, (An rfl)⟩⟩, Z⟩
    ·intro e hdn he hdp
     have h14 : e 14 = false := fls he fun q => by obtain ⟨r1, -, -, -, -, -⟩ := (show e 1 = true ∧ e 13 = true ∧ e 0 = true ∧ e 1 = true ∧ e 13 = true ∧ True from hdn 14 q); exact r1
     simp only [setE, he, h14, cj_t, cj_f, cjn_t, cjn_f, cb_t, cb_f]
     exact U (LdA (V rfl) Ga113 Sz113 (by show 0 + 6 ≤ 6; decide)) <| Nt <| weakS ⟨V rfl, V rfl, V rfl, V rfl, V rfl, V rfl, V rfl, V rfl, V rfl, V rfl, V rfl, V rfl, V rfl, V rfl, V rfl, V rfl, V rfl, V rfl, V rfl, V rfl, Z⟩
    ·intro e hdn he hdp
     have h13 : e 13 = false := fls he fun q => by obtain ⟨-, r7, -, -⟩ := (show e 0 = true ∧ e 7 = true ∧ e 0 = true ∧ True from hdn 13 q); obtain ⟨r6, -, -⟩ := (show e 6 = true ∧ e 3 = true ∧ True from hdn 7 r7); obtain ⟨-, r5, -⟩ := (show e 3 = true ∧ e 5 = true ∧ True from hdn 6 r6); obtain ⟨r4, -, -⟩ := (show e 4 = true ∧ e 3 = true ∧ True from hdn 5 r5); obtain ⟨r3, -⟩ := (show e 3 = true ∧ True from hdn 4 r4); obtain ⟨r2, -⟩ := (show e 2 = true ∧ True from hdn 3 r3); exact r2
     have h14 : e 14 = false := fls he fun q => by obtain ⟨-, r13, -, -, -, -⟩ := (show e 1 = true ∧ e 13 = true ∧ e 0 = true ∧ e 1 = true ∧ e 13 = true ∧ True from hdn 14 q); obtain ⟨-, r7, -, -⟩ := (show e 0 = true ∧ e 7 = true ∧ e 0 = true ∧ True from hdn 13 r13); obtain ⟨r6, -, -⟩ := (show e 6 = true ∧ e 3 = true ∧ True from hdn 7 r7); obtain ⟨-, r5, -⟩ := (show e 3 = true ∧ e 5 = true ∧ True from hdn 6 r6); obtain ⟨r4, -, -⟩ := (show e 4 = true ∧ e 3 = true ∧ True from hdn 5 r5); obtain ⟨r3, -⟩ := (show e 3 = true ∧ True from hdn 4 r4); obtain ⟨r2, -⟩ := (show e 2 = true ∧ True from hdn 3 r3); exact r2
     simp only [setE, he, h13, h14, cj_t, cj_f, cjn_t, cjn_f, cb_t, cb_f]
     refine U (Mv (V rfl)) <| Nt <| We ?_ ?_
     ·exact ⟨V rfl, V rfl, V rfl, V rfl, V rfl, V rfl, V rfl, V rfl, V rfl, V rfl, V rfl, V rfl, V rfl, V rfl, V rfl, V rfl, V rfl, V rfl, V rfl, V rfl, Z⟩
     ·exact ⟨⟨_, rfl, ⟨rfl, rfl, (An rfl)⟩⟩, ⟨_, rfl, ⟨rfl, rfl, (An rfl)⟩⟩, ⟨_, rfl, ⟨rfl, rfl, (An rfl)⟩⟩, Z⟩
    ·intro e hdn he hdp
     obtain ⟨h2, -⟩ := (show e 2 = true ∧ True from hdp)
     have h13 : e 13 = false := fls he fun q => by obtain ⟨-, r7, -, -⟩ := (show e 0 = true ∧ e 7 = true ∧ e 0 = true ∧ True from hdn 13 q); obtain ⟨r6, -, -⟩ := (show e 6 = true ∧ e 3 = true ∧ True from hdn 7 r7); obtain ⟨-, r5, -⟩ := (show e 3 = true ∧ e 5 = true ∧ True from hdn 6 r6); obtain ⟨r4, -, -⟩ := (show e 4 = true ∧ e 3 = true ∧ True from hdn 5 r5); obtain ⟨r3, -⟩ := (show e 3 = true ∧ True from hdn 4 r4); exact r3
     have h14 : e 14 = false := fls he fun q => by obtain ⟨-, r13, -, -, -, -⟩ := (show e 1 = true ∧ e 13 = true ∧ e 0 = true ∧ e 1 = true ∧ e 13 = true ∧ True from hdn 14 q); obtain ⟨-, r7, -, -⟩ := (show e 0 = true ∧ e 7 = true ∧ e 0 = true ∧ True from hdn 13 r13); obtain ⟨r6, -, -⟩ := (show e 6 = true ∧ e 3 = true ∧ True from hdn 7 r7); obtain ⟨-, r5, -⟩ := (show e 3 = true ∧ e 5 = true ∧ True from hdn 6 r6); obtain ⟨r4, -, -⟩ := (show e 4 = true ∧ e 3 = true ∧ True from hdn 5 r5); obtain ⟨r3, -⟩ := (show e 3 = true ∧ True from hdn 4 r4); exact r3
     simp only [setE, h2, he, h13, h14, cj_t, cj_f, cjn_t, cjn_f, cb_t, cb_f]
     refine U (Mv (V rfl)) <| Nt <| We ?_ ?_
     ·exact ⟨V rfl, V rfl, V rfl, V rfl, V rfl, V rfl, V rfl, V rfl, V rfl, V rfl, V rfl, V rfl, V rfl, V rfl, V rfl, V rfl, V rfl, V rfl, V rfl, V rfl, Z⟩
     ·exact ⟨⟨_, rfl, ⟨rfl, rfl, (An rfl)⟩⟩, ⟨_, rfl, ⟨rfl, rfl, (An rfl)⟩⟩, ⟨_, rfl, ⟨rfl, rfl, (An rfl)⟩⟩, Z⟩
    ·intro e hdn he hdp
     obtain ⟨h3, -⟩ := (show e 3 = true ∧ True from hdp)
     obtain ⟨h2, -⟩ := (show e 2 = true ∧ True from hdn 3 h3)
     have h13 : e 13 = false := fls he fun q => by obtain ⟨-, r7, -, -⟩ := (show e 0 = true ∧ e 7 = true ∧ e 0 = true ∧ True from hdn 13 q); obtain ⟨r6, -, -⟩ := (show e 6 = true ∧ e 3 = true ∧ True from hdn 7 r7); obtain ⟨-, r5, -⟩ := (show e 3 = true ∧ e 5 = true ∧ True from hdn 6 r6); obtain ⟨r4, -, -⟩ := (show e 4 = true ∧ e 3 = true ∧ True from hdn 5 r5); exact r4
     have h14 : e 14 = false := fls he fun q => by obtain ⟨-, r13, -, -, -, -⟩ := (show e 1 = true ∧ e 13 = true ∧ e 0 = true ∧ e 1 = true ∧ e 13 = true ∧ True from hdn 14 q); obtain ⟨-, r7, -, -⟩ := (show e 0 = true ∧ e 7 = true ∧ e 0 = true ∧ True from hdn 13 r13); obtain ⟨r6, -, -⟩ := (show e 6 = true ∧ e 3 = true ∧ True from hdn 7 r7); obtain ⟨-, r5, -⟩ := (show e 3 = true ∧ e 5 = true ∧ True from hdn 6 r6); obtain ⟨r4, -, -⟩ := (show e 4 = true ∧ e 3 = true ∧ True from hdn 5 r5); exact r4
     simp only [setE, h2, h3, he, h13, h14, cj_t, cj_f, cjn_t, cjn_f, cb_t, cb_f]
     refine Ug (Gy rfl rfl) (fun hg => Mv (V rfl)) <| Nt <| We ?_ ?_
     ·exact ⟨V rfl, V rfl, V rfl, V rfl, V rfl, V rfl, V rfl, V rfl, V rfl, V rfl, V rfl, V rfl, V rfl, V rfl, V rfl, V rfl, V rfl, V rfl, V rfl, V rfl, Z⟩
     ·exact ⟨⟨_, rfl, ⟨rfl, rfl, (An rfl)⟩⟩, ⟨_, rfl, ⟨rfl, rfl, (An rfl)⟩⟩, ⟨_, rfl, ⟨rfl, rfl, (An rfl)⟩⟩, Z⟩
    ·intro e hdn he hdp
     obtain ⟨h4, h3, -⟩ := (show e 4 = true ∧ e 3 = true ∧ True from hdp)
     obtain ⟨h2, -⟩ := (show e 2 = true ∧ True from hdn 3 h3)
     have h13 : e 13 = false := fls he fun q => by obtain ⟨-, r7, -, -⟩ := (show e 0 = true ∧ e 7 = true ∧ e 0 = true ∧ True from hdn 13 q); obtain ⟨r6, -, -⟩ := (show e 6 = true ∧ e 3 = true ∧ True from hdn 7 r7); obtain ⟨-, r5, -⟩ := (show e 3 = true ∧ e 5 = true ∧ True from hdn 6 r6); exact r5
     have h14 : e 14 = false := fls he fun q => by obtain ⟨-, r13, -, -, -, -⟩ := (show e 1 = true ∧ e 13 = true ∧ e 0 = true ∧ e 1 = true ∧ e 13 = true ∧ True from hdn 14 q); obtain ⟨-, r7, -, -⟩ := (show e 0 = true ∧ e 7 = true ∧ e 0 = true ∧ True from hdn 13 r13); obtain ⟨r6, -, -⟩ := (show e 6 = true ∧ e 3 = true ∧ True from hdn 7 r7); obtain ⟨-, r5, -⟩ := (show e 3 = true ∧ e 5 = true ∧ True from hdn 6 r6); exact r5
     simp only [setE, h2, h3, h4, he, h13, h14, cj_t, cj_f, cjn_t, cjn_f, cb_t, cb_f]
     refine Ug (Gy rfl rfl) (fun hg => Ql (Vg (V rfl) hg) K) <| Nt <| We ?_ ?_
     ·exact ⟨V rfl, V rfl, V rfl, V rfl, V rfl, V rfl, V rfl, V rfl, V rfl, V rfl, V rfl, V rfl, V rfl, V rfl, V rfl, V rfl, V rfl, V rfl, V rfl, V rfl, Z⟩
     ·exact ⟨⟨_, rfl, ⟨rfl, rfl, (An rfl)⟩⟩, ⟨_, rfl, ⟨rfl, rfl, (An rfl)⟩⟩, ⟨_, rfl, ⟨rfl, rfl, (An rfl)⟩⟩, Z⟩
    ·intro e hdn he hdp
     obtain ⟨h3, h5, -⟩ := (show e 3 = true ∧ e 5 = true ∧ True from hdp)
     obtain ⟨h4, -, -⟩ := (show e 4 = true ∧ e 3 = true ∧ True from hdn 5 h5)
     obtain ⟨h2, -⟩ := (show e 2 = true ∧ True from hdn 3 h3)
     have h13 : e 13 = false := fls he fun q => by obtain ⟨-, r7, -, -⟩ := (show e 0 = true ∧ e 7 = true ∧ e 0 = true ∧ True from hdn 13 q); obtain ⟨r6, -, -⟩ := (show e 6 = true ∧ e 3 = true ∧ True from hdn 7 r7); exact r6
     have h14 : e 14 = false := fls he fun q => by obtain ⟨-, r13, -, -, -, -⟩ := (show e 1 = true ∧ e 13 = true ∧ e 0 = true ∧ e 1 = true ∧ e 13 = true ∧ True from hdn 14 q); obtain ⟨-, r7, -, -⟩ := (show e 0 = true ∧ e 7 = true ∧ e 0 = true ∧ True from hdn 13 r13); obtain ⟨r6, -, -⟩ := (show e 6 = true ∧ e 3 = true ∧ True from hdn 7 r7); exact r6
     simp only [setE, h2, h3, h4, h5, he, h13, h14, cj_t, cj_f, cjn_t, cjn_f, cb_t, cb_f]
     refine U (Qa (V rfl) (fun h => Vg (V rfl) h)) <| Nt <| We ?_ ?_
     ·exact ⟨V rfl, V rfl, V rfl, V rfl, V rfl, V rfl, V rfl, V rfl, V rfl, V rfl, V rfl, V rfl, V rfl, V rfl, V rfl, V rfl, V rfl, V rfl, V rfl, V rfl, Z⟩
     ·exact ⟨⟨_, rfl, ⟨rfl, rfl, (An rfl)⟩⟩, ⟨_, rfl, ⟨rfl, rfl, (An rfl)⟩⟩, ⟨_, rfl, ⟨rfl, rfl, (An rfl)⟩⟩, Z⟩
    ·intro e hdn he hdp
     obtain ⟨h6, h3, -⟩ := (show e 6 = true ∧ e 3 = true ∧ True from hdp)
     obtain ⟨-, h5, -⟩ := (show e 3 = true ∧ e 5 = true ∧ True from hdn 6 h6)
     obtain ⟨h4, -, -⟩ := (show e 4 = true ∧ e 3 = true ∧ True from hdn 5 h5)
     obtain ⟨h2, -⟩ := (show e 2 = true ∧ True from hdn 3 h3)
     have h13 : e 13 = false := fls he fun q => by obtain ⟨-, r7, -, -⟩ := (show e 0 = true ∧ e 7 = true ∧ e 0 = true ∧ True from hdn 13 q); exact r7
     have h14 : e 14 = false := fls he fun q => by obtain ⟨-, r13, -, -, -, -⟩ := (show e 1 = true ∧ e 13 = true ∧ e 0 = true ∧ e 1 = true ∧ e 13 = true ∧ True from hdn 14 q); obtain ⟨-, r7, -, -⟩ := (show e 0 = true ∧ e 7 = true ∧ e 0 = true ∧ True from hdn 13 r13); exact r7
     simp only [setE, h2, h3, h4, h5, h6, he, h13, h14, cj_t, cj_f, cjn_t, cjn_f, cb_t, cb_f]
     refine U (Mv (V rfl)) <| Nt <| We ?_ ?_
     ·exact ⟨V rfl, V rfl, V rfl, V rfl, V rfl, V rfl, V rfl, V rfl, V rfl, V rfl, V rfl, V rfl, V rfl, V rfl, V rfl, V rfl, V rfl, V rfl, V rfl, V rfl, Z⟩
     ·exact ⟨⟨_, rfl, ⟨rfl, rfl, (An rfl)⟩⟩, ⟨_, rfl, ⟨rfl, rfl, (An rfl)⟩⟩, ⟨_, rfl, ⟨rfl, rfl, (An rfl)⟩⟩, Z⟩
    ·intro e hdn he hdp
     obtain ⟨h7, -⟩ := (show e 7 = true ∧ True from hdp)
     obtain ⟨h6, h3, -⟩ := (show e 6 = true ∧ e 3 = true ∧ True from hdn 7 h7)
     obtain ⟨-, h5, -⟩ := (show e 3 = true ∧ e 5 = true ∧ True from hdn 6 h6)
     obtain ⟨h4, -, -⟩ := (show e 4 = true ∧ e 3 = true ∧ True from hdn 5 h5)
     obtain ⟨h2, -⟩ := (show e 2 = true ∧ True from hdn 3 h3)
     simp only [setE, h2, h3, h4, h5, h6, h7, he, cj_t, cj_f, cjn_t, cjn_f, cb_t, cb_f]
     exact Ug (Gy rfl rfl) (fun hg => FlB _ _ (V rfl) Un24 rfl 0 Sz22) <| Nt <| weakS ⟨V rfl, V rfl, V rfl, V rfl, V rfl, V rfl, V rfl, V rfl, V rfl, V rfl, V rfl, V rfl, V rfl, V rfl, V rfl, V rfl, V rfl, V rfl, V rfl, V rfl, Z⟩
    ·intro e hdn he hdp
     obtain ⟨h8, h7, -⟩ := (show e 8 = true ∧ e 7 = true ∧ True from hdp)
     obtain ⟨h6, h3, -⟩ := (show e 6 = true ∧ e 3 = true ∧ True from hdn 7 h7)
     obtain ⟨-, h5, -⟩ := (show e 3 = true ∧ e 5 = true ∧ True from hdn 6 h6)
     obtain ⟨h4, -, -⟩ := (show e 4 = true ∧ e 3 = true ∧ True from hdn 5 h5)
     obtain ⟨h2, -⟩ := (show e 2 = true ∧ True from hdn 3 h3)
     cases hu13 : e 13
     ·have h14 : e 14 = false := fls hu13 fun q => by obtain ⟨-, r13, -, -, -, -⟩ := (show e 1 = true ∧ e 13 = true ∧ e 0 = true ∧ e 1 = true ∧ e 13 = true ∧ True from hdn 14 q); exact r13
      simp only [setE, h2, h3, h4, h5, h6, h7, h8, he, hu13, h14, cj_t, cj_f, cjn_t, cjn_f, cb_t, cb_f]
      refine Ug (Gy rfl rfl) (fun hg => LdB (Vg (V rfl) hg) rfl Ga22 (by decide)) <| Nt <| We ?_ ?_
      ·exact ⟨V rfl, V rfl, V rfl, V rfl, V rfl, V rfl, V rfl, V rfl, V rfl, V rfl, V rfl, V rfl, V rfl, V rfl, V rfl, V rfl, V rfl, V rfl, V rfl, V rfl, Z⟩
      ·exact ⟨⟨_, rfl, ⟨rfl, rfl, (An rfl)⟩⟩, ⟨_, rfl, ⟨rfl, rfl, (An rfl)⟩⟩, ⟨_, rfl, ⟨rfl, rfl, (An rfl)⟩⟩, Z⟩
     ·cases hu14 : e 14
      ·simp only [setE, h2, h3, h4, h5, h6, h7, h8, he, hu13, hu14, cj_t, cj_f, cjn_t, cjn_f, cb_t, cb_f]
       refine Ug (Gy rfl rfl) (fun hg => LdB (Vg (V rfl) hg) rfl Ga22 (by decide)) <| Nt <| We ?_ ?_
       ·exact ⟨V rfl, V rfl, V rfl, V rfl, V rfl, V rfl, V rfl, V rfl, V rfl, V rfl, V rfl, V rfl, V rfl, V rfl, V rfl, V rfl, V rfl, V rfl, V rfl, V rfl, Z⟩
       ·exact ⟨⟨_, rfl, ⟨rfl, rfl, (An rfl)⟩⟩, ⟨_, rfl, ⟨rfl, rfl, (An rfl)⟩⟩, ⟨_, rfl, ⟨rfl, rfl, (An rfl)⟩⟩, Z⟩
      ·simp only [setE, h2, h3, h4, h5, h6, h7, h8, he, hu13, hu14, cj_t, cj_f, cjn_t, cjn_f, cb_t, cb_f]
       refine Ug (Gy rfl rfl) (fun hg => LdB (Vg (V rfl) hg) rfl Ga22 (by decide)) <| Nt <| We ?_ ?_
       ·exact ⟨V rfl, V rfl, V rfl, V rfl, V rfl, V rfl, V rfl, V rfl, V rfl, V rfl, V rfl, V rfl, V rfl, V rfl, V rfl, V rfl, V rfl, V rfl, V rfl, V rfl, Z⟩
       ·exact ⟨⟨_, rfl, ⟨rfl, rfl, (An rfl)⟩⟩, ⟨_, rfl, ⟨rfl, rfl, (An rfl)⟩⟩, ⟨_, rfl, ⟨rfl, rfl, (An rfl)⟩⟩, Z⟩
    ·intro e hdn he hdp
     obtain ⟨h9, h7, -⟩ := (show e 9 = true ∧ e 7 = true ∧ True from hdp)
     obtain ⟨h8, -, -⟩ := (show e 8 = true ∧ e 7 = true ∧ True from hdn 9 h9)
     obtain ⟨h6, h3, -⟩ := (show e 6 = true ∧ e 3 = true ∧ True from hdn 7 h7)
     obtain ⟨-, h5, -⟩ := (show e 3 = true ∧ e 5 = true ∧ True from hdn 6 h6)
     obtain ⟨h4, -, -⟩ := (show e 4 = true ∧ e 3 = true ∧ True from hdn 5 h5)
     obtain ⟨h2, -⟩ := (show e 2 = true ∧ True from hdn 3 h3)
     simp only [setE, h2, h3, h4, h5, h6, h7, h8, h9, he, cj_t, cj_f, cjn_t, cjn_f, cb_t, cb_f]
     exact Ug (Gy rfl rfl) (fun hg => Ln (Vg (V rfl) hg) ts22) <| Nt <| weakS ⟨V rfl, V rfl, V rfl, V rfl, V rfl, V rfl, V rfl, V rfl, V rfl, V rfl, V rfl, V rfl, V rfl, V rfl, V rfl, V rfl, V rfl, V rfl, V rfl, V rfl, Z⟩
    ·intro e hdn he hdp
     obtain ⟨h10, h7, -⟩ := (show e 10 = true ∧ e 7 = true ∧ True from hdp)
     obtain ⟨h9, -, -⟩ := (show e 9 = true ∧ e 7 = true ∧ True from hdn 10 h10)
     obtain ⟨h8, -, -⟩ := (show e 8 = true ∧ e 7 = true ∧ True from hdn 9 h9)
     obtain ⟨h6, h3, -⟩ := (show e 6 = true ∧ e 3 = true ∧ True from hdn 7 h7)
     obtain ⟨-, h5, -⟩ := (show e 3 = true ∧ e 5 = true ∧ True from hdn 6 h6)
     obtain ⟨h4, -, -⟩ := (show e 4 = true ∧ e 3 = true ∧ True from hdn 5 h5)
     obtain ⟨h2, -⟩ := (show e 2 = true ∧ True from hdn 3 h3)
     simp only [setE, h2, h3, h4, h5, h6, h7, h8, h9, h10, he, cj_t, cj_f, cjn_t, cjn_f, cb_t, cb_f]
     exact Ug (Gy rfl rfl) (fun hg => Ql (Vg (V rfl) hg) K) <| Nt <| weakS ⟨V rfl, V rfl, V rfl, V rfl, V rfl, V rfl, V rfl, V rfl, V rfl, V rfl, V rfl, V rfl, V rfl, V rfl, V rfl, V rfl, V rfl, V rfl, V rfl, V rfl, Z⟩
    ·intro e hdn he hdp
     obtain ⟨h7, h11, -⟩ := (show e 7 = true ∧ e 11 = true ∧ True from hdp)
     obtain ⟨h10, -, -⟩ := (show e 10 = true ∧ e 7 = true ∧ True from hdn 11 h11)
     obtain ⟨h9, -, -⟩ := (show e 9 = true ∧ e 7 = true ∧ True from hdn 10 h10)
     obtain ⟨h8, -, -⟩ := (show e 8 = true ∧ e 7 = true ∧ True from hdn 9 h9)
     obtain ⟨h6, h3, -⟩ := (show e 6 = true ∧ e 3 = true ∧ True from hdn 7 h7)
     obtain ⟨-, h5, -⟩ := (show e 3 = true ∧ e 5 = true ∧ True from hdn 6 h6)
     obtain ⟨h4, -, -⟩ := (show e 4 = true ∧ e 3 = true ∧ True from hdn 5 h5)
     obtain ⟨h2, -⟩ := (show e 2 = true ∧ True from hdn 3 h3)
     simp only [setE, h2, h3, h4, h5, h6, h7, h8, h9, h10, h11, he, cj_t, cj_f, cjn_t, cjn_f, cb_t, cb_f]
     exact U (Qa (V rfl) (fun h => Vg (V rfl) h)) <| Nt <| weakS ⟨V rfl, V rfl, V rfl, V rfl, V rfl, V rfl, V rfl, V rfl, V rfl, V rfl, V rfl, V rfl, V rfl, V rfl, V rfl, V rfl, V rfl, V rfl, V rfl, V rfl, Z⟩
    ·intro e hdn he hdp
     obtain ⟨h0, h7, -, -⟩ := (show e 0 = true ∧ e 7 = true ∧ e 0 = true ∧ True from hdp)
     obtain ⟨h6, h3, -⟩ := (show e 6 = true ∧ e 3 = true ∧ True from hdn 7 h7)
     obtain ⟨-, h5, -⟩ := (show e 3 = true ∧ e 5 = true ∧ True from hdn 6 h6)
     obtain ⟨h4, -, -⟩ := (show e 4 = true ∧ e 3 = true ∧ True from hdn 5 h5)
     obtain ⟨h2, -⟩ := (show e 2 = true ∧ True from hdn 3 h3)
     have h14 : e 14 = false := fls he fun q => by obtain ⟨-, r13, -, -, -, -⟩ := (show e 1 = true ∧ e 13 = true ∧ e 0 = true ∧ e 1 = true ∧ e 13 = true ∧ True from hdn 14 q); exact r13
     simp only [setE, h0, h2, h3, h4, h5, h6, h7, he, h14, cj_t, cj_f, cjn_t, cjn_f, cb_t, cb_f]
     refine StA (V rfl) rfl (V rfl) Sz24 <| Nt <| We ?_ ?_
     ·exact ⟨V rfl, V rfl, V rfl, V rfl, V rfl, V rfl, V rfl, V rfl, V rfl, V rfl, V rfl, V rfl, V rfl, V rfl, V rfl, V rfl, V rfl, V rfl, V rfl, V rfl, Z⟩
     ·exact ⟨⟨_, rfl, ⟨rfl, rfl, (An rfl)⟩⟩, ⟨_, rfl, ⟨rfl, rfl, (An rfl)⟩⟩, ⟨_, rfl, ⟨rfl, rfl, (An rfl)⟩⟩, Z⟩
    ·intro e hdn he hdp
     obtain ⟨h1, h13, h0, -, -, -⟩ := (show e 1 = true ∧ e 13 = true ∧ e 0 = true ∧ e 1 = true ∧ e 13 = true ∧ True from hdp)
     obtain ⟨-, h7, -, -⟩ := (show e 0 = true ∧ e 7 = true ∧ e 0 = true ∧ True from hdn 13 h13)
     obtain ⟨h6, h3, -⟩ := (show e 6 = true ∧ e 3 = true ∧ True from hdn 7 h7)
     obtain ⟨-, h5, -⟩ := (show e 3 = true ∧ e 5 = true ∧ True from hdn 6 h6)
     obtain ⟨h4, -, -⟩ := (show e 4 = true ∧ e 3 = true ∧ True from hdn 5 h5)
     obtain ⟨h2, -⟩ := (show e 2 = true ∧ True from hdn 3 h3)
     simp only [setE, h0, h1, h2, h3, h4, h5, h6, h7, h13, he, cj_t, cj_f, cjn_t, cjn_f, cb_t, cb_f]
     refine StA (V rfl) rfl (V rfl) Sz113 <| Nt <| We ?_ ?_
     ·exact ⟨V rfl, V rfl, V rfl, V rfl, V rfl, V rfl, V rfl, V rfl, V rfl, V rfl, V rfl, V rfl, V rfl, V rfl, V rfl, V rfl, V rfl, V rfl, V rfl, V rfl, Z⟩
     ·exact ⟨⟨_, rfl, ⟨rfl, rfl, (An rfl)⟩⟩, ⟨_, rfl, ⟨rfl, rfl, (An rfl)⟩⟩, ⟨_, rfl, ⟨rfl, rfl, (An rfl)⟩⟩, Z⟩
    ·intro e hdn he hdp
     obtain ⟨h12, h14, h0, h1, h2, h3, h4, h5, h6, h7, h8, h9, h10, h11, -, h13, -, -⟩ := (show e 12 = true ∧ e 14 = true ∧ e 0 = true ∧ e 1 = true ∧ e 2 = true ∧ e 3 = true ∧ e 4 = true ∧ e 5 = true ∧ e 6 = true ∧ e 7 = true ∧ e 8 = true ∧ e 9 = true ∧ e 10 = true ∧ e 11 = true ∧ e 12 = true ∧ e 13 = true ∧ e 14 = true ∧ True from hdp)
     simp only [setE, h0, h1, h2, h3, h4, h5, h6, h7, h8, h9, h10, h11, h12, h13, h14, he, cj_t, cj_f, cjn_t, cjn_f, cb_t, cb_f]
     refine U (As (V rfl)) <| Nt <| We ?_ ?_
     ·exact ⟨V rfl, V rfl, V rfl, V rfl, V rfl, V rfl, V rfl, V rfl, V rfl, V rfl, V rfl, V rfl, V rfl, V rfl, V rfl, V rfl, V rfl, V rfl, V rfl, V rfl, Z⟩
     ·exact ⟨⟨_, rfl, ⟨rfl, rfl, (An rfl)⟩⟩, ⟨_, rfl, ⟨rfl, rfl, (An rfl)⟩⟩, ⟨_, rfl, ⟨rfl, rfl, (An rfl)⟩⟩, Z⟩
    ·intro e he
     have h0 := he 0 (by decide)
     have h1 := he 1 (by decide)
     have h2 := he 2 (by decide)
     have h3 := he 3 (by decide)
     have h4 := he 4 (by decide)
     have h5 := he 5 (by decide)
     have h6 := he 6 (by decide)
     have h7 := he 7 (by decide)
     have h8 := he 8 (by decide)
     have h9 := he 9 (by decide)
     have h10 := he 10 (by decide)
     have h11 := he 11 (by decide)
     have h12 := he 12 (by decide)
     have h13 := he 13 (by decide)
     have h14 := he 14 (by decide)
     have h15 := he 15 (by decide)
     show Weak _ ⟨[(56, cj (e 0) (SV.agg 1 (fun zi => (stG fam5) (0 + zi)))), (57, cj (e 1) (SV.agg 6 (fun zi => (fun zt => ([iv (0), iv (1), iv (1), iv (1), iv (2), iv (1)] : List SV).getD zt .junk) (0 + zi)))), (58, cj (e 2) (bv (true && (decide ((0 : Int) = 0))))), (59, cj (e 3) (bv (true && (decide ((0 : Int) = 0))))), (60, cj (e 4) (SV.grd ((true && (decide ((0 : Int) = 0)))) (iv (0)))), (61, cj (e 5) (SV.grd ((true && (decide ((0 : Int) = 0)))) (bv (decide ((0 : Int) = 0))))), (62, cj (e 6) (bv ((true && (decide ((0 : Int) = 0))) && (decide ((0 : Int) = 0))))), (63, cj (e 7) (bv ((true && (decide ((0 : Int) = 0))) && (decide ((0 : Int) = 0))))), (64, cj (e 8) (SV.grd (((true && (decide ((0 : Int) = 0))) && (decide ((0 : Int) = 0)))) (SV.bp 3 0))), (65, cj (e 9) (SV.grd (((true && (decide ((0 : Int) = 0))) && (decide ((0 : Int) = 0)))) (ndRow fam5))), (66, cj (e 10) (SV.grd (((true && (decide ((0 : Int) = 0))) && (decide ((0 : Int) = 0)))) (iv ((fam5.length : Int))))), (67, cj (e 11) (SV.grd (((true && (decide ((0 : Int) = 0))) && (decide ((0 : Int) = 0)))) (bv (decide ((fam5.length : Int) = 6))))), (68, cj (e 12) (bv (((true && (decide ((0 : Int) = 0))) && (decide ((0 : Int) = 0))) && (decide ((fam5.length : Int) = 6))))), (2, cj (e 15) (bv (((true && (decide ((0 : Int) = 0))) && (decide ((0 : Int) = 0))) && (decide ((fam5.length : Int) = 6))))), (0, SV.bp 1 0), (1, SV.bp 2 0), (3, SV.bp 3 0), (4, iv (0)), (5, bv (true && (decide ((0 : Int) = 0)))), (6, elB [iv (0), iv (1), iv (1), iv (1), iv (2), iv (1)] 0)], (cb (e 13) (cb (e 14) [(1, Own.box 1 (fun zi => (stG fam5) (0 + zi)) 24), (2, Own.box 6 (fun zi => (fun zt => ([iv (0), iv (1), iv (1), iv (1), iv (2), iv (1)] : List SV).getD zt .junk) (0 + zi)) 113), (3, Own.box 1 (stG fam5) 24)] [(1, Own.box 1 (fun zi => (stG fam5) (0 + zi)) 24), (2, Own.box 6 (cmpG [iv (0), iv (0), iv (0), iv (0), iv (0), iv (0)]) 113), (3, Own.box 1 (stG fam5) 24)]) (cb (e 14) [] [(1, Own.box 1 (cmpG [SV.v (Value.slice none 0 0)]) 24), (2, Own.box 6 (cmpG [iv (0), iv (0), iv (0), iv (0), iv (0), iv (0)]) 113), (3, Own.box 1 (stG fam5) 24)]))⟩ _
     simp only [h0, h1, h2, h3, h4, h5, h6, h7, h8, h9, h10, h11, h12, h13, h14, h15]
     show Weak _ ⟨[(56, SV.agg 1 (fun zi => (stG fam5) (0 + zi))), (57, SV.agg 6 (fun zi => (fun zt => ([iv (0), iv (1), iv (1), iv (1), iv (2), iv (1)] : List SV).getD zt .junk) (0 + zi))), (58, bv (true && (decide ((0 : Int) = 0)))), (59, bv (true && (decide ((0 : Int) = 0)))), (60, SV.grd ((true && (decide ((0 : Int) = 0)))) (iv (0))), (61, SV.grd ((true && (decide ((0 : Int) = 0)))) (bv (decide ((0 : Int) = 0)))), (62, bv ((true && (decide ((0 : Int) = 0))) && (decide ((0 : Int) = 0)))), (63, bv ((true && (decide ((0 : Int) = 0))) && (decide ((0 : Int) = 0)))), (64, SV.grd (((true && (decide ((0 : Int) = 0))) && (decide ((0 : Int) = 0)))) (SV.bp 3 0)), (65, SV.grd (((true && (decide ((0 : Int) = 0))) && (decide ((0 : Int) = 0)))) (ndRow fam5)), (66, SV.grd (((true && (decide ((0 : Int) = 0))) && (decide ((0 : Int) = 0)))) (iv ((fam5.length : Int)))), (67, SV.grd (((true && (decide ((0 : Int) = 0))) && (decide ((0 : Int) = 0)))) (bv (decide ((fam5.length : Int) = 6)))), (68, bv (((true && (decide ((0 : Int) = 0))) && (decide ((0 : Int) = 0))) && (decide ((fam5.length : Int) = 6)))), (2, bv (((true && (decide ((0 : Int) = 0))) && (decide ((0 : Int) = 0))) && (decide ((fam5.length : Int) = 6)))), (0, SV.bp 1 0), (1, SV.bp 2 0), (3, SV.bp 3 0), (4, iv (0)), (5, bv (true && (decide ((0 : Int) = 0)))), (6, elB [iv (0), iv (1), iv (1), iv (1), iv (2), iv (1)] 0)], [(1, Own.box 1 (fun zi => (stG fam5) (0 + zi)) 24), (2, Own.box 6 (fun zi => (fun zt => ([iv (0), iv (1), iv (1), iv (1), iv (2), iv (1)] : List SV).getD zt .junk) (0 + zi)) 113), (3, Own.box 1 (stG fam5) 24)]⟩ _
     refine We ?_ ?_
     ·exact ⟨Va (V rfl) (An rfl), Va (V rfl) (An rfl), V rfl, V rfl, V rfl, V rfl, V rfl, V rfl, V rfl, V rfl, V rfl, V rfl, V rfl, V rfl, V rfl, V rfl, V rfl, V rfl, V rfl, V rfl, Z⟩
     ·exact ⟨⟨_, rfl, ⟨rfl, rfl, (An rfl)⟩⟩, ⟨_, rfl, ⟨rfl, rfl, (An rfl)⟩⟩, ⟨_, rfl, ⟨rfl, rfl, (An rfl)⟩⟩, Z⟩
    exact Rx <| RR3 rfl (rv_aggI (g' := stG fam5) (rv_cell (V rfl) rfl Ga24 Sz24) ⟨Z, Ir⟩) (rv_aggI (g' := cmpG [iv (0), iv (1), iv (1), iv (1), iv (2), iv (1)]) (rv_cell (V rfl) rfl Ga113 Sz113) ⟨⟨⟨⟨⟨⟨Z, Ir⟩, Ir⟩, Ir⟩, Ir⟩, Ir⟩, Ir⟩) (rv_tmp (V rfl)) rfl rfl rfl (by show sv3 (SV.agg 1 (stG fam5)) (SV.agg 6 (cmpG [iv (0), iv (1), iv (1), iv (1), iv (2), iv (1)])) (bv (((true && (decide ((0 : Int) = 0))) && (decide ((0 : Int) = 0))) && (decide ((fam5.length : Int) = 6)))) = sv3 (SV.agg 1 (stG fam5)) (SV.agg 6 (cmpG [iv (0), iv (1), iv (1), iv (1), iv (2), iv (1)])) (bv (true)); rfl)
end Go.Proofs.Ytmcdamcedemdiaa
namespace Go.Proofs.Ytmcdamcedemdiaa
open Go.RowKit Go.Eng
def usedB (l : List Nd) (k : Int) : Bool := (decide (0 ≤ k) && decide (k < (l.length : Int))) && (l.getD k.toNat default).used
theorem used_t {l : List Nd} {k : Int} : usedB l k = true ↔ (0 ≤ k ∧ k < (l.length : Int)) ∧ (l.getD k.toNat default).used = true := by
  simp only [usedB, Bool.and_eq_true, decide_eq_true_eq]
section
variable {l : List Nd} {h : Hd}
end
end Go.Proofs.Ytmcdamcedemdiaa
namespace Go.Proofs.Ytmcdamcedemdiaa
open Go.RowKit Go.Eng
theorem top_ct (l : List Nd) (k : Int) (hc : checkSt l = 0) (hk : 0 ≤ k ∧ k < (l.length : Int)) : Ct Try.prog 137 [SV.agg 1 (stG l), iv (k)] (iv (topSt l k)) := by
 have h24 := checkSt_len hc
 refine CtO 19 Try.func137 rfl rfl rfl fun E => row_lenA 0 (V (s := 0) rfl) rfl rfl fun hl0_0 => Sq <| Rt <| BxA 1 (V rfl) rfl rfl <| U (As K) <| Nt <| Sq <| Bo <| Lo (fun (m : Nat) => ⟨[(1, iv (upN l m k)), (2, SV.bp 1 0)], [(1, Own.box 1 (stG l) 24)]⟩) (fun (m : Nat) => m ≤ l.length ∧ 0 ≤ upN l m k ∧ topSt l k = topN l (l.length + 1 - m) (upN l m k)) (fun (m : Nat) => l.length + 1 - m) 0 (by show 0 ≤ l.length ∧ 0 ≤ upN l 0 k ∧ topSt l k = topN l (l.length + 1 - 0) (upN l 0 k); exact ⟨Nat.zero_le _, hk.1, rfl⟩) (We (ow := [(1, Own.box 1 (stG l) 24)]) (Vs rfl) (by exact ⟨⟨_, rfl, rfl, rfl, (An rfl)⟩, Z⟩)) <| ?_
 ·rintro m hI1
  have hJ1 : m ≤ l.length ∧ 0 ≤ upN l m k ∧ topSt l k = topN l (l.length + 1 - m) (upN l m k) := hI1
  have hui := upN_in (checkSt_nodes hc) (show -1 ≤ k ∧ k < (l.length : Int) by omega) m
  have hml := up_lt hc (show -1 ≤ k ∧ k < (l.length : Int) by omega) hJ1.2.1
  have hpa := par_above hc (k := upN l m k) (by omega)
  have hst : l.length + 1 - m = (l.length - m) + 1 := by omega
  have h2 := hJ1.2.2
  have h0 := hJ1.2.1
  rw [hst] at h2
  refine Sq <| Sq <| Rq <| O (FlB _ _ (V rfl) Un24 rfl 0 Sz22) <| O (LdB (V rfl) rfl Ga22 (by decide)) <| O (Mv (V rfl)) <| O (Ix (V rfl) (V rfl) ts22 te22 (by omega) (by omega)) <| O (Fl _ _ (V rfl) Un61 rfl 0 Sz3) <| O (Ld (V rfl) Ga3 (by decide)) <| O (Ge (V rfl) K) <| Nq <| Cd (V rfl) (fun hc1 => ?_) (fun hc1 => ?_)
  ·have hc1s := hc1; try simp only [BL] at hc1s
   refine Sk <| Bo <| Rq <| O (FlB _ _ (V rfl) Un24 rfl 0 Sz22) <| O (LdB (V rfl) rfl Ga22 (by decide)) <| O (Mv (V rfl)) <| O (Ix (V rfl) (V rfl) ts22 te22 (by omega) (by omega)) <| O (Fl _ _ (V rfl) Un61 rfl 0 Sz3) <| O (Ld (V rfl) Ga3 (by decide)) <| O (As (V rfl)) <| Nq <| NxH (m + 1) (fun _ _ h => h) (by show (m + 1) ≤ l.length ∧ 0 ≤ upN l (m + 1) k ∧ topSt l k = topN l (l.length + 1 - (m + 1)) (upN l (m + 1) k); have hpu := hpa (by omega); refine ⟨by omega, ?_, ?_⟩; (show 0 ≤ up1 l (upN l m k); rw [← hpu]; omega); (rw [h2, topN, if_pos (by omega), hpu, show l.length + 1 - (m + 1) = l.length - m by omega]; rfl)) (by show l.length + 1 - (m + 1) < l.length + 1 - m; omega) (We (sl := [(1, iv (upN l ((m + 1)) k)), (2, SV.bp 1 0)]) (ow := [(1, Own.box 1 (stG l) 24)]) (by exact ⟨val_eq (V rfl) (congrArg iv (hpa (by omega))), V rfl, Z⟩) (by exact ⟨⟨_, rfl, rfl, rfl, (An rfl)⟩, Z⟩))
  ·have hc1s := hc1; try simp only [BL] at hc1s
   exact Ex <| Sq <| Rq <| O (Mv (V rfl)) <| O (As (V rfl)) <| Nq <| Rx <| R1 rfl (V rfl) rfl (by show iv (upN l m k) = iv (topSt l k); exact congrArg iv (by rw [h2, topN, if_neg (by omega)]))
end Go.Proofs.Ytmcdamcedemdiaa
namespace Go.Proofs.Ytmcdamcedemdiaa
open Go.RowKit Go.Eng
def rootsL (l : List Nd) (k : Int) : List Int := (line l k).filter fun x => decide (0 ≤ (l.getD x.toNat default).host)
theorem topN_s {l : List Nd} (h : checkSt l = 0) : ∀ (n : Nat) (k : Int), 0 ≤ k ∧ k < (l.length : Int) → dpt l k ≤ n → topN l (n + 1) k = topN l n k
  | 0, k, hk, hd => by rw [dpt_eq h hk] at hd; omega
  | n + 1, k, hk, hd => by
    show (if _ then _ else _) = if _ then _ else _
    by_cases hp : 0 ≤ (l.getD k.toNat default).par
    · rw [if_pos hp, if_pos hp]
      have hpk := (par_kid h hk hp).1
      refine topN_s h n _ ⟨hp, hpk⟩ ?_
      have e := par_above h hk hp
      rw [up1, if_neg (by omega)] at e
      rw [dpt_eq h hk, ← e] at hd
      omega
    · rw [if_neg hp, if_neg hp]
theorem dpt_le {l : List Nd} (h : checkSt l = 0) {k : Int} (hk : 0 ≤ k ∧ k < (l.length : Int)) : dpt l k ≤ l.length := by
  have h1 := (line_len (checkSt_nodes h) (l.length + 1) k (by omega)).1
  have h2 := (line_len (checkSt_nodes h) (l.length + 1) k (by omega)).2
  have h3 := (st_cnt h (i := k.toNat) (by omega)).2.2.2
  rw [show ((k.toNat : Nat) : Int) = k by omega] at h3
  have h2 : dpt l k = l.length + 1 ↔ l.length + 1 = 0 ∨ 0 ≤ upN l l.length k := h2
  have h1 : dpt l k ≤ l.length + 1 := h1
  by_cases e : dpt l k = l.length + 1
  · rcases h2.1 e with q | q <;> omega
  · omega
theorem top_par {l : List Nd} (h : checkSt l = 0) {k : Int} (hk : 0 ≤ k ∧ k < (l.length : Int)) (hp : 0 ≤ (l.getD k.toNat default).par) : topSt l k = topSt l (l.getD k.toNat default).par := by
  have hpk := (par_kid h hk hp).1
  unfold topSt
  rw [topN, if_pos hp]
  exact (topN_s h l.length _ ⟨hp, hpk⟩ (dpt_le h ⟨hp, hpk⟩)).symm
theorem top_self {l : List Nd} {k : Int} (hp : ¬ 0 ≤ (l.getD k.toNat default).par) : topSt l k = k := by unfold topSt; rw [topN, if_neg hp]
theorem above_par {l : List Nd} (h : checkSt l = 0) {k : Int} (hk : 0 ≤ k ∧ k < (l.length : Int)) (hp : 0 ≤ (l.getD k.toNat default).par) : above (l.getD k.toNat default) = (l.getD k.toNat default).par ∧ (l.getD k.toNat default).host < 0 := by
  have hh : (l.getD k.toNat default).host < 0 := Classical.byContradiction fun q => by have := (st_n1 h hk).one (by omega); omega
  exact ⟨by unfold above; rw [if_neg (by omega)], hh⟩
theorem roots_top {l : List Nd} (h : checkSt l = 0) : ∀ (d : Nat) (k : Int), 0 ≤ k ∧ k < (l.length : Int) → dpt l k = d →
    (0 ≤ topSt l k ∧ topSt l k < (l.length : Int)) ∧ rootsL l k = if (l.getD (topSt l k).toNat default).host < 0 then [] else topSt l k :: rootsL l (l.getD (topSt l k).toNat default).host
  | 0, k, hk, hd => by rw [dpt_eq h hk] at hd; cases hd
  | d + 1, k, hk, hd => by
    have hN := (st_n1 h hk).par
    by_cases hp : 0 ≤ (l.getD k.toNat default).par
    · obtain ⟨ea, hh⟩ := above_par h hk hp
      rw [top_par h hk hp]
      have hpk := (par_kid h hk hp).1
      have e : rootsL l k = rootsL l (l.getD k.toNat default).par := by
        unfold rootsL
        rw [line_eq h hk, ea, List.filter_cons_of_neg (by simpa using hh)]
      rw [e]
      exact roots_top h d _ ⟨hp, hpk⟩ (by rw [dpt_eq h hk, ea] at hd; omega)
    · rw [top_self hp]
      refine ⟨hk, ?_⟩
      by_cases hh : (l.getD k.toNat default).host < 0
      · rw [if_pos hh]
        unfold rootsL
        rw [line_eq h hk, List.filter_cons_of_neg (by simpa using hh)]
        have : above (l.getD k.toNat default) < 0 := by unfold above; rw [if_neg (by omega)]; omega
        rw [line_neg this]; rfl
      · rw [if_neg hh]
        unfold rootsL
        rw [line_eq h hk, List.filter_cons_of_pos (by simpa using hh)]
        have : above (l.getD k.toNat default) = (l.getD k.toNat default).host := by unfold above; rw [if_pos (by omega)]
        rw [this]
theorem roots_t {l : List Nd} (h : checkSt l = 0) {k : Int} (hk : 0 ≤ k ∧ k < (l.length : Int)) : (0 ≤ topSt l k ∧ topSt l k < (l.length : Int)) ∧ rootsL l k = if (l.getD (topSt l k).toNat default).host < 0 then [] else topSt l k :: rootsL l (l.getD (topSt l k).toNat default).host := roots_top h _ k hk rfl
theorem roots_in {l : List Nd} (h : checkSt l = 0) {k x : Int} (hk : -1 ≤ k ∧ k < (l.length : Int)) (hx : x ∈ rootsL l k) : (0 ≤ x ∧ x < (l.length : Int)) ∧ 0 ≤ (l.getD x.toNat default).host ∧ x ∈ line l k := by
  unfold rootsL at hx
  rw [List.mem_filter, decide_eq_true_iff] at hx
  have key : ∀ (n : Nat) (k : Int), x ∈ lineN l n k → 0 ≤ x ∧ x < (l.length : Int) := fun n => by
    induction n with
    | zero => intro k q; cases q
    | succ n ih =>
      intro k q
      rw [lineN] at q
      split at q
      · rename_i hr
        rcases List.mem_cons.1 q with rfl | q
        · exact hr
        · exact ih _ q
      · cases q
  exact ⟨key _ _ hx.1, hx.2, hx.1⟩
def shutB (l : List Nd) (f : Int) (all : Bool) (r : Int) : Bool := (!underB l f r) && (all || (l.getD r.toNat default).closed)
def hiddenSt (l : List Nd) (f k : Int) (all : Bool) : Bool := (rootsL l k).any (shutB l f all)
theorem hidden_0 {l : List Nd} (h : checkSt l = 0) {f k : Int} {all : Bool} (hk : 0 ≤ k ∧ k < (l.length : Int)) (hh : (l.getD (topSt l k).toNat default).host < 0) : hiddenSt l f k all = false := by
  unfold hiddenSt; rw [(roots_t h hk).2, if_pos hh]; rfl
theorem hidden_1 {l : List Nd} (h : checkSt l = 0) {f k : Int} {all : Bool} (hk : 0 ≤ k ∧ k < (l.length : Int)) (hh : ¬ (l.getD (topSt l k).toNat default).host < 0) (hs : shutB l f all (topSt l k) = true) : hiddenSt l f k all = true := by
  unfold hiddenSt; rw [(roots_t h hk).2, if_neg hh, List.any_cons, hs]; rfl
theorem hidden_2 {l : List Nd} (h : checkSt l = 0) {f k : Int} {all : Bool} (hk : 0 ≤ k ∧ k < (l.length : Int)) (hh : ¬ (l.getD (topSt l k).toNat default).host < 0) (hs : shutB l f all (topSt l k) = false) :
    hiddenSt l f k all = hiddenSt l f (l.getD (topSt l k).toNat default).host all ∧ (rootsL l k).length = (rootsL l (l.getD (topSt l k).toNat default).host).length + 1 ∧ (0 ≤ (l.getD (topSt l k).toNat default).host ∧ (l.getD (topSt l k).toNat default).host < (l.length : Int)) := by
  have ht := roots_t h hk
  have := (st_n1 h ht.1).host
  refine ⟨?_, ?_, by omega, this.2⟩
  · unfold hiddenSt; rw [ht.2, if_neg hh, List.any_cons, hs]; rfl
  · rw [ht.2, if_neg hh, List.length_cons]
theorem roots_len {l : List Nd} (h : checkSt l = 0) {k : Int} (hk : 0 ≤ k ∧ k < (l.length : Int)) : (rootsL l k).length ≤ l.length := Nat.le_trans (List.length_filter_le _ _) (dpt_le h hk)
def pathSt (l : List Nd) (h : Hd) : List Int × Int := if firstSt l [h] ≠ 0 then ([], firstSt l [h]) else (line l h.pl, 0)
theorem path_1 {l : List Nd} {h : Hd} (q : ¬ firstSt l [h] = 0) : pathSt l h = ([], firstSt l [h]) := if_pos q
theorem path_2 {l : List Nd} {h : Hd} (q : firstSt l [h] = 0) : pathSt l h = (line l h.pl, 0) := if_neg (not_not_intro q)
def tgtL (l : List Nd) (told k : Int) : List Int → Int
  | [] => k
  | r :: rs => if (r :: rs).any (shutB l told true) = true then tgtL l told (l.getD r.toNat default).host rs else k
def tgtSt (l : List Nd) (k told : Int) : Int := if checkSt l ≠ 0 ∨ k < 0 ∨ (l.length : Int) ≤ k ∨ told < 0 ∨ (l.length : Int) ≤ told then k else tgtL l told k (rootsL l k)
theorem tgt_f {l : List Nd} (h : checkSt l = 0) {told k : Int} (hk : 0 ≤ k ∧ k < (l.length : Int)) (q : hiddenSt l told k true = false) : tgtL l told k (rootsL l k) = k := by
  unfold hiddenSt at q
  cases e : rootsL l k with
  | nil => rfl
  | cons r rs => rw [e] at q; rw [tgtL, if_neg (ff q)]
theorem tgt_t {l : List Nd} (h : checkSt l = 0) {told k : Int} (hk : 0 ≤ k ∧ k < (l.length : Int)) (q : hiddenSt l told k true = true) :
    tgtL l told k (rootsL l k) = tgtL l told (l.getD (topSt l k).toNat default).host (rootsL l (l.getD (topSt l k).toNat default).host) ∧ (rootsL l k).length = (rootsL l (l.getD (topSt l k).toNat default).host).length + 1 ∧
      (0 ≤ topSt l k ∧ topSt l k < (l.length : Int)) ∧ (0 ≤ (l.getD (topSt l k).toNat default).host ∧ (l.getD (topSt l k).toNat default).host < (l.length : Int)) := by
  have ht := roots_t h hk
  have hn := (st_n1 h ht.1).host
  by_cases hh : (l.getD (topSt l k).toNat default).host < 0
  · rw [hidden_0 h hk hh] at q; cases q
  · unfold hiddenSt at q
    rw [ht.2, if_neg hh] at q ⊢
    exact ⟨by rw [tgtL, if_pos q], by rw [List.length_cons], ht.1, by omega, hn.2⟩
def tgtR (l : List Nd) (told : Int) (k r : Int) : Int := if !decide (r ∈ rootsL l told) then (l.getD r.toNat default).host else k
theorem any_fold {l : List Nd} {told : Int} : ∀ (rs : List Int) (a b : Int), (rs.any fun r => !decide (r ∈ rootsL l told)) = true → rs.foldl (tgtR l told) a = rs.foldl (tgtR l told) b
  | [], _, _, h => by cases h
  | r :: rs, a, b, h => by
    rw [List.foldl_cons, List.foldl_cons]
    by_cases q : (!decide (r ∈ rootsL l told)) = true
    · rw [tgtR, tgtR, if_pos q, if_pos q]
    · rw [List.any_cons, Bool.eq_false_iff.2 q, Bool.false_or] at h
      exact any_fold rs _ _ h
theorem shut_mem {l : List Nd} (h : checkSt l = 0) {told r : Int} (ht : 0 ≤ told ∧ told < (l.length : Int)) (hr : 0 ≤ r) (hh : 0 ≤ (l.getD r.toNat default).host) : (!decide (r ∈ rootsL l told)) = !underB l told r := by
  rw [← line_under h (by omega) hr]
  congr 1
  rw [Bool.eq_iff_iff, decide_eq_true_iff, decide_eq_true_iff]
  unfold rootsL
  rw [List.mem_filter, decide_eq_true_iff]
  exact ⟨fun q => q.1, fun q => ⟨q, hh⟩⟩
theorem tgt_fold {l : List Nd} (h : checkSt l = 0) {told : Int} (ht : 0 ≤ told ∧ told < (l.length : Int)) : ∀ (rs : List Int) (k : Int), (∀ r ∈ rs, 0 ≤ r ∧ 0 ≤ (l.getD r.toNat default).host) → tgtL l told k rs = rs.foldl (tgtR l told) k
  | [], _, _ => rfl
  | r :: rs, k, hr => by
    have e : ∀ L : List Int, (∀ r ∈ L, 0 ≤ r ∧ 0 ≤ (l.getD r.toNat default).host) → L.any (shutB l told true) = L.any fun r => !decide (r ∈ rootsL l told) := fun L => by
      induction L with
      | nil => intro _; rfl
      | cons x L ih =>
        intro hL
        rw [List.any_cons, List.any_cons, ih fun y hy => hL y (.tail _ hy), shut_mem h ht (hL x (.head _)).1 (hL x (.head _)).2]
        congr 1
        simp [shutB]
    have ih := tgt_fold h ht rs
    rw [tgtL, e _ hr]
    by_cases q : ((r :: rs).any fun r => !decide (r ∈ rootsL l told)) = true
    · rw [if_pos q, ih _ fun y hy => hr y (.tail _ hy), List.foldl_cons]
      by_cases q2 : (!decide (r ∈ rootsL l told)) = true
      · rw [tgtR, if_pos q2]
      · rw [List.any_cons, Bool.eq_false_iff.2 q2, Bool.false_or] at q
        exact any_fold rs _ _ q
    · rw [if_neg q]
      have key : ∀ (L : List Int) (k : Int), ¬ (L.any fun r => !decide (r ∈ rootsL l told)) = true → L.foldl (tgtR l told) k = k := fun L => by
        induction L with
        | nil => intro k _; rfl
        | cons x L ih =>
          intro k hn
          rw [List.any_cons, Bool.or_eq_true, not_or] at hn
          rw [List.foldl_cons, tgtR, if_neg hn.1]
          exact ih k hn.2
      exact (key _ k q).symm
def attAt (m : List Nd) (k : Nat) (h : Int) (cl : Bool) : List Nd := (m.set k { (m.getD k default) with host := h }).set k { ((m.set k { (m.getD k default) with host := h }).getD k default) with closed := cl }
def attSt (l : List Nd) (h : Hd) (cl : Bool) : List Nd × Hd × Int :=
  if firstSt l [h] ≠ 0 then ([], ⟨0, 0⟩, firstSt l [h]) else if (l.any fun n => decide (n.host = h.pl)) = true then ([], ⟨0, 0⟩, 6) else if (mkSt l 0).2.2 ≠ 0 then ([], ⟨0, 0⟩, (mkSt l 0).2.2)
  else (attAt (mkSt l 0).1 (mkSt l 0).2.1.pl.toNat h.pl cl, (mkSt l 0).2.1, 0)
section
variable {l : List Nd} {h : Hd} {cl : Bool}
theorem att_1 (q : ¬ firstSt l [h] = 0) : attSt l h cl = ([], ⟨0, 0⟩, firstSt l [h]) := if_pos q
theorem att_2 (q : firstSt l [h] = 0) (q2 : (l.any fun n => decide (n.host = h.pl)) = true) : attSt l h cl = ([], ⟨0, 0⟩, 6) := by unfold attSt; rw [if_neg (not_not_intro q), if_pos q2]
theorem att_3 (q : firstSt l [h] = 0) (q2 : (l.any fun n => decide (n.host = h.pl)) = false) (q3 : ¬ (mkSt l 0).2.2 = 0) : attSt l h cl = ([], ⟨0, 0⟩, (mkSt l 0).2.2) := by unfold attSt; rw [if_neg (not_not_intro q), if_neg (ff q2), if_pos q3]
theorem att_4 (q : firstSt l [h] = 0) (q2 : (l.any fun n => decide (n.host = h.pl)) = false) (q3 : (mkSt l 0).2.2 = 0) : attSt l h cl = (attAt (mkSt l 0).1 (mkSt l 0).2.1.pl.toNat h.pl cl, (mkSt l 0).2.1, 0) := by
  unfold attSt; rw [if_neg (not_not_intro q), if_neg (ff q2), if_neg (not_not_intro q3)]
end
theorem mk_pl {l : List Nd} {g : Int} (e : (mkSt l g).2.2 = 0) : ∃ k : Nat, k < l.length ∧ roomB (l.getD k default) = true ∧ (0 ≤ g ∧ g ≤ 99) ∧ checkSt l = 0 ∧ (mkSt l g).1 = mkAt l k g ∧ (mkSt l g).2.1 = ⟨(k : Int), (l.getD k default).uses + 1⟩ := by
  have h1 : checkSt l = 0 := Classical.byContradiction fun q => by rw [mk_1 q] at e; exact q e
  have h2 : ¬ (g < 0 ∨ 99 < g) := fun q => by rw [mk_2 h1 q] at e; cases e
  rcases idxF_cases roomB default l with ⟨a, _⟩ | ⟨i, a, hi, hp, ha⟩
  · rw [mk_3 h1 h2 (by omega)] at e; cases e
  · have q := mk_hit h1 h2 hi ha hp
    exact ⟨i, hi, hp, by omega, h1, by rw [q], by rw [q]⟩
theorem mk_in {l : List Nd} {g : Int} (e : (mkSt l g).2.2 = 0) : (mkSt l g).1.length = l.length ∧ 0 ≤ (mkSt l g).2.1.pl ∧ (mkSt l g).2.1.pl < (l.length : Int) := by
  obtain ⟨k, hk, _, _, _, e1, e2⟩ := mk_pl e
  rw [e1, e2, mkAt_len]
  exact ⟨rfl, by show 0 ≤ (k : Int) ∧ (k : Int) < _; omega⟩
theorem roots_s {l : List Nd} {L : List Int} {i : Nat} (h : i < L.length) : (L.take (i + 1)).filter (fun x => decide (0 ≤ (l.getD x.toNat default).host)) = (L.take i).filter (fun x => decide (0 ≤ (l.getD x.toNat default).host)) ++ (if 0 ≤ (l.getD (L.getD i 0).toNat default).host then [L.getD i 0] else []) := by
  rw [take_s 0 h, List.filter_append]
  split
  · rename_i q; rw [List.filter_cons_of_pos (by simpa using q)]; rfl
  · rename_i q; rw [List.filter_cons_of_neg (by simpa using q)]; rfl
theorem line_in {l : List Nd} {k x : Int} (hx : x ∈ line l k) : 0 ≤ x ∧ x < (l.length : Int) := by
  have key : ∀ (n : Nat) (k : Int), x ∈ lineN l n k → 0 ≤ x ∧ x < (l.length : Int) := fun n => by
    induction n with
    | zero => intro k q; cases q
    | succ n ih =>
      intro k q
      rw [lineN] at q
      split at q
      · rename_i hr
        rcases List.mem_cons.1 q with rfl | q
        · exact hr
        · exact ih _ q
      · cases q
  exact key _ _ hx
theorem line_len25 {l : List Nd} (h : checkSt l = 0) (k : Int) : (line l k).length ≤ l.length + 1 := by
  have key : ∀ (n : Nat) (k : Int), (lineN l n k).length ≤ n := fun n => by
    induction n with
    | zero => intro k; exact Nat.le_refl 0
    | succ n ih =>
      intro k
      rw [lineN]
      split
      · rw [List.length_cons]; have := ih (runder (l.getD k.toNat default)); omega
      · exact Nat.zero_le _
  exact key _ _
end Go.Proofs.Ytmcdamcedemdiaa
namespace Go.Proofs.Ytmcdamcedemdiaa
open Go.RowKit Go.Eng
theorem makeO_ct (l : List Nd) (tag : Int) (hb : ∀ n ∈ l, n.kids.length ≤ 17592186043904) : CtM Try.prog 40 [SV.agg 1 (stG l), iv (tag)] [] (sv3 (SV.agg 1 (cmpG [SV.own 0])) (SV.agg 2 (hdCell ((mkSt l tag).2.1))) (iv ((mkSt l tag).2.2))) [(0, ownOf ndCell 8 default ((mkSt l tag).1) 61)] := by
 refine CmO 59 Try.func40 rfl rfl rfl fun E => row_lenA 0 (V (s := 0) rfl) rfl rfl fun hl0_0 => Sq <| Rt <| BxA 1 (V rfl) rfl rfl <| Al 2 zero24 rfl rfl <| Al 3 zero26 rfl rfl <| U (As K) <| Nt <| Sq <| Sq <| Rq <| O (LBA (V rfl) rfl Ga24 Sz24 (by decide)) <| CQ en44 (by exact ⟨⟨(Vi (g' := stG l) (V rfl) ⟨Z, Ir⟩), rfl⟩, Z⟩) (stcheck_ct l (by first | assumption | exact kb_nil | exact kb_of (by assumption) | exact kb_of fam_c5)) <| O (As (V rfl)) <| Nq <| Sq <| Rq <| O (Mv (V rfl)) <| O (Qn (V rfl) K) <| Nq <| Cd (V rfl) (fun hc1 => ?_) (fun hc1 => ?_)
 ·have hc1s := hc1; try simp only [BL] at hc1s
  exact Sq <| Rt <| U (Bu [] id (cmpG [SV.v (Value.slice none 0 0)]) zero24 build24 (by exact Z) (by decide) ⟨Z, rfl⟩) <| U (Bu [] id (hdCell ⟨0, 0⟩) zero26 build26 (by exact Z) (by decide) ⟨⟨Z, rfl⟩, rfl⟩) <| U (Mv (V rfl)) <| StA (V rfl) rfl (V rfl) Sz24 <| StA (V rfl) rfl (V rfl) Sz26 <| U (As (V rfl)) <| Nt <| Tc (turn_nilB 2 0 4 8 (rowG ndCell default []) 61 (by exact rfl) (by exact rfl) (by exact rfl)) <| c_mv 4 0 rfl rfl <| c_ownE 0 ((mkSt l tag).1) rfl (by rw [mk_1 hc1s]) <| Rx <| RM3 rfl (rv_aggI (g' := cmpG [SV.own 0]) (rv_cell (V rfl) rfl Ga24 Sz24) ⟨Z, Ir⟩) (rv_aggI (g' := hdCell ⟨0, 0⟩) (rv_cell (V rfl) rfl Ga26 Sz26) ⟨⟨Z, Ir⟩, Ir⟩) (rv_tmp (V rfl)) (by exact ⟨⟨_, rfl, rfl⟩, Z⟩) (by show sv3 (SV.agg 1 (cmpG [SV.own 0])) (SV.agg 2 (hdCell ⟨0, 0⟩)) (iv (checkSt l)) = sv3 (SV.agg 1 (cmpG [SV.own 0])) (SV.agg 2 (hdCell ((mkSt l tag).2.1))) (iv ((mkSt l tag).2.2)); rw [mk_1 hc1s])
 ·have hc1s := hc1; try simp only [BL] at hc1s
  have hl24 := checkSt_len hc1s
  have hkf : ∀ i, i < l.length → (l.getD i default).kids.length ≤ 24 := fun i hi => kids_few hc1s hi
  refine Sk <| Sq <| Sq <| Rq <| O (Mv (V rfl)) <| O (Lt (V rfl) K) <| O (Mv (V rfl)) <| Og (Gn rfl rfl) (fun hg => Mv (V rfl)) <| Og (Gn rfl rfl) (fun hg => Gt (Vg (V rfl) hg) K) <| O (Qr (V rfl) (fun h => Vg (V rfl) (notT h))) <| Nq <| Cd (V rfl) (fun hc2 => ?_) (fun hc2 => ?_)
  ·have hc2s := hc2; try simp only [BL] at hc2s
   exact Sq <| Rt <| U (Bu [] id (cmpG [SV.v (Value.slice none 0 0)]) zero24 build24 (by exact Z) (by decide) ⟨Z, rfl⟩) <| U (Bu [] id (hdCell ⟨0, 0⟩) zero26 build26 (by exact Z) (by decide) ⟨⟨Z, rfl⟩, rfl⟩) <| StA (V rfl) rfl (V rfl) Sz24 <| StA (V rfl) rfl (V rfl) Sz26 <| U (As K) <| Nt <| Tc (turn_nilB 2 0 5 8 (rowG ndCell default []) 61 (by exact rfl) (by exact rfl) (by exact rfl)) <| c_mv 5 0 rfl rfl <| c_ownE 0 ((mkSt l tag).1) rfl (by rw [mk_2 hc1s hc2s]) <| Rx <| RM3 rfl (rv_aggI (g' := cmpG [SV.own 0]) (rv_cell (V rfl) rfl Ga24 Sz24) ⟨Z, Ir⟩) (rv_aggI (g' := hdCell ⟨0, 0⟩) (rv_cell (V rfl) rfl Ga26 Sz26) ⟨⟨Z, Ir⟩, Ir⟩) (rv_tmp (V rfl)) (by exact ⟨⟨_, rfl, rfl⟩, Z⟩) (by show sv3 (SV.agg 1 (cmpG [SV.own 0])) (SV.agg 2 (hdCell ⟨0, 0⟩)) (iv (2)) = sv3 (SV.agg 1 (cmpG [SV.own 0])) (SV.agg 2 (hdCell ((mkSt l tag).2.1))) (iv ((mkSt l tag).2.2)); rw [mk_2 hc1s hc2s])
  ·have hc2s := hc2; try simp only [BL] at hc2s
   refine Sk <| Sq <| Rt <| U (FlB _ _ (V rfl) Un24 rfl 0 Sz22) <| U (LdB (V rfl) rfl Ga22 (by decide)) <| CT en113 (by exact ⟨⟨(V rfl), rfl⟩, ⟨(VA (Vf) rfl), rfl⟩, Z⟩) (idxf113_ct roomB en114 rfl room_ct l) <| U (As (V rfl)) <| Nt <| Sq <| Sq <| Rq <| O (Mv (V rfl)) <| O (Lt (V rfl) K) <| Nq <| Cd (V rfl) (fun hc3 => ?_) (fun hc3 => ?_)
   ·have hc3s := hc3; try simp only [BL] at hc3s
    exact Sq <| Rt <| U (Bu [] id (cmpG [SV.v (Value.slice none 0 0)]) zero24 build24 (by exact Z) (by decide) ⟨Z, rfl⟩) <| U (Bu [] id (hdCell ⟨0, 0⟩) zero26 build26 (by exact Z) (by decide) ⟨⟨Z, rfl⟩, rfl⟩) <| StA (V rfl) rfl (V rfl) Sz24 <| StA (V rfl) rfl (V rfl) Sz26 <| U (As K) <| Nt <| Tc (turn_nilB 2 0 6 8 (rowG ndCell default []) 61 (by exact rfl) (by exact rfl) (by exact rfl)) <| c_mv 6 0 rfl rfl <| c_ownE 0 ((mkSt l tag).1) rfl (by rw [mk_3 hc1s (by omega) hc3s]) <| Rx <| RM3 rfl (rv_aggI (g' := cmpG [SV.own 0]) (rv_cell (V rfl) rfl Ga24 Sz24) ⟨Z, Ir⟩) (rv_aggI (g' := hdCell ⟨0, 0⟩) (rv_cell (V rfl) rfl Ga26 Sz26) ⟨⟨Z, Ir⟩, Ir⟩) (rv_tmp (V rfl)) (by exact ⟨⟨_, rfl, rfl⟩, Z⟩) (by show sv3 (SV.agg 1 (cmpG [SV.own 0])) (SV.agg 2 (hdCell ⟨0, 0⟩)) (iv (1)) = sv3 (SV.agg 1 (cmpG [SV.own 0])) (SV.agg 2 (hdCell ((mkSt l tag).2.1))) (iv ((mkSt l tag).2.2)); rw [mk_3 hc1s (by omega) hc3s])
   ·have hc3s := hc3; try simp only [BL] at hc3s
    obtain ⟨i0, he0, hi0, hp0, -⟩ := (idxF_cases roomB default l).resolve_left fun h => hc3s (by omega)
    have hku : (idxF roomB l).toNat < l.length := by omega
    have hmt : (mkTag l (Int.toNat (idxF roomB l)) tag).length = l.length := mkTag_len
    have hma : (mkAt l (Int.toNat (idxF roomB l)) tag).length = l.length := mkAt_len
    have hei : (idxF roomB l).toNat = i0 := by omega
    have hus := (uses_ok hc1s hi0)
    have hul := (roomB_lt hp0).2
    refine Sk <| Sq <| Rt <| U (LBA (V rfl) rfl Ga24 Sz24 (by decide)) <| CM (cargs := [SV.agg 1 (stG l)]) [] [(0, 7)] en115 (mv0 (by exact ⟨⟨(Vi (g' := stG l) (V rfl) ⟨Z, Ir⟩), rfl⟩, Z⟩)) (copy_ct l (by omega) (by assumption)) (by exact Z) rfl rfl rfl rfl <| StA (V rfl) rfl (V rfl) Sz24 <| Nt <| Sq <| Rq <| O (FlB _ _ (V rfl) Un24 rfl 0 Sz22) <| O (LdB (V rfl) rfl Ga22 (by decide)) <| O (Mv (V rfl)) <| O (IxO (V rfl) rfl (V rfl) ts22 te22 (by omega) (by first | omega | (simp only [List.length_set, mkTag_len, mkAt_len]; omega))) <| O (As (V rfl)) <| Nq <| Sq <| Rt <| U (Mv (V rfl)) <| U (Mv (V rfl)) <| U (Mv (V rfl)) <| U (q_nilO (V rfl)) <| U (FlO _ _ (V rfl) Un61 rfl 0 Sz4) <| ?_
    have hidx0 : Int.toNat (idxF roomB l) < l.length := by first | omega | (simp; omega)
    refine StO (rowG ndCell default (l.set (Int.toNat (idxF roomB l)) ({ (l.getD (Int.toNat (idxF roomB l)) default) with used := true }))) (V rfl) rfl K rfl rfl Sz4 (by decide) (show l.length = (l.set (Int.toNat (idxF roomB l)) ({ (l.getD (Int.toNat (idxF roomB l)) default) with used := true })).length from List.length_set.symm) (set_at hidx0 rfl) (set_typed hidx0 fun t ht hne => match t, ht, hne with | 0, _, hne => absurd rfl hne | 1, _, _ => rfl | 2, _, _ => rfl | 3, _, _ => rfl | 4, _, _ => rfl | 5, _, _ => rfl | 6, _, _ => rfl | 7, _, _ => rfl) <| U (q_nilO (V rfl)) <| U (FlO _ _ (V rfl) Un61 rfl 0 Sz3) <| ?_
    have hidx1 : Int.toNat (idxF roomB l) < (l.set (Int.toNat (idxF roomB l)) ({ (l.getD (Int.toNat (idxF roomB l)) default) with used := true })).length := by first | omega | (simp; omega)
    refine StO (rowG ndCell default ((l.set (Int.toNat (idxF roomB l)) ({ (l.getD (Int.toNat (idxF roomB l)) default) with used := true })).set (Int.toNat (idxF roomB l)) ({ ((l.set (Int.toNat (idxF roomB l)) ({ (l.getD (Int.toNat (idxF roomB l)) default) with used := true })).getD (Int.toNat (idxF roomB l)) default) with tag := tag }))) (V rfl) rfl (V rfl) rfl rfl Sz3 (by decide) (show (l.set (Int.toNat (idxF roomB l)) ({ (l.getD (Int.toNat (idxF roomB l)) default) with used := true })).length = ((l.set (Int.toNat (idxF roomB l)) ({ (l.getD (Int.toNat (idxF roomB l)) default) with used := true })).set (Int.toNat (idxF roomB l)) ({ ((l.set (Int.toNat (idxF roomB l)) ({ (l.getD (Int.toNat (idxF roomB l)) default) with used := true })).getD (Int.toNat (idxF roomB l)) default) with tag := tag })).length from List.length_set.symm) (set_at hidx1 rfl) (set_typed hidx1 fun t ht hne => match t, ht, hne with | 0, _, _ => rfl | 1, _, _ => rfl | 2, _, hne => absurd rfl hne | 3, _, _ => rfl | 4, _, _ => rfl | 5, _, _ => rfl | 6, _, _ => rfl | 7, _, _ => rfl) <| Nt <| Sq <| c_ownE 7 (mkTag l (Int.toNat (idxF roomB l)) tag) rfl (by exact mkTag_eq hku) <| Rt <| U (Mv (V rfl)) <| U (q_nilO (V rfl)) <| U (FlO _ _ (V rfl) Un61 rfl 0 Sz3) <| U (LdO (V rfl) rfl Ga3 (by decide)) <| U (Ad (V rfl) K (by rw [mkTag_uses hku, hei]; omega)) <| U (q_nilO (V rfl)) <| U (FlO _ _ (V rfl) Un61 rfl 0 Sz3) <| ?_
    have hidx2 : Int.toNat (idxF roomB l) < (mkTag l (Int.toNat (idxF roomB l)) tag).length := by first | omega | (simp; omega)
    refine StO (rowG ndCell default ((mkTag l (Int.toNat (idxF roomB l)) tag).set (Int.toNat (idxF roomB l)) ({ ((mkTag l (Int.toNat (idxF roomB l)) tag).getD (Int.toNat (idxF roomB l)) default) with uses := (((mkTag l (Int.toNat (idxF roomB l)) tag).getD (Int.toNat (idxF roomB l)) default).uses) + 1 }))) (V rfl) rfl (V rfl) rfl rfl Sz3 (by decide) (show (mkTag l (Int.toNat (idxF roomB l)) tag).length = ((mkTag l (Int.toNat (idxF roomB l)) tag).set (Int.toNat (idxF roomB l)) ({ ((mkTag l (Int.toNat (idxF roomB l)) tag).getD (Int.toNat (idxF roomB l)) default) with uses := (((mkTag l (Int.toNat (idxF roomB l)) tag).getD (Int.toNat (idxF roomB l)) default).uses) + 1 })).length from List.length_set.symm) (set_at hidx2 rfl) (set_typed hidx2 fun t ht hne => match t, ht, hne with | 0, _, _ => rfl | 1, _, hne => absurd rfl hne | 2, _, _ => rfl | 3, _, _ => rfl | 4, _, _ => rfl | 5, _, _ => rfl | 6, _, _ => rfl | 7, _, _ => rfl) <| Nt <| Sq <| c_ownE 7 (mkAt l (Int.toNat (idxF roomB l)) tag) rfl (by exact mkAt_eq hku) <| c_rd (fun e => ⟨[(52, cj (e 0) (SV.agg 1 (fun zi => (fun zt => SV.renm (rn [(0, 7)]) ((cmpG [SV.own 0]) zt)) (0 + zi)))), (53, cj (e 1) (iv (idxF roomB l))), (54, cj (e 2) (SV.oe 7 8 (Int.toNat (idxF roomB l)) 0)), (55, cj (e 3) (SV.oe 7 8 (Int.toNat (idxF roomB l)) 0)), (56, cj (e 4) (SV.oe 7 8 (Int.toNat (idxF roomB l)) 1)), (57, cj (e 5) (iv (((mkAt l (Int.toNat (idxF roomB l)) tag).getD (Int.toNat (idxF roomB l)) default).uses))), (58, cj (e 6) (SV.agg 2 (hdCell ⟨idxF roomB l, ((mkAt l (Int.toNat (idxF roomB l)) tag).getD (Int.toNat (idxF roomB l)) default).uses⟩))), (6, cj (e 9) (iv (0))), (2, SV.bp 1 0), (4, SV.bp 2 0), (5, SV.bp 3 0), (8, iv (idxF roomB l)), (9, SV.oe 7 8 (Int.toNat (idxF roomB l)) 0)], (cb (e 7) (cb (e 8) [(1, Own.box 1 (fun zt => SV.renm (rn [(0, 7)]) ((cmpG [SV.own 0]) zt)) 24), (2, Own.box 1 (fun zi => (fun zt => SV.renm (rn [(0, 7)]) ((cmpG [SV.own 0]) zt)) (0 + zi)) 24), (3, Own.box 2 (hdCell ⟨idxF roomB l, ((mkAt l (Int.toNat (idxF roomB l)) tag).getD (Int.toNat (idxF roomB l)) default).uses⟩) 26), (7, ownOf ndCell 8 default (mkAt l (Int.toNat (idxF roomB l)) tag) 61)] [(1, Own.box 1 (fun zt => SV.renm (rn [(0, 7)]) ((cmpG [SV.own 0]) zt)) 24), (2, Own.box 1 (fun zi => (fun zt => SV.renm (rn [(0, 7)]) ((cmpG [SV.own 0]) zt)) (0 + zi)) 24), (3, Own.box 2 (cmpG [iv (0), iv (0)]) 26), (7, ownOf ndCell 8 default (mkAt l (Int.toNat (idxF roomB l)) tag) 61)]) (cb (e 8) [] [(1, Own.box 1 (fun zt => SV.renm (rn [(0, 7)]) ((cmpG [SV.own 0]) zt)) 24), (2, Own.box 1 (cmpG [SV.v (Value.slice none 0 0)]) 24), (3, Own.box 2 (cmpG [iv (0), iv (0)]) 26), (7, ownOf ndCell 8 default (mkAt l (Int.toNat (idxF roomB l)) tag) 61)]))⟩) ⟨[(52, SV.agg 1 (fun zi => (fun zt => SV.renm (rn [(0, 7)]) ((cmpG [SV.own 0]) zt)) (0 + zi))), (53, iv (idxF roomB l)), (54, SV.oe 7 8 (Int.toNat (idxF roomB l)) 0), (55, SV.oe 7 8 (Int.toNat (idxF roomB l)) 0), (56, SV.oe 7 8 (Int.toNat (idxF roomB l)) 1), (57, iv (((mkAt l (Int.toNat (idxF roomB l)) tag).getD (Int.toNat (idxF roomB l)) default).uses)), (58, SV.agg 2 (hdCell ⟨idxF roomB l, ((mkAt l (Int.toNat (idxF roomB l)) tag).getD (Int.toNat (idxF roomB l)) default).uses⟩)), (6, iv (0)), (2, SV.bp 1 0), (4, SV.bp 2 0), (5, SV.bp 3 0), (8, iv (idxF roomB l)), (9, SV.oe 7 8 (Int.toNat (idxF roomB l)) 0)], [(1, Own.box 1 (fun zt => SV.renm (rn [(0, 7)]) ((cmpG [SV.own 0]) zt)) 24), (2, Own.box 1 (fun zi => (fun zt => SV.renm (rn [(0, 7)]) ((cmpG [SV.own 0]) zt)) (0 + zi)) 24), (3, Own.box 2 (hdCell ⟨idxF roomB l, ((mkAt l (Int.toNat (idxF roomB l)) tag).getD (Int.toNat (idxF roomB l)) default).uses⟩) 26), (7, ownOf ndCell 8 default (mkAt l (Int.toNat (idxF roomB l)) tag) 61)]⟩ (by kernel_rfl) (by kernel_rfl) ?_ ⟨?_, ?_, ?_, ?_, ?_, ?_, ?_, ?_, ?_, ?_, Z⟩ ?_ ?_
    ·show Weak _ _ ⟨[(52, SV.junk), (53, SV.junk), (54, SV.junk), (55, SV.junk), (56, SV.junk), (57, SV.junk), (58, SV.junk), (6, SV.junk), (2, SV.bp 1 0), (4, SV.bp 2 0), (5, SV.bp 3 0), (8, iv (idxF roomB l)), (9, SV.oe 7 8 (Int.toNat (idxF roomB l)) 0)], [(1, Own.box 1 (fun zt => SV.renm (rn [(0, 7)]) ((cmpG [SV.own 0]) zt)) 24), (2, Own.box 1 (cmpG [SV.v (Value.slice none 0 0)]) 24), (3, Own.box 2 (cmpG [iv (0), iv (0)]) 26), (7, ownOf ndCell 8 default (mkAt l (Int.toNat (idxF roomB l)) tag) 61)]⟩
     refine We ?_ ?_
     ·exact ⟨Vj, Vj, Vj, Vj, Vj, Vj, Vj, Vj, V rfl, V rfl, V rfl, V rfl, V rfl, Z⟩
     ·exact ⟨⟨_, rfl, ⟨rfl, rfl, (An rfl)⟩⟩, ⟨_, rfl, ⟨rfl, rfl, (An rfl)⟩⟩, ⟨_, rfl, ⟨rfl, rfl, (An rfl)⟩⟩, ⟨_, rfl, rfl⟩, Z⟩
    ·intro e hdn he hdp
     obtain ⟨h7, h8, -⟩ := dns1 hdn he [7, 8] (by kernel_rfl)
     simp only [setE, he, h7, h8, cj_t, cj_f, cjn_t, cjn_f, cb_t, cb_f]
     refine U (LBA (V rfl) rfl Ga24 Sz24 (by decide)) <| Nt <| We ?_ ?_
     ·exact (Vs rfl)
     ·exact ⟨⟨_, rfl, ⟨rfl, rfl, (An rfl)⟩⟩, ⟨_, rfl, ⟨rfl, rfl, (An rfl)⟩⟩, ⟨_, rfl, ⟨rfl, rfl, (An rfl)⟩⟩, ⟨_, rfl, rfl⟩, Z⟩
    ·intro e hdn he hdp
     obtain ⟨-, h8, -⟩ := dns1 hdn he [6, 8] (by kernel_rfl)
     simp only [setE, he, h8, cj_t, cj_f, cjn_t, cjn_f, cb_t, cb_f]
     exact U (Mv (V rfl)) <| Nt <| weakS ⟨V rfl, V rfl, V rfl, V rfl, V rfl, V rfl, V rfl, V rfl, V rfl, V rfl, V rfl, V rfl, V rfl, Z⟩
    ·intro e hdn he hdp
     obtain ⟨-, -, -, -, h8, -⟩ := dns1 hdn he [3, 4, 5, 6, 8] (by kernel_rfl)
     simp only [setE, he, h8, cj_t, cj_f, cjn_t, cjn_f, cb_t, cb_f]
     exact U (Mv (V rfl)) <| Nt <| weakS ⟨V rfl, V rfl, V rfl, V rfl, V rfl, V rfl, V rfl, V rfl, V rfl, V rfl, V rfl, V rfl, V rfl, Z⟩
    ·intro e hdn he hdp
     obtain ⟨h2, -⟩ := ups hdn [2] hdp (by kernel_rfl)
     obtain ⟨-, -, -, h8, -⟩ := dns1 hdn he [4, 5, 6, 8] (by kernel_rfl)
     cases hu7 : e 7
     ·simp only [setE, h2, he, h8, hu7, cj_t, cj_f, cjn_t, cjn_f, cb_t, cb_f]
      refine U (q_nilO (V rfl)) <| Nt <| We ?_ ?_
      ·exact (Vs rfl)
      ·exact ⟨⟨_, rfl, ⟨rfl, rfl, (An rfl)⟩⟩, ⟨_, rfl, ⟨rfl, rfl, (An rfl)⟩⟩, ⟨_, rfl, ⟨rfl, rfl, (An rfl)⟩⟩, ⟨_, rfl, rfl⟩, Z⟩
     ·simp only [setE, h2, he, h8, hu7, cj_t, cj_f, cjn_t, cjn_f, cb_t, cb_f]
      refine U (q_nilO (V rfl)) <| Nt <| We ?_ ?_
      ·exact (Vs rfl)
      ·exact ⟨⟨_, rfl, ⟨rfl, rfl, (An rfl)⟩⟩, ⟨_, rfl, ⟨rfl, rfl, (An rfl)⟩⟩, ⟨_, rfl, ⟨rfl, rfl, (An rfl)⟩⟩, ⟨_, rfl, rfl⟩, Z⟩
    ·intro e hdn he hdp
     obtain ⟨h3, h2, -⟩ := ups hdn [3, 2] hdp (by kernel_rfl)
     obtain ⟨-, -, h8, -⟩ := dns1 hdn he [5, 6, 8] (by kernel_rfl)
     simp only [setE, h2, h3, he, h8, cj_t, cj_f, cjn_t, cjn_f, cb_t, cb_f]
     exact U (FlO _ _ (V rfl) Un61 rfl 0 Sz3) <| Nt <| weakS ⟨V rfl, V rfl, V rfl, V rfl, V rfl, V rfl, V rfl, V rfl, V rfl, V rfl, V rfl, V rfl, V rfl, Z⟩
    ·intro e hdn he hdp
     obtain ⟨h4, h3, h2, -⟩ := ups hdn [4, 3, 2] hdp (by kernel_rfl)
     obtain ⟨-, h8, -⟩ := dns1 hdn he [6, 8] (by kernel_rfl)
     cases hu7 : e 7
     ·simp only [setE, h2, h3, h4, he, h8, hu7, cj_t, cj_f, cjn_t, cjn_f, cb_t, cb_f]
      refine U (LdO (V rfl) rfl Ga3 (by decide)) <| Nt <| We ?_ ?_
      ·exact (Vs rfl)
      ·exact ⟨⟨_, rfl, ⟨rfl, rfl, (An rfl)⟩⟩, ⟨_, rfl, ⟨rfl, rfl, (An rfl)⟩⟩, ⟨_, rfl, ⟨rfl, rfl, (An rfl)⟩⟩, ⟨_, rfl, rfl⟩, Z⟩
     ·simp only [setE, h2, h3, h4, he, h8, hu7, cj_t, cj_f, cjn_t, cjn_f, cb_t, cb_f]
      refine U (LdO (V rfl) rfl Ga3 (by decide)) <| Nt <| We ?_ ?_
      ·exact (Vs rfl)
      ·exact ⟨⟨_, rfl, ⟨rfl, rfl, (An rfl)⟩⟩, ⟨_, rfl, ⟨rfl, rfl, (An rfl)⟩⟩, ⟨_, rfl, ⟨rfl, rfl, (An rfl)⟩⟩, ⟨_, rfl, rfl⟩, Z⟩
    ·intro e hdn he hdp
     obtain ⟨h5, h4, h3, h2, h1, -⟩ := ups hdn [5, 4, 3, 2, 1] hdp (by kernel_rfl)
     obtain ⟨h8, -⟩ := dns1 hdn he [8] (by kernel_rfl)
     simp only [setE, h1, h2, h3, h4, h5, he, h8, cj_t, cj_f, cjn_t, cjn_f, cb_t, cb_f]
     exact U (Bu [(0, iv (idxF roomB l)), (1, iv (((mkAt l (Int.toNat (idxF roomB l)) tag).getD (Int.toNat (idxF roomB l)) default).uses))] id (hdCell ⟨idxF roomB l, ((mkAt l (Int.toNat (idxF roomB l)) tag).getD (Int.toNat (idxF roomB l)) default).uses⟩) zero26 build26 (by exact ⟨⟨rfl, (V rfl), rfl⟩, ⟨rfl, (V rfl), rfl⟩, Z⟩) (by decide) ⟨⟨Z, rfl⟩, rfl⟩) <| Nt <| weakS ⟨V rfl, V rfl, V rfl, V rfl, V rfl, V rfl, V rfl, V rfl, V rfl, V rfl, V rfl, V rfl, V rfl, Z⟩
    ·intro e hdn he hdp
     obtain ⟨h0, -⟩ := ups hdn [0] hdp (by kernel_rfl)
     obtain ⟨h8, -⟩ := dns1 hdn he [8] (by kernel_rfl)
     simp only [setE, h0, he, h8, cj_t, cj_f, cjn_t, cjn_f, cb_t, cb_f]
     refine StA (V rfl) rfl (V rfl) Sz24 <| Nt <| We ?_ ?_
     ·exact (Vs rfl)
     ·exact ⟨⟨_, rfl, ⟨rfl, rfl, (An rfl)⟩⟩, ⟨_, rfl, ⟨rfl, rfl, (An rfl)⟩⟩, ⟨_, rfl, ⟨rfl, rfl, (An rfl)⟩⟩, ⟨_, rfl, rfl⟩, Z⟩
    ·intro e hdn he hdp
     obtain ⟨h7, h6, h5, h4, h3, h2, h1, h0, -⟩ := ups hdn [7, 6, 5, 4, 3, 2, 1, 0] hdp (by kernel_rfl)
     simp only [setE, h0, h1, h2, h3, h4, h5, h6, h7, he, cj_t, cj_f, cjn_t, cjn_f, cb_t, cb_f]
     refine StA (V rfl) rfl (V rfl) Sz26 <| Nt <| We ?_ ?_
     ·exact (Vs rfl)
     ·exact ⟨⟨_, rfl, ⟨rfl, rfl, (An rfl)⟩⟩, ⟨_, rfl, ⟨rfl, rfl, (An rfl)⟩⟩, ⟨_, rfl, ⟨rfl, rfl, (An rfl)⟩⟩, ⟨_, rfl, rfl⟩, Z⟩
    ·intro e hdn he hdp
     obtain ⟨h8, h7, h6, h5, h4, h3, h2, h1, h0, -⟩ := ups hdn [8, 7, 6, 5, 4, 3, 2, 1, 0] hdp (by kernel_rfl)
     simp only [setE, h0, h1, h2, h3, h4, h5, h6, h7, h8, he, cj_t, cj_f, cjn_t, cjn_f, cb_t, cb_f]
     refine U (As K) <| Nt <| We ?_ ?_
     ·exact (Vs rfl)
     ·exact ⟨⟨_, rfl, ⟨rfl, rfl, (An rfl)⟩⟩, ⟨_, rfl, ⟨rfl, rfl, (An rfl)⟩⟩, ⟨_, rfl, ⟨rfl, rfl, (An rfl)⟩⟩, ⟨_, rfl, rfl⟩, Z⟩
    ·intro e he
     have h0 := he 0 (by decide)
     have h1 := he 1 (by decide)
     have h2 := he 2 (by decide)
     have h3 := he 3 (by decide)
     have h4 := he 4 (by decide)
     have h5 := he 5 (by decide)
     have h6 := he 6 (by decide)
     have h7 := he 7 (by decide)
     have h8 := he 8 (by decide)
     have h9 := he 9 (by decide)
     show Weak _ ⟨[(52, cj (e 0) (SV.agg 1 (fun zi => (fun zt => SV.renm (rn [(0, 7)]) ((cmpG [SV.own 0]) zt)) (0 + zi)))), (53, cj (e 1) (iv (idxF roomB l))), (54, cj (e 2) (SV.oe 7 8 (Int.toNat (idxF roomB l)) 0)), (55, cj (e 3) (SV.oe 7 8 (Int.toNat (idxF roomB l)) 0)), (56, cj (e 4) (SV.oe 7 8 (Int.toNat (idxF roomB l)) 1)), (57, cj (e 5) (iv (((mkAt l (Int.toNat (idxF roomB l)) tag).getD (Int.toNat (idxF roomB l)) default).uses))), (58, cj (e 6) (SV.agg 2 (hdCell ⟨idxF roomB l, ((mkAt l (Int.toNat (idxF roomB l)) tag).getD (Int.toNat (idxF roomB l)) default).uses⟩))), (6, cj (e 9) (iv (0))), (2, SV.bp 1 0), (4, SV.bp 2 0), (5, SV.bp 3 0), (8, iv (idxF roomB l)), (9, SV.oe 7 8 (Int.toNat (idxF roomB l)) 0)], (cb (e 7) (cb (e 8) [(1, Own.box 1 (fun zt => SV.renm (rn [(0, 7)]) ((cmpG [SV.own 0]) zt)) 24), (2, Own.box 1 (fun zi => (fun zt => SV.renm (rn [(0, 7)]) ((cmpG [SV.own 0]) zt)) (0 + zi)) 24), (3, Own.box 2 (hdCell ⟨idxF roomB l, ((mkAt l (Int.toNat (idxF roomB l)) tag).getD (Int.toNat (idxF roomB l)) default).uses⟩) 26), (7, ownOf ndCell 8 default (mkAt l (Int.toNat (idxF roomB l)) tag) 61)] [(1, Own.box 1 (fun zt => SV.renm (rn [(0, 7)]) ((cmpG [SV.own 0]) zt)) 24), (2, Own.box 1 (fun zi => (fun zt => SV.renm (rn [(0, 7)]) ((cmpG [SV.own 0]) zt)) (0 + zi)) 24), (3, Own.box 2 (cmpG [iv (0), iv (0)]) 26), (7, ownOf ndCell 8 default (mkAt l (Int.toNat (idxF roomB l)) tag) 61)]) (cb (e 8) [] [(1, Own.box 1 (fun zt => SV.renm (rn [(0, 7)]) ((cmpG [SV.own 0]) zt)) 24), (2, Own.box 1 (cmpG [SV.v (Value.slice none 0 0)]) 24), (3, Own.box 2 (cmpG [iv (0), iv (0)]) 26), (7, ownOf ndCell 8 default (mkAt l (Int.toNat (idxF roomB l)) tag) 61)]))⟩ _
     simp only [h0, h1, h2, h3, h4, h5, h6, h7, h8, h9]
     show Weak _ ⟨[(52, SV.agg 1 (fun zi => (fun zt => SV.renm (rn [(0, 7)]) ((cmpG [SV.own 0]) zt)) (0 + zi))), (53, iv (idxF roomB l)), (54, SV.oe 7 8 (Int.toNat (idxF roomB l)) 0), (55, SV.oe 7 8 (Int.toNat (idxF roomB l)) 0), (56, SV.oe 7 8 (Int.toNat (idxF roomB l)) 1), (57, iv (((mkAt l (Int.toNat (idxF roomB l)) tag).getD (Int.toNat (idxF roomB l)) default).uses)), (58, SV.agg 2 (hdCell ⟨idxF roomB l, ((mkAt l (Int.toNat (idxF roomB l)) tag).getD (Int.toNat (idxF roomB l)) default).uses⟩)), (6, iv (0)), (2, SV.bp 1 0), (4, SV.bp 2 0), (5, SV.bp 3 0), (8, iv (idxF roomB l)), (9, SV.oe 7 8 (Int.toNat (idxF roomB l)) 0)], [(1, Own.box 1 (fun zt => SV.renm (rn [(0, 7)]) ((cmpG [SV.own 0]) zt)) 24), (2, Own.box 1 (fun zi => (fun zt => SV.renm (rn [(0, 7)]) ((cmpG [SV.own 0]) zt)) (0 + zi)) 24), (3, Own.box 2 (hdCell ⟨idxF roomB l, ((mkAt l (Int.toNat (idxF roomB l)) tag).getD (Int.toNat (idxF roomB l)) default).uses⟩) 26), (7, ownOf ndCell 8 default (mkAt l (Int.toNat (idxF roomB l)) tag) 61)]⟩ _
     refine We ?_ ?_
     ·exact ⟨Va (V rfl) (An rfl), V rfl, V rfl, V rfl, V rfl, V rfl, Va (V rfl) (An rfl), V rfl, V rfl, V rfl, V rfl, V rfl, V rfl, Z⟩
     ·exact ⟨⟨_, rfl, ⟨rfl, rfl, (An rfl)⟩⟩, ⟨_, rfl, ⟨rfl, rfl, (An rfl)⟩⟩, ⟨_, rfl, ⟨rfl, rfl, (An rfl)⟩⟩, ⟨_, rfl, rfl⟩, Z⟩
    exact c_mv 7 0 rfl rfl <| c_ownE 0 ((mkSt l tag).1) rfl (by rw [mk_4 hc1s (by omega) hc3s]) <| Rx <| RM3 rfl (rv_aggI (g' := cmpG [SV.own 0]) (rv_cell (V rfl) rfl Ga24 Sz24) ⟨Z, Ir⟩) (rv_aggI (g' := hdCell ⟨idxF roomB l, ((mkAt l (Int.toNat (idxF roomB l)) tag).getD (Int.toNat (idxF roomB l)) default).uses⟩) (rv_cell (V rfl) rfl Ga26 Sz26) ⟨⟨Z, Ir⟩, Ir⟩) (rv_tmp (V rfl)) (by exact ⟨⟨_, rfl, rfl⟩, Z⟩) (by show sv3 (SV.agg 1 (cmpG [SV.own 0])) (SV.agg 2 (hdCell ⟨idxF roomB l, ((mkAt l (Int.toNat (idxF roomB l)) tag).getD (Int.toNat (idxF roomB l)) default).uses⟩)) (iv (0)) = sv3 (SV.agg 1 (cmpG [SV.own 0])) (SV.agg 2 (hdCell ((mkSt l tag).2.1))) (iv ((mkSt l tag).2.2)); rw [mk_4 hc1s (by omega) hc3s, mkAt_uses hku])
theorem attK_ct (x : Nd) (h : Hd) : Ct Try.prog 135 [SV.agg 8 (ndCell x), elB [iv (h.pl), iv (h.use)] 0] (bv (decide (x.host = h.pl))) := by
 exact CtO 9 Try.func135 rfl rfl rfl fun E => row_lenA 5 (V (s := 0) rfl) rfl rfl fun hl0_5 => Sq <| Rt <| BxA 1 (V rfl) rfl rfl <| U (As K) <| Nt <| Sq <| Rq <| O (FlB _ _ (V rfl) Un61 rfl 0 Sz3) <| O (LdB (V rfl) rfl Ga3 (by decide)) <| O (Fl _ _ (V rfl) Un26 rfl 0 Sz3) <| O (Ld (V rfl) Ga3 (by show 0 < 2; decide)) <| O (Ql (V rfl) (V rfl)) <| O (As (V rfl)) <| Nq <| Rx <| R1 rfl (V rfl) rfl (by show bv (decide (x.host = h.pl)) = bv (decide (x.host = h.pl)); rfl)
theorem attach_ct (l : List Nd) (h : Hd) (cl : Bool) (hb : ∀ n ∈ l, n.kids.length ≤ 17592186043904) : Ct Try.prog 74 [SV.agg 1 (stG l), SV.agg 2 (hdCell h), bv (cl)] (sv3 (SV.agg 1 (stG (attSt l h cl).1)) (SV.agg 2 (hdCell (attSt l h cl).2.1)) (iv (attSt l h cl).2.2)) := by
 refine CtO 58 Try.func74 rfl rfl rfl fun E => row_lenA 0 (V (s := 0) rfl) rfl rfl fun hl0_0 => Sq <| Rt <| BxA 1 (V rfl) rfl rfl <| BxA 2 (V rfl) rfl rfl <| Al 3 zero24 rfl rfl <| Al 4 zero26 rfl rfl <| U (As K) <| Nt <| Sq <| Sq <| c_frzB 2 [iv (h.pl), iv (h.use)] rfl rfl ⟨⟨Z, rfl⟩, rfl⟩ rfl <| Rt <| U (LBA (V rfl) rfl Ga24 Sz24 (by decide)) <| U (LdA (V rfl) Ga26 Sz26 (by show 0 + 2 ≤ 2; decide)) <| CT en46 (by exact ⟨⟨(Vi (g' := stG l) (V rfl) ⟨Z, Ir⟩), rfl⟩, ⟨(Vi (g' := hdCell ⟨h.pl, h.use⟩) (V rfl) ⟨⟨Z, Ir⟩, Ir⟩), rfl⟩, Z⟩) (find_ct l h (by first | assumption | exact kb_nil | exact kb_of (by assumption) | exact kb_of fam_c5)) <| U (Mv (V rfl)) <| U (Xt (V rfl) (by decide)) <| U (Xt (V rfl) (by decide)) <| Al 5 zero61 rfl rfl <| StA (V rfl) rfl (V rfl) Sz61 <| U (As (V rfl)) <| Nt <| Sq <| Rq <| O (Mv (V rfl)) <| O (Qn (V rfl) K) <| Nq <| Cd (V rfl) (fun hc1 => ?_) (fun hc1 => ?_)
 ·have hc1s := hc1; try simp only [BL] at hc1s
  exact Sq <| Rt <| U (Bu [] id (cmpG [SV.v (Value.slice none 0 0)]) zero24 build24 (by exact Z) (by decide) ⟨Z, rfl⟩) <| U (Bu [] id (hdCell ⟨0, 0⟩) zero26 build26 (by exact Z) (by decide) ⟨⟨Z, rfl⟩, rfl⟩) <| U (Mv (V rfl)) <| StA (V rfl) rfl (V rfl) Sz24 <| StA (V rfl) rfl (V rfl) Sz26 <| U (As (V rfl)) <| Nt <| Rx <| RR3 rfl (rv_aggI (g' := stG ([])) (rv_cell (V rfl) rfl Ga24 Sz24) ⟨Z, In⟩) (rv_cell (V rfl) rfl Ga26 Sz26) (rv_tmp (V rfl)) rfl rfl rfl (by show sv3 (SV.agg 1 (stG ([]))) (SV.agg 2 (hdCell ⟨0, 0⟩)) (iv ((findSt l h).2)) = sv3 (SV.agg 1 (stG (attSt l h cl).1)) (SV.agg 2 (hdCell (attSt l h cl).2.1)) (iv (attSt l h cl).2.2); rw [att_1 (h := h) (fun q => hc1s ((first_find l h).symm.trans q)), first_find])
 ·have hc1s := hc1; try simp only [BL] at hc1s
  have hf0 : firstSt l [h] = 0 := (first_find l h).trans hc1s
  have hc0 := (first1 hf0).1
  have hpl := (first1 hf0).2.2.1
  refine Sk <| Sq <| Sq <| Rt <| U (FlB _ _ (V rfl) Un24 rfl 0 Sz22) <| U (LdB (V rfl) rfl Ga22 (by decide)) <| U (Mk (caps := [elB [iv (h.pl), iv (h.use)] 0]) ⟨(V rfl), Z⟩) <| CT en116 (by exact ⟨⟨(V rfl), rfl⟩, ⟨(VA (VF [elB [iv (h.pl), iv (h.use)] 0] ((V rfl)) (An rfl)) rfl), rfl⟩, Z⟩) (conf116_ct (fun n => decide (n.host = h.pl)) en135 rfl (fun x => attK_ct x h) l) <| Nt <| Cd (V rfl) (fun hc2 => ?_) (fun hc2 => ?_)
  ·have hc2s := hc2; try simp only [BL] at hc2s
   exact Sq <| Rt <| U (Bu [] id (cmpG [SV.v (Value.slice none 0 0)]) zero24 build24 (by exact Z) (by decide) ⟨Z, rfl⟩) <| U (Bu [] id (hdCell ⟨0, 0⟩) zero26 build26 (by exact Z) (by decide) ⟨⟨Z, rfl⟩, rfl⟩) <| StA (V rfl) rfl (V rfl) Sz24 <| StA (V rfl) rfl (V rfl) Sz26 <| U (As K) <| Nt <| Rx <| RR3 rfl (rv_aggI (g' := stG ([])) (rv_cell (V rfl) rfl Ga24 Sz24) ⟨Z, In⟩) (rv_cell (V rfl) rfl Ga26 Sz26) (rv_tmp (V rfl)) rfl rfl rfl (by show sv3 (SV.agg 1 (stG ([]))) (SV.agg 2 (hdCell ⟨0, 0⟩)) (iv (6)) = sv3 (SV.agg 1 (stG (attSt l h cl).1)) (SV.agg 2 (hdCell (attSt l h cl).2.1)) (iv (attSt l h cl).2.2); rw [att_2 hf0 hc2])
  ·have hc2s := hc2; try simp only [BL] at hc2s
   refine Sk <| Sq <| Rt <| U (LBA (V rfl) rfl Ga24 Sz24 (by decide)) <| CM (cargs := [SV.agg 1 (stG l), iv (0)]) [] [(0, 6)] en40 (mv0 (by exact ⟨⟨(Vi (g' := stG l) (V rfl) ⟨Z, Ir⟩), rfl⟩, ⟨K, rfl⟩, Z⟩)) (makeO_ct l 0 (by first | assumption | exact kb_of (by assumption))) (by exact Z) rfl rfl rfl rfl <| U (Mv (V rfl)) <| U (Xt (V rfl) (by decide)) <| U (Xt (V rfl) (by decide)) <| U (Xt (V rfl) (by decide)) <| Al 7 zero26 rfl rfl <| StA (V rfl) rfl (V rfl) Sz24 <| StA (V rfl) rfl (V rfl) Sz26 <| U (As (V rfl)) <| Nt <| Sq <| Sq <| Rq <| O (Mv (V rfl)) <| O (Qn (V rfl) K) <| Nq <| Cd (V rfl) (fun hc3 => ?_) (fun hc3 => ?_)
   ·have hc3s := hc3; try simp only [BL] at hc3s
    exact Sq <| Rt <| U (Bu [] id (cmpG [SV.v (Value.slice none 0 0)]) zero24 build24 (by exact Z) (by decide) ⟨Z, rfl⟩) <| U (Bu [] id (hdCell ⟨0, 0⟩) zero26 build26 (by exact Z) (by decide) ⟨⟨Z, rfl⟩, rfl⟩) <| U (Mv (V rfl)) <| StA (V rfl) rfl (V rfl) Sz24 <| StA (V rfl) rfl (V rfl) Sz26 <| U (As (V rfl)) <| Nt <| Rx <| RR3 rfl (rv_aggI (g' := stG ([])) (rv_cell (V rfl) rfl Ga24 Sz24) ⟨Z, In⟩) (rv_cell (V rfl) rfl Ga26 Sz26) (rv_tmp (V rfl)) rfl rfl rfl (by show sv3 (SV.agg 1 (stG ([]))) (SV.agg 2 (hdCell ⟨0, 0⟩)) (iv ((mkSt l 0).2.2)) = sv3 (SV.agg 1 (stG (attSt l h cl).1)) (SV.agg 2 (hdCell (attSt l h cl).2.1)) (iv (attSt l h cl).2.2); rw [att_3 hf0 hc2 hc3s])
   ·have hc3s := hc3; try simp only [BL] at hc3s
    have hmk := mk_in hc3s
    refine Sk <| Sq <| c_rd (fun e => ⟨[(41, cj (e 0) (SV.bp 1 0)), (42, cj (e 1) (SV.own 6)), (43, cj (e 2) (SV.bp 7 0)), (44, cj (e 3) (iv ((mkSt l 0).2.1.pl))), (45, cj (e 4) (SV.bp 1 0)), (46, cj (e 5) (SV.own 6)), (47, cj (e 6) (SV.bp 7 0)), (48, cj (e 7) (iv ((mkSt l 0).2.1.pl))), (49, cj (e 8) (elB [iv (h.pl), iv (h.use)] 0)), (50, cj (e 9) (iv (h.pl))), (51, cj (e 10) (bv (cl))), (52, cj (e 11) (SV.oe 6 8 (Int.toNat ((mkSt l 0).2.1.pl)) 0)), (53, cj (e 12) (SV.oe 6 8 (Int.toNat ((mkSt l 0).2.1.pl)) 6)), (54, cj (e 14) (SV.oe 6 8 (Int.toNat ((mkSt l 0).2.1.pl)) 0)), (55, cj (e 15) (SV.oe 6 8 (Int.toNat ((mkSt l 0).2.1.pl)) 7)), (2, bv (cl)), (3, SV.bp 1 0), (4, elB [iv (h.pl), iv (h.use)] 0), (6, SV.bp 3 0), (7, SV.bp 4 0), (11, SV.bp 7 0)], (cb (e 13) (cb (e 16) [(1, Own.box 1 (fun zt => SV.renm (rn [(0, 6)]) ((cmpG [SV.own 0]) zt)) 24), (3, Own.box 1 (cmpG [SV.v (Value.slice none 0 0)]) 24), (4, Own.box 2 (cmpG [iv (0), iv (0)]) 26), (6, ownOf ndCell 8 default ((((mkSt l 0).1).set (Int.toNat ((mkSt l 0).2.1.pl)) ({ (((mkSt l 0).1).getD (Int.toNat ((mkSt l 0).2.1.pl)) default) with host := h.pl })).set (Int.toNat ((mkSt l 0).2.1.pl)) ({ ((((mkSt l 0).1).set (Int.toNat ((mkSt l 0).2.1.pl)) ({ (((mkSt l 0).1).getD (Int.toNat ((mkSt l 0).2.1.pl)) default) with host := h.pl })).getD (Int.toNat ((mkSt l 0).2.1.pl)) default) with closed := cl })) 61), (7, Own.box 2 (hdCell ((mkSt l 0).2.1)) 26)] [(1, Own.box 1 (fun zt => SV.renm (rn [(0, 6)]) ((cmpG [SV.own 0]) zt)) 24), (3, Own.box 1 (cmpG [SV.v (Value.slice none 0 0)]) 24), (4, Own.box 2 (cmpG [iv (0), iv (0)]) 26), (6, ownOf ndCell 8 default (((mkSt l 0).1).set (Int.toNat ((mkSt l 0).2.1.pl)) ({ (((mkSt l 0).1).getD (Int.toNat ((mkSt l 0).2.1.pl)) default) with host := h.pl })) 61), (7, Own.box 2 (hdCell ((mkSt l 0).2.1)) 26)]) (cb (e 16) [] [(1, Own.box 1 (fun zt => SV.renm (rn [(0, 6)]) ((cmpG [SV.own 0]) zt)) 24), (3, Own.box 1 (cmpG [SV.v (Value.slice none 0 0)]) 24), (4, Own.box 2 (cmpG [iv (0), iv (0)]) 26), (6, ownOf ndCell 8 default ((mkSt l 0).1) 61), (7, Own.box 2 (hdCell ((mkSt l 0).2.1)) 26)]))⟩) ⟨[(41, SV.bp 1 0), (42, SV.own 6), (43, SV.bp 7 0), (44, iv ((mkSt l 0).2.1.pl)), (45, SV.bp 1 0), (46, SV.own 6), (47, SV.bp 7 0), (48, iv ((mkSt l 0).2.1.pl)), (49, elB [iv (h.pl), iv (h.use)] 0), (50, iv (h.pl)), (51, bv (cl)), (52, SV.oe 6 8 (Int.toNat ((mkSt l 0).2.1.pl)) 0), (53, SV.oe 6 8 (Int.toNat ((mkSt l 0).2.1.pl)) 6), (54, SV.oe 6 8 (Int.toNat ((mkSt l 0).2.1.pl)) 0), (55, SV.oe 6 8 (Int.toNat ((mkSt l 0).2.1.pl)) 7), (2, bv (cl)), (3, SV.bp 1 0), (4, elB [iv (h.pl), iv (h.use)] 0), (6, SV.bp 3 0), (7, SV.bp 4 0), (11, SV.bp 7 0)], [(1, Own.box 1 (fun zt => SV.renm (rn [(0, 6)]) ((cmpG [SV.own 0]) zt)) 24), (3, Own.box 1 (cmpG [SV.v (Value.slice none 0 0)]) 24), (4, Own.box 2 (cmpG [iv (0), iv (0)]) 26), (6, ownOf ndCell 8 default ((((mkSt l 0).1).set (Int.toNat ((mkSt l 0).2.1.pl)) ({ (((mkSt l 0).1).getD (Int.toNat ((mkSt l 0).2.1.pl)) default) with host := h.pl })).set (Int.toNat ((mkSt l 0).2.1.pl)) ({ ((((mkSt l 0).1).set (Int.toNat ((mkSt l 0).2.1.pl)) ({ (((mkSt l 0).1).getD (Int.toNat ((mkSt l 0).2.1.pl)) default) with host := h.pl })).getD (Int.toNat ((mkSt l 0).2.1.pl)) default) with closed := cl })) 61), (7, Own.box 2 (hdCell ((mkSt l 0).2.1)) 26)]⟩ (by kernel_rfl) (by kernel_rfl) ?_ ⟨?_, ?_, ?_, ?_, ?_, ?_, ?_, ?_, ?_, ?_, ?_, ?_, ?_, ?_, ?_, ?_, ?_, Z⟩ ?_ ?_
    ·show Weak _ _ ⟨[(41, SV.junk), (42, SV.junk), (43, SV.junk), (44, SV.junk), (45, SV.junk), (46, SV.junk), (47, SV.junk), (48, SV.junk), (49, SV.junk), (50, SV.junk), (51, SV.junk), (52, SV.junk), (53, SV.junk), (54, SV.junk), (55, SV.junk), (2, bv (cl)), (3, SV.bp 1 0), (4, elB [iv (h.pl), iv (h.use)] 0), (6, SV.bp 3 0), (7, SV.bp 4 0), (11, SV.bp 7 0)], [(1, Own.box 1 (fun zt => SV.renm (rn [(0, 6)]) ((cmpG [SV.own 0]) zt)) 24), (3, Own.box 1 (cmpG [SV.v (Value.slice none 0 0)]) 24), (4, Own.box 2 (cmpG [iv (0), iv (0)]) 26), (6, ownOf ndCell 8 default ((mkSt l 0).1) 61), (7, Own.box 2 (hdCell ((mkSt l 0).2.1)) 26)]⟩
     refine We ?_ ?_
     ·exact ⟨Vj, Vj, Vj, Vj, Vj, Vj, Vj, Vj, Vj, Vj, Vj, Vj, Vj, Vj, Vj, V rfl, V rfl, V rfl, V rfl, V rfl, V rfl, Z⟩
     ·exact ⟨⟨_, rfl, ⟨rfl, rfl, (An rfl)⟩⟩, ⟨_, rfl, ⟨rfl, rfl, (An rfl)⟩⟩, ⟨_, rfl, ⟨rfl, rfl, (An rfl)⟩⟩, ⟨_, rfl, rfl⟩, ⟨_, rfl, ⟨rfl, rfl, (An rfl)⟩⟩, Z⟩
    ·intro e hdn he hdp
     obtain ⟨-, -, -, h13, -, -, h16, -⟩ := dns1 hdn he [1, 11, 12, 13, 14, 15, 16] (by kernel_rfl)
     simp only [setE, he, h13, h16, cj_t, cj_f, cjn_t, cjn_f, cb_t, cb_f]
     refine U (FlB _ _ (V rfl) Un24 rfl 0 Sz22) <| Nt <| We ?_ ?_
     ·exact (Vs rfl)
     ·exact ⟨⟨_, rfl, ⟨rfl, rfl, (An rfl)⟩⟩, ⟨_, rfl, ⟨rfl, rfl, (An rfl)⟩⟩, ⟨_, rfl, ⟨rfl, rfl, (An rfl)⟩⟩, ⟨_, rfl, rfl⟩, ⟨_, rfl, ⟨rfl, rfl, (An rfl)⟩⟩, Z⟩
    ·intro e hdn he hdp
     obtain ⟨h0, -⟩ := ups hdn [0] hdp (by kernel_rfl)
     obtain ⟨-, -, h13, -, -, h16, -⟩ := dns1 hdn he [11, 12, 13, 14, 15, 16] (by kernel_rfl)
     simp only [setE, h0, he, h13, h16, cj_t, cj_f, cjn_t, cjn_f, cb_t, cb_f]
     refine U (LdB (V rfl) rfl Ga22 (by decide)) <| Nt <| We ?_ ?_
     ·exact (Vs rfl)
     ·exact ⟨⟨_, rfl, ⟨rfl, rfl, (An rfl)⟩⟩, ⟨_, rfl, ⟨rfl, rfl, (An rfl)⟩⟩, ⟨_, rfl, ⟨rfl, rfl, (An rfl)⟩⟩, ⟨_, rfl, rfl⟩, ⟨_, rfl, ⟨rfl, rfl, (An rfl)⟩⟩, Z⟩
    ·intro e hdn he hdp
     obtain ⟨-, -, -, h13, -, -, h16, -⟩ := dns1 hdn he [3, 11, 12, 13, 14, 15, 16] (by kernel_rfl)
     simp only [setE, he, h13, h16, cj_t, cj_f, cjn_t, cjn_f, cb_t, cb_f]
     refine U (FlB _ _ (V rfl) Un26 rfl 0 Sz3) <| Nt <| We ?_ ?_
     ·exact (Vs rfl)
     ·exact ⟨⟨_, rfl, ⟨rfl, rfl, (An rfl)⟩⟩, ⟨_, rfl, ⟨rfl, rfl, (An rfl)⟩⟩, ⟨_, rfl, ⟨rfl, rfl, (An rfl)⟩⟩, ⟨_, rfl, rfl⟩, ⟨_, rfl, ⟨rfl, rfl, (An rfl)⟩⟩, Z⟩
    ·intro e hdn he hdp
     obtain ⟨h2, -⟩ := ups hdn [2] hdp (by kernel_rfl)
     obtain ⟨-, -, h13, -, -, h16, -⟩ := dns1 hdn he [11, 12, 13, 14, 15, 16] (by kernel_rfl)
     simp only [setE, h2, he, h13, h16, cj_t, cj_f, cjn_t, cjn_f, cb_t, cb_f]
     refine U (LdB (V rfl) rfl Ga3 (by decide)) <| Nt <| We ?_ ?_
     ·exact (Vs rfl)
     ·exact ⟨⟨_, rfl, ⟨rfl, rfl, (An rfl)⟩⟩, ⟨_, rfl, ⟨rfl, rfl, (An rfl)⟩⟩, ⟨_, rfl, ⟨rfl, rfl, (An rfl)⟩⟩, ⟨_, rfl, rfl⟩, ⟨_, rfl, ⟨rfl, rfl, (An rfl)⟩⟩, Z⟩
    ·intro e hdn he hdp
     obtain ⟨-, -, -, h16, -⟩ := dns1 hdn he [5, 14, 15, 16] (by kernel_rfl)
     simp only [setE, he, h16, cj_t, cj_f, cjn_t, cjn_f, cb_t, cb_f]
     exact U (FlB _ _ (V rfl) Un24 rfl 0 Sz22) <| Nt <| weakS ⟨V rfl, V rfl, V rfl, V rfl, V rfl, V rfl, V rfl, V rfl, V rfl, V rfl, V rfl, V rfl, V rfl, V rfl, V rfl, V rfl, V rfl, V rfl, V rfl, V rfl, V rfl, Z⟩
    ·intro e hdn he hdp
     obtain ⟨h4, -⟩ := ups hdn [4] hdp (by kernel_rfl)
     obtain ⟨-, -, h16, -⟩ := dns1 hdn he [14, 15, 16] (by kernel_rfl)
     cases hu13 : e 13
     ·simp only [setE, h4, he, h16, hu13, cj_t, cj_f, cjn_t, cjn_f, cb_t, cb_f]
      refine U (LdB (V rfl) rfl Ga22 (by decide)) <| Nt <| We ?_ ?_
      ·exact (Vs rfl)
      ·exact ⟨⟨_, rfl, ⟨rfl, rfl, (An rfl)⟩⟩, ⟨_, rfl, ⟨rfl, rfl, (An rfl)⟩⟩, ⟨_, rfl, ⟨rfl, rfl, (An rfl)⟩⟩, ⟨_, rfl, rfl⟩, ⟨_, rfl, ⟨rfl, rfl, (An rfl)⟩⟩, Z⟩
     ·simp only [setE, h4, he, h16, hu13, cj_t, cj_f, cjn_t, cjn_f, cb_t, cb_f]
      refine U (LdB (V rfl) rfl Ga22 (by decide)) <| Nt <| We ?_ ?_
      ·exact (Vs rfl)
      ·exact ⟨⟨_, rfl, ⟨rfl, rfl, (An rfl)⟩⟩, ⟨_, rfl, ⟨rfl, rfl, (An rfl)⟩⟩, ⟨_, rfl, ⟨rfl, rfl, (An rfl)⟩⟩, ⟨_, rfl, rfl⟩, ⟨_, rfl, ⟨rfl, rfl, (An rfl)⟩⟩, Z⟩
    ·intro e hdn he hdp
     obtain ⟨-, -, -, h16, -⟩ := dns1 hdn he [7, 14, 15, 16] (by kernel_rfl)
     simp only [setE, he, h16, cj_t, cj_f, cjn_t, cjn_f, cb_t, cb_f]
     exact U (FlB _ _ (V rfl) Un26 rfl 0 Sz3) <| Nt <| weakS ⟨V rfl, V rfl, V rfl, V rfl, V rfl, V rfl, V rfl, V rfl, V rfl, V rfl, V rfl, V rfl, V rfl, V rfl, V rfl, V rfl, V rfl, V rfl, V rfl, V rfl, V rfl, Z⟩
    ·intro e hdn he hdp
     obtain ⟨h6, -⟩ := ups hdn [6] hdp (by kernel_rfl)
     obtain ⟨-, -, h16, -⟩ := dns1 hdn he [14, 15, 16] (by kernel_rfl)
     cases hu13 : e 13
     ·simp only [setE, h6, he, h16, hu13, cj_t, cj_f, cjn_t, cjn_f, cb_t, cb_f]
      refine U (LdB (V rfl) rfl Ga3 (by decide)) <| Nt <| We ?_ ?_
      ·exact (Vs rfl)
      ·exact ⟨⟨_, rfl, ⟨rfl, rfl, (An rfl)⟩⟩, ⟨_, rfl, ⟨rfl, rfl, (An rfl)⟩⟩, ⟨_, rfl, ⟨rfl, rfl, (An rfl)⟩⟩, ⟨_, rfl, rfl⟩, ⟨_, rfl, ⟨rfl, rfl, (An rfl)⟩⟩, Z⟩
     ·simp only [setE, h6, he, h16, hu13, cj_t, cj_f, cjn_t, cjn_f, cb_t, cb_f]
      refine U (LdB (V rfl) rfl Ga3 (by decide)) <| Nt <| We ?_ ?_
      ·exact (Vs rfl)
      ·exact ⟨⟨_, rfl, ⟨rfl, rfl, (An rfl)⟩⟩, ⟨_, rfl, ⟨rfl, rfl, (An rfl)⟩⟩, ⟨_, rfl, ⟨rfl, rfl, (An rfl)⟩⟩, ⟨_, rfl, rfl⟩, ⟨_, rfl, ⟨rfl, rfl, (An rfl)⟩⟩, Z⟩
    ·intro e hdn he hdp
     obtain ⟨-, -, -, h13, -, -, h16, -⟩ := dns1 hdn he [9, 11, 12, 13, 14, 15, 16] (by kernel_rfl)
     simp only [setE, he, h13, h16, cj_t, cj_f, cjn_t, cjn_f, cb_t, cb_f]
     refine U (Fl _ _ (V rfl) Un26 rfl 0 Sz3) <| Nt <| We ?_ ?_
     ·exact (Vs rfl)
     ·exact ⟨⟨_, rfl, ⟨rfl, rfl, (An rfl)⟩⟩, ⟨_, rfl, ⟨rfl, rfl, (An rfl)⟩⟩, ⟨_, rfl, ⟨rfl, rfl, (An rfl)⟩⟩, ⟨_, rfl, rfl⟩, ⟨_, rfl, ⟨rfl, rfl, (An rfl)⟩⟩, Z⟩
    ·intro e hdn he hdp
     obtain ⟨h8, -⟩ := ups hdn [8] hdp (by kernel_rfl)
     obtain ⟨-, -, h13, -, -, h16, -⟩ := dns1 hdn he [11, 12, 13, 14, 15, 16] (by kernel_rfl)
     simp only [setE, h8, he, h13, h16, cj_t, cj_f, cjn_t, cjn_f, cb_t, cb_f]
     refine U (Ld (V rfl) Ga3 (by show 0 < 2; decide)) <| Nt <| We ?_ ?_
     ·exact (Vs rfl)
     ·exact ⟨⟨_, rfl, ⟨rfl, rfl, (An rfl)⟩⟩, ⟨_, rfl, ⟨rfl, rfl, (An rfl)⟩⟩, ⟨_, rfl, ⟨rfl, rfl, (An rfl)⟩⟩, ⟨_, rfl, rfl⟩, ⟨_, rfl, ⟨rfl, rfl, (An rfl)⟩⟩, Z⟩
    ·intro e hdn he hdp
     obtain ⟨-, -, h16, -⟩ := dns1 hdn he [14, 15, 16] (by kernel_rfl)
     simp only [setE, he, h16, cj_t, cj_f, cjn_t, cjn_f, cb_t, cb_f]
     exact U (Mv (V rfl)) <| Nt <| weakS ⟨V rfl, V rfl, V rfl, V rfl, V rfl, V rfl, V rfl, V rfl, V rfl, V rfl, V rfl, V rfl, V rfl, V rfl, V rfl, V rfl, V rfl, V rfl, V rfl, V rfl, V rfl, Z⟩
    ·intro e hdn he hdp
     obtain ⟨h9, h8, h3, h2, h1, h0, -⟩ := ups hdn [9, 8, 3, 2, 1, 0] hdp (by kernel_rfl)
     obtain ⟨-, h13, -, -, h16, -⟩ := dns1 hdn he [12, 13, 14, 15, 16] (by kernel_rfl)
     simp only [setE, h0, h1, h2, h3, h8, h9, he, h13, h16, cj_t, cj_f, cjn_t, cjn_f, cb_t, cb_f]
     refine U (IxO (V rfl) rfl (V rfl) ts22 te22 (by omega) (by first | omega | (simp only [List.length_set]; omega))) <| Nt <| We ?_ ?_
     ·exact (Vs rfl)
     ·exact ⟨⟨_, rfl, ⟨rfl, rfl, (An rfl)⟩⟩, ⟨_, rfl, ⟨rfl, rfl, (An rfl)⟩⟩, ⟨_, rfl, ⟨rfl, rfl, (An rfl)⟩⟩, ⟨_, rfl, rfl⟩, ⟨_, rfl, ⟨rfl, rfl, (An rfl)⟩⟩, Z⟩
    ·intro e hdn he hdp
     obtain ⟨h11, h9, h8, h3, h2, h1, h0, -⟩ := ups hdn [11, 9, 8, 3, 2, 1, 0] hdp (by kernel_rfl)
     obtain ⟨h13, -, -, h16, -⟩ := dns1 hdn he [13, 14, 15, 16] (by kernel_rfl)
     simp only [setE, h0, h1, h2, h3, h8, h9, h11, he, h13, h16, cj_t, cj_f, cjn_t, cjn_f, cb_t, cb_f]
     refine U (FlO _ _ (V rfl) Un61 rfl 0 Sz3) <| Nt <| We ?_ ?_
     ·exact (Vs rfl)
     ·exact ⟨⟨_, rfl, ⟨rfl, rfl, (An rfl)⟩⟩, ⟨_, rfl, ⟨rfl, rfl, (An rfl)⟩⟩, ⟨_, rfl, ⟨rfl, rfl, (An rfl)⟩⟩, ⟨_, rfl, rfl⟩, ⟨_, rfl, ⟨rfl, rfl, (An rfl)⟩⟩, Z⟩
    ·intro e hdn he hdp
     obtain ⟨h12, h11, h9, h8, h3, h2, h1, h0, -⟩ := ups hdn [12, 11, 9, 8, 3, 2, 1, 0] hdp (by kernel_rfl)
     obtain ⟨h14, h15, h16, -⟩ := dns1 hdn he [14, 15, 16] (by kernel_rfl)
     simp only [setE, h0, h1, h2, h3, h8, h9, h11, h12, he, h14, h15, h16, cj_t, cj_f, cjn_t, cjn_f, cb_t, cb_f]
     have hidx0 : Int.toNat ((mkSt l 0).2.1.pl) < ((mkSt l 0).1).length := by first | omega | (simp only [List.length_set]; omega)
     refine StO (rowG ndCell default (((mkSt l 0).1).set (Int.toNat ((mkSt l 0).2.1.pl)) ({ (((mkSt l 0).1).getD (Int.toNat ((mkSt l 0).2.1.pl)) default) with host := h.pl }))) (V rfl) rfl (V rfl) rfl rfl Sz3 (by decide) (show ((mkSt l 0).1).length = (((mkSt l 0).1).set (Int.toNat ((mkSt l 0).2.1.pl)) ({ (((mkSt l 0).1).getD (Int.toNat ((mkSt l 0).2.1.pl)) default) with host := h.pl })).length from List.length_set.symm) (set_at hidx0 rfl) (set_typed hidx0 fun t ht hne => match t, ht, hne with | 0, _, _ => rfl | 1, _, _ => rfl | 2, _, _ => rfl | 3, _, _ => rfl | 4, _, _ => rfl | 5, _, _ => rfl | 6, _, hne => absurd rfl hne | 7, _, _ => rfl) <| Nt <| We ?_ ?_
     ·exact ⟨V rfl, V rfl, V rfl, V rfl, V rfl, V rfl, V rfl, V rfl, V rfl, V rfl, V rfl, V rfl, V rfl, Vj, Vj, V rfl, V rfl, V rfl, V rfl, V rfl, V rfl, Z⟩
     ·exact ⟨⟨_, rfl, ⟨rfl, rfl, (An rfl)⟩⟩, ⟨_, rfl, ⟨rfl, rfl, (An rfl)⟩⟩, ⟨_, rfl, ⟨rfl, rfl, (An rfl)⟩⟩, ⟨_, rfl, rfl⟩, ⟨_, rfl, ⟨rfl, rfl, (An rfl)⟩⟩, Z⟩
    ·intro e hdn he hdp
     obtain ⟨h13, h12, h11, h10, h9, h8, h7, h6, h5, h4, h3, h2, h1, h0, -⟩ := ups hdn [13, 12, 11, 10, 9, 8, 7, 6, 5, 4, 3, 2, 1, 0] hdp (by kernel_rfl)
     obtain ⟨-, h16, -⟩ := dns1 hdn he [15, 16] (by kernel_rfl)
     simp only [setE, h0, h1, h2, h3, h4, h5, h6, h7, h8, h9, h10, h11, h12, h13, he, h16, cj_t, cj_f, cjn_t, cjn_f, cb_t, cb_f]
     refine U (IxO (V rfl) rfl (V rfl) ts22 te22 (by omega) (by first | omega | (simp only [List.length_set]; omega))) <| Nt <| We ?_ ?_
     ·exact (Vs rfl)
     ·exact ⟨⟨_, rfl, ⟨rfl, rfl, (An rfl)⟩⟩, ⟨_, rfl, ⟨rfl, rfl, (An rfl)⟩⟩, ⟨_, rfl, ⟨rfl, rfl, (An rfl)⟩⟩, ⟨_, rfl, rfl⟩, ⟨_, rfl, ⟨rfl, rfl, (An rfl)⟩⟩, Z⟩
    ·intro e hdn he hdp
     obtain ⟨h14, h13, h12, h11, h10, h9, h8, h7, h6, h5, h4, h3, h2, h1, h0, -⟩ := ups hdn [14, 13, 12, 11, 10, 9, 8, 7, 6, 5, 4, 3, 2, 1, 0] hdp (by kernel_rfl)
     obtain ⟨h16, -⟩ := dns1 hdn he [16] (by kernel_rfl)
     simp only [setE, h0, h1, h2, h3, h4, h5, h6, h7, h8, h9, h10, h11, h12, h13, h14, he, h16, cj_t, cj_f, cjn_t, cjn_f, cb_t, cb_f]
     refine U (FlO _ _ (V rfl) Un61 rfl 0 Sz4) <| Nt <| We ?_ ?_
     ·exact (Vs rfl)
     ·exact ⟨⟨_, rfl, ⟨rfl, rfl, (An rfl)⟩⟩, ⟨_, rfl, ⟨rfl, rfl, (An rfl)⟩⟩, ⟨_, rfl, ⟨rfl, rfl, (An rfl)⟩⟩, ⟨_, rfl, rfl⟩, ⟨_, rfl, ⟨rfl, rfl, (An rfl)⟩⟩, Z⟩
    ·intro e hdn he hdp
     obtain ⟨h15, h14, h13, h12, h11, h10, h9, h8, h7, h6, h5, h4, h3, h2, h1, h0, -⟩ := ups hdn [15, 14, 13, 12, 11, 10, 9, 8, 7, 6, 5, 4, 3, 2, 1, 0] hdp (by kernel_rfl)
     simp only [setE, h0, h1, h2, h3, h4, h5, h6, h7, h8, h9, h10, h11, h12, h13, h14, h15, he, cj_t, cj_f, cjn_t, cjn_f, cb_t, cb_f]
     have hidx1 : Int.toNat ((mkSt l 0).2.1.pl) < (((mkSt l 0).1).set (Int.toNat ((mkSt l 0).2.1.pl)) ({ (((mkSt l 0).1).getD (Int.toNat ((mkSt l 0).2.1.pl)) default) with host := h.pl })).length := by first | omega | (simp only [List.length_set]; omega)
     refine StO (rowG ndCell default ((((mkSt l 0).1).set (Int.toNat ((mkSt l 0).2.1.pl)) ({ (((mkSt l 0).1).getD (Int.toNat ((mkSt l 0).2.1.pl)) default) with host := h.pl })).set (Int.toNat ((mkSt l 0).2.1.pl)) ({ ((((mkSt l 0).1).set (Int.toNat ((mkSt l 0).2.1.pl)) ({ (((mkSt l 0).1).getD (Int.toNat ((mkSt l 0).2.1.pl)) default) with host := h.pl })).getD (Int.toNat ((mkSt l 0).2.1.pl)) default) with closed := cl }))) (V rfl) rfl (V rfl) rfl rfl Sz4 (by decide) (show (((mkSt l 0).1).set (Int.toNat ((mkSt l 0).2.1.pl)) ({ (((mkSt l 0).1).getD (Int.toNat ((mkSt l 0).2.1.pl)) default) with host := h.pl })).length = ((((mkSt l 0).1).set (Int.toNat ((mkSt l 0).2.1.pl)) ({ (((mkSt l 0).1).getD (Int.toNat ((mkSt l 0).2.1.pl)) default) with host := h.pl })).set (Int.toNat ((mkSt l 0).2.1.pl)) ({ ((((mkSt l 0).1).set (Int.toNat ((mkSt l 0).2.1.pl)) ({ (((mkSt l 0).1).getD (Int.toNat ((mkSt l 0).2.1.pl)) default) with host := h.pl })).getD (Int.toNat ((mkSt l 0).2.1.pl)) default) with closed := cl })).length from List.length_set.symm) (set_at hidx1 rfl) (set_typed hidx1 fun t ht hne => match t, ht, hne with | 0, _, _ => rfl | 1, _, _ => rfl | 2, _, _ => rfl | 3, _, _ => rfl | 4, _, _ => rfl | 5, _, _ => rfl | 6, _, _ => rfl | 7, _, hne => absurd rfl hne) <| Nt <| We ?_ ?_
     ·exact (Vs rfl)
     ·exact ⟨⟨_, rfl, ⟨rfl, rfl, (An rfl)⟩⟩, ⟨_, rfl, ⟨rfl, rfl, (An rfl)⟩⟩, ⟨_, rfl, ⟨rfl, rfl, (An rfl)⟩⟩, ⟨_, rfl, rfl⟩, ⟨_, rfl, ⟨rfl, rfl, (An rfl)⟩⟩, Z⟩
    ·intro e he
     have h0 := he 0 (by decide)
     have h1 := he 1 (by decide)
     have h2 := he 2 (by decide)
     have h3 := he 3 (by decide)
     have h4 := he 4 (by decide)
     have h5 := he 5 (by decide)
     have h6 := he 6 (by decide)
     have h7 := he 7 (by decide)
     have h8 := he 8 (by decide)
     have h9 := he 9 (by decide)
     have h10 := he 10 (by decide)
     have h11 := he 11 (by decide)
     have h12 := he 12 (by decide)
     have h13 := he 13 (by decide)
     have h14 := he 14 (by decide)
     have h15 := he 15 (by decide)
     have h16 := he 16 (by decide)
     show Weak _ ⟨[(41, cj (e 0) (SV.bp 1 0)), (42, cj (e 1) (SV.own 6)), (43, cj (e 2) (SV.bp 7 0)), (44, cj (e 3) (iv ((mkSt l 0).2.1.pl))), (45, cj (e 4) (SV.bp 1 0)), (46, cj (e 5) (SV.own 6)), (47, cj (e 6) (SV.bp 7 0)), (48, cj (e 7) (iv ((mkSt l 0).2.1.pl))), (49, cj (e 8) (elB [iv (h.pl), iv (h.use)] 0)), (50, cj (e 9) (iv (h.pl))), (51, cj (e 10) (bv (cl))), (52, cj (e 11) (SV.oe 6 8 (Int.toNat ((mkSt l 0).2.1.pl)) 0)), (53, cj (e 12) (SV.oe 6 8 (Int.toNat ((mkSt l 0).2.1.pl)) 6)), (54, cj (e 14) (SV.oe 6 8 (Int.toNat ((mkSt l 0).2.1.pl)) 0)), (55, cj (e 15) (SV.oe 6 8 (Int.toNat ((mkSt l 0).2.1.pl)) 7)), (2, bv (cl)), (3, SV.bp 1 0), (4, elB [iv (h.pl), iv (h.use)] 0), (6, SV.bp 3 0), (7, SV.bp 4 0), (11, SV.bp 7 0)], (cb (e 13) (cb (e 16) [(1, Own.box 1 (fun zt => SV.renm (rn [(0, 6)]) ((cmpG [SV.own 0]) zt)) 24), (3, Own.box 1 (cmpG [SV.v (Value.slice none 0 0)]) 24), (4, Own.box 2 (cmpG [iv (0), iv (0)]) 26), (6, ownOf ndCell 8 default ((((mkSt l 0).1).set (Int.toNat ((mkSt l 0).2.1.pl)) ({ (((mkSt l 0).1).getD (Int.toNat ((mkSt l 0).2.1.pl)) default) with host := h.pl })).set (Int.toNat ((mkSt l 0).2.1.pl)) ({ ((((mkSt l 0).1).set (Int.toNat ((mkSt l 0).2.1.pl)) ({ (((mkSt l 0).1).getD (Int.toNat ((mkSt l 0).2.1.pl)) default) with host := h.pl })).getD (Int.toNat ((mkSt l 0).2.1.pl)) default) with closed := cl })) 61), (7, Own.box 2 (hdCell ((mkSt l 0).2.1)) 26)] [(1, Own.box 1 (fun zt => SV.renm (rn [(0, 6)]) ((cmpG [SV.own 0]) zt)) 24), (3, Own.box 1 (cmpG [SV.v (Value.slice none 0 0)]) 24), (4, Own.box 2 (cmpG [iv (0), iv (0)]) 26), (6, ownOf ndCell 8 default (((mkSt l 0).1).set (Int.toNat ((mkSt l 0).2.1.pl)) ({ (((mkSt l 0).1).getD (Int.toNat ((mkSt l 0).2.1.pl)) default) with host := h.pl })) 61), (7, Own.box 2 (hdCell ((mkSt l 0).2.1)) 26)]) (cb (e 16) [] [(1, Own.box 1 (fun zt => SV.renm (rn [(0, 6)]) ((cmpG [SV.own 0]) zt)) 24), (3, Own.box 1 (cmpG [SV.v (Value.slice none 0 0)]) 24), (4, Own.box 2 (cmpG [iv (0), iv (0)]) 26), (6, ownOf ndCell 8 default ((mkSt l 0).1) 61), (7, Own.box 2 (hdCell ((mkSt l 0).2.1)) 26)]))⟩ _
     simp only [h0, h1, h2, h3, h4, h5, h6, h7, h8, h9, h10, h11, h12, h13, h14, h15, h16]
     show Weak _ ⟨[(41, SV.bp 1 0), (42, SV.own 6), (43, SV.bp 7 0), (44, iv ((mkSt l 0).2.1.pl)), (45, SV.bp 1 0), (46, SV.own 6), (47, SV.bp 7 0), (48, iv ((mkSt l 0).2.1.pl)), (49, elB [iv (h.pl), iv (h.use)] 0), (50, iv (h.pl)), (51, bv (cl)), (52, SV.oe 6 8 (Int.toNat ((mkSt l 0).2.1.pl)) 0), (53, SV.oe 6 8 (Int.toNat ((mkSt l 0).2.1.pl)) 6), (54, SV.oe 6 8 (Int.toNat ((mkSt l 0).2.1.pl)) 0), (55, SV.oe 6 8 (Int.toNat ((mkSt l 0).2.1.pl)) 7), (2, bv (cl)), (3, SV.bp 1 0), (4, elB [iv (h.pl), iv (h.use)] 0), (6, SV.bp 3 0), (7, SV.bp 4 0), (11, SV.bp 7 0)], [(1, Own.box 1 (fun zt => SV.renm (rn [(0, 6)]) ((cmpG [SV.own 0]) zt)) 24), (3, Own.box 1 (cmpG [SV.v (Value.slice none 0 0)]) 24), (4, Own.box 2 (cmpG [iv (0), iv (0)]) 26), (6, ownOf ndCell 8 default ((((mkSt l 0).1).set (Int.toNat ((mkSt l 0).2.1.pl)) ({ (((mkSt l 0).1).getD (Int.toNat ((mkSt l 0).2.1.pl)) default) with host := h.pl })).set (Int.toNat ((mkSt l 0).2.1.pl)) ({ ((((mkSt l 0).1).set (Int.toNat ((mkSt l 0).2.1.pl)) ({ (((mkSt l 0).1).getD (Int.toNat ((mkSt l 0).2.1.pl)) default) with host := h.pl })).getD (Int.toNat ((mkSt l 0).2.1.pl)) default) with closed := cl })) 61), (7, Own.box 2 (hdCell ((mkSt l 0).2.1)) 26)]⟩ _
     refine We ?_ ?_
     ·exact ⟨V rfl, V rfl, V rfl, V rfl, V rfl, V rfl, V rfl, V rfl, V rfl, V rfl, V rfl, V rfl, V rfl, V rfl, V rfl, V rfl, V rfl, V rfl, V rfl, V rfl, V rfl, Z⟩
     ·exact ⟨⟨_, rfl, ⟨rfl, rfl, (An rfl)⟩⟩, ⟨_, rfl, ⟨rfl, rfl, (An rfl)⟩⟩, ⟨_, rfl, ⟨rfl, rfl, (An rfl)⟩⟩, ⟨_, rfl, rfl⟩, ⟨_, rfl, ⟨rfl, rfl, (An rfl)⟩⟩, Z⟩
    refine Sq <| c_rd (fun e => ⟨[(56, cj (e 0) (SV.agg 1 (fun zi => (fun zt => SV.renm (rn [(0, 6)]) ((cmpG [SV.own 0]) zt)) (0 + zi)))), (57, cj (e 1) (SV.agg 2 (fun zi => (hdCell ((mkSt l 0).2.1)) (0 + zi)))), (8, cj (e 4) (iv (0))), (3, SV.bp 1 0), (6, SV.bp 3 0), (7, SV.bp 4 0), (11, SV.bp 7 0)], (cb (e 2) (cb (e 3) [(1, Own.box 1 (fun zt => SV.renm (rn [(0, 6)]) ((cmpG [SV.own 0]) zt)) 24), (3, Own.box 1 (fun zi => (fun zt => SV.renm (rn [(0, 6)]) ((cmpG [SV.own 0]) zt)) (0 + zi)) 24), (4, Own.box 2 (fun zi => (hdCell ((mkSt l 0).2.1)) (0 + zi)) 26), (6, ownOf ndCell 8 default ((((mkSt l 0).1).set (Int.toNat ((mkSt l 0).2.1.pl)) ({ (((mkSt l 0).1).getD (Int.toNat ((mkSt l 0).2.1.pl)) default) with host := h.pl })).set (Int.toNat ((mkSt l 0).2.1.pl)) ({ ((((mkSt l 0).1).set (Int.toNat ((mkSt l 0).2.1.pl)) ({ (((mkSt l 0).1).getD (Int.toNat ((mkSt l 0).2.1.pl)) default) with host := h.pl })).getD (Int.toNat ((mkSt l 0).2.1.pl)) default) with closed := cl })) 61), (7, Own.box 2 (hdCell ((mkSt l 0).2.1)) 26)] [(1, Own.box 1 (fun zt => SV.renm (rn [(0, 6)]) ((cmpG [SV.own 0]) zt)) 24), (3, Own.box 1 (fun zi => (fun zt => SV.renm (rn [(0, 6)]) ((cmpG [SV.own 0]) zt)) (0 + zi)) 24), (4, Own.box 2 (cmpG [iv (0), iv (0)]) 26), (6, ownOf ndCell 8 default ((((mkSt l 0).1).set (Int.toNat ((mkSt l 0).2.1.pl)) ({ (((mkSt l 0).1).getD (Int.toNat ((mkSt l 0).2.1.pl)) default) with host := h.pl })).set (Int.toNat ((mkSt l 0).2.1.pl)) ({ ((((mkSt l 0).1).set (Int.toNat ((mkSt l 0).2.1.pl)) ({ (((mkSt l 0).1).getD (Int.toNat ((mkSt l 0).2.1.pl)) default) with host := h.pl })).getD (Int.toNat ((mkSt l 0).2.1.pl)) default) with closed := cl })) 61), (7, Own.box 2 (hdCell ((mkSt l 0).2.1)) 26)]) (cb (e 3) [] [(1, Own.box 1 (fun zt => SV.renm (rn [(0, 6)]) ((cmpG [SV.own 0]) zt)) 24), (3, Own.box 1 (cmpG [SV.v (Value.slice none 0 0)]) 24), (4, Own.box 2 (cmpG [iv (0), iv (0)]) 26), (6, ownOf ndCell 8 default ((((mkSt l 0).1).set (Int.toNat ((mkSt l 0).2.1.pl)) ({ (((mkSt l 0).1).getD (Int.toNat ((mkSt l 0).2.1.pl)) default) with host := h.pl })).set (Int.toNat ((mkSt l 0).2.1.pl)) ({ ((((mkSt l 0).1).set (Int.toNat ((mkSt l 0).2.1.pl)) ({ (((mkSt l 0).1).getD (Int.toNat ((mkSt l 0).2.1.pl)) default) with host := h.pl })).getD (Int.toNat ((mkSt l 0).2.1.pl)) default) with closed := cl })) 61), (7, Own.box 2 (hdCell ((mkSt l 0).2.1)) 26)]))⟩) ⟨[(56, SV.agg 1 (fun zi => (fun zt => SV.renm (rn [(0, 6)]) ((cmpG [SV.own 0]) zt)) (0 + zi))), (57, SV.agg 2 (fun zi => (hdCell ((mkSt l 0).2.1)) (0 + zi))), (8, iv (0)), (3, SV.bp 1 0), (6, SV.bp 3 0), (7, SV.bp 4 0), (11, SV.bp 7 0)], [(1, Own.box 1 (fun zt => SV.renm (rn [(0, 6)]) ((cmpG [SV.own 0]) zt)) 24), (3, Own.box 1 (fun zi => (fun zt => SV.renm (rn [(0, 6)]) ((cmpG [SV.own 0]) zt)) (0 + zi)) 24), (4, Own.box 2 (fun zi => (hdCell ((mkSt l 0).2.1)) (0 + zi)) 26), (6, ownOf ndCell 8 default ((((mkSt l 0).1).set (Int.toNat ((mkSt l 0).2.1.pl)) ({ (((mkSt l 0).1).getD (Int.toNat ((mkSt l 0).2.1.pl)) default) with host := h.pl })).set (Int.toNat ((mkSt l 0).2.1.pl)) ({ ((((mkSt l 0).1).set (Int.toNat ((mkSt l 0).2.1.pl)) ({ (((mkSt l 0).1).getD (Int.toNat ((mkSt l 0).2.1.pl)) default) with host := h.pl })).getD (Int.toNat ((mkSt l 0).2.1.pl)) default) with closed := cl })) 61), (7, Own.box 2 (hdCell ((mkSt l 0).2.1)) 26)]⟩ (by kernel_rfl) (by kernel_rfl) ?_ ⟨?_, ?_, ?_, ?_, ?_, Z⟩ ?_ ?_
    ·show Weak _ _ ⟨[(56, SV.junk), (57, SV.junk), (8, SV.junk), (3, SV.bp 1 0), (6, SV.bp 3 0), (7, SV.bp 4 0), (11, SV.bp 7 0)], [(1, Own.box 1 (fun zt => SV.renm (rn [(0, 6)]) ((cmpG [SV.own 0]) zt)) 24), (3, Own.box 1 (cmpG [SV.v (Value.slice none 0 0)]) 24), (4, Own.box 2 (cmpG [iv (0), iv (0)]) 26), (6, ownOf ndCell 8 default ((((mkSt l 0).1).set (Int.toNat ((mkSt l 0).2.1.pl)) ({ (((mkSt l 0).1).getD (Int.toNat ((mkSt l 0).2.1.pl)) default) with host := h.pl })).set (Int.toNat ((mkSt l 0).2.1.pl)) ({ ((((mkSt l 0).1).set (Int.toNat ((mkSt l 0).2.1.pl)) ({ (((mkSt l 0).1).getD (Int.toNat ((mkSt l 0).2.1.pl)) default) with host := h.pl })).getD (Int.toNat ((mkSt l 0).2.1.pl)) default) with closed := cl })) 61), (7, Own.box 2 (hdCell ((mkSt l 0).2.1)) 26)]⟩
     refine We ?_ ?_
     ·exact ⟨Vj, Vj, Vj, V rfl, V rfl, V rfl, V rfl, Z⟩
     ·exact ⟨⟨_, rfl, ⟨rfl, rfl, (An rfl)⟩⟩, ⟨_, rfl, ⟨rfl, rfl, (An rfl)⟩⟩, ⟨_, rfl, ⟨rfl, rfl, (An rfl)⟩⟩, ⟨_, rfl, rfl⟩, ⟨_, rfl, ⟨rfl, rfl, (An rfl)⟩⟩, Z⟩
    ·intro e hdn he hdp
     obtain ⟨h2, h3, -⟩ := dns1 hdn he [2, 3] (by kernel_rfl)
     simp only [setE, he, h2, h3, cj_t, cj_f, cjn_t, cjn_f, cb_t, cb_f]
     refine U (LBA (V rfl) rfl Ga24 Sz24 (by decide)) <| Nt <| We ?_ ?_
     ·exact (Vs rfl)
     ·exact ⟨⟨_, rfl, ⟨rfl, rfl, (An rfl)⟩⟩, ⟨_, rfl, ⟨rfl, rfl, (An rfl)⟩⟩, ⟨_, rfl, ⟨rfl, rfl, (An rfl)⟩⟩, ⟨_, rfl, rfl⟩, ⟨_, rfl, ⟨rfl, rfl, (An rfl)⟩⟩, Z⟩
    ·intro e hdn he hdp
     obtain ⟨h3, -⟩ := dns1 hdn he [3] (by kernel_rfl)
     cases hu2 : e 2
     ·simp only [setE, he, h3, hu2, cj_t, cj_f, cjn_t, cjn_f, cb_t, cb_f]
      refine U (LBA (V rfl) rfl Ga26 Sz26 (by decide)) <| Nt <| We ?_ ?_
      ·exact (Vs rfl)
      ·exact ⟨⟨_, rfl, ⟨rfl, rfl, (An rfl)⟩⟩, ⟨_, rfl, ⟨rfl, rfl, (An rfl)⟩⟩, ⟨_, rfl, ⟨rfl, rfl, (An rfl)⟩⟩, ⟨_, rfl, rfl⟩, ⟨_, rfl, ⟨rfl, rfl, (An rfl)⟩⟩, Z⟩
     ·simp only [setE, he, h3, hu2, cj_t, cj_f, cjn_t, cjn_f, cb_t, cb_f]
      refine U (LBA (V rfl) rfl Ga26 Sz26 (by decide)) <| Nt <| We ?_ ?_
      ·exact (Vs rfl)
      ·exact ⟨⟨_, rfl, ⟨rfl, rfl, (An rfl)⟩⟩, ⟨_, rfl, ⟨rfl, rfl, (An rfl)⟩⟩, ⟨_, rfl, ⟨rfl, rfl, (An rfl)⟩⟩, ⟨_, rfl, rfl⟩, ⟨_, rfl, ⟨rfl, rfl, (An rfl)⟩⟩, Z⟩
    ·intro e hdn he hdp
     obtain ⟨h0, -⟩ := ups hdn [0] hdp (by kernel_rfl)
     obtain ⟨h3, -⟩ := dns1 hdn he [3] (by kernel_rfl)
     simp only [setE, h0, he, h3, cj_t, cj_f, cjn_t, cjn_f, cb_t, cb_f]
     refine StA (V rfl) rfl (V rfl) Sz24 <| Nt <| We ?_ ?_
     ·exact (Vs rfl)
     ·exact ⟨⟨_, rfl, ⟨rfl, rfl, (An rfl)⟩⟩, ⟨_, rfl, ⟨rfl, rfl, (An rfl)⟩⟩, ⟨_, rfl, ⟨rfl, rfl, (An rfl)⟩⟩, ⟨_, rfl, rfl⟩, ⟨_, rfl, ⟨rfl, rfl, (An rfl)⟩⟩, Z⟩
    ·intro e hdn he hdp
     obtain ⟨h2, h1, h0, -⟩ := ups hdn [2, 1, 0] hdp (by kernel_rfl)
     simp only [setE, h0, h1, h2, he, cj_t, cj_f, cjn_t, cjn_f, cb_t, cb_f]
     refine StA (V rfl) rfl (V rfl) Sz26 <| Nt <| We ?_ ?_
     ·exact (Vs rfl)
     ·exact ⟨⟨_, rfl, ⟨rfl, rfl, (An rfl)⟩⟩, ⟨_, rfl, ⟨rfl, rfl, (An rfl)⟩⟩, ⟨_, rfl, ⟨rfl, rfl, (An rfl)⟩⟩, ⟨_, rfl, rfl⟩, ⟨_, rfl, ⟨rfl, rfl, (An rfl)⟩⟩, Z⟩
    ·intro e hdn he hdp
     obtain ⟨h3, h2, h1, h0, -⟩ := ups hdn [3, 2, 1, 0] hdp (by kernel_rfl)
     simp only [setE, h0, h1, h2, h3, he, cj_t, cj_f, cjn_t, cjn_f, cb_t, cb_f]
     refine U (As K) <| Nt <| We ?_ ?_
     ·exact (Vs rfl)
     ·exact ⟨⟨_, rfl, ⟨rfl, rfl, (An rfl)⟩⟩, ⟨_, rfl, ⟨rfl, rfl, (An rfl)⟩⟩, ⟨_, rfl, ⟨rfl, rfl, (An rfl)⟩⟩, ⟨_, rfl, rfl⟩, ⟨_, rfl, ⟨rfl, rfl, (An rfl)⟩⟩, Z⟩
    ·intro e he
     have h0 := he 0 (by decide)
     have h1 := he 1 (by decide)
     have h2 := he 2 (by decide)
     have h3 := he 3 (by decide)
     have h4 := he 4 (by decide)
     show Weak _ ⟨[(56, cj (e 0) (SV.agg 1 (fun zi => (fun zt => SV.renm (rn [(0, 6)]) ((cmpG [SV.own 0]) zt)) (0 + zi)))), (57, cj (e 1) (SV.agg 2 (fun zi => (hdCell ((mkSt l 0).2.1)) (0 + zi)))), (8, cj (e 4) (iv (0))), (3, SV.bp 1 0), (6, SV.bp 3 0), (7, SV.bp 4 0), (11, SV.bp 7 0)], (cb (e 2) (cb (e 3) [(1, Own.box 1 (fun zt => SV.renm (rn [(0, 6)]) ((cmpG [SV.own 0]) zt)) 24), (3, Own.box 1 (fun zi => (fun zt => SV.renm (rn [(0, 6)]) ((cmpG [SV.own 0]) zt)) (0 + zi)) 24), (4, Own.box 2 (fun zi => (hdCell ((mkSt l 0).2.1)) (0 + zi)) 26), (6, ownOf ndCell 8 default ((((mkSt l 0).1).set (Int.toNat ((mkSt l 0).2.1.pl)) ({ (((mkSt l 0).1).getD (Int.toNat ((mkSt l 0).2.1.pl)) default) with host := h.pl })).set (Int.toNat ((mkSt l 0).2.1.pl)) ({ ((((mkSt l 0).1).set (Int.toNat ((mkSt l 0).2.1.pl)) ({ (((mkSt l 0).1).getD (Int.toNat ((mkSt l 0).2.1.pl)) default) with host := h.pl })).getD (Int.toNat ((mkSt l 0).2.1.pl)) default) with closed := cl })) 61), (7, Own.box 2 (hdCell ((mkSt l 0).2.1)) 26)] [(1, Own.box 1 (fun zt => SV.renm (rn [(0, 6)]) ((cmpG [SV.own 0]) zt)) 24), (3, Own.box 1 (fun zi => (fun zt => SV.renm (rn [(0, 6)]) ((cmpG [SV.own 0]) zt)) (0 + zi)) 24), (4, Own.box 2 (cmpG [iv (0), iv (0)]) 26), (6, ownOf ndCell 8 default ((((mkSt l 0).1).set (Int.toNat ((mkSt l 0).2.1.pl)) ({ (((mkSt l 0).1).getD (Int.toNat ((mkSt l 0).2.1.pl)) default) with host := h.pl })).set (Int.toNat ((mkSt l 0).2.1.pl)) ({ ((((mkSt l 0).1).set (Int.toNat ((mkSt l 0).2.1.pl)) ({ (((mkSt l 0).1).getD (Int.toNat ((mkSt l 0).2.1.pl)) default) with host := h.pl })).getD (Int.toNat ((mkSt l 0).2.1.pl)) default) with closed := cl })) 61), (7, Own.box 2 (hdCell ((mkSt l 0).2.1)) 26)]) (cb (e 3) [] [(1, Own.box 1 (fun zt => SV.renm (rn [(0, 6)]) ((cmpG [SV.own 0]) zt)) 24), (3, Own.box 1 (cmpG [SV.v (Value.slice none 0 0)]) 24), (4, Own.box 2 (cmpG [iv (0), iv (0)]) 26), (6, ownOf ndCell 8 default ((((mkSt l 0).1).set (Int.toNat ((mkSt l 0).2.1.pl)) ({ (((mkSt l 0).1).getD (Int.toNat ((mkSt l 0).2.1.pl)) default) with host := h.pl })).set (Int.toNat ((mkSt l 0).2.1.pl)) ({ ((((mkSt l 0).1).set (Int.toNat ((mkSt l 0).2.1.pl)) ({ (((mkSt l 0).1).getD (Int.toNat ((mkSt l 0).2.1.pl)) default) with host := h.pl })).getD (Int.toNat ((mkSt l 0).2.1.pl)) default) with closed := cl })) 61), (7, Own.box 2 (hdCell ((mkSt l 0).2.1)) 26)]))⟩ _
     simp only [h0, h1, h2, h3, h4]
     show Weak _ ⟨[(56, SV.agg 1 (fun zi => (fun zt => SV.renm (rn [(0, 6)]) ((cmpG [SV.own 0]) zt)) (0 + zi))), (57, SV.agg 2 (fun zi => (hdCell ((mkSt l 0).2.1)) (0 + zi))), (8, iv (0)), (3, SV.bp 1 0), (6, SV.bp 3 0), (7, SV.bp 4 0), (11, SV.bp 7 0)], [(1, Own.box 1 (fun zt => SV.renm (rn [(0, 6)]) ((cmpG [SV.own 0]) zt)) 24), (3, Own.box 1 (fun zi => (fun zt => SV.renm (rn [(0, 6)]) ((cmpG [SV.own 0]) zt)) (0 + zi)) 24), (4, Own.box 2 (fun zi => (hdCell ((mkSt l 0).2.1)) (0 + zi)) 26), (6, ownOf ndCell 8 default ((((mkSt l 0).1).set (Int.toNat ((mkSt l 0).2.1.pl)) ({ (((mkSt l 0).1).getD (Int.toNat ((mkSt l 0).2.1.pl)) default) with host := h.pl })).set (Int.toNat ((mkSt l 0).2.1.pl)) ({ ((((mkSt l 0).1).set (Int.toNat ((mkSt l 0).2.1.pl)) ({ (((mkSt l 0).1).getD (Int.toNat ((mkSt l 0).2.1.pl)) default) with host := h.pl })).getD (Int.toNat ((mkSt l 0).2.1.pl)) default) with closed := cl })) 61), (7, Own.box 2 (hdCell ((mkSt l 0).2.1)) 26)]⟩ _
     refine We ?_ ?_
     ·exact ⟨Va (V rfl) (An rfl), Va (V rfl) (An rfl), V rfl, V rfl, V rfl, V rfl, V rfl, Z⟩
     ·exact ⟨⟨_, rfl, ⟨rfl, rfl, (An rfl)⟩⟩, ⟨_, rfl, ⟨rfl, rfl, (An rfl)⟩⟩, ⟨_, rfl, ⟨rfl, rfl, (An rfl)⟩⟩, ⟨_, rfl, rfl⟩, ⟨_, rfl, ⟨rfl, rfl, (An rfl)⟩⟩, Z⟩
    exact FzC 6 rfl <| Rx <| RR3 rfl (rv_aggI (g' := stG ((((mkSt l 0).1).set (Int.toNat ((mkSt l 0).2.1.pl)) ({ (((mkSt l 0).1).getD (Int.toNat ((mkSt l 0).2.1.pl)) default) with host := h.pl })).set (Int.toNat ((mkSt l 0).2.1.pl)) ({ ((((mkSt l 0).1).set (Int.toNat ((mkSt l 0).2.1.pl)) ({ (((mkSt l 0).1).getD (Int.toNat ((mkSt l 0).2.1.pl)) default) with host := h.pl })).getD (Int.toNat ((mkSt l 0).2.1.pl)) default) with closed := cl }))) (rv_cell (V rfl) rfl Ga24 Sz24) ⟨Z, Ir⟩) (rv_aggI (g' := hdCell ⟨(mkSt l 0).2.1.pl, (mkSt l 0).2.1.use⟩) (rv_cell (V rfl) rfl Ga26 Sz26) ⟨⟨Z, Ir⟩, Ir⟩) (rv_tmp (V rfl)) rfl rfl rfl (by show sv3 (SV.agg 1 (stG ((((mkSt l 0).1).set (Int.toNat ((mkSt l 0).2.1.pl)) ({ (((mkSt l 0).1).getD (Int.toNat ((mkSt l 0).2.1.pl)) default) with host := h.pl })).set (Int.toNat ((mkSt l 0).2.1.pl)) ({ ((((mkSt l 0).1).set (Int.toNat ((mkSt l 0).2.1.pl)) ({ (((mkSt l 0).1).getD (Int.toNat ((mkSt l 0).2.1.pl)) default) with host := h.pl })).getD (Int.toNat ((mkSt l 0).2.1.pl)) default) with closed := cl })))) (SV.agg 2 (hdCell ⟨(mkSt l 0).2.1.pl, (mkSt l 0).2.1.use⟩)) (iv (0)) = sv3 (SV.agg 1 (stG (attSt l h cl).1)) (SV.agg 2 (hdCell (attSt l h cl).2.1)) (iv (attSt l h cl).2.2); rw [att_4 hf0 hc2 hc3s]; rfl)
theorem inside_ct (l : List Nd) (k top : Int) (hc : checkSt l = 0) (hk : -1 ≤ k ∧ k < (l.length : Int)) : Ct Try.prog 146 [SV.agg 1 (stG l), iv (k), iv (top)] (bv (underB l k top)) := by
 have h24 := checkSt_len hc
 refine CtO 18 Try.func146 rfl rfl rfl fun E => row_lenA 0 (V (s := 0) rfl) rfl rfl fun hl0_0 => Sq <| Rt <| BxA 1 (V rfl) rfl rfl <| U (As K) <| Nt <| Sq <| Bo <| Lo (fun (m : Nat) => ⟨[(1, iv (upN l m k)), (2, iv (top)), (3, SV.bp 1 0)], [(1, Own.box 1 (stG l) 24)]⟩) (fun (m : Nat) => m ≤ l.length ∧ ∀ q, q < m → ¬ upN l q k = top) (fun (m : Nat) => l.length - m) 0 (by show 0 ≤ l.length ∧ ∀ q, q < 0 → ¬ upN l q k = top; exact ⟨Nat.zero_le _, fun q hq => absurd hq (Nat.not_lt_zero q)⟩) (We (ow := [(1, Own.box 1 (stG l) 24)]) (Vs rfl) (by exact ⟨⟨_, rfl, rfl, rfl, (An rfl)⟩, Z⟩)) <| ?_
 ·rintro m hI1
  have hJ1 : m ≤ l.length ∧ ∀ q, q < m → ¬ upN l q k = top := hI1
  have hui := upN_in (checkSt_nodes hc) hk m
  refine Sq <| Sq <| Rq <| O (Mv (V rfl)) <| O (Ge (V rfl) K) <| Nq <| Cd (V rfl) (fun hc1 => ?_) (fun hc1 => ?_)
  ·have hc1s := hc1; try simp only [BL] at hc1s
   have hml := up_lt hc hk (m := m) (by omega)
   refine Sk <| Sq <| Bo <| Sq <| Rq <| O (Mv (V rfl)) <| O (Mv (V rfl)) <| O (Ql (V rfl) (V rfl)) <| Nq <| Cd (V rfl) (fun hc2 => ?_) (fun hc2 => ?_)
   ·have hc2s := hc2; try simp only [BL] at hc2s
    exact Sq <| Rq <| O (As K) <| Nq <| Rx <| R1 rfl (V rfl) rfl (by show bv (true) = bv (underB l k top); rw [under_yes hJ1.1 (by omega) hc2s])
   ·have hc2s := hc2; try simp only [BL] at hc2s
    exact Sk <| Rq <| O (FlB _ _ (V rfl) Un24 rfl 0 Sz22) <| O (LdB (V rfl) rfl Ga22 (by decide)) <| O (Mv (V rfl)) <| O (Ix (V rfl) (V rfl) ts22 te22 (by omega) (by omega)) <| O (LdA (V rfl) Ga61 Sz61 (by decide)) <| CQ en110 (by exact ⟨⟨(Vi (g' := ndCell ⟨(l.getD (Int.toNat (upN l m k)) default).used, (l.getD (Int.toNat (upN l m k)) default).uses, (l.getD (Int.toNat (upN l m k)) default).tag, (l.getD (Int.toNat (upN l m k)) default).mark, (l.getD (Int.toNat (upN l m k)) default).par, (l.getD (Int.toNat (upN l m k)) default).kids, (l.getD (Int.toNat (upN l m k)) default).host, (l.getD (Int.toNat (upN l m k)) default).closed⟩) (V rfl) ⟨⟨⟨⟨⟨⟨⟨⟨Z, Ir⟩, Ir⟩, Ir⟩, Ir⟩, Ir⟩, Ir⟩, Ir⟩, Ir⟩), rfl⟩, Z⟩) (above_ct (l.getD (Int.toNat (upN l m k)) default)) <| O (As (V rfl)) <| Nq <| Nx (m + 1) (by show (m + 1) ≤ l.length ∧ ∀ q, q < (m + 1) → ¬ upN l q k = top; exact ⟨by omega, all_s (p := fun q => ¬ upN l q k = top) hJ1.2 hc2s⟩) (by show l.length - (m + 1) < l.length - m; omega) (We (sl := [(1, iv (upN l ((m + 1)) k)), (2, iv (top)), (3, SV.bp 1 0)]) (ow := [(1, Own.box 1 (stG l) 24)]) (by exact ⟨val_eq (V rfl) (congrArg iv (by show above _ = up1 l (upN l m k); rw [up1, if_neg (by omega)])), V rfl, V rfl, Z⟩) (by exact ⟨⟨_, rfl, rfl, rfl, (An rfl)⟩, Z⟩))
  ·have hc1s := hc1; try simp only [BL] at hc1s
   exact Ex <| Sq <| Rq <| O (As K) <| Nq <| Rx <| R1 rfl (V rfl) rfl (by show bv (false) = bv (underB l k top); rw [under_no (m := m) (by omega) hJ1.2])
theorem hidden_ct (l : List Nd) (f k0 : Int) (all : Bool) (hc : checkSt l = 0) (hf : 0 ≤ f ∧ f < (l.length : Int)) (hk0 : 0 ≤ k0 ∧ k0 < (l.length : Int)) : Ct Try.prog 111 [SV.agg 1 (stG l), iv (f), iv (k0), bv (all)] (bv (hiddenSt l f k0 all)) := by
 refine CtO 39 Try.func111 rfl rfl rfl fun E => row_lenA 0 (V (s := 0) rfl) rfl rfl fun hl0_0 => Sq <| Rt <| BxA 1 (V rfl) rfl rfl <| U (As K) <| Nt <| Bo <| Lo (fun (k : Int) => ⟨[(1, iv (f)), (2, iv (k)), (3, bv (all)), (4, SV.bp 1 0)], [(1, Own.box 1 (stG l) 24)]⟩) (fun (k : Int) => (0 ≤ k ∧ k < (l.length : Int)) ∧ hiddenSt l f k0 all = hiddenSt l f k all) (fun (k : Int) => (rootsL l k).length) k0 (by show (0 ≤ k0 ∧ k0 < (l.length : Int)) ∧ hiddenSt l f k0 all = hiddenSt l f k0 all; exact ⟨hk0, rfl⟩) (We (ow := [(1, Own.box 1 (stG l) 24)]) (Vs rfl) (by exact ⟨⟨_, rfl, rfl, rfl, (An rfl)⟩, Z⟩)) <| ?_
 ·rintro k hI1
  have hJ1 : (0 ≤ k ∧ k < (l.length : Int)) ∧ hiddenSt l f k0 all = hiddenSt l f k all := hI1
  have hkr := hJ1.1
  have hke := hJ1.2
  have htr := (roots_t hc hkr).1
  refine Bo <| Sq <| Rq <| O (LBA (V rfl) rfl Ga24 Sz24 (by decide)) <| O (Mv (V rfl)) <| CQ en137 (by exact ⟨⟨(Vi (g' := stG l) (V rfl) ⟨Z, Ir⟩), rfl⟩, ⟨(V rfl), rfl⟩, Z⟩) (top_ct l k (by assumption) (by first | assumption | omega)) <| O (As (V rfl)) <| Nq <| Sq <| Rq <| O (FlB _ _ (V rfl) Un24 rfl 0 Sz22) <| O (LdB (V rfl) rfl Ga22 (by decide)) <| O (Mv (V rfl)) <| O (Ix (V rfl) (V rfl) ts22 te22 (by omega) (by omega)) <| O (Fl _ _ (V rfl) Un61 rfl 0 Sz3) <| O (Ld (V rfl) Ga3 (by decide)) <| O (As (V rfl)) <| Nq <| Sq <| Sq <| Rq <| O (Mv (V rfl)) <| O (Lt (V rfl) K) <| Nq <| Cd (V rfl) (fun hc1 => ?_) (fun hc1 => ?_)
  ·have hc1s := hc1; try simp only [BL] at hc1s
   exact Sq <| Rq <| O (As K) <| Nq <| Rx <| R1 rfl (V rfl) rfl (by show bv (false) = bv (hiddenSt l f k0 all); rw [hke, hidden_0 hc hkr hc1s])
  ·have hc1s := hc1; try simp only [BL] at hc1s
   refine Sk <| Sq <| Sq <| Rq <| O (LBA (V rfl) rfl Ga24 Sz24 (by decide)) <| O (Mv (V rfl)) <| O (Mv (V rfl)) <| CQ en146 (by exact ⟨⟨(Vi (g' := stG l) (V rfl) ⟨Z, Ir⟩), rfl⟩, ⟨(V rfl), rfl⟩, ⟨(V rfl), rfl⟩, Z⟩) (inside_ct l f (topSt l k) (by assumption) (by first | assumption | omega)) <| O (Qo (V rfl)) <| O (Mv (V rfl)) <| Og (Gy rfl rfl) (fun hg => Mv (V rfl)) <| Og (Gy rfl rfl) (fun hg => Mv (Vg (V rfl) hg)) <| Og (Gyn rfl rfl) (fun hg => FlB _ _ (V rfl) Un24 rfl 0 Sz22) <| Og (Gyn rfl rfl) (fun hg => LdB (Vg (V rfl) hg) rfl Ga22 (by decide)) <| Og (Gyn rfl rfl) (fun hg => Mv (V rfl)) <| Og (Gyn rfl rfl) (fun hg => Ix (Vg (V rfl) hg) (Vg (V rfl) hg) ts22 te22 (by omega) (by omega)) <| Og (Gyn rfl rfl) (fun hg => Fl _ _ (Vg (V rfl) hg) Un61 rfl 0 Sz4) <| Og (Gyn rfl rfl) (fun hg => Ld (Vg (V rfl) hg) Ga4 (by decide)) <| Og (Gy rfl rfl) (fun hg => Qr (Vg (V rfl) hg) (fun h => Vg (V rfl) (andI hg (notT h)))) <| O (Qa (V rfl) (fun h => Vg (V rfl) h)) <| Nq <| Cd (V rfl) (fun hc2 => ?_) (fun hc2 => ?_)
   ·have hc2s := hc2; try simp only [BL] at hc2s
    exact Sq <| Rq <| O (As K) <| Nq <| Rx <| R1 rfl (V rfl) rfl (by show bv (true) = bv (hiddenSt l f k0 all); rw [hke, hidden_1 hc hkr hc1s hc2])
   ·have hc2s := hc2; try simp only [BL] at hc2s
    have h2 := hidden_2 hc (f := f) (all := all) hkr hc1s hc2
    exact Sk <| Rq <| O (Mv (V rfl)) <| O (As (V rfl)) <| Nq <| NxH ((l.getD (Int.toNat (topSt l k)) default).host) (fun _ _ h => h) (by show (0 ≤ ((l.getD (Int.toNat (topSt l k)) default).host) ∧ ((l.getD (Int.toNat (topSt l k)) default).host) < (l.length : Int)) ∧ hiddenSt l f k0 all = hiddenSt l f ((l.getD (Int.toNat (topSt l k)) default).host) all; exact ⟨h2.2.2, hke.trans h2.1⟩) (by show (rootsL l ((l.getD (Int.toNat (topSt l k)) default).host)).length < (rootsL l k).length; have := h2.2.1; omega) (We (ow := [(1, Own.box 1 (stG l) 24)]) (Vs rfl) (by exact ⟨⟨_, rfl, rfl, rfl, (An rfl)⟩, Z⟩))
theorem roots_ct (l : List Nd) (k : Int) (h24 : l.length ≤ 24) (hc : checkSt l = 0) : Ct Try.prog 86 [SV.agg 1 (stG l), iv (k)] (inRow (rootsL l k)) := by
 have hll : (line l k).length ≤ 25 := Nat.le_trans (line_len25 hc k) (by omega)
 refine CtO 29 Try.func86 rfl rfl rfl fun E => row_lenA 0 (V (s := 0) rfl) rfl rfl fun hl0_0 => Sq <| Rt <| BxA 1 (V rfl) rfl rfl <| t_nilO 2 1 (rowG inCell 0 []) 3 (.inl rfl) rfl <| Nt <| Sq <| Rt <| t_nilO 3 1 (rowG inCell 0 []) 3 (.inl rfl) rfl <| Nt <| Sq <| Sq <| Rt <| U (LBA (V rfl) rfl Ga24 Sz24 (by decide)) <| U (Mv (V rfl)) <| CT en80 (by exact ⟨⟨(Vi (g' := stG l) (V rfl) ⟨Z, Ir⟩), rfl⟩, ⟨(V rfl), rfl⟩, Z⟩) (line_ct l k (by first | assumption | omega)) <| U (Ln (V rfl) ts33) <| U (Mv K) <| Nt <| Bo <| c_mv 3 60 rfl rfl <| c_ownE 60 (((line l k).take 0).filter (fun x => decide (0 ≤ (l.getD (Int.toNat x) default).host))) rfl (by rfl) <| Lo (fun (i : Nat) => ⟨[(2, SV.bp 1 0), (5, SV.own 60), (10, inRow (line l k)), (11, iv (((line l k).length : Int))), (12, iv ((i : Int)))], [(1, Own.box 1 (fun zt => SV.renm (mvN 3 60) ((stG l) zt)) 24), (60, ownOf inCell 1 0 (((line l k).take i).filter (fun x => decide (0 ≤ (l.getD (Int.toNat x) default).host))) 3)]⟩) (fun (i : Nat) => i ≤ (line l k).length) (fun (i : Nat) => (line l k).length - i) 0 (by show 0 ≤ (line l k).length; exact Nat.zero_le _) (We (ow := [(1, Own.box 1 (fun zt => SV.renm (mvN 3 60) ((stG l) zt)) 24), (60, ownOf inCell 1 0 (((line l k).take 0).filter (fun x => decide (0 ≤ (l.getD (Int.toNat x) default).host))) 3)]) (Vs rfl) (by exact ⟨⟨_, rfl, rfl, rfl, (An rfl)⟩, ⟨_, rfl, rfl⟩, Z⟩)) <| ?_
 ·rintro i hI1
  have hJ1 : i ≤ (line l k).length := hI1
  have hfl := List.length_filter_le (fun x => decide (0 ≤ (l.getD (Int.toNat x) default).host)) ((line l k).take i)
  rw [List.length_take] at hfl
  refine Sq <| Rq <| O (Lt (V rfl) (V rfl)) <| Nq <| Sq <| Cd (V rfl) (fun hc1 => ?_) (fun hc1 => ?_)
  ·have hc1s := hc1; try simp only [BL] at hc1s
   have hli := line_in (mem_getD (d := 0) (show i < (line l k).length by omega))
   have hho := (st_n1 hc hli).host
   refine Sk <| Sq <| Bo <| Sq <| Rq <| O (IxN (i := i) (V rfl) (V rfl) ts33 te33 (by omega)) <| O (Ld (V rfl) Ga3 (by decide)) <| O (As (V rfl)) <| Nq <| Sq <| Rq <| O (FlB _ _ (V rfl) Un24 rfl 0 Sz22) <| O (LdB (V rfl) rfl Ga22 (by decide)) <| O (Mv (V rfl)) <| O (Ix (V rfl) (V rfl) ts22 te22 (by omega) (by omega)) <| O (Fl _ _ (V rfl) Un61 rfl 0 Sz3) <| O (Ld (V rfl) Ga3 (by decide)) <| O (Qn (V rfl) K) <| Nq <| Cd (V rfl) (fun hc2 => ?_) (fun hc2 => ?_)
   ·have hc2s := hc2; try simp only [BL] at hc2s
    refine Rt <| U (Mv (V rfl)) <| U (Mv (V rfl)) <| Uw (w_bs (n := 1) (zget := fun _ => iv 0) [(fun _ => iv (((line l k).getD i 0)))] (rowG inCell 0 [((line l k).getD i 0)]) Un33 Sz3 zero3 (by decide) rfl (by decide) ⟨⟨rfl, .inr ⟨rfl, (V rfl), rfl⟩, rfl⟩, Z⟩ ⟨Z, ⟨Z, rfl⟩⟩) <| Ap 4 (rowG inCell 0 ((((line l k).take i).filter (fun x => decide (0 ≤ (l.getD (Int.toNat x) default).host))) ++ ([((line l k).getD i 0)]))) eo33 (V rfl) rfl (V rfl) rfl (len_app (((line l k).take i).filter (fun x => decide (0 ≤ (l.getD (Int.toNat x) default).host))) ([((line l k).getD i 0)])) (by first | (simp only [maxLen, List.length_append, List.length_set, List.length_nil, List.length_cons]; omega) | (simp only [maxLen]; omega)) (by first | (simp only [List.length_append, List.length_set, List.length_nil, List.length_cons]; omega) | (omega)) (app_typed (l := (((line l k).take i).filter (fun x => decide (0 ≤ (l.getD (Int.toNat x) default).host)))) (m := ([((line l k).getD i 0)]))) <| U (As (V rfl)) <| Nt <| Rq <| O (Ad (V rfl) K (by omega)) <| O (Mv (V rfl)) <| Nq <| k_mv 4 60 rfl rfl <| k_ownE 60 (((line l k).take ((i + 1))).filter (fun x => decide (0 ≤ (l.getD (Int.toNat x) default).host))) rfl (by rw [roots_s (by omega), if_pos (by omega)]) <| Nx (i + 1) (by show (i + 1) ≤ (line l k).length; first | omega | (simp; done) | (refine ⟨?_, ?_⟩ <;> first | omega | (simp; done))) (by show (line l k).length - (i + 1) < (line l k).length - i; omega) (We (ow := [(1, Own.box 1 (fun zt => SV.renm (mvN 3 60) ((stG l) zt)) 24), (60, ownOf inCell 1 0 (((line l k).take ((i + 1))).filter (fun x => decide (0 ≤ (l.getD (Int.toNat x) default).host))) 3)]) (Vs rfl) (by exact ⟨⟨_, rfl, rfl, rfl, (An rfl)⟩, ⟨_, rfl, rfl⟩, Z⟩))
   ·have hc2s := hc2; try simp only [BL] at hc2s
    refine Sk <| Rq <| O (Ad (V rfl) K (by omega)) <| O (Mv (V rfl)) <| Nq <| k_ownE 60 (((line l k).take ((i + 1))).filter (fun x => decide (0 ≤ (l.getD (Int.toNat x) default).host))) rfl (by rw [roots_s (by omega), if_neg (by omega), List.append_nil]) <| Nx (i + 1) (by show (i + 1) ≤ (line l k).length; first | omega | (simp; done) | (refine ⟨?_, ?_⟩ <;> first | omega | (simp; done))) (by show (line l k).length - (i + 1) < (line l k).length - i; omega) (We (ow := [(1, Own.box 1 (fun zt => SV.renm (mvN 3 60) ((stG l) zt)) 24), (60, ownOf inCell 1 0 (((line l k).take ((i + 1))).filter (fun x => decide (0 ≤ (l.getD (Int.toNat x) default).host))) 3)]) (Vs rfl) (by exact ⟨⟨_, rfl, rfl, rfl, (An rfl)⟩, ⟨_, rfl, rfl⟩, Z⟩))
  ·have hc1s := hc1; try simp only [BL] at hc1s
   exact Ex <| Sq <| Rq <| O (Mv (V rfl)) <| O (As (V rfl)) <| Nq <| FzC 60 rfl <| Rx <| R1 rfl (V rfl) rfl (by show inRow (((line l k).take i).filter (fun x => decide (0 ≤ (l.getD (Int.toNat x) default).host))) = inRow (rootsL l k); exact congrArg inRow (by rw [List.take_of_length_le (by omega)]; rfl))
end Go.Proofs.Ytmcdamcedemdiaa
namespace Go.Proofs.Ytmcdamcedemdiaa
open Go.RowKit Go.Eng
theorem path_s {l : List Nd} (h : checkSt l = 0) {k k0 : Int} {acc : List Int} (hk : 0 ≤ k ∧ k < (l.length : Int)) (e : line l k0 = acc ++ line l k) :
    line l k0 = (acc ++ [k]) ++ line l (above (l.getD k.toNat default)) := by rw [e, line_eq h hk, List.append_assoc]; rfl
theorem path_n {l : List Nd} (h : checkSt l = 0) {k k0 : Int} {acc : List Int} (e : line l k0 = acc ++ line l k) : acc.length ≤ l.length + 1 := by
  have := line_len25 h k0; rw [e, List.length_append] at this; omega
theorem path_m {l : List Nd} (h : checkSt l = 0) {k : Int} (hk : 0 ≤ k ∧ k < (l.length : Int)) : (line l (above (l.getD k.toNat default))).length < (line l k).length := by
  rw [line_eq h hk, List.length_cons]; omega
theorem tgt_0 {l : List Nd} {k told : Int} (h : checkSt l ≠ 0 ∨ k < 0 ∨ (l.length : Int) ≤ k ∨ told < 0 ∨ (l.length : Int) ≤ told) : tgtSt l k told = k := if_pos h
theorem tgt_1 {l : List Nd} {k told : Int} (h : checkSt l = 0) (hk : 0 ≤ k ∧ k < (l.length : Int)) (ht : 0 ≤ told ∧ told < (l.length : Int)) : tgtSt l k told = tgtL l told k (rootsL l k) := if_neg (by omega)
theorem tgt_R {l : List Nd} {k told : Int} (h : checkSt l = 0) (hk : 0 ≤ k ∧ k < (l.length : Int)) (ht : 0 ≤ told ∧ told < (l.length : Int)) : tgtSt l k told = (rootsL l k).foldl (tgtR l told) k := by
  rw [tgt_1 h hk ht]
  exact tgt_fold h ht _ _ fun r hr => by have := roots_in h (by omega) hr; omega
end Go.Proofs.Ytmcdamcedemdiaa
namespace Go.Proofs.Ytmcdamcedemdiaa
open Go.RowKit Go.Eng
theorem path_ct (l : List Nd) (h : Hd) (hb : ∀ n ∈ l, n.kids.length ≤ 17592186043904) : Ct Try.prog 33 [SV.agg 1 (stG l), SV.agg 2 (hdCell h)] (sv2 (inRow (pathSt l h).1) (iv (pathSt l h).2)) := by
 refine CtO 34 Try.func33 rfl rfl rfl fun E => row_lenA 0 (V (s := 0) rfl) rfl rfl fun hl0_0 => Sq <| Rt <| BxA 1 (V rfl) rfl rfl <| BxA 2 (V rfl) rfl rfl <| t_nilO 3 1 (rowG inCell 0 []) 3 (.inl rfl) rfl <| U (As K) <| Nt <| Sq <| Sq <| Rt <| U (LBA (V rfl) rfl Ga24 Sz24 (by decide)) <| U (LBA (V rfl) rfl Ga26 Sz26 (by decide)) <| CT en46 (by exact ⟨⟨(Vi (g' := stG l) (V rfl) ⟨Z, Ir⟩), rfl⟩, ⟨(Vi (g' := hdCell ⟨h.pl, h.use⟩) (V rfl) ⟨⟨Z, Ir⟩, Ir⟩), rfl⟩, Z⟩) (find_ct l h (by first | assumption | exact kb_nil | exact kb_of (by assumption) | exact kb_of fam_c5)) <| U (Mv (V rfl)) <| U (Xt (V rfl) (by decide)) <| U (Xt (V rfl) (by decide)) <| Al 4 zero61 rfl rfl <| StA (V rfl) rfl (V rfl) Sz61 <| U (As (V rfl)) <| Nt <| Sq <| Rq <| O (Mv (V rfl)) <| O (Qn (V rfl) K) <| Nq <| Cd (V rfl) (fun hc1 => ?_) (fun hc1 => ?_)
 ·have hc1s := hc1; try simp only [BL] at hc1s
  exact Sq <| Rt <| U (Mv (V rfl)) <| t_nilO 5 1 (rowG inCell 0 []) 3 (.inl rfl) rfl <| U (As (V rfl)) <| Nt <| FzC 5 rfl <| Rx <| R2 rfl (V rfl) (V rfl) rfl rfl (by show sv2 (inRow ([])) (iv ((findSt l h).2)) = sv2 (inRow (pathSt l h).1) (iv (pathSt l h).2); rw [path_1 (h := h) (fun q => hc1s ((first_find l h).symm.trans q)), first_find])
 ·have hc1s := hc1; try simp only [BL] at hc1s
  have hf0 : firstSt l [h] = 0 := (first_find l h).trans hc1s
  have hc0 := (first1 hf0).1
  have hpl := (first1 hf0).2.2.1
  have h24 := checkSt_len hc0
  refine Sk <| Sq <| Rt <| t_nilO 6 1 (rowG inCell 0 []) 3 (.inl rfl) rfl <| Nt <| Sq <| Sq <| Rq <| O (FlB _ _ (V rfl) Un26 rfl 0 Sz3) <| O (LdB (V rfl) rfl Ga3 (by decide)) <| O (As (V rfl)) <| Nq <| Bo <| c_mv 6 60 rfl rfl <| c_ownE 60 (([])) rfl (by rfl) <| Lo (uc2 fun (acc : List Int) (k : Int) => ⟨[(2, SV.bp 1 0), (8, SV.own 60), (9, iv (k))], [(1, Own.box 1 (fun zt => SV.renm (mvN 6 60) ((stG l) zt)) 24), (60, ownOf inCell 1 0 acc 3)]⟩) (uc2 fun (acc : List Int) (k : Int) => (-1 ≤ k ∧ k < (l.length : Int)) ∧ line l h.pl = acc ++ line l k) (uc2 fun (acc : List Int) (k : Int) => (line l k).length) ([], h.pl) (by show (-1 ≤ (h.pl) ∧ (h.pl) < (l.length : Int)) ∧ line l h.pl = ([]) ++ line l (h.pl); exact ⟨by omega, rfl⟩) (We (ow := [(1, Own.box 1 (fun zt => SV.renm (mvN 6 60) ((stG l) zt)) 24), (60, ownOf inCell 1 0 (([])) 3)]) (Vs rfl) (by exact ⟨⟨_, rfl, rfl, rfl, (An rfl)⟩, ⟨_, rfl, rfl⟩, Z⟩)) <| ?_
  ·rintro ⟨acc, k⟩ hI1
   have hJ1 : (-1 ≤ k ∧ k < (l.length : Int)) ∧ line l h.pl = acc ++ line l k := hI1
   show C _ E _ ⟨[(2, SV.bp 1 0), (8, SV.own 60), (9, iv (k))], [(1, Own.box 1 (fun zt => SV.renm (mvN 6 60) ((stG l) zt)) 24), (60, ownOf inCell 1 0 acc 3)]⟩ _
   have hkr := hJ1.1
   have hln := hJ1.2
   have hal := path_n hc0 hln
   refine Sq <| Sq <| Rq <| O (Mv (V rfl)) <| O (Ge (V rfl) K) <| Nq <| Cd (V rfl) (fun hc2 => ?_) (fun hc2 => ?_)
   ·have hc2s := hc2; try simp only [BL] at hc2s
    exact Sk <| Sq <| Bo <| Rt <| U (Mv (V rfl)) <| U (Mv (V rfl)) <| Uw (w_bs (n := 1) (zget := fun _ => iv 0) [(fun _ => iv (k))] (rowG inCell 0 [k]) Un33 Sz3 zero3 (by decide) rfl (by decide) ⟨⟨rfl, .inr ⟨rfl, (V rfl), rfl⟩, rfl⟩, Z⟩ ⟨Z, ⟨Z, rfl⟩⟩) <| Ap 7 (rowG inCell 0 (acc ++ ([k]))) eo33 (V rfl) rfl (V rfl) rfl (len_app acc ([k])) (by first | (simp only [maxLen, List.length_append, List.length_set, List.length_nil, List.length_cons]; omega) | (simp only [maxLen]; omega)) (by first | (simp only [List.length_append, List.length_set, List.length_nil, List.length_cons]; omega) | (omega)) (app_typed (l := acc) (m := ([k]))) <| U (As (V rfl)) <| Nt <| Rq <| O (FlB _ _ (V rfl) Un24 rfl 0 Sz22) <| O (LdB (V rfl) rfl Ga22 (by decide)) <| O (Mv (V rfl)) <| O (Ix (V rfl) (V rfl) ts22 te22 (by omega) (by omega)) <| O (LdA (V rfl) Ga61 Sz61 (by decide)) <| CQ en110 (by exact ⟨⟨(Vi (g' := ndCell ⟨(l.getD (Int.toNat k) default).used, (l.getD (Int.toNat k) default).uses, (l.getD (Int.toNat k) default).tag, (l.getD (Int.toNat k) default).mark, (l.getD (Int.toNat k) default).par, (l.getD (Int.toNat k) default).kids, (l.getD (Int.toNat k) default).host, (l.getD (Int.toNat k) default).closed⟩) (V rfl) ⟨⟨⟨⟨⟨⟨⟨⟨Z, Ir⟩, Ir⟩, Ir⟩, Ir⟩, Ir⟩, Ir⟩, Ir⟩, Ir⟩), rfl⟩, Z⟩) (above_ct (l.getD (Int.toNat k) default)) <| O (As (V rfl)) <| Nq <| k_mv 7 60 rfl rfl <| Nx (acc ++ [k], above (l.getD (Int.toNat k) default)) (by show (-1 ≤ (above (l.getD (Int.toNat k) default)) ∧ (above (l.getD (Int.toNat k) default)) < (l.length : Int)) ∧ line l h.pl = (acc ++ [k]) ++ line l (above (l.getD (Int.toNat k) default)); exact ⟨above_in (checkSt_nodes hc0) (by omega), path_s hc0 (by omega) hln⟩) (by show (line l (above (l.getD (Int.toNat k) default))).length < (line l k).length; exact path_m hc0 (by omega)) (We (ow := [(1, Own.box 1 (fun zt => SV.renm (mvN 6 60) ((stG l) zt)) 24), (60, ownOf inCell 1 0 ((acc ++ [k])) 3)]) (Vs rfl) (by exact ⟨⟨_, rfl, rfl, rfl, (An rfl)⟩, ⟨_, rfl, rfl⟩, Z⟩))
   ·have hc2s := hc2; try simp only [BL] at hc2s
    exact Ex <| Sq <| Rq <| O (Mv (V rfl)) <| O (As (V rfl)) <| O (As K) <| Nq <| FzC 60 rfl <| Rx <| R2 rfl (V rfl) (V rfl) rfl rfl (by show sv2 (inRow acc) (iv (0)) = sv2 (inRow (pathSt l h).1) (iv (pathSt l h).2); rw [path_2 hf0, hln, line_neg (k := k) (by omega), List.append_nil])
theorem target_ct (l : List Nd) (k0 told : Int) (hb : ∀ n ∈ l, n.kids.length ≤ 17592186043904) : Ct Try.prog 78 [SV.agg 1 (stG l), iv (k0), iv (told)] (iv (tgtSt l k0 told)) := by
 refine CtO 46 Try.func78 rfl rfl rfl fun E => row_lenA 0 (V (s := 0) rfl) rfl rfl fun hl0_0 => Sq <| Rt <| BxA 1 (V rfl) rfl rfl <| U (As K) <| Nt <| Sq <| Sq <| Rq <| O (LBA (V rfl) rfl Ga24 Sz24 (by decide)) <| CQ en44 (by exact ⟨⟨(Vi (g' := stG l) (V rfl) ⟨Z, Ir⟩), rfl⟩, Z⟩) (stcheck_ct l (by first | assumption | exact kb_nil | exact kb_of (by assumption) | exact kb_of fam_c5)) <| O (Qn (V rfl) K) <| O (Mv (V rfl)) <| Og (Gn rfl rfl) (fun hg => Mv (V rfl)) <| Og (Gn rfl rfl) (fun hg => Lt (Vg (V rfl) hg) K) <| O (Qr (V rfl) (fun h => Vg (V rfl) (notT h))) <| O (Mv (V rfl)) <| Og (Gn rfl rfl) (fun hg => Mv (V rfl)) <| Og (Gn rfl rfl) (fun hg => FlB _ _ (V rfl) Un24 rfl 0 Sz22) <| Og (Gn rfl rfl) (fun hg => LdB (Vg (V rfl) hg) rfl Ga22 (by decide)) <| Og (Gn rfl rfl) (fun hg => Ln (Vg (V rfl) hg) ts22) <| Og (Gn rfl rfl) (fun hg => Ge (Vg (V rfl) hg) (Vg (V rfl) hg)) <| O (Qr (V rfl) (fun h => Vg (V rfl) (notT h))) <| O (Mv (V rfl)) <| Og (Gn rfl rfl) (fun hg => Mv (V rfl)) <| Og (Gn rfl rfl) (fun hg => Lt (Vg (V rfl) hg) K) <| O (Qr (V rfl) (fun h => Vg (V rfl) (notT h))) <| O (Mv (V rfl)) <| Og (Gn rfl rfl) (fun hg => Mv (V rfl)) <| Og (Gn rfl rfl) (fun hg => FlB _ _ (V rfl) Un24 rfl 0 Sz22) <| Og (Gn rfl rfl) (fun hg => LdB (Vg (V rfl) hg) rfl Ga22 (by decide)) <| Og (Gn rfl rfl) (fun hg => Ln (Vg (V rfl) hg) ts22) <| Og (Gn rfl rfl) (fun hg => Ge (Vg (V rfl) hg) (Vg (V rfl) hg)) <| O (Qr (V rfl) (fun h => Vg (V rfl) (notT h))) <| Nq <| Cd (V rfl) (fun hc1 => ?_) (fun hc1 => ?_)
 ·have hc1s := hc1; try simp only [BL] at hc1s
  have hbad : checkSt l ≠ 0 ∨ k0 < 0 ∨ (l.length : Int) ≤ k0 ∨ told < 0 ∨ (l.length : Int) ≤ told := by simpa [or_assoc] using hc1
  exact Sq <| Rq <| O (Mv (V rfl)) <| O (As (V rfl)) <| Nq <| Rx <| R1 rfl (V rfl) rfl (by show iv (k0) = iv (tgtSt l k0 told); rw [tgt_0 hbad])
 ·have hc1s := hc1; try simp only [BL] at hc1s
  have hgood : ¬ (checkSt l ≠ 0 ∨ k0 < 0 ∨ (l.length : Int) ≤ k0 ∨ told < 0 ∨ (l.length : Int) ≤ told) := fun q => Bool.false_ne_true (hc1.symm.trans (by simpa [or_assoc] using q))
  have hc0 : checkSt l = 0 := Classical.byContradiction fun q => hgood (.inl q)
  refine Sk <| Sq <| Bo <| Lo (fun (k : Int) => ⟨[(1, iv (k)), (2, iv (told)), (3, SV.bp 1 0)], [(1, Own.box 1 (stG l) 24)]⟩) (fun (k : Int) => (0 ≤ k ∧ k < (l.length : Int)) ∧ tgtSt l k0 told = tgtL l told k (rootsL l k)) (fun (k : Int) => (rootsL l k).length) k0 (by show (0 ≤ k0 ∧ k0 < (l.length : Int)) ∧ tgtSt l k0 told = tgtL l told k0 (rootsL l k0); exact ⟨by omega, tgt_1 hc0 (by omega) (by omega)⟩) (We (ow := [(1, Own.box 1 (stG l) 24)]) (Vs rfl) (by exact ⟨⟨_, rfl, rfl, rfl, (An rfl)⟩, Z⟩)) <| ?_
  ·rintro k hI1
   have hJ1 : (0 ≤ k ∧ k < (l.length : Int)) ∧ tgtSt l k0 told = tgtL l told k (rootsL l k) := hI1
   have hkr := hJ1.1
   have hke := hJ1.2
   refine Sq <| Sq <| Rq <| O (LBA (V rfl) rfl Ga24 Sz24 (by decide)) <| O (Mv (V rfl)) <| O (Mv (V rfl)) <| CQ en111 (by exact ⟨⟨(Vi (g' := stG l) (V rfl) ⟨Z, Ir⟩), rfl⟩, ⟨(V rfl), rfl⟩, ⟨(V rfl), rfl⟩, ⟨K, rfl⟩, Z⟩) (hidden_ct l told k true (by assumption) (by first | assumption | omega) (by first | assumption | omega)) <| Nq <| Cd (V rfl) (fun hc2 => ?_) (fun hc2 => ?_)
   ·have hc2s := hc2; try simp only [BL] at hc2s
    have htt := tgt_t hc0 hkr hc2
    exact Sk <| Bo <| Rqd (by kernel_rfl) (by kernel_rfl) <| O (FlB _ _ (V rfl) Un24 rfl 0 Sz22) <| O (LdB (V rfl) rfl Ga22 (by decide)) <| O (LBA (V rfl) rfl Ga24 Sz24 (by decide)) <| O (Mv (V rfl)) <| CQ en137 (by exact ⟨⟨(Vi (g' := stG l) (V rfl) ⟨Z, Ir⟩), rfl⟩, ⟨(V rfl), rfl⟩, Z⟩) (top_ct l k (by assumption) (by first | assumption | omega)) <| O (Ix (V rfl) (V rfl) ts22 te22 (by omega) (by omega)) <| O (Fl _ _ (V rfl) Un61 rfl 0 Sz3) <| O (Ld (V rfl) Ga3 (by decide)) <| O (As (V rfl)) <| Nq <| NxH ((l.getD (Int.toNat (topSt l k)) default).host) (fun _ _ h => h) (by show (0 ≤ ((l.getD (Int.toNat (topSt l k)) default).host) ∧ ((l.getD (Int.toNat (topSt l k)) default).host) < (l.length : Int)) ∧ tgtSt l k0 told = tgtL l told ((l.getD (Int.toNat (topSt l k)) default).host) (rootsL l ((l.getD (Int.toNat (topSt l k)) default).host)); exact ⟨htt.2.2.2, hke.trans htt.1⟩) (by show (rootsL l ((l.getD (Int.toNat (topSt l k)) default).host)).length < (rootsL l k).length; have := htt.2.1; omega) (We (ow := [(1, Own.box 1 (stG l) 24)]) (Vs rfl) (by exact ⟨⟨_, rfl, rfl, rfl, (An rfl)⟩, Z⟩))
   ·have hc2s := hc2; try simp only [BL] at hc2s
    exact Ex <| Sq <| Rq <| O (Mv (V rfl)) <| O (As (V rfl)) <| Nq <| Rx <| R1 rfl (V rfl) rfl (by show iv (k) = iv (tgtSt l k0 told); rw [hke, tgt_f hc0 hkr hc2])
theorem targetR_ct (l : List Nd) (k0 told : Int) (hc : checkSt l = 0) (hk : 0 ≤ k0 ∧ k0 < (l.length : Int)) (ht : 0 ≤ told ∧ told < (l.length : Int)) : Ct Try.prog 79 [SV.agg 1 (stG l), iv (k0), iv (told)] (iv (tgtSt l k0 told)) := by
 have h24 := checkSt_len hc
 have hrl := roots_len hc hk
 refine CtO 33 Try.func79 rfl rfl rfl fun E => row_lenA 0 (V (s := 0) rfl) rfl rfl fun hl0_0 => Sq <| Rt <| BxA 1 (V rfl) rfl rfl <| U (As K) <| Nt <| Sq <| Rt <| U (LBA (V rfl) rfl Ga24 Sz24 (by decide)) <| U (Mv (V rfl)) <| CT en86 (by exact ⟨⟨(Vi (g' := stG l) (V rfl) ⟨Z, Ir⟩), rfl⟩, ⟨(V rfl), rfl⟩, Z⟩) (roots_ct l told (by first | assumption | omega) (by assumption)) <| U (As (V rfl)) <| Nt <| Sq <| Sq <| Rt <| U (LBA (V rfl) rfl Ga24 Sz24 (by decide)) <| U (Mv (V rfl)) <| CT en86 (by exact ⟨⟨(Vi (g' := stG l) (V rfl) ⟨Z, Ir⟩), rfl⟩, ⟨(V rfl), rfl⟩, Z⟩) (roots_ct l k0 (by first | assumption | omega) (by assumption)) <| U (Ln (V rfl) ts33) <| U (Mv K) <| Nt <| Bo <| Lo (fun (i : Nat) => ⟨[(1, iv ((List.take i (rootsL l k0)).foldl (tgtR l told) k0)), (3, SV.bp 1 0), (7, inRow (rootsL l told)), (15, inRow (rootsL l k0)), (16, iv (((rootsL l k0).length : Int))), (17, iv ((i : Int)))], [(1, Own.box 1 (stG l) 24)]⟩) (fun (i : Nat) => i ≤ (rootsL l k0).length) (fun (i : Nat) => (rootsL l k0).length - i) 0 (by show 0 ≤ (rootsL l k0).length; exact Nat.zero_le _) (We (sl := [(1, iv ((List.take 0 (rootsL l k0)).foldl (tgtR l told) k0)), (3, SV.bp 1 0), (7, inRow (rootsL l told)), (15, inRow (rootsL l k0)), (16, iv (((rootsL l k0).length : Int))), (17, iv ((0 : Int)))]) (ow := [(1, Own.box 1 (stG l) 24)]) (by exact ⟨val_eq (V rfl) rfl, V rfl, V rfl, V rfl, V rfl, V rfl, Z⟩) (by exact ⟨⟨_, rfl, rfl, rfl, (An rfl)⟩, Z⟩)) <| ?_
 ·rintro i hI1
  have hJ1 : i ≤ (rootsL l k0).length := hI1
  refine Sq <| Rq <| O (Lt (V rfl) (V rfl)) <| Nq <| Sq <| Cd (V rfl) (fun hc1 => ?_) (fun hc1 => ?_)
  ·have hc1s := hc1; try simp only [BL] at hc1s
   have hri := roots_in hc (k := k0) (by omega) (mem_getD (d := 0) (show i < (rootsL l k0).length by omega))
   refine Sk <| Sq <| Bo <| Sq <| Rq <| O (IxN (i := i) (V rfl) (V rfl) ts33 te33 (by omega)) <| O (Ld (V rfl) Ga3 (by decide)) <| O (As (V rfl)) <| Nq <| Sq <| Rq <| O (Mv (V rfl)) <| O (Mv (V rfl)) <| CQ en36 (by exact ⟨⟨(V rfl), rfl⟩, ⟨(V rfl), rfl⟩, Z⟩) (contains_ct (rootsL l told) (((rootsL l k0).getD i 0))) <| O (Qo (V rfl)) <| Nq <| Cd (V rfl) (fun hc2 => ?_) (fun hc2 => ?_)
   ·have hc2s := hc2; try simp only [BL] at hc2s
    refine Rq <| O (FlB _ _ (V rfl) Un24 rfl 0 Sz22) <| O (LdB (V rfl) rfl Ga22 (by decide)) <| O (Mv (V rfl)) <| O (Ix (V rfl) (V rfl) ts22 te22 (by omega) (by omega)) <| O (Fl _ _ (V rfl) Un61 rfl 0 Sz3) <| O (Ld (V rfl) Ga3 (by decide)) <| O (As (V rfl)) <| Nq <| Rq <| O (Ad (V rfl) K (by omega)) <| O (Mv (V rfl)) <| Nq <| Nx (i + 1) (by show (i + 1) ≤ (rootsL l k0).length; first | omega | (simp; done) | (refine ⟨?_, ?_⟩ <;> first | omega | (simp; done))) (by show (rootsL l k0).length - (i + 1) < (rootsL l k0).length - i; omega) (We (sl := [(1, iv ((List.take ((i + 1)) (rootsL l k0)).foldl (tgtR l told) k0)), (3, SV.bp 1 0), (7, inRow (rootsL l told)), (15, inRow (rootsL l k0)), (16, iv (((rootsL l k0).length : Int))), (17, iv (((i + 1) : Int)))]) (ow := [(1, Own.box 1 (stG l) 24)]) (by exact ⟨val_eq (V rfl) (congrArg iv (by rw [foldl_take_s _ _ 0 _ _ (by omega), tgtR, if_pos hc2])), V rfl, V rfl, V rfl, V rfl, V rfl, Z⟩) (by exact ⟨⟨_, rfl, rfl, rfl, (An rfl)⟩, Z⟩))
   ·have hc2s := hc2; try simp only [BL] at hc2s
    refine Sk <| Rq <| O (Ad (V rfl) K (by omega)) <| O (Mv (V rfl)) <| Nq <| Nx (i + 1) (by show (i + 1) ≤ (rootsL l k0).length; first | omega | (simp; done) | (refine ⟨?_, ?_⟩ <;> first | omega | (simp; done))) (by show (rootsL l k0).length - (i + 1) < (rootsL l k0).length - i; omega) (We (sl := [(1, iv ((List.take ((i + 1)) (rootsL l k0)).foldl (tgtR l told) k0)), (3, SV.bp 1 0), (7, inRow (rootsL l told)), (15, inRow (rootsL l k0)), (16, iv (((rootsL l k0).length : Int))), (17, iv (((i + 1) : Int)))]) (ow := [(1, Own.box 1 (stG l) 24)]) (by exact ⟨val_eq (V rfl) (congrArg iv (by rw [foldl_take_s _ _ 0 _ _ (by omega), tgtR, if_neg (ff hc2)])), V rfl, V rfl, V rfl, V rfl, V rfl, Z⟩) (by exact ⟨⟨_, rfl, rfl, rfl, (An rfl)⟩, Z⟩))
  ·have hc1s := hc1; try simp only [BL] at hc1s
   exact Ex <| Sq <| Rq <| O (Mv (V rfl)) <| O (As (V rfl)) <| Nq <| Rx <| R1 rfl (V rfl) rfl (by show iv ((List.take i (rootsL l k0)).foldl (tgtR l told) k0) = iv (tgtSt l k0 told); rw [tgt_R hc hk ht, List.take_of_length_le (by omega)])
end Go.Proofs.Ytmcdamcedemdiaa
namespace Go.Eng
open Go.RowKit
variable {P : Program} {NN : Nat} {E : Env NN}
theorem q_nilE {S : St} {x : Operand} {n k i off : Nat} {g : Nat → Nat → SV} (hx : Val E S x (.el n k g i off)) : OpQ P E S (.nilCheck x) (.el n k g i off) := fun b a w hr dst ty pos after gd => by
  obtain ⟨h1, bb, o, hv, hr2⟩ := hx b a w hr
  refine ⟨.pointer (some ⟨bb, o + (i * k + off), none⟩), fun w' hw' => ?_, h1, bb, o, rfl, hr2⟩
  simp [execOp, hv]
theorem q_lookB1R {S : St} {t kt et : TypeId} {m xk : Operand} {k : Int} {l : List (Int × Bool)} (ht : P.underlying t = some (.map kt et)) (hkt : P.underlying kt = some (.int .i64)) (hz : ∀ w, (zeroValue et).run P w = .ok (.bool false) w)
    (hm : Val E S m (mapSV (bmap l))) (hk : Val E S xk (iv k)) : OpQ P E S (.lookup t m xk false) (bv ((kget l k).getD false)) := fun b a w hr dst ty pos after gd => by
  obtain ⟨g, es, clk, h1, hlt, _, hh, hkv⟩ := hm b a w hr
  have h2 : a.eval xk = .int .i64 k := hk b a w hr
  have e : ((mget (bmap l) k).getD (.bool false)) = .bool ((kget l k).getD false) := by rw [bmap, mget_map]; cases kget l k <;> rfl
  refine ⟨(mget (bmap l) k).getD (.bool false), fun w' hw' => ?_, e⟩
  have hh' : w'.heap[g]? = some (.map es clk) := by rw [hw'.block g hlt]; exact hh
  have hck : ∀ e n, (Instr.checkKey e (n + 1) kt (.int .i64 k)).run P w' = .ok () w' := fun e n => MapKept.run_checkKey (k := .int .i64 k) hkt rfl e n
  rcases find_at (k := k) es.toList (bmap l) 0 hkv with ⟨h3, h4, _⟩ | ⟨i, e, h3, h5, _, h4, _⟩
  · have hf := MapKept.run_findKey (P := P) (w := w') hkt h3
    simp [execOp, h1, h2, Instr.lookup, run_underlying ht, MapKept.run_getObj_map hh', hck, hf, hz, h4]
  · have hf := MapKept.run_findKey (P := P) (w := w') hkt h3
    simp [execOp, h1, h2, Instr.lookup, run_underlying ht, MapKept.run_getObj_map hh', hck, hf, h4]
theorem tq_callVGg {ops : Array Oper} {rest : List Oper} {S : St} {K : St → Prop} {d : Tmp} {f : FuncId} {caps : List SV} {xf : Operand} {xs : List Operand} {ats : Array TypeId} {ty : TypeId} {pos : String} {after : Array Edge} {args : List SV} {x : Value} {gd : Nat × Bool} {c : Bool}
    (hg : Guard E S ops gd c) (hxf : c = true → FnVal E S xf f caps) (hro : allRO caps = true) (hf : Enters P f) (ha : c = true → Vals E S xs args) (h : c = true → Ct P f (args ++ caps) (.v x)) (hk : TQ P E ops rest (nextQ S d (.grd c (.v x))) K) (hd : d < NN := by decide) :
    TQ P E ops ({ dst := some d, op := .call { callee := .value xf, args := xs.toArray, argTypes := ats }, type := ty, pos, after, guard := some gd } :: rest) S K := fun b a w hr => by
  unfold wpQuiet
  rw [hg b a w hr _ rfl]
  cases c with
  | false => exact hk b _ w (hr.put hd ⟨(fun h => by cases h), fun _ => rfl⟩)
  | true =>
    refine ⟨x, fun w' hw' => ?_, hk b _ w (hr.put hd ⟨fun _ => rfl, fun h => by cases h⟩)⟩
    unfold Oper.quietAt
    have hr' : RepB E b S a w' := hr.world hw'
    obtain ⟨vals, hv, hc⟩ := hxf rfl b a w' hr'
    rw [run_callV hf a xf vals hv]
    refine ⟨rfl, ?_⟩
    refine (h rfl w' (S.excl E b) _ (fun g hg => Nat.lt_of_lt_of_le (hr.excl_lt hg) hw'.size) (ros_app (hr' |> (ha rfl).ros) (hc.ros hro))).mono ?_
    rintro e w'' ⟨v, rfl, hv, hb⟩
    have : v = x := hv
    subst this
    exact ⟨rfl, hw'.trans (hb.mono hw'.size)⟩
end Go.Eng
namespace Go.Eng
open Go.RowKit
variable {P : Program} {NN : Nat} {E : Env NN}
end Go.Eng
namespace Go.Proofs.Ytmcdamcedemdiaa
open Go.RowKit Go.Eng
theorem en105 : Enters Try.prog 105 := fun args w => by kernel_rfl
def heBad (l : List He) (p : Int) (i : Nat) : Int := if (l.getD i default).pl < 0 ∨ p ≤ (l.getD i default).pl then 4 else if (l.take i).any (fun x => decide (x.id = (l.getD i default).id)) = true then 3 else 0
def chkHe (l : List He) (p : Int) : Int := if 24 < l.length then 1 else firstErr (heBad l p) 0 l.length
section
variable {l : List He} {p : Int} {i : Nat}
theorem chk_1 (h : 24 < l.length) : chkHe l p = 1 := if_pos h
theorem chk_0 (h : ¬ 24 < l.length) : chkHe l p = firstErr (heBad l p) 0 (l.length - 0) := if_neg h
theorem heBad_4 (h : (l.getD i default).pl < 0 ∨ p ≤ (l.getD i default).pl) : heBad l p i = 4 := if_pos h
theorem heBad_3 (h : ¬ ((l.getD i default).pl < 0 ∨ p ≤ (l.getD i default).pl)) (e : (l.take i).any (fun x => decide (x.id = (l.getD i default).id)) = true) : heBad l p i = 3 := by
  unfold heBad; rw [if_neg h, if_pos e]
theorem heBad_0 (h : ¬ ((l.getD i default).pl < 0 ∨ p ≤ (l.getD i default).pl)) (e : (l.take i).any (fun x => decide (x.id = (l.getD i default).id)) = false) : heBad l p i = 0 := by
  unfold heBad; rw [if_neg h, if_neg (ff e)]
theorem chk_len (h : chkHe l p = 0) : l.length ≤ 24 := by
  by_cases c : 24 < l.length
  · rw [chk_1 c] at h; cases h
  · omega
end
theorem kget_cons {β : Type} (p : Int × β) (r : List (Int × β)) (j : Int) : kget (p :: r) j = if p.1 = j then some p.2 else kget r j := by
  unfold kget; rw [List.find?_cons]
  by_cases e : p.1 = j
  · rw [if_pos e, decide_eq_true e]; rfl
  · rw [if_neg e, decide_eq_false e]
theorem kget_put {β : Type} : ∀ (l : List (Int × β)) (k j : Int) (v : β), kget (kput l k v) j = if j = k then some v else kget l j
  | [], k, j, v => by
    rw [kput, kget_cons]
    by_cases e : j = k
    · rw [if_pos e, if_pos e.symm]
    · rw [if_neg e, if_neg fun q => e q.symm]
  | p :: r, k, j, v => by
    rw [kput]
    by_cases c : p.1 = k
    · rw [if_pos c, kget_cons, kget_cons]
      by_cases e : j = k
      · rw [if_pos e, if_pos e.symm]
      · rw [if_neg e, if_neg (fun q => e q.symm), if_neg (fun q => e (q.symm.trans c))]
    · rw [if_neg c, kget_cons, kget_cons, kget_put r k j v]
      by_cases e : j = k
      · rw [if_neg (fun q => c (q.trans e)), if_pos e, if_pos e]
      · rw [if_neg e, if_neg e]
def putAll (l : List He) (m : List (Int × Bool)) : List (Int × Bool) := l.foldl (fun m h => kput m h.id true) m
theorem put_get (j : Int) : ∀ (l : List He) (m : List (Int × Bool)), (kget (putAll l m) j).getD false = (l.any (fun h => decide (h.id = j)) || (kget m j).getD false)
  | [], m => rfl
  | h :: r, m => by
    show (kget (putAll r (kput m h.id true)) j).getD false = _
    rw [put_get j r, kget_put, List.any_cons]
    by_cases e : j = h.id
    · rw [if_pos e, decide_eq_true e.symm]; simp
    · rw [if_neg e, decide_eq_false fun q => e q.symm, Bool.false_or]
def seenM (l : List He) : List (Int × Bool) := putAll l []
theorem seenM_get (l : List He) (j : Int) : (kget (seenM l) j).getD false = l.any fun h => decide (h.id = j) := by
  rw [seenM, put_get]
  show (_ || (kget ([] : List (Int × Bool)) j).getD false) = _
  rw [show kget ([] : List (Int × Bool)) j = none from rfl]; simp
theorem seenM_s {l : List He} {i : Nat} (h : i < l.length) : seenM (l.take (i + 1)) = kput (seenM (l.take i)) (l.getD i default).id true := by
  unfold seenM putAll; rw [foldl_take_s _ _ default _ _ h]
structure Desk where
  calls : List Ca
  heard : List (Int × Bool)
  stop : Bool
def desk0 : Desk := ⟨[], [], false⟩
def deskS (p : He → Bool) (k tg ph : Int) (D : Desk) (h : He) : Desk := if h.pl = k ∧ p h = true then ⟨D.calls ++ [⟨h.id, k, tg, ph⟩], kput D.heard h.id true, D.stop || h.stops⟩ else D
def atD (p : He → Bool) (k tg ph : Int) (hs : List He) (D : Desk) : Desk := if D.stop = true then D else hs.foldl (deskS p k tg ph) D
section
variable {p : He → Bool} {k tg ph : Int} {hs : List He} {D : Desk} {i : Nat}
theorem atD_1 (h : D.stop = true) : atD p k tg ph hs D = D := if_pos h
theorem atD_2 (h : D.stop = false) : atD p k tg ph hs D = hs.foldl (deskS p k tg ph) D := if_neg (ff h)
theorem desk_no (hi : i < hs.length) (h : ¬ ((hs.getD i default).pl = k ∧ p (hs.getD i default) = true)) : (hs.take (i + 1)).foldl (deskS p k tg ph) D = (hs.take i).foldl (deskS p k tg ph) D := by
  rw [foldl_take_s _ _ default _ _ hi, deskS, if_neg h]
theorem desk_yes (hi : i < hs.length) (h : (hs.getD i default).pl = k ∧ p (hs.getD i default) = true) : (hs.take (i + 1)).foldl (deskS p k tg ph) D =
    ⟨((hs.take i).foldl (deskS p k tg ph) D).calls ++ [⟨(hs.getD i default).id, k, tg, ph⟩], kput ((hs.take i).foldl (deskS p k tg ph) D).heard (hs.getD i default).id true, ((hs.take i).foldl (deskS p k tg ph) D).stop || (hs.getD i default).stops⟩ := by
  rw [foldl_take_s _ _ default _ _ hi, deskS, if_pos h]
theorem deskF_len : ∀ (hs : List He) (D : Desk), (hs.foldl (deskS p k tg ph) D).calls.length ≤ D.calls.length + hs.length
  | [], D => Nat.le_refl _
  | h :: r, D => by
    rw [List.foldl_cons, List.length_cons]
    have := deskF_len r (deskS p k tg ph D h)
    have h2 : (deskS p k tg ph D h).calls.length ≤ D.calls.length + 1 := by
      unfold deskS; split
      · rw [List.length_append]; exact Nat.le_refl _
      · omega
    omega
theorem desk_len (i : Nat) : ((hs.take i).foldl (deskS p k tg ph) D).calls.length ≤ D.calls.length + hs.length := by
  have := deskF_len (p := p) (k := k) (tg := tg) (ph := ph) (hs.take i) D
  rw [List.length_take] at this; omega
theorem atD_len : (atD p k tg ph hs D).calls.length ≤ D.calls.length + hs.length := by
  unfold atD; split
  · omega
  · exact deskF_len hs D
end
def phD (tg k b : Int) : Int := if tg = k then 2 else b
def stepS (l : List Nd) (t : Int) (hs : List He) (D : Desk) (s : Sp) : Desk := atD (fun h => h.down == s.down) s.at_ (tgtSt l t s.at_) (phD (tgtSt l t s.at_) s.at_ (if s.down = true then 1 else 3)) hs D
def dnSp (k : Int) : Sp := ⟨k, true⟩
def upSp (k : Int) : Sp := ⟨k, false⟩
def stopsL (l : List Nd) (t : Int) : List Sp := (line l t).reverse.map dnSp ++ (line l t).map upSp
def runD (l : List Nd) (t : Int) (hs : List He) : Desk := (stopsL l t).foldl (stepS l t hs) desk0
def leftD (M : List (Int × Bool)) (hs : List He) : List He := hs.filter fun h => !(h.once && (kget M h.id).getD false)
def dispSt (l : List Nd) (hs : List He) (t : Hd) : List Ca × List He × Int :=
  if firstSt l [t] ≠ 0 then ([], [], firstSt l [t]) else if chkHe hs (l.length : Int) ≠ 0 then ([], [], chkHe hs (l.length : Int)) else ((runD l t.pl hs).calls, leftD (runD l t.pl hs).heard hs, 0)
section
variable {l : List Nd} {hs : List He} {t : Hd}
theorem disp_1 (h : ¬ firstSt l [t] = 0) : dispSt l hs t = ([], [], firstSt l [t]) := if_pos h
theorem disp_2 (h : firstSt l [t] = 0) (c : ¬ chkHe hs (l.length : Int) = 0) : dispSt l hs t = ([], [], chkHe hs (l.length : Int)) := by unfold dispSt; rw [if_neg (not_not_intro h), if_pos c]
theorem disp_3 (h : firstSt l [t] = 0) (c : chkHe hs (l.length : Int) = 0) : dispSt l hs t = ((runD l t.pl hs).calls, leftD (runD l t.pl hs).heard hs, 0) := by unfold dispSt; rw [if_neg (not_not_intro h), if_neg (not_not_intro c)]
end
section
variable {l : List Nd} {t : Int} {hs : List He} {D : Desk} {i : Nat}
theorem step_1 {s : Sp} (h : D.stop = true) : stepS l t hs D s = D := atD_1 h
theorem step_2 {s : Sp} (h : D.stop = false) : stepS l t hs D s = hs.foldl (deskS (fun h => h.down == s.down) s.at_ (tgtSt l t s.at_) (phD (tgtSt l t s.at_) s.at_ (if s.down = true then 1 else 3))) D := atD_2 h
theorem step_stuck (h : D.stop = true) : ∀ S : List Sp, S.foldl (stepS l t hs) D = D
  | [] => rfl
  | s :: r => by rw [List.foldl_cons, step_1 h]; exact step_stuck h r
theorem run_stop {S : List Sp} (h : ((S.take i).foldl (stepS l t hs) D).stop = true) : S.foldl (stepS l t hs) D = (S.take i).foldl (stepS l t hs) D := by
  have e := List.take_append_drop i S
  calc S.foldl (stepS l t hs) D = (S.take i ++ S.drop i).foldl (stepS l t hs) D := by rw [e]
    _ = (S.take i).foldl (stepS l t hs) D := by rw [List.foldl_append]; exact step_stuck h _
theorem run_len (S : List Sp) (h24 : hs.length ≤ 24) : (S.foldl (stepS l t hs) D).calls.length ≤ D.calls.length + 24 * S.length := by
  induction S generalizing D with
  | nil => exact Nat.le_refl _
  | cons s r ih =>
    rw [List.foldl_cons, List.length_cons]
    have h1 := ih (D := stepS l t hs D s)
    have h2 : (stepS l t hs D s).calls.length ≤ D.calls.length + hs.length := atD_len
    omega
def dnR (l : List Nd) (t : Int) (hs : List He) (i : Nat) : Desk := ((line l t).reverse.take i).foldl (fun D k => stepS l t hs D (dnSp k)) desk0
def upR (l : List Nd) (t : Int) (hs : List He) (i : Nat) : Desk := ((line l t).take i).foldl (fun D k => stepS l t hs D (upSp k)) (dnR l t hs (line l t).length)
theorem run_up : runD l t hs = upR l t hs (line l t).length := by
  unfold runD upR dnR stopsL
  rw [List.foldl_append, List.foldl_map, List.foldl_map, List.take_of_length_le (Nat.le_refl _), List.take_of_length_le (by rw [List.length_reverse]; exact Nat.le_refl _)]
theorem up_0 : upR l t hs 0 = dnR l t hs (line l t).length := rfl
theorem rev_getD {L : List Int} (h : i < L.length) : L.reverse.getD i 0 = L.getD (L.length - 1 - i) 0 := by
  rw [getD_lt (by rw [List.length_reverse]; exact h), getD_lt (by omega), List.getElem_reverse]
theorem dn_s (h : i < (line l t).length) {k : Int} (e : (line l t).getD ((line l t).length - 1 - i) 0 = k) : dnR l t hs (i + 1) = atD He.down k (tgtSt l t k) (phD (tgtSt l t k) k 1) hs (dnR l t hs i) := by
  unfold dnR
  rw [foldl_take_s _ _ 0 _ _ (by rw [List.length_reverse]; exact h), rev_getD h, e]
  show atD (fun h => h.down == true) _ _ _ _ _ = _
  rw [show (fun h : He => h.down == true) = He.down from funext fun h => by cases h.down <;> rfl]; rfl
theorem up_s (h : i < (line l t).length) {k : Int} (e : (line l t).getD i 0 = k) : upR l t hs (i + 1) = atD (fun h => !h.down) k (tgtSt l t k) (phD (tgtSt l t k) k 3) hs (upR l t hs i) := by
  unfold upR
  rw [foldl_take_s _ _ 0 _ _ h, e]
  show atD (fun h => h.down == false) _ _ _ _ _ = _
  rw [show (fun h : He => h.down == false) = (fun h : He => !h.down) from funext fun h => by cases h.down <;> rfl]; rfl
theorem dnR_len (h24 : hs.length ≤ 24) : (dnR l t hs i).calls.length ≤ 24 * (line l t).length := by
  unfold dnR
  have := run_len (l := l) (t := t) (hs := hs) (D := desk0) (((line l t).reverse.take i).map dnSp) h24
  rw [List.foldl_map, List.length_map, List.length_take, List.length_reverse] at this
  have h0 : desk0.calls.length = 0 := rfl
  have h1 : 24 * min i (line l t).length ≤ 24 * (line l t).length := Nat.mul_le_mul_left _ (Nat.min_le_right _ _)
  omega
theorem upR_len (h24 : hs.length ≤ 24) : (upR l t hs i).calls.length ≤ 48 * (line l t).length := by
  unfold upR
  have := run_len (l := l) (t := t) (hs := hs) (D := dnR l t hs (line l t).length) (((line l t).take i).map upSp) h24
  rw [List.foldl_map, List.length_map, List.length_take] at this
  have h0 := dnR_len (l := l) (t := t) (i := (line l t).length) h24
  have h1 : 24 * min i (line l t).length ≤ 24 * (line l t).length := Nat.mul_le_mul_left _ (Nat.min_le_right _ _)
  omega
end
theorem filter_one {α : Type} (p : α → Bool) (x : α) : [x].filter p = if p x = true then [x] else [] := by cases h : p x <;> simp [h]
theorem left_s {M : List (Int × Bool)} {hs : List He} {i : Nat} (h : i < hs.length) : leftD M (hs.take (i + 1)) = leftD M (hs.take i) ++ (if (!((hs.getD i default).once && (kget M (hs.getD i default).id).getD false)) = true then [hs.getD i default] else []) := by
  unfold leftD
  rw [take_s default h, List.filter_append]
  exact congrArg _ (filter_one _ _)
theorem left_len (M : List (Int × Bool)) (hs : List He) : (leftD M hs).length ≤ hs.length := List.length_filter_le _ _
def heVal (h : He) : Nat → Value
  | 0 => .int .i64 h.pl
  | 1 => .bool h.down
  | 2 => .bool h.once
  | 3 => .bool h.stops
  | _ => .int .i64 h.id
theorem fields54 : Try.prog.underlying 54 = some (.struct (Try.prog.fieldsOf 54)) := by kernel_rfl
theorem held54 : Try.prog.stoodInHeld 54 = false := by kernel_rfl
theorem guard54 : Try.prog.eqGuardType Try.prog.depth 54 = false := by kernel_rfl
theorem fl54 : (Try.prog.fieldsOf 54).toList = (match Try.prog.underlying 54 with | some (.struct fs) => fs.toList | _ => []) := by kernel_rfl
theorem eq54 (f g : He) (w : World) : (Op.equalIn 10000 54 (.agg (Array.ofFn fun i : Fin 5 => heVal f i.1)) (.agg (Array.ofFn fun i : Fin 5 => heVal g i.1))).run Try.prog w = .ok (decide (f = g)) w := by
  rw [run_equalIn_agg w 9999 54 _ _ fields54 held54, fl54, Try.underlying54]
  simp [Op.eqFields, part, Try.isAgg3, Try.isAgg4, heVal, run_equalIn_int w 9998 3 .i64 .i64 _ _ Try.underlying3, run_equalIn_bool w 9998 4 _ _ Try.underlying4]
  obtain ⟨a0, a1, a2, a3, a4⟩ := f
  obtain ⟨b0, b1, b2, b3, b4⟩ := g
  simp only [He.mk.injEq]
  repeat (split <;> simp_all)
theorem neS54 (x y : Operand) (f g : He) (w : World) : (do eqGuard .neq 54 x y (.agg (Array.ofFn fun i : Fin 5 => heVal f i.1)) (.agg (Array.ofFn fun i : Fin 5 => heVal g i.1)); binOp .neq 54 (.agg (Array.ofFn fun i : Fin 5 => heVal f i.1)) (.agg (Array.ofFn fun i : Fin 5 => heVal g i.1))).run Try.prog w = .ok (.bool (!decide (f = g))) w := by
  simp only [Sem.run_bind, run_eqGuard_agg w .neq 54 x y _ _ guard54, Result.andThen_ok, run_neq_struct w 54, eq54 f g w]
def caVal (h : Ca) : Nat → Value
  | 0 => .int .i64 h.id
  | 1 => .int .i64 h.at_
  | 2 => .int .i64 h.tgt
  | _ => .int .i64 h.ph
theorem fields51 : Try.prog.underlying 51 = some (.struct (Try.prog.fieldsOf 51)) := by kernel_rfl
theorem held51 : Try.prog.stoodInHeld 51 = false := by kernel_rfl
theorem guard51 : Try.prog.eqGuardType Try.prog.depth 51 = false := by kernel_rfl
theorem fl51 : (Try.prog.fieldsOf 51).toList = (match Try.prog.underlying 51 with | some (.struct fs) => fs.toList | _ => []) := by kernel_rfl
theorem eq51 (f g : Ca) (w : World) : (Op.equalIn 10000 51 (.agg (Array.ofFn fun i : Fin 4 => caVal f i.1)) (.agg (Array.ofFn fun i : Fin 4 => caVal g i.1))).run Try.prog w = .ok (decide (f = g)) w := by
  rw [run_equalIn_agg w 9999 51 _ _ fields51 held51, fl51, Try.underlying51]
  simp [Op.eqFields, part, Try.isAgg3, Try.isAgg4, caVal, run_equalIn_int w 9998 3 .i64 .i64 _ _ Try.underlying3, run_equalIn_bool w 9998 4 _ _ Try.underlying4]
  obtain ⟨a0, a1, a2, a3⟩ := f
  obtain ⟨b0, b1, b2, b3⟩ := g
  simp only [Ca.mk.injEq]
  repeat (split <;> simp_all)
theorem neS51 (x y : Operand) (f g : Ca) (w : World) : (do eqGuard .neq 51 x y (.agg (Array.ofFn fun i : Fin 4 => caVal f i.1)) (.agg (Array.ofFn fun i : Fin 4 => caVal g i.1)); binOp .neq 51 (.agg (Array.ofFn fun i : Fin 4 => caVal f i.1)) (.agg (Array.ofFn fun i : Fin 4 => caVal g i.1))).run Try.prog w = .ok (.bool (!decide (f = g))) w := by
  simp only [Sem.run_bind, run_eqGuard_agg w .neq 51 x y _ _ guard51, Result.andThen_ok, run_neq_struct w 51, eq51 f g w]
theorem build147 : ∀ (w : World) (parts : List (Nat × Value)) (z : Value) (cs : Array Value), (zeroValue 147).run Try.prog w = .ok z w → Instr.fill (fun i => if i < 2 then some (i, 1) else none) z.cells parts = some cs → (∀ p ∈ parts, p.1 < 2) → (Instr.build 147 parts.toArray).run Try.prog w = .ok (.agg cs) w :=
  build_struct Try.underlying147 (fun w => by simp [Try.sizeOf3, Try.sizeOf4]; rfl)
theorem desk_yesP {p : He → Bool} {k tg ph ph' : Int} {hs : List He} {D : Desk} {i : Nat} (hi : i < hs.length) (h : (hs.getD i default).pl = k ∧ p (hs.getD i default) = true) (e : ph = ph') : (hs.take (i + 1)).foldl (deskS p k tg ph) D =
    ⟨((hs.take i).foldl (deskS p k tg ph) D).calls ++ [⟨(hs.getD i default).id, k, tg, ph'⟩], kput ((hs.take i).foldl (deskS p k tg ph) D).heard (hs.getD i default).id true, ((hs.take i).foldl (deskS p k tg ph) D).stop || (hs.getD i default).stops⟩ := by
  rw [desk_yes hi h, e]
theorem stops_in {l : List Nd} {t : Int} {s : Sp} (h : s ∈ stopsL l t) : s.at_ ∈ line l t := by
  unfold stopsL at h
  rcases List.mem_append.1 h with h | h
  · obtain ⟨k, hk, rfl⟩ := List.mem_map.1 h
    exact List.mem_reverse.1 hk
  · obtain ⟨k, hk, rfl⟩ := List.mem_map.1 h
    exact hk
theorem stops_len (l : List Nd) (t : Int) : (stopsL l t).length = 2 * (line l t).length := by
  unfold stopsL; rw [List.length_append, List.length_map, List.length_map, List.length_reverse]; omega
theorem runS_len {l : List Nd} {t : Int} {hs : List He} {i : Nat} (h24 : hs.length ≤ 24) : (((stopsL l t).take i).foldl (stepS l t hs) desk0).calls.length ≤ 48 * (line l t).length := by
  have := run_len (l := l) (t := t) (hs := hs) (D := desk0) ((stopsL l t).take i) h24
  rw [List.length_take, stops_len] at this
  have h0 : desk0.calls.length = 0 := rfl
  have h1 : 24 * min i (2 * (line l t).length) ≤ 24 * (2 * (line l t).length) := Nat.mul_le_mul_left _ (Nat.min_le_right _ _)
  omega
theorem zero116 : ZeroOk Try.prog 116 1 (fun _ => SV.v (.pointer none)) := zero_one (fun w => by kernel_rfl) rfl rfl
theorem zero118 : ZeroOk Try.prog 118 3 (cmpG [.v (.slice none 0 0), .v (.map none), bv false]) := by
  refine ⟨_, Try.zeroValue118, rfl, fun t ht => ?_⟩
  match t, ht with
  | 0, _ => exact ⟨_, rfl, rfl, fun _ _ => rfl⟩
  | 1, _ => exact ⟨_, rfl, rfl, fun _ _ => rfl⟩
  | 2, _ => exact ⟨_, rfl, rfl, fun _ _ => rfl⟩
theorem build118 : ∀ (w : World) (parts : List (Nat × Value)) (z : Value) (cs : Array Value), (zeroValue 118).run Try.prog w = .ok z w → Instr.fill (fun i => if i < 3 then some (i, 1) else none) z.cells parts = some cs → (∀ p ∈ parts, p.1 < 3) → (Instr.build 118 parts.toArray).run Try.prog w = .ok (.agg cs) w :=
  build_struct Try.underlying118 (fun w => by simp [Try.sizeOf46, Try.sizeOf49, Try.sizeOf4]; rfl)
end Go.Proofs.Ytmcdamcedemdiaa
namespace Go.Proofs.Ytmcdamcedemdiaa
open Go.RowKit Go.Eng
theorem idxf34_ct {f : FuncId} {caps : List SV} (p : He → Bool) (hE : Enters Try.prog f) (hro : allRO caps = true) (hC : ∀ x, Ct Try.prog f ([.agg 5 (heCell x)] ++ caps) (bv (p x))) (l : List He) : Ct Try.prog 34 [heRow l, fnA f caps] (iv (idxF p l)) := by
 refine CtO 19 Try.func34 rfl rfl rfl fun E => Rl (V (s := 0) rfl) fun hl0 => Sq <| Rq <| O (As K) <| Nq <| Sq <| Sq <| Rq <| O (Mv (V rfl)) <| O (Ln (V rfl) ts45) <| O (Mv K) <| Nq <| Bo <| Lo (fun (i : Nat) => ⟨[(0, heRow l), (1, fnA f caps), (7, iv ((l.length : Int))), (8, iv ((i : Int)))], []⟩) (fun (i : Nat) => i ≤ l.length ∧ ∀ j, j < i → p (l.getD j default) = false) (fun (i : Nat) => l.length - i) 0 (by show 0 ≤ l.length ∧ ∀ j, j < 0 → p (l.getD j default) = false; exact ⟨Nat.zero_le _, fun j hj => absurd hj (Nat.not_lt_zero _)⟩) (We (Vs rfl) Z) <| ?_
 ·rintro i hI1
  have hJ1 : i ≤ l.length ∧ ∀ j, j < i → p (l.getD j default) = false := hI1
  have hi1 := hJ1.1
  have hall := hJ1.2
  refine Sq <| Rq <| O (Lt (V rfl) (V rfl)) <| Nq <| Sq <| Cd (V rfl) (fun hc1 => ?_) (fun hc1 => ?_)
  ·have hc1s := hc1; try simp only [BL] at hc1s
   refine Sk <| Sq <| Bo <| Sq <| Rq <| O (Mv (V rfl)) <| O (As (V rfl)) <| Nq <| Sq <| Rq <| O (Mv (V rfl)) <| O (Mv (V rfl)) <| O (Mv (V rfl)) <| O (IxN (i := i) (V rfl) (V rfl) ts45 te45 (by clear hall hJ1 hI1; omega)) <| O (LdA (V rfl) Ga54 Sz54 (by decide)) <| CQv (args := [SV.agg 5 (heCell ⟨(l.getD i default).pl, (l.getD i default).down, (l.getD i default).once, (l.getD i default).stops, (l.getD i default).id⟩)]) (caps := caps) (fnval_A (V rfl)) hro hE (by exact ⟨⟨(Vi (g' := heCell ⟨(l.getD i default).pl, (l.getD i default).down, (l.getD i default).once, (l.getD i default).stops, (l.getD i default).id⟩) (V rfl) ⟨⟨⟨⟨⟨Z, Ir⟩, Ir⟩, Ir⟩, Ir⟩, Ir⟩), rfl⟩, Z⟩) (hC (l.getD i default)) <| Nq <| Cd (V rfl) (fun hc2 => ?_) (fun hc2 => ?_)
   ·have hc2s := hc2; try simp only [BL] at hc2s
    exact Sq <| Rq <| O (Mv (V rfl)) <| O (As (V rfl)) <| Nq <| Rx <| R1 rfl (V rfl) rfl (by show iv ((i : Int)) = iv (idxF p l); rw [idxF_hit default (by clear hall hJ1 hI1; omega) hall hc2])
   ·have hc2s := hc2; try simp only [BL] at hc2s
    exact Sk <| Rq <| O (Ad (V rfl) K (by clear hall hJ1 hI1; omega)) <| O (Mv (V rfl)) <| Nq <| Nx (i + 1) (by show (i + 1) ≤ l.length ∧ ∀ j, j < (i + 1) → p (l.getD j default) = false; exact ⟨by clear hall hJ1 hI1; omega, idxF_s hall hc2⟩) (by show l.length - (i + 1) < l.length - i; clear hall hJ1 hI1; omega) (We (Vs rfl) Z)
  ·have hc1s := hc1; try simp only [BL] at hc1s
   exact Ex <| Sq <| Rq <| O (As K) <| Nq <| Rx <| R1 rfl (V rfl) rfl (by show iv ((-1)) = iv (idxF p l); rw [idxF_none default hall (by clear hall hJ1 hI1; omega)])
theorem conf138_ct {f : FuncId} {caps : List SV} (p : He → Bool) (hE : Enters Try.prog f) (hro : allRO caps = true) (hC : ∀ x, Ct Try.prog f ([.agg 5 (heCell x)] ++ caps) (bv (p x))) (l : List He) : Ct Try.prog 138 [heRow l, fnA f caps] (bv (l.any p)) := by
 exact CtO 9 Try.func138 rfl rfl rfl fun E => Rl (V (s := 0) rfl) fun hl0 => Sq <| Rq <| O (As K) <| Nq <| Sq <| Rq <| O (Mv (V rfl)) <| O (Mv (V rfl)) <| CQ en34 (by exact ⟨⟨(V rfl), rfl⟩, ⟨(V rfl), rfl⟩, Z⟩) (idxf34_ct p hE hro hC l) <| O (Ge (V rfl) K) <| O (As (V rfl)) <| Nq <| Rx <| R1 rfl (V rfl) rfl (by show bv (decide (0 ≤ idxF p l)) = bv (l.any p); exact congrArg bv (idxF_any p l))
theorem sameId_ct (x h : He) : Ct Try.prog 139 [SV.agg 5 (heCell x), elB [iv (h.pl), bv (h.down), bv (h.once), bv (h.stops), iv (h.id)] 0] (bv (decide (x.id = h.id))) := by
 exact CtO 9 Try.func139 rfl rfl rfl fun E => Sq <| Rt <| BxA 1 (V rfl) rfl rfl <| U (As K) <| Nt <| Sq <| Rq <| O (FlB _ _ (V rfl) Un54 rfl 0 Sz3) <| O (LdB (V rfl) rfl Ga3 (by decide)) <| O (Fl _ _ (V rfl) Un54 rfl 0 Sz3) <| O (Ld (V rfl) Ga3 (by show 4 < 5; decide)) <| O (Ql (V rfl) (V rfl)) <| O (As (V rfl)) <| Nq <| Rx <| R1 rfl (V rfl) rfl (by show bv (decide (x.id = h.id)) = bv (decide (x.id = h.id)); rfl)
theorem below_ct (x n : Int) : Ct Try.prog 140 [iv (x), iv (n)] (bv (decide (0 ≤ x) && decide (x < n))) := by
 exact CtO 12 Try.func140 rfl rfl rfl fun E => Sq <| Rq <| O (As K) <| Nq <| Sq <| Rq <| O (Mv (V rfl)) <| O (Ge (V rfl) K) <| O (Mv (V rfl)) <| Og (Gy rfl rfl) (fun hg => Mv (V rfl)) <| Og (Gy rfl rfl) (fun hg => Mv (V rfl)) <| Og (Gy rfl rfl) (fun hg => Lt (Vg (V rfl) hg) (Vg (V rfl) hg)) <| O (Qa (V rfl) (fun h => Vg (V rfl) h)) <| O (As (V rfl)) <| Nq <| Rx <| R1 rfl (V rfl) rfl (by show bv ((decide (0 ≤ x)) && (decide (x < n))) = bv (decide (0 ≤ x) && decide (x < n)); rfl)
theorem chkHe_ct (l : List He) (p : Int) : Ct Try.prog 93 [heRow l, iv (p)] (iv (chkHe l p)) := by
 refine CtO 32 Try.func93 rfl rfl rfl fun E => Rl (V (s := 0) rfl) fun hl0 => Sq <| Rq <| O (As K) <| Nq <| Sq <| Sq <| Rq <| O (Mv (V rfl)) <| O (Ln (V rfl) ts45) <| O (Gt (V rfl) K) <| Nq <| Cd (V rfl) (fun hc1 => ?_) (fun hc1 => ?_)
 ·have hc1s := hc1; try simp only [BL] at hc1s
  exact Sq <| Rq <| O (As K) <| Nq <| Rx <| R1 rfl (V rfl) rfl (by show iv (1) = iv (chkHe l p); rw [chk_1 (by omega)])
 ·have hc1s := hc1; try simp only [BL] at hc1s
  refine Sk <| Sq <| Sq <| Rq <| O (Mv (V rfl)) <| O (Ln (V rfl) ts45) <| O (Mv K) <| Nq <| Bo <| Lo (fun (i : Nat) => ⟨[(0, heRow l), (1, iv (p)), (10, heRow l), (11, iv ((l.length : Int))), (12, iv ((i : Int)))], []⟩) (fun (i : Nat) => i ≤ l.length ∧ chkHe l p = firstErr (heBad l p) i (l.length - i)) (fun (i : Nat) => l.length - i) 0 (by show 0 ≤ l.length ∧ chkHe l p = firstErr (heBad l p) 0 (l.length - 0); exact ⟨Nat.zero_le _, chk_0 (by omega)⟩) (We (Vs rfl) Z) <| ?_
  ·rintro i hI1
   have hJ1 : i ≤ l.length ∧ chkHe l p = firstErr (heBad l p) i (l.length - i) := hI1
   have hiv := hJ1.1
   have hch := hJ1.2
   refine Sq <| Rq <| O (Lt (V rfl) (V rfl)) <| Nq <| Sq <| Cd (V rfl) (fun hc2 => ?_) (fun hc2 => ?_)
   ·have hc2s := hc2; try simp only [BL] at hc2s
    have hil : i < l.length := by omega
    refine Sk <| Sq <| Bo <| Sq <| Rt <| U (Mv (V rfl)) <| U (IxN (i := i) (V rfl) (V rfl) ts45 te45 (by omega)) <| U (LdA (V rfl) Ga54 Sz54 (by decide)) <| Al 1 zero54 rfl rfl <| U (As (V rfl)) <| StA (V rfl) rfl (V rfl) Sz54 <| Nt <| Sq <| Sq <| Rq <| O (FlB _ _ (V rfl) Un54 rfl 0 Sz3) <| O (LdB (V rfl) rfl Ga3 (by decide)) <| O (Lt (V rfl) K) <| O (Mv (V rfl)) <| Og (Gn rfl rfl) (fun hg => FlB _ _ (V rfl) Un54 rfl 0 Sz3) <| Og (Gn rfl rfl) (fun hg => LdB (Vg (V rfl) hg) rfl Ga3 (by decide)) <| Og (Gn rfl rfl) (fun hg => Mv (V rfl)) <| Og (Gn rfl rfl) (fun hg => Ge (Vg (V rfl) hg) (Vg (V rfl) hg)) <| O (Qr (V rfl) (fun h => Vg (V rfl) (notT h))) <| Nq <| Cd (V rfl) (fun hc3 => ?_) (fun hc3 => ?_)
    ·have hc3s := hc3; try simp only [BL] at hc3s
     have hbd : (l.getD i default).pl < 0 ∨ p ≤ (l.getD i default).pl := by simpa using hc3
     exact Sq <| Rq <| O (As K) <| Nq <| Rx <| R1 rfl (V rfl) rfl (by show iv (4) = iv (chkHe l p); rw [firstErr_hit hil hch (heBad_4 hbd) (by decide)])
    ·have hc3s := hc3; try simp only [BL] at hc3s
     have hpl : ¬ ((l.getD i default).pl < 0 ∨ p ≤ (l.getD i default).pl) := fun q => Bool.false_ne_true (hc3.symm.trans (by simpa using q))
     refine Sk <| Sq <| c_frzB 1 [iv ((l.getD i default).pl), bv ((l.getD i default).down), bv ((l.getD i default).once), bv ((l.getD i default).stops), iv ((l.getD i default).id)] rfl rfl ⟨⟨⟨⟨⟨Z, rfl⟩, rfl⟩, rfl⟩, rfl⟩, rfl⟩ rfl <| Rt <| U (Mv (V rfl)) <| U (Mv (V rfl)) <| U (q_slHN (h := i) ts45 te45 (V rfl) (V rfl) (by omega)) <| U (Mk (caps := [elB [iv ((l.getD i default).pl), bv ((l.getD i default).down), bv ((l.getD i default).once), bv ((l.getD i default).stops), iv ((l.getD i default).id)] 0]) ⟨(V rfl), Z⟩) <| CT en138 (by exact ⟨⟨(V rfl), rfl⟩, ⟨(VA (VF [elB [iv ((l.getD i default).pl), bv ((l.getD i default).down), bv ((l.getD i default).once), bv ((l.getD i default).stops), iv ((l.getD i default).id)] 0] ((V rfl)) (An rfl)) rfl), rfl⟩, Z⟩) (conf138_ct (fun x => decide (x.id = (l.getD i default).id)) en139 rfl (fun x => sameId_ct x (l.getD i default)) (l.take i)) <| Nt <| Cd (V rfl) (fun hc4 => ?_) (fun hc4 => ?_)
     ·have hc4s := hc4; try simp only [BL] at hc4s
      exact Sq <| Rq <| O (As K) <| Nq <| Rx <| R1 rfl (V rfl) rfl (by show iv (3) = iv (chkHe l p); rw [firstErr_hit hil hch (heBad_3 hpl hc4) (by decide)])
     ·have hc4s := hc4; try simp only [BL] at hc4s
      exact Sk <| Rq <| O (Ad (V rfl) K (by omega)) <| O (Mv (V rfl)) <| Nq <| Nx (i + 1) (by show (i + 1) ≤ l.length ∧ chkHe l p = firstErr (heBad l p) (i + 1) (l.length - (i + 1)); exact ⟨by omega, firstErr_next hil hch (heBad_0 hpl hc4)⟩) (by show l.length - (i + 1) < l.length - i; omega) (We (Vs rfl) Z)
   ·have hc2s := hc2; try simp only [BL] at hc2s
    exact Ex <| Sq <| Rq <| O (As K) <| Nq <| Rx <| R1 rfl (V rfl) rfl (by show iv (0) = iv (chkHe l p); rw [firstErr_end (by omega) hch])
theorem rchkHe_ct (l : List He) (p : Int) : Ct Try.prog 94 [heRow l, iv (p)] (iv (chkHe l p)) := by
 refine CtO 31 Try.func94 rfl rfl rfl fun E => Rl (V (s := 0) rfl) fun hl0 => Sq <| Rq <| O (As K) <| Nq <| Sq <| Sq <| Rq <| O (Mv (V rfl)) <| O (Ln (V rfl) ts45) <| O (Gt (V rfl) K) <| Nq <| Cd (V rfl) (fun hc1 => ?_) (fun hc1 => ?_)
 ·have hc1s := hc1; try simp only [BL] at hc1s
  exact Sq <| Rq <| O (As K) <| Nq <| Rx <| R1 rfl (V rfl) rfl (by show iv (1) = iv (chkHe l p); rw [chk_1 (by omega)])
 ·have hc1s := hc1; try simp only [BL] at hc1s
  refine Sk <| Sq <| Rt <| t_makeMap 1 rfl <| U (As (V rfl)) <| Nt <| Sq <| Sq <| Rq <| O (Mv (V rfl)) <| O (Ln (V rfl) ts45) <| O (Mv K) <| Nq <| Bo <| c_mv 1 60 rfl rfl <| c_mapE 60 (bmap (seenM (l.take 0))) rfl (by rfl) <| Lo (fun (i : Nat) => ⟨[(1, iv (p)), (5, SV.own 60), (12, heRow l), (13, iv ((l.length : Int))), (14, iv ((i : Int)))], [(60, Own.amap (bmap (seenM (l.take i))))]⟩) (fun (i : Nat) => i ≤ l.length ∧ chkHe l p = firstErr (heBad l p) i (l.length - i)) (fun (i : Nat) => l.length - i) 0 (by show 0 ≤ l.length ∧ chkHe l p = firstErr (heBad l p) 0 (l.length - 0); exact ⟨Nat.zero_le _, chk_0 (by omega)⟩) (We (Vs rfl) (AOs rfl)) <| ?_
  ·rintro i hI1
   have hJ1 : i ≤ l.length ∧ chkHe l p = firstErr (heBad l p) i (l.length - i) := hI1
   have hiv := hJ1.1
   have hch := hJ1.2
   refine Sq <| Rq <| O (Lt (V rfl) (V rfl)) <| Nq <| Sq <| Cd (V rfl) (fun hc2 => ?_) (fun hc2 => ?_)
   ·have hc2s := hc2; try simp only [BL] at hc2s
    have hil : i < l.length := by omega
    refine Sk <| Sq <| Bo <| Sq <| Rt <| U (IxN (i := i) (V rfl) (V rfl) ts45 te45 (by omega)) <| U (LdA (V rfl) Ga54 Sz54 (by decide)) <| Al 2 zero54 rfl rfl <| StA (V rfl) rfl (V rfl) Sz54 <| Nt <| Sq <| Sq <| Rq <| O (FlB _ _ (V rfl) Un54 rfl 0 Sz3) <| O (LdB (V rfl) rfl Ga3 (by decide)) <| O (Mv (V rfl)) <| CQ en140 (by exact ⟨⟨(V rfl), rfl⟩, ⟨(V rfl), rfl⟩, Z⟩) (below_ct ((l.getD i default).pl) p) <| O (Qo (V rfl)) <| Nq <| Cd (V rfl) (fun hc3 => ?_) (fun hc3 => ?_)
    ·have hc3s := hc3; try simp only [BL] at hc3s
     have hbd : (l.getD i default).pl < 0 ∨ p ≤ (l.getD i default).pl := by simp at hc3; omega
     exact Sq <| Rq <| O (As K) <| Nq <| Rx <| R1 rfl (V rfl) rfl (by show iv (4) = iv (chkHe l p); rw [firstErr_hit hil hch (heBad_4 hbd) (by decide)])
    ·have hc3s := hc3; try simp only [BL] at hc3s
     have hpl : ¬ ((l.getD i default).pl < 0 ∨ p ≤ (l.getD i default).pl) := fun q => by simp at hc3; omega
     refine Sk <| Sq <| Sq <| Rq <| O (Mv (V rfl)) <| O (FlB _ _ (V rfl) Un54 rfl 0 Sz3) <| O (LdB (V rfl) rfl Ga3 (by decide)) <| O (q_lookB1 (l := seenM (l.take i)) Un49 Un3 (fun w => Try.zeroValue4 w) (V rfl) rfl (V rfl)) <| Nq <| Cd (V rfl) (fun hc4 => ?_) (fun hc4 => ?_)
     ·have hc4s := hc4; try simp only [BL] at hc4s
      exact Sq <| Rq <| O (As K) <| Nq <| Rx <| R1 rfl (V rfl) rfl (by show iv (3) = iv (chkHe l p); rw [firstErr_hit hil hch (heBad_3 hpl ((seenM_get _ _).symm.trans hc4)) (by decide)])
     ·have hc4s := hc4; try simp only [BL] at hc4s
      exact Sk <| Rt <| U (Mv (V rfl)) <| U (FlB _ _ (V rfl) Un54 rfl 0 Sz3) <| U (LdB (V rfl) rfl Ga3 (by decide)) <| t_putB (l := seenM (l.take i)) (.inr rfl) Un49 Un3 (V rfl) rfl (V rfl) K <| Nt <| Rq <| O (Ad (V rfl) K (by omega)) <| O (Mv (V rfl)) <| Nq <| k_mapE 60 (bmap (seenM (l.take ((i + 1))))) rfl (by rw [seenM_s hil]) <| Nx (i + 1) (by show (i + 1) ≤ l.length ∧ chkHe l p = firstErr (heBad l p) (i + 1) (l.length - (i + 1)); exact ⟨by omega, firstErr_next hil hch (heBad_0 hpl ((seenM_get _ _).symm.trans hc4))⟩) (by show l.length - (i + 1) < l.length - i; omega) (We (Vs rfl) (AOs rfl))
   ·have hc2s := hc2; try simp only [BL] at hc2s
    exact Ex <| Sq <| Rq <| O (As K) <| Nq <| Rx <| R1 rfl (V rfl) rfl (by show iv (0) = iv (chkHe l p); rw [firstErr_end (by omega) hch])
theorem down_ct (x : He) : Ct Try.prog 106 [SV.agg 5 (heCell x)] (bv x.down) := by
 exact CtO 5 Try.func106 rfl rfl rfl fun E => Sq <| Rt <| BxA 1 (V rfl) rfl rfl <| U (As K) <| Nt <| Sq <| Rq <| O (FlB _ _ (V rfl) Un54 rfl 0 Sz4) <| O (LdB (V rfl) rfl Ga4 (by decide)) <| O (As (V rfl)) <| Nq <| Rx <| R1 rfl (V rfl) rfl (by show bv (x.down) = bv x.down; rfl)
theorem up_ct (x : He) : Ct Try.prog 107 [SV.agg 5 (heCell x)] (bv (!x.down)) := by
 exact CtO 6 Try.func107 rfl rfl rfl fun E => Sq <| Rt <| BxA 1 (V rfl) rfl rfl <| U (As K) <| Nt <| Sq <| Rq <| O (FlB _ _ (V rfl) Un54 rfl 0 Sz4) <| O (LdB (V rfl) rfl Ga4 (by decide)) <| O (Qo (V rfl)) <| O (As (V rfl)) <| Nq <| Rx <| R1 rfl (V rfl) rfl (by show bv (!x.down) = bv (!x.down); rfl)
theorem told_ct (k : Int) (l : List Nd) (t : Hd) (hb : ∀ n ∈ l, n.kids.length ≤ 17592186043904) : Ct Try.prog 104 [iv (k), elB [ndRow l] 0, elB [iv (t.pl), iv (t.use)] 0] (iv (tgtSt l t.pl k)) := by
 exact CtO 10 Try.func104 rfl rfl rfl fun E => Sq <| Rq <| O (As K) <| Nq <| Sq <| Rq <| O (LdA (V rfl) Ga24 Sz24 (by show 0 + 1 ≤ 1; decide)) <| O (Fl _ _ (V rfl) Un26 rfl 0 Sz3) <| O (Ld (V rfl) Ga3 (by show 0 < 2; decide)) <| O (Mv (V rfl)) <| CQ en78 (by exact ⟨⟨(Vi (g' := stG l) (V rfl) ⟨Z, Ir⟩), rfl⟩, ⟨(V rfl), rfl⟩, ⟨(V rfl), rfl⟩, Z⟩) (target_ct l t.pl k (by first | assumption | exact kb_nil | exact kb_of (by assumption) | exact kb_of fam_c5)) <| O (As (V rfl)) <| Nq <| Rx <| R1 rfl (V rfl) rfl (by show iv (tgtSt l t.pl k) = iv (tgtSt l t.pl k); rfl)
theorem deskAt_ct {f : FuncId} {caps : List SV} (p : He → Bool) (hE : Enters Try.prog f) (hro : allRO caps = true) (hC : ∀ x, Ct Try.prog f ([.agg 5 (heCell x)] ++ caps) (bv (p x))) (hs : List He) (k tg ph : Int) (D : Desk) (hl : hs.length ≤ 24) (hcl : D.calls.length ≤ 100000) : CtM Try.prog 105 [SV.bp 1000 0, heRow hs, iv (k), iv (tg), iv (ph), fnA f caps] [(1000, Own.box 3 (cmpG [SV.own 1001, SV.own 1002, bv (D.stop)]) 118), (1001, ownOf caCell 4 default D.calls 51), (1002, Own.amap (bmap D.heard))] (sv0) [(1000, Own.box 3 (cmpG [SV.own 0, SV.own 1, bv ((atD p k tg ph hs D).stop)]) 118), (0, ownOf caCell 4 default ((atD p k tg ph hs D).calls) 51), (1, Own.amap (bmap ((atD p k tg ph hs D).heard)))] := by
 refine CmO 67 Try.func105 rfl rfl rfl fun E => Rl (V (s := 1) rfl) fun hl1 => Sq <| Sq <| Rq <| O (Mv (V rfl)) <| O (q_nilB (V rfl)) <| O (FlB _ _ (V rfl) Un118 rfl 0 Sz4) <| O (LdB (V rfl) rfl Ga4 (by decide)) <| Nq <| Cd (V rfl) (fun hc1 => ?_) (fun hc1 => ?_)
 ·have hc1s := hc1; try simp only [BL] at hc1s
  exact c_mv 1001 0 rfl rfl <| c_mv 1002 1 rfl rfl <| c_ownE 0 ((atD p k tg ph hs D).calls) rfl (by first | exact congrArg (fun D : Desk => D.calls) (atD_1 hc1) | exact (congrArg (fun D : Desk => D.calls) (atD_1 hc1)).symm) <| c_mapE 1 (bmap ((atD p k tg ph hs D).heard)) rfl (by first | exact congrArg (fun D : Desk => bmap D.heard) (atD_1 hc1) | exact (congrArg (fun D : Desk => bmap D.heard) (atD_1 hc1)).symm) <| Rx <| retM0 rfl (by exact ⟨⟨_, rfl, ⟨rfl, rfl, ⟨⟨⟨Z, rfl⟩, rfl⟩, ((congrArg (fun D : Desk => bv D.stop) (atD_1 hc1)).symm)⟩⟩⟩, ⟨_, rfl, rfl⟩, ⟨_, rfl, rfl⟩, Z⟩) (by show sv0 = sv0; rfl)
 ·have hc1s := hc1; try simp only [BL] at hc1s
  refine Sk <| Sq <| Rq <| O (Mv (V rfl)) <| O (Ln (V rfl) ts45) <| O (Mv K) <| Nq <| Bo <| c_mv 1001 60 rfl rfl <| c_mv 1002 61 rfl rfl <| c_ownE 60 (((hs.take 0).foldl (deskS p k tg ph) D).calls) rfl (by rfl) <| c_mapE 61 (bmap (((hs.take 0).foldl (deskS p k tg ph) D).heard)) rfl (by rfl) <| Lo (fun (i : Nat) => ⟨[(0, SV.bp 1000 0), (2, iv (k)), (3, iv (tg)), (4, iv (ph)), (5, fnA f caps), (18, heRow hs), (19, iv ((hs.length : Int))), (20, iv ((i : Int)))], [(60, ownOf caCell 4 default (((hs.take i).foldl (deskS p k tg ph) D).calls) 51), (61, Own.amap (bmap (((hs.take i).foldl (deskS p k tg ph) D).heard))), (1000, Own.box 3 (cmpG [SV.own 60, SV.own 61, bv (((hs.take i).foldl (deskS p k tg ph) D).stop)]) 118)]⟩) (fun (i : Nat) => i ≤ hs.length) (fun (i : Nat) => hs.length - i) 0 (by show 0 ≤ hs.length; exact Nat.zero_le _) (We (ow := [(60, ownOf caCell 4 default (((hs.take 0).foldl (deskS p k tg ph) D).calls) 51), (61, Own.amap (bmap (((hs.take 0).foldl (deskS p k tg ph) D).heard))), (1000, Own.box 3 (cmpG [SV.own 60, SV.own 61, bv (((hs.take 0).foldl (deskS p k tg ph) D).stop)]) 118)]) (Vs rfl) (by exact ⟨⟨_, rfl, rfl⟩, ⟨_, rfl, rfl⟩, ⟨_, rfl, rfl, rfl, (An rfl)⟩, Z⟩)) <| ?_
  ·rintro i hI1
   have hJ1 : i ≤ hs.length := hI1
   have hdl := desk_len (p := p) (k := k) (tg := tg) (ph := ph) (hs := hs) (D := D) i
   refine Sq <| Rq <| O (Lt (V rfl) (V rfl)) <| Nq <| Sq <| Cd (V rfl) (fun hc2 => ?_) (fun hc2 => ?_)
   ·have hc2s := hc2; try simp only [BL] at hc2s
    have hil : i < hs.length := by omega
    refine Sk <| Sq <| Bo <| Sq <| Rt <| U (IxN (i := i) (V rfl) (V rfl) ts45 te45 (by omega)) <| U (LdA (V rfl) Ga54 Sz54 (by decide)) <| Al 1 zero54 rfl rfl <| StA (V rfl) rfl (V rfl) Sz54 <| Nt <| Sq <| Sq <| Rq <| O (FlB _ _ (V rfl) Un54 rfl 0 Sz3) <| O (LdB (V rfl) rfl Ga3 (by decide)) <| O (Mv (V rfl)) <| O (Qn (V rfl) (V rfl)) <| O (Mv (V rfl)) <| Og (Gn rfl rfl) (fun hg => Mv (V rfl)) <| Og (Gn rfl rfl) (fun hg => LBA (V rfl) rfl Ga54 Sz54 (by decide)) <| tq_callVGg (args := [SV.agg 5 (heCell ⟨(hs.getD i default).pl, (hs.getD i default).down, (hs.getD i default).once, (hs.getD i default).stops, (hs.getD i default).id⟩)]) (caps := caps) (Gn rfl rfl) (fun hg => (fnval_A (Vg (V rfl) hg))) hro hE (fun hg => (by exact ⟨⟨(Vi (g' := heCell ⟨(hs.getD i default).pl, (hs.getD i default).down, (hs.getD i default).once, (hs.getD i default).stops, (hs.getD i default).id⟩) (Vg (V rfl) hg) ⟨⟨⟨⟨⟨Z, Ir⟩, Ir⟩, Ir⟩, Ir⟩, Ir⟩), rfl⟩, Z⟩)) (fun hg => hC (hs.getD i default)) <| Og (Gn rfl rfl) (fun hg => Qo (Vg (V rfl) hg)) <| O (Qr (V rfl) (fun h => Vg (V rfl) (notT h))) <| Nq <| Cd (V rfl) (fun hc3 => ?_) (fun hc3 => ?_)
    ·have hc3s := hc3; try simp only [BL] at hc3s
     have hno : ¬ ((hs.getD i default).pl = k ∧ p (hs.getD i default) = true) := fun q => by rw [decide_eq_true q.1, q.2] at hc3; cases hc3
     refine Ex <| Rq <| O (Ad (V rfl) K (by omega)) <| O (Mv (V rfl)) <| Nq <| k_ownE 60 (((hs.take ((i + 1))).foldl (deskS p k tg ph) D).calls) rfl (by first | exact congrArg (fun D : Desk => D.calls) (desk_no (p := p) (tg := tg) (ph := ph) (D := D) hil hno) | exact (congrArg (fun D : Desk => D.calls) (desk_no (p := p) (tg := tg) (ph := ph) (D := D) hil hno)).symm) <| k_mapE 61 (bmap (((hs.take ((i + 1))).foldl (deskS p k tg ph) D).heard)) rfl (by first | exact congrArg (fun D : Desk => bmap D.heard) (desk_no (p := p) (tg := tg) (ph := ph) (D := D) hil hno) | exact (congrArg (fun D : Desk => bmap D.heard) (desk_no (p := p) (tg := tg) (ph := ph) (D := D) hil hno)).symm) <| Nx (i + 1) (by show (i + 1) ≤ hs.length; first | omega | (simp; done) | (refine ⟨?_, ?_⟩ <;> first | omega | (simp; done))) (by show hs.length - (i + 1) < hs.length - i; omega) (We (ow := [(60, ownOf caCell 4 default (((hs.take ((i + 1))).foldl (deskS p k tg ph) D).calls) 51), (61, Own.amap (bmap (((hs.take ((i + 1))).foldl (deskS p k tg ph) D).heard))), (1000, Own.box 3 (cmpG [SV.own 60, SV.own 61, bv (((hs.take ((i + 1))).foldl (deskS p k tg ph) D).stop)]) 118)]) (Vs rfl) (by exact ⟨⟨_, rfl, rfl⟩, ⟨_, rfl, rfl⟩, ⟨_, rfl, ⟨rfl, rfl, ⟨⟨⟨Z, rfl⟩, rfl⟩, (congrArg (fun D : Desk => bv D.stop) (desk_no (p := p) (tg := tg) (ph := ph) (D := D) hil hno)).symm⟩⟩⟩, Z⟩))
    ·have hc3s := hc3; try simp only [BL] at hc3s
     have hyes : (hs.getD i default).pl = k ∧ p (hs.getD i default) = true := by simpa using hc3
     refine Sk <| Sq <| c_rd (fun e => ⟨[(34, cj (e 0) (SV.bp 1000 0)), (35, cj (e 1) (SV.bp 1000 0)), (36, cj (e 2) (SV.bp 1000 0)), (37, cj (e 3) (SV.bp 1000 0)), (38, cj (e 4) (cjn (e 12) (SV.own 60))), (39, cj (e 5) (SV.bp 1 4)), (40, cj (e 6) (iv ((hs.getD i default).id))), (41, cj (e 7) (iv (k))), (42, cj (e 8) (iv (tg))), (43, cj (e 9) (iv (ph))), (44, cj (e 10) (SV.agg 4 (caCell ⟨(hs.getD i default).id, k, tg, ph⟩))), (45, cj (e 11) (caRow ([⟨(hs.getD i default).id, k, tg, ph⟩]))), (46, cj (e 12) (SV.own 2)), (47, cj (e 13) (SV.bp 1000 0)), (48, cj (e 14) (SV.bp 1000 0)), (0, SV.bp 1000 0), (2, iv (k)), (3, iv (tg)), (4, iv (ph)), (5, fnA f caps), (13, SV.bp 1 0), (18, heRow hs), (19, iv ((hs.length : Int))), (20, iv ((i : Int)))], (cb (e 12) (cb (e 15) [(1, Own.box 5 (fun zi => (rowG heCell default hs) i (0 + zi)) 54), (61, Own.amap (bmap (((hs.take i).foldl (deskS p k tg ph) D).heard))), (1000, Own.box 3 (upd (fun zt => kill 60 ((cmpG [SV.own 60, SV.own 61, bv (((hs.take i).foldl (deskS p k tg ph) D).stop)]) zt)) 0 (SV.own 2)) 118), (2, ownOf caCell 4 default ((((hs.take i).foldl (deskS p k tg ph) D).calls) ++ ([⟨(hs.getD i default).id, k, tg, ph⟩])) 51)] [(1, Own.box 5 (fun zi => (rowG heCell default hs) i (0 + zi)) 54), (61, Own.amap (bmap (((hs.take i).foldl (deskS p k tg ph) D).heard))), (1000, Own.box 3 (fun zt => kill 60 ((cmpG [SV.own 60, SV.own 61, bv (((hs.take i).foldl (deskS p k tg ph) D).stop)]) zt)) 118), (2, ownOf caCell 4 default ((((hs.take i).foldl (deskS p k tg ph) D).calls) ++ ([⟨(hs.getD i default).id, k, tg, ph⟩])) 51)]) (cb (e 15) [] [(1, Own.box 5 (fun zi => (rowG heCell default hs) i (0 + zi)) 54), (60, ownOf caCell 4 default (((hs.take i).foldl (deskS p k tg ph) D).calls) 51), (61, Own.amap (bmap (((hs.take i).foldl (deskS p k tg ph) D).heard))), (1000, Own.box 3 (cmpG [SV.own 60, SV.own 61, bv (((hs.take i).foldl (deskS p k tg ph) D).stop)]) 118)]))⟩) ⟨[(34, SV.bp 1000 0), (35, SV.bp 1000 0), (36, SV.bp 1000 0), (37, SV.bp 1000 0), (39, SV.bp 1 4), (40, iv ((hs.getD i default).id)), (41, iv (k)), (42, iv (tg)), (43, iv (ph)), (44, SV.agg 4 (caCell ⟨(hs.getD i default).id, k, tg, ph⟩)), (45, caRow ([⟨(hs.getD i default).id, k, tg, ph⟩])), (46, SV.own 2), (47, SV.bp 1000 0), (48, SV.bp 1000 0), (0, SV.bp 1000 0), (2, iv (k)), (3, iv (tg)), (4, iv (ph)), (5, fnA f caps), (13, SV.bp 1 0), (18, heRow hs), (19, iv ((hs.length : Int))), (20, iv ((i : Int)))], [(1, Own.box 5 (fun zi => (rowG heCell default hs) i (0 + zi)) 54), (61, Own.amap (bmap (((hs.take i).foldl (deskS p k tg ph) D).heard))), (1000, Own.box 3 (upd (fun zt => kill 60 ((cmpG [SV.own 60, SV.own 61, bv (((hs.take i).foldl (deskS p k tg ph) D).stop)]) zt)) 0 (SV.own 2)) 118), (2, ownOf caCell 4 default ((((hs.take i).foldl (deskS p k tg ph) D).calls) ++ ([⟨(hs.getD i default).id, k, tg, ph⟩])) 51)]⟩ (by kernel_rfl) (by kernel_rfl) ?_ ⟨?_, ?_, ?_, ?_, ?_, ?_, ?_, ?_, ?_, ?_, ?_, ?_, ?_, ?_, ?_, ?_, Z⟩ ?_ ?_
     ·show Weak _ _ ⟨[(34, SV.junk), (35, SV.junk), (36, SV.junk), (37, SV.junk), (38, SV.junk), (39, SV.junk), (40, SV.junk), (41, SV.junk), (42, SV.junk), (43, SV.junk), (44, SV.junk), (45, SV.junk), (46, SV.junk), (47, SV.junk), (48, SV.junk), (0, SV.bp 1000 0), (2, iv (k)), (3, iv (tg)), (4, iv (ph)), (5, fnA f caps), (13, SV.bp 1 0), (18, heRow hs), (19, iv ((hs.length : Int))), (20, iv ((i : Int)))], [(1, Own.box 5 (fun zi => (rowG heCell default hs) i (0 + zi)) 54), (60, ownOf caCell 4 default (((hs.take i).foldl (deskS p k tg ph) D).calls) 51), (61, Own.amap (bmap (((hs.take i).foldl (deskS p k tg ph) D).heard))), (1000, Own.box 3 (cmpG [SV.own 60, SV.own 61, bv (((hs.take i).foldl (deskS p k tg ph) D).stop)]) 118)]⟩
      refine We ?_ ?_
      ·exact ⟨Vj, Vj, Vj, Vj, Vj, Vj, Vj, Vj, Vj, Vj, Vj, Vj, Vj, Vj, Vj, V rfl, V rfl, V rfl, V rfl, V rfl, V rfl, V rfl, V rfl, V rfl, Z⟩
      ·exact ⟨⟨_, rfl, ⟨rfl, rfl, (An rfl)⟩⟩, ⟨_, rfl, rfl⟩, ⟨_, rfl, rfl⟩, ⟨_, rfl, ⟨rfl, rfl, (An rfl)⟩⟩, Z⟩
     ·intro e hdn he hdp
      obtain ⟨-, -, h15, -⟩ := dns1 hdn he [13, 14, 15] (by kernel_rfl)
      simp only [setE, he, h15, cj_t, cj_f, cjn_t, cjn_f, cb_t, cb_f]
      exact U (Mv (V rfl)) <| Nt <| weakS ⟨V rfl, V rfl, V rfl, V rfl, V rfl, V rfl, V rfl, V rfl, V rfl, V rfl, V rfl, V rfl, V rfl, V rfl, V rfl, V rfl, V rfl, V rfl, V rfl, V rfl, V rfl, V rfl, V rfl, V rfl, Z⟩
     ·intro e hdn he hdp
      obtain ⟨-, -, -, h12, -, -, h15, -⟩ := dns1 hdn he [2, 3, 4, 12, 13, 14, 15] (by kernel_rfl)
      simp only [setE, he, h12, h15, cj_t, cj_f, cjn_t, cjn_f, cb_t, cb_f]
      refine U (Mv (V rfl)) <| Nt <| We ?_ ?_
      ·exact ⟨V rfl, V rfl, V rfl, V rfl, V rfl, V rfl, V rfl, V rfl, V rfl, V rfl, V rfl, V rfl, Vj, V rfl, V rfl, V rfl, V rfl, V rfl, V rfl, V rfl, V rfl, V rfl, V rfl, V rfl, Z⟩
      ·exact ⟨⟨_, rfl, ⟨rfl, rfl, (An rfl)⟩⟩, ⟨_, rfl, rfl⟩, ⟨_, rfl, rfl⟩, ⟨_, rfl, ⟨rfl, rfl, (An rfl)⟩⟩, Z⟩
     ·intro e hdn he hdp
      obtain ⟨h1, -⟩ := ups hdn [1] hdp (by kernel_rfl)
      obtain ⟨-, -, h12, -, -, h15, -⟩ := dns1 hdn he [3, 4, 12, 13, 14, 15] (by kernel_rfl)
      simp only [setE, h1, he, h12, h15, cj_t, cj_f, cjn_t, cjn_f, cb_t, cb_f]
      refine U (q_nilB (V rfl)) <| Nt <| We ?_ ?_
      ·exact ⟨V rfl, V rfl, V rfl, V rfl, V rfl, V rfl, V rfl, V rfl, V rfl, V rfl, V rfl, V rfl, Vj, V rfl, V rfl, V rfl, V rfl, V rfl, V rfl, V rfl, V rfl, V rfl, V rfl, V rfl, Z⟩
      ·exact ⟨⟨_, rfl, ⟨rfl, rfl, (An rfl)⟩⟩, ⟨_, rfl, rfl⟩, ⟨_, rfl, rfl⟩, ⟨_, rfl, ⟨rfl, rfl, (An rfl)⟩⟩, Z⟩
     ·intro e hdn he hdp
      obtain ⟨h2, h1, -⟩ := ups hdn [2, 1] hdp (by kernel_rfl)
      obtain ⟨-, h12, -, -, h15, -⟩ := dns1 hdn he [4, 12, 13, 14, 15] (by kernel_rfl)
      simp only [setE, h1, h2, he, h12, h15, cj_t, cj_f, cjn_t, cjn_f, cb_t, cb_f]
      refine U (FlB _ _ (V rfl) Un118 rfl 0 Sz46) <| Nt <| We ?_ ?_
      ·exact ⟨V rfl, V rfl, V rfl, V rfl, V rfl, V rfl, V rfl, V rfl, V rfl, V rfl, V rfl, V rfl, Vj, V rfl, V rfl, V rfl, V rfl, V rfl, V rfl, V rfl, V rfl, V rfl, V rfl, V rfl, Z⟩
      ·exact ⟨⟨_, rfl, ⟨rfl, rfl, (An rfl)⟩⟩, ⟨_, rfl, rfl⟩, ⟨_, rfl, rfl⟩, ⟨_, rfl, ⟨rfl, rfl, (An rfl)⟩⟩, Z⟩
     ·intro e hdn he hdp
      obtain ⟨h3, h2, h1, -⟩ := ups hdn [3, 2, 1] hdp (by kernel_rfl)
      obtain ⟨h12, -, -, h15, -⟩ := dns1 hdn he [12, 13, 14, 15] (by kernel_rfl)
      simp only [setE, h1, h2, h3, he, h12, h15, cj_t, cj_f, cjn_t, cjn_f, cb_t, cb_f]
      refine U (LdB (V rfl) rfl Ga46 (by decide)) <| Nt <| We ?_ ?_
      ·exact ⟨V rfl, V rfl, V rfl, V rfl, V rfl, V rfl, V rfl, V rfl, V rfl, V rfl, V rfl, V rfl, Vj, V rfl, V rfl, V rfl, V rfl, V rfl, V rfl, V rfl, V rfl, V rfl, V rfl, V rfl, Z⟩
      ·exact ⟨⟨_, rfl, ⟨rfl, rfl, (An rfl)⟩⟩, ⟨_, rfl, rfl⟩, ⟨_, rfl, rfl⟩, ⟨_, rfl, ⟨rfl, rfl, (An rfl)⟩⟩, Z⟩
     ·intro e hdn he hdp
      obtain ⟨-, -, -, h12, -, -, h15, -⟩ := dns1 hdn he [6, 10, 11, 12, 13, 14, 15] (by kernel_rfl)
      simp only [setE, he, h12, h15, cj_t, cj_f, cjn_t, cjn_f, cb_t, cb_f]
      refine U (FlB _ _ (V rfl) Un54 rfl 0 Sz3) <| Nt <| We ?_ ?_
      ·exact ⟨V rfl, V rfl, V rfl, V rfl, V rfl, V rfl, V rfl, V rfl, V rfl, V rfl, V rfl, V rfl, Vj, V rfl, V rfl, V rfl, V rfl, V rfl, V rfl, V rfl, V rfl, V rfl, V rfl, V rfl, Z⟩
      ·exact ⟨⟨_, rfl, ⟨rfl, rfl, (An rfl)⟩⟩, ⟨_, rfl, rfl⟩, ⟨_, rfl, rfl⟩, ⟨_, rfl, ⟨rfl, rfl, (An rfl)⟩⟩, Z⟩
     ·intro e hdn he hdp
      obtain ⟨h5, -⟩ := ups hdn [5] hdp (by kernel_rfl)
      obtain ⟨-, -, h12, -, -, h15, -⟩ := dns1 hdn he [10, 11, 12, 13, 14, 15] (by kernel_rfl)
      simp only [setE, h5, he, h12, h15, cj_t, cj_f, cjn_t, cjn_f, cb_t, cb_f]
      refine U (LdB (V rfl) rfl Ga3 (by decide)) <| Nt <| We ?_ ?_
      ·exact ⟨V rfl, V rfl, V rfl, V rfl, V rfl, V rfl, V rfl, V rfl, V rfl, V rfl, V rfl, V rfl, Vj, V rfl, V rfl, V rfl, V rfl, V rfl, V rfl, V rfl, V rfl, V rfl, V rfl, V rfl, Z⟩
      ·exact ⟨⟨_, rfl, ⟨rfl, rfl, (An rfl)⟩⟩, ⟨_, rfl, rfl⟩, ⟨_, rfl, rfl⟩, ⟨_, rfl, ⟨rfl, rfl, (An rfl)⟩⟩, Z⟩
     ·intro e hdn he hdp
      obtain ⟨-, -, h12, -, -, h15, -⟩ := dns1 hdn he [10, 11, 12, 13, 14, 15] (by kernel_rfl)
      simp only [setE, he, h12, h15, cj_t, cj_f, cjn_t, cjn_f, cb_t, cb_f]
      refine U (Mv (V rfl)) <| Nt <| We ?_ ?_
      ·exact ⟨V rfl, V rfl, V rfl, V rfl, V rfl, V rfl, V rfl, V rfl, V rfl, V rfl, V rfl, V rfl, Vj, V rfl, V rfl, V rfl, V rfl, V rfl, V rfl, V rfl, V rfl, V rfl, V rfl, V rfl, Z⟩
      ·exact ⟨⟨_, rfl, ⟨rfl, rfl, (An rfl)⟩⟩, ⟨_, rfl, rfl⟩, ⟨_, rfl, rfl⟩, ⟨_, rfl, ⟨rfl, rfl, (An rfl)⟩⟩, Z⟩
     ·intro e hdn he hdp
      obtain ⟨-, -, h12, -, -, h15, -⟩ := dns1 hdn he [10, 11, 12, 13, 14, 15] (by kernel_rfl)
      simp only [setE, he, h12, h15, cj_t, cj_f, cjn_t, cjn_f, cb_t, cb_f]
      refine U (Mv (V rfl)) <| Nt <| We ?_ ?_
      ·exact ⟨V rfl, V rfl, V rfl, V rfl, V rfl, V rfl, V rfl, V rfl, V rfl, V rfl, V rfl, V rfl, Vj, V rfl, V rfl, V rfl, V rfl, V rfl, V rfl, V rfl, V rfl, V rfl, V rfl, V rfl, Z⟩
      ·exact ⟨⟨_, rfl, ⟨rfl, rfl, (An rfl)⟩⟩, ⟨_, rfl, rfl⟩, ⟨_, rfl, rfl⟩, ⟨_, rfl, ⟨rfl, rfl, (An rfl)⟩⟩, Z⟩
     ·intro e hdn he hdp
      obtain ⟨-, -, h12, -, -, h15, -⟩ := dns1 hdn he [10, 11, 12, 13, 14, 15] (by kernel_rfl)
      simp only [setE, he, h12, h15, cj_t, cj_f, cjn_t, cjn_f, cb_t, cb_f]
      refine U (Mv (V rfl)) <| Nt <| We ?_ ?_
      ·exact ⟨V rfl, V rfl, V rfl, V rfl, V rfl, V rfl, V rfl, V rfl, V rfl, V rfl, V rfl, V rfl, Vj, V rfl, V rfl, V rfl, V rfl, V rfl, V rfl, V rfl, V rfl, V rfl, V rfl, V rfl, Z⟩
      ·exact ⟨⟨_, rfl, ⟨rfl, rfl, (An rfl)⟩⟩, ⟨_, rfl, rfl⟩, ⟨_, rfl, rfl⟩, ⟨_, rfl, ⟨rfl, rfl, (An rfl)⟩⟩, Z⟩
     ·intro e hdn he hdp
      obtain ⟨h9, h8, h7, h6, h5, -⟩ := ups hdn [9, 8, 7, 6, 5] hdp (by kernel_rfl)
      obtain ⟨-, h12, -, -, h15, -⟩ := dns1 hdn he [11, 12, 13, 14, 15] (by kernel_rfl)
      simp only [setE, h5, h6, h7, h8, h9, he, h12, h15, cj_t, cj_f, cjn_t, cjn_f, cb_t, cb_f]
      refine U (Bu [(0, iv ((hs.getD i default).id)), (1, iv (k)), (2, iv (tg)), (3, iv (ph))] id (caCell ⟨(hs.getD i default).id, k, tg, ph⟩) zero51 build51 (by exact ⟨⟨rfl, (V rfl), rfl⟩, ⟨rfl, (V rfl), rfl⟩, ⟨rfl, (V rfl), rfl⟩, ⟨rfl, (V rfl), rfl⟩, Z⟩) (by decide) ⟨⟨⟨⟨Z, rfl⟩, rfl⟩, rfl⟩, rfl⟩) <| Nt <| We ?_ ?_
      ·exact ⟨V rfl, V rfl, V rfl, V rfl, V rfl, V rfl, V rfl, V rfl, V rfl, V rfl, V rfl, V rfl, Vj, V rfl, V rfl, V rfl, V rfl, V rfl, V rfl, V rfl, V rfl, V rfl, V rfl, V rfl, Z⟩
      ·exact ⟨⟨_, rfl, ⟨rfl, rfl, (An rfl)⟩⟩, ⟨_, rfl, rfl⟩, ⟨_, rfl, rfl⟩, ⟨_, rfl, ⟨rfl, rfl, (An rfl)⟩⟩, Z⟩
     ·intro e hdn he hdp
      obtain ⟨h10, h9, h8, h7, h6, h5, -⟩ := ups hdn [10, 9, 8, 7, 6, 5] hdp (by kernel_rfl)
      obtain ⟨h12, -, -, h15, -⟩ := dns1 hdn he [12, 13, 14, 15] (by kernel_rfl)
      simp only [setE, h5, h6, h7, h8, h9, h10, he, h12, h15, cj_t, cj_f, cjn_t, cjn_f, cb_t, cb_f]
      refine Uw (w_bs (n := 1) (zget := cmpG [iv (0), iv (0), iv (0), iv (0)]) [(caCell ⟨(hs.getD i default).id, k, tg, ph⟩)] (rowG caCell default [⟨(hs.getD i default).id, k, tg, ph⟩]) Un46 Sz51 zero51 (by decide) rfl (by decide) ⟨⟨rfl, .inl (V rfl), rfl⟩, Z⟩ ⟨Z, ⟨⟨⟨⟨Z, rfl⟩, rfl⟩, rfl⟩, rfl⟩⟩) <| Nt <| We ?_ ?_
      ·exact ⟨V rfl, V rfl, V rfl, V rfl, V rfl, V rfl, V rfl, V rfl, V rfl, V rfl, V rfl, V rfl, Vj, V rfl, V rfl, V rfl, V rfl, V rfl, V rfl, V rfl, V rfl, V rfl, V rfl, V rfl, Z⟩
      ·exact ⟨⟨_, rfl, ⟨rfl, rfl, (An rfl)⟩⟩, ⟨_, rfl, rfl⟩, ⟨_, rfl, rfl⟩, ⟨_, rfl, ⟨rfl, rfl, (An rfl)⟩⟩, Z⟩
     ·intro e hdn he hdp
      obtain ⟨h11, h10, h9, h8, h7, h6, h5, h4, h3, h2, h1, -⟩ := ups hdn [11, 10, 9, 8, 7, 6, 5, 4, 3, 2, 1] hdp (by kernel_rfl)
      obtain ⟨h13, h14, h15, -⟩ := dns1 hdn he [13, 14, 15] (by kernel_rfl)
      simp only [setE, h1, h2, h3, h4, h5, h6, h7, h8, h9, h10, h11, he, h13, h14, h15, cj_t, cj_f, cjn_t, cjn_f, cb_t, cb_f]
      refine Ap 2 (rowG caCell default ((((hs.take i).foldl (deskS p k tg ph) D).calls) ++ ([⟨(hs.getD i default).id, k, tg, ph⟩]))) eo46 (V rfl) rfl (V rfl) (fresh_mk ⟨(noId_cj rfl), rfl, rfl, rfl, rfl, rfl, rfl, rfl, rfl, rfl, rfl, rfl, rfl, rfl, rfl, rfl, rfl, rfl, rfl, rfl, rfl, rfl, rfl, rfl, Z⟩ rfl rfl) (len_app (((hs.take i).foldl (deskS p k tg ph) D).calls) ([⟨(hs.getD i default).id, k, tg, ph⟩])) (by first | (simp only [maxLen, List.length_append, List.length_set, List.length_nil, List.length_cons]; omega) | (simp only [maxLen]; omega)) (by first | (simp only [List.length_append, List.length_set, List.length_nil, List.length_cons]; omega) | (omega)) (app_typed (l := (((hs.take i).foldl (deskS p k tg ph) D).calls)) (m := ([⟨(hs.getD i default).id, k, tg, ph⟩]))) <| Nt <| We ?_ ?_
      ·exact ⟨val_kc rfl (V rfl), V rfl, V rfl, V rfl, Vj, V rfl, V rfl, V rfl, V rfl, V rfl, V rfl, V rfl, V rfl, Vj, Vj, V rfl, V rfl, V rfl, V rfl, V rfl, V rfl, V rfl, V rfl, V rfl, Z⟩
      ·exact ⟨⟨_, rfl, ⟨rfl, rfl, (An rfl)⟩⟩, ⟨_, rfl, rfl⟩, ⟨_, rfl, ⟨rfl, rfl, (An rfl)⟩⟩, ⟨_, rfl, rfl⟩, Z⟩
     ·intro e hdn he hdp
      obtain ⟨h12, h11, h10, h9, h8, h7, h6, h5, h4, h3, h2, h1, h0, -⟩ := ups hdn [12, 11, 10, 9, 8, 7, 6, 5, 4, 3, 2, 1, 0] hdp (by kernel_rfl)
      obtain ⟨-, h15, -⟩ := dns1 hdn he [14, 15] (by kernel_rfl)
      simp only [setE, h0, h1, h2, h3, h4, h5, h6, h7, h8, h9, h10, h11, h12, he, h15, cj_t, cj_f, cjn_t, cjn_f, cb_t, cb_f]
      refine U (q_nilB (V rfl)) <| Nt <| We ?_ ?_
      ·exact ⟨V rfl, V rfl, V rfl, V rfl, Vj, V rfl, V rfl, V rfl, V rfl, V rfl, V rfl, V rfl, V rfl, V rfl, V rfl, V rfl, V rfl, V rfl, V rfl, V rfl, V rfl, V rfl, V rfl, V rfl, Z⟩
      ·exact ⟨⟨_, rfl, ⟨rfl, rfl, (An rfl)⟩⟩, ⟨_, rfl, rfl⟩, ⟨_, rfl, ⟨rfl, rfl, (An rfl)⟩⟩, ⟨_, rfl, rfl⟩, Z⟩
     ·intro e hdn he hdp
      obtain ⟨h13, h12, h11, h10, h9, h8, h7, h6, h5, h4, h3, h2, h1, h0, -⟩ := ups hdn [13, 12, 11, 10, 9, 8, 7, 6, 5, 4, 3, 2, 1, 0] hdp (by kernel_rfl)
      obtain ⟨h15, -⟩ := dns1 hdn he [15] (by kernel_rfl)
      simp only [setE, h0, h1, h2, h3, h4, h5, h6, h7, h8, h9, h10, h11, h12, h13, he, h15, cj_t, cj_f, cjn_t, cjn_f, cb_t, cb_f]
      refine U (FlB _ _ (V rfl) Un118 rfl 0 Sz46) <| Nt <| We ?_ ?_
      ·exact ⟨V rfl, V rfl, V rfl, V rfl, Vj, V rfl, V rfl, V rfl, V rfl, V rfl, V rfl, V rfl, V rfl, V rfl, V rfl, V rfl, V rfl, V rfl, V rfl, V rfl, V rfl, V rfl, V rfl, V rfl, Z⟩
      ·exact ⟨⟨_, rfl, ⟨rfl, rfl, (An rfl)⟩⟩, ⟨_, rfl, rfl⟩, ⟨_, rfl, ⟨rfl, rfl, (An rfl)⟩⟩, ⟨_, rfl, rfl⟩, Z⟩
     ·intro e hdn he hdp
      obtain ⟨h14, h13, h12, h11, h10, h9, h8, h7, h6, h5, h4, h3, h2, h1, h0, -⟩ := ups hdn [14, 13, 12, 11, 10, 9, 8, 7, 6, 5, 4, 3, 2, 1, 0] hdp (by kernel_rfl)
      simp only [setE, h0, h1, h2, h3, h4, h5, h6, h7, h8, h9, h10, h11, h12, h13, h14, he, cj_t, cj_f, cjn_t, cjn_f, cb_t, cb_f]
      refine t_st1V (V rfl) rfl (V rfl) (one_own rfl) Sz46 (by decide) <| Nt <| We ?_ ?_
      ·exact ⟨V rfl, V rfl, V rfl, V rfl, Vj, V rfl, V rfl, V rfl, V rfl, V rfl, V rfl, V rfl, V rfl, V rfl, V rfl, V rfl, V rfl, V rfl, V rfl, V rfl, V rfl, V rfl, V rfl, V rfl, Z⟩
      ·exact ⟨⟨_, rfl, ⟨rfl, rfl, (An rfl)⟩⟩, ⟨_, rfl, rfl⟩, ⟨_, rfl, ⟨rfl, rfl, (An rfl)⟩⟩, ⟨_, rfl, rfl⟩, Z⟩
     ·intro e he
      have h0 := he 0 (by decide)
      have h1 := he 1 (by decide)
      have h2 := he 2 (by decide)
      have h3 := he 3 (by decide)
      have h4 := he 4 (by decide)
      have h5 := he 5 (by decide)
      have h6 := he 6 (by decide)
      have h7 := he 7 (by decide)
      have h8 := he 8 (by decide)
      have h9 := he 9 (by decide)
      have h10 := he 10 (by decide)
      have h11 := he 11 (by decide)
      have h12 := he 12 (by decide)
      have h13 := he 13 (by decide)
      have h14 := he 14 (by decide)
      have h15 := he 15 (by decide)
      show Weak _ ⟨[(34, cj (e 0) (SV.bp 1000 0)), (35, cj (e 1) (SV.bp 1000 0)), (36, cj (e 2) (SV.bp 1000 0)), (37, cj (e 3) (SV.bp 1000 0)), (38, cj (e 4) (cjn (e 12) (SV.own 60))), (39, cj (e 5) (SV.bp 1 4)), (40, cj (e 6) (iv ((hs.getD i default).id))), (41, cj (e 7) (iv (k))), (42, cj (e 8) (iv (tg))), (43, cj (e 9) (iv (ph))), (44, cj (e 10) (SV.agg 4 (caCell ⟨(hs.getD i default).id, k, tg, ph⟩))), (45, cj (e 11) (caRow ([⟨(hs.getD i default).id, k, tg, ph⟩]))), (46, cj (e 12) (SV.own 2)), (47, cj (e 13) (SV.bp 1000 0)), (48, cj (e 14) (SV.bp 1000 0)), (0, SV.bp 1000 0), (2, iv (k)), (3, iv (tg)), (4, iv (ph)), (5, fnA f caps), (13, SV.bp 1 0), (18, heRow hs), (19, iv ((hs.length : Int))), (20, iv ((i : Int)))], (cb (e 12) (cb (e 15) [(1, Own.box 5 (fun zi => (rowG heCell default hs) i (0 + zi)) 54), (61, Own.amap (bmap (((hs.take i).foldl (deskS p k tg ph) D).heard))), (1000, Own.box 3 (upd (fun zt => kill 60 ((cmpG [SV.own 60, SV.own 61, bv (((hs.take i).foldl (deskS p k tg ph) D).stop)]) zt)) 0 (SV.own 2)) 118), (2, ownOf caCell 4 default ((((hs.take i).foldl (deskS p k tg ph) D).calls) ++ ([⟨(hs.getD i default).id, k, tg, ph⟩])) 51)] [(1, Own.box 5 (fun zi => (rowG heCell default hs) i (0 + zi)) 54), (61, Own.amap (bmap (((hs.take i).foldl (deskS p k tg ph) D).heard))), (1000, Own.box 3 (fun zt => kill 60 ((cmpG [SV.own 60, SV.own 61, bv (((hs.take i).foldl (deskS p k tg ph) D).stop)]) zt)) 118), (2, ownOf caCell 4 default ((((hs.take i).foldl (deskS p k tg ph) D).calls) ++ ([⟨(hs.getD i default).id, k, tg, ph⟩])) 51)]) (cb (e 15) [] [(1, Own.box 5 (fun zi => (rowG heCell default hs) i (0 + zi)) 54), (60, ownOf caCell 4 default (((hs.take i).foldl (deskS p k tg ph) D).calls) 51), (61, Own.amap (bmap (((hs.take i).foldl (deskS p k tg ph) D).heard))), (1000, Own.box 3 (cmpG [SV.own 60, SV.own 61, bv (((hs.take i).foldl (deskS p k tg ph) D).stop)]) 118)]))⟩ _
      simp only [h0, h1, h2, h3, h4, h5, h6, h7, h8, h9, h10, h11, h12, h13, h14, h15]
      show Weak _ ⟨[(34, SV.bp 1000 0), (35, SV.bp 1000 0), (36, SV.bp 1000 0), (37, SV.bp 1000 0), (38, SV.junk), (39, SV.bp 1 4), (40, iv ((hs.getD i default).id)), (41, iv (k)), (42, iv (tg)), (43, iv (ph)), (44, SV.agg 4 (caCell ⟨(hs.getD i default).id, k, tg, ph⟩)), (45, caRow ([⟨(hs.getD i default).id, k, tg, ph⟩])), (46, SV.own 2), (47, SV.bp 1000 0), (48, SV.bp 1000 0), (0, SV.bp 1000 0), (2, iv (k)), (3, iv (tg)), (4, iv (ph)), (5, fnA f caps), (13, SV.bp 1 0), (18, heRow hs), (19, iv ((hs.length : Int))), (20, iv ((i : Int)))], [(1, Own.box 5 (fun zi => (rowG heCell default hs) i (0 + zi)) 54), (61, Own.amap (bmap (((hs.take i).foldl (deskS p k tg ph) D).heard))), (1000, Own.box 3 (upd (fun zt => kill 60 ((cmpG [SV.own 60, SV.own 61, bv (((hs.take i).foldl (deskS p k tg ph) D).stop)]) zt)) 0 (SV.own 2)) 118), (2, ownOf caCell 4 default ((((hs.take i).foldl (deskS p k tg ph) D).calls) ++ ([⟨(hs.getD i default).id, k, tg, ph⟩])) 51)]⟩ _
      refine We ?_ ?_
      ·exact ⟨V rfl, V rfl, V rfl, V rfl, V rfl, V rfl, V rfl, V rfl, V rfl, Va (V rfl) (An rfl), V rfl, V rfl, V rfl, V rfl, V rfl, V rfl, V rfl, V rfl, V rfl, V rfl, V rfl, V rfl, V rfl, Z⟩
      ·exact ⟨⟨_, rfl, ⟨rfl, rfl, (An rfl)⟩⟩, ⟨_, rfl, rfl⟩, ⟨_, rfl, ⟨rfl, rfl, (An rfl)⟩⟩, ⟨_, rfl, rfl⟩, Z⟩
     refine Sq <| c_rd (fun e => ⟨[(49, cj (e 0) (SV.bp 1000 0)), (50, cj (e 1) (SV.bp 1000 0)), (51, cj (e 2) (SV.bp 1000 1)), (52, cj (e 3) (SV.own 61)), (53, cj (e 4) (SV.bp 1 4)), (54, cj (e 5) (iv ((hs.getD i default).id))), (0, SV.bp 1000 0), (2, iv (k)), (3, iv (tg)), (4, iv (ph)), (5, fnA f caps), (13, SV.bp 1 0), (18, heRow hs), (19, iv ((hs.length : Int))), (20, iv ((i : Int)))], (cb (e 6) [(1, Own.box 5 (fun zi => (rowG heCell default hs) i (0 + zi)) 54), (2, ownOf caCell 4 default ((((hs.take i).foldl (deskS p k tg ph) D).calls) ++ ([⟨(hs.getD i default).id, k, tg, ph⟩])) 51), (61, Own.amap (bmap (kput (((hs.take i).foldl (deskS p k tg ph) D).heard) ((hs.getD i default).id) true))), (1000, Own.box 3 (upd (fun zt => kill 60 ((cmpG [SV.own 60, SV.own 61, bv (((hs.take i).foldl (deskS p k tg ph) D).stop)]) zt)) 0 (SV.own 2)) 118)] [(1, Own.box 5 (fun zi => (rowG heCell default hs) i (0 + zi)) 54), (2, ownOf caCell 4 default ((((hs.take i).foldl (deskS p k tg ph) D).calls) ++ ([⟨(hs.getD i default).id, k, tg, ph⟩])) 51), (61, Own.amap (bmap (((hs.take i).foldl (deskS p k tg ph) D).heard))), (1000, Own.box 3 (upd (fun zt => kill 60 ((cmpG [SV.own 60, SV.own 61, bv (((hs.take i).foldl (deskS p k tg ph) D).stop)]) zt)) 0 (SV.own 2)) 118)])⟩) ⟨[(49, SV.bp 1000 0), (50, SV.bp 1000 0), (51, SV.bp 1000 1), (52, SV.own 61), (53, SV.bp 1 4), (54, iv ((hs.getD i default).id)), (0, SV.bp 1000 0), (2, iv (k)), (3, iv (tg)), (4, iv (ph)), (5, fnA f caps), (13, SV.bp 1 0), (18, heRow hs), (19, iv ((hs.length : Int))), (20, iv ((i : Int)))], [(1, Own.box 5 (fun zi => (rowG heCell default hs) i (0 + zi)) 54), (2, ownOf caCell 4 default ((((hs.take i).foldl (deskS p k tg ph) D).calls) ++ ([⟨(hs.getD i default).id, k, tg, ph⟩])) 51), (61, Own.amap (bmap (kput (((hs.take i).foldl (deskS p k tg ph) D).heard) ((hs.getD i default).id) true))), (1000, Own.box 3 (upd (fun zt => kill 60 ((cmpG [SV.own 60, SV.own 61, bv (((hs.take i).foldl (deskS p k tg ph) D).stop)]) zt)) 0 (SV.own 2)) 118)]⟩ (by kernel_rfl) (by kernel_rfl) ?_ ⟨?_, ?_, ?_, ?_, ?_, ?_, ?_, Z⟩ ?_ ?_
     ·show Weak _ _ ⟨[(49, SV.junk), (50, SV.junk), (51, SV.junk), (52, SV.junk), (53, SV.junk), (54, SV.junk), (0, SV.bp 1000 0), (2, iv (k)), (3, iv (tg)), (4, iv (ph)), (5, fnA f caps), (13, SV.bp 1 0), (18, heRow hs), (19, iv ((hs.length : Int))), (20, iv ((i : Int)))], [(1, Own.box 5 (fun zi => (rowG heCell default hs) i (0 + zi)) 54), (2, ownOf caCell 4 default ((((hs.take i).foldl (deskS p k tg ph) D).calls) ++ ([⟨(hs.getD i default).id, k, tg, ph⟩])) 51), (61, Own.amap (bmap (((hs.take i).foldl (deskS p k tg ph) D).heard))), (1000, Own.box 3 (upd (fun zt => kill 60 ((cmpG [SV.own 60, SV.own 61, bv (((hs.take i).foldl (deskS p k tg ph) D).stop)]) zt)) 0 (SV.own 2)) 118)]⟩
      refine We ?_ ?_
      ·exact ⟨Vj, Vj, Vj, Vj, Vj, Vj, V rfl, V rfl, V rfl, V rfl, V rfl, V rfl, V rfl, V rfl, V rfl, Z⟩
      ·exact ⟨⟨_, rfl, ⟨rfl, rfl, (An rfl)⟩⟩, ⟨_, rfl, rfl⟩, ⟨_, rfl, rfl⟩, ⟨_, rfl, ⟨rfl, rfl, (An rfl)⟩⟩, Z⟩
     ·intro e hdn he hdp
      obtain ⟨-, -, -, h6, -⟩ := dns1 hdn he [1, 2, 3, 6] (by kernel_rfl)
      simp only [setE, he, h6, cj_t, cj_f, cjn_t, cjn_f, cb_t, cb_f]
      refine U (Mv (V rfl)) <| Nt <| We ?_ ?_
      ·exact (Vs rfl)
      ·exact ⟨⟨_, rfl, ⟨rfl, rfl, (An rfl)⟩⟩, ⟨_, rfl, rfl⟩, ⟨_, rfl, rfl⟩, ⟨_, rfl, ⟨rfl, rfl, (An rfl)⟩⟩, Z⟩
     ·intro e hdn he hdp
      obtain ⟨h0, -⟩ := ups hdn [0] hdp (by kernel_rfl)
      obtain ⟨-, -, h6, -⟩ := dns1 hdn he [2, 3, 6] (by kernel_rfl)
      simp only [setE, h0, he, h6, cj_t, cj_f, cjn_t, cjn_f, cb_t, cb_f]
      refine U (q_nilB (V rfl)) <| Nt <| We ?_ ?_
      ·exact (Vs rfl)
      ·exact ⟨⟨_, rfl, ⟨rfl, rfl, (An rfl)⟩⟩, ⟨_, rfl, rfl⟩, ⟨_, rfl, rfl⟩, ⟨_, rfl, ⟨rfl, rfl, (An rfl)⟩⟩, Z⟩
     ·intro e hdn he hdp
      obtain ⟨h1, h0, -⟩ := ups hdn [1, 0] hdp (by kernel_rfl)
      obtain ⟨-, h6, -⟩ := dns1 hdn he [3, 6] (by kernel_rfl)
      simp only [setE, h0, h1, he, h6, cj_t, cj_f, cjn_t, cjn_f, cb_t, cb_f]
      refine U (FlB _ _ (V rfl) Un118 rfl 0 Sz49) <| Nt <| We ?_ ?_
      ·exact (Vs rfl)
      ·exact ⟨⟨_, rfl, ⟨rfl, rfl, (An rfl)⟩⟩, ⟨_, rfl, rfl⟩, ⟨_, rfl, rfl⟩, ⟨_, rfl, ⟨rfl, rfl, (An rfl)⟩⟩, Z⟩
     ·intro e hdn he hdp
      obtain ⟨h2, h1, h0, -⟩ := ups hdn [2, 1, 0] hdp (by kernel_rfl)
      obtain ⟨h6, -⟩ := dns1 hdn he [6] (by kernel_rfl)
      simp only [setE, h0, h1, h2, he, h6, cj_t, cj_f, cjn_t, cjn_f, cb_t, cb_f]
      refine U (LdB (V rfl) rfl Ga49 (by decide)) <| Nt <| We ?_ ?_
      ·exact (Vs rfl)
      ·exact ⟨⟨_, rfl, ⟨rfl, rfl, (An rfl)⟩⟩, ⟨_, rfl, rfl⟩, ⟨_, rfl, rfl⟩, ⟨_, rfl, ⟨rfl, rfl, (An rfl)⟩⟩, Z⟩
     ·intro e hdn he hdp
      obtain ⟨-, h6, -⟩ := dns1 hdn he [5, 6] (by kernel_rfl)
      simp only [setE, he, h6, cj_t, cj_f, cjn_t, cjn_f, cb_t, cb_f]
      refine U (FlB _ _ (V rfl) Un54 rfl 0 Sz3) <| Nt <| We ?_ ?_
      ·exact (Vs rfl)
      ·exact ⟨⟨_, rfl, ⟨rfl, rfl, (An rfl)⟩⟩, ⟨_, rfl, rfl⟩, ⟨_, rfl, rfl⟩, ⟨_, rfl, ⟨rfl, rfl, (An rfl)⟩⟩, Z⟩
     ·intro e hdn he hdp
      obtain ⟨h4, -⟩ := ups hdn [4] hdp (by kernel_rfl)
      obtain ⟨h6, -⟩ := dns1 hdn he [6] (by kernel_rfl)
      simp only [setE, h4, he, h6, cj_t, cj_f, cjn_t, cjn_f, cb_t, cb_f]
      refine U (LdB (V rfl) rfl Ga3 (by decide)) <| Nt <| We ?_ ?_
      ·exact (Vs rfl)
      ·exact ⟨⟨_, rfl, ⟨rfl, rfl, (An rfl)⟩⟩, ⟨_, rfl, rfl⟩, ⟨_, rfl, rfl⟩, ⟨_, rfl, ⟨rfl, rfl, (An rfl)⟩⟩, Z⟩
     ·intro e hdn he hdp
      obtain ⟨h5, h4, h3, h2, h1, h0, -⟩ := ups hdn [5, 4, 3, 2, 1, 0] hdp (by kernel_rfl)
      simp only [setE, h0, h1, h2, h3, h4, h5, he, cj_t, cj_f, cjn_t, cjn_f, cb_t, cb_f]
      refine t_putB (l := ((hs.take i).foldl (deskS p k tg ph) D).heard) (.inr rfl) Un49 Un3 (V rfl) rfl (V rfl) K <| Nt <| We ?_ ?_
      ·exact (Vs rfl)
      ·exact ⟨⟨_, rfl, ⟨rfl, rfl, (An rfl)⟩⟩, ⟨_, rfl, rfl⟩, ⟨_, rfl, rfl⟩, ⟨_, rfl, ⟨rfl, rfl, (An rfl)⟩⟩, Z⟩
     ·intro e he
      have h0 := he 0 (by decide)
      have h1 := he 1 (by decide)
      have h2 := he 2 (by decide)
      have h3 := he 3 (by decide)
      have h4 := he 4 (by decide)
      have h5 := he 5 (by decide)
      have h6 := he 6 (by decide)
      show Weak _ ⟨[(49, cj (e 0) (SV.bp 1000 0)), (50, cj (e 1) (SV.bp 1000 0)), (51, cj (e 2) (SV.bp 1000 1)), (52, cj (e 3) (SV.own 61)), (53, cj (e 4) (SV.bp 1 4)), (54, cj (e 5) (iv ((hs.getD i default).id))), (0, SV.bp 1000 0), (2, iv (k)), (3, iv (tg)), (4, iv (ph)), (5, fnA f caps), (13, SV.bp 1 0), (18, heRow hs), (19, iv ((hs.length : Int))), (20, iv ((i : Int)))], (cb (e 6) [(1, Own.box 5 (fun zi => (rowG heCell default hs) i (0 + zi)) 54), (2, ownOf caCell 4 default ((((hs.take i).foldl (deskS p k tg ph) D).calls) ++ ([⟨(hs.getD i default).id, k, tg, ph⟩])) 51), (61, Own.amap (bmap (kput (((hs.take i).foldl (deskS p k tg ph) D).heard) ((hs.getD i default).id) true))), (1000, Own.box 3 (upd (fun zt => kill 60 ((cmpG [SV.own 60, SV.own 61, bv (((hs.take i).foldl (deskS p k tg ph) D).stop)]) zt)) 0 (SV.own 2)) 118)] [(1, Own.box 5 (fun zi => (rowG heCell default hs) i (0 + zi)) 54), (2, ownOf caCell 4 default ((((hs.take i).foldl (deskS p k tg ph) D).calls) ++ ([⟨(hs.getD i default).id, k, tg, ph⟩])) 51), (61, Own.amap (bmap (((hs.take i).foldl (deskS p k tg ph) D).heard))), (1000, Own.box 3 (upd (fun zt => kill 60 ((cmpG [SV.own 60, SV.own 61, bv (((hs.take i).foldl (deskS p k tg ph) D).stop)]) zt)) 0 (SV.own 2)) 118)])⟩ _
      simp only [h0, h1, h2, h3, h4, h5, h6]
      show Weak _ ⟨[(49, SV.bp 1000 0), (50, SV.bp 1000 0), (51, SV.bp 1000 1), (52, SV.own 61), (53, SV.bp 1 4), (54, iv ((hs.getD i default).id)), (0, SV.bp 1000 0), (2, iv (k)), (3, iv (tg)), (4, iv (ph)), (5, fnA f caps), (13, SV.bp 1 0), (18, heRow hs), (19, iv ((hs.length : Int))), (20, iv ((i : Int)))], [(1, Own.box 5 (fun zi => (rowG heCell default hs) i (0 + zi)) 54), (2, ownOf caCell 4 default ((((hs.take i).foldl (deskS p k tg ph) D).calls) ++ ([⟨(hs.getD i default).id, k, tg, ph⟩])) 51), (61, Own.amap (bmap (kput (((hs.take i).foldl (deskS p k tg ph) D).heard) ((hs.getD i default).id) true))), (1000, Own.box 3 (upd (fun zt => kill 60 ((cmpG [SV.own 60, SV.own 61, bv (((hs.take i).foldl (deskS p k tg ph) D).stop)]) zt)) 0 (SV.own 2)) 118)]⟩ _
      refine We ?_ ?_
      ·exact ⟨V rfl, V rfl, V rfl, V rfl, V rfl, V rfl, V rfl, V rfl, V rfl, V rfl, V rfl, V rfl, V rfl, V rfl, V rfl, Z⟩
      ·exact ⟨⟨_, rfl, ⟨rfl, rfl, (An rfl)⟩⟩, ⟨_, rfl, rfl⟩, ⟨_, rfl, rfl⟩, ⟨_, rfl, ⟨rfl, rfl, (An rfl)⟩⟩, Z⟩
     refine Rt <| U (Mv (V rfl)) <| U (Mv (V rfl)) <| U (q_nilB (V rfl)) <| U (FlB _ _ (V rfl) Un118 rfl 0 Sz4) <| U (LdB (V rfl) rfl Ga4 (by decide)) <| U (Mv (V rfl)) <| Ug (Gn rfl rfl) (fun hg => FlB _ _ (V rfl) Un54 rfl 0 Sz4) <| Ug (Gn rfl rfl) (fun hg => LdB (Vg (V rfl) hg) rfl Ga4 (by decide)) <| U (Qr (V rfl) (fun h => Vg (V rfl) (notT h))) <| U (q_nilB (V rfl)) <| U (FlB _ _ (V rfl) Un118 rfl 0 Sz4) <| St1 (V rfl) rfl (V rfl) rfl Sz4 (by decide) <| Nt <| Rq <| O (Ad (V rfl) K (by omega)) <| O (Mv (V rfl)) <| Nq <| k_mv 2 60 rfl rfl <| k_ownE 60 (((hs.take ((i + 1))).foldl (deskS p k tg ph) D).calls) rfl (by first | exact congrArg (fun D : Desk => D.calls) (desk_yes (p := p) (tg := tg) (ph := ph) (D := D) hil hyes) | exact (congrArg (fun D : Desk => D.calls) (desk_yes (p := p) (tg := tg) (ph := ph) (D := D) hil hyes)).symm) <| k_mapE 61 (bmap (((hs.take ((i + 1))).foldl (deskS p k tg ph) D).heard)) rfl (by first | exact congrArg (fun D : Desk => bmap D.heard) (desk_yes (p := p) (tg := tg) (ph := ph) (D := D) hil hyes) | exact (congrArg (fun D : Desk => bmap D.heard) (desk_yes (p := p) (tg := tg) (ph := ph) (D := D) hil hyes)).symm) <| Nx (i + 1) (by show (i + 1) ≤ hs.length; first | omega | (simp; done) | (refine ⟨?_, ?_⟩ <;> first | omega | (simp; done))) (by show hs.length - (i + 1) < hs.length - i; omega) (We (ow := [(60, ownOf caCell 4 default (((hs.take ((i + 1))).foldl (deskS p k tg ph) D).calls) 51), (61, Own.amap (bmap (((hs.take ((i + 1))).foldl (deskS p k tg ph) D).heard))), (1000, Own.box 3 (cmpG [SV.own 60, SV.own 61, bv (((hs.take ((i + 1))).foldl (deskS p k tg ph) D).stop)]) 118)]) (Vs rfl) (by exact ⟨⟨_, rfl, rfl⟩, ⟨_, rfl, rfl⟩, ⟨_, rfl, ⟨rfl, rfl, ⟨⟨⟨Z, rfl⟩, rfl⟩, (congrArg (fun D : Desk => bv D.stop) (desk_yes (p := p) (tg := tg) (ph := ph) (D := D) hil hyes)).symm⟩⟩⟩, Z⟩))
   ·have hc2s := hc2; try simp only [BL] at hc2s
    exact Ex <| k_mv 60 0 rfl rfl <| k_mv 61 1 rfl rfl <| k_ownE 0 ((atD p k tg ph hs D).calls) rfl (by rw [atD_2 hc1, List.take_of_length_le (by omega)]) <| k_mapE 1 (bmap ((atD p k tg ph hs D).heard)) rfl (by rw [atD_2 hc1, List.take_of_length_le (by omega)]) <| endM0 rfl (by exact ⟨⟨_, rfl, ⟨rfl, rfl, ⟨⟨⟨Z, rfl⟩, rfl⟩, (congrArg (fun D : Desk => bv D.stop) (by rw [atD_2 hc1, List.take_of_length_le (by omega)]))⟩⟩⟩, ⟨_, rfl, rfl⟩, ⟨_, rfl, rfl⟩, Z⟩) rfl
theorem cloneH_ct (l : List He) (hl : l.length ≤ 5864062014634) : CtM Try.prog 87 [heRow l] [] (SV.own 0) [(0, ownOf heCell 5 default l 54)] := by
 refine CmO 8 Try.func87 rfl rfl rfl fun E => Rl (V (s := 0) rfl) fun hl0 => Sq <| Rt <| t_nilO 1 5 (rowG heCell default []) 54 (.inl rfl) rfl <| Nt <| Sq <| Sq <| Rq <| O (Mv (V rfl)) <| tq_isnil (V rfl) (eqnil Un45) fun isn hisn => Nq <| Cd (V rfl) (fun hc1 => ?_) (fun hc1 => ?_)
 ·have hc1s := hc1; try simp only [BL] at hc1s
  exact Sq <| Rt <| t_nilO 2 5 (rowG heCell default []) 54 (.inl rfl) rfl <| Nt <| c_mv 2 0 rfl rfl <| c_ownE 0 l rfl (by exact (List.eq_nil_of_length_eq_zero (hisn hc1)).symm) <| Rx <| M1 rfl (V rfl) (by exact ⟨⟨_, rfl, rfl⟩, Z⟩) (by show SV.own 0 = SV.own 0; rfl)
 ·have hc1s := hc1; try simp only [BL] at hc1s
  exact Sk <| Sq <| Rt <| t_bs0 3 (rowG heCell default []) Un45 Sz54 rfl <| U (Mv (V rfl)) <| Ap 4 (rowG heCell default (([]) ++ l)) eo45 (V rfl) rfl (V rfl) rfl (len_app ([]) l) (by first | (simp only [maxLen, List.length_append, List.length_set, List.length_nil, List.length_cons]; omega) | (simp only [maxLen]; omega)) (by first | (simp only [List.length_append, List.length_set, List.length_nil, List.length_cons]; omega) | (omega)) (app_typed (l := ([])) (m := l)) <| U (As (V rfl)) <| Nt <| c_mv 4 0 rfl rfl <| c_ownE 0 l rfl (by rfl) <| Rx <| M1 rfl (V rfl) (by exact ⟨⟨_, rfl, rfl⟩, Z⟩) (by show SV.own 0 = SV.own 0; rfl)
theorem del108_ct {f : FuncId} {caps : List SV} (p : He → Bool) (hE : Enters Try.prog f) (hro : allRO caps = true) (hC : ∀ x, Ct Try.prog f ([.agg 5 (heCell x)] ++ caps) (bv (p x))) (l : List He) (hl : l.length ≤ 1000000000) : CtM Try.prog 108 [SV.own 1000, fnA f caps] [(1000, ownOf heCell 5 default l 54)] (SV.own 0) [(0, ownOf heCell 5 default (l.filter fun x => !p x) 54)] := by
 refine CmO 42 Try.func108 rfl rfl rfl fun E => Sq <| Rq <| O (As (Vn (k := 5) (get := rowG heCell default []))) <| Nq <| Sq <| Rq <| O (Mv (V rfl)) <| O (Mv (V rfl)) <| CQb en34 (by exact ⟨(vb_own (V rfl) rfl), (vb_ro (V rfl) rfl), Z⟩) (idxf34_ct p hE hro hC l) <| O (As (V rfl)) <| Nq <| Sq <| Sq <| Rq <| O (Mv (V rfl)) <| O (Ql (V rfl) K) <| Nq <| Cd (V rfl) (fun hc1 => ?_) (fun hc1 => ?_)
 ·have hc1s := hc1; try simp only [BL] at hc1s
  exact Sq <| Rq <| O (Mv (V rfl)) <| O (As (V rfl)) <| Nq <| c_mv 1000 0 rfl rfl <| c_ownE 0 (l.filter fun x => !p x) rfl (by exact del_none hc1s default) <| Rx <| M1 rfl (V rfl) (by exact ⟨⟨_, rfl, rfl⟩, Z⟩) (by show SV.own 0 = SV.own 0; rfl)
 ·have hc1s := hc1; try simp only [BL] at hc1s
  obtain ⟨i0, he0, hi0, hp0, hall0⟩ := (idxF_cases p default l).resolve_left fun h => hc1s h.1
  refine Sk <| Sq <| Sq <| Rq <| O (Mv (V rfl)) <| O (Ad (V rfl) K (by first | omega | (rw [he0]; omega))) <| O (As (V rfl)) <| Nq <| Bo <| c_ownE 1000 (delA p l ((i0 + 1))) rfl (by exact delA_0 default hi0 hp0 hall0) <| Lo (fun (j : Nat) => ⟨[(0, SV.own 1000), (1, fnA f caps), (5, iv (((keptL p l j).length : Int))), (6, iv ((j : Int)))], [(1000, ownOf heCell 5 default (delA p l j) 54)]⟩) (fun (j : Nat) => j ≤ l.length) (fun (j : Nat) => l.length - j) (i0 + 1) (by show (i0 + 1) ≤ l.length; show i0 + 1 ≤ l.length; omega) (We (sl := [(0, SV.own 1000), (1, fnA f caps), (5, iv (((keptL p l ((i0 + 1))).length : Int))), (6, iv (((i0 + 1) : Int)))]) (by exact ⟨V rfl, V rfl, val_eq (V rfl) (congrArg iv (he0.trans (by rw [kept_0 default hi0 hp0 hall0, List.length_take, Nat.min_eq_left (Nat.le_of_lt hi0)]))), val_eq (V rfl) (congrArg iv (by rw [he0])), Z⟩) (AOs rfl)) <| ?_
  ·rintro j hI1
   have hJ1 : j ≤ l.length := hI1
   have hjl := hJ1
   have hdl := delA_len p l j
   have hkl := kept_le p l j
   refine Sq <| Sq <| Rq <| O (Mv (V rfl)) <| O (Mv (V rfl)) <| O (LnO (V rfl) rfl ts45) <| O (Lt (V rfl) (V rfl)) <| Nq <| Cd (V rfl) (fun hc2 => ?_) (fun hc2 => ?_)
   ·have hc2s := hc2; try simp only [BL] at hc2s
    have hjj : j < l.length := by omega
    refine Sk <| Sq <| Bo <| Sq <| Rt <| U (Mv (V rfl)) <| U (Mv (V rfl)) <| U (IOn (i := j) (V rfl) rfl (V rfl) ts45 te45 (by omega)) <| U (LOA (V rfl) rfl Ga54 Sz54 (by decide)) <| Al 1 zero54 rfl rfl <| StA (V rfl) rfl (V rfl) Sz54 <| Nt <| Sq <| Rq <| O (Mv (V rfl)) <| O (LBA (V rfl) rfl Ga54 Sz54 (by decide)) <| CQv (args := [SV.agg 5 (heCell ⟨((delA p l j).getD j default).pl, ((delA p l j).getD j default).down, ((delA p l j).getD j default).once, ((delA p l j).getD j default).stops, ((delA p l j).getD j default).id⟩)]) (caps := caps) (fnval_A (V rfl)) hro hE (by exact ⟨⟨(Vi (g' := heCell ⟨((delA p l j).getD j default).pl, ((delA p l j).getD j default).down, ((delA p l j).getD j default).once, ((delA p l j).getD j default).stops, ((delA p l j).getD j default).id⟩) (V rfl) ⟨⟨⟨⟨⟨Z, Ir⟩, Ir⟩, Ir⟩, Ir⟩, Ir⟩), rfl⟩, Z⟩) (hC ((delA p l j).getD j default)) <| O (Qo (V rfl)) <| Nq <| Cd (V rfl) (fun hc3 => ?_) (fun hc3 => ?_)
    ·have hc3s := hc3; try simp only [BL] at hc3s
     have hpj : p (l.getD j default) = false := by rw [delA_at default hjj] at hc3; simpa using hc3
     exact Sq <| Rt <| U (Mv (V rfl)) <| U (Mv (V rfl)) <| U (LBA (V rfl) rfl Ga54 Sz54 (by decide)) <| U (IOn (i := (keptL p l j).length) (V rfl) rfl (V rfl) ts45 te45 (by omega)) <| t_stOAT (⟨((delA p l j).getD j default).pl, ((delA p l j).getD j default).down, ((delA p l j).getD j default).once, ((delA p l j).getD j default).stops, ((delA p l j).getD j default).id⟩) (V rfl) rfl (Vi (g' := heCell ⟨((delA p l j).getD j default).pl, ((delA p l j).getD j default).down, ((delA p l j).getD j default).once, ((delA p l j).getD j default).stops, ((delA p l j).getD j default).id⟩) (V rfl) ⟨⟨⟨⟨⟨Z, Ir⟩, Ir⟩, Ir⟩, Ir⟩, Ir⟩) (An rfl) Sz54 (by omega) (An rfl) <| Nt <| Rq <| O (Mv (V rfl)) <| O (Ad (V rfl) K (by first | omega | (rw [he0]; omega))) <| O (As (V rfl)) <| Nq <| Rq <| O (Mv (V rfl)) <| O (Ad (V rfl) K (by first | omega | (rw [he0]; omega))) <| O (As (V rfl)) <| Nq <| k_ownE 1000 (delA p l ((j + 1))) rfl (by rw [delA_at default hjj]; exact delA_no default hjj hpj) <| Nx (j + 1) (by show (j + 1) ≤ l.length; omega) (by show l.length - (j + 1) < l.length - j; omega) (We (sl := [(0, SV.own 1000), (1, fnA f caps), (5, iv (((keptL p l ((j + 1))).length : Int))), (6, iv (((j + 1) : Int)))]) (by exact ⟨V rfl, V rfl, val_eq (V rfl) (congrArg iv (by rw [kept_no default hjj hpj, List.length_append]; rfl)), V rfl, Z⟩) (AOs rfl))
    ·have hc3s := hc3; try simp only [BL] at hc3s
     have hpj : p (l.getD j default) = true := by rw [delA_at default hjj] at hc3; simpa using hc3
     exact Sk <| Rq <| O (Mv (V rfl)) <| O (Ad (V rfl) K (by first | omega | (rw [he0]; omega))) <| O (As (V rfl)) <| Nq <| k_ownE 1000 (delA p l ((j + 1))) rfl (by exact delA_yes default hjj hpj) <| Nx (j + 1) (by show (j + 1) ≤ l.length; omega) (by show l.length - (j + 1) < l.length - j; omega) (We (sl := [(0, SV.own 1000), (1, fnA f caps), (5, iv (((keptL p l ((j + 1))).length : Int))), (6, iv (((j + 1) : Int)))]) (by exact ⟨V rfl, V rfl, val_eq (V rfl) (congrArg iv (by rw [kept_yes default hjj hpj])), V rfl, Z⟩) (AOs rfl))
   ·have hc2s := hc2; try simp only [BL] at hc2s
    exact Ex <| Sq <| Rt <| U (Mv (V rfl)) <| U (Mv (V rfl)) <| U (q_slOL ts45 te45 (V rfl) rfl (V rfl) (by omega) (by first | omega | (rw [ovr_len (by rw [List.length_replicate]; omega)]; omega))) <| t_clrT (⟨0, false, false, false, 0⟩) Un45 zero54 (V rfl) rfl (by decide) (by omega) ⟨⟨⟨⟨⟨Z, impO_rfl⟩, impO_rfl⟩, impO_rfl⟩, impO_rfl⟩, impO_rfl⟩ <| Nt <| Sq <| Rq <| O (Mv (V rfl)) <| O (Mv (V rfl)) <| O (q_slOH ts45 te45 (V rfl) rfl (V rfl) (by omega) (by first | omega | (rw [ovr_len (by rw [List.length_replicate]; omega)]; omega))) <| O (As (V rfl)) <| Nq <| Tc (turn_cutT 4 1000 2 ((keptL p l j).length) rfl rfl (by rw [ovr_len (by rw [List.length_replicate]; omega)]; omega) rfl (by decide)) <| c_mv 2 0 rfl rfl <| c_ownE 0 (l.filter fun x => !p x) rfl (by exact del_end (by omega) _) <| Rx <| M1 rfl (V rfl) (by exact ⟨⟨_, rfl, rfl⟩, Z⟩) (by show SV.own 0 = SV.own 0; rfl)
theorem once_ct (x : He) (C : List Ca) (M : List (Int × Bool)) (S : Bool) : Ct Try.prog 109 [SV.agg 5 (heCell x), elB [elB [caRow C, mapSV (bmap M), bv (S)] 0] 0] (bv (x.once && (kget M x.id).getD false)) := by
 exact CtO 15 Try.func109 rfl rfl rfl fun E => Sq <| Rt <| BxA 1 (V rfl) rfl rfl <| U (As K) <| Nt <| Sq <| Rqd (by kernel_rfl) (by kernel_rfl) <| O (FlB _ _ (V rfl) Un54 rfl 0 Sz4) <| O (LdB (V rfl) rfl Ga4 (by decide)) <| O (Mv (V rfl)) <| Og (Gy rfl rfl) (fun hg => Ld (V rfl) Ga116 (by show 0 < 1; decide)) <| Og (Gy rfl rfl) (fun hg => q_nilE (Vg (V rfl) hg)) <| Og (Gy rfl rfl) (fun hg => Fl _ _ (Vg (V rfl) hg) Un118 rfl 0 Sz49) <| Og (Gy rfl rfl) (fun hg => Ld (Vg (V rfl) hg) Ga49 (by show 1 < 3; decide)) <| Og (Gy rfl rfl) (fun hg => FlB _ _ (V rfl) Un54 rfl 0 Sz3) <| Og (Gy rfl rfl) (fun hg => LdB (Vg (V rfl) hg) rfl Ga3 (by decide)) <| Og (Gy rfl rfl) (fun hg => q_lookB1R (l := M) Un49 Un3 (fun w => Try.zeroValue4 w) (Vg (V rfl) hg) (Vg (V rfl) hg)) <| O (Qa (V rfl) (fun h => Vg (V rfl) h)) <| O (As (V rfl)) <| Nq <| Rx <| R1 rfl (V rfl) rfl (by show bv (x.once && ((kget M x.id).getD false)) = bv (x.once && (kget M x.id).getD false); rfl)
end Go.Proofs.Ytmcdamcedemdiaa
