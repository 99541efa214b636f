import Derived.Test.YtghkpailmdlhgaaWk
import Derived.Test.YtghkpailmdlhgaaFc
set_option linter.unusedVariables false
set_option linter.unusedSimpArgs false
namespace Go.Proofs.Ytghkpailmdlhgaa
open Go.RowKit Go.Eng
/-- glasshouse/clone.Check -/
theorem gcheck_ct (g : List Cl) : Ct Try.prog 28 [SV.agg 1 (grG g)] (iv (checkGr g)) := by
 refine CtO 48 Try.func28 rfl rfl rfl fun E => Sq <| Rt <| BxA 1 (V rfl) rfl rfl <| U (As K) <| Nt <| Sq <| Sq <| Rq <| O (FlB _ _ (V rfl) Un35 rfl 0 Sz33) <| O (LdB (V rfl) rfl Ga33 (by decide)) <| O (Ln (V rfl) ts33) <| O (Gt (V rfl) K) <| Nq <| Cd (V rfl) (fun hc1 => ?_) (fun hc1 => ?_)
 ·have hc1s := hc1; try simp only [BL] at hc1s
  exact Sq <| Rq <| O (As K) <| Nq <| Rx <| R1 rfl (V rfl) rfl (by show iv (1) = iv (checkGr g); rw [checkGr_1 hc1s])
 ·have hc1s := hc1; try simp only [BL] at hc1s
  refine Sk <| Sq <| Sq <| Rq <| O (FlB _ _ (V rfl) Un35 rfl 0 Sz33) <| O (LdB (V rfl) rfl Ga33 (by decide)) <| O (Ln (V rfl) ts33) <| O (Mv K) <| Nq <| Bo <| Lo (fun (i : Nat) => ⟨[(1, SV.bp 1 0), (12, clRow g), (13, iv ((g.length : Int))), (14, iv ((i : Int)))], [(1, Own.box 1 (grG g) 35)]⟩) (fun (i : Nat) => i ≤ g.length ∧ checkGr g = firstErr (clErr g) i (g.length - i)) (fun (i : Nat) => g.length - i) 0 (by show 0 ≤ g.length ∧ checkGr g = firstErr (clErr g) 0 (g.length - 0); exact ⟨Nat.zero_le _, checkGr_s hc1s⟩) (We (ow := [(1, Own.box 1 (grG g) 35)]) (Vs rfl) (by exact ⟨⟨_, rfl, rfl, rfl, (An rfl)⟩, Z⟩)) <| ?_
  ·rintro i hI1
   have hJ1 : i ≤ g.length ∧ checkGr g = firstErr (clErr g) i (g.length - i) := hI1
   refine Sq <| Rq <| O (Lt (V rfl) (V rfl)) <| Nq <| Sq <| Cd (V rfl) (fun hc2 => ?_) (fun hc2 => ?_)
   ·have hc2s := hc2; try simp only [BL] at hc2s
    refine Sk <| Sq <| Bo <| Sq <| Rt <| U (IxN (i := i) (V rfl) (V rfl) ts33 te33 (by omega)) <| U (LdA (V rfl) Ga43 Sz43 (by decide)) <| Al 2 zero43 rfl rfl <| StA (V rfl) rfl (V rfl) Sz43 <| Nt <| Sq <| Sq <| Rq <| O (FlB _ _ (V rfl) Un43 rfl 0 Sz3) <| O (LdB (V rfl) rfl Ga3 (by decide)) <| O (Lt (V rfl) K) <| O (Mv (V rfl)) <| Og (Gn rfl rfl) (fun hg => FlB _ _ (V rfl) Un43 rfl 0 Sz3) <| Og (Gn rfl rfl) (fun hg => LdB (Vg (V rfl) hg) rfl Ga3 (by decide)) <| Og (Gn rfl rfl) (fun hg => Gt (Vg (V rfl) hg) K) <| O (Qr (V rfl) (fun h => Vg (V rfl) (notT h))) <| Nq <| Cd (V rfl) (fun hc3 => ?_) (fun hc3 => ?_)
    ·have hc3s := hc3; try simp only [BL] at hc3s
     exact Sq <| Rq <| O (As K) <| Nq <| Rx <| R1 rfl (V rfl) rfl (by show iv (2) = iv (checkGr g); rw [firstErr_hit (by omega) hJ1.2 (clErr_2 hc3) (by decide)])
    ·have hc3s := hc3; try simp only [BL] at hc3s
     refine Sk <| Sq <| Sq <| Rq <| O (FlB _ _ (V rfl) Un43 rfl 0 Sz24) <| O (LdB (V rfl) rfl Ga24 (by decide)) <| O (Ln (V rfl) ts24) <| O (Gt (V rfl) K) <| Nq <| Cd (V rfl) (fun hc4 => ?_) (fun hc4 => ?_)
     ·have hc4s := hc4; try simp only [BL] at hc4s
      exact Sq <| Rq <| O (As K) <| Nq <| Rx <| R1 rfl (V rfl) rfl (by show iv (1) = iv (checkGr g); rw [firstErr_hit (by omega) hJ1.2 (clErr_1 hc3 hc4s) (by decide)])
     ·have hc4s := hc4; try simp only [BL] at hc4s
      refine Sk <| Sq <| Rq <| O (FlB _ _ (V rfl) Un43 rfl 0 Sz24) <| O (LdB (V rfl) rfl Ga24 (by decide)) <| O (Ln (V rfl) ts24) <| O (Mv K) <| Nq <| Bo <| Lo (fun (j : Nat) => ⟨[(1, SV.bp 1 0), (12, clRow g), (13, iv ((g.length : Int))), (14, iv ((i : Int))), (31, inRow ((g.getD i default).kids)), (32, iv ((((g.getD i default).kids).length : Int))), (33, iv ((j : Int)))], [(1, Own.box 1 (grG g) 35)]⟩) (fun (j : Nat) => j ≤ (g.getD i default).kids.length ∧ clErr g i = firstErr (kidErr g.length (g.getD i default).kids) j ((g.getD i default).kids.length - j)) (fun (j : Nat) => (g.getD i default).kids.length - j) 0 (by show 0 ≤ (g.getD i default).kids.length ∧ clErr g i = firstErr (kidErr g.length (g.getD i default).kids) 0 ((g.getD i default).kids.length - 0); exact ⟨Nat.zero_le _, clErr_s hc3 hc4s⟩) (We (ow := [(1, Own.box 1 (grG g) 35)]) (Vs rfl) (by exact ⟨⟨_, rfl, rfl, rfl, (An rfl)⟩, Z⟩)) <| ?_
      ·rintro j hI2
       have hJ2 : j ≤ (g.getD i default).kids.length ∧ clErr g i = firstErr (kidErr g.length (g.getD i default).kids) j ((g.getD i default).kids.length - j) := hI2
       refine Sq <| Rq <| O (Lt (V rfl) (V rfl)) <| Nq <| Sq <| Cd (V rfl) (fun hc5 => ?_) (fun hc5 => ?_)
       ·have hc5s := hc5; try simp only [BL] at hc5s
        refine Sk <| Sq <| Bo <| Sq <| Rq <| O (IxN (i := j) (V rfl) (V rfl) ts24 te24 (by omega)) <| O (Ld (V rfl) Ga3 (by decide)) <| O (As (V rfl)) <| Nq <| Sq <| Rq <| O (Mv (V rfl)) <| O (Lt (V rfl) K) <| O (Mv (V rfl)) <| Og (Gn rfl rfl) (fun hg => Mv (V rfl)) <| Og (Gn rfl rfl) (fun hg => FlB _ _ (V rfl) Un35 rfl 0 Sz33) <| Og (Gn rfl rfl) (fun hg => LdB (Vg (V rfl) hg) rfl Ga33 (by decide)) <| Og (Gn rfl rfl) (fun hg => Ln (Vg (V rfl) hg) ts33) <| Og (Gn rfl rfl) (fun hg => Ge (Vg (V rfl) hg) (Vg (V rfl) hg)) <| O (Qr (V rfl) (fun h => Vg (V rfl) (notT h))) <| Nq <| Cd (V rfl) (fun hc6 => ?_) (fun hc6 => ?_)
        ·have hc6s := hc6; try simp only [BL] at hc6s
         exact Sq <| Rq <| O (As K) <| Nq <| Rx <| R1 rfl (V rfl) rfl (by show iv (4) = iv (checkGr g); rw [firstErr_hit (by omega) hJ1.2 (firstErr_hit (by omega) hJ2.2 (kidErr_4 hc6) (by decide)) (by decide)])
        ·have hc6s := hc6; try simp only [BL] at hc6s
         exact Sk <| Rq <| O (Ad (V rfl) K (by omega)) <| O (Mv (V rfl)) <| Nq <| Nx (j + 1) (by show (j + 1) ≤ (g.getD i default).kids.length ∧ clErr g i = firstErr (kidErr g.length (g.getD i default).kids) (j + 1) ((g.getD i default).kids.length - (j + 1)); exact ⟨by omega, firstErr_next (by omega) hJ2.2 (kidErr_0 hc6)⟩) (by show (g.getD i default).kids.length - (j + 1) < (g.getD i default).kids.length - j; omega) (We (ow := [(1, Own.box 1 (grG g) 35)]) (Vs rfl) (by exact ⟨⟨_, rfl, rfl, rfl, (An rfl)⟩, Z⟩))
       ·have hc5s := hc5; try simp only [BL] at hc5s
        exact Ex <| Rq <| O (Ad (V rfl) K (by omega)) <| O (Mv (V rfl)) <| Nq <| Nx (i + 1) (by show (i + 1) ≤ g.length ∧ checkGr g = firstErr (clErr g) (i + 1) (g.length - (i + 1)); exact ⟨by omega, firstErr_next (by omega) hJ1.2 (by rw [hJ2.2, Nat.sub_eq_zero_of_le (by omega)]; rfl)⟩) (by show g.length - (i + 1) < g.length - i; omega) (We (ow := [(1, Own.box 1 (grG g) 35)]) (Vs rfl) (by exact ⟨⟨_, rfl, rfl, rfl, (An rfl)⟩, Z⟩))
   ·have hc2s := hc2; try simp only [BL] at hc2s
    exact Ex <| Sq <| Rq <| O (As K) <| Nq <| Rx <| R1 rfl (V rfl) rfl (by show iv (0) = iv (checkGr g); rw [firstErr_end (by omega) hJ1.2])

/-- glasshouse/glasshouseref.CheckGraph -/
theorem rgcheck_ct (g : List Cl) : Ct Try.prog 33 [SV.agg 1 (grG g)] (iv (checkGr g)) := by
 refine CtO 42 Try.func33 rfl rfl rfl fun E => Sq <| Rt <| BxA 1 (V rfl) rfl rfl <| U (As K) <| Nt <| Sq <| Sq <| Rq <| O (FlB _ _ (V rfl) Un35 rfl 0 Sz33) <| O (LdB (V rfl) rfl Ga33 (by decide)) <| O (Ln (V rfl) ts33) <| O (Gt (V rfl) K) <| Nq <| Cd (V rfl) (fun hc1 => ?_) (fun hc1 => ?_)
 ·have hc1s := hc1; try simp only [BL] at hc1s
  exact Sq <| Rq <| O (As K) <| Nq <| Rx <| R1 rfl (V rfl) rfl (by show iv (1) = iv (checkGr g); rw [checkGr_1 hc1s])
 ·have hc1s := hc1; try simp only [BL] at hc1s
  refine Sk <| Sq <| Sq <| Rq <| O (FlB _ _ (V rfl) Un35 rfl 0 Sz33) <| O (LdB (V rfl) rfl Ga33 (by decide)) <| O (Ln (V rfl) ts33) <| O (Mv K) <| Nq <| Bo <| Lo (fun (i : Nat) => ⟨[(1, SV.bp 1 0), (12, clRow g), (13, iv ((g.length : Int))), (14, iv ((i : Int)))], [(1, Own.box 1 (grG g) 35)]⟩) (fun (i : Nat) => i ≤ g.length ∧ checkGr g = firstErr (clErr g) i (g.length - i)) (fun (i : Nat) => g.length - i) 0 (by show 0 ≤ g.length ∧ checkGr g = firstErr (clErr g) 0 (g.length - 0); exact ⟨Nat.zero_le _, checkGr_s hc1s⟩) (We (ow := [(1, Own.box 1 (grG g) 35)]) (Vs rfl) (by exact ⟨⟨_, rfl, rfl, rfl, (An rfl)⟩, Z⟩)) <| ?_
  ·rintro i hI1
   have hJ1 : i ≤ g.length ∧ checkGr g = firstErr (clErr g) i (g.length - i) := hI1
   refine Sq <| Rq <| O (Lt (V rfl) (V rfl)) <| Nq <| Sq <| Cd (V rfl) (fun hc2 => ?_) (fun hc2 => ?_)
   ·have hc2s := hc2; try simp only [BL] at hc2s
    refine Sk <| Sq <| Bo <| Sq <| Rt <| U (IxN (i := i) (V rfl) (V rfl) ts33 te33 (by omega)) <| U (LdA (V rfl) Ga43 Sz43 (by decide)) <| Al 2 zero43 rfl rfl <| StA (V rfl) rfl (V rfl) Sz43 <| Nt <| Sq <| Sq <| Rq <| O (FlB _ _ (V rfl) Un43 rfl 0 Sz3) <| O (LdB (V rfl) rfl Ga3 (by decide)) <| CQ en70 (by exact ⟨⟨(V rfl), rfl⟩, ⟨K, rfl⟩, ⟨K, rfl⟩, Z⟩) (in_ct ((g.getD i default).n) ((-1000000)) 1000000) <| O (Qo (V rfl)) <| Nq <| Cd (V rfl) (fun hc3 => ?_) (fun hc3 => ?_)
    ·have hc3s := hc3; try simp only [BL] at hc3s
     exact Sq <| Rq <| O (As K) <| Nq <| Rx <| R1 rfl (V rfl) rfl (by show iv (2) = iv (checkGr g); rw [firstErr_hit (by omega) hJ1.2 (clErr_2 (inI_bad.symm.trans hc3)) (by decide)])
    ·have hc3s := hc3; try simp only [BL] at hc3s
     refine Sk <| Sq <| Sq <| Rq <| O (FlB _ _ (V rfl) Un43 rfl 0 Sz24) <| O (LdB (V rfl) rfl Ga24 (by decide)) <| O (Ln (V rfl) ts24) <| O (Gt (V rfl) K) <| Nq <| Cd (V rfl) (fun hc4 => ?_) (fun hc4 => ?_)
     ·have hc4s := hc4; try simp only [BL] at hc4s
      exact Sq <| Rq <| O (As K) <| Nq <| Rx <| R1 rfl (V rfl) rfl (by show iv (1) = iv (checkGr g); rw [firstErr_hit (by omega) hJ1.2 (clErr_1 (inI_bad.symm.trans hc3) hc4s) (by decide)])
     ·have hc4s := hc4; try simp only [BL] at hc4s
      refine Sk <| Sq <| Rq <| O (FlB _ _ (V rfl) Un43 rfl 0 Sz24) <| O (LdB (V rfl) rfl Ga24 (by decide)) <| O (Ln (V rfl) ts24) <| O (Mv K) <| Nq <| Bo <| Lo (fun (j : Nat) => ⟨[(1, SV.bp 1 0), (12, clRow g), (13, iv ((g.length : Int))), (14, iv ((i : Int))), (27, inRow ((g.getD i default).kids)), (28, iv ((((g.getD i default).kids).length : Int))), (29, iv ((j : Int)))], [(1, Own.box 1 (grG g) 35)]⟩) (fun (j : Nat) => j ≤ (g.getD i default).kids.length ∧ clErr g i = firstErr (kidErr g.length (g.getD i default).kids) j ((g.getD i default).kids.length - j)) (fun (j : Nat) => (g.getD i default).kids.length - j) 0 (by show 0 ≤ (g.getD i default).kids.length ∧ clErr g i = firstErr (kidErr g.length (g.getD i default).kids) 0 ((g.getD i default).kids.length - 0); exact ⟨Nat.zero_le _, clErr_s (inI_bad.symm.trans hc3) hc4s⟩) (We (ow := [(1, Own.box 1 (grG g) 35)]) (Vs rfl) (by exact ⟨⟨_, rfl, rfl, rfl, (An rfl)⟩, Z⟩)) <| ?_
      ·rintro j hI2
       have hJ2 : j ≤ (g.getD i default).kids.length ∧ clErr g i = firstErr (kidErr g.length (g.getD i default).kids) j ((g.getD i default).kids.length - j) := hI2
       refine Sq <| Rq <| O (Lt (V rfl) (V rfl)) <| Nq <| Sq <| Cd (V rfl) (fun hc5 => ?_) (fun hc5 => ?_)
       ·have hc5s := hc5; try simp only [BL] at hc5s
        refine Sk <| Sq <| Bo <| Sq <| Rq <| O (IxN (i := j) (V rfl) (V rfl) ts24 te24 (by omega)) <| O (Ld (V rfl) Ga3 (by decide)) <| O (As (V rfl)) <| Nq <| Sq <| Rq <| O (Mv (V rfl)) <| O (FlB _ _ (V rfl) Un35 rfl 0 Sz33) <| O (LdB (V rfl) rfl Ga33 (by decide)) <| O (Ln (V rfl) ts33) <| O (Sb (V rfl) K (by omega)) <| CQ en70 (by exact ⟨⟨(V rfl), rfl⟩, ⟨K, rfl⟩, ⟨(V rfl), rfl⟩, Z⟩) (in_ct ((((g.getD i default).kids).getD j 0)) 0 (((g.length : Int)) - 1)) <| O (Qo (V rfl)) <| Nq <| Cd (V rfl) (fun hc6 => ?_) (fun hc6 => ?_)
        ·have hc6s := hc6; try simp only [BL] at hc6s
         exact Sq <| Rq <| O (As K) <| Nq <| Rx <| R1 rfl (V rfl) rfl (by show iv (4) = iv (checkGr g); rw [firstErr_hit (by omega) hJ1.2 (firstErr_hit (by omega) hJ2.2 (kidErr_4 (inI_kid.symm.trans hc6)) (by decide)) (by decide)])
        ·have hc6s := hc6; try simp only [BL] at hc6s
         exact Sk <| Rq <| O (Ad (V rfl) K (by omega)) <| O (Mv (V rfl)) <| Nq <| Nx (j + 1) (by show (j + 1) ≤ (g.getD i default).kids.length ∧ clErr g i = firstErr (kidErr g.length (g.getD i default).kids) (j + 1) ((g.getD i default).kids.length - (j + 1)); exact ⟨by omega, firstErr_next (by omega) hJ2.2 (kidErr_0 (inI_kid.symm.trans hc6))⟩) (by show (g.getD i default).kids.length - (j + 1) < (g.getD i default).kids.length - j; omega) (We (ow := [(1, Own.box 1 (grG g) 35)]) (Vs rfl) (by exact ⟨⟨_, rfl, rfl, rfl, (An rfl)⟩, Z⟩))
       ·have hc5s := hc5; try simp only [BL] at hc5s
        exact Ex <| Rq <| O (Ad (V rfl) K (by omega)) <| O (Mv (V rfl)) <| Nq <| Nx (i + 1) (by show (i + 1) ≤ g.length ∧ checkGr g = firstErr (clErr g) (i + 1) (g.length - (i + 1)); exact ⟨by omega, firstErr_next (by omega) hJ1.2 (by rw [hJ2.2, Nat.sub_eq_zero_of_le (by omega)]; rfl)⟩) (by show g.length - (i + 1) < g.length - i; omega) (We (ow := [(1, Own.box 1 (grG g) 35)]) (Vs rfl) (by exact ⟨⟨_, rfl, rfl, rfl, (An rfl)⟩, Z⟩))
   ·have hc2s := hc2; try simp only [BL] at hc2s
    exact Ex <| Sq <| Rq <| O (As K) <| Nq <| Rx <| R1 rfl (V rfl) rfl (by show iv (0) = iv (checkGr g); rw [firstErr_end (by omega) hJ1.2])

/-- slices.Index[[]int,int] -/
theorem index_ct (l : List Int) (k : Int) : Ct Try.prog 69 [inRow l, iv (k)] (iv (idxI l k)) := by
 refine CtO 19 Try.func69 rfl rfl rfl fun E => Rl (V (s := 0) rfl) fun hl0 => Sq <| Rq <| O (As K) <| Nq <| Sq <| Sq <| Rq <| O (Mv (V rfl)) <| O (Ln (V rfl) ts24) <| O (Mv K) <| Nq <| Bo <| Lo (fun (i : Nat) => ⟨[(0, inRow l), (1, iv (k)), (7, iv ((l.length : Int))), (8, iv ((i : Int)))], []⟩) (fun (i : Nat) => i ≤ l.length ∧ ∀ j, j < i → ¬ l.getD j 0 = k) (fun (i : Nat) => l.length - i) 0 (by show 0 ≤ l.length ∧ ∀ j, j < 0 → ¬ l.getD j 0 = k; exact ⟨Nat.zero_le _, fun j hj => absurd hj (Nat.not_lt_zero _)⟩) (We (Vs rfl) Z) <| ?_
 ·rintro i hI1
  have hJ1 : i ≤ l.length ∧ ∀ j, j < i → ¬ l.getD j 0 = k := hI1
  have hi1 := hJ1.1
  have hall := hJ1.2
  refine Sq <| Rq <| O (Lt (V rfl) (V rfl)) <| Nq <| Sq <| Cd (V rfl) (fun hc1 => ?_) (fun hc1 => ?_)
  ·have hc1s := hc1; try simp only [BL] at hc1s
   refine Sk <| Sq <| Bo <| Sq <| Rq <| O (Mv (V rfl)) <| O (As (V rfl)) <| Nq <| Sq <| Rq <| O (Mv (V rfl)) <| O (Mv (V rfl)) <| O (Mv (V rfl)) <| O (IxN (i := i) (V rfl) (V rfl) ts24 te24 (by clear hall hJ1 hI1; omega)) <| O (Ld (V rfl) Ga3 (by decide)) <| O (Ql (V rfl) (V rfl)) <| Nq <| Cd (V rfl) (fun hc2 => ?_) (fun hc2 => ?_)
   ·have hc2s := hc2; try simp only [BL] at hc2s
    exact Sq <| Rq <| O (Mv (V rfl)) <| O (As (V rfl)) <| Nq <| Rx <| R1 rfl (V rfl) rfl (by show iv ((i : Int)) = iv (idxI l k); rw [idxI_hit (by clear hall hJ1 hI1; omega) hall hc2s.symm])
   ·have hc2s := hc2; try simp only [BL] at hc2s
    exact Sk <| Rq <| O (Ad (V rfl) K (by clear hall hJ1 hI1; omega)) <| O (Mv (V rfl)) <| Nq <| Nx (i + 1) (by show (i + 1) ≤ l.length ∧ ∀ j, j < (i + 1) → ¬ l.getD j 0 = k; exact ⟨by clear hall hJ1 hI1; omega, idxI_s hall (fun e => hc2s e.symm)⟩) (by show l.length - (i + 1) < l.length - i; clear hall hJ1 hI1; omega) (We (Vs rfl) Z)
  ·have hc1s := hc1; try simp only [BL] at hc1s
   exact Ex <| Sq <| Rq <| O (As K) <| Nq <| Rx <| R1 rfl (V rfl) rfl (by show iv ((-1)) = iv (idxI l k); rw [idxI_none hall (by clear hall hJ1 hI1; omega)])

/-- glasshouse/clone.Same$1 -/
theorem gsame1_ct (x y : Cl) : Ct Try.prog 67 [SV.agg 2 (clCell x), SV.agg 2 (clCell y)] (bv (eqCl x y)) := by
 exact CtO 17 Try.func67 rfl rfl rfl fun E => Sq <| Rt <| BxA 1 (V rfl) rfl rfl <| BxA 2 (V rfl) rfl rfl <| U (As K) <| Nt <| Sq <| Rq <| O (FlB _ _ (V rfl) Un43 rfl 0 Sz3) <| O (LdB (V rfl) rfl Ga3 (by decide)) <| O (FlB _ _ (V rfl) Un43 rfl 0 Sz3) <| O (LdB (V rfl) rfl Ga3 (by decide)) <| O (Ql (V rfl) (V rfl)) <| O (Mv (V rfl)) <| Og (Gy rfl rfl) (fun hg => FlB _ _ (V rfl) Un43 rfl 0 Sz24) <| Og (Gy rfl rfl) (fun hg => LdB (Vg (V rfl) hg) rfl Ga24 (by decide)) <| Og (Gy rfl rfl) (fun hg => FlB _ _ (V rfl) Un43 rfl 0 Sz24) <| Og (Gy rfl rfl) (fun hg => LdB (Vg (V rfl) hg) rfl Ga24 (by decide)) <| CQg (Gy rfl rfl) en17 (fun hg => (by exact ⟨⟨(Vg (V rfl) hg), rfl⟩, ⟨(Vg (V rfl) hg), rfl⟩, Z⟩)) (fun hg => equal_ct x.kids y.kids) <| O (Qa (V rfl) (fun h => Vg (V rfl) h)) <| O (As (V rfl)) <| Nq <| Rx <| R1 rfl (V rfl) rfl (by show bv ((decide (x.n = y.n)) && (eqInt x.kids y.kids)) = bv (eqCl x y); rfl)

/-- glasshouse/glasshouseref.SameGraph$1 -/
theorem rgsame1_ct (x y : Cl) : Ct Try.prog 71 [SV.agg 2 (clCell x), SV.agg 2 (clCell y)] (bv (eqCl x y)) := by
 exact CtO 17 Try.func71 rfl rfl rfl fun E => Sq <| Rt <| BxA 1 (V rfl) rfl rfl <| BxA 2 (V rfl) rfl rfl <| U (As K) <| Nt <| Sq <| Rq <| O (FlB _ _ (V rfl) Un43 rfl 0 Sz3) <| O (LdB (V rfl) rfl Ga3 (by decide)) <| O (FlB _ _ (V rfl) Un43 rfl 0 Sz3) <| O (LdB (V rfl) rfl Ga3 (by decide)) <| O (Ql (V rfl) (V rfl)) <| O (Mv (V rfl)) <| Og (Gy rfl rfl) (fun hg => FlB _ _ (V rfl) Un43 rfl 0 Sz24) <| Og (Gy rfl rfl) (fun hg => LdB (Vg (V rfl) hg) rfl Ga24 (by decide)) <| Og (Gy rfl rfl) (fun hg => FlB _ _ (V rfl) Un43 rfl 0 Sz24) <| Og (Gy rfl rfl) (fun hg => LdB (Vg (V rfl) hg) rfl Ga24 (by decide)) <| CQg (Gy rfl rfl) en17 (fun hg => (by exact ⟨⟨(Vg (V rfl) hg), rfl⟩, ⟨(Vg (V rfl) hg), rfl⟩, Z⟩)) (fun hg => equal_ct x.kids y.kids) <| O (Qa (V rfl) (fun h => Vg (V rfl) h)) <| O (As (V rfl)) <| Nq <| Rx <| R1 rfl (V rfl) rfl (by show bv ((decide (x.n = y.n)) && (eqInt x.kids y.kids)) = bv (eqCl x y); rfl)

end Go.Proofs.Ytghkpailmdlhgaa
