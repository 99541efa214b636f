import Derived.Test.YtghkpailmdlhgaaW14
import Derived.Test.YtghkpailmdlhgaaFp
set_option linter.unusedVariables false
set_option linter.unusedSimpArgs false
namespace Go.Proofs.Ytghkpailmdlhgaa
open Go.RowKit Go.Eng
/-- glasshouse/glasshouseref.below -/
theorem below_ct (x n : Int) : Ct Try.prog 76 [iv (x), iv (n)] (bv (belowI x n)) := by
 exact CtO 12 Try.func76 rfl rfl rfl fun E => Sq <| Rq <| O (As K) <| Nq <| Sq <| Rq <| O (Mv (V rfl)) <| O (Ge (V rfl) K) <| O (Mv (V rfl)) <| Og (Gy rfl rfl) (fun hg => Mv (V rfl)) <| Og (Gy rfl rfl) (fun hg => Mv (V rfl)) <| Og (Gy rfl rfl) (fun hg => Lt (Vg (V rfl) hg) (Vg (V rfl) hg)) <| O (Qa (V rfl) (fun h => Vg (V rfl) h)) <| O (As (V rfl)) <| Nq <| Rx <| R1 rfl (V rfl) rfl (by show bv ((decide (0 ≤ x)) && (decide (x < n))) = bv (belowI x n); rfl)

/-- glasshouse/port.Check -/
theorem pcheck_ct (l : List Pt) (fr : Int) : Ct Try.prog 55 [ptRow l, iv (fr)] (iv (checkPo l fr)) := by
 refine CtO 91 Try.func55 rfl rfl rfl fun E => Rl (V (s := 0) rfl) fun hl0 => Sq <| Rq <| O (As K) <| Nq <| Sq <| Sq <| Rq <| O (Mv (V rfl)) <| O (Ln (V rfl) ts60) <| O (Gt (V rfl) K) <| Nq <| Cd (V rfl) (fun hc1 => ?_) (fun hc1 => ?_)
 ·have hc1s := hc1; try simp only [BL] at hc1s
  exact Sq <| Rq <| O (As K) <| Nq <| Rx <| R1 rfl (V rfl) rfl (by show iv (1) = iv (checkPo l fr); rw [checkPo_1 hc1s])
 ·have hc1s := hc1; try simp only [BL] at hc1s
  refine Sk <| Sq <| Sq <| Rq <| O (Mv (V rfl)) <| O (Ln (V rfl) ts60) <| O (Mv K) <| Nq <| Bo <| Lo (fun (i : Nat) => ⟨[(0, ptRow l), (1, iv (fr)), (13, ptRow l), (14, iv ((l.length : Int))), (15, iv ((i : Int)))], []⟩) (fun (i : Nat) => i ≤ l.length ∧ checkPo l fr = firstErr (poErr l fr) i (l.length - i)) (fun (i : Nat) => l.length - i) 0 (by show 0 ≤ l.length ∧ checkPo l fr = firstErr (poErr l fr) 0 (l.length - 0); exact ⟨Nat.zero_le _, checkPo_s hc1s⟩) (We (Vs rfl) Z) <| ?_
  ·rintro i hI1
   have hJ1 : i ≤ l.length ∧ checkPo l fr = firstErr (poErr l fr) i (l.length - i) := hI1
   refine Sq <| Rq <| O (Lt (V rfl) (V rfl)) <| Nq <| Sq <| Cd (V rfl) (fun hc2 => ?_) (fun hc2 => ?_)
   ·have hc2s := hc2; try simp only [BL] at hc2s
    refine Sk <| Sq <| Bo <| Sq <| Rt <| U (Mv (V rfl)) <| U (IxN (i := i) (V rfl) (V rfl) ts60 te60 (by omega)) <| U (LdA (V rfl) Ga71 Sz71 (by decide)) <| Al 1 zero71 rfl rfl <| U (As (V rfl)) <| StA (V rfl) rfl (V rfl) Sz71 <| Nt <| Sq <| Sq <| Rq <| O (FlB _ _ (V rfl) Un71 rfl 0 Sz3) <| O (LdB (V rfl) rfl Ga3 (by decide)) <| O (Lt (V rfl) K) <| O (Mv (V rfl)) <| Og (Gn rfl rfl) (fun hg => FlB _ _ (V rfl) Un71 rfl 0 Sz3) <| Og (Gn rfl rfl) (fun hg => LdB (Vg (V rfl) hg) rfl Ga3 (by decide)) <| Og (Gn rfl rfl) (fun hg => Mv (V rfl)) <| Og (Gn rfl rfl) (fun hg => Ge (Vg (V rfl) hg) (Vg (V rfl) hg)) <| O (Qr (V rfl) (fun h => Vg (V rfl) (notT h))) <| O (Mv (V rfl)) <| Og (Gn rfl rfl) (fun hg => FlB _ _ (V rfl) Un71 rfl 0 Sz3) <| Og (Gn rfl rfl) (fun hg => LdB (Vg (V rfl) hg) rfl Ga3 (by decide)) <| Og (Gn rfl rfl) (fun hg => Lt (Vg (V rfl) hg) K) <| O (Qr (V rfl) (fun h => Vg (V rfl) (notT h))) <| O (Mv (V rfl)) <| Og (Gn rfl rfl) (fun hg => FlB _ _ (V rfl) Un71 rfl 0 Sz3) <| Og (Gn rfl rfl) (fun hg => LdB (Vg (V rfl) hg) rfl Ga3 (by decide)) <| Og (Gn rfl rfl) (fun hg => Mv (V rfl)) <| Og (Gn rfl rfl) (fun hg => Ln (Vg (V rfl) hg) ts60) <| Og (Gn rfl rfl) (fun hg => Ge (Vg (V rfl) hg) (Vg (V rfl) hg)) <| O (Qr (V rfl) (fun h => Vg (V rfl) (notT h))) <| Nq <| Cd (V rfl) (fun hc3 => ?_) (fun hc3 => ?_)
    ·have hc3s := hc3; try simp only [BL] at hc3s
     exact Sq <| Rq <| O (As K) <| Nq <| Rx <| R1 rfl (V rfl) rfl (by show iv (4) = iv (checkPo l fr); rw [firstErr_hit (by omega) hJ1.2 (po_4 hc3) (by decide)])
    ·have hc3s := hc3; try simp only [BL] at hc3s
     have hw := poWho_no hc3
     refine Sk <| Sq <| Sq <| Rq <| O (FlB _ _ (V rfl) Un71 rfl 0 Sz3) <| O (LdB (V rfl) rfl Ga3 (by decide)) <| O (Mv (V rfl)) <| O (Ql (V rfl) (V rfl)) <| O (Mv (V rfl)) <| Og (Gn rfl rfl) (fun hg => Mv (V rfl)) <| Og (Gn rfl rfl) (fun hg => FlB _ _ (V rfl) Un71 rfl 0 Sz3) <| Og (Gn rfl rfl) (fun hg => LdB (Vg (V rfl) hg) rfl Ga3 (by decide)) <| Og (Gn rfl rfl) (fun hg => Ix (Vg (V rfl) hg) (Vg (V rfl) hg) ts60 te60 (by omega) (by omega)) <| Og (Gn rfl rfl) (fun hg => Fl _ _ (Vg (V rfl) hg) Un71 rfl 0 Sz3) <| Og (Gn rfl rfl) (fun hg => Ld (Vg (V rfl) hg) Ga3 (by decide)) <| Og (Gn rfl rfl) (fun hg => Mv (V rfl)) <| Og (Gn rfl rfl) (fun hg => Qn (Vg (V rfl) hg) (Vg (V rfl) hg)) <| O (Qr (V rfl) (fun h => Vg (V rfl) (notT h))) <| Nq <| Cd (V rfl) (fun hc4 => ?_) (fun hc4 => ?_)
     ·have hc4s := hc4; try simp only [BL] at hc4s
      exact Sq <| Rq <| O (As K) <| Nq <| Rx <| R1 rfl (V rfl) rfl (by show iv (3) = iv (checkPo l fr); rw [firstErr_hit (by omega) hJ1.2 (po_3 hc3 hc4) (by decide)])
     ·have hc4s := hc4; try simp only [BL] at hc4s
      refine Sk <| Sq <| Sq <| Rq <| O (FlB _ _ (V rfl) Un71 rfl 0 Sz3) <| O (LdB (V rfl) rfl Ga3 (by decide)) <| O (Lt (V rfl) K) <| O (Mv (V rfl)) <| Og (Gn rfl rfl) (fun hg => FlB _ _ (V rfl) Un71 rfl 0 Sz3) <| Og (Gn rfl rfl) (fun hg => LdB (Vg (V rfl) hg) rfl Ga3 (by decide)) <| Og (Gn rfl rfl) (fun hg => Gt (Vg (V rfl) hg) K) <| O (Qr (V rfl) (fun h => Vg (V rfl) (notT h))) <| Nq <| Cd (V rfl) (fun hc5 => ?_) (fun hc5 => ?_)
      ·have hc5s := hc5; try simp only [BL] at hc5s
       exact Sq <| Rq <| O (As K) <| Nq <| Rx <| R1 rfl (V rfl) rfl (by show iv (2) = iv (checkPo l fr); rw [firstErr_hit (by omega) hJ1.2 (po_2 hc3 hc4 hc5) (by decide)])
      ·have hc5s := hc5; try simp only [BL] at hc5s
       refine Sk <| Sq <| Sq <| Rq <| O (FlB _ _ (V rfl) Un71 rfl 0 Sz59) <| O (LdB (V rfl) rfl Ga59 (by decide)) <| O (Ln (V rfl) ts59) <| O (Gt (V rfl) K) <| O (Mv (V rfl)) <| Og (Gn rfl rfl) (fun hg => FlB _ _ (V rfl) Un71 rfl 0 Sz4) <| Og (Gn rfl rfl) (fun hg => LdB (Vg (V rfl) hg) rfl Ga4 (by decide)) <| Og (Gn rfl rfl) (fun hg => Mv (Vg (V rfl) hg)) <| Og (Gyy rfl rfl) (fun hg => FlB _ _ (V rfl) Un71 rfl 0 Sz59) <| Og (Gyy rfl rfl) (fun hg => LdB (Vg (V rfl) hg) rfl Ga59 (by decide)) <| Og (Gyy rfl rfl) (fun hg => Ln (Vg (V rfl) hg) ts59) <| Og (Gyy rfl rfl) (fun hg => Gt (Vg (V rfl) hg) K) <| Og (Gn rfl rfl) (fun hg => Qa (Vg (V rfl) hg) (fun h => Vg (V rfl) (andI hg h))) <| O (Qr (V rfl) (fun h => Vg (V rfl) (notT h))) <| Nq <| Cd (V rfl) (fun hc6 => ?_) (fun hc6 => ?_)
       ·have hc6s := hc6; try simp only [BL] at hc6s
        exact Sq <| Rq <| O (As K) <| Nq <| Rx <| R1 rfl (V rfl) rfl (by show iv (1) = iv (checkPo l fr); rw [firstErr_hit (by omega) hJ1.2 (po_1 hc3 hc4 hc5 hc6) (by decide)])
       ·have hc6s := hc6; try simp only [BL] at hc6s
        refine Sk <| Sq <| Rq <| O (FlB _ _ (V rfl) Un71 rfl 0 Sz59) <| O (LdB (V rfl) rfl Ga59 (by decide)) <| O (Ln (V rfl) ts59) <| O (Mv K) <| Nq <| Bo <| Lo (fun (j : Nat) => ⟨[(0, ptRow l), (1, iv (fr)), (13, ptRow l), (14, iv ((l.length : Int))), (15, iv ((i : Int))), (78, gsRow ((l.getD i default).came)), (79, iv ((((l.getD i default).came).length : Int))), (80, iv ((j : Int)))], []⟩) (fun (j : Nat) => j ≤ (l.getD i default).came.length ∧ poErr l fr i = firstErr (gErr (l.getD i default).came) j ((l.getD i default).came.length - j)) (fun (j : Nat) => (l.getD i default).came.length - j) 0 (by show 0 ≤ (l.getD i default).came.length ∧ poErr l fr i = firstErr (gErr (l.getD i default).came) 0 ((l.getD i default).came.length - 0); exact ⟨Nat.zero_le _, po_s hc3 hc4 hc5 hc6⟩) (We (Vs rfl) Z) <| ?_
        ·rintro j hI2
         have hJ2 : j ≤ (l.getD i default).came.length ∧ poErr l fr i = firstErr (gErr (l.getD i default).came) j ((l.getD i default).came.length - j) := hI2
         refine Sq <| Rq <| O (Lt (V rfl) (V rfl)) <| Nq <| Sq <| Cd (V rfl) (fun hc7 => ?_) (fun hc7 => ?_)
         ·have hc7s := hc7; try simp only [BL] at hc7s
          refine Sk <| Sq <| Bo <| Sq <| Rt <| U (IxN (i := j) (V rfl) (V rfl) ts59 te59 (by omega)) <| U (LdA (V rfl) Ga35 Sz35 (by decide)) <| Al 2 zero35 rfl rfl <| StA (V rfl) rfl (V rfl) Sz35 <| Nt <| Sq <| Rq <| O (LBA (V rfl) rfl Ga35 Sz35 (by decide)) <| CQ en28 (by exact ⟨⟨(Vi (g' := grG ((((l.getD i default).came).getD j []))) (V rfl) ⟨Z, Ir⟩), rfl⟩, Z⟩) (gcheck_ct ((((l.getD i default).came).getD j []))) <| O (As (V rfl)) <| Nq <| Sq <| Rq <| O (Mv (V rfl)) <| O (Qn (V rfl) K) <| Nq <| Cd (V rfl) (fun hc8 => ?_) (fun hc8 => ?_)
          ·have hc8s := hc8; try simp only [BL] at hc8s
           exact Sq <| Rq <| O (Mv (V rfl)) <| O (As (V rfl)) <| Nq <| Rx <| R1 rfl (V rfl) rfl (by show iv (checkGr ((((l.getD i default).came).getD j []))) = iv (checkPo l fr); rw [firstErr_hit (by omega) hJ1.2 (firstErr_hit (by omega) hJ2.2 rfl hc8s) hc8s]; rfl)
          ·have hc8s := hc8; try simp only [BL] at hc8s
           exact Sk <| Rq <| O (Ad (V rfl) K (by omega)) <| O (Mv (V rfl)) <| Nq <| Nx (j + 1) (by show (j + 1) ≤ (l.getD i default).came.length ∧ poErr l fr i = firstErr (gErr (l.getD i default).came) (j + 1) ((l.getD i default).came.length - (j + 1)); exact ⟨by omega, firstErr_next (by omega) hJ2.2 hc8s⟩) (by show (l.getD i default).came.length - (j + 1) < (l.getD i default).came.length - j; omega) (We (Vs rfl) Z)
         ·have hc7s := hc7; try simp only [BL] at hc7s
          exact Ex <| Rq <| O (Ad (V rfl) K (by omega)) <| O (Mv (V rfl)) <| Nq <| Nx (i + 1) (by show (i + 1) ≤ l.length ∧ checkPo l fr = firstErr (poErr l fr) (i + 1) (l.length - (i + 1)); exact ⟨by omega, firstErr_next (by omega) hJ1.2 (by rw [hJ2.2, Nat.sub_eq_zero_of_le (by omega)]; rfl)⟩) (by show l.length - (i + 1) < l.length - i; omega) (We (Vs rfl) Z)
   ·have hc2s := hc2; try simp only [BL] at hc2s
    exact Ex <| Sq <| Rq <| O (As K) <| Nq <| Rx <| R1 rfl (V rfl) rfl (by show iv (0) = iv (checkPo l fr); rw [firstErr_end (by omega) hJ1.2])

/-- glasshouse/glasshouseref.CheckPorts -/
theorem rpcheck_ct (l : List Pt) (fr : Int) : Ct Try.prog 61 [ptRow l, iv (fr)] (iv (checkPo l fr)) := by
 refine CtO 84 Try.func61 rfl rfl rfl fun E => Rl (V (s := 0) rfl) fun hl0 => Sq <| Rq <| O (As K) <| Nq <| Sq <| Sq <| Rq <| O (Mv (V rfl)) <| O (Ln (V rfl) ts60) <| O (Gt (V rfl) K) <| Nq <| Cd (V rfl) (fun hc1 => ?_) (fun hc1 => ?_)
 ·have hc1s := hc1; try simp only [BL] at hc1s
  exact Sq <| Rq <| O (As K) <| Nq <| Rx <| R1 rfl (V rfl) rfl (by show iv (1) = iv (checkPo l fr); rw [checkPo_1 hc1s])
 ·have hc1s := hc1; try simp only [BL] at hc1s
  refine Sk <| Sq <| Sq <| Rq <| O (Mv (V rfl)) <| O (Ln (V rfl) ts60) <| O (Mv K) <| Nq <| Bo <| Lo (fun (i : Nat) => ⟨[(0, ptRow l), (1, iv (fr)), (13, ptRow l), (14, iv ((l.length : Int))), (15, iv ((i : Int)))], []⟩) (fun (i : Nat) => i ≤ l.length ∧ checkPo l fr = firstErr (poErr l fr) i (l.length - i)) (fun (i : Nat) => l.length - i) 0 (by show 0 ≤ l.length ∧ checkPo l fr = firstErr (poErr l fr) 0 (l.length - 0); exact ⟨Nat.zero_le _, checkPo_s hc1s⟩) (We (Vs rfl) Z) <| ?_
  ·rintro i hI1
   have hJ1 : i ≤ l.length ∧ checkPo l fr = firstErr (poErr l fr) i (l.length - i) := hI1
   refine Sq <| Rq <| O (Lt (V rfl) (V rfl)) <| Nq <| Sq <| Cd (V rfl) (fun hc2 => ?_) (fun hc2 => ?_)
   ·have hc2s := hc2; try simp only [BL] at hc2s
    refine Sk <| Sq <| Bo <| Sq <| Rt <| U (Mv (V rfl)) <| U (IxN (i := i) (V rfl) (V rfl) ts60 te60 (by omega)) <| U (LdA (V rfl) Ga71 Sz71 (by decide)) <| Al 1 zero71 rfl rfl <| U (As (V rfl)) <| StA (V rfl) rfl (V rfl) Sz71 <| Nt <| Sq <| Bo <| Sq <| Rq <| O (FlB _ _ (V rfl) Un71 rfl 0 Sz3) <| O (LdB (V rfl) rfl Ga3 (by decide)) <| O (Mv (V rfl)) <| CQ en76 (by exact ⟨⟨(V rfl), rfl⟩, ⟨(V rfl), rfl⟩, Z⟩) (below_ct ((l.getD i default).owner) fr) <| O (Qo (V rfl)) <| O (Mv (V rfl)) <| Og (Gn rfl rfl) (fun hg => FlB _ _ (V rfl) Un71 rfl 0 Sz3) <| Og (Gn rfl rfl) (fun hg => LdB (Vg (V rfl) hg) rfl Ga3 (by decide)) <| Og (Gn rfl rfl) (fun hg => Mv (V rfl)) <| Og (Gn rfl rfl) (fun hg => Ln (Vg (V rfl) hg) ts60) <| Og (Gn rfl rfl) (fun hg => Sb (Vg (V rfl) hg) K (by omega)) <| CQg (Gn rfl rfl) en70 (fun hg => (by exact ⟨⟨(Vg (V rfl) hg), rfl⟩, ⟨K, rfl⟩, ⟨(Vg (V rfl) hg), rfl⟩, Z⟩)) (fun hg => in_ct ((l.getD i default).mate) 0 (((l.length : Int)) - 1)) <| Og (Gn rfl rfl) (fun hg => Qo (Vg (V rfl) hg)) <| O (Qr (V rfl) (fun h => Vg (V rfl) (notT h))) <| O (As (V rfl)) <| Nq <| Cd (V rfl) (fun hc3 => ?_) (fun hc3 => ?_)
    ·have hc3s := hc3; try simp only [BL] at hc3s
     exact Sq <| Rq <| O (As K) <| Nq <| Rx <| R1 rfl (V rfl) rfl (by show iv (4) = iv (checkPo l fr); rw [firstErr_hit (by omega) hJ1.2 (po_4 (rpo_who.symm.trans hc3)) (by decide)])
    ·have hc3s := hc3; try simp only [BL] at hc3s
     have hw := poWho_no (rpo_who.symm.trans hc3)
     refine Sq <| Rq <| O (FlB _ _ (V rfl) Un71 rfl 0 Sz3) <| O (LdB (V rfl) rfl Ga3 (by decide)) <| O (Mv (V rfl)) <| O (Ql (V rfl) (V rfl)) <| O (Mv (V rfl)) <| Og (Gn rfl rfl) (fun hg => Mv (V rfl)) <| Og (Gn rfl rfl) (fun hg => FlB _ _ (V rfl) Un71 rfl 0 Sz3) <| Og (Gn rfl rfl) (fun hg => LdB (Vg (V rfl) hg) rfl Ga3 (by decide)) <| Og (Gn rfl rfl) (fun hg => Ix (Vg (V rfl) hg) (Vg (V rfl) hg) ts60 te60 (by omega) (by omega)) <| Og (Gn rfl rfl) (fun hg => Fl _ _ (Vg (V rfl) hg) Un71 rfl 0 Sz3) <| Og (Gn rfl rfl) (fun hg => Ld (Vg (V rfl) hg) Ga3 (by decide)) <| Og (Gn rfl rfl) (fun hg => Mv (V rfl)) <| Og (Gn rfl rfl) (fun hg => Qn (Vg (V rfl) hg) (Vg (V rfl) hg)) <| O (Qr (V rfl) (fun h => Vg (V rfl) (notT h))) <| O (As (V rfl)) <| Nq <| Cd (V rfl) (fun hc4 => ?_) (fun hc4 => ?_)
     ·have hc4s := hc4; try simp only [BL] at hc4s
      exact Sq <| Rq <| O (As K) <| Nq <| Rx <| R1 rfl (V rfl) rfl (by show iv (3) = iv (checkPo l fr); rw [firstErr_hit (by omega) hJ1.2 (po_3 (rpo_who.symm.trans hc3) hc4) (by decide)])
     ·have hc4s := hc4; try simp only [BL] at hc4s
      refine Sq <| Rq <| O (FlB _ _ (V rfl) Un71 rfl 0 Sz3) <| O (LdB (V rfl) rfl Ga3 (by decide)) <| CQ en70 (by exact ⟨⟨(V rfl), rfl⟩, ⟨K, rfl⟩, ⟨K, rfl⟩, Z⟩) (in_ct ((l.getD i default).turn) 0 1000) <| O (Qo (V rfl)) <| O (As (V rfl)) <| Nq <| Cd (V rfl) (fun hc5 => ?_) (fun hc5 => ?_)
      ·have hc5s := hc5; try simp only [BL] at hc5s
       exact Sq <| Rq <| O (As K) <| Nq <| Rx <| R1 rfl (V rfl) rfl (by show iv (2) = iv (checkPo l fr); rw [firstErr_hit (by omega) hJ1.2 (po_2 (rpo_who.symm.trans hc3) hc4 (rpo_turn.symm.trans hc5)) (by decide)])
      ·have hc5s := hc5; try simp only [BL] at hc5s
       refine Sq <| Rq <| O (FlB _ _ (V rfl) Un71 rfl 0 Sz59) <| O (LdB (V rfl) rfl Ga59 (by decide)) <| O (Ln (V rfl) ts59) <| O (Gt (V rfl) K) <| O (Mv (V rfl)) <| Og (Gn rfl rfl) (fun hg => FlB _ _ (V rfl) Un71 rfl 0 Sz59) <| Og (Gn rfl rfl) (fun hg => LdB (Vg (V rfl) hg) rfl Ga59 (by decide)) <| Og (Gn rfl rfl) (fun hg => Ln (Vg (V rfl) hg) ts59) <| Og (Gn rfl rfl) (fun hg => Gt (Vg (V rfl) hg) K) <| Og (Gn rfl rfl) (fun hg => Mv (Vg (V rfl) hg)) <| Og (Gyy rfl rfl) (fun hg => FlB _ _ (V rfl) Un71 rfl 0 Sz4) <| Og (Gyy rfl rfl) (fun hg => LdB (Vg (V rfl) hg) rfl Ga4 (by decide)) <| Og (Gn rfl rfl) (fun hg => Qa (Vg (V rfl) hg) (fun h => Vg (V rfl) (andI hg h))) <| O (Qr (V rfl) (fun h => Vg (V rfl) (notT h))) <| O (As (V rfl)) <| Nq <| Cd (V rfl) (fun hc6 => ?_) (fun hc6 => ?_)
       ·have hc6s := hc6; try simp only [BL] at hc6s
        exact Sq <| Rq <| O (As K) <| Nq <| Rx <| R1 rfl (V rfl) rfl (by show iv (1) = iv (checkPo l fr); rw [firstErr_hit (by omega) hJ1.2 (po_1 (rpo_who.symm.trans hc3) hc4 (rpo_turn.symm.trans hc5) (rpo_many.symm.trans hc6)) (by decide)])
       ·have hc6s := hc6; try simp only [BL] at hc6s
        refine Sk <| Sq <| Rq <| O (FlB _ _ (V rfl) Un71 rfl 0 Sz59) <| O (LdB (V rfl) rfl Ga59 (by decide)) <| O (Ln (V rfl) ts59) <| O (Mv K) <| Nq <| Bo <| Lo (fun (j : Nat) => ⟨[(0, ptRow l), (1, iv (fr)), (13, ptRow l), (14, iv ((l.length : Int))), (15, iv ((i : Int))), (71, gsRow ((l.getD i default).came)), (72, iv ((((l.getD i default).came).length : Int))), (73, iv ((j : Int)))], []⟩) (fun (j : Nat) => j ≤ (l.getD i default).came.length ∧ poErr l fr i = firstErr (gErr (l.getD i default).came) j ((l.getD i default).came.length - j)) (fun (j : Nat) => (l.getD i default).came.length - j) 0 (by show 0 ≤ (l.getD i default).came.length ∧ poErr l fr i = firstErr (gErr (l.getD i default).came) 0 ((l.getD i default).came.length - 0); exact ⟨Nat.zero_le _, po_s (rpo_who.symm.trans hc3) hc4 (rpo_turn.symm.trans hc5) (rpo_many.symm.trans hc6)⟩) (We (Vs rfl) Z) <| ?_
        ·rintro j hI2
         have hJ2 : j ≤ (l.getD i default).came.length ∧ poErr l fr i = firstErr (gErr (l.getD i default).came) j ((l.getD i default).came.length - j) := hI2
         refine Sq <| Rq <| O (Lt (V rfl) (V rfl)) <| Nq <| Sq <| Cd (V rfl) (fun hc7 => ?_) (fun hc7 => ?_)
         ·have hc7s := hc7; try simp only [BL] at hc7s
          refine Sk <| Sq <| Bo <| Sq <| Rt <| U (IxN (i := j) (V rfl) (V rfl) ts59 te59 (by omega)) <| U (LdA (V rfl) Ga35 Sz35 (by decide)) <| Al 2 zero35 rfl rfl <| StA (V rfl) rfl (V rfl) Sz35 <| Nt <| Sq <| Rq <| O (LBA (V rfl) rfl Ga35 Sz35 (by decide)) <| CQ en33 (by exact ⟨⟨(Vi (g' := grG ((((l.getD i default).came).getD j []))) (V rfl) ⟨Z, Ir⟩), rfl⟩, Z⟩) (rgcheck_ct ((((l.getD i default).came).getD j []))) <| O (As (V rfl)) <| Nq <| Sq <| Rq <| O (Mv (V rfl)) <| O (Qn (V rfl) K) <| Nq <| Cd (V rfl) (fun hc8 => ?_) (fun hc8 => ?_)
          ·have hc8s := hc8; try simp only [BL] at hc8s
           exact Sq <| Rq <| O (Mv (V rfl)) <| O (As (V rfl)) <| Nq <| Rx <| R1 rfl (V rfl) rfl (by show iv (checkGr ((((l.getD i default).came).getD j []))) = iv (checkPo l fr); rw [firstErr_hit (by omega) hJ1.2 (firstErr_hit (by omega) hJ2.2 rfl hc8s) hc8s]; rfl)
          ·have hc8s := hc8; try simp only [BL] at hc8s
           exact Sk <| Rq <| O (Ad (V rfl) K (by omega)) <| O (Mv (V rfl)) <| Nq <| Nx (j + 1) (by show (j + 1) ≤ (l.getD i default).came.length ∧ poErr l fr i = firstErr (gErr (l.getD i default).came) (j + 1) ((l.getD i default).came.length - (j + 1)); exact ⟨by omega, firstErr_next (by omega) hJ2.2 hc8s⟩) (by show (l.getD i default).came.length - (j + 1) < (l.getD i default).came.length - j; omega) (We (Vs rfl) Z)
         ·have hc7s := hc7; try simp only [BL] at hc7s
          exact Ex <| Rq <| O (Ad (V rfl) K (by omega)) <| O (Mv (V rfl)) <| Nq <| Nx (i + 1) (by show (i + 1) ≤ l.length ∧ checkPo l fr = firstErr (poErr l fr) (i + 1) (l.length - (i + 1)); exact ⟨by omega, firstErr_next (by omega) hJ1.2 (by rw [hJ2.2, Nat.sub_eq_zero_of_le (by omega)]; rfl)⟩) (by show l.length - (i + 1) < l.length - i; omega) (We (Vs rfl) Z)
   ·have hc2s := hc2; try simp only [BL] at hc2s
    exact Ex <| Sq <| Rq <| O (As K) <| Nq <| Rx <| R1 rfl (V rfl) rfl (by show iv (0) = iv (checkPo l fr); rw [firstErr_end (by omega) hJ1.2])

end Go.Proofs.Ytghkpailmdlhgaa
