import Derived.Test.YtghkpailmdlhgaaFu
set_option linter.unusedVariables false
set_option linter.unusedSimpArgs false
namespace Go.Proofs.Ytghkpailmdlhgaa
open Go.RowKit Go.Eng
/-- slices.Equal[[]int,int] -/
theorem equal_ct (l m : List Int) : Ct Try.prog 17 [inRow l, inRow m] (bv (eqInt l m)) := by
 refine CtO 26 Try.func17 rfl rfl rfl fun E => Rl (V (s := 0) rfl) fun hl0 => Rl (V (s := 1) rfl) fun hl1 => Sq <| Rq <| O (As K) <| Nq <| Sq <| Sq <| Rq <| O (Mv (V rfl)) <| O (Ln (V rfl) ts24) <| O (Mv (V rfl)) <| O (Ln (V rfl) ts24) <| O (Qn (V rfl) (V rfl)) <| Nq <| Cd (V rfl) (fun hc1 => ?_) (fun hc1 => ?_)
 ·have hc1s := hc1; try simp only [BL] at hc1s
  exact Sq <| Rq <| O (As K) <| Nq <| Rx <| R1 rfl (V rfl) rfl (by show bv (false) = bv (eqInt l m); rw [eqInt, decide_eq_false (fun h => by rw [h] at hc1s; simp at hc1s)])
 ·have hc1s := hc1; try simp only [BL] at hc1s
  refine Sk <| Sq <| Sq <| Rq <| O (Mv (V rfl)) <| O (Ln (V rfl) ts24) <| O (Mv K) <| Nq <| Bo <| Lo (fun (i : Nat) => ⟨[(0, inRow l), (1, inRow m), (12, iv ((l.length : Int))), (13, iv ((i : Int)))], []⟩) (fun (i : Nat) => i ≤ l.length ∧ samePre 0 l m i) (fun (i : Nat) => l.length - i) 0 (by show 0 ≤ l.length ∧ samePre 0 l m 0; exact ⟨Nat.zero_le _, samePre_0 (by omega)⟩) (We (Vs rfl) Z) <| ?_
  ·rintro i hI1
   have hJ1 : i ≤ l.length ∧ samePre 0 l m i := hI1
   have hlm := hJ1.2.1
   refine Sq <| Rq <| O (Lt (V rfl) (V rfl)) <| Nq <| Sq <| Cd (V rfl) (fun hc2 => ?_) (fun hc2 => ?_)
   ·have hc2s := hc2; try simp only [BL] at hc2s
    refine Sk <| Sq <| Bo <| Sq <| Rq <| O (Mv (V rfl)) <| O (As (V rfl)) <| Nq <| Sq <| Rqd (by kernel_rfl) (by kernel_rfl) <| O (Mv (V rfl)) <| O (Mv (V rfl)) <| O (IxN (i := i) (V rfl) (V rfl) ts24 te24 (by omega)) <| O (Ld (V rfl) Ga3 (by decide)) <| O (Mv (V rfl)) <| O (Mv (V rfl)) <| O (IxN (i := i) (V rfl) (V rfl) ts24 te24 (by omega)) <| O (Ld (V rfl) Ga3 (by decide)) <| O (Qn (V rfl) (V rfl)) <| Nq <| Cd (V rfl) (fun hc3 => ?_) (fun hc3 => ?_)
    ·have hc3s := hc3; try simp only [BL] at hc3s
     exact Sq <| Rq <| O (As K) <| Nq <| Rx <| R1 rfl (V rfl) rfl (by show bv (false) = bv (eqInt l m); rw [eqInt, decide_eq_false (samePre_ne (i := i) (d := 0) (by simpa using hc3))])
    ·have hc3s := hc3; try simp only [BL] at hc3s
     exact Sk <| Rq <| O (Ad (V rfl) K (by omega)) <| O (Mv (V rfl)) <| Nq <| Nx (i + 1) (by show (i + 1) ≤ l.length ∧ samePre 0 l m (i + 1); exact ⟨by omega, samePre_s hJ1.2 (by simpa using hc3)⟩) (by show l.length - (i + 1) < l.length - i; omega) (We (Vs rfl) Z)
   ·have hc2s := hc2; try simp only [BL] at hc2s
    exact Ex <| Sq <| Rq <| O (As K) <| Nq <| Rx <| R1 rfl (V rfl) rfl (by show bv (true) = bv (eqInt l m); rw [eqInt, decide_eq_true (samePre_eq hJ1.2 (by omega))])

/-- glasshouse/glasshouseref.in -/
theorem in_ct (x lo hi : Int) : Ct Try.prog 70 [iv (x), iv (lo), iv (hi)] (bv (inI x lo hi)) := by
 exact CtO 15 Try.func70 rfl rfl rfl fun E => Sq <| Rq <| O (As K) <| Nq <| Sq <| Rq <| O (Mv (V rfl)) <| O (Mv (V rfl)) <| O (Le (V rfl) (V rfl)) <| O (Mv (V rfl)) <| Og (Gy rfl rfl) (fun hg => Mv (V rfl)) <| Og (Gy rfl rfl) (fun hg => Mv (V rfl)) <| Og (Gy rfl rfl) (fun hg => Le (Vg (V rfl) hg) (Vg (V rfl) hg)) <| O (Qa (V rfl) (fun h => Vg (V rfl) h)) <| O (As (V rfl)) <| Nq <| Rx <| R1 rfl (V rfl) rfl (by show bv ((decide (lo ≤ x)) && (decide (x ≤ hi))) = bv (inI x lo hi); rfl)

end Go.Proofs.Ytghkpailmdlhgaa
