import Derived.Test.YtghkpailmdlhgaaW23
import Derived.Test.YtghkpailmdlhgaaFq
set_option linter.unusedVariables false
set_option linter.unusedSimpArgs false
namespace Go.Proofs.Ytghkpailmdlhgaa
open Go.RowKit Go.Eng
/-- glasshouse/glasshouseref.PortPassed -/
theorem rppass_ct (l : List Pt) (fr k o t : Int) (to th : Int) : Ct Try.prog 57 [ptRow l, iv (fr), iv (k), iv (o), iv (t), iv (to), iv (th)] (sv2 (ptRow (passR l fr k o t to th).1) (iv (passR l fr k o t to th).2)) := by
 exact CtO 25 Try.func57 rfl rfl rfl fun E => Rl (V (s := 0) rfl) fun hl0 => Sq <| Rt <| Bx1 1 (V rfl) rfl rfl rfl <| Bx1 2 (V rfl) rfl rfl rfl <| Bx1 3 (V rfl) rfl rfl rfl <| Bx1 4 (V rfl) rfl rfl rfl <| U (As (Vn (k := 5) (get := rowG ptCell default []))) <| U (As K) <| Nt <| Sq <| Rt <| U (Mv (V rfl)) <| U (LdB (V rfl) rfl Ga3 (by decide)) <| U (LdB (V rfl) rfl Ga3 (by decide)) <| U (Mv (V rfl)) <| U (Mv (V rfl)) <| U (Mk (caps := [SV.bp 3 0, SV.bp 1 0, SV.bp 4 0, SV.bp 2 0]) ⟨(V rfl), (V rfl), (V rfl), (V rfl), Z⟩) <| t_frzB 3 [iv (to)] rfl rfl ⟨Z, rfl⟩ rfl <| t_frzB 1 [iv (fr)] rfl rfl ⟨Z, rfl⟩ rfl <| t_frzB 4 [iv (th)] rfl rfl ⟨Z, rfl⟩ rfl <| t_frzB 2 [iv (k)] rfl rfl ⟨Z, rfl⟩ rfl <| CT en77 (by exact ⟨⟨(V rfl), rfl⟩, ⟨(V rfl), rfl⟩, ⟨(V rfl), rfl⟩, ⟨(V rfl), rfl⟩, ⟨(V rfl), rfl⟩, ⟨(VA (VF [elB [iv (to)] 0, elB [iv (fr)] 0, elB [iv (th)] 0, elB [iv (k)] 0] ((V rfl)) (An rfl)) rfl), rfl⟩, Z⟩) (chPass_ct l fr k o t to th) <| U (Xt (V rfl) (by decide)) <| U (Xt (V rfl) (by decide)) <| U (As (V rfl)) <| U (As (V rfl)) <| Nt <| Rx <| R2 rfl (V rfl) (V rfl) rfl rfl (by show sv2 (ptRow ((changedR l fr k o t (doPass l fr to th (Int.toNat k))).1)) (iv ((changedR l fr k o t (doPass l fr to th (Int.toNat k))).2)) = sv2 (ptRow (passR l fr k o t to th).1) (iv (passR l fr k o t to th).2); rw [passR_eq])

/-- glasshouse/glasshouseref.PortPushed -/
theorem rppush_ct (l : List Pt) (fr k o t : Int) (g : List Cl) : Ct Try.prog 58 [ptRow l, iv (fr), iv (k), iv (o), iv (t), SV.agg 1 (grG g)] (sv2 (ptRow (pushR l fr k o t g).1) (iv (pushR l fr k o t g).2)) := by
 exact CtO 23 Try.func58 rfl rfl rfl fun E => Rl (V (s := 0) rfl) fun hl0 => Sq <| Rt <| Bx1 1 (V rfl) rfl rfl rfl <| BxA 2 (V rfl) rfl rfl <| U (As (Vn (k := 5) (get := rowG ptCell default []))) <| U (As K) <| Nt <| Sq <| Rt <| U (Mv (V rfl)) <| U (Mv (V rfl)) <| U (LdB (V rfl) rfl Ga3 (by decide)) <| U (Mv (V rfl)) <| U (Mv (V rfl)) <| U (Mk (caps := [SV.bp 2 0, SV.bp 1 0]) ⟨(V rfl), (V rfl), Z⟩) <| t_frzB 2 [clRow g] rfl rfl ⟨Z, rfl⟩ rfl <| t_frzB 1 [iv (k)] rfl rfl ⟨Z, rfl⟩ rfl <| CT en77 (by exact ⟨⟨(V rfl), rfl⟩, ⟨(V rfl), rfl⟩, ⟨(V rfl), rfl⟩, ⟨(V rfl), rfl⟩, ⟨(V rfl), rfl⟩, ⟨(VA (VF [elB [clRow g] 0, elB [iv (k)] 0] ((V rfl)) (An rfl)) rfl), rfl⟩, Z⟩) (chPush_ct l fr k o t g) <| U (Xt (V rfl) (by decide)) <| U (Xt (V rfl) (by decide)) <| U (As (V rfl)) <| U (As (V rfl)) <| Nt <| Rx <| R2 rfl (V rfl) (V rfl) rfl rfl (by show sv2 (ptRow ((changedR l fr k o t (doPush l k g)).1)) (iv ((changedR l fr k o t (doPush l k g)).2)) = sv2 (ptRow (pushR l fr k o t g).1) (iv (pushR l fr k o t g).2); rw [pushR_eq])

/-- glasshouse/glasshouseref.PortShut -/
theorem rpshut_ct (l : List Pt) (fr k o t : Int)  : Ct Try.prog 60 [ptRow l, iv (fr), iv (k), iv (o), iv (t)] (sv2 (ptRow (shutR l fr k o t).1) (iv (shutR l fr k o t).2)) := by
 exact CtO 21 Try.func60 rfl rfl rfl fun E => Rl (V (s := 0) rfl) fun hl0 => Sq <| Rt <| Bx1 1 (V rfl) rfl rfl rfl <| U (As (Vn (k := 5) (get := rowG ptCell default []))) <| U (As K) <| Nt <| Sq <| Rt <| U (Mv (V rfl)) <| U (Mv (V rfl)) <| U (LdB (V rfl) rfl Ga3 (by decide)) <| U (Mv (V rfl)) <| U (Mv (V rfl)) <| U (Mk (caps := [SV.bp 1 0]) ⟨(V rfl), Z⟩) <| t_frzB 1 [iv (k)] rfl rfl ⟨Z, rfl⟩ rfl <| CT en77 (by exact ⟨⟨(V rfl), rfl⟩, ⟨(V rfl), rfl⟩, ⟨(V rfl), rfl⟩, ⟨(V rfl), rfl⟩, ⟨(V rfl), rfl⟩, ⟨(VA (VF [elB [iv (k)] 0] ((V rfl)) (An rfl)) rfl), rfl⟩, Z⟩) (chShut_ct l fr k o t) <| U (Xt (V rfl) (by decide)) <| U (Xt (V rfl) (by decide)) <| U (As (V rfl)) <| U (As (V rfl)) <| Nt <| Rx <| R2 rfl (V rfl) (V rfl) rfl rfl (by show sv2 (ptRow ((changedR l fr k o t ((shutL l (Int.toNat k), (0 : Int)))).1)) (iv ((changedR l fr k o t ((shutL l (Int.toNat k), (0 : Int)))).2)) = sv2 (ptRow (shutR l fr k o t).1) (iv (shutR l fr k o t).2); rw [shutR_eq])

/-- glasshouse/glasshouseref.changed -/
theorem chPull_ct (l : List Pt) (fr k o t : Int) (x : List Cl) : CtM Try.prog 77 [ptRow l, iv (fr), iv (k), iv (o), iv (t), fnL 80 [SV.bp 1002 0, SV.bp 1001 0]] [(1001, Own.box 1 (grG x) 35), (1002, Own.box 1 (fun _ => iv k) 3)] (sv2 (ptRow ((changedR l fr k o t (dpl l k x)).1)) (iv ((changedR l fr k o t (dpl l k x)).2))) [(1001, Own.box 1 (grG (chG l fr k o t x)) 35), (1002, Own.box 1 (fun _ => iv k) 3)] := by
 refine CmO 66 Try.func77 rfl rfl rfl fun E => Rl (V (s := 0) rfl) fun hl0 => Sq <| Rq <| O (As (Vn (k := 5) (get := rowG ptCell default []))) <| O (As K) <| Nq <| Sq <| Rq <| O (Mv (V rfl)) <| O (Mv (V rfl)) <| CQ en61 (by exact ⟨⟨(V rfl), rfl⟩, ⟨(V rfl), rfl⟩, Z⟩) (rpcheck_ct l fr) <| O (As (V rfl)) <| Nq <| Sq <| Bo <| Sq <| Rq <| O (Mv (V rfl)) <| O (Qn (V rfl) K) <| O (As (V rfl)) <| Nq <| Cd (V rfl) (fun hc1 => ?_) (fun hc1 => ?_)
 ·have hc1s := hc1; try simp only [BL] at hc1s
  refine Sk <| Sq <| Sq <| Rq <| O (Mv (V rfl)) <| O (Qn (V rfl) K) <| Nq <| Cd (V rfl) (fun hc2 => ?_) (fun hc2 => ?_)
  ·have hc2s := hc2; try simp only [BL] at hc2s
   exact Sq <| Rq <| O (Mv (V rfl)) <| O (As (Vn (k := 5) (get := rowG ptCell default []))) <| O (As (V rfl)) <| Nq <| Rx <| M2 rfl (V rfl) (V rfl) (by exact ⟨⟨_, rfl, ⟨rfl, rfl, ⟨Z, by first | (show clRow _ = clRow (chG l fr k o t x); rw [chG_bad (own_err hc1s) hc1s]) | rfl⟩⟩⟩, ⟨_, rfl, ⟨rfl, rfl, ⟨Z, by first | (show clRow _ = clRow (chG l fr k o t x); rw [chG_bad (own_err hc1s) hc1s]) | rfl⟩⟩⟩, Z⟩) (by show sv2 (ptRow ([])) (iv (checkPo l fr)) = sv2 (ptRow ((changedR l fr k o t (dpl l k x)).1)) (iv ((changedR l fr k o t (dpl l k x)).2)); rw [ch_bad (own_err hc1s) hc1s])
  ·have hc2s := hc2; try simp only [BL] at hc2s
   exact absurd hc2s hc1s
   --done
 ·have hc1s := hc1; try simp only [BL] at hc1s
  have hc0 := hc1s
  have h12 := checkPo_len hc0
  refine Sq <| Rq <| O (Mv (V rfl)) <| O (Mv (V rfl)) <| O (Ln (V rfl) ts60) <| O (Sb (V rfl) K (by omega)) <| CQ en70 (by exact ⟨⟨(V rfl), rfl⟩, ⟨K, rfl⟩, ⟨(V rfl), rfl⟩, Z⟩) (in_ct k 0 (((l.length : Int)) - 1)) <| O (Qo (V rfl)) <| O (As (V rfl)) <| Nq <| Cd (V rfl) (fun hc3 => ?_) (fun hc3 => ?_)
  ·have hc3s := hc3; try simp only [BL] at hc3s
   refine Rq <| O (As K) <| Nq <| Sq <| Sq <| Rq <| O (Mv (V rfl)) <| O (Qn (V rfl) K) <| Nq <| Cd (V rfl) (fun hc4 => ?_) (fun hc4 => ?_)
   ·have hc4s := hc4; try simp only [BL] at hc4s
    exact Sq <| Rq <| O (Mv (V rfl)) <| O (As (Vn (k := 5) (get := rowG ptCell default []))) <| O (As (V rfl)) <| Nq <| Rx <| M2 rfl (V rfl) (V rfl) (by exact ⟨⟨_, rfl, ⟨rfl, rfl, ⟨Z, by first | (show clRow _ = clRow (chG l fr k o t x); rw [chG_bad (own_4 hc1s hc3) (by decide)]) | rfl⟩⟩⟩, ⟨_, rfl, ⟨rfl, rfl, ⟨Z, by first | (show clRow _ = clRow (chG l fr k o t x); rw [chG_bad (own_4 hc1s hc3) (by decide)]) | rfl⟩⟩⟩, Z⟩) (by show sv2 (ptRow ([])) (iv (4)) = sv2 (ptRow ((changedR l fr k o t (dpl l k x)).1)) (iv ((changedR l fr k o t (dpl l k x)).2)); rw [ch_bad (own_4 hc1s hc3) (by decide)])
   ·exact absurd hc4 (by decide)
  ·have hc3s := hc3; try simp only [BL] at hc3s
   have hkb : 0 ≤ k ∧ k < (l.length : Int) := by rw [rown_k] at hc3; simp only [Bool.or_eq_false_iff, decide_eq_false_iff_not] at hc3; omega
   have hpp := po_parts hc0 (i := Int.toNat k) (by omega)
   have hmb := hpp.2.1
   have hqq := po_parts hc0 (i := Int.toNat (l.getD (Int.toNat k) default).mate) (by omega)
   have h16 := hpp.2.2.2.2.2.1
   refine Sq <| Rq <| O (Mv (V rfl)) <| O (Mv (V rfl)) <| O (Ix (V rfl) (V rfl) ts60 te60 (by omega) (by omega)) <| O (Fl _ _ (V rfl) Un71 rfl 0 Sz3) <| O (Ld (V rfl) Ga3 (by decide)) <| O (Mv (V rfl)) <| O (Qn (V rfl) (V rfl)) <| O (Mv (V rfl)) <| Og (Gn rfl rfl) (fun hg => Mv (V rfl)) <| Og (Gn rfl rfl) (fun hg => Mv (V rfl)) <| Og (Gn rfl rfl) (fun hg => Ix (Vg (V rfl) hg) (Vg (V rfl) hg) ts60 te60 (by omega) (by omega)) <| Og (Gn rfl rfl) (fun hg => Fl _ _ (Vg (V rfl) hg) Un71 rfl 0 Sz3) <| Og (Gn rfl rfl) (fun hg => Ld (Vg (V rfl) hg) Ga3 (by decide)) <| Og (Gn rfl rfl) (fun hg => Mv (V rfl)) <| Og (Gn rfl rfl) (fun hg => Qn (Vg (V rfl) hg) (Vg (V rfl) hg)) <| O (Qr (V rfl) (fun h => Vg (V rfl) (notT h))) <| O (As (V rfl)) <| Nq <| Cd (V rfl) (fun hc5 => ?_) (fun hc5 => ?_)
   ·have hc5s := hc5; try simp only [BL] at hc5s
    refine Rq <| O (As K) <| Nq <| Sq <| Sq <| Rq <| O (Mv (V rfl)) <| O (Qn (V rfl) K) <| Nq <| Cd (V rfl) (fun hc6 => ?_) (fun hc6 => ?_)
    ·have hc6s := hc6; try simp only [BL] at hc6s
     exact Sq <| Rq <| O (Mv (V rfl)) <| O (As (Vn (k := 5) (get := rowG ptCell default []))) <| O (As (V rfl)) <| Nq <| Rx <| M2 rfl (V rfl) (V rfl) (by exact ⟨⟨_, rfl, ⟨rfl, rfl, ⟨Z, by first | (show clRow _ = clRow (chG l fr k o t x); rw [chG_bad (own_7 hc1s hc3 hc5) (by decide)]) | rfl⟩⟩⟩, ⟨_, rfl, ⟨rfl, rfl, ⟨Z, by first | (show clRow _ = clRow (chG l fr k o t x); rw [chG_bad (own_7 hc1s hc3 hc5) (by decide)]) | rfl⟩⟩⟩, Z⟩) (by show sv2 (ptRow ([])) (iv (7)) = sv2 (ptRow ((changedR l fr k o t (dpl l k x)).1)) (iv ((changedR l fr k o t (dpl l k x)).2)); rw [ch_bad (own_7 hc1s hc3 hc5) (by decide)])
    ·exact absurd hc6 (by decide)
   ·have hc5s := hc5; try simp only [BL] at hc5s
    refine Sq <| Rq <| O (Mv (V rfl)) <| O (Mv (V rfl)) <| O (Ix (V rfl) (V rfl) ts60 te60 (by omega) (by omega)) <| O (Fl _ _ (V rfl) Un71 rfl 0 Sz4) <| O (Ld (V rfl) Ga4 (by decide)) <| O (As (V rfl)) <| Nq <| Cd (V rfl) (fun hc7 => ?_) (fun hc7 => ?_)
    ·have hc7s := hc7; try simp only [BL] at hc7s
     refine Rq <| O (As K) <| Nq <| Sq <| Sq <| Rq <| O (Mv (V rfl)) <| O (Qn (V rfl) K) <| Nq <| Cd (V rfl) (fun hc8 => ?_) (fun hc8 => ?_)
     ·have hc8s := hc8; try simp only [BL] at hc8s
      exact Sq <| Rq <| O (Mv (V rfl)) <| O (As (Vn (k := 5) (get := rowG ptCell default []))) <| O (As (V rfl)) <| Nq <| Rx <| M2 rfl (V rfl) (V rfl) (by exact ⟨⟨_, rfl, ⟨rfl, rfl, ⟨Z, by first | (show clRow _ = clRow (chG l fr k o t x); rw [chG_bad (own_5 hc1s hc3 hc5 hc7) (by decide)]) | rfl⟩⟩⟩, ⟨_, rfl, ⟨rfl, rfl, ⟨Z, by first | (show clRow _ = clRow (chG l fr k o t x); rw [chG_bad (own_5 hc1s hc3 hc5 hc7) (by decide)]) | rfl⟩⟩⟩, Z⟩) (by show sv2 (ptRow ([])) (iv (5)) = sv2 (ptRow ((changedR l fr k o t (dpl l k x)).1)) (iv ((changedR l fr k o t (dpl l k x)).2)); rw [ch_bad (own_5 hc1s hc3 hc5 hc7) (by decide)])
     ·exact absurd hc8 (by decide)
    ·have hc7s := hc7; try simp only [BL] at hc7s
     refine Sk <| Sq <| Sq <| Rq <| O (Mv (V rfl)) <| O (Qn (V rfl) K) <| Nq <| Cd (V rfl) (fun hc9 => ?_) (fun hc9 => ?_)
     ·have hc9s := hc9; try simp only [BL] at hc9s
      exact absurd hc1s hc9s
      --done
     ·have hc9s := hc9; try simp only [BL] at hc9s
      refine Sk <| Sq <| Rt <| t_bs0 1 (rowG ptCell default []) Un60 Sz71 rfl <| U (Mv (V rfl)) <| Ap 2 (rowG ptCell default (([]) ++ l)) eo60 (V rfl) rfl (V rfl) rfl (len_app ([]) l) (by first | (simp only [maxLen, List.length_append, List.length_set, List.length_nil, List.length_cons]; omega) | (simp only [maxLen]; omega)) (by first | (simp only [List.length_append, List.length_set, List.length_nil, List.length_cons]; omega) | (omega)) (app_typed (l := ([])) (m := l)) <| U (As (V rfl)) <| Nt <| Sq <| Sq <| Rt <| U (Mv (V rfl)) <| U (Mv (V rfl)) <| CMv (cargs := [SV.own 1000]) (caps := [SV.bp 1002 0, SV.bp 1001 0]) [(1000, 2), (1001, 1001), (1002, 1002)] [] (fnval_L (VF [SV.bp 1002 0, SV.bp 1001 0] ((V rfl)) (An rfl))) en80 (by exact ⟨(V rfl), Z⟩) (doPull_ct l k x (by omega) h16) (by exact ⟨⟨_, rfl, rfl⟩, ⟨_, rfl, ⟨rfl, rfl, (An rfl)⟩⟩, ⟨_, rfl, ⟨rfl, rfl, (An rfl)⟩⟩, Z⟩) rfl rfl rfl rfl <| U (As (V rfl)) <| Nt <| Sq <| Rq <| O (Mv (V rfl)) <| O (Qn (V rfl) K) <| Nq <| Cd (V rfl) (fun hc10 => ?_) (fun hc10 => ?_)
      ·have hc10s := hc10; try simp only [BL] at hc10s
       exact Sq <| Rq <| O (Mv (V rfl)) <| O (As (Vn (k := 5) (get := rowG ptCell default []))) <| O (As (V rfl)) <| Nq <| Rx <| M2 rfl (V rfl) (V rfl) (by exact ⟨⟨_, rfl, ⟨rfl, rfl, ⟨Z, by first | (show clRow _ = clRow (chG l fr k o t x); rw [chG_ok (own_0 hc1s hc3 hc5 hc7)]) | rfl⟩⟩⟩, ⟨_, rfl, ⟨rfl, rfl, ⟨Z, by first | (show clRow _ = clRow (chG l fr k o t x); rw [chG_ok (own_0 hc1s hc3 hc5 hc7)]) | rfl⟩⟩⟩, Z⟩) (by show sv2 (ptRow ([])) (iv ((doPull l k x).2.2)) = sv2 (ptRow ((changedR l fr k o t (dpl l k x)).1)) (iv ((changedR l fr k o t (dpl l k x)).2)); rw [ch_err (own_0 hc1s hc3 hc5 hc7) (by exact hc10s)]; rfl)
      ·have hc10s := hc10; try simp only [BL] at hc10s
       exact Sk <| Sq <| Rq <| O (Mv (V rfl)) <| O (As (V rfl)) <| O (As K) <| Nq <| FzC 2 rfl <| Rx <| M2 rfl (V rfl) (V rfl) (by exact ⟨⟨_, rfl, ⟨rfl, rfl, ⟨Z, by first | (show clRow _ = clRow (chG l fr k o t x); rw [chG_ok (own_0 hc1s hc3 hc5 hc7)]) | rfl⟩⟩⟩, ⟨_, rfl, ⟨rfl, rfl, ⟨Z, by first | (show clRow _ = clRow (chG l fr k o t x); rw [chG_ok (own_0 hc1s hc3 hc5 hc7)]) | rfl⟩⟩⟩, Z⟩) (by show sv2 (ptRow ((doPull l k x).1)) (iv (0)) = sv2 (ptRow ((changedR l fr k o t (dpl l k x)).1)) (iv ((changedR l fr k o t (dpl l k x)).2)); rw [ch_ok (own_0 hc1s hc3 hc5 hc7) (by exact hc10s)]; rfl)

end Go.Proofs.Ytghkpailmdlhgaa
