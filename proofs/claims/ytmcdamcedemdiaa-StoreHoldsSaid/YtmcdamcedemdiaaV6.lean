import Derived.Test.YtmcdamcedemdiaaV5
import Derived.Test.YtmcdamcedemdiaaB5
set_option linter.unusedVariables false
set_option linter.unusedSimpArgs false
namespace Go.Proofs.Ytmcdamcedemdiaa
open Go.RowKit Go.Eng
/-- slices.IndexFunc[[]int,int] -/
theorem idxf129_ct {f : FuncId} {caps : List SV} (p : Int → Bool) (hE : Enters Try.prog f) (hro : allRO caps = true) (hC : ∀ x, Ct Try.prog f ([iv x] ++ caps) (bv (p x))) (l : List Int) : Ct Try.prog 129 [inRow l, fnA f caps] (iv (idxF p l)) := by
 refine CtO 19 Try.func129 rfl rfl rfl fun E => Rl (V (s := 0) rfl) fun hl0 => Sq <| Rq <| O (As K) <| Nq <| Sq <| Sq <| Rq <| O (Mv (V rfl)) <| O (Ln (V rfl) ts33) <| O (Mv K) <| Nq <| Bo <| Lo (fun (i : Nat) => ⟨[(0, inRow l), (1, fnA f caps), (7, iv ((l.length : Int))), (8, iv ((i : Int)))], []⟩) (fun (i : Nat) => i ≤ l.length ∧ ∀ j, j < i → p (l.getD j 0) = false) (fun (i : Nat) => l.length - i) 0 (by show 0 ≤ l.length ∧ ∀ j, j < 0 → p (l.getD j 0) = false; exact ⟨Nat.zero_le _, fun j hj => absurd hj (Nat.not_lt_zero _)⟩) (We (Vs rfl) Z) <| ?_
 ·rintro i hI1
  have hJ1 : i ≤ l.length ∧ ∀ j, j < i → p (l.getD j 0) = false := hI1
  have hi1 := hJ1.1
  have hall := hJ1.2
  refine Sq <| Rq <| O (Lt (V rfl) (V rfl)) <| Nq <| Sq <| Cd (V rfl) (fun hc1 => ?_) (fun hc1 => ?_)
  ·have hc1s := hc1; try simp only [BL] at hc1s
   refine Sk <| Sq <| Bo <| Sq <| Rq <| O (Mv (V rfl)) <| O (As (V rfl)) <| Nq <| Sq <| Rq <| O (Mv (V rfl)) <| O (Mv (V rfl)) <| O (Mv (V rfl)) <| O (IxN (i := i) (V rfl) (V rfl) ts33 te33 (by clear hall hJ1 hI1; omega)) <| O (Ld (V rfl) Ga3 (by decide)) <| CQv (args := [iv ((l.getD i 0))]) (caps := caps) (fnval_A (V rfl)) hro hE (by exact ⟨⟨(V rfl), rfl⟩, Z⟩) (hC (l.getD i 0)) <| Nq <| Cd (V rfl) (fun hc2 => ?_) (fun hc2 => ?_)
   ·have hc2s := hc2; try simp only [BL] at hc2s
    exact Sq <| Rq <| O (Mv (V rfl)) <| O (As (V rfl)) <| Nq <| Rx <| R1 rfl (V rfl) rfl (by show iv ((i : Int)) = iv (idxF p l); rw [idxF_hit 0 (by clear hall hJ1 hI1; omega) hall hc2])
   ·have hc2s := hc2; try simp only [BL] at hc2s
    exact Sk <| Rq <| O (Ad (V rfl) K (by clear hall hJ1 hI1; omega)) <| O (Mv (V rfl)) <| Nq <| Nx (i + 1) (by show (i + 1) ≤ l.length ∧ ∀ j, j < (i + 1) → p (l.getD j 0) = false; exact ⟨by clear hall hJ1 hI1; omega, idxF_s hall hc2⟩) (by show l.length - (i + 1) < l.length - i; clear hall hJ1 hI1; omega) (We (Vs rfl) Z)
  ·have hc1s := hc1; try simp only [BL] at hc1s
   exact Ex <| Sq <| Rq <| O (As K) <| Nq <| Rx <| R1 rfl (V rfl) rfl (by show iv ((-1)) = iv (idxF p l); rw [idxF_none 0 hall (by clear hall hJ1 hI1; omega)])

/-- slices.DeleteFunc[[]int,int] -/
theorem del60_ct {f : FuncId} {caps : List SV} (p : Int → Bool) (hE : Enters Try.prog f) (hro : allRO caps = true) (hC : ∀ x, Ct Try.prog f ([iv x] ++ caps) (bv (p x))) (l : List Int) (hl : l.length ≤ 1000000000) : CtM Try.prog 60 [SV.own 1000, fnA f caps] [(1000, ownOf inCell 1 0 l 3)] (SV.own 0) [(0, ownOf inCell 1 0 (l.filter fun x => !p x) 3)] := by
 refine CmO 42 Try.func60 rfl rfl rfl fun E => Sq <| Rq <| O (As (Vn (k := 1) (get := rowG inCell 0 []))) <| Nq <| Sq <| Rq <| O (Mv (V rfl)) <| O (Mv (V rfl)) <| CQb en129 (by exact ⟨(vb_own (V rfl) rfl), (vb_ro (V rfl) rfl), Z⟩) (idxf129_ct p hE hro hC l) <| O (As (V rfl)) <| Nq <| Sq <| Sq <| Rq <| O (Mv (V rfl)) <| O (Ql (V rfl) K) <| Nq <| Cd (V rfl) (fun hc1 => ?_) (fun hc1 => ?_)
 ·have hc1s := hc1; try simp only [BL] at hc1s
  exact Sq <| Rq <| O (Mv (V rfl)) <| O (As (V rfl)) <| Nq <| c_mv 1000 0 rfl rfl <| c_ownE 0 (l.filter fun x => !p x) rfl (by exact del_none hc1s 0) <| Rx <| M1 rfl (V rfl) (by exact ⟨⟨_, rfl, rfl⟩, Z⟩) (by show SV.own 0 = SV.own 0; rfl)
 ·have hc1s := hc1; try simp only [BL] at hc1s
  obtain ⟨i0, he0, hi0, hp0, hall0⟩ := (idxF_cases p 0 l).resolve_left fun h => hc1s h.1
  refine Sk <| Sq <| Sq <| Rq <| O (Mv (V rfl)) <| O (Ad (V rfl) K (by first | omega | (rw [he0]; omega))) <| O (As (V rfl)) <| Nq <| Bo <| c_ownE 1000 (delA p l ((i0 + 1))) rfl (by exact delA_0 0 hi0 hp0 hall0) <| Lo (fun (j : Nat) => ⟨[(0, SV.own 1000), (1, fnA f caps), (5, iv (((keptL p l j).length : Int))), (6, iv ((j : Int)))], [(1000, ownOf inCell 1 0 (delA p l j) 3)]⟩) (fun (j : Nat) => j ≤ l.length) (fun (j : Nat) => l.length - j) (i0 + 1) (by show (i0 + 1) ≤ l.length; show i0 + 1 ≤ l.length; omega) (We (sl := [(0, SV.own 1000), (1, fnA f caps), (5, iv (((keptL p l ((i0 + 1))).length : Int))), (6, iv (((i0 + 1) : Int)))]) (by exact ⟨V rfl, V rfl, val_eq (V rfl) (congrArg iv (he0.trans (by rw [kept_0 0 hi0 hp0 hall0, List.length_take, Nat.min_eq_left (Nat.le_of_lt hi0)]))), val_eq (V rfl) (congrArg iv (by rw [he0])), Z⟩) (AOs rfl)) <| ?_
  ·rintro j hI1
   have hJ1 : j ≤ l.length := hI1
   have hjl := hJ1
   have hdl := delA_len p l j
   have hkl := kept_le p l j
   refine Sq <| Sq <| Rq <| O (Mv (V rfl)) <| O (Mv (V rfl)) <| O (LnO (V rfl) rfl ts33) <| O (Lt (V rfl) (V rfl)) <| Nq <| Cd (V rfl) (fun hc2 => ?_) (fun hc2 => ?_)
   ·have hc2s := hc2; try simp only [BL] at hc2s
    have hjj : j < l.length := by omega
    refine Sk <| Sq <| Bo <| Sq <| Rq <| O (Mv (V rfl)) <| O (Mv (V rfl)) <| O (IOn (i := j) (V rfl) rfl (V rfl) ts33 te33 (by omega)) <| O (LdO (V rfl) rfl Ga3 (by decide)) <| O (As (V rfl)) <| Nq <| Sq <| Rq <| O (Mv (V rfl)) <| O (Mv (V rfl)) <| CQv (args := [iv (((delA p l j).getD j 0))]) (caps := caps) (fnval_A (V rfl)) hro hE (by exact ⟨⟨(V rfl), rfl⟩, Z⟩) (hC (((delA p l j).getD j 0))) <| O (Qo (V rfl)) <| Nq <| Cd (V rfl) (fun hc3 => ?_) (fun hc3 => ?_)
    ·have hc3s := hc3; try simp only [BL] at hc3s
     have hpj : p (l.getD j 0) = false := by rw [delA_at 0 hjj] at hc3; simpa using hc3
     refine Sq <| Rt <| U (Mv (V rfl)) <| U (Mv (V rfl)) <| U (Mv (V rfl)) <| U (IOn (i := (keptL p l j).length) (V rfl) rfl (V rfl) ts33 te33 (by omega)) <| ?_
     have hidx0 : (keptL p l j).length < (delA p l j).length := by omega
     exact StO (rowG inCell 0 ((delA p l j).set ((keptL p l j).length) (((delA p l j).getD j 0)))) (V rfl) rfl (V rfl) rfl rfl Sz3 (by decide) (show (delA p l j).length = ((delA p l j).set ((keptL p l j).length) (((delA p l j).getD j 0))).length from List.length_set.symm) (set_at hidx0 rfl) (set_typed hidx0 fun t ht hne => match t, ht, hne with | 0, _, hne => absurd rfl hne) <| Nt <| Rq <| O (Mv (V rfl)) <| O (Ad (V rfl) K (by first | omega | (rw [he0]; omega))) <| O (As (V rfl)) <| Nq <| Rq <| O (Mv (V rfl)) <| O (Ad (V rfl) K (by first | omega | (rw [he0]; omega))) <| O (As (V rfl)) <| Nq <| k_ownE 1000 (delA p l ((j + 1))) rfl (by rw [delA_at 0 hjj]; exact delA_no 0 hjj hpj) <| Nx (j + 1) (by show (j + 1) ≤ l.length; omega) (by show l.length - (j + 1) < l.length - j; omega) (We (sl := [(0, SV.own 1000), (1, fnA f caps), (5, iv (((keptL p l ((j + 1))).length : Int))), (6, iv (((j + 1) : Int)))]) (by exact ⟨V rfl, V rfl, val_eq (V rfl) (congrArg iv (by rw [kept_no 0 hjj hpj, List.length_append]; rfl)), V rfl, Z⟩) (AOs rfl))
    ·have hc3s := hc3; try simp only [BL] at hc3s
     have hpj : p (l.getD j 0) = true := by rw [delA_at 0 hjj] at hc3; simpa using hc3
     exact Sk <| Rq <| O (Mv (V rfl)) <| O (Ad (V rfl) K (by first | omega | (rw [he0]; omega))) <| O (As (V rfl)) <| Nq <| k_ownE 1000 (delA p l ((j + 1))) rfl (by exact delA_yes 0 hjj hpj) <| Nx (j + 1) (by show (j + 1) ≤ l.length; omega) (by show l.length - (j + 1) < l.length - j; omega) (We (sl := [(0, SV.own 1000), (1, fnA f caps), (5, iv (((keptL p l ((j + 1))).length : Int))), (6, iv (((j + 1) : Int)))]) (by exact ⟨V rfl, V rfl, val_eq (V rfl) (congrArg iv (by rw [kept_yes 0 hjj hpj])), V rfl, Z⟩) (AOs rfl))
   ·have hc2s := hc2; try simp only [BL] at hc2s
    exact Ex <| Sq <| Rt <| U (Mv (V rfl)) <| U (Mv (V rfl)) <| U (q_slOL ts33 te33 (V rfl) rfl (V rfl) (by omega) (by first | omega | (rw [ovr_len (by rw [List.length_replicate]; omega)]; omega))) <| t_clrT 0 Un33 zero3 (V rfl) rfl (by decide) (by omega) ⟨Z, impO_rfl⟩ <| Nt <| Sq <| Rq <| O (Mv (V rfl)) <| O (Mv (V rfl)) <| O (q_slOH ts33 te33 (V rfl) rfl (V rfl) (by omega) (by first | omega | (rw [ovr_len (by rw [List.length_replicate]; omega)]; omega))) <| O (As (V rfl)) <| Nq <| Tc (turn_cutT 4 1000 1 ((keptL p l j).length) rfl rfl (by rw [ovr_len (by rw [List.length_replicate]; omega)]; omega) rfl (by decide)) <| c_mv 1 0 rfl rfl <| c_ownE 0 (l.filter fun x => !p x) rfl (by exact del_end (by omega) _) <| Rx <| M1 rfl (V rfl) (by exact ⟨⟨_, rfl, rfl⟩, Z⟩) (by show SV.own 0 = SV.own 0; rfl)

/-- math/bits.Mul64 -/
theorem mul64_ct (n : Nat) (hn : n ≤ 24) : Ct Try.prog 149 [SV.v (Value.int .u64 (1)), SV.v (Value.int .u64 ((n : Int)))] (sv2 (SV.v (Value.int .u64 0)) (SV.v (Value.int .u64 (n : Int)))) := by
 refine CtO 51 Try.func149 rfl rfl rfl fun E => Sq <| Rq <| O (As K) <| O (As K) <| Nq <| Sq <| Rq <| O (Mv (V rfl)) <| O (q_and64 (V rfl) K) <| O (As (V rfl)) <| Nq <| Sq <| Rq <| O (Mv (V rfl)) <| O (q_shr (V rfl) K (by decide)) <| O (As (V rfl)) <| Nq <| Sq <| Rq <| O (Mv (V rfl)) <| O (q_and64 (V rfl) K) <| O (As (V rfl)) <| Nq <| Sq <| Rq <| O (Mv (V rfl)) <| O (q_shr (V rfl) K (by decide)) <| O (As (V rfl)) <| Nq <| Sq <| Rq <| O (Mv (V rfl)) <| O (Mv (V rfl)) <| O (q_mulW (V rfl) (V rfl)) <| O (As (V rfl)) <| Nq <| Sq <| Rq <| O (Mv (V rfl)) <| ?_
 refine O (Mv (V rfl)) <| O (q_mulW (V rfl) (V rfl)) <| O (Mv (V rfl)) <| O (q_shr (V rfl) K (by decide)) <| O (q_addW (V rfl) (V rfl)) <| O (As (V rfl)) <| Nq <| Sq <| Rq <| O (Mv (V rfl)) <| O (q_and64 (V rfl) K) <| O (As (V rfl)) <| Nq <| Sq <| Rq <| O (Mv (V rfl)) <| O (q_shr (V rfl) K (by decide)) <| O (As (V rfl)) <| Nq <| Sq <| Rq <| O (Mv (V rfl)) <| O (Mv (V rfl)) <| O (Mv (V rfl)) <| O (q_mulW (V rfl) (V rfl)) <| O (q_addW (V rfl) (V rfl)) <| O (As (V rfl)) <| Nq <| Sq <| Rq <| O (Mv (V rfl)) <| O (Mv (V rfl)) <| O (q_mulW (V rfl) (V rfl)) <| O (Mv (V rfl)) <| O (q_addW (V rfl) (V rfl)) <| O (Mv (V rfl)) <| O (q_shr (V rfl) K (by decide)) <| O (q_addW (V rfl) (V rfl)) <| O (As (V rfl)) <| Nq <| ?_
 exact Sq <| Rq <| O (Mv (V rfl)) <| O (Mv (V rfl)) <| O (q_mulW (V rfl) (V rfl)) <| O (As (V rfl)) <| Nq <| Rx <| R2 rfl (V rfl) (V rfl) rfl rfl (by show sv2 (SV.v (Value.int .u64 (IntKind.u64.wrap ((IntKind.u64.wrap ((IntKind.u64.wrap ((1 / 2 ^ (Int.toNat 32)) * (((n : Int)) / 2 ^ (Int.toNat 32)))) + ((IntKind.u64.wrap ((IntKind.u64.wrap ((1 / 2 ^ (Int.toNat 32)) * (bits .and .u64 ((n : Int)) 4294967295))) + ((IntKind.u64.wrap ((bits .and .u64 1 4294967295) * (bits .and .u64 ((n : Int)) 4294967295))) / 2 ^ (Int.toNat 32)))) / 2 ^ (Int.toNat 32)))) + ((IntKind.u64.wrap ((bits .and .u64 (IntKind.u64.wrap ((IntKind.u64.wrap ((1 / 2 ^ (Int.toNat 32)) * (bits .and .u64 ((n : Int)) 4294967295))) + ((IntKind.u64.wrap ((bits .and .u64 1 4294967295) * (bits .and .u64 ((n : Int)) 4294967295))) / 2 ^ (Int.toNat 32)))) 4294967295) + (IntKind.u64.wrap ((bits .and .u64 1 4294967295) * (((n : Int)) / 2 ^ (Int.toNat 32)))))) / 2 ^ (Int.toNat 32)))))) (SV.v (Value.int .u64 (IntKind.u64.wrap (1 * ((n : Int)))))) = sv2 (SV.v (Value.int .u64 0)) (SV.v (Value.int .u64 (n : Int))); rcases (show n = 0 ∨ n = 1 ∨ n = 2 ∨ n = 3 ∨ n = 4 ∨ n = 5 ∨ n = 6 ∨ n = 7 ∨ n = 8 ∨ n = 9 ∨ n = 10 ∨ n = 11 ∨ n = 12 ∨ n = 13 ∨ n = 14 ∨ n = 15 ∨ n = 16 ∨ n = 17 ∨ n = 18 ∨ n = 19 ∨ n = 20 ∨ n = 21 ∨ n = 22 ∨ n = 23 ∨ n = 24 by omega) with rfl | rfl | rfl | rfl | rfl | rfl | rfl | rfl | rfl | rfl | rfl | rfl | rfl | rfl | rfl | rfl | rfl | rfl | rfl | rfl | rfl | rfl | rfl | rfl | rfl <;> rfl)

/-- math/bits.Mul -/
theorem mul_ct (n : Nat) (hn : n ≤ 24) : Ct Try.prog 124 [SV.v (Value.int .u64 (1)), SV.v (Value.int .u64 ((n : Int)))] (sv2 (SV.v (Value.int .u64 0)) (SV.v (Value.int .u64 (n : Int)))) := by
 refine CtO 30 Try.func124 rfl rfl rfl fun E => Sq <| Rq <| O (As K) <| O (As K) <| Nq <| Sq <| Cd K (fun hc1 => ?_) (fun hc1 => ?_)
 ·cases hc1
 ·have hc1s := hc1; try simp only [BL] at hc1s
  exact Sk <| Sq <| Rt <| U (Mv (V rfl)) <| U (Mv (V rfl)) <| CT en149 (by exact ⟨⟨(V rfl), rfl⟩, ⟨(V rfl), rfl⟩, Z⟩) (mul64_ct n hn) <| U (Mv (V rfl)) <| U (Xt (V rfl) (by decide)) <| U (Xt (V rfl) (by decide)) <| U (As (V rfl)) <| U (As (V rfl)) <| Nt <| Sq <| Rq <| O (Mv (V rfl)) <| O (Mv (V rfl)) <| O (As (V rfl)) <| O (As (V rfl)) <| Nq <| Rx <| R2 rfl (V rfl) (V rfl) rfl rfl (by show sv2 (SV.v (Value.int .u64 (0))) (SV.v (Value.int .u64 ((n : Int)))) = sv2 (SV.v (Value.int .u64 0)) (SV.v (Value.int .u64 (n : Int))); rfl)

/-- slices.Repeat[[]glasshouse/api.Node,glasshouse/api.Node] -/
theorem repeat_ct (z : Nd) (n : Nat) (hn : n ≤ 24) : Ct Try.prog 55 [ndRow ([z]), iv ((n : Int))] (ndRow (List.replicate n z)) := by
 refine CtO 48 Try.func55 rfl rfl rfl fun E => Rl (V (s := 0) rfl) fun hl0 => Sq <| Rq <| O (As (Vn (k := 8) (get := rowG ndCell default []))) <| Nq <| Sq <| Sq <| Rq <| O (Mv (V rfl)) <| O (Lt (V rfl) K) <| Nq <| Cd (V rfl) (fun hc1 => ?_) (fun hc1 => ?_)
 ·have hc1s := hc1; try simp only [BL] at hc1s
  exact absurd hc1s (by omega)
  --done
 ·have hc1s := hc1; try simp only [BL] at hc1s
  refine Sk <| Sq <| Rt <| U (Mv (V rfl)) <| U (Ln (V rfl) ts22) <| U (q_conv (V rfl) Un3 Un134 (by rfl)) <| U (Mv (V rfl)) <| U (q_conv (V rfl) Un3 Un134 (by exact (mul_small (by omega)).2)) <| CT en124 (by exact ⟨⟨(V rfl), rfl⟩, ⟨(V rfl), rfl⟩, Z⟩) (mul_ct n hn) <| U (Mv (V rfl)) <| U (Xt (V rfl) (by decide)) <| U (Xt (V rfl) (by decide)) <| U (As (V rfl)) <| U (As (V rfl)) <| Nt <| Sq <| Sq <| Rq <| O (Mv (V rfl)) <| O (Gt (V rfl) K) <| O (Mv (V rfl)) <| Og (Gn rfl rfl) (fun hg => Mv (V rfl)) <| Og (Gn rfl rfl) (fun hg => Gt (Vg (V rfl) hg) K) <| O (Qr (V rfl) (fun h => Vg (V rfl) (notT h))) <| Nq <| Cd (V rfl) (fun hc2 => ?_) (fun hc2 => ?_)
  ·have hc2s := hc2; try simp only [BL] at hc2s
   exact absurd hc2s (by omega)
   --done
  ·have hc2s := hc2; try simp only [BL] at hc2s
   refine Sk <| Sq <| Rt <| U (Mv (V rfl)) <| U (q_conv (V rfl) Un134 Un3 (by exact (mul_small (by omega)).1)) <| Mk2 (cell := ndCell) (dd := default) 1 ⟨false, 0, 0, 0, 0, [], 0, false⟩ eo22 zero61 (V rfl) (V rfl) (by omega) ⟨⟨⟨⟨⟨⟨⟨⟨Z, impO_rfl⟩, impO_rfl⟩, impO_rfl⟩, impO_rfl⟩, impO_rfl⟩, impO_nil⟩, impO_rfl⟩, impO_rfl⟩ rfl <| U (As (V rfl)) <| Nt <| Sq <| Rt <| U (Mv (V rfl)) <| U (Mv (V rfl)) <| t_cpRT Un22 Sz61 (val_sub (V rfl) rfl) rfl (V rfl) (by decide) (by omega) <| U (As (V rfl)) <| Nt <| Sq <| Bo <| c_ownE 1 (fillL z ⟨false, 0, 0, 0, 0, [], 0, false⟩ ((Nat.min 1 n)) n) rfl (by exact fillL_0 z _ n) <| Lo (fun (k : Nat) => ⟨[(7, SV.own 1), (8, iv ((k : Int)))], [(1, ownOf ndCell 8 default (fillL z ⟨false, 0, 0, 0, 0, [], 0, false⟩ k n) 61)]⟩) (fun (k : Nat) => k ≤ n ∧ (n = 0 ∨ 0 < k)) (fun (k : Nat) => n - k) (Nat.min 1 n) (by show (Nat.min 1 n) ≤ n ∧ (n = 0 ∨ 0 < (Nat.min 1 n)); have h1 := Nat.min_le_right 1 n; have h2 := Nat.min_le_left 1 n; constructor; exact h1; cases n; exact .inl rfl; exact .inr (by simp [Nat.min_def])) (We (sl := [(7, SV.own 1), (8, iv (((Nat.min 1 n) : Int)))]) (by exact ⟨V rfl, val_eq (V rfl) (congrArg iv (by rw [List.length_replicate]; rfl)), Z⟩) (AOs rfl)) <| ?_
   ·rintro k hI1
    have hJ1 : k ≤ n ∧ (n = 0 ∨ 0 < k) := hI1
    have hkn := hJ1.1
    have hk0 := hJ1.2
    have hfl := fillL_len z ⟨false, 0, 0, 0, 0, [], 0, false⟩ hkn
    have hm1 : Nat.min k ((fillL z ⟨false, 0, 0, 0, 0, [], 0, false⟩ k n).length - k) = min k ((fillL z ⟨false, 0, 0, 0, 0, [], 0, false⟩ k n).length - k) := rfl
    refine Sq <| Sq <| Rq <| O (Mv (V rfl)) <| O (Mv (V rfl)) <| O (LnO (V rfl) rfl ts22) <| O (Lt (V rfl) (V rfl)) <| Nq <| Cd (V rfl) (fun hc3 => ?_) (fun hc3 => ?_)
    ·have hc3s := hc3; try simp only [BL] at hc3s
     refine Sk <| Bo <| c_rd (fun e => ⟨[(38, cj (e 0) (iv ((k : Int)))), (39, cj (e 1) (SV.own 1)), (40, cj (e 2) (iv ((k : Int)))), (41, cj (e 3) (SV.sub 1 8 k ((fillL z ⟨false, 0, 0, 0, 0, [], 0, false⟩ k n).length - k))), (42, cj (e 4) (SV.own 1)), (43, cj (e 5) (iv ((k : Int)))), (44, cj (e 6) (SV.sub 1 8 0 k)), (45, cj (e 7) (iv ((Nat.min k ((fillL z ⟨false, 0, 0, 0, 0, [], 0, false⟩ k n).length - k) : Int)))), (46, cj (e 8) (iv (((k : Int)) + ((Nat.min k ((fillL z ⟨false, 0, 0, 0, 0, [], 0, false⟩ k n).length - k) : Int))))), (8, cv (e 9) (iv (((k : Int)) + ((Nat.min k ((fillL z ⟨false, 0, 0, 0, 0, [], 0, false⟩ k n).length - k) : Int)))) (iv ((k : Int)))), (7, SV.own 1)], (cb (e 7) [(1, ownOf ndCell 8 default (ovr (fillL z ⟨false, 0, 0, 0, 0, [], 0, false⟩ k n) k ((((fillL z ⟨false, 0, 0, 0, 0, [], 0, false⟩ k n).drop 0).take k).take ((fillL z ⟨false, 0, 0, 0, 0, [], 0, false⟩ k n).length - k))) 61)] [(1, ownOf ndCell 8 default (fillL z ⟨false, 0, 0, 0, 0, [], 0, false⟩ k n) 61)])⟩) ⟨[(38, iv ((k : Int))), (39, SV.own 1), (40, iv ((k : Int))), (41, SV.sub 1 8 k ((fillL z ⟨false, 0, 0, 0, 0, [], 0, false⟩ k n).length - k)), (42, SV.own 1), (43, iv ((k : Int))), (44, SV.sub 1 8 0 k), (45, iv ((Nat.min k ((fillL z ⟨false, 0, 0, 0, 0, [], 0, false⟩ k n).length - k) : Int))), (46, iv (((k : Int)) + ((Nat.min k ((fillL z ⟨false, 0, 0, 0, 0, [], 0, false⟩ k n).length - k) : Int)))), (8, iv (((k : Int)) + ((Nat.min k ((fillL z ⟨false, 0, 0, 0, 0, [], 0, false⟩ k n).length - k) : Int)))), (7, SV.own 1)], [(1, ownOf ndCell 8 default (ovr (fillL z ⟨false, 0, 0, 0, 0, [], 0, false⟩ k n) k ((((fillL z ⟨false, 0, 0, 0, 0, [], 0, false⟩ k n).drop 0).take k).take ((fillL z ⟨false, 0, 0, 0, 0, [], 0, false⟩ k n).length - k))) 61)]⟩ (by kernel_rfl) (by kernel_rfl) ?_ ⟨?_, ?_, ?_, ?_, ?_, ?_, ?_, ?_, ?_, ?_, Z⟩ ?_ ?_
     ·show Weak _ _ ⟨[(38, SV.junk), (39, SV.junk), (40, SV.junk), (41, SV.junk), (42, SV.junk), (43, SV.junk), (44, SV.junk), (45, SV.junk), (46, SV.junk), (8, iv ((k : Int))), (7, SV.own 1)], [(1, ownOf ndCell 8 default (fillL z ⟨false, 0, 0, 0, 0, [], 0, false⟩ k n) 61)]⟩
      refine We ?_ ?_
      ·exact ⟨Vj, Vj, Vj, Vj, Vj, Vj, Vj, Vj, Vj, V rfl, V rfl, Z⟩
      ·exact ⟨⟨_, rfl, rfl⟩, Z⟩
     ·intro e hdn he hdp
      have h9 : e 9 = false := fls he fun q => by obtain ⟨r8, -, -, -, -, -, -, -, -, -, -, -⟩ := (show e 8 = true ∧ e 7 = true ∧ e 0 = true ∧ e 1 = true ∧ e 2 = true ∧ e 3 = true ∧ e 4 = true ∧ e 5 = true ∧ e 6 = true ∧ e 7 = true ∧ e 8 = true ∧ True from hdn 9 q); obtain ⟨r0, -, -⟩ := (show e 0 = true ∧ e 7 = true ∧ True from hdn 8 r8); exact r0
      simp only [setE, he, h9, cj_t, cj_f, cjn_t, cjn_f, cb_t, cb_f, cv_t, cv_f]
      exact U (Mv (V rfl)) <| Nt <| weakS ⟨V rfl, V rfl, V rfl, V rfl, V rfl, V rfl, V rfl, V rfl, V rfl, V rfl, V rfl, Z⟩
     ·intro e hdn he hdp
      have h7 : e 7 = false := fls he fun q => by obtain ⟨r3, -, -⟩ := (show e 3 = true ∧ e 6 = true ∧ True from hdn 7 q); obtain ⟨r1, -, -⟩ := (show e 1 = true ∧ e 2 = true ∧ True from hdn 3 r3); exact r1
      simp only [setE, he, h7, cj_t, cj_f, cjn_t, cjn_f, cb_t, cb_f, cv_t, cv_f]
      refine U (Mv (V rfl)) <| Nt <| We ?_ ?_
      ·exact ⟨V rfl, V rfl, V rfl, V rfl, V rfl, V rfl, V rfl, Vj, V rfl, V rfl, V rfl, Z⟩
      ·exact ⟨⟨_, rfl, rfl⟩, Z⟩
     ·intro e hdn he hdp
      have h7 : e 7 = false := fls he fun q => by obtain ⟨r3, -, -⟩ := (show e 3 = true ∧ e 6 = true ∧ True from hdn 7 q); obtain ⟨-, r2, -⟩ := (show e 1 = true ∧ e 2 = true ∧ True from hdn 3 r3); exact r2
      have h9 : e 9 = false := fls he fun q => by obtain ⟨r8, -, -, -, -, -, -, -, -, -, -, -⟩ := (show e 8 = true ∧ e 7 = true ∧ e 0 = true ∧ e 1 = true ∧ e 2 = true ∧ e 3 = true ∧ e 4 = true ∧ e 5 = true ∧ e 6 = true ∧ e 7 = true ∧ e 8 = true ∧ True from hdn 9 q); obtain ⟨-, r7, -⟩ := (show e 0 = true ∧ e 7 = true ∧ True from hdn 8 r8); obtain ⟨r3, -, -⟩ := (show e 3 = true ∧ e 6 = true ∧ True from hdn 7 r7); obtain ⟨-, r2, -⟩ := (show e 1 = true ∧ e 2 = true ∧ True from hdn 3 r3); exact r2
      simp only [setE, he, h7, h9, cj_t, cj_f, cjn_t, cjn_f, cb_t, cb_f, cv_t, cv_f]
      refine U (Mv (V rfl)) <| Nt <| We ?_ ?_
      ·exact ⟨V rfl, V rfl, V rfl, V rfl, V rfl, V rfl, V rfl, Vj, V rfl, V rfl, V rfl, Z⟩
      ·exact ⟨⟨_, rfl, rfl⟩, Z⟩
     ·intro e hdn he hdp
      obtain ⟨h1, h2, -⟩ := (show e 1 = true ∧ e 2 = true ∧ True from hdp)
      have h7 : e 7 = false := fls he fun q => by obtain ⟨r3, -, -⟩ := (show e 3 = true ∧ e 6 = true ∧ True from hdn 7 q); exact r3
      simp only [setE, h1, h2, he, h7, cj_t, cj_f, cjn_t, cjn_f, cb_t, cb_f, cv_t, cv_f]
      refine U (q_slOL ts22 te22 (V rfl) rfl (V rfl) (by omega) (by omega)) <| Nt <| We ?_ ?_
      ·exact ⟨V rfl, V rfl, V rfl, V rfl, V rfl, V rfl, V rfl, Vj, V rfl, V rfl, V rfl, Z⟩
      ·exact ⟨⟨_, rfl, rfl⟩, Z⟩
     ·intro e hdn he hdp
      have h7 : e 7 = false := fls he fun q => by obtain ⟨-, r6, -⟩ := (show e 3 = true ∧ e 6 = true ∧ True from hdn 7 q); obtain ⟨r4, -, -⟩ := (show e 4 = true ∧ e 5 = true ∧ True from hdn 6 r6); exact r4
      simp only [setE, he, h7, cj_t, cj_f, cjn_t, cjn_f, cb_t, cb_f, cv_t, cv_f]
      refine U (Mv (V rfl)) <| Nt <| We ?_ ?_
      ·exact ⟨V rfl, V rfl, V rfl, V rfl, V rfl, V rfl, V rfl, Vj, V rfl, V rfl, V rfl, Z⟩
      ·exact ⟨⟨_, rfl, rfl⟩, Z⟩
     ·intro e hdn he hdp
      have h7 : e 7 = false := fls he fun q => by obtain ⟨-, r6, -⟩ := (show e 3 = true ∧ e 6 = true ∧ True from hdn 7 q); obtain ⟨-, r5, -⟩ := (show e 4 = true ∧ e 5 = true ∧ True from hdn 6 r6); exact r5
      have h9 : e 9 = false := fls he fun q => by obtain ⟨r8, -, -, -, -, -, -, -, -, -, -, -⟩ := (show e 8 = true ∧ e 7 = true ∧ e 0 = true ∧ e 1 = true ∧ e 2 = true ∧ e 3 = true ∧ e 4 = true ∧ e 5 = true ∧ e 6 = true ∧ e 7 = true ∧ e 8 = true ∧ True from hdn 9 q); obtain ⟨-, r7, -⟩ := (show e 0 = true ∧ e 7 = true ∧ True from hdn 8 r8); obtain ⟨-, r6, -⟩ := (show e 3 = true ∧ e 6 = true ∧ True from hdn 7 r7); obtain ⟨-, r5, -⟩ := (show e 4 = true ∧ e 5 = true ∧ True from hdn 6 r6); exact r5
      simp only [setE, he, h7, h9, cj_t, cj_f, cjn_t, cjn_f, cb_t, cb_f, cv_t, cv_f]
      refine U (Mv (V rfl)) <| Nt <| We ?_ ?_
      ·exact ⟨V rfl, V rfl, V rfl, V rfl, V rfl, V rfl, V rfl, Vj, V rfl, V rfl, V rfl, Z⟩
      ·exact ⟨⟨_, rfl, rfl⟩, Z⟩
     ·intro e hdn he hdp
      obtain ⟨h4, h5, -⟩ := (show e 4 = true ∧ e 5 = true ∧ True from hdp)
      have h7 : e 7 = false := fls he fun q => by obtain ⟨-, r6, -⟩ := (show e 3 = true ∧ e 6 = true ∧ True from hdn 7 q); exact r6
      simp only [setE, h4, h5, he, h7, cj_t, cj_f, cjn_t, cjn_f, cb_t, cb_f, cv_t, cv_f]
      refine U (q_slOH ts22 te22 (V rfl) rfl (V rfl) (by omega) (by omega)) <| Nt <| We ?_ ?_
      ·exact ⟨V rfl, V rfl, V rfl, V rfl, V rfl, V rfl, V rfl, Vj, V rfl, V rfl, V rfl, Z⟩
      ·exact ⟨⟨_, rfl, rfl⟩, Z⟩
     ·intro e hdn he hdp
      obtain ⟨h3, h6, -⟩ := (show e 3 = true ∧ e 6 = true ∧ True from hdp)
      obtain ⟨h4, h5, -⟩ := (show e 4 = true ∧ e 5 = true ∧ True from hdn 6 h6)
      obtain ⟨h1, h2, -⟩ := (show e 1 = true ∧ e 2 = true ∧ True from hdn 3 h3)
      simp only [setE, h1, h2, h3, h4, h5, h6, he, cj_t, cj_f, cjn_t, cjn_f, cb_t, cb_f, cv_t, cv_f]
      refine t_cpST Un22 Sz61 (V rfl) rfl (V rfl) (by decide) (by omega) (by omega) <| Nt <| We ?_ ?_
      ·exact ⟨V rfl, V rfl, V rfl, V rfl, V rfl, V rfl, V rfl, V rfl, V rfl, V rfl, V rfl, Z⟩
      ·exact ⟨⟨_, rfl, rfl⟩, Z⟩
     ·intro e hdn he hdp
      obtain ⟨h0, h7, -⟩ := (show e 0 = true ∧ e 7 = true ∧ True from hdp)
      obtain ⟨h3, h6, -⟩ := (show e 3 = true ∧ e 6 = true ∧ True from hdn 7 h7)
      obtain ⟨h4, h5, -⟩ := (show e 4 = true ∧ e 5 = true ∧ True from hdn 6 h6)
      obtain ⟨h1, h2, -⟩ := (show e 1 = true ∧ e 2 = true ∧ True from hdn 3 h3)
      simp only [setE, h0, h1, h2, h3, h4, h5, h6, h7, he, cj_t, cj_f, cjn_t, cjn_f, cb_t, cb_f, cv_t, cv_f]
      refine U (Ad (V rfl) (V rfl) (by rw [hm1]; omega)) <| Nt <| We ?_ ?_
      ·exact ⟨V rfl, V rfl, V rfl, V rfl, V rfl, V rfl, V rfl, V rfl, V rfl, V rfl, V rfl, Z⟩
      ·exact ⟨⟨_, rfl, rfl⟩, Z⟩
     ·intro e hdn he hdp
      obtain ⟨h8, h7, h0, h1, h2, h3, h4, h5, h6, -, -, -⟩ := (show e 8 = true ∧ e 7 = true ∧ e 0 = true ∧ e 1 = true ∧ e 2 = true ∧ e 3 = true ∧ e 4 = true ∧ e 5 = true ∧ e 6 = true ∧ e 7 = true ∧ e 8 = true ∧ True from hdp)
      simp only [setE, h0, h1, h2, h3, h4, h5, h6, h7, h8, he, cj_t, cj_f, cjn_t, cjn_f, cb_t, cb_f, cv_t, cv_f]
      refine U (As (V rfl)) <| Nt <| We ?_ ?_
      ·exact ⟨V rfl, V rfl, V rfl, V rfl, V rfl, V rfl, V rfl, V rfl, V rfl, V rfl, V rfl, Z⟩
      ·exact ⟨⟨_, rfl, rfl⟩, Z⟩
     ·intro e he
      have h0 := he 0 (by decide)
      have h1 := he 1 (by decide)
      have h2 := he 2 (by decide)
      have h3 := he 3 (by decide)
      have h4 := he 4 (by decide)
      have h5 := he 5 (by decide)
      have h6 := he 6 (by decide)
      have h7 := he 7 (by decide)
      have h8 := he 8 (by decide)
      have h9 := he 9 (by decide)
      show Weak _ ⟨[(38, cj (e 0) (iv ((k : Int)))), (39, cj (e 1) (SV.own 1)), (40, cj (e 2) (iv ((k : Int)))), (41, cj (e 3) (SV.sub 1 8 k ((fillL z ⟨false, 0, 0, 0, 0, [], 0, false⟩ k n).length - k))), (42, cj (e 4) (SV.own 1)), (43, cj (e 5) (iv ((k : Int)))), (44, cj (e 6) (SV.sub 1 8 0 k)), (45, cj (e 7) (iv ((Nat.min k ((fillL z ⟨false, 0, 0, 0, 0, [], 0, false⟩ k n).length - k) : Int)))), (46, cj (e 8) (iv (((k : Int)) + ((Nat.min k ((fillL z ⟨false, 0, 0, 0, 0, [], 0, false⟩ k n).length - k) : Int))))), (8, cv (e 9) (iv (((k : Int)) + ((Nat.min k ((fillL z ⟨false, 0, 0, 0, 0, [], 0, false⟩ k n).length - k) : Int)))) (iv ((k : Int)))), (7, SV.own 1)], (cb (e 7) [(1, ownOf ndCell 8 default (ovr (fillL z ⟨false, 0, 0, 0, 0, [], 0, false⟩ k n) k ((((fillL z ⟨false, 0, 0, 0, 0, [], 0, false⟩ k n).drop 0).take k).take ((fillL z ⟨false, 0, 0, 0, 0, [], 0, false⟩ k n).length - k))) 61)] [(1, ownOf ndCell 8 default (fillL z ⟨false, 0, 0, 0, 0, [], 0, false⟩ k n) 61)])⟩ _
      simp only [h0, h1, h2, h3, h4, h5, h6, h7, h8, h9]
      show Weak _ ⟨[(38, iv ((k : Int))), (39, SV.own 1), (40, iv ((k : Int))), (41, SV.sub 1 8 k ((fillL z ⟨false, 0, 0, 0, 0, [], 0, false⟩ k n).length - k)), (42, SV.own 1), (43, iv ((k : Int))), (44, SV.sub 1 8 0 k), (45, iv ((Nat.min k ((fillL z ⟨false, 0, 0, 0, 0, [], 0, false⟩ k n).length - k) : Int))), (46, iv (((k : Int)) + ((Nat.min k ((fillL z ⟨false, 0, 0, 0, 0, [], 0, false⟩ k n).length - k) : Int)))), (8, iv (((k : Int)) + ((Nat.min k ((fillL z ⟨false, 0, 0, 0, 0, [], 0, false⟩ k n).length - k) : Int)))), (7, SV.own 1)], [(1, ownOf ndCell 8 default (ovr (fillL z ⟨false, 0, 0, 0, 0, [], 0, false⟩ k n) k ((((fillL z ⟨false, 0, 0, 0, 0, [], 0, false⟩ k n).drop 0).take k).take ((fillL z ⟨false, 0, 0, 0, 0, [], 0, false⟩ k n).length - k))) 61)]⟩ _
      refine We ?_ ?_
      ·exact ⟨V rfl, V rfl, V rfl, V rfl, V rfl, V rfl, V rfl, V rfl, V rfl, V rfl, V rfl, Z⟩
      ·exact ⟨⟨_, rfl, rfl⟩, Z⟩
     exact k_ownE 1 (fillL z ⟨false, 0, 0, 0, 0, [], 0, false⟩ ((k + Nat.min k ((fillL z ⟨false, 0, 0, 0, 0, [], 0, false⟩ k n).length - k))) n) rfl (by exact fillL_s z _ hJ1.1) <| NxH (k + Nat.min k ((fillL z ⟨false, 0, 0, 0, 0, [], 0, false⟩ k n).length - k)) (fun _ _ h => h) (by show (k + Nat.min k ((fillL z ⟨false, 0, 0, 0, 0, [], 0, false⟩ k n).length - k)) ≤ n ∧ (n = 0 ∨ 0 < (k + Nat.min k ((fillL z ⟨false, 0, 0, 0, 0, [], 0, false⟩ k n).length - k))); rw [hm1]; omega) (by show n - (k + Nat.min k ((fillL z ⟨false, 0, 0, 0, 0, [], 0, false⟩ k n).length - k)) < n - k; rw [hm1]; omega) (We (Vs rfl) (AOs rfl))
    ·have hc3s := hc3; try simp only [BL] at hc3s
     exact Ex <| Sq <| Rq <| O (Mv (V rfl)) <| O (As (V rfl)) <| Nq <| FzC 1 rfl <| Rx <| R1 rfl (V rfl) rfl (by show ndRow (fillL z ⟨false, 0, 0, 0, 0, [], 0, false⟩ k n) = ndRow (List.replicate n z); have hkk : k = n := (by omega); rw [hkk, fillL, Nat.sub_self, List.replicate_zero, List.append_nil])

end Go.Proofs.Ytmcdamcedemdiaa
