/- What the proof of QuerySays rests on, part 5: the engine, the walks, the plain laws. -/
import Derived.Test.YtmcdamcedemdiaaQuerySaysM4
set_option linter.unusedVariables false
set_option linter.unusedSimpArgs false
namespace Go.Eng
open Go.RowKit
variable {P : Program} {NN : Nat} {E : Env NN}
end Go.Eng
namespace Go.Eng
open Go.RowKit
variable {P : Program} {NN : Nat} {E : Env NN}
theorem q_lenS {S : St} {x : Operand} {t : TypeId} {j k lo m : Nat} (hx : Val E S x (.sub j k lo m)) (ht : P.underlying t = some (.slice (P.elem t))) :
    OpQ P E S (.call { callee := .builtin .len, args := #[x], argTypes := #[t] }) (.v (.int .i64 (m : Int))) := fun b a w hr dst ty pos after gd => by
  obtain ⟨A, n, c, _, _, hv⟩ := hx b a w hr
  refine ⟨.int .i64 m, fun w' hw' => ?_, rfl⟩
  simp [execOp, resolve, invoke, builtin, hv, run_len_slice w' t ty _ m _ ht, goInt]
theorem q_idxS {S : St} {x y : Operand} {t : TypeId} {j n k lo m : Nat} {get : Nat → Nat → SV} {e : TypeId} {kk : IntKind} {i : Int} (hx : Val E S x (.sub j k lo m)) (ho : lookO j S.owns = some (.arow n k get e)) (hy : Val E S y (.v (.int kk i)))
    (ht : P.underlying t = some (.slice (P.elem t))) (hs : ∀ w, (sizeOf (P.elem t)).run P w = .ok k w) (h0 : 0 ≤ i) (h1 : i < m) :
    OpQ P E S (.indexAddr t x y) (.oe j k (i.toNat + lo) 0) := fun b a w hr dst ty pos after gd => by
  have h2 : a.eval y = .int kk i := hy b a w hr
  obtain ⟨hle, g, c, hb, hv⟩ := sub_at hr hx ho (by omega)
  refine ⟨.pointer (some ⟨g, (i.toNat + lo) * k + 0, none⟩), fun w' hw' => ?_, g, n, c + 1, by rw [hb]; rfl, by omega, rfl⟩
  simp [execOp, hv, h2, run_indexAt_slice w' t _ m (c + 1 - lo) kk i ht, h0, h1, hs, Addr.add_lit, Nat.add_mul, Nat.add_comm]
theorem q_idxSN {S : St} {x y : Operand} {t : TypeId} {j n k lo m : Nat} {get : Nat → Nat → SV} {e : TypeId} {kk : IntKind} {i : Nat} (hx : Val E S x (.sub j k lo m)) (ho : lookO j S.owns = some (.arow n k get e)) (hy : Val E S y (.v (.int kk (i : Int))))
    (ht : P.underlying t = some (.slice (P.elem t))) (hs : ∀ w, (sizeOf (P.elem t)).run P w = .ok k w) (h1 : i < m) :
    OpQ P E S (.indexAddr t x y) (.oe j k (i + lo) 0) := q_idxS hx ho hy ht hs (by omega) (by omega)
theorem q_slSH {S : St} {x hi : Operand} {t : TypeId} {j k lo m n : Nat} {get : Nat → Nat → SV} {e : TypeId} {h : Int} (ht : P.underlying t = some (.slice (P.elem t))) (hs : ∀ w, (sizeOf (P.elem t)).run P w = .ok k w) (hx : Val E S x (.sub j k lo m)) (ho : lookO j S.owns = some (.arow n k get e))
    (hhi : Val E S hi (.v (.int .i64 h))) (h1 : 0 ≤ h) (h2 : h ≤ m) : OpQ P E S (.slice t x none (some hi) none) (.sub j k lo h.toNat) := fun b a w hr dst ty pos after gd => by
  obtain ⟨A, n', c, hb, hle, hv⟩ := hx b a w hr
  obtain ⟨xs, hown, _⟩ := hr.owns j _ ho
  obtain ⟨A', c', hb', hn, _⟩ := hown.slice
  rw [hb'] at hb
  simp only [hdv, Value.slice.injEq] at hb
  obtain ⟨rfl, rfl, rfl⟩ := hb
  have hh : a.eval hi = .int .i64 h := hhi b a w hr
  refine ⟨.slice (if lo = 0 then A' else if c' = lo then A' else A'.map (·.add (lo * k))) h.toNat (c' - lo), fun w' hw' => ?_, A', n, c', by rw [hb']; rfl, by omega, rfl⟩
  generalize (if lo = 0 then A' else if c' = lo then A' else A'.map (·.add (lo * k))) = B at *
  have h3 := run_slice_h (P := P) w' t B m (c' - lo) ht .i64 h h1 (by omega)
  simp only [execOp, Option.map_none, Option.map_some, hh, hv, Sem.run_bind, run_sliceAt_slice w' t _ _ _ _ ht, h3, hs, Result.andThen_ok]
  cases B <;> simp [sliced, Addr.add_zero']
theorem q_slSL {S : St} {x lo' : Operand} {t : TypeId} {j k lo m n : Nat} {get : Nat → Nat → SV} {e : TypeId} {l : Int} (ht : P.underlying t = some (.slice (P.elem t))) (hs : ∀ w, (sizeOf (P.elem t)).run P w = .ok k w) (hx : Val E S x (.sub j k lo m)) (ho : lookO j S.owns = some (.arow n k get e))
    (hlo : Val E S lo' (.v (.int .i64 l))) (h1 : 0 ≤ l) (h2 : l < m) : OpQ P E S (.slice t x (some lo') none none) (.sub j k (l.toNat + lo) (m - l.toNat)) := fun b a w hr dst ty pos after gd => by
  have hl : a.eval lo' = .int .i64 l := hlo b a w hr
  obtain ⟨hle, g, c, hb, hv⟩ := sub_at hr hx ho (by omega)
  obtain ⟨g', c2, cur, hb2, _, _, hcap, _⟩ := own_cells hr ho (by omega)
  rw [hb] at hb2
  simp only [Value.slice.injEq, Option.some.injEq, Addr.mk.injEq, true_and, and_true, Nat.add_right_cancel_iff] at hb2
  obtain ⟨rfl, rfl⟩ := hb2
  refine ⟨.slice (some ⟨g, lo * k + l.toNat * k, none⟩) (m - l.toNat) (c + 1 - lo - l.toNat), fun w' hw' => ?_, some ⟨g, 0, none⟩, n, c + 1, by rw [hb]; rfl, by omega, ?_⟩
  · have h3 := run_slice_l (P := P) w' t (some ⟨g, lo * k, none⟩) m (c + 1 - lo) ht .i64 l h1 (by omega)
    simp only [execOp, Option.map_none, Option.map_some, hl, hv, Sem.run_bind, run_sliceAt_slice w' t _ _ _ _ ht, h3, hs, Result.andThen_ok]
    simp [sliced, Addr.add_lit, show ¬ c + 1 - lo = l.toNat by omega]
  · by_cases h0 : l.toNat + lo = 0
    · rw [if_pos h0, show lo = 0 by omega, show l.toNat = 0 by omega]; simp
    · rw [if_neg h0, if_neg (by omega), show c + 1 - lo - l.toNat = c + 1 - (l.toNat + lo) by omega]
      simp [Addr.add_lit, Nat.add_mul, Nat.add_comm]
theorem vb_sub {S : St} {x : Operand} {j k lo m n : Nat} {get : Nat → Nat → SV} {e : TypeId} (hx : Val E S x (.sub j k lo m)) (ho : lookO j S.owns = some (.arow n k get e)) : VB E S x (.row m k fun i t => get (i + lo) t) := fun b a w hr => by
  obtain ⟨A, n', c, hb, hle, hv⟩ := hx b a w hr
  obtain ⟨A2, c2, h1, h2, h3, h4⟩ := arow_brw hr ho
  rw [hb] at h1
  simp only [Value.slice.injEq] at h1
  obtain ⟨rfl, rfl, rfl⟩ := h1
  refine ⟨_, _, hv, by omega, by omega, fun hm => ?_⟩
  obtain ⟨bb, o, rfl, hlt, hnX, hc⟩ := h4 (by omega)
  refine ⟨bb, o + lo * k, ?_, hlt, hnX, fun i hi t ht => ?_⟩
  · by_cases h0 : lo = 0
    · subst h0; simp
    · rw [if_neg h0, if_neg (by omega)]; simp [Addr.add_lit]
  · obtain ⟨u, hu, a1, a2⟩ := hc (i + lo) (by omega) t ht
    refine ⟨u, ?_, a1, a2⟩
    rw [← hu, show o + lo * k + (i * k + t) = o + ((i + lo) * k + t) by rw [Nat.add_mul]; omega]
theorem vb_subT {α : Type} {S : St} {x : Operand} {j k lo m : Nat} {c : α → Nat → SV} {d : α} {l l' : List α} {e : TypeId} (hx : Val E S x (.sub j k lo m)) (ho : lookO j S.owns = some (ownOf c k d l e)) (hm : lo + m ≤ l.length) (hl : l' = (l.drop lo).take m) : VB E S x (rowOf c k d l') := by
  have h := vb_sub hx ho
  have h1 : l'.length = m := by rw [hl, List.length_take, List.length_drop]; omega
  intro b a w hr
  obtain ⟨A, c2, h2, h3, h4, h5⟩ := h b a w hr
  refine ⟨A, c2, by rw [h1]; exact h2, by omega, h4, fun h0 => ?_⟩
  obtain ⟨bb, o, h6, h7, h8, h9⟩ := h5 (by omega)
  refine ⟨bb, o, h6, h7, h8, fun i hi t ht => ?_⟩
  obtain ⟨u, hu, a1, a2⟩ := h9 i (by omega) t ht
  refine ⟨u, hu, a1, ?_⟩
  have : rowG c d l' i t = rowG c d l (i + lo) t := by
    simp only [rowG, List.getD_eq_getElem?_getD, hl, List.getElem?_take, if_pos (show i < m by omega), List.getElem?_drop, Nat.add_comm lo i]
  rw [this]; exact a2
def CtF (P : Program) (f : FuncId) (args : List SV) (r : SV) : Prop :=
  ∀ (w : World) (X : Nat → Prop) (vals : List Value), (∀ g, X g → g < w.heap.size) → ROs w X args vals →
    Calls P f vals.toArray w fun e w' => ∃ v, e = .returned v ∧ RO w' (fun g => g < w.heap.size) r v ∧ Below w.heap.size w w'
theorem CtF.ct {f : FuncId} {args : List SV} {r : SV} (h : CtF P f args r) : Ct P f args r := fun w X vals hX hr =>
  (h w X vals hX hr).mono fun e w' ⟨v, h1, h2, h3⟩ => ⟨v, h1, h2.mono ⟨Nat.le_refl _, fun _ _ _ => rfl⟩ (fun g _ hh => hX g hh), h3⟩
def PostF {NN : Nat} (E : Env NN) (r : SV) : Ending → World → Prop := fun e w' => ∃ v, e = .returned v ∧ RO w' (fun g => g < E.base) r v ∧ KeptBut E.Y E.w0 w'
theorem ctF_of {f : FuncId} {fn : Func} {c : Code} {args : List SV} {r : SV} (N : Nat) (hf : P.funcs[f]? = some fn) (hb : fn.body = some c) (hN : fn.ntmps = N) (hn : Nat.ble args.length N = true)
    (h : ∀ E : Env N, C P E c ⟨argSlots 0 args, []⟩ (bodyPost P fn (PostF E r))) : CtF P f args r := by
  subst hN
  intro w X vals hX hr
  have hC : Calls P f vals.toArray w (PostF (env0 w X hX fn.ntmps) r) := by
    refine calls_of_wp hf hb ?_
    exact h (env0 w X hX fn.ntmps) _ _ ⟨fun _ => undef, rep_start (Nat.le_of_ble_eq_true hn) hX hr⟩
  exact hC.mono fun e w' ⟨v, he, hv, hk⟩ => ⟨v, he, hv, below_of_kept hk⟩
def VFr {NN : Nat} (E : Env NN) (S : St) (x : Operand) (s : SV) : Prop := ∀ b a w, RepB E b S a w → RO w (fun g => g < E.base) s (a.eval x)
theorem vf_v {S : St} {x : Operand} {v : Value} (h : Val E S x (.v v)) : VFr E S x (.v v) := h
theorem vf_nil {S : St} {x : Operand} {k : Nat} {get : Nat → Nat → SV} (h : Val E S x (.row 0 k get)) : VFr E S x (.row 0 k get) := fun b a w hr => by
  obtain ⟨A, c, h1, h2, h3, _⟩ := h b a w hr
  exact ⟨A, c, h1, h2, h3, fun h => absurd h (Nat.lt_irrefl 0)⟩
theorem vf_subT {α : Type} {S : St} {x : Operand} {j k lo m : Nat} {c : α → Nat → SV} {d : α} {l l' : List α} {e : TypeId} (hx : Val E S x (.sub j k lo m)) (ho : lookO j S.owns = some (ownOf c k d l e)) (hv : ∀ x t, ∃ y, c x t = .v y) (hm : lo + m ≤ l.length) (hl : l' = (l.drop lo).take m) : VFr E S x (rowOf c k d l') := fun b a w hr => by
  obtain ⟨A, c2, h2, h3, h4, h5⟩ := vb_subT hx ho hm hl b a w hr
  have h1 : l'.length = m := by rw [hl, List.length_take, List.length_drop]; omega
  refine ⟨A, c2, h2, h3, h4, fun h0 => ?_⟩
  obtain ⟨bb, o, h6, h7, h8, h9⟩ := h5 h0
  refine ⟨bb, o, h6, h7, ?_, fun i hi t ht => ?_⟩
  · obtain ⟨_, g, cc, hb, hv2⟩ := sub_at hr hx ho (by omega)
    obtain ⟨g', c3, cur, hb3, hbase, _⟩ := own_cells hr ho (by omega)
    rw [hb] at hb3
    simp only [Value.slice.injEq, Option.some.injEq, Addr.mk.injEq, true_and, and_true] at hb3
    obtain ⟨rfl, _⟩ := hb3
    rw [hv2] at h2
    simp only [Value.slice.injEq] at h2
    obtain ⟨rfl, _⟩ := h2
    injection h6 with h6
    injection h6 with h6
    subst h6
    exact fun hh => absurd hbase (Nat.not_le_of_lt hh)
  · obtain ⟨u, hu, a1, a2⟩ := h9 i hi t ht
    refine ⟨u, hu, a1, ?_⟩
    obtain ⟨y, hy⟩ := hv (l'.getD i d) t
    have e : rowG c d l' i t = .v y := hy
    rw [e] at a2 ⊢
    exact a2
theorem ret2F {fn : Func} {t u : Tmp} {S : St} {x y r : SV} (hres : fn.results = #[.tmp t, .tmp u]) (hx : VFr E S (.tmp t) x) (hy : VFr E S (.tmp u) y) (e : sv2 x y = r) :
    ∀ a w, Rep E S a w → bodyPost P fn (PostF E r) .ret a w := by
  rintro a w ⟨b, hr⟩
  subst e
  refine ⟨hr.defers, _, results_tmp2 hres _ _ _, _, rfl, ⟨_, rfl, rfl, fun i hi => ?_⟩, hr.below⟩
  match i, hi with
  | 0, _ => exact ⟨_, rfl, hx b a w hr⟩
  | 1, _ => exact ⟨_, rfl, hy b a w hr⟩
end Go.Eng
namespace Go.Proofs.Ytmcdamcedemdiaa
open Go.RowKit Go.Eng
theorem delS60_ct {f : FuncId} {caps : List SV} (p : Int → Bool) (hE : Enters Try.prog f) (hro : allRO caps = true) (h0 : Int) (l : List Int) (hC : ∀ x ∈ l, Ct Try.prog f ([iv x] ++ caps) (bv (p x))) (hl : l.length ≤ 1000000000) : CtM Try.prog 60 [SV.sub 1000 1 1 l.length, fnA f caps] [(1000, ownOf inCell 1 0 (h0 :: l) 3)] (SV.sub 1000 1 1 ((l.filter fun x => !p x).length)) [(1000, ownOf inCell 1 0 (h0 :: delE p l) 3)] := by
 refine CmO 42 Try.func60 rfl rfl rfl fun E => Sq <| Rq <| O (As (Vn (k := 1) (get := rowG inCell 0 []))) <| Nq <| Sq <| Rq <| O (Mv (V rfl)) <| O (Mv (V rfl)) <| CQb en129 (by exact ⟨(vb_subT (l' := l) (V rfl) rfl (by simp [Nat.add_comm]) (by simp)), (vb_ro (V rfl) rfl), Z⟩) (idxf129M_ct p hE hro l hC) <| O (As (V rfl)) <| Nq <| Sq <| Sq <| Rq <| O (Mv (V rfl)) <| O (Ql (V rfl) K) <| Nq <| Cd (V rfl) (fun hc1 => ?_) (fun hc1 => ?_)
 ·have hc1s := hc1; try simp only [BL] at hc1s
  exact Sq <| Rq <| O (Mv (V rfl)) <| O (As (V rfl)) <| Nq <| c_ownE 1000 (h0 :: delE p l) rfl (by rw [delE_1 hc1s]) <| Rx <| M1 rfl (V rfl) (by exact ⟨⟨_, rfl, rfl⟩, Z⟩) (by show SV.sub 1000 1 1 l.length = SV.sub 1000 1 1 ((l.filter fun x => !p x).length); rw [← del_none hc1s 0])
 ·have hc1s := hc1; try simp only [BL] at hc1s
  obtain ⟨i0, he0, hi0, hp0, hall0⟩ := (idxF_cases p 0 l).resolve_left fun h => hc1s h.1
  refine Sk <| Sq <| Sq <| Rq <| O (Mv (V rfl)) <| O (Ad (V rfl) K (by first | omega | (rw [he0]; omega))) <| O (As (V rfl)) <| Nq <| Bo <| c_ownE 1000 (h0 :: delA p l ((i0 + 1))) rfl (by exact congrArg (h0 :: ·) (delA_0 0 hi0 hp0 hall0)) <| Lo (fun (j : Nat) => ⟨[(0, SV.sub 1000 1 1 l.length), (1, fnA f caps), (5, iv (((keptL p l j).length : Int))), (6, iv ((j : Int)))], [(1000, ownOf inCell 1 0 (h0 :: delA p l j) 3)]⟩) (fun (j : Nat) => j ≤ l.length ∧ (keptL p l j).length < j) (fun (j : Nat) => l.length - j) (i0 + 1) (by show (i0 + 1) ≤ l.length ∧ (keptL p l (i0 + 1)).length < (i0 + 1); exact ⟨by omega, kept_lt hi0 hp0 hall0⟩) (We (sl := [(0, SV.sub 1000 1 1 l.length), (1, fnA f caps), (5, iv (((keptL p l ((i0 + 1))).length : Int))), (6, iv (((i0 + 1) : Int)))]) (by exact ⟨V rfl, V rfl, val_eq (V rfl) (congrArg iv (he0.trans (by rw [kept_0 0 hi0 hp0 hall0, List.length_take, Nat.min_eq_left (Nat.le_of_lt hi0)]))), val_eq (V rfl) (congrArg iv (by rw [he0])), Z⟩) (AOs rfl)) <| ?_
  ·rintro j hI1
   have hJ1 : j ≤ l.length ∧ (keptL p l j).length < j := hI1
   have hjl := hJ1.1
   have hkj := hJ1.2
   have hdl := delA_len p l j
   have hkl := kept_le p l j
   have hdc : (h0 :: delA p l j).length = l.length + 1 := congrArg (· + 1) hdl
   refine Sq <| Sq <| Rq <| O (Mv (V rfl)) <| O (Mv (V rfl)) <| O (q_lenS (V rfl) ts33) <| O (Lt (V rfl) (V rfl)) <| Nq <| Cd (V rfl) (fun hc2 => ?_) (fun hc2 => ?_)
   ·have hc2s := hc2; try simp only [BL] at hc2s
    have hjj : j < l.length := by omega
    refine Sk <| Sq <| Bo <| Sq <| Rq <| O (Mv (V rfl)) <| O (Mv (V rfl)) <| O (q_idxSN (i := j) (V rfl) rfl (V rfl) ts33 te33 (by omega)) <| O (LdO (V rfl) rfl Ga3 (by decide)) <| O (As (V rfl)) <| Nq <| Sq <| Rq <| O (Mv (V rfl)) <| O (Mv (V rfl)) <| CQv (args := [iv (((h0 :: delA p l j).getD ((j + 1)) 0))]) (caps := caps) (fnval_A (V rfl)) hro hE (by exact ⟨⟨(V rfl), rfl⟩, Z⟩) (hC _ (show (delA p l j).getD j 0 ∈ l by rw [delA_at 0 hjj]; exact mem_getD hjj)) <| O (Qo (V rfl)) <| Nq <| Cd (V rfl) (fun hc3 => ?_) (fun hc3 => ?_)
    ·have hc3s := hc3; try simp only [BL] at hc3s
     have hc3' : (!p ((delA p l j).getD j 0)) = true := hc3
     have hpj : p (l.getD j 0) = false := by rw [delA_at 0 hjj] at hc3'; simpa using hc3'
     refine Sq <| Rt <| U (Mv (V rfl)) <| U (Mv (V rfl)) <| U (Mv (V rfl)) <| U (q_idxSN (i := (keptL p l j).length) (V rfl) rfl (V rfl) ts33 te33 (by omega)) <| ?_
     have hidx0 : (((keptL p l j).length) + 1) < (h0 :: delA p l j).length := by omega
     exact StO (rowG inCell 0 ((h0 :: delA p l j).set ((((keptL p l j).length) + 1)) (((h0 :: delA p l j).getD ((j + 1)) 0)))) (V rfl) rfl (V rfl) rfl rfl Sz3 (by decide) (show (h0 :: delA p l j).length = ((h0 :: delA p l j).set ((((keptL p l j).length) + 1)) (((h0 :: delA p l j).getD ((j + 1)) 0))).length from List.length_set.symm) (set_at hidx0 rfl) (set_typed hidx0 fun t ht hne => match t, ht, hne with | 0, _, hne => absurd rfl hne) <| Nt <| Rq <| O (Mv (V rfl)) <| O (Ad (V rfl) K (by first | omega | (rw [he0]; omega))) <| O (As (V rfl)) <| Nq <| Rq <| O (Mv (V rfl)) <| O (Ad (V rfl) K (by first | omega | (rw [he0]; omega))) <| O (As (V rfl)) <| Nq <| k_ownE 1000 (h0 :: delA p l ((j + 1))) rfl (by show h0 :: (delA p l j).set (keptL p l j).length ((delA p l j).getD j 0) = _; rw [delA_at 0 hjj, delA_no 0 hjj hpj]) <| Nx (j + 1) (by show (j + 1) ≤ l.length ∧ (keptL p l (j + 1)).length < (j + 1); exact ⟨by omega, by rw [kept_no 0 hjj hpj, List.length_append]; show _ + 1 < _; omega⟩) (by show l.length - (j + 1) < l.length - j; omega) (We (sl := [(0, SV.sub 1000 1 1 l.length), (1, fnA f caps), (5, iv (((keptL p l ((j + 1))).length : Int))), (6, iv (((j + 1) : Int)))]) (by exact ⟨V rfl, V rfl, val_eq (V rfl) (congrArg iv (by rw [kept_no 0 hjj hpj, List.length_append]; rfl)), V rfl, Z⟩) (AOs rfl))
    ·have hc3s := hc3; try simp only [BL] at hc3s
     have hc3' : (!p ((delA p l j).getD j 0)) = false := hc3
     have hpj : p (l.getD j 0) = true := by rw [delA_at 0 hjj] at hc3'; simpa using hc3'
     exact Sk <| Rq <| O (Mv (V rfl)) <| O (Ad (V rfl) K (by first | omega | (rw [he0]; omega))) <| O (As (V rfl)) <| Nq <| k_ownE 1000 (h0 :: delA p l ((j + 1))) rfl (by exact congrArg (h0 :: ·) (delA_yes 0 hjj hpj)) <| Nx (j + 1) (by show (j + 1) ≤ l.length ∧ (keptL p l (j + 1)).length < (j + 1); exact ⟨by omega, by rw [kept_yes 0 hjj hpj]; omega⟩) (by show l.length - (j + 1) < l.length - j; omega) (We (sl := [(0, SV.sub 1000 1 1 l.length), (1, fnA f caps), (5, iv (((keptL p l ((j + 1))).length : Int))), (6, iv (((j + 1) : Int)))]) (by exact ⟨V rfl, V rfl, val_eq (V rfl) (congrArg iv (by rw [kept_yes 0 hjj hpj])), V rfl, Z⟩) (AOs rfl))
   ·have hc2s := hc2; try simp only [BL] at hc2s
    exact Ex <| Sq <| Rt <| U (Mv (V rfl)) <| U (Mv (V rfl)) <| U (q_slSL ts33 te33 (V rfl) rfl (V rfl) (by omega) (by omega)) <| t_clrT 0 Un33 zero3 (V rfl) rfl (by decide) (by omega) ⟨Z, impO_rfl⟩ <| Nt <| Sq <| Rq <| O (Mv (V rfl)) <| O (Mv (V rfl)) <| O (q_slSH ts33 te33 (V rfl) rfl (V rfl) (by omega) (by omega)) <| O (As (V rfl)) <| Nq <| c_ownE 1000 (h0 :: delE p l) rfl (by exact delE_2 h0 hc1s (by omega)) <| Rx <| M1 rfl (V rfl) (by exact ⟨⟨_, rfl, rfl⟩, Z⟩) (by show SV.sub 1000 1 1 ((keptL p l j).length) = SV.sub 1000 1 1 ((l.filter fun x => !p x).length); rw [kept_all (by omega)])
theorem delS_ct {f : FuncId} {caps : List SV} (p : Int → Bool) (hE : Enters Try.prog f) (hro : allRO caps = true) : ∀ (L : List Int) (h0 : 0 < L.length) (hC : ∀ x ∈ L.drop 1, Ct Try.prog f ([iv x] ++ caps) (bv (p x))) (hl : L.length ≤ 1000000000),
    CtM Try.prog 60 [SV.sub 1000 1 1 (L.length - 1), fnA f caps] [(1000, ownOf inCell 1 0 L 3)] (SV.sub 1000 1 1 ((L.drop 1).filter fun x => !p x).length) [(1000, ownOf inCell 1 0 (L.take 1 ++ delE p (L.drop 1)) 3)]
  | [], h0, _, _ => absurd h0 (Nat.lt_irrefl 0)
  | h :: t, _, hC, hl => delS60_ct p hE hro h t hC (by rw [List.length_cons] at hl; omega)
theorem fnd_ctF (l : List Nd) (h : Hd) (q : List Te) (hb : ∀ n ∈ l, n.kids.length ≤ 17592186043904) : CtF Try.prog 68 [SV.agg 1 (stG l), SV.agg 2 (hdCell h), teRow q] (sv2 (inRow (fndSt l h q).1) (iv (fndSt l h q).2)) := by
 refine ctF_of 29 Try.func68 rfl rfl rfl fun E => row_lenA 0 (V (s := 0) rfl) rfl rfl fun hl0_0 => Rl (V (s := 2) rfl) fun hl2 => Sq <| Rt <| BxA 1 (V rfl) rfl rfl <| BxA 2 (V rfl) rfl rfl <| Bx1 3 (V rfl) rfl rfl rfl <| U (As (Vn (k := 1) (get := rowG inCell 0 []))) <| U (As K) <| Nt <| Sq <| Rt <| U (LBA (V rfl) rfl Ga24 Sz24 (by decide)) <| U (LBA (V rfl) rfl Ga26 Sz26 (by decide)) <| CM (cargs := [SV.agg 1 (stG l), SV.agg 2 (hdCell ⟨h.pl, h.use⟩)]) [] [(0, 4)] en58 (mv0 (by exact ⟨⟨(Vi (g' := stG l) (V rfl) ⟨Z, Ir⟩), rfl⟩, ⟨(Vi (g' := hdCell ⟨h.pl, h.use⟩) (V rfl) ⟨⟨Z, Ir⟩, Ir⟩), rfl⟩, Z⟩)) (order_ct l h (by first | assumption | exact kb_nil | exact kb_of (by assumption) | exact kb_of fam_c5)) (by exact Z) rfl rfl rfl rfl <| U (Mv (V rfl)) <| U (Xt (V rfl) (by decide)) <| U (Xt (V rfl) (by decide)) <| U (As (V rfl)) <| U (As (V rfl)) <| Nt <| Sq <| Sq <| Rq <| O (Mv (V rfl)) <| O (Qn (V rfl) K) <| Nq <| Cd (V rfl) (fun hc1 => ?_) (fun hc1 => ?_)
 ·have hc1s := hc1; try simp only [BL] at hc1s
  exact Sq <| Rq <| O (Mv (V rfl)) <| O (As (Vn (k := 1) (get := rowG inCell 0 []))) <| O (As (V rfl)) <| Nq <| Rx <| ret2F rfl (vf_nil (V rfl)) (vf_v (V rfl)) (by show sv2 (inRow ([])) (iv ((orderSt l h).2)) = sv2 (inRow (fndSt l h q).1) (iv (fndSt l h q).2); rw [fnd_1 hc1s])
 ·have hc1s := hc1; try simp only [BL] at hc1s
  have hto := to_3 hc1s
  have h24 := to_len hc1s
  have hf1 := first1 (h := h) (ord_first hc1s)
  have hc0 := hf1.1
  have hol : 0 < (orderSt l h).1.length := ord_pos hc1s
  refine Sk <| Sq <| Sq <| Rq <| O (LdB (V rfl) rfl Ga87 (by decide)) <| CQ en72 (by exact ⟨⟨(V rfl), rfl⟩, Z⟩) (chkQ_ct q) <| O (As (V rfl)) <| Nq <| Sq <| Rq <| O (Mv (V rfl)) <| O (Qn (V rfl) K) <| Nq <| Cd (V rfl) (fun hc2 => ?_) (fun hc2 => ?_)
  ·have hc2s := hc2; try simp only [BL] at hc2s
   exact Sq <| Rq <| O (Mv (V rfl)) <| O (As (Vn (k := 1) (get := rowG inCell 0 []))) <| O (As (V rfl)) <| Nq <| Rx <| ret2F rfl (vf_nil (V rfl)) (vf_v (V rfl)) (by show sv2 (inRow ([])) (iv (chkQ q)) = sv2 (inRow (fndSt l h q).1) (iv (fndSt l h q).2); rw [fnd_2 hc1s hc2s])
  ·have hc2s := hc2; try simp only [BL] at hc2s
   have hql := chkQ_len hc2s
   exact Sk <| Sq <| c_frzB 1 [ndRow l] rfl rfl ⟨Z, rfl⟩ rfl <| c_frzB 3 [teRow q] rfl rfl ⟨Z, rfl⟩ rfl <| Rt <| U (Mv (V rfl)) <| U (q_slOL ts33 te33 (V rfl) rfl K (by omega) (by omega)) <| U (Mk (caps := [elB [ndRow l] 0, elB [teRow q] 0]) ⟨(V rfl), (V rfl), Z⟩) <| CM (cargs := [SV.sub 1000 1 1 (((orderSt l h).1).length - 1), fnA 133 ([elB [ndRow l] 0, elB [teRow q] 0])]) [(1000, 4)] [] en60 (by exact ⟨(V rfl), (VA (VF [elB [ndRow l] 0, elB [teRow q] 0] ((V rfl)) (An rfl)) rfl), Z⟩) (delS_ct (fun k => !fitsB l k q) en133 rfl ((orderSt l h).1) hol (fun x hx => fndK_ct x l q hc0 (ord_mdrop hc1s hx) hql.1) (by omega)) (by exact ⟨⟨_, rfl, rfl⟩, Z⟩) rfl rfl rfl rfl <| U (As (V rfl)) <| U (As K) <| Nt <| Rx <| ret2F rfl (vf_subT (l' := (((orderSt l h).1.drop 1).filter fun k => !(fun k => !fitsB l k q) k)) (V rfl) rfl (fun _ _ => ⟨_, rfl⟩) (by exact (delE_t hol).1) (by exact (delE_t hol).2)) (vf_v (V rfl)) (by show sv2 (inRow ((((orderSt l h).1.drop 1).filter fun k => !(fun k => !fitsB l k q) k))) (iv (0)) = sv2 (inRow (fndSt l h q).1) (iv (fndSt l h q).2); rw [fnd_3 hc1s hc2s]; simp only [Bool.not_not])
theorem sought_ct  : Ct Try.prog 71 [] (bv true) := by
 refine CtO 69 Try.func71 rfl rfl rfl fun E => Sq <| Rq <| O (As K) <| Nq <| Sq <| Rt <| CT en103 (by exact Z) (family_ct) <| U (Mv (V rfl)) <| U (Xt (V rfl) (by decide)) <| U (Xt (V rfl) (by decide)) <| U (Xt (V rfl) (by decide)) <| Al 1 zero24 rfl rfl <| Al 2 zero113 rfl rfl <| StA (V rfl) rfl (V rfl) Sz24 <| StA (V rfl) rfl (V rfl) Sz113 <| U (As (V rfl)) <| Nt <| Sq <| Rt <| U (LBA (V rfl) rfl Ga24 Sz24 (by decide)) <| U (q_ixB (i := 0) (V rfl) K ta113 te113 (by rw [al113]; decide)) <| U (LBA (V rfl) rfl Ga26 Sz26 (by decide)) <| U (Bu [(0, iv (0)), (1, iv ((-1000001)))] id (teCell ⟨0, (-1000001), false⟩) zero100 build100 (by exact ⟨⟨rfl, K, rfl⟩, ⟨rfl, K, rfl⟩, Z⟩) (by decide) ⟨⟨⟨Z, rfl⟩, rfl⟩, rfl⟩) <| U (Bu [(0, iv (2)), (1, iv (0)), (2, bv (true))] id (teCell ⟨2, 0, true⟩) zero100 build100 (by exact ⟨⟨rfl, K, rfl⟩, ⟨rfl, K, rfl⟩, ⟨rfl, K, rfl⟩, Z⟩) (by decide) ⟨⟨⟨Z, rfl⟩, rfl⟩, rfl⟩) <| Uw (w_bs (n := 2) (zget := cmpG [iv (0), iv (0), bv (false)]) [(teCell ⟨0, (-1000001), false⟩), (teCell ⟨2, 0, true⟩)] (rowG teCell default [⟨0, (-1000001), false⟩, ⟨2, 0, true⟩]) Un87 Sz100 zero100 (by decide) rfl (by decide) ⟨⟨rfl, .inl (V rfl), rfl⟩, ⟨rfl, .inl (V rfl), rfl⟩, Z⟩ ⟨⟨Z, ⟨⟨⟨Z, rfl⟩, rfl⟩, rfl⟩⟩, ⟨⟨⟨Z, rfl⟩, rfl⟩, rfl⟩⟩) <| CT en68 (by exact ⟨⟨(Vi (g' := stG fam5) (V rfl) ⟨Z, Ir⟩), rfl⟩, ⟨(Vi (g' := hdCell ⟨0, 1⟩) (V rfl) ⟨⟨Z, Ir⟩, Ir⟩), rfl⟩, ⟨(V rfl), rfl⟩, Z⟩) ((fnd_ctF fam5 (⟨0, 1⟩) ([⟨0, (-1000001), false⟩, ⟨2, 0, true⟩]) (by first | assumption | exact kb_nil | exact kb_of (by assumption) | exact kb_of fam_c5)).ct) <| U (Mv (V rfl)) <| U (Xt (V rfl) (by decide)) <| U (Xt (V rfl) (by decide)) <| U (As (V rfl)) <| U (As (V rfl)) <| Nt <| Sq <| Rt <| U (LBA (V rfl) rfl Ga24 Sz24 (by decide)) <| U (q_ixB (i := 0) (V rfl) K ta113 te113 (by rw [al113]; decide)) <| U (LBA (V rfl) rfl Ga26 Sz26 (by decide)) <| U (Bu [(0, iv ((-1000001))), (1, iv (0))] id (teCell ⟨(-1000001), 0, false⟩) zero100 build100 (by exact ⟨⟨rfl, K, rfl⟩, ⟨rfl, K, rfl⟩, Z⟩) (by decide) ⟨⟨⟨Z, rfl⟩, rfl⟩, rfl⟩) <| Uw (w_bs (n := 1) (zget := cmpG [iv (0), iv (0), bv (false)]) [(teCell ⟨(-1000001), 0, false⟩)] (rowG teCell default [⟨(-1000001), 0, false⟩]) Un87 Sz100 zero100 (by decide) rfl (by decide) ⟨⟨rfl, .inl (V rfl), rfl⟩, Z⟩ ⟨Z, ⟨⟨⟨Z, rfl⟩, rfl⟩, rfl⟩⟩) <| ?_
 refine CT en67 (by exact ⟨⟨(Vi (g' := stG fam5) (V rfl) ⟨Z, Ir⟩), rfl⟩, ⟨(Vi (g' := hdCell ⟨0, 1⟩) (V rfl) ⟨⟨Z, Ir⟩, Ir⟩), rfl⟩, ⟨(V rfl), rfl⟩, Z⟩) (fit_ct fam5 ⟨0, 1⟩ ([⟨(-1000001), 0, false⟩]) (by first | assumption | exact kb_nil | exact kb_of (by assumption) | exact kb_of fam_c5)) <| U (Mv (V rfl)) <| U (Xt (V rfl) (by decide)) <| U (Xt (V rfl) (by decide)) <| U (As (V rfl)) <| U (As (V rfl)) <| Nt <| Sq <| Rt <| U (LBA (V rfl) rfl Ga24 Sz24 (by decide)) <| U (q_ixB (i := 0) (V rfl) K ta113 te113 (by rw [al113]; decide)) <| U (LBA (V rfl) rfl Ga26 Sz26 (by decide)) <| U (Bu [(0, iv ((-1000001))), (1, iv (0))] id (teCell ⟨(-1000001), 0, false⟩) zero100 build100 (by exact ⟨⟨rfl, K, rfl⟩, ⟨rfl, K, rfl⟩, Z⟩) (by decide) ⟨⟨⟨Z, rfl⟩, rfl⟩, rfl⟩) <| U (Bu [(0, iv (0)), (1, iv (0))] id (teCell ⟨0, 0, false⟩) zero100 build100 (by exact ⟨⟨rfl, K, rfl⟩, ⟨rfl, K, rfl⟩, Z⟩) (by decide) ⟨⟨⟨Z, rfl⟩, rfl⟩, rfl⟩) <| Uw (w_bs (n := 2) (zget := cmpG [iv (0), iv (0), bv (false)]) [(teCell ⟨(-1000001), 0, false⟩), (teCell ⟨0, 0, false⟩)] (rowG teCell default [⟨(-1000001), 0, false⟩, ⟨0, 0, false⟩]) Un87 Sz100 zero100 (by decide) rfl (by decide) ⟨⟨rfl, .inl (V rfl), rfl⟩, ⟨rfl, .inl (V rfl), rfl⟩, Z⟩ ⟨⟨Z, ⟨⟨⟨Z, rfl⟩, rfl⟩, rfl⟩⟩, ⟨⟨⟨Z, rfl⟩, rfl⟩, rfl⟩⟩) <| CT en67 (by exact ⟨⟨(Vi (g' := stG fam5) (V rfl) ⟨Z, Ir⟩), rfl⟩, ⟨(Vi (g' := hdCell ⟨0, 1⟩) (V rfl) ⟨⟨Z, Ir⟩, Ir⟩), rfl⟩, ⟨(V rfl), rfl⟩, Z⟩) (fit_ct fam5 ⟨0, 1⟩ ([⟨(-1000001), 0, false⟩, ⟨0, 0, false⟩]) (by first | assumption | exact kb_nil | exact kb_of (by assumption) | exact kb_of fam_c5)) <| U (Mv (V rfl)) <| U (Xt (V rfl) (by decide)) <| U (Xt (V rfl) (by decide)) <| U (As (V rfl)) <| U (As (V rfl)) <| Nt <| Sq <| Rt <| U (Mv (V rfl)) <| U (Mv (V rfl)) <| Ug (Gy rfl rfl) (fun hg => Mv (V rfl)) <| Ug (Gy rfl rfl) (fun hg => Ql (Vg (V rfl) hg) K) <| U (Qa (V rfl) (fun h => Vg (V rfl) h)) <| U (Mv (V rfl)) <| Ug (Gy rfl rfl) (fun hg => Mv (V rfl)) <| Ug (Gy rfl rfl) (fun hg => Ql (Vg (V rfl) hg) K) <| U (Qa (V rfl) (fun h => Vg (V rfl) h)) <| U (Mv (V rfl)) <| Ug (Gy rfl rfl) (fun hg => Mv (V rfl)) <| Ug (Gy rfl rfl) (fun hg => Ql (Vg (V rfl) hg) K) <| U (Qa (V rfl) (fun h => Vg (V rfl) h)) <| U (Mv (V rfl)) <| Ug (Gy rfl rfl) (fun hg => Mv (V rfl)) <| U (Qa (V rfl) (fun h => Vg (V rfl) h)) <| ?_
 exact U (Mv (V rfl)) <| Ug (Gy rfl rfl) (fun hg => Mv (V rfl)) <| Ug (Gy rfl rfl) (fun hg => Qo (Vg (V rfl) hg)) <| U (Qa (V rfl) (fun h => Vg (V rfl) h)) <| U (Mv (V rfl)) <| Ug (Gy rfl rfl) (fun hg => Mv (V rfl)) <| UwG (Gy rfl rfl) (fun hg => w_bs (n := 1) (zget := fun _ => iv 0) [(fun _ => iv (2))] (rowG inCell 0 [2]) Un33 Sz3 zero3 (by decide) rfl (by decide) ⟨⟨rfl, .inr ⟨rfl, K, rfl⟩, rfl⟩, Z⟩ ⟨Z, ⟨Z, rfl⟩⟩) <| CTg (Gy rfl rfl) en26 (fun hg => (by exact ⟨⟨(Vg (V rfl) hg), rfl⟩, ⟨(Vg (V rfl) hg), rfl⟩, Z⟩)) (fun hg => equal_ct ((fndSt fam5 (⟨0, 1⟩) ([⟨0, (-1000001), false⟩, ⟨2, 0, true⟩])).1) ([2])) <| U (Qa (V rfl) (fun h => Vg (V rfl) h)) <| U (As (V rfl)) <| Nt <| Rx <| R1 rfl (V rfl) rfl (by show bv ((((((true && (decide ((fndSt fam5 (⟨0, 1⟩) ([⟨0, (-1000001), false⟩, ⟨2, 0, true⟩])).2 = 0))) && (decide ((fitSt fam5 ⟨0, 1⟩ ([⟨(-1000001), 0, false⟩])).2 = 0))) && (decide ((fitSt fam5 ⟨0, 1⟩ ([⟨(-1000001), 0, false⟩, ⟨0, 0, false⟩])).2 = 0))) && ((fitSt fam5 ⟨0, 1⟩ ([⟨(-1000001), 0, false⟩])).1)) && (!((fitSt fam5 ⟨0, 1⟩ ([⟨(-1000001), 0, false⟩, ⟨0, 0, false⟩])).1))) && (eqInt ((fndSt fam5 (⟨0, 1⟩) ([⟨0, (-1000001), false⟩, ⟨2, 0, true⟩])).1) ([2]))) = bv true; exact congrArg bv (by decide +kernel))
theorem querySays_ct (l : List Nd) (h : Hd) (q : List Te) (hb : ∀ n ∈ l, n.kids.length ≤ 17592186043904) : Ct Try.prog 12 [SV.agg 1 (stG l), SV.agg 2 (hdCell h), teRow q] (bv true) := by
 refine CtO 71 Try.func12 rfl rfl rfl fun E => row_lenA 0 (V (s := 0) rfl) rfl rfl fun hl0_0 => Rl (V (s := 2) rfl) fun hl2 => Sq <| Rt <| BxA 1 (V rfl) rfl rfl <| BxA 2 (V rfl) rfl rfl <| U (As K) <| Nt <| Sq <| Rt <| U (LBA (V rfl) rfl Ga24 Sz24 (by decide)) <| U (LBA (V rfl) rfl Ga26 Sz26 (by decide)) <| U (Mv (V rfl)) <| CT en67 (by exact ⟨⟨(Vi (g' := stG l) (V rfl) ⟨Z, Ir⟩), rfl⟩, ⟨(Vi (g' := hdCell ⟨h.pl, h.use⟩) (V rfl) ⟨⟨Z, Ir⟩, Ir⟩), rfl⟩, ⟨(V rfl), rfl⟩, Z⟩) (fit_ct l h q (by first | assumption | exact kb_nil | exact kb_of (by assumption) | exact kb_of fam_c5)) <| U (Mv (V rfl)) <| U (Xt (V rfl) (by decide)) <| U (Xt (V rfl) (by decide)) <| U (As (V rfl)) <| U (As (V rfl)) <| Nt <| Sq <| Rt <| U (LBA (V rfl) rfl Ga24 Sz24 (by decide)) <| U (LBA (V rfl) rfl Ga26 Sz26 (by decide)) <| U (Mv (V rfl)) <| CT en68 (by exact ⟨⟨(Vi (g' := stG l) (V rfl) ⟨Z, Ir⟩), rfl⟩, ⟨(Vi (g' := hdCell ⟨h.pl, h.use⟩) (V rfl) ⟨⟨Z, Ir⟩, Ir⟩), rfl⟩, ⟨(V rfl), rfl⟩, Z⟩) ((fnd_ctF l h q (by first | assumption | exact kb_nil | exact kb_of (by assumption) | exact kb_of fam_c5)).ct) <| U (Mv (V rfl)) <| U (Xt (V rfl) (by decide)) <| U (Xt (V rfl) (by decide)) <| U (As (V rfl)) <| U (As (V rfl)) <| Nt <| Sq <| Rt <| U (LBA (V rfl) rfl Ga24 Sz24 (by decide)) <| U (LBA (V rfl) rfl Ga26 Sz26 (by decide)) <| U (Mv (V rfl)) <| CT en69 (by exact ⟨⟨(Vi (g' := stG l) (V rfl) ⟨Z, Ir⟩), rfl⟩, ⟨(Vi (g' := hdCell ⟨h.pl, h.use⟩) (V rfl) ⟨⟨Z, Ir⟩, Ir⟩), rfl⟩, ⟨(V rfl), rfl⟩, Z⟩) (fitR_ct l h q (by first | assumption | exact kb_nil | exact kb_of (by assumption) | exact kb_of fam_c5)) <| U (Mv (V rfl)) <| ?_
 refine U (Xt (V rfl) (by decide)) <| U (Xt (V rfl) (by decide)) <| U (As (V rfl)) <| U (As (V rfl)) <| Nt <| Sq <| Rt <| U (LBA (V rfl) rfl Ga24 Sz24 (by decide)) <| U (LBA (V rfl) rfl Ga26 Sz26 (by decide)) <| U (Mv (V rfl)) <| CT en70 (by exact ⟨⟨(Vi (g' := stG l) (V rfl) ⟨Z, Ir⟩), rfl⟩, ⟨(Vi (g' := hdCell ⟨h.pl, h.use⟩) (V rfl) ⟨⟨Z, Ir⟩, Ir⟩), rfl⟩, ⟨(V rfl), rfl⟩, Z⟩) (fndR_ct l h q (by first | assumption | exact kb_nil | exact kb_of (by assumption) | exact kb_of fam_c5)) <| U (Mv (V rfl)) <| U (Xt (V rfl) (by decide)) <| U (Xt (V rfl) (by decide)) <| U (As (V rfl)) <| U (As (V rfl)) <| Nt <| Sq <| Rq <| CQ en71 (by exact Z) (sought_ct) <| O (Mv (V rfl)) <| Og (Gy rfl rfl) (fun hg => Mv (V rfl)) <| CQg (Gy rfl rfl) en72 (fun hg => (by exact ⟨⟨(Vg (V rfl) hg), rfl⟩, Z⟩)) (fun hg => chkQ_ct q) <| Og (Gy rfl rfl) (fun hg => Mv (V rfl)) <| CQg (Gy rfl rfl) en73 (fun hg => (by exact ⟨⟨(Vg (V rfl) hg), rfl⟩, Z⟩)) (fun hg => rchkQ_ct q) <| Og (Gy rfl rfl) (fun hg => Ql (Vg (V rfl) hg) (Vg (V rfl) hg)) <| O (Qa (V rfl) (fun h => Vg (V rfl) h)) <| O (Mv (V rfl)) <| Og (Gy rfl rfl) (fun hg => Mv (V rfl)) <| Og (Gy rfl rfl) (fun hg => Mv (V rfl)) <| Og (Gy rfl rfl) (fun hg => Ql (Vg (V rfl) hg) (Vg (V rfl) hg)) <| O (Qa (V rfl) (fun h => Vg (V rfl) h)) <| O (Mv (V rfl)) <| Og (Gy rfl rfl) (fun hg => Mv (V rfl)) <| Og (Gy rfl rfl) (fun hg => Mv (V rfl)) <| Og (Gy rfl rfl) (fun hg => q_eqlb (Vg (V rfl) hg) (Vg (V rfl) hg) Un4) <| O (Qa (V rfl) (fun h => Vg (V rfl) h)) <| O (Mv (V rfl)) <| Og (Gy rfl rfl) (fun hg => Mv (V rfl)) <| Og (Gy rfl rfl) (fun hg => Mv (V rfl)) <| ?_
 exact Og (Gy rfl rfl) (fun hg => Ql (Vg (V rfl) hg) (Vg (V rfl) hg)) <| O (Qa (V rfl) (fun h => Vg (V rfl) h)) <| O (Mv (V rfl)) <| Og (Gy rfl rfl) (fun hg => Mv (V rfl)) <| Og (Gy rfl rfl) (fun hg => Mv (V rfl)) <| CQg (Gy rfl rfl) en26 (fun hg => (by exact ⟨⟨(Vg (V rfl) hg), rfl⟩, ⟨(Vg (V rfl) hg), rfl⟩, Z⟩)) (fun hg => equal_ct ((fndSt l h q).1) ((fndSt l h q).1)) <| O (Qa (V rfl) (fun h => Vg (V rfl) h)) <| O (As (V rfl)) <| Nq <| Rx <| R1 rfl (V rfl) rfl (by show bv (((((true && (decide (chkQ q = chkQ q))) && (decide ((fitSt l h q).2 = (fitSt l h q).2))) && (((fitSt l h q).1) == ((fitSt l h q).1))) && (decide ((fndSt l h q).2 = (fndSt l h q).2))) && (eqInt ((fndSt l h q).1) ((fndSt l h q).1))) = bv true; exact congrArg bv (by simp [eqInt]))
end Go.Proofs.Ytmcdamcedemdiaa
