/- What the proof of EventTold rests on, part 2: the engine, the walks, the plain laws. -/
import Derived.Test.YtmcdamcedemdiaaEventToldM1
set_option linter.unusedVariables false
set_option linter.unusedSimpArgs false
namespace Go.Eng
open Go.RowKit Go.ChangeShapes Go.WideShapes Go.Deep
def Opens (P : Program) (t : TypeId) (m : Nat) {α : Type} (ok : α → Prop) (sv : α → Nat → SV) : Prop :=
  ∀ {H : Type} (enc : TypeId × Value → H) (w : World) (base : Nat) (spare : Nat → Bool) (held : Bool) (fuel : Nat) (cs : List Value) (x : DataW H × List MemPlace), DataW.trod enc P w base spare held fuel t cs = some x →
    (∀ p ∈ x.2, p.block < w.heap.size) → (∀ n ∈ x.1.weights P t, n ≤ reachBytes) → cs.length = m ∧ ∃ a, ok a ∧ ∀ i, i < m → ∃ u, cs[i]? = some u ∧ u.oneCell' = true ∧ RO w (fun _ => False) (sv a i) u
def okInt (n : Int) : Prop := -9223372036854775808 ≤ n ∧ n ≤ 9223372036854775807
theorem opens_int {P : Program} {t : TypeId} (ht : P.underlying t = some (.int .i64)) : Opens P t 1 okInt fun n _ => iv n := fun enc w base spare held fuel cs x h hlt hwt => by
  obtain ⟨n, rfl, _, hw⟩ := DataW.trod_int ht h
  refine ⟨rfl, n, ?_, fun i hi => ?_⟩
  · show _ ∧ _
    simpa [Lit.wf, IntKind.min, IntKind.max, IntKind.signed, IntKind.bits] using hw
  · obtain rfl : i = 0 := by omega
    exact ⟨_, rfl, rfl, rfl⟩
theorem opens_bool {P : Program} {t : TypeId} (ht : P.underlying t = some .bool) : Opens P t 1 (fun _ : Bool => True) fun n _ => bv n := fun enc w base spare held fuel cs x h hlt hwt => by
  obtain ⟨n, rfl, _⟩ := DataW.trod_bool ht h
  refine ⟨rfl, n, trivial, fun i hi => ?_⟩
  obtain rfl : i = 0 := by omega
  exact ⟨_, rfl, rfl, rfl⟩
theorem list_choice {α : Type} {p : Nat → α → Prop} : ∀ {n : Nat}, (∀ i, i < n → ∃ a, p i a) → ∃ l : List α, l.length = n ∧ ∀ i (h : i < l.length), p i l[i]
  | 0, _ => ⟨[], rfl, fun _ h => absurd h (Nat.not_lt_zero _)⟩
  | n + 1, hp => by
    obtain ⟨l, h1, h2⟩ := list_choice (n := n) fun i hi => hp i (by omega)
    obtain ⟨a, ha⟩ := hp n (by omega)
    refine ⟨l ++ [a], by simp [h1], fun i hi => ?_⟩
    by_cases e : i < l.length
    · rw [List.getElem_append_left e]; exact h2 i e
    · have : i = l.length := by simp at hi; omega
      subst this
      simp only [List.getElem_append_right (Nat.le_refl _), Nat.sub_self, List.getElem_cons_zero]
      exact h1 ▸ ha
theorem weights_mem_all {H : Type} {P : Program} {e : TypeId} : ∀ {ds : List (DataW H)} {d : DataW H}, d ∈ ds → ∀ n ∈ d.weights P e, n ∈ DataW.weightsAll P e ds
  | _ :: _, _, .head _, n, hn => by simp only [DataW.weightsAll, List.mem_append]; exact .inl hn
  | _ :: _, _, .tail _ h, n, hn => by simp only [DataW.weightsAll, List.mem_append]; exact .inr (weights_mem_all h n hn)
theorem opens_sliceW {P : Program} {t e : TypeId} {k by_ : Nat} {α : Type} {ok : α → Prop} {sv : α → Nat → SV} (d : α) (ht : P.underlying t = some (.slice e)) (he : Opens P e k ok sv) (hC : P.cellsOf e = k) (hk : 0 < k) (hB : P.bytesOf e = by_) :
    Opens P t 1 (fun l : List α => l.length * by_ ≤ reachBytes ∧ l.length ≤ maxLen ∧ ∀ x ∈ l, ok x) fun l _ => .row l.length k (rowG sv d l) := fun enc w base spare held fuel cs x h hlt hwt => by
  rcases Go.Deep.open_slice ht h with ⟨rfl, rfl⟩ | ⟨a, len, cap, m, n, D, Pl, rfl, hb, hl, hm, hmm, rfl, hel⟩
  · refine ⟨rfl, [], ⟨by simp, Nat.zero_le _, fun x hx => (by cases hx)⟩, fun i hi => ?_⟩
    obtain rfl : i = 0 := by omega
    exact ⟨_, rfl, rfl, none, 0, rfl, Nat.le_refl _, Nat.zero_le _, fun h => absurd h (Nat.lt_irrefl 0)⟩
  · have hlm : len ≤ m := by rw [hmm]; split <;> omega
    have hall : ∀ i, i < len → ∃ y : α, ok y ∧ ∀ j, j < k → ∃ u, w.cell? (a.add (i * k + j)) = some u ∧ u.oneCell' = true ∧ RO w (fun _ => False) (sv y j) u := fun i hi => by
      obtain ⟨cs', hc, htr⟩ := hel i (by omega)
      rw [hC] at hc
      obtain ⟨_, hcl, hat⟩ := World.cells?_some hc
      obtain ⟨_, y, hy, hj⟩ := he enc w base spare held n cs' _ htr (fun p hp => hlt p (by
        simp only [List.mem_append, List.mem_flatMap, List.mem_range]
        exact .inr ⟨i, by omega, hp⟩)) (fun n hn => hwt n (by
        simp only [DataW.weights, ht, List.mem_cons, List.mem_append]
        exact .inr (.inl (weights_mem_all (List.mem_map.2 ⟨i, List.mem_range.2 hi, rfl⟩) n hn))))
      refine ⟨y, hy, fun j hj' => ?_⟩
      obtain ⟨u, hu, h1, h2⟩ := hj j hj'
      have := hat j hj'
      rw [Go.Deep.add_add] at this
      exact ⟨u, this.trans hu, h1, h2⟩
    obtain ⟨l, hll, hlp⟩ := list_choice hall
    subst hll
    refine ⟨rfl, l, ⟨?_, by omega, fun y hy => ?_⟩, fun i hi => ?_⟩
    · have := hwt _ (by simp only [DataW.weights, ht]; exact .head _)
      simp only [List.length_map, List.length_range, hB] at this
      exact Nat.le_trans (Nat.mul_le_mul_right _ (Nat.le_add_right _ _)) this
    · obtain ⟨i, hi, rfl⟩ := List.mem_iff_getElem.1 hy
      exact (hlp i hi).1
    · obtain rfl : i = 0 := by omega
      refine ⟨_, rfl, rfl, some a, cap, rfl, hl, hm, fun h0 => ?_⟩
      obtain ⟨u, hu, _⟩ := (hlp 0 h0).2 0 hk
      have hsp : a.spot = none := by
        have hu' : w.cell? a = some u := by simpa [Addr.add] using hu
        unfold World.cell? at hu'
        split at hu'
        · split at hu'
          · cases hu'
          · rename_i hs; simpa using hs
        · cases hu'
      obtain ⟨b, o, s⟩ := a
      simp only at hsp
      subst hsp
      refine ⟨b, o, rfl, ?_, fun hf => hf, fun i hi t ht => ?_⟩
      · have hu' : w.cell? ⟨b, o, none⟩ = some u := by simpa [Addr.add] using hu
        unfold World.cell? at hu'
        split at hu'
        · rename_i hh; exact (Array.getElem?_eq_some_iff.1 hh).1
        · cases hu'
      · obtain ⟨u, hu, h1, h2⟩ := (hlp i hi).2 t ht
        refine ⟨u, ?_, h1, ?_⟩
        · have e : (⟨b, o + (i * k + t), none⟩ : Addr) = Addr.add ⟨b, o, none⟩ (i * k + t) := by unfold Addr.add; split <;> simp_all
          rw [e]; exact hu
        · have e : rowG sv d l i t = sv l[i] t := by simp [rowG, List.getD_eq_getElem?_getD, hi]
          rw [e]; exact h2
theorem Opens.mono {P : Program} {t : TypeId} {m : Nat} {α : Type} {ok ok' : α → Prop} {sv : α → Nat → SV} (h : Opens P t m ok sv) (hi : ∀ a, ok a → ok' a) : Opens P t m ok' sv := fun enc w base spare held fuel cs x h1 hlt hwt => by
  obtain ⟨q1, a, q2, q3⟩ := h enc w base spare held fuel cs x h1 hlt hwt
  exact ⟨q1, a, hi a q2, q3⟩
theorem struct_at {P : Program} {t : TypeId} {fs : Array Field} (he : P.underlying t = some (.struct fs)) (hone : oneCellFields P fs = true) (hC : P.cellsOf t = fs.size) {H : Type} {enc : TypeId × Value → H} {w : World} {base : Nat} {spare : Nat → Bool}
    {held : Bool} {fuel : Nat} {cs : List Value} {x : DataW H × List MemPlace} (h : DataW.trod enc P w base spare held fuel t cs = some x) (hlt : ∀ p ∈ x.2, p.block < w.heap.size) (hwt : ∀ n ∈ x.1.weights P t, n ≤ reachBytes) :
    cs.length = fs.size ∧ ∀ (j : Nat) (f : Field), fs[j]? = some f → ∀ {α : Type} {ok : α → Prop} {sv : α → Nat → SV}, Opens P f.type 1 ok sv → ∃ a, ok a ∧ ∃ u, cs[j]? = some u ∧ u.oneCell' = true ∧ RO w (fun _ => False) (sv a 0) u := by
  obtain ⟨ys, n', _, rfl, hlen, hyl, hf⟩ := DataW.trod_struct he h
  rw [hC] at hlen
  refine ⟨hlen, fun j f hj α ok sv hop => ?_⟩
  obtain ⟨ho, hk⟩ := hone_of hone j f hj
  have hjl : j < fs.size := (Array.getElem?_eq_some_iff.1 hj).1
  have h1 := hf j f hj
  rw [ho, hk] at h1
  have hone' : (cs.drop j).take 1 = [cs[j]'(by omega)] := by
    rw [List.drop_eq_getElem_cons (by omega)]
    rfl
  rw [hone'] at h1
  have hys : ys[j]? = some (ys[j]'(by omega)) := List.getElem?_eq_getElem (by omega)
  obtain ⟨_, a, ha, hi⟩ := hop enc w base spare held n' _ _ (h1.trans hys) (fun p hp => hlt p (by
    simp only [List.mem_flatMap]
    exact ⟨_, List.getElem_mem _, hp⟩)) (fun n hn => hwt n (by
    simp only [DataW.weights, he]
    exact DataW.weights_mem_each (j := j) (t := f.type) (d := (ys[j]'(by omega)).1) (by simp [hj]) (by simp [hys]) n hn))
  obtain ⟨u, hu, h2, h3⟩ := hi 0 (by omega)
  simp only [List.getElem?_cons_zero, Option.some.injEq] at hu
  subst hu
  exact ⟨a, ha, _, List.getElem?_eq_getElem (by omega), h2, h3⟩
theorem Opens.param {P : Program} {t : TypeId} {α : Type} {ok : α → Prop} {sv : α → Nat → SV} (h : Opens P t 1 ok sv) {H : Type} {enc : TypeId × Value → H} {w : World} {v : Value} {d : DataW H} {p : List MemPlace}
    (hd : DataW.Trod enc P w 0 (fun _ => true) true t v d p) (hlt : ∀ x ∈ p, x.block < w.heap.size) (hwt : ∀ n ∈ d.weights P t, n ≤ reachBytes) (hv : ∀ cs, v ≠ .agg cs) : ∃ a, ok a ∧ RO w (fun _ => False) (sv a 0) v := by
  obtain ⟨fuel, hf⟩ := hd
  obtain ⟨_, a, ha, hi⟩ := h enc w 0 _ true fuel _ _ hf hlt hwt
  obtain ⟨u, hu, _, h3⟩ := hi 0 (by omega)
  have e : v.cells = #[v] := by
    cases v <;> first | rfl | exact absurd rfl (hv _)
  rw [e] at hu
  simp at hu
  subst hu
  exact ⟨a, ha, h3⟩
theorem Opens.param_agg {P : Program} {t : TypeId} {m : Nat} {α : Type} {ok : α → Prop} {sv : α → Nat → SV} (h : Opens P t m ok sv) {H : Type} {enc : TypeId × Value → H} {w : World} {cs : Array Value} {d : DataW H} {p : List MemPlace}
    (hd : DataW.Trod enc P w 0 (fun _ => true) true t (.agg cs) d p) (hlt : ∀ x ∈ p, x.block < w.heap.size) (hwt : ∀ n ∈ d.weights P t, n ≤ reachBytes) : ∃ a, ok a ∧ RO w (fun _ => False) (.agg m (sv a)) (.agg cs) := by
  obtain ⟨fuel, hf⟩ := hd
  obtain ⟨hl, a, ha, hi⟩ := h enc w 0 _ true fuel _ _ hf hlt hwt
  have e : (Value.agg cs).cells = cs := rfl
  rw [e] at hl hi
  refine ⟨a, ha, cs, rfl, by simpa using hl, fun t ht => ?_⟩
  obtain ⟨u, hu, h2, h3⟩ := hi t ht
  exact ⟨u, by simpa using hu, h2, h3⟩
theorem weights_of {H : Type} {P : Program} {ts : List TypeId} {ds : List (DataW H)} (h : (DataW.weightsEach P ts ds).all (· ≤ reachBytes) = true) (j : Nat) {t : TypeId} {d : DataW H} (ht : ts[j]? = some t) (hd : ds[j]? = some d) : ∀ n ∈ d.weights P t, n ≤ reachBytes := fun n hn => by
  simpa using List.all_eq_true.1 h n (DataW.weights_mem_each ht hd n hn)
theorem trodAll_stays {P : Program} (hl : laidOutB P = true) {H : Type} {enc : TypeId × Value → H} {W W' : World} (hb : Below W.heap.size W W') :
    ∀ {ts : List TypeId} {vs : List Value} {ds : List (DataW H)} {ps : List MemPlace}, (∀ t ∈ ts, P.readableRec t = true ∧ t < P.types.size) → DataW.TrodAll enc P W 0 (fun _ => true) true ts vs ds ps → (∀ x ∈ ps, x.block < W.heap.size) →
      DataW.TrodAll enc P W' 0 (fun b => decide (b < W.heap.size)) true ts vs ds ps
  | [], vs, ds, ps, _, h, _ => by
    obtain ⟨rfl, rfl, rfl⟩ := trodAll_nil h
    exact trodAll_mk0
  | t :: ts, vs, ds, ps, hr, h, hlt => by
    obtain ⟨v, vs', d, ds', p, q, rfl, rfl, rfl, h1, h2⟩ := trodAll_cons h
    exact ⟨p, q, Below.trod hl (hr t (.head _)).1 (hr t (.head _)).2 h1 hb (fun x hx => hlt x (List.mem_append_left _ hx)), trodAll_stays hl hb (fun t ht => hr t (.tail _ ht)) h2 (fun x hx => hlt x (List.mem_append_right _ hx)), rfl⟩
theorem law_post {P : Program} {fn : Func} {s : ChangeSpec} {t : TypeId} {H : Type} {enc : TypeId × Value → H} {W W' : World} {args : Array Value} {ds gs : List (DataW H)} {before : List MemPlace}
    (hl : laidOutB P = true) (hr : ∀ t ∈ fn.params.toList, P.readableRec t = true ∧ t < P.types.size) (hres : fn.resultTypes = #[t]) (ht : P.underlying t = some .bool) (hvars : s.vars = [])
    (hspec : s.fn H (ds ++ gs) = { results := [.lit (.bool true)], args := ds })
    (hW : DataW.Whole enc P fn.params.toList s.vars false W args.toList ds gs before) (hb : Below W.heap.size W W') :
    s.post enc P fn false true false false W args (.bool true) W' := by
  have hW' := hW
  obtain ⟨p, q, hA, hV, rfl, hfz, hnd⟩ := hW
  rw [hvars] at hV
  obtain ⟨rfl, rfl⟩ := trodVars_none hV
  refine ⟨ds, [], p ++ [], [], p, [], hW', ?_, ?_, ?_, hb.frame _, fun h => by cases h⟩
  · rw [hspec, hres]
    exact trodAll_cons_mk (shut_bool ht _) trodAll_mk0
  · rw [hspec]
    exact trodAll_stays hl hb hr hA fun x hx => hW'.lt x (List.mem_append_left _ hx)
  · rw [hspec, hvars]
    rfl
theorem slice_not_agg {P : Program} {w : World} {r : Reach} {b : Nat} {t e : TypeId} {v : Value} (ht : P.underlying t = some (.slice e)) (h : Value.okWide P w r b t v) : ∀ cs, v ≠ .agg cs := by
  obtain ⟨a, l, c, rfl⟩ := okWide_slice ht h
  exact fun cs h => by cases h
theorem Ct.law {P : Program} {f : FuncId} {svs : List SV} (h : Ct P f svs (bv true)) {W : World} {vals : List Value} (hR : ROs W (fun _ => False) svs vals) :
    Calls P f vals.toArray W fun e W' => e = .returned (.bool true) ∧ Below W.heap.size W W' :=
  (h W (fun _ => False) vals (fun _ hf => hf.elim) hR).mono fun e W' ⟨v, he, hv, hb⟩ => ⟨by rw [he]; exact congrArg _ hv, hb⟩
end Go.Eng
namespace Go.Eng
theorem info_of {P : Program} {e : TypeId} {k bytes : Nat} (h : (P.info? e).map (fun i => (i.size, i.bytes, i.zero.map fun z => z.cells.size)) = some (k, bytes, some k)) :
    ∃ i z, P.info? e = some i ∧ i.zero = some z ∧ i.size = k ∧ i.bytes = bytes ∧ z.cells.size = k := by
  obtain ⟨i, hi, hz⟩ := Option.map_eq_some_iff.1 h
  simp only [Prod.mk.injEq] at hz
  obtain ⟨h1, h2, h3⟩ := hz
  obtain ⟨z, h4, h5⟩ := Option.map_eq_some_iff.1 h3
  exact ⟨i, z, hi, h4, h1, h2, h5⟩
end Go.Eng
namespace Go.Eng
theorem zero_one {P : Program} {t : TypeId} {u : Value} (h : ∀ w, (zeroValue t).run P w = .ok u w) (hc : u.cells = #[u]) (h1 : u.oneCell' = true) : ZeroOk P t 1 (fun _ => SV.v u) :=
  ⟨u, h, by rw [hc]; rfl, fun t ht => by
    obtain rfl : t = 0 := by omega
    exact ⟨u, by rw [hc]; rfl, h1, fun _ _ => rfl⟩⟩
end Go.Eng
namespace Go.Eng
open Go.RowKit
variable {P : Program} {NN : Nat} {E : Env NN}
def mget (kvs : List (Int × Value)) (k : Int) : Option Value := (kvs.find? (fun p => decide (p.1 = k))).map (·.2)
def mput : List (Int × Value) → Int → Value → List (Int × Value)
  | [], k, v => [(k, v)]
  | p :: r, k, v => if p.1 = k then (k, v) :: r else p :: mput r k v
theorem RepB.newmap {b : Nat → Value} {S : St} {a : Act} {w : World} (h : RepB E b S a w) {j : Nat} (hf : S.fresh j = true) :
    RepB E (setB b j (.map (some w.heap.size))) ⟨S.slots, (j, .amap []) :: S.owns⟩ a (w.alloc (.map #[] 0)) :=
  h.add (below_alloc w (.map #[] 0)) hf (fun g hg => by
    have hg : some w.heap.size = some g := hg
    injection hg with hg; omega) fun X' _ _ _ => ⟨w.heap.size, #[], 0, setB_same _ _ _, h.base_le, (MapKept.heap_alloc w _).1, rfl⟩
theorem t_makeMap {ops : Array Oper} {rest : List Oper} {S : St} {K : St → Prop} {d : Tmp} {t : TypeId} {ty : TypeId} {pos : String} {after : Array Edge} (j : Nat)
    (hf : S.fresh j = true) (hk : T P E ops rest ⟨(d, .own j) :: S.slots, (j, .amap []) :: S.owns⟩ K) (hd : d < NN := by decide) :
    T P E ops ({ dst := some d, op := .makeMap t none, type := ty, pos, after, guard := none } :: rest) S K := by
  rintro a w ⟨b, hr⟩ Q hq
  unfold wpList
  rw [if_pos (by rfl)]
  refine .inl (wp_of_run (w' := w.alloc (.map #[] 0)) (v := .map (some w.heap.size)) ?_ ?_)
  · simp [execOp, run_makeMap]
  · exact hk _ _ ⟨_, (hr.newmap hf).put (x := .own j) hd (own_val rfl)⟩ Q hq
abbrev kvOf (e : MapEntry) : Value × Value := (e.key, e.val)
abbrev kvV (p : Int × Value) : Value × Value := (.int .i64 p.1, p.2)
theorem find_at {k : Int} : ∀ (l : List MapEntry) (kvs : List (Int × Value)) (i : Nat), l.map kvOf = kvs.map kvV →
    (Instr.findNow (.int .i64) (.int .i64 k) l i = some none ∧ mget kvs k = none ∧ ∀ v, mput kvs k v = kvs ++ [(k, v)]) ∨
    ∃ j e, Instr.findNow (.int .i64) (.int .i64 k) l i = some (some (i + j, e.val)) ∧ l[j]? = some e ∧ e.key = .int .i64 k ∧ mget kvs k = some e.val ∧
      ∀ v, (mput kvs k v).map kvV = (l.modify j fun e => { e with key := .int .i64 k, val := v }).map kvOf
  | [], kvs, i, h => by
    cases kvs with
    | nil => exact .inl ⟨rfl, rfl, fun _ => rfl⟩
    | cons p r => cases h
  | e :: es, kvs, i, h => by
    cases kvs with
    | nil => cases h
    | cons p r =>
      simp only [List.map_cons, List.cons.injEq] at h
      obtain ⟨h0, hr⟩ := h
      have hk : e.key = .int .i64 p.1 := congrArg Prod.fst h0
      have hv : e.val = p.2 := congrArg Prod.snd h0
      by_cases q : p.1 = k
      · have hn : Instr.findNow (.int .i64) (.int .i64 k) (e :: es) i = some (some (i, e.val)) := by
          simp [Instr.findNow, hk, Instr.sameNow, q]
        refine .inr ⟨0, e, by rw [hn]; rfl, rfl, by rw [hk, q], by simp [mget, q, hv], fun v => ?_⟩
        simp only [mput, if_pos q, List.map_cons, List.modify_zero_cons, hr]
      · have hn : Instr.findNow (.int .i64) (.int .i64 k) (e :: es) i = Instr.findNow (.int .i64) (.int .i64 k) es (i + 1) := by
          have : (k == p.1) = false := by simpa using fun h => q h.symm
          simp [Instr.findNow, hk, Instr.sameNow, this]
        rcases find_at es r (i + 1) hr with ⟨h1, h2, h3⟩ | ⟨j, e', h1, h2, h3, h4, h5⟩
        · refine .inl ⟨by rw [hn, h1], ?_, fun v => ?_⟩
          · simp only [mget, List.find?_cons, decide_eq_false q]; exact h2
          · simp only [mput, if_neg q, h3 v, List.cons_append]
        · refine .inr ⟨j + 1, e', by rw [hn, h1]; simp; omega, h2, h3, ?_, fun v => ?_⟩
          · simp only [mget, List.find?_cons, decide_eq_false q]; exact h4
          · simp only [mput, if_neg q, List.map_cons, h5 v, List.modify_succ_cons, h0]
theorem run_mapPut {t kt et : TypeId} {w : World} {g : Nat} {es : Array MapEntry} {clk : Nat} {kvs : List (Int × Value)} {k : Int} {v : Value} (ht : P.underlying t = some (.map kt et)) (hkt : P.underlying kt = some (.int .i64)) (hg : w.heap[g]? = some (.map es clk))
    (hkv : es.toList.map kvOf = kvs.map kvV) :
    ∃ es' clk', (Instr.mapUpdate t (.map (some g)) (.int .i64 k) v).run P w = .ok () { w with heap := w.heap.setIfInBounds g (.map es' clk') } ∧ es'.toList.map kvOf = (mput kvs k v).map kvV := by
  have hck : ∀ e n, (Instr.checkKey e (n + 1) kt (.int .i64 k)).run P w = .ok () w := fun e n => MapKept.run_checkKey (k := .int .i64 k) hkt rfl e n
  rcases find_at (k := k) es.toList kvs 0 hkv with ⟨h1, _, h3⟩ | ⟨j, e, h1, h2, h3, h4, h5⟩
  · refine ⟨es.push { key := .int .i64 k, val := v, born := clk }, clk + 1, ?_, ?_⟩
    · have hf := MapKept.run_findKey (P := P) (w := w) hkt h1
      simp only [Instr.mapUpdate, Sem.run_bind, run_underlying ht, Result.andThen_ok, MapKept.run_getObj_map hg, hck, hf, MapKept.run_setObj_map _ hg]
    · rw [h3 v]; simp [hkv]
  · refine ⟨es.modify j fun e => { e with key := .int .i64 k, val := v }, clk, ?_, ?_⟩
    · have hf := MapKept.run_findKey (P := P) (w := w) hkt h1
      have hes : es[j]? = some e := by simpa using h2
      have hkeep : (Instr.keyThatStays (.int .i64 k) (.int .i64 k)).run P w = .ok (.int .i64 k) w := by
        simp [Instr.keyThatStays, Instr.sameBits]
      simp only [Nat.zero_add] at hf
      simp only [Instr.mapUpdate, Sem.run_bind, run_underlying ht, Result.andThen_ok, MapKept.run_getObj_map hg, hck, hf, hes, Option.map_some, Option.getD_some, h3, hkeep, MapKept.run_setObj_map _ hg]
    · rw [Array.toList_modify, h5 v]
theorem t_mapPut {ops : Array Oper} {rest : List Oper} {S : St} {K : St → Prop} {t kt et : TypeId} {m xk xv : Operand} {op : Op} {ty : TypeId} {pos : String} {after : Array Edge} {j : Nat} {kvs : List (Int × Value)} {k : Int} {v : Value}
    (hop : op = .insert t m xk xv ∨ op = .mapUpdate t m xk xv) (ht : P.underlying t = some (.map kt et)) (hkt : P.underlying kt = some (.int .i64)) (hm : Val E S m (.own j)) (ho : lookO j S.owns = some (.amap kvs)) (hk : Val E S xk (iv k)) (hv : Val E S xv (.v v))
    (hr : T P E ops rest ⟨S.slots, (j, .amap (mput kvs k v)) :: S.owns⟩ K) :
    T P E ops ({ dst := none, op, type := ty, pos, after, guard := none } :: rest) S K := by
  rintro a w ⟨b, hr0⟩ Q hq
  obtain ⟨g, es, clk, hb, hbase, hh, hkv⟩ := hr0.owns j _ ho
  have h1 : a.eval m = .map (some g) := (hm b a w hr0).trans (by rw [hb]; rfl)
  have h2 : a.eval xk = .int .i64 k := hk b a w hr0
  have h3 : a.eval xv = v := hv b a w hr0
  obtain ⟨es', clk', hrun, hkv'⟩ := run_mapPut (P := P) (k := k) (v := v) ht hkt hh hkv
  have hset := MapKept.heap_set (o' := .map es' clk') hh
  unfold wpList
  rw [if_pos (by rfl)]
  refine .inl (wp_of_skip (w' := { w with heap := w.heap.setIfInBounds g (.map es' clk') }) ?_ ?_)
  · rcases hop with rfl | rfl <;> simp [execOp, h1, h2, h3, hrun]
  · refine hr _ _ ⟨b, hr0.setown (w' := { w with heap := w.heap.setIfInBounds g (.map es' clk') }) ho (g := g) (by rw [hb]; exact rfl) ⟨rfl, rfl, rfl, by simp⟩ (fun k hk => hset.2 k hk) fun X _ _ => ⟨g, es', clk', hb, hbase, hset.1, hkv'⟩⟩ Q hq
theorem q_lookup1 {S : St} {t kt et : TypeId} {m xk : Operand} {j : Nat} {kvs : List (Int × Value)} {k : Int} {z : Value} (ht : P.underlying t = some (.map kt et)) (hkt : P.underlying kt = some (.int .i64)) (hz : ∀ w, (zeroValue et).run P w = .ok z w)
    (hm : Val E S m (.own j)) (ho : lookO j S.owns = some (.amap kvs)) (hk : Val E S xk (iv k)) : OpQ P E S (.lookup t m xk false) (.v ((mget kvs k).getD z)) := fun b a w hr dst ty pos after gd => by
  obtain ⟨g, es, clk, hb, hbase, hh, hkv⟩ := hr.owns j _ ho
  have h1 : a.eval m = .map (some g) := (hm b a w hr).trans (by rw [hb]; rfl)
  have h2 : a.eval xk = .int .i64 k := hk b a w hr
  refine ⟨(mget kvs k).getD z, fun w' hw' => ?_, rfl⟩
  · have hh' : w'.heap[g]? = some (.map es clk) := by rw [hw'.block g (Array.getElem?_eq_some_iff.1 hh).1]; exact hh
    have hck : ∀ e n, (Instr.checkKey e (n + 1) kt (.int .i64 k)).run P w' = .ok () w' := fun e n => MapKept.run_checkKey (k := .int .i64 k) hkt rfl e n
    rcases find_at (k := k) es.toList kvs 0 hkv with ⟨h3, h4, _⟩ | ⟨i, e, h3, h5, _, h4, _⟩
    · have hf := MapKept.run_findKey (P := P) (w := w') hkt h3
      simp [execOp, h1, h2, Instr.lookup, run_underlying ht, MapKept.run_getObj_map hh', hck, hf, hz, h4]
    · have hf := MapKept.run_findKey (P := P) (w := w') hkt h3
      simp [execOp, h1, h2, Instr.lookup, run_underlying ht, MapKept.run_getObj_map hh', hck, hf, h4]
def mapSV (kvs : List (Int × Value)) : SV := .abs (fun w X v => ∃ (g : Nat) (es : Array MapEntry) (clk : Nat), v = .map (some g) ∧ g < w.heap.size ∧ ¬ X g ∧ w.heap[g]? = some (.map es clk) ∧ es.toList.map kvOf = kvs.map kvV)
  fun w w' X X' v he hX ⟨g, es, clk, h1, h2, h3, h4, h5⟩ => ⟨g, es, clk, h1, Nat.lt_of_lt_of_le h2 he.size, fun h => h3 (hX g h2 h), (he.block g h2 h3).trans h4, h5⟩
theorem c_frzM {c : Code} {S : St} {Q : Exit → Act → World → Prop} (j : Nat) {kvs : List (Int × Value)} (ho : lookO j S.owns = some (.amap kvs))
    (h : C P E c ⟨frzS j (mapSV kvs) S.slots, frzO j (mapSV kvs) S.owns⟩ Q) : C P E c S Q :=
  (weak_frzG j (mapSV kvs) ho fun b w X X' ⟨g, es, clk, hb, _, hh, hk⟩ hX _ => ⟨g, es, clk, by rw [hb]; rfl, (Array.getElem?_eq_some_iff.1 hh).1, hX g (by rw [hb]; exact rfl), hh, hk⟩).c h
end Go.Eng
namespace Go.Eng
open Go.RowKit
variable {P : Program} {NN : Nat} {E : Env NN}
theorem fill_congr {p p' : Nat → Option (Nat × Nat)} : ∀ (l : List (Nat × Value)) (cells cs : Array Value), (∀ x ∈ l, p' x.1 = p x.1) → Instr.fill p cells l = some cs → Instr.fill p' cells l = some cs
  | [], _, _, _, h => h
  | (i, v) :: r, cells, cs, he, h => by
    have e : p' i = p i := he (i, v) (.head _)
    simp only [Instr.fill, e] at h ⊢
    cases hp : p i with
    | none => rw [hp] at h; cases h
    | some q =>
      obtain ⟨off, size⟩ := q
      simp only [hp] at h ⊢
      split at h
      · cases h
      · rename_i hc
        rw [if_neg hc]
        exact fill_congr r _ _ (fun x hx => he x (.tail _ hx)) h
theorem build_struct {t : TypeId} {fs : Array Field} {m : Nat} (ht : P.underlying t = some (.struct fs))
    (hpl : ∀ w, (fs.mapM fun f => (do pure (f.offset, ← sizeOf f.type) : Sem (Nat × Nat))).run P w = .ok (Array.ofFn fun i : Fin m => (i.1, 1)) w) :
    ∀ (w : World) (parts : List (Nat × Value)) (z : Value) (cs : Array Value), (zeroValue t).run P w = .ok z w → Instr.fill (fun i => if i < m then some (i, 1) else none) z.cells parts = some cs → (∀ p ∈ parts, p.1 < m) → (Instr.build t parts.toArray).run P w = .ok (.agg cs) w := by
  intro w parts z cs hz hf hlt
  have hf' := fill_congr (p' := fun i => (Array.ofFn fun i : Fin m => (i.1, 1))[i]?) parts z.cells cs (fun x hx => by simp [hlt x hx]) hf
  simp only [Instr.build, Sem.run_bind, hz, Result.andThen_ok, run_underlying ht, hpl, hf', Sem.run_pure]
end Go.Eng
namespace Go.Eng
open Go.RowKit
variable {P : Program} {NN : Nat} {E : Env NN}
def setE (e : Nat → Bool) (i : Nat) : Nat → Bool := fun k => match Nat.beq k i with | true => true | false => e k
def depsOf (o : Oper) : List Nat := (o.after.toList.filter (Region.binds .any)).map (·.on)
def DepsL (e : Nat → Bool) : List Nat → Prop
  | [] => True
  | k :: r => e k = true ∧ DepsL e r
theorem DepsL.at {e : Nat → Bool} : ∀ {l : List Nat}, DepsL e l → ∀ k ∈ l, e k = true
  | k :: r, h, x, hx => by
    cases hx with
    | head => exact h.1
    | tail _ hx => exact DepsL.at h.2 x hx
theorem DepsL.of {e : Nat → Bool} : ∀ {l : List Nat}, (∀ k ∈ l, e k = true) → DepsL e l
  | [], _ => trivial
  | k :: r, h => ⟨h k (.head _), DepsL.of fun x hx => h x (.tail _ hx)⟩
def Down (l : List Oper) (e : Nat → Bool) : Prop := ∀ k, e k = true → DepsL e (match l[k]? with | some o => depsOf o | none => [])
def Steps (P : Program) {NN : Nat} (E : Env NN) (l : List Oper) (stE : (Nat → Bool) → St) : Nat → List Oper → Prop
  | _, [] => True
  | k, o :: r => (∀ e, Down l e → e k = false → DepsL e (depsOf o) → T P E l.toArray [o] (stE e) (fun S' => Weak E S' (stE (setE e k)))) ∧ Steps P E l stE (k + 1) r
theorem Steps.at {l : List Oper} {stE : (Nat → Bool) → St} : ∀ {r : List Oper} {k : Nat}, Steps P E l stE k r → ∀ i o, r[i]? = some o →
    ∀ e, Down l e → e (k + i) = false → DepsL e (depsOf o) → T P E l.toArray [o] (stE e) (fun S' => Weak E S' (stE (setE e (k + i))))
  | [], _, _, i, o, h => by simp at h
  | x :: r, k, hs, 0, o, h => by simp at h; subst h; exact hs.1
  | x :: r, k, hs, i + 1, o, h => by
    have := Steps.at hs.2 i o (by simpa using h)
    have e : k + 1 + i = k + (i + 1) := by omega
    rw [e] at this
    exact this
def backB : Nat → List Oper → Bool
  | _, [] => true
  | k, o :: r => (depsOf o).all (fun x => decide (x < k)) && backB (k + 1) r
theorem backB.at : ∀ {r : List Oper} {k : Nat}, backB k r = true → ∀ i o, r[i]? = some o → ∀ x ∈ depsOf o, x < k + i
  | [], _, _, i, o, h => by simp at h
  | y :: r, k, hb, 0, o, h => by
    simp at h; subst h
    simp only [backB, Bool.and_eq_true, List.all_eq_true, decide_eq_true_eq] at hb
    exact fun x hx => by have := hb.1 x hx; omega
  | y :: r, k, hb, i + 1, o, h => by
    simp only [backB, Bool.and_eq_true] at hb
    intro x hx
    have := backB.at hb.2 i o (by simpa using h) x hx
    omega
theorem upon_mono {o : Oper} {a : Act} {N : Act → World → Prop} {Q Q2 : Exit → Act → World → Prop} (hQ : ∀ x a w, x ≠ .normal → Q x a w → Q2 x a w) {r : Result Next} (h : o.upon P a N Q r) : o.upon P a N Q2 r := by
  cases r with
  | ok n w' =>
    cases n <;> simp only [Oper.upon] at h ⊢ <;>
      first
        | exact h
        | exact Calls.mono h (fun e w'' he => by
            cases e with
            | returned v => exact he
            | panicked c => exact hQ _ _ _ (by simp) he
            | outgrown => obtain ⟨a, w, hh⟩ := he; exact ⟨a, w, hQ _ _ _ (by simp) hh⟩)
  | halt x w' => cases x <;> simp only [Oper.upon] at h ⊢ <;> exact hQ _ _ _ (by simp) h
def flags (listed : Array Bool) : Nat → Bool := fun i => listed.getD i false
def leftN (listed : Array Bool) : Nat := listed.toList.countP (fun b => !b)
theorem ready_mem {md : Region.Mode} {l : List Oper} {listed : Array Bool} (hsz : listed.size = l.length) {i : Nat} (h : i ∈ Region.ready md l.toArray listed) :
    ∃ o, l[i]? = some o ∧ flags listed i = false ∧ ∀ ed ∈ o.after.toList, Region.binds md ed = true → flags listed ed.on = true := by
  simp only [Region.ready, List.mem_filter, List.mem_range, Bool.and_eq_true, Bool.not_eq_true', List.size_toArray] at h
  obtain ⟨hi, h1, h2⟩ := h
  have hl : l[i]? = some l[i] := List.getElem?_eq_getElem hi
  refine ⟨l[i], hl, ?_, fun ed he hb => ?_⟩
  · have h3 : i < listed.size := by omega
    simp only [Array.getD_eq_getD_getElem?, Array.getElem?_eq_getElem h3, Option.getD_some, flags] at h1 ⊢
    exact h1
  · have h4 : (l.toArray[i]?) = some l[i] := by simp [hi]
    rw [h4] at h2
    simp only [Option.map_some, Option.getD_some, Array.all_eq_true_iff_forall_mem, Bool.or_eq_true, Bool.not_eq_true'] at h2
    rcases h2 ed (by simpa using he) with h5 | h5
    · rw [hb] at h5; cases h5
    · exact h5
theorem mem_ready {md : Region.Mode} {l : List Oper} {listed : Array Bool} (hsz : listed.size = l.length) {i : Nat} {o : Oper} (ho : l[i]? = some o) (he : flags listed i = false)
    (hd : ∀ ed ∈ o.after.toList, Region.binds md ed = true → flags listed ed.on = true) : i ∈ Region.ready md l.toArray listed := by
  have hi : i < l.length := (List.getElem?_eq_some_iff.1 ho).1
  have hoi : l[i] = o := (List.getElem?_eq_some_iff.1 ho).2
  simp only [Region.ready, List.mem_filter, List.mem_range, Bool.and_eq_true, Bool.not_eq_true', List.size_toArray]
  refine ⟨hi, ?_, ?_⟩
  · have h3 : i < listed.size := by omega
    simp only [Array.getD_eq_getD_getElem?, Array.getElem?_eq_getElem h3, Option.getD_some, flags] at he ⊢
    exact he
  · have h4 : (l.toArray[i]?) = some o := by simp [ho]
    rw [h4]
    simp only [Option.map_some, Option.getD_some, Array.all_eq_true_iff_forall_mem, Bool.or_eq_true, Bool.not_eq_true']
    intro ed hed
    cases hb : Region.binds md ed with
    | false => exact .inl rfl
    | true => exact .inr (hd ed (by simpa using hed) hb)
theorem leftN_set {listed : Array Bool} {i : Nat} (hi : i < listed.size) (h : flags listed i = false) : leftN (listed.setIfInBounds i true) + 1 = leftN listed := by
  obtain ⟨l⟩ := listed
  simp only [leftN, flags, Array.getD_eq_getD_getElem?, List.getElem?_toArray, List.setIfInBounds_toArray] at *
  simp only [List.size_toArray] at hi
  induction l generalizing i with
  | nil => simp at hi
  | cons x r ih =>
    cases i with
    | zero =>
      simp at h; subst h
      simp [List.countP_cons]
    | succ i =>
      have := ih (i := i) (by simpa using h) (by simpa using hi)
      simp only [List.set_cons_succ, List.countP_cons]
      omega
theorem leftN_zero {listed : Array Bool} (h : leftN listed = 0) : ∀ i, i < listed.size → flags listed i = true := by
  intro i hi
  simp only [leftN, List.countP_eq_zero] at h
  have := h listed[i] (by simp)
  simp only [flags, Array.getD_eq_getD_getElem?, Array.getElem?_eq_getElem hi, Option.getD_some]
  simpa using this
theorem flags_set {listed : Array Bool} {i : Nat} (hi : i < listed.size) : flags (listed.setIfInBounds i true) = setE (flags listed) i := by
  funext k
  simp only [flags, setE, Array.getD_eq_getD_getElem?, Array.getElem?_setIfInBounds]
  by_cases e : i = k
  · subst e; simp [hi]
  · have hb : Nat.beq k i = false := by
      cases hb : Nat.beq k i
      · rfl
      · exact absurd (Nat.eq_of_beq_eq_true hb).symm e
    rw [if_neg e, hb]
theorem deps_iff {o : Oper} {e : Nat → Bool} : DepsL e (depsOf o) ↔ ∀ ed ∈ o.after.toList, Region.binds .any ed = true → e ed.on = true := by
  constructor
  · intro h ed he hb
    exact h.at _ (List.mem_map.2 ⟨ed, List.mem_filter.2 ⟨he, hb⟩, rfl⟩)
  · intro h
    refine DepsL.of fun k hk => ?_
    obtain ⟨ed, hed, rfl⟩ := List.mem_map.1 hk
    obtain ⟨h1, h2⟩ := List.mem_filter.1 hed
    exact h ed h1 h2
theorem wpAny_steps {l : List Oper} {stE : (Nat → Bool) → St} {Q : Exit → Act → World → Prop} (hb : backB 0 l = true) (hs : Steps P E l stE 0 l) (hf : ∀ e, (∀ i, i < l.length → e i = true) → ∀ a w, Rep E (stE e) a w → Q .normal a w) :
    ∀ (fuel : Nat) (listed : Array Bool) (a : Act) (w : World), listed.size = l.length → leftN listed ≤ fuel → Down l (flags listed) → Rep E (stE (flags listed)) a w → wpAny P .any l.toArray Q fuel listed a w := by
  have hempty : ∀ (listed : Array Bool), listed.size = l.length → Region.ready .any l.toArray listed = [] → ∀ i, i < l.length → flags listed i = true := by
    intro listed hsz hr i
    induction i using Nat.strongRecOn with
    | ind i ih =>
      intro hi
      cases hfl : flags listed i with
      | true => rfl
      | false =>
        have hm := mem_ready (md := .any) hsz (List.getElem?_eq_getElem hi) hfl (fun ed hed hbd => by
          have hlt := backB.at hb i _ (List.getElem?_eq_getElem hi) ed.on (List.mem_map.2 ⟨ed, List.mem_filter.2 ⟨hed, hbd⟩, rfl⟩)
          exact ih ed.on (by omega) (by omega))
        rw [hr] at hm; cases hm
  intro fuel
  induction fuel with
  | zero =>
    intro listed a w hsz hle hd hr
    have hall := leftN_zero (Nat.le_zero.1 hle)
    refine ⟨?_, hf _ (fun i hi => hall i (by omega)) a w hr⟩
    refine List.eq_nil_iff_forall_not_mem.2 fun i hi => ?_
    obtain ⟨o, ho, h1, _⟩ := ready_mem hsz hi
    have := hall i (by have := (List.getElem?_eq_some_iff.1 ho).1; omega)
    rw [h1] at this; cases this
  | succ fuel ih =>
    intro listed a w hsz hle hd hr
    refine ⟨fun h0 => hf _ (hempty listed hsz h0) a w hr, fun i hi => ?_⟩
    obtain ⟨o, ho, h1, h2⟩ := ready_mem hsz hi
    have hil : i < listed.size := by have := (List.getElem?_eq_some_iff.1 ho).1; omega
    have hst := Steps.at hs i o ho (flags listed) hd (by rw [Nat.zero_add]; exact h1) (deps_iff.2 h2)
    rw [Nat.zero_add] at hst
    let K : Act → World → Prop := wpAny P .any l.toArray Q fuel (listed.setIfInBounds i true)
    let Q2 : Exit → Act → World → Prop := fun x a w => match x with | .normal => K a w | _ => False
    have hstep := hst a w hr Q2 (fun S' a' w' hw hr' => by
      show K a' w'
      obtain ⟨b, hr'⟩ := hr'
      refine ih _ a' w' (by simpa using hsz) (by have := leftN_set hil h1; omega) ?_ ?_
      · intro k hk
        rw [flags_set hil] at hk ⊢
        by_cases e : k = i
        · subst e
          rw [ho]
          refine deps_iff.2 fun ed hed hbd => ?_
          have := h2 ed hed hbd
          simp only [setE]
          split
          · rfl
          · exact this
        · have hk' : flags listed k = true := by
            simp only [setE] at hk
            split at hk
            · rename_i hb'; exact absurd (Nat.eq_of_beq_eq_true hb') e
            · exact hk
          refine DepsL.of fun x hx => ?_
          have := (hd k hk').at x hx
          simp only [setE]
          split
          · rfl
          · exact this
      · rw [flags_set hil]
        exact ⟨b, hw b a' w' hr'⟩)
    unfold wpOp
    have ho' : l.toArray[i]? = some o := by simp [ho]
    rw [ho']
    unfold wpList at hstep
    by_cases hw : Region.wanted o (yielded l.toArray a.tmps) = true
    · rw [if_pos hw] at hstep
      simp only []
      rw [if_pos hw]
      have hbad : ∀ x (a : Act) (w : World), x ≠ Exit.normal → Q2 x a w → Q x a w := by
        intro x a w hx hq
        cases x <;> first | exact absurd rfl hx | exact hq.elim
      rcases hstep with h | ⟨h, a', w', h'⟩
      · have e : wpList P l.toArray Q2 [] = K := by funext a w; simp only [wpList]; rfl
        rw [e] at h
        exact .inl (upon_mono hbad h)
      · exact h'.elim
    · rw [if_neg hw] at hstep
      simp only []
      rw [if_neg hw]
      unfold wpList at hstep
      exact hstep
theorem c_rd {id : Nat} {l : List Oper} {S : St} {Q : Exit → Act → World → Prop} (stE : (Nat → Bool) → St) (Sf : St) (hm : P.follows .mixedOrders = true) (hb : backB 0 l = true) (h0 : Weak E S (stE fun _ => false)) (hs : Steps P E l stE 0 l)
    (hf : ∀ e, (∀ i, i < l.length → e i = true) → Weak E (stE e) Sf) (hk : ∀ a w, Rep E Sf a w → Q .normal a w) : C P E (.region id l.toArray true) S Q := by
  rintro a w ⟨b, hr⟩
  refine wp_region_any hm ?_
  have hfl : flags (Array.replicate l.toArray.size false) = fun _ => false := by
    funext i
    simp only [flags, Array.getD_eq_getD_getElem?, Array.getElem?_replicate]
    split <;> rfl
  refine wpAny_steps hb hs (fun e he a w ⟨b, hr⟩ => hk a w ⟨b, hf e he b a w hr⟩) l.toArray.size _ a _ (by simp) ?_ ?_ ?_
  · simp only [leftN]
    refine Nat.le_trans List.countP_le_length ?_
    simp
  · rw [hfl]
    intro k hk
    cases hk
  · rw [hfl]
    exact ⟨b, h0 b a _ (hr.world (below_drew w))⟩
end Go.Eng
namespace Go.Eng
open Go.RowKit
variable {P : Program} {NN : Nat} {E : Env NN}
def cj (b : Bool) (x : SV) : SV := match b with | true => x | false => .junk
def cb (b : Bool) (x y : List (Nat × Own)) : List (Nat × Own) := match b with | true => x | false => y
def cjn (b : Bool) (x : SV) : SV := match b with | true => .junk | false => x
theorem noId_cj {j : Nat} {b : Bool} {x : SV} (h : x.noId j = true) : (cj b x).noId j = true := by cases b <;> first | exact h | rfl
def FreshP (j : Nat) : List (Nat × SV) → Prop
  | [] => True
  | p :: r => p.2.noId j = true ∧ FreshP j r
theorem fresh_mk {j : Nat} {sl : List (Nat × SV)} {ow : List (Nat × Own)} (h : FreshP j sl) (ho : freshO j ow = true) (hl : Nat.blt j 1000 = true) : St.fresh j ⟨sl, ow⟩ = true := by
  simp only [St.fresh, ho, hl, Bool.and_true]
  clear ho hl
  induction sl with
  | nil => rfl
  | cons p r ih => simp only [freshS, h.1, ih h.2, Bool.and_true]
theorem val_junk {S : St} {x : Operand} : Val E S x .junk := fun _ _ _ _ => trivial
theorem val_kc {S : St} {x : Operand} {j : Nat} {b : Bool} {y : SV} (hk : kill j y = y) (h : Val E S x (kill j (cj b y))) : Val E S x (cj b y) := by
  cases b with
  | true => exact hk ▸ h
  | false => exact val_junk
theorem weakS {S : St} {sl : List (Nat × SV)} (hs : AllV E S sl) : Weak E S ⟨sl, S.owns⟩ := fun b a w hr => {
  size := hr.size
  defers := hr.defers
  below := hr.below
  slots := fun s x hx => hs.look s x hx b a w hr
  owns := hr.owns
  mine := hr.mine
  apart := hr.apart
  old := hr.old }
theorem fls {b c : Bool} (hb : b = false) (h : c = true → b = true) : c = false := by
  cases c with
  | false => rfl
  | true => rw [h rfl] at hb; cases hb
end Go.Eng
namespace Go.Eng
open Go.RowKit
variable {P : Program} {NN : Nat} {E : Env NN}
theorem c_ownE {α : Type} {f : α → Nat → SV} {k : Nat} {d : α} {e : TypeId} {code : Code} {S : St} {Q : Exit → Act → World → Prop} (j : Nat) {l1 : List α} (l2 : List α) (ho : lookO j S.owns = some (ownOf f k d l1 e)) (h : l1 = l2)
    (hk : C P E code ⟨S.slots, (j, ownOf f k d l2 e) :: S.owns⟩ Q) : C P E code S Q := by
  subst h
  exact c_own j _ ho rfl (fun _ _ _ _ => rfl) hk
end Go.Eng
namespace Go.Eng
open Go.RowKit
variable {P : Program} {NN : Nat} {E : Env NN}
def Rs (w : World) (X : Nat → Prop) (b : Nat → Value) : List SV → List Value → Prop
  | [], [] => True
  | s :: ss, v :: vs => R w X b s v ∧ Rs w X b ss vs
  | _, _ => False
theorem rs_of_at {w : World} {X : Nat → Prop} {b : Nat → Value} : ∀ {l : List SV} {vals : List Value}, vals.length = l.length → (∀ t, t < l.length → ∃ u, vals[t]? = some u ∧ R w X b (l.getD t .junk) u) → Rs w X b l vals
  | [], [], _, _ => trivial
  | s :: ss, v :: vs, hl, h => ⟨by
      obtain ⟨u, hu, hr⟩ := h 0 (by simp)
      simp at hu; subst hu; exact hr, rs_of_at (by simpa using hl) fun t ht => by simpa using h (t + 1) (by simpa using ht)⟩
  | [], _ :: _, hl, _ => by simp at hl
  | _ :: _, [], hl, _ => by simp at hl
theorem ros_app {w : World} {X : Nat → Prop} : ∀ {l l' : List SV} {vs vs' : List Value}, ROs w X l vs → ROs w X l' vs' → ROs w X (l ++ l') (vs ++ vs')
  | [], _, [], _, _, h => h
  | _ :: _, _, _ :: _, _, h, h' => ⟨h.1, ros_app h.2 h'⟩
  | [], _, _ :: _, _, h, _ => h.elim
  | _ :: _, _, [], _, h, _ => h.elim
theorem rs_len {w : World} {X : Nat → Prop} {b : Nat → Value} : ∀ {l : List SV} {vs : List Value}, Rs w X b l vs → vs.length = l.length
  | [], [], _ => rfl
  | _ :: ys, _ :: vs, h => by simp [rs_len (l := ys) (vs := vs) h.2]
  | [], _ :: _, h => h.elim
  | _ :: _, [], h => h.elim
def FnVal {NN : Nat} (E : Env NN) (S : St) (x : Operand) (f : FuncId) (caps : List SV) : Prop := ∀ b a w, RepB E b S a w → ∃ vals : List Value, a.eval x = .func (.func f) #[] vals.toArray ∧ Rs w (S.excl E b) b caps vals
def fnA (f : FuncId) (caps : List SV) : SV := .abs (fun w X v => RO w X (fnL f caps) v) fun _ _ _ _ _ he hX h => RO.mono he hX h
theorem fnval_L {S : St} {x : Operand} {f : FuncId} {caps : List SV} (h : Val E S x (fnL f caps)) : FnVal E S x f caps := fun b a w hr => by
  obtain ⟨cs, hv, hm, hc⟩ := h b a w hr
  exact ⟨cs.toList, by simpa using hv, rs_of_at (by simpa using hm) fun t ht => by
    obtain ⟨u, hu, hr⟩ := hc t ht
    exact ⟨u, by simpa using hu, hr⟩⟩
theorem fnval_A {S : St} {x : Operand} {f : FuncId} {caps : List SV} (h : Val E S x (fnA f caps)) : FnVal E S x f caps := fnval_L fun b a w hr => RO.toR (x := fnL f caps) (h b a w hr)
theorem val_A {S : St} {x : Operand} {f : FuncId} {caps : List SV} (h : Val E S x (fnL f caps)) (hro : (fnL f caps).isRO = true) : Val E S x (fnA f caps) := fun b a w hr => (h b a w hr).toRO hro
def allRO : List SV → Bool
  | [] => true
  | x :: r => x.isRO && allRO r
theorem Rs.ros {w : World} {X : Nat → Prop} {b : Nat → Value} : ∀ {l : List SV} {vs : List Value}, Rs w X b l vs → allRO l = true → ROs w X l vs
  | [], [], _, _ => trivial
  | _ :: _, _ :: _, h, hr => by
    simp only [allRO, Bool.and_eq_true] at hr
    exact ⟨h.1.toRO hr.1, Rs.ros h.2 hr.2⟩
  | [], _ :: _, h, _ => h.elim
  | _ :: _, [], h, _ => h.elim
theorem ROs.rs {w : World} {X : Nat → Prop} {b : Nat → Value} : ∀ {l : List SV} {vs : List Value}, ROs w X l vs → Rs w X b l vs
  | [], [], _ => trivial
  | _ :: _, _ :: _, h => ⟨h.1.toR, ROs.rs h.2⟩
  | [], _ :: _, h => h.elim
  | _ :: _, [], h => h.elim
theorem run_callV {f : FuncId} (hf : Enters P f) (a : Act) (x : Operand) (caps : List Value) (hx : a.eval x = .func (.func f) #[] caps.toArray) (xs : List Operand) (ats : Array TypeId) (dst : Option Tmp) (ty : TypeId) (pos : String) (after : Array Edge) (gd : Option (Nat × Bool)) (w : World) :
    (execOp a.eval { dst, op := .call { callee := .value x, args := xs.toArray, argTypes := ats }, type := ty, pos, after, guard := gd }).run P w = .ok (.enter f (xs.map a.eval ++ caps).toArray) w := by
  simp only [execOp, resolve, hx, Deferred.ofValue, Sem.run_bind, Sem.run_pure, Result.andThen_ok, invoke]
  rw [hf]
  simp
theorem tq_callV {ops : Array Oper} {rest : List Oper} {S : St} {K : St → Prop} {d : Tmp} {f : FuncId} {caps : List SV} {xf : Operand} {xs : List Operand} {ats : Array TypeId} {ty : TypeId} {pos : String} {after : Array Edge} {args : List SV} {x : Value}
    (hxf : FnVal E S xf f caps) (hro : allRO caps = true) (hf : Enters P f) (ha : Vals E S xs args) (h : Ct P f (args ++ caps) (.v x)) (hk : TQ P E ops rest (nextQ S d (.v x)) K) (hd : d < NN := by decide) :
    TQ P E ops ({ dst := some d, op := .call { callee := .value xf, args := xs.toArray, argTypes := ats }, type := ty, pos, after, guard := none } :: rest) S K := fun b a w hr => by
  unfold wpQuiet
  rw [if_pos (by rfl)]
  refine ⟨x, fun w' hw' => ?_, hk b _ w (hr.put hd rfl)⟩
  unfold Oper.quietAt
  have hr' : RepB E b S a w' := hr.world hw'
  obtain ⟨vals, hv, hc⟩ := hxf b a w' hr'
  rw [run_callV hf a xf vals hv]
  refine ⟨rfl, ?_⟩
  refine (h w' (S.excl E b) _ (fun g hg => Nat.lt_of_lt_of_le (hr.excl_lt hg) hw'.size) (ros_app (hr' |> ha.ros) (hc.ros hro))).mono ?_
  rintro e w'' ⟨v, rfl, hv, hb⟩
  have : v = x := hv
  subst this
  exact ⟨rfl, hw'.trans (hb.mono hw'.size)⟩
def BVals {NN : Nat} (E : Env NN) (S : St) : List Operand → List SV → Prop
  | [], [] => True
  | x :: xs, s :: ss => Val E S x s ∧ BVals E S xs ss
  | _, _ => False
theorem BVals.rs {S : St} {b : Nat → Value} {a : Act} {w : World} (hr : RepB E b S a w) : ∀ {xs : List Operand} {ss : List SV}, BVals E S xs ss → Rs w (S.excl E b) b ss (xs.map a.eval)
  | [], [], _ => trivial
  | _ :: _, _ :: _, h => ⟨h.1 b a w hr, BVals.rs hr h.2⟩
  | [], _ :: _, h => h.elim
  | _ :: _, [], h => h.elim
theorem rs_at {w : World} {X : Nat → Prop} {b : Nat → Value} : ∀ {l : List SV} {vals : List Value}, Rs w X b l vals → ∀ t, t < l.length → ∃ u, vals[t]? = some u ∧ R w X b (l.getD t .junk) u
  | [], _, _, t, ht => absurd ht (Nat.not_lt_zero t)
  | s :: ss, v :: vs, h, 0, _ => ⟨v, rfl, h.1⟩
  | s :: ss, v :: vs, h, t + 1, ht => by
    obtain ⟨u, hu, hr⟩ := rs_at h.2 t (by simpa using ht)
    exact ⟨u, by simpa using hu, by simpa using hr⟩
  | _ :: _, [], h, _, _ => h.elim
theorem q_mkf {S : St} {f : FuncId} {xs : List Operand} {caps : List SV} (h : BVals E S xs caps) : OpQ P E S (.makeFunc (.func f) #[] xs.toArray) (fnL f caps) := fun b a w hr dst ty pos after gd => by
  have hR := h.rs hr
  refine ⟨.func (.func f) #[] (xs.map a.eval).toArray, fun w' _ => ?_, _, rfl, by simpa using rs_len hR, fun t ht => ?_⟩
  · simp [execOp, Instr.makeFunc]
  · obtain ⟨u, hu, hr⟩ := rs_at hR t ht
    exact ⟨u, by simpa using hu, hr⟩
def elB (l : List SV) (off : Nat) : SV := .el 1 l.length (fun _ t => l.getD t .junk) 0 off
def frzB (j : Nat) (l : List SV) : SV → SV
  | .bp i off => match Nat.beq i j with | true => (match Nat.blt off l.length with | true => elB l off | false => .junk) | false => .bp i off
  | .agg q g => .agg q fun t => frzB j l (g t)
  | .tup q g => .tup q fun t => frzB j l (g t)
  | .fn f q g => .fn f q fun t => frzB j l (g t)
  | .grd c x => .grd c (frzB j l x)
  | x => x
theorem frzB_R {w : World} {X X' : Nat → Prop} {b : Nat → Value} {j : Nat} {l : List SV} {g : Nat} (hX : ∀ g, X' g → X g) (hb : b j = .pointer (some ⟨g, 0, none⟩)) (hg : g < w.heap.size) (hnX : ¬ X' g)
    (hc : ∀ t, t < l.length → ∃ u, w.cell? ⟨g, t, none⟩ = some u ∧ u.oneCell' = true ∧ RO w X' (l.getD t .junk) u) {x : SV} {val : Value} (h : R w X b x val) : R w X' b (frzB j l x) val := by
  have he : Ext X w w := ⟨Nat.le_refl _, fun _ _ _ => rfl⟩
  induction x generalizing val with
  | bp i off =>
    simp only [frzB]
    split
    · rename_i hbq
      have hbq := Nat.eq_of_beq_eq_true hbq
      subst hbq
      split
      · rename_i hlt
        have hlt : off < l.length := Nat.le_of_ble_eq_true hlt
        obtain ⟨g', h1, h2⟩ := h
        rw [hb] at h1
        simp only [Value.pointer.injEq, Option.some.injEq, Addr.mk.injEq, and_true] at h1
        subst h1
        refine ⟨by omega, g, 0, by simpa using h2, hg, hnX, fun i' hi' t ht => ?_⟩
        obtain rfl : i' = 0 := by omega
        obtain ⟨u, hu, h3, h4⟩ := hc t ht
        exact ⟨u, by simpa using hu, h3, h4⟩
      · trivial
    · exact h
  | agg m get ih =>
    obtain ⟨cs, rfl, hm, hr⟩ := h
    refine ⟨cs, rfl, hm, fun t ht => ?_⟩
    obtain ⟨u, hu, h1, h2⟩ := hr t ht
    exact ⟨u, hu, h1, ih t h2⟩
  | tup m get ih =>
    obtain ⟨cs, rfl, hm, hr⟩ := h
    refine ⟨cs, rfl, hm, fun t ht => ?_⟩
    obtain ⟨u, hu, h2⟩ := hr t ht
    exact ⟨u, hu, ih t h2⟩
  | fn f m get ih =>
    obtain ⟨cs, rfl, hm, hr⟩ := h
    refine ⟨cs, rfl, hm, fun t ht => ?_⟩
    obtain ⟨u, hu, h2⟩ := hr t ht
    exact ⟨u, hu, ih t h2⟩
  | grd c x ih => exact ⟨fun hc => ih (h.1 hc), h.2⟩
  | v x => exact h.mono he (fun g _ hh => hX g hh)
  | row n k get ih => exact h.mono he (fun g _ hh => hX g hh)
  | el n k get i off ih => exact h.mono he (fun g _ hh => hX g hh)
  | own i => exact h
  | oe i k p off => exact h
  | sub i k lo m => exact h
  | junk => trivial
  | abs p hp => exact h.mono he (fun g _ hh => hX g hh)
theorem weak_frzB {S : St} (j : Nat) (l : List SV) {m : Nat} {get : Nat → SV} {ty : TypeId} (ho : lookO j S.owns = some (.box m get ty)) (hm : m = l.length) (hg : AllN (fun t => get t = l.getD t .junk) m) (hro : allRO l = true) : Weak E S ⟨mapS (frzB j l) S.slots, dropM (frzB j l) j S.owns⟩ := by
  subst hm
  have hall : ∀ (l : List SV), allRO l = true → ∀ t, t < l.length → (l.getD t .junk).isRO = true := by
    intro l
    induction l with
    | nil => intro _ t ht; simp at ht
    | cons x r ih =>
      intro h t ht
      simp only [allRO, Bool.and_eq_true] at h
      cases t with
      | zero => exact h.1
      | succ t => simpa using ih h.2 t (by simpa using ht)
  exact weak_drop j (frzB j l) ho fun b w X X' ⟨g, cs, hb, hbase, hh, hm, hc⟩ h2 h3 x v hr =>
    frzB_R h3 hb (Array.getElem?_eq_some_iff.1 hh).1 (h2 g (by rw [hb]; exact rfl)) (fun t ht => by
      obtain ⟨u, hu, h4, h5⟩ := hc t ht
      refine ⟨u, by rw [cell_of_row w g t cs ty (0, 0) hh]; exact hu, h4, ?_⟩
      rw [hg.at t ht] at h5
      exact (h5.toRO (hall l hro t ht)).mono ⟨Nat.le_refl _, fun _ _ _ => rfl⟩ (fun g _ hh => h3 g hh)) hr
theorem c_frzB {c : Code} {S : St} {Q : Exit → Act → World → Prop} (j : Nat) (l : List SV) {m : Nat} {get : Nat → SV} {ty : TypeId} (ho : lookO j S.owns = some (.box m get ty)) (hm : m = l.length) (hg : AllN (fun t => get t = l.getD t .junk) m) (hro : allRO l = true)
    (h : C P E c ⟨mapS (frzB j l) S.slots, dropM (frzB j l) j S.owns⟩ Q) : C P E c S Q := (weak_frzB j l ho hm hg hro).c h
end Go.Eng
namespace Go.Eng
open Go.RowKit
variable {P : Program} {NN : Nat} {E : Env NN}
def rn : List (Nat × Nat) → Nat → Nat
  | [], i => i
  | p :: r, i => match Nat.beq i p.1 with | true => p.2 | false => rn r i
def SV.renm (g : Nat → Nat) : SV → SV
  | .bp j off => .bp (g j) off
  | .own j => .own (g j)
  | .oe j k i off => .oe (g j) k i off
  | .sub j k lo m => .sub (g j) k lo m
  | .agg m get => .agg m fun t => (get t).renm g
  | .tup m get => .tup m fun t => (get t).renm g
  | .fn f m get => .fn f m fun t => (get t).renm g
  | .grd c x => .grd c (x.renm g)
  | x => x
theorem R_renm {w : World} {X : Nat → Prop} {b : Nat → Value} {g : Nat → Nat} {x : SV} {val : Value} : R w X b (x.renm g) val ↔ R w X (fun i => b (g i)) x val := by
  induction x generalizing val with
  | agg m get ih =>
    constructor
    · rintro ⟨cs, rfl, hm, hr⟩
      exact ⟨cs, rfl, hm, fun t ht => let ⟨u, hu, h1, h2⟩ := hr t ht; ⟨u, hu, h1, (ih t).1 h2⟩⟩
    · rintro ⟨cs, rfl, hm, hr⟩
      exact ⟨cs, rfl, hm, fun t ht => let ⟨u, hu, h1, h2⟩ := hr t ht; ⟨u, hu, h1, (ih t).2 h2⟩⟩
  | tup m get ih =>
    constructor
    · rintro ⟨cs, rfl, hm, hr⟩
      exact ⟨cs, rfl, hm, fun t ht => let ⟨u, hu, h2⟩ := hr t ht; ⟨u, hu, (ih t).1 h2⟩⟩
    · rintro ⟨cs, rfl, hm, hr⟩
      exact ⟨cs, rfl, hm, fun t ht => let ⟨u, hu, h2⟩ := hr t ht; ⟨u, hu, (ih t).2 h2⟩⟩
  | fn f m get ih =>
    constructor
    · rintro ⟨cs, rfl, hm, hr⟩
      exact ⟨cs, rfl, hm, fun t ht => let ⟨u, hu, h2⟩ := hr t ht; ⟨u, hu, (ih t).1 h2⟩⟩
    · rintro ⟨cs, rfl, hm, hr⟩
      exact ⟨cs, rfl, hm, fun t ht => let ⟨u, hu, h2⟩ := hr t ht; ⟨u, hu, (ih t).2 h2⟩⟩
  | grd c x ih => exact ⟨fun h => ⟨fun hc => ih.1 (h.1 hc), h.2⟩, fun h => ⟨fun hc => ih.2 (h.1 hc), h.2⟩⟩
  | _ => exact Iff.rfl
def Own.renm (g : Nat → Nat) (o : Own) : Own := o.map (SV.renm g)
theorem OwnOk_renm {w : World} {X : Nat → Prop} {base : Nat} {b : Nat → Value} {g : Nat → Nat} {j : Nat} {o : Own} : OwnOk w X base b (g j) (o.renm g) ↔ OwnOk w X base (fun i => b (g i)) j o := by
  cases o with
  | box m get ty =>
    constructor
    · rintro ⟨q, cs, h1, h2, h3, h4, hr⟩
      exact ⟨q, cs, h1, h2, h3, h4, fun t ht => let ⟨u, hu, h5, h6⟩ := hr t ht; ⟨u, hu, h5, R_renm.1 h6⟩⟩
    · rintro ⟨q, cs, h1, h2, h3, h4, hr⟩
      exact ⟨q, cs, h1, h2, h3, h4, fun t ht => let ⟨u, hu, h5, h6⟩ := hr t ht; ⟨u, hu, h5, R_renm.2 h6⟩⟩
  | arow n k get e => exact Iff.rfl
  | amap kvs => exact Iff.rfl
  | urow n k get e c ce ck m kn kget hole =>
    cases hole with
    | none =>
      constructor
      · rintro ⟨v, subs, xs, h1, h2, h3, h4, h5, h6⟩
        exact ⟨v, subs, xs, h1, h2, h3, h4, fun i hi t ht => let ⟨u, q1, q2, q3, q4, q5, _⟩ := h5 i hi t ht; ⟨u, q1, q2, q3, q4, q5, fun _ _ h => (by cases h)⟩, h6⟩
      · rintro ⟨v, subs, xs, h1, h2, h3, h4, h5, h6⟩
        exact ⟨v, subs, xs, h1, h2, h3, h4, fun i hi t ht => let ⟨u, q1, q2, q3, q4, q5, _⟩ := h5 i hi t ht; ⟨u, q1, q2, q3, q4, q5, fun _ _ h => (by cases h)⟩, h6⟩
    | some p =>
      obtain ⟨i0, x0⟩ := p
      constructor
      · rintro ⟨v, subs, xs, h1, h2, h3, h4, h5, h6⟩
        exact ⟨v, subs, xs, h1, h2, h3, h4, fun i hi t ht => let ⟨u, q1, q2, q3, q4, q5, q6⟩ := h5 i hi t ht; ⟨u, q1, q2, q3, q4, q5, fun q x hx => by
          simp only [Option.some.injEq, Prod.mk.injEq] at hx
          obtain ⟨rfl, rfl⟩ := hx
          exact R_renm.1 (q6 q _ rfl)⟩, h6⟩
      · rintro ⟨v, subs, xs, h1, h2, h3, h4, h5, h6⟩
        exact ⟨v, subs, xs, h1, h2, h3, h4, fun i hi t ht => let ⟨u, q1, q2, q3, q4, q5, q6⟩ := h5 i hi t ht; ⟨u, q1, q2, q3, q4, q5, fun q x hx => by
          simp only [holeMap, Option.some.injEq, Prod.mk.injEq] at hx
          obtain ⟨rfl, rfl⟩ := hx
          exact R_renm.2 (q6 q _ rfl)⟩, h6⟩
structure OwnsIn (w : World) (X : Nat → Prop) (base : Nat) (b : Nat → Value) (ow : List (Nat × Own)) : Prop where
  owns : ∀ j o, lookO j ow = some o → OwnOk w (fun g => X g ∨ BkO b ow g) base b j o
  apart : ∀ i j oi oj, lookO i ow = some oi → lookO j ow = some oj → i ≠ j → ∀ g, Bk (b i) g → ¬ Bk (b j) g
  free : ∀ g, BkO b ow g → ¬ X g
def CtM (P : Program) (f : FuncId) (args : List SV) (ow : List (Nat × Own)) (r : SV) (ow' : List (Nat × Own)) : Prop :=
  ∀ (w : World) (X : Nat → Prop) (base : Nat) (b : Nat → Value) (vals : List Value), base ≤ w.heap.size → (∀ g, X g → g < w.heap.size) → OwnsIn w X base b ow → Rs w (fun g => X g ∨ BkO b ow g) b args vals →
    Calls P f vals.toArray w fun e w' => ∃ v b', e = .returned v ∧ (∀ j, 1000 ≤ j → b' j = b j) ∧ OwnsIn w' X base b' ow' ∧ R w' (fun g => X g ∨ BkO b' ow' g) b' r v ∧ KeptBut (BkO b ow) w w' ∧ ∀ g, BkO b' ow' g → w.heap.size ≤ g ∨ BkO b ow g
def PostM {NN : Nat} (E : Env NN) (r : SV) (ow' : List (Nat × Own)) : Ending → World → Prop := fun e w' => ∃ v b', e = .returned v ∧ (∀ j, 1000 ≤ j → b' j = E.b0 j) ∧ OwnsIn w' E.X E.base b' ow' ∧ R w' (fun g => E.X g ∨ BkO b' ow' g) b' r v ∧ KeptBut E.Y E.w0 w' ∧
  ∀ g, BkO b' ow' g → E.w0.heap.size ≤ g ∨ E.Y g
theorem rep_argsR {w : World} {X : Nat → Prop} {b : Nat → Value} : ∀ {args : List SV} {vals : List Value} {s : Nat} {pre : List Value} {t : List Value}, Rs w X b args vals → pre.length = s →
    ∀ q x, look q (argSlots s args) = some x → R w X b x ((pre ++ vals ++ t).toArray.getD q undef)
  | [], [], s, pre, t, _, _, q, x, h => by simp [argSlots, look] at h
  | y :: ys, v :: vs, s, pre, t, hr, hp, q, x, h => by
    simp only [argSlots] at h
    rw [look_cons] at h
    split at h
    · rename_i e
      injection h with h
      subst h; subst e; subst hp
      have : (pre ++ v :: vs ++ t).toArray.getD pre.length undef = v := by simp [Array.getD_eq_getD_getElem?, List.append_assoc]
      rw [this]; exact hr.1
    · have := rep_argsR (t := t) (pre := pre ++ [v]) (s := s + 1) hr.2 (by simp [hp]) q x h
      simpa [List.append_assoc] using this
  | [], _ :: _, s, pre, t, h, _, _, _, _ => h.elim
  | _ :: _, [], s, pre, t, h, _, _, _, _ => h.elim
theorem ctM_of {f : FuncId} {fn : Func} {c : Code} {args : List SV} {ow ow' : List (Nat × Own)} {r : SV} (N : Nat) (hf : P.funcs[f]? = some fn) (hb : fn.body = some c) (hN : fn.ntmps = N) (hn : Nat.ble args.length N = true)
    (h : ∀ E : Env N, C P E c ⟨argSlots 0 args, ow⟩ (bodyPost P fn (PostM E r ow'))) : CtM P f args ow r ow' := by
  subst hN
  have hn := Nat.le_of_ble_eq_true hn
  intro w X base b vals hbase hX hO hr
  have hlt : ∀ g, BkO b ow g → g < w.heap.size := fun g ⟨j, o, h1, h2⟩ => ((hO.owns j o h1).lt h2).1
  let E : Env fn.ntmps := ⟨w, X, BkO b ow, base, b, hX, fun g hx hy => hO.free g hy hx, hlt, hbase⟩
  have hC : Calls P f vals.toArray w (PostM E r ow') := by
    refine calls_of_wp hf hb (h E _ _ ⟨b, ?_⟩)
    have hl := rs_len hr
    exact {
      size := by simp [E]; omega
      defers := rfl
      below := KeptBut.refl _ _
      slots := fun s x hx => by
        have h1 := rep_argsR (pre := []) (t := List.replicate (fn.ntmps - vals.length) undef) hr rfl s x hx
        have e : (vals.toArray ++ Array.replicate (fn.ntmps - vals.toArray.size) undef) = ([] ++ vals ++ List.replicate (fn.ntmps - vals.length) undef).toArray := by simp
        show R w _ b x ((vals.toArray ++ Array.replicate (fn.ntmps - vals.toArray.size) undef).getD s undef)
        rw [e]
        exact h1
      owns := hO.owns
      mine := fun j o h1 g h2 => .inr ⟨j, o, h1, h2⟩
      apart := hO.apart
      old := fun _ _ => rfl }
  exact hC
def Own.eqv : Own → Own → Prop
  | .box m g ty, .box m' g' ty' => m = m' ∧ ty = ty' ∧ AllN (fun t => g t = g' t) m
  | o, o' => o = o'
theorem Own.eqv_rfl (o : Own) : o.eqv o := by
  cases o with
  | box m g ty => exact ⟨rfl, rfl, AllN.of fun _ _ => rfl⟩
  | _ => exact rfl
theorem OwnOk.eqv {w : World} {X : Nat → Prop} {base : Nat} {b : Nat → Value} {j : Nat} {o o' : Own} (h : OwnOk w X base b j o) (e : o.eqv o') : OwnOk w X base b j o' := by
  cases o with
  | box m g ty =>
    cases o' with
    | box m' g' ty' =>
      obtain ⟨rfl, rfl, e⟩ := e
      obtain ⟨q, cs, h1, h2, h3, h4, hr⟩ := h
      refine ⟨q, cs, h1, h2, h3, h4, fun t ht => ?_⟩
      obtain ⟨u, hu, h5, h6⟩ := hr t ht
      exact ⟨u, hu, h5, e.at t ht ▸ h6⟩
    | _ => exact (show Own.box m g ty = _ from e) ▸ h
  | arow n k get e1 => have e : Own.arow n k get e1 = o' := by cases o' <;> exact e
                       exact e ▸ h
  | amap kvs => have e : Own.amap kvs = o' := by cases o' <;> exact e
                exact e ▸ h
  | urow n k get e1 c ce ck m kn kget hole => have e : Own.urow n k get e1 c ce ck m kn kget hole = o' := by cases o' <;> exact e
                                              exact e ▸ h
def PassO (S : St) (g : Nat → Nat) : List (Nat × Own) → Prop
  | [] => True
  | p :: r => (∃ o, lookO (g p.1) S.owns = some o ∧ o.eqv (p.2.renm g)) ∧ PassO S g r
theorem PassO.look {S : St} {g : Nat → Nat} : ∀ {l : List (Nat × Own)}, PassO S g l → ∀ j o, lookO j l = some o → ∃ o', lookO (g j) S.owns = some o' ∧ o'.eqv (o.renm g)
  | [], _, j, o, h => by simp [lookO] at h
  | (d, y) :: r, hp, j, o, h => by
    rw [lookO_cons] at h
    split at h
    · rename_i e
      injection h with h
      subst h; subst e
      exact hp.1
    · exact PassO.look hp.2 j o h
def AllOE (S : St) : List (Nat × Own) → Prop
  | [] => True
  | p :: r => (∃ o, lookO p.1 S.owns = some o ∧ o.eqv p.2) ∧ AllOE S r
theorem AllOE.look {S : St} : ∀ {l : List (Nat × Own)}, AllOE S l → ∀ j o, lookO j l = some o → ∃ o', lookO j S.owns = some o' ∧ o'.eqv o
  | [], _, j, o, h => by simp [lookO] at h
  | (d, y) :: r, hp, j, o, h => by
    rw [lookO_cons] at h
    split at h
    · rename_i e
      injection h with h
      subst h; subst e
      exact hp.1
    · exact AllOE.look hp.2 j o h
theorem weakE {S : St} {sl : List (Nat × SV)} {ow : List (Nat × Own)} (hs : AllV E S sl) (ho : AllOE S ow) : Weak E S ⟨sl, ow⟩ := fun b a w hr => by
  have hX : ∀ g, St.excl ⟨sl, ow⟩ E b g → S.excl E b g := by
    rintro g (h | ⟨j, o, h1, h2⟩)
    · exact .inl h
    · obtain ⟨o', h3, _⟩ := ho.look _ _ h1
      exact .inr ⟨j, o', h3, h2⟩
  exact {
    size := hr.size
    defers := hr.defers
    below := hr.below
    slots := fun s x hx => (hs.look s x hx b a w hr).mono ⟨Nat.le_refl _, fun _ _ _ => rfl⟩ (fun g _ hh => hX g hh)
    owns := fun j o h => by
      obtain ⟨o', h3, h4⟩ := ho.look _ _ h
      exact ((hr.owns j o' h3).eqv h4).mono hX
    mine := fun j o h => by
      obtain ⟨o', h3, _⟩ := ho.look _ _ h
      exact hr.mine j o' h3
    apart := fun i j oi oj h1 h2 => by
      obtain ⟨o1, h3, _⟩ := ho.look _ _ h1
      obtain ⟨o2, h4, _⟩ := ho.look _ _ h2
      exact hr.apart i j o1 o2 h3 h4
    old := hr.old }
theorem post_retM {fn : Func} {r x : SV} {b : Nat → Value} {S : St} {a : Act} {w : World} {ow' : List (Nat × Own)} (hr : RepB E b S a w) {v : Value} (hv : (results fn a.tmps).run P w = .ok v w) (hx : R w (S.excl E b) b x v) (ho : AllOE S ow') (e : x = r) :
    ∃ v, (results fn a.tmps).run P w = .ok v w ∧ PostM E r ow' (.returned v) w := by
  subst e
  have h := weakE (E := E) (sl := []) trivial ho b a w hr
  have hX : ∀ g, St.excl ⟨[], ow'⟩ E b g → S.excl E b g := by
    rintro g (h | ⟨j, o, h1, h2⟩)
    · exact .inl h
    · obtain ⟨o', h3, _⟩ := ho.look _ _ h1
      exact .inr ⟨j, o', h3, h2⟩
  refine ⟨v, hv, v, b, rfl, h.old, ⟨h.owns, h.apart, fun g ⟨j, o, h1, h2⟩ => h.notX h1 h2⟩, hx.mono ⟨Nat.le_refl _, fun _ _ _ => rfl⟩ (fun g _ hh => hX g hh), h.below, fun g ⟨j, o, h1, h2⟩ => h.mine j o h1 g h2⟩
theorem retM1 {fn : Func} {t : Tmp} {S : St} {x r : SV} {ow' : List (Nat × Own)} (hres : fn.results = #[.tmp t]) (h : Val E S (.tmp t) x) (ho : AllOE S ow') (e : x = r) : ∀ a w, Rep E S a w → bodyPost P fn (PostM E r ow') .ret a w := by
  rintro a w ⟨b, hr⟩
  exact ⟨hr.defers, post_retM hr (results_tmp hres _ _ _) (h b a w hr) ho e⟩
def sv0 : SV := .tup 0 fun _ => .junk
theorem retM0 {fn : Func} {S : St} {r : SV} {ow' : List (Nat × Own)} (hres : fn.results = #[]) (ho : AllOE S ow') (e : sv0 = r) : ∀ a w, Rep E S a w → bodyPost P fn (PostM E r ow') .ret a w := by
  rintro a w ⟨b, hr⟩
  exact ⟨hr.defers, post_retM (x := sv0) hr (results_none hres _ _ _) ⟨_, rfl, rfl, fun i hi => absurd hi (Nat.not_lt_zero i)⟩ ho e⟩
theorem endM0 {fn : Func} {S : St} {r : SV} {ow' : List (Nat × Own)} (hres : fn.results = #[]) (ho : AllOE S ow') (e : sv0 = r) : ∀ a w, Rep E S a w → bodyPost P fn (PostM E r ow') .normal a w := by
  rintro a w ⟨b, hr⟩
  exact ⟨hr.defers, post_retM (x := sv0) hr (results_none hres _ _ _) ⟨_, rfl, rfl, fun i hi => absurd hi (Nat.not_lt_zero i)⟩ ho e⟩
def memB (x : Nat) : List Nat → Bool
  | [] => false
  | y :: r => match Nat.beq x y with | true => true | false => memB x r
theorem memB_iff {x : Nat} : ∀ {l : List Nat}, memB x l = true ↔ x ∈ l
  | [] => by simp [memB]
  | y :: r => by
    simp only [memB]
    split
    · rename_i h; have := Nat.eq_of_beq_eq_true h; simp [this]
    · rename_i h
      rw [memB_iff (l := r)]
      have : x ≠ y := by rintro rfl; simp at h
      simp [this]
def dropKs (ks : List Nat) : List (Nat × Own) → List (Nat × Own)
  | [] => []
  | p :: r => match memB p.1 ks with | true => dropKs ks r | false => p :: dropKs ks r
theorem lookO_dropKs {ks : List Nat} : ∀ {l : List (Nat × Own)} {j : Nat} {o : Own}, lookO j (dropKs ks l) = some o → j ∉ ks ∧ lookO j l = some o
  | [], j, o, h => by simp [dropKs, lookO] at h
  | (d, y) :: r, j, o, h => by
    simp only [dropKs] at h
    split at h
    · rename_i hm
      have hm := memB_iff.1 hm
      obtain ⟨h1, h2⟩ := lookO_dropKs h
      refine ⟨h1, ?_⟩
      rw [lookO_cons, if_neg (fun e : j = d => h1 (by rw [e]; exact hm))]; exact h2
    · rename_i hm
      rw [lookO_cons] at h ⊢
      split at h
      · rename_i e
        injection h with h
        subst h; subst e
        exact ⟨fun hh => (by rw [memB_iff.2 hh] at hm; cases hm), by simp⟩
      · rename_i e
        obtain ⟨h1, h2⟩ := lookO_dropKs h
        exact ⟨h1, by rw [if_neg e]; exact h2⟩
def renO (g : Nat → Nat) : List (Nat × Own) → List (Nat × Own)
  | [] => []
  | p :: r => (g p.1, p.2.renm g) :: renO g r
theorem lookO_renO {g : Nat → Nat} : ∀ {l : List (Nat × Own)} {j : Nat} {o : Own}, lookO j (renO g l) = some o → ∃ i o', lookO i l = some o' ∧ j = g i ∧ o = o'.renm g
  | [], j, o, h => by simp [renO, lookO] at h
  | (d, y) :: r, j, o, h => by
    simp only [renO] at h
    rw [lookO_cons] at h
    split at h
    · rename_i e
      injection h with h
      exact ⟨d, y, by rw [lookO_cons, if_pos rfl], e, h.symm⟩
    · rename_i e
      obtain ⟨i, o', h1, h2, h3⟩ := lookO_renO h
      refine ⟨i, o', ?_, h2, h3⟩
      rw [lookO_cons, if_neg (fun e' => e (by rw [h2, e']))]; exact h1
theorem lookO_app {l m : List (Nat × Own)} {j : Nat} {o : Own} (h : lookO j (l ++ m) = some o) : lookO j l = some o ∨ (lookO j l = none ∧ lookO j m = some o) := by
  induction l with
  | nil => exact .inr ⟨rfl, h⟩
  | cons p r ih =>
    obtain ⟨d, y⟩ := p
    rw [List.cons_append, lookO_cons] at h
    rw [lookO_cons]
    split at h
    · rename_i e; left; rw [if_pos e]; exact h
    · rename_i e; rw [if_neg e]; exact ih h
def setN (b b' : Nat → Value) : List (Nat × Nat) → Nat → Value
  | [], i => b i
  | p :: r, i => match Nat.beq i p.2 with | true => b' p.1 | false => setN b b' r i
def FreshN (S : St) : List (Nat × Nat) → Bool
  | [] => true
  | p :: r => (S.fresh p.2 && !(memB p.2 (r.map (·.2)))) && FreshN S r
theorem setN_other {b b' : Nat → Value} : ∀ {l : List (Nat × Nat)} {i : Nat}, memB i (l.map (·.2)) = false → setN b b' l i = b i
  | [], _, _ => rfl
  | p :: r, i, h => by
    simp only [List.map_cons, memB] at h
    split at h
    · cases h
    · rename_i hb
      simp only [setN, hb]
      exact setN_other h
def inD : List (Nat × Nat) → Nat → Bool
  | [], _ => false
  | p :: r, i => match Nat.beq i p.1 with | true => true | false => inD r i
def hiD (l : List (Nat × Nat)) (i : Nat) : Bool := inD l i && Nat.ble 1000 i
def allIds (p : Nat → Bool) : List (Nat × Own) → Bool
  | [] => true
  | q :: r => (p q.1 && q.2.okId p) && allIds p r
theorem allIds_at {p : Nat → Bool} : ∀ {l : List (Nat × Own)}, allIds p l = true → ∀ j o, lookO j l = some o → p j = true ∧ o.okId p = true
  | [], _, j, o, h => by simp [lookO] at h
  | (d, y) :: r, ha, j, o, h => by
    simp only [allIds, Bool.and_eq_true] at ha
    rw [lookO_cons] at h
    split at h
    · rename_i e
      injection h with h
      subst h; subst e
      exact ha.1
    · exact allIds_at ha.2 j o h
def distinctB (g : Nat → Nat) : List (Nat × Own) → Bool
  | [] => true
  | p :: r => (r.all fun q => !(Nat.beq (g p.1) (g q.1))) && distinctB g r
theorem lookO_in : ∀ {l : List (Nat × Own)} {j : Nat} {o : Own}, lookO j l = some o → (j, o) ∈ l
  | [], j, o, h => by simp [lookO] at h
  | (d, y) :: r, j, o, h => by
    rw [lookO_cons] at h
    split at h
    · rename_i e
      injection h with h
      subst h; subst e
      exact .head _
    · exact .tail _ (lookO_in h)
theorem distinctB_at {g : Nat → Nat} : ∀ {l : List (Nat × Own)}, distinctB g l = true → ∀ i j oi oj, lookO i l = some oi → lookO j l = some oj → i ≠ j → g i ≠ g j
  | [], _, i, j, oi, oj, h, _, _ => by simp [lookO] at h
  | (d, y) :: r, hd, i, j, oi, oj, hi, hj, hne => by
    simp only [distinctB, Bool.and_eq_true, List.all_eq_true] at hd
    rw [lookO_cons] at hi hj
    have hq : ∀ j o, lookO j r = some o → g d ≠ g j := fun j o hj e => by
      have := hd.1 _ (lookO_in hj)
      simp only [e] at this
      simp at this
    split at hi
    · rename_i e1
      subst e1
      split at hj
      · rename_i e2; exact absurd e2.symm hne
      · exact hq j _ hj
    · rename_i e1
      split at hj
      · rename_i e2; subst e2; exact fun e => hq i _ hi e.symm
      · exact distinctB_at hd.2 i j oi oj hi hj hne
theorem rn_mem : ∀ {r : List (Nat × Nat)} {i : Nat}, inD r i = true → rn r i ∈ r.map (·.2)
  | [], _, h => by simp [inD] at h
  | q :: r, i, h => by
    simp only [inD] at h
    simp only [rn]
    split
    · simp
    · rename_i hb
      rw [hb] at h
      obtain ⟨z, hz, e⟩ := List.mem_map.1 (rn_mem h)
      exact List.mem_map.2 ⟨z, .tail _ hz, e⟩
theorem setN_at {b b' : Nat → Value} {S : St} : ∀ {l : List (Nat × Nat)} {i : Nat}, FreshN S l = true → inD l i = true → setN b b' l (rn l i) = b' i
  | [], _, _, h => by simp [inD] at h
  | p :: r, i, hf, h => by
    simp only [FreshN, Bool.and_eq_true, Bool.not_eq_true'] at hf
    simp only [inD] at h
    simp only [rn]
    split
    · rename_i hb
      have hb := Nat.eq_of_beq_eq_true hb
      subst hb
      simp [setN]
    · rename_i hb
      rw [hb] at h
      have hne : Nat.beq (rn r i) p.2 = false := by
        cases hq : Nat.beq (rn r i) p.2 with
        | false => rfl
        | true =>
          have hq := Nat.eq_of_beq_eq_true hq
          have : rn r i ∈ r.map (·.2) := rn_mem h
          rw [hq, ← memB_iff, hf.1.2] at this
          cases this
      simp only [setN, hne]
      exact setN_at hf.2 h
theorem freshN_mem {S : St} : ∀ {l : List (Nat × Nat)} {i : Nat}, FreshN S l = true → memB i (l.map (·.2)) = true → S.fresh i = true
  | [], _, _, h => by simp [memB] at h
  | p :: r, i, hf, h => by
    simp only [FreshN, Bool.and_eq_true] at hf
    simp only [List.map_cons, memB] at h
    split at h
    · rename_i hb
      have := Nat.eq_of_beq_eq_true hb
      rw [this]; exact hf.1.1
    · exact freshN_mem hf.2 h
theorem noIds {l : List Nat} {x : SV} (h : ∀ i, memB i l = true → x.noId i = true) : x.okId (fun i => !(memB i l)) = true := by
  induction x with
  | agg m get ih => exact allB_of fun t ht => ih t fun i hi => allB_iff (h i hi) t ht
  | tup m get ih => exact allB_of fun t ht => ih t fun i hi => allB_iff (h i hi) t ht
  | fn f m get ih => exact allB_of fun t ht => ih t fun i hi => allB_iff (h i hi) t ht
  | grd c x ih => exact ih h
  | bp i off =>
    show (!(memB i l)) = true
    cases hm : memB i l with
    | false => rfl
    | true => exact absurd rfl (notJ_ne (h i hm))
  | own i =>
    show (!(memB i l)) = true
    cases hm : memB i l with
    | false => rfl
    | true => exact absurd rfl (notJ_ne (h i hm))
  | oe i k p off =>
    show (!(memB i l)) = true
    cases hm : memB i l with
    | false => rfl
    | true => exact absurd rfl (notJ_ne (h i hm))
  | sub i k lo m =>
    show (!(memB i l)) = true
    cases hm : memB i l with
    | false => rfl
    | true => exact absurd rfl (notJ_ne (h i hm))
  | _ => rfl
theorem inD_app {l m : List (Nat × Nat)} {i : Nat} : rn (l ++ m) i = if inD l i = true then rn l i else rn m i := by
  induction l with
  | nil => rfl
  | cons p r ih =>
    rcases Bool.eq_false_or_eq_true (Nat.beq i p.1) with hq | hq
    · simp only [List.cons_append, rn, inD, hq]; rfl
    · simp only [List.cons_append, rn, inD, hq]; exact ih
def disjB (ρ ν : List (Nat × Nat)) : Bool := ρ.all fun p => !(memB p.2 (ν.map (·.2)))
theorem disjB_at {ρ ν : List (Nat × Nat)} (h : disjB ρ ν = true) {i : Nat} (hi : inD ρ i = true) : memB (rn ρ i) (ν.map (·.2)) = false := by
  obtain ⟨p, hp, e⟩ := List.mem_map.1 (rn_mem hi)
  have := List.all_eq_true.1 h p hp
  rw [← e]; simpa using this
theorem Own.All_many {l : List Nat} {o : Own} (h : ∀ i, memB i l = true → o.noId i = true) : o.All fun x => ∀ i, memB i l = true → x.noId i = true := by
  cases o with
  | box m get ty => exact fun t ht i hi => Own.noId_all (h i hi) t ht
  | urow n k get e c ce ck m kn kget hole => exact fun q hq i hi => Own.noId_all (h i hi) q hq
  | _ => trivial
theorem call_stepM {S : St} {b : Nat → Value} {a : Act} {w : World} (hr : RepB E b S a w) {f : FuncId} {vals : List Value} {cargs : List SV} {cow cow' : List (Nat × Own)} {cr : SV} (ρ ν : List (Nat × Nat))
    (h : CtM P f cargs cow cr cow') (hv : Rs w (S.excl E b) (fun i => b (rn ρ i)) cargs vals) (hp : PassO S (rn ρ) cow) (hd : distinctB (rn ρ) cow = true) (hn : FreshN S ν = true) (hρ : disjB ρ ν = true)
    (hid : (cr.okId (fun i => hiD ρ i || (inD ν i && !(inD ρ i))) && allIds (fun i => hiD ρ i || (inD ν i && !(inD ρ i))) cow') = true) :
    Calls P f vals.toArray w fun e w'' => ∃ v b'', e = .returned v ∧ RepB E b'' ⟨S.slots, renO (rn (ρ ++ ν)) cow' ++ dropKs (cow.map fun p => rn ρ p.1) S.owns⟩ a w'' ∧
      R w'' (St.excl ⟨S.slots, renO (rn (ρ ++ ν)) cow' ++ dropKs (cow.map fun p => rn ρ p.1) S.owns⟩ E b'') b'' (cr.renm (rn (ρ ++ ν))) v := by
  simp only [Bool.and_eq_true] at hid
  have hrest : ∀ {j o}, lookO j (dropKs (cow.map fun p => rn ρ p.1) S.owns) = some o → (∀ i o', lookO i cow = some o' → rn ρ i ≠ j) ∧ lookO j S.owns = some o := fun {j o} hj => by
    obtain ⟨h1, h2⟩ := lookO_dropKs hj
    exact ⟨fun i o' hi e => h1 (List.mem_map.2 ⟨(i, o'), lookO_in hi, e⟩), h2⟩
  -- the callee's view
  let bc : Nat → Value := fun i => b (rn ρ i)
  let Xc : Nat → Prop := fun g => E.X g ∨ BkO b (dropKs (cow.map fun p => rn ρ p.1) S.owns) g
  have hpl : ∀ i o, lookO i cow = some o → ∃ o', lookO (rn ρ i) S.owns = some o' := fun i o hi => (hp.look i o hi).imp fun _ h => h.1
  have hcow : ∀ g, BkO bc cow g → S.excl E b g := fun g ⟨i, o, h1, h2⟩ => .inr ⟨rn ρ i, _, (hpl i o h1).choose_spec, h2⟩
  have hXc : ∀ g, Xc g → S.excl E b g := by
    rintro g (h1 | ⟨j, o, h1, h2⟩)
    · exact .inl h1
    · exact .inr ⟨j, o, (hrest h1).2, h2⟩
  have hall : ∀ g, (Xc g ∨ BkO bc cow g) → S.excl E b g := fun g hg => hg.elim (hXc g) (hcow g)
  have hdis : ∀ g, BkO bc cow g → ¬ Xc g := by
    rintro g ⟨i, o, h1, h2⟩ (h3 | ⟨j, o', h3, h4⟩)
    · exact hr.notX (hpl i o h1).choose_spec h2 h3
    · exact hr.apart _ _ _ _ (hpl i o h1).choose_spec (hrest h3).2 ((hrest h3).1 i o h1) g h2 h4
  have hE : Ext (S.excl E b) w w := ⟨Nat.le_refl _, fun _ _ _ => rfl⟩
  have hin : OwnsIn w Xc E.base bc cow := ⟨fun i o hi => (OwnOk_renm.1 ((hr.owns _ _ (hp.look i o hi).choose_spec.1).eqv (hp.look i o hi).choose_spec.2)).mono hall,
    fun i j oi oj hi hj hne g => hr.apart _ _ _ _ (hpl i oi hi).choose_spec (hpl j oj hj).choose_spec (distinctB_at hd i j oi oj hi hj hne) g, hdis⟩
  have hlen : ∀ {l : List SV} {vs : List Value}, Rs w (S.excl E b) bc l vs → Rs w (fun g => Xc g ∨ BkO bc cow g) bc l vs := fun {l} => by
    induction l with
    | nil => intro vs hh; cases vs <;> exact hh
    | cons x l ih =>
      intro vs hh
      cases vs with
      | nil => exact hh
      | cons v vs => exact ⟨hh.1.mono hE (fun g _ hg => hall g hg), ih hh.2⟩
  refine (h w Xc E.base bc vals hr.base_le (fun g hg => hr.excl_lt (hXc g hg)) hin (hlen hv)).mono ?_
  rintro e w'' ⟨v, b', rfl, hold, hout, hR, hkept, hnew⟩
  let b'' := setN b b' ν
  have hext : Ext (S.excl E b) w w'' := ⟨hkept.size, fun g hg hX => hkept.block g hg (fun hh => hX (hcow g hh))⟩
  have hb'' : ∀ i, memB i (ν.map (·.2)) = false → b'' i = b i := fun i hi => setN_other hi
  -- names that come back
  have hρν : ∀ i, (hiD ρ i || (inD ν i && !(inD ρ i))) = true → b'' (rn (ρ ++ ν) i) = b' i := fun i hi => by
    rw [inD_app]
    cases hq : inD ρ i with
    | true =>
      rw [if_pos rfl]
      have h1000 : 1000 ≤ i := by
        simp only [hq, hiD, Bool.true_and, Bool.not_true, Bool.and_false, Bool.or_false] at hi
        exact Nat.le_of_ble_eq_true hi
      rw [hold i h1000]
      show setN b b' ν (rn ρ i) = b (rn ρ i)
      exact setN_other (disjB_at hρ hq)
    | false =>
      rw [if_neg (by simp)]
      simp only [hiD, hq, Bool.false_and, Bool.false_or, Bool.not_false, Bool.and_true] at hi
      exact setN_at hn hi
  have hfr : ∀ j, memB j (ν.map (·.2)) = true → freshS j S.slots = true ∧ freshO j S.owns = true ∧ j < 1000 := fun j hj => St.fresh_parts (freshN_mem hn hj)
  have hkey : ∀ {j o}, lookO j S.owns = some o → memB j (ν.map (·.2)) = false := fun {j o} hj => by
    cases hm : memB j (ν.map (·.2)) with
    | false => rfl
    | true => exact absurd rfl (lookO_fresh (hfr j hm).2.1 j o hj).1
  let S'' : St := ⟨S.slots, renO (rn (ρ ++ ν)) cow' ++ dropKs (cow.map fun p => rn ρ p.1) S.owns⟩
  have hl : ∀ {j o}, lookO j S''.owns = some o → (∃ i o', lookO i cow' = some o' ∧ j = rn (ρ ++ ν) i ∧ o = o'.renm (rn (ρ ++ ν)) ∧ b'' j = b' i) ∨ (lookO j (dropKs (cow.map fun p => rn ρ p.1) S.owns) = some o ∧ b'' j = b j) := fun {j o} hj => by
    rcases lookO_app hj with h1 | ⟨_, h1⟩
    · obtain ⟨i, o', h2, rfl, rfl⟩ := lookO_renO h1
      exact .inl ⟨i, o', h2, rfl, rfl, hρν i (allIds_at hid.2 i o' h2).1⟩
    · exact .inr ⟨h1, hb'' j (hkey (hrest h1).2)⟩
  have hX3 : ∀ g, S''.excl E b'' g → Xc g ∨ BkO b' cow' g := by
    rintro g (h1 | ⟨j, o, h1, h2⟩)
    · exact .inl (.inl h1)
    · rcases hl h1 with ⟨i, o', h3, rfl, rfl, h4⟩ | ⟨h3, h4⟩
      · rw [h4] at h2; exact .inr ⟨i, o', h3, h2⟩
      · rw [h4] at h2; exact .inl (.inr ⟨j, o, h3, h2⟩)
  have hX2 : ∀ g, g < w.heap.size → S''.excl E b'' g → S.excl E b g := fun g hg h1 => by
    rcases hX3 g h1 with h2 | h2
    · exact hXc g h2
    · rcases hnew g h2 with h3 | h3
      · omega
      · exact hcow g h3
  have hRR : ∀ x v, (∀ i, memB i (ν.map (·.2)) = true → x.noId i = true) → R w (S.excl E b) b x v → R w'' (S''.excl E b'') b'' x v := fun x v hx hr => by
    refine (R_congr (p := fun i => !(memB i (ν.map (·.2)))) (fun i hi => hb'' i (by simpa using hi)) (noIds hx) hr).mono hext hX2
  have hRM : ∀ x v, x.okId (fun i => hiD ρ i || (inD ν i && !(inD ρ i))) = true → R w'' (fun g => Xc g ∨ BkO b' cow' g) b' x v → R w'' (S''.excl E b'') (fun i => b'' (rn (ρ ++ ν) i)) x v := fun x v hx hr =>
    (R_congr (b' := fun i => b'' (rn (ρ ++ ν) i)) hρν hx hr).mono ⟨Nat.le_refl _, fun _ _ _ => rfl⟩ (fun g _ hg => hX3 g hg)
  refine ⟨v, b'', rfl, ?_, R_renm.2 (hRM _ _ hid.1 hR)⟩
  exact {
    size := hr.size
    defers := hr.defers
    below := ⟨hkept.os.trans hr.below.os, hkept.tape.trans hr.below.tape, hkept.output.trans hr.below.output, Nat.le_trans hr.below.size hkept.size, fun g hg hY => by
      refine (hkept.block g (by have := hr.below.size; omega) fun hh => ?_).trans (hr.below.block g hg hY)
      obtain ⟨i, o, h1, h2⟩ := hh
      rcases hr.mine _ _ (hpl i o h1).choose_spec g h2 with h3 | h3
      · omega
      · exact hY h3⟩
    slots := fun s x hx => hRR _ _ (fun i hi => look_fresh (hfr i hi).1 s x hx) (hr.slots s x hx)
    owns := fun j o hj => by
      rcases hl hj with ⟨i, o', h3, rfl, rfl, h4⟩ | ⟨h3, h4⟩
      · exact OwnOk_renm.2 ((hout.owns i o' h3).keep0 (b' := fun i => b'' (rn (ρ ++ ν) i)) (p := fun x => x.okId (fun i => hiD ρ i || (inD ν i && !(inD ρ i))) = true) h4 (Own.okId_all (allIds_at hid.2 i o' h3).2) (fun _ _ _ => rfl) hRM
          (fun x v hr => hr.mono ⟨Nat.le_refl _, fun _ _ _ => rfl⟩ (fun g _ hg => hX3 g hg)))
      · exact (hr.owns j o (hrest h3).2).keep0 (p := fun x => ∀ i, memB i (ν.map (·.2)) = true → x.noId i = true) h4 (Own.All_many fun i hi => (lookO_fresh (hfr i hi).2.1 j o (hrest h3).2).2)
          (fun g hg hb => hkept.block g hg fun ⟨i, o', h5, h6⟩ => hr.apart _ _ _ _ (hpl i o' h5).choose_spec (hrest h3).2 ((hrest h3).1 i o' h5) g h6 hb) hRR (fun x v hr => hr.mono hext hX2)
    mine := fun j o hj g hg => by
      rcases hl hj with ⟨i, o', h3, rfl, rfl, h4⟩ | ⟨h3, h4⟩
      · rw [h4] at hg
        rcases hnew g ⟨i, o', h3, hg⟩ with h5 | ⟨i2, o2, h5, h6⟩
        · exact .inl (Nat.le_trans hr.below.size h5)
        · exact hr.mine _ _ (hpl i2 o2 h5).choose_spec g h6
      · rw [h4] at hg
        exact hr.mine j o (hrest h3).2 g hg
    apart := fun j1 j2 o1 o2 h1 h2 hne g hg1 hg2 => by
      rcases hl h1 with ⟨i, o', h3, rfl, rfl, h4⟩ | ⟨h3, h4⟩
      · rcases hl h2 with ⟨i2, o2', h5, rfl, rfl, h6⟩ | ⟨h5, h6⟩
        · rw [h4] at hg1; rw [h6] at hg2
          exact hout.apart i i2 _ _ h3 h5 (fun e => hne (by rw [e])) g hg1 hg2
        · rw [h4] at hg1; rw [h6] at hg2
          exact hout.free g ⟨i, o', h3, hg1⟩ (.inr ⟨j2, o2, h5, hg2⟩)
      · rcases hl h2 with ⟨i2, o2', h5, rfl, rfl, h6⟩ | ⟨h5, h6⟩
        · rw [h4] at hg1; rw [h6] at hg2
          exact hout.free g ⟨i2, o2', h5, hg2⟩ (.inr ⟨j1, o1, h3, hg1⟩)
        · rw [h4] at hg1; rw [h6] at hg2
          exact hr.apart j1 j2 _ _ (hrest h3).2 (hrest h5).2 hne g hg1 hg2
    old := fun j hj => (hb'' j (by
      cases hm : memB j (ν.map (·.2)) with
      | false => rfl
      | true => have := (hfr j hm).2.2; omega)).trans (hr.old j hj) }
def MVals {NN : Nat} (E : Env NN) (S : St) (g : Nat → Nat) : List Operand → List SV → Prop
  | [], [] => True
  | x :: xs, s :: ss => Val E S x (s.renm g) ∧ MVals E S g xs ss
  | _, _ => False
theorem MVals.rs {S : St} {g : Nat → Nat} {b : Nat → Value} {a : Act} {w : World} (hr : RepB E b S a w) : ∀ {xs : List Operand} {ss : List SV}, MVals E S g xs ss → Rs w (S.excl E b) (fun i => b (g i)) ss (xs.map a.eval)
  | [], [], _ => trivial
  | _ :: _, _ :: _, h => ⟨R_renm.1 (h.1 b a w hr), MVals.rs hr h.2⟩
  | [], _ :: _, h => h.elim
  | _ :: _, [], h => h.elim
theorem t_callM {ops : Array Oper} {rest : List Oper} {S : St} {K : St → Prop} {d : Tmp} {f : FuncId} {xs : List Operand} {ats : Array TypeId} {ty : TypeId} {pos : String} {after : Array Edge} {cargs : List SV} {cow cow' : List (Nat × Own)} {cr : SV} (ρ ν : List (Nat × Nat))
    (hf : Enters P f) (ha : MVals E S (rn ρ) xs cargs) (h : CtM P f cargs cow cr cow') (hp : PassO S (rn ρ) cow) (hdi : distinctB (rn ρ) cow = true) (hn : FreshN S ν = true) (hρ : disjB ρ ν = true)
    (hid : (cr.okId (fun i => hiD ρ i || (inD ν i && !(inD ρ i))) && allIds (fun i => hiD ρ i || (inD ν i && !(inD ρ i))) cow') = true)
    (hk : T P E ops rest ⟨(d, cr.renm (rn (ρ ++ ν))) :: S.slots, renO (rn (ρ ++ ν)) cow' ++ dropKs (cow.map fun p => rn ρ p.1) S.owns⟩ K) (hd : d < NN := by decide) :
    T P E ops ({ dst := some d, op := .call { callee := .value (.func f), args := xs.toArray, argTypes := ats }, type := ty, pos, after, guard := none } :: rest) S K := by
  rintro a w ⟨b, hr⟩ Q hq
  unfold wpList
  rw [if_pos (by rfl)]
  refine .inl (wp_of_enter (R := fun v w'' => ∃ b'', RepB E b'' ⟨S.slots, renO (rn (ρ ++ ν)) cow' ++ dropKs (cow.map fun p => rn ρ p.1) S.owns⟩ a w'' ∧ R w'' (St.excl ⟨S.slots, renO (rn (ρ ++ ν)) cow' ++ dropKs (cow.map fun p => rn ρ p.1) S.owns⟩ E b'') b'' (cr.renm (rn (ρ ++ ν))) v)
    (run_call hf ..) ?_ fun v w'' ⟨b'', hr', hv⟩ => hk _ _ ⟨b'', hr'.put hd hv⟩ Q hq)
  refine (call_stepM hr ρ ν h (ha.rs hr) hp hdi hn hρ hid).mono ?_
  rintro e w'' ⟨v, b'', rfl, h1, h2⟩
  exact ⟨v, rfl, b'', h1, h2⟩
end Go.Eng
namespace Go.Eng
open Go.RowKit
variable {P : Program} {NN : Nat} {E : Env NN}
def mvN (j j' : Nat) (i : Nat) : Nat := match Nat.beq i j with | true => j' | false => i
theorem rep_mv {S : St} {b : Nat → Value} {a : Act} {w : World} (h : RepB E b S a w) (j j' : Nat) {o : Own} (ho : lookO j S.owns = some o) (hf : S.fresh j' = true) :
    RepB E (setB b j' (b j)) ⟨mapS (SV.renm (mvN j j')) S.slots, (j', o.map (SV.renm (mvN j j'))) :: dropM (SV.renm (mvN j j')) j S.owns⟩ a w := by
  obtain ⟨hf1, hf2, hf3⟩ := St.fresh_parts hf
  have hN : ∀ i, notJ j' i = true → setB b j' (b j) (mvN j j' i) = b i := fun i hi => by
    have hne := notJ_ne hi
    unfold mvN
    split
    · rename_i hb
      rw [setB_same, Nat.eq_of_beq_eq_true hb]
    · rw [setB_other _ _ _ hne]
  have hX : ∀ g, St.excl ⟨mapS (SV.renm (mvN j j')) S.slots, (j', o.map (SV.renm (mvN j j'))) :: dropM (SV.renm (mvN j j')) j S.owns⟩ E (setB b j' (b j)) g → S.excl E b g := by
    rintro g (hh | ⟨i, o1, h1, h2⟩)
    · exact .inl hh
    · rw [lookO_cons] at h1
      split at h1
      · rename_i e; subst e; rw [setB_same] at h2; exact .inr ⟨j, o, ho, h2⟩
      · rename_i e
        rw [setB_other _ _ _ e] at h2
        obtain ⟨_, z, hz, _⟩ := lookO_dropM h1
        exact .inr ⟨i, z, hz, h2⟩
  have he : Ext (S.excl E b) w w := ⟨Nat.le_refl _, fun _ _ _ => rfl⟩
  have hR : ∀ x v, x.noId j' = true → R w (S.excl E b) b x v → R w (St.excl ⟨mapS (SV.renm (mvN j j')) S.slots, (j', o.map (SV.renm (mvN j j'))) :: dropM (SV.renm (mvN j j')) j S.owns⟩ E (setB b j' (b j))) (setB b j' (b j)) (x.renm (mvN j j')) v :=
    fun x v hx hr => R_renm.2 ((R_congr (b' := fun i => setB b j' (b j) (mvN j j' i)) hN hx hr).mono he (fun g _ hh => hX g hh))
  have hRO : ∀ x v, RO w (S.excl E b) x v → RO w (St.excl ⟨mapS (SV.renm (mvN j j')) S.slots, (j', o.map (SV.renm (mvN j j'))) :: dropM (SV.renm (mvN j j')) j S.owns⟩ E (setB b j' (b j))) x v := fun x v hr => hr.mono he (fun g _ hh => hX g hh)
  exact {
    size := h.size
    defers := h.defers
    below := h.below
    slots := fun s x hx => by
      obtain ⟨z, hz, rfl⟩ := look_map hx
      exact hR _ _ (look_fresh hf1 s z hz) (h.slots s z hz)
    owns := fun i o1 hi => by
      rw [lookO_cons] at hi
      split at hi
      · rename_i e
        injection hi with hi
        subst hi; subst e
        have hij := lookO_fresh hf2 j o ho
        have hmv : mvN j i j = i := by simp [mvN]
        have h3 := OwnOk_renm.2 ((h.owns j o ho).keep0 (X' := St.excl ⟨mapS (SV.renm (mvN j i)) S.slots, (i, o.map (SV.renm (mvN j i))) :: dropM (SV.renm (mvN j i)) j S.owns⟩ E (setB b i (b j))) (b' := fun q => setB b i (b j) (mvN j i q)) (p := fun x => x.noId i = true)
          (by show setB b i (b j) (mvN j i j) = b j; rw [hmv, setB_same]) (Own.noId_all hij.2) (fun _ _ _ => rfl) (fun x v hx hr => (R_congr (b' := fun q => setB b i (b j) (mvN j i q)) hN hx hr).mono he (fun g _ hh => hX g hh)) hRO)
        rw [hmv] at h3
        exact h3
      · rename_i e
        obtain ⟨hij, z, hz, rfl⟩ := lookO_dropM hi
        have hij2 := lookO_fresh hf2 i z hz
        exact (h.owns i z hz).keep (SV.renm (mvN j j')) (p := fun x => x.noId j' = true) (setB_other _ _ _ e) (Own.noId_all hij2.2) (fun _ _ _ => rfl) hR hRO
    mine := fun i o1 hi g hg => by
      rw [lookO_cons] at hi
      split at hi
      · rename_i e; subst e; rw [setB_same] at hg; exact h.mine j o ho g hg
      · rename_i e
        rw [setB_other _ _ _ e] at hg
        obtain ⟨hij, z, hz, rfl⟩ := lookO_dropM hi
        exact h.mine i z hz g hg
    apart := fun p q op oq hp hq hne g hg => by
      rw [lookO_cons] at hp hq
      split at hp
      · rename_i e1
        subst e1
        rw [setB_same] at hg
        split at hq
        · rename_i e2; exact absurd e2.symm hne
        · rename_i e2
          rw [setB_other _ _ _ e2]
          obtain ⟨h1, z, hz, rfl⟩ := lookO_dropM hq
          exact h.apart j q o z ho hz (Ne.symm h1) g hg
      · rename_i e1
        rw [setB_other _ _ _ e1] at hg
        obtain ⟨h1, z, hz, rfl⟩ := lookO_dropM hp
        split at hq
        · rename_i e2
          subst e2
          rw [setB_same]
          exact h.apart p j z o hz ho h1 g hg
        · rename_i e2
          rw [setB_other _ _ _ e2]
          obtain ⟨h3, z', hz', rfl⟩ := lookO_dropM hq
          exact h.apart p q z z' hz hz' hne g hg
    old := fun i hi => by rw [setB_other _ _ _ (by omega)]; exact h.old i hi }
theorem c_mv {c : Code} {S : St} {Q : Exit → Act → World → Prop} (j j' : Nat) {o : Own} (ho : lookO j S.owns = some o) (hf : S.fresh j' = true)
    (h : C P E c ⟨mapS (SV.renm (mvN j j')) S.slots, (j', o.map (SV.renm (mvN j j'))) :: dropM (SV.renm (mvN j j')) j S.owns⟩ Q) : C P E c S Q := fun a w ⟨_, hr⟩ => h a w ⟨_, rep_mv hr j j' ho hf⟩
theorem freshN_cons {S : St} {p : Nat × Nat} {r : List (Nat × Nat)} (h : S.fresh p.2 = true) (hm : memB p.2 (r.map (·.2)) = false) (hr : FreshN S r = true) : FreshN S (p :: r) = true := by
  simp only [FreshN, h, hm, hr]; rfl
theorem q_idxON {S : St} {x y : Operand} {t : TypeId} {j n k : Nat} {get : Nat → Nat → SV} {e : TypeId} {kk : IntKind} {i : Nat} (hx : Val E S x (.own j)) (ho : lookO j S.owns = some (.arow n k get e)) (hy : Val E S y (.v (.int kk (i : Int))))
    (ht : P.underlying t = some (.slice (P.elem t))) (hs : ∀ w, (sizeOf (P.elem t)).run P w = .ok k w) (h1 : i < n) :
    OpQ P E S (.indexAddr t x y) (.oe j k i 0) := q_idxO hx ho hy ht hs (by omega) (by omega)
theorem k_weak {S S' : St} {G : Act → World → Prop} (h : Weak E S S') (hk : ∀ a w, Rep E S' a w → G a w) : ∀ a w, Rep E S a w → G a w := fun a w ⟨b, hr⟩ => hk a w ⟨b, h b a w hr⟩
theorem weak_ownE {α : Type} {f : α → Nat → SV} {k : Nat} {d : α} {e : TypeId} {S : St} (j : Nat) {l1 : List α} (l2 : List α) (ho : lookO j S.owns = some (ownOf f k d l1 e)) (h : l1 = l2) : Weak E S ⟨S.slots, (j, ownOf f k d l2 e) :: S.owns⟩ := by
  subst h
  exact weak_own ho rfl (fun _ _ _ _ => rfl)
theorem k_ownE {α : Type} {f : α → Nat → SV} {k : Nat} {d : α} {e : TypeId} {S : St} {G : Act → World → Prop} (j : Nat) {l1 : List α} (l2 : List α) (ho : lookO j S.owns = some (ownOf f k d l1 e)) (h : l1 = l2)
    (hk : ∀ a w, Rep E ⟨S.slots, (j, ownOf f k d l2 e) :: S.owns⟩ a w → G a w) : ∀ a w, Rep E S a w → G a w := k_weak (weak_ownE j l2 ho h) hk
theorem k_mv {S : St} {G : Act → World → Prop} (j j' : Nat) {o : Own} (ho : lookO j S.owns = some o) (hf : S.fresh j' = true)
    (h : ∀ a w, Rep E ⟨mapS (SV.renm (mvN j j')) S.slots, (j', o.map (SV.renm (mvN j j'))) :: dropM (SV.renm (mvN j j')) j S.owns⟩ a w → G a w) : ∀ a w, Rep E S a w → G a w := fun a w ⟨_, hr⟩ => h a w ⟨_, rep_mv hr j j' ho hf⟩
section parts
variable {α : Type} {c : α → Nat → SV} {k : Nat} {d : α} {l : List α} {S : St} {x lo hi : Operand} {t : TypeId}
theorem q_slHT {h : Int} (ht : P.underlying t = some (.slice (P.elem t))) (hs : ∀ w, (sizeOf (P.elem t)).run P w = .ok k w) (hx : Val E S x (rowOf c k d l)) (hhi : Val E S hi (.v (.int .i64 h))) (h1 : 0 ≤ h) (h2 : h ≤ l.length) :
    OpQ P E S (.slice t x none (some hi) none) (rowOf c k d (l.take h.toNat)) :=
  q_row (q_slH ht hs hx hhi h1 h2) (by rw [List.length_take]; omega) fun i hi t _ => by
    rw [List.length_take] at hi
    simp only [rowG, List.getD_eq_getElem?_getD, List.getElem?_take]
    rw [if_pos (by omega)]
theorem q_slHN {h : Nat} (ht : P.underlying t = some (.slice (P.elem t))) (hs : ∀ w, (sizeOf (P.elem t)).run P w = .ok k w) (hx : Val E S x (rowOf c k d l)) (hhi : Val E S hi (.v (.int .i64 (h : Int)))) (h2 : h ≤ l.length) :
    OpQ P E S (.slice t x none (some hi) none) (rowOf c k d (l.take h)) := q_slHT ht hs hx hhi (by omega) (by omega)
end parts
end Go.Eng
namespace Go.Eng
open Go.RowKit
variable {P : Program} {NN : Nat} {E : Env NN}
def resRun (tmps : Array Value) : ResultVar → Sem Value
  | .tmp t => pure (tmps.getD t undef)
  | .cell a t => do loadVar t (← asAddr (tmps.getD a undef))
def ResV (P : Program) {NN : Nat} (E : Env NN) (S : St) (r : ResultVar) (x : SV) : Prop := ∀ b a w, RepB E b S a w → ∃ v, (resRun a.tmps r).run P w = .ok v w ∧ R w (S.excl E b) b x v
theorem rv_tmp {S : St} {t : Tmp} {x : SV} (h : Val E S (.tmp t) x) : ResV P E S (.tmp t) x := fun b a w hr => ⟨_, rfl, h b a w hr⟩
theorem rv_cell {S : St} {q : Tmp} {t : TypeId} {j m : Nat} {get : Nat → SV} {ty : TypeId} (hx : Val E S (.tmp q) (.bp j 0)) (ho : lookO j S.owns = some (.box m get ty))
    (ht : ∀ w, (isAgg t).run P w = .ok true w) (hs : ∀ w, (sizeOf t).run P w = .ok m w) : ResV P E S (.cell q t) (.agg m get) := fun b a w hr => by
  obtain ⟨v, h1, h2⟩ := q_ldBA (P := P) (t := t) hx ho ht hs (Nat.le_of_eq (Nat.zero_add m)) b a w hr none 0 "" #[] none
  obtain ⟨cs, rfl, hm, hc⟩ := h2
  refine ⟨.agg cs, ?_, cs, rfl, hm, fun t ht => ?_⟩
  · have h3 := h1 w (Below.refl _ _)
    obtain ⟨g, hb, hv⟩ := hx b a w hr
    simp only [Act.eval] at hv
    simp only [execOp, Act.eval, hv, Instr.loadAt, Instr.sureAddr, Sem.run_bind] at h3
    simp only [resRun, hv, asAddr, Sem.run_bind, Sem.run_pure, Result.andThen_ok] at h3 ⊢
    revert h3
    generalize (loadVar t ⟨g, 0, none⟩).run P w = r
    intro h3
    cases r with
    | ok u w1 => simpa using h3
    | halt u w1 => simp at h3
  · have := hc t ht
    simpa using this
theorem results_eq (fn : Func) (tmps : Array Value) : results fn tmps = (do
    let vs ← fn.results.mapM (resRun tmps)
    pure (if h : vs.size = 1 then vs[0] else .tuple vs)) := by
  unfold results
  congr 1
theorem results1 {fn : Func} {r : ResultVar} (h : fn.results = #[r]) {tmps : Array Value} {w : World} {v : Value} (h1 : (resRun tmps r).run P w = .ok v w) : (results fn tmps).run P w = .ok v w := by
  rw [results_eq, h]
  simp [h1]
theorem results2 {fn : Func} {r s : ResultVar} (h : fn.results = #[r, s]) {tmps : Array Value} {w : World} {v u : Value} (h1 : (resRun tmps r).run P w = .ok v w) (h2 : (resRun tmps s).run P w = .ok u w) : (results fn tmps).run P w = .ok (.tuple #[v, u]) w := by
  rw [results_eq, h]
  simp [h1, h2]
theorem results3 {fn : Func} {r s q : ResultVar} (h : fn.results = #[r, s, q]) {tmps : Array Value} {w : World} {v u x : Value} (h1 : (resRun tmps r).run P w = .ok v w) (h2 : (resRun tmps s).run P w = .ok u w) (h3 : (resRun tmps q).run P w = .ok x w) :
    (results fn tmps).run P w = .ok (.tuple #[v, u, x]) w := by
  rw [results_eq, h]
  simp [h1, h2, h3]
theorem retR2 {fn : Func} {t u : ResultVar} {S : St} {x y r : SV} (hres : fn.results = #[t, u]) (hx : ResV P E S t x) (hy : ResV P E S u y) (h1 : x.isRO = true) (h2 : y.isRO = true) (e : sv2 x y = r) : ∀ a w, Rep E S a w → bodyPost P fn (PostR E r) .ret a w := by
  rintro a w ⟨b, hr⟩
  subst e
  obtain ⟨v, h3, h4⟩ := hx b a w hr
  obtain ⟨v', h5, h6⟩ := hy b a w hr
  exact post_ret hr (results2 hres h3 h5) ⟨_, rfl, rfl, fun i hi => match i, hi with
    | 0, _ => ⟨_, rfl, h4.toRO h1⟩
    | 1, _ => ⟨_, rfl, h6.toRO h2⟩⟩
theorem retR3 {fn : Func} {t u q : ResultVar} {S : St} {x y z r : SV} (hres : fn.results = #[t, u, q]) (hx : ResV P E S t x) (hy : ResV P E S u y) (hz : ResV P E S q z) (h1 : x.isRO = true) (h2 : y.isRO = true) (h3 : z.isRO = true) (e : sv3 x y z = r) : ∀ a w, Rep E S a w → bodyPost P fn (PostR E r) .ret a w := by
  rintro a w ⟨b, hr⟩
  subst e
  obtain ⟨v, g1, g2⟩ := hx b a w hr
  obtain ⟨v', g3, g4⟩ := hy b a w hr
  obtain ⟨v'', g5, g6⟩ := hz b a w hr
  exact post_ret hr (results3 hres g1 g3 g5) ⟨_, rfl, rfl, fun i hi => match i, hi with
    | 0, _ => ⟨_, rfl, g2.toRO h1⟩
    | 1, _ => ⟨_, rfl, g4.toRO h2⟩
    | 2, _ => ⟨_, rfl, g6.toRO h3⟩⟩
theorem retRM1 {fn : Func} {t : ResultVar} {S : St} {x r : SV} {ow' : List (Nat × Own)} (hres : fn.results = #[t]) (h : ResV P E S t x) (ho : AllOE S ow') (e : x = r) : ∀ a w, Rep E S a w → bodyPost P fn (PostM E r ow') .ret a w := by
  rintro a w ⟨b, hr⟩
  obtain ⟨v, h1, h2⟩ := h b a w hr
  exact ⟨hr.defers, post_retM hr (results1 hres h1) h2 ho e⟩
theorem retRM3 {fn : Func} {t u q : ResultVar} {S : St} {x y z r : SV} {ow' : List (Nat × Own)} (hres : fn.results = #[t, u, q]) (hx : ResV P E S t x) (hy : ResV P E S u y) (hz : ResV P E S q z) (ho : AllOE S ow') (e : sv3 x y z = r) : ∀ a w, Rep E S a w → bodyPost P fn (PostM E r ow') .ret a w := by
  rintro a w ⟨b, hr⟩
  obtain ⟨v, g1, g2⟩ := hx b a w hr
  obtain ⟨v', g3, g4⟩ := hy b a w hr
  obtain ⟨v'', g5, g6⟩ := hz b a w hr
  exact ⟨hr.defers, post_retM (x := sv3 x y z) hr (results3 hres g1 g3 g5) ⟨_, rfl, rfl, fun i hi => match i, hi with
    | 0, _ => ⟨_, rfl, g2⟩
    | 1, _ => ⟨_, rfl, g4⟩
    | 2, _ => ⟨_, rfl, g6⟩⟩ ho e⟩
def bmap (l : List (Int × Bool)) : List (Int × Value) := l.map fun p => (p.1, .bool p.2)
def kget {β : Type} (l : List (Int × β)) (k : Int) : Option β := (l.find? (fun p => decide (p.1 = k))).map (·.2)
def kput {β : Type} : List (Int × β) → Int → β → List (Int × β)
  | [], k, v => [(k, v)]
  | p :: r, k, v => if p.1 = k then (k, v) :: r else p :: kput r k v
theorem mget_map {β : Type} (f : β → Value) : ∀ (l : List (Int × β)) (k : Int), mget (l.map fun p => (p.1, f p.2)) k = (kget l k).map f
  | [], _ => rfl
  | p :: r, k => by
    simp only [mget, kget, List.map_cons, List.find?_cons]
    by_cases e : p.1 = k
    · simp [e]
    · simp only [decide_eq_false e]
      have := mget_map f r k
      simpa [mget, kget] using this
theorem mput_map {β : Type} (f : β → Value) : ∀ (l : List (Int × β)) (k : Int) (v : β), mput (l.map fun p => (p.1, f p.2)) k (f v) = (kput l k v).map fun p => (p.1, f p.2)
  | [], _, _ => rfl
  | p :: r, k, v => by
    simp only [mput, kput, List.map_cons]
    by_cases e : p.1 = k
    · simp [e]
    · rw [if_neg e, if_neg e, List.map_cons, mput_map f r k v]
section maps
variable {S : St} {t kt et : TypeId} {m xk : Operand} {j : Nat} {k : Int}
theorem q_lookB1 {l : List (Int × Bool)} (ht : P.underlying t = some (.map kt et)) (hkt : P.underlying kt = some (.int .i64)) (hz : ∀ w, (zeroValue et).run P w = .ok (.bool false) w)
    (hm : Val E S m (.own j)) (ho : lookO j S.owns = some (.amap (bmap l))) (hk : Val E S xk (iv k)) : OpQ P E S (.lookup t m xk false) (bv ((kget l k).getD false)) := by
  have h := q_lookup1 ht hkt hz hm ho hk
  have e : (SV.v ((mget (bmap l) k).getD (.bool false))) = bv ((kget l k).getD false) := by
    rw [bmap, mget_map]; cases kget l k <;> rfl
  rw [e] at h; exact h
theorem t_putB {ops : Array Oper} {rest : List Oper} {K : St → Prop} {xv : Operand} {op : Op} {ty : TypeId} {pos : String} {after : Array Edge} {l : List (Int × Bool)} {v : Bool}
    (hop : op = .insert t m xk xv ∨ op = .mapUpdate t m xk xv) (ht : P.underlying t = some (.map kt et)) (hkt : P.underlying kt = some (.int .i64)) (hm : Val E S m (.own j)) (ho : lookO j S.owns = some (.amap (bmap l))) (hk : Val E S xk (iv k)) (hv : Val E S xv (bv v))
    (hr : T P E ops rest ⟨S.slots, (j, .amap (bmap (kput l k v))) :: S.owns⟩ K) : T P E ops ({ dst := none, op, type := ty, pos, after, guard := none } :: rest) S K :=
  t_mapPut hop ht hkt hm ho hk hv (by rw [bmap, mput_map (fun n : Bool => Value.bool n)]; exact hr)
theorem weak_mapE {ls ls' : List (Int × Value)} (ho : lookO j S.owns = some (.amap ls)) (h : ls = ls') : Weak E S ⟨S.slots, (j, .amap ls') :: S.owns⟩ := by
  subst h
  exact weak_ownG ho fun _ _ _ h => h
theorem k_mapE {G : Act → World → Prop} (j : Nat) {ls : List (Int × Value)} (ls' : List (Int × Value)) (ho : lookO j S.owns = some (.amap ls)) (h : ls = ls') (hk : ∀ a w, Rep E ⟨S.slots, (j, .amap ls') :: S.owns⟩ a w → G a w) : ∀ a w, Rep E S a w → G a w := k_weak (weak_mapE ho h) hk
theorem c_mapE {c : Code} {Q : Exit → Act → World → Prop} (j : Nat) {ls : List (Int × Value)} (ls' : List (Int × Value)) (ho : lookO j S.owns = some (.amap ls)) (h : ls = ls') (hk : C P E c ⟨S.slots, (j, .amap ls') :: S.owns⟩ Q) : C P E c S Q := (weak_mapE ho h).c hk
end maps
end Go.Eng
namespace Go.Eng
open Go.RowKit
variable {P : Program} {NN : Nat} {E : Env NN}
theorem R.agg_congr {w : World} {X : Nat → Prop} {b : Nat → Value} {m : Nat} {g g' : Nat → SV} {val : Value} (h : R w X b (.agg m g) val) (e : AllN (fun t => g t = g' t) m) : R w X b (.agg m g') val := by
  obtain ⟨cs, rfl, hm, hr⟩ := h
  refine ⟨cs, rfl, hm, fun t ht => ?_⟩
  obtain ⟨u, hu, h1, h2⟩ := hr t ht
  exact ⟨u, hu, h1, e.at t ht ▸ h2⟩
theorem val_agg {S : St} {x : Operand} {m : Nat} {g g' : Nat → SV} (h : Val E S x (.agg m g)) (e : AllN (fun t => g t = g' t) m) : Val E S x (.agg m g') := fun b a w hr => (h b a w hr).agg_congr e
def Turn {NN : Nat} (E : Env NN) (S S' : St) : Prop := ∀ b a w, RepB E b S a w → ∃ b', RepB E b' S' a w
theorem c_turn {c : Code} {S S' : St} {Q : Exit → Act → World → Prop} (h : Turn E S S') (hc : C P E c S' Q) : C P E c S Q := fun a w ⟨b, hr⟩ => hc a w (h b a w hr)
theorem k_turn {S S' : St} {G : Act → World → Prop} (h : Turn E S S') (hk : ∀ a w, Rep E S' a w → G a w) : ∀ a w, Rep E S a w → G a w := fun a w ⟨b, hr⟩ => hk a w (h b a w hr)
theorem turn_nilB {S : St} (i off j k : Nat) (get : Nat → Nat → SV) (e : TypeId) {m : Nat} {g : Nat → SV} {ty : TypeId} (ho : lookO i S.owns = some (.box m g ty)) (hg : g off = .v (.slice none 0 0)) (hf : S.fresh j = true) :
    Turn E S ⟨S.slots, (i, .box m (upd g off (.own j)) ty) :: (j, .arow 0 k get e) :: S.owns⟩ := fun b a w hr => by
  have h := hr.newown (j := j) (k := k) (get := get) (e := e) (A := none) hf
  have hij : i ≠ j := (lookO_fresh (St.fresh_parts hf).2.1 i _ ho).1
  have ho' : lookO i ((j, Own.arow 0 k get e) :: S.owns) = some (.box m g ty) := by rw [lookO_cons, if_neg hij]; exact ho
  refine ⟨_, h.set (j := i) (o := .box m g ty) ho' ⟨rfl, rfl, rfl, Nat.le_refl _⟩ (fun _ _ _ => rfl) fun X hX hR _ => ?_⟩
  obtain ⟨q, cs, h1, h2, h3, h4, hc⟩ := (h.owns i _ ho').mono hX
  refine ⟨q, cs, h1, h2, h3, h4, fun t ht => ?_⟩
  obtain ⟨u, hu, h5, h6⟩ := hc t ht
  refine ⟨u, hu, h5, ?_⟩
  rw [upd_eq]
  split
  · rename_i et
    subst et
    rw [hg] at h6
    have h6 : u = .slice none 0 0 := h6
    show u = hdv (setB b j (.slice none 0 0) j)
    rw [setB_same, h6]; rfl
  · exact h6
def Imp (s s' : SV) : Prop := ∀ (w : World) (X : Nat → Prop) (b : Nat → Value) (v : Value), R w X b s v → R w X b s' v
theorem imp_rfl {s : SV} : Imp s s := fun _ _ _ _ h => h
theorem imp_nil {k : Nat} {get : Nat → Nat → SV} : Imp (.v (.slice none 0 0)) (.row 0 k get) := fun _ _ _ _ h => by
  have h : _ = Value.slice none 0 0 := h
  rw [h]
  exact ⟨none, 0, rfl, Nat.le_refl _, Nat.zero_le _, fun h => absurd h (Nat.lt_irrefl 0)⟩
theorem R.agg_imp {w : World} {X : Nat → Prop} {b : Nat → Value} {m : Nat} {g g' : Nat → SV} {val : Value} (h : R w X b (.agg m g) val) (e : AllN (fun t => Imp (g t) (g' t)) m) : R w X b (.agg m g') val := by
  obtain ⟨cs, rfl, hm, hr⟩ := h
  refine ⟨cs, rfl, hm, fun t ht => ?_⟩
  obtain ⟨u, hu, h1, h2⟩ := hr t ht
  exact ⟨u, hu, h1, e.at t ht _ _ _ _ h2⟩
theorem val_aggI {S : St} {x : Operand} {m : Nat} {g g' : Nat → SV} (h : Val E S x (.agg m g)) (e : AllN (fun t => Imp (g t) (g' t)) m) : Val E S x (.agg m g') := fun b a w hr => (h b a w hr).agg_imp e
theorem rv_aggI {S : St} {r : ResultVar} {m : Nat} {g g' : Nat → SV} (h : ResV P E S r (.agg m g)) (e : AllN (fun t => Imp (g t) (g' t)) m) : ResV P E S r (.agg m g') := fun b a w hr => by
  obtain ⟨v, h1, h2⟩ := h b a w hr
  exact ⟨v, h1, h2.agg_imp e⟩
theorem t_bsO {ops : Array Oper} {rest : List Oper} {S : St} {K : St → Prop} {d : Tmp} {t e : TypeId} {n k : Nat} {xs : List (Nat × Operand)} {ty : TypeId} {pos : String} {after : Array Edge} {zget : Nat → SV} (j : Nat) (gs : List (Nat → SV)) (get : Nat → Nat → SV)
    (ht : P.underlying t = some (.slice e)) (hs : ∀ w, (sizeOf e).run P w = .ok k w) (hz : ZeroOk P e k zget) (hk0 : 0 < k) (hn0 : 0 < n) (hn : n = xs.length) (hbig : n * k ≤ 16777216)
    (hp : SVals E S k 0 xs gs) (hg : AllN (fun i => AllN (fun t => get i t = (gs.getD i fun _ => .junk) t) k) n) (hf : S.fresh j = true)
    (hk : T P E ops rest ⟨(d, .own j) :: S.slots, (j, .arow n k get e) :: S.owns⟩ K) (hd : d < NN := by decide) :
    T P E ops ({ dst := some d, op := .buildSlice t n xs.toArray, type := ty, pos, after, guard := none } :: rest) S K := by
  rintro a w ⟨b, hr⟩ Q hq
  obtain ⟨z, hz1, hz2, hz3⟩ := hz
  have hat := svals_at hr hp
  have hlen : (xs.map fun y => (y.1, a.eval y.2)).length = n := by simp [hn]
  obtain ⟨cs, hfl, hcs, hc, _⟩ := fill_rows (k := k) (xs.map fun y => (y.1, a.eval y.2)) 0 ((Array.range (n * k)).map fun q => z.cells[q % z.cells.size]!) (fun i p hp => ⟨(hat i p hp).1, (hat i p hp).2.1⟩) (by simp [hlen])
  have hcs' : cs.size = n * k := by simpa using hcs
  have hnk : n * 1 ≤ n * k := Nat.mul_le_mul_left _ hk0
  obtain ⟨n', rfl⟩ : ∃ n', n = n' + 1 := ⟨n - 1, by omega⟩
  unfold wpList
  rw [if_pos (by rfl)]
  refine .inl (wp_of_run (w' := w.alloc (.cells cs e)) (v := .slice (some ⟨w.heap.size, 0, none⟩) (n' + 1) (n' + 1)) ?_ ?_)
  · have hbig' : ¬ (n' + 1) * k > 2 ^ 24 := by omega
    have h0 : ¬ (n' + 1) * k = 0 := by omega
    simp only [execOp, Instr.buildSlice, Sem.run_bind, run_underlying ht, Result.andThen_ok, hs, Sem.run_ite, if_neg hbig', h0, if_false, Sem.run_pure, hz1]
    simp [hfl, newRow]
  · have hy : ∀ g, Bk (.slice (some ⟨w.heap.size, 0, none⟩) (n' + 1) (n' + 1)) g → w.heap.size ≤ g := fun g hg => by
      have hg : some w.heap.size = some g := hg
      injection hg with hg; omega
    have hadd := hr.add (below_alloc w (.cells cs e)) hf (o := .arow (n' + 1) k get e) (y := .slice (some ⟨w.heap.size, 0, none⟩) (n' + 1) (n' + 1)) hy fun X' _ _ hRO => by
      refine ⟨cs.toList, .inr ⟨⟨by simpa using hcs', .inr ⟨w.heap.size, n' + 1, cs, by rw [setB_same], hr.base_le, heap_alloc_new w _, Nat.le_refl _, by simp only [maxLen]; omega, hcs', ?_⟩⟩, w.heap.size, n' + 1, n', by rw [setB_same]⟩, fun i hi t ht => ?_⟩
      · rw [List.take_of_length_le]; simp [hcs']
      · have hi' : i < (xs.map fun y => (y.1, a.eval y.2)).length := by omega
        obtain ⟨h1, h2, g, h3, h4⟩ := hat i _ (List.getElem?_eq_getElem hi')
        obtain ⟨u, hu, h5, h6⟩ := h4 t ht
        refine ⟨u, ?_, h5, ?_⟩
        · have h7 := hc i _ (List.getElem?_eq_getElem hi') t ht
          rw [Nat.zero_add] at h7
          rw [Array.getElem?_toList, h7]; exact hu
        · have h8 := (hg.at i hi).at t ht
          simp only [List.getD_eq_getElem?_getD, h3, Option.getD_some] at h8
          rw [h8]
          exact hRO _ _ h6
    exact hk _ _ ⟨_, hadd.put (x := .own j) hd (own_val rfl)⟩ Q hq
def OneV {NN : Nat} (E : Env NN) (S : St) (s : SV) : Prop := ∀ b a w v, RepB E b S a w → R w (S.excl E b) b s v → v.oneCell' = true
theorem one_of {S : St} {s : SV} (h : s.one = true) : OneV E S s := fun _ _ _ _ _ hv => hv.one h
theorem one_own {S : St} {i n k : Nat} {get : Nat → Nat → SV} {e : TypeId} (ho : lookO i S.owns = some (.arow n k get e)) : OneV E S (.own i) := fun b a w v hr hv => by
  obtain ⟨A, c, hs⟩ := own_slice hr ho
  have hv : v = hdv (b i) := hv
  rw [hv, hs]; rfl
theorem one_map {S : St} {i : Nat} {kvs : List (Int × Value)} (ho : lookO i S.owns = some (.amap kvs)) : OneV E S (.own i) := fun b a w v hr hv => by
  obtain ⟨g, es, clk, hb, _⟩ := hr.owns i _ ho
  have hv : v = hdv (b i) := hv
  rw [hv, hb]; rfl
theorem t_st1V {ops : Array Oper} {rest : List Oper} {S : St} {K : St → Prop} {t : TypeId} {p x : Operand} {ty : TypeId} {pos : String} {after : Array Edge} {j off m : Nat} {get : Nat → SV} {bt : TypeId} {s : SV}
    (hp : Val E S p (.bp j off)) (ho : lookO j S.owns = some (.box m get bt)) (hx : Val E S x s) (h1 : OneV E S s) (hs : ∀ w, (sizeOf t).run P w = .ok 1 w) (hoff : off < m)
    (hk : T P E ops rest ⟨S.slots, (j, .box m (upd get off s) bt) :: S.owns⟩ K) :
    T P E ops ({ dst := none, op := .store t p x, type := ty, pos, after, guard := none } :: rest) S K := by
  rintro a w ⟨b, hr⟩ Q hq
  obtain ⟨g, hb, hpv⟩ := hp b a w hr
  have hv := hx b a w hr
  have hone := h1 b a w _ hr hv
  obtain ⟨g', cs, hb', _, hh, hm, hc⟩ := hr.owns j _ ho
  rw [hb] at hb'
  simp only [Value.pointer.injEq, Option.some.injEq, Addr.mk.injEq, and_true] at hb'
  subst hb'
  have hcell : ∃ u, w.cell? ⟨g, off, none⟩ = some u := by
    obtain ⟨u, hu, _⟩ := hc off hoff
    exact ⟨u, by rw [cell_of_row w g off cs bt (0, 0) hh]; exact hu⟩
  obtain ⟨u0, hu0⟩ := hcell
  have hfr : w.frozen? ⟨g, off, none⟩ = false := by simp [World.frozen?, hh]
  unfold wpList
  rw [if_pos (by rfl)]
  refine .inl (wp_of_skip (w' := w.setCell ⟨g, off, none⟩ (a.eval x)) ?_ ?_)
  · simp [execOp, Instr.storeAt, hpv, Instr.sureAddr, storeVar, hs, cells_one hone, storeCells, Addr.add_zero', run_store P w _ _ _ hone, hu0, hfr]
  · refine hk _ _ ⟨b, ?_⟩ Q hq
    refine hr.setbox (cs := cs.setIfInBounds off (a.eval x)) ho hb (by simpa using hm) ⟨rfl, rfl, rfl, by simp⟩ (fun k hk => Below.heap_setCell _ _ _ _ hk) ?_ (fun i hi => ?_)
    · simp [World.setCell, Array.getElem?_modify, hh]
    · rw [upd_eq]
      by_cases e : i = off
      · subst e
        rw [if_pos rfl]
        exact ⟨a.eval x, by simp [hm, hi], hone, hv⟩
      · rw [if_neg e]
        obtain ⟨u, hu, h2, h3⟩ := hc i hi
        exact ⟨u, by rw [Array.getElem?_setIfInBounds, if_neg (fun h => e h.symm)]; exact hu, h2, h3⟩
end Go.Eng
namespace Go.Eng
open Go.RowKit
variable {P : Program} {NN : Nat} {E : Env NN}
def ImpO (s s' : SV) : Prop := ∀ (w : World) (X : Nat → Prop) (v : Value), RO w X s v → RO w X s' v
theorem impO_rfl {s : SV} : ImpO s s := fun _ _ _ h => h
theorem impO_nil {k : Nat} {get : Nat → Nat → SV} : ImpO (.v (.slice none 0 0)) (.row 0 k get) := fun _ _ _ h => by
  have h : _ = Value.slice none 0 0 := h
  rw [h]
  exact ⟨none, 0, rfl, Nat.le_refl _, Nat.zero_le _, fun h => absurd h (Nat.lt_irrefl 0)⟩
theorem RO.row_imp {w : World} {X : Nat → Prop} {n k : Nat} {get get' : Nat → Nat → SV} {val : Value} (h : RO w X (.row n k get) val) (he : AllN (fun i => AllN (fun t => ImpO (get i t) (get' i t)) k) n) : RO w X (.row n k get') val := by
  obtain ⟨A, c, hv, hn, hc, hr⟩ := h
  refine ⟨A, c, hv, hn, hc, fun h0 => ?_⟩
  obtain ⟨g, o, hA, hg, hX, hr⟩ := hr h0
  refine ⟨g, o, hA, hg, hX, fun i hi t ht => ?_⟩
  obtain ⟨u, hu, h1, h2⟩ := hr i hi t ht
  exact ⟨u, hu, h1, (he.at i hi).at t ht _ _ _ h2⟩
theorem w_rowI {S : St} {op : Op} {n k : Nat} {get get' : Nat → Nat → SV} (h : OpW P E S op (.row n k get)) (he : AllN (fun i => AllN (fun t => ImpO (get i t) (get' i t)) k) n) : OpW P E S op (.row n k get') := fun b a w hr dst ty pos after gd => by
  obtain ⟨v, w', h1, h2, h3⟩ := h b a w hr dst ty pos after gd
  exact ⟨v, w', h1, h2, RO.row_imp h3 he⟩
end Go.Eng
namespace Go.Eng
open Go.RowKit
variable {P : Program} {NN : Nat} {E : Env NN}
theorem arow_brw {S : St} {b : Nat → Value} {a : Act} {w : World} (hr : RepB E b S a w) {j n k : Nat} {get : Nat → Nat → SV} {e : TypeId} (ho : lookO j S.owns = some (.arow n k get e)) : R w E.X b (.row n k get) (hdv (b j)) := by
  obtain ⟨xs, hown, hc⟩ := hr.owns j _ ho
  obtain ⟨A, c, hs, _⟩ := hown.slice
  have e : hdv (b j) = b j := by rw [hs]; rfl
  rw [e]
  refine RO.toR (hown.row (fun g hg => hr.notX ho ((Bk_slice hs).2 hg)) fun i hi t ht => ?_)
  obtain ⟨u, hu, h1, h2⟩ := hc i hi t ht
  exact ⟨u, hu, h1, h2.mono ⟨Nat.le_refl _, fun _ _ _ => rfl⟩ (fun g _ hh => .inl hh)⟩
def VB {NN : Nat} (E : Env NN) (S : St) (x : Operand) (s : SV) : Prop := ∀ b a w, RepB E b S a w → RO w E.X s (a.eval x)
theorem vb_ro {S : St} {x : Operand} {s : SV} (h : Val E S x s) (hro : s.isRO = true) : VB E S x s := fun b a w hr => ((h b a w hr).toRO hro).mono ⟨Nat.le_refl _, fun _ _ _ => rfl⟩ (fun g _ hh => .inl hh)
theorem vb_frz {S : St} {x : Operand} {s s' : SV} {j n k : Nat} {get : Nat → Nat → SV} {e : TypeId} (h : Val E S x s) (ho : lookO j S.owns = some (.arow n k get e)) (hs : frz j (.row n k get) s = s') (hro : s'.isRO = true) : VB E S x s' := fun b a w hr => by
  subst hs
  exact (frz_R (fun g hh => .inl hh) (arow_brw hr ho) (h b a w hr)).toRO hro
theorem vb_own {S : St} {x : Operand} {j n k : Nat} {get : Nat → Nat → SV} {e : TypeId} (h : Val E S x (.own j)) (ho : lookO j S.owns = some (.arow n k get e)) : VB E S x (.row n k get) := vb_frz h ho (by simp [frz]) rfl
def ValsB {NN : Nat} (E : Env NN) (S : St) : List Operand → List SV → Prop
  | [], [] => True
  | x :: xs, s :: ss => VB E S x s ∧ ValsB E S xs ss
  | _, _ => False
theorem ValsB.ros {S : St} {b : Nat → Value} {a : Act} {w : World} (hr : RepB E b S a w) : ∀ {xs : List Operand} {ss : List SV}, ValsB E S xs ss → ROs w E.X ss (xs.map a.eval)
  | [], [], _ => trivial
  | _ :: _, _ :: _, h => ⟨h.1 b a w hr, ValsB.ros hr h.2⟩
  | [], _ :: _, h => h.elim
  | _ :: _, [], h => h.elim
theorem tq_callB {ops : Array Oper} {rest : List Oper} {S : St} {K : St → Prop} {d : Tmp} {f : FuncId} {xs : List Operand} {ats : Array TypeId} {ty : TypeId} {pos : String} {after : Array Edge} {args : List SV} {x : Value}
    (hf : Enters P f) (ha : ValsB E S xs args) (h : Ct P f args (.v x)) (hk : TQ P E ops rest (nextQ S d (.v x)) K) (hd : d < NN := by decide) :
    TQ P E ops ({ dst := some d, op := .call { callee := .value (.func f), args := xs.toArray, argTypes := ats }, type := ty, pos, after, guard := none } :: rest) S K := fun b a w hr => by
  unfold wpQuiet
  rw [if_pos (by rfl)]
  refine ⟨x, fun w' hw' => ?_, hk b _ w (hr.put hd rfl)⟩
  unfold Oper.quietAt
  rw [run_call hf]
  have hr' : RepB E b S a w' := hr.world hw'
  refine ⟨rfl, (h w' E.X _ (fun g hg => Nat.lt_of_lt_of_le (E.hX g hg) hr'.below.size) (ha.ros hr')).mono ?_⟩
  rintro e w'' ⟨v, rfl, hv, hb⟩
  have : v = x := hv
  subst this
  exact ⟨rfl, hw'.trans (hb.mono hw'.size)⟩
theorem t_callB {ops : Array Oper} {rest : List Oper} {S : St} {K : St → Prop} {d : Tmp} {f : FuncId} {xs : List Operand} {ats : Array TypeId} {ty : TypeId} {pos : String} {after : Array Edge} {args : List SV} {x : Value}
    (hf : Enters P f) (ha : ValsB E S xs args) (h : Ct P f args (.v x)) (hk : T P E ops rest (nextQ S d (.v x)) K) (hd : d < NN := by decide) :
    T P E ops ({ dst := some d, op := .call { callee := .value (.func f), args := xs.toArray, argTypes := ats }, type := ty, pos, after, guard := none } :: rest) S K := by
  rintro a w ⟨b, hr⟩ Q hq
  unfold wpList
  rw [if_pos (by rfl)]
  refine .inl (wp_of_enter (R := fun v w'' => v = x ∧ RepB E b S a w'') (run_call hf ..) ?_ fun v w'' ⟨hv, hr'⟩ => hk _ _ ⟨b, hr'.put (x := .v x) hd hv⟩ Q hq)
  refine (h w E.X _ (fun g hg => Nat.lt_of_lt_of_le (E.hX g hg) hr.below.size) (ha.ros hr)).mono ?_
  rintro e w'' ⟨v, rfl, hv, hb⟩
  exact ⟨v, rfl, hv, hr.world hb⟩
theorem val_fnE {S : St} {x : Operand} {f : FuncId} {m : Nat} {g g' : Nat → SV} (h : Val E S x (.fn f m g)) (e : AllN (fun t => g t = g' t) m) : Val E S x (.fn f m g') := fun b a w hr => by
  obtain ⟨cs, hv, hm, hc⟩ := h b a w hr
  refine ⟨cs, hv, hm, fun t ht => ?_⟩
  obtain ⟨u, hu, h1⟩ := hc t ht
  exact ⟨u, hu, e.at t ht ▸ h1⟩
theorem val_fnE' {S : St} {x : Operand} {f : FuncId} {g : Nat → SV} (caps : List SV) (h : Val E S x (.fn f caps.length g)) (e : AllN (fun t => g t = caps.getD t .junk) caps.length) : Val E S x (fnL f caps) := val_fnE h e
end Go.Eng
namespace Go.Eng
open Go.RowKit
variable {P : Program} {NN : Nat} {E : Env NN}
section urow
variable {S : St} {j n k : Nat} {get : Nat → Nat → SV} {e : TypeId} {c : Nat} {ce : TypeId} {ck m : Nat} {kn : Nat → Nat} {kget : Nat → Nat → Nat → SV} {hole : Option (Nat × SV)}
theorem R_hd {w : World} {X : Nat → Prop} {b b' : Nat → Value} {p : Nat → Bool} (hb : ∀ i, p i = true → hdv (b' i) = hdv (b i) ∧ ∀ a, b i = .pointer a → b' i = b i) {x : SV} {val : Value} (hn : x.okId p = true) (h : R w X b x val) : R w X b' x val := by
  induction x generalizing val with
  | grd c x ih => exact ⟨fun hc => ih hn (h.1 hc), h.2⟩
  | junk => trivial
  | abs p hp => exact h
  | bp i off =>
    obtain ⟨g, h1, h2⟩ := h
    exact ⟨g, by rw [(hb i hn).2 _ h1]; exact h1, h2⟩
  | own i => show val = _; rw [(hb i hn).1]; exact h
  | oe i k p off =>
    obtain ⟨g, n, c, h1, h2, h3⟩ := h
    exact ⟨g, n, c, by rw [(hb i hn).1]; exact h1, h2, h3⟩
  | sub i k lo m =>
    obtain ⟨A, n, c, h1, h2, h3⟩ := h
    exact ⟨A, n, c, by rw [(hb i hn).1]; exact h1, h2, h3⟩
  | v x => exact h
  | row n k get ih => exact h
  | el n k get i off ih => exact h
  | agg m get ih =>
    obtain ⟨cs, rfl, hm, hr⟩ := h
    refine ⟨cs, rfl, hm, fun t ht => ?_⟩
    obtain ⟨u, hu, h1, h2⟩ := hr t ht
    exact ⟨u, hu, h1, ih t (allB_iff hn t ht) h2⟩
  | tup m get ih =>
    obtain ⟨cs, rfl, hm, hr⟩ := h
    refine ⟨cs, rfl, hm, fun t ht => ?_⟩
    obtain ⟨u, hu, h2⟩ := hr t ht
    exact ⟨u, hu, ih t (allB_iff hn t ht) h2⟩
  | fn f m get ih =>
    obtain ⟨cs, rfl, hm, hr⟩ := h
    refine ⟨cs, rfl, hm, fun t ht => ?_⟩
    obtain ⟨u, hu, h2⟩ := hr t ht
    exact ⟨u, hu, ih t (allB_iff hn t ht) h2⟩
theorem okId_all (x : SV) : x.okId (fun _ => true) = true := by
  induction x with
  | agg m get ih => exact allB_of fun t _ => ih t
  | tup m get ih => exact allB_of fun t _ => ih t
  | fn f m get ih => exact allB_of fun t _ => ih t
  | grd c x ih => exact ih
  | _ => rfl
theorem RepB.rename {b b' : Nat → Value} {a : Act} {w : World} (h : RepB E b S a w) (D : List Nat) (nw : List (Nat × Own)) (p : Nat → Bool)
    (hhd : ∀ i, p i = true → hdv (b' i) = hdv (b i) ∧ ∀ q, b i = .pointer q → b' i = b i)
    (hsl : ∀ s x, look s S.slots = some x → x.okId p = true) (how : ∀ i o, lookO i S.owns = some o → o.okId p = true)
    (hsame : ∀ i o, lookO i S.owns = some o → i ∉ D → lookO i nw = none → b' i = b i) (hold : ∀ i, 1000 ≤ i → b' i = b i)
    (hnew : ∀ i o, lookO i nw = some o → OwnOk w (S.excl E b) E.base b' i o)
    (hbk : ∀ i o, lookO i nw = some o → ∀ g, Bk (b' i) g → ∃ q oq, lookO q S.owns = some oq ∧ (q ∈ D ∨ (lookO q nw).isSome) ∧ Bk (b q) g)
    (hap : ∀ i q oi oq, lookO i nw = some oi → lookO q nw = some oq → i ≠ q → ∀ g, Bk (b' i) g → ¬ Bk (b' q) g) :
    RepB E b' ⟨S.slots, nw ++ dropKs D S.owns⟩ a w := by
  have he : Ext (S.excl E b) w w := ⟨Nat.le_refl _, fun _ _ _ => rfl⟩
  have hl : ∀ {i o}, lookO i (nw ++ dropKs D S.owns) = some o → lookO i nw = some o ∨ (lookO i nw = none ∧ i ∉ D ∧ lookO i S.owns = some o ∧ b' i = b i) := fun {i o} hi => by
    rcases lookO_app hi with h1 | ⟨h1, h2⟩
    · exact .inl h1
    · obtain ⟨h3, h4⟩ := lookO_dropKs h2
      exact .inr ⟨h1, h3, h4, hsame i o h4 h3 h1⟩
  have hX : ∀ g, St.excl ⟨S.slots, nw ++ dropKs D S.owns⟩ E b' g → S.excl E b g := by
    rintro g (hh | ⟨i, o, h1, h2⟩)
    · exact .inl hh
    · rcases hl h1 with h3 | ⟨h3, h4, h5, h6⟩
      · obtain ⟨q, oq, h7, _, h8⟩ := hbk i o h3 g h2
        exact .inr ⟨q, oq, h7, h8⟩
      · rw [h6] at h2; exact .inr ⟨i, o, h5, h2⟩
  have hR : ∀ x v, x.okId p = true → R w (S.excl E b) b x v → R w (St.excl ⟨S.slots, nw ++ dropKs D S.owns⟩ E b') b' x v := fun x v hx hr => (R_hd hhd hx hr).mono he (fun g _ hh => hX g hh)
  exact {
    size := h.size
    defers := h.defers
    below := h.below
    slots := fun s x hx => hR _ _ (hsl s x hx) (h.slots s x hx)
    owns := fun i o hi => by
      rcases hl hi with h3 | ⟨h3, h4, h5, h6⟩
      · exact (hnew i o h3).mono hX
      · exact (h.owns i o h5).keep0 (p := fun x => x.okId p = true) h6 (Own.okId_all (how i o h5)) (fun _ _ _ => rfl) hR (fun x v hr => hr.mono he (fun g _ hh => hX g hh))
    mine := fun i o hi g hg => by
      rcases hl hi with h3 | ⟨h3, h4, h5, h6⟩
      · obtain ⟨q, oq, h7, _, h8⟩ := hbk i o h3 g hg
        exact h.mine q oq h7 g h8
      · rw [h6] at hg; exact h.mine i o h5 g hg
    apart := fun i q oi oq hi hq hne g hgi hgq => by
      rcases hl hi with h3 | ⟨h3, h4, h5, h6⟩
      · rcases hl hq with h3' | ⟨h3', h4', h5', h6'⟩
        · exact hap i q oi oq h3 h3' hne g hgi hgq
        · obtain ⟨z, oz, h7, h8, h9⟩ := hbk i oi h3 g hgi
          rw [h6'] at hgq
          refine h.apart z q oz oq h7 h5' ?_ g h9 hgq
          rintro rfl
          rcases h8 with h8 | h8
          · exact h4' h8
          · rw [h3'] at h8; cases h8
      · rcases hl hq with h3' | ⟨h3', h4', h5', h6'⟩
        · obtain ⟨z, oz, h7, h8, h9⟩ := hbk q oq h3' g hgq
          rw [h6] at hgi
          refine h.apart z i oz oi h7 h5 ?_ g h9 hgi
          rintro rfl
          rcases h8 with h8 | h8
          · exact h4 h8
          · rw [h3] at h8; cases h8
        · rw [h6] at hgi; rw [h6'] at hgq
          exact h.apart i q oi oq h5 h5' hne g hgi hgq
    old := fun i hi => (hold i hi).trans (h.old i hi) }
theorem turn_u0 (j c : Nat) (ce : TypeId) (ck : Nat) (kn : Nat → Nat) (kget : Nat → Nat → Nat → SV) (ho : lookO j S.owns = some (.arow n k get e)) (hj : Nat.blt j 1000 = true) :
    Turn E S ⟨S.slots, (j, .urow n k get e c ce ck 0 kn kget none) :: dropKs [] S.owns⟩ := fun b a w hr => by
  obtain ⟨xs, hown, hc⟩ := hr.owns j _ ho
  obtain ⟨A, cp, hs, _⟩ := hown.slice
  have hj' : j < 1000 := Nat.le_of_ble_eq_true hj
  refine ⟨setB b j (.tuple #[b j]), hr.rename [] [(j, .urow n k get e c ce ck 0 kn kget none)] (fun _ => true) (fun i _ => ?_) (fun _ _ _ => okId_all _) (fun i o hi => ?_) (fun i o hi _ hn => ?_) (fun i hi => setB_other _ _ _ (by omega)) (fun i o hi => ?_) (fun i o hi g hg => ?_) (fun i q oi oq hi hq hne => ?_)⟩
  · by_cases h : i = j
    · subst h
      rw [setB_same]
      exact ⟨by rw [hs]; rfl, fun q hq => by rw [hs] at hq; cases hq⟩
    · rw [setB_other _ _ _ h]; exact ⟨rfl, fun _ _ => rfl⟩
  · cases o with
    | box m get ty => exact allB_of fun t _ => okId_all _
    | urow n k get e c ce ck m kn kget hole => cases hole <;> first | rfl | exact okId_all _
    | _ => rfl
  · refine setB_other _ _ _ fun h => ?_
    rw [h, lookO_cons, if_pos rfl] at hn; cases hn
  · rw [lookO_cons] at hi
    split at hi
    · rename_i h; subst h
      injection hi with hi; subst hi
      refine ⟨b i, [], xs, setB_same _ _ _, hown, rfl, Nat.zero_le _, fun q hq t ht => ?_, fun q hq => absurd hq (Nat.not_lt_zero q)⟩
      obtain ⟨u, hu, h1, h2⟩ := hc q hq t ht
      exact ⟨u, hu, h1, fun _ => h2, fun _ _ _ => h2, fun _ _ h => absurd h (Nat.not_lt_zero q), fun _ _ h => (by cases h)⟩
    · cases hi
  · rw [lookO_cons] at hi
    split at hi
    · rename_i h; subst h
      rw [setB_same] at hg
      obtain ⟨q, u, hq, hu⟩ := hg
      have : q = 0 := by
        cases q with
        | zero => rfl
        | succ q => simp at hq
      subst this
      simp at hq; subst hq
      exact ⟨i, _, ho, .inr (by rw [lookO_cons, if_pos rfl]; rfl), (Bk_slice hs).2 hu⟩
    · cases hi
  · rw [lookO_cons] at hi hq
    split at hi
    · rename_i h1
      split at hq
      · rename_i h2; exact absurd (h1.trans h2.symm) hne
      · cases hq
    · cases hi
end urow
def PValsV {NN : Nat} (E : Env NN) (S : St) : List (Nat × Operand) → List (Nat × SV) → Prop
  | [], [] => True
  | x :: xs, s :: ss => (x.1 = s.1 ∧ Val E S x.2 s.2 ∧ OneV E S s.2) ∧ PValsV E S xs ss
  | _, _ => False
theorem pvalsV_find {S : St} {b : Nat → Value} {a : Act} {w : World} (hr : RepB E b S a w) {off : Nat → Nat} {q : Nat} : ∀ {xs : List (Nat × Operand)} {ss : List (Nat × SV)}, PValsV E S xs ss →
    (match partAt off q ss with
      | some x => ∃ p, (((xs.map fun y => (y.1, a.eval y.2)).reverse).find? fun p => off p.1 == q) = some p ∧ p.2.oneCell' = true ∧ R w (S.excl E b) b x p.2
      | none => (((xs.map fun y => (y.1, a.eval y.2)).reverse).find? fun p => off p.1 == q) = none)
  | [], [], _ => by simp [partAt]
  | (i, x) :: xs, (i', s) :: ss, h => by
    obtain ⟨⟨hi, hv, h1⟩, hrest⟩ := h
    simp only at hi hv h1
    subst hi
    have ih := pvalsV_find hr (off := off) (q := q) hrest
    simp only [partAt]
    cases hp : partAt off q ss with
    | some y =>
      rw [hp] at ih
      obtain ⟨p, h2, h3, h4⟩ := ih
      refine ⟨p, ?_, h3, h4⟩
      simp only [List.map_cons, List.reverse_cons, List.find?_append, h2]
      rfl
    | none =>
      rw [hp] at ih
      simp only [List.map_cons, List.reverse_cons, List.find?_append, ih]
      by_cases e : off i = q
      · have hb : Nat.beq (off i) q = true := by rw [e]; simp
        rw [hb]
        refine ⟨(i, a.eval x), by simp [e], h1 b a w _ hr (hv b a w hr), hv b a w hr⟩
      · have hb : Nat.beq (off i) q = false := by
          cases hb : Nat.beq (off i) q
          · rfl
          · exact absurd (Nat.eq_of_beq_eq_true hb) e
        rw [hb]
        simp [e]
  | [], _ :: _, h => h.elim
  | _ :: _, [], h => h.elim
theorem q_buildV {S : St} {t : TypeId} {xs : List (Nat × Operand)} (ss : List (Nat × SV)) (off : Nat → Nat) {m : Nat} {zget : Nat → SV} (get : Nat → SV)
    (hz : ZeroOk P t m zget) (hb : ∀ (w : World) (parts : List (Nat × Value)) (z : Value) (cs : Array Value), (zeroValue t).run P w = .ok z w → Instr.fill (fun i => if i < m then some (off i, 1) else none) z.cells parts = some cs → (∀ p ∈ parts, p.1 < m) → (Instr.build t parts.toArray).run P w = .ok (.agg cs) w)
    (hp : PValsV E S xs ss) (hlt : ∀ p ∈ xs, p.1 < m ∧ off p.1 < m)
    (hg : AllN (fun q => get q = match partAt off q ss with | some x => x | none => zget q) m) :
    OpQ P E S (.build t xs.toArray) (.agg m get) := fun b a w hr dst ty pos after gd => by
  obtain ⟨z, hz1, hz2, hz3⟩ := hz
  have hone : ∀ {xs : List (Nat × Operand)} {ss : List (Nat × SV)}, PValsV E S xs ss → ∀ p ∈ xs.map (fun y => (y.1, a.eval y.2)), p.2.oneCell' = true := by
    intro xs
    induction xs with
    | nil => intro ss _ p hp; simp at hp
    | cons x xs ih =>
      intro ss h p hp
      cases ss with
      | nil => exact h.elim
      | cons s ss =>
        simp only [List.map_cons, List.mem_cons] at hp
        rcases hp with rfl | hp
        · exact h.1.2.2 b a w _ hr (h.1.2.1 b a w hr)
        · exact ih h.2 p hp
  obtain ⟨cs, hf, hs, hq⟩ := fill_one (place := fun i => if i < m then some (off i, 1) else none) (off := off) (xs.map fun y => (y.1, a.eval y.2)) z.cells (fun p hp => by
    obtain ⟨x, hx, rfl⟩ := List.mem_map.1 hp
    refine ⟨by simp [(hlt x hx).1], hone ‹_› _ hp, by rw [hz2]; exact (hlt x hx).2⟩)
  refine ⟨.agg cs, fun w' hw' => ?_, cs, rfl, by omega, fun t ht => ?_⟩
  · have := hb w' (xs.map fun y => (y.1, a.eval y.2)) z cs (hz1 w') hf (fun p hp => by
      obtain ⟨x, hx, rfl⟩ := List.mem_map.1 hp
      exact (hlt x hx).1)
    simp [execOp, this]
  · have h1 := hg.at t ht
    have h2 := pvalsV_find hr (off := off) (q := t) hp
    rw [hq t]
    cases hpa : partAt off t ss with
    | some x =>
      rw [hpa] at h1 h2
      obtain ⟨p, h3, h4, h5⟩ := h2
      rw [h3]
      exact ⟨p.2, rfl, h4, h1 ▸ h5⟩
    | none =>
      rw [hpa] at h1 h2
      rw [h2]
      obtain ⟨u, hu, h3, h4⟩ := hz3 t ht
      exact ⟨u, hu, h3, h1 ▸ (h4 _ _).toR⟩
end Go.Eng
namespace Go.Eng
open Go.RowKit
variable {P : Program} {NN : Nat} {E : Env NN}
theorem RepB.rename2 {S : St} {b b' : Nat → Value} {a : Act} {w : World} (h : RepB E b S a w) (D : List Nat) (nw : List (Nat × Own)) (p : Nat → Bool)
    (hhd : ∀ i, p i = true → hdv (b' i) = hdv (b i) ∧ ∀ q, b i = .pointer q → b' i = b i)
    (hsl : ∀ s x, look s S.slots = some x → x.okId p = true) (how : ∀ i o, lookO i S.owns = some o → o.okId p = true ∨ i ∈ D ∨ (lookO i nw).isSome)
    (hsame : ∀ i o, lookO i S.owns = some o → i ∉ D → lookO i nw = none → b' i = b i) (hold : ∀ i, 1000 ≤ i → b' i = b i)
    (hnew : (∀ g, St.excl ⟨S.slots, nw ++ dropKs D S.owns⟩ E b' g → S.excl E b g) → ∀ i o, lookO i nw = some o → OwnOk w (St.excl ⟨S.slots, nw ++ dropKs D S.owns⟩ E b') E.base b' i o)
    (hbk : ∀ i o, lookO i nw = some o → ∀ g, Bk (b' i) g → ∃ q oq, lookO q S.owns = some oq ∧ (q ∈ D ∨ (lookO q nw).isSome) ∧ Bk (b q) g)
    (hap : ∀ i q oi oq, lookO i nw = some oi → lookO q nw = some oq → i ≠ q → ∀ g, Bk (b' i) g → ¬ Bk (b' q) g) :
    RepB E b' ⟨S.slots, nw ++ dropKs D S.owns⟩ a w := by
  have he : Ext (S.excl E b) w w := ⟨Nat.le_refl _, fun _ _ _ => rfl⟩
  have hl : ∀ {i o}, lookO i (nw ++ dropKs D S.owns) = some o → lookO i nw = some o ∨ (lookO i nw = none ∧ i ∉ D ∧ lookO i S.owns = some o ∧ b' i = b i) := fun {i o} hi => by
    rcases lookO_app hi with h1 | ⟨h1, h2⟩
    · exact .inl h1
    · obtain ⟨h3, h4⟩ := lookO_dropKs h2
      exact .inr ⟨h1, h3, h4, hsame i o h4 h3 h1⟩
  have hX : ∀ g, St.excl ⟨S.slots, nw ++ dropKs D S.owns⟩ E b' g → S.excl E b g := by
    rintro g (hh | ⟨i, o, h1, h2⟩)
    · exact .inl hh
    · rcases hl h1 with h3 | ⟨h3, h4, h5, h6⟩
      · obtain ⟨q, oq, h7, _, h8⟩ := hbk i o h3 g h2
        exact .inr ⟨q, oq, h7, h8⟩
      · rw [h6] at h2; exact .inr ⟨i, o, h5, h2⟩
  have hR : ∀ x v, x.okId p = true → R w (S.excl E b) b x v → R w (St.excl ⟨S.slots, nw ++ dropKs D S.owns⟩ E b') b' x v := fun x v hx hr => (R_hd hhd hx hr).mono he (fun g _ hh => hX g hh)
  exact {
    size := h.size
    defers := h.defers
    below := h.below
    slots := fun s x hx => hR _ _ (hsl s x hx) (h.slots s x hx)
    owns := fun i o hi => by
      rcases hl hi with h3 | ⟨h3, h4, h5, h6⟩
      · exact hnew hX i o h3
      · exact (h.owns i o h5).keep0 (p := fun x => x.okId p = true) h6 (Own.okId_all ((how i o h5).resolve_right (by rintro (h7 | h7); exact h4 h7; rw [h3] at h7; cases h7))) (fun _ _ _ => rfl) hR (fun x v hr => hr.mono he (fun g _ hh => hX g hh))
    mine := fun i o hi g hg => by
      rcases hl hi with h3 | ⟨h3, h4, h5, h6⟩
      · obtain ⟨q, oq, h7, _, h8⟩ := hbk i o h3 g hg
        exact h.mine q oq h7 g h8
      · rw [h6] at hg; exact h.mine i o h5 g hg
    apart := fun i q oi oq hi hq hne g hgi hgq => by
      rcases hl hi with h3 | ⟨h3, h4, h5, h6⟩
      · rcases hl hq with h3' | ⟨h3', h4', h5', h6'⟩
        · exact hap i q oi oq h3 h3' hne g hgi hgq
        · obtain ⟨z, oz, h7, h8, h9⟩ := hbk i oi h3 g hgi
          rw [h6'] at hgq
          refine h.apart z q oz oq h7 h5' ?_ g h9 hgq
          rintro rfl
          rcases h8 with h8 | h8
          · exact h4' h8
          · rw [h3'] at h8; cases h8
      · rcases hl hq with h3' | ⟨h3', h4', h5', h6'⟩
        · obtain ⟨z, oz, h7, h8, h9⟩ := hbk q oq h3' g hgq
          rw [h6] at hgi
          refine h.apart z i oz oi h7 h5 ?_ g h9 hgi
          rintro rfl
          rcases h8 with h8 | h8
          · exact h4 h8
          · rw [h3] at h8; cases h8
        · rw [h6] at hgi; rw [h6'] at hgq
          exact h.apart i q oi oq h5 h5' hne g hgi hgq
    old := fun i hi => (hold i hi).trans (h.old i hi) }
section urow
variable {S : St} {j n k : Nat} {get : Nat → Nat → SV} {e : TypeId} {c : Nat} {ce : TypeId} {ck m : Nat} {kn : Nat → Nat} {kget : Nat → Nat → Nat → SV} {hole : Option (Nat × SV)}
def uat (get : Nat → Nat → SV) (c m : Nat) (hole : Option (Nat × SV)) (i t : Nat) : SV :=
  if t = c then match hole with
    | some (h, x) => if i = h then x else if i < m then .junk else get i t
    | none => if i < m then .junk else get i t
  else get i t
theorem u_slice {b : Nat → Value} {a : Act} {w : World} (hr : RepB E b S a w) (ho : lookO j S.owns = some (.urow n k get e c ce ck m kn kget hole)) : ∃ A cp, hdv (b j) = .slice A n cp := by
  obtain ⟨v, subs, xs, h1, hown, _⟩ := hr.owns j _ ho
  obtain ⟨A, cp, hs, _⟩ := hown.slice
  exact ⟨A, cp, by rw [h1]; exact hs⟩
theorem u_cells {b : Nat → Value} {a : Act} {w : World} (hr : RepB E b S a w) (ho : lookO j S.owns = some (.urow n k get e c ce ck m kn kget hole)) (h0 : 0 < n) :
    ∃ subs g cp cur, b j = .tuple (.slice (some ⟨g, 0, none⟩) n (cp + 1) :: subs).toArray ∧ E.base ≤ g ∧ w.heap[g]? = some (.cells cur e (0, 0)) ∧ n ≤ cp + 1 ∧ cp + 1 ≤ maxLen ∧ cur.size = (cp + 1) * k ∧ subs.length = m ∧ m ≤ n ∧
      (∀ i, i < n → ∀ t, t < k → ∃ u, cur[i * k + t]? = some u ∧ u.oneCell' = true ∧ R w (S.excl E b) b (uat get c m hole i t) u ∧ (t ≠ c → RO w (S.excl E b) (get i t) u) ∧ (t = c → ¬ isHole i hole → m ≤ i → RO w (S.excl E b) (get i t) u) ∧ (t = c → ¬ isHole i hole → i < m → subs[i]? = some u) ∧
        (t = c → ∀ x, hole = some (i, x) → R w (S.excl E b) b x u)) ∧
      (∀ i, i < m → ∃ s, subs[i]? = some s ∧ (isHole i hole → blk1 s = none) ∧ (¬ isHole i hole → ∃ ys, ownsR w E.base ce ck s (kn i) ys ∧ ∀ q, q < kn i → ∀ t, t < ck → ∃ u, ys[q * ck + t]? = some u ∧ u.oneCell' = true ∧ RO w (S.excl E b) (kget i q t) u) ∧
        (∀ g', blk1 s = some g' → g ≠ g') ∧ ∀ i' s', subs[i']? = some s' → i' ≠ i → ∀ g, blk1 s = some g → blk1 s' ≠ some g) := by
  obtain ⟨v, subs, xs, h1, h, h2, h3, hc, hsub⟩ := hr.owns j _ ho
  rcases h with ⟨A, hv, hn, _⟩ | ⟨⟨hl, hv⟩, g', m', c', hv'⟩
  · omega
  · rcases hv with ⟨hv, hn⟩ | ⟨g, cap, cur, hv, hb, hh, hcap, hm, hs, ht⟩
    · omega
    · rw [hv] at hv'
      simp only [Value.slice.injEq, Option.some.injEq, Addr.mk.injEq, and_true] at hv'
      obtain ⟨rfl, rfl, rfl⟩ := hv'
      subst hv
      refine ⟨subs, g, c', cur, h1, hb, hh, hcap, hm, hs, h2, h3, fun i hi t htk => ?_, fun i hi => ?_⟩
      · obtain ⟨u, hu, h4, h5, h6, h7, h8⟩ := hc i hi t htk
        refine ⟨u, ?_, h4, ?_, h5, h6, h7, h8⟩
        · rw [← ht, List.getElem?_take] at hu
          split at hu
          · simpa using hu
          · cases hu
        · unfold uat
          split
          · rename_i htc
            split
            · split
              · rename_i e1; subst e1; exact h8 htc _ rfl
              · split
                · trivial
                · rename_i e1 e2; exact (h6 htc e1 (by omega)).toR
            · split
              · trivial
              · exact (h6 htc (fun z => z) (by omega)).toR
          · rename_i htc; exact (h5 htc).toR
      · obtain ⟨s, h4, h5, h6, h7, h8⟩ := hsub i hi
        exact ⟨s, h4, h5, h6, fun g' hg' e1 => h7 g' hg' (by rw [e1]; rfl), h8⟩
theorem q_idxU {x y : Operand} {t : TypeId} {kk : IntKind} {i : Int} (hx : Val E S x (.own j)) (ho : lookO j S.owns = some (.urow n k get e c ce ck m kn kget hole)) (hy : Val E S y (.v (.int kk i)))
    (ht : P.underlying t = some (.slice (P.elem t))) (hs : ∀ w, (sizeOf (P.elem t)).run P w = .ok k w) (h0 : 0 ≤ i) (h1 : i < n) :
    OpQ P E S (.indexAddr t x y) (.oe j k i.toNat 0) := fun b a w hr dst ty pos after gd => by
  have hv : a.eval x = hdv (b j) := hx b a w hr
  have h2 : a.eval y = .int kk i := hy b a w hr
  obtain ⟨subs, g, c, cur, hb, _⟩ := u_cells hr ho (by omega)
  have hb : hdv (b j) = .slice (some ⟨g, 0, none⟩) n (c + 1) := by rw [hb]; rfl
  refine ⟨.pointer (some ⟨g, i.toNat * k + 0, none⟩), fun w' hw' => ?_, g, n, c + 1, hb, by omega, rfl⟩
  simp [execOp, hv, hb, h2, run_indexAt_slice w' t _ n (c + 1) kk i ht, h0, h1, hs, Addr.add_lit]
theorem q_idxUN {x y : Operand} {t : TypeId} {kk : IntKind} {i : Nat} (hx : Val E S x (.own j)) (ho : lookO j S.owns = some (.urow n k get e c ce ck m kn kget hole)) (hy : Val E S y (.v (.int kk (i : Int))))
    (ht : P.underlying t = some (.slice (P.elem t))) (hs : ∀ w, (sizeOf (P.elem t)).run P w = .ok k w) (h1 : i < n) :
    OpQ P E S (.indexAddr t x y) (.oe j k i 0) := by
  have := q_idxU hx ho hy ht hs (Int.natCast_nonneg i) (by omega)
  simpa using this
theorem q_ldU {x : Operand} {t : TypeId} {i off : Nat} {s : SV} (hx : Val E S x (.oe j k i off)) (ho : lookO j S.owns = some (.urow n k get e c ce ck m kn kget hole))
    (ht : ∀ w, (isAgg t).run P w = .ok false w) (hoff : off < k) (hs : uat get c m hole i off = s) : OpQ P E S (.load t x) s := fun b a w hr dst ty pos after gd => by
  subst hs
  obtain ⟨g, n', cap, hb, hi, hv⟩ := hx b a w hr
  obtain ⟨A, c1, hs⟩ := u_slice hr ho
  rw [hs] at hb
  simp only [Value.slice.injEq] at hb
  obtain ⟨rfl, rfl, rfl⟩ := hb
  obtain ⟨subs, g', c', cur, hb', _, hh, _, _, _, _, _, hc, _⟩ := u_cells hr ho (by omega)
  have hb' : hdv (b j) = .slice (some ⟨g', 0, none⟩) n (c' + 1) := by rw [hb']; rfl
  rw [hs] at hb'
  simp only [Value.slice.injEq, Option.some.injEq, Addr.mk.injEq, and_true] at hb'
  obtain ⟨rfl, _, _⟩ := hb'
  obtain ⟨u, hu, h1, h2, _⟩ := hc i hi off hoff
  refine ⟨u, fun w' hw' => ?_, h2⟩
  have hu' : w'.cell? ⟨g, i * k + off, none⟩ = some u := (hw'.cell (p := ⟨g, i * k + off, none⟩) (Array.getElem?_eq_some_iff.1 hh).1).trans (by rw [cell_of_row w g _ cur e (0, 0) hh]; exact hu)
  simp [execOp, hv, Instr.loadAt, Instr.sureAddr, loadVar, ht, hu']
theorem q_ldUA {x : Operand} {t : TypeId} {i off mm : Nat} {gt : Nat → SV} (hx : Val E S x (.oe j k i off)) (ho : lookO j S.owns = some (.urow n k get e c ce ck m kn kget hole))
    (ht : ∀ w, (isAgg t).run P w = .ok true w) (hsz : ∀ w, (sizeOf t).run P w = .ok mm w) (hoff : off + mm ≤ k) (hs : AllN (fun q => uat get c m hole i (off + q) = gt q) mm) : OpQ P E S (.load t x) (.agg mm gt) := fun b a w hr dst ty pos after gd => by
  obtain ⟨g, n', cap, hb, hi, hv⟩ := hx b a w hr
  obtain ⟨A, c1, hs1⟩ := u_slice hr ho
  rw [hs1] at hb
  simp only [Value.slice.injEq] at hb
  obtain ⟨rfl, rfl, rfl⟩ := hb
  obtain ⟨subs, g', c', cur, hb', _, hh, _, _, _, _, _, hc, _⟩ := u_cells hr ho (by omega)
  have hb' : hdv (b j) = .slice (some ⟨g', 0, none⟩) n (c' + 1) := by rw [hb']; rfl
  rw [hs1] at hb'
  simp only [Value.slice.injEq, Option.some.injEq, Addr.mk.injEq, and_true] at hb'
  obtain ⟨rfl, _, _⟩ := hb'
  have hg := (Array.getElem?_eq_some_iff.1 hh).1
  let f : Nat → Value := fun q => (w.cell? ⟨g, i * k + (off + q), none⟩).getD undef
  have hcell : ∀ q, q < mm → ∃ u, w.cell? ⟨g, i * k + (off + q), none⟩ = some u ∧ u.oneCell' = true ∧ R w (S.excl E b) b (gt q) u := fun q hq => by
    obtain ⟨u, hu, h1, h2, _⟩ := hc i hi (off + q) (by omega)
    exact ⟨u, by rw [cell_of_row w g _ cur e (0, 0) hh]; exact hu, h1, by rw [← hs.at q hq]; exact h2⟩
  have hf : ∀ q, q < mm → w.cell? ⟨g, i * k + off + (0 + q), none⟩ = some (f q) := fun q hq => by
    obtain ⟨u, hu, _⟩ := hcell q hq
    have e : i * k + off + (0 + q) = i * k + (off + q) := by omega
    rw [e]; simp only [f]; rw [hu]; rfl
  have hl := fun (w' : World) (hw' : Below w.heap.size w w') => run_loadCellsFrom (P := P) w' g (i * k + off) mm 0 #[] f (fun q hq => (hw'.cell (p := ⟨g, i * k + off + (0 + q), none⟩) hg).trans (hf q hq))
  refine ⟨.agg (#[] ++ (Array.ofFn fun t : Fin mm => f t.1)), fun w' hw' => ?_, _, rfl, by simp, fun q hq => ?_⟩
  · simp [execOp, hv, Instr.loadAt, Instr.sureAddr, loadVar, ht, hsz, loadCells, hl w' hw']
  · obtain ⟨u, hu, h1, h2⟩ := hcell q hq
    exact ⟨u, by simp [hq, f, hu], h1, h2⟩
end urow
end Go.Eng
namespace Go.Eng
open Go.RowKit
variable {P : Program} {NN : Nat} {E : Env NN}
section urow
variable {S : St} {j n k : Nat} {get : Nat → Nat → SV} {e : TypeId} {c : Nat} {ce : TypeId} {ck m : Nat} {kn : Nat → Nat} {kget : Nat → Nat → Nat → SV} {hole : Option (Nat × SV)}
theorem t_stG {ops : Array Oper} {rest : List Oper} {K : St → Prop} {t : TypeId} {p x : Operand} {ty : TypeId} {pos : String} {after : Array Edge} {i off : Nat} {s : SV} {hole' : Option (Nat × SV)} (get' : Nat → Nat → SV)
    (hp : Val E S p (.oe j k i off)) (ho : lookO j S.owns = some (.urow n k get e c ce ck m kn kget hole)) (hx : Val E S x s) (h1 : OneV E S s) (hs : ∀ w, (sizeOf t).run P w = .ok 1 w) (hoff : off < k)
    (hset : (off ≠ c ∧ s.isRO = true ∧ get' i off = s ∧ hole' = hole) ∨ (off = c ∧ hole' = some (i, s) ∧ (isHole i hole ∨ (hole = none ∧ m ≤ i))))
    (hsame : ∀ i', i' < n → ∀ t, t < k → (i' ≠ i ∨ t ≠ off) → get' i' t = get i' t)
    (hk : T P E ops rest ⟨S.slots, (j, .urow n k get' e c ce ck m kn kget hole') :: S.owns⟩ K) :
    T P E ops ({ dst := none, op := .store t p x, type := ty, pos, after, guard := none } :: rest) S K := by
  rintro a w ⟨b, hr⟩ Q hq
  obtain ⟨g, n', cap, hb, hi, hpv⟩ := hp b a w hr
  obtain ⟨A, cq, hsl⟩ := u_slice hr ho
  rw [hsl] at hb
  simp only [Value.slice.injEq] at hb
  obtain ⟨rfl, rfl, rfl⟩ := hb
  obtain ⟨subs, g', c', cur, hb', hbase, hh, hcap, hmax, hsz, hsl2, hmn, hc, hsub⟩ := u_cells hr ho (by omega)
  have hb2 : hdv (b j) = .slice (some ⟨g', 0, none⟩) n (c' + 1) := by rw [hb']; rfl
  rw [hsl] at hb2
  simp only [Value.slice.injEq, Option.some.injEq, Addr.mk.injEq, and_true] at hb2
  obtain ⟨rfl, _, _⟩ := hb2
  have hv := hx b a w hr
  have hone := h1 b a w _ hr hv
  obtain ⟨u0, hu0, _⟩ := hc i hi off hoff
  have hu0' : w.cell? ⟨g, i * k + off, none⟩ = some u0 := by rw [cell_of_row w g _ cur e (0, 0) hh]; exact hu0
  have hfr : w.frozen? ⟨g, i * k + off, none⟩ = false := by simp [World.frozen?, hh]
  have hhole : ∀ i', i' ≠ i → (isHole i' hole' ↔ isHole i' hole) := fun i' hne => by
    rcases hset with ⟨_, _, _, rfl⟩ | ⟨_, rfl, h2 | ⟨rfl, _⟩⟩
    · exact Iff.rfl
    · cases hole with
      | none => exact h2.elim
      | some q => exact ⟨fun h => absurd h hne, fun h => absurd (h.trans (Eq.symm h2)) hne⟩
    · exact ⟨fun h => absurd h hne, fun h => h.elim⟩
  have hsubeq : ∀ q, q < m → (isHole q hole' ↔ isHole q hole) := fun q hq => by
    by_cases h3 : q = i
    · subst h3
      rcases hset with ⟨_, _, _, rfl⟩ | ⟨_, rfl, h2 | ⟨rfl, h4⟩⟩
      · exact Iff.rfl
      · exact ⟨fun _ => h2, fun _ => rfl⟩
      · omega
    · exact hhole q h3
  unfold wpList
  rw [if_pos (by rfl)]
  refine .inl (wp_of_skip (w' := w.setCell ⟨g, i * k + off, none⟩ (a.eval x)) ?_ ?_)
  · simp [execOp, Instr.storeAt, hpv, Instr.sureAddr, storeVar, hs, cells_one hone, storeCells, Addr.add_zero', run_store P w _ _ _ hone, hu0', hfr]
  · refine hk _ _ ⟨b, ?_⟩ Q hq
    refine hr.setown (g := g) ho (by rw [hb']; exact ⟨0, _, rfl, rfl⟩) ⟨rfl, rfl, rfl, by simp⟩ (fun k hk => Below.heap_setCell _ _ _ _ hk) (fun X hm hmo => ?_)
    have hcur' : (w.setCell ⟨g, i * k + off, none⟩ (a.eval x)).heap[g]? = some (.cells (cur.setIfInBounds (i * k + off) (a.eval x)) e (0, 0)) := by simp [World.setCell, Array.getElem?_modify, hh]
    have hnk : n * k ≤ cur.size := by rw [hsz]; exact Nat.mul_le_mul_right _ hcap
    refine ⟨_, subs, (cur.setIfInBounds (i * k + off) (a.eval x)).toList.take (n * k), hb', .inr ⟨⟨?_, .inr ⟨g, c' + 1, _, rfl, hbase, hcur', hcap, hmax, by simpa using hsz, rfl⟩⟩, g, n, c', rfl⟩, hsl2, hmn, fun i' hi' t ht => ?_, fun q hq => ?_⟩
    · simp; omega
    · have hlt : i' * k + t < n * k := by
        have : (i' + 1) * k ≤ n * k := Nat.mul_le_mul_right _ hi'
        have e1 : (i' + 1) * k = i' * k + k := by rw [Nat.add_mul, Nat.one_mul]
        omega
      rw [List.getElem?_take, if_pos hlt, Array.getElem?_toList, Array.getElem?_setIfInBounds]
      by_cases e1 : i * k + off = i' * k + t
      · have hii : i' = i ∧ t = off := by
          have h2 : (i * k + off) / k = i := by rw [Nat.mul_comm, Nat.mul_add_div (by omega), Nat.div_eq_of_lt hoff, Nat.add_zero]
          have h3 : (i' * k + t) / k = i' := by rw [Nat.mul_comm, Nat.mul_add_div (by omega), Nat.div_eq_of_lt ht, Nat.add_zero]
          have : i' = i := by rw [← h2, ← h3, e1]
          subst this
          exact ⟨rfl, by omega⟩
        obtain ⟨rfl, rfl⟩ := hii
        rw [if_pos e1, if_pos (by omega)]
        rcases hset with ⟨h2, hro, h3, h4⟩ | ⟨h2, rfl, _⟩
        · exact ⟨_, rfl, hone, fun _ => by rw [h3]; exact hmo (hv.toRO hro), fun h => absurd h h2, fun h => absurd h h2, fun h => absurd h h2⟩
        · exact ⟨_, rfl, hone, fun h => absurd h2 h, fun _ h => absurd rfl h, fun _ h => absurd rfl h, fun _ y hy => by
            simp only [Option.some.injEq, Prod.mk.injEq, true_and] at hy
            subst hy; exact hm hv⟩
      · rw [if_neg e1]
        have hne : i' ≠ i ∨ t ≠ off := by
          by_cases e2 : i' = i
          · exact .inr (fun e3 => e1 (by rw [e2, e3]))
          · exact .inl e2
        rw [hsame i' hi' t ht hne]
        obtain ⟨u, hu, h2, _, h3, h4, h5, h6⟩ := hc i' hi' t ht
        refine ⟨u, hu, h2, fun z => hmo (h3 z), fun z z2 z3 => ?_, fun z z2 z3 => ?_, fun z y hy => ?_⟩
        · by_cases e2 : i' = i
          · rcases hset with ⟨_, _, _, rfl⟩ | ⟨h7, _, _⟩
            · exact hmo (h4 z z2 z3)
            · rcases hne with h8 | h8
              · exact absurd e2 h8
              · exact absurd (z.trans h7.symm) h8
          · exact hmo (h4 z (fun h => z2 ((hhole i' e2).2 h)) z3)
        · by_cases e2 : i' = i
          · rcases hset with ⟨_, _, _, rfl⟩ | ⟨h7, _, _⟩
            · exact h5 z z2 z3
            · rcases hne with h8 | h8
              · exact absurd e2 h8
              · exact absurd (z.trans h7.symm) h8
          · exact h5 z (fun h => z2 ((hhole i' e2).2 h)) z3
        · rcases hset with ⟨_, _, _, rfl⟩ | ⟨h7, rfl, _⟩
          · exact hm (h6 z y hy)
          · simp only [Option.some.injEq, Prod.mk.injEq] at hy
            rcases hne with h8 | h8
            · exact absurd hy.1.symm h8
            · exact absurd (z.trans h7.symm) h8
    · obtain ⟨s', h2, h3, h4, h5, h6⟩ := hsub q hq
      refine ⟨s', h2, fun z => h3 ((hsubeq q hq).1 z), fun z => ?_, fun g1 hg1 e1 => h5 g1 hg1 ?_, h6⟩
      · obtain ⟨ys, h7, h8⟩ := h4 (fun h => z ((hsubeq q hq).2 h))
        refine ⟨ys, h7.same fun g1 hg1 => Below.heap_setCell _ _ _ _ fun e1 => h5 g1 hg1 e1.symm, fun i1 hi1 t1 ht1 => ?_⟩
        obtain ⟨u, hu, h9, h10⟩ := h8 i1 hi1 t1 ht1
        exact ⟨u, hu, h9, hmo h10⟩
      · simpa [blk1] using e1
theorem t_stU {ops : Array Oper} {rest : List Oper} {K : St → Prop} {t : TypeId} {p x : Operand} {ty : TypeId} {pos : String} {after : Array Edge} {i off : Nat} {s : SV} (get' : Nat → Nat → SV)
    (hp : Val E S p (.oe j k i off)) (ho : lookO j S.owns = some (.urow n k get e c ce ck m kn kget hole)) (hx : Val E S x s) (h1 : s.one = true) (hro : s.isRO = true) (hs : ∀ w, (sizeOf t).run P w = .ok 1 w) (hoff : off < k) (hc : off ≠ c)
    (hset : get' i off = s) (hsame : ∀ i', i' < n → ∀ t, t < k → (i' ≠ i ∨ t ≠ off) → get' i' t = get i' t)
    (hk : T P E ops rest ⟨S.slots, (j, .urow n k get' e c ce ck m kn kget hole) :: S.owns⟩ K) :
    T P E ops ({ dst := none, op := .store t p x, type := ty, pos, after, guard := none } :: rest) S K :=
  t_stG get' hp ho hx (one_of h1) hs hoff (.inl ⟨hc, hro, hset, rfl⟩) hsame hk
theorem t_stH {ops : Array Oper} {rest : List Oper} {K : St → Prop} {t : TypeId} {p x : Operand} {ty : TypeId} {pos : String} {after : Array Edge} {i : Nat} {s : SV}
    (hp : Val E S p (.oe j k i c)) (ho : lookO j S.owns = some (.urow n k get e c ce ck m kn kget hole)) (hx : Val E S x s) (h1 : OneV E S s) (hs : ∀ w, (sizeOf t).run P w = .ok 1 w) (hoff : c < k)
    (hh : isHole i hole ∨ (hole = none ∧ m ≤ i))
    (hk : T P E ops rest ⟨S.slots, (j, .urow n k get e c ce ck m kn kget (some (i, s))) :: S.owns⟩ K) :
    T P E ops ({ dst := none, op := .store t p x, type := ty, pos, after, guard := none } :: rest) S K :=
  t_stG get hp ho hx h1 hs hoff (.inr ⟨rfl, rfl, hh⟩) (fun _ _ _ _ _ => rfl) hk
end urow
end Go.Eng
namespace Go.Eng
open Go.RowKit
variable {P : Program} {NN : Nat} {E : Env NN}
section urow
variable {S : St} {j n k : Nat} {get : Nat → Nat → SV} {e : TypeId} {c : Nat} {ce : TypeId} {ck m : Nat} {kn : Nat → Nat} {kget : Nat → Nat → Nat → SV} {hole : Option (Nat × SV)}
theorem Bk_tuple {v : Value} {l : List Value} {g : Nat} : Bk (.tuple (v :: l).toArray) g ↔ blk1 v = some g ∨ ∃ (i : Nat) (u : Value), l[i]? = some u ∧ blk1 u = some g := by
  constructor
  · rintro ⟨i, u, hi, hu⟩
    cases i with
    | zero =>
      have : v = u := by simpa using hi
      subst this; exact .inl hu
    | succ i => exact .inr ⟨i, u, by simpa using hi, hu⟩
  · rintro (h | ⟨i, u, hi, hu⟩)
    · exact ⟨0, v, rfl, h⟩
    · exact ⟨i + 1, u, by simpa using hi, hu⟩
theorem turn_split (j i j2 : Nat) (ho : lookO j S.owns = some (.urow n k get e c ce ck m kn kget none)) (hi : i < m) (hj : Nat.blt j 1000 = true) (hf : S.fresh j2 = true) :
    Turn E S ⟨S.slots, (j, .urow n k get e c ce ck m kn kget (some (i, .own j2))) :: (j2, .arow (kn i) ck (kget i) ce) :: dropKs [] S.owns⟩ := fun b a w hr => by
  obtain ⟨v, subs, xs, h1, hown, hsl, hmn, hc, hsub⟩ := hr.owns j _ ho
  have hj' : j < 1000 := Nat.le_of_ble_eq_true hj
  obtain ⟨hf1, hf2, hf3⟩ := St.fresh_parts hf
  have hjj : j ≠ j2 := (lookO_fresh hf2 j _ ho).1
  obtain ⟨s, hs1, _, hs3, hs4, hs5⟩ := hsub i hi
  obtain ⟨ys, hys, hyc⟩ := hs3 (fun z => z)
  obtain ⟨As, cs, hss, _⟩ := hys.slice
  let b' := setB (setB b j2 s) j (.tuple (v :: subs.set i undef).toArray)
  have hb1 : b' j = .tuple (v :: subs.set i undef).toArray := setB_same _ _ _
  have hb2 : b' j2 = s := by simp only [b']; rw [setB_other _ _ _ (Ne.symm hjj), setB_same]
  have hb3 : ∀ q, q ≠ j → q ≠ j2 → b' q = b q := fun q h2 h3 => by simp only [b']; rw [setB_other _ _ _ h2, setB_other _ _ _ h3]
  have hlk : ∀ {q o}, lookO q [(j, Own.urow n k get e c ce ck m kn kget (some (i, .own j2))), (j2, .arow (kn i) ck (kget i) ce)] = some o → (q = j ∧ o = .urow n k get e c ce ck m kn kget (some (i, .own j2))) ∨ (q = j2 ∧ o = .arow (kn i) ck (kget i) ce) := fun {q o} h => by
    rw [lookO_cons] at h
    split at h
    · injection h with h; exact .inl ⟨‹_›, h.symm⟩
    · rw [lookO_cons] at h
      split at h
      · injection h with h; exact .inr ⟨‹_›, h.symm⟩
      · cases h
  have hbkj : ∀ g, Bk (b' j) g → Bk (b j) g := fun g hg => by
    rw [hb1, Bk_tuple] at hg
    rw [h1, Bk_tuple]
    rcases hg with hg | ⟨q, u, hq, hu⟩
    · exact .inl hg
    · rw [List.getElem?_set] at hq
      split at hq
      · split at hq
        · injection hq with hq; subst hq; cases hu
        · cases hq
      · exact .inr ⟨q, u, hq, hu⟩
  refine ⟨b', hr.rename2 [] [(j, .urow n k get e c ce ck m kn kget (some (i, .own j2))), (j2, .arow (kn i) ck (kget i) ce)] (notJ j2) (fun q hq => ?_) (fun s x hx => look_fresh hf1 s x hx) (fun q o hq => .inl (lookO_fresh hf2 q o hq).2) (fun q o hq _ hn => ?_) (fun q hq => hb3 q (by omega) (by omega)) (fun hX q o hq => ?_) (fun q o hq g hg => ?_) (fun q z oq oz hq hz hne g hg hg2 => ?_)⟩
  · have h2 := notJ_ne hq
    by_cases h3 : q = j
    · subst h3
      rw [hb1, h1]
      exact ⟨rfl, fun z hz => by cases hz⟩
    · rw [hb3 q h3 h2]; exact ⟨rfl, fun _ _ => rfl⟩
  · refine hb3 q (fun h => ?_) (fun h => ?_)
    · subst h; rw [lookO_cons, if_pos rfl] at hn; cases hn
    · subst h; exact absurd rfl (lookO_fresh hf2 q o hq).1
  · rcases hlk hq with ⟨rfl, rfl⟩ | ⟨rfl, rfl⟩
    · refine ⟨v, subs.set i undef, xs, hb1, hown, by rw [List.length_set]; exact hsl, hmn, fun i1 hi1 t ht => ?_, fun i1 hi1 => ?_⟩
      · obtain ⟨u, hu, h2, h3, h4, h5, h6⟩ := hc i1 hi1 t ht
        refine ⟨u, hu, h2, fun z => (h3 z).mono ⟨Nat.le_refl _, fun _ _ _ => rfl⟩ (fun g _ => hX g), fun z z2 z3 => (h4 z (fun y => y) z3).mono ⟨Nat.le_refl _, fun _ _ _ => rfl⟩ (fun g _ => hX g), fun z z2 z3 => ?_, fun z x hx => ?_⟩
        · rw [List.getElem?_set, if_neg (fun h => z2 h.symm)]
          exact h5 z (fun y => y) z3
        · simp only [Option.some.injEq, Prod.mk.injEq] at hx
          obtain ⟨rfl, rfl⟩ := hx
          have h7 := h5 z (fun y => y) hi
          rw [hs1] at h7
          injection h7 with h7
          subst h7
          show s = hdv (b' j2)
          rw [hb2, hss]; rfl
      · by_cases h2 : i1 = i
        · subst h2
          refine ⟨undef, by rw [List.getElem?_set, if_pos rfl, if_pos (by omega)], fun _ => rfl, fun z => absurd rfl z, fun g hg => (by have q : (none : Option Nat) = some g := hg; cases q), fun _ _ _ _ g hg => (by have q : (none : Option Nat) = some g := hg; cases q)⟩
        · obtain ⟨s1, h3, h4, h5, h6, h7⟩ := hsub i1 hi1
          refine ⟨s1, by rw [List.getElem?_set, if_neg (fun h => h2 h.symm)]; exact h3, fun z => absurd z h2, fun _ => ?_, h6, fun i' s' hs' hne g hg hg' => ?_⟩
          · obtain ⟨zs, h8, h9⟩ := h5 (fun z => z)
            exact ⟨zs, h8, fun q1 hq1 t ht => by
              obtain ⟨u, hu, h10, h11⟩ := h9 q1 hq1 t ht
              exact ⟨u, hu, h10, h11.mono ⟨Nat.le_refl _, fun _ _ _ => rfl⟩ (fun g _ => hX g)⟩⟩
          · rw [List.getElem?_set] at hs'
            split at hs'
            · split at hs'
              · injection hs' with hs'; subst hs'; cases hg'
              · cases hs'
            · exact h7 i' s' hs' hne g hg hg'
    · refine ⟨ys, by rw [hb2]; exact hys, fun q1 hq1 t ht => ?_⟩
      obtain ⟨u, hu, h10, h11⟩ := hyc q1 hq1 t ht
      exact ⟨u, hu, h10, h11.mono ⟨Nat.le_refl _, fun _ _ _ => rfl⟩ (fun g _ => hX g)⟩
  · refine ⟨j, _, ho, .inr (by rw [lookO_cons, if_pos rfl]; rfl), ?_⟩
    rcases hlk hq with ⟨rfl, rfl⟩ | ⟨rfl, rfl⟩
    · exact hbkj g hg
    · rw [hb2, Bk_slice hss] at hg
      rw [h1, Bk_tuple]
      exact .inr ⟨i, s, hs1, hg⟩
  · have key : ∀ g, Bk (b' j) g → ¬ Bk (b' j2) g := fun g hg hg2 => by
      rw [hb2, Bk_slice hss] at hg2
      rw [hb1, Bk_tuple] at hg
      rcases hg with hg | ⟨q1, u, hq1, hu⟩
      · exact hs4 g hg2 hg
      · rw [List.getElem?_set] at hq1
        split at hq1
        · split at hq1
          · injection hq1 with hq1; subst hq1; cases hu
          · cases hq1
        · exact hs5 q1 u hq1 (fun h => ‹¬ i = q1› h.symm) g hg2 hu
    rcases hlk hq with ⟨rfl, _⟩ | ⟨rfl, _⟩ <;> rcases hlk hz with ⟨rfl, _⟩ | ⟨rfl, _⟩
    · exact hne rfl
    · exact key g hg hg2
    · exact key g hg2 hg
    · exact hne rfl
end urow
end Go.Eng
namespace Go.Eng
open Go.RowKit
variable {P : Program} {NN : Nat} {E : Env NN}
section urow
variable {S : St} {j n k : Nat} {get : Nat → Nat → SV} {e : TypeId} {c : Nat} {ce : TypeId} {ck m : Nat} {kn : Nat → Nat} {kget : Nat → Nat → Nat → SV} {hole : Option (Nat × SV)}
theorem turn_join (get' : Nat → Nat → SV) (j i j2 m' n2 : Nat) {g2 : Nat → Nat → SV} {o : Own} (kn' : Nat → Nat) (kget' : Nat → Nat → Nat → SV) (ho : lookO j S.owns = some (.urow n k get e c ce ck m kn kget (some (i, .own j2)))) (ho2 : lookO j2 S.owns = some o) (he : o = .arow n2 ck g2 ce)
    (hi : i < n) (him : i ≤ m) (hm' : m' = if i < m then m else m + 1) (hj : Nat.blt j 1000 = true) (hj2 : Nat.beq j2 j = false)
    (hn2 : kn' i = n2) (hg2 : ∀ q, q < n2 → ∀ t, t < ck → kget' i q t = g2 q t) (hsame : ∀ q, q < m → q ≠ i → kn' q = kn q ∧ ∀ p, p < kn q → ∀ t, t < ck → kget' q p t = kget q p t) (hget : ∀ q, q < n → ∀ t, t < k → (t ≠ c ∨ m' ≤ q) → get' q t = get q t) :
    Turn E S ⟨S.slots, (j, .urow n k get' e c ce ck m' kn' kget' none) :: dropKs [j2] S.owns⟩ := fun b a w hr => by
  subst he
  obtain ⟨v, subs, xs, h1, hown, hsl, hmn, hc, hsub⟩ := hr.owns j _ ho
  have hj' : j < 1000 := Nat.le_of_ble_eq_true hj
  have hjj : j2 ≠ j := fun h => by rw [h] at hj2; simp at hj2
  obtain ⟨ys, hys, hyc⟩ := hr.owns j2 _ ho2
  obtain ⟨As, cs, hss, _⟩ := hys.slice
  have hap : ∀ g, blk1 (b j2) = some g → Bk (b j) g → False := fun g h2 h3 => hr.apart j2 j _ _ ho2 ho hjj g ((Bk_slice hss).2 h2) h3
  rw [h1] at hap
  let subs' := if i < m then subs.set i (b j2) else subs ++ [b j2]
  have hsl' : subs'.length = m' := by
    simp only [subs']
    split
    · rename_i h; rw [List.length_set, hm', if_pos h]; exact hsl
    · rename_i h; rw [List.length_append, hm', if_neg h, hsl]; rfl
  have hat : ∀ q, subs'[q]? = if q = i then some (b j2) else subs[q]? := fun q => by
    simp only [subs']
    split
    · rename_i h
      rw [List.getElem?_set]
      by_cases h2 : i = q
      · rw [if_pos h2, if_pos h2.symm, if_pos (by omega)]
      · rw [if_neg h2, if_neg (fun h3 => h2 h3.symm)]
    · rename_i h
      by_cases h2 : q = i
      · rw [if_pos h2, List.getElem?_append_right (by omega)]
        rw [show q - subs.length = 0 from by omega]; rfl
      · rw [if_neg h2]
        by_cases h3 : q < subs.length
        · rw [List.getElem?_append_left h3]
        · rw [List.getElem?_eq_none (l := subs) (by omega), List.getElem?_eq_none (by rw [List.length_append, List.length_singleton]; omega)]
  let b' := setB b j (.tuple (v :: subs').toArray)
  have hb1 : b' j = .tuple (v :: subs').toArray := setB_same _ _ _
  have hb3 : ∀ q, q ≠ j → b' q = b q := fun q h2 => setB_other _ _ _ h2
  have hlk : ∀ {q o}, lookO q [(j, Own.urow n k get' e c ce ck m' kn' kget' none)] = some o → (q = j ∧ o = .urow n k get' e c ce ck m' kn' kget' none) := fun {q o} h => by
    rw [lookO_cons] at h
    split at h
    · injection h with h; exact ⟨‹_›, h.symm⟩
    · cases h
  refine ⟨b', hr.rename2 [j2] [(j, .urow n k get' e c ce ck m' kn' kget' none)] (fun _ => true) (fun q hq => ?_) (fun _ _ _ => okId_all _) (fun q o hq => .inl ?_) (fun q o hq _ hn => ?_) (fun q hq => hb3 q (by omega)) (fun hX q o hq => ?_) (fun q o hq g hg => ?_) (fun q z oq oz hq hz hne g hg hg2 => ?_)⟩
  · by_cases h3 : q = j
    · subst h3
      rw [hb1, h1]
      exact ⟨rfl, fun z hz => by cases hz⟩
    · rw [hb3 q h3]; exact ⟨rfl, fun _ _ => rfl⟩
  · cases o with
    | box m get ty => exact allB_of fun t _ => okId_all _
    | urow n k get e c ce ck m kn kget hole => cases hole <;> first | rfl | exact okId_all _
    | _ => rfl
  · refine hb3 q (fun h => ?_)
    subst h; rw [lookO_cons, if_pos rfl] at hn; cases hn
  · obtain ⟨rfl, rfl⟩ := hlk hq
    have hXo : ∀ {x u}, RO w (S.excl E b) x u → RO w (St.excl ⟨S.slots, [(q, Own.urow n k get' e c ce ck m' kn' kget' none)] ++ dropKs [j2] S.owns⟩ E b') x u := fun h => h.mono ⟨Nat.le_refl _, fun _ _ _ => rfl⟩ (fun g _ => hX g)
    have hmm : ∀ q1, q1 < m' → q1 ≠ i → q1 < m := fun q1 h2 h3 => by rw [hm'] at h2; split at h2 <;> omega
    refine ⟨v, subs', xs, hb1, hown, hsl', by rw [hm']; split <;> omega, fun i1 hi1 t ht => ?_, fun i1 hi1 => ?_⟩
    · obtain ⟨u, hu, h2, h3, h4, h5, h6⟩ := hc i1 hi1 t ht
      refine ⟨u, hu, h2, fun z => by rw [hget i1 hi1 t ht (.inl z)]; exact hXo (h3 z), fun z _ z3 => ?_, fun z _ z3 => ?_, fun z x hx => (by cases hx)⟩
      · have : i1 ≠ i := fun h => by rw [h, hm'] at z3; split at z3 <;> omega
        rw [hget i1 hi1 t ht (.inr z3)]
        exact hXo (h4 z this (by rw [hm'] at z3; split at z3 <;> omega))
      · rw [hat]
        by_cases h7 : i1 = i
        · subst h7
          rw [if_pos rfl]
          have h8 : u = hdv (b j2) := h6 z _ rfl
          rw [h8, hss]; rfl
        · rw [if_neg h7]
          exact h5 z h7 (hmm i1 z3 h7)
    · by_cases h2 : i1 = i
      · subst h2
        refine ⟨b j2, by rw [hat, if_pos rfl], fun z => z.elim, fun _ => ⟨ys, by rw [hn2]; exact hys, fun q1 hq1 t ht => ?_⟩, fun g hg hv => ?_, fun i' s' hs' hne g hg hg' => ?_⟩
        · rw [hn2] at hq1
          obtain ⟨u, hu, h10, h11⟩ := hyc q1 hq1 t ht
          exact ⟨u, hu, h10, by rw [hg2 q1 hq1 t ht]; exact hXo h11⟩
        · exact hap g hg (Bk_tuple.2 (.inl hv))
        · rw [hat, if_neg hne] at hs'
          exact hap g hg (Bk_tuple.2 (.inr ⟨i', s', hs', hg'⟩))
      · obtain ⟨s1, h3, h4, h5, h6, h7⟩ := hsub i1 (hmm i1 hi1 h2)
        obtain ⟨e1, e2⟩ := hsame i1 (hmm i1 hi1 h2) h2
        refine ⟨s1, by rw [hat, if_neg h2]; exact h3, fun z => z.elim, fun _ => ?_, h6, fun i' s' hs' hne g hg hg' => ?_⟩
        · obtain ⟨zs, h8, h9⟩ := h5 h2
          refine ⟨zs, by rw [e1]; exact h8, fun q1 hq1 t ht => ?_⟩
          rw [e1] at hq1
          obtain ⟨u, hu, h10, h11⟩ := h9 q1 hq1 t ht
          exact ⟨u, hu, h10, by rw [e2 q1 hq1 t ht]; exact hXo h11⟩
        · rw [hat] at hs'
          split at hs'
          · injection hs' with hs'
            subst hs'
            exact hap g hg' (Bk_tuple.2 (.inr ⟨i1, s1, h3, hg⟩))
          · exact h7 i' s' hs' hne g hg hg'
  · obtain ⟨rfl, rfl⟩ := hlk hq
    rw [hb1, Bk_tuple] at hg
    rcases hg with hg | ⟨i1, u, hi1, hu⟩
    · exact ⟨q, _, ho, .inr (by rw [lookO_cons, if_pos rfl]; rfl), by rw [h1, Bk_tuple]; exact .inl hg⟩
    · rw [hat] at hi1
      split at hi1
      · injection hi1 with hi1
        subst hi1
        exact ⟨j2, _, ho2, .inl (List.mem_singleton.2 rfl), (Bk_slice hss).2 hu⟩
      · exact ⟨q, _, ho, .inr (by rw [lookO_cons, if_pos rfl]; rfl), by rw [h1, Bk_tuple]; exact .inr ⟨i1, u, hi1, hu⟩⟩
  · obtain ⟨rfl, _⟩ := hlk hq
    obtain ⟨rfl, _⟩ := hlk hz
    exact hne rfl
def uro (get : Nat → Nat → SV) (c ck m : Nat) (kn : Nat → Nat) (kget : Nat → Nat → Nat → SV) (hole : Option (Nat × SV)) (i t : Nat) : SV :=
  if t = c then match hole with
    | some (h, x) => if i = h then x else if i < m then .row (kn i) ck (kget i) else get i t
    | none => if i < m then .row (kn i) ck (kget i) else get i t
  else get i t
theorem turn_uA (j : Nat) (get' : Nat → Nat → SV) (ho : lookO j S.owns = some (.urow n k get e c ce ck m kn kget hole)) (hj : Nat.blt j 1000 = true) (hh : ∀ i x, hole = some (i, x) → x.isRO = true)
    (hg : ∀ i, i < n → ∀ t, t < k → uro get c ck m kn kget hole i t = get' i t) :
    Turn E S ⟨S.slots, (j, .arow n k get' e) :: dropKs [] S.owns⟩ := fun b a w hr => by
  obtain ⟨v, subs, xs, h1, hown, hsl, hmn, hc, hsub⟩ := hr.owns j _ ho
  have hj' : j < 1000 := Nat.le_of_ble_eq_true hj
  obtain ⟨A, cp, hs, _⟩ := hown.slice
  let b' := setB b j v
  have hb1 : b' j = v := setB_same _ _ _
  have hb3 : ∀ q, q ≠ j → b' q = b q := fun q h2 => setB_other _ _ _ h2
  have hlk : ∀ {q o}, lookO q [(j, Own.arow n k get' e)] = some o → (q = j ∧ o = .arow n k get' e) := fun {q o} h => by
    rw [lookO_cons] at h
    split at h
    · injection h with h; exact ⟨‹_›, h.symm⟩
    · cases h
  refine ⟨b', hr.rename2 [] [(j, .arow n k get' e)] (fun _ => true) (fun q hq => ?_) (fun _ _ _ => okId_all _) (fun q o hq => .inl ?_) (fun q o hq _ hn => ?_) (fun q hq => hb3 q (by omega)) (fun hX q o hq => ?_) (fun q o hq g hg => ?_) (fun q z oq oz hq hz hne g hg hg2 => ?_)⟩
  · by_cases h3 : q = j
    · subst h3
      rw [hb1, h1]
      exact ⟨by rw [hs]; rfl, fun z hz => by cases hz⟩
    · rw [hb3 q h3]; exact ⟨rfl, fun _ _ => rfl⟩
  · cases o with
    | box m get ty => exact allB_of fun t _ => okId_all _
    | urow n k get e c ce ck m kn kget hole => cases hole <;> first | rfl | exact okId_all _
    | _ => rfl
  · refine hb3 q (fun h => ?_)
    subst h; rw [lookO_cons, if_pos rfl] at hn; cases hn
  · obtain ⟨rfl, rfl⟩ := hlk hq
    have hXo : ∀ {x u}, RO w (S.excl E b) x u → RO w (St.excl ⟨S.slots, [(q, Own.arow n k get' e)] ++ dropKs [] S.owns⟩ E b') x u := fun h => h.mono ⟨Nat.le_refl _, fun _ _ _ => rfl⟩ (fun g _ => hX g)
    have hfree : ∀ i s, subs[i]? = some s → i < m → ∀ g, blk1 s = some g → ¬ St.excl ⟨S.slots, [(q, Own.arow n k get' e)] ++ dropKs [] S.owns⟩ E b' g := fun i s hs1 hi g hg => by
      have hbg : Bk (b q) g := by rw [h1, Bk_tuple]; exact .inr ⟨i, s, hs1, hg⟩
      rintro (hh | ⟨z, o, hz1, hz2⟩)
      · exact hr.notX ho hbg hh
      · rcases lookO_app hz1 with h5 | ⟨h4, h5⟩
        · obtain ⟨rfl, rfl⟩ := hlk h5
          rw [hb1, Bk_slice hs] at hz2
          obtain ⟨s2, h6, _, _, h7, _⟩ := hsub i hi
          rw [hs1] at h6
          injection h6 with h6
          subst h6
          exact h7 g hg hz2
        · obtain ⟨_, h6⟩ := lookO_dropKs h5
          have hne : z ≠ q := fun e1 => by subst e1; rw [lookO_cons, if_pos rfl] at h4; cases h4
          rw [hb3 z hne] at hz2
          exact hr.apart z q _ _ h6 ho hne g hz2 hbg
    refine ⟨xs, by rw [hb1]; exact hown, fun i hi t ht => ?_⟩
    obtain ⟨u, hu, h2, h3, h4, h5, h6⟩ := hc i hi t ht
    refine ⟨u, hu, h2, ?_⟩
    rw [← hg i hi t ht]
    have hsubrow : t = c → ¬ isHole i hole → i < m → RO w (St.excl ⟨S.slots, [(q, Own.arow n k get' e)] ++ dropKs [] S.owns⟩ E b') (.row (kn i) ck (kget i)) u := fun z z2 z3 => by
      have h7 := h5 z z2 z3
      obtain ⟨s, h8, _, h9, _⟩ := hsub i z3
      rw [h7] at h8
      injection h8 with h8
      subst h8
      obtain ⟨ys, h10, h11⟩ := h9 z2
      exact h10.row (fun g hg => hfree i u h7 z3 g hg) (fun q1 hq1 t1 ht1 => by
        obtain ⟨u1, hu1, h12, h13⟩ := h11 q1 hq1 t1 ht1
        exact ⟨u1, hu1, h12, hXo h13⟩)
    unfold uro
    split
    · rename_i z
      split
      · split
        · rename_i e1; subst e1
          have h7 := h6 z _ rfl
          exact hXo (h7.toRO (hh _ _ rfl))
        · rename_i e1
          split
          · exact hsubrow z e1 ‹_›
          · exact hXo (h4 z e1 (by omega))
      · split
        · exact hsubrow z (fun z => z) ‹_›
        · exact hXo (h4 z (fun z => z) (by omega))
    · exact hXo (h3 ‹_›)
  · obtain ⟨rfl, rfl⟩ := hlk hq
    rw [hb1, Bk_slice hs] at hg
    exact ⟨q, _, ho, .inr (by rw [lookO_cons, if_pos rfl]; rfl), by rw [h1, Bk_tuple]; exact .inl hg⟩
  · obtain ⟨rfl, _⟩ := hlk hq
    obtain ⟨rfl, _⟩ := hlk hz
    exact hne rfl
end urow
end Go.Eng
namespace Go.Eng
open Go.RowKit
variable {P : Program} {NN : Nat} {E : Env NN}
def urowOf {α β : Type} (cell : α → Nat → SV) (k : Nat) (d : α) (l : List α) (e : TypeId) (c : Nat) (sub : α → List β) (scell : β → Nat → SV) (ck : Nat) (sd : β) (ce : TypeId) (m : Nat) (hole : Option (Nat × SV)) : Own :=
  .urow l.length k (rowG cell d l) e c ce ck m (fun i => (sub (l.getD i d)).length) (fun i => rowG scell sd (sub (l.getD i d))) hole
section typed
variable {α β : Type} {cell : α → Nat → SV} {k : Nat} {d : α} {l : List α} {e : TypeId} {c : Nat} {sub : α → List β} {scell : β → Nat → SV} {ck : Nat} {sd : β} {ce : TypeId} {m : Nat} {hole : Option (Nat × SV)} {S : St} {j : Nat}
theorem getD_put (l : List α) (i q : Nat) (y : α) (h : i < l.length) : (l.set i y).getD q d = if q = i then y else l.getD q d := by
  simp only [List.getD_eq_getElem?_getD, List.getElem?_set]
  by_cases e : i = q
  · subst e; simp [h]
  · rw [if_neg e, if_neg (fun z => e z.symm)]
theorem uat_off {get : Nat → Nat → SV} {i t : Nat} (h : t ≠ c) : uat get c m hole i t = get i t := if_neg h
theorem uat_hole {get : Nat → Nat → SV} {i : Nat} {x : SV} : uat get c m (some (i, x)) i c = x := by
  rw [uat, if_pos rfl]; exact if_pos rfl
theorem uat_late {get : Nat → Nat → SV} {i : Nat} (h : m ≤ i) : uat get c m none i c = get i c := by
  rw [uat, if_pos rfl]; exact if_neg (by omega)
theorem turn_u0T (j c : Nat) (sub : α → List β) (scell : β → Nat → SV) (ck : Nat) (sd : β) (ce : TypeId) (ho : lookO j S.owns = some (ownOf cell k d l e)) (hj : Nat.blt j 1000 = true) :
    Turn E S ⟨S.slots, (j, urowOf cell k d l e c sub scell ck sd ce 0 none) :: dropKs [] S.owns⟩ := turn_u0 j c ce ck _ _ ho hj
theorem t_stUT {ops : Array Oper} {rest : List Oper} {K : St → Prop} {t : TypeId} {p x : Operand} {ty : TypeId} {pos : String} {after : Array Edge} {i off : Nat} {s : SV} (y : α)
    (hp : Val E S p (.oe j k i off)) (ho : lookO j S.owns = some (urowOf cell k d l e c sub scell ck sd ce m hole)) (hx : Val E S x s) (h1 : s.one = true) (hro : s.isRO = true) (hs : ∀ w, (sizeOf t).run P w = .ok 1 w) (hoff : off < k) (hc : off ≠ c)
    (hil : i < l.length) (hset : cell y off = s) (hsame : ∀ t, t < k → t ≠ off → cell y t = cell (l.getD i d) t) (hsub : sub y = sub (l.getD i d))
    (hk : T P E ops rest ⟨S.slots, (j, urowOf cell k d (l.set i y) e c sub scell ck sd ce m hole) :: S.owns⟩ K) :
    T P E ops ({ dst := none, op := .store t p x, type := ty, pos, after, guard := none } :: rest) S K := by
  refine t_stU (rowG cell d (l.set i y)) hp ho hx h1 hro hs hoff hc ?_ (fun q hq t ht hne => ?_) ?_
  · show cell ((l.set i y).getD i d) off = s
    rw [getD_put _ _ _ _ hil, if_pos rfl]; exact hset
  · show cell ((l.set i y).getD q d) t = cell (l.getD q d) t
    rw [getD_put _ _ _ _ hil]
    split
    · rename_i e1; subst e1
      exact hsame t ht (hne.resolve_left fun z => z rfl)
    · rfl
  · have h2 : ∀ q, sub ((l.set i y).getD q d) = sub (l.getD q d) := fun q => by
      rw [getD_put _ _ _ _ hil]
      split
      · rename_i e1; subst e1; exact hsub
      · rfl
    simp only [urowOf, h2, List.length_set] at hk
    exact hk
theorem turn_joinT (j i j2 m' : Nat) (y : α) {o : Own} {x : List β} (ho : lookO j S.owns = some (urowOf cell k d l e c sub scell ck sd ce m (some (i, .own j2)))) (ho2 : lookO j2 S.owns = some o) (he : o = ownOf scell ck sd x ce)
    (hi : i < l.length) (him : i ≤ m) (hm' : m' = if i < m then m else m + 1) (hj : Nat.blt j 1000 = true) (hj2 : Nat.beq j2 j = false)
    (hsame : ∀ t, t < k → t ≠ c → cell y t = cell (l.getD i d) t) (hsub : sub y = x) :
    Turn E S ⟨S.slots, (j, urowOf cell k d (l.set i y) e c sub scell ck sd ce m' none) :: dropKs [j2] S.owns⟩ := by
  have h2 : ∀ q, (l.set i y).getD q d = if q = i then y else l.getD q d := fun q => getD_put _ _ _ _ hi
  have := turn_join (E := E) (rowG cell d (l.set i y)) j i j2 m' x.length (fun q => (sub ((l.set i y).getD q d)).length) (fun q => rowG scell sd (sub ((l.set i y).getD q d))) ho ho2 he hi him hm' hj hj2
    (by show (sub ((l.set i y).getD i d)).length = _; rw [h2, if_pos rfl, hsub]) (fun q hq t ht => by show rowG scell sd (sub ((l.set i y).getD i d)) q t = _; rw [h2, if_pos rfl, hsub])
    (fun q hq hne => by
      constructor
      · show (sub ((l.set i y).getD q d)).length = _; rw [h2, if_neg hne]
      · intro p hp t ht
        show rowG scell sd (sub ((l.set i y).getD q d)) p t = _; rw [h2, if_neg hne])
    (fun q hq t ht hne => by
      show cell ((l.set i y).getD q d) t = cell (l.getD q d) t
      rw [h2]
      split
      · rename_i e1; subst e1
        refine hsame t ht (hne.resolve_right fun z => ?_)
        rw [hm'] at z; split at z <;> omega
      · rfl)
  simp only [urowOf, List.length_set]
  exact this
theorem turn_splitT (j i j2 : Nat) (ho : lookO j S.owns = some (urowOf cell k d l e c sub scell ck sd ce m none)) (hi : i < m) (hj : Nat.blt j 1000 = true) (hf : S.fresh j2 = true) :
    Turn E S ⟨S.slots, (j, urowOf cell k d l e c sub scell ck sd ce m (some (i, .own j2))) :: (j2, ownOf scell ck sd (sub (l.getD i d)) ce) :: dropKs [] S.owns⟩ := turn_split j i j2 ho hi hj hf
theorem turn_uAT (j : Nat) (ho : lookO j S.owns = some (urowOf cell k d l e c sub scell ck sd ce m none)) (hj : Nat.blt j 1000 = true) (hcell : ∀ x, cell x c = rowOf scell ck sd (sub x)) :
    Turn E S ⟨S.slots, (j, ownOf cell k d l e) :: dropKs [] S.owns⟩ :=
  turn_uA j (rowG cell d l) ho hj (fun _ _ h => (by cases h)) fun i hi t ht => by
    unfold uro
    split
    · rename_i h; subst h
      show (if i < m then _ else _) = _
      split
      · exact (hcell _).symm
      · rfl
    · rfl
theorem weak_uE {l' : List α} {m' : Nat} (ho : lookO j S.owns = some (urowOf cell k d l e c sub scell ck sd ce m hole)) (h : l = l') (hm : m = m') : Weak E S ⟨S.slots, (j, urowOf cell k d l' e c sub scell ck sd ce m' hole) :: S.owns⟩ := by
  subst h; subst hm
  exact weak_ownG ho fun _ _ _ h => h
theorem k_uE {G : Act → World → Prop} (j : Nat) (l' : List α) (m' : Nat) (ho : lookO j S.owns = some (urowOf cell k d l e c sub scell ck sd ce m hole)) (h : l = l') (hm : m = m') (hk : ∀ a w, Rep E ⟨S.slots, (j, urowOf cell k d l' e c sub scell ck sd ce m' hole) :: S.owns⟩ a w → G a w) : ∀ a w, Rep E S a w → G a w := k_weak (weak_uE ho h hm) hk
theorem c_uE {code : Code} {Q : Exit → Act → World → Prop} (j : Nat) (l' : List α) (m' : Nat) (ho : lookO j S.owns = some (urowOf cell k d l e c sub scell ck sd ce m hole)) (h : l = l') (hm : m = m') (hk : C P E code ⟨S.slots, (j, urowOf cell k d l' e c sub scell ck sd ce m' hole) :: S.owns⟩ Q) : C P E code S Q := (weak_uE ho h hm).c hk
end typed
end Go.Eng
namespace Go.Eng
open Go.RowKit
variable {P : Program} {NN : Nat} {E : Env NN}
theorem storeCells_at (g B : Nat) : ∀ (vs : List Value) (i : Nat), storeCells ⟨g, B, none⟩ vs i = storeCells ⟨g, 0, none⟩ vs (B + i)
  | [], i => rfl
  | v :: vs, i => by
    simp only [storeCells, Addr.add_lit, Nat.zero_add, storeCells_at g B vs (i + 1)]
    rfl
theorem t_stOA {ops : Array Oper} {rest : List Oper} {S : St} {K : St → Prop} {t : TypeId} {p x : Operand} {ty : TypeId} {pos : String} {after : Array Edge} {j n n' k i off m : Nat} {get : Nat → Nat → SV} {e : TypeId} {gt : Nat → SV} (get' : Nat → Nat → SV)
    (hp : Val E S p (.oe j k i off)) (ho : lookO j S.owns = some (.arow n k get e)) (hx : Val E S x (.agg m gt)) (hro : AllN (fun t => (gt t).isRO = true) m) (hs : ∀ w, (sizeOf t).run P w = .ok m w) (hoff : off + m ≤ k) (hn : n = n')
    (hset : ∀ t, t < m → get' i (off + t) = gt t) (hsame : ∀ i', i' < n → ∀ t, t < k → (i' ≠ i ∨ t < off ∨ off + m ≤ t) → get' i' t = get i' t)
    (hk : T P E ops rest ⟨S.slots, (j, .arow n' k get' e) :: S.owns⟩ K) :
    T P E ops ({ dst := none, op := .store t p x, type := ty, pos, after, guard := none } :: rest) S K := by
  subst hn
  rintro a w ⟨b, hr⟩ Q hq
  obtain ⟨g, n', cap, hb, hi, hpv⟩ := hp b a w hr
  obtain ⟨A, c, hsl⟩ := own_slice hr ho
  rw [hsl] at hb
  simp only [hdv, Value.slice.injEq] at hb
  obtain ⟨rfl, rfl, rfl⟩ := hb
  obtain ⟨g', c', cur, hb', hbase, hh, hcap, hmax, hsz, hc⟩ := own_cells hr ho (by omega)
  have hb2 := hb'
  rw [hsl] at hb'
  simp only [Value.slice.injEq, Option.some.injEq, Addr.mk.injEq, and_true] at hb'
  obtain ⟨rfl, _, _⟩ := hb'
  obtain ⟨vs, hv, hvm, hvc⟩ := hx b a w hr
  have h1 : ∀ v ∈ vs.toList, v.oneCell' = true := by
    intro v hv
    obtain ⟨i, hi, rfl⟩ := List.getElem_of_mem hv
    obtain ⟨u, hu, h1, _⟩ := hvc i (by simpa [hvm] using hi)
    rw [Array.getElem?_eq_getElem (by simpa using hi)] at hu
    simp only [Option.some.injEq] at hu
    simpa [hu] using h1
  have hik : (i + 1) * k ≤ n * k := Nat.mul_le_mul_right _ hi
  have hik1 : (i + 1) * k = i * k + k := by rw [Nat.add_mul, Nat.one_mul]
  have hnk : n * k ≤ cur.size := by rw [hsz]; exact Nat.mul_le_mul_right _ hcap
  obtain ⟨w', cs', hrun, h2, h3, h4, h5, h6⟩ := setRow_all (P := P) hh vs.toList (i * k + off) (by simp only [Array.length_toList, hvm]; omega) h1
  unfold wpList
  rw [if_pos (by rfl)]
  refine .inl (wp_of_skip (w' := w') ?_ ?_)
  · have e1 := storeCells_at g (i * k + off) vs.toList 0
    rw [Nat.add_zero] at e1
    simp [execOp, Instr.storeAt, hpv, Instr.sureAddr, storeVar, hs, hv, Value.cells, hvm, e1, hrun]
  · refine hk _ _ ⟨b, ?_⟩ Q hq
    refine hr.setown ho (by rw [hb2]; exact rfl) h5 h6 (fun X hm hmo => ?_)
    refine ⟨cs'.toList.take (n * k), .inr ⟨⟨?_, .inr ⟨g, c' + 1, _, hb2, hbase, h2, hcap, hmax, by rw [h3]; exact hsz, rfl⟩⟩, g, n, c', hb2⟩, fun i' hi' t ht => ?_⟩
    · simp; omega
    · have hlt : i' * k + t < n * k := by
        have : (i' + 1) * k ≤ n * k := Nat.mul_le_mul_right _ hi'
        have e1 : (i' + 1) * k = i' * k + k := by rw [Nat.add_mul, Nat.one_mul]
        omega
      rw [List.getElem?_take, if_pos hlt, Array.getElem?_toList, h4]
      have hdiv : ∀ q r, r < k → (q * k + r) / k = q := fun q r hr => by rw [Nat.mul_comm, Nat.mul_add_div (by omega), Nat.div_eq_of_lt hr, Nat.add_zero]
      simp only [Array.length_toList, hvm]
      by_cases e1 : i * k + off ≤ i' * k + t ∧ i' * k + t < i * k + off + m
      · have hii : i' = i := by
          rw [← hdiv i' t ht, ← hdiv i (i' * k + t - i * k) (by omega)]
          congr 1; omega
        subst hii
        rw [if_pos e1]
        obtain ⟨u, hu, h7, h8⟩ := hvc (t - off) (by omega)
        have h9 := hset (t - off) (by omega)
        rw [show off + (t - off) = t from by omega] at h9
        refine ⟨u, ?_, h7, ?_⟩
        · rw [show i' * k + t - (i' * k + off) = t - off from by omega, Array.getElem?_toList]; exact hu
        · rw [h9]; exact hmo (h8.toRO (hro.at _ (by omega)))
      · rw [if_neg e1, hsame i' hi' t ht (by
          by_cases e2 : i' = i
          · subst e2; exact .inr (by omega)
          · exact .inl e2)]
        obtain ⟨u, hu, h7, h8⟩ := hc i' hi' t ht
        exact ⟨u, hu, h7, hmo h8⟩
theorem t_stOAT {α : Type} {cell : α → Nat → SV} {d : α} {l : List α} {ops : Array Oper} {rest : List Oper} {S : St} {K : St → Prop} {t : TypeId} {p x : Operand} {ty : TypeId} {pos : String} {after : Array Edge} {j k i : Nat} {e : TypeId} {gt : Nat → SV} (y : α)
    (hp : Val E S p (.oe j k i 0)) (ho : lookO j S.owns = some (ownOf cell k d l e)) (hx : Val E S x (.agg k gt)) (hro : AllN (fun t => (gt t).isRO = true) k) (hs : ∀ w, (sizeOf t).run P w = .ok k w) (hi : i < l.length)
    (hset : AllN (fun t => cell y t = gt t) k)
    (hk : T P E ops rest ⟨S.slots, (j, ownOf cell k d (l.set i y) e) :: S.owns⟩ K) :
    T P E ops ({ dst := none, op := .store t p x, type := ty, pos, after, guard := none } :: rest) S K := by
  have h2 : ∀ q, (l.set i y).getD q d = if q = i then y else l.getD q d := fun q => getD_put _ _ _ _ hi
  refine t_stOA (rowG cell d (l.set i y)) hp ho hx hro hs (by omega) List.length_set.symm (fun t ht => ?_) (fun q hq t ht hne => ?_) hk
  · show cell ((l.set i y).getD i d) (0 + t) = gt t
    rw [h2, if_pos rfl, Nat.zero_add]; exact hset.at t ht
  · show cell ((l.set i y).getD q d) t = cell (l.getD q d) t
    rw [h2, if_neg]
    rcases hne with h | h | h
    · exact h
    · omega
    · omega
theorem q_nilO {S : St} {x : Operand} {j k i off : Nat} (hx : Val E S x (.oe j k i off)) : OpQ P E S (.nilCheck x) (.oe j k i off) := fun b a w hr dst ty pos after gd => by
  obtain ⟨g, n, cap, hb, hi, hv⟩ := hx b a w hr
  refine ⟨.pointer (some ⟨g, i * k + off, none⟩), fun w' hw' => ?_, g, n, cap, hb, hi, rfl⟩
  simp [execOp, hv]
end Go.Eng
namespace Go.Eng
open Go.RowKit
variable {P : Program} {NN : Nat} {E : Env NN}
end Go.Eng
namespace Go.Eng
theorem cj_t (x : SV) : cj true x = x := rfl
theorem cj_f (x : SV) : cj false x = .junk := rfl
theorem cjn_t (x : SV) : cjn true x = .junk := rfl
theorem cjn_f (x : SV) : cjn false x = x := rfl
theorem cb_t (x y : List (Nat × Own)) : cb true x y = x := rfl
theorem cb_f (x y : List (Nat × Own)) : cb false x y = y := rfl
def cv (b : Bool) (x y : SV) : SV := match b with | true => x | false => y
theorem cv_t (x y : SV) : cv true x y = x := rfl
theorem cv_f (x y : SV) : cv false x y = y := rfl
end Go.Eng
namespace Go.Eng
variable {P : Program} {NN : Nat} {E : Env NN}
theorem BL : (∀ a b : Bool, ((a && b) = true) = (a = true ∧ b = true)) ∧ (∀ a b : Bool, ((a || b) = true) = (a = true ∨ b = true)) ∧ (∀ b : Bool, ((!b) = true) = (b = false)) ∧ (∀ b : Bool, ((!b) = false) = (b = true)) ∧
    (∀ a b : Bool, ((a || b) = false) = (a = false ∧ b = false)) ∧ (∀ a b : Bool, ((a && b) = false) = (a = false ∨ b = false)) ∧ (∀ (p : Prop) [Decidable p], (decide p = true) = p) ∧ (∀ (p : Prop) [Decidable p], (decide p = false) = ¬ p) :=
  ⟨fun _ _ => by simp, fun _ _ => by simp, fun _ => by simp, fun _ => by simp, fun a b => by cases a <;> cases b <;> simp, fun a b => by cases a <;> cases b <;> simp, fun _ => by simp, fun _ => by simp⟩
def tab {α : Type} (g : Nat → α) : Nat → List α
  | 0 => []
  | n + 1 => g n :: tab g n
theorem An {α : Type} {g g' : Nat → α} : ∀ {m : Nat}, tab g m = tab g' m → AllN (fun t => g t = g' t) m
  | 0, _ => trivial
  | _ + 1, h => ⟨An (List.cons.inj h).2, (List.cons.inj h).1⟩
theorem Vs {S : St} : ∀ {sl : List (Nat × SV)}, sl.map (fun p => look p.1 S.slots) = sl.map (fun p => some p.2) → AllV E S sl
  | [], _ => trivial
  | _ :: _, h => ⟨val_tmp (List.cons.inj h).1, Vs (List.cons.inj h).2⟩
theorem AOs {S : St} : ∀ {ow : List (Nat × Own)}, ow.map (fun p => lookO p.1 S.owns) = ow.map (fun p => some p.2) → AllOE S ow
  | [], _ => trivial
  | _ :: _, h => ⟨⟨_, (List.cons.inj h).1, Own.eqv_rfl _⟩, AOs (List.cons.inj h).2⟩
theorem row_lenA {S : St} {x : Operand} {m n k : Nat} {g : Nat → SV} {get : Nat → Nat → SV} (i : Nat) (hx : Val E S x (.agg m g)) (hi : Nat.blt i m = true) (e : g i = .row n k get) {c : Code} {Q : Exit → Act → World → Prop} (h : n ≤ 9223372036854775807 → C P E c S Q) : C P E c S Q := by
  rintro a w ⟨b, hr⟩
  obtain ⟨cs, _, _, hc⟩ := hx b a w hr
  obtain ⟨u, _, _, hu⟩ := hc i (Nat.le_of_ble_eq_true hi)
  rw [e] at hu
  obtain ⟨A, c, _, h1, h2, _⟩ := hu
  exact h (by simp only [maxLen] at h2; omega) a w ⟨b, hr⟩
theorem c_nextH {S : St} {G : Act → World → Prop} {ι : Type} {T : ι → St} {I : ι → Prop} {μ : ι → Nat} {i : ι} (i' : ι) (hG : ∀ a w, (∃ i', (I i' ∧ μ i' < μ i) ∧ Rep E (T i') a w) → G a w) (hI : I i') (hμ : μ i' < μ i) (hw : Weak E S (T i')) : ∀ a w, Rep E S a w → G a w :=
  fun a w ⟨b, hr⟩ => hG a w ⟨i', ⟨hI, hμ⟩, b, hw b a w hr⟩
end Go.Eng
namespace Go.Eng
open Go.RowKit
variable {P : Program} {NN : Nat} {E : Env NN}
theorem wpAny_inv {l : List Oper} {I : (Nat → Bool) → Act → World → Prop} {Q : Exit → Act → World → Prop} (hb : backB 0 l = true)
    (hs : ∀ i o, l[i]? = some o → ∀ e, Down l e → e i = false → DepsL e (depsOf o) → ∀ a w, I e a w → ∀ Q2 : Exit → Act → World → Prop, (∀ a' w', I (setE e i) a' w' → Q2 .normal a' w') → wpList P l.toArray Q2 [o] a w)
    (hf : ∀ e, (∀ i, i < l.length → e i = true) → ∀ a w, I e a w → Q .normal a w) :
    ∀ (fuel : Nat) (listed : Array Bool) (a : Act) (w : World), listed.size = l.length → leftN listed ≤ fuel → Down l (flags listed) → I (flags listed) a w → wpAny P .any l.toArray Q fuel listed a w := by
  have hempty : ∀ (listed : Array Bool), listed.size = l.length → Region.ready .any l.toArray listed = [] → ∀ i, i < l.length → flags listed i = true := by
    intro listed hsz hr i
    induction i using Nat.strongRecOn with
    | ind i ih =>
      intro hi
      cases hfl : flags listed i with
      | true => rfl
      | false =>
        have hm := mem_ready (md := .any) hsz (List.getElem?_eq_getElem hi) hfl (fun ed hed hbd => by
          have hlt := backB.at hb i _ (List.getElem?_eq_getElem hi) ed.on (List.mem_map.2 ⟨ed, List.mem_filter.2 ⟨hed, hbd⟩, rfl⟩)
          exact ih ed.on (by omega) (by omega))
        rw [hr] at hm; cases hm
  intro fuel
  induction fuel with
  | zero =>
    intro listed a w hsz hle hd hr
    have hall := leftN_zero (Nat.le_zero.1 hle)
    refine ⟨?_, hf _ (fun i hi => hall i (by omega)) a w hr⟩
    refine List.eq_nil_iff_forall_not_mem.2 fun i hi => ?_
    obtain ⟨o, ho, h1, _⟩ := ready_mem hsz hi
    have := hall i (by have := (List.getElem?_eq_some_iff.1 ho).1; omega)
    rw [h1] at this; cases this
  | succ fuel ih =>
    intro listed a w hsz hle hd hr
    refine ⟨fun h0 => hf _ (hempty listed hsz h0) a w hr, fun i hi => ?_⟩
    obtain ⟨o, ho, h1, h2⟩ := ready_mem hsz hi
    have hil : i < listed.size := by have := (List.getElem?_eq_some_iff.1 ho).1; omega
    let K : Act → World → Prop := wpAny P .any l.toArray Q fuel (listed.setIfInBounds i true)
    let Q2 : Exit → Act → World → Prop := fun x a w => match x with | .normal => K a w | _ => False
    have hstep := hs i o ho (flags listed) hd h1 (deps_iff.2 h2) a w hr Q2 (fun a' w' hr' => by
      show K a' w'
      refine ih _ a' w' (by simpa using hsz) (by have := leftN_set hil h1; omega) ?_ ?_
      · intro k hk
        rw [flags_set hil] at hk ⊢
        by_cases e : k = i
        · subst e
          rw [ho]
          refine deps_iff.2 fun ed hed hbd => ?_
          have := h2 ed hed hbd
          simp only [setE]
          split
          · rfl
          · exact this
        · have hk' : flags listed k = true := by
            simp only [setE] at hk
            split at hk
            · rename_i hb'; exact absurd (Nat.eq_of_beq_eq_true hb') e
            · exact hk
          refine DepsL.of fun x hx => ?_
          have := (hd k hk').at x hx
          simp only [setE]
          split
          · rfl
          · exact this
      · rw [flags_set hil]; exact hr')
    unfold wpOp
    have ho' : l.toArray[i]? = some o := by simp [ho]
    rw [ho']
    unfold wpList at hstep
    by_cases hw : Region.wanted o (yielded l.toArray a.tmps) = true
    · rw [if_pos hw] at hstep
      simp only []
      rw [if_pos hw]
      have hbad : ∀ x (a : Act) (w : World), x ≠ Exit.normal → Q2 x a w → Q x a w := by
        intro x a w hx hq
        cases x <;> first | exact absurd rfl hx | exact hq.elim
      rcases hstep with h | ⟨h, a', w', h'⟩
      · have e : wpList P l.toArray Q2 [] = K := by funext a w; simp only [wpList]; rfl
        rw [e] at h
        exact .inl (upon_mono hbad h)
      · exact h'.elim
    · rw [if_neg hw] at hstep
      simp only []
      rw [if_neg hw]
      unfold wpList at hstep
      exact hstep
def OpG (P : Program) {NN : Nat} (E : Env NN) (S : St) (ops : Array Oper) (o : Oper) (x : SV) : Prop :=
  ∀ b a w, RepB E b S a w → ∀ Q : Exit → Act → World → Prop, (∀ v w', Below w.heap.size w w' → R w' (S.excl E b) b x v → Q .normal (a.put o.dst v) w') → wpList P ops Q [o] a w
section
variable {ops : Array Oper} {S : St} {d : Option Tmp} {ty : TypeId} {pos : String} {after : Array Edge} {gd : Nat × Bool} {c : Bool} {x : SV}
theorem og_w {op : Op} (h : OpW P E S op x) : OpG P E S ops { dst := d, op, type := ty, pos, after, guard := none } x := fun b a w hr Q hq => by
  obtain ⟨v, w', h1, h2, h3⟩ := h b a w hr d ty pos after none
  unfold wpList
  rw [if_pos (by rfl)]
  exact .inl (wp_of_run h1 (hq v w' h2 h3))
theorem og_q {op : Op} (h : OpQ P E S op x) : OpG P E S ops { dst := d, op, type := ty, pos, after, guard := none } x := og_w h.toW
theorem og_call {f : FuncId} {xs : List Operand} {ats : Array TypeId} {args : List SV} (hf : Enters P f) (ha : Vals E S xs args) (h : Ct P f args x) :
    OpG P E S ops { dst := d, op := .call { callee := .value (.func f), args := xs.toArray, argTypes := ats }, type := ty, pos, after, guard := none } x := fun b a w hr Q hq => by
  unfold wpList
  rw [if_pos (by rfl)]
  refine .inl (wp_of_enter (R := fun v w'' => Below w.heap.size w w'' ∧ R w'' (S.excl E b) b x v) (run_call hf ..) ?_ fun v w'' hv => hq v w'' hv.1 hv.2)
  refine (h w (S.excl E b) _ (fun g hg => hr.excl_lt hg) (ha.ros hr)).mono ?_
  rintro e w'' ⟨v, rfl, hv, hb⟩
  exact ⟨v, rfl, hb, hv.toR⟩
end
def mmB (k : Nat) : List Nat → Bool
  | [] => false
  | x :: r => match Nat.beq k x with | true => true | false => mmB k r
theorem mmB_iff {k : Nat} : ∀ {l : List Nat}, mmB k l = true ↔ k ∈ l
  | [] => by simp [mmB]
  | x :: r => by
    simp only [mmB, List.mem_cons]
    cases hb : Nat.beq k x with
    | true => simp [Nat.eq_of_beq_eq_true hb]
    | false =>
      have : k ≠ x := fun e => by subst e; simp at hb
      simp only [this, false_or]
      exact mmB_iff
def pick (deps : List Nat) : List (Nat × Nat × SV) → List (Nat × SV)
  | [] => []
  | p :: r => match mmB p.1 deps with | true => (p.2.1, p.2.2) :: pick deps r | false => pick deps r
def allS : List (Nat × Nat × SV) → List (Nat × SV)
  | [] => []
  | p :: r => (p.2.1, p.2.2) :: allS r
def dstsOf : List Oper → List Nat
  | [] => []
  | o :: r => match o.dst with | some d => d :: dstsOf r | none => dstsOf r
def keepS (ds : List Nat) : List (Nat × SV) → List (Nat × SV)
  | [] => []
  | p :: r => match mmB p.1 ds with | true => keepS ds r | false => p :: keepS ds r
def noDup : List Nat → Bool
  | [] => true
  | x :: r => !mmB x r && noDup r
def Gs (P : Program) {NN : Nat} (E : Env NN) (l : List Oper) (base : List (Nat × SV)) (ow : List (Nat × Own)) : List (Nat × Nat × SV) → Nat → List Oper → (List (Nat × Nat × SV) → Prop) → Prop
  | acc, _, [], K => K acc
  | acc, i, o :: r, K => ∃ d x, o.dst = some d ∧ d < NN ∧ OpG P E ⟨pick (depsOf o) acc ++ base, ow⟩ l.toArray o x ∧ Gs P E l base ow ((i, d, x) :: acc) (i + 1) r K
theorem gs_nil {l : List Oper} {base : List (Nat × SV)} {ow : List (Nat × Own)} {acc : List (Nat × Nat × SV)} {i : Nat} {K : List (Nat × Nat × SV) → Prop} (h : K acc) : Gs P E l base ow acc i [] K := h
theorem gs_op {l : List Oper} {base : List (Nat × SV)} {ow : List (Nat × Own)} {acc : List (Nat × Nat × SV)} {i : Nat} {K : List (Nat × Nat × SV) → Prop} {d : Nat} {x : SV} {op : Op} {ty : TypeId} {pos : String} {after : Array Edge} {gd : Option (Nat × Bool)} {r : List Oper}
    (h : OpG P E ⟨pick (depsOf { dst := some d, op, type := ty, pos, after, guard := gd }) acc ++ base, ow⟩ l.toArray { dst := some d, op, type := ty, pos, after, guard := gd } x) (hk : Gs P E l base ow ((i, d, x) :: acc) (i + 1) r K) (hd : d < NN := by decide) :
    Gs P E l base ow acc i ({ dst := some d, op, type := ty, pos, after, guard := gd } :: r) K := ⟨d, x, rfl, hd, h, hk⟩
theorem look_app {s : Nat} : ∀ {l m : List (Nat × SV)} {x : SV}, look s (l ++ m) = some x → look s l = some x ∨ look s m = some x
  | [], _, _, h => .inr h
  | p :: r, m, x, h => by
    simp only [List.cons_append, look] at h ⊢
    split at h
    · exact .inl h
    · exact look_app h
theorem look_pick {s : Nat} {deps : List Nat} : ∀ {acc : List (Nat × Nat × SV)} {x : SV}, look s (pick deps acc) = some x → ∃ k, k ∈ deps ∧ (k, s, x) ∈ acc
  | [], x, h => by simp [pick, look] at h
  | p :: r, x, h => by
    simp only [pick] at h
    split at h
    · rename_i hm
      simp only [look] at h
      split at h
      · rename_i hb
        injection h with h
        subst h
        have := Nat.eq_of_beq_eq_true hb
        exact ⟨p.1, mmB_iff.1 hm, by rw [this]; exact .head _⟩
      · obtain ⟨k, h1, h2⟩ := look_pick h; exact ⟨k, h1, .tail _ h2⟩
    · obtain ⟨k, h1, h2⟩ := look_pick h; exact ⟨k, h1, .tail _ h2⟩
theorem look_allS {s : Nat} : ∀ {acc : List (Nat × Nat × SV)} {x : SV}, look s (allS acc) = some x → ∃ k, (k, s, x) ∈ acc
  | [], x, h => by simp [allS, look] at h
  | p :: r, x, h => by
    simp only [allS, look] at h
    split at h
    · rename_i hb
      injection h with h
      subst h
      have := Nat.eq_of_beq_eq_true hb
      exact ⟨p.1, by rw [this]; exact .head _⟩
    · obtain ⟨k, h2⟩ := look_allS h; exact ⟨k, .tail _ h2⟩
theorem look_keep {s : Nat} {ds : List Nat} : ∀ {l : List (Nat × SV)} {x : SV}, look s (keepS ds l) = some x → ¬ s ∈ ds ∧ look s l = some x
  | [], x, h => by simp [keepS, look] at h
  | p :: r, x, h => by
    simp only [keepS] at h
    split at h
    · rename_i hm
      obtain ⟨h1, h2⟩ := look_keep h
      refine ⟨h1, ?_⟩
      simp only [look]
      split
      · rename_i hb
        exact absurd (Nat.eq_of_beq_eq_true hb ▸ mmB_iff.1 hm) h1
      · exact h2
    · rename_i hm
      simp only [look] at h ⊢
      split at h
      · rename_i hb
        exact ⟨fun hh => (by rw [Nat.eq_of_beq_eq_true hb] at hh; rw [mmB_iff.2 hh] at hm; cases hm), h⟩
      · rename_i hb
        exact look_keep h
def IxS (l : List Oper) : Nat → List (Nat × Nat × SV) → Prop
  | 0, [] => True
  | k + 1, p :: r => (p.1 = k ∧ ∃ o, l[k]? = some o ∧ o.dst = some p.2.1) ∧ IxS l k r
  | _, _ => False
theorem IxS.mem {l : List Oper} : ∀ {n : Nat} {acc : List (Nat × Nat × SV)}, IxS l n acc → ∀ p ∈ acc, p.1 < n ∧ ∃ o, l[p.1]? = some o ∧ o.dst = some p.2.1
  | 0, [], _, p, h => by cases h
  | k + 1, q :: r, hI, p, h => by
    cases h with
    | head => obtain ⟨⟨h1, h2⟩, _⟩ := hI; exact ⟨by omega, by rw [h1]; exact h2⟩
    | tail _ h => obtain ⟨h1, h2⟩ := hI.2.mem p h; exact ⟨by omega, h2⟩
  | 0, _ :: _, hI, _, _ => hI.elim
  | _ + 1, [], hI, _, _ => hI.elim
theorem IxS.uniq {l : List Oper} : ∀ {n : Nat} {acc : List (Nat × Nat × SV)}, IxS l n acc → ∀ p ∈ acc, ∀ q ∈ acc, p.1 = q.1 → p = q
  | 0, [], _, p, h, _, _, _ => by cases h
  | k + 1, x :: r, hI, p, hp, q, hq, e => by
    have h1 := hI.1.1
    cases hp with
    | head =>
      cases hq with
      | head => rfl
      | tail _ hq => have := (hI.2.mem q hq).1; omega
    | tail _ hp =>
      cases hq with
      | head => have := (hI.2.mem p hp).1; omega
      | tail _ hq => exact hI.2.uniq p hp q hq e
  | 0, _ :: _, hI, _, _, _, _, _ => hI.elim
  | _ + 1, [], hI, _, _, _, _, _ => hI.elim
theorem mem_dsts {d : Nat} : ∀ {l : List Oper} {i : Nat} {o : Oper}, l[i]? = some o → o.dst = some d → d ∈ dstsOf l
  | [], _, _, h, _ => by simp at h
  | y :: r, 0, o, h, h1 => by simp at h; subst h; simp [dstsOf, h1]
  | y :: r, i + 1, o, h, h1 => by
    have := mem_dsts (l := r) (i := i) (by simpa using h) h1
    simp only [dstsOf]
    split
    · exact .tail _ this
    · exact this
theorem noDup_at : ∀ {l : List Oper}, noDup (dstsOf l) = true → ∀ (i j : Nat) (o o' : Oper) (d : Nat), l[i]? = some o → l[j]? = some o' → o.dst = some d → o'.dst = some d → i = j
  | [], _, i, j, o, o', d, h, _, _, _ => by simp at h
  | x :: r, hn, i, j, o, o', d, h1, h2, h3, h4 => by
    have hm : ∀ {k : Nat} {o : Oper}, r[k]? = some o → o.dst = some d → d ∈ dstsOf r := by
      intro k o hk ho
      clear hn h1 h2
      induction r generalizing k with
      | nil => simp at hk
      | cons y r ih =>
        cases k with
        | zero => simp at hk; subst hk; simp [dstsOf, ho]
        | succ k =>
          have := ih (by simpa using hk)
          simp only [dstsOf]
          split
          · exact .tail _ this
          · exact this
    have hn' : noDup (dstsOf r) = true := by
      simp only [dstsOf] at hn
      split at hn
      · simp only [noDup, Bool.and_eq_true] at hn; exact hn.2
      · exact hn
    cases i with
    | zero =>
      simp at h1; subst h1
      cases j with
      | zero => rfl
      | succ j =>
        simp only [dstsOf, h3, noDup, Bool.and_eq_true, Bool.not_eq_true'] at hn
        have := hm (by simpa using h2) h4
        rw [mmB_iff.2 this] at hn
        exact absurd hn.1 (by simp)
    | succ i =>
      cases j with
      | zero =>
        simp at h2; subst h2
        simp only [dstsOf, h4, noDup, Bool.and_eq_true, Bool.not_eq_true'] at hn
        have := hm (by simpa using h1) h3
        rw [mmB_iff.2 this] at hn
        exact absurd hn.1 (by simp)
      | succ j => rw [noDup_at hn' i j o o' d (by simpa using h1) (by simpa using h2) h3 h4]
theorem Gs.all {l : List Oper} {base : List (Nat × SV)} {ow : List (Nat × Own)} {K : List (Nat × Nat × SV) → Prop} : ∀ {r : List Oper} {acc : List (Nat × Nat × SV)} {i : Nat}, Gs P E l base ow acc i r K → IxS l i acc → (∀ j o, r[j]? = some o → l[i + j]? = some o) →
    ∃ full, K full ∧ IxS l (i + r.length) full ∧ (∀ p ∈ acc, p ∈ full) ∧ ∀ j o, r[j]? = some o → ∃ d x acc', o.dst = some d ∧ d < NN ∧ (i + j, d, x) ∈ full ∧ (∀ p ∈ acc', p ∈ full) ∧ OpG P E ⟨pick (depsOf o) acc' ++ base, ow⟩ l.toArray o x
  | [], acc, i, h, hI, _ => ⟨acc, h, hI, fun _ h => h, fun j o h => by simp at h⟩
  | o :: r, acc, i, ⟨d, x, h1, h2, h3, h4⟩, hI, hl => by
    obtain ⟨full, hK, hF, hacc, hall⟩ := Gs.all h4 (show IxS l (i + 1) ((i, d, x) :: acc) from ⟨⟨rfl, o, by simpa using hl 0 o rfl, h1⟩, hI⟩) (fun j o' h => by have := hl (j + 1) o' (by simpa using h); rwa [show i + 1 + j = i + (j + 1) by omega])
    refine ⟨full, hK, by rw [show i + (o :: r).length = i + 1 + r.length by simp; omega]; exact hF, fun p hp => hacc p (.tail _ hp), fun j o' h => ?_⟩
    cases j with
    | zero =>
      simp at h; subst h
      exact ⟨d, x, acc, h1, h2, hacc _ (.head _), fun p hp => hacc p (.tail _ hp), h3⟩
    | succ j =>
      obtain ⟨d', x', acc', q1, q2, q3, q4, q5⟩ := hall j o' (by simpa using h)
      exact ⟨d', x', acc', q1, q2, by rwa [show i + 1 + j = i + (j + 1) by omega] at q3, q4, q5⟩
def GI {NN : Nat} (E : Env NN) (base : List (Nat × SV)) (ow : List (Nat × Own)) (full : List (Nat × Nat × SV)) (e : Nat → Bool) (a : Act) (w : World) : Prop :=
  ∃ b, RepB E b ⟨base, ow⟩ a w ∧ ∀ p ∈ full, e p.1 = true → R w (St.excl ⟨base, ow⟩ E b) b p.2.2 (a.tmps.getD p.2.1 undef)
theorem GI.weak {base : List (Nat × SV)} {ow : List (Nat × Own)} {full : List (Nat × Nat × SV)} {e : Nat → Bool} {a : Act} {w : World} {b : Nat → Value} (h : RepB E b ⟨base, ow⟩ a w) (hx : ∀ p ∈ full, e p.1 = true → R w (St.excl ⟨base, ow⟩ E b) b p.2.2 (a.tmps.getD p.2.1 undef))
    {sl : List (Nat × SV)} (hs : ∀ s x, look s sl = some x → look s base = some x ∨ ∃ k, e k = true ∧ (k, s, x) ∈ full) : RepB E b ⟨sl, ow⟩ a w where
  size := h.size
  defers := h.defers
  below := h.below
  slots := fun s x hl => by
    rcases hs s x hl with h1 | ⟨k, h1, h2⟩
    · exact h.slots s x h1
    · exact hx _ h2 h1
  owns := h.owns
  mine := h.mine
  apart := h.apart
  old := h.old
theorem setE_eq (e : Nat → Bool) (i k : Nat) : setE e i k = if k = i then true else e k := by
  simp only [setE]
  by_cases h : k = i
  · subst h; simp
  · have : Nat.beq k i = false := by
      cases hb : Nat.beq k i
      · rfl
      · exact absurd (Nat.eq_of_beq_eq_true hb) h
    rw [this, if_neg h]
def desc (acc : List Nat) : Nat → List Oper → List Nat
  | _, [] => acc
  | i, o :: r => match (depsOf o).any (fun x => mmB x acc) with | true => desc (i :: acc) (i + 1) r | false => desc acc (i + 1) r
theorem desc_sound {l : List Oper} {k : Nat} : ∀ {r : List Oper} {i : Nat} {acc : List Nat}, (∀ j o, r[j]? = some o → l[i + j]? = some o) →
    (∀ q ∈ acc, q = k ∨ ∃ o, l[q]? = some o ∧ ∀ e, Down l e → DepsL e (depsOf o) → e k = true) → ∀ q ∈ desc acc i r, q = k ∨ ∃ o, l[q]? = some o ∧ ∀ e, Down l e → DepsL e (depsOf o) → e k = true
  | [], i, acc, _, h, q, hq => h q hq
  | o :: r, i, acc, hl, h, q, hq => by
    have hl' : ∀ j o', r[j]? = some o' → l[i + 1 + j]? = some o' := fun j o' hj => by have := hl (j + 1) o' (by simpa using hj); rwa [show i + 1 + j = i + (j + 1) by omega]
    simp only [desc] at hq
    split at hq
    · rename_i hany
      refine desc_sound hl' (fun q hq => ?_) q hq
      cases hq with
      | head =>
        have ho := hl 0 o rfl
        rw [Nat.add_zero] at ho
        refine .inr ⟨o, ho, fun e hd hdep => ?_⟩
        obtain ⟨x, hx, hxm⟩ := List.any_eq_true.1 hany
        have hex := hdep.at x hx
        rcases h x (mmB_iff.1 hxm) with h1 | ⟨o2, h1, h2⟩
        · exact h1 ▸ hex
        · have hd2 := hd x hex
          rw [h1] at hd2
          exact h2 e hd hd2
      | tail _ hq => exact h q hq
    · exact desc_sound hl' h q hq
def sepB (n : Nat) (l : List Oper) : Bool := (List.range n).all fun k => (List.range' n (l.length - n)).all fun i => mmB i (desc [k] 0 l)
theorem sepB_sound {n : Nat} {l : List Oper} (h : sepB n l = true) {i : Nat} {o : Oper} (hi : n ≤ i) (ho : l[i]? = some o) {e : Nat → Bool} (hd : Down l e) (hdep : DepsL e (depsOf o)) : ∀ k, k < n → e k = true := fun k hk => by
  simp only [sepB, List.all_eq_true] at h
  have hlt := (List.getElem?_eq_some_iff.1 ho).1
  have h1 := mmB_iff.1 (h k (List.mem_range.2 hk) i (by simp [List.mem_range'_1]; omega))
  rcases desc_sound (l := l) (k := k) (fun j o hj => by simpa using hj) (fun q hq => by cases hq with | head => exact .inl rfl | tail _ hq => cases hq) i h1 with h2 | ⟨o', h2, h3⟩
  · omega
  · rw [ho] at h2
    injection h2 with h2
    subst h2
    exact h3 e hd hdep
theorem c_rs {id : Nat} {l : List Oper} {S : St} {Q : Exit → Act → World → Prop} (n : Nat) (stE : List (Nat × Nat × SV) → (Nat → Bool) → St) (Sf : List (Nat × Nat × SV) → St) (hm : P.follows .mixedOrders = true) (hb : (backB 0 l && noDup (dstsOf l) && sepB n l && Nat.ble n l.length) = true)
    (h : Gs P E l (keepS (dstsOf (l.take n)) S.slots) S.owns [] 0 (l.take n) fun full =>
      (Weak E ⟨allS full ++ keepS (dstsOf (l.take n)) S.slots, S.owns⟩ (stE full fun k => Nat.blt k n) ∧
      (∀ i o, n ≤ i → l[i]? = some o → ∀ e, Down l e → e i = false → DepsL e (depsOf o) → T P E l.toArray [o] (stE full e) fun S' => Weak E S' (stE full (setE e i))) ∧
      (∀ e, (∀ i, i < l.length → e i = true) → Weak E (stE full e) (Sf full)) ∧ ∀ a w, Rep E (Sf full) a w → Q .normal a w)) : C P E (.region id l.toArray true) S Q := by
  rintro a w ⟨b, hr⟩
  simp only [Bool.and_eq_true] at hb
  obtain ⟨⟨⟨hback, hnd⟩, hsep⟩, hnl⟩ := hb
  have hnl := Nat.le_of_ble_eq_true hnl
  obtain ⟨full, ⟨h1, h2, h3, h4⟩, hI, -, hall⟩ := h.all (show IxS l 0 [] from trivial) (fun j o hj => by
    rw [Nat.zero_add]
    rw [List.getElem?_take] at hj
    split at hj
    · exact hj
    · cases hj)
  have hlen : (l.take n).length = n := by rw [List.length_take]; omega
  rw [hlen, Nat.zero_add] at hI
  have hfl : flags (Array.replicate l.toArray.size false) = fun _ => false := by
    funext i
    simp only [flags, Array.getD_eq_getD_getElem?, Array.getElem?_replicate]
    split <;> rfl
  let base := keepS (dstsOf (l.take n)) S.slots
  let I : (Nat → Bool) → Act → World → Prop := fun e a w => ((∀ k, k < n → e k = true) ∧ Rep E (stE full e) a w) ∨ ((∃ k, k < n ∧ e k = false) ∧ (∀ k, n ≤ k → e k = false) ∧ GI E base S.owns full e a w)
  have enter : ∀ e a w, (∀ k, k < n → e k = true) → (∀ k, n ≤ k → e k = false) → GI E base S.owns full e a w → I e a w := by
    intro e a w hA hB ⟨b, hr, hx⟩
    have he : e = fun k => Nat.blt k n := by
      funext k
      by_cases hk : k < n
      · rw [hA k hk]; exact (Nat.ble_eq_true_of_le hk).symm
      · rw [hB k (by omega)]
        cases hbl : Nat.blt k n with
        | false => rfl
        | true => exact absurd (Nat.le_of_ble_eq_true hbl) (by omega)
    refine .inl ⟨hA, b, ?_⟩
    rw [he]
    refine h1 b a w (GI.weak hr hx fun s x hl => ?_)
    rcases look_app hl with hl | hl
    · obtain ⟨k, hk⟩ := look_allS hl
      exact .inr ⟨k, hA k (hI.mem _ hk).1, hk⟩
    · exact .inl hl
  have start : ∀ a w, RepB E b S a w → I (fun _ => false) a w := by
    intro a w hr
    have hg : GI E base S.owns full (fun _ => false) a w := by
      refine ⟨b, ?_, fun p _ h => by cases h⟩
      exact { size := hr.size, defers := hr.defers, below := hr.below, slots := fun s x hl => hr.slots s x (look_keep hl).2, owns := hr.owns, mine := hr.mine, apart := hr.apart, old := hr.old }
    by_cases h0 : n = 0
    · exact enter _ a w (fun k hk => by omega) (fun _ _ => rfl) hg
    · exact .inr ⟨⟨0, by omega, rfl⟩, fun _ _ => rfl, hg⟩
  refine wp_region_any hm ?_
  refine wpAny_inv (I := I) hback ?_ ?_ l.toArray.size _ a _ (by simp) ?_ ?_ ?_
  · intro i o ho e hd hei hdep a w hIe Q2 hQ2
    rcases hIe with ⟨hA, hrep⟩ | ⟨⟨k0, hk0, hek0⟩, hB, b, hr, hx⟩
    · by_cases hin : i < n
      · rw [hA i hin] at hei; cases hei
      · refine h2 i o (by omega) ho e hd hei hdep a w hrep Q2 fun S' a' w' hw' ⟨b', hr'⟩ => hQ2 a' w' (.inl ⟨fun k hk => by rw [setE_eq]; split; rfl; exact hA k hk, b', hw' b' a' w' hr'⟩)
    · have hin : i < n := by
        by_cases hin : i < n
        · exact hin
        · have := sepB_sound hsep (by omega) ho hd hdep k0 hk0
          rw [this] at hek0; cases hek0
      obtain ⟨d, x, acc', q1, q2, q3, q4, q5⟩ := hall i o (by rw [List.getElem?_take, if_pos hin]; exact ho)
      rw [Nat.zero_add] at q3
      have hdk : d ∈ dstsOf (l.take n) := by
        have h5 : (l.take n)[i]? = some o := by rw [List.getElem?_take, if_pos hin]; exact ho
        exact mem_dsts h5 q1
      refine q5 b a w (GI.weak hr hx fun s x hl => ?_) Q2 fun v w' hw hv => hQ2 _ w' ?_
      · rcases look_app hl with hl | hl
        · obtain ⟨k, hk, hm⟩ := look_pick hl
          exact .inr ⟨k, hdep.at k hk, q4 _ hm⟩
        · exact .inl hl
      · have hr2 : RepB E b ⟨base, S.owns⟩ (a.put o.dst v) w' := by
          have hp := (hr.world hw).put (d := d) (x := x) (v := v) q2 hv
          rw [q1]
          exact { size := hp.size, defers := hp.defers, below := hp.below, slots := fun s y hl => hp.slots s y (by
              rw [look_cons, if_neg]
              · exact hl
              · rintro rfl
                exact (look_keep hl).1 hdk), owns := hp.owns, mine := hp.mine, apart := hp.apart, old := hp.old }
        have hg : GI E base S.owns full (setE e i) (a.put o.dst v) w' := by
          refine ⟨b, hr2, fun p hp hep => ?_⟩
          rw [setE_eq] at hep
          by_cases hpi : p.1 = i
          · have := hI.uniq p hp _ q3 hpi
            subst this
            rw [q1]
            have hsz : d < a.tmps.size := by rw [hr.size]; exact q2
            show R w' _ b x ((a.tmps.setIfInBounds d v).getD d undef)
            rw [getD_set _ _ _ _ hsz, if_pos rfl]
            exact hv
          · rw [if_neg hpi] at hep
            have h6 := hx p hp hep
            obtain ⟨_, o', h7, h8⟩ := hI.mem p hp
            have hne : p.2.1 ≠ d := fun hh => hpi (noDup_at hnd p.1 i o' o d h7 ho (hh ▸ h8) q1)
            have hsz : d < a.tmps.size := by rw [hr.size]; exact q2
            rw [q1]
            show R w' _ b p.2.2 ((a.tmps.setIfInBounds d v).getD p.2.1 undef)
            rw [getD_set _ _ _ _ hsz, if_neg hne]
            exact h6.mono (.of_below hw) (fun _ _ hh => hh)
        by_cases hall' : ∀ k, k < n → setE e i k = true
        · exact enter _ _ _ hall' (fun k hk => by rw [setE_eq, if_neg (by omega)]; exact hB k hk) hg
        · refine .inr ⟨?_, fun k hk => by rw [setE_eq, if_neg (by omega)]; exact hB k hk, hg⟩
          obtain ⟨k, hk⟩ := Classical.not_forall.1 hall'
          obtain ⟨hk1, hk2⟩ := Classical.not_imp.1 hk
          exact ⟨k, hk1, by simpa using hk2⟩
  · intro e he a w hIe
    rcases hIe with ⟨_, b, hr⟩ | ⟨⟨k, hk, hek⟩, _⟩
    · exact h4 a w ⟨b, h3 e he b a w hr⟩
    · rw [he k (by omega)] at hek; cases hek
  · simp only [leftN]
    refine Nat.le_trans List.countP_le_length ?_
    simp
  · rw [hfl]
    intro k hk
    cases hk
  · rw [hfl]
    exact start a _ (hr.world (below_drew w))
theorem c_rg0 {id : Nat} {l : List Oper} {S : St} {Q : Exit → Act → World → Prop} (hm : P.follows .mixedOrders = true) (hb : (backB 0 l && noDup (dstsOf l)) = true)
    (h : Gs P E l (keepS (dstsOf l) S.slots) S.owns [] 0 l fun full => ∀ a w, Rep E ⟨allS full ++ keepS (dstsOf l) S.slots, S.owns⟩ a w → Q .normal a w) : C P E (.region id l.toArray true) S Q := by
  have ht : l.take l.length = l := List.take_length
  refine c_rs l.length (fun full _ => ⟨allS full ++ keepS (dstsOf l) S.slots, S.owns⟩) (fun full => ⟨allS full ++ keepS (dstsOf l) S.slots, S.owns⟩) hm ?_ ?_
  · rw [hb, Bool.true_and, Bool.and_eq_true]
    refine ⟨?_, Nat.ble_eq_true_of_le (Nat.le_refl _)⟩
    simp [sepB]
  · rw [ht]
    have : ∀ {r : List Oper} {acc : List (Nat × Nat × SV)} {i : Nat} {base : List (Nat × SV)} {ow : List (Nat × Own)} {K K2 : List (Nat × Nat × SV) → Prop}, (∀ f, K f → K2 f) → Gs P E l base ow acc i r K → Gs P E l base ow acc i r K2 := by
      intro r
      induction r with
      | nil => intro acc i base ow K K2 hk h; exact hk _ h
      | cons o r ih => intro acc i base ow K K2 hk ⟨d, x, q1, q2, q3, q4⟩; exact ⟨d, x, q1, q2, q3, ih hk q4⟩
    refine this (fun full hk => ⟨fun b a w hr => hr, fun i o hi ho => absurd (List.getElem?_eq_some_iff.1 ho).1 (by omega), fun _ _ b a w hr => hr, hk⟩) h
theorem c_rg {id : Nat} {l : List Oper} {S : St} {Q : Exit → Act → World → Prop} (ds : List Nat) (hm : P.follows .mixedOrders = true) (hb : (backB 0 l && noDup (dstsOf l)) = true) (hds : dstsOf l = ds)
    (h : Gs P E l (keepS ds S.slots) S.owns [] 0 l fun full => ∀ a w, Rep E ⟨allS full ++ keepS ds S.slots, S.owns⟩ a w → Q .normal a w) : C P E (.region id l.toArray true) S Q := by
  subst hds
  exact c_rg0 hm hb h
end Go.Eng
namespace Go.Eng
open Go.RowKit
variable {P : Program} {NN : Nat} {E : Env NN}
theorem mod_row {i k t : Nat} (h : t < k) : (i * k + t) % k = t := by
  rw [Nat.mul_comm, Nat.mul_add_mod]; exact Nat.mod_eq_of_lt h
theorem t_make {α : Type} {cell : α → Nat → SV} {dd : α} {ops : Array Oper} {rest : List Oper} {S : St} {K : St → Prop} {d : Tmp} {t e : TypeId} {n k bytes : Nat} {x y : Operand} {ty : TypeId} {pos : String} {after : Array Edge} {zget : Nat → SV} (j : Nat) (z0 : α)
    (he : ElemOk P t e k bytes) (hz : ZeroOk P e k zget) (hx : Val E S x (.v (.int .i64 (n : Int)))) (hy : Val E S y (.v (.int .i64 (n : Int)))) (hn : n * bytes ≤ 281474976710656 ∧ n ≤ 9223372036854775807) (hi : AllN (fun t => ImpO (zget t) (cell z0 t)) k) (hf : S.fresh j = true)
    (hk : T P E ops rest ⟨(d, .own j) :: S.slots, (j, ownOf cell k dd (List.replicate n z0) e) :: S.owns⟩ K) (hd : d < NN := by decide) :
    T P E ops ({ dst := some d, op := .makeSlice t x y, type := ty, pos, after, guard := none } :: rest) S K := by
  rintro a w ⟨b, hr⟩ Q hq
  obtain ⟨ht, ⟨i, z, h1, h2, h3, h4, h5⟩, hk0⟩ := he
  obtain ⟨z', hz1, hz2, hz3⟩ := hz
  have hzz : z' = z := by
    have := hz1 w
    simp [zeroValue, typeInfo, h1, h2] at this
    exact this.symm
  subst hzz
  have vx : a.eval x = .int .i64 (n : Int) := hx b a w hr
  have vy : a.eval y = .int .i64 (n : Int) := hy b a w hr
  have hrun := run_make (P := P) w t e i z' ht h1 h2 .i64 .i64 (n : Int) (n : Int) (by omega) (Int.le_refl _) (by have := hn.1; rw [h4, ← Int.natCast_mul, Nat.mul_comm]; omega) (by have := hn.2; omega)
  simp only [Int.toNat_natCast] at hrun
  unfold wpList
  rw [if_pos (by rfl)]
  refine .inl (wp_of_run (w' := w.alloc (.cells (madeCells z'.cells (n * i.size)) e)) (v := .slice (some ⟨w.heap.size, 0, none⟩) n n) ?_ ?_)
  · simp only [execOp, vx, vy, Sem.run_bind, hrun]
    rfl
  · cases n with
    | zero =>
      refine hk _ _ ⟨_, ((hr.world (below_alloc w _)).newown (k := k) (get := rowG cell dd (List.replicate 0 z0)) (e := e) (A := some ⟨w.heap.size, 0, none⟩) hf).put (x := .own j) hd (own_val rfl)⟩ Q hq
    | succ n' =>
      have hy : ∀ g, Bk (.slice (some ⟨w.heap.size, 0, none⟩) (n' + 1) (n' + 1)) g → w.heap.size ≤ g := fun g hg => by
        have hg : some w.heap.size = some g := hg
        injection hg with hg; omega
      have hsz := size_madeCells z'.cells ((n' + 1) * i.size)
      rw [h3] at hsz
      have hadd := hr.add (below_alloc w (.cells (madeCells z'.cells ((n' + 1) * i.size)) e)) hf (o := ownOf cell k dd (List.replicate (n' + 1) z0) e) (y := .slice (some ⟨w.heap.size, 0, none⟩) (n' + 1) (n' + 1)) hy fun X' _ _ hRO => by
        have hlen : (List.replicate (n' + 1) z0).length = n' + 1 := List.length_replicate
        refine ⟨(madeCells z'.cells ((n' + 1) * i.size)).toList, .inr ⟨?_, w.heap.size, n' + 1, n', by rw [setB_same]⟩, fun q hq t ht => ?_⟩
        · rw [hlen]
          refine ⟨by rw [Array.length_toList, h3, hsz], .inr ⟨w.heap.size, n' + 1, _, by rw [setB_same], hr.base_le, heap_alloc_new w _, Nat.le_refl _, hn.2, by rw [h3]; exact hsz, ?_⟩⟩
          rw [List.take_of_length_le]; rw [Array.length_toList, h3, hsz]; exact Nat.le_refl _
        · rw [hlen] at hq
          obtain ⟨u, hu, h6, h7⟩ := hz3 t ht
          have hqk : q * k + t < (n' + 1) * k := by
            have : q * k + k ≤ (n' + 1) * k := by rw [← Nat.succ_mul]; exact Nat.mul_le_mul_right _ (by omega)
            omega
          have hlt : t < z'.cells.size := by rw [h5]; exact ht
          refine ⟨u, ?_, h6, ?_⟩
          · rw [Array.getElem?_toList, h3]
            simp only [madeCells, Array.getElem?_map, Array.getElem?_range, hqk, if_pos, Option.map_some, h5, mod_row ht]
            rw [Array.getElem?_eq_getElem hlt] at hu
            rw [getElem!_pos z'.cells t hlt]
            exact hu
          · have e : rowG cell dd (List.replicate (n' + 1) z0) q t = cell z0 t := by
              simp only [rowG, List.getD_eq_getElem?_getD, List.getElem?_replicate, if_pos hq, Option.getD_some]
            rw [e]
            exact (hi.at t ht) _ _ _ (h7 _ _)
      exact hk _ _ ⟨_, hadd.put (x := .own j) hd (own_val rfl)⟩ Q hq
end Go.Eng
namespace Go.Eng
open Go.RowKit
variable {P : Program} {NN : Nat} {E : Env NN}
theorem q_slOL {S : St} {x lo : Operand} {t : TypeId} {j n k : Nat} {get : Nat → Nat → SV} {e : TypeId} {l : Int} (ht : P.underlying t = some (.slice (P.elem t))) (hs : ∀ w, (sizeOf (P.elem t)).run P w = .ok k w) (hx : Val E S x (.own j)) (ho : lookO j S.owns = some (.arow n k get e))
    (hlo : Val E S lo (.v (.int .i64 l))) (h1 : 0 ≤ l) (h2 : l ≤ n) : OpQ P E S (.slice t x (some lo) none none) (.sub j k l.toNat (n - l.toNat)) := fun b a w hr dst ty pos after gd => by
  have hv : a.eval x = hdv (b j) := hx b a w hr
  obtain ⟨xs, hown, _⟩ := hr.owns j _ ho
  obtain ⟨A, c, hb, hn, _⟩ := hown.slice
  have hbd : hdv (b j) = .slice A n c := by rw [hb]; rfl
  have hl : a.eval lo = .int .i64 l := hlo b a w hr
  refine ⟨.slice (if c = l.toNat then A else A.map (·.add (l.toNat * k))) (n - l.toNat) (c - l.toNat), fun w' hw' => ?_, A, n, c, hbd, by omega, ?_⟩
  · have h3 := run_slice_l (P := P) w' t A n c ht .i64 l h1 (by omega)
    simp only [execOp, Option.map_none, Option.map_some, hl, hv, hbd, Sem.run_bind, run_sliceAt_slice w' t _ _ _ _ ht, h3, hs, Result.andThen_ok]
    simp [sliced]
  · by_cases h0 : l.toNat = 0
    · rw [h0, if_pos rfl]
      split
      · rfl
      · cases A <;> simp [Addr.add_zero']
    · rw [if_neg h0]
theorem q_slOH {S : St} {x hi : Operand} {t : TypeId} {j n k : Nat} {get : Nat → Nat → SV} {e : TypeId} {h : Int} (ht : P.underlying t = some (.slice (P.elem t))) (hs : ∀ w, (sizeOf (P.elem t)).run P w = .ok k w) (hx : Val E S x (.own j)) (ho : lookO j S.owns = some (.arow n k get e))
    (hhi : Val E S hi (.v (.int .i64 h))) (h1 : 0 ≤ h) (h2 : h ≤ n) : OpQ P E S (.slice t x none (some hi) none) (.sub j k 0 h.toNat) := fun b a w hr dst ty pos after gd => by
  have hv : a.eval x = hdv (b j) := hx b a w hr
  obtain ⟨xs, hown, _⟩ := hr.owns j _ ho
  obtain ⟨A, c, hb, hn, _⟩ := hown.slice
  have hbd : hdv (b j) = .slice A n c := by rw [hb]; rfl
  have hh : a.eval hi = .int .i64 h := hhi b a w hr
  refine ⟨.slice A h.toNat c, fun w' hw' => ?_, A, n, c, hbd, by omega, by rw [if_pos rfl, Nat.sub_zero]⟩
  have h3 := run_slice_h (P := P) w' t A n c ht .i64 h h1 (by omega)
  simp only [execOp, Option.map_none, Option.map_some, hh, hv, hbd, Sem.run_bind, run_sliceAt_slice w' t _ _ _ _ ht, h3, hs, Result.andThen_ok]
  cases A <;> simp [sliced, Addr.add_zero']
theorem sub_at {S : St} {b : Nat → Value} {a : Act} {w : World} (hr : RepB E b S a w) {x : Operand} {j k lo m n : Nat} {get : Nat → Nat → SV} {e : TypeId} (hx : Val E S x (.sub j k lo m)) (ho : lookO j S.owns = some (.arow n k get e)) (hm : 0 < m) :
    lo + m ≤ n ∧ ∃ g c, b j = .slice (some ⟨g, 0, none⟩) n (c + 1) ∧ a.eval x = .slice (some ⟨g, lo * k, none⟩) m (c + 1 - lo) := by
  obtain ⟨A, n', c, hb, hle, hv⟩ := hx b a w hr
  obtain ⟨xs, hown, _⟩ := hr.owns j _ ho
  obtain ⟨A', c', hb', hn', _⟩ := hown.slice
  rw [hb'] at hb
  simp only [hdv, Value.slice.injEq] at hb
  obtain ⟨rfl, rfl, rfl⟩ := hb
  obtain ⟨g, c2, cur, hb2, _, _, hcap, _⟩ := own_cells hr ho (by omega)
  rw [hb'] at hb2
  simp only [Value.slice.injEq, true_and] at hb2
  obtain ⟨rfl, rfl⟩ := hb2
  refine ⟨hle, g, c2, hb', ?_⟩
  rw [hv]
  by_cases h0 : lo = 0
  · subst h0; simp
  · rw [if_neg h0, if_neg (by omega)]; simp [Addr.add_lit]
theorem own_write {S : St} {b : Nat → Value} {a : Act} {w : World} (hr : RepB E b S a w) {j n k : Nat} {get : Nat → Nat → SV} {e : TypeId} (ho : lookO j S.owns = some (.arow n k get e)) (lo m : Nat) (hm : 0 < m) (hlo : lo + m ≤ n) (hk : 0 < k) (vs : List Value) (hvl : vs.length = m * k)
    (gt get' : Nat → Nat → SV) (hvs : ∀ i, i < m → ∀ t, t < k → ∃ u, vs[i * k + t]? = some u ∧ u.oneCell' = true ∧ RO w (S.excl E b) (gt i t) u) (hg' : ∀ i, i < n → ∀ t, t < k → get' i t = if lo ≤ i ∧ i < lo + m then gt (i - lo) t else get i t) {g c : Nat} (hb : b j = .slice (some ⟨g, 0, none⟩) n (c + 1)) :
    ∃ w', (storeCells ⟨g, lo * k, none⟩ vs 0).run P w = .ok () w' ∧ RepB E b ⟨S.slots, (j, .arow n k get' e) :: S.owns⟩ a w' := by
  obtain ⟨g', c', cur, hb2, hbase, hh, hcap, hmax, hsz, hc⟩ := own_cells hr ho (by omega)
  have hb3 := hb2
  rw [hb] at hb2
  simp only [Value.slice.injEq, Option.some.injEq, Addr.mk.injEq, true_and, and_true, Nat.add_right_cancel_iff] at hb2
  obtain ⟨rfl, rfl⟩ := hb2
  have hdiv : ∀ q r, r < k → (q * k + r) / k = q := fun q r hr => by rw [Nat.mul_comm, Nat.mul_add_div (by omega), Nat.div_eq_of_lt hr, Nat.add_zero]
  have hmod : ∀ q r, r < k → (q * k + r) % k = r := fun q r hr => by rw [Nat.mul_comm, Nat.mul_add_mod]; exact Nat.mod_eq_of_lt hr
  have h1 : ∀ v ∈ vs, v.oneCell' = true := by
    intro v hv
    obtain ⟨q, hq, rfl⟩ := List.getElem_of_mem hv
    have hqk := Nat.div_add_mod q k
    have hqm : q / k < m := by rw [Nat.div_lt_iff_lt_mul hk]; omega
    obtain ⟨u, hu, h2, _⟩ := hvs (q / k) hqm (q % k) (Nat.mod_lt _ hk)
    rw [Nat.mul_comm, hqk, List.getElem?_eq_getElem hq] at hu
    simp only [Option.some.injEq] at hu
    rw [hu]; exact h2
  have hnk : n * k ≤ cur.size := by rw [hsz]; exact Nat.mul_le_mul_right _ hcap
  have hlm : (lo + m) * k ≤ n * k := Nat.mul_le_mul_right _ hlo
  rw [Nat.add_mul] at hlm
  obtain ⟨w', cs', hrun, h2, h3, h4, h5, h6⟩ := setRow_all (P := P) hh vs (lo * k) (by rw [hvl]; omega) h1
  refine ⟨w', ?_, ?_⟩
  · have e1 := storeCells_at g (lo * k) vs 0
    rw [Nat.add_zero] at e1
    rw [e1]; exact hrun
  · refine hr.setown ho (by rw [hb3]; exact rfl) h5 h6 (fun X hmm hmo => ?_)
    refine ⟨cs'.toList.take (n * k), .inr ⟨⟨?_, .inr ⟨g, c + 1, _, hb3, hbase, h2, hcap, hmax, by rw [h3]; exact hsz, rfl⟩⟩, g, n, c, hb3⟩, fun i' hi' t ht => ?_⟩
    · simp; omega
    · have hlt : i' * k + t < n * k := by
        have : (i' + 1) * k ≤ n * k := Nat.mul_le_mul_right _ hi'
        rw [Nat.add_mul, Nat.one_mul] at this
        omega
      rw [List.getElem?_take, if_pos hlt, Array.getElem?_toList, h4, hg' i' hi' t ht]
      have hiff : (lo * k ≤ i' * k + t ∧ i' * k + t < lo * k + vs.length) ↔ (lo ≤ i' ∧ i' < lo + m) := by
        rw [hvl]
        constructor
        · rintro ⟨q1, q2⟩
          have e1 : (lo * k) / k ≤ (i' * k + t) / k := Nat.div_le_div_right q1
          rw [hdiv i' t ht, Nat.mul_div_cancel _ hk] at e1
          refine ⟨e1, ?_⟩
          have e2 : i' * k + t < (lo + m) * k := by rw [Nat.add_mul]; exact q2
          have e3 := Nat.div_lt_of_lt_mul (show i' * k + t < k * (lo + m) from Nat.lt_of_lt_of_eq e2 (Nat.mul_comm _ _))
          rwa [hdiv i' t ht] at e3
        · rintro ⟨q1, q2⟩
          have e1 : lo * k ≤ i' * k := Nat.mul_le_mul_right _ q1
          have e2 : (i' + 1) * k ≤ (lo + m) * k := Nat.mul_le_mul_right _ q2
          rw [Nat.add_mul, Nat.add_mul, Nat.one_mul] at e2
          omega
      by_cases q : lo ≤ i' ∧ i' < lo + m
      · rw [if_pos (hiff.2 q), if_pos q]
        obtain ⟨u, hu, h7, h8⟩ := hvs (i' - lo) (by omega) t ht
        refine ⟨u, ?_, h7, hmo h8⟩
        have e2 : i' * k + t - lo * k = (i' - lo) * k + t := by
          have : lo * k ≤ i' * k := Nat.mul_le_mul_right _ q.1
          rw [Nat.sub_mul]; omega
        rw [e2]; exact hu
      · rw [if_neg (fun h => q (hiff.1 h)), if_neg q]
        obtain ⟨u, hu, h7, h8⟩ := hc i' hi' t ht
        exact ⟨u, hu, h7, hmo h8⟩
theorem t_clr {ops : Array Oper} {rest : List Oper} {S : St} {K : St → Prop} {t te : TypeId} {x : Operand} {ty : TypeId} {pos : String} {after : Array Edge} {j n k lo m : Nat} {get : Nat → Nat → SV} {e : TypeId} {zget : Nat → SV} (get' : Nat → Nat → SV)
    (ht : P.underlying t = some (.slice te)) (hz : ZeroOk P te k zget) (hx : Val E S x (.sub j k lo m)) (ho : lookO j S.owns = some (.arow n k get e)) (hkp : 0 < k) (hg' : ∀ i, i < n → ∀ t, t < k → if lo ≤ i ∧ i < lo + m then ImpO (zget t) (get' i t) else get' i t = get i t)
    (hk : T P E ops rest ⟨S.slots, (j, .arow n k get' e) :: S.owns⟩ K) :
    T P E ops ({ dst := none, op := .call { callee := .builtin .clear, args := #[x], argTypes := #[t] }, type := ty, pos, after, guard := none } :: rest) S K := by
  rintro a w ⟨b, hr⟩ Q hq
  obtain ⟨z, hz1, hz2, hz3⟩ := hz
  unfold wpList
  rw [if_pos (by rfl)]
  by_cases hm : m = 0
  · subst hm
    obtain ⟨A, n', c, hb, _, hv⟩ := hx b a w hr
    refine .inl (wp_of_run (w' := w) (v := .tuple #[]) ?_ ?_)
    · simp only [execOp, resolve, invoke, builtin, Sem.run_bind, Sem.run_pure, Result.andThen_ok, List.map_toArray, List.map_cons, List.map_nil, hv]
      generalize (if lo = 0 then A else if c = lo then A else A.map (·.add (lo * k))) = B
      cases B <;> simp [Builtin.clear_, run_underlying ht]
    · have : a.put none (.tuple #[]) = a := rfl
      rw [this]
      refine hk _ _ ⟨b, ?_⟩ Q hq
      have hw : Weak E S ⟨S.slots, (j, .arow n k get' e) :: S.owns⟩ := weak_own ho rfl fun i hi t ht => by
        have := hg' i hi t ht
        rw [if_neg (by omega)] at this
        exact this.symm
      exact hw b a w hr
  · obtain ⟨hle, g, c, hb, hv⟩ := sub_at hr hx ho (by omega)
    have hzl : (Builtin.zeroCells z.cells m).toList.length = m * k := by simp [Builtin.zeroCells, hz2]
    have hget : ∀ i, i < m → ∀ t, t < k → ∃ u, (Builtin.zeroCells z.cells m).toList[i * k + t]? = some u ∧ u.oneCell' = true ∧ RO w (S.excl E b) (get' (lo + i) t) u := fun i hi t ht => by
      obtain ⟨u, hu, h6, h7⟩ := hz3 t ht
      have hqk : i * k + t < m * k := by
        have : (i + 1) * k ≤ m * k := Nat.mul_le_mul_right _ hi
        rw [Nat.add_mul, Nat.one_mul] at this
        omega
      refine ⟨u, ?_, h6, ?_⟩
      · rw [Array.getElem?_toList]
        have hlt : t < z.cells.size := by rw [hz2]; exact ht
        rw [Array.getElem?_eq_getElem hlt] at hu
        simp only [Builtin.zeroCells, hz2, Array.getElem?_map, Array.getElem?_range, hqk, if_pos, Option.map_some, mod_row ht]
        rw [getElem!_pos z.cells t hlt]
        exact hu
      · have := hg' (lo + i) (by omega) t ht
        rw [if_pos (by omega)] at this
        exact this _ _ _ (h7 _ _)
    obtain ⟨w', hst, hr'⟩ := own_write (P := P) hr ho lo m (by omega) hle hkp _ hzl (fun i t => get' (lo + i) t) get' hget (fun i hi t ht => by
      by_cases q : lo ≤ i ∧ i < lo + m
      · rw [if_pos q, show lo + (i - lo) = i by omega]
      · rw [if_neg q]
        have := hg' i hi t ht
        rwa [if_neg q] at this) hb
    refine .inl (wp_of_run (w' := w') (v := .tuple #[]) ?_ ?_)
    · obtain ⟨m', rfl⟩ : ∃ m', m = m' + 1 := ⟨m - 1, by omega⟩
      simp [execOp, resolve, invoke, builtin, hv, Builtin.clear_, run_underlying ht, hz1, hst]
    · exact hk _ _ ⟨b, hr'⟩ Q hq
theorem turn_cut (s j j' i : Nat) (get' : Nat → Nat → SV) {S : St} {n k : Nat} {get : Nat → Nat → SV} {e : TypeId} (hg' : ∀ q, q < i → ∀ t, t < k → get' q t = get q t) (hs : look s S.slots = some (.sub j k 0 i)) (ho : lookO j S.owns = some (.arow n k get e)) (hf : S.fresh j' = true) (hsN : s < NN) :
    Turn E S ⟨(s, .own j') :: killS j S.slots, (j', .arow i k get' e) :: killO j S.owns⟩ := fun b a w hr => by
  obtain ⟨A, n', c, hb, hle, hv⟩ := hr.slots s _ hs
  have hown0 := hr.owns j _ ho
  obtain ⟨xs, hown, hc⟩ := hown0
  obtain ⟨A', c', hb', hn', hmx⟩ := hown.slice
  rw [hb'] at hb
  simp only [hdv, Value.slice.injEq] at hb
  obtain ⟨rfl, rfl, rfl⟩ := hb
  rw [if_pos rfl, Nat.sub_zero] at hv
  have hnew : ownsR w E.base e k (.slice A' i c') i (xs.take (i * k)) := by
    rcases hown with ⟨A, h1, h2, h3⟩ | ⟨⟨hl, h1⟩, g, m, c2, h2⟩
    · rw [hb'] at h1
      simp only [Value.slice.injEq] at h1
      obtain ⟨rfl, rfl, rfl⟩ := h1
      have : i = 0 := by omega
      subst this
      exact .inl ⟨A', rfl, rfl, by simp⟩
    · rcases h1 with ⟨h1, _⟩ | ⟨g', cap, cur, h1, h3, h4, h5, h6, h7, h8⟩
      · rw [h1] at h2; cases h2
      · rw [hb'] at h1 h2
        simp only [Value.slice.injEq] at h1 h2
        obtain ⟨rfl, _, rfl⟩ := h1
        obtain ⟨h21, h22, h23⟩ := h2
        have hik : i * k ≤ n * k := Nat.mul_le_mul_right _ (by omega)
        refine .inr ⟨⟨by rw [List.length_take]; omega, .inr ⟨g', c', cur, rfl, h3, h4, by omega, h6, h7, ?_⟩⟩, g', i, c2, by rw [h23]⟩
        rw [← h8, List.take_take, Nat.min_eq_left hik]
  have hrg := hr.regrow (j' := j') (n' := i) (get' := get') (v' := .slice A' i c') (xs := xs.take (i * k)) ho hf ⟨rfl, rfl, rfl, Nat.le_refl _⟩ (fun _ _ _ => rfl) (fun g hg => .inl (by
      rw [hb']
      cases A' with
      | none => cases hg
      | some p => cases c' with
        | zero => cases hg
        | succ c'' => exact hg)) hnew (fun q hq t ht => by
    obtain ⟨u, hu, h1, h2⟩ := hc q (by omega) t ht
    refine ⟨u, ?_, h1, by rw [hg' q hq t ht]; exact h2⟩
    have : q * k + t < i * k := by
      have : (q + 1) * k ≤ i * k := Nat.mul_le_mul_right _ hq
      rw [Nat.add_mul, Nat.one_mul] at this
      omega
    rw [List.getElem?_take, if_pos this]; exact hu)
  have hput := hrg.put (d := s) (x := .own j') (v := a.tmps.getD s undef) hsN (by
    show _ = hdv (setB b j' _ j')
    rw [setB_same, hv]; rfl)
  have hact : a.put (some s) (a.tmps.getD s undef) = a := by
    show { a with tmps := a.tmps.setIfInBounds s (a.tmps.getD s undef) } = a
    have : a.tmps.setIfInBounds s (a.tmps.getD s undef) = a.tmps := by
      apply Array.ext
      · simp
      · intro q h1 h2
        rw [Array.getElem_setIfInBounds h2]
        split
        · rename_i e; subst e; simp [Array.getD, h2]
        · rfl
    rw [this]
  rw [hact] at hput
  exact ⟨_, hput⟩
end Go.Eng
namespace Go.Eng
open Go.RowKit
variable {P : Program} {NN : Nat} {E : Env NN}
theorem run_copyK {w w' : World} {dT sT ty elem : TypeId} {k : Nat} (hu : P.underlying dT = some (.slice elem)) (hs : ∀ w, (sizeOf elem).run P w = .ok k w) {db sA : Addr} {dLen dCap sLen sCap : Nat} {cs : List Value} (hn : cs.length = Nat.min sLen dLen * k)
    (hsrc : ∀ j v, cs[j]? = some v → w.cell? (sA.add j) = some v) (hst : (storeCells db cs 0).run P w = .ok () w') :
    (Builtin.copy_ #[dT, sT] ty #[.slice (some db) dLen dCap, .slice (some sA) sLen sCap]).run P w = .ok (goInt (Nat.min sLen dLen)) w' := by
  have hl := run_loadCells_list (P := P) w sA cs hsrc
  rw [hn] at hl
  simp [Builtin.copy_, run_underlying hu, Builtin.lenOf, Builtin.firstCells, hs, hl, hst]
theorem run_copy0 {w : World} {dT sT ty elem : TypeId} {k : Nat} (hu : P.underlying dT = some (.slice elem)) (hs : ∀ w, (sizeOf elem).run P w = .ok k w) {db sA : Option Addr} {dLen dCap sLen sCap : Nat} (hn : Nat.min sLen dLen = 0) :
    (Builtin.copy_ #[dT, sT] ty #[.slice db dLen dCap, .slice sA sLen sCap]).run P w = .ok (goInt 0) w := by
  cases sA with
  | none => cases db <;> simp [Builtin.copy_, run_underlying hu, Builtin.lenOf, Builtin.firstCells, hs, hn, storeCells]
  | some q =>
    have hl := run_loadCells_list (P := P) w q [] (fun j v h => by simp at h)
    simp only [List.length_nil] at hl
    cases db <;> simp [Builtin.copy_, run_underlying hu, Builtin.lenOf, Builtin.firstCells, hs, hn, hl, storeCells]
theorem val_sub {S : St} {x : Operand} {j n k : Nat} {get : Nat → Nat → SV} {e : TypeId} (hx : Val E S x (.own j)) (ho : lookO j S.owns = some (.arow n k get e)) : Val E S x (.sub j k 0 n) := fun b a w hr => by
  obtain ⟨xs, hown, _⟩ := hr.owns j _ ho
  obtain ⟨A, c, hb, _⟩ := hown.slice
  refine ⟨A, n, c, by rw [hb]; rfl, by omega, ?_⟩
  rw [if_pos rfl, Nat.sub_zero, show a.eval x = hdv (b j) from hx b a w hr, hb]; rfl
theorem rows_list {k : Nat} (hk : 0 < k) (m : Nat) (f : Nat → Nat → Value) : ∃ cs : List Value, cs.length = m * k ∧ (∀ i, i < m → ∀ t, t < k → cs[i * k + t]? = some (f i t)) ∧ ∀ j v, cs[j]? = some v → j < m * k ∧ v = f (j / k) (j % k) := by
  refine ⟨(List.range (m * k)).map fun j => f (j / k) (j % k), by simp, fun i hi t ht => ?_, fun j v hv => ?_⟩
  · have hlt : i * k + t < m * k := by
      have : (i + 1) * k ≤ m * k := Nat.mul_le_mul_right _ hi
      rw [Nat.add_mul, Nat.one_mul] at this
      omega
    have hdiv : (i * k + t) / k = i := by rw [Nat.mul_comm, Nat.mul_add_div hk, Nat.div_eq_of_lt ht, Nat.add_zero]
    have hmod : (i * k + t) % k = t := mod_row ht
    simp [hlt, hdiv, hmod]
  · rw [List.getElem?_map] at hv
    cases h : (List.range (m * k))[j]? with
    | none => rw [h] at hv; cases hv
    | some q =>
      rw [h] at hv
      obtain ⟨h1, h2⟩ := List.getElem?_eq_some_iff.1 h
      simp only [List.length_range] at h1
      simp only [List.getElem_range] at h2
      subst h2
      simp only [Option.map_some, Option.some.injEq] at hv
      exact ⟨h1, hv.symm⟩
theorem t_cpR {ops : Array Oper} {rest : List Oper} {S : St} {K : St → Prop} {d : Tmp} {t t2 te : TypeId} {x y : Operand} {ty : TypeId} {pos : String} {after : Array Edge} {j n n2 k lo m : Nat} {get get2 : Nat → Nat → SV} {e : TypeId} (get' : Nat → Nat → SV)
    (ht : P.underlying t = some (.slice te)) (hs : ∀ w, (sizeOf te).run P w = .ok k w) (hx : Val E S x (.sub j k lo m)) (ho : lookO j S.owns = some (.arow n k get e)) (hy : Val E S y (.row n2 k get2)) (hkp : 0 < k)
    (hg' : ∀ i, i < n → ∀ t, t < k → get' i t = if lo ≤ i ∧ i < lo + Nat.min n2 m then get2 (i - lo) t else get i t)
    (hk : T P E ops rest ⟨(d, .v (.int .i64 ((Nat.min n2 m : Nat) : Int))) :: S.slots, (j, .arow n k get' e) :: S.owns⟩ K) (hd : d < NN := by decide) :
    T P E ops ({ dst := some d, op := .call { callee := .builtin .copy, args := #[x, y], argTypes := #[t, t2] }, type := ty, pos, after, guard := none } :: rest) S K := by
  rintro a w ⟨b, hr⟩ Q hq
  obtain ⟨A2, c2, hv2, _, _, hrow⟩ := hy b a w hr
  unfold wpList
  rw [if_pos (by rfl)]
  by_cases hm : Nat.min n2 m = 0
  · obtain ⟨A, n', c, hb, _, hv⟩ := hx b a w hr
    refine .inl (wp_of_run (w' := w) (v := goInt 0) ?_ ?_)
    · simp only [execOp, resolve, invoke, builtin, Sem.run_bind, Sem.run_pure, Result.andThen_ok, List.map_toArray, List.map_cons, List.map_nil, hv, hv2]
      rw [run_copy0 ht hs hm]; rfl
    · have hw : Weak E S ⟨S.slots, (j, .arow n k get' e) :: S.owns⟩ := weak_own ho rfl fun i hi t ht => by
        rw [hg' i hi t ht, if_neg (by omega)]
      have h1 := (hw b a w hr).put (d := d) (x := .v (.int .i64 ((Nat.min n2 m : Nat) : Int))) (v := goInt 0) hd (by rw [hm]; rfl)
      exact hk _ _ ⟨b, h1⟩ Q hq
  · have hm2 : 0 < n2 ∧ 0 < m := by simp only [Nat.min_def] at hm; split at hm <;> omega
    have hle2 : Nat.min n2 m ≤ n2 := Nat.min_le_left _ _
    have hlem : Nat.min n2 m ≤ m := Nat.min_le_right _ _
    obtain ⟨hle, g, c, hb, hv⟩ := sub_at hr hx ho hm2.2
    obtain ⟨b2, o2, hA2, hb2, hX2, hcell⟩ := hrow hm2.1
    let f : Nat → Nat → Value := fun i t => (w.cell? ⟨b2, o2 + (i * k + t), none⟩).getD undef
    have hf : ∀ i, i < n2 → ∀ t, t < k → w.cell? ⟨b2, o2 + (i * k + t), none⟩ = some (f i t) ∧ (f i t).oneCell' = true ∧ RO w (S.excl E b) (get2 i t) (f i t) := fun i hi t ht => by
      obtain ⟨u, hu, h1, h2⟩ := hcell i hi t ht
      have ef : f i t = u := by simp only [f, hu, Option.getD_some]
      rw [ef]; exact ⟨hu, h1, h2⟩
    obtain ⟨cs, hl, hcs, hcs2⟩ := rows_list hkp (Nat.min n2 m) f
    obtain ⟨w', hst, hr'⟩ := own_write (P := P) hr ho lo (Nat.min n2 m) (by omega) (by omega) hkp cs hl get2 get' (fun i hi t ht => ⟨_, hcs i hi t ht, (hf i (by omega) t ht).2.1, (hf i (by omega) t ht).2.2⟩) hg' hb
    refine .inl (wp_of_run (w' := w') (v := goInt (Nat.min n2 m)) ?_ ?_)
    · simp only [execOp, resolve, invoke, builtin, Sem.run_bind, Sem.run_pure, Result.andThen_ok, List.map_toArray, List.map_cons, List.map_nil, hv, hv2, hA2]
      rw [run_copyK ht hs hl (fun q v hqv => ?_) hst]
      · rfl
      · obtain ⟨h1, rfl⟩ := hcs2 q v hqv
        have h2 := (hf (q / k) (Nat.lt_of_lt_of_le (by rw [Nat.div_lt_iff_lt_mul hkp]; exact h1) hle2) (q % k) (Nat.mod_lt _ hkp)).1
        rw [Nat.mul_comm, Nat.div_add_mod] at h2
        rw [Addr.add_lit]; exact h2
    · have h1 := hr'.put (d := d) (x := .v (.int .i64 ((Nat.min n2 m : Nat) : Int))) (v := goInt (Nat.min n2 m)) hd rfl
      exact hk _ _ ⟨b, h1⟩ Q hq
theorem t_cpS {ops : Array Oper} {rest : List Oper} {S : St} {K : St → Prop} {d : Tmp} {t t2 te : TypeId} {x y : Operand} {ty : TypeId} {pos : String} {after : Array Edge} {j n k lo m lo2 m2 : Nat} {get : Nat → Nat → SV} {e : TypeId} (get' : Nat → Nat → SV)
    (ht : P.underlying t = some (.slice te)) (hs : ∀ w, (sizeOf te).run P w = .ok k w) (hx : Val E S x (.sub j k lo m)) (ho : lookO j S.owns = some (.arow n k get e)) (hy : Val E S y (.sub j k lo2 m2)) (hkp : 0 < k)
    (hg' : ∀ i, i < n → ∀ t, t < k → get' i t = if lo ≤ i ∧ i < lo + Nat.min m2 m then get (lo2 + (i - lo)) t else get i t)
    (hk : T P E ops rest ⟨(d, .v (.int .i64 ((Nat.min m2 m : Nat) : Int))) :: S.slots, (j, .arow n k get' e) :: S.owns⟩ K) (hd : d < NN := by decide) :
    T P E ops ({ dst := some d, op := .call { callee := .builtin .copy, args := #[x, y], argTypes := #[t, t2] }, type := ty, pos, after, guard := none } :: rest) S K := by
  rintro a w ⟨b, hr⟩ Q hq
  unfold wpList
  rw [if_pos (by rfl)]
  by_cases hm : Nat.min m2 m = 0
  · obtain ⟨A, n', c, hb, _, hv⟩ := hx b a w hr
    obtain ⟨A2, n2', c2, hb2, _, hv2⟩ := hy b a w hr
    refine .inl (wp_of_run (w' := w) (v := goInt 0) ?_ ?_)
    · simp only [execOp, resolve, invoke, builtin, Sem.run_bind, Sem.run_pure, Result.andThen_ok, List.map_toArray, List.map_cons, List.map_nil, hv, hv2]
      rw [run_copy0 ht hs hm]; rfl
    · have hw : Weak E S ⟨S.slots, (j, .arow n k get' e) :: S.owns⟩ := weak_own ho rfl fun i hi t ht => by
        rw [hg' i hi t ht, if_neg (by omega)]
      have h1 := (hw b a w hr).put (d := d) (x := .v (.int .i64 ((Nat.min m2 m : Nat) : Int))) (v := goInt 0) hd (by rw [hm]; rfl)
      exact hk _ _ ⟨b, h1⟩ Q hq
  · have hm2 : 0 < m2 ∧ 0 < m := by simp only [Nat.min_def] at hm; split at hm <;> omega
    have hle2 : Nat.min m2 m ≤ m2 := Nat.min_le_left _ _
    have hlem : Nat.min m2 m ≤ m := Nat.min_le_right _ _
    obtain ⟨hle, g, c, hb, hv⟩ := sub_at hr hx ho hm2.2
    obtain ⟨hle', g', c', hb', hv'⟩ := sub_at hr hy ho hm2.1
    rw [hb] at hb'
    simp only [Value.slice.injEq, Option.some.injEq, Addr.mk.injEq, true_and, and_true, Nat.add_right_cancel_iff] at hb'
    obtain ⟨rfl, rfl⟩ := hb'
    obtain ⟨g2, c2, cur, hb2, _, hh, _, _, hsz, hcell⟩ := own_cells hr ho (by omega)
    rw [hb] at hb2
    simp only [Value.slice.injEq, Option.some.injEq, Addr.mk.injEq, true_and, and_true, Nat.add_right_cancel_iff] at hb2
    obtain ⟨rfl, rfl⟩ := hb2
    let f : Nat → Nat → Value := fun i t => (cur[(lo2 + i) * k + t]?).getD undef
    have hf : ∀ i, i < m2 → ∀ t, t < k → w.cell? ⟨g, lo2 * k + (i * k + t), none⟩ = some (f i t) ∧ (f i t).oneCell' = true ∧ RO w (S.excl E b) (get (lo2 + i) t) (f i t) := fun i hi t ht => by
      obtain ⟨u, hu, h1, h2⟩ := hcell (lo2 + i) (by omega) t ht
      have ef : f i t = u := by simp only [f, hu, Option.getD_some]
      rw [ef]
      refine ⟨?_, h1, h2⟩
      rw [cell_of_row w g _ cur e (0, 0) hh, ← Nat.add_assoc, ← Nat.add_mul]; exact hu
    obtain ⟨cs, hl, hcs, hcs2⟩ := rows_list hkp (Nat.min m2 m) f
    obtain ⟨w', hst, hr'⟩ := own_write (P := P) hr ho lo (Nat.min m2 m) (by omega) (by omega) hkp cs hl (fun i t => get (lo2 + i) t) get' (fun i hi t ht => ⟨_, hcs i hi t ht, (hf i (by omega) t ht).2.1, (hf i (by omega) t ht).2.2⟩) hg' hb
    refine .inl (wp_of_run (w' := w') (v := goInt (Nat.min m2 m)) ?_ ?_)
    · simp only [execOp, resolve, invoke, builtin, Sem.run_bind, Sem.run_pure, Result.andThen_ok, List.map_toArray, List.map_cons, List.map_nil, hv, hv']
      rw [run_copyK ht hs hl (fun q v hqv => ?_) hst]
      · rfl
      · obtain ⟨h1, rfl⟩ := hcs2 q v hqv
        have h2 := (hf (q / k) (Nat.lt_of_lt_of_le (by rw [Nat.div_lt_iff_lt_mul hkp]; exact h1) hle2) (q % k) (Nat.mod_lt _ hkp)).1
        rw [Nat.mul_comm (q / k), Nat.div_add_mod] at h2
        rw [Addr.add_lit]; exact h2
    · have h1 := hr'.put (d := d) (x := .v (.int .i64 ((Nat.min m2 m : Nat) : Int))) (v := goInt (Nat.min m2 m)) hd rfl
      exact hk _ _ ⟨b, h1⟩ Q hq
def ovr {α : Type} (l : List α) (lo : Nat) (s : List α) : List α := l.take lo ++ s ++ l.drop (lo + s.length)
theorem ovr_len {α : Type} {l s : List α} {lo : Nat} (h : lo + s.length ≤ l.length) : (ovr l lo s).length = l.length := by simp [ovr]; omega
theorem ovr_at {α : Type} {cell : α → Nat → SV} {d : α} {l s : List α} {lo : Nat} (h : lo + s.length ≤ l.length) (i t : Nat) : rowG cell d (ovr l lo s) i t = if lo ≤ i ∧ i < lo + s.length then rowG cell d s (i - lo) t else rowG cell d l i t := by
  have e : (ovr l lo s).getD i d = if lo ≤ i ∧ i < lo + s.length then s.getD (i - lo) d else l.getD i d := by
    simp only [ovr, List.getD_eq_getElem?_getD]
    have hl : (l.take lo).length = lo := by rw [List.length_take]; omega
    by_cases h1 : i < lo
    · rw [if_neg (by omega), List.append_assoc, List.getElem?_append_left (by omega), List.getElem?_take, if_pos h1]
    · by_cases h2 : i < lo + s.length
      · rw [if_pos ⟨by omega, h2⟩, List.append_assoc, List.getElem?_append_right (by omega), hl, List.getElem?_append_left (by omega)]
      · rw [if_neg (by omega), List.getElem?_append_right (by rw [List.length_append, hl]; omega), List.length_append, hl, List.getElem?_drop]
        congr 2; omega
  simp only [rowG, e]
  split <;> rfl
end Go.Eng
namespace Go.Eng
open Go.RowKit
variable {P : Program} {NN : Nat} {E : Env NN} {S : St}
theorem q_mulW {x y : Operand} {t t' : TypeId} {k : IntKind} {m n : Int} (hx : Val E S x (.v (.int k m))) (hy : Val E S y (.v (.int k n))) : OpQ P E S (.binOp .mul t x y t') (.v (.int k (k.wrap (m * n)))) := fun b a w hr dst ty pos after gd => by
  have h1 : a.eval x = .int k m := hx b a w hr
  have h2 : a.eval y = .int k n := hy b a w hr
  refine ⟨_, fun w' hw' => ?_, rfl⟩
  simp only [execOp, h1, h2, eqGuard_mul, binOp_mul]
  simp [Op.intArith]
theorem q_addW {x y : Operand} {t t' : TypeId} {k : IntKind} {m n : Int} (hx : Val E S x (.v (.int k m))) (hy : Val E S y (.v (.int k n))) : OpQ P E S (.binOp .add t x y t') (.v (.int k (k.wrap (m + n)))) := fun b a w hr dst ty pos after gd => by
  have h1 : a.eval x = .int k m := hx b a w hr
  have h2 : a.eval y = .int k n := hy b a w hr
  refine ⟨_, fun w' hw' => ?_, rfl⟩
  simp only [execOp, h1, h2, eqGuard_add, binOp_add]
  simp [Op.intArith]
theorem q_shr {x y : Operand} {t t' : TypeId} {k k2 : IntKind} {m n : Int} (hx : Val E S x (.v (.int k m))) (hy : Val E S y (.v (.int k2 n))) (hn : 0 ≤ n ∧ n ≤ k.bits) : OpQ P E S (.binOp .shr t x y t') (.v (.int k (m / 2 ^ n.toNat))) := fun b a w hr dst ty pos after gd => by
  have h1 : a.eval x = .int k m := hx b a w hr
  have h2 : a.eval y = .int k2 n := hy b a w hr
  refine ⟨_, fun w' hw' => ?_, rfl⟩
  simp only [execOp, h1, h2, eqGuard_shr, binOp_shr, shift_shr k k2 m n hn.1 hn.2]
  rfl
theorem q_conv {x : Operand} {src dst' : TypeId} {k k2 : IntKind} {m : Int} (hx : Val E S x (.v (.int k m))) (hs : P.underlying src = some (.int k)) (hd : P.underlying dst' = some (.int k2)) (h : k2.wrap m = m) : OpQ P E S (.convert src dst' x) (.v (.int k2 m)) := fun b a w hr dst ty pos after gd => by
  have h1 : a.eval x = .int k m := hx b a w hr
  refine ⟨_, fun w' hw' => ?_, rfl⟩
  have hc : (convert src dst' (.int k m)).run P w' = .ok (.int k2 m) w' := by
    simp [convert, run_underlying hs, run_underlying hd, Conv.intToInt, h]
  simp only [execOp, h1, Sem.run_bind, hc]
  rfl
section
variable {α : Type} {cell : α → Nat → SV} {dd : α} {l : List α} {ops : Array Oper} {rest : List Oper} {K : St → Prop} {d : Tmp} {t t2 te : TypeId} {x y : Operand} {ty : TypeId} {pos : String} {after : Array Edge} {j k lo m : Nat} {e : TypeId}
theorem t_cpRT {s2 : List α} (ht : P.underlying t = some (.slice te)) (hs : ∀ w, (sizeOf te).run P w = .ok k w) (hx : Val E S x (.sub j k lo m)) (ho : lookO j S.owns = some (ownOf cell k dd l e)) (hy : Val E S y (rowOf cell k dd s2)) (hkp : 0 < k) (hle : lo + m ≤ l.length)
    (hk : T P E ops rest ⟨(d, .v (.int .i64 ((Nat.min s2.length m : Nat) : Int))) :: S.slots, (j, ownOf cell k dd (ovr l lo (s2.take m)) e) :: S.owns⟩ K) (hd : d < NN := by decide) :
    T P E ops ({ dst := some d, op := .call { callee := .builtin .copy, args := #[x, y], argTypes := #[t, t2] }, type := ty, pos, after, guard := none } :: rest) S K := by
  have hl : (s2.take m).length = Nat.min s2.length m := by rw [List.length_take]; exact Nat.min_comm _ _
  have hle2 : lo + (s2.take m).length ≤ l.length := by
    have : Nat.min s2.length m ≤ m := Nat.min_le_right _ _
    rw [hl]; omega
  refine t_cpR (rowG cell dd (ovr l lo (s2.take m))) ht hs hx ho hy hkp (fun i hi t ht => ?_) ?_ hd
  · rw [ovr_at hle2, hl]
    split
    · rename_i h
      have : i - lo < m := by
        have : Nat.min s2.length m ≤ m := Nat.min_le_right _ _
        omega
      simp only [rowG, List.getD_eq_getElem?_getD, List.getElem?_take, if_pos this]
    · rfl
  · have : ownOf cell k dd (ovr l lo (s2.take m)) e = .arow l.length k (rowG cell dd (ovr l lo (s2.take m))) e := by rw [ownOf, ovr_len hle2]
    rw [this] at hk; exact hk
theorem t_cpST {lo2 m2 : Nat} (ht : P.underlying t = some (.slice te)) (hs : ∀ w, (sizeOf te).run P w = .ok k w) (hx : Val E S x (.sub j k lo m)) (ho : lookO j S.owns = some (ownOf cell k dd l e)) (hy : Val E S y (.sub j k lo2 m2)) (hkp : 0 < k) (hle : lo + m ≤ l.length) (hle' : lo2 + m2 ≤ l.length)
    (hk : T P E ops rest ⟨(d, .v (.int .i64 ((Nat.min m2 m : Nat) : Int))) :: S.slots, (j, ownOf cell k dd (ovr l lo (((l.drop lo2).take m2).take m)) e) :: S.owns⟩ K) (hd : d < NN := by decide) :
    T P E ops ({ dst := some d, op := .call { callee := .builtin .copy, args := #[x, y], argTypes := #[t, t2] }, type := ty, pos, after, guard := none } :: rest) S K := by
  have hl : (((l.drop lo2).take m2).take m).length = Nat.min m2 m := by
    rw [List.length_take, List.length_take, List.length_drop, Nat.min_eq_left (show m2 ≤ l.length - lo2 by omega)]; exact Nat.min_comm _ _
  have hle2 : lo + (((l.drop lo2).take m2).take m).length ≤ l.length := by
    have : Nat.min m2 m ≤ m := Nat.min_le_right _ _
    rw [hl]; omega
  refine t_cpS (rowG cell dd (ovr l lo (((l.drop lo2).take m2).take m))) ht hs hx ho hy hkp (fun i hi t ht => ?_) ?_ hd
  · rw [ovr_at hle2, hl]
    split
    · rename_i h
      have h1 : i - lo < m := by
        have : Nat.min m2 m ≤ m := Nat.min_le_right _ _
        omega
      have h2 : i - lo < m2 := by
        have : Nat.min m2 m ≤ m2 := Nat.min_le_left _ _
        omega
      simp only [rowG, List.getD_eq_getElem?_getD, List.getElem?_take, if_pos h1, if_pos h2, List.getElem?_drop]
    · rfl
  · have : ownOf cell k dd (ovr l lo (((l.drop lo2).take m2).take m)) e = .arow l.length k (rowG cell dd (ovr l lo (((l.drop lo2).take m2).take m))) e := by rw [ownOf, ovr_len hle2]
    rw [this] at hk; exact hk
theorem t_clrT {zget : Nat → SV} (z0 : α) (ht : P.underlying t = some (.slice te)) (hz : ZeroOk P te k zget) (hx : Val E S x (.sub j k lo m)) (ho : lookO j S.owns = some (ownOf cell k dd l e)) (hkp : 0 < k) (hle : lo + m ≤ l.length) (hi : AllN (fun t => ImpO (zget t) (cell z0 t)) k)
    (hk : T P E ops rest ⟨S.slots, (j, ownOf cell k dd (ovr l lo (List.replicate m z0)) e) :: S.owns⟩ K) :
    T P E ops ({ dst := none, op := .call { callee := .builtin .clear, args := #[x], argTypes := #[t] }, type := ty, pos, after, guard := none } :: rest) S K := by
  have hle2 : lo + (List.replicate m z0).length ≤ l.length := by rw [List.length_replicate]; exact hle
  refine t_clr (rowG cell dd (ovr l lo (List.replicate m z0))) ht hz hx ho hkp (fun i hi' t ht => ?_) ?_
  · rw [ovr_at hle2, List.length_replicate]
    by_cases q : lo ≤ i ∧ i < lo + m
    · rw [if_pos q, if_pos q]
      have : rowG cell dd (List.replicate m z0) (i - lo) t = cell z0 t := by
        simp only [rowG, List.getD_eq_getElem?_getD, List.getElem?_replicate, if_pos (show i - lo < m by omega), Option.getD_some]
      rw [this]; exact hi.at t ht
    · rw [if_neg q, if_neg q]
  · have : ownOf cell k dd (ovr l lo (List.replicate m z0)) e = .arow l.length k (rowG cell dd (ovr l lo (List.replicate m z0))) e := by rw [ownOf, ovr_len hle2]
    rw [this] at hk; exact hk
theorem turn_cutT (s j j' i : Nat) (hs : look s S.slots = some (.sub j k 0 i)) (ho : lookO j S.owns = some (ownOf cell k dd l e)) (hi : i ≤ l.length) (hf : S.fresh j' = true) (hsN : s < NN) :
    Turn E S ⟨(s, .own j') :: killS j S.slots, (j', ownOf cell k dd (l.take i) e) :: killO j S.owns⟩ := by
  have hl : (l.take i).length = i := by rw [List.length_take]; omega
  have := turn_cut (E := E) (S := S) s j j' i (rowG cell dd (l.take i)) (get := rowG cell dd l) (n := l.length) (e := e) (fun q hq t _ => by simp only [rowG, List.getD_eq_getElem?_getD, List.getElem?_take, if_pos hq]) hs ho hf hsN
  rw [ownOf, hl]; exact this
end
theorem q_nilB {S : St} {x : Operand} {j off : Nat} (hx : Val E S x (.bp j off)) : OpQ P E S (.nilCheck x) (.bp j off) := fun b a w hr dst ty pos after gd => by
  obtain ⟨g, hb, hv⟩ := hx b a w hr
  refine ⟨.pointer (some ⟨g, off, none⟩), fun w' hw' => ?_, g, hb, rfl⟩
  simp [execOp, hv]
end Go.Eng
namespace Go.Eng
abbrev V := @val_tmp
abbrev K := @val_const
abbrev Vg := @val_grd
abbrev Vj := @val_junk
abbrev Vn := @val_nil
abbrev Va := @val_agg
abbrev Vi := @val_aggI
abbrev Vf := @val_func
abbrev VA := @val_A
abbrev VF := @val_fnE'
abbrev O := @tq_op
abbrev Nq := @tq_nil
abbrev Og := @tq_opG
abbrev U := @t_op
abbrev Ug := @t_opG
abbrev Nt := @t_nil
abbrev Uw := @t_w
abbrev UwG := @t_wG
abbrev Gy := @g_yes
abbrev Gn := @g_no
abbrev Gyy := @g_gyes
abbrev Gyn := @g_gno
abbrev Sq := @c_seq
abbrev Rq := @c_rq
abbrev Rqd := @c_rqd
abbrev Rt := @c_rt
abbrev Cd := @c_cond
abbrev Sk := @c_skip
abbrev Rx := @c_ret
abbrev Bo := @c_block
abbrev Ex := @c_exit
abbrev Lo := @c_loop
abbrev Nx := @c_next
abbrev NxH := @c_nextH
abbrev We := @weakE
abbrev Rl := @row_len
abbrev CtO := @ct_of
abbrev CmO := @ctM_of
abbrev Mv := @q_move
abbrev As := @q_assign
abbrev Lt := @q_lss
abbrev Le := @q_leq
abbrev Gt := @q_gtr
abbrev Ge := @q_geq
abbrev Ql := @q_eql
abbrev Qn := @q_neq
abbrev Qo := @q_not
abbrev Qa := @q_and
abbrev Qr := @q_or
abbrev Ad := @q_add
abbrev Sb := @q_sub
abbrev Ln := @q_len
abbrev LnO := @q_lenO
abbrev Ix := @q_idx
abbrev IxN := @q_idxN
abbrev IxO := @q_idxO
abbrev IOn := @q_idxON
abbrev IUn := @q_idxUN
abbrev Fl := @q_fld
abbrev FlB := @q_fldB
abbrev FlO := @q_fldO
abbrev Ld := @q_ld
abbrev LdA := @q_ldA
abbrev LdB := @q_ldB
abbrev LBA := @q_ldBA
abbrev LdO := @q_ldO
abbrev LOA := @q_ldOA
abbrev LdU := @q_ldU
abbrev LUA := @q_ldUA
abbrev Xt := @q_ext
abbrev Mk := @q_mkf
abbrev Bu := @q_build
abbrev CQ := @tq_call
abbrev CQg := @tq_callG
abbrev CT := @t_call
abbrev CTg := @t_callG
abbrev CQv := @tq_callV
abbrev CM := @t_callM
abbrev CQb := @tq_callB
abbrev CTb := @t_callB
abbrev R1 := @ret1
abbrev R2 := @ret2
abbrev R3 := @ret3
abbrev M1 := @retM1
abbrev RR2 := @retR2
abbrev RR3 := @retR3
abbrev RM1 := @retRM1
abbrev RM3 := @retRM3
abbrev Al := @t_alloc
abbrev BxA := @t_boxA
abbrev Bx1 := @t_box1
abbrev St1 := @t_st1
abbrev StA := @t_stA
abbrev StO := @t_stO
abbrev Ap := @t_app
abbrev Tc := @c_turn
abbrev Tk := @k_turn
abbrev FzC := @c_frz
abbrev FzT := @t_frz
abbrev Ir := @imp_rfl
abbrev In := @imp_nil
abbrev Gq := @og_q
abbrev Gc := @og_call
abbrev Gp := @gs_op
abbrev Gz := @gs_nil
abbrev Rg := @c_rg
abbrev Mk2 := @t_make
theorem Z : True := trivial
end Go.Eng
namespace Go.Eng
end Go.Eng
namespace Go.Eng
open Go.RowKit
variable {P : Program} {NN : Nat} {E : Env NN} {S : St}
theorem store_at (g off : Nat) : ∀ (vs : List Value) (i : Nat), storeCells ⟨g, off, none⟩ vs i = storeCells ⟨g, 0, none⟩ vs (off + i)
  | [], _ => by simp [storeCells]
  | v :: r, i => by
    simp only [storeCells, Addr.add_lit, Nat.zero_add]
    rw [store_at g off r (i + 1), Nat.add_assoc]
theorem q_ixB {x y : Operand} {t : TypeId} {j off k i : Nat} {kk : IntKind} (hx : Val E S x (.bp j off)) (hy : Val E S y (.v (.int kk (i : Int)))) (ht : P.underlying t = some (.array (P.arrayLen t) (P.elem t))) (hs : ∀ w, (sizeOf (P.elem t)).run P w = .ok k w) (h1 : i < P.arrayLen t) :
    OpQ P E S (.indexAddr t x y) (.bp j (off + i * k)) := fun b a w hr dst ty pos after gd => by
  obtain ⟨g, hb, hv⟩ := hx b a w hr
  have h2 : a.eval y = .int kk (i : Int) := hy b a w hr
  refine ⟨.pointer (some ⟨g, off + i * k, none⟩), fun w' hw' => ?_, g, hb, rfl⟩
  have h3 : (0 : Int) ≤ (i : Int) ∧ (i : Int) < (P.arrayLen t : Int) := by omega
  simp [execOp, hv, h2, run_indexAt_array w' t _ kk _ ht, h1, hs, Addr.add_lit]
theorem q_ixE {x y : Operand} {t : TypeId} {n m off k i : Nat} {get : Nat → Nat → SV} {p : Nat} {kk : IntKind} (hx : Val E S x (.el n m get p off)) (hy : Val E S y (.v (.int kk (i : Int)))) (ht : P.underlying t = some (.array (P.arrayLen t) (P.elem t))) (hs : ∀ w, (sizeOf (P.elem t)).run P w = .ok k w) (h1 : i < P.arrayLen t) :
    OpQ P E S (.indexAddr t x y) (.el n m get p (off + i * k)) := fun b a w hr dst ty pos after gd => by
  obtain ⟨hi, g, o, hv, hg, hX, hc⟩ := hx b a w hr
  have h2 : a.eval y = .int kk (i : Int) := hy b a w hr
  refine ⟨.pointer (some ⟨g, o + (p * m + (off + i * k)), none⟩), fun w' hw' => ?_, hi, g, o, rfl, hg, hX, hc⟩
  have h3 : (0 : Int) ≤ (i : Int) ∧ (i : Int) < (P.arrayLen t : Int) := by omega
  simp [execOp, hv, h2, run_indexAt_array w' t _ kk _ ht, h1, hs, Addr.add_lit, Nat.add_assoc]
def part6 (get : Nat → SV) (off m : Nat) (get' : Nat → SV) : Nat → SV := fun t => match Nat.ble off t && Nat.blt t (off + m) with | true => get' (t - off) | false => get t
theorem t_stP {ops : Array Oper} {rest : List Oper} {K : St → Prop} {t : TypeId} {p x : Operand} {ty : TypeId} {pos : String} {after : Array Edge} {j m off q : Nat} {get get' : Nat → SV} {bt : TypeId} (g2 : Nat → SV)
    (hp : Val E S p (.bp j off)) (ho : lookO j S.owns = some (.box q get bt)) (hx : Val E S x (.agg m get')) (hs : ∀ w, (sizeOf t).run P w = .ok m w) (hq : off + m ≤ q) (hg : AllN (fun t => part6 get off m get' t = g2 t) q)
    (hk : T P E ops rest ⟨S.slots, (j, .box q g2 bt) :: S.owns⟩ K) :
    T P E ops ({ dst := none, op := .store t p x, type := ty, pos, after, guard := none } :: rest) S K := by
  rintro a w ⟨b, hr⟩ Q hQ
  obtain ⟨g, hb, hpv⟩ := hp b a w hr
  obtain ⟨vs, hv, hvm, hvc⟩ := hx b a w hr
  obtain ⟨g', cs, hb', _, hh, hm, hc⟩ := hr.owns j _ ho
  rw [hb] at hb'
  simp only [Value.pointer.injEq, Option.some.injEq, Addr.mk.injEq, and_true] at hb'
  subst hb'
  have h1 : ∀ v ∈ vs.toList, v.oneCell' = true := by
    intro v hv
    obtain ⟨i, hi, rfl⟩ := List.getElem_of_mem hv
    obtain ⟨u, hu, h1, _⟩ := hvc i (by simpa [hvm] using hi)
    rw [Array.getElem?_eq_getElem (by simpa using hi)] at hu
    simp only [Option.some.injEq] at hu
    simpa [hu] using h1
  obtain ⟨w', cs', hrun, h2, h3, h4, h5, h6⟩ := setRow_all (P := P) hh vs.toList off (by simp [hvm, hm]; omega) h1
  unfold wpList
  rw [if_pos (by rfl)]
  refine .inl (wp_of_skip (w' := w') ?_ ?_)
  · have hrun' : (storeCells ⟨g, off, none⟩ vs.toList 0).run P w = .ok () w' := by rw [store_at, Nat.add_zero]; exact hrun
    simp [execOp, Instr.storeAt, hpv, Instr.sureAddr, storeVar, hs, hv, Value.cells, hvm, hrun']
  · refine hk _ _ ⟨b, hr.setbox (cs := cs') ho hb (by omega) h5 h6 h2 (fun i hi => ?_)⟩ Q hQ
    rw [← hg.at i hi, h4 i]
    have e : (vs.toList.length) = m := by simp [hvm]
    rw [e]
    unfold part6
    by_cases c : off ≤ i ∧ i < off + m
    · obtain ⟨u, hu, h7, h8⟩ := hvc (i - off) (by omega)
      have hb2 : (Nat.ble off i && Nat.blt i (off + m)) = true := by
        rw [Bool.and_eq_true]; exact ⟨Nat.ble_eq_true_of_le c.1, Nat.ble_eq_true_of_le c.2⟩
      rw [hb2, if_pos c]
      exact ⟨u, by simpa using hu, h7, h8⟩
    · obtain ⟨u, hu, h7, h8⟩ := hc i hi
      have hb2 : (Nat.ble off i && Nat.blt i (off + m)) = false := by
        rw [Bool.eq_false_iff]; intro hh; rw [Bool.and_eq_true] at hh; exact c ⟨Nat.le_of_ble_eq_true hh.1, Nat.le_of_ble_eq_true hh.2⟩
      rw [hb2, if_neg c]
      exact ⟨u, hu, h7, h8⟩
theorem q_slA {α : Type} {cell : α → Nat → SV} {d : α} {x lo hi : Operand} {t : TypeId} {k l h : Nat} {comps : List SV} (r : List α) (ht : P.underlying t = some (.array (P.arrayLen t) (P.elem t))) (hs : ∀ w, (sizeOf (P.elem t)).run P w = .ok k w) (hx : Val E S x (elB comps 0))
    (hlo : Val E S lo (.v (.int .i64 (l : Int)))) (hhi : Val E S hi (.v (.int .i64 (h : Int)))) (hl : l < h) (hh : h ≤ P.arrayLen t) (hm : P.arrayLen t ≤ maxLen) (hc : P.arrayLen t * k ≤ comps.length) (hr : r.length = h - l)
    (he : ∀ i, i < h - l → AllN (fun q => comps.getD ((l + i) * k + q) .junk = cell (r.getD i d) q) k) :
    OpQ P E S (.slice t x (some lo) (some hi) none) (rowOf cell k d r) := fun b a w hrr dst ty pos after gd => by
  obtain ⟨_, g, o, hv, hg, hX, hcell⟩ := hx b a w hrr
  have h1 : a.eval lo = .int .i64 (l : Int) := hlo b a w hrr
  have h2 : a.eval hi = .int .i64 (h : Int) := hhi b a w hrr
  rw [Nat.zero_mul, Nat.add_zero] at hv
  have hv : a.eval x = .pointer (some ⟨g, o, none⟩) := hv
  refine ⟨.slice (some ⟨g, o + l * k, none⟩) (h - l) (P.arrayLen t - l), fun w' hw' => ?_, some ⟨g, o + l * k, none⟩, P.arrayLen t - l, by rw [hr], by omega, by omega, fun _ => ⟨g, o + l * k, rfl, hg, hX, fun i hi q hq => ?_⟩⟩
  · have h3 := run_sliceAt_array_lh (P := P) w' t ⟨g, o, none⟩ ht .i64 .i64 (l : Int) (h : Int) (by omega) (by omega) (by omega)
    simp only [execOp, Option.map_some, Option.map_none, h1, h2, hv, Sem.run_bind, h3, hs, Result.andThen_ok, Int.toNat_natCast]
    rw [slicedAt, if_neg (by omega), Addr.add_lit]; rfl
  · rw [hr] at hi
    have hlt : (l + i) * k + q < comps.length := by
      have : (l + i + 1) * k ≤ P.arrayLen t * k := Nat.mul_le_mul_right _ (by omega)
      rw [Nat.add_mul (l + i) 1 k, Nat.one_mul] at this
      omega
    obtain ⟨u, hu, h3, h4⟩ := hcell 0 (by omega) ((l + i) * k + q) hlt
    refine ⟨u, ?_, h3, ?_⟩
    · rw [← hu]
      congr 2
      rw [Nat.zero_mul, Nat.zero_add, Nat.add_mul]; omega
    · have e := (he i hi).at q hq
      show RO w _ (cell (r.getD i d) q) u
      rw [← e]; exact h4
end Go.Eng
namespace Go.Eng
open Go.RowKit
variable {P : Program} {NN : Nat} {E : Env NN}
theorem mv0 {S : St} : ∀ {xs : List Operand} {ss : List SV}, Vals E S xs ss → MVals E S (rn []) xs ss
  | [], [], _ => trivial
  | _ :: _, _ :: _, h => ⟨fun b a w hr => R_renm.2 (h.1.1 b a w hr), mv0 h.2⟩
  | [], _ :: _, h => h.elim
  | _ :: _, [], h => h.elim
end Go.Eng
namespace Go.Eng
def depsAt (l : List Oper) (k : Nat) : List Nat := match l[k]? with | some o => depsOf o | none => []
def upsB (l : List Oper) : List Nat → List Nat → Bool
  | _, [] => true
  | known, k :: r => memB k known && upsB l (depsAt l k ++ known) r
theorem deps_mem {e : Nat → Bool} {k : Nat} : ∀ {ds : List Nat}, DepsL e ds → memB k ds = true → e k = true
  | [], _, h => by cases h
  | d :: r, hd, h => by
    simp only [memB] at h
    split at h
    · rename_i hb; rw [Nat.eq_of_beq_eq_true hb]; exact hd.1
    · exact deps_mem hd.2 h
theorem deps_app {e : Nat → Bool} : ∀ {a b : List Nat}, DepsL e a → DepsL e b → DepsL e (a ++ b)
  | [], _, _, h => h
  | _ :: _, _, h, k => ⟨h.1, deps_app h.2 k⟩
theorem ups {l : List Oper} {e : Nat → Bool} (hdn : Down l e) : ∀ {ds : List Nat} (L : List Nat), DepsL e ds → upsB l ds L = true → DepsL e L
  | _, [], _, _ => trivial
  | ds, k :: r, hd, h => by
    simp only [upsB, Bool.and_eq_true] at h
    have hk := deps_mem hd h.1
    exact ⟨hk, ups hdn r (deps_app (hdn k hk) hd) h.2⟩
def AllF (e : Nat → Bool) : List Nat → Prop
  | [] => True
  | k :: r => e k = false ∧ AllF e r
def dnsB (l : List Oper) : List Nat → List Nat → Bool
  | _, [] => true
  | known, m :: r => (depsAt l m).any (fun k => memB k known) && dnsB l (m :: known) r
theorem dns {l : List Oper} {e : Nat → Bool} (hdn : Down l e) : ∀ {known : List Nat} (L : List Nat), (∀ k, memB k known = true → e k = false) → dnsB l known L = true → AllF e L
  | _, [], _, _ => trivial
  | known, m :: r, hd, h => by
    simp only [dnsB, Bool.and_eq_true] at h
    obtain ⟨k, hk, hk2⟩ := List.any_eq_true.1 h.1
    have hm : e m = false := by
      cases he : e m with
      | false => rfl
      | true =>
        have h1 : DepsL e (depsAt l m) := hdn m he
        have h2 : ∀ {ds : List Nat}, DepsL e ds → k ∈ ds → e k = true := fun {ds} => by
          induction ds with
          | nil => exact fun _ h => by cases h
          | cons d r ih =>
            intro hd hm
            rcases List.mem_cons.1 hm with rfl | hm
            · exact hd.1
            · exact ih hd.2 hm
        rw [hd k hk2] at *
        exact absurd (h2 h1 hk) (by simp)
    refine ⟨hm, dns hdn r (fun q hq => ?_) h.2⟩
    simp only [memB] at hq
    split at hq
    · rename_i hb; rw [Nat.eq_of_beq_eq_true hb]; exact hm
    · exact hd q hq
theorem dns1 {l : List Oper} {e : Nat → Bool} (hdn : Down l e) {i : Nat} (he : e i = false) (L : List Nat) (h : dnsB l [i] L = true) : AllF e L := dns hdn L (fun k hk => by
  simp only [memB] at hk
  split at hk
  · rename_i hb; rw [Nat.eq_of_beq_eq_true hb]; exact he
  · cases hk) h
end Go.Eng
namespace Go.Eng
open Go.RowKit
variable {P : Program} {NN : Nat} {E : Env NN} {S : St}
theorem cells2 {cs : Array Value} (h : cs.size = 2) : ∃ u v, cs = #[u, v] := by
  obtain ⟨l⟩ := cs
  match l, h with
  | [u, v], _ => exact ⟨u, v, rfl⟩
theorem q_bld22 {t e : TypeId} {x y : Operand} {g0 g1 : Nat → SV} {z0 z1 z2 z3 : Value} (hx : Val E S x (.agg 2 g0)) (hy : Val E S y (.agg 2 g1)) (ht : P.underlying t = some (.array 2 e)) (hs : ∀ w, (sizeOf e).run P w = .ok 2 w) (hz : ∀ w, (zeroValue t).run P w = .ok (.agg #[z0, z1, z2, z3]) w)
    (g : Nat → SV) (hg : g 0 = g0 0 ∧ g 1 = g0 1 ∧ g 2 = g1 0 ∧ g 3 = g1 1) : OpQ P E S (.build t #[(0, x), (1, y)]) (.agg 4 g) := fun b a w hr dst ty pos after gd => by
  obtain ⟨cx, hvx, hmx, hcx⟩ := hx b a w hr
  obtain ⟨cy, hvy, hmy, hcy⟩ := hy b a w hr
  obtain ⟨u0, u1, rfl⟩ := cells2 hmx
  obtain ⟨v0, v1, rfl⟩ := cells2 hmy
  obtain ⟨_, a0, a1, a2⟩ := hcx 0 (by omega)
  obtain ⟨_, b0, b1, b2⟩ := hcx 1 (by omega)
  obtain ⟨_, c0, c1, c2⟩ := hcy 0 (by omega)
  obtain ⟨_, d0, d1, d2⟩ := hcy 1 (by omega)
  simp only [List.getElem?_toArray, List.getElem?_cons_zero, List.getElem?_cons_succ, Option.some.injEq] at a0 b0 c0 d0
  subst a0; subst b0; subst c0; subst d0
  refine ⟨.agg #[u0, u1, v0, v1], fun w' hw' => ?_, _, rfl, rfl, fun i hi => ?_⟩
  · simp [execOp, hvx, hvy, Instr.build, hz, run_underlying ht, hs, Instr.fill, Value.cells]
  · match i, hi with
    | 0, _ => exact ⟨_, rfl, a1, hg.1 ▸ a2⟩
    | 1, _ => exact ⟨_, rfl, b1, hg.2.1 ▸ b2⟩
    | 2, _ => exact ⟨_, rfl, c1, hg.2.2.1 ▸ c2⟩
    | 3, _ => exact ⟨_, rfl, d1, hg.2.2.2 ▸ d2⟩
theorem q_ixAA {x y : Operand} {t : TypeId} {n m k : Nat} {get : Nat → SV} {kk : IntKind} {i : Nat} (hx : Val E S x (.agg m get)) (hy : Val E S y (.v (.int kk (i : Int)))) (e : TypeId) (ht : P.underlying t = some (.array n e)) (hs : ∀ w, (sizeOf e).run P w = .ok k w) (ha : ∀ w, (isAgg e).run P w = .ok true w) (h1 : i < n) (h2 : n * k = m) :
    OpQ P E S (.index t x y) (.agg k fun q => get (i * k + q)) := fun b a w hr dst ty pos after gd => by
  obtain ⟨cs, hv, hm, hc⟩ := hx b a w hr
  have h3 : a.eval y = .int kk (i : Int) := hy b a w hr
  have hlt : i * k + k ≤ m := by
    have : (i + 1) * k ≤ n * k := Nat.mul_le_mul_right _ h1
    rw [Nat.add_mul, Nat.one_mul] at this; omega
  refine ⟨.agg (cs.extract (i * k) (i * k + k)), fun w' _ => ?_, _, rfl, by simp; omega, fun q hq => ?_⟩
  · have h5 : (0 : Int) ≤ (i : Int) ∧ (i : Int) < (n : Int) := by omega
    simp [execOp, Instr.index, h3, asIntOf, run_underlying ht, hv, h1, hs, part, ha]
  · obtain ⟨u, hu, h4, h5⟩ := hc (i * k + q) (by omega)
    refine ⟨u, ?_, h4, h5⟩
    rw [Array.getElem?_extract, if_pos (by omega)]; exact hu
end Go.Eng
namespace Go.Proofs.Ytmcdamcedemdiaa
open Go.RowKit Go.Eng
theorem ts22 : Try.prog.underlying 22 = some (.slice (Try.prog.elem 22)) := by kernel_rfl
theorem te22 : ∀ w, (sizeOf (Try.prog.elem 22)).run Try.prog w = .ok 8 w := fun w => by kernel_rfl
theorem ts33 : Try.prog.underlying 33 = some (.slice (Try.prog.elem 33)) := by kernel_rfl
theorem te33 : ∀ w, (sizeOf (Try.prog.elem 33)).run Try.prog w = .ok 1 w := fun w => by kernel_rfl
theorem ts45 : Try.prog.underlying 45 = some (.slice (Try.prog.elem 45)) := by kernel_rfl
theorem te45 : ∀ w, (sizeOf (Try.prog.elem 45)).run Try.prog w = .ok 5 w := fun w => by kernel_rfl
theorem ts46 : Try.prog.underlying 46 = some (.slice (Try.prog.elem 46)) := by kernel_rfl
theorem te46 : ∀ w, (sizeOf (Try.prog.elem 46)).run Try.prog w = .ok 4 w := fun w => by kernel_rfl
theorem ts80 : Try.prog.underlying 80 = some (.slice (Try.prog.elem 80)) := by kernel_rfl
theorem te80 : ∀ w, (sizeOf (Try.prog.elem 80)).run Try.prog w = .ok 2 w := fun w => by kernel_rfl
theorem en31 : Enters Try.prog 31 := fun args w => by kernel_rfl
theorem en32 : Enters Try.prog 32 := fun args w => by kernel_rfl
theorem en33 : Enters Try.prog 33 := fun args w => by kernel_rfl
theorem en34 : Enters Try.prog 34 := fun args w => by kernel_rfl
theorem en35 : Enters Try.prog 35 := fun args w => by kernel_rfl
theorem en36 : Enters Try.prog 36 := fun args w => by kernel_rfl
theorem en37 : Enters Try.prog 37 := fun args w => by kernel_rfl
theorem en38 : Enters Try.prog 38 := fun args w => by kernel_rfl
theorem en39 : Enters Try.prog 39 := fun args w => by kernel_rfl
theorem en40 : Enters Try.prog 40 := fun args w => by kernel_rfl
theorem en44 : Enters Try.prog 44 := fun args w => by kernel_rfl
theorem en45 : Enters Try.prog 45 := fun args w => by kernel_rfl
theorem en46 : Enters Try.prog 46 := fun args w => by kernel_rfl
theorem en47 : Enters Try.prog 47 := fun args w => by kernel_rfl
theorem en55 : Enters Try.prog 55 := fun args w => by kernel_rfl
theorem en56 : Enters Try.prog 56 := fun args w => by kernel_rfl
theorem en60 : Enters Try.prog 60 := fun args w => by kernel_rfl
theorem en61 : Enters Try.prog 61 := fun args w => by kernel_rfl
theorem en62 : Enters Try.prog 62 := fun args w => by kernel_rfl
theorem en74 : Enters Try.prog 74 := fun args w => by kernel_rfl
theorem en78 : Enters Try.prog 78 := fun args w => by kernel_rfl
theorem en87 : Enters Try.prog 87 := fun args w => by kernel_rfl
theorem en88 : Enters Try.prog 88 := fun args w => by kernel_rfl
theorem en93 : Enters Try.prog 93 := fun args w => by kernel_rfl
theorem en98 : Enters Try.prog 98 := fun args w => by kernel_rfl
theorem en103 : Enters Try.prog 103 := fun args w => by kernel_rfl
theorem en104 : Enters Try.prog 104 := fun args w => by kernel_rfl
theorem en106 : Enters Try.prog 106 := fun args w => by kernel_rfl
theorem en107 : Enters Try.prog 107 := fun args w => by kernel_rfl
theorem en108 : Enters Try.prog 108 := fun args w => by kernel_rfl
theorem en109 : Enters Try.prog 109 := fun args w => by kernel_rfl
theorem en110 : Enters Try.prog 110 := fun args w => by kernel_rfl
theorem en111 : Enters Try.prog 111 := fun args w => by kernel_rfl
theorem en112 : Enters Try.prog 112 := fun args w => by kernel_rfl
theorem en113 : Enters Try.prog 113 := fun args w => by kernel_rfl
theorem en114 : Enters Try.prog 114 := fun args w => by kernel_rfl
theorem en115 : Enters Try.prog 115 := fun args w => by kernel_rfl
theorem en116 : Enters Try.prog 116 := fun args w => by kernel_rfl
theorem en118 : Enters Try.prog 118 := fun args w => by kernel_rfl
theorem en119 : Enters Try.prog 119 := fun args w => by kernel_rfl
theorem en124 : Enters Try.prog 124 := fun args w => by kernel_rfl
theorem en125 : Enters Try.prog 125 := fun args w => by kernel_rfl
theorem en126 : Enters Try.prog 126 := fun args w => by kernel_rfl
theorem en127 : Enters Try.prog 127 := fun args w => by kernel_rfl
theorem en129 : Enters Try.prog 129 := fun args w => by kernel_rfl
theorem en135 : Enters Try.prog 135 := fun args w => by kernel_rfl
theorem en137 : Enters Try.prog 137 := fun args w => by kernel_rfl
theorem en138 : Enters Try.prog 138 := fun args w => by kernel_rfl
theorem en139 : Enters Try.prog 139 := fun args w => by kernel_rfl
theorem en146 : Enters Try.prog 146 := fun args w => by kernel_rfl
theorem en147 : Enters Try.prog 147 := fun args w => by kernel_rfl
theorem en149 : Enters Try.prog 149 := fun args w => by kernel_rfl
theorem en150 : Enters Try.prog 150 := fun args w => by kernel_rfl
theorem laid : laidOutB Try.prog = true := by kernel_rfl
theorem ownk : ownKnob Try.prog.godebug = none := by kernel_rfl
theorem co3 : Try.prog.cellsOf 3 = 1 := by kernel_rfl
theorem zero3 : ZeroOk Try.prog 3 1 (fun _ => SV.v (.int .i64 0)) := zero_one Try.zeroValue3 rfl rfl
theorem eo22 : ElemOk Try.prog 22 61 8 80 := ⟨Try.underlying22, by
  have h : (Try.prog.info? 61).map (fun i => (i.size, i.bytes, i.zero.map fun z => z.cells.size)) = some (8, 80, some 8) := by kernel_rfl
  exact info_of h, by decide⟩
theorem rd24 : Try.prog.readableRec 24 = true ∧ 24 < Try.prog.types.size := ⟨by kernel_rfl, of_decide_eq_true (by kernel_rfl)⟩
theorem rd26 : Try.prog.readableRec 26 = true ∧ 26 < Try.prog.types.size := ⟨by kernel_rfl, of_decide_eq_true (by kernel_rfl)⟩
theorem eo33 : ElemOk Try.prog 33 3 1 8 := ⟨Try.underlying33, by
  have h : (Try.prog.info? 3).map (fun i => (i.size, i.bytes, i.zero.map fun z => z.cells.size)) = some (1, 8, some 1) := by kernel_rfl
  exact info_of h, by decide⟩
theorem eo45 : ElemOk Try.prog 45 54 5 24 := ⟨Try.underlying45, by
  have h : (Try.prog.info? 54).map (fun i => (i.size, i.bytes, i.zero.map fun z => z.cells.size)) = some (5, 24, some 5) := by kernel_rfl
  exact info_of h, by decide⟩
theorem rd45 : Try.prog.readableRec 45 = true ∧ 45 < Try.prog.types.size := ⟨by kernel_rfl, of_decide_eq_true (by kernel_rfl)⟩
theorem eo46 : ElemOk Try.prog 46 51 4 32 := ⟨Try.underlying46, by
  have h : (Try.prog.info? 51).map (fun i => (i.size, i.bytes, i.zero.map fun z => z.cells.size)) = some (4, 32, some 4) := by kernel_rfl
  exact info_of h, by decide⟩
theorem co54 : Try.prog.cellsOf 54 = 5 := by kernel_rfl
theorem co61 : Try.prog.cellsOf 61 = 8 := by kernel_rfl
theorem eo80 : ElemOk Try.prog 80 26 2 16 := ⟨Try.underlying80, by
  have h : (Try.prog.info? 26).map (fun i => (i.size, i.bytes, i.zero.map fun z => z.cells.size)) = some (2, 16, some 2) := by kernel_rfl
  exact info_of h, by decide⟩
theorem build24 : ∀ (w : World) (parts : List (Nat × Value)) (z : Value) (cs : Array Value), (zeroValue 24).run Try.prog w = .ok z w → Instr.fill (fun i => if i < 1 then some (i, 1) else none) z.cells parts = some cs → (∀ p ∈ parts, p.1 < 1) → (Instr.build 24 parts.toArray).run Try.prog w = .ok (.agg cs) w :=
  build_struct Try.underlying24 (fun w => by simp [Try.sizeOf22]; rfl)
theorem build26 : ∀ (w : World) (parts : List (Nat × Value)) (z : Value) (cs : Array Value), (zeroValue 26).run Try.prog w = .ok z w → Instr.fill (fun i => if i < 2 then some (i, 1) else none) z.cells parts = some cs → (∀ p ∈ parts, p.1 < 2) → (Instr.build 26 parts.toArray).run Try.prog w = .ok (.agg cs) w :=
  build_struct Try.underlying26 (fun w => by simp [Try.sizeOf3]; rfl)
theorem build51 : ∀ (w : World) (parts : List (Nat × Value)) (z : Value) (cs : Array Value), (zeroValue 51).run Try.prog w = .ok z w → Instr.fill (fun i => if i < 4 then some (i, 1) else none) z.cells parts = some cs → (∀ p ∈ parts, p.1 < 4) → (Instr.build 51 parts.toArray).run Try.prog w = .ok (.agg cs) w :=
  build_struct Try.underlying51 (fun w => by simp [Try.sizeOf3]; rfl)
theorem build54 : ∀ (w : World) (parts : List (Nat × Value)) (z : Value) (cs : Array Value), (zeroValue 54).run Try.prog w = .ok z w → Instr.fill (fun i => if i < 5 then some (i, 1) else none) z.cells parts = some cs → (∀ p ∈ parts, p.1 < 5) → (Instr.build 54 parts.toArray).run Try.prog w = .ok (.agg cs) w :=
  build_struct Try.underlying54 (fun w => by simp [Try.sizeOf3, Try.sizeOf4]; rfl)
theorem build61 : ∀ (w : World) (parts : List (Nat × Value)) (z : Value) (cs : Array Value), (zeroValue 61).run Try.prog w = .ok z w → Instr.fill (fun i => if i < 8 then some (i, 1) else none) z.cells parts = some cs → (∀ p ∈ parts, p.1 < 8) → (Instr.build 61 parts.toArray).run Try.prog w = .ok (.agg cs) w :=
  build_struct Try.underlying61 (fun w => by simp [Try.sizeOf3, Try.sizeOf4, Try.sizeOf33]; rfl)
abbrev Ga3 := fun w => @Try.isAgg3 w
abbrev Ga4 := fun w => @Try.isAgg4 w
abbrev Ga22 := fun w => @Try.isAgg22 w
abbrev Ga24 := fun w => @Try.isAgg24 w
abbrev Ga26 := fun w => @Try.isAgg26 w
abbrev Ga33 := fun w => @Try.isAgg33 w
abbrev Ga46 := fun w => @Try.isAgg46 w
abbrev Ga49 := fun w => @Try.isAgg49 w
abbrev Ga51 := fun w => @Try.isAgg51 w
abbrev Ga54 := fun w => @Try.isAgg54 w
abbrev Ga61 := fun w => @Try.isAgg61 w
abbrev Ga113 := fun w => @Try.isAgg113 w
abbrev Ga116 := fun w => @Try.isAgg116 w
abbrev Sz3 := fun w => @Try.sizeOf3 w
abbrev Sz4 := fun w => @Try.sizeOf4 w
abbrev Sz22 := fun w => @Try.sizeOf22 w
abbrev Sz24 := fun w => @Try.sizeOf24 w
abbrev Sz26 := fun w => @Try.sizeOf26 w
abbrev Sz33 := fun w => @Try.sizeOf33 w
abbrev Sz46 := fun w => @Try.sizeOf46 w
abbrev Sz49 := fun w => @Try.sizeOf49 w
abbrev Sz51 := fun w => @Try.sizeOf51 w
abbrev Sz54 := fun w => @Try.sizeOf54 w
abbrev Sz61 := fun w => @Try.sizeOf61 w
abbrev Sz113 := fun w => @Try.sizeOf113 w
abbrev Sz116 := fun w => @Try.sizeOf116 w
abbrev Un3 := @Try.underlying3
abbrev Un4 := @Try.underlying4
abbrev Un22 := @Try.underlying22
abbrev Un24 := @Try.underlying24
abbrev Un26 := @Try.underlying26
abbrev Un33 := @Try.underlying33
abbrev Un45 := @Try.underlying45
abbrev Un46 := @Try.underlying46
abbrev Un49 := @Try.underlying49
abbrev Un51 := @Try.underlying51
abbrev Un54 := @Try.underlying54
abbrev Un61 := @Try.underlying61
abbrev Un80 := @Try.underlying80
abbrev Un118 := @Try.underlying118
abbrev Un123 := @Try.underlying123
abbrev Un134 := @Try.underlying134
end Go.Proofs.Ytmcdamcedemdiaa
namespace Go.Proofs.Ytmcdamcedemdiaa
open Go.RowKit Go.Eng
def inCell (x : Int) (_ : Nat) : SV := iv x
def inRow (l : List Int) : SV := rowOf inCell 1 0 l
def cmpG (l : List SV) : Nat → SV := fun t => l.getD t .junk
theorem opens33 : Opens Try.prog 33 1 (fun l : List Int => l.length * 8 ≤ reachBytes ∧ l.length ≤ maxLen ∧ ∀ x ∈ l, okInt x) fun l _ => inRow l := opens_sliceW 0 Try.underlying33 (opens_int Try.underlying3) co3 (by decide) (by kernel_rfl)
structure Nd where
  used : Bool
  uses : Int
  tag : Int
  mark : Int
  par : Int
  kids : List Int
  host : Int
  closed : Bool
  deriving DecidableEq, Inhabited
def ndCell (c : Nd) : Nat → SV
  | 0 => bv c.used
  | 1 => iv c.uses
  | 2 => iv c.tag
  | 3 => iv c.mark
  | 4 => iv c.par
  | 5 => inRow c.kids
  | 6 => iv c.host
  | _ => bv c.closed
def ndRow (l : List Nd) : SV := rowOf ndCell 8 default l
def okNd (c : Nd) : Prop := okInt c.uses ∧ okInt c.tag ∧ okInt c.mark ∧ okInt c.par ∧ (c.kids.length * 8 ≤ reachBytes ∧ c.kids.length ≤ maxLen ∧ ∀ x ∈ c.kids, okInt x) ∧ okInt c.host
theorem opens61 : Opens Try.prog 61 8 okNd ndCell := fun enc w base spare held fuel cs x h hlt hwt => by
  obtain ⟨hl, hf⟩ := struct_at Try.underlying61 (by kernel_rfl) (by kernel_rfl) h hlt hwt
  obtain ⟨x0, o0, u0, hu0, p0, r0⟩ := hf 0 _ rfl (opens_bool Try.underlying4)
  obtain ⟨x1, o1, u1, hu1, p1, r1⟩ := hf 1 _ rfl (opens_int Try.underlying3)
  obtain ⟨x2, o2, u2, hu2, p2, r2⟩ := hf 2 _ rfl (opens_int Try.underlying3)
  obtain ⟨x3, o3, u3, hu3, p3, r3⟩ := hf 3 _ rfl (opens_int Try.underlying3)
  obtain ⟨x4, o4, u4, hu4, p4, r4⟩ := hf 4 _ rfl (opens_int Try.underlying3)
  obtain ⟨x5, o5, u5, hu5, p5, r5⟩ := hf 5 _ rfl opens33
  obtain ⟨x6, o6, u6, hu6, p6, r6⟩ := hf 6 _ rfl (opens_int Try.underlying3)
  obtain ⟨x7, o7, u7, hu7, p7, r7⟩ := hf 7 _ rfl (opens_bool Try.underlying4)
  refine ⟨hl, ⟨x0, x1, x2, x3, x4, x5, x6, x7⟩, ⟨o1, o2, o3, o4, o5, o6⟩, fun i hi => ?_⟩
  match i, hi with
  | 0, _ => exact ⟨_, hu0, p0, r0⟩
  | 1, _ => exact ⟨_, hu1, p1, r1⟩
  | 2, _ => exact ⟨_, hu2, p2, r2⟩
  | 3, _ => exact ⟨_, hu3, p3, r3⟩
  | 4, _ => exact ⟨_, hu4, p4, r4⟩
  | 5, _ => exact ⟨_, hu5, p5, r5⟩
  | 6, _ => exact ⟨_, hu6, p6, r6⟩
  | 7, _ => exact ⟨_, hu7, p7, r7⟩
theorem opens22 : Opens Try.prog 22 1 (fun l : List Nd => l.length * 80 ≤ reachBytes ∧ l.length ≤ maxLen ∧ ∀ x ∈ l, okNd x) fun l _ => ndRow l := opens_sliceW default Try.underlying22 opens61 co61 (by decide) (by kernel_rfl)
theorem zero61 : ZeroOk Try.prog 61 8 (cmpG [bv false, iv 0, iv 0, iv 0, iv 0, .v (.slice none 0 0), iv 0, bv false]) := by
  refine ⟨_, Try.zeroValue61, rfl, fun t ht => ?_⟩
  match t, ht with
  | 0, _ => exact ⟨_, rfl, rfl, fun _ _ => rfl⟩
  | 1, _ => exact ⟨_, rfl, rfl, fun _ _ => rfl⟩
  | 2, _ => exact ⟨_, rfl, rfl, fun _ _ => rfl⟩
  | 3, _ => exact ⟨_, rfl, rfl, fun _ _ => rfl⟩
  | 4, _ => exact ⟨_, rfl, rfl, fun _ _ => rfl⟩
  | 5, _ => exact ⟨_, rfl, rfl, fun _ _ => rfl⟩
  | 6, _ => exact ⟨_, rfl, rfl, fun _ _ => rfl⟩
  | 7, _ => exact ⟨_, rfl, rfl, fun _ _ => rfl⟩
structure Hd where
  pl : Int
  use : Int
  deriving DecidableEq, Inhabited
def hdCell (c : Hd) : Nat → SV
  | 0 => iv c.pl
  | _ => iv c.use
def hdRow (l : List Hd) : SV := rowOf hdCell 2 default l
def okHd (c : Hd) : Prop := okInt c.pl ∧ okInt c.use
theorem opens26 : Opens Try.prog 26 2 okHd hdCell := fun enc w base spare held fuel cs x h hlt hwt => by
  obtain ⟨hl, hf⟩ := struct_at Try.underlying26 (by kernel_rfl) (by kernel_rfl) h hlt hwt
  obtain ⟨x0, o0, u0, hu0, p0, r0⟩ := hf 0 _ rfl (opens_int Try.underlying3)
  obtain ⟨x1, o1, u1, hu1, p1, r1⟩ := hf 1 _ rfl (opens_int Try.underlying3)
  refine ⟨hl, ⟨x0, x1⟩, ⟨o0, o1⟩, fun i hi => ?_⟩
  match i, hi with
  | 0, _ => exact ⟨_, hu0, p0, r0⟩
  | 1, _ => exact ⟨_, hu1, p1, r1⟩
theorem zero26 : ZeroOk Try.prog 26 2 (cmpG [iv 0, iv 0]) := by
  refine ⟨_, Try.zeroValue26, rfl, fun t ht => ?_⟩
  match t, ht with
  | 0, _ => exact ⟨_, rfl, rfl, fun _ _ => rfl⟩
  | 1, _ => exact ⟨_, rfl, rfl, fun _ _ => rfl⟩
structure He where
  pl : Int
  down : Bool
  once : Bool
  stops : Bool
  id : Int
  deriving DecidableEq, Inhabited
def heCell (c : He) : Nat → SV
  | 0 => iv c.pl
  | 1 => bv c.down
  | 2 => bv c.once
  | 3 => bv c.stops
  | _ => iv c.id
def heRow (l : List He) : SV := rowOf heCell 5 default l
def okHe (c : He) : Prop := okInt c.pl ∧ okInt c.id
theorem opens54 : Opens Try.prog 54 5 okHe heCell := fun enc w base spare held fuel cs x h hlt hwt => by
  obtain ⟨hl, hf⟩ := struct_at Try.underlying54 (by kernel_rfl) (by kernel_rfl) h hlt hwt
  obtain ⟨x0, o0, u0, hu0, p0, r0⟩ := hf 0 _ rfl (opens_int Try.underlying3)
  obtain ⟨x1, o1, u1, hu1, p1, r1⟩ := hf 1 _ rfl (opens_bool Try.underlying4)
  obtain ⟨x2, o2, u2, hu2, p2, r2⟩ := hf 2 _ rfl (opens_bool Try.underlying4)
  obtain ⟨x3, o3, u3, hu3, p3, r3⟩ := hf 3 _ rfl (opens_bool Try.underlying4)
  obtain ⟨x4, o4, u4, hu4, p4, r4⟩ := hf 4 _ rfl (opens_int Try.underlying3)
  refine ⟨hl, ⟨x0, x1, x2, x3, x4⟩, ⟨o0, o4⟩, fun i hi => ?_⟩
  match i, hi with
  | 0, _ => exact ⟨_, hu0, p0, r0⟩
  | 1, _ => exact ⟨_, hu1, p1, r1⟩
  | 2, _ => exact ⟨_, hu2, p2, r2⟩
  | 3, _ => exact ⟨_, hu3, p3, r3⟩
  | 4, _ => exact ⟨_, hu4, p4, r4⟩
theorem opens45 : Opens Try.prog 45 1 (fun l : List He => l.length * 24 ≤ reachBytes ∧ l.length ≤ maxLen ∧ ∀ x ∈ l, okHe x) fun l _ => heRow l := opens_sliceW default Try.underlying45 opens54 co54 (by decide) (by kernel_rfl)
theorem zero54 : ZeroOk Try.prog 54 5 (cmpG [iv 0, bv false, bv false, bv false, iv 0]) := by
  refine ⟨_, Try.zeroValue54, rfl, fun t ht => ?_⟩
  match t, ht with
  | 0, _ => exact ⟨_, rfl, rfl, fun _ _ => rfl⟩
  | 1, _ => exact ⟨_, rfl, rfl, fun _ _ => rfl⟩
  | 2, _ => exact ⟨_, rfl, rfl, fun _ _ => rfl⟩
  | 3, _ => exact ⟨_, rfl, rfl, fun _ _ => rfl⟩
  | 4, _ => exact ⟨_, rfl, rfl, fun _ _ => rfl⟩
structure Ca where
  id : Int
  at_ : Int
  tgt : Int
  ph : Int
  deriving DecidableEq, Inhabited
def caCell (c : Ca) : Nat → SV
  | 0 => iv c.id
  | 1 => iv c.at_
  | 2 => iv c.tgt
  | _ => iv c.ph
def caRow (l : List Ca) : SV := rowOf caCell 4 default l
theorem zero51 : ZeroOk Try.prog 51 4 (cmpG [iv 0, iv 0, iv 0, iv 0]) := by
  refine ⟨_, Try.zeroValue51, rfl, fun t ht => ?_⟩
  match t, ht with
  | 0, _ => exact ⟨_, rfl, rfl, fun _ _ => rfl⟩
  | 1, _ => exact ⟨_, rfl, rfl, fun _ _ => rfl⟩
  | 2, _ => exact ⟨_, rfl, rfl, fun _ _ => rfl⟩
  | 3, _ => exact ⟨_, rfl, rfl, fun _ _ => rfl⟩
structure Sp where
  at_ : Int
  down : Bool
  deriving DecidableEq, Inhabited
def stG (l : List Nd) : Nat → SV := fun _ => ndRow l
theorem opens24 : Opens Try.prog 24 1 (fun l : List Nd => l.length * 80 ≤ reachBytes ∧ l.length ≤ maxLen ∧ ∀ x ∈ l, okNd x) stG := fun enc w base spare held fuel cs x h hlt hwt => by
  obtain ⟨hl, hf⟩ := struct_at Try.underlying24 (by kernel_rfl) (by kernel_rfl) h hlt hwt
  obtain ⟨x0, o0, u0, hu0, p0, r0⟩ := hf 0 _ rfl opens22
  refine ⟨hl, x0, o0, fun i hi => ?_⟩
  match i, hi with
  | 0, _ => exact ⟨_, hu0, p0, r0⟩
theorem zero24 : ZeroOk Try.prog 24 1 (cmpG [.v (.slice none 0 0)]) := by
  refine ⟨_, Try.zeroValue24, rfl, fun t ht => ?_⟩
  match t, ht with
  | 0, _ => exact ⟨_, rfl, rfl, fun _ _ => rfl⟩
end Go.Proofs.Ytmcdamcedemdiaa
