/- The engine, its second part: what arguments read as; maps; regions that draw their order; calls that are handed memory. -/
import Derived.Test.YtmcdamcedemdiaaEng
set_option linter.unusedVariables false
set_option linter.unusedSimpArgs false
namespace Go.Eng
open Go.RowKit Go.ChangeShapes Go.WideShapes Go.Deep
/-! What an argument reads as, opened to a symbolic value; a law's ending. -/

/-- A type's cells, read: some value of α, told by 'sv'. -/
def Opens (P : Program) (t : TypeId) (m : Nat) {α : Type} (ok : α → Prop) (sv : α → Nat → SV) : Prop :=
  ∀ {H : Type} (enc : TypeId × Value → H) (w : World) (base : Nat) (spare : Nat → Bool) (held : Bool) (fuel : Nat) (cs : List Value) (x : DataW H × List MemPlace), DataW.trod enc P w base spare held fuel t cs = some x →
    (∀ p ∈ x.2, p.block < w.heap.size) → (∀ n ∈ x.1.weights P t, n ≤ reachBytes) → cs.length = m ∧ ∃ a, ok a ∧ ∀ i, i < m → ∃ u, cs[i]? = some u ∧ u.oneCell' = true ∧ RO w (fun _ => False) (sv a i) u

def okInt (n : Int) : Prop := -9223372036854775808 ≤ n ∧ n ≤ 9223372036854775807

theorem opens_int {P : Program} {t : TypeId} (ht : P.underlying t = some (.int .i64)) : Opens P t 1 okInt fun n _ => iv n := fun enc w base spare held fuel cs x h hlt hwt => by
  obtain ⟨n, rfl, _, hw⟩ := DataW.trod_int ht h
  refine ⟨rfl, n, ?_, fun i hi => ?_⟩
  · show _ ∧ _
    simpa [Lit.wf, IntKind.min, IntKind.max, IntKind.signed, IntKind.bits] using hw
  · obtain rfl : i = 0 := by omega
    exact ⟨_, rfl, rfl, rfl⟩
theorem opens_bool {P : Program} {t : TypeId} (ht : P.underlying t = some .bool) : Opens P t 1 (fun _ : Bool => True) fun n _ => bv n := fun enc w base spare held fuel cs x h hlt hwt => by
  obtain ⟨n, rfl, _⟩ := DataW.trod_bool ht h
  refine ⟨rfl, n, trivial, fun i hi => ?_⟩
  obtain rfl : i = 0 := by omega
  exact ⟨_, rfl, rfl, rfl⟩

theorem list_choice {α : Type} {p : Nat → α → Prop} : ∀ {n : Nat}, (∀ i, i < n → ∃ a, p i a) → ∃ l : List α, l.length = n ∧ ∀ i (h : i < l.length), p i l[i]
  | 0, _ => ⟨[], rfl, fun _ h => absurd h (Nat.not_lt_zero _)⟩
  | n + 1, hp => by
    obtain ⟨l, h1, h2⟩ := list_choice (n := n) fun i hi => hp i (by omega)
    obtain ⟨a, ha⟩ := hp n (by omega)
    refine ⟨l ++ [a], by simp [h1], fun i hi => ?_⟩
    by_cases e : i < l.length
    · rw [List.getElem_append_left e]; exact h2 i e
    · have : i = l.length := by simp at hi; omega
      subst this
      simp only [List.getElem_append_right (Nat.le_refl _), Nat.sub_self, List.getElem_cons_zero]
      exact h1 ▸ ha

theorem weights_mem_all {H : Type} {P : Program} {e : TypeId} : ∀ {ds : List (DataW H)} {d : DataW H}, d ∈ ds → ∀ n ∈ d.weights P e, n ∈ DataW.weightsAll P e ds
  | _ :: _, _, .head _, n, hn => by simp only [DataW.weightsAll, List.mem_append]; exact .inl hn
  | _ :: _, _, .tail _ h, n, hn => by simp only [DataW.weightsAll, List.mem_append]; exact .inr (weights_mem_all h n hn)
theorem opens_sliceW {P : Program} {t e : TypeId} {k by_ : Nat} {α : Type} {ok : α → Prop} {sv : α → Nat → SV} (d : α) (ht : P.underlying t = some (.slice e)) (he : Opens P e k ok sv) (hC : P.cellsOf e = k) (hk : 0 < k) (hB : P.bytesOf e = by_) :
    Opens P t 1 (fun l : List α => l.length * by_ ≤ reachBytes ∧ l.length ≤ maxLen ∧ ∀ x ∈ l, ok x) fun l _ => .row l.length k (rowG sv d l) := fun enc w base spare held fuel cs x h hlt hwt => by
  rcases Go.Deep.open_slice ht h with ⟨rfl, rfl⟩ | ⟨a, len, cap, m, n, D, Pl, rfl, hb, hl, hm, hmm, rfl, hel⟩
  · refine ⟨rfl, [], ⟨by simp, Nat.zero_le _, fun x hx => (by cases hx)⟩, fun i hi => ?_⟩
    obtain rfl : i = 0 := by omega
    exact ⟨_, rfl, rfl, none, 0, rfl, Nat.le_refl _, Nat.zero_le _, fun h => absurd h (Nat.lt_irrefl 0)⟩
  · have hlm : len ≤ m := by rw [hmm]; split <;> omega
    have hall : ∀ i, i < len → ∃ y : α, ok y ∧ ∀ j, j < k → ∃ u, w.cell? (a.add (i * k + j)) = some u ∧ u.oneCell' = true ∧ RO w (fun _ => False) (sv y j) u := fun i hi => by
      obtain ⟨cs', hc, htr⟩ := hel i (by omega)
      rw [hC] at hc
      obtain ⟨_, hcl, hat⟩ := World.cells?_some hc
      obtain ⟨_, y, hy, hj⟩ := he enc w base spare held n cs' _ htr (fun p hp => hlt p (by
        simp only [List.mem_append, List.mem_flatMap, List.mem_range]
        exact .inr ⟨i, by omega, hp⟩)) (fun n hn => hwt n (by
        simp only [DataW.weights, ht, List.mem_cons, List.mem_append]
        exact .inr (.inl (weights_mem_all (List.mem_map.2 ⟨i, List.mem_range.2 hi, rfl⟩) n hn))))
      refine ⟨y, hy, fun j hj' => ?_⟩
      obtain ⟨u, hu, h1, h2⟩ := hj j hj'
      have := hat j hj'
      rw [Go.Deep.add_add] at this
      exact ⟨u, this.trans hu, h1, h2⟩
    obtain ⟨l, hll, hlp⟩ := list_choice hall
    subst hll
    refine ⟨rfl, l, ⟨?_, by omega, fun y hy => ?_⟩, fun i hi => ?_⟩
    · have := hwt _ (by simp only [DataW.weights, ht]; exact .head _)
      simp only [List.length_map, List.length_range, hB] at this
      exact Nat.le_trans (Nat.mul_le_mul_right _ (Nat.le_add_right _ _)) this
    · obtain ⟨i, hi, rfl⟩ := List.mem_iff_getElem.1 hy
      exact (hlp i hi).1
    · obtain rfl : i = 0 := by omega
      refine ⟨_, rfl, rfl, some a, cap, rfl, hl, hm, fun h0 => ?_⟩
      obtain ⟨u, hu, _⟩ := (hlp 0 h0).2 0 hk
      have hsp : a.spot = none := by
        have hu' : w.cell? a = some u := by simpa [Addr.add] using hu
        unfold World.cell? at hu'
        split at hu'
        · split at hu'
          · cases hu'
          · rename_i hs; simpa using hs
        · cases hu'
      obtain ⟨b, o, s⟩ := a
      simp only at hsp
      subst hsp
      refine ⟨b, o, rfl, ?_, fun hf => hf, fun i hi t ht => ?_⟩
      · have hu' : w.cell? ⟨b, o, none⟩ = some u := by simpa [Addr.add] using hu
        unfold World.cell? at hu'
        split at hu'
        · rename_i hh; exact (Array.getElem?_eq_some_iff.1 hh).1
        · cases hu'
      · obtain ⟨u, hu, h1, h2⟩ := (hlp i hi).2 t ht
        refine ⟨u, ?_, h1, ?_⟩
        · have e : (⟨b, o + (i * k + t), none⟩ : Addr) = Addr.add ⟨b, o, none⟩ (i * k + t) := by unfold Addr.add; split <;> simp_all
          rw [e]; exact hu
        · have e : rowG sv d l i t = sv l[i] t := by simp [rowG, List.getD_eq_getElem?_getD, hi]
          rw [e]; exact h2

theorem Opens.mono {P : Program} {t : TypeId} {m : Nat} {α : Type} {ok ok' : α → Prop} {sv : α → Nat → SV} (h : Opens P t m ok sv) (hi : ∀ a, ok a → ok' a) : Opens P t m ok' sv := fun enc w base spare held fuel cs x h1 hlt hwt => by
  obtain ⟨q1, a, q2, q3⟩ := h enc w base spare held fuel cs x h1 hlt hwt
  exact ⟨q1, a, hi a q2, q3⟩
theorem opens_slice {P : Program} {t e : TypeId} {k : Nat} {α : Type} {ok : α → Prop} {sv : α → Nat → SV} (d : α) (ht : P.underlying t = some (.slice e)) (he : Opens P e k ok sv) (hC : P.cellsOf e = k) (hk : 0 < k) :
    Opens P t 1 (fun l : List α => l.length ≤ maxLen ∧ ∀ x ∈ l, ok x) fun l _ => .row l.length k (rowG sv d l) := Opens.mono (opens_sliceW d ht he hC hk rfl) fun _ h => h.2
/-- A struct of one-cell fields: each field's reading. -/
theorem struct_at {P : Program} {t : TypeId} {fs : Array Field} (he : P.underlying t = some (.struct fs)) (hone : oneCellFields P fs = true) (hC : P.cellsOf t = fs.size) {H : Type} {enc : TypeId × Value → H} {w : World} {base : Nat} {spare : Nat → Bool}
    {held : Bool} {fuel : Nat} {cs : List Value} {x : DataW H × List MemPlace} (h : DataW.trod enc P w base spare held fuel t cs = some x) (hlt : ∀ p ∈ x.2, p.block < w.heap.size) (hwt : ∀ n ∈ x.1.weights P t, n ≤ reachBytes) :
    cs.length = fs.size ∧ ∀ (j : Nat) (f : Field), fs[j]? = some f → ∀ {α : Type} {ok : α → Prop} {sv : α → Nat → SV}, Opens P f.type 1 ok sv → ∃ a, ok a ∧ ∃ u, cs[j]? = some u ∧ u.oneCell' = true ∧ RO w (fun _ => False) (sv a 0) u := by
  obtain ⟨ys, n', _, rfl, hlen, hyl, hf⟩ := DataW.trod_struct he h
  rw [hC] at hlen
  refine ⟨hlen, fun j f hj α ok sv hop => ?_⟩
  obtain ⟨ho, hk⟩ := hone_of hone j f hj
  have hjl : j < fs.size := (Array.getElem?_eq_some_iff.1 hj).1
  have h1 := hf j f hj
  rw [ho, hk] at h1
  have hone' : (cs.drop j).take 1 = [cs[j]'(by omega)] := by
    rw [List.drop_eq_getElem_cons (by omega)]
    rfl
  rw [hone'] at h1
  have hys : ys[j]? = some (ys[j]'(by omega)) := List.getElem?_eq_getElem (by omega)
  obtain ⟨_, a, ha, hi⟩ := hop enc w base spare held n' _ _ (h1.trans hys) (fun p hp => hlt p (by
    simp only [List.mem_flatMap]
    exact ⟨_, List.getElem_mem _, hp⟩)) (fun n hn => hwt n (by
    simp only [DataW.weights, he]
    exact DataW.weights_mem_each (j := j) (t := f.type) (d := (ys[j]'(by omega)).1) (by simp [hj]) (by simp [hys]) n hn))
  obtain ⟨u, hu, h2, h3⟩ := hi 0 (by omega)
  simp only [List.getElem?_cons_zero, Option.some.injEq] at hu
  subst hu
  exact ⟨a, ha, _, List.getElem?_eq_getElem (by omega), h2, h3⟩

/-- A parameter of one cell. -/
theorem Opens.param {P : Program} {t : TypeId} {α : Type} {ok : α → Prop} {sv : α → Nat → SV} (h : Opens P t 1 ok sv) {H : Type} {enc : TypeId × Value → H} {w : World} {v : Value} {d : DataW H} {p : List MemPlace}
    (hd : DataW.Trod enc P w 0 (fun _ => true) true t v d p) (hlt : ∀ x ∈ p, x.block < w.heap.size) (hwt : ∀ n ∈ d.weights P t, n ≤ reachBytes) (hv : ∀ cs, v ≠ .agg cs) : ∃ a, ok a ∧ RO w (fun _ => False) (sv a 0) v := by
  obtain ⟨fuel, hf⟩ := hd
  obtain ⟨_, a, ha, hi⟩ := h enc w 0 _ true fuel _ _ hf hlt hwt
  obtain ⟨u, hu, _, h3⟩ := hi 0 (by omega)
  have e : v.cells = #[v] := by
    cases v <;> first | rfl | exact absurd rfl (hv _)
  rw [e] at hu
  simp at hu
  subst hu
  exact ⟨a, ha, h3⟩
/-- A parameter that is a struct. -/
theorem Opens.param_agg {P : Program} {t : TypeId} {m : Nat} {α : Type} {ok : α → Prop} {sv : α → Nat → SV} (h : Opens P t m ok sv) {H : Type} {enc : TypeId × Value → H} {w : World} {cs : Array Value} {d : DataW H} {p : List MemPlace}
    (hd : DataW.Trod enc P w 0 (fun _ => true) true t (.agg cs) d p) (hlt : ∀ x ∈ p, x.block < w.heap.size) (hwt : ∀ n ∈ d.weights P t, n ≤ reachBytes) : ∃ a, ok a ∧ RO w (fun _ => False) (.agg m (sv a)) (.agg cs) := by
  obtain ⟨fuel, hf⟩ := hd
  obtain ⟨hl, a, ha, hi⟩ := h enc w 0 _ true fuel _ _ hf hlt hwt
  have e : (Value.agg cs).cells = cs := rfl
  rw [e] at hl hi
  refine ⟨a, ha, cs, rfl, by simpa using hl, fun t ht => ?_⟩
  obtain ⟨u, hu, h2, h3⟩ := hi t ht
  exact ⟨u, by simpa using hu, h2, h3⟩

theorem weights_of {H : Type} {P : Program} {ts : List TypeId} {ds : List (DataW H)} (h : (DataW.weightsEach P ts ds).all (· ≤ reachBytes) = true) (j : Nat) {t : TypeId} {d : DataW H} (ht : ts[j]? = some t) (hd : ds[j]? = some d) : ∀ n ∈ d.weights P t, n ≤ reachBytes := fun n hn => by
  simpa using List.all_eq_true.1 h n (DataW.weights_mem_each ht hd n hn)
theorem trodAll_stays {P : Program} (hl : laidOutB P = true) {H : Type} {enc : TypeId × Value → H} {W W' : World} (hb : Below W.heap.size W W') :
    ∀ {ts : List TypeId} {vs : List Value} {ds : List (DataW H)} {ps : List MemPlace}, (∀ t ∈ ts, P.readableRec t = true ∧ t < P.types.size) → DataW.TrodAll enc P W 0 (fun _ => true) true ts vs ds ps → (∀ x ∈ ps, x.block < W.heap.size) →
      DataW.TrodAll enc P W' 0 (fun b => decide (b < W.heap.size)) true ts vs ds ps
  | [], vs, ds, ps, _, h, _ => by
    obtain ⟨rfl, rfl, rfl⟩ := trodAll_nil h
    exact trodAll_mk0
  | t :: ts, vs, ds, ps, hr, h, hlt => by
    obtain ⟨v, vs', d, ds', p, q, rfl, rfl, rfl, h1, h2⟩ := trodAll_cons h
    exact ⟨p, q, Below.trod hl (hr t (.head _)).1 (hr t (.head _)).2 h1 hb (fun x hx => hlt x (List.mem_append_left _ hx)), trodAll_stays hl hb (fun t ht => hr t (.tail _ ht)) h2 (fun x hx => hlt x (List.mem_append_right _ hx)), rfl⟩

/-- A LAW's ENDING: it answers true, and what was there stays. -/
theorem law_post {P : Program} {fn : Func} {s : ChangeSpec} {t : TypeId} {H : Type} {enc : TypeId × Value → H} {W W' : World} {args : Array Value} {ds gs : List (DataW H)} {before : List MemPlace}
    (hl : laidOutB P = true) (hr : ∀ t ∈ fn.params.toList, P.readableRec t = true ∧ t < P.types.size) (hres : fn.resultTypes = #[t]) (ht : P.underlying t = some .bool) (hvars : s.vars = [])
    (hspec : s.fn H (ds ++ gs) = { results := [.lit (.bool true)], args := ds })
    (hW : DataW.Whole enc P fn.params.toList s.vars false W args.toList ds gs before) (hb : Below W.heap.size W W') :
    s.post enc P fn false true false false W args (.bool true) W' := by
  have hW' := hW
  obtain ⟨p, q, hA, hV, rfl, hfz, hnd⟩ := hW
  rw [hvars] at hV
  obtain ⟨rfl, rfl⟩ := trodVars_none hV
  refine ⟨ds, [], p ++ [], [], p, [], hW', ?_, ?_, ?_, hb.frame _, fun h => by cases h⟩
  · rw [hspec, hres]
    exact trodAll_cons_mk (shut_bool ht _) trodAll_mk0
  · rw [hspec]
    exact trodAll_stays hl hb hr hA fun x hx => hW'.lt x (List.mem_append_left _ hx)
  · rw [hspec, hvars]
    rfl

theorem slice_not_agg {P : Program} {w : World} {r : Reach} {b : Nat} {t e : TypeId} {v : Value} (ht : P.underlying t = some (.slice e)) (h : Value.okWide P w r b t v) : ∀ cs, v ≠ .agg cs := by
  obtain ⟨a, l, c, rfl⟩ := okWide_slice ht h
  exact fun cs h => by cases h
theorem int_not_agg {P : Program} {w : World} {r : Reach} {b : Nat} {t : TypeId} {k : IntKind} {v : Value} (ht : P.underlying t = some (.int k)) (h : Value.okWide P w r b t v) : ∀ cs, v ≠ .agg cs := by
  obtain ⟨n, rfl⟩ := okWide_int ht h
  exact fun cs h => by cases h
theorem bool_not_agg {P : Program} {w : World} {r : Reach} {b : Nat} {t : TypeId} {v : Value} (ht : P.underlying t = some .bool) (h : Value.okWide P w r b t v) : ∀ cs, v ≠ .agg cs := by
  obtain ⟨n, rfl⟩ := okWide_bool ht h
  exact fun cs h => by cases h

/-- A contract, called. -/
theorem Ct.law {P : Program} {f : FuncId} {svs : List SV} (h : Ct P f svs (bv true)) {W : World} {vals : List Value} (hR : ROs W (fun _ => False) svs vals) :
    Calls P f vals.toArray W fun e W' => e = .returned (.bool true) ∧ Below W.heap.size W W' :=
  (h W (fun _ => False) vals (fun _ hf => hf.elim) hR).mono fun e W' ⟨v, he, hv, hb⟩ => ⟨by rw [he]; exact congrArg _ hv, hb⟩
end Go.Eng
namespace Go.Eng
theorem info_of {P : Program} {e : TypeId} {k bytes : Nat} (h : (P.info? e).map (fun i => (i.size, i.bytes, i.zero.map fun z => z.cells.size)) = some (k, bytes, some k)) :
    ∃ i z, P.info? e = some i ∧ i.zero = some z ∧ i.size = k ∧ i.bytes = bytes ∧ z.cells.size = k := by
  obtain ⟨i, hi, hz⟩ := Option.map_eq_some_iff.1 h
  simp only [Prod.mk.injEq] at hz
  obtain ⟨h1, h2, h3⟩ := hz
  obtain ⟨z, h4, h5⟩ := Option.map_eq_some_iff.1 h3
  exact ⟨i, z, hi, h4, h1, h2, h5⟩
end Go.Eng
namespace Go.Eng
theorem zero_one {P : Program} {t : TypeId} {u : Value} (h : ∀ w, (zeroValue t).run P w = .ok u w) (hc : u.cells = #[u]) (h1 : u.oneCell' = true) : ZeroOk P t 1 (fun _ => SV.v u) :=
  ⟨u, h, by rw [hc]; rfl, fun t ht => by
    obtain rfl : t = 0 := by omega
    exact ⟨u, by rw [hc]; rfl, h1, fun _ _ => rfl⟩⟩
end Go.Eng

namespace Go.Eng
open Go.RowKit
variable {P : Program} {NN : Nat} {E : Env NN}
/-! Maps of the frame's own make, keys and values of one cell each, told by a list of pairs. -/
def mget (kvs : List (Int × Value)) (k : Int) : Option Value := (kvs.find? (fun p => decide (p.1 = k))).map (·.2)
def mput : List (Int × Value) → Int → Value → List (Int × Value)
  | [], k, v => [(k, v)]
  | p :: r, k, v => if p.1 = k then (k, v) :: r else p :: mput r k v
theorem RepB.newmap {b : Nat → Value} {S : St} {a : Act} {w : World} (h : RepB E b S a w) {j : Nat} (hf : S.fresh j = true) :
    RepB E (setB b j (.map (some w.heap.size))) ⟨S.slots, (j, .amap []) :: S.owns⟩ a (w.alloc (.map #[] 0)) :=
  h.add (below_alloc w (.map #[] 0)) hf (fun g hg => by
    have hg : some w.heap.size = some g := hg
    injection hg with hg; omega) fun X' _ _ _ => ⟨w.heap.size, #[], 0, setB_same _ _ _, h.base_le, (MapKept.heap_alloc w _).1, rfl⟩

theorem t_makeMap {ops : Array Oper} {rest : List Oper} {S : St} {K : St → Prop} {d : Tmp} {t : TypeId} {ty : TypeId} {pos : String} {after : Array Edge} (j : Nat)
    (hf : S.fresh j = true) (hk : T P E ops rest ⟨(d, .own j) :: S.slots, (j, .amap []) :: S.owns⟩ K) (hd : d < NN := by decide) :
    T P E ops ({ dst := some d, op := .makeMap t none, type := ty, pos, after, guard := none } :: rest) S K := by
  rintro a w ⟨b, hr⟩ Q hq
  unfold wpList
  rw [if_pos (by rfl)]
  refine .inl (wp_of_run (w' := w.alloc (.map #[] 0)) (v := .map (some w.heap.size)) ?_ ?_)
  · simp [execOp, run_makeMap]
  · exact hk _ _ ⟨_, (hr.newmap hf).put (x := .own j) hd (own_val rfl)⟩ Q hq

abbrev kvOf (e : MapEntry) : Value × Value := (e.key, e.val)
abbrev kvV (p : Int × Value) : Value × Value := (.int .i64 p.1, p.2)
/-- Where a key stands in a map's list, or that it doesn't. -/
theorem find_at {k : Int} : ∀ (l : List MapEntry) (kvs : List (Int × Value)) (i : Nat), l.map kvOf = kvs.map kvV →
    (Instr.findNow (.int .i64) (.int .i64 k) l i = some none ∧ mget kvs k = none ∧ ∀ v, mput kvs k v = kvs ++ [(k, v)]) ∨
    ∃ j e, Instr.findNow (.int .i64) (.int .i64 k) l i = some (some (i + j, e.val)) ∧ l[j]? = some e ∧ e.key = .int .i64 k ∧ mget kvs k = some e.val ∧
      ∀ v, (mput kvs k v).map kvV = (l.modify j fun e => { e with key := .int .i64 k, val := v }).map kvOf
  | [], kvs, i, h => by
    cases kvs with
    | nil => exact .inl ⟨rfl, rfl, fun _ => rfl⟩
    | cons p r => cases h
  | e :: es, kvs, i, h => by
    cases kvs with
    | nil => cases h
    | cons p r =>
      simp only [List.map_cons, List.cons.injEq] at h
      obtain ⟨h0, hr⟩ := h
      have hk : e.key = .int .i64 p.1 := congrArg Prod.fst h0
      have hv : e.val = p.2 := congrArg Prod.snd h0
      by_cases q : p.1 = k
      · have hn : Instr.findNow (.int .i64) (.int .i64 k) (e :: es) i = some (some (i, e.val)) := by
          simp [Instr.findNow, hk, Instr.sameNow, q]
        refine .inr ⟨0, e, by rw [hn]; rfl, rfl, by rw [hk, q], by simp [mget, q, hv], fun v => ?_⟩
        simp only [mput, if_pos q, List.map_cons, List.modify_zero_cons, hr]
      · have hn : Instr.findNow (.int .i64) (.int .i64 k) (e :: es) i = Instr.findNow (.int .i64) (.int .i64 k) es (i + 1) := by
          have : (k == p.1) = false := by simpa using fun h => q h.symm
          simp [Instr.findNow, hk, Instr.sameNow, this]
        rcases find_at es r (i + 1) hr with ⟨h1, h2, h3⟩ | ⟨j, e', h1, h2, h3, h4, h5⟩
        · refine .inl ⟨by rw [hn, h1], ?_, fun v => ?_⟩
          · simp only [mget, List.find?_cons, decide_eq_false q]; exact h2
          · simp only [mput, if_neg q, h3 v, List.cons_append]
        · refine .inr ⟨j + 1, e', by rw [hn, h1]; simp; omega, h2, h3, ?_, fun v => ?_⟩
          · simp only [mget, List.find?_cons, decide_eq_false q]; exact h4
          · simp only [mput, if_neg q, List.map_cons, h5 v, List.modify_succ_cons, h0]

theorem run_mapPut {t kt et : TypeId} {w : World} {g : Nat} {es : Array MapEntry} {clk : Nat} {kvs : List (Int × Value)} {k : Int} {v : Value} (ht : P.underlying t = some (.map kt et)) (hkt : P.underlying kt = some (.int .i64)) (hg : w.heap[g]? = some (.map es clk))
    (hkv : es.toList.map kvOf = kvs.map kvV) :
    ∃ es' clk', (Instr.mapUpdate t (.map (some g)) (.int .i64 k) v).run P w = .ok () { w with heap := w.heap.setIfInBounds g (.map es' clk') } ∧ es'.toList.map kvOf = (mput kvs k v).map kvV := by
  have hck : ∀ e n, (Instr.checkKey e (n + 1) kt (.int .i64 k)).run P w = .ok () w := fun e n => MapKept.run_checkKey (k := .int .i64 k) hkt rfl e n
  rcases find_at (k := k) es.toList kvs 0 hkv with ⟨h1, _, h3⟩ | ⟨j, e, h1, h2, h3, h4, h5⟩
  · refine ⟨es.push { key := .int .i64 k, val := v, born := clk }, clk + 1, ?_, ?_⟩
    · have hf := MapKept.run_findKey (P := P) (w := w) hkt h1
      simp only [Instr.mapUpdate, Sem.run_bind, run_underlying ht, Result.andThen_ok, MapKept.run_getObj_map hg, hck, hf, MapKept.run_setObj_map _ hg]
    · rw [h3 v]; simp [hkv]
  · refine ⟨es.modify j fun e => { e with key := .int .i64 k, val := v }, clk, ?_, ?_⟩
    · have hf := MapKept.run_findKey (P := P) (w := w) hkt h1
      have hes : es[j]? = some e := by simpa using h2
      have hkeep : (Instr.keyThatStays (.int .i64 k) (.int .i64 k)).run P w = .ok (.int .i64 k) w := by
        simp [Instr.keyThatStays, Instr.sameBits]
      simp only [Nat.zero_add] at hf
      simp only [Instr.mapUpdate, Sem.run_bind, run_underlying ht, Result.andThen_ok, MapKept.run_getObj_map hg, hck, hf, hes, Option.map_some, Option.getD_some, h3, hkeep, MapKept.run_setObj_map _ hg]
    · rw [Array.toList_modify, h5 v]

/-- A map's entry, laid or laid anew: 'm[k] = v', and a literal's. -/
theorem t_mapPut {ops : Array Oper} {rest : List Oper} {S : St} {K : St → Prop} {t kt et : TypeId} {m xk xv : Operand} {op : Op} {ty : TypeId} {pos : String} {after : Array Edge} {j : Nat} {kvs : List (Int × Value)} {k : Int} {v : Value}
    (hop : op = .insert t m xk xv ∨ op = .mapUpdate t m xk xv) (ht : P.underlying t = some (.map kt et)) (hkt : P.underlying kt = some (.int .i64)) (hm : Val E S m (.own j)) (ho : lookO j S.owns = some (.amap kvs)) (hk : Val E S xk (iv k)) (hv : Val E S xv (.v v))
    (hr : T P E ops rest ⟨S.slots, (j, .amap (mput kvs k v)) :: S.owns⟩ K) :
    T P E ops ({ dst := none, op, type := ty, pos, after, guard := none } :: rest) S K := by
  rintro a w ⟨b, hr0⟩ Q hq
  obtain ⟨g, es, clk, hb, hbase, hh, hkv⟩ := hr0.owns j _ ho
  have h1 : a.eval m = .map (some g) := (hm b a w hr0).trans (by rw [hb]; rfl)
  have h2 : a.eval xk = .int .i64 k := hk b a w hr0
  have h3 : a.eval xv = v := hv b a w hr0
  obtain ⟨es', clk', hrun, hkv'⟩ := run_mapPut (P := P) (k := k) (v := v) ht hkt hh hkv
  have hset := MapKept.heap_set (o' := .map es' clk') hh
  unfold wpList
  rw [if_pos (by rfl)]
  refine .inl (wp_of_skip (w' := { w with heap := w.heap.setIfInBounds g (.map es' clk') }) ?_ ?_)
  · rcases hop with rfl | rfl <;> simp [execOp, h1, h2, h3, hrun]
  · refine hr _ _ ⟨b, hr0.setown (w' := { w with heap := w.heap.setIfInBounds g (.map es' clk') }) ho (g := g) (by rw [hb]; exact rfl) ⟨rfl, rfl, rfl, by simp⟩ (fun k hk => hset.2 k hk) fun X _ _ => ⟨g, es', clk', hb, hbase, hset.1, hkv'⟩⟩ Q hq

/-- 'v, ok := m[k]' -/
theorem q_lookup2 {S : St} {t kt et : TypeId} {m xk : Operand} {j : Nat} {kvs : List (Int × Value)} {k : Int} {z : Value} (ht : P.underlying t = some (.map kt et)) (hkt : P.underlying kt = some (.int .i64)) (hz : ∀ w, (zeroValue et).run P w = .ok z w)
    (hm : Val E S m (.own j)) (ho : lookO j S.owns = some (.amap kvs)) (hk : Val E S xk (iv k)) : OpQ P E S (.lookup t m xk true) (sv2 (.v ((mget kvs k).getD z)) (bv (mget kvs k).isSome)) := fun b a w hr dst ty pos after gd => by
  obtain ⟨g, es, clk, hb, hbase, hh, hkv⟩ := hr.owns j _ ho
  have h1 : a.eval m = .map (some g) := (hm b a w hr).trans (by rw [hb]; rfl)
  have h2 : a.eval xk = .int .i64 k := hk b a w hr
  refine ⟨.tuple #[(mget kvs k).getD z, .bool (mget kvs k).isSome], fun w' hw' => ?_, ?_⟩
  · have hh' : w'.heap[g]? = some (.map es clk) := by rw [hw'.block g (Array.getElem?_eq_some_iff.1 hh).1]; exact hh
    have hck : ∀ e n, (Instr.checkKey e (n + 1) kt (.int .i64 k)).run P w' = .ok () w' := fun e n => MapKept.run_checkKey (k := .int .i64 k) hkt rfl e n
    rcases find_at (k := k) es.toList kvs 0 hkv with ⟨h3, h4, _⟩ | ⟨i, e, h3, h5, _, h4, _⟩
    · have hf := MapKept.run_findKey (P := P) (w := w') hkt h3
      simp [execOp, h1, h2, Instr.lookup, run_underlying ht, MapKept.run_getObj_map hh', hck, hf, hz, h4]
    · have hf := MapKept.run_findKey (P := P) (w := w') hkt h3
      simp [execOp, h1, h2, Instr.lookup, run_underlying ht, MapKept.run_getObj_map hh', hck, hf, h4]
  · exact ⟨_, rfl, rfl, fun t ht => match t, ht with
      | 0, _ => ⟨_, rfl, rfl⟩
      | 1, _ => ⟨_, rfl, rfl⟩⟩
/-- 'm[k]' -/
theorem q_lookup1 {S : St} {t kt et : TypeId} {m xk : Operand} {j : Nat} {kvs : List (Int × Value)} {k : Int} {z : Value} (ht : P.underlying t = some (.map kt et)) (hkt : P.underlying kt = some (.int .i64)) (hz : ∀ w, (zeroValue et).run P w = .ok z w)
    (hm : Val E S m (.own j)) (ho : lookO j S.owns = some (.amap kvs)) (hk : Val E S xk (iv k)) : OpQ P E S (.lookup t m xk false) (.v ((mget kvs k).getD z)) := fun b a w hr dst ty pos after gd => by
  obtain ⟨g, es, clk, hb, hbase, hh, hkv⟩ := hr.owns j _ ho
  have h1 : a.eval m = .map (some g) := (hm b a w hr).trans (by rw [hb]; rfl)
  have h2 : a.eval xk = .int .i64 k := hk b a w hr
  refine ⟨(mget kvs k).getD z, fun w' hw' => ?_, rfl⟩
  · have hh' : w'.heap[g]? = some (.map es clk) := by rw [hw'.block g (Array.getElem?_eq_some_iff.1 hh).1]; exact hh
    have hck : ∀ e n, (Instr.checkKey e (n + 1) kt (.int .i64 k)).run P w' = .ok () w' := fun e n => MapKept.run_checkKey (k := .int .i64 k) hkt rfl e n
    rcases find_at (k := k) es.toList kvs 0 hkv with ⟨h3, h4, _⟩ | ⟨i, e, h3, h5, _, h4, _⟩
    · have hf := MapKept.run_findKey (P := P) (w := w') hkt h3
      simp [execOp, h1, h2, Instr.lookup, run_underlying ht, MapKept.run_getObj_map hh', hck, hf, hz, h4]
    · have hf := MapKept.run_findKey (P := P) (w := w') hkt h3
      simp [execOp, h1, h2, Instr.lookup, run_underlying ht, MapKept.run_getObj_map hh', hck, hf, h4]
/-- A map that nobody writes any more. -/
def mapSV (kvs : List (Int × Value)) : SV := .abs (fun w X v => ∃ (g : Nat) (es : Array MapEntry) (clk : Nat), v = .map (some g) ∧ g < w.heap.size ∧ ¬ X g ∧ w.heap[g]? = some (.map es clk) ∧ es.toList.map kvOf = kvs.map kvV)
  fun w w' X X' v he hX ⟨g, es, clk, h1, h2, h3, h4, h5⟩ => ⟨g, es, clk, h1, Nat.lt_of_lt_of_le h2 he.size, fun h => h3 (hX g h2 h), (he.block g h2 h3).trans h4, h5⟩
theorem c_frzM {c : Code} {S : St} {Q : Exit → Act → World → Prop} (j : Nat) {kvs : List (Int × Value)} (ho : lookO j S.owns = some (.amap kvs))
    (h : C P E c ⟨frzS j (mapSV kvs) S.slots, frzO j (mapSV kvs) S.owns⟩ Q) : C P E c S Q :=
  (weak_frzG j (mapSV kvs) ho fun b w X X' ⟨g, es, clk, hb, _, hh, hk⟩ hX _ => ⟨g, es, clk, by rw [hb]; rfl, (Array.getElem?_eq_some_iff.1 hh).1, hX g (by rw [hb]; exact rfl), hh, hk⟩).c h
theorem q_lookup2R {S : St} {t kt et : TypeId} {m xk : Operand} {kvs : List (Int × Value)} {k : Int} {z : Value} (ht : P.underlying t = some (.map kt et)) (hkt : P.underlying kt = some (.int .i64)) (hz : ∀ w, (zeroValue et).run P w = .ok z w)
    (hm : Val E S m (mapSV kvs)) (hk : Val E S xk (iv k)) : OpQ P E S (.lookup t m xk true) (sv2 (.v ((mget kvs k).getD z)) (bv (mget kvs k).isSome)) := fun b a w hr dst ty pos after gd => by
  obtain ⟨g, es, clk, h1, hlt, _, hh, hkv⟩ := hm b a w hr
  have h2 : a.eval xk = .int .i64 k := hk b a w hr
  refine ⟨.tuple #[(mget kvs k).getD z, .bool (mget kvs k).isSome], fun w' hw' => ?_, ?_⟩
  · have hh' : w'.heap[g]? = some (.map es clk) := by rw [hw'.block g hlt]; exact hh
    have hck : ∀ e n, (Instr.checkKey e (n + 1) kt (.int .i64 k)).run P w' = .ok () w' := fun e n => MapKept.run_checkKey (k := .int .i64 k) hkt rfl e n
    rcases find_at (k := k) es.toList kvs 0 hkv with ⟨h3, h4, _⟩ | ⟨i, e, h3, h5, _, h4, _⟩
    · have hf := MapKept.run_findKey (P := P) (w := w') hkt h3
      simp [execOp, h1, h2, Instr.lookup, run_underlying ht, MapKept.run_getObj_map hh', hck, hf, hz, h4]
    · have hf := MapKept.run_findKey (P := P) (w := w') hkt h3
      simp [execOp, h1, h2, Instr.lookup, run_underlying ht, MapKept.run_getObj_map hh', hck, hf, h4]
  · exact ⟨_, rfl, rfl, fun t ht => match t, ht with
      | 0, _ => ⟨_, rfl, rfl⟩
      | 1, _ => ⟨_, rfl, rfl⟩⟩
end Go.Eng

namespace Go.Eng
open Go.RowKit
variable {P : Program} {NN : Nat} {E : Env NN}
theorem val_fnV {S : St} {x : Operand} {f : FuncId} (h : Val E S x (fnL f [])) : Val E S x (.v (.func (.func f) #[] #[])) := fun b a w hr => by
  obtain ⟨cs, hv, hm, _⟩ := h b a w hr
  have : cs = #[] := Array.eq_empty_of_size_eq_zero hm
  subst this
  exact hv
theorem fill_congr {p p' : Nat → Option (Nat × Nat)} : ∀ (l : List (Nat × Value)) (cells cs : Array Value), (∀ x ∈ l, p' x.1 = p x.1) → Instr.fill p cells l = some cs → Instr.fill p' cells l = some cs
  | [], _, _, _, h => h
  | (i, v) :: r, cells, cs, he, h => by
    have e : p' i = p i := he (i, v) (.head _)
    simp only [Instr.fill, e] at h ⊢
    cases hp : p i with
    | none => rw [hp] at h; cases h
    | some q =>
      obtain ⟨off, size⟩ := q
      simp only [hp] at h ⊢
      split at h
      · cases h
      · rename_i hc
        rw [if_neg hc]
        exact fill_congr r _ _ (fun x hx => he x (.tail _ hx)) h
theorem build_struct {t : TypeId} {fs : Array Field} {m : Nat} (ht : P.underlying t = some (.struct fs))
    (hpl : ∀ w, (fs.mapM fun f => (do pure (f.offset, ← sizeOf f.type) : Sem (Nat × Nat))).run P w = .ok (Array.ofFn fun i : Fin m => (i.1, 1)) w) :
    ∀ (w : World) (parts : List (Nat × Value)) (z : Value) (cs : Array Value), (zeroValue t).run P w = .ok z w → Instr.fill (fun i => if i < m then some (i, 1) else none) z.cells parts = some cs → (∀ p ∈ parts, p.1 < m) → (Instr.build t parts.toArray).run P w = .ok (.agg cs) w := by
  intro w parts z cs hz hf hlt
  have hf' := fill_congr (p' := fun i => (Array.ofFn fun i : Fin m => (i.1, 1))[i]?) parts z.cells cs (fun x hx => by simp [hlt x hx]) hf
  simp only [Instr.build, Sem.run_bind, hz, Result.andThen_ok, run_underlying ht, hpl, hf', Sem.run_pure]
theorem build_array {t e : TypeId} {n m : Nat} (ht : P.underlying t = some (.array n e)) (hs : ∀ w, (sizeOf e).run P w = .ok 1 w) :
    ∀ (w : World) (parts : List (Nat × Value)) (z : Value) (cs : Array Value), (zeroValue t).run P w = .ok z w → Instr.fill (fun i => if i < m then some (i, 1) else none) z.cells parts = some cs → (∀ p ∈ parts, p.1 < m) → (Instr.build t parts.toArray).run P w = .ok (.agg cs) w := by
  intro w parts z cs hz hf hlt
  have hf' := fill_congr (p' := fun i => some (i * 1, 1)) parts z.cells cs (fun x hx => by simp [hlt x hx]) hf
  simp only [Instr.build, Sem.run_bind, hz, Result.andThen_ok, run_underlying ht, hs, hf', Sem.run_pure]
end Go.Eng

namespace Go.Eng
open Go.RowKit
variable {P : Program} {NN : Nat} {E : Env NN}
/-! Regions that draw their order, whatever stands in them: a state for every set of operations that have run. -/
def setE (e : Nat → Bool) (i : Nat) : Nat → Bool := fun k => match Nat.beq k i with | true => true | false => e k
def depsOf (o : Oper) : List Nat := (o.after.toList.filter (Region.binds .any)).map (·.on)
def DepsL (e : Nat → Bool) : List Nat → Prop
  | [] => True
  | k :: r => e k = true ∧ DepsL e r
theorem DepsL.at {e : Nat → Bool} : ∀ {l : List Nat}, DepsL e l → ∀ k ∈ l, e k = true
  | k :: r, h, x, hx => by
    cases hx with
    | head => exact h.1
    | tail _ hx => exact DepsL.at h.2 x hx
theorem DepsL.of {e : Nat → Bool} : ∀ {l : List Nat}, (∀ k ∈ l, e k = true) → DepsL e l
  | [], _ => trivial
  | k :: r, h => ⟨h k (.head _), DepsL.of fun x hx => h x (.tail _ hx)⟩
/-- What stands for an operation in the list: nothing, past its end. -/
def Down (l : List Oper) (e : Nat → Bool) : Prop := ∀ k, e k = true → DepsL e (match l[k]? with | some o => depsOf o | none => [])
def Steps (P : Program) {NN : Nat} (E : Env NN) (l : List Oper) (stE : (Nat → Bool) → St) : Nat → List Oper → Prop
  | _, [] => True
  | k, o :: r => (∀ e, Down l e → e k = false → DepsL e (depsOf o) → T P E l.toArray [o] (stE e) (fun S' => Weak E S' (stE (setE e k)))) ∧ Steps P E l stE (k + 1) r
theorem Steps.at {l : List Oper} {stE : (Nat → Bool) → St} : ∀ {r : List Oper} {k : Nat}, Steps P E l stE k r → ∀ i o, r[i]? = some o →
    ∀ e, Down l e → e (k + i) = false → DepsL e (depsOf o) → T P E l.toArray [o] (stE e) (fun S' => Weak E S' (stE (setE e (k + i))))
  | [], _, _, i, o, h => by simp at h
  | x :: r, k, hs, 0, o, h => by simp at h; subst h; exact hs.1
  | x :: r, k, hs, i + 1, o, h => by
    have := Steps.at hs.2 i o (by simpa using h)
    have e : k + 1 + i = k + (i + 1) := by omega
    rw [e] at this
    exact this
/-- Edges go backwards. -/
def backB : Nat → List Oper → Bool
  | _, [] => true
  | k, o :: r => (depsOf o).all (fun x => decide (x < k)) && backB (k + 1) r
theorem backB.at : ∀ {r : List Oper} {k : Nat}, backB k r = true → ∀ i o, r[i]? = some o → ∀ x ∈ depsOf o, x < k + i
  | [], _, _, i, o, h => by simp at h
  | y :: r, k, hb, 0, o, h => by
    simp at h; subst h
    simp only [backB, Bool.and_eq_true, List.all_eq_true, decide_eq_true_eq] at hb
    exact fun x hx => by have := hb.1 x hx; omega
  | y :: r, k, hb, i + 1, o, h => by
    simp only [backB, Bool.and_eq_true] at hb
    intro x hx
    have := backB.at hb.2 i o (by simpa using h) x hx
    omega
theorem upon_mono {o : Oper} {a : Act} {N : Act → World → Prop} {Q Q2 : Exit → Act → World → Prop} (hQ : ∀ x a w, x ≠ .normal → Q x a w → Q2 x a w) {r : Result Next} (h : o.upon P a N Q r) : o.upon P a N Q2 r := by
  cases r with
  | ok n w' =>
    cases n <;> simp only [Oper.upon] at h ⊢ <;>
      first
        | exact h
        | exact Calls.mono h (fun e w'' he => by
            cases e with
            | returned v => exact he
            | panicked c => exact hQ _ _ _ (by simp) he
            | outgrown => obtain ⟨a, w, hh⟩ := he; exact ⟨a, w, hQ _ _ _ (by simp) hh⟩)
  | halt x w' => cases x <;> simp only [Oper.upon] at h ⊢ <;> exact hQ _ _ _ (by simp) h

def flags (listed : Array Bool) : Nat → Bool := fun i => listed.getD i false
def leftN (listed : Array Bool) : Nat := listed.toList.countP (fun b => !b)
theorem ready_mem {md : Region.Mode} {l : List Oper} {listed : Array Bool} (hsz : listed.size = l.length) {i : Nat} (h : i ∈ Region.ready md l.toArray listed) :
    ∃ o, l[i]? = some o ∧ flags listed i = false ∧ ∀ ed ∈ o.after.toList, Region.binds md ed = true → flags listed ed.on = true := by
  simp only [Region.ready, List.mem_filter, List.mem_range, Bool.and_eq_true, Bool.not_eq_true', List.size_toArray] at h
  obtain ⟨hi, h1, h2⟩ := h
  have hl : l[i]? = some l[i] := List.getElem?_eq_getElem hi
  refine ⟨l[i], hl, ?_, fun ed he hb => ?_⟩
  · have h3 : i < listed.size := by omega
    simp only [Array.getD_eq_getD_getElem?, Array.getElem?_eq_getElem h3, Option.getD_some, flags] at h1 ⊢
    exact h1
  · have h4 : (l.toArray[i]?) = some l[i] := by simp [hi]
    rw [h4] at h2
    simp only [Option.map_some, Option.getD_some, Array.all_eq_true_iff_forall_mem, Bool.or_eq_true, Bool.not_eq_true'] at h2
    rcases h2 ed (by simpa using he) with h5 | h5
    · rw [hb] at h5; cases h5
    · exact h5
theorem mem_ready {md : Region.Mode} {l : List Oper} {listed : Array Bool} (hsz : listed.size = l.length) {i : Nat} {o : Oper} (ho : l[i]? = some o) (he : flags listed i = false)
    (hd : ∀ ed ∈ o.after.toList, Region.binds md ed = true → flags listed ed.on = true) : i ∈ Region.ready md l.toArray listed := by
  have hi : i < l.length := (List.getElem?_eq_some_iff.1 ho).1
  have hoi : l[i] = o := (List.getElem?_eq_some_iff.1 ho).2
  simp only [Region.ready, List.mem_filter, List.mem_range, Bool.and_eq_true, Bool.not_eq_true', List.size_toArray]
  refine ⟨hi, ?_, ?_⟩
  · have h3 : i < listed.size := by omega
    simp only [Array.getD_eq_getD_getElem?, Array.getElem?_eq_getElem h3, Option.getD_some, flags] at he ⊢
    exact he
  · have h4 : (l.toArray[i]?) = some o := by simp [ho]
    rw [h4]
    simp only [Option.map_some, Option.getD_some, Array.all_eq_true_iff_forall_mem, Bool.or_eq_true, Bool.not_eq_true']
    intro ed hed
    cases hb : Region.binds md ed with
    | false => exact .inl rfl
    | true => exact .inr (hd ed (by simpa using hed) hb)
theorem leftN_set {listed : Array Bool} {i : Nat} (hi : i < listed.size) (h : flags listed i = false) : leftN (listed.setIfInBounds i true) + 1 = leftN listed := by
  obtain ⟨l⟩ := listed
  simp only [leftN, flags, Array.getD_eq_getD_getElem?, List.getElem?_toArray, List.setIfInBounds_toArray] at *
  simp only [List.size_toArray] at hi
  induction l generalizing i with
  | nil => simp at hi
  | cons x r ih =>
    cases i with
    | zero =>
      simp at h; subst h
      simp [List.countP_cons]
    | succ i =>
      have := ih (i := i) (by simpa using h) (by simpa using hi)
      simp only [List.set_cons_succ, List.countP_cons]
      omega
theorem leftN_zero {listed : Array Bool} (h : leftN listed = 0) : ∀ i, i < listed.size → flags listed i = true := by
  intro i hi
  simp only [leftN, List.countP_eq_zero] at h
  have := h listed[i] (by simp)
  simp only [flags, Array.getD_eq_getD_getElem?, Array.getElem?_eq_getElem hi, Option.getD_some]
  simpa using this
theorem flags_set {listed : Array Bool} {i : Nat} (hi : i < listed.size) : flags (listed.setIfInBounds i true) = setE (flags listed) i := by
  funext k
  simp only [flags, setE, Array.getD_eq_getD_getElem?, Array.getElem?_setIfInBounds]
  by_cases e : i = k
  · subst e; simp [hi]
  · have hb : Nat.beq k i = false := by
      cases hb : Nat.beq k i
      · rfl
      · exact absurd (Nat.eq_of_beq_eq_true hb).symm e
    rw [if_neg e, hb]
theorem deps_iff {o : Oper} {e : Nat → Bool} : DepsL e (depsOf o) ↔ ∀ ed ∈ o.after.toList, Region.binds .any ed = true → e ed.on = true := by
  constructor
  · intro h ed he hb
    exact h.at _ (List.mem_map.2 ⟨ed, List.mem_filter.2 ⟨he, hb⟩, rfl⟩)
  · intro h
    refine DepsL.of fun k hk => ?_
    obtain ⟨ed, hed, rfl⟩ := List.mem_map.1 hk
    obtain ⟨h1, h2⟩ := List.mem_filter.1 hed
    exact h ed h1 h2

theorem wpAny_steps {l : List Oper} {stE : (Nat → Bool) → St} {Q : Exit → Act → World → Prop} (hb : backB 0 l = true) (hs : Steps P E l stE 0 l) (hf : ∀ e, (∀ i, i < l.length → e i = true) → ∀ a w, Rep E (stE e) a w → Q .normal a w) :
    ∀ (fuel : Nat) (listed : Array Bool) (a : Act) (w : World), listed.size = l.length → leftN listed ≤ fuel → Down l (flags listed) → Rep E (stE (flags listed)) a w → wpAny P .any l.toArray Q fuel listed a w := by
  have hempty : ∀ (listed : Array Bool), listed.size = l.length → Region.ready .any l.toArray listed = [] → ∀ i, i < l.length → flags listed i = true := by
    intro listed hsz hr i
    induction i using Nat.strongRecOn with
    | ind i ih =>
      intro hi
      cases hfl : flags listed i with
      | true => rfl
      | false =>
        have hm := mem_ready (md := .any) hsz (List.getElem?_eq_getElem hi) hfl (fun ed hed hbd => by
          have hlt := backB.at hb i _ (List.getElem?_eq_getElem hi) ed.on (List.mem_map.2 ⟨ed, List.mem_filter.2 ⟨hed, hbd⟩, rfl⟩)
          exact ih ed.on (by omega) (by omega))
        rw [hr] at hm; cases hm
  intro fuel
  induction fuel with
  | zero =>
    intro listed a w hsz hle hd hr
    have hall := leftN_zero (Nat.le_zero.1 hle)
    refine ⟨?_, hf _ (fun i hi => hall i (by omega)) a w hr⟩
    refine List.eq_nil_iff_forall_not_mem.2 fun i hi => ?_
    obtain ⟨o, ho, h1, _⟩ := ready_mem hsz hi
    have := hall i (by have := (List.getElem?_eq_some_iff.1 ho).1; omega)
    rw [h1] at this; cases this
  | succ fuel ih =>
    intro listed a w hsz hle hd hr
    refine ⟨fun h0 => hf _ (hempty listed hsz h0) a w hr, fun i hi => ?_⟩
    obtain ⟨o, ho, h1, h2⟩ := ready_mem hsz hi
    have hil : i < listed.size := by have := (List.getElem?_eq_some_iff.1 ho).1; omega
    have hst := Steps.at hs i o ho (flags listed) hd (by rw [Nat.zero_add]; exact h1) (deps_iff.2 h2)
    rw [Nat.zero_add] at hst
    let K : Act → World → Prop := wpAny P .any l.toArray Q fuel (listed.setIfInBounds i true)
    let Q2 : Exit → Act → World → Prop := fun x a w => match x with | .normal => K a w | _ => False
    have hstep := hst a w hr Q2 (fun S' a' w' hw hr' => by
      show K a' w'
      obtain ⟨b, hr'⟩ := hr'
      refine ih _ a' w' (by simpa using hsz) (by have := leftN_set hil h1; omega) ?_ ?_
      · intro k hk
        rw [flags_set hil] at hk ⊢
        by_cases e : k = i
        · subst e
          rw [ho]
          refine deps_iff.2 fun ed hed hbd => ?_
          have := h2 ed hed hbd
          simp only [setE]
          split
          · rfl
          · exact this
        · have hk' : flags listed k = true := by
            simp only [setE] at hk
            split at hk
            · rename_i hb'; exact absurd (Nat.eq_of_beq_eq_true hb') e
            · exact hk
          refine DepsL.of fun x hx => ?_
          have := (hd k hk').at x hx
          simp only [setE]
          split
          · rfl
          · exact this
      · rw [flags_set hil]
        exact ⟨b, hw b a' w' hr'⟩)
    unfold wpOp
    have ho' : l.toArray[i]? = some o := by simp [ho]
    rw [ho']
    unfold wpList at hstep
    by_cases hw : Region.wanted o (yielded l.toArray a.tmps) = true
    · rw [if_pos hw] at hstep
      simp only []
      rw [if_pos hw]
      have hbad : ∀ x (a : Act) (w : World), x ≠ Exit.normal → Q2 x a w → Q x a w := by
        intro x a w hx hq
        cases x <;> first | exact absurd rfl hx | exact hq.elim
      rcases hstep with h | ⟨h, a', w', h'⟩
      · have e : wpList P l.toArray Q2 [] = K := by funext a w; simp only [wpList]; rfl
        rw [e] at h
        exact .inl (upon_mono hbad h)
      · exact h'.elim
    · rw [if_neg hw] at hstep
      simp only []
      rw [if_neg hw]
      unfold wpList at hstep
      exact hstep

theorem c_rd {id : Nat} {l : List Oper} {S : St} {Q : Exit → Act → World → Prop} (stE : (Nat → Bool) → St) (Sf : St) (hm : P.follows .mixedOrders = true) (hb : backB 0 l = true) (h0 : Weak E S (stE fun _ => false)) (hs : Steps P E l stE 0 l)
    (hf : ∀ e, (∀ i, i < l.length → e i = true) → Weak E (stE e) Sf) (hk : ∀ a w, Rep E Sf a w → Q .normal a w) : C P E (.region id l.toArray true) S Q := by
  rintro a w ⟨b, hr⟩
  refine wp_region_any hm ?_
  have hfl : flags (Array.replicate l.toArray.size false) = fun _ => false := by
    funext i
    simp only [flags, Array.getD_eq_getD_getElem?, Array.getElem?_replicate]
    split <;> rfl
  refine wpAny_steps hb hs (fun e he a w ⟨b, hr⟩ => hk a w ⟨b, hf e he b a w hr⟩) l.toArray.size _ a _ (by simp) ?_ ?_ ?_
  · simp only [leftN]
    refine Nat.le_trans List.countP_le_length ?_
    simp
  · rw [hfl]
    intro k hk
    cases hk
  · rw [hfl]
    exact ⟨b, h0 b a _ (hr.world (below_drew w))⟩
end Go.Eng
namespace Go.Eng
open Go.RowKit
variable {P : Program} {NN : Nat} {E : Env NN}
def cj (b : Bool) (x : SV) : SV := match b with | true => x | false => .junk
def cb (b : Bool) (x y : List (Nat × Own)) : List (Nat × Own) := match b with | true => x | false => y
def cjn (b : Bool) (x : SV) : SV := match b with | true => .junk | false => x
theorem noId_cj {j : Nat} {b : Bool} {x : SV} (h : x.noId j = true) : (cj b x).noId j = true := by cases b <;> first | exact h | rfl
theorem noId_cjn {j : Nat} {b : Bool} {x : SV} (h : x.noId j = true) : (cjn b x).noId j = true := by cases b <;> first | exact h | rfl
def FreshP (j : Nat) : List (Nat × SV) → Prop
  | [] => True
  | p :: r => p.2.noId j = true ∧ FreshP j r
theorem fresh_mk {j : Nat} {sl : List (Nat × SV)} {ow : List (Nat × Own)} (h : FreshP j sl) (ho : freshO j ow = true) (hl : Nat.blt j 1000 = true) : St.fresh j ⟨sl, ow⟩ = true := by
  simp only [St.fresh, ho, hl, Bool.and_true]
  clear ho hl
  induction sl with
  | nil => rfl
  | cons p r ih => simp only [freshS, h.1, ih h.2, Bool.and_true]
theorem val_junk {S : St} {x : Operand} : Val E S x .junk := fun _ _ _ _ => trivial
theorem val_kc {S : St} {x : Operand} {j : Nat} {b : Bool} {y : SV} (hk : kill j y = y) (h : Val E S x (kill j (cj b y))) : Val E S x (cj b y) := by
  cases b with
  | true => exact hk ▸ h
  | false => exact val_junk
theorem weakS {S : St} {sl : List (Nat × SV)} (hs : AllV E S sl) : Weak E S ⟨sl, S.owns⟩ := fun b a w hr => {
  size := hr.size
  defers := hr.defers
  below := hr.below
  slots := fun s x hx => hs.look s x hx b a w hr
  owns := hr.owns
  mine := hr.mine
  apart := hr.apart
  old := hr.old }
theorem fls {b c : Bool} (hb : b = false) (h : c = true → b = true) : c = false := by
  cases c with
  | false => rfl
  | true => rw [h rfl] at hb; cases hb
end Go.Eng
namespace Go.Eng
open Go.RowKit
variable {P : Program} {NN : Nat} {E : Env NN}
/-- The same own slice, its list said in other words. -/
theorem c_ownE {α : Type} {f : α → Nat → SV} {k : Nat} {d : α} {e : TypeId} {code : Code} {S : St} {Q : Exit → Act → World → Prop} (j : Nat) {l1 : List α} (l2 : List α) (ho : lookO j S.owns = some (ownOf f k d l1 e)) (h : l1 = l2)
    (hk : C P E code ⟨S.slots, (j, ownOf f k d l2 e) :: S.owns⟩ Q) : C P E code S Q := by
  subst h
  exact c_own j _ ho rfl (fun _ _ _ _ => rfl) hk
end Go.Eng

namespace Go.Eng
open Go.RowKit
variable {P : Program} {NN : Nat} {E : Env NN}
/-! Function values, with what they hold. -/
def Rs (w : World) (X : Nat → Prop) (b : Nat → Value) : List SV → List Value → Prop
  | [], [] => True
  | s :: ss, v :: vs => R w X b s v ∧ Rs w X b ss vs
  | _, _ => False
theorem rs_of_at {w : World} {X : Nat → Prop} {b : Nat → Value} : ∀ {l : List SV} {vals : List Value}, vals.length = l.length → (∀ t, t < l.length → ∃ u, vals[t]? = some u ∧ R w X b (l.getD t .junk) u) → Rs w X b l vals
  | [], [], _, _ => trivial
  | s :: ss, v :: vs, hl, h => ⟨by
      obtain ⟨u, hu, hr⟩ := h 0 (by simp)
      simp at hu; subst hu; exact hr, rs_of_at (by simpa using hl) fun t ht => by simpa using h (t + 1) (by simpa using ht)⟩
  | [], _ :: _, hl, _ => by simp at hl
  | _ :: _, [], hl, _ => by simp at hl
theorem ros_of_at {w : World} {X : Nat → Prop} : ∀ {l : List SV} {vals : List Value}, vals.length = l.length → (∀ t, t < l.length → ∃ u, vals[t]? = some u ∧ RO w X (l.getD t .junk) u) → ROs w X l vals
  | [], [], _, _ => trivial
  | s :: ss, v :: vs, hl, h => ⟨by
      obtain ⟨u, hu, hr⟩ := h 0 (by simp)
      simp at hu; subst hu; exact hr, ros_of_at (by simpa using hl) fun t ht => by simpa using h (t + 1) (by simpa using ht)⟩
  | [], _ :: _, hl, _ => by simp at hl
  | _ :: _, [], hl, _ => by simp at hl
theorem ros_app {w : World} {X : Nat → Prop} : ∀ {l l' : List SV} {vs vs' : List Value}, ROs w X l vs → ROs w X l' vs' → ROs w X (l ++ l') (vs ++ vs')
  | [], _, [], _, _, h => h
  | _ :: _, _, _ :: _, _, h, h' => ⟨h.1, ros_app h.2 h'⟩
  | [], _, _ :: _, _, h, _ => h.elim
  | _ :: _, _, [], _, h, _ => h.elim
theorem rs_app {w : World} {X : Nat → Prop} {b : Nat → Value} : ∀ {l l' : List SV} {vs vs' : List Value}, Rs w X b l vs → Rs w X b l' vs' → Rs w X b (l ++ l') (vs ++ vs')
  | [], _, [], _, _, h => h
  | _ :: _, _, _ :: _, _, h, h' => ⟨h.1, rs_app h.2 h'⟩
  | [], _, _ :: _, _, h, _ => h.elim
  | _ :: _, _, [], _, h, _ => h.elim
theorem rs_len {w : World} {X : Nat → Prop} {b : Nat → Value} : ∀ {l : List SV} {vs : List Value}, Rs w X b l vs → vs.length = l.length
  | [], [], _ => rfl
  | _ :: ys, _ :: vs, h => by simp [rs_len (l := ys) (vs := vs) h.2]
  | [], _ :: _, h => h.elim
  | _ :: _, [], h => h.elim

/-- An operand comes to the function f, with what it holds. -/
def FnVal {NN : Nat} (E : Env NN) (S : St) (x : Operand) (f : FuncId) (caps : List SV) : Prop := ∀ b a w, RepB E b S a w → ∃ vals : List Value, a.eval x = .func (.func f) #[] vals.toArray ∧ Rs w (S.excl E b) b caps vals
/-- A function that is nobody's own, in one word. -/
def fnA (f : FuncId) (caps : List SV) : SV := .abs (fun w X v => RO w X (fnL f caps) v) fun _ _ _ _ _ he hX h => RO.mono he hX h
theorem fnval_L {S : St} {x : Operand} {f : FuncId} {caps : List SV} (h : Val E S x (fnL f caps)) : FnVal E S x f caps := fun b a w hr => by
  obtain ⟨cs, hv, hm, hc⟩ := h b a w hr
  exact ⟨cs.toList, by simpa using hv, rs_of_at (by simpa using hm) fun t ht => by
    obtain ⟨u, hu, hr⟩ := hc t ht
    exact ⟨u, by simpa using hu, hr⟩⟩
theorem fnval_A {S : St} {x : Operand} {f : FuncId} {caps : List SV} (h : Val E S x (fnA f caps)) : FnVal E S x f caps := fnval_L fun b a w hr => RO.toR (x := fnL f caps) (h b a w hr)
theorem val_A {S : St} {x : Operand} {f : FuncId} {caps : List SV} (h : Val E S x (fnL f caps)) (hro : (fnL f caps).isRO = true) : Val E S x (fnA f caps) := fun b a w hr => (h b a w hr).toRO hro
def allRO : List SV → Bool
  | [] => true
  | x :: r => x.isRO && allRO r
theorem Rs.ros {w : World} {X : Nat → Prop} {b : Nat → Value} : ∀ {l : List SV} {vs : List Value}, Rs w X b l vs → allRO l = true → ROs w X l vs
  | [], [], _, _ => trivial
  | _ :: _, _ :: _, h, hr => by
    simp only [allRO, Bool.and_eq_true] at hr
    exact ⟨h.1.toRO hr.1, Rs.ros h.2 hr.2⟩
  | [], _ :: _, h, _ => h.elim
  | _ :: _, [], h, _ => h.elim
theorem ROs.rs {w : World} {X : Nat → Prop} {b : Nat → Value} : ∀ {l : List SV} {vs : List Value}, ROs w X l vs → Rs w X b l vs
  | [], [], _ => trivial
  | _ :: _, _ :: _, h => ⟨h.1.toR, ROs.rs h.2⟩
  | [], _ :: _, h => h.elim
  | _ :: _, [], h => h.elim

theorem run_callV {f : FuncId} (hf : Enters P f) (a : Act) (x : Operand) (caps : List Value) (hx : a.eval x = .func (.func f) #[] caps.toArray) (xs : List Operand) (ats : Array TypeId) (dst : Option Tmp) (ty : TypeId) (pos : String) (after : Array Edge) (gd : Option (Nat × Bool)) (w : World) :
    (execOp a.eval { dst, op := .call { callee := .value x, args := xs.toArray, argTypes := ats }, type := ty, pos, after, guard := gd }).run P w = .ok (.enter f (xs.map a.eval ++ caps).toArray) w := by
  simp only [execOp, resolve, hx, Deferred.ofValue, Sem.run_bind, Sem.run_pure, Result.andThen_ok, invoke]
  rw [hf]
  simp
/-- A function value that holds nothing of the frame's own is called: a plain value comes back. -/
theorem tq_callV {ops : Array Oper} {rest : List Oper} {S : St} {K : St → Prop} {d : Tmp} {f : FuncId} {caps : List SV} {xf : Operand} {xs : List Operand} {ats : Array TypeId} {ty : TypeId} {pos : String} {after : Array Edge} {args : List SV} {x : Value}
    (hxf : FnVal E S xf f caps) (hro : allRO caps = true) (hf : Enters P f) (ha : Vals E S xs args) (h : Ct P f (args ++ caps) (.v x)) (hk : TQ P E ops rest (nextQ S d (.v x)) K) (hd : d < NN := by decide) :
    TQ P E ops ({ dst := some d, op := .call { callee := .value xf, args := xs.toArray, argTypes := ats }, type := ty, pos, after, guard := none } :: rest) S K := fun b a w hr => by
  unfold wpQuiet
  rw [if_pos (by rfl)]
  refine ⟨x, fun w' hw' => ?_, hk b _ w (hr.put hd rfl)⟩
  unfold Oper.quietAt
  have hr' : RepB E b S a w' := hr.world hw'
  obtain ⟨vals, hv, hc⟩ := hxf b a w' hr'
  rw [run_callV hf a xf vals hv]
  refine ⟨rfl, ?_⟩
  refine (h w' (S.excl E b) _ (fun g hg => Nat.lt_of_lt_of_le (hr.excl_lt hg) hw'.size) (ros_app (hr' |> ha.ros) (hc.ros hro))).mono ?_
  rintro e w'' ⟨v, rfl, hv, hb⟩
  have : v = x := hv
  subst this
  exact ⟨rfl, hw'.trans (hb.mono hw'.size)⟩
theorem tq_callVG {ops : Array Oper} {rest : List Oper} {S : St} {K : St → Prop} {d : Tmp} {f : FuncId} {caps : List SV} {xf : Operand} {xs : List Operand} {ats : Array TypeId} {ty : TypeId} {pos : String} {after : Array Edge} {args : List SV} {x : Value} {gd : Nat × Bool} {c : Bool}
    (hg : Guard E S ops gd c) (hxf : FnVal E S xf f caps) (hro : allRO caps = true) (hf : Enters P f) (ha : c = true → Vals E S xs args) (h : c = true → Ct P f (args ++ caps) (.v x)) (hk : TQ P E ops rest (nextQ S d (.grd c (.v x))) K) (hd : d < NN := by decide) :
    TQ P E ops ({ dst := some d, op := .call { callee := .value xf, args := xs.toArray, argTypes := ats }, type := ty, pos, after, guard := some gd } :: rest) S K := fun b a w hr => by
  unfold wpQuiet
  rw [hg b a w hr _ rfl]
  cases c with
  | false => exact hk b _ w (hr.put hd ⟨(fun h => by cases h), fun _ => rfl⟩)
  | true =>
    refine ⟨x, fun w' hw' => ?_, hk b _ w (hr.put hd ⟨fun _ => rfl, fun h => by cases h⟩)⟩
    unfold Oper.quietAt
    have hr' : RepB E b S a w' := hr.world hw'
    obtain ⟨vals, hv, hc⟩ := hxf b a w' hr'
    rw [run_callV hf a xf vals hv]
    refine ⟨rfl, ?_⟩
    refine (h rfl w' (S.excl E b) _ (fun g hg => Nat.lt_of_lt_of_le (hr.excl_lt hg) hw'.size) (ros_app (hr' |> (ha rfl).ros) (hc.ros hro))).mono ?_
    rintro e w'' ⟨v, rfl, hv, hb⟩
    have : v = x := hv
    subst this
    exact ⟨rfl, hw'.trans (hb.mono hw'.size)⟩
theorem t_callV {ops : Array Oper} {rest : List Oper} {S : St} {K : St → Prop} {d : Tmp} {f : FuncId} {caps : List SV} {xf : Operand} {xs : List Operand} {ats : Array TypeId} {ty : TypeId} {pos : String} {after : Array Edge} {args : List SV} {x : SV}
    (hxf : FnVal E S xf f caps) (hro : allRO caps = true) (hf : Enters P f) (ha : Vals E S xs args) (h : Ct P f (args ++ caps) x) (hk : T P E ops rest (nextQ S d x) K) (hd : d < NN := by decide) :
    T P E ops ({ dst := some d, op := .call { callee := .value xf, args := xs.toArray, argTypes := ats }, type := ty, pos, after, guard := none } :: rest) S K := by
  rintro a w ⟨b, hr⟩ Q hq
  obtain ⟨vals, hv, hc⟩ := hxf b a w hr
  unfold wpList
  rw [if_pos (by rfl)]
  refine .inl (wp_of_enter (R := fun v w'' => RepB E b S a w'' ∧ R w'' (S.excl E b) b x v) (run_callV hf a xf vals hv ..) ?_ fun v w'' ⟨hr', hv⟩ => hk _ _ ⟨b, hr'.put hd hv⟩ Q hq)
  refine (h w (S.excl E b) _ (fun g hg => hr.excl_lt hg) (ros_app (ha.ros hr) (hc.ros hro))).mono ?_
  rintro e w'' ⟨v, rfl, hv, hb⟩
  exact ⟨v, rfl, hr.world hb, hv.toR⟩
/-- A closure over boxes. -/
def BVals {NN : Nat} (E : Env NN) (S : St) : List Operand → List SV → Prop
  | [], [] => True
  | x :: xs, s :: ss => Val E S x s ∧ BVals E S xs ss
  | _, _ => False
theorem BVals.rs {S : St} {b : Nat → Value} {a : Act} {w : World} (hr : RepB E b S a w) : ∀ {xs : List Operand} {ss : List SV}, BVals E S xs ss → Rs w (S.excl E b) b ss (xs.map a.eval)
  | [], [], _ => trivial
  | _ :: _, _ :: _, h => ⟨h.1 b a w hr, BVals.rs hr h.2⟩
  | [], _ :: _, h => h.elim
  | _ :: _, [], h => h.elim
theorem rs_at {w : World} {X : Nat → Prop} {b : Nat → Value} : ∀ {l : List SV} {vals : List Value}, Rs w X b l vals → ∀ t, t < l.length → ∃ u, vals[t]? = some u ∧ R w X b (l.getD t .junk) u
  | [], _, _, t, ht => absurd ht (Nat.not_lt_zero t)
  | s :: ss, v :: vs, h, 0, _ => ⟨v, rfl, h.1⟩
  | s :: ss, v :: vs, h, t + 1, ht => by
    obtain ⟨u, hu, hr⟩ := rs_at h.2 t (by simpa using ht)
    exact ⟨u, by simpa using hu, by simpa using hr⟩
  | _ :: _, [], h, _, _ => h.elim
theorem q_mkf {S : St} {f : FuncId} {xs : List Operand} {caps : List SV} (h : BVals E S xs caps) : OpQ P E S (.makeFunc (.func f) #[] xs.toArray) (fnL f caps) := fun b a w hr dst ty pos after gd => by
  have hR := h.rs hr
  refine ⟨.func (.func f) #[] (xs.map a.eval).toArray, fun w' _ => ?_, _, rfl, by simpa using rs_len hR, fun t ht => ?_⟩
  · simp [execOp, Instr.makeFunc]
  · obtain ⟨u, hu, hr⟩ := rs_at hR t ht
    exact ⟨u, by simpa using hu, hr⟩

/-! Boxes that nobody writes any more: pointers into memory that reads as it does. -/
/-- A pointer into cells that read so. -/
def elB (l : List SV) (off : Nat) : SV := .el 1 l.length (fun _ t => l.getD t .junk) 0 off
def frzB (j : Nat) (l : List SV) : SV → SV
  | .bp i off => match Nat.beq i j with | true => (match Nat.blt off l.length with | true => elB l off | false => .junk) | false => .bp i off
  | .agg q g => .agg q fun t => frzB j l (g t)
  | .tup q g => .tup q fun t => frzB j l (g t)
  | .fn f q g => .fn f q fun t => frzB j l (g t)
  | .grd c x => .grd c (frzB j l x)
  | x => x
theorem frzB_R {w : World} {X X' : Nat → Prop} {b : Nat → Value} {j : Nat} {l : List SV} {g : Nat} (hX : ∀ g, X' g → X g) (hb : b j = .pointer (some ⟨g, 0, none⟩)) (hg : g < w.heap.size) (hnX : ¬ X' g)
    (hc : ∀ t, t < l.length → ∃ u, w.cell? ⟨g, t, none⟩ = some u ∧ u.oneCell' = true ∧ RO w X' (l.getD t .junk) u) {x : SV} {val : Value} (h : R w X b x val) : R w X' b (frzB j l x) val := by
  have he : Ext X w w := ⟨Nat.le_refl _, fun _ _ _ => rfl⟩
  induction x generalizing val with
  | bp i off =>
    simp only [frzB]
    split
    · rename_i hbq
      have hbq := Nat.eq_of_beq_eq_true hbq
      subst hbq
      split
      · rename_i hlt
        have hlt : off < l.length := Nat.le_of_ble_eq_true hlt
        obtain ⟨g', h1, h2⟩ := h
        rw [hb] at h1
        simp only [Value.pointer.injEq, Option.some.injEq, Addr.mk.injEq, and_true] at h1
        subst h1
        refine ⟨by omega, g, 0, by simpa using h2, hg, hnX, fun i' hi' t ht => ?_⟩
        obtain rfl : i' = 0 := by omega
        obtain ⟨u, hu, h3, h4⟩ := hc t ht
        exact ⟨u, by simpa using hu, h3, h4⟩
      · trivial
    · exact h
  | agg m get ih =>
    obtain ⟨cs, rfl, hm, hr⟩ := h
    refine ⟨cs, rfl, hm, fun t ht => ?_⟩
    obtain ⟨u, hu, h1, h2⟩ := hr t ht
    exact ⟨u, hu, h1, ih t h2⟩
  | tup m get ih =>
    obtain ⟨cs, rfl, hm, hr⟩ := h
    refine ⟨cs, rfl, hm, fun t ht => ?_⟩
    obtain ⟨u, hu, h2⟩ := hr t ht
    exact ⟨u, hu, ih t h2⟩
  | fn f m get ih =>
    obtain ⟨cs, rfl, hm, hr⟩ := h
    refine ⟨cs, rfl, hm, fun t ht => ?_⟩
    obtain ⟨u, hu, h2⟩ := hr t ht
    exact ⟨u, hu, ih t h2⟩
  | grd c x ih => exact ⟨fun hc => ih (h.1 hc), h.2⟩
  | v x => exact h.mono he (fun g _ hh => hX g hh)
  | row n k get ih => exact h.mono he (fun g _ hh => hX g hh)
  | el n k get i off ih => exact h.mono he (fun g _ hh => hX g hh)
  | own i => exact h
  | oe i k p off => exact h
  | sub i k lo m => exact h
  | junk => trivial
  | abs p hp => exact h.mono he (fun g _ hh => hX g hh)
theorem weak_frzB {S : St} (j : Nat) (l : List SV) {m : Nat} {get : Nat → SV} {ty : TypeId} (ho : lookO j S.owns = some (.box m get ty)) (hm : m = l.length) (hg : AllN (fun t => get t = l.getD t .junk) m) (hro : allRO l = true) : Weak E S ⟨mapS (frzB j l) S.slots, dropM (frzB j l) j S.owns⟩ := by
  subst hm
  have hall : ∀ (l : List SV), allRO l = true → ∀ t, t < l.length → (l.getD t .junk).isRO = true := by
    intro l
    induction l with
    | nil => intro _ t ht; simp at ht
    | cons x r ih =>
      intro h t ht
      simp only [allRO, Bool.and_eq_true] at h
      cases t with
      | zero => exact h.1
      | succ t => simpa using ih h.2 t (by simpa using ht)
  exact weak_drop j (frzB j l) ho fun b w X X' ⟨g, cs, hb, hbase, hh, hm, hc⟩ h2 h3 x v hr =>
    frzB_R h3 hb (Array.getElem?_eq_some_iff.1 hh).1 (h2 g (by rw [hb]; exact rfl)) (fun t ht => by
      obtain ⟨u, hu, h4, h5⟩ := hc t ht
      refine ⟨u, by rw [cell_of_row w g t cs ty (0, 0) hh]; exact hu, h4, ?_⟩
      rw [hg.at t ht] at h5
      exact (h5.toRO (hall l hro t ht)).mono ⟨Nat.le_refl _, fun _ _ _ => rfl⟩ (fun g _ hh => h3 g hh)) hr
theorem t_frzB {ops : Array Oper} {rest : List Oper} {S : St} {K : St → Prop} (j : Nat) (l : List SV) {m : Nat} {get : Nat → SV} {ty : TypeId} (ho : lookO j S.owns = some (.box m get ty)) (hm : m = l.length) (hg : AllN (fun t => get t = l.getD t .junk) m) (hro : allRO l = true)
    (h : T P E ops rest ⟨mapS (frzB j l) S.slots, dropM (frzB j l) j S.owns⟩ K) : T P E ops rest S K := h.weak (weak_frzB j l ho hm hg hro)
theorem tq_frzB {ops : Array Oper} {rest : List Oper} {S : St} {K : St → Prop} (j : Nat) (l : List SV) {m : Nat} {get : Nat → SV} {ty : TypeId} (ho : lookO j S.owns = some (.box m get ty)) (hm : m = l.length) (hg : AllN (fun t => get t = l.getD t .junk) m) (hro : allRO l = true)
    (h : TQ P E ops rest ⟨mapS (frzB j l) S.slots, dropM (frzB j l) j S.owns⟩ K) : TQ P E ops rest S K := h.weak (weak_frzB j l ho hm hg hro)
theorem c_frzB {c : Code} {S : St} {Q : Exit → Act → World → Prop} (j : Nat) (l : List SV) {m : Nat} {get : Nat → SV} {ty : TypeId} (ho : lookO j S.owns = some (.box m get ty)) (hm : m = l.length) (hg : AllN (fun t => get t = l.getD t .junk) m) (hro : allRO l = true)
    (h : C P E c ⟨mapS (frzB j l) S.slots, dropM (frzB j l) j S.owns⟩ Q) : C P E c S Q := (weak_frzB j l ho hm hg hro).c h
theorem fnval_V {S : St} {x : Operand} {f : FuncId} {F : Value} (h : Val E S x (.v F)) (hF : F = .func (.func f) #[] #[]) : FnVal E S x f [] := fun b a w hr => ⟨[], by rw [show a.eval x = F from h b a w hr, hF], trivial⟩
end Go.Eng

namespace Go.Eng
open Go.RowKit
variable {P : Program} {NN : Nat} {E : Env NN}
/-! Calls that are handed memory of the caller's own, and hand back some. -/
def rn : List (Nat × Nat) → Nat → Nat
  | [], i => i
  | p :: r, i => match Nat.beq i p.1 with | true => p.2 | false => rn r i
def SV.renm (g : Nat → Nat) : SV → SV
  | .bp j off => .bp (g j) off
  | .own j => .own (g j)
  | .oe j k i off => .oe (g j) k i off
  | .sub j k lo m => .sub (g j) k lo m
  | .agg m get => .agg m fun t => (get t).renm g
  | .tup m get => .tup m fun t => (get t).renm g
  | .fn f m get => .fn f m fun t => (get t).renm g
  | .grd c x => .grd c (x.renm g)
  | x => x
theorem R_renm {w : World} {X : Nat → Prop} {b : Nat → Value} {g : Nat → Nat} {x : SV} {val : Value} : R w X b (x.renm g) val ↔ R w X (fun i => b (g i)) x val := by
  induction x generalizing val with
  | agg m get ih =>
    constructor
    · rintro ⟨cs, rfl, hm, hr⟩
      exact ⟨cs, rfl, hm, fun t ht => let ⟨u, hu, h1, h2⟩ := hr t ht; ⟨u, hu, h1, (ih t).1 h2⟩⟩
    · rintro ⟨cs, rfl, hm, hr⟩
      exact ⟨cs, rfl, hm, fun t ht => let ⟨u, hu, h1, h2⟩ := hr t ht; ⟨u, hu, h1, (ih t).2 h2⟩⟩
  | tup m get ih =>
    constructor
    · rintro ⟨cs, rfl, hm, hr⟩
      exact ⟨cs, rfl, hm, fun t ht => let ⟨u, hu, h2⟩ := hr t ht; ⟨u, hu, (ih t).1 h2⟩⟩
    · rintro ⟨cs, rfl, hm, hr⟩
      exact ⟨cs, rfl, hm, fun t ht => let ⟨u, hu, h2⟩ := hr t ht; ⟨u, hu, (ih t).2 h2⟩⟩
  | fn f m get ih =>
    constructor
    · rintro ⟨cs, rfl, hm, hr⟩
      exact ⟨cs, rfl, hm, fun t ht => let ⟨u, hu, h2⟩ := hr t ht; ⟨u, hu, (ih t).1 h2⟩⟩
    · rintro ⟨cs, rfl, hm, hr⟩
      exact ⟨cs, rfl, hm, fun t ht => let ⟨u, hu, h2⟩ := hr t ht; ⟨u, hu, (ih t).2 h2⟩⟩
  | grd c x ih => exact ⟨fun h => ⟨fun hc => ih.1 (h.1 hc), h.2⟩, fun h => ⟨fun hc => ih.2 (h.1 hc), h.2⟩⟩
  | _ => exact Iff.rfl
def Own.renm (g : Nat → Nat) (o : Own) : Own := o.map (SV.renm g)
theorem OwnOk_renm {w : World} {X : Nat → Prop} {base : Nat} {b : Nat → Value} {g : Nat → Nat} {j : Nat} {o : Own} : OwnOk w X base b (g j) (o.renm g) ↔ OwnOk w X base (fun i => b (g i)) j o := by
  cases o with
  | box m get ty =>
    constructor
    · rintro ⟨q, cs, h1, h2, h3, h4, hr⟩
      exact ⟨q, cs, h1, h2, h3, h4, fun t ht => let ⟨u, hu, h5, h6⟩ := hr t ht; ⟨u, hu, h5, R_renm.1 h6⟩⟩
    · rintro ⟨q, cs, h1, h2, h3, h4, hr⟩
      exact ⟨q, cs, h1, h2, h3, h4, fun t ht => let ⟨u, hu, h5, h6⟩ := hr t ht; ⟨u, hu, h5, R_renm.2 h6⟩⟩
  | arow n k get e => exact Iff.rfl
  | amap kvs => exact Iff.rfl
  | urow n k get e c ce ck m kn kget hole =>
    cases hole with
    | none =>
      constructor
      · rintro ⟨v, subs, xs, h1, h2, h3, h4, h5, h6⟩
        exact ⟨v, subs, xs, h1, h2, h3, h4, fun i hi t ht => let ⟨u, q1, q2, q3, q4, q5, _⟩ := h5 i hi t ht; ⟨u, q1, q2, q3, q4, q5, fun _ _ h => (by cases h)⟩, h6⟩
      · rintro ⟨v, subs, xs, h1, h2, h3, h4, h5, h6⟩
        exact ⟨v, subs, xs, h1, h2, h3, h4, fun i hi t ht => let ⟨u, q1, q2, q3, q4, q5, _⟩ := h5 i hi t ht; ⟨u, q1, q2, q3, q4, q5, fun _ _ h => (by cases h)⟩, h6⟩
    | some p =>
      obtain ⟨i0, x0⟩ := p
      constructor
      · rintro ⟨v, subs, xs, h1, h2, h3, h4, h5, h6⟩
        exact ⟨v, subs, xs, h1, h2, h3, h4, fun i hi t ht => let ⟨u, q1, q2, q3, q4, q5, q6⟩ := h5 i hi t ht; ⟨u, q1, q2, q3, q4, q5, fun q x hx => by
          simp only [Option.some.injEq, Prod.mk.injEq] at hx
          obtain ⟨rfl, rfl⟩ := hx
          exact R_renm.1 (q6 q _ rfl)⟩, h6⟩
      · rintro ⟨v, subs, xs, h1, h2, h3, h4, h5, h6⟩
        exact ⟨v, subs, xs, h1, h2, h3, h4, fun i hi t ht => let ⟨u, q1, q2, q3, q4, q5, q6⟩ := h5 i hi t ht; ⟨u, q1, q2, q3, q4, q5, fun q x hx => by
          simp only [holeMap, Option.some.injEq, Prod.mk.injEq] at hx
          obtain ⟨rfl, rfl⟩ := hx
          exact R_renm.2 (q6 q _ rfl)⟩, h6⟩

/-- A set of things of somebody's own. -/
structure OwnsIn (w : World) (X : Nat → Prop) (base : Nat) (b : Nat → Value) (ow : List (Nat × Own)) : Prop where
  owns : ∀ j o, lookO j ow = some o → OwnOk w (fun g => X g ∨ BkO b ow g) base b j o
  apart : ∀ i j oi oj, lookO i ow = some oi → lookO j ow = some oj → i ≠ j → ∀ g, Bk (b i) g → ¬ Bk (b j) g
  free : ∀ g, BkO b ow g → ¬ X g

def CtM (P : Program) (f : FuncId) (args : List SV) (ow : List (Nat × Own)) (r : SV) (ow' : List (Nat × Own)) : Prop :=
  ∀ (w : World) (X : Nat → Prop) (base : Nat) (b : Nat → Value) (vals : List Value), base ≤ w.heap.size → (∀ g, X g → g < w.heap.size) → OwnsIn w X base b ow → Rs w (fun g => X g ∨ BkO b ow g) b args vals →
    Calls P f vals.toArray w fun e w' => ∃ v b', e = .returned v ∧ (∀ j, 1000 ≤ j → b' j = b j) ∧ OwnsIn w' X base b' ow' ∧ R w' (fun g => X g ∨ BkO b' ow' g) b' r v ∧ KeptBut (BkO b ow) w w' ∧ ∀ g, BkO b' ow' g → w.heap.size ≤ g ∨ BkO b ow g

def PostM {NN : Nat} (E : Env NN) (r : SV) (ow' : List (Nat × Own)) : Ending → World → Prop := fun e w' => ∃ v b', e = .returned v ∧ (∀ j, 1000 ≤ j → b' j = E.b0 j) ∧ OwnsIn w' E.X E.base b' ow' ∧ R w' (fun g => E.X g ∨ BkO b' ow' g) b' r v ∧ KeptBut E.Y E.w0 w' ∧
  ∀ g, BkO b' ow' g → E.w0.heap.size ≤ g ∨ E.Y g

theorem rep_argsR {w : World} {X : Nat → Prop} {b : Nat → Value} : ∀ {args : List SV} {vals : List Value} {s : Nat} {pre : List Value} {t : List Value}, Rs w X b args vals → pre.length = s →
    ∀ q x, look q (argSlots s args) = some x → R w X b x ((pre ++ vals ++ t).toArray.getD q undef)
  | [], [], s, pre, t, _, _, q, x, h => by simp [argSlots, look] at h
  | y :: ys, v :: vs, s, pre, t, hr, hp, q, x, h => by
    simp only [argSlots] at h
    rw [look_cons] at h
    split at h
    · rename_i e
      injection h with h
      subst h; subst e; subst hp
      have : (pre ++ v :: vs ++ t).toArray.getD pre.length undef = v := by simp [Array.getD_eq_getD_getElem?, List.append_assoc]
      rw [this]; exact hr.1
    · have := rep_argsR (t := t) (pre := pre ++ [v]) (s := s + 1) hr.2 (by simp [hp]) q x h
      simpa [List.append_assoc] using this
  | [], _ :: _, s, pre, t, h, _, _, _, _ => h.elim
  | _ :: _, [], s, pre, t, h, _, _, _, _ => h.elim

theorem ctM_of {f : FuncId} {fn : Func} {c : Code} {args : List SV} {ow ow' : List (Nat × Own)} {r : SV} (N : Nat) (hf : P.funcs[f]? = some fn) (hb : fn.body = some c) (hN : fn.ntmps = N) (hn : Nat.ble args.length N = true)
    (h : ∀ E : Env N, C P E c ⟨argSlots 0 args, ow⟩ (bodyPost P fn (PostM E r ow'))) : CtM P f args ow r ow' := by
  subst hN
  have hn := Nat.le_of_ble_eq_true hn
  intro w X base b vals hbase hX hO hr
  have hlt : ∀ g, BkO b ow g → g < w.heap.size := fun g ⟨j, o, h1, h2⟩ => ((hO.owns j o h1).lt h2).1
  let E : Env fn.ntmps := ⟨w, X, BkO b ow, base, b, hX, fun g hx hy => hO.free g hy hx, hlt, hbase⟩
  have hC : Calls P f vals.toArray w (PostM E r ow') := by
    refine calls_of_wp hf hb (h E _ _ ⟨b, ?_⟩)
    have hl := rs_len hr
    exact {
      size := by simp [E]; omega
      defers := rfl
      below := KeptBut.refl _ _
      slots := fun s x hx => by
        have h1 := rep_argsR (pre := []) (t := List.replicate (fn.ntmps - vals.length) undef) hr rfl s x hx
        have e : (vals.toArray ++ Array.replicate (fn.ntmps - vals.toArray.size) undef) = ([] ++ vals ++ List.replicate (fn.ntmps - vals.length) undef).toArray := by simp
        show R w _ b x ((vals.toArray ++ Array.replicate (fn.ntmps - vals.toArray.size) undef).getD s undef)
        rw [e]
        exact h1
      owns := hO.owns
      mine := fun j o h1 g h2 => .inr ⟨j, o, h1, h2⟩
      apart := hO.apart
      old := fun _ _ => rfl }
  exact hC

/-- The same, cell by cell. -/
def Own.eqv : Own → Own → Prop
  | .box m g ty, .box m' g' ty' => m = m' ∧ ty = ty' ∧ AllN (fun t => g t = g' t) m
  | o, o' => o = o'
theorem Own.eqv_rfl (o : Own) : o.eqv o := by
  cases o with
  | box m g ty => exact ⟨rfl, rfl, AllN.of fun _ _ => rfl⟩
  | _ => exact rfl
theorem OwnOk.eqv {w : World} {X : Nat → Prop} {base : Nat} {b : Nat → Value} {j : Nat} {o o' : Own} (h : OwnOk w X base b j o) (e : o.eqv o') : OwnOk w X base b j o' := by
  cases o with
  | box m g ty =>
    cases o' with
    | box m' g' ty' =>
      obtain ⟨rfl, rfl, e⟩ := e
      obtain ⟨q, cs, h1, h2, h3, h4, hr⟩ := h
      refine ⟨q, cs, h1, h2, h3, h4, fun t ht => ?_⟩
      obtain ⟨u, hu, h5, h6⟩ := hr t ht
      exact ⟨u, hu, h5, e.at t ht ▸ h6⟩
    | _ => exact (show Own.box m g ty = _ from e) ▸ h
  | arow n k get e1 => have e : Own.arow n k get e1 = o' := by cases o' <;> exact e
                       exact e ▸ h
  | amap kvs => have e : Own.amap kvs = o' := by cases o' <;> exact e
                exact e ▸ h
  | urow n k get e1 c ce ck m kn kget hole => have e : Own.urow n k get e1 c ce ck m kn kget hole = o' := by cases o' <;> exact e
                                              exact e ▸ h
/-- What is handed over stands with the caller so. -/
def PassO (S : St) (g : Nat → Nat) : List (Nat × Own) → Prop
  | [] => True
  | p :: r => (∃ o, lookO (g p.1) S.owns = some o ∧ o.eqv (p.2.renm g)) ∧ PassO S g r
theorem PassO.look {S : St} {g : Nat → Nat} : ∀ {l : List (Nat × Own)}, PassO S g l → ∀ j o, lookO j l = some o → ∃ o', lookO (g j) S.owns = some o' ∧ o'.eqv (o.renm g)
  | [], _, j, o, h => by simp [lookO] at h
  | (d, y) :: r, hp, j, o, h => by
    rw [lookO_cons] at h
    split at h
    · rename_i e
      injection h with h
      subst h; subst e
      exact hp.1
    · exact PassO.look hp.2 j o h
/-- What is there at the end is what was said. -/
def AllOE (S : St) : List (Nat × Own) → Prop
  | [] => True
  | p :: r => (∃ o, lookO p.1 S.owns = some o ∧ o.eqv p.2) ∧ AllOE S r
theorem AllOE.look {S : St} : ∀ {l : List (Nat × Own)}, AllOE S l → ∀ j o, lookO j l = some o → ∃ o', lookO j S.owns = some o' ∧ o'.eqv o
  | [], _, j, o, h => by simp [lookO] at h
  | (d, y) :: r, hp, j, o, h => by
    rw [lookO_cons] at h
    split at h
    · rename_i e
      injection h with h
      subst h; subst e
      exact hp.1
    · exact AllOE.look hp.2 j o h
theorem weakE {S : St} {sl : List (Nat × SV)} {ow : List (Nat × Own)} (hs : AllV E S sl) (ho : AllOE S ow) : Weak E S ⟨sl, ow⟩ := fun b a w hr => by
  have hX : ∀ g, St.excl ⟨sl, ow⟩ E b g → S.excl E b g := by
    rintro g (h | ⟨j, o, h1, h2⟩)
    · exact .inl h
    · obtain ⟨o', h3, _⟩ := ho.look _ _ h1
      exact .inr ⟨j, o', h3, h2⟩
  exact {
    size := hr.size
    defers := hr.defers
    below := hr.below
    slots := fun s x hx => (hs.look s x hx b a w hr).mono ⟨Nat.le_refl _, fun _ _ _ => rfl⟩ (fun g _ hh => hX g hh)
    owns := fun j o h => by
      obtain ⟨o', h3, h4⟩ := ho.look _ _ h
      exact ((hr.owns j o' h3).eqv h4).mono hX
    mine := fun j o h => by
      obtain ⟨o', h3, _⟩ := ho.look _ _ h
      exact hr.mine j o' h3
    apart := fun i j oi oj h1 h2 => by
      obtain ⟨o1, h3, _⟩ := ho.look _ _ h1
      obtain ⟨o2, h4, _⟩ := ho.look _ _ h2
      exact hr.apart i j o1 o2 h3 h4
    old := hr.old }
theorem post_retM {fn : Func} {r x : SV} {b : Nat → Value} {S : St} {a : Act} {w : World} {ow' : List (Nat × Own)} (hr : RepB E b S a w) {v : Value} (hv : (results fn a.tmps).run P w = .ok v w) (hx : R w (S.excl E b) b x v) (ho : AllOE S ow') (e : x = r) :
    ∃ v, (results fn a.tmps).run P w = .ok v w ∧ PostM E r ow' (.returned v) w := by
  subst e
  have h := weakE (E := E) (sl := []) trivial ho b a w hr
  have hX : ∀ g, St.excl ⟨[], ow'⟩ E b g → S.excl E b g := by
    rintro g (h | ⟨j, o, h1, h2⟩)
    · exact .inl h
    · obtain ⟨o', h3, _⟩ := ho.look _ _ h1
      exact .inr ⟨j, o', h3, h2⟩
  refine ⟨v, hv, v, b, rfl, h.old, ⟨h.owns, h.apart, fun g ⟨j, o, h1, h2⟩ => h.notX h1 h2⟩, hx.mono ⟨Nat.le_refl _, fun _ _ _ => rfl⟩ (fun g _ hh => hX g hh), h.below, fun g ⟨j, o, h1, h2⟩ => h.mine j o h1 g h2⟩
theorem retM1 {fn : Func} {t : Tmp} {S : St} {x r : SV} {ow' : List (Nat × Own)} (hres : fn.results = #[.tmp t]) (h : Val E S (.tmp t) x) (ho : AllOE S ow') (e : x = r) : ∀ a w, Rep E S a w → bodyPost P fn (PostM E r ow') .ret a w := by
  rintro a w ⟨b, hr⟩
  exact ⟨hr.defers, post_retM hr (results_tmp hres _ _ _) (h b a w hr) ho e⟩
theorem retM2 {fn : Func} {t u : Tmp} {S : St} {x y r : SV} {ow' : List (Nat × Own)} (hres : fn.results = #[.tmp t, .tmp u]) (hx : Val E S (.tmp t) x) (hy : Val E S (.tmp u) y) (ho : AllOE S ow') (e : sv2 x y = r) : ∀ a w, Rep E S a w → bodyPost P fn (PostM E r ow') .ret a w := by
  rintro a w ⟨b, hr⟩
  exact ⟨hr.defers, post_retM (x := sv2 x y) hr (results_tmp2 hres _ _ _) ⟨_, rfl, rfl, fun i hi => match i, hi with
    | 0, _ => ⟨_, rfl, hx b a w hr⟩
    | 1, _ => ⟨_, rfl, hy b a w hr⟩⟩ ho e⟩
theorem retM3 {fn : Func} {t u q : Tmp} {S : St} {x y z r : SV} {ow' : List (Nat × Own)} (hres : fn.results = #[.tmp t, .tmp u, .tmp q]) (hx : Val E S (.tmp t) x) (hy : Val E S (.tmp u) y) (hz : Val E S (.tmp q) z) (ho : AllOE S ow') (e : sv3 x y z = r) : ∀ a w, Rep E S a w → bodyPost P fn (PostM E r ow') .ret a w := by
  rintro a w ⟨b, hr⟩
  exact ⟨hr.defers, post_retM (x := sv3 x y z) hr (results_tmp3 hres _ _ _) ⟨_, rfl, rfl, fun i hi => match i, hi with
    | 0, _ => ⟨_, rfl, hx b a w hr⟩
    | 1, _ => ⟨_, rfl, hy b a w hr⟩
    | 2, _ => ⟨_, rfl, hz b a w hr⟩⟩ ho e⟩
def sv0 : SV := .tup 0 fun _ => .junk
theorem retM0 {fn : Func} {S : St} {r : SV} {ow' : List (Nat × Own)} (hres : fn.results = #[]) (ho : AllOE S ow') (e : sv0 = r) : ∀ a w, Rep E S a w → bodyPost P fn (PostM E r ow') .ret a w := by
  rintro a w ⟨b, hr⟩
  exact ⟨hr.defers, post_retM (x := sv0) hr (results_none hres _ _ _) ⟨_, rfl, rfl, fun i hi => absurd hi (Nat.not_lt_zero i)⟩ ho e⟩
theorem endM0 {fn : Func} {S : St} {r : SV} {ow' : List (Nat × Own)} (hres : fn.results = #[]) (ho : AllOE S ow') (e : sv0 = r) : ∀ a w, Rep E S a w → bodyPost P fn (PostM E r ow') .normal a w := by
  rintro a w ⟨b, hr⟩
  exact ⟨hr.defers, post_retM (x := sv0) hr (results_none hres _ _ _) ⟨_, rfl, rfl, fun i hi => absurd hi (Nat.not_lt_zero i)⟩ ho e⟩

def memB (x : Nat) : List Nat → Bool
  | [] => false
  | y :: r => match Nat.beq x y with | true => true | false => memB x r
theorem memB_iff {x : Nat} : ∀ {l : List Nat}, memB x l = true ↔ x ∈ l
  | [] => by simp [memB]
  | y :: r => by
    simp only [memB]
    split
    · rename_i h; have := Nat.eq_of_beq_eq_true h; simp [this]
    · rename_i h
      rw [memB_iff (l := r)]
      have : x ≠ y := by rintro rfl; simp at h
      simp [this]
def dropKs (ks : List Nat) : List (Nat × Own) → List (Nat × Own)
  | [] => []
  | p :: r => match memB p.1 ks with | true => dropKs ks r | false => p :: dropKs ks r
theorem lookO_dropKs {ks : List Nat} : ∀ {l : List (Nat × Own)} {j : Nat} {o : Own}, lookO j (dropKs ks l) = some o → j ∉ ks ∧ lookO j l = some o
  | [], j, o, h => by simp [dropKs, lookO] at h
  | (d, y) :: r, j, o, h => by
    simp only [dropKs] at h
    split at h
    · rename_i hm
      have hm := memB_iff.1 hm
      obtain ⟨h1, h2⟩ := lookO_dropKs h
      refine ⟨h1, ?_⟩
      rw [lookO_cons, if_neg (fun e : j = d => h1 (by rw [e]; exact hm))]; exact h2
    · rename_i hm
      rw [lookO_cons] at h ⊢
      split at h
      · rename_i e
        injection h with h
        subst h; subst e
        exact ⟨fun hh => (by rw [memB_iff.2 hh] at hm; cases hm), by simp⟩
      · rename_i e
        obtain ⟨h1, h2⟩ := lookO_dropKs h
        exact ⟨h1, by rw [if_neg e]; exact h2⟩
def renO (g : Nat → Nat) : List (Nat × Own) → List (Nat × Own)
  | [] => []
  | p :: r => (g p.1, p.2.renm g) :: renO g r
theorem lookO_renO {g : Nat → Nat} : ∀ {l : List (Nat × Own)} {j : Nat} {o : Own}, lookO j (renO g l) = some o → ∃ i o', lookO i l = some o' ∧ j = g i ∧ o = o'.renm g
  | [], j, o, h => by simp [renO, lookO] at h
  | (d, y) :: r, j, o, h => by
    simp only [renO] at h
    rw [lookO_cons] at h
    split at h
    · rename_i e
      injection h with h
      exact ⟨d, y, by rw [lookO_cons, if_pos rfl], e, h.symm⟩
    · rename_i e
      obtain ⟨i, o', h1, h2, h3⟩ := lookO_renO h
      refine ⟨i, o', ?_, h2, h3⟩
      rw [lookO_cons, if_neg (fun e' => e (by rw [h2, e']))]; exact h1
theorem lookO_app {l m : List (Nat × Own)} {j : Nat} {o : Own} (h : lookO j (l ++ m) = some o) : lookO j l = some o ∨ (lookO j l = none ∧ lookO j m = some o) := by
  induction l with
  | nil => exact .inr ⟨rfl, h⟩
  | cons p r ih =>
    obtain ⟨d, y⟩ := p
    rw [List.cons_append, lookO_cons] at h
    rw [lookO_cons]
    split at h
    · rename_i e; left; rw [if_pos e]; exact h
    · rename_i e; rw [if_neg e]; exact ih h
/-- New names: what they are with the callee, and with the caller. -/
def setN (b b' : Nat → Value) : List (Nat × Nat) → Nat → Value
  | [], i => b i
  | p :: r, i => match Nat.beq i p.2 with | true => b' p.1 | false => setN b b' r i
def FreshN (S : St) : List (Nat × Nat) → Bool
  | [] => true
  | p :: r => (S.fresh p.2 && !(memB p.2 (r.map (·.2)))) && FreshN S r
theorem setN_other {b b' : Nat → Value} : ∀ {l : List (Nat × Nat)} {i : Nat}, memB i (l.map (·.2)) = false → setN b b' l i = b i
  | [], _, _ => rfl
  | p :: r, i, h => by
    simp only [List.map_cons, memB] at h
    split at h
    · cases h
    · rename_i hb
      simp only [setN, hb]
      exact setN_other h
def inD : List (Nat × Nat) → Nat → Bool
  | [], _ => false
  | p :: r, i => match Nat.beq i p.1 with | true => true | false => inD r i
def hiD (l : List (Nat × Nat)) (i : Nat) : Bool := inD l i && Nat.ble 1000 i
def allIds (p : Nat → Bool) : List (Nat × Own) → Bool
  | [] => true
  | q :: r => (p q.1 && q.2.okId p) && allIds p r
theorem allIds_at {p : Nat → Bool} : ∀ {l : List (Nat × Own)}, allIds p l = true → ∀ j o, lookO j l = some o → p j = true ∧ o.okId p = true
  | [], _, j, o, h => by simp [lookO] at h
  | (d, y) :: r, ha, j, o, h => by
    simp only [allIds, Bool.and_eq_true] at ha
    rw [lookO_cons] at h
    split at h
    · rename_i e
      injection h with h
      subst h; subst e
      exact ha.1
    · exact allIds_at ha.2 j o h
def distinctB (g : Nat → Nat) : List (Nat × Own) → Bool
  | [] => true
  | p :: r => (r.all fun q => !(Nat.beq (g p.1) (g q.1))) && distinctB g r
theorem lookO_in : ∀ {l : List (Nat × Own)} {j : Nat} {o : Own}, lookO j l = some o → (j, o) ∈ l
  | [], j, o, h => by simp [lookO] at h
  | (d, y) :: r, j, o, h => by
    rw [lookO_cons] at h
    split at h
    · rename_i e
      injection h with h
      subst h; subst e
      exact .head _
    · exact .tail _ (lookO_in h)
theorem distinctB_at {g : Nat → Nat} : ∀ {l : List (Nat × Own)}, distinctB g l = true → ∀ i j oi oj, lookO i l = some oi → lookO j l = some oj → i ≠ j → g i ≠ g j
  | [], _, i, j, oi, oj, h, _, _ => by simp [lookO] at h
  | (d, y) :: r, hd, i, j, oi, oj, hi, hj, hne => by
    simp only [distinctB, Bool.and_eq_true, List.all_eq_true] at hd
    rw [lookO_cons] at hi hj
    have hq : ∀ j o, lookO j r = some o → g d ≠ g j := fun j o hj e => by
      have := hd.1 _ (lookO_in hj)
      simp only [e] at this
      simp at this
    split at hi
    · rename_i e1
      subst e1
      split at hj
      · rename_i e2; exact absurd e2.symm hne
      · exact hq j _ hj
    · rename_i e1
      split at hj
      · rename_i e2; subst e2; exact fun e => hq i _ hi e.symm
      · exact distinctB_at hd.2 i j oi oj hi hj hne
theorem rn_notin : ∀ {l : List (Nat × Nat)} {i : Nat}, inD l i = false → rn l i = i
  | [], _, _ => rfl
  | p :: r, i, h => by
    simp only [inD] at h
    split at h
    · cases h
    · rename_i hb; simp only [rn, hb]; exact rn_notin h
theorem rn_mem : ∀ {r : List (Nat × Nat)} {i : Nat}, inD r i = true → rn r i ∈ r.map (·.2)
  | [], _, h => by simp [inD] at h
  | q :: r, i, h => by
    simp only [inD] at h
    simp only [rn]
    split
    · simp
    · rename_i hb
      rw [hb] at h
      obtain ⟨z, hz, e⟩ := List.mem_map.1 (rn_mem h)
      exact List.mem_map.2 ⟨z, .tail _ hz, e⟩
theorem setN_at {b b' : Nat → Value} {S : St} : ∀ {l : List (Nat × Nat)} {i : Nat}, FreshN S l = true → inD l i = true → setN b b' l (rn l i) = b' i
  | [], _, _, h => by simp [inD] at h
  | p :: r, i, hf, h => by
    simp only [FreshN, Bool.and_eq_true, Bool.not_eq_true'] at hf
    simp only [inD] at h
    simp only [rn]
    split
    · rename_i hb
      have hb := Nat.eq_of_beq_eq_true hb
      subst hb
      simp [setN]
    · rename_i hb
      rw [hb] at h
      have hne : Nat.beq (rn r i) p.2 = false := by
        cases hq : Nat.beq (rn r i) p.2 with
        | false => rfl
        | true =>
          have hq := Nat.eq_of_beq_eq_true hq
          have : rn r i ∈ r.map (·.2) := rn_mem h
          rw [hq, ← memB_iff, hf.1.2] at this
          cases this
      simp only [setN, hne]
      exact setN_at hf.2 h
theorem freshN_mem {S : St} : ∀ {l : List (Nat × Nat)} {i : Nat}, FreshN S l = true → memB i (l.map (·.2)) = true → S.fresh i = true
  | [], _, _, h => by simp [memB] at h
  | p :: r, i, hf, h => by
    simp only [FreshN, Bool.and_eq_true] at hf
    simp only [List.map_cons, memB] at h
    split at h
    · rename_i hb
      have := Nat.eq_of_beq_eq_true hb
      rw [this]; exact hf.1.1
    · exact freshN_mem hf.2 h
theorem okId_of {p q : Nat → Bool} (h : ∀ i, p i = true → q i = true) : ∀ {x : SV}, x.okId p = true → x.okId q = true := by
  intro x
  induction x with
  | agg m get ih => exact fun hx => allB_of fun t ht => ih t (allB_iff hx t ht)
  | tup m get ih => exact fun hx => allB_of fun t ht => ih t (allB_iff hx t ht)
  | fn f m get ih => exact fun hx => allB_of fun t ht => ih t (allB_iff hx t ht)
  | grd c x ih => exact ih
  | bp i off => exact h i
  | own i => exact h i
  | oe i k p off => exact h i
  | sub i k lo m => exact h i
  | _ => exact fun _ => rfl
/-- Fresh to each of many names. -/
theorem noIds {l : List Nat} {x : SV} (h : ∀ i, memB i l = true → x.noId i = true) : x.okId (fun i => !(memB i l)) = true := by
  induction x with
  | agg m get ih => exact allB_of fun t ht => ih t fun i hi => allB_iff (h i hi) t ht
  | tup m get ih => exact allB_of fun t ht => ih t fun i hi => allB_iff (h i hi) t ht
  | fn f m get ih => exact allB_of fun t ht => ih t fun i hi => allB_iff (h i hi) t ht
  | grd c x ih => exact ih h
  | bp i off =>
    show (!(memB i l)) = true
    cases hm : memB i l with
    | false => rfl
    | true => exact absurd rfl (notJ_ne (h i hm))
  | own i =>
    show (!(memB i l)) = true
    cases hm : memB i l with
    | false => rfl
    | true => exact absurd rfl (notJ_ne (h i hm))
  | oe i k p off =>
    show (!(memB i l)) = true
    cases hm : memB i l with
    | false => rfl
    | true => exact absurd rfl (notJ_ne (h i hm))
  | sub i k lo m =>
    show (!(memB i l)) = true
    cases hm : memB i l with
    | false => rfl
    | true => exact absurd rfl (notJ_ne (h i hm))
  | _ => rfl

theorem inD_app {l m : List (Nat × Nat)} {i : Nat} : rn (l ++ m) i = if inD l i = true then rn l i else rn m i := by
  induction l with
  | nil => rfl
  | cons p r ih =>
    rcases Bool.eq_false_or_eq_true (Nat.beq i p.1) with hq | hq
    · simp only [List.cons_append, rn, inD, hq]; rfl
    · simp only [List.cons_append, rn, inD, hq]; exact ih
def disjB (ρ ν : List (Nat × Nat)) : Bool := ρ.all fun p => !(memB p.2 (ν.map (·.2)))
theorem disjB_at {ρ ν : List (Nat × Nat)} (h : disjB ρ ν = true) {i : Nat} (hi : inD ρ i = true) : memB (rn ρ i) (ν.map (·.2)) = false := by
  obtain ⟨p, hp, e⟩ := List.mem_map.1 (rn_mem hi)
  have := List.all_eq_true.1 h p hp
  rw [← e]; simpa using this
theorem Own.All_many {l : List Nat} {o : Own} (h : ∀ i, memB i l = true → o.noId i = true) : o.All fun x => ∀ i, memB i l = true → x.noId i = true := by
  cases o with
  | box m get ty => exact fun t ht i hi => Own.noId_all (h i hi) t ht
  | urow n k get e c ce ck m kn kget hole => exact fun q hq i hi => Own.noId_all (h i hi) q hq
  | _ => trivial
/-- A call that is handed memory: ρ says by which names the caller knows it, ν names what comes back anew. -/
theorem call_stepM {S : St} {b : Nat → Value} {a : Act} {w : World} (hr : RepB E b S a w) {f : FuncId} {vals : List Value} {cargs : List SV} {cow cow' : List (Nat × Own)} {cr : SV} (ρ ν : List (Nat × Nat))
    (h : CtM P f cargs cow cr cow') (hv : Rs w (S.excl E b) (fun i => b (rn ρ i)) cargs vals) (hp : PassO S (rn ρ) cow) (hd : distinctB (rn ρ) cow = true) (hn : FreshN S ν = true) (hρ : disjB ρ ν = true)
    (hid : (cr.okId (fun i => hiD ρ i || (inD ν i && !(inD ρ i))) && allIds (fun i => hiD ρ i || (inD ν i && !(inD ρ i))) cow') = true) :
    Calls P f vals.toArray w fun e w'' => ∃ v b'', e = .returned v ∧ RepB E b'' ⟨S.slots, renO (rn (ρ ++ ν)) cow' ++ dropKs (cow.map fun p => rn ρ p.1) S.owns⟩ a w'' ∧
      R w'' (St.excl ⟨S.slots, renO (rn (ρ ++ ν)) cow' ++ dropKs (cow.map fun p => rn ρ p.1) S.owns⟩ E b'') b'' (cr.renm (rn (ρ ++ ν))) v := by
  simp only [Bool.and_eq_true] at hid
  have hrest : ∀ {j o}, lookO j (dropKs (cow.map fun p => rn ρ p.1) S.owns) = some o → (∀ i o', lookO i cow = some o' → rn ρ i ≠ j) ∧ lookO j S.owns = some o := fun {j o} hj => by
    obtain ⟨h1, h2⟩ := lookO_dropKs hj
    exact ⟨fun i o' hi e => h1 (List.mem_map.2 ⟨(i, o'), lookO_in hi, e⟩), h2⟩
  -- the callee's view
  let bc : Nat → Value := fun i => b (rn ρ i)
  let Xc : Nat → Prop := fun g => E.X g ∨ BkO b (dropKs (cow.map fun p => rn ρ p.1) S.owns) g
  have hpl : ∀ i o, lookO i cow = some o → ∃ o', lookO (rn ρ i) S.owns = some o' := fun i o hi => (hp.look i o hi).imp fun _ h => h.1
  have hcow : ∀ g, BkO bc cow g → S.excl E b g := fun g ⟨i, o, h1, h2⟩ => .inr ⟨rn ρ i, _, (hpl i o h1).choose_spec, h2⟩
  have hXc : ∀ g, Xc g → S.excl E b g := by
    rintro g (h1 | ⟨j, o, h1, h2⟩)
    · exact .inl h1
    · exact .inr ⟨j, o, (hrest h1).2, h2⟩
  have hall : ∀ g, (Xc g ∨ BkO bc cow g) → S.excl E b g := fun g hg => hg.elim (hXc g) (hcow g)
  have hdis : ∀ g, BkO bc cow g → ¬ Xc g := by
    rintro g ⟨i, o, h1, h2⟩ (h3 | ⟨j, o', h3, h4⟩)
    · exact hr.notX (hpl i o h1).choose_spec h2 h3
    · exact hr.apart _ _ _ _ (hpl i o h1).choose_spec (hrest h3).2 ((hrest h3).1 i o h1) g h2 h4
  have hE : Ext (S.excl E b) w w := ⟨Nat.le_refl _, fun _ _ _ => rfl⟩
  have hin : OwnsIn w Xc E.base bc cow := ⟨fun i o hi => (OwnOk_renm.1 ((hr.owns _ _ (hp.look i o hi).choose_spec.1).eqv (hp.look i o hi).choose_spec.2)).mono hall,
    fun i j oi oj hi hj hne g => hr.apart _ _ _ _ (hpl i oi hi).choose_spec (hpl j oj hj).choose_spec (distinctB_at hd i j oi oj hi hj hne) g, hdis⟩
  have hlen : ∀ {l : List SV} {vs : List Value}, Rs w (S.excl E b) bc l vs → Rs w (fun g => Xc g ∨ BkO bc cow g) bc l vs := fun {l} => by
    induction l with
    | nil => intro vs hh; cases vs <;> exact hh
    | cons x l ih =>
      intro vs hh
      cases vs with
      | nil => exact hh
      | cons v vs => exact ⟨hh.1.mono hE (fun g _ hg => hall g hg), ih hh.2⟩
  refine (h w Xc E.base bc vals hr.base_le (fun g hg => hr.excl_lt (hXc g hg)) hin (hlen hv)).mono ?_
  rintro e w'' ⟨v, b', rfl, hold, hout, hR, hkept, hnew⟩
  let b'' := setN b b' ν
  have hext : Ext (S.excl E b) w w'' := ⟨hkept.size, fun g hg hX => hkept.block g hg (fun hh => hX (hcow g hh))⟩
  have hb'' : ∀ i, memB i (ν.map (·.2)) = false → b'' i = b i := fun i hi => setN_other hi
  -- names that come back
  have hρν : ∀ i, (hiD ρ i || (inD ν i && !(inD ρ i))) = true → b'' (rn (ρ ++ ν) i) = b' i := fun i hi => by
    rw [inD_app]
    cases hq : inD ρ i with
    | true =>
      rw [if_pos rfl]
      have h1000 : 1000 ≤ i := by
        simp only [hq, hiD, Bool.true_and, Bool.not_true, Bool.and_false, Bool.or_false] at hi
        exact Nat.le_of_ble_eq_true hi
      rw [hold i h1000]
      show setN b b' ν (rn ρ i) = b (rn ρ i)
      exact setN_other (disjB_at hρ hq)
    | false =>
      rw [if_neg (by simp)]
      simp only [hiD, hq, Bool.false_and, Bool.false_or, Bool.not_false, Bool.and_true] at hi
      exact setN_at hn hi
  have hfr : ∀ j, memB j (ν.map (·.2)) = true → freshS j S.slots = true ∧ freshO j S.owns = true ∧ j < 1000 := fun j hj => St.fresh_parts (freshN_mem hn hj)
  have hkey : ∀ {j o}, lookO j S.owns = some o → memB j (ν.map (·.2)) = false := fun {j o} hj => by
    cases hm : memB j (ν.map (·.2)) with
    | false => rfl
    | true => exact absurd rfl (lookO_fresh (hfr j hm).2.1 j o hj).1
  let S'' : St := ⟨S.slots, renO (rn (ρ ++ ν)) cow' ++ dropKs (cow.map fun p => rn ρ p.1) S.owns⟩
  have hl : ∀ {j o}, lookO j S''.owns = some o → (∃ i o', lookO i cow' = some o' ∧ j = rn (ρ ++ ν) i ∧ o = o'.renm (rn (ρ ++ ν)) ∧ b'' j = b' i) ∨ (lookO j (dropKs (cow.map fun p => rn ρ p.1) S.owns) = some o ∧ b'' j = b j) := fun {j o} hj => by
    rcases lookO_app hj with h1 | ⟨_, h1⟩
    · obtain ⟨i, o', h2, rfl, rfl⟩ := lookO_renO h1
      exact .inl ⟨i, o', h2, rfl, rfl, hρν i (allIds_at hid.2 i o' h2).1⟩
    · exact .inr ⟨h1, hb'' j (hkey (hrest h1).2)⟩
  have hX3 : ∀ g, S''.excl E b'' g → Xc g ∨ BkO b' cow' g := by
    rintro g (h1 | ⟨j, o, h1, h2⟩)
    · exact .inl (.inl h1)
    · rcases hl h1 with ⟨i, o', h3, rfl, rfl, h4⟩ | ⟨h3, h4⟩
      · rw [h4] at h2; exact .inr ⟨i, o', h3, h2⟩
      · rw [h4] at h2; exact .inl (.inr ⟨j, o, h3, h2⟩)
  have hX2 : ∀ g, g < w.heap.size → S''.excl E b'' g → S.excl E b g := fun g hg h1 => by
    rcases hX3 g h1 with h2 | h2
    · exact hXc g h2
    · rcases hnew g h2 with h3 | h3
      · omega
      · exact hcow g h3
  have hRR : ∀ x v, (∀ i, memB i (ν.map (·.2)) = true → x.noId i = true) → R w (S.excl E b) b x v → R w'' (S''.excl E b'') b'' x v := fun x v hx hr => by
    refine (R_congr (p := fun i => !(memB i (ν.map (·.2)))) (fun i hi => hb'' i (by simpa using hi)) (noIds hx) hr).mono hext hX2
  have hRM : ∀ x v, x.okId (fun i => hiD ρ i || (inD ν i && !(inD ρ i))) = true → R w'' (fun g => Xc g ∨ BkO b' cow' g) b' x v → R w'' (S''.excl E b'') (fun i => b'' (rn (ρ ++ ν) i)) x v := fun x v hx hr =>
    (R_congr (b' := fun i => b'' (rn (ρ ++ ν) i)) hρν hx hr).mono ⟨Nat.le_refl _, fun _ _ _ => rfl⟩ (fun g _ hg => hX3 g hg)
  refine ⟨v, b'', rfl, ?_, R_renm.2 (hRM _ _ hid.1 hR)⟩
  exact {
    size := hr.size
    defers := hr.defers
    below := ⟨hkept.os.trans hr.below.os, hkept.tape.trans hr.below.tape, hkept.output.trans hr.below.output, Nat.le_trans hr.below.size hkept.size, fun g hg hY => by
      refine (hkept.block g (by have := hr.below.size; omega) fun hh => ?_).trans (hr.below.block g hg hY)
      obtain ⟨i, o, h1, h2⟩ := hh
      rcases hr.mine _ _ (hpl i o h1).choose_spec g h2 with h3 | h3
      · omega
      · exact hY h3⟩
    slots := fun s x hx => hRR _ _ (fun i hi => look_fresh (hfr i hi).1 s x hx) (hr.slots s x hx)
    owns := fun j o hj => by
      rcases hl hj with ⟨i, o', h3, rfl, rfl, h4⟩ | ⟨h3, h4⟩
      · exact OwnOk_renm.2 ((hout.owns i o' h3).keep0 (b' := fun i => b'' (rn (ρ ++ ν) i)) (p := fun x => x.okId (fun i => hiD ρ i || (inD ν i && !(inD ρ i))) = true) h4 (Own.okId_all (allIds_at hid.2 i o' h3).2) (fun _ _ _ => rfl) hRM
          (fun x v hr => hr.mono ⟨Nat.le_refl _, fun _ _ _ => rfl⟩ (fun g _ hg => hX3 g hg)))
      · exact (hr.owns j o (hrest h3).2).keep0 (p := fun x => ∀ i, memB i (ν.map (·.2)) = true → x.noId i = true) h4 (Own.All_many fun i hi => (lookO_fresh (hfr i hi).2.1 j o (hrest h3).2).2)
          (fun g hg hb => hkept.block g hg fun ⟨i, o', h5, h6⟩ => hr.apart _ _ _ _ (hpl i o' h5).choose_spec (hrest h3).2 ((hrest h3).1 i o' h5) g h6 hb) hRR (fun x v hr => hr.mono hext hX2)
    mine := fun j o hj g hg => by
      rcases hl hj with ⟨i, o', h3, rfl, rfl, h4⟩ | ⟨h3, h4⟩
      · rw [h4] at hg
        rcases hnew g ⟨i, o', h3, hg⟩ with h5 | ⟨i2, o2, h5, h6⟩
        · exact .inl (Nat.le_trans hr.below.size h5)
        · exact hr.mine _ _ (hpl i2 o2 h5).choose_spec g h6
      · rw [h4] at hg
        exact hr.mine j o (hrest h3).2 g hg
    apart := fun j1 j2 o1 o2 h1 h2 hne g hg1 hg2 => by
      rcases hl h1 with ⟨i, o', h3, rfl, rfl, h4⟩ | ⟨h3, h4⟩
      · rcases hl h2 with ⟨i2, o2', h5, rfl, rfl, h6⟩ | ⟨h5, h6⟩
        · rw [h4] at hg1; rw [h6] at hg2
          exact hout.apart i i2 _ _ h3 h5 (fun e => hne (by rw [e])) g hg1 hg2
        · rw [h4] at hg1; rw [h6] at hg2
          exact hout.free g ⟨i, o', h3, hg1⟩ (.inr ⟨j2, o2, h5, hg2⟩)
      · rcases hl h2 with ⟨i2, o2', h5, rfl, rfl, h6⟩ | ⟨h5, h6⟩
        · rw [h4] at hg1; rw [h6] at hg2
          exact hout.free g ⟨i2, o2', h5, hg2⟩ (.inr ⟨j1, o1, h3, hg1⟩)
        · rw [h4] at hg1; rw [h6] at hg2
          exact hr.apart j1 j2 _ _ (hrest h3).2 (hrest h5).2 hne g hg1 hg2
    old := fun j hj => (hb'' j (by
      cases hm : memB j (ν.map (·.2)) with
      | false => rfl
      | true => have := (hfr j hm).2.2; omega)).trans (hr.old j hj) }

/-- The callee's arguments, by the callee's names. -/
def MVals {NN : Nat} (E : Env NN) (S : St) (g : Nat → Nat) : List Operand → List SV → Prop
  | [], [] => True
  | x :: xs, s :: ss => Val E S x (s.renm g) ∧ MVals E S g xs ss
  | _, _ => False
theorem MVals.rs {S : St} {g : Nat → Nat} {b : Nat → Value} {a : Act} {w : World} (hr : RepB E b S a w) : ∀ {xs : List Operand} {ss : List SV}, MVals E S g xs ss → Rs w (S.excl E b) (fun i => b (g i)) ss (xs.map a.eval)
  | [], [], _ => trivial
  | _ :: _, _ :: _, h => ⟨R_renm.1 (h.1 b a w hr), MVals.rs hr h.2⟩
  | [], _ :: _, h => h.elim
  | _ :: _, [], h => h.elim
def renL (g : Nat → Nat) : List SV → List SV
  | [] => []
  | x :: r => x.renm g :: renL g r
theorem rs_renL {w : World} {X : Nat → Prop} {b : Nat → Value} {g : Nat → Nat} : ∀ {l : List SV} {vs : List Value}, Rs w X b (renL g l) vs → Rs w X (fun i => b (g i)) l vs
  | [], [], _ => trivial
  | _ :: _, _ :: _, h => ⟨R_renm.1 h.1, rs_renL h.2⟩
  | [], _ :: _, h => h.elim
  | _ :: _, [], h => h.elim

theorem t_callM {ops : Array Oper} {rest : List Oper} {S : St} {K : St → Prop} {d : Tmp} {f : FuncId} {xs : List Operand} {ats : Array TypeId} {ty : TypeId} {pos : String} {after : Array Edge} {cargs : List SV} {cow cow' : List (Nat × Own)} {cr : SV} (ρ ν : List (Nat × Nat))
    (hf : Enters P f) (ha : MVals E S (rn ρ) xs cargs) (h : CtM P f cargs cow cr cow') (hp : PassO S (rn ρ) cow) (hdi : distinctB (rn ρ) cow = true) (hn : FreshN S ν = true) (hρ : disjB ρ ν = true)
    (hid : (cr.okId (fun i => hiD ρ i || (inD ν i && !(inD ρ i))) && allIds (fun i => hiD ρ i || (inD ν i && !(inD ρ i))) cow') = true)
    (hk : T P E ops rest ⟨(d, cr.renm (rn (ρ ++ ν))) :: S.slots, renO (rn (ρ ++ ν)) cow' ++ dropKs (cow.map fun p => rn ρ p.1) S.owns⟩ K) (hd : d < NN := by decide) :
    T P E ops ({ dst := some d, op := .call { callee := .value (.func f), args := xs.toArray, argTypes := ats }, type := ty, pos, after, guard := none } :: rest) S K := by
  rintro a w ⟨b, hr⟩ Q hq
  unfold wpList
  rw [if_pos (by rfl)]
  refine .inl (wp_of_enter (R := fun v w'' => ∃ b'', RepB E b'' ⟨S.slots, renO (rn (ρ ++ ν)) cow' ++ dropKs (cow.map fun p => rn ρ p.1) S.owns⟩ a w'' ∧ R w'' (St.excl ⟨S.slots, renO (rn (ρ ++ ν)) cow' ++ dropKs (cow.map fun p => rn ρ p.1) S.owns⟩ E b'') b'' (cr.renm (rn (ρ ++ ν))) v)
    (run_call hf ..) ?_ fun v w'' ⟨b'', hr', hv⟩ => hk _ _ ⟨b'', hr'.put hd hv⟩ Q hq)
  refine (call_stepM hr ρ ν h (ha.rs hr) hp hdi hn hρ hid).mono ?_
  rintro e w'' ⟨v, b'', rfl, h1, h2⟩
  exact ⟨v, rfl, b'', h1, h2⟩
/-- The same through a function value. -/
theorem t_callMV {ops : Array Oper} {rest : List Oper} {S : St} {K : St → Prop} {d : Tmp} {f : FuncId} {xf : Operand} {xs : List Operand} {ats : Array TypeId} {ty : TypeId} {pos : String} {after : Array Edge} {caps cargs : List SV} {cow cow' : List (Nat × Own)} {cr : SV} (ρ ν : List (Nat × Nat))
    (hxf : FnVal E S xf f (renL (rn ρ) caps)) (hf : Enters P f) (ha : MVals E S (rn ρ) xs cargs) (h : CtM P f (cargs ++ caps) cow cr cow') (hp : PassO S (rn ρ) cow) (hdi : distinctB (rn ρ) cow = true) (hn : FreshN S ν = true) (hρ : disjB ρ ν = true)
    (hid : (cr.okId (fun i => hiD ρ i || (inD ν i && !(inD ρ i))) && allIds (fun i => hiD ρ i || (inD ν i && !(inD ρ i))) cow') = true)
    (hk : T P E ops rest ⟨(d, cr.renm (rn (ρ ++ ν))) :: S.slots, renO (rn (ρ ++ ν)) cow' ++ dropKs (cow.map fun p => rn ρ p.1) S.owns⟩ K) (hd : d < NN := by decide) :
    T P E ops ({ dst := some d, op := .call { callee := .value xf, args := xs.toArray, argTypes := ats }, type := ty, pos, after, guard := none } :: rest) S K := by
  rintro a w ⟨b, hr⟩ Q hq
  obtain ⟨vals, hv, hc⟩ := hxf b a w hr
  unfold wpList
  rw [if_pos (by rfl)]
  refine .inl (wp_of_enter (R := fun v w'' => ∃ b'', RepB E b'' ⟨S.slots, renO (rn (ρ ++ ν)) cow' ++ dropKs (cow.map fun p => rn ρ p.1) S.owns⟩ a w'' ∧ R w'' (St.excl ⟨S.slots, renO (rn (ρ ++ ν)) cow' ++ dropKs (cow.map fun p => rn ρ p.1) S.owns⟩ E b'') b'' (cr.renm (rn (ρ ++ ν))) v)
    (run_callV hf a xf vals hv ..) ?_ fun v w'' ⟨b'', hr', hv⟩ => hk _ _ ⟨b'', hr'.put hd hv⟩ Q hq)
  refine (call_stepM hr ρ ν h (rs_app (ha.rs hr) (rs_renL hc)) hp hdi hn hρ hid).mono ?_
  rintro e w'' ⟨v, b'', rfl, h1, h2⟩
  exact ⟨v, rfl, b'', h1, h2⟩
end Go.Eng

namespace Go.Eng
open Go.RowKit
variable {P : Program} {NN : Nat} {E : Env NN}
/-- A thing of the frame's own gets another name. -/
def mvN (j j' : Nat) (i : Nat) : Nat := match Nat.beq i j with | true => j' | false => i
theorem rep_mv {S : St} {b : Nat → Value} {a : Act} {w : World} (h : RepB E b S a w) (j j' : Nat) {o : Own} (ho : lookO j S.owns = some o) (hf : S.fresh j' = true) :
    RepB E (setB b j' (b j)) ⟨mapS (SV.renm (mvN j j')) S.slots, (j', o.map (SV.renm (mvN j j'))) :: dropM (SV.renm (mvN j j')) j S.owns⟩ a w := by
  obtain ⟨hf1, hf2, hf3⟩ := St.fresh_parts hf
  have hN : ∀ i, notJ j' i = true → setB b j' (b j) (mvN j j' i) = b i := fun i hi => by
    have hne := notJ_ne hi
    unfold mvN
    split
    · rename_i hb
      rw [setB_same, Nat.eq_of_beq_eq_true hb]
    · rw [setB_other _ _ _ hne]
  have hX : ∀ g, St.excl ⟨mapS (SV.renm (mvN j j')) S.slots, (j', o.map (SV.renm (mvN j j'))) :: dropM (SV.renm (mvN j j')) j S.owns⟩ E (setB b j' (b j)) g → S.excl E b g := by
    rintro g (hh | ⟨i, o1, h1, h2⟩)
    · exact .inl hh
    · rw [lookO_cons] at h1
      split at h1
      · rename_i e; subst e; rw [setB_same] at h2; exact .inr ⟨j, o, ho, h2⟩
      · rename_i e
        rw [setB_other _ _ _ e] at h2
        obtain ⟨_, z, hz, _⟩ := lookO_dropM h1
        exact .inr ⟨i, z, hz, h2⟩
  have he : Ext (S.excl E b) w w := ⟨Nat.le_refl _, fun _ _ _ => rfl⟩
  have hR : ∀ x v, x.noId j' = true → R w (S.excl E b) b x v → R w (St.excl ⟨mapS (SV.renm (mvN j j')) S.slots, (j', o.map (SV.renm (mvN j j'))) :: dropM (SV.renm (mvN j j')) j S.owns⟩ E (setB b j' (b j))) (setB b j' (b j)) (x.renm (mvN j j')) v :=
    fun x v hx hr => R_renm.2 ((R_congr (b' := fun i => setB b j' (b j) (mvN j j' i)) hN hx hr).mono he (fun g _ hh => hX g hh))
  have hRO : ∀ x v, RO w (S.excl E b) x v → RO w (St.excl ⟨mapS (SV.renm (mvN j j')) S.slots, (j', o.map (SV.renm (mvN j j'))) :: dropM (SV.renm (mvN j j')) j S.owns⟩ E (setB b j' (b j))) x v := fun x v hr => hr.mono he (fun g _ hh => hX g hh)
  exact {
    size := h.size
    defers := h.defers
    below := h.below
    slots := fun s x hx => by
      obtain ⟨z, hz, rfl⟩ := look_map hx
      exact hR _ _ (look_fresh hf1 s z hz) (h.slots s z hz)
    owns := fun i o1 hi => by
      rw [lookO_cons] at hi
      split at hi
      · rename_i e
        injection hi with hi
        subst hi; subst e
        have hij := lookO_fresh hf2 j o ho
        have hmv : mvN j i j = i := by simp [mvN]
        have h3 := OwnOk_renm.2 ((h.owns j o ho).keep0 (X' := St.excl ⟨mapS (SV.renm (mvN j i)) S.slots, (i, o.map (SV.renm (mvN j i))) :: dropM (SV.renm (mvN j i)) j S.owns⟩ E (setB b i (b j))) (b' := fun q => setB b i (b j) (mvN j i q)) (p := fun x => x.noId i = true)
          (by show setB b i (b j) (mvN j i j) = b j; rw [hmv, setB_same]) (Own.noId_all hij.2) (fun _ _ _ => rfl) (fun x v hx hr => (R_congr (b' := fun q => setB b i (b j) (mvN j i q)) hN hx hr).mono he (fun g _ hh => hX g hh)) hRO)
        rw [hmv] at h3
        exact h3
      · rename_i e
        obtain ⟨hij, z, hz, rfl⟩ := lookO_dropM hi
        have hij2 := lookO_fresh hf2 i z hz
        exact (h.owns i z hz).keep (SV.renm (mvN j j')) (p := fun x => x.noId j' = true) (setB_other _ _ _ e) (Own.noId_all hij2.2) (fun _ _ _ => rfl) hR hRO
    mine := fun i o1 hi g hg => by
      rw [lookO_cons] at hi
      split at hi
      · rename_i e; subst e; rw [setB_same] at hg; exact h.mine j o ho g hg
      · rename_i e
        rw [setB_other _ _ _ e] at hg
        obtain ⟨hij, z, hz, rfl⟩ := lookO_dropM hi
        exact h.mine i z hz g hg
    apart := fun p q op oq hp hq hne g hg => by
      rw [lookO_cons] at hp hq
      split at hp
      · rename_i e1
        subst e1
        rw [setB_same] at hg
        split at hq
        · rename_i e2; exact absurd e2.symm hne
        · rename_i e2
          rw [setB_other _ _ _ e2]
          obtain ⟨h1, z, hz, rfl⟩ := lookO_dropM hq
          exact h.apart j q o z ho hz (Ne.symm h1) g hg
      · rename_i e1
        rw [setB_other _ _ _ e1] at hg
        obtain ⟨h1, z, hz, rfl⟩ := lookO_dropM hp
        split at hq
        · rename_i e2
          subst e2
          rw [setB_same]
          exact h.apart p j z o hz ho h1 g hg
        · rename_i e2
          rw [setB_other _ _ _ e2]
          obtain ⟨h3, z', hz', rfl⟩ := lookO_dropM hq
          exact h.apart p q z z' hz hz' hne g hg
    old := fun i hi => by rw [setB_other _ _ _ (by omega)]; exact h.old i hi }
theorem c_mv {c : Code} {S : St} {Q : Exit → Act → World → Prop} (j j' : Nat) {o : Own} (ho : lookO j S.owns = some o) (hf : S.fresh j' = true)
    (h : C P E c ⟨mapS (SV.renm (mvN j j')) S.slots, (j', o.map (SV.renm (mvN j j'))) :: dropM (SV.renm (mvN j j')) j S.owns⟩ Q) : C P E c S Q := fun a w ⟨_, hr⟩ => h a w ⟨_, rep_mv hr j j' ho hf⟩
theorem freshN_cons {S : St} {p : Nat × Nat} {r : List (Nat × Nat)} (h : S.fresh p.2 = true) (hm : memB p.2 (r.map (·.2)) = false) (hr : FreshN S r = true) : FreshN S (p :: r) = true := by
  simp only [FreshN, h, hm, hr]; rfl
theorem q_idxON {S : St} {x y : Operand} {t : TypeId} {j n k : Nat} {get : Nat → Nat → SV} {e : TypeId} {kk : IntKind} {i : Nat} (hx : Val E S x (.own j)) (ho : lookO j S.owns = some (.arow n k get e)) (hy : Val E S y (.v (.int kk (i : Int))))
    (ht : P.underlying t = some (.slice (P.elem t))) (hs : ∀ w, (sizeOf (P.elem t)).run P w = .ok k w) (h1 : i < n) :
    OpQ P E S (.indexAddr t x y) (.oe j k i 0) := q_idxO hx ho hy ht hs (by omega) (by omega)
theorem k_weak {S S' : St} {G : Act → World → Prop} (h : Weak E S S') (hk : ∀ a w, Rep E S' a w → G a w) : ∀ a w, Rep E S a w → G a w := fun a w ⟨b, hr⟩ => hk a w ⟨b, h b a w hr⟩
theorem weak_ownE {α : Type} {f : α → Nat → SV} {k : Nat} {d : α} {e : TypeId} {S : St} (j : Nat) {l1 : List α} (l2 : List α) (ho : lookO j S.owns = some (ownOf f k d l1 e)) (h : l1 = l2) : Weak E S ⟨S.slots, (j, ownOf f k d l2 e) :: S.owns⟩ := by
  subst h
  exact weak_own ho rfl (fun _ _ _ _ => rfl)
theorem k_ownE {α : Type} {f : α → Nat → SV} {k : Nat} {d : α} {e : TypeId} {S : St} {G : Act → World → Prop} (j : Nat) {l1 : List α} (l2 : List α) (ho : lookO j S.owns = some (ownOf f k d l1 e)) (h : l1 = l2)
    (hk : ∀ a w, Rep E ⟨S.slots, (j, ownOf f k d l2 e) :: S.owns⟩ a w → G a w) : ∀ a w, Rep E S a w → G a w := k_weak (weak_ownE j l2 ho h) hk
theorem k_mv {S : St} {G : Act → World → Prop} (j j' : Nat) {o : Own} (ho : lookO j S.owns = some o) (hf : S.fresh j' = true)
    (h : ∀ a w, Rep E ⟨mapS (SV.renm (mvN j j')) S.slots, (j', o.map (SV.renm (mvN j j'))) :: dropM (SV.renm (mvN j j')) j S.owns⟩ a w → G a w) : ∀ a w, Rep E S a w → G a w := fun a w ⟨_, hr⟩ => h a w ⟨_, rep_mv hr j j' ho hf⟩
theorem k_frz {S : St} {G : Act → World → Prop} (j : Nat) {n k : Nat} {get : Nat → Nat → SV} {e : TypeId} (ho : lookO j S.owns = some (.arow n k get e))
    (h : ∀ a w, Rep E ⟨frzS j (.row n k get) S.slots, frzO j (.row n k get) S.owns⟩ a w → G a w) : ∀ a w, Rep E S a w → G a w := k_weak (weak_frz j ho) h

/-! Parts of typed rows. -/
section parts
variable {α : Type} {c : α → Nat → SV} {k : Nat} {d : α} {l : List α} {S : St} {x lo hi : Operand} {t : TypeId}
theorem q_slHT {h : Int} (ht : P.underlying t = some (.slice (P.elem t))) (hs : ∀ w, (sizeOf (P.elem t)).run P w = .ok k w) (hx : Val E S x (rowOf c k d l)) (hhi : Val E S hi (.v (.int .i64 h))) (h1 : 0 ≤ h) (h2 : h ≤ l.length) :
    OpQ P E S (.slice t x none (some hi) none) (rowOf c k d (l.take h.toNat)) :=
  q_row (q_slH ht hs hx hhi h1 h2) (by rw [List.length_take]; omega) fun i hi t _ => by
    rw [List.length_take] at hi
    simp only [rowG, List.getD_eq_getElem?_getD, List.getElem?_take]
    rw [if_pos (by omega)]
theorem q_slHN {h : Nat} (ht : P.underlying t = some (.slice (P.elem t))) (hs : ∀ w, (sizeOf (P.elem t)).run P w = .ok k w) (hx : Val E S x (rowOf c k d l)) (hhi : Val E S hi (.v (.int .i64 (h : Int)))) (h2 : h ≤ l.length) :
    OpQ P E S (.slice t x none (some hi) none) (rowOf c k d (l.take h)) := q_slHT ht hs hx hhi (by omega) (by omega)
theorem q_slLT {h : Int} (ht : P.underlying t = some (.slice (P.elem t))) (hs : ∀ w, (sizeOf (P.elem t)).run P w = .ok k w) (hx : Val E S x (rowOf c k d l)) (hlo : Val E S lo (.v (.int .i64 h))) (h1 : 0 ≤ h) (h2 : h ≤ l.length) :
    OpQ P E S (.slice t x (some lo) none none) (rowOf c k d (l.drop h.toNat)) :=
  q_row (q_slL ht hs hx hlo h1 h2) (by rw [List.length_drop]) fun i hi t _ => by
    simp only [rowG, List.getD_eq_getElem?_getD, List.getElem?_drop]
theorem q_slLN {h : Nat} (ht : P.underlying t = some (.slice (P.elem t))) (hs : ∀ w, (sizeOf (P.elem t)).run P w = .ok k w) (hx : Val E S x (rowOf c k d l)) (hlo : Val E S lo (.v (.int .i64 (h : Int)))) (h2 : h ≤ l.length) :
    OpQ P E S (.slice t x (some lo) none none) (rowOf c k d (l.drop h)) := q_slLT ht hs hx hlo (by omega) (by omega)
theorem q_slT {g h : Int} (ht : P.underlying t = some (.slice (P.elem t))) (hs : ∀ w, (sizeOf (P.elem t)).run P w = .ok k w) (hx : Val E S x (rowOf c k d l)) (hlo : Val E S lo (.v (.int .i64 g))) (hhi : Val E S hi (.v (.int .i64 h))) (h0 : 0 ≤ g) (h1 : g ≤ h) (h2 : h ≤ l.length) :
    OpQ P E S (.slice t x (some lo) (some hi) none) (rowOf c k d ((l.take h.toNat).drop g.toNat)) :=
  q_row (q_sl ht hs hx hlo hhi h0 h1 h2) (by rw [List.length_drop, List.length_take]; omega) fun i hi t _ => by
    rw [List.length_drop, List.length_take] at hi
    simp only [rowG, List.getD_eq_getElem?_getD, List.getElem?_drop, List.getElem?_take]
    rw [if_pos (by omega)]
end parts
theorem c_hereG {S : St} {G : Act → World → Prop} {ι : Type} {T : ι → St} {I : ι → Prop} (i : ι) (hI : I i) (hw : Weak E S (T i)) (hG : ∀ a w, (∃ i, I i ∧ Rep E (T i) a w) → G a w) : ∀ a w, Rep E S a w → G a w :=
  fun a w ⟨b, hr⟩ => hG a w ⟨i, hI, b, hw b a w hr⟩
end Go.Eng

namespace Go.Eng
open Go.RowKit
variable {P : Program} {NN : Nat} {E : Env NN}
/-! Results that stand in a variable's block. -/
def resRun (tmps : Array Value) : ResultVar → Sem Value
  | .tmp t => pure (tmps.getD t undef)
  | .cell a t => do loadVar t (← asAddr (tmps.getD a undef))
def ResV (P : Program) {NN : Nat} (E : Env NN) (S : St) (r : ResultVar) (x : SV) : Prop := ∀ b a w, RepB E b S a w → ∃ v, (resRun a.tmps r).run P w = .ok v w ∧ R w (S.excl E b) b x v
theorem rv_tmp {S : St} {t : Tmp} {x : SV} (h : Val E S (.tmp t) x) : ResV P E S (.tmp t) x := fun b a w hr => ⟨_, rfl, h b a w hr⟩
theorem rv_cell {S : St} {q : Tmp} {t : TypeId} {j m : Nat} {get : Nat → SV} {ty : TypeId} (hx : Val E S (.tmp q) (.bp j 0)) (ho : lookO j S.owns = some (.box m get ty))
    (ht : ∀ w, (isAgg t).run P w = .ok true w) (hs : ∀ w, (sizeOf t).run P w = .ok m w) : ResV P E S (.cell q t) (.agg m get) := fun b a w hr => by
  obtain ⟨v, h1, h2⟩ := q_ldBA (P := P) (t := t) hx ho ht hs (Nat.le_of_eq (Nat.zero_add m)) b a w hr none 0 "" #[] none
  obtain ⟨cs, rfl, hm, hc⟩ := h2
  refine ⟨.agg cs, ?_, cs, rfl, hm, fun t ht => ?_⟩
  · have h3 := h1 w (Below.refl _ _)
    obtain ⟨g, hb, hv⟩ := hx b a w hr
    simp only [Act.eval] at hv
    simp only [execOp, Act.eval, hv, Instr.loadAt, Instr.sureAddr, Sem.run_bind] at h3
    simp only [resRun, hv, asAddr, Sem.run_bind, Sem.run_pure, Result.andThen_ok] at h3 ⊢
    revert h3
    generalize (loadVar t ⟨g, 0, none⟩).run P w = r
    intro h3
    cases r with
    | ok u w1 => simpa using h3
    | halt u w1 => simp at h3
  · have := hc t ht
    simpa using this
theorem results_eq (fn : Func) (tmps : Array Value) : results fn tmps = (do
    let vs ← fn.results.mapM (resRun tmps)
    pure (if h : vs.size = 1 then vs[0] else .tuple vs)) := by
  unfold results
  congr 1
theorem results1 {fn : Func} {r : ResultVar} (h : fn.results = #[r]) {tmps : Array Value} {w : World} {v : Value} (h1 : (resRun tmps r).run P w = .ok v w) : (results fn tmps).run P w = .ok v w := by
  rw [results_eq, h]
  simp [h1]
theorem results2 {fn : Func} {r s : ResultVar} (h : fn.results = #[r, s]) {tmps : Array Value} {w : World} {v u : Value} (h1 : (resRun tmps r).run P w = .ok v w) (h2 : (resRun tmps s).run P w = .ok u w) : (results fn tmps).run P w = .ok (.tuple #[v, u]) w := by
  rw [results_eq, h]
  simp [h1, h2]
theorem results3 {fn : Func} {r s q : ResultVar} (h : fn.results = #[r, s, q]) {tmps : Array Value} {w : World} {v u x : Value} (h1 : (resRun tmps r).run P w = .ok v w) (h2 : (resRun tmps s).run P w = .ok u w) (h3 : (resRun tmps q).run P w = .ok x w) :
    (results fn tmps).run P w = .ok (.tuple #[v, u, x]) w := by
  rw [results_eq, h]
  simp [h1, h2, h3]
theorem retR1 {fn : Func} {t : ResultVar} {S : St} {x r : SV} (hres : fn.results = #[t]) (h : ResV P E S t x) (hro : x.isRO = true) (e : x = r) : ∀ a w, Rep E S a w → bodyPost P fn (PostR E r) .ret a w := by
  rintro a w ⟨b, hr⟩
  subst e
  obtain ⟨v, h1, h2⟩ := h b a w hr
  exact post_ret hr (results1 hres h1) (h2.toRO hro)
theorem retR2 {fn : Func} {t u : ResultVar} {S : St} {x y r : SV} (hres : fn.results = #[t, u]) (hx : ResV P E S t x) (hy : ResV P E S u y) (h1 : x.isRO = true) (h2 : y.isRO = true) (e : sv2 x y = r) : ∀ a w, Rep E S a w → bodyPost P fn (PostR E r) .ret a w := by
  rintro a w ⟨b, hr⟩
  subst e
  obtain ⟨v, h3, h4⟩ := hx b a w hr
  obtain ⟨v', h5, h6⟩ := hy b a w hr
  exact post_ret hr (results2 hres h3 h5) ⟨_, rfl, rfl, fun i hi => match i, hi with
    | 0, _ => ⟨_, rfl, h4.toRO h1⟩
    | 1, _ => ⟨_, rfl, h6.toRO h2⟩⟩
theorem retR3 {fn : Func} {t u q : ResultVar} {S : St} {x y z r : SV} (hres : fn.results = #[t, u, q]) (hx : ResV P E S t x) (hy : ResV P E S u y) (hz : ResV P E S q z) (h1 : x.isRO = true) (h2 : y.isRO = true) (h3 : z.isRO = true) (e : sv3 x y z = r) : ∀ a w, Rep E S a w → bodyPost P fn (PostR E r) .ret a w := by
  rintro a w ⟨b, hr⟩
  subst e
  obtain ⟨v, g1, g2⟩ := hx b a w hr
  obtain ⟨v', g3, g4⟩ := hy b a w hr
  obtain ⟨v'', g5, g6⟩ := hz b a w hr
  exact post_ret hr (results3 hres g1 g3 g5) ⟨_, rfl, rfl, fun i hi => match i, hi with
    | 0, _ => ⟨_, rfl, g2.toRO h1⟩
    | 1, _ => ⟨_, rfl, g4.toRO h2⟩
    | 2, _ => ⟨_, rfl, g6.toRO h3⟩⟩
theorem retRM1 {fn : Func} {t : ResultVar} {S : St} {x r : SV} {ow' : List (Nat × Own)} (hres : fn.results = #[t]) (h : ResV P E S t x) (ho : AllOE S ow') (e : x = r) : ∀ a w, Rep E S a w → bodyPost P fn (PostM E r ow') .ret a w := by
  rintro a w ⟨b, hr⟩
  obtain ⟨v, h1, h2⟩ := h b a w hr
  exact ⟨hr.defers, post_retM hr (results1 hres h1) h2 ho e⟩
theorem retRM2 {fn : Func} {t u : ResultVar} {S : St} {x y r : SV} {ow' : List (Nat × Own)} (hres : fn.results = #[t, u]) (hx : ResV P E S t x) (hy : ResV P E S u y) (ho : AllOE S ow') (e : sv2 x y = r) : ∀ a w, Rep E S a w → bodyPost P fn (PostM E r ow') .ret a w := by
  rintro a w ⟨b, hr⟩
  obtain ⟨v, h3, h4⟩ := hx b a w hr
  obtain ⟨v', h5, h6⟩ := hy b a w hr
  exact ⟨hr.defers, post_retM (x := sv2 x y) hr (results2 hres h3 h5) ⟨_, rfl, rfl, fun i hi => match i, hi with
    | 0, _ => ⟨_, rfl, h4⟩
    | 1, _ => ⟨_, rfl, h6⟩⟩ ho e⟩
theorem retRM3 {fn : Func} {t u q : ResultVar} {S : St} {x y z r : SV} {ow' : List (Nat × Own)} (hres : fn.results = #[t, u, q]) (hx : ResV P E S t x) (hy : ResV P E S u y) (hz : ResV P E S q z) (ho : AllOE S ow') (e : sv3 x y z = r) : ∀ a w, Rep E S a w → bodyPost P fn (PostM E r ow') .ret a w := by
  rintro a w ⟨b, hr⟩
  obtain ⟨v, g1, g2⟩ := hx b a w hr
  obtain ⟨v', g3, g4⟩ := hy b a w hr
  obtain ⟨v'', g5, g6⟩ := hz b a w hr
  exact ⟨hr.defers, post_retM (x := sv3 x y z) hr (results3 hres g1 g3 g5) ⟨_, rfl, rfl, fun i hi => match i, hi with
    | 0, _ => ⟨_, rfl, g2⟩
    | 1, _ => ⟨_, rfl, g4⟩
    | 2, _ => ⟨_, rfl, g6⟩⟩ ho e⟩

/-! Maps of numbers, of truths. -/
def imap (l : List (Int × Int)) : List (Int × Value) := l.map fun p => (p.1, .int .i64 p.2)
def bmap (l : List (Int × Bool)) : List (Int × Value) := l.map fun p => (p.1, .bool p.2)
def kget {β : Type} (l : List (Int × β)) (k : Int) : Option β := (l.find? (fun p => decide (p.1 = k))).map (·.2)
def kput {β : Type} : List (Int × β) → Int → β → List (Int × β)
  | [], k, v => [(k, v)]
  | p :: r, k, v => if p.1 = k then (k, v) :: r else p :: kput r k v
theorem mget_map {β : Type} (f : β → Value) : ∀ (l : List (Int × β)) (k : Int), mget (l.map fun p => (p.1, f p.2)) k = (kget l k).map f
  | [], _ => rfl
  | p :: r, k => by
    simp only [mget, kget, List.map_cons, List.find?_cons]
    by_cases e : p.1 = k
    · simp [e]
    · simp only [decide_eq_false e]
      have := mget_map f r k
      simpa [mget, kget] using this
theorem mput_map {β : Type} (f : β → Value) : ∀ (l : List (Int × β)) (k : Int) (v : β), mput (l.map fun p => (p.1, f p.2)) k (f v) = (kput l k v).map fun p => (p.1, f p.2)
  | [], _, _ => rfl
  | p :: r, k, v => by
    simp only [mput, kput, List.map_cons]
    by_cases e : p.1 = k
    · simp [e]
    · rw [if_neg e, if_neg e, List.map_cons, mput_map f r k v]
theorem val_cong {S : St} {x : Operand} {s s' : SV} (e : s = s') (h : Val E S x s) : Val E S x s' := e ▸ h
section maps
variable {S : St} {t kt et : TypeId} {m xk : Operand} {j : Nat} {k : Int}
theorem q_lookI1 {l : List (Int × Int)} (ht : P.underlying t = some (.map kt et)) (hkt : P.underlying kt = some (.int .i64)) (hz : ∀ w, (zeroValue et).run P w = .ok (.int .i64 0) w)
    (hm : Val E S m (.own j)) (ho : lookO j S.owns = some (.amap (imap l))) (hk : Val E S xk (iv k)) : OpQ P E S (.lookup t m xk false) (iv ((kget l k).getD 0)) := by
  have h := q_lookup1 ht hkt hz hm ho hk
  have e : (SV.v ((mget (imap l) k).getD (.int .i64 0))) = iv ((kget l k).getD 0) := by
    rw [imap, mget_map]; cases kget l k <;> rfl
  rw [e] at h; exact h
theorem q_lookI2 {l : List (Int × Int)} (ht : P.underlying t = some (.map kt et)) (hkt : P.underlying kt = some (.int .i64)) (hz : ∀ w, (zeroValue et).run P w = .ok (.int .i64 0) w)
    (hm : Val E S m (.own j)) (ho : lookO j S.owns = some (.amap (imap l))) (hk : Val E S xk (iv k)) : OpQ P E S (.lookup t m xk true) (sv2 (iv ((kget l k).getD 0)) (bv (kget l k).isSome)) := by
  have h := q_lookup2 ht hkt hz hm ho hk
  have e : (SV.v ((mget (imap l) k).getD (.int .i64 0))) = iv ((kget l k).getD 0) := by
    rw [imap, mget_map]; cases kget l k <;> rfl
  have e2 : (mget (imap l) k).isSome = (kget l k).isSome := by rw [imap, mget_map]; cases kget l k <;> rfl
  rw [e, e2] at h; exact h
theorem q_lookB1 {l : List (Int × Bool)} (ht : P.underlying t = some (.map kt et)) (hkt : P.underlying kt = some (.int .i64)) (hz : ∀ w, (zeroValue et).run P w = .ok (.bool false) w)
    (hm : Val E S m (.own j)) (ho : lookO j S.owns = some (.amap (bmap l))) (hk : Val E S xk (iv k)) : OpQ P E S (.lookup t m xk false) (bv ((kget l k).getD false)) := by
  have h := q_lookup1 ht hkt hz hm ho hk
  have e : (SV.v ((mget (bmap l) k).getD (.bool false))) = bv ((kget l k).getD false) := by
    rw [bmap, mget_map]; cases kget l k <;> rfl
  rw [e] at h; exact h
theorem t_putI {ops : Array Oper} {rest : List Oper} {K : St → Prop} {xv : Operand} {op : Op} {ty : TypeId} {pos : String} {after : Array Edge} {l : List (Int × Int)} {v : Int}
    (hop : op = .insert t m xk xv ∨ op = .mapUpdate t m xk xv) (ht : P.underlying t = some (.map kt et)) (hkt : P.underlying kt = some (.int .i64)) (hm : Val E S m (.own j)) (ho : lookO j S.owns = some (.amap (imap l))) (hk : Val E S xk (iv k)) (hv : Val E S xv (iv v))
    (hr : T P E ops rest ⟨S.slots, (j, .amap (imap (kput l k v))) :: S.owns⟩ K) : T P E ops ({ dst := none, op, type := ty, pos, after, guard := none } :: rest) S K :=
  t_mapPut hop ht hkt hm ho hk hv (by rw [imap, mput_map (fun n : Int => Value.int .i64 n)]; exact hr)
theorem t_putB {ops : Array Oper} {rest : List Oper} {K : St → Prop} {xv : Operand} {op : Op} {ty : TypeId} {pos : String} {after : Array Edge} {l : List (Int × Bool)} {v : Bool}
    (hop : op = .insert t m xk xv ∨ op = .mapUpdate t m xk xv) (ht : P.underlying t = some (.map kt et)) (hkt : P.underlying kt = some (.int .i64)) (hm : Val E S m (.own j)) (ho : lookO j S.owns = some (.amap (bmap l))) (hk : Val E S xk (iv k)) (hv : Val E S xv (bv v))
    (hr : T P E ops rest ⟨S.slots, (j, .amap (bmap (kput l k v))) :: S.owns⟩ K) : T P E ops ({ dst := none, op, type := ty, pos, after, guard := none } :: rest) S K :=
  t_mapPut hop ht hkt hm ho hk hv (by rw [bmap, mput_map (fun n : Bool => Value.bool n)]; exact hr)
theorem weak_mapE {ls ls' : List (Int × Value)} (ho : lookO j S.owns = some (.amap ls)) (h : ls = ls') : Weak E S ⟨S.slots, (j, .amap ls') :: S.owns⟩ := by
  subst h
  exact weak_ownG ho fun _ _ _ h => h
theorem k_mapE {G : Act → World → Prop} (j : Nat) {ls : List (Int × Value)} (ls' : List (Int × Value)) (ho : lookO j S.owns = some (.amap ls)) (h : ls = ls') (hk : ∀ a w, Rep E ⟨S.slots, (j, .amap ls') :: S.owns⟩ a w → G a w) : ∀ a w, Rep E S a w → G a w := k_weak (weak_mapE ho h) hk
theorem c_mapE {c : Code} {Q : Exit → Act → World → Prop} (j : Nat) {ls : List (Int × Value)} (ls' : List (Int × Value)) (ho : lookO j S.owns = some (.amap ls)) (h : ls = ls') (hk : C P E c ⟨S.slots, (j, .amap ls') :: S.owns⟩ Q) : C P E c S Q := (weak_mapE ho h).c hk
end maps
end Go.Eng

namespace Go.Eng
open Go.RowKit
variable {P : Program} {NN : Nat} {E : Env NN}
theorem R.agg_congr {w : World} {X : Nat → Prop} {b : Nat → Value} {m : Nat} {g g' : Nat → SV} {val : Value} (h : R w X b (.agg m g) val) (e : AllN (fun t => g t = g' t) m) : R w X b (.agg m g') val := by
  obtain ⟨cs, rfl, hm, hr⟩ := h
  refine ⟨cs, rfl, hm, fun t ht => ?_⟩
  obtain ⟨u, hu, h1, h2⟩ := hr t ht
  exact ⟨u, hu, h1, e.at t ht ▸ h2⟩
/-- The same struct, said in other words. -/
theorem val_agg {S : St} {x : Operand} {m : Nat} {g g' : Nat → SV} (h : Val E S x (.agg m g)) (e : AllN (fun t => g t = g' t) m) : Val E S x (.agg m g') := fun b a w hr => (h b a w hr).agg_congr e
theorem q_agg {S : St} {op : Op} {m : Nat} {g g' : Nat → SV} (h : OpQ P E S op (.agg m g)) (e : AllN (fun t => g t = g' t) m) : OpQ P E S op (.agg m g') := fun b a w hr dst ty pos after gd => by
  obtain ⟨v, h1, h2⟩ := h b a w hr dst ty pos after gd
  exact ⟨v, h1, h2.agg_congr e⟩
theorem rv_agg {S : St} {r : ResultVar} {m : Nat} {g g' : Nat → SV} (h : ResV P E S r (.agg m g)) (e : AllN (fun t => g t = g' t) m) : ResV P E S r (.agg m g') := fun b a w hr => by
  obtain ⟨v, h1, h2⟩ := h b a w hr
  exact ⟨v, h1, h2.agg_congr e⟩

/-- From one state to another one, names of the frame's own turned. -/
def Turn {NN : Nat} (E : Env NN) (S S' : St) : Prop := ∀ b a w, RepB E b S a w → ∃ b', RepB E b' S' a w
theorem t_turn {ops : Array Oper} {rest : List Oper} {S S' : St} {K : St → Prop} (h : Turn E S S') (ht : T P E ops rest S' K) : T P E ops rest S K := fun a w ⟨b, hr⟩ Q hq => ht a w (h b a w hr) Q hq
theorem c_turn {c : Code} {S S' : St} {Q : Exit → Act → World → Prop} (h : Turn E S S') (hc : C P E c S' Q) : C P E c S Q := fun a w ⟨b, hr⟩ => hc a w (h b a w hr)
theorem k_turn {S S' : St} {G : Act → World → Prop} (h : Turn E S S') (hk : ∀ a w, Rep E S' a w → G a w) : ∀ a w, Rep E S a w → G a w := fun a w ⟨b, hr⟩ => hk a w (h b a w hr)

/-- A slot that holds nil holds a slice of the frame's own, of nothing. -/
theorem turn_nilS {S : St} (s j k : Nat) (get : Nat → Nat → SV) (e : TypeId) (hs : look s S.slots = some (.v (.slice none 0 0))) (hf : S.fresh j = true) : Turn E S ⟨(s, .own j) :: S.slots, (j, .arow 0 k get e) :: S.owns⟩ := fun b a w hr => by
  have h := hr.newown (j := j) (k := k) (get := get) (e := e) (A := none) hf
  have hv : a.tmps.getD s undef = .slice none 0 0 := hr.slots s _ hs
  refine ⟨_, { h with slots := fun q x hq => ?_ }⟩
  rw [look_cons] at hq
  split at hq
  · rename_i eq
    injection hq with hq
    subst hq; subst eq
    show _ = hdv (setB b j (.slice none 0 0) j)
    rw [setB_same, hv]; rfl
  · exact h.slots q x hq
/-- A variable that holds nil holds a slice of the frame's own, of nothing. -/
theorem turn_nilB {S : St} (i off j k : Nat) (get : Nat → Nat → SV) (e : TypeId) {m : Nat} {g : Nat → SV} {ty : TypeId} (ho : lookO i S.owns = some (.box m g ty)) (hg : g off = .v (.slice none 0 0)) (hf : S.fresh j = true) :
    Turn E S ⟨S.slots, (i, .box m (upd g off (.own j)) ty) :: (j, .arow 0 k get e) :: S.owns⟩ := fun b a w hr => by
  have h := hr.newown (j := j) (k := k) (get := get) (e := e) (A := none) hf
  have hij : i ≠ j := (lookO_fresh (St.fresh_parts hf).2.1 i _ ho).1
  have ho' : lookO i ((j, Own.arow 0 k get e) :: S.owns) = some (.box m g ty) := by rw [lookO_cons, if_neg hij]; exact ho
  refine ⟨_, h.set (j := i) (o := .box m g ty) ho' ⟨rfl, rfl, rfl, Nat.le_refl _⟩ (fun _ _ _ => rfl) fun X hX hR _ => ?_⟩
  obtain ⟨q, cs, h1, h2, h3, h4, hc⟩ := (h.owns i _ ho').mono hX
  refine ⟨q, cs, h1, h2, h3, h4, fun t ht => ?_⟩
  obtain ⟨u, hu, h5, h6⟩ := hc t ht
  refine ⟨u, hu, h5, ?_⟩
  rw [upd_eq]
  split
  · rename_i et
    subst et
    rw [hg] at h6
    have h6 : u = .slice none 0 0 := h6
    show u = hdv (setB b j (.slice none 0 0) j)
    rw [setB_same, h6]; rfl
  · exact h6
/-- What one says the other one says. -/
def Imp (s s' : SV) : Prop := ∀ (w : World) (X : Nat → Prop) (b : Nat → Value) (v : Value), R w X b s v → R w X b s' v
theorem imp_rfl {s : SV} : Imp s s := fun _ _ _ _ h => h
theorem imp_eq {s s' : SV} (e : s = s') : Imp s s' := e ▸ imp_rfl
theorem imp_nil {k : Nat} {get : Nat → Nat → SV} : Imp (.v (.slice none 0 0)) (.row 0 k get) := fun _ _ _ _ h => by
  have h : _ = Value.slice none 0 0 := h
  rw [h]
  exact ⟨none, 0, rfl, Nat.le_refl _, Nat.zero_le _, fun h => absurd h (Nat.lt_irrefl 0)⟩
theorem R.agg_imp {w : World} {X : Nat → Prop} {b : Nat → Value} {m : Nat} {g g' : Nat → SV} {val : Value} (h : R w X b (.agg m g) val) (e : AllN (fun t => Imp (g t) (g' t)) m) : R w X b (.agg m g') val := by
  obtain ⟨cs, rfl, hm, hr⟩ := h
  refine ⟨cs, rfl, hm, fun t ht => ?_⟩
  obtain ⟨u, hu, h1, h2⟩ := hr t ht
  exact ⟨u, hu, h1, e.at t ht _ _ _ _ h2⟩
theorem val_imp {S : St} {x : Operand} {s s' : SV} (h : Val E S x s) (e : Imp s s') : Val E S x s' := fun b a w hr => e _ _ _ _ (h b a w hr)
theorem val_aggI {S : St} {x : Operand} {m : Nat} {g g' : Nat → SV} (h : Val E S x (.agg m g)) (e : AllN (fun t => Imp (g t) (g' t)) m) : Val E S x (.agg m g') := fun b a w hr => (h b a w hr).agg_imp e
theorem rv_aggI {S : St} {r : ResultVar} {m : Nat} {g g' : Nat → SV} (h : ResV P E S r (.agg m g)) (e : AllN (fun t => Imp (g t) (g' t)) m) : ResV P E S r (.agg m g') := fun b a w hr => by
  obtain ⟨v, h1, h2⟩ := h b a w hr
  exact ⟨v, h1, h2.agg_imp e⟩
theorem rv_imp {S : St} {r : ResultVar} {s s' : SV} (h : ResV P E S r s) (e : Imp s s') : ResV P E S r s' := fun b a w hr => by
  obtain ⟨v, h1, h2⟩ := h b a w hr
  exact ⟨v, h1, e _ _ _ _ h2⟩

/-- A slice's literal, the frame's own. -/
theorem t_bsO {ops : Array Oper} {rest : List Oper} {S : St} {K : St → Prop} {d : Tmp} {t e : TypeId} {n k : Nat} {xs : List (Nat × Operand)} {ty : TypeId} {pos : String} {after : Array Edge} {zget : Nat → SV} (j : Nat) (gs : List (Nat → SV)) (get : Nat → Nat → SV)
    (ht : P.underlying t = some (.slice e)) (hs : ∀ w, (sizeOf e).run P w = .ok k w) (hz : ZeroOk P e k zget) (hk0 : 0 < k) (hn0 : 0 < n) (hn : n = xs.length) (hbig : n * k ≤ 16777216)
    (hp : SVals E S k 0 xs gs) (hg : AllN (fun i => AllN (fun t => get i t = (gs.getD i fun _ => .junk) t) k) n) (hf : S.fresh j = true)
    (hk : T P E ops rest ⟨(d, .own j) :: S.slots, (j, .arow n k get e) :: S.owns⟩ K) (hd : d < NN := by decide) :
    T P E ops ({ dst := some d, op := .buildSlice t n xs.toArray, type := ty, pos, after, guard := none } :: rest) S K := by
  rintro a w ⟨b, hr⟩ Q hq
  obtain ⟨z, hz1, hz2, hz3⟩ := hz
  have hat := svals_at hr hp
  have hlen : (xs.map fun y => (y.1, a.eval y.2)).length = n := by simp [hn]
  obtain ⟨cs, hfl, hcs, hc, _⟩ := fill_rows (k := k) (xs.map fun y => (y.1, a.eval y.2)) 0 ((Array.range (n * k)).map fun q => z.cells[q % z.cells.size]!) (fun i p hp => ⟨(hat i p hp).1, (hat i p hp).2.1⟩) (by simp [hlen])
  have hcs' : cs.size = n * k := by simpa using hcs
  have hnk : n * 1 ≤ n * k := Nat.mul_le_mul_left _ hk0
  obtain ⟨n', rfl⟩ : ∃ n', n = n' + 1 := ⟨n - 1, by omega⟩
  unfold wpList
  rw [if_pos (by rfl)]
  refine .inl (wp_of_run (w' := w.alloc (.cells cs e)) (v := .slice (some ⟨w.heap.size, 0, none⟩) (n' + 1) (n' + 1)) ?_ ?_)
  · have hbig' : ¬ (n' + 1) * k > 2 ^ 24 := by omega
    have h0 : ¬ (n' + 1) * k = 0 := by omega
    simp only [execOp, Instr.buildSlice, Sem.run_bind, run_underlying ht, Result.andThen_ok, hs, Sem.run_ite, if_neg hbig', h0, if_false, Sem.run_pure, hz1]
    simp [hfl, newRow]
  · have hy : ∀ g, Bk (.slice (some ⟨w.heap.size, 0, none⟩) (n' + 1) (n' + 1)) g → w.heap.size ≤ g := fun g hg => by
      have hg : some w.heap.size = some g := hg
      injection hg with hg; omega
    have hadd := hr.add (below_alloc w (.cells cs e)) hf (o := .arow (n' + 1) k get e) (y := .slice (some ⟨w.heap.size, 0, none⟩) (n' + 1) (n' + 1)) hy fun X' _ _ hRO => by
      refine ⟨cs.toList, .inr ⟨⟨by simpa using hcs', .inr ⟨w.heap.size, n' + 1, cs, by rw [setB_same], hr.base_le, heap_alloc_new w _, Nat.le_refl _, by simp only [maxLen]; omega, hcs', ?_⟩⟩, w.heap.size, n' + 1, n', by rw [setB_same]⟩, fun i hi t ht => ?_⟩
      · rw [List.take_of_length_le]; simp [hcs']
      · have hi' : i < (xs.map fun y => (y.1, a.eval y.2)).length := by omega
        obtain ⟨h1, h2, g, h3, h4⟩ := hat i _ (List.getElem?_eq_getElem hi')
        obtain ⟨u, hu, h5, h6⟩ := h4 t ht
        refine ⟨u, ?_, h5, ?_⟩
        · have h7 := hc i _ (List.getElem?_eq_getElem hi') t ht
          rw [Nat.zero_add] at h7
          rw [Array.getElem?_toList, h7]; exact hu
        · have h8 := (hg.at i hi).at t ht
          simp only [List.getD_eq_getElem?_getD, h3, Option.getD_some] at h8
          rw [h8]
          exact hRO _ _ h6
    exact hk _ _ ⟨_, hadd.put (x := .own j) hd (own_val rfl)⟩ Q hq
/-- Whatever is so said is of one cell. -/
def OneV {NN : Nat} (E : Env NN) (S : St) (s : SV) : Prop := ∀ b a w v, RepB E b S a w → R w (S.excl E b) b s v → v.oneCell' = true
theorem one_of {S : St} {s : SV} (h : s.one = true) : OneV E S s := fun _ _ _ _ _ hv => hv.one h
theorem one_own {S : St} {i n k : Nat} {get : Nat → Nat → SV} {e : TypeId} (ho : lookO i S.owns = some (.arow n k get e)) : OneV E S (.own i) := fun b a w v hr hv => by
  obtain ⟨A, c, hs⟩ := own_slice hr ho
  have hv : v = hdv (b i) := hv
  rw [hv, hs]; rfl
theorem one_map {S : St} {i : Nat} {kvs : List (Int × Value)} (ho : lookO i S.owns = some (.amap kvs)) : OneV E S (.own i) := fun b a w v hr hv => by
  obtain ⟨g, es, clk, hb, _⟩ := hr.owns i _ ho
  have hv : v = hdv (b i) := hv
  rw [hv, hb]; rfl
theorem one_urow {S : St} {i n k : Nat} {get : Nat → Nat → SV} {e : TypeId} {c : Nat} {ce : TypeId} {ck m : Nat} {kn : Nat → Nat} {kget : Nat → Nat → Nat → SV} {hole : Option (Nat × SV)} (ho : lookO i S.owns = some (.urow n k get e c ce ck m kn kget hole)) : OneV E S (.own i) := fun b a w v hr hv => by
  obtain ⟨u, subs, xs, h1, hown, _⟩ := hr.owns i _ ho
  obtain ⟨A, c, hs, _⟩ := hown.slice
  have hv : v = hdv (b i) := hv
  rw [hv, h1, hs]; rfl
theorem t_st1V {ops : Array Oper} {rest : List Oper} {S : St} {K : St → Prop} {t : TypeId} {p x : Operand} {ty : TypeId} {pos : String} {after : Array Edge} {j off m : Nat} {get : Nat → SV} {bt : TypeId} {s : SV}
    (hp : Val E S p (.bp j off)) (ho : lookO j S.owns = some (.box m get bt)) (hx : Val E S x s) (h1 : OneV E S s) (hs : ∀ w, (sizeOf t).run P w = .ok 1 w) (hoff : off < m)
    (hk : T P E ops rest ⟨S.slots, (j, .box m (upd get off s) bt) :: S.owns⟩ K) :
    T P E ops ({ dst := none, op := .store t p x, type := ty, pos, after, guard := none } :: rest) S K := by
  rintro a w ⟨b, hr⟩ Q hq
  obtain ⟨g, hb, hpv⟩ := hp b a w hr
  have hv := hx b a w hr
  have hone := h1 b a w _ hr hv
  obtain ⟨g', cs, hb', _, hh, hm, hc⟩ := hr.owns j _ ho
  rw [hb] at hb'
  simp only [Value.pointer.injEq, Option.some.injEq, Addr.mk.injEq, and_true] at hb'
  subst hb'
  have hcell : ∃ u, w.cell? ⟨g, off, none⟩ = some u := by
    obtain ⟨u, hu, _⟩ := hc off hoff
    exact ⟨u, by rw [cell_of_row w g off cs bt (0, 0) hh]; exact hu⟩
  obtain ⟨u0, hu0⟩ := hcell
  have hfr : w.frozen? ⟨g, off, none⟩ = false := by simp [World.frozen?, hh]
  unfold wpList
  rw [if_pos (by rfl)]
  refine .inl (wp_of_skip (w' := w.setCell ⟨g, off, none⟩ (a.eval x)) ?_ ?_)
  · simp [execOp, Instr.storeAt, hpv, Instr.sureAddr, storeVar, hs, cells_one hone, storeCells, Addr.add_zero', run_store P w _ _ _ hone, hu0, hfr]
  · refine hk _ _ ⟨b, ?_⟩ Q hq
    refine hr.setbox (cs := cs.setIfInBounds off (a.eval x)) ho hb (by simpa using hm) ⟨rfl, rfl, rfl, by simp⟩ (fun k hk => Below.heap_setCell _ _ _ _ hk) ?_ (fun i hi => ?_)
    · simp [World.setCell, Array.getElem?_modify, hh]
    · rw [upd_eq]
      by_cases e : i = off
      · subst e
        rw [if_pos rfl]
        exact ⟨a.eval x, by simp [hm, hi], hone, hv⟩
      · rw [if_neg e]
        obtain ⟨u, hu, h2, h3⟩ := hc i hi
        exact ⟨u, by rw [Array.getElem?_setIfInBounds, if_neg (fun h => e h.symm)]; exact hu, h2, h3⟩
theorem t_box1V {ops : Array Oper} {rest : List Oper} {S : St} {K : St → Prop} {d : Tmp} {elem : TypeId} {x : Operand} {ty : TypeId} {pos : String} {after : Array Edge} {s : SV} (j : Nat)
    (hx : Val E S x s) (h1 : OneV E S s) (hf : S.fresh j = true) (hn : s.noId j = true) (hk : T P E ops rest ⟨(d, .bp j 0) :: S.slots, (j, .box 1 (fun _ => s) elem) :: S.owns⟩ K) (hd : d < NN := by decide) :
    T P E ops ({ dst := some d, op := .box elem x, type := ty, pos, after, guard := none } :: rest) S K := by
  rintro a w ⟨b, hr⟩ Q hq
  have hv := hx b a w hr
  have ho := h1 b a w _ hr hv
  unfold wpList
  rw [if_pos (by rfl)]
  refine .inl (wp_of_run (w' := w.alloc (.cells #[a.eval x] elem)) (v := .pointer (some ⟨w.heap.size, 0, none⟩)) ?_ ?_)
  · simp [execOp, Instr.box, newVar, newRow, cells_one ho]
  · have hb := hr.newbox (j := j) (m := 1) (get := fun _ => s) (ty := elem) (cs := #[a.eval x]) hf (by simp [allB, hn]) rfl (fun t ht => by
      have : t = 0 := by omega
      subst this
      exact ⟨_, rfl, ho, hv⟩)
    exact hk _ _ ⟨_, hb.put (x := .bp j 0) hd ⟨w.heap.size, setB_same _ _ _, rfl⟩⟩ Q hq
end Go.Eng

namespace Go.Eng
open Go.RowKit
variable {P : Program} {NN : Nat} {E : Env NN}
def ImpO (s s' : SV) : Prop := ∀ (w : World) (X : Nat → Prop) (v : Value), RO w X s v → RO w X s' v
theorem impO_rfl {s : SV} : ImpO s s := fun _ _ _ h => h
theorem impO_nil {k : Nat} {get : Nat → Nat → SV} : ImpO (.v (.slice none 0 0)) (.row 0 k get) := fun _ _ _ h => by
  have h : _ = Value.slice none 0 0 := h
  rw [h]
  exact ⟨none, 0, rfl, Nat.le_refl _, Nat.zero_le _, fun h => absurd h (Nat.lt_irrefl 0)⟩
theorem RO.row_imp {w : World} {X : Nat → Prop} {n k : Nat} {get get' : Nat → Nat → SV} {val : Value} (h : RO w X (.row n k get) val) (he : AllN (fun i => AllN (fun t => ImpO (get i t) (get' i t)) k) n) : RO w X (.row n k get') val := by
  obtain ⟨A, c, hv, hn, hc, hr⟩ := h
  refine ⟨A, c, hv, hn, hc, fun h0 => ?_⟩
  obtain ⟨g, o, hA, hg, hX, hr⟩ := hr h0
  refine ⟨g, o, hA, hg, hX, fun i hi t ht => ?_⟩
  obtain ⟨u, hu, h1, h2⟩ := hr i hi t ht
  exact ⟨u, hu, h1, (he.at i hi).at t ht _ _ _ h2⟩
theorem w_rowI {S : St} {op : Op} {n k : Nat} {get get' : Nat → Nat → SV} (h : OpW P E S op (.row n k get)) (he : AllN (fun i => AllN (fun t => ImpO (get i t) (get' i t)) k) n) : OpW P E S op (.row n k get') := fun b a w hr dst ty pos after gd => by
  obtain ⟨v, w', h1, h2, h3⟩ := h b a w hr dst ty pos after gd
  exact ⟨v, w', h1, h2, RO.row_imp h3 he⟩
end Go.Eng

namespace Go.Eng
open Go.RowKit
variable {P : Program} {NN : Nat} {E : Env NN}
/-! Calls that read what is the frame's own, and hand back a plain value. -/
theorem arow_brw {S : St} {b : Nat → Value} {a : Act} {w : World} (hr : RepB E b S a w) {j n k : Nat} {get : Nat → Nat → SV} {e : TypeId} (ho : lookO j S.owns = some (.arow n k get e)) : R w E.X b (.row n k get) (hdv (b j)) := by
  obtain ⟨xs, hown, hc⟩ := hr.owns j _ ho
  obtain ⟨A, c, hs, _⟩ := hown.slice
  have e : hdv (b j) = b j := by rw [hs]; rfl
  rw [e]
  refine RO.toR (hown.row (fun g hg => hr.notX ho ((Bk_slice hs).2 hg)) fun i hi t ht => ?_)
  obtain ⟨u, hu, h1, h2⟩ := hc i hi t ht
  exact ⟨u, hu, h1, h2.mono ⟨Nat.le_refl _, fun _ _ _ => rfl⟩ (fun g _ hh => .inl hh)⟩
def VB {NN : Nat} (E : Env NN) (S : St) (x : Operand) (s : SV) : Prop := ∀ b a w, RepB E b S a w → RO w E.X s (a.eval x)
theorem vb_ro {S : St} {x : Operand} {s : SV} (h : Val E S x s) (hro : s.isRO = true) : VB E S x s := fun b a w hr => ((h b a w hr).toRO hro).mono ⟨Nat.le_refl _, fun _ _ _ => rfl⟩ (fun g _ hh => .inl hh)
theorem vb_frz {S : St} {x : Operand} {s s' : SV} {j n k : Nat} {get : Nat → Nat → SV} {e : TypeId} (h : Val E S x s) (ho : lookO j S.owns = some (.arow n k get e)) (hs : frz j (.row n k get) s = s') (hro : s'.isRO = true) : VB E S x s' := fun b a w hr => by
  subst hs
  exact (frz_R (fun g hh => .inl hh) (arow_brw hr ho) (h b a w hr)).toRO hro
theorem vb_own {S : St} {x : Operand} {j n k : Nat} {get : Nat → Nat → SV} {e : TypeId} (h : Val E S x (.own j)) (ho : lookO j S.owns = some (.arow n k get e)) : VB E S x (.row n k get) := vb_frz h ho (by simp [frz]) rfl
theorem vb_aggI {S : St} {x : Operand} {m : Nat} {g g' : Nat → SV} (h : VB E S x (.agg m g)) (e : AllN (fun t => ImpO (g t) (g' t)) m) : VB E S x (.agg m g') := fun b a w hr => by
  obtain ⟨cs, hv, hm, hc⟩ := h b a w hr
  refine ⟨cs, hv, hm, fun t ht => ?_⟩
  obtain ⟨u, hu, h1, h2⟩ := hc t ht
  exact ⟨u, hu, h1, e.at t ht _ _ _ h2⟩
def ValsB {NN : Nat} (E : Env NN) (S : St) : List Operand → List SV → Prop
  | [], [] => True
  | x :: xs, s :: ss => VB E S x s ∧ ValsB E S xs ss
  | _, _ => False
theorem ValsB.ros {S : St} {b : Nat → Value} {a : Act} {w : World} (hr : RepB E b S a w) : ∀ {xs : List Operand} {ss : List SV}, ValsB E S xs ss → ROs w E.X ss (xs.map a.eval)
  | [], [], _ => trivial
  | _ :: _, _ :: _, h => ⟨h.1 b a w hr, ValsB.ros hr h.2⟩
  | [], _ :: _, h => h.elim
  | _ :: _, [], h => h.elim
theorem tq_callB {ops : Array Oper} {rest : List Oper} {S : St} {K : St → Prop} {d : Tmp} {f : FuncId} {xs : List Operand} {ats : Array TypeId} {ty : TypeId} {pos : String} {after : Array Edge} {args : List SV} {x : Value}
    (hf : Enters P f) (ha : ValsB E S xs args) (h : Ct P f args (.v x)) (hk : TQ P E ops rest (nextQ S d (.v x)) K) (hd : d < NN := by decide) :
    TQ P E ops ({ dst := some d, op := .call { callee := .value (.func f), args := xs.toArray, argTypes := ats }, type := ty, pos, after, guard := none } :: rest) S K := fun b a w hr => by
  unfold wpQuiet
  rw [if_pos (by rfl)]
  refine ⟨x, fun w' hw' => ?_, hk b _ w (hr.put hd rfl)⟩
  unfold Oper.quietAt
  rw [run_call hf]
  have hr' : RepB E b S a w' := hr.world hw'
  refine ⟨rfl, (h w' E.X _ (fun g hg => Nat.lt_of_lt_of_le (E.hX g hg) hr'.below.size) (ha.ros hr')).mono ?_⟩
  rintro e w'' ⟨v, rfl, hv, hb⟩
  have : v = x := hv
  subst this
  exact ⟨rfl, hw'.trans (hb.mono hw'.size)⟩
theorem tq_callBG {ops : Array Oper} {rest : List Oper} {S : St} {K : St → Prop} {d : Tmp} {f : FuncId} {xs : List Operand} {ats : Array TypeId} {ty : TypeId} {pos : String} {after : Array Edge} {args : List SV} {x : Value} {gd : Nat × Bool} {c : Bool}
    (hg : Guard E S ops gd c) (hf : Enters P f) (ha : c = true → ValsB E S xs args) (h : c = true → Ct P f args (.v x)) (hk : TQ P E ops rest (nextQ S d (.grd c (.v x))) K) (hd : d < NN := by decide) :
    TQ P E ops ({ dst := some d, op := .call { callee := .value (.func f), args := xs.toArray, argTypes := ats }, type := ty, pos, after, guard := some gd } :: rest) S K := fun b a w hr => by
  unfold wpQuiet
  rw [hg b a w hr _ rfl]
  cases c with
  | false => exact hk b _ w (hr.put hd ⟨(fun h => by cases h), fun _ => rfl⟩)
  | true =>
    refine ⟨x, fun w' hw' => ?_, hk b _ w (hr.put hd ⟨fun _ => rfl, fun h => by cases h⟩)⟩
    unfold Oper.quietAt
    rw [run_call hf]
    have hr' : RepB E b S a w' := hr.world hw'
    refine ⟨rfl, (h rfl w' E.X _ (fun g hg => Nat.lt_of_lt_of_le (E.hX g hg) hr'.below.size) ((ha rfl).ros hr')).mono ?_⟩
    rintro e w'' ⟨v, rfl, hv, hb⟩
    have : v = x := hv
    subst this
    exact ⟨rfl, hw'.trans (hb.mono hw'.size)⟩
theorem t_callB {ops : Array Oper} {rest : List Oper} {S : St} {K : St → Prop} {d : Tmp} {f : FuncId} {xs : List Operand} {ats : Array TypeId} {ty : TypeId} {pos : String} {after : Array Edge} {args : List SV} {x : Value}
    (hf : Enters P f) (ha : ValsB E S xs args) (h : Ct P f args (.v x)) (hk : T P E ops rest (nextQ S d (.v x)) K) (hd : d < NN := by decide) :
    T P E ops ({ dst := some d, op := .call { callee := .value (.func f), args := xs.toArray, argTypes := ats }, type := ty, pos, after, guard := none } :: rest) S K := by
  rintro a w ⟨b, hr⟩ Q hq
  unfold wpList
  rw [if_pos (by rfl)]
  refine .inl (wp_of_enter (R := fun v w'' => v = x ∧ RepB E b S a w'') (run_call hf ..) ?_ fun v w'' ⟨hv, hr'⟩ => hk _ _ ⟨b, hr'.put (x := .v x) hd hv⟩ Q hq)
  refine (h w E.X _ (fun g hg => Nat.lt_of_lt_of_le (E.hX g hg) hr.below.size) (ha.ros hr)).mono ?_
  rintro e w'' ⟨v, rfl, hv, hb⟩
  exact ⟨v, rfl, hv, hr.world hb⟩
theorem t_callBG {ops : Array Oper} {rest : List Oper} {S : St} {K : St → Prop} {d : Tmp} {f : FuncId} {xs : List Operand} {ats : Array TypeId} {ty : TypeId} {pos : String} {after : Array Edge} {args : List SV} {x : Value} {gd : Nat × Bool} {c : Bool}
    (hg : Guard E S ops gd c) (hf : Enters P f) (ha : c = true → ValsB E S xs args) (h : c = true → Ct P f args (.v x)) (hk : T P E ops rest (nextQ S d (.grd c (.v x))) K) (hd : d < NN := by decide) :
    T P E ops ({ dst := some d, op := .call { callee := .value (.func f), args := xs.toArray, argTypes := ats }, type := ty, pos, after, guard := some gd } :: rest) S K := by
  rintro a w ⟨b, hr⟩ Q hq
  unfold wpList
  rw [hg b a w hr _ rfl]
  cases c with
  | false => exact hk _ _ ⟨b, hr.put hd ⟨(fun h => by cases h), fun _ => rfl⟩⟩ Q hq
  | true =>
    refine .inl (wp_of_enter (R := fun v w'' => v = x ∧ RepB E b S a w'') (run_call hf ..) ?_ fun v w'' ⟨hv, hr'⟩ => hk _ _ ⟨b, hr'.put (x := .grd true (.v x)) hd ⟨fun _ => hv, fun h => by cases h⟩⟩ Q hq)
    refine (h rfl w E.X _ (fun g hg => Nat.lt_of_lt_of_le (E.hX g hg) hr.below.size) ((ha rfl).ros hr)).mono ?_
    rintro e w'' ⟨v, rfl, hv, hb⟩
    exact ⟨v, rfl, hv, hr.world hb⟩
/-- The same function value, said in other words. -/
theorem val_fnE {S : St} {x : Operand} {f : FuncId} {m : Nat} {g g' : Nat → SV} (h : Val E S x (.fn f m g)) (e : AllN (fun t => g t = g' t) m) : Val E S x (.fn f m g') := fun b a w hr => by
  obtain ⟨cs, hv, hm, hc⟩ := h b a w hr
  refine ⟨cs, hv, hm, fun t ht => ?_⟩
  obtain ⟨u, hu, h1⟩ := hc t ht
  exact ⟨u, hu, e.at t ht ▸ h1⟩
theorem val_fnE' {S : St} {x : Operand} {f : FuncId} {g : Nat → SV} (caps : List SV) (h : Val E S x (.fn f caps.length g)) (e : AllN (fun t => g t = caps.getD t .junk) caps.length) : Val E S x (fnL f caps) := val_fnE h e
end Go.Eng

namespace Go.Eng
open Go.RowKit
variable {P : Program} {NN : Nat} {E : Env NN}
/-! Slices of the frame's own that hold slices of its own. -/
section urow
variable {S : St} {j n k : Nat} {get : Nat → Nat → SV} {e : TypeId} {c : Nat} {ce : TypeId} {ck m : Nat} {kn : Nat → Nat} {kget : Nat → Nat → Nat → SV} {hole : Option (Nat × SV)}
/-- The names' values may be turned where they lead to the same. -/
theorem R_hd {w : World} {X : Nat → Prop} {b b' : Nat → Value} {p : Nat → Bool} (hb : ∀ i, p i = true → hdv (b' i) = hdv (b i) ∧ ∀ a, b i = .pointer a → b' i = b i) {x : SV} {val : Value} (hn : x.okId p = true) (h : R w X b x val) : R w X b' x val := by
  induction x generalizing val with
  | grd c x ih => exact ⟨fun hc => ih hn (h.1 hc), h.2⟩
  | junk => trivial
  | abs p hp => exact h
  | bp i off =>
    obtain ⟨g, h1, h2⟩ := h
    exact ⟨g, by rw [(hb i hn).2 _ h1]; exact h1, h2⟩
  | own i => show val = _; rw [(hb i hn).1]; exact h
  | oe i k p off =>
    obtain ⟨g, n, c, h1, h2, h3⟩ := h
    exact ⟨g, n, c, by rw [(hb i hn).1]; exact h1, h2, h3⟩
  | sub i k lo m =>
    obtain ⟨A, n, c, h1, h2, h3⟩ := h
    exact ⟨A, n, c, by rw [(hb i hn).1]; exact h1, h2, h3⟩
  | v x => exact h
  | row n k get ih => exact h
  | el n k get i off ih => exact h
  | agg m get ih =>
    obtain ⟨cs, rfl, hm, hr⟩ := h
    refine ⟨cs, rfl, hm, fun t ht => ?_⟩
    obtain ⟨u, hu, h1, h2⟩ := hr t ht
    exact ⟨u, hu, h1, ih t (allB_iff hn t ht) h2⟩
  | tup m get ih =>
    obtain ⟨cs, rfl, hm, hr⟩ := h
    refine ⟨cs, rfl, hm, fun t ht => ?_⟩
    obtain ⟨u, hu, h2⟩ := hr t ht
    exact ⟨u, hu, ih t (allB_iff hn t ht) h2⟩
  | fn f m get ih =>
    obtain ⟨cs, rfl, hm, hr⟩ := h
    refine ⟨cs, rfl, hm, fun t ht => ?_⟩
    obtain ⟨u, hu, h2⟩ := hr t ht
    exact ⟨u, hu, ih t (allB_iff hn t ht) h2⟩
theorem okId_all (x : SV) : x.okId (fun _ => true) = true := by
  induction x with
  | agg m get ih => exact allB_of fun t _ => ih t
  | tup m get ih => exact allB_of fun t _ => ih t
  | fn f m get ih => exact allB_of fun t _ => ih t
  | grd c x ih => exact ih
  | _ => rfl

/-- Own things said anew, in the same blocks, some names with other values: l lists what is new; all else stays. -/
theorem RepB.rename {b b' : Nat → Value} {a : Act} {w : World} (h : RepB E b S a w) (D : List Nat) (nw : List (Nat × Own)) (p : Nat → Bool)
    (hhd : ∀ i, p i = true → hdv (b' i) = hdv (b i) ∧ ∀ q, b i = .pointer q → b' i = b i)
    (hsl : ∀ s x, look s S.slots = some x → x.okId p = true) (how : ∀ i o, lookO i S.owns = some o → o.okId p = true)
    (hsame : ∀ i o, lookO i S.owns = some o → i ∉ D → lookO i nw = none → b' i = b i) (hold : ∀ i, 1000 ≤ i → b' i = b i)
    (hnew : ∀ i o, lookO i nw = some o → OwnOk w (S.excl E b) E.base b' i o)
    (hbk : ∀ i o, lookO i nw = some o → ∀ g, Bk (b' i) g → ∃ q oq, lookO q S.owns = some oq ∧ (q ∈ D ∨ (lookO q nw).isSome) ∧ Bk (b q) g)
    (hap : ∀ i q oi oq, lookO i nw = some oi → lookO q nw = some oq → i ≠ q → ∀ g, Bk (b' i) g → ¬ Bk (b' q) g) :
    RepB E b' ⟨S.slots, nw ++ dropKs D S.owns⟩ a w := by
  have he : Ext (S.excl E b) w w := ⟨Nat.le_refl _, fun _ _ _ => rfl⟩
  have hl : ∀ {i o}, lookO i (nw ++ dropKs D S.owns) = some o → lookO i nw = some o ∨ (lookO i nw = none ∧ i ∉ D ∧ lookO i S.owns = some o ∧ b' i = b i) := fun {i o} hi => by
    rcases lookO_app hi with h1 | ⟨h1, h2⟩
    · exact .inl h1
    · obtain ⟨h3, h4⟩ := lookO_dropKs h2
      exact .inr ⟨h1, h3, h4, hsame i o h4 h3 h1⟩
  have hX : ∀ g, St.excl ⟨S.slots, nw ++ dropKs D S.owns⟩ E b' g → S.excl E b g := by
    rintro g (hh | ⟨i, o, h1, h2⟩)
    · exact .inl hh
    · rcases hl h1 with h3 | ⟨h3, h4, h5, h6⟩
      · obtain ⟨q, oq, h7, _, h8⟩ := hbk i o h3 g h2
        exact .inr ⟨q, oq, h7, h8⟩
      · rw [h6] at h2; exact .inr ⟨i, o, h5, h2⟩
  have hR : ∀ x v, x.okId p = true → R w (S.excl E b) b x v → R w (St.excl ⟨S.slots, nw ++ dropKs D S.owns⟩ E b') b' x v := fun x v hx hr => (R_hd hhd hx hr).mono he (fun g _ hh => hX g hh)
  exact {
    size := h.size
    defers := h.defers
    below := h.below
    slots := fun s x hx => hR _ _ (hsl s x hx) (h.slots s x hx)
    owns := fun i o hi => by
      rcases hl hi with h3 | ⟨h3, h4, h5, h6⟩
      · exact (hnew i o h3).mono hX
      · exact (h.owns i o h5).keep0 (p := fun x => x.okId p = true) h6 (Own.okId_all (how i o h5)) (fun _ _ _ => rfl) hR (fun x v hr => hr.mono he (fun g _ hh => hX g hh))
    mine := fun i o hi g hg => by
      rcases hl hi with h3 | ⟨h3, h4, h5, h6⟩
      · obtain ⟨q, oq, h7, _, h8⟩ := hbk i o h3 g hg
        exact h.mine q oq h7 g h8
      · rw [h6] at hg; exact h.mine i o h5 g hg
    apart := fun i q oi oq hi hq hne g hgi hgq => by
      rcases hl hi with h3 | ⟨h3, h4, h5, h6⟩
      · rcases hl hq with h3' | ⟨h3', h4', h5', h6'⟩
        · exact hap i q oi oq h3 h3' hne g hgi hgq
        · obtain ⟨z, oz, h7, h8, h9⟩ := hbk i oi h3 g hgi
          rw [h6'] at hgq
          refine h.apart z q oz oq h7 h5' ?_ g h9 hgq
          rintro rfl
          rcases h8 with h8 | h8
          · exact h4' h8
          · rw [h3'] at h8; cases h8
      · rcases hl hq with h3' | ⟨h3', h4', h5', h6'⟩
        · obtain ⟨z, oz, h7, h8, h9⟩ := hbk q oq h3' g hgq
          rw [h6] at hgi
          refine h.apart z i oz oi h7 h5 ?_ g h9 hgi
          rintro rfl
          rcases h8 with h8 | h8
          · exact h4 h8
          · rw [h3] at h8; cases h8
        · rw [h6] at hgi; rw [h6'] at hgq
          exact h.apart i q oi oq h5 h5' hne g hgi hgq
    old := fun i hi => (hold i hi).trans (h.old i hi) }

/-- u1: no slice in it is its own yet. -/
theorem turn_u0 (j c : Nat) (ce : TypeId) (ck : Nat) (kn : Nat → Nat) (kget : Nat → Nat → Nat → SV) (ho : lookO j S.owns = some (.arow n k get e)) (hj : Nat.blt j 1000 = true) :
    Turn E S ⟨S.slots, (j, .urow n k get e c ce ck 0 kn kget none) :: dropKs [] S.owns⟩ := fun b a w hr => by
  obtain ⟨xs, hown, hc⟩ := hr.owns j _ ho
  obtain ⟨A, cp, hs, _⟩ := hown.slice
  have hj' : j < 1000 := Nat.le_of_ble_eq_true hj
  refine ⟨setB b j (.tuple #[b j]), hr.rename [] [(j, .urow n k get e c ce ck 0 kn kget none)] (fun _ => true) (fun i _ => ?_) (fun _ _ _ => okId_all _) (fun i o hi => ?_) (fun i o hi _ hn => ?_) (fun i hi => setB_other _ _ _ (by omega)) (fun i o hi => ?_) (fun i o hi g hg => ?_) (fun i q oi oq hi hq hne => ?_)⟩
  · by_cases h : i = j
    · subst h
      rw [setB_same]
      exact ⟨by rw [hs]; rfl, fun q hq => by rw [hs] at hq; cases hq⟩
    · rw [setB_other _ _ _ h]; exact ⟨rfl, fun _ _ => rfl⟩
  · cases o with
    | box m get ty => exact allB_of fun t _ => okId_all _
    | urow n k get e c ce ck m kn kget hole => cases hole <;> first | rfl | exact okId_all _
    | _ => rfl
  · refine setB_other _ _ _ fun h => ?_
    rw [h, lookO_cons, if_pos rfl] at hn; cases hn
  · rw [lookO_cons] at hi
    split at hi
    · rename_i h; subst h
      injection hi with hi; subst hi
      refine ⟨b i, [], xs, setB_same _ _ _, hown, rfl, Nat.zero_le _, fun q hq t ht => ?_, fun q hq => absurd hq (Nat.not_lt_zero q)⟩
      obtain ⟨u, hu, h1, h2⟩ := hc q hq t ht
      exact ⟨u, hu, h1, fun _ => h2, fun _ _ _ => h2, fun _ _ h => absurd h (Nat.not_lt_zero q), fun _ _ h => (by cases h)⟩
    · cases hi
  · rw [lookO_cons] at hi
    split at hi
    · rename_i h; subst h
      rw [setB_same] at hg
      obtain ⟨q, u, hq, hu⟩ := hg
      have : q = 0 := by
        cases q with
        | zero => rfl
        | succ q => simp at hq
      subst this
      simp at hq; subst hq
      exact ⟨i, _, ho, .inr (by rw [lookO_cons, if_pos rfl]; rfl), (Bk_slice hs).2 hu⟩
    · cases hi
  · rw [lookO_cons] at hi hq
    split at hi
    · rename_i h1
      split at hq
      · rename_i h2; exact absurd (h1.trans h2.symm) hne
      · cases hq
    · cases hi
end urow
/-! Literals that hold what is the frame's own. -/
def PValsV {NN : Nat} (E : Env NN) (S : St) : List (Nat × Operand) → List (Nat × SV) → Prop
  | [], [] => True
  | x :: xs, s :: ss => (x.1 = s.1 ∧ Val E S x.2 s.2 ∧ OneV E S s.2) ∧ PValsV E S xs ss
  | _, _ => False

theorem pvalsV_find {S : St} {b : Nat → Value} {a : Act} {w : World} (hr : RepB E b S a w) {off : Nat → Nat} {q : Nat} : ∀ {xs : List (Nat × Operand)} {ss : List (Nat × SV)}, PValsV E S xs ss →
    (match partAt off q ss with
      | some x => ∃ p, (((xs.map fun y => (y.1, a.eval y.2)).reverse).find? fun p => off p.1 == q) = some p ∧ p.2.oneCell' = true ∧ R w (S.excl E b) b x p.2
      | none => (((xs.map fun y => (y.1, a.eval y.2)).reverse).find? fun p => off p.1 == q) = none)
  | [], [], _ => by simp [partAt]
  | (i, x) :: xs, (i', s) :: ss, h => by
    obtain ⟨⟨hi, hv, h1⟩, hrest⟩ := h
    simp only at hi hv h1
    subst hi
    have ih := pvalsV_find hr (off := off) (q := q) hrest
    simp only [partAt]
    cases hp : partAt off q ss with
    | some y =>
      rw [hp] at ih
      obtain ⟨p, h2, h3, h4⟩ := ih
      refine ⟨p, ?_, h3, h4⟩
      simp only [List.map_cons, List.reverse_cons, List.find?_append, h2]
      rfl
    | none =>
      rw [hp] at ih
      simp only [List.map_cons, List.reverse_cons, List.find?_append, ih]
      by_cases e : off i = q
      · have hb : Nat.beq (off i) q = true := by rw [e]; simp
        rw [hb]
        refine ⟨(i, a.eval x), by simp [e], h1 b a w _ hr (hv b a w hr), hv b a w hr⟩
      · have hb : Nat.beq (off i) q = false := by
          cases hb : Nat.beq (off i) q
          · rfl
          · exact absurd (Nat.eq_of_beq_eq_true hb) e
        rw [hb]
        simp [e]
  | [], _ :: _, h => h.elim
  | _ :: _, [], h => h.elim

/-- A struct literal, or an array's, of one-cell parts. 'off': a part's place; the rest is the zero value. -/
theorem q_buildV {S : St} {t : TypeId} {xs : List (Nat × Operand)} (ss : List (Nat × SV)) (off : Nat → Nat) {m : Nat} {zget : Nat → SV} (get : Nat → SV)
    (hz : ZeroOk P t m zget) (hb : ∀ (w : World) (parts : List (Nat × Value)) (z : Value) (cs : Array Value), (zeroValue t).run P w = .ok z w → Instr.fill (fun i => if i < m then some (off i, 1) else none) z.cells parts = some cs → (∀ p ∈ parts, p.1 < m) → (Instr.build t parts.toArray).run P w = .ok (.agg cs) w)
    (hp : PValsV E S xs ss) (hlt : ∀ p ∈ xs, p.1 < m ∧ off p.1 < m)
    (hg : AllN (fun q => get q = match partAt off q ss with | some x => x | none => zget q) m) :
    OpQ P E S (.build t xs.toArray) (.agg m get) := fun b a w hr dst ty pos after gd => by
  obtain ⟨z, hz1, hz2, hz3⟩ := hz
  have hone : ∀ {xs : List (Nat × Operand)} {ss : List (Nat × SV)}, PValsV E S xs ss → ∀ p ∈ xs.map (fun y => (y.1, a.eval y.2)), p.2.oneCell' = true := by
    intro xs
    induction xs with
    | nil => intro ss _ p hp; simp at hp
    | cons x xs ih =>
      intro ss h p hp
      cases ss with
      | nil => exact h.elim
      | cons s ss =>
        simp only [List.map_cons, List.mem_cons] at hp
        rcases hp with rfl | hp
        · exact h.1.2.2 b a w _ hr (h.1.2.1 b a w hr)
        · exact ih h.2 p hp
  obtain ⟨cs, hf, hs, hq⟩ := fill_one (place := fun i => if i < m then some (off i, 1) else none) (off := off) (xs.map fun y => (y.1, a.eval y.2)) z.cells (fun p hp => by
    obtain ⟨x, hx, rfl⟩ := List.mem_map.1 hp
    refine ⟨by simp [(hlt x hx).1], hone ‹_› _ hp, by rw [hz2]; exact (hlt x hx).2⟩)
  refine ⟨.agg cs, fun w' hw' => ?_, cs, rfl, by omega, fun t ht => ?_⟩
  · have := hb w' (xs.map fun y => (y.1, a.eval y.2)) z cs (hz1 w') hf (fun p hp => by
      obtain ⟨x, hx, rfl⟩ := List.mem_map.1 hp
      exact (hlt x hx).1)
    simp [execOp, this]
  · have h1 := hg.at t ht
    have h2 := pvalsV_find hr (off := off) (q := t) hp
    rw [hq t]
    cases hpa : partAt off t ss with
    | some x =>
      rw [hpa] at h1 h2
      obtain ⟨p, h3, h4, h5⟩ := h2
      rw [h3]
      exact ⟨p.2, rfl, h4, h1 ▸ h5⟩
    | none =>
      rw [hpa] at h1 h2
      rw [h2]
      obtain ⟨u, hu, h3, h4⟩ := hz3 t ht
      exact ⟨u, hu, h3, h1 ▸ (h4 _ _).toR⟩

end Go.Eng
