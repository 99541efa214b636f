/- What the proof of PortKeeps rests on, part 2: the engine, the walks, the plain laws. -/
import Derived.Test.YtghkpailmdlhgaaPortKeepsM1
set_option linter.unusedVariables false
set_option linter.unusedSimpArgs false
set_option linter.unusedSectionVars false
namespace Go.Eng
open Go.RowKit
variable {P : Program} {NN : Nat} {E : Env NN}
theorem RepB.rename2 {S : St} {b b' : Nat → Value} {a : Act} {w : World} (h : RepB E b S a w) (D : List Nat) (nw : List (Nat × Own)) (p : Nat → Bool)
    (hhd : ∀ i, p i = true → hdv (b' i) = hdv (b i) ∧ ∀ q, b i = .pointer q → b' i = b i)
    (hsl : ∀ s x, look s S.slots = some x → x.okId p = true) (how : ∀ i o, lookO i S.owns = some o → o.okId p = true ∨ i ∈ D ∨ (lookO i nw).isSome)
    (hsame : ∀ i o, lookO i S.owns = some o → i ∉ D → lookO i nw = none → b' i = b i) (hold : ∀ i, 1000 ≤ i → b' i = b i)
    (hnew : (∀ g, St.excl ⟨S.slots, nw ++ dropKs D S.owns⟩ E b' g → S.excl E b g) → ∀ i o, lookO i nw = some o → OwnOk w (St.excl ⟨S.slots, nw ++ dropKs D S.owns⟩ E b') E.base b' i o)
    (hbk : ∀ i o, lookO i nw = some o → ∀ g, Bk (b' i) g → ∃ q oq, lookO q S.owns = some oq ∧ (q ∈ D ∨ (lookO q nw).isSome) ∧ Bk (b q) g)
    (hap : ∀ i q oi oq, lookO i nw = some oi → lookO q nw = some oq → i ≠ q → ∀ g, Bk (b' i) g → ¬ Bk (b' q) g) :
    RepB E b' ⟨S.slots, nw ++ dropKs D S.owns⟩ a w := by
  have he : Ext (S.excl E b) w w := ⟨Nat.le_refl _, fun _ _ _ => rfl⟩
  have hl : ∀ {i o}, lookO i (nw ++ dropKs D S.owns) = some o → lookO i nw = some o ∨ (lookO i nw = none ∧ i ∉ D ∧ lookO i S.owns = some o ∧ b' i = b i) := fun {i o} hi => by
    rcases lookO_app hi with h1 | ⟨h1, h2⟩
    · exact .inl h1
    · obtain ⟨h3, h4⟩ := lookO_dropKs h2
      exact .inr ⟨h1, h3, h4, hsame i o h4 h3 h1⟩
  have hX : ∀ g, St.excl ⟨S.slots, nw ++ dropKs D S.owns⟩ E b' g → S.excl E b g := by
    rintro g (hh | ⟨i, o, h1, h2⟩)
    · exact .inl hh
    · rcases hl h1 with h3 | ⟨h3, h4, h5, h6⟩
      · obtain ⟨q, oq, h7, _, h8⟩ := hbk i o h3 g h2
        exact .inr ⟨q, oq, h7, h8⟩
      · rw [h6] at h2; exact .inr ⟨i, o, h5, h2⟩
  have hR : ∀ x v, x.okId p = true → R w (S.excl E b) b x v → R w (St.excl ⟨S.slots, nw ++ dropKs D S.owns⟩ E b') b' x v := fun x v hx hr => (R_hd hhd hx hr).mono he (fun g _ hh => hX g hh)
  exact {
    size := h.size
    defers := h.defers
    below := h.below
    slots := fun s x hx => hR _ _ (hsl s x hx) (h.slots s x hx)
    owns := fun i o hi => by
      rcases hl hi with h3 | ⟨h3, h4, h5, h6⟩
      · exact hnew hX i o h3
      · exact (h.owns i o h5).keep0 (p := fun x => x.okId p = true) h6 (Own.okId_all ((how i o h5).resolve_right (by rintro (h7 | h7); exact h4 h7; rw [h3] at h7; cases h7))) (fun _ _ _ => rfl) hR (fun x v hr => hr.mono he (fun g _ hh => hX g hh))
    mine := fun i o hi g hg => by
      rcases hl hi with h3 | ⟨h3, h4, h5, h6⟩
      · obtain ⟨q, oq, h7, _, h8⟩ := hbk i o h3 g hg
        exact h.mine q oq h7 g h8
      · rw [h6] at hg; exact h.mine i o h5 g hg
    apart := fun i q oi oq hi hq hne g hgi hgq => by
      rcases hl hi with h3 | ⟨h3, h4, h5, h6⟩
      · rcases hl hq with h3' | ⟨h3', h4', h5', h6'⟩
        · exact hap i q oi oq h3 h3' hne g hgi hgq
        · obtain ⟨z, oz, h7, h8, h9⟩ := hbk i oi h3 g hgi
          rw [h6'] at hgq
          refine h.apart z q oz oq h7 h5' ?_ g h9 hgq
          rintro rfl
          rcases h8 with h8 | h8
          · exact h4' h8
          · rw [h3'] at h8; cases h8
      · rcases hl hq with h3' | ⟨h3', h4', h5', h6'⟩
        · obtain ⟨z, oz, h7, h8, h9⟩ := hbk q oq h3' g hgq
          rw [h6] at hgi
          refine h.apart z i oz oi h7 h5 ?_ g h9 hgi
          rintro rfl
          rcases h8 with h8 | h8
          · exact h4 h8
          · rw [h3] at h8; cases h8
        · rw [h6] at hgi; rw [h6'] at hgq
          exact h.apart i q oi oq h5 h5' hne g hgi hgq
    old := fun i hi => (hold i hi).trans (h.old i hi) }
section urow
variable {S : St} {j n k : Nat} {get : Nat → Nat → SV} {e : TypeId} {c : Nat} {ce : TypeId} {ck m : Nat} {kn : Nat → Nat} {kget : Nat → Nat → Nat → SV} {hole : Option (Nat × SV)}
def uat (get : Nat → Nat → SV) (c m : Nat) (hole : Option (Nat × SV)) (i t : Nat) : SV :=
  if t = c then match hole with
    | some (h, x) => if i = h then x else if i < m then .junk else get i t
    | none => if i < m then .junk else get i t
  else get i t
theorem u_slice {b : Nat → Value} {a : Act} {w : World} (hr : RepB E b S a w) (ho : lookO j S.owns = some (.urow n k get e c ce ck m kn kget hole)) : ∃ A cp, hdv (b j) = .slice A n cp := by
  obtain ⟨v, subs, xs, h1, hown, _⟩ := hr.owns j _ ho
  obtain ⟨A, cp, hs, _⟩ := hown.slice
  exact ⟨A, cp, by rw [h1]; exact hs⟩
theorem u_cells {b : Nat → Value} {a : Act} {w : World} (hr : RepB E b S a w) (ho : lookO j S.owns = some (.urow n k get e c ce ck m kn kget hole)) (h0 : 0 < n) :
    ∃ subs g cp cur, b j = .tuple (.slice (some ⟨g, 0, none⟩) n (cp + 1) :: subs).toArray ∧ E.base ≤ g ∧ w.heap[g]? = some (.cells cur e (0, 0)) ∧ n ≤ cp + 1 ∧ cp + 1 ≤ maxLen ∧ cur.size = (cp + 1) * k ∧ subs.length = m ∧ m ≤ n ∧
      (∀ i, i < n → ∀ t, t < k → ∃ u, cur[i * k + t]? = some u ∧ u.oneCell' = true ∧ R w (S.excl E b) b (uat get c m hole i t) u ∧ (t ≠ c → RO w (S.excl E b) (get i t) u) ∧ (t = c → ¬ isHole i hole → m ≤ i → RO w (S.excl E b) (get i t) u) ∧ (t = c → ¬ isHole i hole → i < m → subs[i]? = some u) ∧
        (t = c → ∀ x, hole = some (i, x) → R w (S.excl E b) b x u)) ∧
      (∀ i, i < m → ∃ s, subs[i]? = some s ∧ (isHole i hole → blk1 s = none) ∧ (¬ isHole i hole → ∃ ys, ownsR w E.base ce ck s (kn i) ys ∧ ∀ q, q < kn i → ∀ t, t < ck → ∃ u, ys[q * ck + t]? = some u ∧ u.oneCell' = true ∧ RO w (S.excl E b) (kget i q t) u) ∧
        (∀ g', blk1 s = some g' → g ≠ g') ∧ ∀ i' s', subs[i']? = some s' → i' ≠ i → ∀ g, blk1 s = some g → blk1 s' ≠ some g) := by
  obtain ⟨v, subs, xs, h1, h, h2, h3, hc, hsub⟩ := hr.owns j _ ho
  rcases h with ⟨A, hv, hn, _⟩ | ⟨⟨hl, hv⟩, g', m', c', hv'⟩
  · omega
  · rcases hv with ⟨hv, hn⟩ | ⟨g, cap, cur, hv, hb, hh, hcap, hm, hs, ht⟩
    · omega
    · rw [hv] at hv'
      simp only [Value.slice.injEq, Option.some.injEq, Addr.mk.injEq, and_true] at hv'
      obtain ⟨rfl, rfl, rfl⟩ := hv'
      subst hv
      refine ⟨subs, g, c', cur, h1, hb, hh, hcap, hm, hs, h2, h3, fun i hi t htk => ?_, fun i hi => ?_⟩
      · obtain ⟨u, hu, h4, h5, h6, h7, h8⟩ := hc i hi t htk
        refine ⟨u, ?_, h4, ?_, h5, h6, h7, h8⟩
        · rw [← ht, List.getElem?_take] at hu
          split at hu
          · simpa using hu
          · cases hu
        · unfold uat
          split
          · rename_i htc
            split
            · split
              · rename_i e1; subst e1; exact h8 htc _ rfl
              · split
                · trivial
                · rename_i e1 e2; exact (h6 htc e1 (by omega)).toR
            · split
              · trivial
              · exact (h6 htc (fun z => z) (by omega)).toR
          · rename_i htc; exact (h5 htc).toR
      · obtain ⟨s, h4, h5, h6, h7, h8⟩ := hsub i hi
        exact ⟨s, h4, h5, h6, fun g' hg' e1 => h7 g' hg' (by rw [e1]; rfl), h8⟩
theorem q_idxU {x y : Operand} {t : TypeId} {kk : IntKind} {i : Int} (hx : Val E S x (.own j)) (ho : lookO j S.owns = some (.urow n k get e c ce ck m kn kget hole)) (hy : Val E S y (.v (.int kk i)))
    (ht : P.underlying t = some (.slice (P.elem t))) (hs : ∀ w, (sizeOf (P.elem t)).run P w = .ok k w) (h0 : 0 ≤ i) (h1 : i < n) :
    OpQ P E S (.indexAddr t x y) (.oe j k i.toNat 0) := fun b a w hr dst ty pos after gd => by
  have hv : a.eval x = hdv (b j) := hx b a w hr
  have h2 : a.eval y = .int kk i := hy b a w hr
  obtain ⟨subs, g, c, cur, hb, _⟩ := u_cells hr ho (by omega)
  have hb : hdv (b j) = .slice (some ⟨g, 0, none⟩) n (c + 1) := by rw [hb]; rfl
  refine ⟨.pointer (some ⟨g, i.toNat * k + 0, none⟩), fun w' hw' => ?_, g, n, c + 1, hb, by omega, rfl⟩
  simp [execOp, hv, hb, h2, run_indexAt_slice w' t _ n (c + 1) kk i ht, h0, h1, hs, Addr.add_lit]
theorem q_idxUN {x y : Operand} {t : TypeId} {kk : IntKind} {i : Nat} (hx : Val E S x (.own j)) (ho : lookO j S.owns = some (.urow n k get e c ce ck m kn kget hole)) (hy : Val E S y (.v (.int kk (i : Int))))
    (ht : P.underlying t = some (.slice (P.elem t))) (hs : ∀ w, (sizeOf (P.elem t)).run P w = .ok k w) (h1 : i < n) :
    OpQ P E S (.indexAddr t x y) (.oe j k i 0) := by
  have := q_idxU hx ho hy ht hs (Int.natCast_nonneg i) (by omega)
  simpa using this
theorem q_ldU {x : Operand} {t : TypeId} {i off : Nat} {s : SV} (hx : Val E S x (.oe j k i off)) (ho : lookO j S.owns = some (.urow n k get e c ce ck m kn kget hole))
    (ht : ∀ w, (isAgg t).run P w = .ok false w) (hoff : off < k) (hs : uat get c m hole i off = s) : OpQ P E S (.load t x) s := fun b a w hr dst ty pos after gd => by
  subst hs
  obtain ⟨g, n', cap, hb, hi, hv⟩ := hx b a w hr
  obtain ⟨A, c1, hs⟩ := u_slice hr ho
  rw [hs] at hb
  simp only [Value.slice.injEq] at hb
  obtain ⟨rfl, rfl, rfl⟩ := hb
  obtain ⟨subs, g', c', cur, hb', _, hh, _, _, _, _, _, hc, _⟩ := u_cells hr ho (by omega)
  have hb' : hdv (b j) = .slice (some ⟨g', 0, none⟩) n (c' + 1) := by rw [hb']; rfl
  rw [hs] at hb'
  simp only [Value.slice.injEq, Option.some.injEq, Addr.mk.injEq, and_true] at hb'
  obtain ⟨rfl, _, _⟩ := hb'
  obtain ⟨u, hu, h1, h2, _⟩ := hc i hi off hoff
  refine ⟨u, fun w' hw' => ?_, h2⟩
  have hu' : w'.cell? ⟨g, i * k + off, none⟩ = some u := (hw'.cell (p := ⟨g, i * k + off, none⟩) (Array.getElem?_eq_some_iff.1 hh).1).trans (by rw [cell_of_row w g _ cur e (0, 0) hh]; exact hu)
  simp [execOp, hv, Instr.loadAt, Instr.sureAddr, loadVar, ht, hu']
theorem q_ldUA {x : Operand} {t : TypeId} {i off mm : Nat} {gt : Nat → SV} (hx : Val E S x (.oe j k i off)) (ho : lookO j S.owns = some (.urow n k get e c ce ck m kn kget hole))
    (ht : ∀ w, (isAgg t).run P w = .ok true w) (hsz : ∀ w, (sizeOf t).run P w = .ok mm w) (hoff : off + mm ≤ k) (hs : AllN (fun q => uat get c m hole i (off + q) = gt q) mm) : OpQ P E S (.load t x) (.agg mm gt) := fun b a w hr dst ty pos after gd => by
  obtain ⟨g, n', cap, hb, hi, hv⟩ := hx b a w hr
  obtain ⟨A, c1, hs1⟩ := u_slice hr ho
  rw [hs1] at hb
  simp only [Value.slice.injEq] at hb
  obtain ⟨rfl, rfl, rfl⟩ := hb
  obtain ⟨subs, g', c', cur, hb', _, hh, _, _, _, _, _, hc, _⟩ := u_cells hr ho (by omega)
  have hb' : hdv (b j) = .slice (some ⟨g', 0, none⟩) n (c' + 1) := by rw [hb']; rfl
  rw [hs1] at hb'
  simp only [Value.slice.injEq, Option.some.injEq, Addr.mk.injEq, and_true] at hb'
  obtain ⟨rfl, _, _⟩ := hb'
  have hg := (Array.getElem?_eq_some_iff.1 hh).1
  let f : Nat → Value := fun q => (w.cell? ⟨g, i * k + (off + q), none⟩).getD undef
  have hcell : ∀ q, q < mm → ∃ u, w.cell? ⟨g, i * k + (off + q), none⟩ = some u ∧ u.oneCell' = true ∧ R w (S.excl E b) b (gt q) u := fun q hq => by
    obtain ⟨u, hu, h1, h2, _⟩ := hc i hi (off + q) (by omega)
    exact ⟨u, by rw [cell_of_row w g _ cur e (0, 0) hh]; exact hu, h1, by rw [← hs.at q hq]; exact h2⟩
  have hf : ∀ q, q < mm → w.cell? ⟨g, i * k + off + (0 + q), none⟩ = some (f q) := fun q hq => by
    obtain ⟨u, hu, _⟩ := hcell q hq
    have e : i * k + off + (0 + q) = i * k + (off + q) := by omega
    rw [e]; simp only [f]; rw [hu]; rfl
  have hl := fun (w' : World) (hw' : Below w.heap.size w w') => run_loadCellsFrom (P := P) w' g (i * k + off) mm 0 #[] f (fun q hq => (hw'.cell (p := ⟨g, i * k + off + (0 + q), none⟩) hg).trans (hf q hq))
  refine ⟨.agg (#[] ++ (Array.ofFn fun t : Fin mm => f t.1)), fun w' hw' => ?_, _, rfl, by simp, fun q hq => ?_⟩
  · simp [execOp, hv, Instr.loadAt, Instr.sureAddr, loadVar, ht, hsz, loadCells, hl w' hw']
  · obtain ⟨u, hu, h1, h2⟩ := hcell q hq
    exact ⟨u, by simp [hq, f, hu], h1, h2⟩
end urow
end Go.Eng
namespace Go.Eng
open Go.RowKit
variable {P : Program} {NN : Nat} {E : Env NN}
section urow
variable {S : St} {j n k : Nat} {get : Nat → Nat → SV} {e : TypeId} {c : Nat} {ce : TypeId} {ck m : Nat} {kn : Nat → Nat} {kget : Nat → Nat → Nat → SV} {hole : Option (Nat × SV)}
theorem t_stG {ops : Array Oper} {rest : List Oper} {K : St → Prop} {t : TypeId} {p x : Operand} {ty : TypeId} {pos : String} {after : Array Edge} {i off : Nat} {s : SV} {hole' : Option (Nat × SV)} (get' : Nat → Nat → SV)
    (hp : Val E S p (.oe j k i off)) (ho : lookO j S.owns = some (.urow n k get e c ce ck m kn kget hole)) (hx : Val E S x s) (h1 : OneV E S s) (hs : ∀ w, (sizeOf t).run P w = .ok 1 w) (hoff : off < k)
    (hset : (off ≠ c ∧ s.isRO = true ∧ get' i off = s ∧ hole' = hole) ∨ (off = c ∧ hole' = some (i, s) ∧ (isHole i hole ∨ (hole = none ∧ m ≤ i))))
    (hsame : ∀ i', i' < n → ∀ t, t < k → (i' ≠ i ∨ t ≠ off) → get' i' t = get i' t)
    (hk : T P E ops rest ⟨S.slots, (j, .urow n k get' e c ce ck m kn kget hole') :: S.owns⟩ K) :
    T P E ops ({ dst := none, op := .store t p x, type := ty, pos, after, guard := none } :: rest) S K := by
  rintro a w ⟨b, hr⟩ Q hq
  obtain ⟨g, n', cap, hb, hi, hpv⟩ := hp b a w hr
  obtain ⟨A, cq, hsl⟩ := u_slice hr ho
  rw [hsl] at hb
  simp only [Value.slice.injEq] at hb
  obtain ⟨rfl, rfl, rfl⟩ := hb
  obtain ⟨subs, g', c', cur, hb', hbase, hh, hcap, hmax, hsz, hsl2, hmn, hc, hsub⟩ := u_cells hr ho (by omega)
  have hb2 : hdv (b j) = .slice (some ⟨g', 0, none⟩) n (c' + 1) := by rw [hb']; rfl
  rw [hsl] at hb2
  simp only [Value.slice.injEq, Option.some.injEq, Addr.mk.injEq, and_true] at hb2
  obtain ⟨rfl, _, _⟩ := hb2
  have hv := hx b a w hr
  have hone := h1 b a w _ hr hv
  obtain ⟨u0, hu0, _⟩ := hc i hi off hoff
  have hu0' : w.cell? ⟨g, i * k + off, none⟩ = some u0 := by rw [cell_of_row w g _ cur e (0, 0) hh]; exact hu0
  have hfr : w.frozen? ⟨g, i * k + off, none⟩ = false := by simp [World.frozen?, hh]
  have hhole : ∀ i', i' ≠ i → (isHole i' hole' ↔ isHole i' hole) := fun i' hne => by
    rcases hset with ⟨_, _, _, rfl⟩ | ⟨_, rfl, h2 | ⟨rfl, _⟩⟩
    · exact Iff.rfl
    · cases hole with
      | none => exact h2.elim
      | some q => exact ⟨fun h => absurd h hne, fun h => absurd (h.trans (Eq.symm h2)) hne⟩
    · exact ⟨fun h => absurd h hne, fun h => h.elim⟩
  have hsubeq : ∀ q, q < m → (isHole q hole' ↔ isHole q hole) := fun q hq => by
    by_cases h3 : q = i
    · subst h3
      rcases hset with ⟨_, _, _, rfl⟩ | ⟨_, rfl, h2 | ⟨rfl, h4⟩⟩
      · exact Iff.rfl
      · exact ⟨fun _ => h2, fun _ => rfl⟩
      · omega
    · exact hhole q h3
  unfold wpList
  rw [if_pos (by rfl)]
  refine .inl (wp_of_skip (w' := w.setCell ⟨g, i * k + off, none⟩ (a.eval x)) ?_ ?_)
  · simp [execOp, Instr.storeAt, hpv, Instr.sureAddr, storeVar, hs, cells_one hone, storeCells, Addr.add_zero', run_store P w _ _ _ hone, hu0', hfr]
  · refine hk _ _ ⟨b, ?_⟩ Q hq
    refine hr.setown (g := g) ho (by rw [hb']; exact ⟨0, _, rfl, rfl⟩) ⟨rfl, rfl, rfl, by simp⟩ (fun k hk => Below.heap_setCell _ _ _ _ hk) (fun X hm hmo => ?_)
    have hcur' : (w.setCell ⟨g, i * k + off, none⟩ (a.eval x)).heap[g]? = some (.cells (cur.setIfInBounds (i * k + off) (a.eval x)) e (0, 0)) := by simp [World.setCell, Array.getElem?_modify, hh]
    have hnk : n * k ≤ cur.size := by rw [hsz]; exact Nat.mul_le_mul_right _ hcap
    refine ⟨_, subs, (cur.setIfInBounds (i * k + off) (a.eval x)).toList.take (n * k), hb', .inr ⟨⟨?_, .inr ⟨g, c' + 1, _, rfl, hbase, hcur', hcap, hmax, by simpa using hsz, rfl⟩⟩, g, n, c', rfl⟩, hsl2, hmn, fun i' hi' t ht => ?_, fun q hq => ?_⟩
    · simp; omega
    · have hlt : i' * k + t < n * k := by
        have : (i' + 1) * k ≤ n * k := Nat.mul_le_mul_right _ hi'
        have e1 : (i' + 1) * k = i' * k + k := by rw [Nat.add_mul, Nat.one_mul]
        omega
      rw [List.getElem?_take, if_pos hlt, Array.getElem?_toList, Array.getElem?_setIfInBounds]
      by_cases e1 : i * k + off = i' * k + t
      · have hii : i' = i ∧ t = off := by
          have h2 : (i * k + off) / k = i := by rw [Nat.mul_comm, Nat.mul_add_div (by omega), Nat.div_eq_of_lt hoff, Nat.add_zero]
          have h3 : (i' * k + t) / k = i' := by rw [Nat.mul_comm, Nat.mul_add_div (by omega), Nat.div_eq_of_lt ht, Nat.add_zero]
          have : i' = i := by rw [← h2, ← h3, e1]
          subst this
          exact ⟨rfl, by omega⟩
        obtain ⟨rfl, rfl⟩ := hii
        rw [if_pos e1, if_pos (by omega)]
        rcases hset with ⟨h2, hro, h3, h4⟩ | ⟨h2, rfl, _⟩
        · exact ⟨_, rfl, hone, fun _ => by rw [h3]; exact hmo (hv.toRO hro), fun h => absurd h h2, fun h => absurd h h2, fun h => absurd h h2⟩
        · exact ⟨_, rfl, hone, fun h => absurd h2 h, fun _ h => absurd rfl h, fun _ h => absurd rfl h, fun _ y hy => by
            simp only [Option.some.injEq, Prod.mk.injEq, true_and] at hy
            subst hy; exact hm hv⟩
      · rw [if_neg e1]
        have hne : i' ≠ i ∨ t ≠ off := by
          by_cases e2 : i' = i
          · exact .inr (fun e3 => e1 (by rw [e2, e3]))
          · exact .inl e2
        rw [hsame i' hi' t ht hne]
        obtain ⟨u, hu, h2, _, h3, h4, h5, h6⟩ := hc i' hi' t ht
        refine ⟨u, hu, h2, fun z => hmo (h3 z), fun z z2 z3 => ?_, fun z z2 z3 => ?_, fun z y hy => ?_⟩
        · by_cases e2 : i' = i
          · rcases hset with ⟨_, _, _, rfl⟩ | ⟨h7, _, _⟩
            · exact hmo (h4 z z2 z3)
            · rcases hne with h8 | h8
              · exact absurd e2 h8
              · exact absurd (z.trans h7.symm) h8
          · exact hmo (h4 z (fun h => z2 ((hhole i' e2).2 h)) z3)
        · by_cases e2 : i' = i
          · rcases hset with ⟨_, _, _, rfl⟩ | ⟨h7, _, _⟩
            · exact h5 z z2 z3
            · rcases hne with h8 | h8
              · exact absurd e2 h8
              · exact absurd (z.trans h7.symm) h8
          · exact h5 z (fun h => z2 ((hhole i' e2).2 h)) z3
        · rcases hset with ⟨_, _, _, rfl⟩ | ⟨h7, rfl, _⟩
          · exact hm (h6 z y hy)
          · simp only [Option.some.injEq, Prod.mk.injEq] at hy
            rcases hne with h8 | h8
            · exact absurd hy.1.symm h8
            · exact absurd (z.trans h7.symm) h8
    · obtain ⟨s', h2, h3, h4, h5, h6⟩ := hsub q hq
      refine ⟨s', h2, fun z => h3 ((hsubeq q hq).1 z), fun z => ?_, fun g1 hg1 e1 => h5 g1 hg1 ?_, h6⟩
      · obtain ⟨ys, h7, h8⟩ := h4 (fun h => z ((hsubeq q hq).2 h))
        refine ⟨ys, h7.same fun g1 hg1 => Below.heap_setCell _ _ _ _ fun e1 => h5 g1 hg1 e1.symm, fun i1 hi1 t1 ht1 => ?_⟩
        obtain ⟨u, hu, h9, h10⟩ := h8 i1 hi1 t1 ht1
        exact ⟨u, hu, h9, hmo h10⟩
      · simpa [blk1] using e1
theorem t_stH {ops : Array Oper} {rest : List Oper} {K : St → Prop} {t : TypeId} {p x : Operand} {ty : TypeId} {pos : String} {after : Array Edge} {i : Nat} {s : SV}
    (hp : Val E S p (.oe j k i c)) (ho : lookO j S.owns = some (.urow n k get e c ce ck m kn kget hole)) (hx : Val E S x s) (h1 : OneV E S s) (hs : ∀ w, (sizeOf t).run P w = .ok 1 w) (hoff : c < k)
    (hh : isHole i hole ∨ (hole = none ∧ m ≤ i))
    (hk : T P E ops rest ⟨S.slots, (j, .urow n k get e c ce ck m kn kget (some (i, s))) :: S.owns⟩ K) :
    T P E ops ({ dst := none, op := .store t p x, type := ty, pos, after, guard := none } :: rest) S K :=
  t_stG get hp ho hx h1 hs hoff (.inr ⟨rfl, rfl, hh⟩) (fun _ _ _ _ _ => rfl) hk
end urow
end Go.Eng
namespace Go.Eng
open Go.RowKit
variable {P : Program} {NN : Nat} {E : Env NN}
section urow
variable {S : St} {j n k : Nat} {get : Nat → Nat → SV} {e : TypeId} {c : Nat} {ce : TypeId} {ck m : Nat} {kn : Nat → Nat} {kget : Nat → Nat → Nat → SV} {hole : Option (Nat × SV)}
theorem Bk_tuple {v : Value} {l : List Value} {g : Nat} : Bk (.tuple (v :: l).toArray) g ↔ blk1 v = some g ∨ ∃ (i : Nat) (u : Value), l[i]? = some u ∧ blk1 u = some g := by
  constructor
  · rintro ⟨i, u, hi, hu⟩
    cases i with
    | zero =>
      have : v = u := by simpa using hi
      subst this; exact .inl hu
    | succ i => exact .inr ⟨i, u, by simpa using hi, hu⟩
  · rintro (h | ⟨i, u, hi, hu⟩)
    · exact ⟨0, v, rfl, h⟩
    · exact ⟨i + 1, u, by simpa using hi, hu⟩
theorem turn_split (j i j2 : Nat) (ho : lookO j S.owns = some (.urow n k get e c ce ck m kn kget none)) (hi : i < m) (hj : Nat.blt j 1000 = true) (hf : S.fresh j2 = true) :
    Turn E S ⟨S.slots, (j, .urow n k get e c ce ck m kn kget (some (i, .own j2))) :: (j2, .arow (kn i) ck (kget i) ce) :: dropKs [] S.owns⟩ := fun b a w hr => by
  obtain ⟨v, subs, xs, h1, hown, hsl, hmn, hc, hsub⟩ := hr.owns j _ ho
  have hj' : j < 1000 := Nat.le_of_ble_eq_true hj
  obtain ⟨hf1, hf2, hf3⟩ := St.fresh_parts hf
  have hjj : j ≠ j2 := (lookO_fresh hf2 j _ ho).1
  obtain ⟨s, hs1, _, hs3, hs4, hs5⟩ := hsub i hi
  obtain ⟨ys, hys, hyc⟩ := hs3 (fun z => z)
  obtain ⟨As, cs, hss, _⟩ := hys.slice
  let b' := setB (setB b j2 s) j (.tuple (v :: subs.set i undef).toArray)
  have hb1 : b' j = .tuple (v :: subs.set i undef).toArray := setB_same _ _ _
  have hb2 : b' j2 = s := by simp only [b']; rw [setB_other _ _ _ (Ne.symm hjj), setB_same]
  have hb3 : ∀ q, q ≠ j → q ≠ j2 → b' q = b q := fun q h2 h3 => by simp only [b']; rw [setB_other _ _ _ h2, setB_other _ _ _ h3]
  have hlk : ∀ {q o}, lookO q [(j, Own.urow n k get e c ce ck m kn kget (some (i, .own j2))), (j2, .arow (kn i) ck (kget i) ce)] = some o → (q = j ∧ o = .urow n k get e c ce ck m kn kget (some (i, .own j2))) ∨ (q = j2 ∧ o = .arow (kn i) ck (kget i) ce) := fun {q o} h => by
    rw [lookO_cons] at h
    split at h
    · injection h with h; exact .inl ⟨‹_›, h.symm⟩
    · rw [lookO_cons] at h
      split at h
      · injection h with h; exact .inr ⟨‹_›, h.symm⟩
      · cases h
  have hbkj : ∀ g, Bk (b' j) g → Bk (b j) g := fun g hg => by
    rw [hb1, Bk_tuple] at hg
    rw [h1, Bk_tuple]
    rcases hg with hg | ⟨q, u, hq, hu⟩
    · exact .inl hg
    · rw [List.getElem?_set] at hq
      split at hq
      · split at hq
        · injection hq with hq; subst hq; cases hu
        · cases hq
      · exact .inr ⟨q, u, hq, hu⟩
  refine ⟨b', hr.rename2 [] [(j, .urow n k get e c ce ck m kn kget (some (i, .own j2))), (j2, .arow (kn i) ck (kget i) ce)] (notJ j2) (fun q hq => ?_) (fun s x hx => look_fresh hf1 s x hx) (fun q o hq => .inl (lookO_fresh hf2 q o hq).2) (fun q o hq _ hn => ?_) (fun q hq => hb3 q (by omega) (by omega)) (fun hX q o hq => ?_) (fun q o hq g hg => ?_) (fun q z oq oz hq hz hne g hg hg2 => ?_)⟩
  · have h2 := notJ_ne hq
    by_cases h3 : q = j
    · subst h3
      rw [hb1, h1]
      exact ⟨rfl, fun z hz => by cases hz⟩
    · rw [hb3 q h3 h2]; exact ⟨rfl, fun _ _ => rfl⟩
  · refine hb3 q (fun h => ?_) (fun h => ?_)
    · subst h; rw [lookO_cons, if_pos rfl] at hn; cases hn
    · subst h; exact absurd rfl (lookO_fresh hf2 q o hq).1
  · rcases hlk hq with ⟨rfl, rfl⟩ | ⟨rfl, rfl⟩
    · refine ⟨v, subs.set i undef, xs, hb1, hown, by rw [List.length_set]; exact hsl, hmn, fun i1 hi1 t ht => ?_, fun i1 hi1 => ?_⟩
      · obtain ⟨u, hu, h2, h3, h4, h5, h6⟩ := hc i1 hi1 t ht
        refine ⟨u, hu, h2, fun z => (h3 z).mono ⟨Nat.le_refl _, fun _ _ _ => rfl⟩ (fun g _ => hX g), fun z z2 z3 => (h4 z (fun y => y) z3).mono ⟨Nat.le_refl _, fun _ _ _ => rfl⟩ (fun g _ => hX g), fun z z2 z3 => ?_, fun z x hx => ?_⟩
        · rw [List.getElem?_set, if_neg (fun h => z2 h.symm)]
          exact h5 z (fun y => y) z3
        · simp only [Option.some.injEq, Prod.mk.injEq] at hx
          obtain ⟨rfl, rfl⟩ := hx
          have h7 := h5 z (fun y => y) hi
          rw [hs1] at h7
          injection h7 with h7
          subst h7
          show s = hdv (b' j2)
          rw [hb2, hss]; rfl
      · by_cases h2 : i1 = i
        · subst h2
          refine ⟨undef, by rw [List.getElem?_set, if_pos rfl, if_pos (by omega)], fun _ => rfl, fun z => absurd rfl z, fun g hg => (by have q : (none : Option Nat) = some g := hg; cases q), fun _ _ _ _ g hg => (by have q : (none : Option Nat) = some g := hg; cases q)⟩
        · obtain ⟨s1, h3, h4, h5, h6, h7⟩ := hsub i1 hi1
          refine ⟨s1, by rw [List.getElem?_set, if_neg (fun h => h2 h.symm)]; exact h3, fun z => absurd z h2, fun _ => ?_, h6, fun i' s' hs' hne g hg hg' => ?_⟩
          · obtain ⟨zs, h8, h9⟩ := h5 (fun z => z)
            exact ⟨zs, h8, fun q1 hq1 t ht => by
              obtain ⟨u, hu, h10, h11⟩ := h9 q1 hq1 t ht
              exact ⟨u, hu, h10, h11.mono ⟨Nat.le_refl _, fun _ _ _ => rfl⟩ (fun g _ => hX g)⟩⟩
          · rw [List.getElem?_set] at hs'
            split at hs'
            · split at hs'
              · injection hs' with hs'; subst hs'; cases hg'
              · cases hs'
            · exact h7 i' s' hs' hne g hg hg'
    · refine ⟨ys, by rw [hb2]; exact hys, fun q1 hq1 t ht => ?_⟩
      obtain ⟨u, hu, h10, h11⟩ := hyc q1 hq1 t ht
      exact ⟨u, hu, h10, h11.mono ⟨Nat.le_refl _, fun _ _ _ => rfl⟩ (fun g _ => hX g)⟩
  · refine ⟨j, _, ho, .inr (by rw [lookO_cons, if_pos rfl]; rfl), ?_⟩
    rcases hlk hq with ⟨rfl, rfl⟩ | ⟨rfl, rfl⟩
    · exact hbkj g hg
    · rw [hb2, Bk_slice hss] at hg
      rw [h1, Bk_tuple]
      exact .inr ⟨i, s, hs1, hg⟩
  · have key : ∀ g, Bk (b' j) g → ¬ Bk (b' j2) g := fun g hg hg2 => by
      rw [hb2, Bk_slice hss] at hg2
      rw [hb1, Bk_tuple] at hg
      rcases hg with hg | ⟨q1, u, hq1, hu⟩
      · exact hs4 g hg2 hg
      · rw [List.getElem?_set] at hq1
        split at hq1
        · split at hq1
          · injection hq1 with hq1; subst hq1; cases hu
          · cases hq1
        · exact hs5 q1 u hq1 (fun h => ‹¬ i = q1› h.symm) g hg2 hu
    rcases hlk hq with ⟨rfl, _⟩ | ⟨rfl, _⟩ <;> rcases hlk hz with ⟨rfl, _⟩ | ⟨rfl, _⟩
    · exact hne rfl
    · exact key g hg hg2
    · exact key g hg2 hg
    · exact hne rfl
end urow
end Go.Eng
namespace Go.Eng
open Go.RowKit
variable {P : Program} {NN : Nat} {E : Env NN}
section urow
variable {S : St} {j n k : Nat} {get : Nat → Nat → SV} {e : TypeId} {c : Nat} {ce : TypeId} {ck m : Nat} {kn : Nat → Nat} {kget : Nat → Nat → Nat → SV} {hole : Option (Nat × SV)}
theorem turn_join (get' : Nat → Nat → SV) (j i j2 m' n2 : Nat) {g2 : Nat → Nat → SV} {o : Own} (kn' : Nat → Nat) (kget' : Nat → Nat → Nat → SV) (ho : lookO j S.owns = some (.urow n k get e c ce ck m kn kget (some (i, .own j2)))) (ho2 : lookO j2 S.owns = some o) (he : o = .arow n2 ck g2 ce)
    (hi : i < n) (him : i ≤ m) (hm' : m' = if i < m then m else m + 1) (hj : Nat.blt j 1000 = true) (hj2 : Nat.beq j2 j = false)
    (hn2 : kn' i = n2) (hg2 : ∀ q, q < n2 → ∀ t, t < ck → kget' i q t = g2 q t) (hsame : ∀ q, q < m → q ≠ i → kn' q = kn q ∧ ∀ p, p < kn q → ∀ t, t < ck → kget' q p t = kget q p t) (hget : ∀ q, q < n → ∀ t, t < k → (t ≠ c ∨ m' ≤ q) → get' q t = get q t) :
    Turn E S ⟨S.slots, (j, .urow n k get' e c ce ck m' kn' kget' none) :: dropKs [j2] S.owns⟩ := fun b a w hr => by
  subst he
  obtain ⟨v, subs, xs, h1, hown, hsl, hmn, hc, hsub⟩ := hr.owns j _ ho
  have hj' : j < 1000 := Nat.le_of_ble_eq_true hj
  have hjj : j2 ≠ j := fun h => by rw [h] at hj2; simp at hj2
  obtain ⟨ys, hys, hyc⟩ := hr.owns j2 _ ho2
  obtain ⟨As, cs, hss, _⟩ := hys.slice
  have hap : ∀ g, blk1 (b j2) = some g → Bk (b j) g → False := fun g h2 h3 => hr.apart j2 j _ _ ho2 ho hjj g ((Bk_slice hss).2 h2) h3
  rw [h1] at hap
  let subs' := if i < m then subs.set i (b j2) else subs ++ [b j2]
  have hsl' : subs'.length = m' := by
    simp only [subs']
    split
    · rename_i h; rw [List.length_set, hm', if_pos h]; exact hsl
    · rename_i h; rw [List.length_append, hm', if_neg h, hsl]; rfl
  have hat : ∀ q, subs'[q]? = if q = i then some (b j2) else subs[q]? := fun q => by
    simp only [subs']
    split
    · rename_i h
      rw [List.getElem?_set]
      by_cases h2 : i = q
      · rw [if_pos h2, if_pos h2.symm, if_pos (by omega)]
      · rw [if_neg h2, if_neg (fun h3 => h2 h3.symm)]
    · rename_i h
      by_cases h2 : q = i
      · rw [if_pos h2, List.getElem?_append_right (by omega)]
        rw [show q - subs.length = 0 from by omega]; rfl
      · rw [if_neg h2]
        by_cases h3 : q < subs.length
        · rw [List.getElem?_append_left h3]
        · rw [List.getElem?_eq_none (l := subs) (by omega), List.getElem?_eq_none (by rw [List.length_append, List.length_singleton]; omega)]
  let b' := setB b j (.tuple (v :: subs').toArray)
  have hb1 : b' j = .tuple (v :: subs').toArray := setB_same _ _ _
  have hb3 : ∀ q, q ≠ j → b' q = b q := fun q h2 => setB_other _ _ _ h2
  have hlk : ∀ {q o}, lookO q [(j, Own.urow n k get' e c ce ck m' kn' kget' none)] = some o → (q = j ∧ o = .urow n k get' e c ce ck m' kn' kget' none) := fun {q o} h => by
    rw [lookO_cons] at h
    split at h
    · injection h with h; exact ⟨‹_›, h.symm⟩
    · cases h
  refine ⟨b', hr.rename2 [j2] [(j, .urow n k get' e c ce ck m' kn' kget' none)] (fun _ => true) (fun q hq => ?_) (fun _ _ _ => okId_all _) (fun q o hq => .inl ?_) (fun q o hq _ hn => ?_) (fun q hq => hb3 q (by omega)) (fun hX q o hq => ?_) (fun q o hq g hg => ?_) (fun q z oq oz hq hz hne g hg hg2 => ?_)⟩
  · by_cases h3 : q = j
    · subst h3
      rw [hb1, h1]
      exact ⟨rfl, fun z hz => by cases hz⟩
    · rw [hb3 q h3]; exact ⟨rfl, fun _ _ => rfl⟩
  · cases o with
    | box m get ty => exact allB_of fun t _ => okId_all _
    | urow n k get e c ce ck m kn kget hole => cases hole <;> first | rfl | exact okId_all _
    | _ => rfl
  · refine hb3 q (fun h => ?_)
    subst h; rw [lookO_cons, if_pos rfl] at hn; cases hn
  · obtain ⟨rfl, rfl⟩ := hlk hq
    have hXo : ∀ {x u}, RO w (S.excl E b) x u → RO w (St.excl ⟨S.slots, [(q, Own.urow n k get' e c ce ck m' kn' kget' none)] ++ dropKs [j2] S.owns⟩ E b') x u := fun h => h.mono ⟨Nat.le_refl _, fun _ _ _ => rfl⟩ (fun g _ => hX g)
    have hmm : ∀ q1, q1 < m' → q1 ≠ i → q1 < m := fun q1 h2 h3 => by rw [hm'] at h2; split at h2 <;> omega
    refine ⟨v, subs', xs, hb1, hown, hsl', by rw [hm']; split <;> omega, fun i1 hi1 t ht => ?_, fun i1 hi1 => ?_⟩
    · obtain ⟨u, hu, h2, h3, h4, h5, h6⟩ := hc i1 hi1 t ht
      refine ⟨u, hu, h2, fun z => by rw [hget i1 hi1 t ht (.inl z)]; exact hXo (h3 z), fun z _ z3 => ?_, fun z _ z3 => ?_, fun z x hx => (by cases hx)⟩
      · have : i1 ≠ i := fun h => by rw [h, hm'] at z3; split at z3 <;> omega
        rw [hget i1 hi1 t ht (.inr z3)]
        exact hXo (h4 z this (by rw [hm'] at z3; split at z3 <;> omega))
      · rw [hat]
        by_cases h7 : i1 = i
        · subst h7
          rw [if_pos rfl]
          have h8 : u = hdv (b j2) := h6 z _ rfl
          rw [h8, hss]; rfl
        · rw [if_neg h7]
          exact h5 z h7 (hmm i1 z3 h7)
    · by_cases h2 : i1 = i
      · subst h2
        refine ⟨b j2, by rw [hat, if_pos rfl], fun z => z.elim, fun _ => ⟨ys, by rw [hn2]; exact hys, fun q1 hq1 t ht => ?_⟩, fun g hg hv => ?_, fun i' s' hs' hne g hg hg' => ?_⟩
        · rw [hn2] at hq1
          obtain ⟨u, hu, h10, h11⟩ := hyc q1 hq1 t ht
          exact ⟨u, hu, h10, by rw [hg2 q1 hq1 t ht]; exact hXo h11⟩
        · exact hap g hg (Bk_tuple.2 (.inl hv))
        · rw [hat, if_neg hne] at hs'
          exact hap g hg (Bk_tuple.2 (.inr ⟨i', s', hs', hg'⟩))
      · obtain ⟨s1, h3, h4, h5, h6, h7⟩ := hsub i1 (hmm i1 hi1 h2)
        obtain ⟨e1, e2⟩ := hsame i1 (hmm i1 hi1 h2) h2
        refine ⟨s1, by rw [hat, if_neg h2]; exact h3, fun z => z.elim, fun _ => ?_, h6, fun i' s' hs' hne g hg hg' => ?_⟩
        · obtain ⟨zs, h8, h9⟩ := h5 h2
          refine ⟨zs, by rw [e1]; exact h8, fun q1 hq1 t ht => ?_⟩
          rw [e1] at hq1
          obtain ⟨u, hu, h10, h11⟩ := h9 q1 hq1 t ht
          exact ⟨u, hu, h10, by rw [e2 q1 hq1 t ht]; exact hXo h11⟩
        · rw [hat] at hs'
          split at hs'
          · injection hs' with hs'
            subst hs'
            exact hap g hg' (Bk_tuple.2 (.inr ⟨i1, s1, h3, hg⟩))
          · exact h7 i' s' hs' hne g hg hg'
  · obtain ⟨rfl, rfl⟩ := hlk hq
    rw [hb1, Bk_tuple] at hg
    rcases hg with hg | ⟨i1, u, hi1, hu⟩
    · exact ⟨q, _, ho, .inr (by rw [lookO_cons, if_pos rfl]; rfl), by rw [h1, Bk_tuple]; exact .inl hg⟩
    · rw [hat] at hi1
      split at hi1
      · injection hi1 with hi1
        subst hi1
        exact ⟨j2, _, ho2, .inl (List.mem_singleton.2 rfl), (Bk_slice hss).2 hu⟩
      · exact ⟨q, _, ho, .inr (by rw [lookO_cons, if_pos rfl]; rfl), by rw [h1, Bk_tuple]; exact .inr ⟨i1, u, hi1, hu⟩⟩
  · obtain ⟨rfl, _⟩ := hlk hq
    obtain ⟨rfl, _⟩ := hlk hz
    exact hne rfl
def uro (get : Nat → Nat → SV) (c ck m : Nat) (kn : Nat → Nat) (kget : Nat → Nat → Nat → SV) (hole : Option (Nat × SV)) (i t : Nat) : SV :=
  if t = c then match hole with
    | some (h, x) => if i = h then x else if i < m then .row (kn i) ck (kget i) else get i t
    | none => if i < m then .row (kn i) ck (kget i) else get i t
  else get i t
theorem turn_uA (j : Nat) (get' : Nat → Nat → SV) (ho : lookO j S.owns = some (.urow n k get e c ce ck m kn kget hole)) (hj : Nat.blt j 1000 = true) (hh : ∀ i x, hole = some (i, x) → x.isRO = true)
    (hg : ∀ i, i < n → ∀ t, t < k → uro get c ck m kn kget hole i t = get' i t) :
    Turn E S ⟨S.slots, (j, .arow n k get' e) :: dropKs [] S.owns⟩ := fun b a w hr => by
  obtain ⟨v, subs, xs, h1, hown, hsl, hmn, hc, hsub⟩ := hr.owns j _ ho
  have hj' : j < 1000 := Nat.le_of_ble_eq_true hj
  obtain ⟨A, cp, hs, _⟩ := hown.slice
  let b' := setB b j v
  have hb1 : b' j = v := setB_same _ _ _
  have hb3 : ∀ q, q ≠ j → b' q = b q := fun q h2 => setB_other _ _ _ h2
  have hlk : ∀ {q o}, lookO q [(j, Own.arow n k get' e)] = some o → (q = j ∧ o = .arow n k get' e) := fun {q o} h => by
    rw [lookO_cons] at h
    split at h
    · injection h with h; exact ⟨‹_›, h.symm⟩
    · cases h
  refine ⟨b', hr.rename2 [] [(j, .arow n k get' e)] (fun _ => true) (fun q hq => ?_) (fun _ _ _ => okId_all _) (fun q o hq => .inl ?_) (fun q o hq _ hn => ?_) (fun q hq => hb3 q (by omega)) (fun hX q o hq => ?_) (fun q o hq g hg => ?_) (fun q z oq oz hq hz hne g hg hg2 => ?_)⟩
  · by_cases h3 : q = j
    · subst h3
      rw [hb1, h1]
      exact ⟨by rw [hs]; rfl, fun z hz => by cases hz⟩
    · rw [hb3 q h3]; exact ⟨rfl, fun _ _ => rfl⟩
  · cases o with
    | box m get ty => exact allB_of fun t _ => okId_all _
    | urow n k get e c ce ck m kn kget hole => cases hole <;> first | rfl | exact okId_all _
    | _ => rfl
  · refine hb3 q (fun h => ?_)
    subst h; rw [lookO_cons, if_pos rfl] at hn; cases hn
  · obtain ⟨rfl, rfl⟩ := hlk hq
    have hXo : ∀ {x u}, RO w (S.excl E b) x u → RO w (St.excl ⟨S.slots, [(q, Own.arow n k get' e)] ++ dropKs [] S.owns⟩ E b') x u := fun h => h.mono ⟨Nat.le_refl _, fun _ _ _ => rfl⟩ (fun g _ => hX g)
    have hfree : ∀ i s, subs[i]? = some s → i < m → ∀ g, blk1 s = some g → ¬ St.excl ⟨S.slots, [(q, Own.arow n k get' e)] ++ dropKs [] S.owns⟩ E b' g := fun i s hs1 hi g hg => by
      have hbg : Bk (b q) g := by rw [h1, Bk_tuple]; exact .inr ⟨i, s, hs1, hg⟩
      rintro (hh | ⟨z, o, hz1, hz2⟩)
      · exact hr.notX ho hbg hh
      · rcases lookO_app hz1 with h5 | ⟨h4, h5⟩
        · obtain ⟨rfl, rfl⟩ := hlk h5
          rw [hb1, Bk_slice hs] at hz2
          obtain ⟨s2, h6, _, _, h7, _⟩ := hsub i hi
          rw [hs1] at h6
          injection h6 with h6
          subst h6
          exact h7 g hg hz2
        · obtain ⟨_, h6⟩ := lookO_dropKs h5
          have hne : z ≠ q := fun e1 => by subst e1; rw [lookO_cons, if_pos rfl] at h4; cases h4
          rw [hb3 z hne] at hz2
          exact hr.apart z q _ _ h6 ho hne g hz2 hbg
    refine ⟨xs, by rw [hb1]; exact hown, fun i hi t ht => ?_⟩
    obtain ⟨u, hu, h2, h3, h4, h5, h6⟩ := hc i hi t ht
    refine ⟨u, hu, h2, ?_⟩
    rw [← hg i hi t ht]
    have hsubrow : t = c → ¬ isHole i hole → i < m → RO w (St.excl ⟨S.slots, [(q, Own.arow n k get' e)] ++ dropKs [] S.owns⟩ E b') (.row (kn i) ck (kget i)) u := fun z z2 z3 => by
      have h7 := h5 z z2 z3
      obtain ⟨s, h8, _, h9, _⟩ := hsub i z3
      rw [h7] at h8
      injection h8 with h8
      subst h8
      obtain ⟨ys, h10, h11⟩ := h9 z2
      exact h10.row (fun g hg => hfree i u h7 z3 g hg) (fun q1 hq1 t1 ht1 => by
        obtain ⟨u1, hu1, h12, h13⟩ := h11 q1 hq1 t1 ht1
        exact ⟨u1, hu1, h12, hXo h13⟩)
    unfold uro
    split
    · rename_i z
      split
      · split
        · rename_i e1; subst e1
          have h7 := h6 z _ rfl
          exact hXo (h7.toRO (hh _ _ rfl))
        · rename_i e1
          split
          · exact hsubrow z e1 ‹_›
          · exact hXo (h4 z e1 (by omega))
      · split
        · exact hsubrow z (fun z => z) ‹_›
        · exact hXo (h4 z (fun z => z) (by omega))
    · exact hXo (h3 ‹_›)
  · obtain ⟨rfl, rfl⟩ := hlk hq
    rw [hb1, Bk_slice hs] at hg
    exact ⟨q, _, ho, .inr (by rw [lookO_cons, if_pos rfl]; rfl), by rw [h1, Bk_tuple]; exact .inl hg⟩
  · obtain ⟨rfl, _⟩ := hlk hq
    obtain ⟨rfl, _⟩ := hlk hz
    exact hne rfl
end urow
end Go.Eng
namespace Go.Eng
open Go.RowKit
variable {P : Program} {NN : Nat} {E : Env NN}
def urowOf {α β : Type} (cell : α → Nat → SV) (k : Nat) (d : α) (l : List α) (e : TypeId) (c : Nat) (sub : α → List β) (scell : β → Nat → SV) (ck : Nat) (sd : β) (ce : TypeId) (m : Nat) (hole : Option (Nat × SV)) : Own :=
  .urow l.length k (rowG cell d l) e c ce ck m (fun i => (sub (l.getD i d)).length) (fun i => rowG scell sd (sub (l.getD i d))) hole
section typed
variable {α β : Type} {cell : α → Nat → SV} {k : Nat} {d : α} {l : List α} {e : TypeId} {c : Nat} {sub : α → List β} {scell : β → Nat → SV} {ck : Nat} {sd : β} {ce : TypeId} {m : Nat} {hole : Option (Nat × SV)} {S : St} {j : Nat}
theorem getD_put (l : List α) (i q : Nat) (y : α) (h : i < l.length) : (l.set i y).getD q d = if q = i then y else l.getD q d := by
  simp only [List.getD_eq_getElem?_getD, List.getElem?_set]
  by_cases e : i = q
  · subst e; simp [h]
  · rw [if_neg e, if_neg (fun z => e z.symm)]
theorem uat_hole {get : Nat → Nat → SV} {i : Nat} {x : SV} : uat get c m (some (i, x)) i c = x := by
  rw [uat, if_pos rfl]; exact if_pos rfl
theorem uat_late {get : Nat → Nat → SV} {i : Nat} (h : m ≤ i) : uat get c m none i c = get i c := by
  rw [uat, if_pos rfl]; exact if_neg (by omega)
theorem turn_u0T (j c : Nat) (sub : α → List β) (scell : β → Nat → SV) (ck : Nat) (sd : β) (ce : TypeId) (ho : lookO j S.owns = some (ownOf cell k d l e)) (hj : Nat.blt j 1000 = true) :
    Turn E S ⟨S.slots, (j, urowOf cell k d l e c sub scell ck sd ce 0 none) :: dropKs [] S.owns⟩ := turn_u0 j c ce ck _ _ ho hj
theorem turn_joinT (j i j2 m' : Nat) (y : α) {o : Own} {x : List β} (ho : lookO j S.owns = some (urowOf cell k d l e c sub scell ck sd ce m (some (i, .own j2)))) (ho2 : lookO j2 S.owns = some o) (he : o = ownOf scell ck sd x ce)
    (hi : i < l.length) (him : i ≤ m) (hm' : m' = if i < m then m else m + 1) (hj : Nat.blt j 1000 = true) (hj2 : Nat.beq j2 j = false)
    (hsame : ∀ t, t < k → t ≠ c → cell y t = cell (l.getD i d) t) (hsub : sub y = x) :
    Turn E S ⟨S.slots, (j, urowOf cell k d (l.set i y) e c sub scell ck sd ce m' none) :: dropKs [j2] S.owns⟩ := by
  have h2 : ∀ q, (l.set i y).getD q d = if q = i then y else l.getD q d := fun q => getD_put _ _ _ _ hi
  have := turn_join (E := E) (rowG cell d (l.set i y)) j i j2 m' x.length (fun q => (sub ((l.set i y).getD q d)).length) (fun q => rowG scell sd (sub ((l.set i y).getD q d))) ho ho2 he hi him hm' hj hj2
    (by show (sub ((l.set i y).getD i d)).length = _; rw [h2, if_pos rfl, hsub]) (fun q hq t ht => by show rowG scell sd (sub ((l.set i y).getD i d)) q t = _; rw [h2, if_pos rfl, hsub])
    (fun q hq hne => by
      constructor
      · show (sub ((l.set i y).getD q d)).length = _; rw [h2, if_neg hne]
      · intro p hp t ht
        show rowG scell sd (sub ((l.set i y).getD q d)) p t = _; rw [h2, if_neg hne])
    (fun q hq t ht hne => by
      show cell ((l.set i y).getD q d) t = cell (l.getD q d) t
      rw [h2]
      split
      · rename_i e1; subst e1
        refine hsame t ht (hne.resolve_right fun z => ?_)
        rw [hm'] at z; split at z <;> omega
      · rfl)
  simp only [urowOf, List.length_set]
  exact this
theorem turn_splitT (j i j2 : Nat) (ho : lookO j S.owns = some (urowOf cell k d l e c sub scell ck sd ce m none)) (hi : i < m) (hj : Nat.blt j 1000 = true) (hf : S.fresh j2 = true) :
    Turn E S ⟨S.slots, (j, urowOf cell k d l e c sub scell ck sd ce m (some (i, .own j2))) :: (j2, ownOf scell ck sd (sub (l.getD i d)) ce) :: dropKs [] S.owns⟩ := turn_split j i j2 ho hi hj hf
theorem turn_uAT (j : Nat) (ho : lookO j S.owns = some (urowOf cell k d l e c sub scell ck sd ce m none)) (hj : Nat.blt j 1000 = true) (hcell : ∀ x, cell x c = rowOf scell ck sd (sub x)) :
    Turn E S ⟨S.slots, (j, ownOf cell k d l e) :: dropKs [] S.owns⟩ :=
  turn_uA j (rowG cell d l) ho hj (fun _ _ h => (by cases h)) fun i hi t ht => by
    unfold uro
    split
    · rename_i h; subst h
      show (if i < m then _ else _) = _
      split
      · exact (hcell _).symm
      · rfl
    · rfl
theorem weak_uE {l' : List α} {m' : Nat} (ho : lookO j S.owns = some (urowOf cell k d l e c sub scell ck sd ce m hole)) (h : l = l') (hm : m = m') : Weak E S ⟨S.slots, (j, urowOf cell k d l' e c sub scell ck sd ce m' hole) :: S.owns⟩ := by
  subst h; subst hm
  exact weak_ownG ho fun _ _ _ h => h
theorem k_uE {G : Act → World → Prop} (j : Nat) (l' : List α) (m' : Nat) (ho : lookO j S.owns = some (urowOf cell k d l e c sub scell ck sd ce m hole)) (h : l = l') (hm : m = m') (hk : ∀ a w, Rep E ⟨S.slots, (j, urowOf cell k d l' e c sub scell ck sd ce m' hole) :: S.owns⟩ a w → G a w) : ∀ a w, Rep E S a w → G a w := k_weak (weak_uE ho h hm) hk
theorem c_uE {code : Code} {Q : Exit → Act → World → Prop} (j : Nat) (l' : List α) (m' : Nat) (ho : lookO j S.owns = some (urowOf cell k d l e c sub scell ck sd ce m hole)) (h : l = l') (hm : m = m') (hk : C P E code ⟨S.slots, (j, urowOf cell k d l' e c sub scell ck sd ce m' hole) :: S.owns⟩ Q) : C P E code S Q := (weak_uE ho h hm).c hk
end typed
end Go.Eng
namespace Go.Eng
open Go.RowKit
variable {P : Program} {NN : Nat} {E : Env NN}
theorem storeCells_at (g B : Nat) : ∀ (vs : List Value) (i : Nat), storeCells ⟨g, B, none⟩ vs i = storeCells ⟨g, 0, none⟩ vs (B + i)
  | [], i => rfl
  | v :: vs, i => by
    simp only [storeCells, Addr.add_lit, Nat.zero_add, storeCells_at g B vs (i + 1)]
    rfl
theorem t_stOA {ops : Array Oper} {rest : List Oper} {S : St} {K : St → Prop} {t : TypeId} {p x : Operand} {ty : TypeId} {pos : String} {after : Array Edge} {j n n' k i off m : Nat} {get : Nat → Nat → SV} {e : TypeId} {gt : Nat → SV} (get' : Nat → Nat → SV)
    (hp : Val E S p (.oe j k i off)) (ho : lookO j S.owns = some (.arow n k get e)) (hx : Val E S x (.agg m gt)) (hro : AllN (fun t => (gt t).isRO = true) m) (hs : ∀ w, (sizeOf t).run P w = .ok m w) (hoff : off + m ≤ k) (hn : n = n')
    (hset : ∀ t, t < m → get' i (off + t) = gt t) (hsame : ∀ i', i' < n → ∀ t, t < k → (i' ≠ i ∨ t < off ∨ off + m ≤ t) → get' i' t = get i' t)
    (hk : T P E ops rest ⟨S.slots, (j, .arow n' k get' e) :: S.owns⟩ K) :
    T P E ops ({ dst := none, op := .store t p x, type := ty, pos, after, guard := none } :: rest) S K := by
  subst hn
  rintro a w ⟨b, hr⟩ Q hq
  obtain ⟨g, n', cap, hb, hi, hpv⟩ := hp b a w hr
  obtain ⟨A, c, hsl⟩ := own_slice hr ho
  rw [hsl] at hb
  simp only [hdv, Value.slice.injEq] at hb
  obtain ⟨rfl, rfl, rfl⟩ := hb
  obtain ⟨g', c', cur, hb', hbase, hh, hcap, hmax, hsz, hc⟩ := own_cells hr ho (by omega)
  have hb2 := hb'
  rw [hsl] at hb'
  simp only [Value.slice.injEq, Option.some.injEq, Addr.mk.injEq, and_true] at hb'
  obtain ⟨rfl, _, _⟩ := hb'
  obtain ⟨vs, hv, hvm, hvc⟩ := hx b a w hr
  have h1 : ∀ v ∈ vs.toList, v.oneCell' = true := by
    intro v hv
    obtain ⟨i, hi, rfl⟩ := List.getElem_of_mem hv
    obtain ⟨u, hu, h1, _⟩ := hvc i (by simpa [hvm] using hi)
    rw [Array.getElem?_eq_getElem (by simpa using hi)] at hu
    simp only [Option.some.injEq] at hu
    simpa [hu] using h1
  have hik : (i + 1) * k ≤ n * k := Nat.mul_le_mul_right _ hi
  have hik1 : (i + 1) * k = i * k + k := by rw [Nat.add_mul, Nat.one_mul]
  have hnk : n * k ≤ cur.size := by rw [hsz]; exact Nat.mul_le_mul_right _ hcap
  obtain ⟨w', cs', hrun, h2, h3, h4, h5, h6⟩ := setRow_all (P := P) hh vs.toList (i * k + off) (by simp only [Array.length_toList, hvm]; omega) h1
  unfold wpList
  rw [if_pos (by rfl)]
  refine .inl (wp_of_skip (w' := w') ?_ ?_)
  · have e1 := storeCells_at g (i * k + off) vs.toList 0
    rw [Nat.add_zero] at e1
    simp [execOp, Instr.storeAt, hpv, Instr.sureAddr, storeVar, hs, hv, Value.cells, hvm, e1, hrun]
  · refine hk _ _ ⟨b, ?_⟩ Q hq
    refine hr.setown ho (by rw [hb2]; exact rfl) h5 h6 (fun X hm hmo => ?_)
    refine ⟨cs'.toList.take (n * k), .inr ⟨⟨?_, .inr ⟨g, c' + 1, _, hb2, hbase, h2, hcap, hmax, by rw [h3]; exact hsz, rfl⟩⟩, g, n, c', hb2⟩, fun i' hi' t ht => ?_⟩
    · simp; omega
    · have hlt : i' * k + t < n * k := by
        have : (i' + 1) * k ≤ n * k := Nat.mul_le_mul_right _ hi'
        have e1 : (i' + 1) * k = i' * k + k := by rw [Nat.add_mul, Nat.one_mul]
        omega
      rw [List.getElem?_take, if_pos hlt, Array.getElem?_toList, h4]
      have hdiv : ∀ q r, r < k → (q * k + r) / k = q := fun q r hr => by rw [Nat.mul_comm, Nat.mul_add_div (by omega), Nat.div_eq_of_lt hr, Nat.add_zero]
      simp only [Array.length_toList, hvm]
      by_cases e1 : i * k + off ≤ i' * k + t ∧ i' * k + t < i * k + off + m
      · have hii : i' = i := by
          rw [← hdiv i' t ht, ← hdiv i (i' * k + t - i * k) (by omega)]
          congr 1; omega
        subst hii
        rw [if_pos e1]
        obtain ⟨u, hu, h7, h8⟩ := hvc (t - off) (by omega)
        have h9 := hset (t - off) (by omega)
        rw [show off + (t - off) = t from by omega] at h9
        refine ⟨u, ?_, h7, ?_⟩
        · rw [show i' * k + t - (i' * k + off) = t - off from by omega, Array.getElem?_toList]; exact hu
        · rw [h9]; exact hmo (h8.toRO (hro.at _ (by omega)))
      · rw [if_neg e1, hsame i' hi' t ht (by
          by_cases e2 : i' = i
          · subst e2; exact .inr (by omega)
          · exact .inl e2)]
        obtain ⟨u, hu, h7, h8⟩ := hc i' hi' t ht
        exact ⟨u, hu, h7, hmo h8⟩
theorem t_stOAT {α : Type} {cell : α → Nat → SV} {d : α} {l : List α} {ops : Array Oper} {rest : List Oper} {S : St} {K : St → Prop} {t : TypeId} {p x : Operand} {ty : TypeId} {pos : String} {after : Array Edge} {j k i : Nat} {e : TypeId} {gt : Nat → SV} (y : α)
    (hp : Val E S p (.oe j k i 0)) (ho : lookO j S.owns = some (ownOf cell k d l e)) (hx : Val E S x (.agg k gt)) (hro : AllN (fun t => (gt t).isRO = true) k) (hs : ∀ w, (sizeOf t).run P w = .ok k w) (hi : i < l.length)
    (hset : AllN (fun t => cell y t = gt t) k)
    (hk : T P E ops rest ⟨S.slots, (j, ownOf cell k d (l.set i y) e) :: S.owns⟩ K) :
    T P E ops ({ dst := none, op := .store t p x, type := ty, pos, after, guard := none } :: rest) S K := by
  have h2 : ∀ q, (l.set i y).getD q d = if q = i then y else l.getD q d := fun q => getD_put _ _ _ _ hi
  refine t_stOA (rowG cell d (l.set i y)) hp ho hx hro hs (by omega) List.length_set.symm (fun t ht => ?_) (fun q hq t ht hne => ?_) hk
  · show cell ((l.set i y).getD i d) (0 + t) = gt t
    rw [h2, if_pos rfl, Nat.zero_add]; exact hset.at t ht
  · show cell ((l.set i y).getD q d) t = cell (l.getD q d) t
    rw [h2, if_neg]
    rcases hne with h | h | h
    · exact h
    · omega
    · omega
end Go.Eng
namespace Go.Eng
open Go.RowKit
variable {P : Program} {NN : Nat} {E : Env NN}
end Go.Eng
namespace Go.Eng
theorem cj_t (x : SV) : cj true x = x := rfl
theorem cj_f (x : SV) : cj false x = .junk := rfl
theorem cjn_t (x : SV) : cjn true x = .junk := rfl
theorem cjn_f (x : SV) : cjn false x = x := rfl
theorem cb_t (x y : List (Nat × Own)) : cb true x y = x := rfl
theorem cb_f (x y : List (Nat × Own)) : cb false x y = y := rfl
end Go.Eng
namespace Go.Eng
variable {P : Program} {NN : Nat} {E : Env NN}
theorem BL : (∀ a b : Bool, ((a && b) = true) = (a = true ∧ b = true)) ∧ (∀ a b : Bool, ((a || b) = true) = (a = true ∨ b = true)) ∧ (∀ b : Bool, ((!b) = true) = (b = false)) ∧ (∀ b : Bool, ((!b) = false) = (b = true)) ∧
    (∀ a b : Bool, ((a || b) = false) = (a = false ∧ b = false)) ∧ (∀ a b : Bool, ((a && b) = false) = (a = false ∨ b = false)) ∧ (∀ (p : Prop) [Decidable p], (decide p = true) = p) ∧ (∀ (p : Prop) [Decidable p], (decide p = false) = ¬ p) :=
  ⟨fun _ _ => by simp, fun _ _ => by simp, fun _ => by simp, fun _ => by simp, fun a b => by cases a <;> cases b <;> simp, fun a b => by cases a <;> cases b <;> simp, fun _ => by simp, fun _ => by simp⟩
def tab {α : Type} (g : Nat → α) : Nat → List α
  | 0 => []
  | n + 1 => g n :: tab g n
theorem An {α : Type} {g g' : Nat → α} : ∀ {m : Nat}, tab g m = tab g' m → AllN (fun t => g t = g' t) m
  | 0, _ => trivial
  | _ + 1, h => ⟨An (List.cons.inj h).2, (List.cons.inj h).1⟩
theorem Vs {S : St} : ∀ {sl : List (Nat × SV)}, sl.map (fun p => look p.1 S.slots) = sl.map (fun p => some p.2) → AllV E S sl
  | [], _ => trivial
  | _ :: _, h => ⟨val_tmp (List.cons.inj h).1, Vs (List.cons.inj h).2⟩
theorem AOs {S : St} : ∀ {ow : List (Nat × Own)}, ow.map (fun p => lookO p.1 S.owns) = ow.map (fun p => some p.2) → AllOE S ow
  | [], _ => trivial
  | _ :: _, h => ⟨⟨_, (List.cons.inj h).1, Own.eqv_rfl _⟩, AOs (List.cons.inj h).2⟩
theorem row_lenA {S : St} {x : Operand} {m n k : Nat} {g : Nat → SV} {get : Nat → Nat → SV} (i : Nat) (hx : Val E S x (.agg m g)) (hi : Nat.blt i m = true) (e : g i = .row n k get) {c : Code} {Q : Exit → Act → World → Prop} (h : n ≤ 9223372036854775807 → C P E c S Q) : C P E c S Q := by
  rintro a w ⟨b, hr⟩
  obtain ⟨cs, _, _, hc⟩ := hx b a w hr
  obtain ⟨u, _, _, hu⟩ := hc i (Nat.le_of_ble_eq_true hi)
  rw [e] at hu
  obtain ⟨A, c, _, h1, h2, _⟩ := hu
  exact h (by simp only [maxLen] at h2; omega) a w ⟨b, hr⟩
theorem c_condT {c : Operand} {x y : Code} {S : St} {Q : Exit → Act → World → Prop} {t : Bool} (hc : Val E S c (.v (.bool t))) (h : t = true) (hx : C P E x S Q) : C P E (.cond c x y) S Q := c_cond hc (fun _ => hx) (fun h' => absurd (h.symm.trans h') (by simp))
theorem c_hereH {S : St} {G : Act → World → Prop} {ι : Type} {T : ι → St} {I : ι → Prop} (i : ι) (hG : ∀ a w, (∃ i, I i ∧ Rep E (T i) a w) → G a w) (hI : I i) (hw : Weak E S (T i)) : ∀ a w, Rep E S a w → G a w :=
  fun a w ⟨b, hr⟩ => hG a w ⟨i, hI, b, hw b a w hr⟩
end Go.Eng
namespace Go.Eng
open Go.RowKit
variable {P : Program} {NN : Nat} {E : Env NN}
theorem wpAny_inv {l : List Oper} {I : (Nat → Bool) → Act → World → Prop} {Q : Exit → Act → World → Prop} (hb : backB 0 l = true)
    (hs : ∀ i o, l[i]? = some o → ∀ e, Down l e → e i = false → DepsL e (depsOf o) → ∀ a w, I e a w → ∀ Q2 : Exit → Act → World → Prop, (∀ a' w', I (setE e i) a' w' → Q2 .normal a' w') → wpList P l.toArray Q2 [o] a w)
    (hf : ∀ e, (∀ i, i < l.length → e i = true) → ∀ a w, I e a w → Q .normal a w) :
    ∀ (fuel : Nat) (listed : Array Bool) (a : Act) (w : World), listed.size = l.length → leftN listed ≤ fuel → Down l (flags listed) → I (flags listed) a w → wpAny P .any l.toArray Q fuel listed a w := by
  have hempty : ∀ (listed : Array Bool), listed.size = l.length → Region.ready .any l.toArray listed = [] → ∀ i, i < l.length → flags listed i = true := by
    intro listed hsz hr i
    induction i using Nat.strongRecOn with
    | ind i ih =>
      intro hi
      cases hfl : flags listed i with
      | true => rfl
      | false =>
        have hm := mem_ready (md := .any) hsz (List.getElem?_eq_getElem hi) hfl (fun ed hed hbd => by
          have hlt := backB.at hb i _ (List.getElem?_eq_getElem hi) ed.on (List.mem_map.2 ⟨ed, List.mem_filter.2 ⟨hed, hbd⟩, rfl⟩)
          exact ih ed.on (by omega) (by omega))
        rw [hr] at hm; cases hm
  intro fuel
  induction fuel with
  | zero =>
    intro listed a w hsz hle hd hr
    have hall := leftN_zero (Nat.le_zero.1 hle)
    refine ⟨?_, hf _ (fun i hi => hall i (by omega)) a w hr⟩
    refine List.eq_nil_iff_forall_not_mem.2 fun i hi => ?_
    obtain ⟨o, ho, h1, _⟩ := ready_mem hsz hi
    have := hall i (by have := (List.getElem?_eq_some_iff.1 ho).1; omega)
    rw [h1] at this; cases this
  | succ fuel ih =>
    intro listed a w hsz hle hd hr
    refine ⟨fun h0 => hf _ (hempty listed hsz h0) a w hr, fun i hi => ?_⟩
    obtain ⟨o, ho, h1, h2⟩ := ready_mem hsz hi
    have hil : i < listed.size := by have := (List.getElem?_eq_some_iff.1 ho).1; omega
    let K : Act → World → Prop := wpAny P .any l.toArray Q fuel (listed.setIfInBounds i true)
    let Q2 : Exit → Act → World → Prop := fun x a w => match x with | .normal => K a w | _ => False
    have hstep := hs i o ho (flags listed) hd h1 (deps_iff.2 h2) a w hr Q2 (fun a' w' hr' => by
      show K a' w'
      refine ih _ a' w' (by simpa using hsz) (by have := leftN_set hil h1; omega) ?_ ?_
      · intro k hk
        rw [flags_set hil] at hk ⊢
        by_cases e : k = i
        · subst e
          rw [ho]
          refine deps_iff.2 fun ed hed hbd => ?_
          have := h2 ed hed hbd
          simp only [setE]
          split
          · rfl
          · exact this
        · have hk' : flags listed k = true := by
            simp only [setE] at hk
            split at hk
            · rename_i hb'; exact absurd (Nat.eq_of_beq_eq_true hb') e
            · exact hk
          refine DepsL.of fun x hx => ?_
          have := (hd k hk').at x hx
          simp only [setE]
          split
          · rfl
          · exact this
      · rw [flags_set hil]; exact hr')
    unfold wpOp
    have ho' : l.toArray[i]? = some o := by simp [ho]
    rw [ho']
    unfold wpList at hstep
    by_cases hw : Region.wanted o (yielded l.toArray a.tmps) = true
    · rw [if_pos hw] at hstep
      simp only []
      rw [if_pos hw]
      have hbad : ∀ x (a : Act) (w : World), x ≠ Exit.normal → Q2 x a w → Q x a w := by
        intro x a w hx hq
        cases x <;> first | exact absurd rfl hx | exact hq.elim
      rcases hstep with h | ⟨h, a', w', h'⟩
      · have e : wpList P l.toArray Q2 [] = K := by funext a w; simp only [wpList]; rfl
        rw [e] at h
        exact .inl (upon_mono hbad h)
      · exact h'.elim
    · rw [if_neg hw] at hstep
      simp only []
      rw [if_neg hw]
      unfold wpList at hstep
      exact hstep
def OpG (P : Program) {NN : Nat} (E : Env NN) (S : St) (ops : Array Oper) (o : Oper) (x : SV) : Prop :=
  ∀ b a w, RepB E b S a w → ∀ Q : Exit → Act → World → Prop, (∀ v w', Below w.heap.size w w' → R w' (S.excl E b) b x v → Q .normal (a.put o.dst v) w') → wpList P ops Q [o] a w
section
variable {ops : Array Oper} {S : St} {d : Option Tmp} {ty : TypeId} {pos : String} {after : Array Edge} {gd : Nat × Bool} {c : Bool} {x : SV}
theorem og_w {op : Op} (h : OpW P E S op x) : OpG P E S ops { dst := d, op, type := ty, pos, after, guard := none } x := fun b a w hr Q hq => by
  obtain ⟨v, w', h1, h2, h3⟩ := h b a w hr d ty pos after none
  unfold wpList
  rw [if_pos (by rfl)]
  exact .inl (wp_of_run h1 (hq v w' h2 h3))
theorem og_q {op : Op} (h : OpQ P E S op x) : OpG P E S ops { dst := d, op, type := ty, pos, after, guard := none } x := og_w h.toW
theorem og_call {f : FuncId} {xs : List Operand} {ats : Array TypeId} {args : List SV} (hf : Enters P f) (ha : Vals E S xs args) (h : Ct P f args x) :
    OpG P E S ops { dst := d, op := .call { callee := .value (.func f), args := xs.toArray, argTypes := ats }, type := ty, pos, after, guard := none } x := fun b a w hr Q hq => by
  unfold wpList
  rw [if_pos (by rfl)]
  refine .inl (wp_of_enter (R := fun v w'' => Below w.heap.size w w'' ∧ R w'' (S.excl E b) b x v) (run_call hf ..) ?_ fun v w'' hv => hq v w'' hv.1 hv.2)
  refine (h w (S.excl E b) _ (fun g hg => hr.excl_lt hg) (ha.ros hr)).mono ?_
  rintro e w'' ⟨v, rfl, hv, hb⟩
  exact ⟨v, rfl, hb, hv.toR⟩
end
def mmB (k : Nat) : List Nat → Bool
  | [] => false
  | x :: r => match Nat.beq k x with | true => true | false => mmB k r
theorem mmB_iff {k : Nat} : ∀ {l : List Nat}, mmB k l = true ↔ k ∈ l
  | [] => by simp [mmB]
  | x :: r => by
    simp only [mmB, List.mem_cons]
    cases hb : Nat.beq k x with
    | true => simp [Nat.eq_of_beq_eq_true hb]
    | false =>
      have : k ≠ x := fun e => by subst e; simp at hb
      simp only [this, false_or]
      exact mmB_iff
def pick (deps : List Nat) : List (Nat × Nat × SV) → List (Nat × SV)
  | [] => []
  | p :: r => match mmB p.1 deps with | true => (p.2.1, p.2.2) :: pick deps r | false => pick deps r
def allS : List (Nat × Nat × SV) → List (Nat × SV)
  | [] => []
  | p :: r => (p.2.1, p.2.2) :: allS r
def dstsOf : List Oper → List Nat
  | [] => []
  | o :: r => match o.dst with | some d => d :: dstsOf r | none => dstsOf r
def keepS (ds : List Nat) : List (Nat × SV) → List (Nat × SV)
  | [] => []
  | p :: r => match mmB p.1 ds with | true => keepS ds r | false => p :: keepS ds r
def noDup : List Nat → Bool
  | [] => true
  | x :: r => !mmB x r && noDup r
def Gs (P : Program) {NN : Nat} (E : Env NN) (l : List Oper) (base : List (Nat × SV)) (ow : List (Nat × Own)) : List (Nat × Nat × SV) → Nat → List Oper → (List (Nat × Nat × SV) → Prop) → Prop
  | acc, _, [], K => K acc
  | acc, i, o :: r, K => ∃ d x, o.dst = some d ∧ d < NN ∧ OpG P E ⟨pick (depsOf o) acc ++ base, ow⟩ l.toArray o x ∧ Gs P E l base ow ((i, d, x) :: acc) (i + 1) r K
theorem gs_nil {l : List Oper} {base : List (Nat × SV)} {ow : List (Nat × Own)} {acc : List (Nat × Nat × SV)} {i : Nat} {K : List (Nat × Nat × SV) → Prop} (h : K acc) : Gs P E l base ow acc i [] K := h
theorem gs_op {l : List Oper} {base : List (Nat × SV)} {ow : List (Nat × Own)} {acc : List (Nat × Nat × SV)} {i : Nat} {K : List (Nat × Nat × SV) → Prop} {d : Nat} {x : SV} {op : Op} {ty : TypeId} {pos : String} {after : Array Edge} {gd : Option (Nat × Bool)} {r : List Oper}
    (h : OpG P E ⟨pick (depsOf { dst := some d, op, type := ty, pos, after, guard := gd }) acc ++ base, ow⟩ l.toArray { dst := some d, op, type := ty, pos, after, guard := gd } x) (hk : Gs P E l base ow ((i, d, x) :: acc) (i + 1) r K) (hd : d < NN := by decide) :
    Gs P E l base ow acc i ({ dst := some d, op, type := ty, pos, after, guard := gd } :: r) K := ⟨d, x, rfl, hd, h, hk⟩
theorem look_app {s : Nat} : ∀ {l m : List (Nat × SV)} {x : SV}, look s (l ++ m) = some x → look s l = some x ∨ look s m = some x
  | [], _, _, h => .inr h
  | p :: r, m, x, h => by
    simp only [List.cons_append, look] at h ⊢
    split at h
    · exact .inl h
    · exact look_app h
theorem look_pick {s : Nat} {deps : List Nat} : ∀ {acc : List (Nat × Nat × SV)} {x : SV}, look s (pick deps acc) = some x → ∃ k, k ∈ deps ∧ (k, s, x) ∈ acc
  | [], x, h => by simp [pick, look] at h
  | p :: r, x, h => by
    simp only [pick] at h
    split at h
    · rename_i hm
      simp only [look] at h
      split at h
      · rename_i hb
        injection h with h
        subst h
        have := Nat.eq_of_beq_eq_true hb
        exact ⟨p.1, mmB_iff.1 hm, by rw [this]; exact .head _⟩
      · obtain ⟨k, h1, h2⟩ := look_pick h; exact ⟨k, h1, .tail _ h2⟩
    · obtain ⟨k, h1, h2⟩ := look_pick h; exact ⟨k, h1, .tail _ h2⟩
theorem look_allS {s : Nat} : ∀ {acc : List (Nat × Nat × SV)} {x : SV}, look s (allS acc) = some x → ∃ k, (k, s, x) ∈ acc
  | [], x, h => by simp [allS, look] at h
  | p :: r, x, h => by
    simp only [allS, look] at h
    split at h
    · rename_i hb
      injection h with h
      subst h
      have := Nat.eq_of_beq_eq_true hb
      exact ⟨p.1, by rw [this]; exact .head _⟩
    · obtain ⟨k, h2⟩ := look_allS h; exact ⟨k, .tail _ h2⟩
theorem look_keep {s : Nat} {ds : List Nat} : ∀ {l : List (Nat × SV)} {x : SV}, look s (keepS ds l) = some x → ¬ s ∈ ds ∧ look s l = some x
  | [], x, h => by simp [keepS, look] at h
  | p :: r, x, h => by
    simp only [keepS] at h
    split at h
    · rename_i hm
      obtain ⟨h1, h2⟩ := look_keep h
      refine ⟨h1, ?_⟩
      simp only [look]
      split
      · rename_i hb
        exact absurd (Nat.eq_of_beq_eq_true hb ▸ mmB_iff.1 hm) h1
      · exact h2
    · rename_i hm
      simp only [look] at h ⊢
      split at h
      · rename_i hb
        exact ⟨fun hh => (by rw [Nat.eq_of_beq_eq_true hb] at hh; rw [mmB_iff.2 hh] at hm; cases hm), h⟩
      · rename_i hb
        exact look_keep h
def IxS (l : List Oper) : Nat → List (Nat × Nat × SV) → Prop
  | 0, [] => True
  | k + 1, p :: r => (p.1 = k ∧ ∃ o, l[k]? = some o ∧ o.dst = some p.2.1) ∧ IxS l k r
  | _, _ => False
theorem IxS.mem {l : List Oper} : ∀ {n : Nat} {acc : List (Nat × Nat × SV)}, IxS l n acc → ∀ p ∈ acc, p.1 < n ∧ ∃ o, l[p.1]? = some o ∧ o.dst = some p.2.1
  | 0, [], _, p, h => by cases h
  | k + 1, q :: r, hI, p, h => by
    cases h with
    | head => obtain ⟨⟨h1, h2⟩, _⟩ := hI; exact ⟨by omega, by rw [h1]; exact h2⟩
    | tail _ h => obtain ⟨h1, h2⟩ := hI.2.mem p h; exact ⟨by omega, h2⟩
  | 0, _ :: _, hI, _, _ => hI.elim
  | _ + 1, [], hI, _, _ => hI.elim
theorem IxS.uniq {l : List Oper} : ∀ {n : Nat} {acc : List (Nat × Nat × SV)}, IxS l n acc → ∀ p ∈ acc, ∀ q ∈ acc, p.1 = q.1 → p = q
  | 0, [], _, p, h, _, _, _ => by cases h
  | k + 1, x :: r, hI, p, hp, q, hq, e => by
    have h1 := hI.1.1
    cases hp with
    | head =>
      cases hq with
      | head => rfl
      | tail _ hq => have := (hI.2.mem q hq).1; omega
    | tail _ hp =>
      cases hq with
      | head => have := (hI.2.mem p hp).1; omega
      | tail _ hq => exact hI.2.uniq p hp q hq e
  | 0, _ :: _, hI, _, _, _, _, _ => hI.elim
  | _ + 1, [], hI, _, _, _, _, _ => hI.elim
theorem mem_dsts {d : Nat} : ∀ {l : List Oper} {i : Nat} {o : Oper}, l[i]? = some o → o.dst = some d → d ∈ dstsOf l
  | [], _, _, h, _ => by simp at h
  | y :: r, 0, o, h, h1 => by simp at h; subst h; simp [dstsOf, h1]
  | y :: r, i + 1, o, h, h1 => by
    have := mem_dsts (l := r) (i := i) (by simpa using h) h1
    simp only [dstsOf]
    split
    · exact .tail _ this
    · exact this
theorem noDup_at : ∀ {l : List Oper}, noDup (dstsOf l) = true → ∀ (i j : Nat) (o o' : Oper) (d : Nat), l[i]? = some o → l[j]? = some o' → o.dst = some d → o'.dst = some d → i = j
  | [], _, i, j, o, o', d, h, _, _, _ => by simp at h
  | x :: r, hn, i, j, o, o', d, h1, h2, h3, h4 => by
    have hm : ∀ {k : Nat} {o : Oper}, r[k]? = some o → o.dst = some d → d ∈ dstsOf r := by
      intro k o hk ho
      clear hn h1 h2
      induction r generalizing k with
      | nil => simp at hk
      | cons y r ih =>
        cases k with
        | zero => simp at hk; subst hk; simp [dstsOf, ho]
        | succ k =>
          have := ih (by simpa using hk)
          simp only [dstsOf]
          split
          · exact .tail _ this
          · exact this
    have hn' : noDup (dstsOf r) = true := by
      simp only [dstsOf] at hn
      split at hn
      · simp only [noDup, Bool.and_eq_true] at hn; exact hn.2
      · exact hn
    cases i with
    | zero =>
      simp at h1; subst h1
      cases j with
      | zero => rfl
      | succ j =>
        simp only [dstsOf, h3, noDup, Bool.and_eq_true, Bool.not_eq_true'] at hn
        have := hm (by simpa using h2) h4
        rw [mmB_iff.2 this] at hn
        exact absurd hn.1 (by simp)
    | succ i =>
      cases j with
      | zero =>
        simp at h2; subst h2
        simp only [dstsOf, h4, noDup, Bool.and_eq_true, Bool.not_eq_true'] at hn
        have := hm (by simpa using h1) h3
        rw [mmB_iff.2 this] at hn
        exact absurd hn.1 (by simp)
      | succ j => rw [noDup_at hn' i j o o' d (by simpa using h1) (by simpa using h2) h3 h4]
theorem Gs.all {l : List Oper} {base : List (Nat × SV)} {ow : List (Nat × Own)} {K : List (Nat × Nat × SV) → Prop} : ∀ {r : List Oper} {acc : List (Nat × Nat × SV)} {i : Nat}, Gs P E l base ow acc i r K → IxS l i acc → (∀ j o, r[j]? = some o → l[i + j]? = some o) →
    ∃ full, K full ∧ IxS l (i + r.length) full ∧ (∀ p ∈ acc, p ∈ full) ∧ ∀ j o, r[j]? = some o → ∃ d x acc', o.dst = some d ∧ d < NN ∧ (i + j, d, x) ∈ full ∧ (∀ p ∈ acc', p ∈ full) ∧ OpG P E ⟨pick (depsOf o) acc' ++ base, ow⟩ l.toArray o x
  | [], acc, i, h, hI, _ => ⟨acc, h, hI, fun _ h => h, fun j o h => by simp at h⟩
  | o :: r, acc, i, ⟨d, x, h1, h2, h3, h4⟩, hI, hl => by
    obtain ⟨full, hK, hF, hacc, hall⟩ := Gs.all h4 (show IxS l (i + 1) ((i, d, x) :: acc) from ⟨⟨rfl, o, by simpa using hl 0 o rfl, h1⟩, hI⟩) (fun j o' h => by have := hl (j + 1) o' (by simpa using h); rwa [show i + 1 + j = i + (j + 1) by omega])
    refine ⟨full, hK, by rw [show i + (o :: r).length = i + 1 + r.length by simp; omega]; exact hF, fun p hp => hacc p (.tail _ hp), fun j o' h => ?_⟩
    cases j with
    | zero =>
      simp at h; subst h
      exact ⟨d, x, acc, h1, h2, hacc _ (.head _), fun p hp => hacc p (.tail _ hp), h3⟩
    | succ j =>
      obtain ⟨d', x', acc', q1, q2, q3, q4, q5⟩ := hall j o' (by simpa using h)
      exact ⟨d', x', acc', q1, q2, by rwa [show i + 1 + j = i + (j + 1) by omega] at q3, q4, q5⟩
def GI {NN : Nat} (E : Env NN) (base : List (Nat × SV)) (ow : List (Nat × Own)) (full : List (Nat × Nat × SV)) (e : Nat → Bool) (a : Act) (w : World) : Prop :=
  ∃ b, RepB E b ⟨base, ow⟩ a w ∧ ∀ p ∈ full, e p.1 = true → R w (St.excl ⟨base, ow⟩ E b) b p.2.2 (a.tmps.getD p.2.1 undef)
theorem GI.weak {base : List (Nat × SV)} {ow : List (Nat × Own)} {full : List (Nat × Nat × SV)} {e : Nat → Bool} {a : Act} {w : World} {b : Nat → Value} (h : RepB E b ⟨base, ow⟩ a w) (hx : ∀ p ∈ full, e p.1 = true → R w (St.excl ⟨base, ow⟩ E b) b p.2.2 (a.tmps.getD p.2.1 undef))
    {sl : List (Nat × SV)} (hs : ∀ s x, look s sl = some x → look s base = some x ∨ ∃ k, e k = true ∧ (k, s, x) ∈ full) : RepB E b ⟨sl, ow⟩ a w where
  size := h.size
  defers := h.defers
  below := h.below
  slots := fun s x hl => by
    rcases hs s x hl with h1 | ⟨k, h1, h2⟩
    · exact h.slots s x h1
    · exact hx _ h2 h1
  owns := h.owns
  mine := h.mine
  apart := h.apart
  old := h.old
theorem setE_eq (e : Nat → Bool) (i k : Nat) : setE e i k = if k = i then true else e k := by
  simp only [setE]
  by_cases h : k = i
  · subst h; simp
  · have : Nat.beq k i = false := by
      cases hb : Nat.beq k i
      · rfl
      · exact absurd (Nat.eq_of_beq_eq_true hb) h
    rw [this, if_neg h]
def desc (acc : List Nat) : Nat → List Oper → List Nat
  | _, [] => acc
  | i, o :: r => match (depsOf o).any (fun x => mmB x acc) with | true => desc (i :: acc) (i + 1) r | false => desc acc (i + 1) r
theorem desc_sound {l : List Oper} {k : Nat} : ∀ {r : List Oper} {i : Nat} {acc : List Nat}, (∀ j o, r[j]? = some o → l[i + j]? = some o) →
    (∀ q ∈ acc, q = k ∨ ∃ o, l[q]? = some o ∧ ∀ e, Down l e → DepsL e (depsOf o) → e k = true) → ∀ q ∈ desc acc i r, q = k ∨ ∃ o, l[q]? = some o ∧ ∀ e, Down l e → DepsL e (depsOf o) → e k = true
  | [], i, acc, _, h, q, hq => h q hq
  | o :: r, i, acc, hl, h, q, hq => by
    have hl' : ∀ j o', r[j]? = some o' → l[i + 1 + j]? = some o' := fun j o' hj => by have := hl (j + 1) o' (by simpa using hj); rwa [show i + 1 + j = i + (j + 1) by omega]
    simp only [desc] at hq
    split at hq
    · rename_i hany
      refine desc_sound hl' (fun q hq => ?_) q hq
      cases hq with
      | head =>
        have ho := hl 0 o rfl
        rw [Nat.add_zero] at ho
        refine .inr ⟨o, ho, fun e hd hdep => ?_⟩
        obtain ⟨x, hx, hxm⟩ := List.any_eq_true.1 hany
        have hex := hdep.at x hx
        rcases h x (mmB_iff.1 hxm) with h1 | ⟨o2, h1, h2⟩
        · exact h1 ▸ hex
        · have hd2 := hd x hex
          rw [h1] at hd2
          exact h2 e hd hd2
      | tail _ hq => exact h q hq
    · exact desc_sound hl' h q hq
def sepB (n : Nat) (l : List Oper) : Bool := (List.range n).all fun k => (List.range' n (l.length - n)).all fun i => mmB i (desc [k] 0 l)
theorem sepB_sound {n : Nat} {l : List Oper} (h : sepB n l = true) {i : Nat} {o : Oper} (hi : n ≤ i) (ho : l[i]? = some o) {e : Nat → Bool} (hd : Down l e) (hdep : DepsL e (depsOf o)) : ∀ k, k < n → e k = true := fun k hk => by
  simp only [sepB, List.all_eq_true] at h
  have hlt := (List.getElem?_eq_some_iff.1 ho).1
  have h1 := mmB_iff.1 (h k (List.mem_range.2 hk) i (by simp [List.mem_range'_1]; omega))
  rcases desc_sound (l := l) (k := k) (fun j o hj => by simpa using hj) (fun q hq => by cases hq with | head => exact .inl rfl | tail _ hq => cases hq) i h1 with h2 | ⟨o', h2, h3⟩
  · omega
  · rw [ho] at h2
    injection h2 with h2
    subst h2
    exact h3 e hd hdep
theorem c_rs {id : Nat} {l : List Oper} {S : St} {Q : Exit → Act → World → Prop} (n : Nat) (stE : List (Nat × Nat × SV) → (Nat → Bool) → St) (Sf : List (Nat × Nat × SV) → St) (hm : P.follows .mixedOrders = true) (hb : (backB 0 l && noDup (dstsOf l) && sepB n l && Nat.ble n l.length) = true)
    (h : Gs P E l (keepS (dstsOf (l.take n)) S.slots) S.owns [] 0 (l.take n) fun full =>
      (Weak E ⟨allS full ++ keepS (dstsOf (l.take n)) S.slots, S.owns⟩ (stE full fun k => Nat.blt k n) ∧
      (∀ i o, n ≤ i → l[i]? = some o → ∀ e, Down l e → e i = false → DepsL e (depsOf o) → T P E l.toArray [o] (stE full e) fun S' => Weak E S' (stE full (setE e i))) ∧
      (∀ e, (∀ i, i < l.length → e i = true) → Weak E (stE full e) (Sf full)) ∧ ∀ a w, Rep E (Sf full) a w → Q .normal a w)) : C P E (.region id l.toArray true) S Q := by
  rintro a w ⟨b, hr⟩
  simp only [Bool.and_eq_true] at hb
  obtain ⟨⟨⟨hback, hnd⟩, hsep⟩, hnl⟩ := hb
  have hnl := Nat.le_of_ble_eq_true hnl
  obtain ⟨full, ⟨h1, h2, h3, h4⟩, hI, -, hall⟩ := h.all (show IxS l 0 [] from trivial) (fun j o hj => by
    rw [Nat.zero_add]
    rw [List.getElem?_take] at hj
    split at hj
    · exact hj
    · cases hj)
  have hlen : (l.take n).length = n := by rw [List.length_take]; omega
  rw [hlen, Nat.zero_add] at hI
  have hfl : flags (Array.replicate l.toArray.size false) = fun _ => false := by
    funext i
    simp only [flags, Array.getD_eq_getD_getElem?, Array.getElem?_replicate]
    split <;> rfl
  let base := keepS (dstsOf (l.take n)) S.slots
  let I : (Nat → Bool) → Act → World → Prop := fun e a w => ((∀ k, k < n → e k = true) ∧ Rep E (stE full e) a w) ∨ ((∃ k, k < n ∧ e k = false) ∧ (∀ k, n ≤ k → e k = false) ∧ GI E base S.owns full e a w)
  have enter : ∀ e a w, (∀ k, k < n → e k = true) → (∀ k, n ≤ k → e k = false) → GI E base S.owns full e a w → I e a w := by
    intro e a w hA hB ⟨b, hr, hx⟩
    have he : e = fun k => Nat.blt k n := by
      funext k
      by_cases hk : k < n
      · rw [hA k hk]; exact (Nat.ble_eq_true_of_le hk).symm
      · rw [hB k (by omega)]
        cases hbl : Nat.blt k n with
        | false => rfl
        | true => exact absurd (Nat.le_of_ble_eq_true hbl) (by omega)
    refine .inl ⟨hA, b, ?_⟩
    rw [he]
    refine h1 b a w (GI.weak hr hx fun s x hl => ?_)
    rcases look_app hl with hl | hl
    · obtain ⟨k, hk⟩ := look_allS hl
      exact .inr ⟨k, hA k (hI.mem _ hk).1, hk⟩
    · exact .inl hl
  have start : ∀ a w, RepB E b S a w → I (fun _ => false) a w := by
    intro a w hr
    have hg : GI E base S.owns full (fun _ => false) a w := by
      refine ⟨b, ?_, fun p _ h => by cases h⟩
      exact { size := hr.size, defers := hr.defers, below := hr.below, slots := fun s x hl => hr.slots s x (look_keep hl).2, owns := hr.owns, mine := hr.mine, apart := hr.apart, old := hr.old }
    by_cases h0 : n = 0
    · exact enter _ a w (fun k hk => by omega) (fun _ _ => rfl) hg
    · exact .inr ⟨⟨0, by omega, rfl⟩, fun _ _ => rfl, hg⟩
  refine wp_region_any hm ?_
  refine wpAny_inv (I := I) hback ?_ ?_ l.toArray.size _ a _ (by simp) ?_ ?_ ?_
  · intro i o ho e hd hei hdep a w hIe Q2 hQ2
    rcases hIe with ⟨hA, hrep⟩ | ⟨⟨k0, hk0, hek0⟩, hB, b, hr, hx⟩
    · by_cases hin : i < n
      · rw [hA i hin] at hei; cases hei
      · refine h2 i o (by omega) ho e hd hei hdep a w hrep Q2 fun S' a' w' hw' ⟨b', hr'⟩ => hQ2 a' w' (.inl ⟨fun k hk => by rw [setE_eq]; split; rfl; exact hA k hk, b', hw' b' a' w' hr'⟩)
    · have hin : i < n := by
        by_cases hin : i < n
        · exact hin
        · have := sepB_sound hsep (by omega) ho hd hdep k0 hk0
          rw [this] at hek0; cases hek0
      obtain ⟨d, x, acc', q1, q2, q3, q4, q5⟩ := hall i o (by rw [List.getElem?_take, if_pos hin]; exact ho)
      rw [Nat.zero_add] at q3
      have hdk : d ∈ dstsOf (l.take n) := by
        have h5 : (l.take n)[i]? = some o := by rw [List.getElem?_take, if_pos hin]; exact ho
        exact mem_dsts h5 q1
      refine q5 b a w (GI.weak hr hx fun s x hl => ?_) Q2 fun v w' hw hv => hQ2 _ w' ?_
      · rcases look_app hl with hl | hl
        · obtain ⟨k, hk, hm⟩ := look_pick hl
          exact .inr ⟨k, hdep.at k hk, q4 _ hm⟩
        · exact .inl hl
      · have hr2 : RepB E b ⟨base, S.owns⟩ (a.put o.dst v) w' := by
          have hp := (hr.world hw).put (d := d) (x := x) (v := v) q2 hv
          rw [q1]
          exact { size := hp.size, defers := hp.defers, below := hp.below, slots := fun s y hl => hp.slots s y (by
              rw [look_cons, if_neg]
              · exact hl
              · rintro rfl
                exact (look_keep hl).1 hdk), owns := hp.owns, mine := hp.mine, apart := hp.apart, old := hp.old }
        have hg : GI E base S.owns full (setE e i) (a.put o.dst v) w' := by
          refine ⟨b, hr2, fun p hp hep => ?_⟩
          rw [setE_eq] at hep
          by_cases hpi : p.1 = i
          · have := hI.uniq p hp _ q3 hpi
            subst this
            rw [q1]
            have hsz : d < a.tmps.size := by rw [hr.size]; exact q2
            show R w' _ b x ((a.tmps.setIfInBounds d v).getD d undef)
            rw [getD_set _ _ _ _ hsz, if_pos rfl]
            exact hv
          · rw [if_neg hpi] at hep
            have h6 := hx p hp hep
            obtain ⟨_, o', h7, h8⟩ := hI.mem p hp
            have hne : p.2.1 ≠ d := fun hh => hpi (noDup_at hnd p.1 i o' o d h7 ho (hh ▸ h8) q1)
            have hsz : d < a.tmps.size := by rw [hr.size]; exact q2
            rw [q1]
            show R w' _ b p.2.2 ((a.tmps.setIfInBounds d v).getD p.2.1 undef)
            rw [getD_set _ _ _ _ hsz, if_neg hne]
            exact h6.mono (.of_below hw) (fun _ _ hh => hh)
        by_cases hall' : ∀ k, k < n → setE e i k = true
        · exact enter _ _ _ hall' (fun k hk => by rw [setE_eq, if_neg (by omega)]; exact hB k hk) hg
        · refine .inr ⟨?_, fun k hk => by rw [setE_eq, if_neg (by omega)]; exact hB k hk, hg⟩
          obtain ⟨k, hk⟩ := Classical.not_forall.1 hall'
          obtain ⟨hk1, hk2⟩ := Classical.not_imp.1 hk
          exact ⟨k, hk1, by simpa using hk2⟩
  · intro e he a w hIe
    rcases hIe with ⟨_, b, hr⟩ | ⟨⟨k, hk, hek⟩, _⟩
    · exact h4 a w ⟨b, h3 e he b a w hr⟩
    · rw [he k (by omega)] at hek; cases hek
  · simp only [leftN]
    refine Nat.le_trans List.countP_le_length ?_
    simp
  · rw [hfl]
    intro k hk
    cases hk
  · rw [hfl]
    exact start a _ (hr.world (below_drew w))
theorem c_rg0 {id : Nat} {l : List Oper} {S : St} {Q : Exit → Act → World → Prop} (hm : P.follows .mixedOrders = true) (hb : (backB 0 l && noDup (dstsOf l)) = true)
    (h : Gs P E l (keepS (dstsOf l) S.slots) S.owns [] 0 l fun full => ∀ a w, Rep E ⟨allS full ++ keepS (dstsOf l) S.slots, S.owns⟩ a w → Q .normal a w) : C P E (.region id l.toArray true) S Q := by
  have ht : l.take l.length = l := List.take_length
  refine c_rs l.length (fun full _ => ⟨allS full ++ keepS (dstsOf l) S.slots, S.owns⟩) (fun full => ⟨allS full ++ keepS (dstsOf l) S.slots, S.owns⟩) hm ?_ ?_
  · rw [hb, Bool.true_and, Bool.and_eq_true]
    refine ⟨?_, Nat.ble_eq_true_of_le (Nat.le_refl _)⟩
    simp [sepB]
  · rw [ht]
    have : ∀ {r : List Oper} {acc : List (Nat × Nat × SV)} {i : Nat} {base : List (Nat × SV)} {ow : List (Nat × Own)} {K K2 : List (Nat × Nat × SV) → Prop}, (∀ f, K f → K2 f) → Gs P E l base ow acc i r K → Gs P E l base ow acc i r K2 := by
      intro r
      induction r with
      | nil => intro acc i base ow K K2 hk h; exact hk _ h
      | cons o r ih => intro acc i base ow K K2 hk ⟨d, x, q1, q2, q3, q4⟩; exact ⟨d, x, q1, q2, q3, ih hk q4⟩
    refine this (fun full hk => ⟨fun b a w hr => hr, fun i o hi ho => absurd (List.getElem?_eq_some_iff.1 ho).1 (by omega), fun _ _ b a w hr => hr, hk⟩) h
theorem c_rg {id : Nat} {l : List Oper} {S : St} {Q : Exit → Act → World → Prop} (ds : List Nat) (hm : P.follows .mixedOrders = true) (hb : (backB 0 l && noDup (dstsOf l)) = true) (hds : dstsOf l = ds)
    (h : Gs P E l (keepS ds S.slots) S.owns [] 0 l fun full => ∀ a w, Rep E ⟨allS full ++ keepS ds S.slots, S.owns⟩ a w → Q .normal a w) : C P E (.region id l.toArray true) S Q := by
  subst hds
  exact c_rg0 hm hb h
end Go.Eng
namespace Go.Eng
open Go.RowKit
variable {P : Program} {NN : Nat} {E : Env NN}
end Go.Eng
namespace Go.Eng
open Go.RowKit
variable {P : Program} {NN : Nat} {E : Env NN}
end Go.Eng
namespace Go.Eng
open Go.RowKit
variable {P : Program} {NN : Nat} {E : Env NN}
end Go.Eng
namespace Go.Eng
open Go.RowKit
variable {P : Program} {NN : Nat} {E : Env NN} {S : St}
section
variable {α : Type} {cell : α → Nat → SV} {dd : α} {l : List α} {ops : Array Oper} {rest : List Oper} {K : St → Prop} {d : Tmp} {t t2 te : TypeId} {x y : Operand} {ty : TypeId} {pos : String} {after : Array Edge} {j k lo m : Nat} {e : TypeId}
end
end Go.Eng
namespace Go.Eng
abbrev V := @val_tmp
abbrev K := @val_const
abbrev Vg := @val_grd
abbrev Vj := @val_junk
abbrev Vn := @val_nil
abbrev Va := @val_agg
abbrev Vi := @val_aggI
abbrev Vf := @val_func
abbrev VA := @val_A
abbrev O := @tq_op
abbrev Nq := @tq_nil
abbrev Og := @tq_opG
abbrev U := @t_op
abbrev Ug := @t_opG
abbrev Nt := @t_nil
abbrev Uw := @t_w
abbrev UwG := @t_wG
abbrev Gy := @g_yes
abbrev Gn := @g_no
abbrev Gyy := @g_gyes
abbrev Sq := @c_seq
abbrev Rq := @c_rq
abbrev Rqd := @c_rqd
abbrev Rt := @c_rt
abbrev Cd := @c_cond
abbrev Sk := @c_skip
abbrev Rx := @c_ret
abbrev Bo := @c_block
abbrev Ex := @c_exit
abbrev Lo := @c_loop
abbrev Nx := @c_next
abbrev Hg := @c_hereH
abbrev Me := @c_meet
abbrev We := @weakE
abbrev Rl := @row_len
abbrev CtO := @ct_of
abbrev CmO := @ctM_of
abbrev Mv := @q_move
abbrev As := @q_assign
abbrev Lt := @q_lss
abbrev Gt := @q_gtr
abbrev Ge := @q_geq
abbrev Ql := @q_eql
abbrev Qn := @q_neq
abbrev Qo := @q_not
abbrev Qa := @q_and
abbrev Qr := @q_or
abbrev Ad := @q_add
abbrev Sb := @q_sub
abbrev Ln := @q_len
abbrev LnO := @q_lenO
abbrev Ix := @q_idx
abbrev IxN := @q_idxN
abbrev IxO := @q_idxO
abbrev IOn := @q_idxON
abbrev IUn := @q_idxUN
abbrev Fl := @q_fld
abbrev FlB := @q_fldB
abbrev FlO := @q_fldO
abbrev Ld := @q_ld
abbrev LdA := @q_ldA
abbrev LdB := @q_ldB
abbrev LBA := @q_ldBA
abbrev LdO := @q_ldO
abbrev LOA := @q_ldOA
abbrev LdU := @q_ldU
abbrev LUA := @q_ldUA
abbrev Xt := @q_ext
abbrev Bu := @q_build
abbrev CQ := @tq_call
abbrev CQg := @tq_callG
abbrev CT := @t_call
abbrev CTg := @t_callG
abbrev CQv := @tq_callV
abbrev CM := @t_callM
abbrev R1 := @ret1
abbrev R2 := @ret2
abbrev R3 := @ret3
abbrev M1 := @retM1
abbrev RR1 := @retR1
abbrev RR2 := @retR2
abbrev RR3 := @retR3
abbrev Al := @t_alloc
abbrev BxA := @t_boxA
abbrev St1 := @t_st1
abbrev StA := @t_stA
abbrev StO := @t_stO
abbrev Ap := @t_app
abbrev Tt := @t_turn
abbrev Tc := @c_turn
abbrev Tk := @k_turn
abbrev FzC := @c_frz
abbrev FzT := @t_frz
abbrev Ir := @imp_rfl
abbrev In := @imp_nil
abbrev Gq := @og_q
abbrev Gc := @og_call
abbrev Gp := @gs_op
abbrev Gz := @gs_nil
abbrev Rg := @c_rg
theorem Z : True := trivial
end Go.Eng
namespace Go.Eng
end Go.Eng
namespace Go.Eng
open Go.RowKit
variable {P : Program} {NN : Nat} {E : Env NN} {S : St}
theorem q_ixB {x y : Operand} {t : TypeId} {j off k i : Nat} {kk : IntKind} (hx : Val E S x (.bp j off)) (hy : Val E S y (.v (.int kk (i : Int)))) (ht : P.underlying t = some (.array (P.arrayLen t) (P.elem t))) (hs : ∀ w, (sizeOf (P.elem t)).run P w = .ok k w) (h1 : i < P.arrayLen t) :
    OpQ P E S (.indexAddr t x y) (.bp j (off + i * k)) := fun b a w hr dst ty pos after gd => by
  obtain ⟨g, hb, hv⟩ := hx b a w hr
  have h2 : a.eval y = .int kk (i : Int) := hy b a w hr
  refine ⟨.pointer (some ⟨g, off + i * k, none⟩), fun w' hw' => ?_, g, hb, rfl⟩
  have h3 : (0 : Int) ≤ (i : Int) ∧ (i : Int) < (P.arrayLen t : Int) := by omega
  simp [execOp, hv, h2, run_indexAt_array w' t _ kk _ ht, h1, hs, Addr.add_lit]
theorem q_ixE {x y : Operand} {t : TypeId} {n m off k i : Nat} {get : Nat → Nat → SV} {p : Nat} {kk : IntKind} (hx : Val E S x (.el n m get p off)) (hy : Val E S y (.v (.int kk (i : Int)))) (ht : P.underlying t = some (.array (P.arrayLen t) (P.elem t))) (hs : ∀ w, (sizeOf (P.elem t)).run P w = .ok k w) (h1 : i < P.arrayLen t) :
    OpQ P E S (.indexAddr t x y) (.el n m get p (off + i * k)) := fun b a w hr dst ty pos after gd => by
  obtain ⟨hi, g, o, hv, hg, hX, hc⟩ := hx b a w hr
  have h2 : a.eval y = .int kk (i : Int) := hy b a w hr
  refine ⟨.pointer (some ⟨g, o + (p * m + (off + i * k)), none⟩), fun w' hw' => ?_, hi, g, o, rfl, hg, hX, hc⟩
  have h3 : (0 : Int) ≤ (i : Int) ∧ (i : Int) < (P.arrayLen t : Int) := by omega
  simp [execOp, hv, h2, run_indexAt_array w' t _ kk _ ht, h1, hs, Addr.add_lit, Nat.add_assoc]
end Go.Eng
namespace Go.Eng
open Go.RowKit
variable {P : Program} {NN : Nat} {E : Env NN}
theorem mv0 {S : St} : ∀ {xs : List Operand} {ss : List SV}, Vals E S xs ss → MVals E S (rn []) xs ss
  | [], [], _ => trivial
  | _ :: _, _ :: _, h => ⟨fun b a w hr => R_renm.2 (h.1.1 b a w hr), mv0 h.2⟩
  | [], _ :: _, h => h.elim
  | _ :: _, [], h => h.elim
end Go.Eng
namespace Go.Eng
end Go.Eng
namespace Go.Eng
open Go.RowKit
variable {P : Program} {NN : Nat} {E : Env NN} {S : St}
end Go.Eng
namespace Go.Eng
open Go.RowKit
variable {P : Program} {NN : Nat} {E : Env NN}
end Go.Eng
namespace Go.Eng
open Go.RowKit
variable {P : Program} {NN : Nat} {E : Env NN}
def uc8 {α β γ δ ε ζ η θ κ : Type _} (f : α → β → γ → δ → ε → ζ → η → θ → κ) (p : α × β × γ × δ × ε × ζ × η × θ) : κ := f p.1 p.2.1 p.2.2.1 p.2.2.2.1 p.2.2.2.2.1 p.2.2.2.2.2.1 p.2.2.2.2.2.2.1 p.2.2.2.2.2.2.2
def uc9 {α β γ δ ε ζ η θ κ ι : Type _} (f : α → β → γ → δ → ε → ζ → η → θ → κ → ι) (p : α × β × γ × δ × ε × ζ × η × θ × κ) : ι := f p.1 p.2.1 p.2.2.1 p.2.2.2.1 p.2.2.2.2.1 p.2.2.2.2.2.1 p.2.2.2.2.2.2.1 p.2.2.2.2.2.2.2.1 p.2.2.2.2.2.2.2.2
end Go.Eng
namespace Go.Proofs.Ytghkpailmdlhgaa
open Go.RowKit Go.Eng
theorem ts24 : Try.prog.underlying 24 = some (.slice (Try.prog.elem 24)) := by kernel_rfl
theorem te24 : ∀ w, (sizeOf (Try.prog.elem 24)).run Try.prog w = .ok 1 w := fun w => by kernel_rfl
theorem ts33 : Try.prog.underlying 33 = some (.slice (Try.prog.elem 33)) := by kernel_rfl
theorem te33 : ∀ w, (sizeOf (Try.prog.elem 33)).run Try.prog w = .ok 2 w := fun w => by kernel_rfl
theorem ts59 : Try.prog.underlying 59 = some (.slice (Try.prog.elem 59)) := by kernel_rfl
theorem te59 : ∀ w, (sizeOf (Try.prog.elem 59)).run Try.prog w = .ok 1 w := fun w => by kernel_rfl
theorem ts60 : Try.prog.underlying 60 = some (.slice (Try.prog.elem 60)) := by kernel_rfl
theorem te60 : ∀ w, (sizeOf (Try.prog.elem 60)).run Try.prog w = .ok 5 w := fun w => by kernel_rfl
theorem en17 : Enters Try.prog 17 := fun args w => by kernel_rfl
theorem en24 : Enters Try.prog 24 := fun args w => by kernel_rfl
theorem en26 : Enters Try.prog 26 := fun args w => by kernel_rfl
theorem en27 : Enters Try.prog 27 := fun args w => by kernel_rfl
theorem en28 : Enters Try.prog 28 := fun args w => by kernel_rfl
theorem en29 : Enters Try.prog 29 := fun args w => by kernel_rfl
theorem en38 : Enters Try.prog 38 := fun args w => by kernel_rfl
theorem en49 : Enters Try.prog 49 := fun args w => by kernel_rfl
theorem en50 : Enters Try.prog 50 := fun args w => by kernel_rfl
theorem en51 : Enters Try.prog 51 := fun args w => by kernel_rfl
theorem en52 : Enters Try.prog 52 := fun args w => by kernel_rfl
theorem en53 : Enters Try.prog 53 := fun args w => by kernel_rfl
theorem en54 : Enters Try.prog 54 := fun args w => by kernel_rfl
theorem en55 : Enters Try.prog 55 := fun args w => by kernel_rfl
theorem en66 : Enters Try.prog 66 := fun args w => by kernel_rfl
theorem en67 : Enters Try.prog 67 := fun args w => by kernel_rfl
theorem en74 : Enters Try.prog 74 := fun args w => by kernel_rfl
theorem en75 : Enters Try.prog 75 := fun args w => by kernel_rfl
theorem en87 : Enters Try.prog 87 := fun args w => by kernel_rfl
theorem en88 : Enters Try.prog 88 := fun args w => by kernel_rfl
theorem en89 : Enters Try.prog 89 := fun args w => by kernel_rfl
theorem en94 : Enters Try.prog 94 := fun args w => by kernel_rfl
theorem laid : laidOutB Try.prog = true := by kernel_rfl
theorem ownk : ownKnob Try.prog.godebug = none := by kernel_rfl
theorem co3 : Try.prog.cellsOf 3 = 1 := by kernel_rfl
theorem zero3 : ZeroOk Try.prog 3 1 (fun _ => SV.v (.int .i64 0)) := zero_one Try.zeroValue3 rfl rfl
theorem eo24 : ElemOk Try.prog 24 3 1 8 := ⟨Try.underlying24, by
  have h : (Try.prog.info? 3).map (fun i => (i.size, i.bytes, i.zero.map fun z => z.cells.size)) = some (1, 8, some 1) := by kernel_rfl
  exact info_of h, by decide⟩
theorem rd24 : Try.prog.readableRec 24 = true ∧ 24 < Try.prog.types.size := ⟨by kernel_rfl, of_decide_eq_true (by kernel_rfl)⟩
theorem eo33 : ElemOk Try.prog 33 43 2 32 := ⟨Try.underlying33, by
  have h : (Try.prog.info? 43).map (fun i => (i.size, i.bytes, i.zero.map fun z => z.cells.size)) = some (2, 32, some 2) := by kernel_rfl
  exact info_of h, by decide⟩
theorem co35 : Try.prog.cellsOf 35 = 1 := by kernel_rfl
theorem co43 : Try.prog.cellsOf 43 = 2 := by kernel_rfl
theorem eo59 : ElemOk Try.prog 59 35 1 24 := ⟨Try.underlying59, by
  have h : (Try.prog.info? 35).map (fun i => (i.size, i.bytes, i.zero.map fun z => z.cells.size)) = some (1, 24, some 1) := by kernel_rfl
  exact info_of h, by decide⟩
theorem rd59 : Try.prog.readableRec 59 = true ∧ 59 < Try.prog.types.size := ⟨by kernel_rfl, of_decide_eq_true (by kernel_rfl)⟩
theorem eo60 : ElemOk Try.prog 60 71 5 56 := ⟨Try.underlying60, by
  have h : (Try.prog.info? 71).map (fun i => (i.size, i.bytes, i.zero.map fun z => z.cells.size)) = some (5, 56, some 5) := by kernel_rfl
  exact info_of h, by decide⟩
theorem build35 : ∀ (w : World) (parts : List (Nat × Value)) (z : Value) (cs : Array Value), (zeroValue 35).run Try.prog w = .ok z w → Instr.fill (fun i => if i < 1 then some (i, 1) else none) z.cells parts = some cs → (∀ p ∈ parts, p.1 < 1) → (Instr.build 35 parts.toArray).run Try.prog w = .ok (.agg cs) w :=
  build_struct Try.underlying35 (fun w => by simp [Try.sizeOf33]; rfl)
theorem build43 : ∀ (w : World) (parts : List (Nat × Value)) (z : Value) (cs : Array Value), (zeroValue 43).run Try.prog w = .ok z w → Instr.fill (fun i => if i < 2 then some (i, 1) else none) z.cells parts = some cs → (∀ p ∈ parts, p.1 < 2) → (Instr.build 43 parts.toArray).run Try.prog w = .ok (.agg cs) w :=
  build_struct Try.underlying43 (fun w => by simp [Try.sizeOf3, Try.sizeOf24]; rfl)
theorem build64 : ∀ (w : World) (parts : List (Nat × Value)) (z : Value) (cs : Array Value), (zeroValue 64).run Try.prog w = .ok z w → Instr.fill (fun i => if i < 2 then some (i, 1) else none) z.cells parts = some cs → (∀ p ∈ parts, p.1 < 2) → (Instr.build 64 parts.toArray).run Try.prog w = .ok (.agg cs) w :=
  build_array Try.underlying64 (fun w => Try.sizeOf3 w)
theorem build71 : ∀ (w : World) (parts : List (Nat × Value)) (z : Value) (cs : Array Value), (zeroValue 71).run Try.prog w = .ok z w → Instr.fill (fun i => if i < 5 then some (i, 1) else none) z.cells parts = some cs → (∀ p ∈ parts, p.1 < 5) → (Instr.build 71 parts.toArray).run Try.prog w = .ok (.agg cs) w :=
  build_struct Try.underlying71 (fun w => by simp [Try.sizeOf3, Try.sizeOf4, Try.sizeOf59]; rfl)
abbrev Ga3 := fun w => @Try.isAgg3 w
abbrev Ga4 := fun w => @Try.isAgg4 w
abbrev Ga24 := fun w => @Try.isAgg24 w
abbrev Ga33 := fun w => @Try.isAgg33 w
abbrev Ga35 := fun w => @Try.isAgg35 w
abbrev Ga43 := fun w => @Try.isAgg43 w
abbrev Ga59 := fun w => @Try.isAgg59 w
abbrev Ga71 := fun w => @Try.isAgg71 w
abbrev Sz3 := fun w => @Try.sizeOf3 w
abbrev Sz4 := fun w => @Try.sizeOf4 w
abbrev Sz24 := fun w => @Try.sizeOf24 w
abbrev Sz33 := fun w => @Try.sizeOf33 w
abbrev Sz35 := fun w => @Try.sizeOf35 w
abbrev Sz43 := fun w => @Try.sizeOf43 w
abbrev Sz59 := fun w => @Try.sizeOf59 w
abbrev Sz64 := fun w => @Try.sizeOf64 w
abbrev Sz71 := fun w => @Try.sizeOf71 w
abbrev Un3 := @Try.underlying3
abbrev Un4 := @Try.underlying4
abbrev Un24 := @Try.underlying24
abbrev Un33 := @Try.underlying33
abbrev Un35 := @Try.underlying35
abbrev Un43 := @Try.underlying43
abbrev Un59 := @Try.underlying59
abbrev Un60 := @Try.underlying60
abbrev Un71 := @Try.underlying71
abbrev Un78 := @Try.underlying78
end Go.Proofs.Ytghkpailmdlhgaa
namespace Go.Proofs.Ytghkpailmdlhgaa
open Go.RowKit Go.Eng
def inCell (x : Int) (_ : Nat) : SV := iv x
def inRow (l : List Int) : SV := rowOf inCell 1 0 l
theorem opens24 : Opens Try.prog 24 1 (fun l : List Int => l.length ≤ maxLen ∧ ∀ x ∈ l, okInt x) fun l _ => inRow l := opens_slice 0 Try.underlying24 (opens_int Try.underlying3) co3 (by decide)
def firstErr (f : Nat → Int) : Nat → Nat → Int
  | _, 0 => 0
  | i, n + 1 => if f i ≠ 0 then f i else firstErr f (i + 1) n
theorem firstErr_step {f : Nat → Int} {i n : Nat} (h : i < n) : firstErr f i (n - i) = if f i ≠ 0 then f i else firstErr f (i + 1) (n - (i + 1)) := by
  have e : n - i = (n - (i + 1)) + 1 := by omega
  rw [e]; rfl
end Go.Proofs.Ytghkpailmdlhgaa
namespace Go.Proofs.Ytghkpailmdlhgaa
open Go.RowKit Go.Eng
theorem firstErr_hit {f : Nat → Int} {i n : Nat} {r e : Int} (hi : i < n) (h : r = firstErr f i (n - i)) (he : f i = e) (h0 : e ≠ 0) : r = e := by
  rw [h, firstErr_step hi, if_pos (by rw [he]; exact h0), he]
theorem firstErr_next {f : Nat → Int} {i n : Nat} {r : Int} (hi : i < n) (h : r = firstErr f i (n - i)) (he : f i = 0) : r = firstErr f (i + 1) (n - (i + 1)) := by
  rw [h, firstErr_step hi, if_neg (by rw [he]; simp)]
theorem firstErr_end {f : Nat → Int} {i n : Nat} {r : Int} (hi : n ≤ i) (h : r = firstErr f i (n - i)) : r = 0 := by
  rw [h, Nat.sub_eq_zero_of_le hi]; rfl
end Go.Proofs.Ytghkpailmdlhgaa
namespace Go.Proofs.Ytghkpailmdlhgaa
open Go.RowKit Go.Eng
def samePre {α : Type} [Inhabited α] (d : α) (l m : List α) (i : Nat) : Prop := l.length = m.length ∧ ∀ j, j < i → l.getD j d = m.getD j d
theorem samePre_0 {α : Type} [Inhabited α] {d : α} {l m : List α} (h : l.length = m.length) : samePre d l m 0 := ⟨h, fun _ h => absurd h (Nat.not_lt_zero _)⟩
theorem samePre_s {α : Type} [Inhabited α] {d : α} {l m : List α} {i : Nat} (h : samePre d l m i) (e : l.getD i d = m.getD i d) : samePre d l m (i + 1) :=
  ⟨h.1, fun j hj => by
    by_cases q : j < i
    · exact h.2 j q
    · have : j = i := by omega
      subst this; exact e⟩
theorem samePre_eq {α : Type} [Inhabited α] {d : α} {l m : List α} {i : Nat} (h : samePre d l m i) (hi : l.length ≤ i) : l = m := by
  refine List.ext_getElem h.1 fun j h1 h2 => ?_
  have := h.2 j (by omega)
  simpa [List.getD_eq_getElem?_getD, h1, h2] using this
theorem samePre_ne {α : Type} [Inhabited α] {d : α} {l m : List α} {i : Nat} (h : l.getD i d ≠ m.getD i d) : l ≠ m := fun e => h (by rw [e])
def eqInt (l m : List Int) : Bool := decide (l = m)
end Go.Proofs.Ytghkpailmdlhgaa
namespace Go.Proofs.Ytghkpailmdlhgaa
end Go.Proofs.Ytghkpailmdlhgaa
namespace Go.Proofs.Ytghkpailmdlhgaa
open Go.RowKit Go.Eng
def arrG (l : List Int) : Nat → SV := fun t => iv (l.getD t 0)
theorem zero64 : ZeroOk Try.prog 64 2 (arrG [0, 0]) := ⟨_, Try.zeroValue64, rfl, fun t ht => match t, ht with
  | 0, _ => ⟨_, rfl, rfl, fun _ _ => rfl⟩
  | 1, _ => ⟨_, rfl, rfl, fun _ _ => rfl⟩⟩
def inI (x lo hi : Int) : Bool := decide (lo ≤ x) && decide (x ≤ hi)
theorem foldl_take_s {α β : Type} (f : β → α → β) (b : β) (d : α) (l : List α) (i : Nat) (h : i < l.length) : (l.take (i + 1)).foldl f b = f ((l.take i).foldl f b) (l.getD i d) := by
  rw [List.take_add_one, List.foldl_append]
  simp [List.getElem?_eq_getElem h, List.getD_eq_getElem?_getD]
theorem firstErr_all {f : Nat → Int} : ∀ (n i : Nat), firstErr f i n = 0 → ∀ j, i ≤ j → j < i + n → f j = 0
  | 0, _, _, _, h1, h2 => by omega
  | n + 1, i, h, j, h1, h2 => by
    simp only [firstErr] at h
    by_cases q : f i ≠ 0
    · rw [if_pos q] at h; exact absurd h q
    · rw [if_neg q] at h
      by_cases e : j = i
      · subst e; simpa using q
      · exact firstErr_all n (i + 1) h j (by omega) (by omega)
end Go.Proofs.Ytghkpailmdlhgaa
namespace Go.Proofs.Ytghkpailmdlhgaa
open Go.RowKit Go.Eng
end Go.Proofs.Ytghkpailmdlhgaa
namespace Go.Proofs.Ytghkpailmdlhgaa
open Go.RowKit Go.Eng
end Go.Proofs.Ytghkpailmdlhgaa
namespace Go.Proofs.Ytghkpailmdlhgaa
open Go.RowKit Go.Eng
end Go.Proofs.Ytghkpailmdlhgaa
namespace Go.Proofs.Ytghkpailmdlhgaa
open Go.RowKit Go.Eng
end Go.Proofs.Ytghkpailmdlhgaa
namespace Go.Proofs.Ytghkpailmdlhgaa
open Go.RowKit Go.Eng
theorem getD_lt {α : Type} {l : List α} {d : α} {i : Nat} (h : i < l.length) : l.getD i d = l[i] := by simp [List.getD_eq_getElem?_getD, h]
theorem ext_getD {α : Type} {l m : List α} (d : α) (h : l.length = m.length) (he : ∀ i, i < l.length → l.getD i d = m.getD i d) : l = m := by
  refine List.ext_getElem h fun i h1 h2 => ?_
  have := he i h1
  rwa [getD_lt h1, getD_lt h2] at this
end Go.Proofs.Ytghkpailmdlhgaa
namespace Go.Proofs.Ytghkpailmdlhgaa
open Go.RowKit Go.Eng
end Go.Proofs.Ytghkpailmdlhgaa
namespace Go.Proofs.Ytghkpailmdlhgaa
end Go.Proofs.Ytghkpailmdlhgaa
namespace Go.Proofs.Ytghkpailmdlhgaa
end Go.Proofs.Ytghkpailmdlhgaa
namespace Go.Proofs.Ytghkpailmdlhgaa
open Go.RowKit Go.Eng
end Go.Proofs.Ytghkpailmdlhgaa
namespace Go.Proofs.Ytghkpailmdlhgaa
open Go.RowKit Go.Eng
theorem equal_ct (l m : List Int) : Ct Try.prog 17 [inRow l, inRow m] (bv (eqInt l m)) := by
 refine CtO 26 Try.func17 rfl rfl rfl fun E => Rl (V (s := 0) rfl) fun hl0 => Rl (V (s := 1) rfl) fun hl1 => Sq <| Rq <| O (As K) <| Nq <| Sq <| Sq <| Rq <| O (Mv (V rfl)) <| O (Ln (V rfl) ts24) <| O (Mv (V rfl)) <| O (Ln (V rfl) ts24) <| O (Qn (V rfl) (V rfl)) <| Nq <| Cd (V rfl) (fun hc1 => ?_) (fun hc1 => ?_)
 ·have hc1s := hc1; try simp only [BL] at hc1s
  exact Sq <| Rq <| O (As K) <| Nq <| Rx <| R1 rfl (V rfl) rfl (by show bv (false) = bv (eqInt l m); rw [eqInt, decide_eq_false (fun h => by rw [h] at hc1s; simp at hc1s)])
 ·have hc1s := hc1; try simp only [BL] at hc1s
  refine Sk <| Sq <| Sq <| Rq <| O (Mv (V rfl)) <| O (Ln (V rfl) ts24) <| O (Mv K) <| Nq <| Bo <| Lo (fun (i : Nat) => ⟨[(0, inRow l), (1, inRow m), (12, iv ((l.length : Int))), (13, iv ((i : Int)))], []⟩) (fun (i : Nat) => i ≤ l.length ∧ samePre 0 l m i) (fun (i : Nat) => l.length - i) 0 (by show 0 ≤ l.length ∧ samePre 0 l m 0; exact ⟨Nat.zero_le _, samePre_0 (by omega)⟩) (We (Vs rfl) Z) <| ?_
  ·rintro i hI1
   have hJ1 : i ≤ l.length ∧ samePre 0 l m i := hI1
   have hlm := hJ1.2.1
   refine Sq <| Rq <| O (Lt (V rfl) (V rfl)) <| Nq <| Sq <| Cd (V rfl) (fun hc2 => ?_) (fun hc2 => ?_)
   ·have hc2s := hc2; try simp only [BL] at hc2s
    refine Sk <| Sq <| Bo <| Sq <| Rq <| O (Mv (V rfl)) <| O (As (V rfl)) <| Nq <| Sq <| Rqd (by kernel_rfl) (by kernel_rfl) <| O (Mv (V rfl)) <| O (Mv (V rfl)) <| O (IxN (i := i) (V rfl) (V rfl) ts24 te24 (by omega)) <| O (Ld (V rfl) Ga3 (by decide)) <| O (Mv (V rfl)) <| O (Mv (V rfl)) <| O (IxN (i := i) (V rfl) (V rfl) ts24 te24 (by omega)) <| O (Ld (V rfl) Ga3 (by decide)) <| O (Qn (V rfl) (V rfl)) <| Nq <| Cd (V rfl) (fun hc3 => ?_) (fun hc3 => ?_)
    ·have hc3s := hc3; try simp only [BL] at hc3s
     exact Sq <| Rq <| O (As K) <| Nq <| Rx <| R1 rfl (V rfl) rfl (by show bv (false) = bv (eqInt l m); rw [eqInt, decide_eq_false (samePre_ne (i := i) (d := 0) (by simpa using hc3))])
    ·have hc3s := hc3; try simp only [BL] at hc3s
     exact Sk <| Rq <| O (Ad (V rfl) K (by omega)) <| O (Mv (V rfl)) <| Nq <| Nx (i + 1) (by show (i + 1) ≤ l.length ∧ samePre 0 l m (i + 1); exact ⟨by omega, samePre_s hJ1.2 (by simpa using hc3)⟩) (by show l.length - (i + 1) < l.length - i; omega) (We (Vs rfl) Z)
   ·have hc2s := hc2; try simp only [BL] at hc2s
    exact Ex <| Sq <| Rq <| O (As K) <| Nq <| Rx <| R1 rfl (V rfl) rfl (by show bv (true) = bv (eqInt l m); rw [eqInt, decide_eq_true (samePre_eq hJ1.2 (by omega))])
end Go.Proofs.Ytghkpailmdlhgaa
namespace Go.Proofs.Ytghkpailmdlhgaa
open Go.RowKit Go.Eng
structure Cl where
  n : Int
  kids : List Int
  deriving DecidableEq, Inhabited
def clCell (c : Cl) : Nat → SV
  | 0 => iv c.n
  | _ => inRow c.kids
def clRow (l : List Cl) : SV := rowOf clCell 2 default l
def grG (l : List Cl) : Nat → SV := fun _ => clRow l
def cmpG (l : List SV) : Nat → SV := fun t => l.getD t .junk
def okCl (c : Cl) : Prop := okInt c.n ∧ c.kids.length ≤ maxLen ∧ ∀ x ∈ c.kids, okInt x
theorem opens43 : Opens Try.prog 43 2 okCl clCell := fun enc w base spare held fuel cs x h hlt hwt => by
  obtain ⟨hl, hf⟩ := struct_at Try.underlying43 (by kernel_rfl) (by kernel_rfl) h hlt hwt
  obtain ⟨x0, o0, u0, hu0, p0, r0⟩ := hf 0 _ rfl (opens_int Try.underlying3)
  obtain ⟨x1, o1, u1, hu1, p1, r1⟩ := hf 1 _ rfl opens24
  refine ⟨hl, ⟨x0, x1⟩, ⟨o0, o1⟩, fun i hi => ?_⟩
  match i, hi with
  | 0, _ => exact ⟨_, hu0, p0, r0⟩
  | 1, _ => exact ⟨_, hu1, p1, r1⟩
theorem opens33 : Opens Try.prog 33 1 (fun l : List Cl => l.length ≤ maxLen ∧ ∀ x ∈ l, okCl x) fun l _ => clRow l := opens_slice default Try.underlying33 opens43 co43 (by decide)
theorem opens35 : Opens Try.prog 35 1 (fun l : List Cl => l.length ≤ maxLen ∧ ∀ x ∈ l, okCl x) grG := fun enc w base spare held fuel cs x h hlt hwt => by
  obtain ⟨hl, hf⟩ := struct_at Try.underlying35 (by kernel_rfl) (by kernel_rfl) h hlt hwt
  obtain ⟨x0, o0, u0, hu0, p0, r0⟩ := hf 0 _ rfl opens33
  refine ⟨hl, x0, o0, fun i hi => ?_⟩
  match i, hi with
  | 0, _ => exact ⟨_, hu0, p0, r0⟩
theorem zero43 : ZeroOk Try.prog 43 2 (cmpG [iv 0, .v (.slice none 0 0)]) := by
  refine ⟨_, Try.zeroValue43, rfl, fun t ht => ?_⟩
  match t, ht with
  | 0, _ => exact ⟨_, rfl, rfl, fun _ _ => rfl⟩
  | 1, _ => exact ⟨_, rfl, rfl, fun _ _ => rfl⟩
theorem zero35 : ZeroOk Try.prog 35 1 (cmpG [.v (.slice none 0 0)]) := by
  refine ⟨_, Try.zeroValue35, rfl, fun t ht => ?_⟩
  match t, ht with
  | 0, _ => exact ⟨_, rfl, rfl, fun _ _ => rfl⟩
def kidErr (n : Nat) (ks : List Int) (j : Nat) : Int := if (decide (ks.getD j 0 < 0) || decide ((n : Int) ≤ ks.getD j 0)) = true then 4 else 0
def clErr (g : List Cl) (i : Nat) : Int :=
  if (decide ((g.getD i default).n < -1000000) || decide (1000000 < (g.getD i default).n)) = true then 2 else if 8 < (g.getD i default).kids.length then 1 else firstErr (kidErr g.length (g.getD i default).kids) 0 (g.getD i default).kids.length
def checkGr (g : List Cl) : Int := if 24 < g.length then 1 else firstErr (clErr g) 0 g.length
theorem checkGr_1 {g : List Cl} (h : 24 < (g.length : Int)) : checkGr g = 1 := by unfold checkGr; rw [if_pos (by omega)]
theorem checkGr_s {g : List Cl} (h : ¬ 24 < (g.length : Int)) : checkGr g = firstErr (clErr g) 0 (g.length - 0) := by unfold checkGr; rw [if_neg (by omega)]; rfl
theorem clErr_2 {g : List Cl} {i : Nat} (h : (decide ((g.getD i default).n < -1000000) || decide (1000000 < (g.getD i default).n)) = true) : clErr g i = 2 := by unfold clErr; rw [if_pos h]
theorem clErr_1 {g : List Cl} {i : Nat} (h : (decide ((g.getD i default).n < -1000000) || decide (1000000 < (g.getD i default).n)) = false) (h1 : 8 < ((g.getD i default).kids.length : Int)) : clErr g i = 1 := by unfold clErr; rw [if_neg (ff h), if_pos (by omega)]
theorem clErr_s {g : List Cl} {i : Nat} (h : (decide ((g.getD i default).n < -1000000) || decide (1000000 < (g.getD i default).n)) = false) (h1 : ¬ 8 < ((g.getD i default).kids.length : Int)) : clErr g i = firstErr (kidErr g.length (g.getD i default).kids) 0 ((g.getD i default).kids.length - 0) := by
  unfold clErr; rw [if_neg (ff h), if_neg (by omega)]; rfl
theorem kidErr_4 {n : Nat} {ks : List Int} {j : Nat} (h : (decide (ks.getD j 0 < 0) || decide ((n : Int) ≤ ks.getD j 0)) = true) : kidErr n ks j = 4 := by unfold kidErr; rw [if_pos h]
theorem kidErr_0 {n : Nat} {ks : List Int} {j : Nat} (h : (decide (ks.getD j 0 < 0) || decide ((n : Int) ≤ ks.getD j 0)) = false) : kidErr n ks j = 0 := by unfold kidErr; rw [if_neg (ff h)]
theorem checkGr_len {g : List Cl} (h : checkGr g = 0) : g.length ≤ 24 := by
  unfold checkGr at h
  split at h
  · cases h
  · omega
theorem checkGr_at {g : List Cl} (h : checkGr g = 0) {i : Nat} (hi : i < g.length) : clErr g i = 0 := by
  unfold checkGr at h
  split at h
  · cases h
  · exact firstErr_all _ _ h i (Nat.zero_le _) (by omega)
theorem cl_parts {g : List Cl} (h : checkGr g = 0) {i : Nat} (hi : i < g.length) : (-1000000 ≤ (g.getD i default).n ∧ (g.getD i default).n ≤ 1000000) ∧ (g.getD i default).kids.length ≤ 8 ∧ ∀ k ∈ (g.getD i default).kids, 0 ≤ k ∧ k < (g.length : Int) := by
  have h1 := checkGr_at h hi
  unfold clErr at h1
  split at h1
  · cases h1
  · rename_i h2
    split at h1
    · cases h1
    · rename_i h3
      simp only [Bool.or_eq_true, decide_eq_true_eq, not_or] at h2
      refine ⟨by omega, by omega, fun k hk => ?_⟩
      obtain ⟨j, hj, rfl⟩ := List.mem_iff_getElem.1 hk
      have h4 := firstErr_all _ _ h1 j (Nat.zero_le _) (by omega)
      unfold kidErr at h4
      split at h4
      · cases h4
      · rename_i h5
        rw [getD_lt hj] at h5
        simp only [Bool.or_eq_true, decide_eq_true_eq, not_or] at h5
        omega
def addKid (o : List Int) (k : Int) : List Int := if k ∈ o then o else o ++ [k]
def addKids (o ks : List Int) : List Int := ks.foldl addKid o
def kidsAt (g : List Cl) (o : List Int) (i : Nat) : List Int := (g.getD (o.getD i 0).toNat default).kids
def bfsAt (g : List Cl) : Nat → List Int
  | 0 => [0]
  | i + 1 => if i < (bfsAt g i).length then addKids (bfsAt g i) (kidsAt g (bfsAt g i) i) else bfsAt g i
def bfs (g : List Cl) : List Int := bfsAt g g.length
def idx (o : List Int) (k : Int) : Int := ((o.idxOf k : Nat) : Int)
def cpCell (g : List Cl) (o : List Int) (k : Int) : Cl := ⟨(g.getD k.toNat default).n, (g.getD k.toNat default).kids.map (idx o)⟩
def copyGr (g : List Cl) : List Cl := if g = [] then [] else (bfs g).map (cpCell g (bfs g))
def copyR (g : List Cl) : List Cl × Int := if checkGr g ≠ 0 then ([], checkGr g) else (copyGr g, 0)
theorem copyR_e {g : List Cl} (h : ¬ checkGr g = 0) : copyR g = ([], checkGr g) := by unfold copyR; rw [if_pos h]
theorem copyR_o {g : List Cl} (h : checkGr g = 0) : copyR g = (copyGr g, 0) := by unfold copyR; rw [if_neg (not_not_intro h)]
def good (n : Nat) (o : List Int) : Prop := o.Nodup ∧ ∀ k ∈ o, 0 ≤ k ∧ k < (n : Int)
theorem addKid_pre (o : List Int) (k : Int) : o <+: addKid o k := by
  unfold addKid; split
  · exact List.prefix_rfl
  · exact List.prefix_append _ _
theorem addKid_mem (o : List Int) (k : Int) : k ∈ addKid o k := by
  unfold addKid; split
  · assumption
  · simp
theorem addKids_pre : ∀ (ks o : List Int), o <+: addKids o ks
  | [], o => List.prefix_rfl
  | k :: ks, o => (addKid_pre o k).trans (addKids_pre ks (addKid o k))
theorem addKids_mem : ∀ (ks o : List Int), ∀ k ∈ ks, k ∈ addKids o ks
  | k :: ks, o, x, hx => by
    rcases List.mem_cons.1 hx with rfl | hx
    · exact (addKids_pre ks (addKid o x)).subset (addKid_mem o x)
    · exact addKids_mem ks (addKid o k) x hx
theorem addKid_good {n : Nat} {o : List Int} {k : Int} (h : good n o) (hk : 0 ≤ k ∧ k < (n : Int)) : good n (addKid o k) := by
  unfold addKid; split
  · exact h
  · rename_i hm
    refine ⟨List.nodup_append.2 ⟨h.1, by simp, fun a ha b hb => ?_⟩, fun x hx => ?_⟩
    · have : b = k := by simpa using hb
      subst this
      exact fun e => hm (e ▸ ha)
    · rcases List.mem_append.1 hx with hx | hx
      · exact h.2 x hx
      · have : x = k := by simpa using hx
        subst this; exact hk
theorem addKids_good {n : Nat} : ∀ {ks o : List Int}, good n o → (∀ k ∈ ks, 0 ≤ k ∧ k < (n : Int)) → good n (addKids o ks)
  | [], o, h, _ => h
  | k :: ks, o, h, hk => addKids_good (ks := ks) (addKid_good h (hk k (.head _))) fun x hx => hk x (.tail _ hx)
theorem nodup_bound : ∀ (n : Nat) (l : List Int), l.Nodup → (∀ k ∈ l, 0 ≤ k ∧ k < (n : Int)) → l.length ≤ n
  | 0, l, _, h => by
    cases l with
    | nil => simp
    | cons x r => have := h x (.head _); omega
  | n + 1, l, hd, h => by
    have h1 := nodup_bound n (l.erase (n : Int)) (hd.erase _) fun k hk => by
      have := (List.Nodup.mem_erase_iff hd).1 hk
      have := h k this.2
      omega
    have h2 := List.length_erase (a := (n : Int)) (l := l)
    split at h2 <;> omega
theorem good_len {n : Nat} {o : List Int} (h : good n o) : o.length ≤ n := nodup_bound n o h.1 h.2
theorem kidsAt_in {g : List Cl} (hc : checkGr g = 0) {o : List Int} (h : good g.length o) {i : Nat} (hi : i < o.length) : (kidsAt g o i).length ≤ 8 ∧ ∀ k ∈ kidsAt g o i, 0 ≤ k ∧ k < (g.length : Int) := by
  have hm : o.getD i 0 ∈ o := by rw [getD_lt hi]; exact List.getElem_mem _
  have := h.2 _ hm
  exact (cl_parts hc (i := (o.getD i 0).toNat) (by omega)).2
theorem bfsAt_good {g : List Cl} (hc : checkGr g = 0) (h0 : g ≠ []) : ∀ i, good g.length (bfsAt g i)
  | 0 => ⟨by simp [bfsAt], fun k hk => by
      have : k = 0 := by simpa [bfsAt] using hk
      have : 0 < g.length := List.length_pos_iff.2 h0
      omega⟩
  | i + 1 => by
    have ih := bfsAt_good hc h0 i
    rw [bfsAt]
    split
    · rename_i hi
      exact addKids_good ih (kidsAt_in hc ih hi).2
    · exact ih
theorem bfsAt_pre (g : List Cl) (i : Nat) : bfsAt g i <+: bfsAt g (i + 1) := by
  rw [bfsAt]; split
  · exact addKids_pre _ _
  · exact List.prefix_rfl
theorem bfsAt_le (g : List Cl) {i j : Nat} (h : i ≤ j) : bfsAt g i <+: bfsAt g j := by
  obtain ⟨d, rfl⟩ := Nat.exists_eq_add_of_le h
  clear h
  induction d with
  | zero => exact List.prefix_rfl
  | succ d ih => exact ih.trans (bfsAt_pre g (i + d))
theorem bfs_stop {g : List Cl} {i : Nat} (h : (bfsAt g i).length ≤ i) : ∀ d, bfsAt g (i + d) = bfsAt g i
  | 0 => rfl
  | d + 1 => by
    have ih := bfs_stop h d
    rw [← Nat.add_assoc, bfsAt, if_neg (by rw [ih]; omega), ih]
theorem bfs_eq {g : List Cl} {i : Nat} (h : (bfsAt g i).length ≤ i) (hi : i ≤ g.length) : bfs g = bfsAt g i := by
  unfold bfs
  obtain ⟨d, hd⟩ := Nat.exists_eq_add_of_le hi
  rw [hd]; exact bfs_stop h d
theorem pre_getD {o o' : List Int} (h : o <+: o') {i : Nat} (hi : i < o.length) : o'.getD i 0 = o.getD i 0 := by
  obtain ⟨t, rfl⟩ := h
  rw [getD_app, if_pos hi]
theorem kidsAt_pre (g : List Cl) {o o' : List Int} (h : o <+: o') {i : Nat} (hi : i < o.length) : kidsAt g o' i = kidsAt g o i := by unfold kidsAt; rw [pre_getD h hi]
theorem bfsAt_closed (g : List Cl) : ∀ i, ∀ j, j < i → j < (bfsAt g i).length → ∀ k ∈ kidsAt g (bfsAt g i) j, k ∈ bfsAt g i
  | i + 1, j, hj, hl, k, hk => by
    have hp := bfsAt_pre g i
    by_cases hlen : j < (bfsAt g i).length
    · rw [kidsAt_pre g hp hlen] at hk
      by_cases e : j < i
      · exact hp.subset (bfsAt_closed g i j e hlen k hk)
      · have : j = i := by omega
        subst this
        rw [bfsAt, if_pos hlen]
        exact addKids_mem _ _ k hk
    · -- the list doesn't grow past a place that was seen to
      exfalso
      rw [bfsAt] at hl
      split at hl
      · omega
      · omega
theorem bfs_closed {g : List Cl} (hc : checkGr g = 0) (h0 : g ≠ []) {j : Nat} (hj : j < (bfs g).length) : ∀ k ∈ kidsAt g (bfs g) j, k ∈ bfs g :=
  bfsAt_closed g g.length j (Nat.lt_of_lt_of_le hj (good_len (bfsAt_good hc h0 g.length))) hj
theorem bfs_closed' {g : List Cl} (hc : checkGr g = 0) (h0 : g ≠ []) {x : Int} (hx : x ∈ bfs g) : ∀ k ∈ (g.getD x.toNat default).kids, k ∈ bfs g := fun k hk => by
  obtain ⟨j, hj, rfl⟩ := List.mem_iff_getElem.1 hx
  refine bfs_closed hc h0 hj k ?_
  unfold kidsAt
  rw [getD_lt hj]; exact hk
def plc (o : List Int) : List (Int × Int) := o.zipIdx.map fun p => (p.1, (p.2 : Int))
theorem kget_plcN : ∀ (o : List Int) (n : Nat) (k : Int), kget ((o.zipIdx n).map fun p => (p.1, (p.2 : Int))) k = if k ∈ o then some (((o.idxOf k + n : Nat)) : Int) else none
  | [], _, _ => rfl
  | x :: r, n, k => by
    simp only [List.zipIdx_cons, List.map_cons, kget, List.find?_cons]
    by_cases e : x = k
    · subst e; simp
    · have ih := kget_plcN r (n + 1) k
      simp only [kget] at ih
      have e' : ¬ k = x := fun h => e h.symm
      have e2 : (x == k) = false := by simpa using e
      simp only [decide_eq_false e, ih, List.mem_cons, e', false_or, List.idxOf_cons, e2, cond_false]
      split
      · congr 2; omega
      · rfl
theorem kget_plc (o : List Int) (k : Int) : kget (plc o) k = if k ∈ o then some (idx o k) else none := by
  have := kget_plcN o 0 k
  simpa [plc, idx] using this
theorem kput_plcN : ∀ (o : List Int) (n : Nat) (k : Int), k ∉ o → kput ((o.zipIdx n).map fun p => (p.1, (p.2 : Int))) k ((o.length + n : Nat) : Int) = ((o ++ [k]).zipIdx n).map fun p => (p.1, (p.2 : Int))
  | [], n, k, _ => by simp [kput]
  | x :: r, n, k, h => by
    simp only [List.mem_cons, not_or] at h
    have ih := kput_plcN r (n + 1) k h.2
    simp only [List.zipIdx_cons, List.map_cons, kput, if_neg (fun e : x = k => h.1 e.symm), List.cons_append, List.length_cons]
    rw [show r.length + 1 + n = r.length + (n + 1) by omega, ih]
theorem kput_plc {o : List Int} {k : Int} (h : k ∉ o) : kput (plc o) k ((o.length : Nat) : Int) = plc (o ++ [k]) := by
  have := kput_plcN o 0 k h
  simpa [plc] using this
theorem kget_some {o : List Int} {k : Int} (h : (kget (plc o) k).isSome = true) : k ∈ o := by
  rw [kget_plc] at h
  split at h
  · assumption
  · cases h
theorem kget_none {o : List Int} {k : Int} (h : (kget (plc o) k).isSome = false) : k ∉ o := by
  rw [kget_plc] at h
  split at h
  · cases h
  · assumption
theorem kget_idx {o : List Int} {k : Int} (h : k ∈ o) : (kget (plc o) k).getD 0 = idx o k := by rw [kget_plc, if_pos h]; rfl
theorem addKids_s {o ks : List Int} {j : Nat} (h : j < ks.length) : addKids o (ks.take (j + 1)) = addKid (addKids o (ks.take j)) (ks.getD j 0) := foldl_take_s addKid o 0 ks j h
theorem map_take_s {α β : Type} (f : α → β) (d : α) (l : List α) (i : Nat) (h : i < l.length) : (l.take (i + 1)).map f = (l.take i).map f ++ [f (l.getD i d)] := by
  rw [List.take_add_one, List.map_append]
  simp [List.getElem?_eq_getElem h, List.getD_eq_getElem?_getD]
end Go.Proofs.Ytghkpailmdlhgaa
namespace Go.Proofs.Ytghkpailmdlhgaa
open Go.RowKit Go.Eng
theorem idxOf_first {k : Int} : ∀ {l : List Int} {i : Nat}, i < l.length → (∀ j, j < i → ¬ l.getD j 0 = k) → l.getD i 0 = k → l.idxOf k = i
  | x :: r, 0, _, _, e => by
    have : x = k := e
    simp [List.idxOf_cons, this]
  | x :: r, i + 1, hi, h, e => by
    have h0 : ¬ x = k := h 0 (by omega)
    have e2 : (x == k) = false := by simpa using h0
    have ih := idxOf_first (l := r) (i := i) (by simpa using hi) (fun j hj => by simpa using h (j + 1) (by omega)) (by simpa using e)
    simp [List.idxOf_cons, e2, ih]
def eqCl (x y : Cl) : Bool := decide (x.n = y.n) && eqInt x.kids y.kids
theorem eqCl_iff {x y : Cl} : eqCl x y = true ↔ x = y := by
  obtain ⟨a, b⟩ := x
  obtain ⟨c, d⟩ := y
  simp [eqCl, eqInt]
end Go.Proofs.Ytghkpailmdlhgaa
namespace Go.Proofs.Ytghkpailmdlhgaa
open Go.RowKit Go.Eng
def eqF {α : Type} (p : α → α → Bool) : List α → List α → Bool
  | [], [] => true
  | x :: l, y :: m => p x y && eqF p l m
  | _, _ => false
theorem eqF_len {α : Type} {p : α → α → Bool} : ∀ {l m : List α}, ¬ l.length = m.length → eqF p l m = false
  | [], [], h => absurd rfl h
  | x :: l, y :: m, h => by
    rw [eqF, eqF_len (l := l) (m := m) (by simpa using h), Bool.and_false]
  | [], _ :: _, _ => rfl
  | _ :: _, [], _ => rfl
theorem eqF_bad {α : Type} {p : α → α → Bool} (d : α) : ∀ {l m : List α} {i : Nat}, i < l.length → l.length = m.length → p (l.getD i d) (m.getD i d) = false → eqF p l m = false
  | x :: l, y :: m, 0, _, _, h => by
    have : p x y = false := h
    rw [eqF, this, Bool.false_and]
  | x :: l, y :: m, i + 1, hi, hl, h => by
    rw [eqF, eqF_bad d (l := l) (m := m) (i := i) (by simpa using hi) (by simpa using hl) (by simpa using h), Bool.and_false]
  | [], _, _, hi, _, _ => by simp at hi
  | _ :: _, [], _, _, hl, _ => by simp at hl
theorem eqF_all {α : Type} {p : α → α → Bool} (d : α) : ∀ {l m : List α}, l.length = m.length → (∀ i, i < l.length → p (l.getD i d) (m.getD i d) = true) → eqF p l m = true
  | [], [], _, _ => rfl
  | x :: l, y :: m, hl, h => by
    have h0 : p x y = true := h 0 (by simp)
    rw [eqF, h0, eqF_all d (l := l) (m := m) (by simpa using hl) fun i hi => by simpa using h (i + 1) (by simpa using hi)]
    rfl
  | [], _ :: _, hl, _ => by simp at hl
  | _ :: _, [], hl, _ => by simp at hl
theorem eqF_iff {α : Type} {p : α → α → Bool} (hp : ∀ x y, p x y = true ↔ x = y) : ∀ {l m : List α}, eqF p l m = true ↔ l = m
  | [], [] => by simp [eqF]
  | x :: l, y :: m => by rw [eqF, Bool.and_eq_true, hp, eqF_iff hp (l := l) (m := m), List.cons.injEq]
  | [], _ :: _ => by simp [eqF]
  | _ :: _, [] => by simp [eqF]
def pre {α : Type} (d : α) (p : α → α → Bool) (l m : List α) (i : Nat) : Prop := l.length = m.length ∧ ∀ j, j < i → p (l.getD j d) (m.getD j d) = true
theorem pre_s {α : Type} {d : α} {p : α → α → Bool} {l m : List α} {i : Nat} (h : pre d p l m i) (e : p (l.getD i d) (m.getD i d) = true) : pre d p l m (i + 1) := ⟨h.1, fun j hj => by
  by_cases q : j < i
  · exact h.2 j q
  · have : j = i := by omega
    subst this; exact e⟩
def eqGr (l m : List Cl) : Bool := eqF eqCl l m
theorem eqGr_iff {l m : List Cl} : eqGr l m = true ↔ l = m := eqF_iff fun _ _ => eqCl_iff
theorem addKids_len {g : List Cl} (hc : checkGr g = 0) {o : List Int} (h : good g.length o) {i : Nat} (hi : i < o.length) (j : Nat) : (addKids o ((kidsAt g o i).take j)).length ≤ g.length :=
  good_len (addKids_good h fun k hk => (kidsAt_in hc h hi).2 k (List.mem_of_mem_take hk))
theorem good_at {n : Nat} {o : List Int} (h : good n o) {i : Nat} (hi : i < o.length) : 0 ≤ o.getD i 0 ∧ o.getD i 0 < (n : Int) := h.2 _ (by rw [getD_lt hi]; exact List.getElem_mem _)
theorem mem_getD {o : List Int} {i : Nat} (hi : i < o.length) : o.getD i 0 ∈ o := by rw [getD_lt hi]; exact List.getElem_mem _
theorem cp_s {g : List Cl} {o : List Int} {q r : Nat} (hq : q < o.length) (hr : (g.getD (o.getD q 0).toNat default).kids.length ≤ r) :
    (o.take q).map (cpCell g o) ++ [⟨(g.getD (o.getD q 0).toNat default).n, ((g.getD (o.getD q 0).toNat default).kids.take r).map (idx o)⟩] = (o.take (q + 1)).map (cpCell g o) := by
  rw [map_take_s _ 0 _ _ hq, List.take_of_length_le hr]; rfl
end Go.Proofs.Ytghkpailmdlhgaa
namespace Go.Proofs.Ytghkpailmdlhgaa
open Go.RowKit Go.Eng
theorem idx_app {o : List Int} {x : Int} (h : x ∈ o) (k : List Int) : idx (o ++ k) x = idx o x := by
  unfold idx; rw [List.idxOf_append, if_pos h]
theorem idx_pre {o o' : List Int} (h : o <+: o') {x : Int} (hx : x ∈ o) : idx o' x = idx o x := by
  obtain ⟨t, rfl⟩ := h
  exact idx_app hx t
end Go.Proofs.Ytghkpailmdlhgaa
namespace Go.Proofs.Ytghkpailmdlhgaa
def likeR (g h : List Cl) : Bool × Int := if ¬ (copyR g).2 = 0 then (false, (copyR g).2) else if ¬ (copyR h).2 = 0 then (false, (copyR h).2) else (eqGr (copyR g).1 (copyR h).1, 0)
end Go.Proofs.Ytghkpailmdlhgaa
namespace Go.Proofs.Ytghkpailmdlhgaa
open Go.RowKit Go.Eng
end Go.Proofs.Ytghkpailmdlhgaa
namespace Go.Proofs.Ytghkpailmdlhgaa
open Go.RowKit Go.Eng
theorem gcheck_ct (g : List Cl) : Ct Try.prog 28 [SV.agg 1 (grG g)] (iv (checkGr g)) := by
 refine CtO 48 Try.func28 rfl rfl rfl fun E => row_lenA 0 (V (s := 0) rfl) rfl rfl fun hl0_0 => Sq <| Rt <| BxA 1 (V rfl) rfl rfl <| U (As K) <| Nt <| Sq <| Sq <| Rq <| O (FlB _ _ (V rfl) Un35 rfl 0 Sz33) <| O (LdB (V rfl) rfl Ga33 (by decide)) <| O (Ln (V rfl) ts33) <| O (Gt (V rfl) K) <| Nq <| Cd (V rfl) (fun hc1 => ?_) (fun hc1 => ?_)
 ·have hc1s := hc1; try simp only [BL] at hc1s
  exact Sq <| Rq <| O (As K) <| Nq <| Rx <| R1 rfl (V rfl) rfl (by show iv (1) = iv (checkGr g); rw [checkGr_1 hc1s])
 ·have hc1s := hc1; try simp only [BL] at hc1s
  refine Sk <| Sq <| Sq <| Rq <| O (FlB _ _ (V rfl) Un35 rfl 0 Sz33) <| O (LdB (V rfl) rfl Ga33 (by decide)) <| O (Ln (V rfl) ts33) <| O (Mv K) <| Nq <| Bo <| Lo (fun (i : Nat) => ⟨[(1, SV.bp 1 0), (12, clRow g), (13, iv ((g.length : Int))), (14, iv ((i : Int)))], [(1, Own.box 1 (grG g) 35)]⟩) (fun (i : Nat) => i ≤ g.length ∧ checkGr g = firstErr (clErr g) i (g.length - i)) (fun (i : Nat) => g.length - i) 0 (by show 0 ≤ g.length ∧ checkGr g = firstErr (clErr g) 0 (g.length - 0); exact ⟨Nat.zero_le _, checkGr_s hc1s⟩) (We (ow := [(1, Own.box 1 (grG g) 35)]) (Vs rfl) (by exact ⟨⟨_, rfl, rfl, rfl, (An rfl)⟩, Z⟩)) <| ?_
  ·rintro i hI1
   have hJ1 : i ≤ g.length ∧ checkGr g = firstErr (clErr g) i (g.length - i) := hI1
   refine Sq <| Rq <| O (Lt (V rfl) (V rfl)) <| Nq <| Sq <| Cd (V rfl) (fun hc2 => ?_) (fun hc2 => ?_)
   ·have hc2s := hc2; try simp only [BL] at hc2s
    refine Sk <| Sq <| Bo <| Sq <| Rt <| U (IxN (i := i) (V rfl) (V rfl) ts33 te33 (by omega)) <| U (LdA (V rfl) Ga43 Sz43 (by decide)) <| Al 2 zero43 rfl rfl <| StA (V rfl) rfl (V rfl) Sz43 <| Nt <| Sq <| Sq <| Rq <| O (FlB _ _ (V rfl) Un43 rfl 0 Sz3) <| O (LdB (V rfl) rfl Ga3 (by decide)) <| O (Lt (V rfl) K) <| O (Mv (V rfl)) <| Og (Gn rfl rfl) (fun hg => FlB _ _ (V rfl) Un43 rfl 0 Sz3) <| Og (Gn rfl rfl) (fun hg => LdB (Vg (V rfl) hg) rfl Ga3 (by decide)) <| Og (Gn rfl rfl) (fun hg => Gt (Vg (V rfl) hg) K) <| O (Qr (V rfl) (fun h => Vg (V rfl) (notT h))) <| Nq <| Cd (V rfl) (fun hc3 => ?_) (fun hc3 => ?_)
    ·have hc3s := hc3; try simp only [BL] at hc3s
     exact Sq <| Rq <| O (As K) <| Nq <| Rx <| R1 rfl (V rfl) rfl (by show iv (2) = iv (checkGr g); rw [firstErr_hit (by omega) hJ1.2 (clErr_2 hc3) (by decide)])
    ·have hc3s := hc3; try simp only [BL] at hc3s
     refine Sk <| Sq <| Sq <| Rq <| O (FlB _ _ (V rfl) Un43 rfl 0 Sz24) <| O (LdB (V rfl) rfl Ga24 (by decide)) <| O (Ln (V rfl) ts24) <| O (Gt (V rfl) K) <| Nq <| Cd (V rfl) (fun hc4 => ?_) (fun hc4 => ?_)
     ·have hc4s := hc4; try simp only [BL] at hc4s
      exact Sq <| Rq <| O (As K) <| Nq <| Rx <| R1 rfl (V rfl) rfl (by show iv (1) = iv (checkGr g); rw [firstErr_hit (by omega) hJ1.2 (clErr_1 hc3 hc4s) (by decide)])
     ·have hc4s := hc4; try simp only [BL] at hc4s
      refine Sk <| Sq <| Rq <| O (FlB _ _ (V rfl) Un43 rfl 0 Sz24) <| O (LdB (V rfl) rfl Ga24 (by decide)) <| O (Ln (V rfl) ts24) <| O (Mv K) <| Nq <| Bo <| Lo (fun (j : Nat) => ⟨[(1, SV.bp 1 0), (12, clRow g), (13, iv ((g.length : Int))), (14, iv ((i : Int))), (31, inRow ((g.getD i default).kids)), (32, iv ((((g.getD i default).kids).length : Int))), (33, iv ((j : Int)))], [(1, Own.box 1 (grG g) 35)]⟩) (fun (j : Nat) => j ≤ (g.getD i default).kids.length ∧ clErr g i = firstErr (kidErr g.length (g.getD i default).kids) j ((g.getD i default).kids.length - j)) (fun (j : Nat) => (g.getD i default).kids.length - j) 0 (by show 0 ≤ (g.getD i default).kids.length ∧ clErr g i = firstErr (kidErr g.length (g.getD i default).kids) 0 ((g.getD i default).kids.length - 0); exact ⟨Nat.zero_le _, clErr_s hc3 hc4s⟩) (We (ow := [(1, Own.box 1 (grG g) 35)]) (Vs rfl) (by exact ⟨⟨_, rfl, rfl, rfl, (An rfl)⟩, Z⟩)) <| ?_
      ·rintro j hI2
       have hJ2 : j ≤ (g.getD i default).kids.length ∧ clErr g i = firstErr (kidErr g.length (g.getD i default).kids) j ((g.getD i default).kids.length - j) := hI2
       refine Sq <| Rq <| O (Lt (V rfl) (V rfl)) <| Nq <| Sq <| Cd (V rfl) (fun hc5 => ?_) (fun hc5 => ?_)
       ·have hc5s := hc5; try simp only [BL] at hc5s
        refine Sk <| Sq <| Bo <| Sq <| Rq <| O (IxN (i := j) (V rfl) (V rfl) ts24 te24 (by omega)) <| O (Ld (V rfl) Ga3 (by decide)) <| O (As (V rfl)) <| Nq <| Sq <| Rq <| O (Mv (V rfl)) <| O (Lt (V rfl) K) <| O (Mv (V rfl)) <| Og (Gn rfl rfl) (fun hg => Mv (V rfl)) <| Og (Gn rfl rfl) (fun hg => FlB _ _ (V rfl) Un35 rfl 0 Sz33) <| Og (Gn rfl rfl) (fun hg => LdB (Vg (V rfl) hg) rfl Ga33 (by decide)) <| Og (Gn rfl rfl) (fun hg => Ln (Vg (V rfl) hg) ts33) <| Og (Gn rfl rfl) (fun hg => Ge (Vg (V rfl) hg) (Vg (V rfl) hg)) <| O (Qr (V rfl) (fun h => Vg (V rfl) (notT h))) <| Nq <| Cd (V rfl) (fun hc6 => ?_) (fun hc6 => ?_)
        ·have hc6s := hc6; try simp only [BL] at hc6s
         exact Sq <| Rq <| O (As K) <| Nq <| Rx <| R1 rfl (V rfl) rfl (by show iv (4) = iv (checkGr g); rw [firstErr_hit (by omega) hJ1.2 (firstErr_hit (by omega) hJ2.2 (kidErr_4 hc6) (by decide)) (by decide)])
        ·have hc6s := hc6; try simp only [BL] at hc6s
         exact Sk <| Rq <| O (Ad (V rfl) K (by omega)) <| O (Mv (V rfl)) <| Nq <| Nx (j + 1) (by show (j + 1) ≤ (g.getD i default).kids.length ∧ clErr g i = firstErr (kidErr g.length (g.getD i default).kids) (j + 1) ((g.getD i default).kids.length - (j + 1)); exact ⟨by omega, firstErr_next (by omega) hJ2.2 (kidErr_0 hc6)⟩) (by show (g.getD i default).kids.length - (j + 1) < (g.getD i default).kids.length - j; omega) (We (ow := [(1, Own.box 1 (grG g) 35)]) (Vs rfl) (by exact ⟨⟨_, rfl, rfl, rfl, (An rfl)⟩, Z⟩))
       ·have hc5s := hc5; try simp only [BL] at hc5s
        exact Ex <| Rq <| O (Ad (V rfl) K (by omega)) <| O (Mv (V rfl)) <| Nq <| Nx (i + 1) (by show (i + 1) ≤ g.length ∧ checkGr g = firstErr (clErr g) (i + 1) (g.length - (i + 1)); exact ⟨by omega, firstErr_next (by omega) hJ1.2 (by rw [hJ2.2, Nat.sub_eq_zero_of_le (by omega)]; rfl)⟩) (by show g.length - (i + 1) < g.length - i; omega) (We (ow := [(1, Own.box 1 (grG g) 35)]) (Vs rfl) (by exact ⟨⟨_, rfl, rfl, rfl, (An rfl)⟩, Z⟩))
   ·have hc2s := hc2; try simp only [BL] at hc2s
    exact Ex <| Sq <| Rq <| O (As K) <| Nq <| Rx <| R1 rfl (V rfl) rfl (by show iv (0) = iv (checkGr g); rw [firstErr_end (by omega) hJ1.2])
theorem gsame1_ct (x y : Cl) : Ct Try.prog 67 [SV.agg 2 (clCell x), SV.agg 2 (clCell y)] (bv (eqCl x y)) := by
 exact CtO 17 Try.func67 rfl rfl rfl fun E => row_lenA 1 (V (s := 0) rfl) rfl rfl fun hl0_1 => row_lenA 1 (V (s := 1) rfl) rfl rfl fun hl1_1 => Sq <| Rt <| BxA 1 (V rfl) rfl rfl <| BxA 2 (V rfl) rfl rfl <| U (As K) <| Nt <| Sq <| Rq <| O (FlB _ _ (V rfl) Un43 rfl 0 Sz3) <| O (LdB (V rfl) rfl Ga3 (by decide)) <| O (FlB _ _ (V rfl) Un43 rfl 0 Sz3) <| O (LdB (V rfl) rfl Ga3 (by decide)) <| O (Ql (V rfl) (V rfl)) <| O (Mv (V rfl)) <| Og (Gy rfl rfl) (fun hg => FlB _ _ (V rfl) Un43 rfl 0 Sz24) <| Og (Gy rfl rfl) (fun hg => LdB (Vg (V rfl) hg) rfl Ga24 (by decide)) <| Og (Gy rfl rfl) (fun hg => FlB _ _ (V rfl) Un43 rfl 0 Sz24) <| Og (Gy rfl rfl) (fun hg => LdB (Vg (V rfl) hg) rfl Ga24 (by decide)) <| CQg (Gy rfl rfl) en17 (fun hg => (by exact ⟨⟨(Vg (V rfl) hg), rfl⟩, ⟨(Vg (V rfl) hg), rfl⟩, Z⟩)) (fun hg => equal_ct x.kids y.kids) <| O (Qa (V rfl) (fun h => Vg (V rfl) h)) <| O (As (V rfl)) <| Nq <| Rx <| R1 rfl (V rfl) rfl (by show bv ((decide (x.n = y.n)) && (eqInt x.kids y.kids)) = bv (eqCl x y); rfl)
end Go.Proofs.Ytghkpailmdlhgaa
namespace Go.Proofs.Ytghkpailmdlhgaa
open Go.RowKit Go.Eng
theorem eqfCl_ct {f : FuncId} {caps : List SV} (p : Cl → Cl → Bool) (hE : Enters Try.prog f) (hro : allRO caps = true) (hC : ∀ x y, Ct Try.prog f ([.agg 2 (clCell x), .agg 2 (clCell y)] ++ caps) (bv (p x y))) (l m : List Cl) : Ct Try.prog 66 [clRow l, clRow m, fnA f caps] (bv (eqF p l m)) := by
 refine CtO 32 Try.func66 rfl rfl rfl fun E => Rl (V (s := 0) rfl) fun hl0 => Rl (V (s := 1) rfl) fun hl1 => Sq <| Rq <| O (As K) <| Nq <| Sq <| Sq <| Rq <| O (Mv (V rfl)) <| O (Ln (V rfl) ts33) <| O (Mv (V rfl)) <| O (Ln (V rfl) ts33) <| O (Qn (V rfl) (V rfl)) <| Nq <| Cd (V rfl) (fun hc1 => ?_) (fun hc1 => ?_)
 ·have hc1s := hc1; try simp only [BL] at hc1s
  exact Sq <| Rq <| O (As K) <| Nq <| Rx <| R1 rfl (V rfl) rfl (by show bv (false) = bv (eqF p l m); rw [eqF_len (by omega)])
 ·have hc1s := hc1; try simp only [BL] at hc1s
  refine Sk <| Sq <| Sq <| Rq <| O (Mv (V rfl)) <| O (Ln (V rfl) ts33) <| O (Mv K) <| Nq <| Bo <| Lo (fun (i : Nat) => ⟨[(1, clRow m), (2, fnA f caps), (15, clRow l), (16, iv ((l.length : Int))), (17, iv ((i : Int)))], []⟩) (fun (i : Nat) => i ≤ l.length ∧ pre default p l m i) (fun (i : Nat) => l.length - i) 0 (by show 0 ≤ l.length ∧ pre default p l m 0; exact ⟨Nat.zero_le _, by omega, fun j hj => absurd hj (Nat.not_lt_zero _)⟩) (We (Vs rfl) Z) <| ?_
  ·rintro i hI1
   have hJ1 : i ≤ l.length ∧ pre default p l m i := hI1
   have hlm := hJ1.2.1
   refine Sq <| Rq <| O (Lt (V rfl) (V rfl)) <| Nq <| Sq <| Cd (V rfl) (fun hc2 => ?_) (fun hc2 => ?_)
   ·have hc2s := hc2; try simp only [BL] at hc2s
    refine Sk <| Sq <| Bo <| Sq <| Rt <| U (Mv (V rfl)) <| U (IxN (i := i) (V rfl) (V rfl) ts33 te33 (by omega)) <| U (LdA (V rfl) Ga43 Sz43 (by decide)) <| Al 1 zero43 rfl rfl <| U (As (V rfl)) <| StA (V rfl) rfl (V rfl) Sz43 <| Nt <| Sq <| Rt <| U (Mv (V rfl)) <| U (Mv (V rfl)) <| U (IxN (i := i) (V rfl) (V rfl) ts33 te33 (by omega)) <| U (LdA (V rfl) Ga43 Sz43 (by decide)) <| Al 2 zero43 rfl rfl <| StA (V rfl) rfl (V rfl) Sz43 <| Nt <| Sq <| Rq <| O (Mv (V rfl)) <| O (LBA (V rfl) rfl Ga43 Sz43 (by decide)) <| O (LBA (V rfl) rfl Ga43 Sz43 (by decide)) <| CQv (args := [SV.agg 2 (clCell ⟨(l.getD i default).n, (l.getD i default).kids⟩), SV.agg 2 (clCell ⟨(m.getD i default).n, (m.getD i default).kids⟩)]) (caps := caps) (fnval_A (V rfl)) hro hE (by exact ⟨⟨(Vi (g' := clCell ⟨(l.getD i default).n, (l.getD i default).kids⟩) (V rfl) ⟨⟨Z, Ir⟩, Ir⟩), rfl⟩, ⟨(Vi (g' := clCell ⟨(m.getD i default).n, (m.getD i default).kids⟩) (V rfl) ⟨⟨Z, Ir⟩, Ir⟩), rfl⟩, Z⟩) (hC ⟨(l.getD i default).n, (l.getD i default).kids⟩ ⟨(m.getD i default).n, (m.getD i default).kids⟩) <| O (Qo (V rfl)) <| Nq <| Cd (V rfl) (fun hc3 => ?_) (fun hc3 => ?_)
    ·have hc3s := hc3; try simp only [BL] at hc3s
     exact Sq <| Rq <| O (As K) <| Nq <| Rx <| R1 rfl (V rfl) rfl (by show bv (false) = bv (eqF p l m); rw [eqF_bad default (i := i) (by omega) hlm (by simpa using hc3)])
    ·have hc3s := hc3; try simp only [BL] at hc3s
     exact Sk <| Rq <| O (Ad (V rfl) K (by omega)) <| O (Mv (V rfl)) <| Nq <| Nx (i + 1) (by show (i + 1) ≤ l.length ∧ pre default p l m (i + 1); exact ⟨by omega, pre_s hJ1.2 (by simpa using hc3)⟩) (by show l.length - (i + 1) < l.length - i; omega) (We (Vs rfl) Z)
   ·have hc2s := hc2; try simp only [BL] at hc2s
    exact Ex <| Sq <| Rq <| O (As K) <| Nq <| Rx <| R1 rfl (V rfl) rfl (by show bv (true) = bv (eqF p l m); rw [eqF_all default hlm (fun j hj => hJ1.2.2 j (by omega))])
theorem gsame_ct (g h : List Cl) : Ct Try.prog 27 [SV.agg 1 (grG g), SV.agg 1 (grG h)] (bv (eqGr g h)) := by
 exact CtO 10 Try.func27 rfl rfl rfl fun E => row_lenA 0 (V (s := 0) rfl) rfl rfl fun hl0_0 => row_lenA 0 (V (s := 1) rfl) rfl rfl fun hl1_0 => Sq <| Rt <| BxA 1 (V rfl) rfl rfl <| BxA 2 (V rfl) rfl rfl <| U (As K) <| Nt <| Sq <| Rq <| O (FlB _ _ (V rfl) Un35 rfl 0 Sz33) <| O (LdB (V rfl) rfl Ga33 (by decide)) <| O (FlB _ _ (V rfl) Un35 rfl 0 Sz33) <| O (LdB (V rfl) rfl Ga33 (by decide)) <| CQ en66 (by exact ⟨⟨(V rfl), rfl⟩, ⟨(V rfl), rfl⟩, ⟨(VA (Vf) rfl), rfl⟩, Z⟩) (eqfCl_ct eqCl en67 rfl (fun x y => gsame1_ct x y) g h) <| O (As (V rfl)) <| Nq <| Rx <| R1 rfl (V rfl) rfl (by show bv (eqF eqCl g h) = bv (eqGr g h); rfl)
theorem copy_ct (g : List Cl) : Ct Try.prog 24 [SV.agg 1 (grG g)] (sv2 (SV.agg 1 (grG (copyR g).1)) (iv (copyR g).2)) := by
 refine CtO 110 Try.func24 rfl rfl rfl fun E => row_lenA 0 (V (s := 0) rfl) rfl rfl fun hl0_0 => Sq <| Rt <| BxA 1 (V rfl) rfl rfl <| Al 2 zero35 rfl rfl <| U (As K) <| Nt <| Sq <| Sq <| Rq <| O (LBA (V rfl) rfl Ga35 Sz35 (by decide)) <| CQ en28 (by exact ⟨⟨(Vi (g' := grG g) (V rfl) ⟨Z, Ir⟩), rfl⟩, Z⟩) (gcheck_ct g) <| O (As (V rfl)) <| Nq <| Sq <| Rq <| O (Mv (V rfl)) <| O (Qn (V rfl) K) <| Nq <| Cd (V rfl) (fun hc1 => ?_) (fun hc1 => ?_)
 ·have hc1s := hc1; try simp only [BL] at hc1s
  exact Sq <| Rt <| U (Bu [] id (cmpG [SV.v (Value.slice none 0 0)]) zero35 build35 (by exact Z) (by decide) ⟨Z, rfl⟩) <| U (Mv (V rfl)) <| StA (V rfl) rfl (V rfl) Sz35 <| U (As (V rfl)) <| Nt <| Rx <| RR2 rfl (rv_aggI (g' := grG ([])) (rv_cell (V rfl) rfl Ga35 Sz35) ⟨Z, In⟩) (rv_tmp (V rfl)) rfl rfl (by show sv2 (SV.agg 1 (grG ([]))) (iv (checkGr g)) = sv2 (SV.agg 1 (grG (copyR g).1)) (iv (copyR g).2); rw [copyR_e hc1s])
 ·have hc1s := hc1; try simp only [BL] at hc1s
  have hc0 := hc1s
  have h24 := checkGr_len hc0
  refine Sk <| Sq <| Sq <| Rq <| O (FlB _ _ (V rfl) Un35 rfl 0 Sz33) <| O (LdB (V rfl) rfl Ga33 (by decide)) <| O (Ln (V rfl) ts33) <| O (Ql (V rfl) K) <| Nq <| Cd (V rfl) (fun hc2 => ?_) (fun hc2 => ?_)
  ·have hc2s := hc2; try simp only [BL] at hc2s
   exact Sq <| Rt <| U (Bu [] id (cmpG [SV.v (Value.slice none 0 0)]) zero35 build35 (by exact Z) (by decide) ⟨Z, rfl⟩) <| StA (V rfl) rfl (V rfl) Sz35 <| U (As K) <| Nt <| Rx <| RR2 rfl (rv_aggI (g' := grG ([])) (rv_cell (V rfl) rfl Ga35 Sz35) ⟨Z, In⟩) (rv_tmp (V rfl)) rfl rfl (by show sv2 (SV.agg 1 (grG ([]))) (iv (0)) = sv2 (SV.agg 1 (grG (copyR g).1)) (iv (copyR g).2); rw [copyR_o hc0, copyGr, if_pos (List.eq_nil_of_length_eq_zero (by omega))])
  ·have hc2s := hc2; try simp only [BL] at hc2s
   have hne : g ≠ [] := fun e => hc2s (by rw [e]; rfl)
   refine Sk <| Sq <| Rt <| t_makeMap 3 rfl <| t_putI (l := []) (.inl rfl) Un78 Un3 (V rfl) rfl K K <| U (Mv (V rfl)) <| U (As (V rfl)) <| Nt <| Sq <| Rt <| t_bsO 4 (n := 1) (zget := fun _ => iv 0) [(fun _ => iv (0))] (rowG inCell 0 [0]) Un24 Sz3 zero3 (by decide) (by decide) rfl (by decide) ⟨⟨rfl, .inr ⟨rfl, K, rfl⟩, rfl⟩, Z⟩ ⟨Z, ⟨Z, rfl⟩⟩ rfl <| U (As (V rfl)) <| Nt <| Sq <| Sq <| Rq <| O (As K) <| Nq <| Bo <| c_mapE 3 (imap (plc (bfsAt g 0))) rfl (by rfl) <| c_ownE 4 (bfsAt g 0) rfl (by rfl) <| Lo (fun (i : Nat) => ⟨[(1, SV.bp 1 0), (2, SV.bp 2 0), (5, SV.own 3), (6, SV.own 4), (7, iv ((i : Int)))], [(1, Own.box 1 (grG g) 35), (2, Own.box 1 (cmpG [SV.v (Value.slice none 0 0)]) 35), (3, Own.amap (imap (plc (bfsAt g i)))), (4, ownOf inCell 1 0 (bfsAt g i) 3)]⟩) (fun (i : Nat) => i ≤ (bfsAt g i).length) (fun (i : Nat) => g.length - i) 0 (by show 0 ≤ (bfsAt g 0).length; exact Nat.zero_le _) (We (ow := [(1, Own.box 1 (grG g) 35), (2, Own.box 1 (cmpG [SV.v (Value.slice none 0 0)]) 35), (3, Own.amap (imap (plc (bfsAt g 0)))), (4, ownOf inCell 1 0 (bfsAt g 0) 3)]) (Vs rfl) (by exact ⟨⟨_, rfl, rfl, rfl, (An rfl)⟩, ⟨_, rfl, rfl, rfl, (An rfl)⟩, ⟨_, rfl, rfl⟩, ⟨_, rfl, rfl⟩, Z⟩)) <| ?_
   ·rintro i hI1
    have hJ1 : i ≤ (bfsAt g i).length := hI1
    have hgd := bfsAt_good hc0 hne i
    have hgl := good_len hgd
    refine Sq <| Sq <| Rq <| O (Mv (V rfl)) <| O (Mv (V rfl)) <| O (LnO (V rfl) rfl ts24) <| O (Lt (V rfl) (V rfl)) <| Nq <| Cd (V rfl) (fun hc3 => ?_) (fun hc3 => ?_)
    ·have hc3s := hc3; try simp only [BL] at hc3s
     have hi : i < (bfsAt g i).length := by omega
     have hx := good_at hgd hi
     have hki := (kidsAt_in hc0 hgd hi).1
     refine Sk <| Sq <| Bo <| Sq <| Rqd (by kernel_rfl) (by kernel_rfl) <| O (FlB _ _ (V rfl) Un35 rfl 0 Sz33) <| O (LdB (V rfl) rfl Ga33 (by decide)) <| O (Mv (V rfl)) <| O (Mv (V rfl)) <| O (IOn (i := i) (V rfl) rfl (V rfl) ts24 te24 (by omega)) <| O (LdO (V rfl) rfl Ga3 (by decide)) <| O (Ix (V rfl) (V rfl) ts33 te33 (by omega) (by omega)) <| O (Fl _ _ (V rfl) Un43 rfl 0 Sz24) <| O (Ld (V rfl) Ga24 (by decide)) <| O (Ln (V rfl) ts24) <| O (Mv K) <| Nq <| Bo <| c_mapE 3 (imap (plc (addKids (bfsAt g i) ((kidsAt g (bfsAt g i) i).take 0)))) rfl (by rfl) <| c_ownE 4 (addKids (bfsAt g i) ((kidsAt g (bfsAt g i) i).take 0)) rfl (by rfl) <| Lo (fun (j : Nat) => ⟨[(1, SV.bp 1 0), (2, SV.bp 2 0), (5, SV.own 3), (6, SV.own 4), (7, iv ((i : Int))), (46, inRow ((g.getD (Int.toNat (((bfsAt g i).getD i 0))) default).kids)), (47, iv ((((g.getD (Int.toNat (((bfsAt g i).getD i 0))) default).kids).length : Int))), (48, iv ((j : Int)))], [(1, Own.box 1 (grG g) 35), (2, Own.box 1 (cmpG [SV.v (Value.slice none 0 0)]) 35), (3, Own.amap (imap (plc (addKids (bfsAt g i) ((kidsAt g (bfsAt g i) i).take j))))), (4, ownOf inCell 1 0 (addKids (bfsAt g i) ((kidsAt g (bfsAt g i) i).take j)) 3)]⟩) (fun (j : Nat) => j ≤ (kidsAt g (bfsAt g i) i).length) (fun (j : Nat) => (kidsAt g (bfsAt g i) i).length - j) 0 (by show 0 ≤ (kidsAt g (bfsAt g i) i).length; exact Nat.zero_le _) (We (ow := [(1, Own.box 1 (grG g) 35), (2, Own.box 1 (cmpG [SV.v (Value.slice none 0 0)]) 35), (3, Own.amap (imap (plc (addKids (bfsAt g i) ((kidsAt g (bfsAt g i) i).take 0))))), (4, ownOf inCell 1 0 (addKids (bfsAt g i) ((kidsAt g (bfsAt g i) i).take 0)) 3)]) (Vs rfl) (by exact ⟨⟨_, rfl, rfl, rfl, (An rfl)⟩, ⟨_, rfl, rfl, rfl, (An rfl)⟩, ⟨_, rfl, rfl⟩, ⟨_, rfl, rfl⟩, Z⟩)) <| ?_
     ·rintro j hI2
      have hJ2 : j ≤ (kidsAt g (bfsAt g i) i).length := hI2
      have hal := addKids_len hc0 hgd hi j
      refine Sq <| Rq <| O (Lt (V rfl) (V rfl)) <| Nq <| Sq <| Cd (V rfl) (fun hc4 => ?_) (fun hc4 => ?_)
      ·have hc4s := hc4; try simp only [BL] at hc4s
       have hj : j < (kidsAt g (bfsAt g i) i).length := by have h4 := hc4s; change (j : Int) < ((kidsAt g (bfsAt g i) i).length : Int) at h4; omega
       refine Sk <| Sq <| Bo <| Sq <| Rq <| O (IxN (i := j) (V rfl) (V rfl) ts24 te24 (by exact hj)) <| O (Ld (V rfl) Ga3 (by decide)) <| O (As (V rfl)) <| Nq <| Sq <| Rq <| O (Mv (V rfl)) <| O (Mv (V rfl)) <| O (q_lookI2 (l := plc (addKids (bfsAt g i) ((kidsAt g (bfsAt g i) i).take j))) Un78 Un3 (fun w => Try.zeroValue3 w) (V rfl) rfl (V rfl)) <| O (Mv (V rfl)) <| O (Xt (V rfl) (by decide)) <| O (Xt (V rfl) (by decide)) <| O (As (V rfl)) <| O (As (V rfl)) <| Nq <| Sq <| Rq <| O (Mv (V rfl)) <| O (Qo (V rfl)) <| Nq <| Cd (V rfl) (fun hc5 => ?_) (fun hc5 => ?_)
       ·have hc5s := hc5; try simp only [BL] at hc5s
        refine Sq <| Rt <| U (Mv (V rfl)) <| U (Mv (V rfl)) <| U (Mv (V rfl)) <| U (LnO (V rfl) rfl ts24) <| t_putI (l := plc (addKids (bfsAt g i) ((kidsAt g (bfsAt g i) i).take j))) (.inr rfl) Un78 Un3 (V rfl) rfl (V rfl) (V rfl) <| Nt <| Rt <| U (Mv (V rfl)) <| U (Mv (V rfl)) <| Uw (w_bs (n := 1) (zget := fun _ => iv 0) [(fun _ => iv ((((g.getD (Int.toNat (((bfsAt g i).getD i 0))) default).kids).getD j 0)))] (rowG inCell 0 [(((g.getD (Int.toNat (((bfsAt g i).getD i 0))) default).kids).getD j 0)]) Un24 Sz3 zero3 (by decide) rfl (by decide) ⟨⟨rfl, .inr ⟨rfl, (V rfl), rfl⟩, rfl⟩, Z⟩ ⟨Z, ⟨Z, rfl⟩⟩) <| Ap 5 (rowG inCell 0 ((addKids (bfsAt g i) ((kidsAt g (bfsAt g i) i).take j)) ++ ([(((g.getD (Int.toNat (((bfsAt g i).getD i 0))) default).kids).getD j 0)]))) eo24 (V rfl) rfl (V rfl) rfl (len_app (addKids (bfsAt g i) ((kidsAt g (bfsAt g i) i).take j)) ([(((g.getD (Int.toNat (((bfsAt g i).getD i 0))) default).kids).getD j 0)])) (by first | (simp only [maxLen, List.length_append, List.length_set, List.length_nil, List.length_cons]; (have hq := hal; omega)) | (simp only [maxLen]; (have hq := hal; omega))) (by first | (simp only [List.length_append, List.length_set, List.length_nil, List.length_cons]; (have hq := hal; omega)) | ((have hq := hal; omega))) (app_typed (l := (addKids (bfsAt g i) ((kidsAt g (bfsAt g i) i).take j))) (m := ([(((g.getD (Int.toNat (((bfsAt g i).getD i 0))) default).kids).getD j 0)]))) <| U (As (V rfl)) <| Nt <| Rq <| O (Ad (V rfl) K (by omega)) <| O (Mv (V rfl)) <| Nq <| ?_
        have hk : ¬ (kidsAt g (bfsAt g i) i).getD j 0 ∈ addKids (bfsAt g i) ((kidsAt g (bfsAt g i) i).take j) := kget_none hc5s
        have hs := addKids_s (o := bfsAt g i) (ks := kidsAt g (bfsAt g i) i) (j := j) hj
        rw [addKid, if_neg hk] at hs
        exact k_mv 5 4 rfl rfl <| k_mapE 3 (imap (plc (addKids (bfsAt g i) ((kidsAt g (bfsAt g i) i).take ((j + 1)))))) rfl (by rw [hs, ← kput_plc hk]; rfl) <| k_ownE 4 (addKids (bfsAt g i) ((kidsAt g (bfsAt g i) i).take ((j + 1)))) rfl (by exact hs.symm) <| Nx (j + 1) (by show (j + 1) ≤ (kidsAt g (bfsAt g i) i).length; omega) (by show (kidsAt g (bfsAt g i) i).length - (j + 1) < (kidsAt g (bfsAt g i) i).length - j; omega) (We (ow := [(1, Own.box 1 (grG g) 35), (2, Own.box 1 (cmpG [SV.v (Value.slice none 0 0)]) 35), (3, Own.amap (imap (plc (addKids (bfsAt g i) ((kidsAt g (bfsAt g i) i).take ((j + 1))))))), (4, ownOf inCell 1 0 (addKids (bfsAt g i) ((kidsAt g (bfsAt g i) i).take ((j + 1)))) 3)]) (Vs rfl) (by exact ⟨⟨_, rfl, rfl, rfl, (An rfl)⟩, ⟨_, rfl, rfl, rfl, (An rfl)⟩, ⟨_, rfl, rfl⟩, ⟨_, rfl, rfl⟩, Z⟩))
       ·have hc5s := hc5; try simp only [BL] at hc5s
        refine Sk <| Rq <| O (Ad (V rfl) K (by omega)) <| O (Mv (V rfl)) <| Nq <| ?_
        have hk : (kidsAt g (bfsAt g i) i).getD j 0 ∈ addKids (bfsAt g i) ((kidsAt g (bfsAt g i) i).take j) := kget_some hc5s
        have hs := addKids_s (o := bfsAt g i) (ks := kidsAt g (bfsAt g i) i) (j := j) hj
        rw [addKid, if_pos hk] at hs
        exact k_mapE 3 (imap (plc (addKids (bfsAt g i) ((kidsAt g (bfsAt g i) i).take ((j + 1)))))) rfl (by rw [hs]) <| k_ownE 4 (addKids (bfsAt g i) ((kidsAt g (bfsAt g i) i).take ((j + 1)))) rfl (by exact hs.symm) <| Nx (j + 1) (by show (j + 1) ≤ (kidsAt g (bfsAt g i) i).length; omega) (by show (kidsAt g (bfsAt g i) i).length - (j + 1) < (kidsAt g (bfsAt g i) i).length - j; omega) (We (ow := [(1, Own.box 1 (grG g) 35), (2, Own.box 1 (cmpG [SV.v (Value.slice none 0 0)]) 35), (3, Own.amap (imap (plc (addKids (bfsAt g i) ((kidsAt g (bfsAt g i) i).take ((j + 1))))))), (4, ownOf inCell 1 0 (addKids (bfsAt g i) ((kidsAt g (bfsAt g i) i).take ((j + 1)))) 3)]) (Vs rfl) (by exact ⟨⟨_, rfl, rfl, rfl, (An rfl)⟩, ⟨_, rfl, rfl, rfl, (An rfl)⟩, ⟨_, rfl, rfl⟩, ⟨_, rfl, rfl⟩, Z⟩))
      ·have hc4s := hc4; try simp only [BL] at hc4s
       have hj : (kidsAt g (bfsAt g i) i).length ≤ j := by have h4 := hc4s; change ¬ (j : Int) < ((kidsAt g (bfsAt g i) i).length : Int) at h4; omega
       refine Ex <| Rq <| O (Mv (V rfl)) <| O (Ad (V rfl) K (by omega)) <| O (As (V rfl)) <| Nq <| ?_
       have hbs : bfsAt g (i + 1) = addKids (bfsAt g i) ((kidsAt g (bfsAt g i) i).take j) := by rw [bfsAt, if_pos hi, List.take_of_length_le (by show (kidsAt g (bfsAt g i) i).length ≤ j; omega)]
       exact k_mapE 3 (imap (plc (bfsAt g ((i + 1))))) rfl (by rw [hbs]) <| k_ownE 4 (bfsAt g ((i + 1))) rfl (by exact hbs.symm) <| Nx (i + 1) (by show (i + 1) ≤ (bfsAt g (i + 1)).length; rw [hbs]; have := (addKids_pre ((kidsAt g (bfsAt g i) i).take j) (bfsAt g i)).length_le; omega) (by show g.length - (i + 1) < g.length - i; omega) (We (ow := [(1, Own.box 1 (grG g) 35), (2, Own.box 1 (cmpG [SV.v (Value.slice none 0 0)]) 35), (3, Own.amap (imap (plc (bfsAt g ((i + 1)))))), (4, ownOf inCell 1 0 (bfsAt g ((i + 1))) 3)]) (Vs rfl) (by exact ⟨⟨_, rfl, rfl, rfl, (An rfl)⟩, ⟨_, rfl, rfl, rfl, (An rfl)⟩, ⟨_, rfl, rfl⟩, ⟨_, rfl, rfl⟩, Z⟩))
    ·have hc3s := hc3; try simp only [BL] at hc3s
     have hgi : i ≤ g.length := by omega
     have hb : bfs g = bfsAt g i := bfs_eq (by omega) hgi
     refine Ex <| Sq <| Rt <| Al 6 zero35 rfl rfl <| Nt <| Sq <| Sq <| Rq <| O (Mv (V rfl)) <| O (LnO (V rfl) rfl ts24) <| O (Mv K) <| Nq <| Bo <| Tc (turn_nilB 6 0 50 2 (rowG clCell default []) 43 rfl rfl rfl) <| c_ownE 50 (((bfsAt g i).take 0).map (cpCell g (bfsAt g i))) rfl (by rfl) <| Lo (fun (q : Nat) => ⟨[(1, SV.bp 1 0), (2, SV.bp 2 0), (5, SV.own 3), (12, SV.bp 6 0), (69, SV.own 4), (70, iv (((bfsAt g i).length : Int))), (71, iv ((q : Int)))], [(1, Own.box 1 (grG g) 35), (2, Own.box 1 (cmpG [SV.v (Value.slice none 0 0)]) 35), (3, Own.amap (imap (plc (bfsAt g i)))), (4, ownOf inCell 1 0 (bfsAt g i) 3), (6, Own.box 1 (fun _ => SV.own 50) 35), (50, ownOf clCell 2 default (((bfsAt g i).take q).map (cpCell g (bfsAt g i))) 43)]⟩) (fun (q : Nat) => q ≤ (bfsAt g i).length) (fun (q : Nat) => (bfsAt g i).length - q) 0 (by show 0 ≤ (bfsAt g i).length; first | omega | (simp; done) | (refine ⟨?_, ?_⟩ <;> first | omega | (simp; done))) (We (ow := [(1, Own.box 1 (grG g) 35), (2, Own.box 1 (cmpG [SV.v (Value.slice none 0 0)]) 35), (3, Own.amap (imap (plc (bfsAt g i)))), (4, ownOf inCell 1 0 (bfsAt g i) 3), (6, Own.box 1 (fun _ => SV.own 50) 35), (50, ownOf clCell 2 default (((bfsAt g i).take 0).map (cpCell g (bfsAt g i))) 43)]) (Vs rfl) (by exact ⟨⟨_, rfl, rfl, rfl, (An rfl)⟩, ⟨_, rfl, rfl, rfl, (An rfl)⟩, ⟨_, rfl, rfl⟩, ⟨_, rfl, rfl⟩, ⟨_, rfl, rfl, rfl, (An rfl)⟩, ⟨_, rfl, rfl⟩, Z⟩)) ?_
     ·rintro q hI3
      have hJ3 : q ≤ (bfsAt g i).length := hI3
      refine Sq <| Rq <| O (Lt (V rfl) (V rfl)) <| Nq <| Sq <| Cd (V rfl) (fun hc6 => ?_) (fun hc6 => ?_)
      ·have hc6s := hc6; try simp only [BL] at hc6s
       have hq : q < (bfsAt g i).length := by omega
       have hx := good_at hgd hq
       have hk8 := (cl_parts hc0 (i := Int.toNat ((bfsAt g i).getD q 0)) (by omega)).2.1
       have hcl : ∀ k ∈ (g.getD (Int.toNat ((bfsAt g i).getD q 0)) default).kids, k ∈ bfsAt g i := by rw [← hb] at hq ⊢; exact bfs_closed' hc0 hne (mem_getD hq)
       refine Sk <| Sq <| Bo <| Sq <| Rq <| O (IOn (i := q) (V rfl) rfl (V rfl) ts24 te24 (by omega)) <| O (LdO (V rfl) rfl Ga3 (by decide)) <| O (As (V rfl)) <| Nq <| Sq <| Rt <| U (FlB _ _ (V rfl) Un35 rfl 0 Sz33) <| U (LdB (V rfl) rfl Ga33 (by decide)) <| U (Mv (V rfl)) <| U (Ix (V rfl) (V rfl) ts33 te33 (by omega) (by omega)) <| U (Fl _ _ (V rfl) Un43 rfl 0 Sz3) <| U (Ld (V rfl) Ga3 (by decide)) <| U (Bu [(0, iv ((g.getD (Int.toNat (((bfsAt g i).getD q 0))) default).n))] id (cmpG [iv ((g.getD (Int.toNat (((bfsAt g i).getD q 0))) default).n), SV.v (Value.slice none 0 0)]) zero43 build43 (by exact ⟨⟨rfl, (V rfl), rfl⟩, Z⟩) (by decide) ⟨⟨Z, rfl⟩, rfl⟩) <| Al 7 zero43 rfl rfl <| StA (V rfl) rfl (V rfl) Sz43 <| Nt <| Sq <| Sq <| Rq <| O (FlB _ _ (V rfl) Un35 rfl 0 Sz33) <| O (LdB (V rfl) rfl Ga33 (by decide)) <| O (Mv (V rfl)) <| O (Ix (V rfl) (V rfl) ts33 te33 (by omega) (by omega)) <| O (Fl _ _ (V rfl) Un43 rfl 0 Sz24) <| O (Ld (V rfl) Ga24 (by decide)) <| O (Ln (V rfl) ts24) <| O (Mv K) <| Nq <| Bo <| Tc (turn_nilB 7 1 51 1 (rowG inCell 0 []) 3 rfl rfl rfl) <| c_ownE 51 ((((g.getD (Int.toNat ((bfsAt g i).getD q 0)) default).kids.take 0).map (idx (bfsAt g i)))) rfl (by rfl) <| Lo (fun (r : Nat) => ⟨[(1, SV.bp 1 0), (2, SV.bp 2 0), (5, SV.own 3), (12, SV.bp 6 0), (15, SV.bp 7 0), (69, SV.own 4), (70, iv (((bfsAt g i).length : Int))), (71, iv ((q : Int))), (87, inRow ((g.getD (Int.toNat (((bfsAt g i).getD q 0))) default).kids)), (88, iv ((((g.getD (Int.toNat (((bfsAt g i).getD q 0))) default).kids).length : Int))), (89, iv ((r : Int)))], [(1, Own.box 1 (grG g) 35), (2, Own.box 1 (cmpG [SV.v (Value.slice none 0 0)]) 35), (3, Own.amap (imap (plc (bfsAt g i)))), (4, ownOf inCell 1 0 (bfsAt g i) 3), (6, Own.box 1 (fun _ => SV.own 50) 35), (7, Own.box 2 (cmpG [iv ((g.getD (Int.toNat ((bfsAt g i).getD q 0)) default).n), SV.own 51]) 43), (50, ownOf clCell 2 default (((bfsAt g i).take q).map (cpCell g (bfsAt g i))) 43), (51, ownOf inCell 1 0 ((((g.getD (Int.toNat ((bfsAt g i).getD q 0)) default).kids.take r).map (idx (bfsAt g i)))) 3)]⟩) (fun (r : Nat) => r ≤ (g.getD (Int.toNat ((bfsAt g i).getD q 0)) default).kids.length) (fun (r : Nat) => (g.getD (Int.toNat ((bfsAt g i).getD q 0)) default).kids.length - r) 0 (by show 0 ≤ (g.getD (Int.toNat ((bfsAt g i).getD q 0)) default).kids.length; first | omega | (simp; done) | (refine ⟨?_, ?_⟩ <;> first | omega | (simp; done))) (We (ow := [(1, Own.box 1 (grG g) 35), (2, Own.box 1 (cmpG [SV.v (Value.slice none 0 0)]) 35), (3, Own.amap (imap (plc (bfsAt g i)))), (4, ownOf inCell 1 0 (bfsAt g i) 3), (6, Own.box 1 (fun _ => SV.own 50) 35), (7, Own.box 2 (cmpG [iv ((g.getD (Int.toNat ((bfsAt g i).getD q 0)) default).n), SV.own 51]) 43), (50, ownOf clCell 2 default (((bfsAt g i).take q).map (cpCell g (bfsAt g i))) 43), (51, ownOf inCell 1 0 ((((g.getD (Int.toNat ((bfsAt g i).getD q 0)) default).kids.take 0).map (idx (bfsAt g i)))) 3)]) (Vs rfl) (by exact ⟨⟨_, rfl, rfl, rfl, (An rfl)⟩, ⟨_, rfl, rfl, rfl, (An rfl)⟩, ⟨_, rfl, rfl⟩, ⟨_, rfl, rfl⟩, ⟨_, rfl, rfl, rfl, (An rfl)⟩, ⟨_, rfl, rfl, rfl, (An rfl)⟩, ⟨_, rfl, rfl⟩, ⟨_, rfl, rfl⟩, Z⟩)) ?_
       ·rintro r hI4
        have hJ4 : r ≤ (g.getD (Int.toNat ((bfsAt g i).getD q 0)) default).kids.length := hI4
        refine Sq <| Rq <| O (Lt (V rfl) (V rfl)) <| Nq <| Sq <| Cd (V rfl) (fun hc7 => ?_) (fun hc7 => ?_)
        ·have hc7s := hc7; try simp only [BL] at hc7s
         refine Sk <| Sq <| Bo <| Sq <| Rq <| O (IxN (i := r) (V rfl) (V rfl) ts24 te24 (by omega)) <| O (Ld (V rfl) Ga3 (by decide)) <| O (As (V rfl)) <| Nq <| Rt <| U (FlB _ _ (V rfl) Un43 rfl 0 Sz24) <| U (LdB (V rfl) rfl Ga24 (by decide)) <| U (Mv (V rfl)) <| U (Mv (V rfl)) <| U (q_lookI1 (l := plc (bfsAt g i)) Un78 Un3 (fun w => Try.zeroValue3 w) (V rfl) rfl (V rfl)) <| Uw (w_bs (n := 1) (zget := fun _ => iv 0) [(fun _ => iv ((kget (plc (bfsAt g i)) ((((g.getD (Int.toNat (((bfsAt g i).getD q 0))) default).kids).getD r 0))).getD 0))] (rowG inCell 0 [(kget (plc (bfsAt g i)) ((((g.getD (Int.toNat (((bfsAt g i).getD q 0))) default).kids).getD r 0))).getD 0]) Un24 Sz3 zero3 (by decide) rfl (by decide) ⟨⟨rfl, .inr ⟨rfl, (V rfl), rfl⟩, rfl⟩, Z⟩ ⟨Z, ⟨Z, rfl⟩⟩) <| Ap 8 (rowG inCell 0 (((((g.getD (Int.toNat ((bfsAt g i).getD q 0)) default).kids.take r).map (idx (bfsAt g i)))) ++ ([(kget (plc (bfsAt g i)) ((((g.getD (Int.toNat (((bfsAt g i).getD q 0))) default).kids).getD r 0))).getD 0]))) eo24 (V rfl) rfl (V rfl) rfl (len_app ((((g.getD (Int.toNat ((bfsAt g i).getD q 0)) default).kids.take r).map (idx (bfsAt g i)))) ([(kget (plc (bfsAt g i)) ((((g.getD (Int.toNat (((bfsAt g i).getD q 0))) default).kids).getD r 0))).getD 0])) (by first | (simp only [maxLen, List.length_append, List.length_set, List.length_nil, List.length_cons]; (simp only [List.length_map, List.length_take]; omega)) | (simp only [maxLen]; (simp only [List.length_map, List.length_take]; omega))) (by first | (simp only [List.length_append, List.length_set, List.length_nil, List.length_cons]; (simp only [List.length_map, List.length_take]; omega)) | ((simp only [List.length_map, List.length_take]; omega))) (app_typed (l := ((((g.getD (Int.toNat ((bfsAt g i).getD q 0)) default).kids.take r).map (idx (bfsAt g i))))) (m := ([(kget (plc (bfsAt g i)) ((((g.getD (Int.toNat (((bfsAt g i).getD q 0))) default).kids).getD r 0))).getD 0]))) <| U (FlB _ _ (V rfl) Un43 rfl 0 Sz24) <| t_st1V (V rfl) rfl (V rfl) (one_own rfl) Sz24 (by decide) <| Nt <| Rq <| O (Ad (V rfl) K (by omega)) <| O (Mv (V rfl)) <| Nq <| k_mv 8 51 rfl rfl <| k_ownE 51 ((((g.getD (Int.toNat ((bfsAt g i).getD q 0)) default).kids.take ((r + 1))).map (idx (bfsAt g i)))) rfl (by rw [map_take_s _ 0 _ _ (by omega), kget_idx (hcl _ (mem_getD (by omega)))]) <| Nx (r + 1) (by show (r + 1) ≤ (g.getD (Int.toNat ((bfsAt g i).getD q 0)) default).kids.length; first | omega | (simp; done) | (refine ⟨?_, ?_⟩ <;> first | omega | (simp; done))) (by show (g.getD (Int.toNat ((bfsAt g i).getD q 0)) default).kids.length - (r + 1) < (g.getD (Int.toNat ((bfsAt g i).getD q 0)) default).kids.length - r; omega) (We (ow := [(1, Own.box 1 (grG g) 35), (2, Own.box 1 (cmpG [SV.v (Value.slice none 0 0)]) 35), (3, Own.amap (imap (plc (bfsAt g i)))), (4, ownOf inCell 1 0 (bfsAt g i) 3), (6, Own.box 1 (fun _ => SV.own 50) 35), (7, Own.box 2 (cmpG [iv ((g.getD (Int.toNat ((bfsAt g i).getD q 0)) default).n), SV.own 51]) 43), (50, ownOf clCell 2 default (((bfsAt g i).take q).map (cpCell g (bfsAt g i))) 43), (51, ownOf inCell 1 0 ((((g.getD (Int.toNat ((bfsAt g i).getD q 0)) default).kids.take ((r + 1))).map (idx (bfsAt g i)))) 3)]) (Vs rfl) (by exact ⟨⟨_, rfl, rfl, rfl, (An rfl)⟩, ⟨_, rfl, rfl, rfl, (An rfl)⟩, ⟨_, rfl, rfl⟩, ⟨_, rfl, rfl⟩, ⟨_, rfl, rfl, rfl, (An rfl)⟩, ⟨_, rfl, rfl, rfl, (An rfl)⟩, ⟨_, rfl, rfl⟩, ⟨_, rfl, rfl⟩, Z⟩))
        ·have hc7s := hc7; try simp only [BL] at hc7s
         refine Ex <| Rt <| U (FlB _ _ (V rfl) Un35 rfl 0 Sz33) <| U (LdB (V rfl) rfl Ga33 (by decide)) <| U (LBA (V rfl) rfl Ga43 Sz43 (by decide)) <| FzT 51 rfl <| Uw (w_bs (n := 1) (zget := cmpG [iv 0, SV.v (Value.slice none 0 0)]) [_] (rowG clCell default [⟨(g.getD (Int.toNat ((bfsAt g i).getD q 0)) default).n, (((g.getD (Int.toNat ((bfsAt g i).getD q 0)) default).kids.take r).map (idx (bfsAt g i)))⟩]) Un33 Sz43 zero43 (by decide) rfl (by decide) ⟨⟨rfl, .inl (V rfl), rfl⟩, Z⟩ ⟨Z, ⟨⟨Z, rfl⟩, rfl⟩⟩) <| Ap 9 (rowG clCell default ((((bfsAt g i).take q).map (cpCell g (bfsAt g i))) ++ ([⟨(g.getD (Int.toNat ((bfsAt g i).getD q 0)) default).n, (((g.getD (Int.toNat ((bfsAt g i).getD q 0)) default).kids.take r).map (idx (bfsAt g i)))⟩]))) eo33 (V rfl) rfl (V rfl) rfl (len_app (((bfsAt g i).take q).map (cpCell g (bfsAt g i))) ([⟨(g.getD (Int.toNat ((bfsAt g i).getD q 0)) default).n, (((g.getD (Int.toNat ((bfsAt g i).getD q 0)) default).kids.take r).map (idx (bfsAt g i)))⟩])) (by first | (simp only [maxLen, List.length_append, List.length_set, List.length_nil, List.length_cons]; (simp only [List.length_map, List.length_take]; omega)) | (simp only [maxLen]; (simp only [List.length_map, List.length_take]; omega))) (by first | (simp only [List.length_append, List.length_set, List.length_nil, List.length_cons]; (simp only [List.length_map, List.length_take]; omega)) | ((simp only [List.length_map, List.length_take]; omega))) (app_typed (l := (((bfsAt g i).take q).map (cpCell g (bfsAt g i)))) (m := ([⟨(g.getD (Int.toNat ((bfsAt g i).getD q 0)) default).n, (((g.getD (Int.toNat ((bfsAt g i).getD q 0)) default).kids.take r).map (idx (bfsAt g i)))⟩]))) <| U (FlB _ _ (V rfl) Un35 rfl 0 Sz33) <| t_st1V (V rfl) rfl (V rfl) (one_own rfl) Sz33 (by decide) <| Nt <| Rq <| O (Ad (V rfl) K (by omega)) <| O (Mv (V rfl)) <| Nq <| k_mv 9 50 rfl rfl <| k_ownE 50 (((bfsAt g i).take ((q + 1))).map (cpCell g (bfsAt g i))) rfl (by exact cp_s hq (by omega)) <| Nx (q + 1) (by show (q + 1) ≤ (bfsAt g i).length; first | omega | (simp; done) | (refine ⟨?_, ?_⟩ <;> first | omega | (simp; done))) (by show (bfsAt g i).length - (q + 1) < (bfsAt g i).length - q; omega) (We (ow := [(1, Own.box 1 (grG g) 35), (2, Own.box 1 (cmpG [SV.v (Value.slice none 0 0)]) 35), (3, Own.amap (imap (plc (bfsAt g i)))), (4, ownOf inCell 1 0 (bfsAt g i) 3), (6, Own.box 1 (fun _ => SV.own 50) 35), (50, ownOf clCell 2 default (((bfsAt g i).take ((q + 1))).map (cpCell g (bfsAt g i))) 43)]) (Vs rfl) (by exact ⟨⟨_, rfl, rfl, rfl, (An rfl)⟩, ⟨_, rfl, rfl, rfl, (An rfl)⟩, ⟨_, rfl, rfl⟩, ⟨_, rfl, rfl⟩, ⟨_, rfl, rfl, rfl, (An rfl)⟩, ⟨_, rfl, rfl⟩, Z⟩))
      ·have hc6s := hc6; try simp only [BL] at hc6s
       exact Ex <| Sq <| Rt <| U (LBA (V rfl) rfl Ga35 Sz35 (by decide)) <| StA (V rfl) rfl (V rfl) Sz35 <| U (As K) <| Nt <| FzC 50 rfl <| Rx <| RR2 rfl (rv_aggI (g' := grG (((bfsAt g i).take q).map (cpCell g (bfsAt g i)))) (rv_cell (V rfl) rfl Ga35 Sz35) ⟨Z, Ir⟩) (rv_tmp (V rfl)) rfl rfl (by show sv2 (SV.agg 1 (grG (((bfsAt g i).take q).map (cpCell g (bfsAt g i))))) (iv (0)) = sv2 (SV.agg 1 (grG (copyR g).1)) (iv (copyR g).2); rw [copyR_o hc0, copyGr, if_neg hne, hb, List.take_of_length_le (by omega)])
end Go.Proofs.Ytghkpailmdlhgaa
namespace Go.Proofs.Ytghkpailmdlhgaa
open Go.RowKit Go.Eng
theorem like_ct (g h : List Cl) : Ct Try.prog 26 [SV.agg 1 (grG g), SV.agg 1 (grG h)] (sv2 (bv (likeR g h).1) (iv (likeR g h).2)) := by
 refine CtO 28 Try.func26 rfl rfl rfl fun E => row_lenA 0 (V (s := 0) rfl) rfl rfl fun hl0_0 => row_lenA 0 (V (s := 1) rfl) rfl rfl fun hl1_0 => Sq <| Rt <| BxA 1 (V rfl) rfl rfl <| BxA 2 (V rfl) rfl rfl <| U (As K) <| U (As K) <| Nt <| Sq <| Rt <| U (LBA (V rfl) rfl Ga35 Sz35 (by decide)) <| CT en24 (by exact ⟨⟨(Vi (g' := grG g) (V rfl) ⟨Z, Ir⟩), rfl⟩, Z⟩) (copy_ct g) <| U (Mv (V rfl)) <| U (Xt (V rfl) (by decide)) <| U (Xt (V rfl) (by decide)) <| Al 3 zero35 rfl rfl <| StA (V rfl) rfl (V rfl) Sz35 <| U (As (V rfl)) <| Nt <| Sq <| Sq <| Rq <| O (Mv (V rfl)) <| O (Qn (V rfl) K) <| Nq <| Cd (V rfl) (fun hc1 => ?_) (fun hc1 => ?_)
 ·have hc1s := hc1; try simp only [BL] at hc1s
  exact Sq <| Rq <| O (Mv (V rfl)) <| O (As K) <| O (As (V rfl)) <| Nq <| Rx <| R2 rfl (V rfl) (V rfl) rfl rfl (by show sv2 (bv (false)) (iv ((copyR g).2)) = sv2 (bv (likeR g h).1) (iv (likeR g h).2); rw [likeR, if_pos hc1s])
 ·have hc1s := hc1; try simp only [BL] at hc1s
  refine Sk <| Sq <| Rt <| U (LBA (V rfl) rfl Ga35 Sz35 (by decide)) <| CT en24 (by exact ⟨⟨(Vi (g' := grG h) (V rfl) ⟨Z, Ir⟩), rfl⟩, Z⟩) (copy_ct h) <| U (Mv (V rfl)) <| U (Xt (V rfl) (by decide)) <| U (Xt (V rfl) (by decide)) <| Al 4 zero35 rfl rfl <| StA (V rfl) rfl (V rfl) Sz35 <| U (As (V rfl)) <| Nt <| Sq <| Sq <| Rq <| O (Mv (V rfl)) <| O (Qn (V rfl) K) <| Nq <| Cd (V rfl) (fun hc2 => ?_) (fun hc2 => ?_)
  ·have hc2s := hc2; try simp only [BL] at hc2s
   exact Sq <| Rq <| O (Mv (V rfl)) <| O (As K) <| O (As (V rfl)) <| Nq <| Rx <| R2 rfl (V rfl) (V rfl) rfl rfl (by show sv2 (bv (false)) (iv ((copyR h).2)) = sv2 (bv (likeR g h).1) (iv (likeR g h).2); rw [likeR, if_neg (not_not_intro hc1s), if_pos hc2s])
  ·have hc2s := hc2; try simp only [BL] at hc2s
   exact Sk <| Sq <| Rq <| O (LBA (V rfl) rfl Ga35 Sz35 (by decide)) <| O (LBA (V rfl) rfl Ga35 Sz35 (by decide)) <| CQ en27 (by exact ⟨⟨(Vi (g' := grG ((copyR g).1)) (V rfl) ⟨Z, Ir⟩), rfl⟩, ⟨(Vi (g' := grG ((copyR h).1)) (V rfl) ⟨Z, Ir⟩), rfl⟩, Z⟩) (gsame_ct ((copyR g).1) ((copyR h).1)) <| O (As (V rfl)) <| O (As K) <| Nq <| Rx <| R2 rfl (V rfl) (V rfl) rfl rfl (by show sv2 (bv (eqGr ((copyR g).1) ((copyR h).1))) (iv (0)) = sv2 (bv (likeR g h).1) (iv (likeR g h).2); rw [likeR, if_neg (not_not_intro hc1s), if_neg (not_not_intro hc2s)])
end Go.Proofs.Ytghkpailmdlhgaa
namespace Go.Proofs.Ytghkpailmdlhgaa
open Go.RowKit Go.Eng
def iota (n : Nat) : List Int := (List.range n).map fun (i : Nat) => (i : Int)
theorem iota_len (n : Nat) : (iota n).length = n := by simp [iota]
theorem iota_s (n : Nat) : iota (n + 1) = iota n ++ [(n : Int)] := by simp [iota, List.range_succ]
theorem iota_mem {n : Nat} {k : Int} : k ∈ iota n ↔ 0 ≤ k ∧ k < n := by
  simp only [iota, List.mem_map, List.mem_range]
  constructor
  · rintro ⟨i, hi, rfl⟩; omega
  · intro h; exact ⟨k.toNat, by omega, by omega⟩
theorem iota_at {n i : Nat} (h : i < n) : (iota n).getD i 0 = (i : Int) := by
  rw [getD_lt (by rw [iota_len]; exact h)]; simp [iota]
theorem idx_iota {n : Nat} {k : Int} (h : 0 ≤ k ∧ k < n) : idx (iota n) k = k := by
  have h1 : (iota n).getD k.toNat 0 = k := by rw [iota_at (by omega)]; omega
  have := idxOf_first (l := iota n) (i := k.toNat) (k := k) (by rw [iota_len]; omega) (fun j hj => by rw [iota_at (by omega)]; omega) h1
  unfold idx; rw [this]; omega
theorem idx_lt {o : List Int} {k : Int} (h : k ∈ o) : 0 ≤ idx o k ∧ idx o k < o.length := by
  unfold idx
  have := List.idxOf_lt_length_of_mem h
  omega
theorem idx_last {o : List Int} {k : Int} (h : k ∉ o) (t : List Int) : idx (o ++ [k] ++ t) k = o.length := by
  unfold idx
  rw [List.append_assoc, List.idxOf_append, if_neg h]; simp
theorem addKids_iota {o : List Int} : ∀ (K oi : List Int), addKids oi K <+: o → addKids (iota oi.length) (K.map (idx o)) = iota (addKids oi K).length
  | [], oi, _ => rfl
  | k :: K, oi, h => by
    have h1 : addKid oi k <+: o := (addKids_pre K (addKid oi k)).trans h
    have ih := addKids_iota K (addKid oi k) h
    show addKids (addKid (iota oi.length) (idx o k)) (K.map (idx o)) = _
    have e : addKid (iota oi.length) (idx o k) = iota (addKid oi k).length := by
      by_cases hk : k ∈ oi
      · have h2 : idx o k = idx oi k := idx_pre ((addKid_pre oi k).trans h1) hk
        rw [show addKid oi k = oi from if_pos hk, addKid, if_pos]
        rw [h2, iota_mem]; exact idx_lt hk
      · have h3 : addKid oi k = oi ++ [k] := if_neg hk
        rw [h3] at h1 ⊢
        obtain ⟨t, ht⟩ := h1
        have h2 : idx o k = oi.length := by rw [← ht]; exact idx_last hk t
        rw [h2, addKid, if_neg (by rw [iota_mem]; omega), List.length_append, List.length_singleton, iota_s]
    rw [e]; exact ih
section
variable {g : List Cl} (hc : checkGr g = 0) (h0 : g ≠ [])
include hc h0
theorem bfs_good : good g.length (bfs g) := bfsAt_good hc h0 _
theorem bfs_len : (bfs g).length ≤ g.length := good_len (bfs_good hc h0)
theorem copy_len : (copyGr g).length = (bfs g).length := by rw [copyGr, if_neg h0, List.length_map]
theorem bfs_pos : 0 < (bfs g).length := by
  have := (bfsAt_le g (Nat.zero_le g.length)).length_le
  have h1 : (bfsAt g 0).length = 1 := rfl
  unfold bfs; omega
theorem copy_at {q : Nat} (hq : q < (bfs g).length) : (copyGr g).getD q default = cpCell g (bfs g) ((bfs g).getD q 0) := by
  rw [getD_lt (by rw [copy_len hc h0]; exact hq), getD_lt hq]
  simp [copyGr, h0]
theorem bfs_at_len : bfsAt g (bfs g).length = bfs g := (bfs_eq ((bfsAt_le g (bfs_len hc h0)).length_le) (bfs_len hc h0)).symm
theorem bfs_copy (i : Nat) : bfsAt (copyGr g) i = iota (bfsAt g i).length := by
  induction i with
  | zero => rfl
  | succ i ih =>
    rw [bfsAt, ih, iota_len]
    by_cases hi : i < (bfsAt g i).length
    · rw [if_pos hi]
      have hpre : bfsAt g i <+: bfs g := by
        by_cases hg : i ≤ g.length
        · exact bfsAt_le g hg
        · have := good_len (bfsAt_good hc h0 i); omega
      have hil : i < (bfs g).length := Nat.lt_of_lt_of_le hi hpre.length_le
      have hk : kidsAt (copyGr g) (iota (bfsAt g i).length) i = (kidsAt g (bfsAt g i) i).map (idx (bfs g)) := by
        unfold kidsAt
        rw [iota_at hi, Int.toNat_natCast, copy_at hc h0 hil, pre_getD hpre hi]; rfl
      have hnext : bfsAt g (i + 1) = addKids (bfsAt g i) (kidsAt g (bfsAt g i) i) := by rw [bfsAt, if_pos hi]
      rw [hk, hnext]
      refine addKids_iota _ _ ?_
      rw [← hnext]
      have : i + 1 ≤ g.length := by have := good_len (bfsAt_good hc h0 i); omega
      exact bfsAt_le g this
    · rw [if_neg hi, bfsAt, if_neg hi]
theorem copy_ne : copyGr g ≠ [] := fun e => by
  have := copy_len hc h0
  rw [e] at this
  have := bfs_pos hc h0
  simp at *; omega
theorem bfs_of_copy : bfs (copyGr g) = iota (bfs g).length := by
  show bfsAt (copyGr g) (copyGr g).length = _
  rw [bfs_copy hc h0, copy_len hc h0, bfs_at_len hc h0]
theorem kid_idx {q : Nat} (hq : q < (bfs g).length) : ∀ k ∈ ((copyGr g).getD q default).kids, 0 ≤ k ∧ k < ((bfs g).length : Int) := fun k hk => by
  rw [copy_at hc h0 hq] at hk
  simp only [cpCell, List.mem_map] at hk
  obtain ⟨x, hx, rfl⟩ := hk
  exact idx_lt (bfs_closed' hc h0 (mem_getD hq) x hx)
end
theorem checkGr_of {g : List Cl} (hl : g.length ≤ 24) (h : ∀ i, i < g.length → (-1000000 ≤ (g.getD i default).n ∧ (g.getD i default).n ≤ 1000000) ∧ (g.getD i default).kids.length ≤ 8 ∧ ∀ k ∈ (g.getD i default).kids, 0 ≤ k ∧ k < (g.length : Int)) : checkGr g = 0 := by
  have hz : ∀ (f : Nat → Int) (n i : Nat), (∀ j, i ≤ j → j < i + n → f j = 0) → firstErr f i n = 0 := by
    intro f n
    induction n with
    | zero => intro i _; rfl
    | succ n ih =>
      intro i h
      rw [firstErr, if_neg (by rw [h i (Nat.le_refl _) (by omega)]; simp)]
      exact ih (i + 1) fun j h1 h2 => h j (by omega) (by omega)
  unfold checkGr
  rw [if_neg (by omega)]
  refine hz _ _ _ fun i _ hi => ?_
  obtain ⟨h1, h2, h3⟩ := h i (by omega)
  unfold clErr
  rw [if_neg (by simp only [Bool.or_eq_true, decide_eq_true_eq]; omega), if_neg (by omega)]
  refine hz _ _ _ fun j _ hj => kidErr_0 ?_
  have := h3 _ (mem_getD (show j < (g.getD i default).kids.length by omega))
  rw [decide_eq_false (by omega), decide_eq_false (by omega)]; rfl
theorem copy_check {g : List Cl} (hc : checkGr g = 0) : checkGr (copyGr g) = 0 := by
  by_cases h0 : g = []
  · subst h0; rfl
  · have hl := copy_len hc h0
    have hb := bfs_len hc h0
    have h24 := checkGr_len hc
    refine checkGr_of (by omega) fun i hi => ?_
    rw [hl] at hi ⊢
    have hx := good_at (bfs_good hc h0) hi
    have hp := cl_parts hc (i := ((bfs g).getD i 0).toNat) (by omega)
    refine ⟨?_, ?_, kid_idx hc h0 hi⟩
    · rw [copy_at hc h0 hi]; exact hp.1
    · rw [copy_at hc h0 hi]
      simp only [cpCell, List.length_map]; exact hp.2.1
theorem copy_copy {g : List Cl} (hc : checkGr g = 0) : copyGr (copyGr g) = copyGr g := by
  by_cases h0 : g = []
  · subst h0; rfl
  · have hl := copy_len hc h0
    refine ext_getD default ?_ fun q hq => ?_
    · rw [copy_len (copy_check hc) (copy_ne hc h0), bfs_of_copy hc h0, iota_len, hl]
    · rw [copy_len (copy_check hc) (copy_ne hc h0), bfs_of_copy hc h0, iota_len] at hq
      rw [copy_at (copy_check hc) (copy_ne hc h0) (by rw [bfs_of_copy hc h0, iota_len]; exact hq), bfs_of_copy hc h0, iota_at hq]
      unfold cpCell
      rw [Int.toNat_natCast]
      have : ((copyGr g).getD q default).kids.map (idx (iota (bfs g).length)) = ((copyGr g).getD q default).kids := by
        conv => rhs; rw [← List.map_id ((copyGr g).getD q default).kids]
        exact List.map_congr_left fun k hk => idx_iota (kid_idx hc h0 hq k hk)
      rw [this]
theorem copyR_1 {g : List Cl} (hc : checkGr g = 0) : copyR (copyGr g) = (copyGr g, 0) := by rw [copyR_o (copy_check hc), copy_copy hc]
def atI (k n : Int) : Int := if Int.tmod k n < 0 then Int.tmod k n + n else Int.tmod k n
theorem atI_in {k n : Int} (h : 0 < n) : 0 ≤ atI k n ∧ atI k n < n := by
  unfold atI
  have h1 := Int.tmod_lt_of_pos k h
  have h2 : -n < Int.tmod k n := by
    by_cases hk : 0 ≤ k
    · have := Int.tmod_nonneg n hk; omega
    · have h3 := Int.tmod_lt_of_pos (-k) h
      rw [Int.neg_tmod] at h3; omega
  split <;> omega
end Go.Proofs.Ytghkpailmdlhgaa
namespace Go.Proofs.Ytghkpailmdlhgaa
open Go.RowKit Go.Eng
theorem tmod_lo {k n : Int} (h : 0 < n) : -n < Int.tmod k n ∧ Int.tmod k n < n := by
  refine ⟨?_, Int.tmod_lt_of_pos k h⟩
  by_cases hk : 0 ≤ k
  · have := Int.tmod_nonneg n hk; omega
  · have h3 := Int.tmod_lt_of_pos (-k) h
    rw [Int.neg_tmod] at h3; omega
end Go.Proofs.Ytghkpailmdlhgaa
namespace Go.Proofs.Ytghkpailmdlhgaa
theorem copy_ok {g : List Cl} (h : (copyR g).2 = 0) : checkGr g = 0 := by
  by_cases hc : checkGr g = 0
  · exact hc
  · rw [copyR_e hc] at h; exact absurd h hc
end Go.Proofs.Ytghkpailmdlhgaa
namespace Go.Proofs.Ytghkpailmdlhgaa
open Go.RowKit Go.Eng
structure Pt where
  owner : Int
  turn : Int
  mate : Int
  came : List (List Cl)
  shut : Bool
  deriving DecidableEq, Inhabited
def gsRow (l : List (List Cl)) : SV := rowOf grG 1 [] l
def ptCell (p : Pt) : Nat → SV
  | 0 => iv p.owner
  | 1 => iv p.turn
  | 2 => iv p.mate
  | 3 => gsRow p.came
  | _ => bv p.shut
def ptRow (l : List Pt) : SV := rowOf ptCell 5 default l
def okGr (l : List Cl) : Prop := l.length ≤ maxLen ∧ ∀ x ∈ l, okCl x
theorem opens59 : Opens Try.prog 59 1 (fun l : List (List Cl) => l.length ≤ maxLen ∧ ∀ x ∈ l, okGr x) fun l _ => gsRow l := opens_slice [] Try.underlying59 opens35 co35 (by decide)
theorem zero71 : ZeroOk Try.prog 71 5 (cmpG [iv 0, iv 0, iv 0, .v (.slice none 0 0), bv false]) := by
  refine ⟨_, Try.zeroValue71, rfl, fun t ht => ?_⟩
  match t, ht with
  | 0, _ => exact ⟨_, rfl, rfl, fun _ _ => rfl⟩
  | 1, _ => exact ⟨_, rfl, rfl, fun _ _ => rfl⟩
  | 2, _ => exact ⟨_, rfl, rfl, fun _ _ => rfl⟩
  | 3, _ => exact ⟨_, rfl, rfl, fun _ _ => rfl⟩
  | 4, _ => exact ⟨_, rfl, rfl, fun _ _ => rfl⟩
def gErr (c : List (List Cl)) (j : Nat) : Int := checkGr (c.getD j [])
def poWho (l : List Pt) (fr : Int) (p : Pt) : Bool := decide (p.owner < 0) || decide (fr ≤ p.owner) || decide (p.mate < 0) || decide ((l.length : Int) ≤ p.mate)
def poForm (l : List Pt) (i : Nat) (p : Pt) : Bool := decide (p.mate = (i : Int)) || !decide ((l.getD (Int.toNat p.mate) default).mate = (i : Int))
def poTurn (p : Pt) : Bool := decide (p.turn < 0) || decide (1000 < p.turn)
def poMany (p : Pt) : Bool := decide (16 < (p.came.length : Int)) || (p.shut && decide (0 < (p.came.length : Int)))
def poErr (l : List Pt) (fr : Int) (i : Nat) : Int :=
  if poWho l fr (l.getD i default) = true then 4 else if poForm l i (l.getD i default) = true then 3 else if poTurn (l.getD i default) = true then 2 else if poMany (l.getD i default) = true then 1 else
    firstErr (gErr (l.getD i default).came) 0 (l.getD i default).came.length
def checkPo (l : List Pt) (fr : Int) : Int := if 12 < l.length then 1 else firstErr (poErr l fr) 0 l.length
theorem checkPo_1 {l : List Pt} {fr : Int} (h : 12 < (l.length : Int)) : checkPo l fr = 1 := by unfold checkPo; rw [if_pos (by omega)]
theorem checkPo_s {l : List Pt} {fr : Int} (h : ¬ 12 < (l.length : Int)) : checkPo l fr = firstErr (poErr l fr) 0 (l.length - 0) := by unfold checkPo; rw [if_neg (by omega)]; rfl
theorem checkPo_len {l : List Pt} {fr : Int} (h : checkPo l fr = 0) : l.length ≤ 12 := by
  unfold checkPo at h
  split at h
  · cases h
  · omega
theorem checkPo_at {l : List Pt} {fr : Int} (h : checkPo l fr = 0) {i : Nat} (hi : i < l.length) : poErr l fr i = 0 := by
  unfold checkPo at h
  split at h
  · cases h
  · exact firstErr_all _ _ h i (Nat.zero_le _) (by omega)
theorem po_4 {l : List Pt} {fr : Int} {i : Nat} (h : poWho l fr (l.getD i default) = true) : poErr l fr i = 4 := by unfold poErr; rw [if_pos h]
theorem po_3 {l : List Pt} {fr : Int} {i : Nat} (h : poWho l fr (l.getD i default) = false) (h1 : poForm l i (l.getD i default) = true) : poErr l fr i = 3 := by unfold poErr; rw [if_neg (ff h), if_pos h1]
theorem po_2 {l : List Pt} {fr : Int} {i : Nat} (h : poWho l fr (l.getD i default) = false) (h1 : poForm l i (l.getD i default) = false) (h2 : poTurn (l.getD i default) = true) : poErr l fr i = 2 := by unfold poErr; rw [if_neg (ff h), if_neg (ff h1), if_pos h2]
theorem po_1 {l : List Pt} {fr : Int} {i : Nat} (h : poWho l fr (l.getD i default) = false) (h1 : poForm l i (l.getD i default) = false) (h2 : poTurn (l.getD i default) = false) (h3 : poMany (l.getD i default) = true) : poErr l fr i = 1 := by unfold poErr; rw [if_neg (ff h), if_neg (ff h1), if_neg (ff h2), if_pos h3]
theorem po_s {l : List Pt} {fr : Int} {i : Nat} (h : poWho l fr (l.getD i default) = false) (h1 : poForm l i (l.getD i default) = false) (h2 : poTurn (l.getD i default) = false) (h3 : poMany (l.getD i default) = false) :
    poErr l fr i = firstErr (gErr (l.getD i default).came) 0 ((l.getD i default).came.length - 0) := by unfold poErr; rw [if_neg (ff h), if_neg (ff h1), if_neg (ff h2), if_neg (ff h3)]; rfl
theorem po_parts {l : List Pt} {fr : Int} (h : checkPo l fr = 0) {i : Nat} (hi : i < l.length) : (0 ≤ (l.getD i default).owner ∧ (l.getD i default).owner < fr) ∧ (0 ≤ (l.getD i default).mate ∧ (l.getD i default).mate < (l.length : Int)) ∧
    (l.getD i default).mate ≠ (i : Int) ∧ (l.getD (Int.toNat (l.getD i default).mate) default).mate = (i : Int) ∧ (0 ≤ (l.getD i default).turn ∧ (l.getD i default).turn ≤ 1000) ∧ (l.getD i default).came.length ≤ 16 ∧ ((l.getD i default).shut = true → (l.getD i default).came = []) ∧
    ∀ g ∈ (l.getD i default).came, checkGr g = 0 := by
  have h1 := checkPo_at h hi
  unfold poErr at h1
  split at h1
  · cases h1
  split at h1
  · cases h1
  split at h1
  · cases h1
  split at h1
  · cases h1
  rename_i a b c d
  simp only [poWho, poForm, poTurn, poMany, Bool.or_eq_true, Bool.and_eq_true, decide_eq_true_eq, Bool.not_eq_true', decide_eq_false_iff_not, not_or, not_and, Classical.not_not] at a b c d
  refine ⟨by omega, by omega, b.1, b.2, by omega, by omega, fun hs => ?_, fun g hg => ?_⟩
  · exact List.eq_nil_of_length_eq_zero (by have := d.2 hs; omega)
  · obtain ⟨j, hj, rfl⟩ := List.mem_iff_getElem.1 hg
    have := firstErr_all _ _ h1 j (Nat.zero_le _) (by omega)
    unfold gErr at this
    rwa [getD_lt hj] at this
theorem poWho_no {l : List Pt} {fr : Int} {p : Pt} (h : poWho l fr p = false) : 0 ≤ p.owner ∧ p.owner < fr ∧ 0 ≤ p.mate ∧ p.mate < (l.length : Int) := by
  simp only [poWho, Bool.or_eq_false_iff, decide_eq_false_iff_not] at h
  omega
def ownedPo (l : List Pt) (fr k o t : Int) : Int :=
  if checkPo l fr ≠ 0 then checkPo l fr else if (decide (k < 0) || decide ((l.length : Int) ≤ k)) = true then 4 else
  if (!decide ((l.getD (Int.toNat k) default).owner = o) || !decide ((l.getD (Int.toNat k) default).turn = t)) = true then 7 else if (l.getD (Int.toNat k) default).shut = true then 5 else 0
theorem owned_ok {l : List Pt} {fr k o t : Int} (h : ownedPo l fr k o t = 0) : checkPo l fr = 0 ∧ (0 ≤ k ∧ k < (l.length : Int)) ∧ (l.getD (Int.toNat k) default).shut = false := by
  unfold ownedPo at h
  split at h
  · exact absurd h ‹_›
  split at h
  · cases h
  split at h
  · cases h
  split at h
  · cases h
  rename_i a b c d
  simp only [Bool.or_eq_true, decide_eq_true_eq, not_or] at b
  exact ⟨Classical.not_not.1 a, by omega, by simpa using d⟩
def openR (l : List Pt) (fr o t : Int) : List Pt × Int × Int :=
  if checkPo l fr ≠ 0 then ([], 0, checkPo l fr) else if (decide (o < 0) || decide (fr ≤ o)) = true then ([], 0, 4) else if (decide (t < 0) || decide (1000 < t)) = true then ([], 0, 2) else if 12 < (l.length : Int) + 2 then ([], 0, 1) else
    (l ++ [⟨o, t, (l.length : Int) + 1, [], false⟩, ⟨o, t, (l.length : Int), [], false⟩], (l.length : Int), 0)
def passL (l : List Pt) (i : Nat) (to th : Int) : List Pt :=
  (l.set i { (l.getD i default) with owner := to }).set i { ((l.set i { (l.getD i default) with owner := to }).getD i default) with turn := th }
def passR (l : List Pt) (fr k o t to th : Int) : List Pt × Int :=
  if ownedPo l fr k o t ≠ 0 then ([], ownedPo l fr k o t) else if (decide (to < 0) || decide (fr ≤ to)) = true then ([], 4) else if (decide (th < 0) || decide (1000 < th)) = true then ([], 2) else (passL l (Int.toNat k) to th, 0)
def pushR (l : List Pt) (fr k o t : Int) (g : List Cl) : List Pt × Int :=
  if ownedPo l fr k o t ≠ 0 then ([], ownedPo l fr k o t) else if (copyR g).2 ≠ 0 then ([], (copyR g).2) else if (l.getD (Int.toNat (l.getD (Int.toNat k) default).mate) default).shut = true then ([], 5) else if ((l.getD (Int.toNat (l.getD (Int.toNat k) default).mate) default).came.length : Int) = 16 then ([], 1) else
    (l.set (Int.toNat (l.getD (Int.toNat k) default).mate) { (l.getD (Int.toNat (l.getD (Int.toNat k) default).mate) default) with came := (l.getD (Int.toNat (l.getD (Int.toNat k) default).mate) default).came ++ [(copyR g).1] }, 0)
def pullR (l : List Pt) (fr k o t : Int) : List Pt × List Cl × Int :=
  if ownedPo l fr k o t ≠ 0 then ([], [], ownedPo l fr k o t) else if ((l.getD (Int.toNat k) default).came.length : Int) = 0 then ([], [], 8) else
    (l.set (Int.toNat k) { (l.getD (Int.toNat k) default) with came := (l.getD (Int.toNat k) default).came.drop 1 }, (l.getD (Int.toNat k) default).came.getD 0 [], 0)
def shutL (l : List Pt) (i : Nat) : List Pt :=
  (l.set i { (l.getD i default) with shut := true }).set i { ((l.set i { (l.getD i default) with shut := true }).getD i default) with came := [] }
def shutR (l : List Pt) (fr k o t : Int) : List Pt × Int :=
  if ownedPo l fr k o t ≠ 0 then ([], ownedPo l fr k o t) else (shutL l (Int.toNat k), 0)
theorem rown_k {l : List Pt} {k : Int} : (!inI k 0 ((l.length : Int) - 1)) = (decide (k < 0) || decide ((l.length : Int) ≤ k)) := by
  rw [Bool.eq_iff_iff]
  simp only [inI, Bool.or_eq_true, Bool.not_eq_true', Bool.and_eq_false_iff, decide_eq_false_iff_not, decide_eq_true_eq]
  omega
theorem own_7 {l : List Pt} {fr k o t : Int} (h : checkPo l fr = 0) (h1 : (!inI k 0 ((l.length : Int) - 1)) = false) (h2 : (!decide ((l.getD (Int.toNat k) default).owner = o) || !decide ((l.getD (Int.toNat k) default).turn = t)) = true) : ownedPo l fr k o t = 7 := by
  rw [ownedPo, if_neg (not_not_intro h), if_neg (ff (rown_k.symm.trans h1)), if_pos h2]
theorem own_0 {l : List Pt} {fr k o t : Int} (h : checkPo l fr = 0) (h1 : (!inI k 0 ((l.length : Int) - 1)) = false) (h2 : (!decide ((l.getD (Int.toNat k) default).owner = o) || !decide ((l.getD (Int.toNat k) default).turn = t)) = false) (h3 : (l.getD (Int.toNat k) default).shut = false) : ownedPo l fr k o t = 0 := by
  rw [ownedPo, if_neg (not_not_intro h), if_neg (ff (rown_k.symm.trans h1)), if_neg (ff h2), if_neg (ff h3)]
theorem set_same {α : Type} {d : α} : ∀ {l : List α} {i : Nat} {y : α}, i < l.length → y = l.getD i d → l.set i y = l
  | _ :: _, 0, _, _, h => by rw [h]; rfl
  | x :: l, i + 1, y, hi, h => by rw [List.set_cons_succ, set_same (l := l) (i := i) (by simpa using hi) (h.trans (by rw [List.getD_cons_succ]))]
theorem mem_getG {l : List (List Cl)} {i : Nat} (h : i < l.length) : l.getD i [] ∈ l := by rw [getD_lt h]; exact List.getElem_mem _
theorem set_kids {g : List Cl} {i : Nat} (h : i < g.length) : g.set i { (g.getD i default) with kids := (g.getD i default).kids } = g := set_same h rfl
theorem set_came {l : List Pt} {i : Nat} (h : i < l.length) : l.set i { (l.getD i default) with came := (l.getD i default).came } = l := set_same h rfl
end Go.Proofs.Ytghkpailmdlhgaa
namespace Go.Proofs.Ytghkpailmdlhgaa
open Go.RowKit Go.Eng
theorem pcheck_ct (l : List Pt) (fr : Int) : Ct Try.prog 55 [ptRow l, iv (fr)] (iv (checkPo l fr)) := by
 refine CtO 91 Try.func55 rfl rfl rfl fun E => Rl (V (s := 0) rfl) fun hl0 => Sq <| Rq <| O (As K) <| Nq <| Sq <| Sq <| Rq <| O (Mv (V rfl)) <| O (Ln (V rfl) ts60) <| O (Gt (V rfl) K) <| Nq <| Cd (V rfl) (fun hc1 => ?_) (fun hc1 => ?_)
 ·have hc1s := hc1; try simp only [BL] at hc1s
  exact Sq <| Rq <| O (As K) <| Nq <| Rx <| R1 rfl (V rfl) rfl (by show iv (1) = iv (checkPo l fr); rw [checkPo_1 hc1s])
 ·have hc1s := hc1; try simp only [BL] at hc1s
  refine Sk <| Sq <| Sq <| Rq <| O (Mv (V rfl)) <| O (Ln (V rfl) ts60) <| O (Mv K) <| Nq <| Bo <| Lo (fun (i : Nat) => ⟨[(0, ptRow l), (1, iv (fr)), (13, ptRow l), (14, iv ((l.length : Int))), (15, iv ((i : Int)))], []⟩) (fun (i : Nat) => i ≤ l.length ∧ checkPo l fr = firstErr (poErr l fr) i (l.length - i)) (fun (i : Nat) => l.length - i) 0 (by show 0 ≤ l.length ∧ checkPo l fr = firstErr (poErr l fr) 0 (l.length - 0); exact ⟨Nat.zero_le _, checkPo_s hc1s⟩) (We (Vs rfl) Z) <| ?_
  ·rintro i hI1
   have hJ1 : i ≤ l.length ∧ checkPo l fr = firstErr (poErr l fr) i (l.length - i) := hI1
   refine Sq <| Rq <| O (Lt (V rfl) (V rfl)) <| Nq <| Sq <| Cd (V rfl) (fun hc2 => ?_) (fun hc2 => ?_)
   ·have hc2s := hc2; try simp only [BL] at hc2s
    refine Sk <| Sq <| Bo <| Sq <| Rt <| U (Mv (V rfl)) <| U (IxN (i := i) (V rfl) (V rfl) ts60 te60 (by omega)) <| U (LdA (V rfl) Ga71 Sz71 (by decide)) <| Al 1 zero71 rfl rfl <| U (As (V rfl)) <| StA (V rfl) rfl (V rfl) Sz71 <| Nt <| Sq <| Sq <| Rq <| O (FlB _ _ (V rfl) Un71 rfl 0 Sz3) <| O (LdB (V rfl) rfl Ga3 (by decide)) <| O (Lt (V rfl) K) <| O (Mv (V rfl)) <| Og (Gn rfl rfl) (fun hg => FlB _ _ (V rfl) Un71 rfl 0 Sz3) <| Og (Gn rfl rfl) (fun hg => LdB (Vg (V rfl) hg) rfl Ga3 (by decide)) <| Og (Gn rfl rfl) (fun hg => Mv (V rfl)) <| Og (Gn rfl rfl) (fun hg => Ge (Vg (V rfl) hg) (Vg (V rfl) hg)) <| O (Qr (V rfl) (fun h => Vg (V rfl) (notT h))) <| O (Mv (V rfl)) <| Og (Gn rfl rfl) (fun hg => FlB _ _ (V rfl) Un71 rfl 0 Sz3) <| Og (Gn rfl rfl) (fun hg => LdB (Vg (V rfl) hg) rfl Ga3 (by decide)) <| Og (Gn rfl rfl) (fun hg => Lt (Vg (V rfl) hg) K) <| O (Qr (V rfl) (fun h => Vg (V rfl) (notT h))) <| O (Mv (V rfl)) <| Og (Gn rfl rfl) (fun hg => FlB _ _ (V rfl) Un71 rfl 0 Sz3) <| Og (Gn rfl rfl) (fun hg => LdB (Vg (V rfl) hg) rfl Ga3 (by decide)) <| Og (Gn rfl rfl) (fun hg => Mv (V rfl)) <| Og (Gn rfl rfl) (fun hg => Ln (Vg (V rfl) hg) ts60) <| Og (Gn rfl rfl) (fun hg => Ge (Vg (V rfl) hg) (Vg (V rfl) hg)) <| O (Qr (V rfl) (fun h => Vg (V rfl) (notT h))) <| Nq <| Cd (V rfl) (fun hc3 => ?_) (fun hc3 => ?_)
    ·have hc3s := hc3; try simp only [BL] at hc3s
     exact Sq <| Rq <| O (As K) <| Nq <| Rx <| R1 rfl (V rfl) rfl (by show iv (4) = iv (checkPo l fr); rw [firstErr_hit (by omega) hJ1.2 (po_4 hc3) (by decide)])
    ·have hc3s := hc3; try simp only [BL] at hc3s
     have hw := poWho_no hc3
     refine Sk <| Sq <| Sq <| Rq <| O (FlB _ _ (V rfl) Un71 rfl 0 Sz3) <| O (LdB (V rfl) rfl Ga3 (by decide)) <| O (Mv (V rfl)) <| O (Ql (V rfl) (V rfl)) <| O (Mv (V rfl)) <| Og (Gn rfl rfl) (fun hg => Mv (V rfl)) <| Og (Gn rfl rfl) (fun hg => FlB _ _ (V rfl) Un71 rfl 0 Sz3) <| Og (Gn rfl rfl) (fun hg => LdB (Vg (V rfl) hg) rfl Ga3 (by decide)) <| Og (Gn rfl rfl) (fun hg => Ix (Vg (V rfl) hg) (Vg (V rfl) hg) ts60 te60 (by omega) (by omega)) <| Og (Gn rfl rfl) (fun hg => Fl _ _ (Vg (V rfl) hg) Un71 rfl 0 Sz3) <| Og (Gn rfl rfl) (fun hg => Ld (Vg (V rfl) hg) Ga3 (by decide)) <| Og (Gn rfl rfl) (fun hg => Mv (V rfl)) <| Og (Gn rfl rfl) (fun hg => Qn (Vg (V rfl) hg) (Vg (V rfl) hg)) <| O (Qr (V rfl) (fun h => Vg (V rfl) (notT h))) <| Nq <| Cd (V rfl) (fun hc4 => ?_) (fun hc4 => ?_)
     ·have hc4s := hc4; try simp only [BL] at hc4s
      exact Sq <| Rq <| O (As K) <| Nq <| Rx <| R1 rfl (V rfl) rfl (by show iv (3) = iv (checkPo l fr); rw [firstErr_hit (by omega) hJ1.2 (po_3 hc3 hc4) (by decide)])
     ·have hc4s := hc4; try simp only [BL] at hc4s
      refine Sk <| Sq <| Sq <| Rq <| O (FlB _ _ (V rfl) Un71 rfl 0 Sz3) <| O (LdB (V rfl) rfl Ga3 (by decide)) <| O (Lt (V rfl) K) <| O (Mv (V rfl)) <| Og (Gn rfl rfl) (fun hg => FlB _ _ (V rfl) Un71 rfl 0 Sz3) <| Og (Gn rfl rfl) (fun hg => LdB (Vg (V rfl) hg) rfl Ga3 (by decide)) <| Og (Gn rfl rfl) (fun hg => Gt (Vg (V rfl) hg) K) <| O (Qr (V rfl) (fun h => Vg (V rfl) (notT h))) <| Nq <| Cd (V rfl) (fun hc5 => ?_) (fun hc5 => ?_)
      ·have hc5s := hc5; try simp only [BL] at hc5s
       exact Sq <| Rq <| O (As K) <| Nq <| Rx <| R1 rfl (V rfl) rfl (by show iv (2) = iv (checkPo l fr); rw [firstErr_hit (by omega) hJ1.2 (po_2 hc3 hc4 hc5) (by decide)])
      ·have hc5s := hc5; try simp only [BL] at hc5s
       refine Sk <| Sq <| Sq <| Rq <| O (FlB _ _ (V rfl) Un71 rfl 0 Sz59) <| O (LdB (V rfl) rfl Ga59 (by decide)) <| O (Ln (V rfl) ts59) <| O (Gt (V rfl) K) <| O (Mv (V rfl)) <| Og (Gn rfl rfl) (fun hg => FlB _ _ (V rfl) Un71 rfl 0 Sz4) <| Og (Gn rfl rfl) (fun hg => LdB (Vg (V rfl) hg) rfl Ga4 (by decide)) <| Og (Gn rfl rfl) (fun hg => Mv (Vg (V rfl) hg)) <| Og (Gyy rfl rfl) (fun hg => FlB _ _ (V rfl) Un71 rfl 0 Sz59) <| Og (Gyy rfl rfl) (fun hg => LdB (Vg (V rfl) hg) rfl Ga59 (by decide)) <| Og (Gyy rfl rfl) (fun hg => Ln (Vg (V rfl) hg) ts59) <| Og (Gyy rfl rfl) (fun hg => Gt (Vg (V rfl) hg) K) <| Og (Gn rfl rfl) (fun hg => Qa (Vg (V rfl) hg) (fun h => Vg (V rfl) (andI hg h))) <| O (Qr (V rfl) (fun h => Vg (V rfl) (notT h))) <| Nq <| Cd (V rfl) (fun hc6 => ?_) (fun hc6 => ?_)
       ·have hc6s := hc6; try simp only [BL] at hc6s
        exact Sq <| Rq <| O (As K) <| Nq <| Rx <| R1 rfl (V rfl) rfl (by show iv (1) = iv (checkPo l fr); rw [firstErr_hit (by omega) hJ1.2 (po_1 hc3 hc4 hc5 hc6) (by decide)])
       ·have hc6s := hc6; try simp only [BL] at hc6s
        refine Sk <| Sq <| Rq <| O (FlB _ _ (V rfl) Un71 rfl 0 Sz59) <| O (LdB (V rfl) rfl Ga59 (by decide)) <| O (Ln (V rfl) ts59) <| O (Mv K) <| Nq <| Bo <| Lo (fun (j : Nat) => ⟨[(0, ptRow l), (1, iv (fr)), (13, ptRow l), (14, iv ((l.length : Int))), (15, iv ((i : Int))), (78, gsRow ((l.getD i default).came)), (79, iv ((((l.getD i default).came).length : Int))), (80, iv ((j : Int)))], []⟩) (fun (j : Nat) => j ≤ (l.getD i default).came.length ∧ poErr l fr i = firstErr (gErr (l.getD i default).came) j ((l.getD i default).came.length - j)) (fun (j : Nat) => (l.getD i default).came.length - j) 0 (by show 0 ≤ (l.getD i default).came.length ∧ poErr l fr i = firstErr (gErr (l.getD i default).came) 0 ((l.getD i default).came.length - 0); exact ⟨Nat.zero_le _, po_s hc3 hc4 hc5 hc6⟩) (We (Vs rfl) Z) <| ?_
        ·rintro j hI2
         have hJ2 : j ≤ (l.getD i default).came.length ∧ poErr l fr i = firstErr (gErr (l.getD i default).came) j ((l.getD i default).came.length - j) := hI2
         refine Sq <| Rq <| O (Lt (V rfl) (V rfl)) <| Nq <| Sq <| Cd (V rfl) (fun hc7 => ?_) (fun hc7 => ?_)
         ·have hc7s := hc7; try simp only [BL] at hc7s
          refine Sk <| Sq <| Bo <| Sq <| Rt <| U (IxN (i := j) (V rfl) (V rfl) ts59 te59 (by omega)) <| U (LdA (V rfl) Ga35 Sz35 (by decide)) <| Al 2 zero35 rfl rfl <| StA (V rfl) rfl (V rfl) Sz35 <| Nt <| Sq <| Rq <| O (LBA (V rfl) rfl Ga35 Sz35 (by decide)) <| CQ en28 (by exact ⟨⟨(Vi (g' := grG ((((l.getD i default).came).getD j []))) (V rfl) ⟨Z, Ir⟩), rfl⟩, Z⟩) (gcheck_ct ((((l.getD i default).came).getD j []))) <| O (As (V rfl)) <| Nq <| Sq <| Rq <| O (Mv (V rfl)) <| O (Qn (V rfl) K) <| Nq <| Cd (V rfl) (fun hc8 => ?_) (fun hc8 => ?_)
          ·have hc8s := hc8; try simp only [BL] at hc8s
           exact Sq <| Rq <| O (Mv (V rfl)) <| O (As (V rfl)) <| Nq <| Rx <| R1 rfl (V rfl) rfl (by show iv (checkGr ((((l.getD i default).came).getD j []))) = iv (checkPo l fr); rw [firstErr_hit (by omega) hJ1.2 (firstErr_hit (by omega) hJ2.2 rfl hc8s) hc8s]; rfl)
          ·have hc8s := hc8; try simp only [BL] at hc8s
           exact Sk <| Rq <| O (Ad (V rfl) K (by omega)) <| O (Mv (V rfl)) <| Nq <| Nx (j + 1) (by show (j + 1) ≤ (l.getD i default).came.length ∧ poErr l fr i = firstErr (gErr (l.getD i default).came) (j + 1) ((l.getD i default).came.length - (j + 1)); exact ⟨by omega, firstErr_next (by omega) hJ2.2 hc8s⟩) (by show (l.getD i default).came.length - (j + 1) < (l.getD i default).came.length - j; omega) (We (Vs rfl) Z)
         ·have hc7s := hc7; try simp only [BL] at hc7s
          exact Ex <| Rq <| O (Ad (V rfl) K (by omega)) <| O (Mv (V rfl)) <| Nq <| Nx (i + 1) (by show (i + 1) ≤ l.length ∧ checkPo l fr = firstErr (poErr l fr) (i + 1) (l.length - (i + 1)); exact ⟨by omega, firstErr_next (by omega) hJ1.2 (by rw [hJ2.2, Nat.sub_eq_zero_of_le (by omega)]; rfl)⟩) (by show l.length - (i + 1) < l.length - i; omega) (We (Vs rfl) Z)
   ·have hc2s := hc2; try simp only [BL] at hc2s
    exact Ex <| Sq <| Rq <| O (As K) <| Nq <| Rx <| R1 rfl (V rfl) rfl (by show iv (0) = iv (checkPo l fr); rw [firstErr_end (by omega) hJ1.2])
end Go.Proofs.Ytghkpailmdlhgaa
namespace Go.Proofs.Ytghkpailmdlhgaa
open Go.RowKit Go.Eng
theorem cloneIn_ct (l : List Int) (hl : l.length ≤ 100) : CtM Try.prog 94 [inRow l] [] (SV.own 0) [(0, ownOf inCell 1 0 l 3)] := by
 refine CmO 8 Try.func94 rfl rfl rfl fun E => Rl (V (s := 0) rfl) fun hl0 => Sq <| Rt <| t_nilO 1 1 (rowG inCell 0 []) 3 (.inl rfl) rfl <| Nt <| Sq <| Sq <| Rq <| O (Mv (V rfl)) <| tq_isnil (V rfl) (eqnil Un24) fun isn hisn => Nq <| Cd (V rfl) (fun hc1 => ?_) (fun hc1 => ?_)
 ·have hc1s := hc1; try simp only [BL] at hc1s
  exact Sq <| Rt <| t_nilO 2 1 (rowG inCell 0 []) 3 (.inl rfl) rfl <| Nt <| c_mv 2 0 rfl rfl <| c_ownE 0 l rfl (by exact (List.eq_nil_of_length_eq_zero (hisn hc1)).symm) <| Rx <| M1 rfl (V rfl) (by exact ⟨⟨_, rfl, rfl⟩, Z⟩) (by show SV.own 0 = SV.own 0; rfl)
 ·have hc1s := hc1; try simp only [BL] at hc1s
  exact Sk <| Sq <| Rt <| t_bs0 3 (rowG inCell 0 []) Un24 Sz3 rfl <| U (Mv (V rfl)) <| Ap 4 (rowG inCell 0 (([]) ++ l)) eo24 (V rfl) rfl (V rfl) rfl (len_app ([]) l) (by first | (simp only [maxLen, List.length_append, List.length_set, List.length_nil, List.length_cons]; omega) | (simp only [maxLen]; omega)) (by first | (simp only [List.length_append, List.length_set, List.length_nil, List.length_cons]; omega) | (omega)) (app_typed (l := ([])) (m := l)) <| U (As (V rfl)) <| Nt <| c_mv 4 0 rfl rfl <| c_ownE 0 l rfl (by rfl) <| Rx <| M1 rfl (V rfl) (by exact ⟨⟨_, rfl, rfl⟩, Z⟩) (by show SV.own 0 = SV.own 0; rfl)
theorem cloneCl_ct (l : List Cl) (hl : l.length ≤ 24) : CtM Try.prog 38 [clRow l] [] (SV.own 0) [(0, ownOf clCell 2 default l 43)] := by
 refine CmO 8 Try.func38 rfl rfl rfl fun E => Rl (V (s := 0) rfl) fun hl0 => Sq <| Rt <| t_nilO 1 2 (rowG clCell default []) 43 (.inl rfl) rfl <| Nt <| Sq <| Sq <| Rq <| O (Mv (V rfl)) <| tq_isnil (V rfl) (eqnil Un33) fun isn hisn => Nq <| Cd (V rfl) (fun hc1 => ?_) (fun hc1 => ?_)
 ·have hc1s := hc1; try simp only [BL] at hc1s
  exact Sq <| Rt <| t_nilO 2 2 (rowG clCell default []) 43 (.inl rfl) rfl <| Nt <| c_mv 2 0 rfl rfl <| c_ownE 0 l rfl (by exact (List.eq_nil_of_length_eq_zero (hisn hc1)).symm) <| Rx <| M1 rfl (V rfl) (by exact ⟨⟨_, rfl, rfl⟩, Z⟩) (by show SV.own 0 = SV.own 0; rfl)
 ·have hc1s := hc1; try simp only [BL] at hc1s
  exact Sk <| Sq <| Rt <| t_bs0 3 (rowG clCell default []) Un33 Sz43 rfl <| U (Mv (V rfl)) <| Ap 4 (rowG clCell default (([]) ++ l)) eo33 (V rfl) rfl (V rfl) rfl (len_app ([]) l) (by first | (simp only [maxLen, List.length_append, List.length_set, List.length_nil, List.length_cons]; omega) | (simp only [maxLen]; omega)) (by first | (simp only [List.length_append, List.length_set, List.length_nil, List.length_cons]; omega) | (omega)) (app_typed (l := ([])) (m := l)) <| U (As (V rfl)) <| Nt <| c_mv 4 0 rfl rfl <| c_ownE 0 l rfl (by rfl) <| Rx <| M1 rfl (V rfl) (by exact ⟨⟨_, rfl, rfl⟩, Z⟩) (by show SV.own 0 = SV.own 0; rfl)
theorem clonePt_ct (l : List Pt) (hl : l.length ≤ 100) : CtM Try.prog 87 [ptRow l] [] (SV.own 0) [(0, ownOf ptCell 5 default l 71)] := by
 refine CmO 8 Try.func87 rfl rfl rfl fun E => Rl (V (s := 0) rfl) fun hl0 => Sq <| Rt <| t_nilO 1 5 (rowG ptCell default []) 71 (.inl rfl) rfl <| Nt <| Sq <| Sq <| Rq <| O (Mv (V rfl)) <| tq_isnil (V rfl) (eqnil Un60) fun isn hisn => Nq <| Cd (V rfl) (fun hc1 => ?_) (fun hc1 => ?_)
 ·have hc1s := hc1; try simp only [BL] at hc1s
  exact Sq <| Rt <| t_nilO 2 5 (rowG ptCell default []) 71 (.inl rfl) rfl <| Nt <| c_mv 2 0 rfl rfl <| c_ownE 0 l rfl (by exact (List.eq_nil_of_length_eq_zero (hisn hc1)).symm) <| Rx <| M1 rfl (V rfl) (by exact ⟨⟨_, rfl, rfl⟩, Z⟩) (by show SV.own 0 = SV.own 0; rfl)
 ·have hc1s := hc1; try simp only [BL] at hc1s
  exact Sk <| Sq <| Rt <| t_bs0 3 (rowG ptCell default []) Un60 Sz71 rfl <| U (Mv (V rfl)) <| Ap 4 (rowG ptCell default (([]) ++ l)) eo60 (V rfl) rfl (V rfl) rfl (len_app ([]) l) (by first | (simp only [maxLen, List.length_append, List.length_set, List.length_nil, List.length_cons]; omega) | (simp only [maxLen]; omega)) (by first | (simp only [List.length_append, List.length_set, List.length_nil, List.length_cons]; omega) | (omega)) (app_typed (l := ([])) (m := l)) <| U (As (V rfl)) <| Nt <| c_mv 4 0 rfl rfl <| c_ownE 0 l rfl (by rfl) <| Rx <| M1 rfl (V rfl) (by exact ⟨⟨_, rfl, rfl⟩, Z⟩) (by show SV.own 0 = SV.own 0; rfl)
theorem cloneGs_ct (l : List ((List Cl))) (hl : l.length ≤ 100) : CtM Try.prog 88 [gsRow l] [] (SV.own 0) [(0, ownOf grG 1 ([]) l 35)] := by
 refine CmO 8 Try.func88 rfl rfl rfl fun E => Rl (V (s := 0) rfl) fun hl0 => Sq <| Rt <| t_nilO 1 1 (rowG grG ([]) []) 35 (.inl rfl) rfl <| Nt <| Sq <| Sq <| Rq <| O (Mv (V rfl)) <| tq_isnil (V rfl) (eqnil Un59) fun isn hisn => Nq <| Cd (V rfl) (fun hc1 => ?_) (fun hc1 => ?_)
 ·have hc1s := hc1; try simp only [BL] at hc1s
  exact Sq <| Rt <| t_nilO 2 1 (rowG grG ([]) []) 35 (.inl rfl) rfl <| Nt <| c_mv 2 0 rfl rfl <| c_ownE 0 l rfl (by exact (List.eq_nil_of_length_eq_zero (hisn hc1)).symm) <| Rx <| M1 rfl (V rfl) (by exact ⟨⟨_, rfl, rfl⟩, Z⟩) (by show SV.own 0 = SV.own 0; rfl)
 ·have hc1s := hc1; try simp only [BL] at hc1s
  exact Sk <| Sq <| Rt <| t_bs0 3 (rowG grG ([]) []) Un59 Sz35 rfl <| U (Mv (V rfl)) <| Ap 4 (rowG grG ([]) (([]) ++ l)) eo59 (V rfl) rfl (V rfl) rfl (len_app ([]) l) (by first | (simp only [maxLen, List.length_append, List.length_set, List.length_nil, List.length_cons]; omega) | (simp only [maxLen]; omega)) (by first | (simp only [List.length_append, List.length_set, List.length_nil, List.length_cons]; omega) | (omega)) (app_typed (l := ([])) (m := l)) <| U (As (V rfl)) <| Nt <| c_mv 4 0 rfl rfl <| c_ownE 0 l rfl (by rfl) <| Rx <| M1 rfl (V rfl) (by exact ⟨⟨_, rfl, rfl⟩, Z⟩) (by show SV.own 0 = SV.own 0; rfl)
theorem own_ct (g : List Cl) (hc0 : checkGr g = 0) : Ct Try.prog 89 [SV.agg 1 (grG g)] (SV.agg 1 (grG g)) := by
 have h24 := checkGr_len hc0
 refine CtO 27 Try.func89 rfl rfl rfl fun E => row_lenA 0 (V (s := 0) rfl) rfl rfl fun hl0_0 => Sq <| Rt <| BxA 1 (V rfl) rfl rfl <| Al 2 zero35 rfl rfl <| Nt <| Sq <| Rt <| U (FlB _ _ (V rfl) Un35 rfl 0 Sz33) <| U (LdB (V rfl) rfl Ga33 (by decide)) <| CM (cargs := [clRow g]) [] [(0, 3)] en38 (mv0 (by exact ⟨⟨(V rfl), rfl⟩, Z⟩)) (cloneCl_ct g (by omega)) (by exact Z) rfl rfl rfl rfl <| U (FlB _ _ (V rfl) Un35 rfl 0 Sz33) <| t_st1V (V rfl) rfl (V rfl) (one_own rfl) Sz33 (by decide) <| Nt <| Sq <| Sq <| Rq <| O (FlB _ _ (V rfl) Un35 rfl 0 Sz33) <| O (LdB (V rfl) rfl Ga33 (by decide)) <| O (LnO (V rfl) rfl ts33) <| O (Mv K) <| Nq <| Bo <| c_mv 3 60 rfl rfl <| Lo (fun (i : Nat) => ⟨[(1, SV.bp 1 0), (2, SV.bp 2 0), (10, SV.own 60), (11, iv ((g.length : Int))), (12, iv ((i : Int)))], [(1, Own.box 1 (fun _ => SV.own 60) 35), (2, Own.box 1 (fun zt => SV.renm (mvN 3 60) ((cmpG [SV.v (Value.slice none 0 0)]) zt)) 35), (60, ownOf clCell 2 default g 43)]⟩) (fun (i : Nat) => i ≤ g.length) (fun (i : Nat) => g.length - i) 0 (by show 0 ≤ g.length; exact Nat.zero_le _) (We (ow := [(1, Own.box 1 (fun _ => SV.own 60) 35), (2, Own.box 1 (fun zt => SV.renm (mvN 3 60) ((cmpG [SV.v (Value.slice none 0 0)]) zt)) 35), (60, ownOf clCell 2 default g 43)]) (Vs rfl) (by exact ⟨⟨_, rfl, rfl, rfl, (An rfl)⟩, ⟨_, rfl, rfl, rfl, (An rfl)⟩, ⟨_, rfl, rfl⟩, Z⟩)) <| ?_
 ·rintro i hI1
  have hJ1 : i ≤ g.length := hI1
  refine Sq <| Rq <| O (Lt (V rfl) (V rfl)) <| Nq <| Sq <| Cd (V rfl) (fun hc1 => ?_) (fun hc1 => ?_)
  ·have hc1s := hc1; try simp only [BL] at hc1s
   have h8 := (cl_parts hc0 (i := i) (by omega)).2.1
   refine Sk <| Sq <| Bo <| Sq <| Rt <| U (Mv (V rfl)) <| U (IOn (i := i) (V rfl) rfl (V rfl) ts33 te33 (by omega)) <| U (LOA (V rfl) rfl Ga43 Sz43 (by decide)) <| Al 4 zero43 rfl rfl <| U (As (V rfl)) <| StA (V rfl) rfl (V rfl) Sz43 <| Nt <| c_rd (fun e => ⟨[(17, cj (e 0) (SV.bp 1 0)), (18, cj (e 1) (SV.own 60)), (19, cj (e 2) (iv ((i : Int)))), (20, cj (e 3) (SV.bp 4 1)), (21, cj (e 4) (inRow ((g.getD i default).kids))), (22, cj (e 5) (cjn (e 8) (SV.own 5))), (23, cj (e 6) (SV.oe 60 2 i 0)), (24, cj (e 7) (SV.oe 60 2 i 1)), (1, SV.bp 1 0), (2, SV.bp 2 0), (3, iv ((i : Int))), (4, SV.bp 4 0), (10, SV.own 60), (11, iv ((g.length : Int))), (12, iv ((i : Int)))], (cb (e 5) (cb (e 8) [(1, Own.box 1 (fun _ => SV.own 60) 35), (2, Own.box 1 (fun zt => SV.renm (mvN 3 60) ((cmpG [SV.v (Value.slice none 0 0)]) zt)) 35), (4, Own.box 2 (fun zi => (rowG clCell default g) i (0 + zi)) 43), (60, ownOf clCell 2 default (g.set i ({ (g.getD i default) with kids := (g.getD i default).kids })) 43)] [(1, Own.box 1 (fun _ => SV.own 60) 35), (2, Own.box 1 (fun zt => SV.renm (mvN 3 60) ((cmpG [SV.v (Value.slice none 0 0)]) zt)) 35), (4, Own.box 2 (fun zi => (rowG clCell default g) i (0 + zi)) 43), (60, ownOf clCell 2 default g 43), (5, ownOf inCell 1 0 ((g.getD i default).kids) 3)]) (cb (e 8) [] [(1, Own.box 1 (fun _ => SV.own 60) 35), (2, Own.box 1 (fun zt => SV.renm (mvN 3 60) ((cmpG [SV.v (Value.slice none 0 0)]) zt)) 35), (4, Own.box 2 (fun zi => (rowG clCell default g) i (0 + zi)) 43), (60, ownOf clCell 2 default g 43)]))⟩) ⟨[(17, SV.bp 1 0), (18, SV.own 60), (19, iv ((i : Int))), (20, SV.bp 4 1), (21, inRow ((g.getD i default).kids)), (23, SV.oe 60 2 i 0), (24, SV.oe 60 2 i 1), (1, SV.bp 1 0), (2, SV.bp 2 0), (3, iv ((i : Int))), (4, SV.bp 4 0), (10, SV.own 60), (11, iv ((g.length : Int))), (12, iv ((i : Int)))], [(1, Own.box 1 (fun _ => SV.own 60) 35), (2, Own.box 1 (fun zt => SV.renm (mvN 3 60) ((cmpG [SV.v (Value.slice none 0 0)]) zt)) 35), (4, Own.box 2 (fun zi => (rowG clCell default g) i (0 + zi)) 43), (60, ownOf clCell 2 default (g.set i ({ (g.getD i default) with kids := (g.getD i default).kids })) 43)]⟩ (by kernel_rfl) (by kernel_rfl) ?_ ⟨?_, ?_, ?_, ?_, ?_, ?_, ?_, ?_, ?_, Z⟩ ?_ ?_
   ·show Weak _ _ ⟨[(17, SV.junk), (18, SV.junk), (19, SV.junk), (20, SV.junk), (21, SV.junk), (22, SV.junk), (23, SV.junk), (24, SV.junk), (1, SV.bp 1 0), (2, SV.bp 2 0), (3, iv ((i : Int))), (4, SV.bp 4 0), (10, SV.own 60), (11, iv ((g.length : Int))), (12, iv ((i : Int)))], [(1, Own.box 1 (fun _ => SV.own 60) 35), (2, Own.box 1 (fun zt => SV.renm (mvN 3 60) ((cmpG [SV.v (Value.slice none 0 0)]) zt)) 35), (4, Own.box 2 (fun zi => (rowG clCell default g) i (0 + zi)) 43), (60, ownOf clCell 2 default g 43)]⟩
    refine We ?_ ?_
    ·exact ⟨Vj, Vj, Vj, Vj, Vj, Vj, Vj, Vj, V rfl, V rfl, V rfl, V rfl, V rfl, V rfl, V rfl, Z⟩
    ·exact ⟨⟨_, rfl, ⟨rfl, rfl, (An rfl)⟩⟩, ⟨_, rfl, ⟨rfl, rfl, (An rfl)⟩⟩, ⟨_, rfl, ⟨rfl, rfl, (An rfl)⟩⟩, ⟨_, rfl, rfl⟩, Z⟩
   ·intro e hdn he hdp
    have h8 : e 8 = false := fls he fun q => by obtain ⟨r7, -, -, -, -, -, -, -, -, -⟩ := (show e 7 = true ∧ e 5 = true ∧ e 5 = true ∧ e 0 = true ∧ e 1 = true ∧ e 2 = true ∧ e 3 = true ∧ e 4 = true ∧ e 5 = true ∧ True from hdn 8 q); obtain ⟨r6, -, -, -, -, -, -, -⟩ := (show e 6 = true ∧ e 0 = true ∧ e 1 = true ∧ e 2 = true ∧ e 3 = true ∧ e 4 = true ∧ e 5 = true ∧ True from hdn 7 r7); obtain ⟨r1, -, -, -, -, -, -, -, -⟩ := (show e 1 = true ∧ e 2 = true ∧ e 0 = true ∧ e 1 = true ∧ e 2 = true ∧ e 3 = true ∧ e 4 = true ∧ e 5 = true ∧ True from hdn 6 r6); obtain ⟨r0, -⟩ := (show e 0 = true ∧ True from hdn 1 r1); exact r0
    simp only [setE, he, h8, cj_t, cj_f, cjn_t, cjn_f, cb_t, cb_f]
    exact U (FlB _ _ (V rfl) Un35 rfl 0 Sz33) <| Nt <| weakS ⟨V rfl, V rfl, V rfl, V rfl, V rfl, V rfl, V rfl, V rfl, V rfl, V rfl, V rfl, V rfl, V rfl, V rfl, V rfl, Z⟩
   ·intro e hdn he hdp
    obtain ⟨h0, -⟩ := (show e 0 = true ∧ True from hdp)
    have h8 : e 8 = false := fls he fun q => by obtain ⟨r7, -, -, -, -, -, -, -, -, -⟩ := (show e 7 = true ∧ e 5 = true ∧ e 5 = true ∧ e 0 = true ∧ e 1 = true ∧ e 2 = true ∧ e 3 = true ∧ e 4 = true ∧ e 5 = true ∧ True from hdn 8 q); obtain ⟨r6, -, -, -, -, -, -, -⟩ := (show e 6 = true ∧ e 0 = true ∧ e 1 = true ∧ e 2 = true ∧ e 3 = true ∧ e 4 = true ∧ e 5 = true ∧ True from hdn 7 r7); obtain ⟨r1, -, -, -, -, -, -, -, -⟩ := (show e 1 = true ∧ e 2 = true ∧ e 0 = true ∧ e 1 = true ∧ e 2 = true ∧ e 3 = true ∧ e 4 = true ∧ e 5 = true ∧ True from hdn 6 r6); exact r1
    cases hu5 : e 5
    ·simp only [setE, h0, he, h8, hu5, cj_t, cj_f, cjn_t, cjn_f, cb_t, cb_f]
     refine U (LdB (V rfl) rfl Ga33 (by decide)) <| Nt <| We ?_ ?_
     ·exact ⟨V rfl, V rfl, V rfl, V rfl, V rfl, Vj, V rfl, V rfl, V rfl, V rfl, V rfl, V rfl, V rfl, V rfl, V rfl, Z⟩
     ·exact ⟨⟨_, rfl, ⟨rfl, rfl, (An rfl)⟩⟩, ⟨_, rfl, ⟨rfl, rfl, (An rfl)⟩⟩, ⟨_, rfl, ⟨rfl, rfl, (An rfl)⟩⟩, ⟨_, rfl, rfl⟩, Z⟩
    ·simp only [setE, h0, he, h8, hu5, cj_t, cj_f, cjn_t, cjn_f, cb_t, cb_f]
     refine U (LdB (V rfl) rfl Ga33 (by decide)) <| Nt <| We ?_ ?_
     ·exact ⟨V rfl, V rfl, V rfl, V rfl, V rfl, V rfl, V rfl, V rfl, V rfl, V rfl, V rfl, V rfl, V rfl, V rfl, V rfl, Z⟩
     ·exact ⟨⟨_, rfl, ⟨rfl, rfl, (An rfl)⟩⟩, ⟨_, rfl, ⟨rfl, rfl, (An rfl)⟩⟩, ⟨_, rfl, ⟨rfl, rfl, (An rfl)⟩⟩, ⟨_, rfl, rfl⟩, ⟨_, rfl, rfl⟩, Z⟩
   ·intro e hdn he hdp
    have h8 : e 8 = false := fls he fun q => by obtain ⟨r7, -, -, -, -, -, -, -, -, -⟩ := (show e 7 = true ∧ e 5 = true ∧ e 5 = true ∧ e 0 = true ∧ e 1 = true ∧ e 2 = true ∧ e 3 = true ∧ e 4 = true ∧ e 5 = true ∧ True from hdn 8 q); obtain ⟨r6, -, -, -, -, -, -, -⟩ := (show e 6 = true ∧ e 0 = true ∧ e 1 = true ∧ e 2 = true ∧ e 3 = true ∧ e 4 = true ∧ e 5 = true ∧ True from hdn 7 r7); obtain ⟨-, r2, -, -, -, -, -, -, -⟩ := (show e 1 = true ∧ e 2 = true ∧ e 0 = true ∧ e 1 = true ∧ e 2 = true ∧ e 3 = true ∧ e 4 = true ∧ e 5 = true ∧ True from hdn 6 r6); exact r2
    simp only [setE, he, h8, cj_t, cj_f, cjn_t, cjn_f, cb_t, cb_f]
    exact U (Mv (V rfl)) <| Nt <| weakS ⟨V rfl, V rfl, V rfl, V rfl, V rfl, V rfl, V rfl, V rfl, V rfl, V rfl, V rfl, V rfl, V rfl, V rfl, V rfl, Z⟩
   ·intro e hdn he hdp
    have h5 : e 5 = false := fls he fun q => by obtain ⟨r4, -⟩ := (show e 4 = true ∧ True from hdn 5 q); obtain ⟨r3, -⟩ := (show e 3 = true ∧ True from hdn 4 r4); exact r3
    have h8 : e 8 = false := fls he fun q => by obtain ⟨r7, -, -, -, -, -, -, -, -, -⟩ := (show e 7 = true ∧ e 5 = true ∧ e 5 = true ∧ e 0 = true ∧ e 1 = true ∧ e 2 = true ∧ e 3 = true ∧ e 4 = true ∧ e 5 = true ∧ True from hdn 8 q); obtain ⟨r6, -, -, -, -, -, -, -⟩ := (show e 6 = true ∧ e 0 = true ∧ e 1 = true ∧ e 2 = true ∧ e 3 = true ∧ e 4 = true ∧ e 5 = true ∧ True from hdn 7 r7); obtain ⟨-, -, -, -, -, -, -, r5, -⟩ := (show e 1 = true ∧ e 2 = true ∧ e 0 = true ∧ e 1 = true ∧ e 2 = true ∧ e 3 = true ∧ e 4 = true ∧ e 5 = true ∧ True from hdn 6 r6); obtain ⟨r4, -⟩ := (show e 4 = true ∧ True from hdn 5 r5); obtain ⟨r3, -⟩ := (show e 3 = true ∧ True from hdn 4 r4); exact r3
    simp only [setE, he, h5, h8, cj_t, cj_f, cjn_t, cjn_f, cb_t, cb_f]
    refine U (FlB _ _ (V rfl) Un43 rfl 0 Sz24) <| Nt <| We ?_ ?_
    ·exact ⟨V rfl, V rfl, V rfl, V rfl, V rfl, Vj, V rfl, V rfl, V rfl, V rfl, V rfl, V rfl, V rfl, V rfl, V rfl, Z⟩
    ·exact ⟨⟨_, rfl, ⟨rfl, rfl, (An rfl)⟩⟩, ⟨_, rfl, ⟨rfl, rfl, (An rfl)⟩⟩, ⟨_, rfl, ⟨rfl, rfl, (An rfl)⟩⟩, ⟨_, rfl, rfl⟩, Z⟩
   ·intro e hdn he hdp
    obtain ⟨h3, -⟩ := (show e 3 = true ∧ True from hdp)
    have h5 : e 5 = false := fls he fun q => by obtain ⟨r4, -⟩ := (show e 4 = true ∧ True from hdn 5 q); exact r4
    have h8 : e 8 = false := fls he fun q => by obtain ⟨r7, -, -, -, -, -, -, -, -, -⟩ := (show e 7 = true ∧ e 5 = true ∧ e 5 = true ∧ e 0 = true ∧ e 1 = true ∧ e 2 = true ∧ e 3 = true ∧ e 4 = true ∧ e 5 = true ∧ True from hdn 8 q); obtain ⟨r6, -, -, -, -, -, -, -⟩ := (show e 6 = true ∧ e 0 = true ∧ e 1 = true ∧ e 2 = true ∧ e 3 = true ∧ e 4 = true ∧ e 5 = true ∧ True from hdn 7 r7); obtain ⟨-, -, -, -, -, -, -, r5, -⟩ := (show e 1 = true ∧ e 2 = true ∧ e 0 = true ∧ e 1 = true ∧ e 2 = true ∧ e 3 = true ∧ e 4 = true ∧ e 5 = true ∧ True from hdn 6 r6); obtain ⟨r4, -⟩ := (show e 4 = true ∧ True from hdn 5 r5); exact r4
    simp only [setE, h3, he, h5, h8, cj_t, cj_f, cjn_t, cjn_f, cb_t, cb_f]
    refine U (LdB (V rfl) rfl Ga24 (by decide)) <| Nt <| We ?_ ?_
    ·exact ⟨V rfl, V rfl, V rfl, V rfl, V rfl, Vj, V rfl, V rfl, V rfl, V rfl, V rfl, V rfl, V rfl, V rfl, V rfl, Z⟩
    ·exact ⟨⟨_, rfl, ⟨rfl, rfl, (An rfl)⟩⟩, ⟨_, rfl, ⟨rfl, rfl, (An rfl)⟩⟩, ⟨_, rfl, ⟨rfl, rfl, (An rfl)⟩⟩, ⟨_, rfl, rfl⟩, Z⟩
   ·intro e hdn he hdp
    obtain ⟨h4, -⟩ := (show e 4 = true ∧ True from hdp)
    obtain ⟨h3, -⟩ := (show e 3 = true ∧ True from hdn 4 h4)
    have h6 : e 6 = false := fls he fun q => by obtain ⟨-, -, -, -, -, -, -, r5, -⟩ := (show e 1 = true ∧ e 2 = true ∧ e 0 = true ∧ e 1 = true ∧ e 2 = true ∧ e 3 = true ∧ e 4 = true ∧ e 5 = true ∧ True from hdn 6 q); exact r5
    have h7 : e 7 = false := fls he fun q => by obtain ⟨r6, -, -, -, -, -, -, -⟩ := (show e 6 = true ∧ e 0 = true ∧ e 1 = true ∧ e 2 = true ∧ e 3 = true ∧ e 4 = true ∧ e 5 = true ∧ True from hdn 7 q); obtain ⟨-, -, -, -, -, -, -, r5, -⟩ := (show e 1 = true ∧ e 2 = true ∧ e 0 = true ∧ e 1 = true ∧ e 2 = true ∧ e 3 = true ∧ e 4 = true ∧ e 5 = true ∧ True from hdn 6 r6); exact r5
    have h8 : e 8 = false := fls he fun q => by obtain ⟨r7, -, -, -, -, -, -, -, -, -⟩ := (show e 7 = true ∧ e 5 = true ∧ e 5 = true ∧ e 0 = true ∧ e 1 = true ∧ e 2 = true ∧ e 3 = true ∧ e 4 = true ∧ e 5 = true ∧ True from hdn 8 q); obtain ⟨r6, -, -, -, -, -, -, -⟩ := (show e 6 = true ∧ e 0 = true ∧ e 1 = true ∧ e 2 = true ∧ e 3 = true ∧ e 4 = true ∧ e 5 = true ∧ True from hdn 7 r7); obtain ⟨-, -, -, -, -, -, -, r5, -⟩ := (show e 1 = true ∧ e 2 = true ∧ e 0 = true ∧ e 1 = true ∧ e 2 = true ∧ e 3 = true ∧ e 4 = true ∧ e 5 = true ∧ True from hdn 6 r6); exact r5
    simp only [setE, h3, h4, he, h6, h7, h8, cj_t, cj_f, cjn_t, cjn_f, cb_t, cb_f]
    refine CM (cargs := [inRow ((g.getD i default).kids)]) [] [(0, 5)] en94 (mv0 (by exact ⟨⟨(V rfl), rfl⟩, Z⟩)) (cloneIn_ct ((g.getD i default).kids) (by omega)) (by exact Z) rfl (freshN_cons (fresh_mk ⟨(noId_cj rfl), (noId_cj rfl), (noId_cj rfl), rfl, rfl, rfl, rfl, rfl, rfl, rfl, rfl, rfl, rfl, rfl, rfl, Z⟩ rfl rfl) rfl rfl) rfl rfl <| Nt <| We ?_ ?_
    ·exact ⟨V rfl, V rfl, V rfl, V rfl, V rfl, V rfl, Vj, Vj, V rfl, V rfl, V rfl, V rfl, V rfl, V rfl, V rfl, Z⟩
    ·exact ⟨⟨_, rfl, ⟨rfl, rfl, (An rfl)⟩⟩, ⟨_, rfl, ⟨rfl, rfl, (An rfl)⟩⟩, ⟨_, rfl, ⟨rfl, rfl, (An rfl)⟩⟩, ⟨_, rfl, rfl⟩, ⟨_, rfl, rfl⟩, Z⟩
   ·intro e hdn he hdp
    obtain ⟨h1, h2, h0, -, -, h3, h4, h5, -⟩ := (show e 1 = true ∧ e 2 = true ∧ e 0 = true ∧ e 1 = true ∧ e 2 = true ∧ e 3 = true ∧ e 4 = true ∧ e 5 = true ∧ True from hdp)
    have h8 : e 8 = false := fls he fun q => by obtain ⟨r7, -, -, -, -, -, -, -, -, -⟩ := (show e 7 = true ∧ e 5 = true ∧ e 5 = true ∧ e 0 = true ∧ e 1 = true ∧ e 2 = true ∧ e 3 = true ∧ e 4 = true ∧ e 5 = true ∧ True from hdn 8 q); obtain ⟨r6, -, -, -, -, -, -, -⟩ := (show e 6 = true ∧ e 0 = true ∧ e 1 = true ∧ e 2 = true ∧ e 3 = true ∧ e 4 = true ∧ e 5 = true ∧ True from hdn 7 r7); exact r6
    simp only [setE, h0, h1, h2, h3, h4, h5, he, h8, cj_t, cj_f, cjn_t, cjn_f, cb_t, cb_f]
    refine U (IOn (i := i) (V rfl) rfl (V rfl) ts33 te33 (by omega)) <| Nt <| We ?_ ?_
    ·exact ⟨V rfl, V rfl, V rfl, V rfl, V rfl, V rfl, V rfl, V rfl, V rfl, V rfl, V rfl, V rfl, V rfl, V rfl, V rfl, Z⟩
    ·exact ⟨⟨_, rfl, ⟨rfl, rfl, (An rfl)⟩⟩, ⟨_, rfl, ⟨rfl, rfl, (An rfl)⟩⟩, ⟨_, rfl, ⟨rfl, rfl, (An rfl)⟩⟩, ⟨_, rfl, rfl⟩, ⟨_, rfl, rfl⟩, Z⟩
   ·intro e hdn he hdp
    obtain ⟨h6, h0, h1, h2, h3, h4, h5, -⟩ := (show e 6 = true ∧ e 0 = true ∧ e 1 = true ∧ e 2 = true ∧ e 3 = true ∧ e 4 = true ∧ e 5 = true ∧ True from hdp)
    have h8 : e 8 = false := fls he fun q => by obtain ⟨r7, -, -, -, -, -, -, -, -, -⟩ := (show e 7 = true ∧ e 5 = true ∧ e 5 = true ∧ e 0 = true ∧ e 1 = true ∧ e 2 = true ∧ e 3 = true ∧ e 4 = true ∧ e 5 = true ∧ True from hdn 8 q); exact r7
    simp only [setE, h0, h1, h2, h3, h4, h5, h6, he, h8, cj_t, cj_f, cjn_t, cjn_f, cb_t, cb_f]
    refine U (FlO _ _ (V rfl) Un43 rfl 0 Sz24) <| Nt <| We ?_ ?_
    ·exact ⟨V rfl, V rfl, V rfl, V rfl, V rfl, V rfl, V rfl, V rfl, V rfl, V rfl, V rfl, V rfl, V rfl, V rfl, V rfl, Z⟩
    ·exact ⟨⟨_, rfl, ⟨rfl, rfl, (An rfl)⟩⟩, ⟨_, rfl, ⟨rfl, rfl, (An rfl)⟩⟩, ⟨_, rfl, ⟨rfl, rfl, (An rfl)⟩⟩, ⟨_, rfl, rfl⟩, ⟨_, rfl, rfl⟩, Z⟩
   ·intro e hdn he hdp
    obtain ⟨h7, h5, -, h0, h1, h2, h3, h4, -, -⟩ := (show e 7 = true ∧ e 5 = true ∧ e 5 = true ∧ e 0 = true ∧ e 1 = true ∧ e 2 = true ∧ e 3 = true ∧ e 4 = true ∧ e 5 = true ∧ True from hdp)
    obtain ⟨h6, -, -, -, -, -, -, -⟩ := (show e 6 = true ∧ e 0 = true ∧ e 1 = true ∧ e 2 = true ∧ e 3 = true ∧ e 4 = true ∧ e 5 = true ∧ True from hdn 7 h7)
    simp only [setE, h0, h1, h2, h3, h4, h5, h6, h7, he, cj_t, cj_f, cjn_t, cjn_f, cb_t, cb_f]
    refine FzT 5 rfl <| ?_
    have hidx0 : i < g.length := by first | omega | (simp; omega)
    refine StO (rowG clCell default (g.set i ({ (g.getD i default) with kids := (g.getD i default).kids }))) (V rfl) rfl (V rfl) rfl rfl Sz24 (by decide) (show g.length = (g.set i ({ (g.getD i default) with kids := (g.getD i default).kids })).length from List.length_set.symm) (set_at hidx0 rfl) (set_typed hidx0 fun t ht hne => match t, ht, hne with | 0, _, _ => rfl | 1, _, hne => absurd rfl hne) <| Nt <| We ?_ ?_
    ·exact ⟨V rfl, V rfl, V rfl, V rfl, V rfl, Vj, V rfl, V rfl, V rfl, V rfl, V rfl, V rfl, V rfl, V rfl, V rfl, Z⟩
    ·exact ⟨⟨_, rfl, ⟨rfl, rfl, (An rfl)⟩⟩, ⟨_, rfl, ⟨rfl, rfl, (An rfl)⟩⟩, ⟨_, rfl, ⟨rfl, rfl, (An rfl)⟩⟩, ⟨_, rfl, rfl⟩, Z⟩
   ·intro e he
    have h0 := he 0 (by decide)
    have h1 := he 1 (by decide)
    have h2 := he 2 (by decide)
    have h3 := he 3 (by decide)
    have h4 := he 4 (by decide)
    have h5 := he 5 (by decide)
    have h6 := he 6 (by decide)
    have h7 := he 7 (by decide)
    have h8 := he 8 (by decide)
    show Weak _ ⟨[(17, cj (e 0) (SV.bp 1 0)), (18, cj (e 1) (SV.own 60)), (19, cj (e 2) (iv ((i : Int)))), (20, cj (e 3) (SV.bp 4 1)), (21, cj (e 4) (inRow ((g.getD i default).kids))), (22, cj (e 5) (cjn (e 8) (SV.own 5))), (23, cj (e 6) (SV.oe 60 2 i 0)), (24, cj (e 7) (SV.oe 60 2 i 1)), (1, SV.bp 1 0), (2, SV.bp 2 0), (3, iv ((i : Int))), (4, SV.bp 4 0), (10, SV.own 60), (11, iv ((g.length : Int))), (12, iv ((i : Int)))], (cb (e 5) (cb (e 8) [(1, Own.box 1 (fun _ => SV.own 60) 35), (2, Own.box 1 (fun zt => SV.renm (mvN 3 60) ((cmpG [SV.v (Value.slice none 0 0)]) zt)) 35), (4, Own.box 2 (fun zi => (rowG clCell default g) i (0 + zi)) 43), (60, ownOf clCell 2 default (g.set i ({ (g.getD i default) with kids := (g.getD i default).kids })) 43)] [(1, Own.box 1 (fun _ => SV.own 60) 35), (2, Own.box 1 (fun zt => SV.renm (mvN 3 60) ((cmpG [SV.v (Value.slice none 0 0)]) zt)) 35), (4, Own.box 2 (fun zi => (rowG clCell default g) i (0 + zi)) 43), (60, ownOf clCell 2 default g 43), (5, ownOf inCell 1 0 ((g.getD i default).kids) 3)]) (cb (e 8) [] [(1, Own.box 1 (fun _ => SV.own 60) 35), (2, Own.box 1 (fun zt => SV.renm (mvN 3 60) ((cmpG [SV.v (Value.slice none 0 0)]) zt)) 35), (4, Own.box 2 (fun zi => (rowG clCell default g) i (0 + zi)) 43), (60, ownOf clCell 2 default g 43)]))⟩ _
    simp only [h0, h1, h2, h3, h4, h5, h6, h7, h8]
    show Weak _ ⟨[(17, SV.bp 1 0), (18, SV.own 60), (19, iv ((i : Int))), (20, SV.bp 4 1), (21, inRow ((g.getD i default).kids)), (22, SV.junk), (23, SV.oe 60 2 i 0), (24, SV.oe 60 2 i 1), (1, SV.bp 1 0), (2, SV.bp 2 0), (3, iv ((i : Int))), (4, SV.bp 4 0), (10, SV.own 60), (11, iv ((g.length : Int))), (12, iv ((i : Int)))], [(1, Own.box 1 (fun _ => SV.own 60) 35), (2, Own.box 1 (fun zt => SV.renm (mvN 3 60) ((cmpG [SV.v (Value.slice none 0 0)]) zt)) 35), (4, Own.box 2 (fun zi => (rowG clCell default g) i (0 + zi)) 43), (60, ownOf clCell 2 default (g.set i ({ (g.getD i default) with kids := (g.getD i default).kids })) 43)]⟩ _
    refine We ?_ ?_
    ·exact ⟨V rfl, V rfl, V rfl, V rfl, V rfl, V rfl, V rfl, V rfl, V rfl, V rfl, V rfl, V rfl, V rfl, V rfl, Z⟩
    ·exact ⟨⟨_, rfl, ⟨rfl, rfl, (An rfl)⟩⟩, ⟨_, rfl, ⟨rfl, rfl, (An rfl)⟩⟩, ⟨_, rfl, ⟨rfl, rfl, (An rfl)⟩⟩, ⟨_, rfl, rfl⟩, Z⟩
   refine Rq <| O (Ad (V rfl) K (by omega)) <| O (Mv (V rfl)) <| Nq <| k_ownE 60 g rfl (by exact set_kids (by omega)) <| Nx (i + 1) (by show (i + 1) ≤ g.length; first | omega | (simp; done) | (refine ⟨?_, ?_⟩ <;> first | omega | (simp; done))) (by show g.length - (i + 1) < g.length - i; omega) (We (ow := [(1, Own.box 1 (fun _ => SV.own 60) 35), (2, Own.box 1 (fun zt => SV.renm (mvN 3 60) ((cmpG [SV.v (Value.slice none 0 0)]) zt)) 35), (60, ownOf clCell 2 default g 43)]) (Vs rfl) (by exact ⟨⟨_, rfl, rfl, rfl, (An rfl)⟩, ⟨_, rfl, rfl, rfl, (An rfl)⟩, ⟨_, rfl, rfl⟩, Z⟩))
  ·have hc1s := hc1; try simp only [BL] at hc1s
   exact Ex <| Sq <| Rt <| U (LBA (V rfl) rfl Ga35 Sz35 (by decide)) <| StA (V rfl) rfl (V rfl) Sz35 <| Nt <| FzC 60 rfl <| Rx <| RR1 rfl (rv_aggI (g' := grG g) (rv_cell (V rfl) rfl Ga35 Sz35) ⟨Z, Ir⟩) rfl (by show SV.agg 1 (grG g) = SV.agg 1 (grG g); rfl)
end Go.Proofs.Ytghkpailmdlhgaa
namespace Go.Proofs.Ytghkpailmdlhgaa
open Go.RowKit Go.Eng
theorem pcopy_ct (l : List Pt) (fr : Int) (hc : checkPo l fr = 0) : CtM Try.prog 74 [ptRow l] [] (SV.own 0) [(0, urowOf ptCell 5 default l 71 3 Pt.came grG 1 ([]) 35 l.length none)] := by
 have h12 := checkPo_len hc
 refine CmO 43 Try.func74 rfl rfl rfl fun E => Rl (V (s := 0) rfl) fun hl0 => Sq <| Rq <| O (As (Vn (k := 5) (get := rowG ptCell default []))) <| Nq <| Sq <| Rt <| U (Mv (V rfl)) <| CM (cargs := [ptRow l]) [] [(0, 1)] en87 (mv0 (by exact ⟨⟨(V rfl), rfl⟩, Z⟩)) (clonePt_ct l (by omega)) (by exact Z) rfl rfl rfl rfl <| U (As (V rfl)) <| Nt <| Sq <| Sq <| Rq <| O (Mv (V rfl)) <| O (LnO (V rfl) rfl ts60) <| O (Mv K) <| Nq <| Bo <| Tc (turn_u0T 1 3 Pt.came grG 1 ([]) 35 rfl rfl) <| Lo (fun (i : Nat) => ⟨[(0, SV.own 1), (9, SV.own 1), (10, iv ((l.length : Int))), (11, iv ((i : Int)))], [(1, urowOf ptCell 5 default l 71 3 Pt.came grG 1 ([]) 35 i none)]⟩) (fun (i : Nat) => i ≤ l.length) (fun (i : Nat) => l.length - i) 0 (by show 0 ≤ l.length; exact Nat.zero_le _) (We (Vs rfl) (AOs rfl)) <| ?_
 ·rintro i hI1
  have hJ1 : i ≤ l.length := hI1
  refine Sq <| Rq <| O (Lt (V rfl) (V rfl)) <| Nq <| Sq <| Cd (V rfl) (fun hc1 => ?_) (fun hc1 => ?_)
  ·have hc1s := hc1; try simp only [BL] at hc1s
   have hpp := po_parts hc (i := i) (by omega)
   refine Sk <| Sq <| Bo <| Sq <| Rt <| U (Mv (V rfl)) <| U (IUn (i := i) (V rfl) rfl (V rfl) ts60 te60 (by omega)) <| U (LUA (gt := fun zi => ([iv ((l.getD i default).owner), iv ((l.getD i default).turn), iv ((l.getD i default).mate), gsRow ((l.getD i default).came), bv ((l.getD i default).shut)] : List SV).getD zi .junk) (V rfl) rfl Ga71 Sz71 (by decide) ⟨⟨⟨⟨⟨Z, rfl⟩, rfl⟩, rfl⟩, (uat_late (by omega))⟩, rfl⟩) <| Al 2 zero71 rfl rfl <| U (As (V rfl)) <| StA (V rfl) rfl (V rfl) Sz71 <| Nt <| Sq <| Rt <| U (Mv (V rfl)) <| U (Mv (V rfl)) <| U (FlB _ _ (V rfl) Un71 rfl 0 Sz59) <| U (LdB (V rfl) rfl Ga59 (by decide)) <| CM (cargs := [gsRow ((l.getD i default).came)]) [] [(0, 3)] en88 (mv0 (by exact ⟨⟨(V rfl), rfl⟩, Z⟩)) (cloneGs_ct ((l.getD i default).came) (by omega)) (by exact Z) rfl rfl rfl rfl <| U (IUn (i := i) (V rfl) rfl (V rfl) ts60 te60 (by omega)) <| U (FlO _ _ (V rfl) Un71 rfl 0 Sz59) <| t_stH (V rfl) rfl (V rfl) (one_own rfl) Sz59 (by decide) (.inr ⟨rfl, by omega⟩) <| Nt <| Sq <| Rq <| O (FlB _ _ (V rfl) Un71 rfl 0 Sz59) <| O (LdB (V rfl) rfl Ga59 (by decide)) <| O (Ln (V rfl) ts59) <| O (Mv K) <| Nq <| Bo <| c_mv 3 61 rfl rfl <| Lo (fun (j : Nat) => ⟨[(0, SV.own 1), (3, iv ((i : Int))), (9, SV.own 1), (10, iv ((l.length : Int))), (11, iv ((i : Int))), (24, gsRow ((l.getD i default).came)), (25, iv ((((l.getD i default).came).length : Int))), (26, iv ((j : Int)))], [(1, urowOf ptCell 5 default l 71 3 Pt.came grG 1 ([]) 35 i (some (i, SV.own 61))), (61, ownOf grG 1 ([]) ((l.getD i default).came) 35)]⟩) (fun (j : Nat) => j ≤ (l.getD i default).came.length) (fun (j : Nat) => (l.getD i default).came.length - j) 0 (by show 0 ≤ (l.getD i default).came.length; exact Nat.zero_le _) (We (Vs rfl) (AOs rfl)) <| ?_
   ·rintro j hI2
    have hJ2 : j ≤ (l.getD i default).came.length := hI2
    refine Sq <| Rq <| O (Lt (V rfl) (V rfl)) <| Nq <| Sq <| Cd (V rfl) (fun hc2 => ?_) (fun hc2 => ?_)
    ·have hc2s := hc2; try simp only [BL] at hc2s
     have hgj : checkGr ((l.getD i default).came.getD j []) = 0 := hpp.2.2.2.2.2.2.2 _ (mem_getG (by omega))
     refine Sk <| Sq <| Bo <| Sq <| Rt <| U (Mv (V rfl)) <| U (IxN (i := j) (V rfl) (V rfl) ts59 te59 (by omega)) <| U (LdA (V rfl) Ga35 Sz35 (by decide)) <| Al 4 zero35 rfl rfl <| U (As (V rfl)) <| StA (V rfl) rfl (V rfl) Sz35 <| Nt <| c_rd (fun e => ⟨[(31, cj (e 0) (SV.own 1)), (32, cj (e 1) (iv ((i : Int)))), (33, cj (e 2) (SV.oe 1 5 i 0)), (34, cj (e 3) (SV.oe 1 5 i 3)), (35, cj (e 4) (SV.own 61)), (36, cj (e 5) (iv ((j : Int)))), (37, cj (e 6) (SV.agg 1 (fun zi => (fun zi => (rowG grG ([]) ((l.getD i default).came)) j (0 + zi)) (0 + zi)))), (38, cj (e 7) (SV.agg 1 (grG ((((l.getD i default).came).getD j []))))), (39, cj (e 8) (SV.oe 61 1 j 0)), (0, SV.own 1), (3, iv ((i : Int))), (5, iv ((j : Int))), (6, SV.bp 4 0), (9, SV.own 1), (10, iv ((l.length : Int))), (11, iv ((i : Int))), (24, gsRow ((l.getD i default).came)), (25, iv ((((l.getD i default).came).length : Int))), (26, iv ((j : Int)))], (cb (e 9) [(1, urowOf ptCell 5 default l 71 3 Pt.came grG 1 ([]) 35 i (some (i, SV.own 61))), (4, Own.box 1 (fun zi => (rowG grG ([]) ((l.getD i default).came)) j (0 + zi)) 35), (61, ownOf grG 1 ([]) (((l.getD i default).came).set j ((((l.getD i default).came).getD j []))) 35)] [(1, urowOf ptCell 5 default l 71 3 Pt.came grG 1 ([]) 35 i (some (i, SV.own 61))), (4, Own.box 1 (fun zi => (rowG grG ([]) ((l.getD i default).came)) j (0 + zi)) 35), (61, ownOf grG 1 ([]) ((l.getD i default).came) 35)])⟩) ⟨[(31, SV.own 1), (32, iv ((i : Int))), (33, SV.oe 1 5 i 0), (34, SV.oe 1 5 i 3), (35, SV.own 61), (36, iv ((j : Int))), (37, SV.agg 1 (fun zi => (fun zi => (rowG grG ([]) ((l.getD i default).came)) j (0 + zi)) (0 + zi))), (38, SV.agg 1 (grG ((((l.getD i default).came).getD j [])))), (39, SV.oe 61 1 j 0), (0, SV.own 1), (3, iv ((i : Int))), (5, iv ((j : Int))), (6, SV.bp 4 0), (9, SV.own 1), (10, iv ((l.length : Int))), (11, iv ((i : Int))), (24, gsRow ((l.getD i default).came)), (25, iv ((((l.getD i default).came).length : Int))), (26, iv ((j : Int)))], [(1, urowOf ptCell 5 default l 71 3 Pt.came grG 1 ([]) 35 i (some (i, SV.own 61))), (4, Own.box 1 (fun zi => (rowG grG ([]) ((l.getD i default).came)) j (0 + zi)) 35), (61, ownOf grG 1 ([]) (((l.getD i default).came).set j ((((l.getD i default).came).getD j []))) 35)]⟩ (by kernel_rfl) (by kernel_rfl) ?_ ⟨?_, ?_, ?_, ?_, ?_, ?_, ?_, ?_, ?_, ?_, Z⟩ ?_ ?_
     ·show Weak _ _ ⟨[(31, SV.junk), (32, SV.junk), (33, SV.junk), (34, SV.junk), (35, SV.junk), (36, SV.junk), (37, SV.junk), (38, SV.junk), (39, SV.junk), (0, SV.own 1), (3, iv ((i : Int))), (5, iv ((j : Int))), (6, SV.bp 4 0), (9, SV.own 1), (10, iv ((l.length : Int))), (11, iv ((i : Int))), (24, gsRow ((l.getD i default).came)), (25, iv ((((l.getD i default).came).length : Int))), (26, iv ((j : Int)))], [(1, urowOf ptCell 5 default l 71 3 Pt.came grG 1 ([]) 35 i (some (i, SV.own 61))), (4, Own.box 1 (fun zi => (rowG grG ([]) ((l.getD i default).came)) j (0 + zi)) 35), (61, ownOf grG 1 ([]) ((l.getD i default).came) 35)]⟩
      refine We ?_ ?_
      ·exact ⟨Vj, Vj, Vj, Vj, Vj, Vj, Vj, Vj, Vj, V rfl, V rfl, V rfl, V rfl, V rfl, V rfl, V rfl, V rfl, V rfl, V rfl, Z⟩
      ·exact ⟨⟨_, rfl, rfl⟩, ⟨_, rfl, ⟨rfl, rfl, (An rfl)⟩⟩, ⟨_, rfl, rfl⟩, Z⟩
     ·intro e hdn he hdp
      have h9 : e 9 = false := fls he fun q => by obtain ⟨r8, -, -, -, -, -, -, -, -, -, -, -⟩ := (show e 8 = true ∧ e 7 = true ∧ e 7 = true ∧ e 0 = true ∧ e 1 = true ∧ e 2 = true ∧ e 3 = true ∧ e 4 = true ∧ e 5 = true ∧ e 6 = true ∧ e 7 = true ∧ True from hdn 9 q); obtain ⟨r4, -, -, -, -, -, -, -, -, -, -⟩ := (show e 4 = true ∧ e 5 = true ∧ e 0 = true ∧ e 1 = true ∧ e 2 = true ∧ e 3 = true ∧ e 4 = true ∧ e 5 = true ∧ e 6 = true ∧ e 7 = true ∧ True from hdn 8 r8); obtain ⟨r3, -⟩ := (show e 3 = true ∧ True from hdn 4 r4); obtain ⟨r2, -⟩ := (show e 2 = true ∧ True from hdn 3 r3); obtain ⟨r0, -, -⟩ := (show e 0 = true ∧ e 1 = true ∧ True from hdn 2 r2); exact r0
      simp only [setE, he, h9, cj_t, cj_f, cjn_t, cjn_f, cb_t, cb_f]
      refine U (Mv (V rfl)) <| Nt <| We ?_ ?_
      ·exact ⟨V rfl, V rfl, V rfl, V rfl, V rfl, V rfl, V rfl, V rfl, V rfl, V rfl, V rfl, V rfl, V rfl, V rfl, V rfl, V rfl, V rfl, V rfl, V rfl, Z⟩
      ·exact ⟨⟨_, rfl, rfl⟩, ⟨_, rfl, ⟨rfl, rfl, (An rfl)⟩⟩, ⟨_, rfl, rfl⟩, Z⟩
     ·intro e hdn he hdp
      have h9 : e 9 = false := fls he fun q => by obtain ⟨r8, -, -, -, -, -, -, -, -, -, -, -⟩ := (show e 8 = true ∧ e 7 = true ∧ e 7 = true ∧ e 0 = true ∧ e 1 = true ∧ e 2 = true ∧ e 3 = true ∧ e 4 = true ∧ e 5 = true ∧ e 6 = true ∧ e 7 = true ∧ True from hdn 9 q); obtain ⟨r4, -, -, -, -, -, -, -, -, -, -⟩ := (show e 4 = true ∧ e 5 = true ∧ e 0 = true ∧ e 1 = true ∧ e 2 = true ∧ e 3 = true ∧ e 4 = true ∧ e 5 = true ∧ e 6 = true ∧ e 7 = true ∧ True from hdn 8 r8); obtain ⟨r3, -⟩ := (show e 3 = true ∧ True from hdn 4 r4); obtain ⟨r2, -⟩ := (show e 2 = true ∧ True from hdn 3 r3); obtain ⟨-, r1, -⟩ := (show e 0 = true ∧ e 1 = true ∧ True from hdn 2 r2); exact r1
      simp only [setE, he, h9, cj_t, cj_f, cjn_t, cjn_f, cb_t, cb_f]
      refine U (Mv (V rfl)) <| Nt <| We ?_ ?_
      ·exact ⟨V rfl, V rfl, V rfl, V rfl, V rfl, V rfl, V rfl, V rfl, V rfl, V rfl, V rfl, V rfl, V rfl, V rfl, V rfl, V rfl, V rfl, V rfl, V rfl, Z⟩
      ·exact ⟨⟨_, rfl, rfl⟩, ⟨_, rfl, ⟨rfl, rfl, (An rfl)⟩⟩, ⟨_, rfl, rfl⟩, Z⟩
     ·intro e hdn he hdp
      obtain ⟨h0, h1, -⟩ := (show e 0 = true ∧ e 1 = true ∧ True from hdp)
      have h9 : e 9 = false := fls he fun q => by obtain ⟨r8, -, -, -, -, -, -, -, -, -, -, -⟩ := (show e 8 = true ∧ e 7 = true ∧ e 7 = true ∧ e 0 = true ∧ e 1 = true ∧ e 2 = true ∧ e 3 = true ∧ e 4 = true ∧ e 5 = true ∧ e 6 = true ∧ e 7 = true ∧ True from hdn 9 q); obtain ⟨r4, -, -, -, -, -, -, -, -, -, -⟩ := (show e 4 = true ∧ e 5 = true ∧ e 0 = true ∧ e 1 = true ∧ e 2 = true ∧ e 3 = true ∧ e 4 = true ∧ e 5 = true ∧ e 6 = true ∧ e 7 = true ∧ True from hdn 8 r8); obtain ⟨r3, -⟩ := (show e 3 = true ∧ True from hdn 4 r4); obtain ⟨r2, -⟩ := (show e 2 = true ∧ True from hdn 3 r3); exact r2
      simp only [setE, h0, h1, he, h9, cj_t, cj_f, cjn_t, cjn_f, cb_t, cb_f]
      refine U (IUn (i := i) (V rfl) rfl (V rfl) ts60 te60 (by omega)) <| Nt <| We ?_ ?_
      ·exact ⟨V rfl, V rfl, V rfl, V rfl, V rfl, V rfl, V rfl, V rfl, V rfl, V rfl, V rfl, V rfl, V rfl, V rfl, V rfl, V rfl, V rfl, V rfl, V rfl, Z⟩
      ·exact ⟨⟨_, rfl, rfl⟩, ⟨_, rfl, ⟨rfl, rfl, (An rfl)⟩⟩, ⟨_, rfl, rfl⟩, Z⟩
     ·intro e hdn he hdp
      obtain ⟨h2, -⟩ := (show e 2 = true ∧ True from hdp)
      obtain ⟨h0, h1, -⟩ := (show e 0 = true ∧ e 1 = true ∧ True from hdn 2 h2)
      have h9 : e 9 = false := fls he fun q => by obtain ⟨r8, -, -, -, -, -, -, -, -, -, -, -⟩ := (show e 8 = true ∧ e 7 = true ∧ e 7 = true ∧ e 0 = true ∧ e 1 = true ∧ e 2 = true ∧ e 3 = true ∧ e 4 = true ∧ e 5 = true ∧ e 6 = true ∧ e 7 = true ∧ True from hdn 9 q); obtain ⟨r4, -, -, -, -, -, -, -, -, -, -⟩ := (show e 4 = true ∧ e 5 = true ∧ e 0 = true ∧ e 1 = true ∧ e 2 = true ∧ e 3 = true ∧ e 4 = true ∧ e 5 = true ∧ e 6 = true ∧ e 7 = true ∧ True from hdn 8 r8); obtain ⟨r3, -⟩ := (show e 3 = true ∧ True from hdn 4 r4); exact r3
      simp only [setE, h0, h1, h2, he, h9, cj_t, cj_f, cjn_t, cjn_f, cb_t, cb_f]
      refine U (FlO _ _ (V rfl) Un71 rfl 0 Sz59) <| Nt <| We ?_ ?_
      ·exact ⟨V rfl, V rfl, V rfl, V rfl, V rfl, V rfl, V rfl, V rfl, V rfl, V rfl, V rfl, V rfl, V rfl, V rfl, V rfl, V rfl, V rfl, V rfl, V rfl, Z⟩
      ·exact ⟨⟨_, rfl, rfl⟩, ⟨_, rfl, ⟨rfl, rfl, (An rfl)⟩⟩, ⟨_, rfl, rfl⟩, Z⟩
     ·intro e hdn he hdp
      obtain ⟨h3, -⟩ := (show e 3 = true ∧ True from hdp)
      obtain ⟨h2, -⟩ := (show e 2 = true ∧ True from hdn 3 h3)
      obtain ⟨h0, h1, -⟩ := (show e 0 = true ∧ e 1 = true ∧ True from hdn 2 h2)
      have h9 : e 9 = false := fls he fun q => by obtain ⟨r8, -, -, -, -, -, -, -, -, -, -, -⟩ := (show e 8 = true ∧ e 7 = true ∧ e 7 = true ∧ e 0 = true ∧ e 1 = true ∧ e 2 = true ∧ e 3 = true ∧ e 4 = true ∧ e 5 = true ∧ e 6 = true ∧ e 7 = true ∧ True from hdn 9 q); obtain ⟨r4, -, -, -, -, -, -, -, -, -, -⟩ := (show e 4 = true ∧ e 5 = true ∧ e 0 = true ∧ e 1 = true ∧ e 2 = true ∧ e 3 = true ∧ e 4 = true ∧ e 5 = true ∧ e 6 = true ∧ e 7 = true ∧ True from hdn 8 r8); exact r4
      simp only [setE, h0, h1, h2, h3, he, h9, cj_t, cj_f, cjn_t, cjn_f, cb_t, cb_f]
      refine U (LdU (V rfl) rfl Ga59 (by decide) uat_hole) <| Nt <| We ?_ ?_
      ·exact ⟨V rfl, V rfl, V rfl, V rfl, V rfl, V rfl, V rfl, V rfl, V rfl, V rfl, V rfl, V rfl, V rfl, V rfl, V rfl, V rfl, V rfl, V rfl, V rfl, Z⟩
      ·exact ⟨⟨_, rfl, rfl⟩, ⟨_, rfl, ⟨rfl, rfl, (An rfl)⟩⟩, ⟨_, rfl, rfl⟩, Z⟩
     ·intro e hdn he hdp
      have h9 : e 9 = false := fls he fun q => by obtain ⟨r8, -, -, -, -, -, -, -, -, -, -, -⟩ := (show e 8 = true ∧ e 7 = true ∧ e 7 = true ∧ e 0 = true ∧ e 1 = true ∧ e 2 = true ∧ e 3 = true ∧ e 4 = true ∧ e 5 = true ∧ e 6 = true ∧ e 7 = true ∧ True from hdn 9 q); obtain ⟨-, r5, -, -, -, -, -, -, -, -, -⟩ := (show e 4 = true ∧ e 5 = true ∧ e 0 = true ∧ e 1 = true ∧ e 2 = true ∧ e 3 = true ∧ e 4 = true ∧ e 5 = true ∧ e 6 = true ∧ e 7 = true ∧ True from hdn 8 r8); exact r5
      simp only [setE, he, h9, cj_t, cj_f, cjn_t, cjn_f, cb_t, cb_f]
      refine U (Mv (V rfl)) <| Nt <| We ?_ ?_
      ·exact ⟨V rfl, V rfl, V rfl, V rfl, V rfl, V rfl, V rfl, V rfl, V rfl, V rfl, V rfl, V rfl, V rfl, V rfl, V rfl, V rfl, V rfl, V rfl, V rfl, Z⟩
      ·exact ⟨⟨_, rfl, rfl⟩, ⟨_, rfl, ⟨rfl, rfl, (An rfl)⟩⟩, ⟨_, rfl, rfl⟩, Z⟩
     ·intro e hdn he hdp
      have h9 : e 9 = false := fls he fun q => by obtain ⟨r8, -, -, -, -, -, -, -, -, -, -, -⟩ := (show e 8 = true ∧ e 7 = true ∧ e 7 = true ∧ e 0 = true ∧ e 1 = true ∧ e 2 = true ∧ e 3 = true ∧ e 4 = true ∧ e 5 = true ∧ e 6 = true ∧ e 7 = true ∧ True from hdn 9 q); obtain ⟨-, -, -, -, -, -, -, -, -, r7, -⟩ := (show e 4 = true ∧ e 5 = true ∧ e 0 = true ∧ e 1 = true ∧ e 2 = true ∧ e 3 = true ∧ e 4 = true ∧ e 5 = true ∧ e 6 = true ∧ e 7 = true ∧ True from hdn 8 r8); obtain ⟨r6, -⟩ := (show e 6 = true ∧ True from hdn 7 r7); exact r6
      simp only [setE, he, h9, cj_t, cj_f, cjn_t, cjn_f, cb_t, cb_f]
      refine U (LBA (V rfl) rfl Ga35 Sz35 (by decide)) <| Nt <| We ?_ ?_
      ·exact ⟨V rfl, V rfl, V rfl, V rfl, V rfl, V rfl, V rfl, V rfl, V rfl, V rfl, V rfl, V rfl, V rfl, V rfl, V rfl, V rfl, V rfl, V rfl, V rfl, Z⟩
      ·exact ⟨⟨_, rfl, rfl⟩, ⟨_, rfl, ⟨rfl, rfl, (An rfl)⟩⟩, ⟨_, rfl, rfl⟩, Z⟩
     ·intro e hdn he hdp
      obtain ⟨h6, -⟩ := (show e 6 = true ∧ True from hdp)
      have h9 : e 9 = false := fls he fun q => by obtain ⟨r8, -, -, -, -, -, -, -, -, -, -, -⟩ := (show e 8 = true ∧ e 7 = true ∧ e 7 = true ∧ e 0 = true ∧ e 1 = true ∧ e 2 = true ∧ e 3 = true ∧ e 4 = true ∧ e 5 = true ∧ e 6 = true ∧ e 7 = true ∧ True from hdn 9 q); obtain ⟨-, -, -, -, -, -, -, -, -, r7, -⟩ := (show e 4 = true ∧ e 5 = true ∧ e 0 = true ∧ e 1 = true ∧ e 2 = true ∧ e 3 = true ∧ e 4 = true ∧ e 5 = true ∧ e 6 = true ∧ e 7 = true ∧ True from hdn 8 r8); exact r7
      simp only [setE, h6, he, h9, cj_t, cj_f, cjn_t, cjn_f, cb_t, cb_f]
      refine CT en89 (by exact ⟨⟨(Vi (g' := grG ((((l.getD i default).came).getD j []))) (V rfl) ⟨Z, Ir⟩), rfl⟩, Z⟩) (own_ct ((((l.getD i default).came).getD j [])) hgj) <| Nt <| We ?_ ?_
      ·exact ⟨V rfl, V rfl, V rfl, V rfl, V rfl, V rfl, V rfl, V rfl, V rfl, V rfl, V rfl, V rfl, V rfl, V rfl, V rfl, V rfl, V rfl, V rfl, V rfl, Z⟩
      ·exact ⟨⟨_, rfl, rfl⟩, ⟨_, rfl, ⟨rfl, rfl, (An rfl)⟩⟩, ⟨_, rfl, rfl⟩, Z⟩
     ·intro e hdn he hdp
      obtain ⟨h4, h5, h0, h1, h2, h3, -, -, h6, h7, -⟩ := (show e 4 = true ∧ e 5 = true ∧ e 0 = true ∧ e 1 = true ∧ e 2 = true ∧ e 3 = true ∧ e 4 = true ∧ e 5 = true ∧ e 6 = true ∧ e 7 = true ∧ True from hdp)
      have h9 : e 9 = false := fls he fun q => by obtain ⟨r8, -, -, -, -, -, -, -, -, -, -, -⟩ := (show e 8 = true ∧ e 7 = true ∧ e 7 = true ∧ e 0 = true ∧ e 1 = true ∧ e 2 = true ∧ e 3 = true ∧ e 4 = true ∧ e 5 = true ∧ e 6 = true ∧ e 7 = true ∧ True from hdn 9 q); exact r8
      simp only [setE, h0, h1, h2, h3, h4, h5, h6, h7, he, h9, cj_t, cj_f, cjn_t, cjn_f, cb_t, cb_f]
      refine U (IOn (i := j) (V rfl) rfl (V rfl) ts59 te59 (by omega)) <| Nt <| We ?_ ?_
      ·exact ⟨V rfl, V rfl, V rfl, V rfl, V rfl, V rfl, V rfl, V rfl, V rfl, V rfl, V rfl, V rfl, V rfl, V rfl, V rfl, V rfl, V rfl, V rfl, V rfl, Z⟩
      ·exact ⟨⟨_, rfl, rfl⟩, ⟨_, rfl, ⟨rfl, rfl, (An rfl)⟩⟩, ⟨_, rfl, rfl⟩, Z⟩
     ·intro e hdn he hdp
      obtain ⟨h8, h7, -, h0, h1, h2, h3, h4, h5, h6, -, -⟩ := (show e 8 = true ∧ e 7 = true ∧ e 7 = true ∧ e 0 = true ∧ e 1 = true ∧ e 2 = true ∧ e 3 = true ∧ e 4 = true ∧ e 5 = true ∧ e 6 = true ∧ e 7 = true ∧ True from hdp)
      simp only [setE, h0, h1, h2, h3, h4, h5, h6, h7, h8, he, cj_t, cj_f, cjn_t, cjn_f, cb_t, cb_f]
      refine t_stOAT ((((l.getD i default).came).getD j [])) (V rfl) rfl (V rfl) (An rfl) Sz35 (by first | omega | (simp; omega)) (An rfl) <| Nt <| We ?_ ?_
      ·exact ⟨V rfl, V rfl, V rfl, V rfl, V rfl, V rfl, V rfl, V rfl, V rfl, V rfl, V rfl, V rfl, V rfl, V rfl, V rfl, V rfl, V rfl, V rfl, V rfl, Z⟩
      ·exact ⟨⟨_, rfl, rfl⟩, ⟨_, rfl, ⟨rfl, rfl, (An rfl)⟩⟩, ⟨_, rfl, rfl⟩, Z⟩
     ·intro e he
      have h0 := he 0 (by decide)
      have h1 := he 1 (by decide)
      have h2 := he 2 (by decide)
      have h3 := he 3 (by decide)
      have h4 := he 4 (by decide)
      have h5 := he 5 (by decide)
      have h6 := he 6 (by decide)
      have h7 := he 7 (by decide)
      have h8 := he 8 (by decide)
      have h9 := he 9 (by decide)
      show Weak _ ⟨[(31, cj (e 0) (SV.own 1)), (32, cj (e 1) (iv ((i : Int)))), (33, cj (e 2) (SV.oe 1 5 i 0)), (34, cj (e 3) (SV.oe 1 5 i 3)), (35, cj (e 4) (SV.own 61)), (36, cj (e 5) (iv ((j : Int)))), (37, cj (e 6) (SV.agg 1 (fun zi => (fun zi => (rowG grG ([]) ((l.getD i default).came)) j (0 + zi)) (0 + zi)))), (38, cj (e 7) (SV.agg 1 (grG ((((l.getD i default).came).getD j []))))), (39, cj (e 8) (SV.oe 61 1 j 0)), (0, SV.own 1), (3, iv ((i : Int))), (5, iv ((j : Int))), (6, SV.bp 4 0), (9, SV.own 1), (10, iv ((l.length : Int))), (11, iv ((i : Int))), (24, gsRow ((l.getD i default).came)), (25, iv ((((l.getD i default).came).length : Int))), (26, iv ((j : Int)))], (cb (e 9) [(1, urowOf ptCell 5 default l 71 3 Pt.came grG 1 ([]) 35 i (some (i, SV.own 61))), (4, Own.box 1 (fun zi => (rowG grG ([]) ((l.getD i default).came)) j (0 + zi)) 35), (61, ownOf grG 1 ([]) (((l.getD i default).came).set j ((((l.getD i default).came).getD j []))) 35)] [(1, urowOf ptCell 5 default l 71 3 Pt.came grG 1 ([]) 35 i (some (i, SV.own 61))), (4, Own.box 1 (fun zi => (rowG grG ([]) ((l.getD i default).came)) j (0 + zi)) 35), (61, ownOf grG 1 ([]) ((l.getD i default).came) 35)])⟩ _
      simp only [h0, h1, h2, h3, h4, h5, h6, h7, h8, h9]
      show Weak _ ⟨[(31, SV.own 1), (32, iv ((i : Int))), (33, SV.oe 1 5 i 0), (34, SV.oe 1 5 i 3), (35, SV.own 61), (36, iv ((j : Int))), (37, SV.agg 1 (fun zi => (fun zi => (rowG grG ([]) ((l.getD i default).came)) j (0 + zi)) (0 + zi))), (38, SV.agg 1 (grG ((((l.getD i default).came).getD j [])))), (39, SV.oe 61 1 j 0), (0, SV.own 1), (3, iv ((i : Int))), (5, iv ((j : Int))), (6, SV.bp 4 0), (9, SV.own 1), (10, iv ((l.length : Int))), (11, iv ((i : Int))), (24, gsRow ((l.getD i default).came)), (25, iv ((((l.getD i default).came).length : Int))), (26, iv ((j : Int)))], [(1, urowOf ptCell 5 default l 71 3 Pt.came grG 1 ([]) 35 i (some (i, SV.own 61))), (4, Own.box 1 (fun zi => (rowG grG ([]) ((l.getD i default).came)) j (0 + zi)) 35), (61, ownOf grG 1 ([]) (((l.getD i default).came).set j ((((l.getD i default).came).getD j []))) 35)]⟩ _
      refine We ?_ ?_
      ·exact ⟨V rfl, V rfl, V rfl, V rfl, V rfl, V rfl, Va (V rfl) (An rfl), Va (V rfl) (An rfl), V rfl, V rfl, V rfl, V rfl, V rfl, V rfl, V rfl, V rfl, V rfl, V rfl, V rfl, Z⟩
      ·exact ⟨⟨_, rfl, rfl⟩, ⟨_, rfl, ⟨rfl, rfl, (An rfl)⟩⟩, ⟨_, rfl, rfl⟩, Z⟩
     refine Rq <| O (Ad (V rfl) K (by omega)) <| O (Mv (V rfl)) <| Nq <| k_ownE 61 ((l.getD i default).came) rfl (by exact set_same (by omega) rfl) <| Nx (j + 1) (by show (j + 1) ≤ (l.getD i default).came.length; first | omega | (simp; done) | (refine ⟨?_, ?_⟩ <;> first | omega | (simp; done))) (by show (l.getD i default).came.length - (j + 1) < (l.getD i default).came.length - j; omega) (We (Vs rfl) (AOs rfl))
    ·have hc2s := hc2; try simp only [BL] at hc2s
     refine Ex <| Rq <| O (Ad (V rfl) K (by omega)) <| O (Mv (V rfl)) <| Nq <| Tk (turn_joinT 1 i 61 (i + 1) ({ (l.getD i default) with came := (l.getD i default).came }) rfl rfl rfl (by first | omega | (simp; omega)) (by omega) (by rw [if_neg (by omega)]) rfl rfl (fun t ht hne => match t, ht, hne with | 0, _, _ => rfl | 1, _, _ => rfl | 2, _, _ => rfl | 3, _, hne => absurd rfl hne | 4, _, _ => rfl) rfl) <| k_uE 1 l ((i + 1)) rfl (by exact set_came (by omega)) (by first | rfl | omega) <| Nx (i + 1) (by show (i + 1) ≤ l.length; first | omega | (simp; done) | (refine ⟨?_, ?_⟩ <;> first | omega | (simp; done))) (by show l.length - (i + 1) < l.length - i; omega) (We (Vs rfl) (AOs rfl))
  ·have hc1s := hc1; try simp only [BL] at hc1s
   exact Ex <| Sq <| Rq <| O (Mv (V rfl)) <| O (As (V rfl)) <| Nq <| c_mv 1 0 rfl rfl <| c_uE 0 l l.length rfl (by rfl) (by first | rfl | omega) <| Rx <| M1 rfl (V rfl) (by exact ⟨⟨_, rfl, rfl⟩, Z⟩) (by show SV.own 0 = SV.own 0; rfl)
theorem powned_ct (l : List Pt) (fr k o t : Int) : Ct Try.prog 75 [ptRow l, iv (fr), iv (k), iv (o), iv (t)] (iv (ownedPo l fr k o t)) := by
 refine CtO 47 Try.func75 rfl rfl rfl fun E => Rl (V (s := 0) rfl) fun hl0 => Sq <| Rq <| O (As K) <| Nq <| Sq <| Sq <| Rq <| O (Mv (V rfl)) <| O (Mv (V rfl)) <| CQ en55 (by exact ⟨⟨(V rfl), rfl⟩, ⟨(V rfl), rfl⟩, Z⟩) (pcheck_ct l fr) <| O (As (V rfl)) <| Nq <| Sq <| Rq <| O (Mv (V rfl)) <| O (Qn (V rfl) K) <| Nq <| Cd (V rfl) (fun hc1 => ?_) (fun hc1 => ?_)
 ·have hc1s := hc1; try simp only [BL] at hc1s
  exact Sq <| Rq <| O (Mv (V rfl)) <| O (As (V rfl)) <| Nq <| Rx <| R1 rfl (V rfl) rfl (by show iv (checkPo l fr) = iv (ownedPo l fr k o t); rw [ownedPo, if_pos hc1s])
 ·have hc1s := hc1; try simp only [BL] at hc1s
  refine Sk <| Sq <| Sq <| Rq <| O (Mv (V rfl)) <| O (Lt (V rfl) K) <| O (Mv (V rfl)) <| Og (Gn rfl rfl) (fun hg => Mv (V rfl)) <| Og (Gn rfl rfl) (fun hg => Mv (V rfl)) <| Og (Gn rfl rfl) (fun hg => Ln (Vg (V rfl) hg) ts60) <| Og (Gn rfl rfl) (fun hg => Ge (Vg (V rfl) hg) (Vg (V rfl) hg)) <| O (Qr (V rfl) (fun h => Vg (V rfl) (notT h))) <| Nq <| Cd (V rfl) (fun hc2 => ?_) (fun hc2 => ?_)
  ·have hc2s := hc2; try simp only [BL] at hc2s
   exact Sq <| Rq <| O (As K) <| Nq <| Rx <| R1 rfl (V rfl) rfl (by show iv (4) = iv (ownedPo l fr k o t); rw [ownedPo, if_neg (not_not_intro hc1s), if_pos hc2])
  ·have hc2s := hc2; try simp only [BL] at hc2s
   refine Sk <| Sq <| Sq <| Rq <| O (Mv (V rfl)) <| O (Mv (V rfl)) <| O (Ix (V rfl) (V rfl) ts60 te60 (by omega) (by omega)) <| O (Fl _ _ (V rfl) Un71 rfl 0 Sz3) <| O (Ld (V rfl) Ga3 (by decide)) <| O (Mv (V rfl)) <| O (Qn (V rfl) (V rfl)) <| O (Mv (V rfl)) <| Og (Gn rfl rfl) (fun hg => Mv (V rfl)) <| Og (Gn rfl rfl) (fun hg => Mv (V rfl)) <| Og (Gn rfl rfl) (fun hg => Ix (Vg (V rfl) hg) (Vg (V rfl) hg) ts60 te60 (by omega) (by omega)) <| Og (Gn rfl rfl) (fun hg => Fl _ _ (Vg (V rfl) hg) Un71 rfl 0 Sz3) <| Og (Gn rfl rfl) (fun hg => Ld (Vg (V rfl) hg) Ga3 (by decide)) <| Og (Gn rfl rfl) (fun hg => Mv (V rfl)) <| Og (Gn rfl rfl) (fun hg => Qn (Vg (V rfl) hg) (Vg (V rfl) hg)) <| O (Qr (V rfl) (fun h => Vg (V rfl) (notT h))) <| Nq <| Cd (V rfl) (fun hc3 => ?_) (fun hc3 => ?_)
   ·have hc3s := hc3; try simp only [BL] at hc3s
    exact Sq <| Rq <| O (As K) <| Nq <| Rx <| R1 rfl (V rfl) rfl (by show iv (7) = iv (ownedPo l fr k o t); rw [ownedPo, if_neg (not_not_intro hc1s), if_neg (ff hc2), if_pos hc3])
   ·have hc3s := hc3; try simp only [BL] at hc3s
    refine Sk <| Sq <| Sq <| Rq <| O (Mv (V rfl)) <| O (Mv (V rfl)) <| O (Ix (V rfl) (V rfl) ts60 te60 (by omega) (by omega)) <| O (Fl _ _ (V rfl) Un71 rfl 0 Sz4) <| O (Ld (V rfl) Ga4 (by decide)) <| Nq <| Cd (V rfl) (fun hc4 => ?_) (fun hc4 => ?_)
    ·have hc4s := hc4; try simp only [BL] at hc4s
     exact Sq <| Rq <| O (As K) <| Nq <| Rx <| R1 rfl (V rfl) rfl (by show iv (5) = iv (ownedPo l fr k o t); rw [ownedPo, if_neg (not_not_intro hc1s), if_neg (ff hc2), if_neg (ff hc3), if_pos hc4])
    ·have hc4s := hc4; try simp only [BL] at hc4s
     exact Sk <| Sq <| Rq <| O (As K) <| Nq <| Rx <| R1 rfl (V rfl) rfl (by show iv (0) = iv (ownedPo l fr k o t); rw [ownedPo, if_neg (not_not_intro hc1s), if_neg (ff hc2), if_neg (ff hc3), if_neg (ff hc4)])
end Go.Proofs.Ytghkpailmdlhgaa
