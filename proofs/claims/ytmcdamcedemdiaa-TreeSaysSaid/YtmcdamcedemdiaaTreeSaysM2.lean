/- What the proof of TreeSays rests on, part 2: the engine, the walks, the plain laws. -/
import Derived.Test.YtmcdamcedemdiaaTreeSaysM1
set_option linter.unusedVariables false
set_option linter.unusedSimpArgs false
namespace Go.Eng
open Go.RowKit
variable {P : Program} {NN : Nat} {E : Env NN}
theorem RepB.rename2 {S : St} {b b' : Nat → Value} {a : Act} {w : World} (h : RepB E b S a w) (D : List Nat) (nw : List (Nat × Own)) (p : Nat → Bool)
    (hhd : ∀ i, p i = true → hdv (b' i) = hdv (b i) ∧ ∀ q, b i = .pointer q → b' i = b i)
    (hsl : ∀ s x, look s S.slots = some x → x.okId p = true) (how : ∀ i o, lookO i S.owns = some o → o.okId p = true ∨ i ∈ D ∨ (lookO i nw).isSome)
    (hsame : ∀ i o, lookO i S.owns = some o → i ∉ D → lookO i nw = none → b' i = b i) (hold : ∀ i, 1000 ≤ i → b' i = b i)
    (hnew : (∀ g, St.excl ⟨S.slots, nw ++ dropKs D S.owns⟩ E b' g → S.excl E b g) → ∀ i o, lookO i nw = some o → OwnOk w (St.excl ⟨S.slots, nw ++ dropKs D S.owns⟩ E b') E.base b' i o)
    (hbk : ∀ i o, lookO i nw = some o → ∀ g, Bk (b' i) g → ∃ q oq, lookO q S.owns = some oq ∧ (q ∈ D ∨ (lookO q nw).isSome) ∧ Bk (b q) g)
    (hap : ∀ i q oi oq, lookO i nw = some oi → lookO q nw = some oq → i ≠ q → ∀ g, Bk (b' i) g → ¬ Bk (b' q) g) :
    RepB E b' ⟨S.slots, nw ++ dropKs D S.owns⟩ a w := by
  have he : Ext (S.excl E b) w w := ⟨Nat.le_refl _, fun _ _ _ => rfl⟩
  have hl : ∀ {i o}, lookO i (nw ++ dropKs D S.owns) = some o → lookO i nw = some o ∨ (lookO i nw = none ∧ i ∉ D ∧ lookO i S.owns = some o ∧ b' i = b i) := fun {i o} hi => by
    rcases lookO_app hi with h1 | ⟨h1, h2⟩
    · exact .inl h1
    · obtain ⟨h3, h4⟩ := lookO_dropKs h2
      exact .inr ⟨h1, h3, h4, hsame i o h4 h3 h1⟩
  have hX : ∀ g, St.excl ⟨S.slots, nw ++ dropKs D S.owns⟩ E b' g → S.excl E b g := by
    rintro g (hh | ⟨i, o, h1, h2⟩)
    · exact .inl hh
    · rcases hl h1 with h3 | ⟨h3, h4, h5, h6⟩
      · obtain ⟨q, oq, h7, _, h8⟩ := hbk i o h3 g h2
        exact .inr ⟨q, oq, h7, h8⟩
      · rw [h6] at h2; exact .inr ⟨i, o, h5, h2⟩
  have hR : ∀ x v, x.okId p = true → R w (S.excl E b) b x v → R w (St.excl ⟨S.slots, nw ++ dropKs D S.owns⟩ E b') b' x v := fun x v hx hr => (R_hd hhd hx hr).mono he (fun g _ hh => hX g hh)
  exact {
    size := h.size
    defers := h.defers
    below := h.below
    slots := fun s x hx => hR _ _ (hsl s x hx) (h.slots s x hx)
    owns := fun i o hi => by
      rcases hl hi with h3 | ⟨h3, h4, h5, h6⟩
      · exact hnew hX i o h3
      · exact (h.owns i o h5).keep0 (p := fun x => x.okId p = true) h6 (Own.okId_all ((how i o h5).resolve_right (by rintro (h7 | h7); exact h4 h7; rw [h3] at h7; cases h7))) (fun _ _ _ => rfl) hR (fun x v hr => hr.mono he (fun g _ hh => hX g hh))
    mine := fun i o hi g hg => by
      rcases hl hi with h3 | ⟨h3, h4, h5, h6⟩
      · obtain ⟨q, oq, h7, _, h8⟩ := hbk i o h3 g hg
        exact h.mine q oq h7 g h8
      · rw [h6] at hg; exact h.mine i o h5 g hg
    apart := fun i q oi oq hi hq hne g hgi hgq => by
      rcases hl hi with h3 | ⟨h3, h4, h5, h6⟩
      · rcases hl hq with h3' | ⟨h3', h4', h5', h6'⟩
        · exact hap i q oi oq h3 h3' hne g hgi hgq
        · obtain ⟨z, oz, h7, h8, h9⟩ := hbk i oi h3 g hgi
          rw [h6'] at hgq
          refine h.apart z q oz oq h7 h5' ?_ g h9 hgq
          rintro rfl
          rcases h8 with h8 | h8
          · exact h4' h8
          · rw [h3'] at h8; cases h8
      · rcases hl hq with h3' | ⟨h3', h4', h5', h6'⟩
        · obtain ⟨z, oz, h7, h8, h9⟩ := hbk q oq h3' g hgq
          rw [h6] at hgi
          refine h.apart z i oz oi h7 h5 ?_ g h9 hgi
          rintro rfl
          rcases h8 with h8 | h8
          · exact h4 h8
          · rw [h3] at h8; cases h8
        · rw [h6] at hgi; rw [h6'] at hgq
          exact h.apart i q oi oq h5 h5' hne g hgi hgq
    old := fun i hi => (hold i hi).trans (h.old i hi) }
section urow
variable {S : St} {j n k : Nat} {get : Nat → Nat → SV} {e : TypeId} {c : Nat} {ce : TypeId} {ck m : Nat} {kn : Nat → Nat} {kget : Nat → Nat → Nat → SV} {hole : Option (Nat × SV)}
def uat (get : Nat → Nat → SV) (c m : Nat) (hole : Option (Nat × SV)) (i t : Nat) : SV :=
  if t = c then match hole with
    | some (h, x) => if i = h then x else if i < m then .junk else get i t
    | none => if i < m then .junk else get i t
  else get i t
theorem u_slice {b : Nat → Value} {a : Act} {w : World} (hr : RepB E b S a w) (ho : lookO j S.owns = some (.urow n k get e c ce ck m kn kget hole)) : ∃ A cp, hdv (b j) = .slice A n cp := by
  obtain ⟨v, subs, xs, h1, hown, _⟩ := hr.owns j _ ho
  obtain ⟨A, cp, hs, _⟩ := hown.slice
  exact ⟨A, cp, by rw [h1]; exact hs⟩
theorem u_cells {b : Nat → Value} {a : Act} {w : World} (hr : RepB E b S a w) (ho : lookO j S.owns = some (.urow n k get e c ce ck m kn kget hole)) (h0 : 0 < n) :
    ∃ subs g cp cur, b j = .tuple (.slice (some ⟨g, 0, none⟩) n (cp + 1) :: subs).toArray ∧ E.base ≤ g ∧ w.heap[g]? = some (.cells cur e (0, 0)) ∧ n ≤ cp + 1 ∧ cp + 1 ≤ maxLen ∧ cur.size = (cp + 1) * k ∧ subs.length = m ∧ m ≤ n ∧
      (∀ i, i < n → ∀ t, t < k → ∃ u, cur[i * k + t]? = some u ∧ u.oneCell' = true ∧ R w (S.excl E b) b (uat get c m hole i t) u ∧ (t ≠ c → RO w (S.excl E b) (get i t) u) ∧ (t = c → ¬ isHole i hole → m ≤ i → RO w (S.excl E b) (get i t) u) ∧ (t = c → ¬ isHole i hole → i < m → subs[i]? = some u) ∧
        (t = c → ∀ x, hole = some (i, x) → R w (S.excl E b) b x u)) ∧
      (∀ i, i < m → ∃ s, subs[i]? = some s ∧ (isHole i hole → blk1 s = none) ∧ (¬ isHole i hole → ∃ ys, ownsR w E.base ce ck s (kn i) ys ∧ ∀ q, q < kn i → ∀ t, t < ck → ∃ u, ys[q * ck + t]? = some u ∧ u.oneCell' = true ∧ RO w (S.excl E b) (kget i q t) u) ∧
        (∀ g', blk1 s = some g' → g ≠ g') ∧ ∀ i' s', subs[i']? = some s' → i' ≠ i → ∀ g, blk1 s = some g → blk1 s' ≠ some g) := by
  obtain ⟨v, subs, xs, h1, h, h2, h3, hc, hsub⟩ := hr.owns j _ ho
  rcases h with ⟨A, hv, hn, _⟩ | ⟨⟨hl, hv⟩, g', m', c', hv'⟩
  · omega
  · rcases hv with ⟨hv, hn⟩ | ⟨g, cap, cur, hv, hb, hh, hcap, hm, hs, ht⟩
    · omega
    · rw [hv] at hv'
      simp only [Value.slice.injEq, Option.some.injEq, Addr.mk.injEq, and_true] at hv'
      obtain ⟨rfl, rfl, rfl⟩ := hv'
      subst hv
      refine ⟨subs, g, c', cur, h1, hb, hh, hcap, hm, hs, h2, h3, fun i hi t htk => ?_, fun i hi => ?_⟩
      · obtain ⟨u, hu, h4, h5, h6, h7, h8⟩ := hc i hi t htk
        refine ⟨u, ?_, h4, ?_, h5, h6, h7, h8⟩
        · rw [← ht, List.getElem?_take] at hu
          split at hu
          · simpa using hu
          · cases hu
        · unfold uat
          split
          · rename_i htc
            split
            · split
              · rename_i e1; subst e1; exact h8 htc _ rfl
              · split
                · trivial
                · rename_i e1 e2; exact (h6 htc e1 (by omega)).toR
            · split
              · trivial
              · exact (h6 htc (fun z => z) (by omega)).toR
          · rename_i htc; exact (h5 htc).toR
      · obtain ⟨s, h4, h5, h6, h7, h8⟩ := hsub i hi
        exact ⟨s, h4, h5, h6, fun g' hg' e1 => h7 g' hg' (by rw [e1]; rfl), h8⟩
theorem q_idxU {x y : Operand} {t : TypeId} {kk : IntKind} {i : Int} (hx : Val E S x (.own j)) (ho : lookO j S.owns = some (.urow n k get e c ce ck m kn kget hole)) (hy : Val E S y (.v (.int kk i)))
    (ht : P.underlying t = some (.slice (P.elem t))) (hs : ∀ w, (sizeOf (P.elem t)).run P w = .ok k w) (h0 : 0 ≤ i) (h1 : i < n) :
    OpQ P E S (.indexAddr t x y) (.oe j k i.toNat 0) := fun b a w hr dst ty pos after gd => by
  have hv : a.eval x = hdv (b j) := hx b a w hr
  have h2 : a.eval y = .int kk i := hy b a w hr
  obtain ⟨subs, g, c, cur, hb, _⟩ := u_cells hr ho (by omega)
  have hb : hdv (b j) = .slice (some ⟨g, 0, none⟩) n (c + 1) := by rw [hb]; rfl
  refine ⟨.pointer (some ⟨g, i.toNat * k + 0, none⟩), fun w' hw' => ?_, g, n, c + 1, hb, by omega, rfl⟩
  simp [execOp, hv, hb, h2, run_indexAt_slice w' t _ n (c + 1) kk i ht, h0, h1, hs, Addr.add_lit]
theorem q_idxUN {x y : Operand} {t : TypeId} {kk : IntKind} {i : Nat} (hx : Val E S x (.own j)) (ho : lookO j S.owns = some (.urow n k get e c ce ck m kn kget hole)) (hy : Val E S y (.v (.int kk (i : Int))))
    (ht : P.underlying t = some (.slice (P.elem t))) (hs : ∀ w, (sizeOf (P.elem t)).run P w = .ok k w) (h1 : i < n) :
    OpQ P E S (.indexAddr t x y) (.oe j k i 0) := by
  have := q_idxU hx ho hy ht hs (Int.natCast_nonneg i) (by omega)
  simpa using this
theorem q_ldU {x : Operand} {t : TypeId} {i off : Nat} {s : SV} (hx : Val E S x (.oe j k i off)) (ho : lookO j S.owns = some (.urow n k get e c ce ck m kn kget hole))
    (ht : ∀ w, (isAgg t).run P w = .ok false w) (hoff : off < k) (hs : uat get c m hole i off = s) : OpQ P E S (.load t x) s := fun b a w hr dst ty pos after gd => by
  subst hs
  obtain ⟨g, n', cap, hb, hi, hv⟩ := hx b a w hr
  obtain ⟨A, c1, hs⟩ := u_slice hr ho
  rw [hs] at hb
  simp only [Value.slice.injEq] at hb
  obtain ⟨rfl, rfl, rfl⟩ := hb
  obtain ⟨subs, g', c', cur, hb', _, hh, _, _, _, _, _, hc, _⟩ := u_cells hr ho (by omega)
  have hb' : hdv (b j) = .slice (some ⟨g', 0, none⟩) n (c' + 1) := by rw [hb']; rfl
  rw [hs] at hb'
  simp only [Value.slice.injEq, Option.some.injEq, Addr.mk.injEq, and_true] at hb'
  obtain ⟨rfl, _, _⟩ := hb'
  obtain ⟨u, hu, h1, h2, _⟩ := hc i hi off hoff
  refine ⟨u, fun w' hw' => ?_, h2⟩
  have hu' : w'.cell? ⟨g, i * k + off, none⟩ = some u := (hw'.cell (p := ⟨g, i * k + off, none⟩) (Array.getElem?_eq_some_iff.1 hh).1).trans (by rw [cell_of_row w g _ cur e (0, 0) hh]; exact hu)
  simp [execOp, hv, Instr.loadAt, Instr.sureAddr, loadVar, ht, hu']
theorem q_ldUA {x : Operand} {t : TypeId} {i off mm : Nat} {gt : Nat → SV} (hx : Val E S x (.oe j k i off)) (ho : lookO j S.owns = some (.urow n k get e c ce ck m kn kget hole))
    (ht : ∀ w, (isAgg t).run P w = .ok true w) (hsz : ∀ w, (sizeOf t).run P w = .ok mm w) (hoff : off + mm ≤ k) (hs : AllN (fun q => uat get c m hole i (off + q) = gt q) mm) : OpQ P E S (.load t x) (.agg mm gt) := fun b a w hr dst ty pos after gd => by
  obtain ⟨g, n', cap, hb, hi, hv⟩ := hx b a w hr
  obtain ⟨A, c1, hs1⟩ := u_slice hr ho
  rw [hs1] at hb
  simp only [Value.slice.injEq] at hb
  obtain ⟨rfl, rfl, rfl⟩ := hb
  obtain ⟨subs, g', c', cur, hb', _, hh, _, _, _, _, _, hc, _⟩ := u_cells hr ho (by omega)
  have hb' : hdv (b j) = .slice (some ⟨g', 0, none⟩) n (c' + 1) := by rw [hb']; rfl
  rw [hs1] at hb'
  simp only [Value.slice.injEq, Option.some.injEq, Addr.mk.injEq, and_true] at hb'
  obtain ⟨rfl, _, _⟩ := hb'
  have hg := (Array.getElem?_eq_some_iff.1 hh).1
  let f : Nat → Value := fun q => (w.cell? ⟨g, i * k + (off + q), none⟩).getD undef
  have hcell : ∀ q, q < mm → ∃ u, w.cell? ⟨g, i * k + (off + q), none⟩ = some u ∧ u.oneCell' = true ∧ R w (S.excl E b) b (gt q) u := fun q hq => by
    obtain ⟨u, hu, h1, h2, _⟩ := hc i hi (off + q) (by omega)
    exact ⟨u, by rw [cell_of_row w g _ cur e (0, 0) hh]; exact hu, h1, by rw [← hs.at q hq]; exact h2⟩
  have hf : ∀ q, q < mm → w.cell? ⟨g, i * k + off + (0 + q), none⟩ = some (f q) := fun q hq => by
    obtain ⟨u, hu, _⟩ := hcell q hq
    have e : i * k + off + (0 + q) = i * k + (off + q) := by omega
    rw [e]; simp only [f]; rw [hu]; rfl
  have hl := fun (w' : World) (hw' : Below w.heap.size w w') => run_loadCellsFrom (P := P) w' g (i * k + off) mm 0 #[] f (fun q hq => (hw'.cell (p := ⟨g, i * k + off + (0 + q), none⟩) hg).trans (hf q hq))
  refine ⟨.agg (#[] ++ (Array.ofFn fun t : Fin mm => f t.1)), fun w' hw' => ?_, _, rfl, by simp, fun q hq => ?_⟩
  · simp [execOp, hv, Instr.loadAt, Instr.sureAddr, loadVar, ht, hsz, loadCells, hl w' hw']
  · obtain ⟨u, hu, h1, h2⟩ := hcell q hq
    exact ⟨u, by simp [hq, f, hu], h1, h2⟩
end urow
end Go.Eng
namespace Go.Eng
open Go.RowKit
variable {P : Program} {NN : Nat} {E : Env NN}
section urow
variable {S : St} {j n k : Nat} {get : Nat → Nat → SV} {e : TypeId} {c : Nat} {ce : TypeId} {ck m : Nat} {kn : Nat → Nat} {kget : Nat → Nat → Nat → SV} {hole : Option (Nat × SV)}
theorem t_stG {ops : Array Oper} {rest : List Oper} {K : St → Prop} {t : TypeId} {p x : Operand} {ty : TypeId} {pos : String} {after : Array Edge} {i off : Nat} {s : SV} {hole' : Option (Nat × SV)} (get' : Nat → Nat → SV)
    (hp : Val E S p (.oe j k i off)) (ho : lookO j S.owns = some (.urow n k get e c ce ck m kn kget hole)) (hx : Val E S x s) (h1 : OneV E S s) (hs : ∀ w, (sizeOf t).run P w = .ok 1 w) (hoff : off < k)
    (hset : (off ≠ c ∧ s.isRO = true ∧ get' i off = s ∧ hole' = hole) ∨ (off = c ∧ hole' = some (i, s) ∧ (isHole i hole ∨ (hole = none ∧ m ≤ i))))
    (hsame : ∀ i', i' < n → ∀ t, t < k → (i' ≠ i ∨ t ≠ off) → get' i' t = get i' t)
    (hk : T P E ops rest ⟨S.slots, (j, .urow n k get' e c ce ck m kn kget hole') :: S.owns⟩ K) :
    T P E ops ({ dst := none, op := .store t p x, type := ty, pos, after, guard := none } :: rest) S K := by
  rintro a w ⟨b, hr⟩ Q hq
  obtain ⟨g, n', cap, hb, hi, hpv⟩ := hp b a w hr
  obtain ⟨A, cq, hsl⟩ := u_slice hr ho
  rw [hsl] at hb
  simp only [Value.slice.injEq] at hb
  obtain ⟨rfl, rfl, rfl⟩ := hb
  obtain ⟨subs, g', c', cur, hb', hbase, hh, hcap, hmax, hsz, hsl2, hmn, hc, hsub⟩ := u_cells hr ho (by omega)
  have hb2 : hdv (b j) = .slice (some ⟨g', 0, none⟩) n (c' + 1) := by rw [hb']; rfl
  rw [hsl] at hb2
  simp only [Value.slice.injEq, Option.some.injEq, Addr.mk.injEq, and_true] at hb2
  obtain ⟨rfl, _, _⟩ := hb2
  have hv := hx b a w hr
  have hone := h1 b a w _ hr hv
  obtain ⟨u0, hu0, _⟩ := hc i hi off hoff
  have hu0' : w.cell? ⟨g, i * k + off, none⟩ = some u0 := by rw [cell_of_row w g _ cur e (0, 0) hh]; exact hu0
  have hfr : w.frozen? ⟨g, i * k + off, none⟩ = false := by simp [World.frozen?, hh]
  have hhole : ∀ i', i' ≠ i → (isHole i' hole' ↔ isHole i' hole) := fun i' hne => by
    rcases hset with ⟨_, _, _, rfl⟩ | ⟨_, rfl, h2 | ⟨rfl, _⟩⟩
    · exact Iff.rfl
    · cases hole with
      | none => exact h2.elim
      | some q => exact ⟨fun h => absurd h hne, fun h => absurd (h.trans (Eq.symm h2)) hne⟩
    · exact ⟨fun h => absurd h hne, fun h => h.elim⟩
  have hsubeq : ∀ q, q < m → (isHole q hole' ↔ isHole q hole) := fun q hq => by
    by_cases h3 : q = i
    · subst h3
      rcases hset with ⟨_, _, _, rfl⟩ | ⟨_, rfl, h2 | ⟨rfl, h4⟩⟩
      · exact Iff.rfl
      · exact ⟨fun _ => h2, fun _ => rfl⟩
      · omega
    · exact hhole q h3
  unfold wpList
  rw [if_pos (by rfl)]
  refine .inl (wp_of_skip (w' := w.setCell ⟨g, i * k + off, none⟩ (a.eval x)) ?_ ?_)
  · simp [execOp, Instr.storeAt, hpv, Instr.sureAddr, storeVar, hs, cells_one hone, storeCells, Addr.add_zero', run_store P w _ _ _ hone, hu0', hfr]
  · refine hk _ _ ⟨b, ?_⟩ Q hq
    refine hr.setown (g := g) ho (by rw [hb']; exact ⟨0, _, rfl, rfl⟩) ⟨rfl, rfl, rfl, by simp⟩ (fun k hk => Below.heap_setCell _ _ _ _ hk) (fun X hm hmo => ?_)
    have hcur' : (w.setCell ⟨g, i * k + off, none⟩ (a.eval x)).heap[g]? = some (.cells (cur.setIfInBounds (i * k + off) (a.eval x)) e (0, 0)) := by simp [World.setCell, Array.getElem?_modify, hh]
    have hnk : n * k ≤ cur.size := by rw [hsz]; exact Nat.mul_le_mul_right _ hcap
    refine ⟨_, subs, (cur.setIfInBounds (i * k + off) (a.eval x)).toList.take (n * k), hb', .inr ⟨⟨?_, .inr ⟨g, c' + 1, _, rfl, hbase, hcur', hcap, hmax, by simpa using hsz, rfl⟩⟩, g, n, c', rfl⟩, hsl2, hmn, fun i' hi' t ht => ?_, fun q hq => ?_⟩
    · simp; omega
    · have hlt : i' * k + t < n * k := by
        have : (i' + 1) * k ≤ n * k := Nat.mul_le_mul_right _ hi'
        have e1 : (i' + 1) * k = i' * k + k := by rw [Nat.add_mul, Nat.one_mul]
        omega
      rw [List.getElem?_take, if_pos hlt, Array.getElem?_toList, Array.getElem?_setIfInBounds]
      by_cases e1 : i * k + off = i' * k + t
      · have hii : i' = i ∧ t = off := by
          have h2 : (i * k + off) / k = i := by rw [Nat.mul_comm, Nat.mul_add_div (by omega), Nat.div_eq_of_lt hoff, Nat.add_zero]
          have h3 : (i' * k + t) / k = i' := by rw [Nat.mul_comm, Nat.mul_add_div (by omega), Nat.div_eq_of_lt ht, Nat.add_zero]
          have : i' = i := by rw [← h2, ← h3, e1]
          subst this
          exact ⟨rfl, by omega⟩
        obtain ⟨rfl, rfl⟩ := hii
        rw [if_pos e1, if_pos (by omega)]
        rcases hset with ⟨h2, hro, h3, h4⟩ | ⟨h2, rfl, _⟩
        · exact ⟨_, rfl, hone, fun _ => by rw [h3]; exact hmo (hv.toRO hro), fun h => absurd h h2, fun h => absurd h h2, fun h => absurd h h2⟩
        · exact ⟨_, rfl, hone, fun h => absurd h2 h, fun _ h => absurd rfl h, fun _ h => absurd rfl h, fun _ y hy => by
            simp only [Option.some.injEq, Prod.mk.injEq, true_and] at hy
            subst hy; exact hm hv⟩
      · rw [if_neg e1]
        have hne : i' ≠ i ∨ t ≠ off := by
          by_cases e2 : i' = i
          · exact .inr (fun e3 => e1 (by rw [e2, e3]))
          · exact .inl e2
        rw [hsame i' hi' t ht hne]
        obtain ⟨u, hu, h2, _, h3, h4, h5, h6⟩ := hc i' hi' t ht
        refine ⟨u, hu, h2, fun z => hmo (h3 z), fun z z2 z3 => ?_, fun z z2 z3 => ?_, fun z y hy => ?_⟩
        · by_cases e2 : i' = i
          · rcases hset with ⟨_, _, _, rfl⟩ | ⟨h7, _, _⟩
            · exact hmo (h4 z z2 z3)
            · rcases hne with h8 | h8
              · exact absurd e2 h8
              · exact absurd (z.trans h7.symm) h8
          · exact hmo (h4 z (fun h => z2 ((hhole i' e2).2 h)) z3)
        · by_cases e2 : i' = i
          · rcases hset with ⟨_, _, _, rfl⟩ | ⟨h7, _, _⟩
            · exact h5 z z2 z3
            · rcases hne with h8 | h8
              · exact absurd e2 h8
              · exact absurd (z.trans h7.symm) h8
          · exact h5 z (fun h => z2 ((hhole i' e2).2 h)) z3
        · rcases hset with ⟨_, _, _, rfl⟩ | ⟨h7, rfl, _⟩
          · exact hm (h6 z y hy)
          · simp only [Option.some.injEq, Prod.mk.injEq] at hy
            rcases hne with h8 | h8
            · exact absurd hy.1.symm h8
            · exact absurd (z.trans h7.symm) h8
    · obtain ⟨s', h2, h3, h4, h5, h6⟩ := hsub q hq
      refine ⟨s', h2, fun z => h3 ((hsubeq q hq).1 z), fun z => ?_, fun g1 hg1 e1 => h5 g1 hg1 ?_, h6⟩
      · obtain ⟨ys, h7, h8⟩ := h4 (fun h => z ((hsubeq q hq).2 h))
        refine ⟨ys, h7.same fun g1 hg1 => Below.heap_setCell _ _ _ _ fun e1 => h5 g1 hg1 e1.symm, fun i1 hi1 t1 ht1 => ?_⟩
        obtain ⟨u, hu, h9, h10⟩ := h8 i1 hi1 t1 ht1
        exact ⟨u, hu, h9, hmo h10⟩
      · simpa [blk1] using e1
theorem t_stU {ops : Array Oper} {rest : List Oper} {K : St → Prop} {t : TypeId} {p x : Operand} {ty : TypeId} {pos : String} {after : Array Edge} {i off : Nat} {s : SV} (get' : Nat → Nat → SV)
    (hp : Val E S p (.oe j k i off)) (ho : lookO j S.owns = some (.urow n k get e c ce ck m kn kget hole)) (hx : Val E S x s) (h1 : s.one = true) (hro : s.isRO = true) (hs : ∀ w, (sizeOf t).run P w = .ok 1 w) (hoff : off < k) (hc : off ≠ c)
    (hset : get' i off = s) (hsame : ∀ i', i' < n → ∀ t, t < k → (i' ≠ i ∨ t ≠ off) → get' i' t = get i' t)
    (hk : T P E ops rest ⟨S.slots, (j, .urow n k get' e c ce ck m kn kget hole) :: S.owns⟩ K) :
    T P E ops ({ dst := none, op := .store t p x, type := ty, pos, after, guard := none } :: rest) S K :=
  t_stG get' hp ho hx (one_of h1) hs hoff (.inl ⟨hc, hro, hset, rfl⟩) hsame hk
theorem t_stH {ops : Array Oper} {rest : List Oper} {K : St → Prop} {t : TypeId} {p x : Operand} {ty : TypeId} {pos : String} {after : Array Edge} {i : Nat} {s : SV}
    (hp : Val E S p (.oe j k i c)) (ho : lookO j S.owns = some (.urow n k get e c ce ck m kn kget hole)) (hx : Val E S x s) (h1 : OneV E S s) (hs : ∀ w, (sizeOf t).run P w = .ok 1 w) (hoff : c < k)
    (hh : isHole i hole ∨ (hole = none ∧ m ≤ i))
    (hk : T P E ops rest ⟨S.slots, (j, .urow n k get e c ce ck m kn kget (some (i, s))) :: S.owns⟩ K) :
    T P E ops ({ dst := none, op := .store t p x, type := ty, pos, after, guard := none } :: rest) S K :=
  t_stG get hp ho hx h1 hs hoff (.inr ⟨rfl, rfl, hh⟩) (fun _ _ _ _ _ => rfl) hk
end urow
end Go.Eng
namespace Go.Eng
open Go.RowKit
variable {P : Program} {NN : Nat} {E : Env NN}
section urow
variable {S : St} {j n k : Nat} {get : Nat → Nat → SV} {e : TypeId} {c : Nat} {ce : TypeId} {ck m : Nat} {kn : Nat → Nat} {kget : Nat → Nat → Nat → SV} {hole : Option (Nat × SV)}
theorem Bk_tuple {v : Value} {l : List Value} {g : Nat} : Bk (.tuple (v :: l).toArray) g ↔ blk1 v = some g ∨ ∃ (i : Nat) (u : Value), l[i]? = some u ∧ blk1 u = some g := by
  constructor
  · rintro ⟨i, u, hi, hu⟩
    cases i with
    | zero =>
      have : v = u := by simpa using hi
      subst this; exact .inl hu
    | succ i => exact .inr ⟨i, u, by simpa using hi, hu⟩
  · rintro (h | ⟨i, u, hi, hu⟩)
    · exact ⟨0, v, rfl, h⟩
    · exact ⟨i + 1, u, by simpa using hi, hu⟩
theorem turn_split (j i j2 : Nat) (ho : lookO j S.owns = some (.urow n k get e c ce ck m kn kget none)) (hi : i < m) (hj : Nat.blt j 1000 = true) (hf : S.fresh j2 = true) :
    Turn E S ⟨S.slots, (j, .urow n k get e c ce ck m kn kget (some (i, .own j2))) :: (j2, .arow (kn i) ck (kget i) ce) :: dropKs [] S.owns⟩ := fun b a w hr => by
  obtain ⟨v, subs, xs, h1, hown, hsl, hmn, hc, hsub⟩ := hr.owns j _ ho
  have hj' : j < 1000 := Nat.le_of_ble_eq_true hj
  obtain ⟨hf1, hf2, hf3⟩ := St.fresh_parts hf
  have hjj : j ≠ j2 := (lookO_fresh hf2 j _ ho).1
  obtain ⟨s, hs1, _, hs3, hs4, hs5⟩ := hsub i hi
  obtain ⟨ys, hys, hyc⟩ := hs3 (fun z => z)
  obtain ⟨As, cs, hss, _⟩ := hys.slice
  let b' := setB (setB b j2 s) j (.tuple (v :: subs.set i undef).toArray)
  have hb1 : b' j = .tuple (v :: subs.set i undef).toArray := setB_same _ _ _
  have hb2 : b' j2 = s := by simp only [b']; rw [setB_other _ _ _ (Ne.symm hjj), setB_same]
  have hb3 : ∀ q, q ≠ j → q ≠ j2 → b' q = b q := fun q h2 h3 => by simp only [b']; rw [setB_other _ _ _ h2, setB_other _ _ _ h3]
  have hlk : ∀ {q o}, lookO q [(j, Own.urow n k get e c ce ck m kn kget (some (i, .own j2))), (j2, .arow (kn i) ck (kget i) ce)] = some o → (q = j ∧ o = .urow n k get e c ce ck m kn kget (some (i, .own j2))) ∨ (q = j2 ∧ o = .arow (kn i) ck (kget i) ce) := fun {q o} h => by
    rw [lookO_cons] at h
    split at h
    · injection h with h; exact .inl ⟨‹_›, h.symm⟩
    · rw [lookO_cons] at h
      split at h
      · injection h with h; exact .inr ⟨‹_›, h.symm⟩
      · cases h
  have hbkj : ∀ g, Bk (b' j) g → Bk (b j) g := fun g hg => by
    rw [hb1, Bk_tuple] at hg
    rw [h1, Bk_tuple]
    rcases hg with hg | ⟨q, u, hq, hu⟩
    · exact .inl hg
    · rw [List.getElem?_set] at hq
      split at hq
      · split at hq
        · injection hq with hq; subst hq; cases hu
        · cases hq
      · exact .inr ⟨q, u, hq, hu⟩
  refine ⟨b', hr.rename2 [] [(j, .urow n k get e c ce ck m kn kget (some (i, .own j2))), (j2, .arow (kn i) ck (kget i) ce)] (notJ j2) (fun q hq => ?_) (fun s x hx => look_fresh hf1 s x hx) (fun q o hq => .inl (lookO_fresh hf2 q o hq).2) (fun q o hq _ hn => ?_) (fun q hq => hb3 q (by omega) (by omega)) (fun hX q o hq => ?_) (fun q o hq g hg => ?_) (fun q z oq oz hq hz hne g hg hg2 => ?_)⟩
  · have h2 := notJ_ne hq
    by_cases h3 : q = j
    · subst h3
      rw [hb1, h1]
      exact ⟨rfl, fun z hz => by cases hz⟩
    · rw [hb3 q h3 h2]; exact ⟨rfl, fun _ _ => rfl⟩
  · refine hb3 q (fun h => ?_) (fun h => ?_)
    · subst h; rw [lookO_cons, if_pos rfl] at hn; cases hn
    · subst h; exact absurd rfl (lookO_fresh hf2 q o hq).1
  · rcases hlk hq with ⟨rfl, rfl⟩ | ⟨rfl, rfl⟩
    · refine ⟨v, subs.set i undef, xs, hb1, hown, by rw [List.length_set]; exact hsl, hmn, fun i1 hi1 t ht => ?_, fun i1 hi1 => ?_⟩
      · obtain ⟨u, hu, h2, h3, h4, h5, h6⟩ := hc i1 hi1 t ht
        refine ⟨u, hu, h2, fun z => (h3 z).mono ⟨Nat.le_refl _, fun _ _ _ => rfl⟩ (fun g _ => hX g), fun z z2 z3 => (h4 z (fun y => y) z3).mono ⟨Nat.le_refl _, fun _ _ _ => rfl⟩ (fun g _ => hX g), fun z z2 z3 => ?_, fun z x hx => ?_⟩
        · rw [List.getElem?_set, if_neg (fun h => z2 h.symm)]
          exact h5 z (fun y => y) z3
        · simp only [Option.some.injEq, Prod.mk.injEq] at hx
          obtain ⟨rfl, rfl⟩ := hx
          have h7 := h5 z (fun y => y) hi
          rw [hs1] at h7
          injection h7 with h7
          subst h7
          show s = hdv (b' j2)
          rw [hb2, hss]; rfl
      · by_cases h2 : i1 = i
        · subst h2
          refine ⟨undef, by rw [List.getElem?_set, if_pos rfl, if_pos (by omega)], fun _ => rfl, fun z => absurd rfl z, fun g hg => (by have q : (none : Option Nat) = some g := hg; cases q), fun _ _ _ _ g hg => (by have q : (none : Option Nat) = some g := hg; cases q)⟩
        · obtain ⟨s1, h3, h4, h5, h6, h7⟩ := hsub i1 hi1
          refine ⟨s1, by rw [List.getElem?_set, if_neg (fun h => h2 h.symm)]; exact h3, fun z => absurd z h2, fun _ => ?_, h6, fun i' s' hs' hne g hg hg' => ?_⟩
          · obtain ⟨zs, h8, h9⟩ := h5 (fun z => z)
            exact ⟨zs, h8, fun q1 hq1 t ht => by
              obtain ⟨u, hu, h10, h11⟩ := h9 q1 hq1 t ht
              exact ⟨u, hu, h10, h11.mono ⟨Nat.le_refl _, fun _ _ _ => rfl⟩ (fun g _ => hX g)⟩⟩
          · rw [List.getElem?_set] at hs'
            split at hs'
            · split at hs'
              · injection hs' with hs'; subst hs'; cases hg'
              · cases hs'
            · exact h7 i' s' hs' hne g hg hg'
    · refine ⟨ys, by rw [hb2]; exact hys, fun q1 hq1 t ht => ?_⟩
      obtain ⟨u, hu, h10, h11⟩ := hyc q1 hq1 t ht
      exact ⟨u, hu, h10, h11.mono ⟨Nat.le_refl _, fun _ _ _ => rfl⟩ (fun g _ => hX g)⟩
  · refine ⟨j, _, ho, .inr (by rw [lookO_cons, if_pos rfl]; rfl), ?_⟩
    rcases hlk hq with ⟨rfl, rfl⟩ | ⟨rfl, rfl⟩
    · exact hbkj g hg
    · rw [hb2, Bk_slice hss] at hg
      rw [h1, Bk_tuple]
      exact .inr ⟨i, s, hs1, hg⟩
  · have key : ∀ g, Bk (b' j) g → ¬ Bk (b' j2) g := fun g hg hg2 => by
      rw [hb2, Bk_slice hss] at hg2
      rw [hb1, Bk_tuple] at hg
      rcases hg with hg | ⟨q1, u, hq1, hu⟩
      · exact hs4 g hg2 hg
      · rw [List.getElem?_set] at hq1
        split at hq1
        · split at hq1
          · injection hq1 with hq1; subst hq1; cases hu
          · cases hq1
        · exact hs5 q1 u hq1 (fun h => ‹¬ i = q1› h.symm) g hg2 hu
    rcases hlk hq with ⟨rfl, _⟩ | ⟨rfl, _⟩ <;> rcases hlk hz with ⟨rfl, _⟩ | ⟨rfl, _⟩
    · exact hne rfl
    · exact key g hg hg2
    · exact key g hg2 hg
    · exact hne rfl
end urow
end Go.Eng
namespace Go.Eng
open Go.RowKit
variable {P : Program} {NN : Nat} {E : Env NN}
section urow
variable {S : St} {j n k : Nat} {get : Nat → Nat → SV} {e : TypeId} {c : Nat} {ce : TypeId} {ck m : Nat} {kn : Nat → Nat} {kget : Nat → Nat → Nat → SV} {hole : Option (Nat × SV)}
theorem turn_join (get' : Nat → Nat → SV) (j i j2 m' n2 : Nat) {g2 : Nat → Nat → SV} {o : Own} (kn' : Nat → Nat) (kget' : Nat → Nat → Nat → SV) (ho : lookO j S.owns = some (.urow n k get e c ce ck m kn kget (some (i, .own j2)))) (ho2 : lookO j2 S.owns = some o) (he : o = .arow n2 ck g2 ce)
    (hi : i < n) (him : i ≤ m) (hm' : m' = if i < m then m else m + 1) (hj : Nat.blt j 1000 = true) (hj2 : Nat.beq j2 j = false)
    (hn2 : kn' i = n2) (hg2 : ∀ q, q < n2 → ∀ t, t < ck → kget' i q t = g2 q t) (hsame : ∀ q, q < m → q ≠ i → kn' q = kn q ∧ ∀ p, p < kn q → ∀ t, t < ck → kget' q p t = kget q p t) (hget : ∀ q, q < n → ∀ t, t < k → (t ≠ c ∨ m' ≤ q) → get' q t = get q t) :
    Turn E S ⟨S.slots, (j, .urow n k get' e c ce ck m' kn' kget' none) :: dropKs [j2] S.owns⟩ := fun b a w hr => by
  subst he
  obtain ⟨v, subs, xs, h1, hown, hsl, hmn, hc, hsub⟩ := hr.owns j _ ho
  have hj' : j < 1000 := Nat.le_of_ble_eq_true hj
  have hjj : j2 ≠ j := fun h => by rw [h] at hj2; simp at hj2
  obtain ⟨ys, hys, hyc⟩ := hr.owns j2 _ ho2
  obtain ⟨As, cs, hss, _⟩ := hys.slice
  have hap : ∀ g, blk1 (b j2) = some g → Bk (b j) g → False := fun g h2 h3 => hr.apart j2 j _ _ ho2 ho hjj g ((Bk_slice hss).2 h2) h3
  rw [h1] at hap
  let subs' := if i < m then subs.set i (b j2) else subs ++ [b j2]
  have hsl' : subs'.length = m' := by
    simp only [subs']
    split
    · rename_i h; rw [List.length_set, hm', if_pos h]; exact hsl
    · rename_i h; rw [List.length_append, hm', if_neg h, hsl]; rfl
  have hat : ∀ q, subs'[q]? = if q = i then some (b j2) else subs[q]? := fun q => by
    simp only [subs']
    split
    · rename_i h
      rw [List.getElem?_set]
      by_cases h2 : i = q
      · rw [if_pos h2, if_pos h2.symm, if_pos (by omega)]
      · rw [if_neg h2, if_neg (fun h3 => h2 h3.symm)]
    · rename_i h
      by_cases h2 : q = i
      · rw [if_pos h2, List.getElem?_append_right (by omega)]
        rw [show q - subs.length = 0 from by omega]; rfl
      · rw [if_neg h2]
        by_cases h3 : q < subs.length
        · rw [List.getElem?_append_left h3]
        · rw [List.getElem?_eq_none (l := subs) (by omega), List.getElem?_eq_none (by rw [List.length_append, List.length_singleton]; omega)]
  let b' := setB b j (.tuple (v :: subs').toArray)
  have hb1 : b' j = .tuple (v :: subs').toArray := setB_same _ _ _
  have hb3 : ∀ q, q ≠ j → b' q = b q := fun q h2 => setB_other _ _ _ h2
  have hlk : ∀ {q o}, lookO q [(j, Own.urow n k get' e c ce ck m' kn' kget' none)] = some o → (q = j ∧ o = .urow n k get' e c ce ck m' kn' kget' none) := fun {q o} h => by
    rw [lookO_cons] at h
    split at h
    · injection h with h; exact ⟨‹_›, h.symm⟩
    · cases h
  refine ⟨b', hr.rename2 [j2] [(j, .urow n k get' e c ce ck m' kn' kget' none)] (fun _ => true) (fun q hq => ?_) (fun _ _ _ => okId_all _) (fun q o hq => .inl ?_) (fun q o hq _ hn => ?_) (fun q hq => hb3 q (by omega)) (fun hX q o hq => ?_) (fun q o hq g hg => ?_) (fun q z oq oz hq hz hne g hg hg2 => ?_)⟩
  · by_cases h3 : q = j
    · subst h3
      rw [hb1, h1]
      exact ⟨rfl, fun z hz => by cases hz⟩
    · rw [hb3 q h3]; exact ⟨rfl, fun _ _ => rfl⟩
  · cases o with
    | box m get ty => exact allB_of fun t _ => okId_all _
    | urow n k get e c ce ck m kn kget hole => cases hole <;> first | rfl | exact okId_all _
    | _ => rfl
  · refine hb3 q (fun h => ?_)
    subst h; rw [lookO_cons, if_pos rfl] at hn; cases hn
  · obtain ⟨rfl, rfl⟩ := hlk hq
    have hXo : ∀ {x u}, RO w (S.excl E b) x u → RO w (St.excl ⟨S.slots, [(q, Own.urow n k get' e c ce ck m' kn' kget' none)] ++ dropKs [j2] S.owns⟩ E b') x u := fun h => h.mono ⟨Nat.le_refl _, fun _ _ _ => rfl⟩ (fun g _ => hX g)
    have hmm : ∀ q1, q1 < m' → q1 ≠ i → q1 < m := fun q1 h2 h3 => by rw [hm'] at h2; split at h2 <;> omega
    refine ⟨v, subs', xs, hb1, hown, hsl', by rw [hm']; split <;> omega, fun i1 hi1 t ht => ?_, fun i1 hi1 => ?_⟩
    · obtain ⟨u, hu, h2, h3, h4, h5, h6⟩ := hc i1 hi1 t ht
      refine ⟨u, hu, h2, fun z => by rw [hget i1 hi1 t ht (.inl z)]; exact hXo (h3 z), fun z _ z3 => ?_, fun z _ z3 => ?_, fun z x hx => (by cases hx)⟩
      · have : i1 ≠ i := fun h => by rw [h, hm'] at z3; split at z3 <;> omega
        rw [hget i1 hi1 t ht (.inr z3)]
        exact hXo (h4 z this (by rw [hm'] at z3; split at z3 <;> omega))
      · rw [hat]
        by_cases h7 : i1 = i
        · subst h7
          rw [if_pos rfl]
          have h8 : u = hdv (b j2) := h6 z _ rfl
          rw [h8, hss]; rfl
        · rw [if_neg h7]
          exact h5 z h7 (hmm i1 z3 h7)
    · by_cases h2 : i1 = i
      · subst h2
        refine ⟨b j2, by rw [hat, if_pos rfl], fun z => z.elim, fun _ => ⟨ys, by rw [hn2]; exact hys, fun q1 hq1 t ht => ?_⟩, fun g hg hv => ?_, fun i' s' hs' hne g hg hg' => ?_⟩
        · rw [hn2] at hq1
          obtain ⟨u, hu, h10, h11⟩ := hyc q1 hq1 t ht
          exact ⟨u, hu, h10, by rw [hg2 q1 hq1 t ht]; exact hXo h11⟩
        · exact hap g hg (Bk_tuple.2 (.inl hv))
        · rw [hat, if_neg hne] at hs'
          exact hap g hg (Bk_tuple.2 (.inr ⟨i', s', hs', hg'⟩))
      · obtain ⟨s1, h3, h4, h5, h6, h7⟩ := hsub i1 (hmm i1 hi1 h2)
        obtain ⟨e1, e2⟩ := hsame i1 (hmm i1 hi1 h2) h2
        refine ⟨s1, by rw [hat, if_neg h2]; exact h3, fun z => z.elim, fun _ => ?_, h6, fun i' s' hs' hne g hg hg' => ?_⟩
        · obtain ⟨zs, h8, h9⟩ := h5 h2
          refine ⟨zs, by rw [e1]; exact h8, fun q1 hq1 t ht => ?_⟩
          rw [e1] at hq1
          obtain ⟨u, hu, h10, h11⟩ := h9 q1 hq1 t ht
          exact ⟨u, hu, h10, by rw [e2 q1 hq1 t ht]; exact hXo h11⟩
        · rw [hat] at hs'
          split at hs'
          · injection hs' with hs'
            subst hs'
            exact hap g hg' (Bk_tuple.2 (.inr ⟨i1, s1, h3, hg⟩))
          · exact h7 i' s' hs' hne g hg hg'
  · obtain ⟨rfl, rfl⟩ := hlk hq
    rw [hb1, Bk_tuple] at hg
    rcases hg with hg | ⟨i1, u, hi1, hu⟩
    · exact ⟨q, _, ho, .inr (by rw [lookO_cons, if_pos rfl]; rfl), by rw [h1, Bk_tuple]; exact .inl hg⟩
    · rw [hat] at hi1
      split at hi1
      · injection hi1 with hi1
        subst hi1
        exact ⟨j2, _, ho2, .inl (List.mem_singleton.2 rfl), (Bk_slice hss).2 hu⟩
      · exact ⟨q, _, ho, .inr (by rw [lookO_cons, if_pos rfl]; rfl), by rw [h1, Bk_tuple]; exact .inr ⟨i1, u, hi1, hu⟩⟩
  · obtain ⟨rfl, _⟩ := hlk hq
    obtain ⟨rfl, _⟩ := hlk hz
    exact hne rfl
def uro (get : Nat → Nat → SV) (c ck m : Nat) (kn : Nat → Nat) (kget : Nat → Nat → Nat → SV) (hole : Option (Nat × SV)) (i t : Nat) : SV :=
  if t = c then match hole with
    | some (h, x) => if i = h then x else if i < m then .row (kn i) ck (kget i) else get i t
    | none => if i < m then .row (kn i) ck (kget i) else get i t
  else get i t
theorem turn_uA (j : Nat) (get' : Nat → Nat → SV) (ho : lookO j S.owns = some (.urow n k get e c ce ck m kn kget hole)) (hj : Nat.blt j 1000 = true) (hh : ∀ i x, hole = some (i, x) → x.isRO = true)
    (hg : ∀ i, i < n → ∀ t, t < k → uro get c ck m kn kget hole i t = get' i t) :
    Turn E S ⟨S.slots, (j, .arow n k get' e) :: dropKs [] S.owns⟩ := fun b a w hr => by
  obtain ⟨v, subs, xs, h1, hown, hsl, hmn, hc, hsub⟩ := hr.owns j _ ho
  have hj' : j < 1000 := Nat.le_of_ble_eq_true hj
  obtain ⟨A, cp, hs, _⟩ := hown.slice
  let b' := setB b j v
  have hb1 : b' j = v := setB_same _ _ _
  have hb3 : ∀ q, q ≠ j → b' q = b q := fun q h2 => setB_other _ _ _ h2
  have hlk : ∀ {q o}, lookO q [(j, Own.arow n k get' e)] = some o → (q = j ∧ o = .arow n k get' e) := fun {q o} h => by
    rw [lookO_cons] at h
    split at h
    · injection h with h; exact ⟨‹_›, h.symm⟩
    · cases h
  refine ⟨b', hr.rename2 [] [(j, .arow n k get' e)] (fun _ => true) (fun q hq => ?_) (fun _ _ _ => okId_all _) (fun q o hq => .inl ?_) (fun q o hq _ hn => ?_) (fun q hq => hb3 q (by omega)) (fun hX q o hq => ?_) (fun q o hq g hg => ?_) (fun q z oq oz hq hz hne g hg hg2 => ?_)⟩
  · by_cases h3 : q = j
    · subst h3
      rw [hb1, h1]
      exact ⟨by rw [hs]; rfl, fun z hz => by cases hz⟩
    · rw [hb3 q h3]; exact ⟨rfl, fun _ _ => rfl⟩
  · cases o with
    | box m get ty => exact allB_of fun t _ => okId_all _
    | urow n k get e c ce ck m kn kget hole => cases hole <;> first | rfl | exact okId_all _
    | _ => rfl
  · refine hb3 q (fun h => ?_)
    subst h; rw [lookO_cons, if_pos rfl] at hn; cases hn
  · obtain ⟨rfl, rfl⟩ := hlk hq
    have hXo : ∀ {x u}, RO w (S.excl E b) x u → RO w (St.excl ⟨S.slots, [(q, Own.arow n k get' e)] ++ dropKs [] S.owns⟩ E b') x u := fun h => h.mono ⟨Nat.le_refl _, fun _ _ _ => rfl⟩ (fun g _ => hX g)
    have hfree : ∀ i s, subs[i]? = some s → i < m → ∀ g, blk1 s = some g → ¬ St.excl ⟨S.slots, [(q, Own.arow n k get' e)] ++ dropKs [] S.owns⟩ E b' g := fun i s hs1 hi g hg => by
      have hbg : Bk (b q) g := by rw [h1, Bk_tuple]; exact .inr ⟨i, s, hs1, hg⟩
      rintro (hh | ⟨z, o, hz1, hz2⟩)
      · exact hr.notX ho hbg hh
      · rcases lookO_app hz1 with h5 | ⟨h4, h5⟩
        · obtain ⟨rfl, rfl⟩ := hlk h5
          rw [hb1, Bk_slice hs] at hz2
          obtain ⟨s2, h6, _, _, h7, _⟩ := hsub i hi
          rw [hs1] at h6
          injection h6 with h6
          subst h6
          exact h7 g hg hz2
        · obtain ⟨_, h6⟩ := lookO_dropKs h5
          have hne : z ≠ q := fun e1 => by subst e1; rw [lookO_cons, if_pos rfl] at h4; cases h4
          rw [hb3 z hne] at hz2
          exact hr.apart z q _ _ h6 ho hne g hz2 hbg
    refine ⟨xs, by rw [hb1]; exact hown, fun i hi t ht => ?_⟩
    obtain ⟨u, hu, h2, h3, h4, h5, h6⟩ := hc i hi t ht
    refine ⟨u, hu, h2, ?_⟩
    rw [← hg i hi t ht]
    have hsubrow : t = c → ¬ isHole i hole → i < m → RO w (St.excl ⟨S.slots, [(q, Own.arow n k get' e)] ++ dropKs [] S.owns⟩ E b') (.row (kn i) ck (kget i)) u := fun z z2 z3 => by
      have h7 := h5 z z2 z3
      obtain ⟨s, h8, _, h9, _⟩ := hsub i z3
      rw [h7] at h8
      injection h8 with h8
      subst h8
      obtain ⟨ys, h10, h11⟩ := h9 z2
      exact h10.row (fun g hg => hfree i u h7 z3 g hg) (fun q1 hq1 t1 ht1 => by
        obtain ⟨u1, hu1, h12, h13⟩ := h11 q1 hq1 t1 ht1
        exact ⟨u1, hu1, h12, hXo h13⟩)
    unfold uro
    split
    · rename_i z
      split
      · split
        · rename_i e1; subst e1
          have h7 := h6 z _ rfl
          exact hXo (h7.toRO (hh _ _ rfl))
        · rename_i e1
          split
          · exact hsubrow z e1 ‹_›
          · exact hXo (h4 z e1 (by omega))
      · split
        · exact hsubrow z (fun z => z) ‹_›
        · exact hXo (h4 z (fun z => z) (by omega))
    · exact hXo (h3 ‹_›)
  · obtain ⟨rfl, rfl⟩ := hlk hq
    rw [hb1, Bk_slice hs] at hg
    exact ⟨q, _, ho, .inr (by rw [lookO_cons, if_pos rfl]; rfl), by rw [h1, Bk_tuple]; exact .inl hg⟩
  · obtain ⟨rfl, _⟩ := hlk hq
    obtain ⟨rfl, _⟩ := hlk hz
    exact hne rfl
end urow
end Go.Eng
namespace Go.Eng
open Go.RowKit
variable {P : Program} {NN : Nat} {E : Env NN}
def urowOf {α β : Type} (cell : α → Nat → SV) (k : Nat) (d : α) (l : List α) (e : TypeId) (c : Nat) (sub : α → List β) (scell : β → Nat → SV) (ck : Nat) (sd : β) (ce : TypeId) (m : Nat) (hole : Option (Nat × SV)) : Own :=
  .urow l.length k (rowG cell d l) e c ce ck m (fun i => (sub (l.getD i d)).length) (fun i => rowG scell sd (sub (l.getD i d))) hole
section typed
variable {α β : Type} {cell : α → Nat → SV} {k : Nat} {d : α} {l : List α} {e : TypeId} {c : Nat} {sub : α → List β} {scell : β → Nat → SV} {ck : Nat} {sd : β} {ce : TypeId} {m : Nat} {hole : Option (Nat × SV)} {S : St} {j : Nat}
theorem getD_put (l : List α) (i q : Nat) (y : α) (h : i < l.length) : (l.set i y).getD q d = if q = i then y else l.getD q d := by
  simp only [List.getD_eq_getElem?_getD, List.getElem?_set]
  by_cases e : i = q
  · subst e; simp [h]
  · rw [if_neg e, if_neg (fun z => e z.symm)]
theorem uat_off {get : Nat → Nat → SV} {i t : Nat} (h : t ≠ c) : uat get c m hole i t = get i t := if_neg h
theorem uat_hole {get : Nat → Nat → SV} {i : Nat} {x : SV} : uat get c m (some (i, x)) i c = x := by
  rw [uat, if_pos rfl]; exact if_pos rfl
theorem uat_late {get : Nat → Nat → SV} {i : Nat} (h : m ≤ i) : uat get c m none i c = get i c := by
  rw [uat, if_pos rfl]; exact if_neg (by omega)
theorem turn_u0T (j c : Nat) (sub : α → List β) (scell : β → Nat → SV) (ck : Nat) (sd : β) (ce : TypeId) (ho : lookO j S.owns = some (ownOf cell k d l e)) (hj : Nat.blt j 1000 = true) :
    Turn E S ⟨S.slots, (j, urowOf cell k d l e c sub scell ck sd ce 0 none) :: dropKs [] S.owns⟩ := turn_u0 j c ce ck _ _ ho hj
theorem t_stUT {ops : Array Oper} {rest : List Oper} {K : St → Prop} {t : TypeId} {p x : Operand} {ty : TypeId} {pos : String} {after : Array Edge} {i off : Nat} {s : SV} (y : α)
    (hp : Val E S p (.oe j k i off)) (ho : lookO j S.owns = some (urowOf cell k d l e c sub scell ck sd ce m hole)) (hx : Val E S x s) (h1 : s.one = true) (hro : s.isRO = true) (hs : ∀ w, (sizeOf t).run P w = .ok 1 w) (hoff : off < k) (hc : off ≠ c)
    (hil : i < l.length) (hset : cell y off = s) (hsame : ∀ t, t < k → t ≠ off → cell y t = cell (l.getD i d) t) (hsub : sub y = sub (l.getD i d))
    (hk : T P E ops rest ⟨S.slots, (j, urowOf cell k d (l.set i y) e c sub scell ck sd ce m hole) :: S.owns⟩ K) :
    T P E ops ({ dst := none, op := .store t p x, type := ty, pos, after, guard := none } :: rest) S K := by
  refine t_stU (rowG cell d (l.set i y)) hp ho hx h1 hro hs hoff hc ?_ (fun q hq t ht hne => ?_) ?_
  · show cell ((l.set i y).getD i d) off = s
    rw [getD_put _ _ _ _ hil, if_pos rfl]; exact hset
  · show cell ((l.set i y).getD q d) t = cell (l.getD q d) t
    rw [getD_put _ _ _ _ hil]
    split
    · rename_i e1; subst e1
      exact hsame t ht (hne.resolve_left fun z => z rfl)
    · rfl
  · have h2 : ∀ q, sub ((l.set i y).getD q d) = sub (l.getD q d) := fun q => by
      rw [getD_put _ _ _ _ hil]
      split
      · rename_i e1; subst e1; exact hsub
      · rfl
    simp only [urowOf, h2, List.length_set] at hk
    exact hk
theorem turn_joinT (j i j2 m' : Nat) (y : α) {o : Own} {x : List β} (ho : lookO j S.owns = some (urowOf cell k d l e c sub scell ck sd ce m (some (i, .own j2)))) (ho2 : lookO j2 S.owns = some o) (he : o = ownOf scell ck sd x ce)
    (hi : i < l.length) (him : i ≤ m) (hm' : m' = if i < m then m else m + 1) (hj : Nat.blt j 1000 = true) (hj2 : Nat.beq j2 j = false)
    (hsame : ∀ t, t < k → t ≠ c → cell y t = cell (l.getD i d) t) (hsub : sub y = x) :
    Turn E S ⟨S.slots, (j, urowOf cell k d (l.set i y) e c sub scell ck sd ce m' none) :: dropKs [j2] S.owns⟩ := by
  have h2 : ∀ q, (l.set i y).getD q d = if q = i then y else l.getD q d := fun q => getD_put _ _ _ _ hi
  have := turn_join (E := E) (rowG cell d (l.set i y)) j i j2 m' x.length (fun q => (sub ((l.set i y).getD q d)).length) (fun q => rowG scell sd (sub ((l.set i y).getD q d))) ho ho2 he hi him hm' hj hj2
    (by show (sub ((l.set i y).getD i d)).length = _; rw [h2, if_pos rfl, hsub]) (fun q hq t ht => by show rowG scell sd (sub ((l.set i y).getD i d)) q t = _; rw [h2, if_pos rfl, hsub])
    (fun q hq hne => by
      constructor
      · show (sub ((l.set i y).getD q d)).length = _; rw [h2, if_neg hne]
      · intro p hp t ht
        show rowG scell sd (sub ((l.set i y).getD q d)) p t = _; rw [h2, if_neg hne])
    (fun q hq t ht hne => by
      show cell ((l.set i y).getD q d) t = cell (l.getD q d) t
      rw [h2]
      split
      · rename_i e1; subst e1
        refine hsame t ht (hne.resolve_right fun z => ?_)
        rw [hm'] at z; split at z <;> omega
      · rfl)
  simp only [urowOf, List.length_set]
  exact this
theorem turn_splitT (j i j2 : Nat) (ho : lookO j S.owns = some (urowOf cell k d l e c sub scell ck sd ce m none)) (hi : i < m) (hj : Nat.blt j 1000 = true) (hf : S.fresh j2 = true) :
    Turn E S ⟨S.slots, (j, urowOf cell k d l e c sub scell ck sd ce m (some (i, .own j2))) :: (j2, ownOf scell ck sd (sub (l.getD i d)) ce) :: dropKs [] S.owns⟩ := turn_split j i j2 ho hi hj hf
theorem turn_uAT (j : Nat) (ho : lookO j S.owns = some (urowOf cell k d l e c sub scell ck sd ce m none)) (hj : Nat.blt j 1000 = true) (hcell : ∀ x, cell x c = rowOf scell ck sd (sub x)) :
    Turn E S ⟨S.slots, (j, ownOf cell k d l e) :: dropKs [] S.owns⟩ :=
  turn_uA j (rowG cell d l) ho hj (fun _ _ h => (by cases h)) fun i hi t ht => by
    unfold uro
    split
    · rename_i h; subst h
      show (if i < m then _ else _) = _
      split
      · exact (hcell _).symm
      · rfl
    · rfl
theorem weak_uE {l' : List α} {m' : Nat} (ho : lookO j S.owns = some (urowOf cell k d l e c sub scell ck sd ce m hole)) (h : l = l') (hm : m = m') : Weak E S ⟨S.slots, (j, urowOf cell k d l' e c sub scell ck sd ce m' hole) :: S.owns⟩ := by
  subst h; subst hm
  exact weak_ownG ho fun _ _ _ h => h
theorem k_uE {G : Act → World → Prop} (j : Nat) (l' : List α) (m' : Nat) (ho : lookO j S.owns = some (urowOf cell k d l e c sub scell ck sd ce m hole)) (h : l = l') (hm : m = m') (hk : ∀ a w, Rep E ⟨S.slots, (j, urowOf cell k d l' e c sub scell ck sd ce m' hole) :: S.owns⟩ a w → G a w) : ∀ a w, Rep E S a w → G a w := k_weak (weak_uE ho h hm) hk
theorem c_uE {code : Code} {Q : Exit → Act → World → Prop} (j : Nat) (l' : List α) (m' : Nat) (ho : lookO j S.owns = some (urowOf cell k d l e c sub scell ck sd ce m hole)) (h : l = l') (hm : m = m') (hk : C P E code ⟨S.slots, (j, urowOf cell k d l' e c sub scell ck sd ce m' hole) :: S.owns⟩ Q) : C P E code S Q := (weak_uE ho h hm).c hk
end typed
end Go.Eng
namespace Go.Eng
open Go.RowKit
variable {P : Program} {NN : Nat} {E : Env NN}
theorem storeCells_at (g B : Nat) : ∀ (vs : List Value) (i : Nat), storeCells ⟨g, B, none⟩ vs i = storeCells ⟨g, 0, none⟩ vs (B + i)
  | [], i => rfl
  | v :: vs, i => by
    simp only [storeCells, Addr.add_lit, Nat.zero_add, storeCells_at g B vs (i + 1)]
    rfl
theorem q_nilO {S : St} {x : Operand} {j k i off : Nat} (hx : Val E S x (.oe j k i off)) : OpQ P E S (.nilCheck x) (.oe j k i off) := fun b a w hr dst ty pos after gd => by
  obtain ⟨g, n, cap, hb, hi, hv⟩ := hx b a w hr
  refine ⟨.pointer (some ⟨g, i * k + off, none⟩), fun w' hw' => ?_, g, n, cap, hb, hi, rfl⟩
  simp [execOp, hv]
end Go.Eng
namespace Go.Eng
open Go.RowKit
variable {P : Program} {NN : Nat} {E : Env NN}
end Go.Eng
namespace Go.Eng
theorem cj_t (x : SV) : cj true x = x := rfl
theorem cj_f (x : SV) : cj false x = .junk := rfl
theorem cjn_t (x : SV) : cjn true x = .junk := rfl
theorem cjn_f (x : SV) : cjn false x = x := rfl
theorem cb_t (x y : List (Nat × Own)) : cb true x y = x := rfl
theorem cb_f (x y : List (Nat × Own)) : cb false x y = y := rfl
def cv (b : Bool) (x y : SV) : SV := match b with | true => x | false => y
theorem cv_t (x y : SV) : cv true x y = x := rfl
theorem cv_f (x y : SV) : cv false x y = y := rfl
end Go.Eng
namespace Go.Eng
variable {P : Program} {NN : Nat} {E : Env NN}
theorem BL : (∀ a b : Bool, ((a && b) = true) = (a = true ∧ b = true)) ∧ (∀ a b : Bool, ((a || b) = true) = (a = true ∨ b = true)) ∧ (∀ b : Bool, ((!b) = true) = (b = false)) ∧ (∀ b : Bool, ((!b) = false) = (b = true)) ∧
    (∀ a b : Bool, ((a || b) = false) = (a = false ∧ b = false)) ∧ (∀ a b : Bool, ((a && b) = false) = (a = false ∨ b = false)) ∧ (∀ (p : Prop) [Decidable p], (decide p = true) = p) ∧ (∀ (p : Prop) [Decidable p], (decide p = false) = ¬ p) :=
  ⟨fun _ _ => by simp, fun _ _ => by simp, fun _ => by simp, fun _ => by simp, fun a b => by cases a <;> cases b <;> simp, fun a b => by cases a <;> cases b <;> simp, fun _ => by simp, fun _ => by simp⟩
def tab {α : Type} (g : Nat → α) : Nat → List α
  | 0 => []
  | n + 1 => g n :: tab g n
theorem An {α : Type} {g g' : Nat → α} : ∀ {m : Nat}, tab g m = tab g' m → AllN (fun t => g t = g' t) m
  | 0, _ => trivial
  | _ + 1, h => ⟨An (List.cons.inj h).2, (List.cons.inj h).1⟩
theorem Vs {S : St} : ∀ {sl : List (Nat × SV)}, sl.map (fun p => look p.1 S.slots) = sl.map (fun p => some p.2) → AllV E S sl
  | [], _ => trivial
  | _ :: _, h => ⟨val_tmp (List.cons.inj h).1, Vs (List.cons.inj h).2⟩
theorem AOs {S : St} : ∀ {ow : List (Nat × Own)}, ow.map (fun p => lookO p.1 S.owns) = ow.map (fun p => some p.2) → AllOE S ow
  | [], _ => trivial
  | _ :: _, h => ⟨⟨_, (List.cons.inj h).1, Own.eqv_rfl _⟩, AOs (List.cons.inj h).2⟩
theorem row_lenA {S : St} {x : Operand} {m n k : Nat} {g : Nat → SV} {get : Nat → Nat → SV} (i : Nat) (hx : Val E S x (.agg m g)) (hi : Nat.blt i m = true) (e : g i = .row n k get) {c : Code} {Q : Exit → Act → World → Prop} (h : n ≤ 9223372036854775807 → C P E c S Q) : C P E c S Q := by
  rintro a w ⟨b, hr⟩
  obtain ⟨cs, _, _, hc⟩ := hx b a w hr
  obtain ⟨u, _, _, hu⟩ := hc i (Nat.le_of_ble_eq_true hi)
  rw [e] at hu
  obtain ⟨A, c, _, h1, h2, _⟩ := hu
  exact h (by simp only [maxLen] at h2; omega) a w ⟨b, hr⟩
theorem c_condT {c : Operand} {x y : Code} {S : St} {Q : Exit → Act → World → Prop} {t : Bool} (hc : Val E S c (.v (.bool t))) (h : t = true) (hx : C P E x S Q) : C P E (.cond c x y) S Q := c_cond hc (fun _ => hx) (fun h' => absurd (h.symm.trans h') (by simp))
theorem c_nextH {S : St} {G : Act → World → Prop} {ι : Type} {T : ι → St} {I : ι → Prop} {μ : ι → Nat} {i : ι} (i' : ι) (hG : ∀ a w, (∃ i', (I i' ∧ μ i' < μ i) ∧ Rep E (T i') a w) → G a w) (hI : I i') (hμ : μ i' < μ i) (hw : Weak E S (T i')) : ∀ a w, Rep E S a w → G a w :=
  fun a w ⟨b, hr⟩ => hG a w ⟨i', ⟨hI, hμ⟩, b, hw b a w hr⟩
end Go.Eng
namespace Go.Eng
open Go.RowKit
variable {P : Program} {NN : Nat} {E : Env NN}
theorem wpAny_inv {l : List Oper} {I : (Nat → Bool) → Act → World → Prop} {Q : Exit → Act → World → Prop} (hb : backB 0 l = true)
    (hs : ∀ i o, l[i]? = some o → ∀ e, Down l e → e i = false → DepsL e (depsOf o) → ∀ a w, I e a w → ∀ Q2 : Exit → Act → World → Prop, (∀ a' w', I (setE e i) a' w' → Q2 .normal a' w') → wpList P l.toArray Q2 [o] a w)
    (hf : ∀ e, (∀ i, i < l.length → e i = true) → ∀ a w, I e a w → Q .normal a w) :
    ∀ (fuel : Nat) (listed : Array Bool) (a : Act) (w : World), listed.size = l.length → leftN listed ≤ fuel → Down l (flags listed) → I (flags listed) a w → wpAny P .any l.toArray Q fuel listed a w := by
  have hempty : ∀ (listed : Array Bool), listed.size = l.length → Region.ready .any l.toArray listed = [] → ∀ i, i < l.length → flags listed i = true := by
    intro listed hsz hr i
    induction i using Nat.strongRecOn with
    | ind i ih =>
      intro hi
      cases hfl : flags listed i with
      | true => rfl
      | false =>
        have hm := mem_ready (md := .any) hsz (List.getElem?_eq_getElem hi) hfl (fun ed hed hbd => by
          have hlt := backB.at hb i _ (List.getElem?_eq_getElem hi) ed.on (List.mem_map.2 ⟨ed, List.mem_filter.2 ⟨hed, hbd⟩, rfl⟩)
          exact ih ed.on (by omega) (by omega))
        rw [hr] at hm; cases hm
  intro fuel
  induction fuel with
  | zero =>
    intro listed a w hsz hle hd hr
    have hall := leftN_zero (Nat.le_zero.1 hle)
    refine ⟨?_, hf _ (fun i hi => hall i (by omega)) a w hr⟩
    refine List.eq_nil_iff_forall_not_mem.2 fun i hi => ?_
    obtain ⟨o, ho, h1, _⟩ := ready_mem hsz hi
    have := hall i (by have := (List.getElem?_eq_some_iff.1 ho).1; omega)
    rw [h1] at this; cases this
  | succ fuel ih =>
    intro listed a w hsz hle hd hr
    refine ⟨fun h0 => hf _ (hempty listed hsz h0) a w hr, fun i hi => ?_⟩
    obtain ⟨o, ho, h1, h2⟩ := ready_mem hsz hi
    have hil : i < listed.size := by have := (List.getElem?_eq_some_iff.1 ho).1; omega
    let K : Act → World → Prop := wpAny P .any l.toArray Q fuel (listed.setIfInBounds i true)
    let Q2 : Exit → Act → World → Prop := fun x a w => match x with | .normal => K a w | _ => False
    have hstep := hs i o ho (flags listed) hd h1 (deps_iff.2 h2) a w hr Q2 (fun a' w' hr' => by
      show K a' w'
      refine ih _ a' w' (by simpa using hsz) (by have := leftN_set hil h1; omega) ?_ ?_
      · intro k hk
        rw [flags_set hil] at hk ⊢
        by_cases e : k = i
        · subst e
          rw [ho]
          refine deps_iff.2 fun ed hed hbd => ?_
          have := h2 ed hed hbd
          simp only [setE]
          split
          · rfl
          · exact this
        · have hk' : flags listed k = true := by
            simp only [setE] at hk
            split at hk
            · rename_i hb'; exact absurd (Nat.eq_of_beq_eq_true hb') e
            · exact hk
          refine DepsL.of fun x hx => ?_
          have := (hd k hk').at x hx
          simp only [setE]
          split
          · rfl
          · exact this
      · rw [flags_set hil]; exact hr')
    unfold wpOp
    have ho' : l.toArray[i]? = some o := by simp [ho]
    rw [ho']
    unfold wpList at hstep
    by_cases hw : Region.wanted o (yielded l.toArray a.tmps) = true
    · rw [if_pos hw] at hstep
      simp only []
      rw [if_pos hw]
      have hbad : ∀ x (a : Act) (w : World), x ≠ Exit.normal → Q2 x a w → Q x a w := by
        intro x a w hx hq
        cases x <;> first | exact absurd rfl hx | exact hq.elim
      rcases hstep with h | ⟨h, a', w', h'⟩
      · have e : wpList P l.toArray Q2 [] = K := by funext a w; simp only [wpList]; rfl
        rw [e] at h
        exact .inl (upon_mono hbad h)
      · exact h'.elim
    · rw [if_neg hw] at hstep
      simp only []
      rw [if_neg hw]
      unfold wpList at hstep
      exact hstep
def OpG (P : Program) {NN : Nat} (E : Env NN) (S : St) (ops : Array Oper) (o : Oper) (x : SV) : Prop :=
  ∀ b a w, RepB E b S a w → ∀ Q : Exit → Act → World → Prop, (∀ v w', Below w.heap.size w w' → R w' (S.excl E b) b x v → Q .normal (a.put o.dst v) w') → wpList P ops Q [o] a w
section
variable {ops : Array Oper} {S : St} {d : Option Tmp} {ty : TypeId} {pos : String} {after : Array Edge} {gd : Nat × Bool} {c : Bool} {x : SV}
theorem og_w {op : Op} (h : OpW P E S op x) : OpG P E S ops { dst := d, op, type := ty, pos, after, guard := none } x := fun b a w hr Q hq => by
  obtain ⟨v, w', h1, h2, h3⟩ := h b a w hr d ty pos after none
  unfold wpList
  rw [if_pos (by rfl)]
  exact .inl (wp_of_run h1 (hq v w' h2 h3))
theorem og_q {op : Op} (h : OpQ P E S op x) : OpG P E S ops { dst := d, op, type := ty, pos, after, guard := none } x := og_w h.toW
theorem og_wG {op : Op} (hg : Guard E S ops gd c) (h : c = true → OpW P E S op x) : OpG P E S ops { dst := d, op, type := ty, pos, after, guard := some gd } (.grd c x) := fun b a w hr Q hq => by
  unfold wpList
  rw [hg b a w hr _ rfl]
  cases c with
  | false => exact hq undef w (Below.refl _ _) ⟨(fun h => by cases h), fun _ => rfl⟩
  | true =>
    obtain ⟨v, w', h1, h2, h3⟩ := h rfl b a w hr d ty pos after (some gd)
    exact .inl (wp_of_run h1 (hq v w' h2 ⟨fun _ => h3, fun h => by cases h⟩))
theorem og_qG {op : Op} (hg : Guard E S ops gd c) (h : c = true → OpQ P E S op x) : OpG P E S ops { dst := d, op, type := ty, pos, after, guard := some gd } (.grd c x) := og_wG hg fun hc => (h hc).toW
theorem og_callG {f : FuncId} {xs : List Operand} {ats : Array TypeId} {args : List SV} (hg : Guard E S ops gd c) (hf : Enters P f) (ha : c = true → Vals E S xs args) (h : c = true → Ct P f args x) :
    OpG P E S ops { dst := d, op := .call { callee := .value (.func f), args := xs.toArray, argTypes := ats }, type := ty, pos, after, guard := some gd } (.grd c x) := fun b a w hr Q hq => by
  unfold wpList
  rw [hg b a w hr _ rfl]
  cases c with
  | false => exact hq undef w (Below.refl _ _) ⟨(fun h => by cases h), fun _ => rfl⟩
  | true =>
    refine .inl (wp_of_enter (R := fun v w'' => Below w.heap.size w w'' ∧ R w'' (S.excl E b) b x v) (run_call hf ..) ?_ fun v w'' hv => hq v w'' hv.1 ⟨fun _ => hv.2, fun h => by cases h⟩)
    refine (h rfl w (S.excl E b) _ (fun g hg => hr.excl_lt hg) ((ha rfl).ros hr)).mono ?_
    rintro e w'' ⟨v, rfl, hv, hb⟩
    exact ⟨v, rfl, hb, hv.toR⟩
end
def mmB (k : Nat) : List Nat → Bool
  | [] => false
  | x :: r => match Nat.beq k x with | true => true | false => mmB k r
theorem mmB_iff {k : Nat} : ∀ {l : List Nat}, mmB k l = true ↔ k ∈ l
  | [] => by simp [mmB]
  | x :: r => by
    simp only [mmB, List.mem_cons]
    cases hb : Nat.beq k x with
    | true => simp [Nat.eq_of_beq_eq_true hb]
    | false =>
      have : k ≠ x := fun e => by subst e; simp at hb
      simp only [this, false_or]
      exact mmB_iff
def pick (deps : List Nat) : List (Nat × Nat × SV) → List (Nat × SV)
  | [] => []
  | p :: r => match mmB p.1 deps with | true => (p.2.1, p.2.2) :: pick deps r | false => pick deps r
def allS : List (Nat × Nat × SV) → List (Nat × SV)
  | [] => []
  | p :: r => (p.2.1, p.2.2) :: allS r
def dstsOf : List Oper → List Nat
  | [] => []
  | o :: r => match o.dst with | some d => d :: dstsOf r | none => dstsOf r
def keepS (ds : List Nat) : List (Nat × SV) → List (Nat × SV)
  | [] => []
  | p :: r => match mmB p.1 ds with | true => keepS ds r | false => p :: keepS ds r
def noDup : List Nat → Bool
  | [] => true
  | x :: r => !mmB x r && noDup r
def Gs (P : Program) {NN : Nat} (E : Env NN) (l : List Oper) (base : List (Nat × SV)) (ow : List (Nat × Own)) : List (Nat × Nat × SV) → Nat → List Oper → (List (Nat × Nat × SV) → Prop) → Prop
  | acc, _, [], K => K acc
  | acc, i, o :: r, K => ∃ d x, o.dst = some d ∧ d < NN ∧ OpG P E ⟨pick (depsOf o) acc ++ base, ow⟩ l.toArray o x ∧ Gs P E l base ow ((i, d, x) :: acc) (i + 1) r K
theorem gs_nil {l : List Oper} {base : List (Nat × SV)} {ow : List (Nat × Own)} {acc : List (Nat × Nat × SV)} {i : Nat} {K : List (Nat × Nat × SV) → Prop} (h : K acc) : Gs P E l base ow acc i [] K := h
theorem gs_op {l : List Oper} {base : List (Nat × SV)} {ow : List (Nat × Own)} {acc : List (Nat × Nat × SV)} {i : Nat} {K : List (Nat × Nat × SV) → Prop} {d : Nat} {x : SV} {op : Op} {ty : TypeId} {pos : String} {after : Array Edge} {gd : Option (Nat × Bool)} {r : List Oper}
    (h : OpG P E ⟨pick (depsOf { dst := some d, op, type := ty, pos, after, guard := gd }) acc ++ base, ow⟩ l.toArray { dst := some d, op, type := ty, pos, after, guard := gd } x) (hk : Gs P E l base ow ((i, d, x) :: acc) (i + 1) r K) (hd : d < NN := by decide) :
    Gs P E l base ow acc i ({ dst := some d, op, type := ty, pos, after, guard := gd } :: r) K := ⟨d, x, rfl, hd, h, hk⟩
theorem look_app {s : Nat} : ∀ {l m : List (Nat × SV)} {x : SV}, look s (l ++ m) = some x → look s l = some x ∨ look s m = some x
  | [], _, _, h => .inr h
  | p :: r, m, x, h => by
    simp only [List.cons_append, look] at h ⊢
    split at h
    · exact .inl h
    · exact look_app h
theorem look_pick {s : Nat} {deps : List Nat} : ∀ {acc : List (Nat × Nat × SV)} {x : SV}, look s (pick deps acc) = some x → ∃ k, k ∈ deps ∧ (k, s, x) ∈ acc
  | [], x, h => by simp [pick, look] at h
  | p :: r, x, h => by
    simp only [pick] at h
    split at h
    · rename_i hm
      simp only [look] at h
      split at h
      · rename_i hb
        injection h with h
        subst h
        have := Nat.eq_of_beq_eq_true hb
        exact ⟨p.1, mmB_iff.1 hm, by rw [this]; exact .head _⟩
      · obtain ⟨k, h1, h2⟩ := look_pick h; exact ⟨k, h1, .tail _ h2⟩
    · obtain ⟨k, h1, h2⟩ := look_pick h; exact ⟨k, h1, .tail _ h2⟩
theorem look_allS {s : Nat} : ∀ {acc : List (Nat × Nat × SV)} {x : SV}, look s (allS acc) = some x → ∃ k, (k, s, x) ∈ acc
  | [], x, h => by simp [allS, look] at h
  | p :: r, x, h => by
    simp only [allS, look] at h
    split at h
    · rename_i hb
      injection h with h
      subst h
      have := Nat.eq_of_beq_eq_true hb
      exact ⟨p.1, by rw [this]; exact .head _⟩
    · obtain ⟨k, h2⟩ := look_allS h; exact ⟨k, .tail _ h2⟩
theorem look_keep {s : Nat} {ds : List Nat} : ∀ {l : List (Nat × SV)} {x : SV}, look s (keepS ds l) = some x → ¬ s ∈ ds ∧ look s l = some x
  | [], x, h => by simp [keepS, look] at h
  | p :: r, x, h => by
    simp only [keepS] at h
    split at h
    · rename_i hm
      obtain ⟨h1, h2⟩ := look_keep h
      refine ⟨h1, ?_⟩
      simp only [look]
      split
      · rename_i hb
        exact absurd (Nat.eq_of_beq_eq_true hb ▸ mmB_iff.1 hm) h1
      · exact h2
    · rename_i hm
      simp only [look] at h ⊢
      split at h
      · rename_i hb
        exact ⟨fun hh => (by rw [Nat.eq_of_beq_eq_true hb] at hh; rw [mmB_iff.2 hh] at hm; cases hm), h⟩
      · rename_i hb
        exact look_keep h
def IxS (l : List Oper) : Nat → List (Nat × Nat × SV) → Prop
  | 0, [] => True
  | k + 1, p :: r => (p.1 = k ∧ ∃ o, l[k]? = some o ∧ o.dst = some p.2.1) ∧ IxS l k r
  | _, _ => False
theorem IxS.mem {l : List Oper} : ∀ {n : Nat} {acc : List (Nat × Nat × SV)}, IxS l n acc → ∀ p ∈ acc, p.1 < n ∧ ∃ o, l[p.1]? = some o ∧ o.dst = some p.2.1
  | 0, [], _, p, h => by cases h
  | k + 1, q :: r, hI, p, h => by
    cases h with
    | head => obtain ⟨⟨h1, h2⟩, _⟩ := hI; exact ⟨by omega, by rw [h1]; exact h2⟩
    | tail _ h => obtain ⟨h1, h2⟩ := hI.2.mem p h; exact ⟨by omega, h2⟩
  | 0, _ :: _, hI, _, _ => hI.elim
  | _ + 1, [], hI, _, _ => hI.elim
theorem IxS.uniq {l : List Oper} : ∀ {n : Nat} {acc : List (Nat × Nat × SV)}, IxS l n acc → ∀ p ∈ acc, ∀ q ∈ acc, p.1 = q.1 → p = q
  | 0, [], _, p, h, _, _, _ => by cases h
  | k + 1, x :: r, hI, p, hp, q, hq, e => by
    have h1 := hI.1.1
    cases hp with
    | head =>
      cases hq with
      | head => rfl
      | tail _ hq => have := (hI.2.mem q hq).1; omega
    | tail _ hp =>
      cases hq with
      | head => have := (hI.2.mem p hp).1; omega
      | tail _ hq => exact hI.2.uniq p hp q hq e
  | 0, _ :: _, hI, _, _, _, _, _ => hI.elim
  | _ + 1, [], hI, _, _, _, _, _ => hI.elim
theorem mem_dsts {d : Nat} : ∀ {l : List Oper} {i : Nat} {o : Oper}, l[i]? = some o → o.dst = some d → d ∈ dstsOf l
  | [], _, _, h, _ => by simp at h
  | y :: r, 0, o, h, h1 => by simp at h; subst h; simp [dstsOf, h1]
  | y :: r, i + 1, o, h, h1 => by
    have := mem_dsts (l := r) (i := i) (by simpa using h) h1
    simp only [dstsOf]
    split
    · exact .tail _ this
    · exact this
theorem noDup_at : ∀ {l : List Oper}, noDup (dstsOf l) = true → ∀ (i j : Nat) (o o' : Oper) (d : Nat), l[i]? = some o → l[j]? = some o' → o.dst = some d → o'.dst = some d → i = j
  | [], _, i, j, o, o', d, h, _, _, _ => by simp at h
  | x :: r, hn, i, j, o, o', d, h1, h2, h3, h4 => by
    have hm : ∀ {k : Nat} {o : Oper}, r[k]? = some o → o.dst = some d → d ∈ dstsOf r := by
      intro k o hk ho
      clear hn h1 h2
      induction r generalizing k with
      | nil => simp at hk
      | cons y r ih =>
        cases k with
        | zero => simp at hk; subst hk; simp [dstsOf, ho]
        | succ k =>
          have := ih (by simpa using hk)
          simp only [dstsOf]
          split
          · exact .tail _ this
          · exact this
    have hn' : noDup (dstsOf r) = true := by
      simp only [dstsOf] at hn
      split at hn
      · simp only [noDup, Bool.and_eq_true] at hn; exact hn.2
      · exact hn
    cases i with
    | zero =>
      simp at h1; subst h1
      cases j with
      | zero => rfl
      | succ j =>
        simp only [dstsOf, h3, noDup, Bool.and_eq_true, Bool.not_eq_true'] at hn
        have := hm (by simpa using h2) h4
        rw [mmB_iff.2 this] at hn
        exact absurd hn.1 (by simp)
    | succ i =>
      cases j with
      | zero =>
        simp at h2; subst h2
        simp only [dstsOf, h4, noDup, Bool.and_eq_true, Bool.not_eq_true'] at hn
        have := hm (by simpa using h1) h3
        rw [mmB_iff.2 this] at hn
        exact absurd hn.1 (by simp)
      | succ j => rw [noDup_at hn' i j o o' d (by simpa using h1) (by simpa using h2) h3 h4]
theorem Gs.all {l : List Oper} {base : List (Nat × SV)} {ow : List (Nat × Own)} {K : List (Nat × Nat × SV) → Prop} : ∀ {r : List Oper} {acc : List (Nat × Nat × SV)} {i : Nat}, Gs P E l base ow acc i r K → IxS l i acc → (∀ j o, r[j]? = some o → l[i + j]? = some o) →
    ∃ full, K full ∧ IxS l (i + r.length) full ∧ (∀ p ∈ acc, p ∈ full) ∧ ∀ j o, r[j]? = some o → ∃ d x acc', o.dst = some d ∧ d < NN ∧ (i + j, d, x) ∈ full ∧ (∀ p ∈ acc', p ∈ full) ∧ OpG P E ⟨pick (depsOf o) acc' ++ base, ow⟩ l.toArray o x
  | [], acc, i, h, hI, _ => ⟨acc, h, hI, fun _ h => h, fun j o h => by simp at h⟩
  | o :: r, acc, i, ⟨d, x, h1, h2, h3, h4⟩, hI, hl => by
    obtain ⟨full, hK, hF, hacc, hall⟩ := Gs.all h4 (show IxS l (i + 1) ((i, d, x) :: acc) from ⟨⟨rfl, o, by simpa using hl 0 o rfl, h1⟩, hI⟩) (fun j o' h => by have := hl (j + 1) o' (by simpa using h); rwa [show i + 1 + j = i + (j + 1) by omega])
    refine ⟨full, hK, by rw [show i + (o :: r).length = i + 1 + r.length by simp; omega]; exact hF, fun p hp => hacc p (.tail _ hp), fun j o' h => ?_⟩
    cases j with
    | zero =>
      simp at h; subst h
      exact ⟨d, x, acc, h1, h2, hacc _ (.head _), fun p hp => hacc p (.tail _ hp), h3⟩
    | succ j =>
      obtain ⟨d', x', acc', q1, q2, q3, q4, q5⟩ := hall j o' (by simpa using h)
      exact ⟨d', x', acc', q1, q2, by rwa [show i + 1 + j = i + (j + 1) by omega] at q3, q4, q5⟩
def GI {NN : Nat} (E : Env NN) (base : List (Nat × SV)) (ow : List (Nat × Own)) (full : List (Nat × Nat × SV)) (e : Nat → Bool) (a : Act) (w : World) : Prop :=
  ∃ b, RepB E b ⟨base, ow⟩ a w ∧ ∀ p ∈ full, e p.1 = true → R w (St.excl ⟨base, ow⟩ E b) b p.2.2 (a.tmps.getD p.2.1 undef)
theorem GI.weak {base : List (Nat × SV)} {ow : List (Nat × Own)} {full : List (Nat × Nat × SV)} {e : Nat → Bool} {a : Act} {w : World} {b : Nat → Value} (h : RepB E b ⟨base, ow⟩ a w) (hx : ∀ p ∈ full, e p.1 = true → R w (St.excl ⟨base, ow⟩ E b) b p.2.2 (a.tmps.getD p.2.1 undef))
    {sl : List (Nat × SV)} (hs : ∀ s x, look s sl = some x → look s base = some x ∨ ∃ k, e k = true ∧ (k, s, x) ∈ full) : RepB E b ⟨sl, ow⟩ a w where
  size := h.size
  defers := h.defers
  below := h.below
  slots := fun s x hl => by
    rcases hs s x hl with h1 | ⟨k, h1, h2⟩
    · exact h.slots s x h1
    · exact hx _ h2 h1
  owns := h.owns
  mine := h.mine
  apart := h.apart
  old := h.old
theorem setE_eq (e : Nat → Bool) (i k : Nat) : setE e i k = if k = i then true else e k := by
  simp only [setE]
  by_cases h : k = i
  · subst h; simp
  · have : Nat.beq k i = false := by
      cases hb : Nat.beq k i
      · rfl
      · exact absurd (Nat.eq_of_beq_eq_true hb) h
    rw [this, if_neg h]
def desc (acc : List Nat) : Nat → List Oper → List Nat
  | _, [] => acc
  | i, o :: r => match (depsOf o).any (fun x => mmB x acc) with | true => desc (i :: acc) (i + 1) r | false => desc acc (i + 1) r
theorem desc_sound {l : List Oper} {k : Nat} : ∀ {r : List Oper} {i : Nat} {acc : List Nat}, (∀ j o, r[j]? = some o → l[i + j]? = some o) →
    (∀ q ∈ acc, q = k ∨ ∃ o, l[q]? = some o ∧ ∀ e, Down l e → DepsL e (depsOf o) → e k = true) → ∀ q ∈ desc acc i r, q = k ∨ ∃ o, l[q]? = some o ∧ ∀ e, Down l e → DepsL e (depsOf o) → e k = true
  | [], i, acc, _, h, q, hq => h q hq
  | o :: r, i, acc, hl, h, q, hq => by
    have hl' : ∀ j o', r[j]? = some o' → l[i + 1 + j]? = some o' := fun j o' hj => by have := hl (j + 1) o' (by simpa using hj); rwa [show i + 1 + j = i + (j + 1) by omega]
    simp only [desc] at hq
    split at hq
    · rename_i hany
      refine desc_sound hl' (fun q hq => ?_) q hq
      cases hq with
      | head =>
        have ho := hl 0 o rfl
        rw [Nat.add_zero] at ho
        refine .inr ⟨o, ho, fun e hd hdep => ?_⟩
        obtain ⟨x, hx, hxm⟩ := List.any_eq_true.1 hany
        have hex := hdep.at x hx
        rcases h x (mmB_iff.1 hxm) with h1 | ⟨o2, h1, h2⟩
        · exact h1 ▸ hex
        · have hd2 := hd x hex
          rw [h1] at hd2
          exact h2 e hd hd2
      | tail _ hq => exact h q hq
    · exact desc_sound hl' h q hq
def sepB (n : Nat) (l : List Oper) : Bool := (List.range n).all fun k => (List.range' n (l.length - n)).all fun i => mmB i (desc [k] 0 l)
theorem sepB_sound {n : Nat} {l : List Oper} (h : sepB n l = true) {i : Nat} {o : Oper} (hi : n ≤ i) (ho : l[i]? = some o) {e : Nat → Bool} (hd : Down l e) (hdep : DepsL e (depsOf o)) : ∀ k, k < n → e k = true := fun k hk => by
  simp only [sepB, List.all_eq_true] at h
  have hlt := (List.getElem?_eq_some_iff.1 ho).1
  have h1 := mmB_iff.1 (h k (List.mem_range.2 hk) i (by simp [List.mem_range'_1]; omega))
  rcases desc_sound (l := l) (k := k) (fun j o hj => by simpa using hj) (fun q hq => by cases hq with | head => exact .inl rfl | tail _ hq => cases hq) i h1 with h2 | ⟨o', h2, h3⟩
  · omega
  · rw [ho] at h2
    injection h2 with h2
    subst h2
    exact h3 e hd hdep
theorem c_rs {id : Nat} {l : List Oper} {S : St} {Q : Exit → Act → World → Prop} (n : Nat) (stE : List (Nat × Nat × SV) → (Nat → Bool) → St) (Sf : List (Nat × Nat × SV) → St) (hm : P.follows .mixedOrders = true) (hb : (backB 0 l && noDup (dstsOf l) && sepB n l && Nat.ble n l.length) = true)
    (h : Gs P E l (keepS (dstsOf (l.take n)) S.slots) S.owns [] 0 (l.take n) fun full =>
      (Weak E ⟨allS full ++ keepS (dstsOf (l.take n)) S.slots, S.owns⟩ (stE full fun k => Nat.blt k n) ∧
      (∀ i o, n ≤ i → l[i]? = some o → ∀ e, Down l e → e i = false → DepsL e (depsOf o) → T P E l.toArray [o] (stE full e) fun S' => Weak E S' (stE full (setE e i))) ∧
      (∀ e, (∀ i, i < l.length → e i = true) → Weak E (stE full e) (Sf full)) ∧ ∀ a w, Rep E (Sf full) a w → Q .normal a w)) : C P E (.region id l.toArray true) S Q := by
  rintro a w ⟨b, hr⟩
  simp only [Bool.and_eq_true] at hb
  obtain ⟨⟨⟨hback, hnd⟩, hsep⟩, hnl⟩ := hb
  have hnl := Nat.le_of_ble_eq_true hnl
  obtain ⟨full, ⟨h1, h2, h3, h4⟩, hI, -, hall⟩ := h.all (show IxS l 0 [] from trivial) (fun j o hj => by
    rw [Nat.zero_add]
    rw [List.getElem?_take] at hj
    split at hj
    · exact hj
    · cases hj)
  have hlen : (l.take n).length = n := by rw [List.length_take]; omega
  rw [hlen, Nat.zero_add] at hI
  have hfl : flags (Array.replicate l.toArray.size false) = fun _ => false := by
    funext i
    simp only [flags, Array.getD_eq_getD_getElem?, Array.getElem?_replicate]
    split <;> rfl
  let base := keepS (dstsOf (l.take n)) S.slots
  let I : (Nat → Bool) → Act → World → Prop := fun e a w => ((∀ k, k < n → e k = true) ∧ Rep E (stE full e) a w) ∨ ((∃ k, k < n ∧ e k = false) ∧ (∀ k, n ≤ k → e k = false) ∧ GI E base S.owns full e a w)
  have enter : ∀ e a w, (∀ k, k < n → e k = true) → (∀ k, n ≤ k → e k = false) → GI E base S.owns full e a w → I e a w := by
    intro e a w hA hB ⟨b, hr, hx⟩
    have he : e = fun k => Nat.blt k n := by
      funext k
      by_cases hk : k < n
      · rw [hA k hk]; exact (Nat.ble_eq_true_of_le hk).symm
      · rw [hB k (by omega)]
        cases hbl : Nat.blt k n with
        | false => rfl
        | true => exact absurd (Nat.le_of_ble_eq_true hbl) (by omega)
    refine .inl ⟨hA, b, ?_⟩
    rw [he]
    refine h1 b a w (GI.weak hr hx fun s x hl => ?_)
    rcases look_app hl with hl | hl
    · obtain ⟨k, hk⟩ := look_allS hl
      exact .inr ⟨k, hA k (hI.mem _ hk).1, hk⟩
    · exact .inl hl
  have start : ∀ a w, RepB E b S a w → I (fun _ => false) a w := by
    intro a w hr
    have hg : GI E base S.owns full (fun _ => false) a w := by
      refine ⟨b, ?_, fun p _ h => by cases h⟩
      exact { size := hr.size, defers := hr.defers, below := hr.below, slots := fun s x hl => hr.slots s x (look_keep hl).2, owns := hr.owns, mine := hr.mine, apart := hr.apart, old := hr.old }
    by_cases h0 : n = 0
    · exact enter _ a w (fun k hk => by omega) (fun _ _ => rfl) hg
    · exact .inr ⟨⟨0, by omega, rfl⟩, fun _ _ => rfl, hg⟩
  refine wp_region_any hm ?_
  refine wpAny_inv (I := I) hback ?_ ?_ l.toArray.size _ a _ (by simp) ?_ ?_ ?_
  · intro i o ho e hd hei hdep a w hIe Q2 hQ2
    rcases hIe with ⟨hA, hrep⟩ | ⟨⟨k0, hk0, hek0⟩, hB, b, hr, hx⟩
    · by_cases hin : i < n
      · rw [hA i hin] at hei; cases hei
      · refine h2 i o (by omega) ho e hd hei hdep a w hrep Q2 fun S' a' w' hw' ⟨b', hr'⟩ => hQ2 a' w' (.inl ⟨fun k hk => by rw [setE_eq]; split; rfl; exact hA k hk, b', hw' b' a' w' hr'⟩)
    · have hin : i < n := by
        by_cases hin : i < n
        · exact hin
        · have := sepB_sound hsep (by omega) ho hd hdep k0 hk0
          rw [this] at hek0; cases hek0
      obtain ⟨d, x, acc', q1, q2, q3, q4, q5⟩ := hall i o (by rw [List.getElem?_take, if_pos hin]; exact ho)
      rw [Nat.zero_add] at q3
      have hdk : d ∈ dstsOf (l.take n) := by
        have h5 : (l.take n)[i]? = some o := by rw [List.getElem?_take, if_pos hin]; exact ho
        exact mem_dsts h5 q1
      refine q5 b a w (GI.weak hr hx fun s x hl => ?_) Q2 fun v w' hw hv => hQ2 _ w' ?_
      · rcases look_app hl with hl | hl
        · obtain ⟨k, hk, hm⟩ := look_pick hl
          exact .inr ⟨k, hdep.at k hk, q4 _ hm⟩
        · exact .inl hl
      · have hr2 : RepB E b ⟨base, S.owns⟩ (a.put o.dst v) w' := by
          have hp := (hr.world hw).put (d := d) (x := x) (v := v) q2 hv
          rw [q1]
          exact { size := hp.size, defers := hp.defers, below := hp.below, slots := fun s y hl => hp.slots s y (by
              rw [look_cons, if_neg]
              · exact hl
              · rintro rfl
                exact (look_keep hl).1 hdk), owns := hp.owns, mine := hp.mine, apart := hp.apart, old := hp.old }
        have hg : GI E base S.owns full (setE e i) (a.put o.dst v) w' := by
          refine ⟨b, hr2, fun p hp hep => ?_⟩
          rw [setE_eq] at hep
          by_cases hpi : p.1 = i
          · have := hI.uniq p hp _ q3 hpi
            subst this
            rw [q1]
            have hsz : d < a.tmps.size := by rw [hr.size]; exact q2
            show R w' _ b x ((a.tmps.setIfInBounds d v).getD d undef)
            rw [getD_set _ _ _ _ hsz, if_pos rfl]
            exact hv
          · rw [if_neg hpi] at hep
            have h6 := hx p hp hep
            obtain ⟨_, o', h7, h8⟩ := hI.mem p hp
            have hne : p.2.1 ≠ d := fun hh => hpi (noDup_at hnd p.1 i o' o d h7 ho (hh ▸ h8) q1)
            have hsz : d < a.tmps.size := by rw [hr.size]; exact q2
            rw [q1]
            show R w' _ b p.2.2 ((a.tmps.setIfInBounds d v).getD p.2.1 undef)
            rw [getD_set _ _ _ _ hsz, if_neg hne]
            exact h6.mono (.of_below hw) (fun _ _ hh => hh)
        by_cases hall' : ∀ k, k < n → setE e i k = true
        · exact enter _ _ _ hall' (fun k hk => by rw [setE_eq, if_neg (by omega)]; exact hB k hk) hg
        · refine .inr ⟨?_, fun k hk => by rw [setE_eq, if_neg (by omega)]; exact hB k hk, hg⟩
          obtain ⟨k, hk⟩ := Classical.not_forall.1 hall'
          obtain ⟨hk1, hk2⟩ := Classical.not_imp.1 hk
          exact ⟨k, hk1, by simpa using hk2⟩
  · intro e he a w hIe
    rcases hIe with ⟨_, b, hr⟩ | ⟨⟨k, hk, hek⟩, _⟩
    · exact h4 a w ⟨b, h3 e he b a w hr⟩
    · rw [he k (by omega)] at hek; cases hek
  · simp only [leftN]
    refine Nat.le_trans List.countP_le_length ?_
    simp
  · rw [hfl]
    intro k hk
    cases hk
  · rw [hfl]
    exact start a _ (hr.world (below_drew w))
theorem c_rg0 {id : Nat} {l : List Oper} {S : St} {Q : Exit → Act → World → Prop} (hm : P.follows .mixedOrders = true) (hb : (backB 0 l && noDup (dstsOf l)) = true)
    (h : Gs P E l (keepS (dstsOf l) S.slots) S.owns [] 0 l fun full => ∀ a w, Rep E ⟨allS full ++ keepS (dstsOf l) S.slots, S.owns⟩ a w → Q .normal a w) : C P E (.region id l.toArray true) S Q := by
  have ht : l.take l.length = l := List.take_length
  refine c_rs l.length (fun full _ => ⟨allS full ++ keepS (dstsOf l) S.slots, S.owns⟩) (fun full => ⟨allS full ++ keepS (dstsOf l) S.slots, S.owns⟩) hm ?_ ?_
  · rw [hb, Bool.true_and, Bool.and_eq_true]
    refine ⟨?_, Nat.ble_eq_true_of_le (Nat.le_refl _)⟩
    simp [sepB]
  · rw [ht]
    have : ∀ {r : List Oper} {acc : List (Nat × Nat × SV)} {i : Nat} {base : List (Nat × SV)} {ow : List (Nat × Own)} {K K2 : List (Nat × Nat × SV) → Prop}, (∀ f, K f → K2 f) → Gs P E l base ow acc i r K → Gs P E l base ow acc i r K2 := by
      intro r
      induction r with
      | nil => intro acc i base ow K K2 hk h; exact hk _ h
      | cons o r ih => intro acc i base ow K K2 hk ⟨d, x, q1, q2, q3, q4⟩; exact ⟨d, x, q1, q2, q3, ih hk q4⟩
    refine this (fun full hk => ⟨fun b a w hr => hr, fun i o hi ho => absurd (List.getElem?_eq_some_iff.1 ho).1 (by omega), fun _ _ b a w hr => hr, hk⟩) h
theorem c_rg {id : Nat} {l : List Oper} {S : St} {Q : Exit → Act → World → Prop} (ds : List Nat) (hm : P.follows .mixedOrders = true) (hb : (backB 0 l && noDup (dstsOf l)) = true) (hds : dstsOf l = ds)
    (h : Gs P E l (keepS ds S.slots) S.owns [] 0 l fun full => ∀ a w, Rep E ⟨allS full ++ keepS ds S.slots, S.owns⟩ a w → Q .normal a w) : C P E (.region id l.toArray true) S Q := by
  subst hds
  exact c_rg0 hm hb h
end Go.Eng
namespace Go.Eng
open Go.RowKit
variable {P : Program} {NN : Nat} {E : Env NN}
theorem mod_row {i k t : Nat} (h : t < k) : (i * k + t) % k = t := by
  rw [Nat.mul_comm, Nat.mul_add_mod]; exact Nat.mod_eq_of_lt h
theorem t_make {α : Type} {cell : α → Nat → SV} {dd : α} {ops : Array Oper} {rest : List Oper} {S : St} {K : St → Prop} {d : Tmp} {t e : TypeId} {n k bytes : Nat} {x y : Operand} {ty : TypeId} {pos : String} {after : Array Edge} {zget : Nat → SV} (j : Nat) (z0 : α)
    (he : ElemOk P t e k bytes) (hz : ZeroOk P e k zget) (hx : Val E S x (.v (.int .i64 (n : Int)))) (hy : Val E S y (.v (.int .i64 (n : Int)))) (hn : n * bytes ≤ 281474976710656 ∧ n ≤ 9223372036854775807) (hi : AllN (fun t => ImpO (zget t) (cell z0 t)) k) (hf : S.fresh j = true)
    (hk : T P E ops rest ⟨(d, .own j) :: S.slots, (j, ownOf cell k dd (List.replicate n z0) e) :: S.owns⟩ K) (hd : d < NN := by decide) :
    T P E ops ({ dst := some d, op := .makeSlice t x y, type := ty, pos, after, guard := none } :: rest) S K := by
  rintro a w ⟨b, hr⟩ Q hq
  obtain ⟨ht, ⟨i, z, h1, h2, h3, h4, h5⟩, hk0⟩ := he
  obtain ⟨z', hz1, hz2, hz3⟩ := hz
  have hzz : z' = z := by
    have := hz1 w
    simp [zeroValue, typeInfo, h1, h2] at this
    exact this.symm
  subst hzz
  have vx : a.eval x = .int .i64 (n : Int) := hx b a w hr
  have vy : a.eval y = .int .i64 (n : Int) := hy b a w hr
  have hrun := run_make (P := P) w t e i z' ht h1 h2 .i64 .i64 (n : Int) (n : Int) (by omega) (Int.le_refl _) (by have := hn.1; rw [h4, ← Int.natCast_mul, Nat.mul_comm]; omega) (by have := hn.2; omega)
  simp only [Int.toNat_natCast] at hrun
  unfold wpList
  rw [if_pos (by rfl)]
  refine .inl (wp_of_run (w' := w.alloc (.cells (madeCells z'.cells (n * i.size)) e)) (v := .slice (some ⟨w.heap.size, 0, none⟩) n n) ?_ ?_)
  · simp only [execOp, vx, vy, Sem.run_bind, hrun]
    rfl
  · cases n with
    | zero =>
      refine hk _ _ ⟨_, ((hr.world (below_alloc w _)).newown (k := k) (get := rowG cell dd (List.replicate 0 z0)) (e := e) (A := some ⟨w.heap.size, 0, none⟩) hf).put (x := .own j) hd (own_val rfl)⟩ Q hq
    | succ n' =>
      have hy : ∀ g, Bk (.slice (some ⟨w.heap.size, 0, none⟩) (n' + 1) (n' + 1)) g → w.heap.size ≤ g := fun g hg => by
        have hg : some w.heap.size = some g := hg
        injection hg with hg; omega
      have hsz := size_madeCells z'.cells ((n' + 1) * i.size)
      rw [h3] at hsz
      have hadd := hr.add (below_alloc w (.cells (madeCells z'.cells ((n' + 1) * i.size)) e)) hf (o := ownOf cell k dd (List.replicate (n' + 1) z0) e) (y := .slice (some ⟨w.heap.size, 0, none⟩) (n' + 1) (n' + 1)) hy fun X' _ _ hRO => by
        have hlen : (List.replicate (n' + 1) z0).length = n' + 1 := List.length_replicate
        refine ⟨(madeCells z'.cells ((n' + 1) * i.size)).toList, .inr ⟨?_, w.heap.size, n' + 1, n', by rw [setB_same]⟩, fun q hq t ht => ?_⟩
        · rw [hlen]
          refine ⟨by rw [Array.length_toList, h3, hsz], .inr ⟨w.heap.size, n' + 1, _, by rw [setB_same], hr.base_le, heap_alloc_new w _, Nat.le_refl _, hn.2, by rw [h3]; exact hsz, ?_⟩⟩
          rw [List.take_of_length_le]; rw [Array.length_toList, h3, hsz]; exact Nat.le_refl _
        · rw [hlen] at hq
          obtain ⟨u, hu, h6, h7⟩ := hz3 t ht
          have hqk : q * k + t < (n' + 1) * k := by
            have : q * k + k ≤ (n' + 1) * k := by rw [← Nat.succ_mul]; exact Nat.mul_le_mul_right _ (by omega)
            omega
          have hlt : t < z'.cells.size := by rw [h5]; exact ht
          refine ⟨u, ?_, h6, ?_⟩
          · rw [Array.getElem?_toList, h3]
            simp only [madeCells, Array.getElem?_map, Array.getElem?_range, hqk, if_pos, Option.map_some, h5, mod_row ht]
            rw [Array.getElem?_eq_getElem hlt] at hu
            rw [getElem!_pos z'.cells t hlt]
            exact hu
          · have e : rowG cell dd (List.replicate (n' + 1) z0) q t = cell z0 t := by
              simp only [rowG, List.getD_eq_getElem?_getD, List.getElem?_replicate, if_pos hq, Option.getD_some]
            rw [e]
            exact (hi.at t ht) _ _ _ (h7 _ _)
      exact hk _ _ ⟨_, hadd.put (x := .own j) hd (own_val rfl)⟩ Q hq
end Go.Eng
namespace Go.Eng
open Go.RowKit
variable {P : Program} {NN : Nat} {E : Env NN}
theorem q_slOL {S : St} {x lo : Operand} {t : TypeId} {j n k : Nat} {get : Nat → Nat → SV} {e : TypeId} {l : Int} (ht : P.underlying t = some (.slice (P.elem t))) (hs : ∀ w, (sizeOf (P.elem t)).run P w = .ok k w) (hx : Val E S x (.own j)) (ho : lookO j S.owns = some (.arow n k get e))
    (hlo : Val E S lo (.v (.int .i64 l))) (h1 : 0 ≤ l) (h2 : l ≤ n) : OpQ P E S (.slice t x (some lo) none none) (.sub j k l.toNat (n - l.toNat)) := fun b a w hr dst ty pos after gd => by
  have hv : a.eval x = hdv (b j) := hx b a w hr
  obtain ⟨xs, hown, _⟩ := hr.owns j _ ho
  obtain ⟨A, c, hb, hn, _⟩ := hown.slice
  have hbd : hdv (b j) = .slice A n c := by rw [hb]; rfl
  have hl : a.eval lo = .int .i64 l := hlo b a w hr
  refine ⟨.slice (if c = l.toNat then A else A.map (·.add (l.toNat * k))) (n - l.toNat) (c - l.toNat), fun w' hw' => ?_, A, n, c, hbd, by omega, ?_⟩
  · have h3 := run_slice_l (P := P) w' t A n c ht .i64 l h1 (by omega)
    simp only [execOp, Option.map_none, Option.map_some, hl, hv, hbd, Sem.run_bind, run_sliceAt_slice w' t _ _ _ _ ht, h3, hs, Result.andThen_ok]
    simp [sliced]
  · by_cases h0 : l.toNat = 0
    · rw [h0, if_pos rfl]
      split
      · rfl
      · cases A <;> simp [Addr.add_zero']
    · rw [if_neg h0]
theorem q_slOH {S : St} {x hi : Operand} {t : TypeId} {j n k : Nat} {get : Nat → Nat → SV} {e : TypeId} {h : Int} (ht : P.underlying t = some (.slice (P.elem t))) (hs : ∀ w, (sizeOf (P.elem t)).run P w = .ok k w) (hx : Val E S x (.own j)) (ho : lookO j S.owns = some (.arow n k get e))
    (hhi : Val E S hi (.v (.int .i64 h))) (h1 : 0 ≤ h) (h2 : h ≤ n) : OpQ P E S (.slice t x none (some hi) none) (.sub j k 0 h.toNat) := fun b a w hr dst ty pos after gd => by
  have hv : a.eval x = hdv (b j) := hx b a w hr
  obtain ⟨xs, hown, _⟩ := hr.owns j _ ho
  obtain ⟨A, c, hb, hn, _⟩ := hown.slice
  have hbd : hdv (b j) = .slice A n c := by rw [hb]; rfl
  have hh : a.eval hi = .int .i64 h := hhi b a w hr
  refine ⟨.slice A h.toNat c, fun w' hw' => ?_, A, n, c, hbd, by omega, by rw [if_pos rfl, Nat.sub_zero]⟩
  have h3 := run_slice_h (P := P) w' t A n c ht .i64 h h1 (by omega)
  simp only [execOp, Option.map_none, Option.map_some, hh, hv, hbd, Sem.run_bind, run_sliceAt_slice w' t _ _ _ _ ht, h3, hs, Result.andThen_ok]
  cases A <;> simp [sliced, Addr.add_zero']
theorem sub_at {S : St} {b : Nat → Value} {a : Act} {w : World} (hr : RepB E b S a w) {x : Operand} {j k lo m n : Nat} {get : Nat → Nat → SV} {e : TypeId} (hx : Val E S x (.sub j k lo m)) (ho : lookO j S.owns = some (.arow n k get e)) (hm : 0 < m) :
    lo + m ≤ n ∧ ∃ g c, b j = .slice (some ⟨g, 0, none⟩) n (c + 1) ∧ a.eval x = .slice (some ⟨g, lo * k, none⟩) m (c + 1 - lo) := by
  obtain ⟨A, n', c, hb, hle, hv⟩ := hx b a w hr
  obtain ⟨xs, hown, _⟩ := hr.owns j _ ho
  obtain ⟨A', c', hb', hn', _⟩ := hown.slice
  rw [hb'] at hb
  simp only [hdv, Value.slice.injEq] at hb
  obtain ⟨rfl, rfl, rfl⟩ := hb
  obtain ⟨g, c2, cur, hb2, _, _, hcap, _⟩ := own_cells hr ho (by omega)
  rw [hb'] at hb2
  simp only [Value.slice.injEq, true_and] at hb2
  obtain ⟨rfl, rfl⟩ := hb2
  refine ⟨hle, g, c2, hb', ?_⟩
  rw [hv]
  by_cases h0 : lo = 0
  · subst h0; simp
  · rw [if_neg h0, if_neg (by omega)]; simp [Addr.add_lit]
theorem own_write {S : St} {b : Nat → Value} {a : Act} {w : World} (hr : RepB E b S a w) {j n k : Nat} {get : Nat → Nat → SV} {e : TypeId} (ho : lookO j S.owns = some (.arow n k get e)) (lo m : Nat) (hm : 0 < m) (hlo : lo + m ≤ n) (hk : 0 < k) (vs : List Value) (hvl : vs.length = m * k)
    (gt get' : Nat → Nat → SV) (hvs : ∀ i, i < m → ∀ t, t < k → ∃ u, vs[i * k + t]? = some u ∧ u.oneCell' = true ∧ RO w (S.excl E b) (gt i t) u) (hg' : ∀ i, i < n → ∀ t, t < k → get' i t = if lo ≤ i ∧ i < lo + m then gt (i - lo) t else get i t) {g c : Nat} (hb : b j = .slice (some ⟨g, 0, none⟩) n (c + 1)) :
    ∃ w', (storeCells ⟨g, lo * k, none⟩ vs 0).run P w = .ok () w' ∧ RepB E b ⟨S.slots, (j, .arow n k get' e) :: S.owns⟩ a w' := by
  obtain ⟨g', c', cur, hb2, hbase, hh, hcap, hmax, hsz, hc⟩ := own_cells hr ho (by omega)
  have hb3 := hb2
  rw [hb] at hb2
  simp only [Value.slice.injEq, Option.some.injEq, Addr.mk.injEq, true_and, and_true, Nat.add_right_cancel_iff] at hb2
  obtain ⟨rfl, rfl⟩ := hb2
  have hdiv : ∀ q r, r < k → (q * k + r) / k = q := fun q r hr => by rw [Nat.mul_comm, Nat.mul_add_div (by omega), Nat.div_eq_of_lt hr, Nat.add_zero]
  have hmod : ∀ q r, r < k → (q * k + r) % k = r := fun q r hr => by rw [Nat.mul_comm, Nat.mul_add_mod]; exact Nat.mod_eq_of_lt hr
  have h1 : ∀ v ∈ vs, v.oneCell' = true := by
    intro v hv
    obtain ⟨q, hq, rfl⟩ := List.getElem_of_mem hv
    have hqk := Nat.div_add_mod q k
    have hqm : q / k < m := by rw [Nat.div_lt_iff_lt_mul hk]; omega
    obtain ⟨u, hu, h2, _⟩ := hvs (q / k) hqm (q % k) (Nat.mod_lt _ hk)
    rw [Nat.mul_comm, hqk, List.getElem?_eq_getElem hq] at hu
    simp only [Option.some.injEq] at hu
    rw [hu]; exact h2
  have hnk : n * k ≤ cur.size := by rw [hsz]; exact Nat.mul_le_mul_right _ hcap
  have hlm : (lo + m) * k ≤ n * k := Nat.mul_le_mul_right _ hlo
  rw [Nat.add_mul] at hlm
  obtain ⟨w', cs', hrun, h2, h3, h4, h5, h6⟩ := setRow_all (P := P) hh vs (lo * k) (by rw [hvl]; omega) h1
  refine ⟨w', ?_, ?_⟩
  · have e1 := storeCells_at g (lo * k) vs 0
    rw [Nat.add_zero] at e1
    rw [e1]; exact hrun
  · refine hr.setown ho (by rw [hb3]; exact rfl) h5 h6 (fun X hmm hmo => ?_)
    refine ⟨cs'.toList.take (n * k), .inr ⟨⟨?_, .inr ⟨g, c + 1, _, hb3, hbase, h2, hcap, hmax, by rw [h3]; exact hsz, rfl⟩⟩, g, n, c, hb3⟩, fun i' hi' t ht => ?_⟩
    · simp; omega
    · have hlt : i' * k + t < n * k := by
        have : (i' + 1) * k ≤ n * k := Nat.mul_le_mul_right _ hi'
        rw [Nat.add_mul, Nat.one_mul] at this
        omega
      rw [List.getElem?_take, if_pos hlt, Array.getElem?_toList, h4, hg' i' hi' t ht]
      have hiff : (lo * k ≤ i' * k + t ∧ i' * k + t < lo * k + vs.length) ↔ (lo ≤ i' ∧ i' < lo + m) := by
        rw [hvl]
        constructor
        · rintro ⟨q1, q2⟩
          have e1 : (lo * k) / k ≤ (i' * k + t) / k := Nat.div_le_div_right q1
          rw [hdiv i' t ht, Nat.mul_div_cancel _ hk] at e1
          refine ⟨e1, ?_⟩
          have e2 : i' * k + t < (lo + m) * k := by rw [Nat.add_mul]; exact q2
          have e3 := Nat.div_lt_of_lt_mul (show i' * k + t < k * (lo + m) from Nat.lt_of_lt_of_eq e2 (Nat.mul_comm _ _))
          rwa [hdiv i' t ht] at e3
        · rintro ⟨q1, q2⟩
          have e1 : lo * k ≤ i' * k := Nat.mul_le_mul_right _ q1
          have e2 : (i' + 1) * k ≤ (lo + m) * k := Nat.mul_le_mul_right _ q2
          rw [Nat.add_mul, Nat.add_mul, Nat.one_mul] at e2
          omega
      by_cases q : lo ≤ i' ∧ i' < lo + m
      · rw [if_pos (hiff.2 q), if_pos q]
        obtain ⟨u, hu, h7, h8⟩ := hvs (i' - lo) (by omega) t ht
        refine ⟨u, ?_, h7, hmo h8⟩
        have e2 : i' * k + t - lo * k = (i' - lo) * k + t := by
          have : lo * k ≤ i' * k := Nat.mul_le_mul_right _ q.1
          rw [Nat.sub_mul]; omega
        rw [e2]; exact hu
      · rw [if_neg (fun h => q (hiff.1 h)), if_neg q]
        obtain ⟨u, hu, h7, h8⟩ := hc i' hi' t ht
        exact ⟨u, hu, h7, hmo h8⟩
theorem t_clr {ops : Array Oper} {rest : List Oper} {S : St} {K : St → Prop} {t te : TypeId} {x : Operand} {ty : TypeId} {pos : String} {after : Array Edge} {j n k lo m : Nat} {get : Nat → Nat → SV} {e : TypeId} {zget : Nat → SV} (get' : Nat → Nat → SV)
    (ht : P.underlying t = some (.slice te)) (hz : ZeroOk P te k zget) (hx : Val E S x (.sub j k lo m)) (ho : lookO j S.owns = some (.arow n k get e)) (hkp : 0 < k) (hg' : ∀ i, i < n → ∀ t, t < k → if lo ≤ i ∧ i < lo + m then ImpO (zget t) (get' i t) else get' i t = get i t)
    (hk : T P E ops rest ⟨S.slots, (j, .arow n k get' e) :: S.owns⟩ K) :
    T P E ops ({ dst := none, op := .call { callee := .builtin .clear, args := #[x], argTypes := #[t] }, type := ty, pos, after, guard := none } :: rest) S K := by
  rintro a w ⟨b, hr⟩ Q hq
  obtain ⟨z, hz1, hz2, hz3⟩ := hz
  unfold wpList
  rw [if_pos (by rfl)]
  by_cases hm : m = 0
  · subst hm
    obtain ⟨A, n', c, hb, _, hv⟩ := hx b a w hr
    refine .inl (wp_of_run (w' := w) (v := .tuple #[]) ?_ ?_)
    · simp only [execOp, resolve, invoke, builtin, Sem.run_bind, Sem.run_pure, Result.andThen_ok, List.map_toArray, List.map_cons, List.map_nil, hv]
      generalize (if lo = 0 then A else if c = lo then A else A.map (·.add (lo * k))) = B
      cases B <;> simp [Builtin.clear_, run_underlying ht]
    · have : a.put none (.tuple #[]) = a := rfl
      rw [this]
      refine hk _ _ ⟨b, ?_⟩ Q hq
      have hw : Weak E S ⟨S.slots, (j, .arow n k get' e) :: S.owns⟩ := weak_own ho rfl fun i hi t ht => by
        have := hg' i hi t ht
        rw [if_neg (by omega)] at this
        exact this.symm
      exact hw b a w hr
  · obtain ⟨hle, g, c, hb, hv⟩ := sub_at hr hx ho (by omega)
    have hzl : (Builtin.zeroCells z.cells m).toList.length = m * k := by simp [Builtin.zeroCells, hz2]
    have hget : ∀ i, i < m → ∀ t, t < k → ∃ u, (Builtin.zeroCells z.cells m).toList[i * k + t]? = some u ∧ u.oneCell' = true ∧ RO w (S.excl E b) (get' (lo + i) t) u := fun i hi t ht => by
      obtain ⟨u, hu, h6, h7⟩ := hz3 t ht
      have hqk : i * k + t < m * k := by
        have : (i + 1) * k ≤ m * k := Nat.mul_le_mul_right _ hi
        rw [Nat.add_mul, Nat.one_mul] at this
        omega
      refine ⟨u, ?_, h6, ?_⟩
      · rw [Array.getElem?_toList]
        have hlt : t < z.cells.size := by rw [hz2]; exact ht
        rw [Array.getElem?_eq_getElem hlt] at hu
        simp only [Builtin.zeroCells, hz2, Array.getElem?_map, Array.getElem?_range, hqk, if_pos, Option.map_some, mod_row ht]
        rw [getElem!_pos z.cells t hlt]
        exact hu
      · have := hg' (lo + i) (by omega) t ht
        rw [if_pos (by omega)] at this
        exact this _ _ _ (h7 _ _)
    obtain ⟨w', hst, hr'⟩ := own_write (P := P) hr ho lo m (by omega) hle hkp _ hzl (fun i t => get' (lo + i) t) get' hget (fun i hi t ht => by
      by_cases q : lo ≤ i ∧ i < lo + m
      · rw [if_pos q, show lo + (i - lo) = i by omega]
      · rw [if_neg q]
        have := hg' i hi t ht
        rwa [if_neg q] at this) hb
    refine .inl (wp_of_run (w' := w') (v := .tuple #[]) ?_ ?_)
    · obtain ⟨m', rfl⟩ : ∃ m', m = m' + 1 := ⟨m - 1, by omega⟩
      simp [execOp, resolve, invoke, builtin, hv, Builtin.clear_, run_underlying ht, hz1, hst]
    · exact hk _ _ ⟨b, hr'⟩ Q hq
theorem turn_cut (s j j' i : Nat) (get' : Nat → Nat → SV) {S : St} {n k : Nat} {get : Nat → Nat → SV} {e : TypeId} (hg' : ∀ q, q < i → ∀ t, t < k → get' q t = get q t) (hs : look s S.slots = some (.sub j k 0 i)) (ho : lookO j S.owns = some (.arow n k get e)) (hf : S.fresh j' = true) (hsN : s < NN) :
    Turn E S ⟨(s, .own j') :: killS j S.slots, (j', .arow i k get' e) :: killO j S.owns⟩ := fun b a w hr => by
  obtain ⟨A, n', c, hb, hle, hv⟩ := hr.slots s _ hs
  have hown0 := hr.owns j _ ho
  obtain ⟨xs, hown, hc⟩ := hown0
  obtain ⟨A', c', hb', hn', hmx⟩ := hown.slice
  rw [hb'] at hb
  simp only [hdv, Value.slice.injEq] at hb
  obtain ⟨rfl, rfl, rfl⟩ := hb
  rw [if_pos rfl, Nat.sub_zero] at hv
  have hnew : ownsR w E.base e k (.slice A' i c') i (xs.take (i * k)) := by
    rcases hown with ⟨A, h1, h2, h3⟩ | ⟨⟨hl, h1⟩, g, m, c2, h2⟩
    · rw [hb'] at h1
      simp only [Value.slice.injEq] at h1
      obtain ⟨rfl, rfl, rfl⟩ := h1
      have : i = 0 := by omega
      subst this
      exact .inl ⟨A', rfl, rfl, by simp⟩
    · rcases h1 with ⟨h1, _⟩ | ⟨g', cap, cur, h1, h3, h4, h5, h6, h7, h8⟩
      · rw [h1] at h2; cases h2
      · rw [hb'] at h1 h2
        simp only [Value.slice.injEq] at h1 h2
        obtain ⟨rfl, _, rfl⟩ := h1
        obtain ⟨h21, h22, h23⟩ := h2
        have hik : i * k ≤ n * k := Nat.mul_le_mul_right _ (by omega)
        refine .inr ⟨⟨by rw [List.length_take]; omega, .inr ⟨g', c', cur, rfl, h3, h4, by omega, h6, h7, ?_⟩⟩, g', i, c2, by rw [h23]⟩
        rw [← h8, List.take_take, Nat.min_eq_left hik]
  have hrg := hr.regrow (j' := j') (n' := i) (get' := get') (v' := .slice A' i c') (xs := xs.take (i * k)) ho hf ⟨rfl, rfl, rfl, Nat.le_refl _⟩ (fun _ _ _ => rfl) (fun g hg => .inl (by
      rw [hb']
      cases A' with
      | none => cases hg
      | some p => cases c' with
        | zero => cases hg
        | succ c'' => exact hg)) hnew (fun q hq t ht => by
    obtain ⟨u, hu, h1, h2⟩ := hc q (by omega) t ht
    refine ⟨u, ?_, h1, by rw [hg' q hq t ht]; exact h2⟩
    have : q * k + t < i * k := by
      have : (q + 1) * k ≤ i * k := Nat.mul_le_mul_right _ hq
      rw [Nat.add_mul, Nat.one_mul] at this
      omega
    rw [List.getElem?_take, if_pos this]; exact hu)
  have hput := hrg.put (d := s) (x := .own j') (v := a.tmps.getD s undef) hsN (by
    show _ = hdv (setB b j' _ j')
    rw [setB_same, hv]; rfl)
  have hact : a.put (some s) (a.tmps.getD s undef) = a := by
    show { a with tmps := a.tmps.setIfInBounds s (a.tmps.getD s undef) } = a
    have : a.tmps.setIfInBounds s (a.tmps.getD s undef) = a.tmps := by
      apply Array.ext
      · simp
      · intro q h1 h2
        rw [Array.getElem_setIfInBounds h2]
        split
        · rename_i e; subst e; simp [Array.getD, h2]
        · rfl
    rw [this]
  rw [hact] at hput
  exact ⟨_, hput⟩
end Go.Eng
namespace Go.Eng
open Go.RowKit
variable {P : Program} {NN : Nat} {E : Env NN}
theorem run_copyK {w w' : World} {dT sT ty elem : TypeId} {k : Nat} (hu : P.underlying dT = some (.slice elem)) (hs : ∀ w, (sizeOf elem).run P w = .ok k w) {db sA : Addr} {dLen dCap sLen sCap : Nat} {cs : List Value} (hn : cs.length = Nat.min sLen dLen * k)
    (hsrc : ∀ j v, cs[j]? = some v → w.cell? (sA.add j) = some v) (hst : (storeCells db cs 0).run P w = .ok () w') :
    (Builtin.copy_ #[dT, sT] ty #[.slice (some db) dLen dCap, .slice (some sA) sLen sCap]).run P w = .ok (goInt (Nat.min sLen dLen)) w' := by
  have hl := run_loadCells_list (P := P) w sA cs hsrc
  rw [hn] at hl
  simp [Builtin.copy_, run_underlying hu, Builtin.lenOf, Builtin.firstCells, hs, hl, hst]
theorem run_copy0 {w : World} {dT sT ty elem : TypeId} {k : Nat} (hu : P.underlying dT = some (.slice elem)) (hs : ∀ w, (sizeOf elem).run P w = .ok k w) {db sA : Option Addr} {dLen dCap sLen sCap : Nat} (hn : Nat.min sLen dLen = 0) :
    (Builtin.copy_ #[dT, sT] ty #[.slice db dLen dCap, .slice sA sLen sCap]).run P w = .ok (goInt 0) w := by
  cases sA with
  | none => cases db <;> simp [Builtin.copy_, run_underlying hu, Builtin.lenOf, Builtin.firstCells, hs, hn, storeCells]
  | some q =>
    have hl := run_loadCells_list (P := P) w q [] (fun j v h => by simp at h)
    simp only [List.length_nil] at hl
    cases db <;> simp [Builtin.copy_, run_underlying hu, Builtin.lenOf, Builtin.firstCells, hs, hn, hl, storeCells]
theorem val_sub {S : St} {x : Operand} {j n k : Nat} {get : Nat → Nat → SV} {e : TypeId} (hx : Val E S x (.own j)) (ho : lookO j S.owns = some (.arow n k get e)) : Val E S x (.sub j k 0 n) := fun b a w hr => by
  obtain ⟨xs, hown, _⟩ := hr.owns j _ ho
  obtain ⟨A, c, hb, _⟩ := hown.slice
  refine ⟨A, n, c, by rw [hb]; rfl, by omega, ?_⟩
  rw [if_pos rfl, Nat.sub_zero, show a.eval x = hdv (b j) from hx b a w hr, hb]; rfl
theorem rows_list {k : Nat} (hk : 0 < k) (m : Nat) (f : Nat → Nat → Value) : ∃ cs : List Value, cs.length = m * k ∧ (∀ i, i < m → ∀ t, t < k → cs[i * k + t]? = some (f i t)) ∧ ∀ j v, cs[j]? = some v → j < m * k ∧ v = f (j / k) (j % k) := by
  refine ⟨(List.range (m * k)).map fun j => f (j / k) (j % k), by simp, fun i hi t ht => ?_, fun j v hv => ?_⟩
  · have hlt : i * k + t < m * k := by
      have : (i + 1) * k ≤ m * k := Nat.mul_le_mul_right _ hi
      rw [Nat.add_mul, Nat.one_mul] at this
      omega
    have hdiv : (i * k + t) / k = i := by rw [Nat.mul_comm, Nat.mul_add_div hk, Nat.div_eq_of_lt ht, Nat.add_zero]
    have hmod : (i * k + t) % k = t := mod_row ht
    simp [hlt, hdiv, hmod]
  · rw [List.getElem?_map] at hv
    cases h : (List.range (m * k))[j]? with
    | none => rw [h] at hv; cases hv
    | some q =>
      rw [h] at hv
      obtain ⟨h1, h2⟩ := List.getElem?_eq_some_iff.1 h
      simp only [List.length_range] at h1
      simp only [List.getElem_range] at h2
      subst h2
      simp only [Option.map_some, Option.some.injEq] at hv
      exact ⟨h1, hv.symm⟩
theorem t_cpR {ops : Array Oper} {rest : List Oper} {S : St} {K : St → Prop} {d : Tmp} {t t2 te : TypeId} {x y : Operand} {ty : TypeId} {pos : String} {after : Array Edge} {j n n2 k lo m : Nat} {get get2 : Nat → Nat → SV} {e : TypeId} (get' : Nat → Nat → SV)
    (ht : P.underlying t = some (.slice te)) (hs : ∀ w, (sizeOf te).run P w = .ok k w) (hx : Val E S x (.sub j k lo m)) (ho : lookO j S.owns = some (.arow n k get e)) (hy : Val E S y (.row n2 k get2)) (hkp : 0 < k)
    (hg' : ∀ i, i < n → ∀ t, t < k → get' i t = if lo ≤ i ∧ i < lo + Nat.min n2 m then get2 (i - lo) t else get i t)
    (hk : T P E ops rest ⟨(d, .v (.int .i64 ((Nat.min n2 m : Nat) : Int))) :: S.slots, (j, .arow n k get' e) :: S.owns⟩ K) (hd : d < NN := by decide) :
    T P E ops ({ dst := some d, op := .call { callee := .builtin .copy, args := #[x, y], argTypes := #[t, t2] }, type := ty, pos, after, guard := none } :: rest) S K := by
  rintro a w ⟨b, hr⟩ Q hq
  obtain ⟨A2, c2, hv2, _, _, hrow⟩ := hy b a w hr
  unfold wpList
  rw [if_pos (by rfl)]
  by_cases hm : Nat.min n2 m = 0
  · obtain ⟨A, n', c, hb, _, hv⟩ := hx b a w hr
    refine .inl (wp_of_run (w' := w) (v := goInt 0) ?_ ?_)
    · simp only [execOp, resolve, invoke, builtin, Sem.run_bind, Sem.run_pure, Result.andThen_ok, List.map_toArray, List.map_cons, List.map_nil, hv, hv2]
      rw [run_copy0 ht hs hm]; rfl
    · have hw : Weak E S ⟨S.slots, (j, .arow n k get' e) :: S.owns⟩ := weak_own ho rfl fun i hi t ht => by
        rw [hg' i hi t ht, if_neg (by omega)]
      have h1 := (hw b a w hr).put (d := d) (x := .v (.int .i64 ((Nat.min n2 m : Nat) : Int))) (v := goInt 0) hd (by rw [hm]; rfl)
      exact hk _ _ ⟨b, h1⟩ Q hq
  · have hm2 : 0 < n2 ∧ 0 < m := by simp only [Nat.min_def] at hm; split at hm <;> omega
    have hle2 : Nat.min n2 m ≤ n2 := Nat.min_le_left _ _
    have hlem : Nat.min n2 m ≤ m := Nat.min_le_right _ _
    obtain ⟨hle, g, c, hb, hv⟩ := sub_at hr hx ho hm2.2
    obtain ⟨b2, o2, hA2, hb2, hX2, hcell⟩ := hrow hm2.1
    let f : Nat → Nat → Value := fun i t => (w.cell? ⟨b2, o2 + (i * k + t), none⟩).getD undef
    have hf : ∀ i, i < n2 → ∀ t, t < k → w.cell? ⟨b2, o2 + (i * k + t), none⟩ = some (f i t) ∧ (f i t).oneCell' = true ∧ RO w (S.excl E b) (get2 i t) (f i t) := fun i hi t ht => by
      obtain ⟨u, hu, h1, h2⟩ := hcell i hi t ht
      have ef : f i t = u := by simp only [f, hu, Option.getD_some]
      rw [ef]; exact ⟨hu, h1, h2⟩
    obtain ⟨cs, hl, hcs, hcs2⟩ := rows_list hkp (Nat.min n2 m) f
    obtain ⟨w', hst, hr'⟩ := own_write (P := P) hr ho lo (Nat.min n2 m) (by omega) (by omega) hkp cs hl get2 get' (fun i hi t ht => ⟨_, hcs i hi t ht, (hf i (by omega) t ht).2.1, (hf i (by omega) t ht).2.2⟩) hg' hb
    refine .inl (wp_of_run (w' := w') (v := goInt (Nat.min n2 m)) ?_ ?_)
    · simp only [execOp, resolve, invoke, builtin, Sem.run_bind, Sem.run_pure, Result.andThen_ok, List.map_toArray, List.map_cons, List.map_nil, hv, hv2, hA2]
      rw [run_copyK ht hs hl (fun q v hqv => ?_) hst]
      · rfl
      · obtain ⟨h1, rfl⟩ := hcs2 q v hqv
        have h2 := (hf (q / k) (Nat.lt_of_lt_of_le (by rw [Nat.div_lt_iff_lt_mul hkp]; exact h1) hle2) (q % k) (Nat.mod_lt _ hkp)).1
        rw [Nat.mul_comm, Nat.div_add_mod] at h2
        rw [Addr.add_lit]; exact h2
    · have h1 := hr'.put (d := d) (x := .v (.int .i64 ((Nat.min n2 m : Nat) : Int))) (v := goInt (Nat.min n2 m)) hd rfl
      exact hk _ _ ⟨b, h1⟩ Q hq
theorem t_cpS {ops : Array Oper} {rest : List Oper} {S : St} {K : St → Prop} {d : Tmp} {t t2 te : TypeId} {x y : Operand} {ty : TypeId} {pos : String} {after : Array Edge} {j n k lo m lo2 m2 : Nat} {get : Nat → Nat → SV} {e : TypeId} (get' : Nat → Nat → SV)
    (ht : P.underlying t = some (.slice te)) (hs : ∀ w, (sizeOf te).run P w = .ok k w) (hx : Val E S x (.sub j k lo m)) (ho : lookO j S.owns = some (.arow n k get e)) (hy : Val E S y (.sub j k lo2 m2)) (hkp : 0 < k)
    (hg' : ∀ i, i < n → ∀ t, t < k → get' i t = if lo ≤ i ∧ i < lo + Nat.min m2 m then get (lo2 + (i - lo)) t else get i t)
    (hk : T P E ops rest ⟨(d, .v (.int .i64 ((Nat.min m2 m : Nat) : Int))) :: S.slots, (j, .arow n k get' e) :: S.owns⟩ K) (hd : d < NN := by decide) :
    T P E ops ({ dst := some d, op := .call { callee := .builtin .copy, args := #[x, y], argTypes := #[t, t2] }, type := ty, pos, after, guard := none } :: rest) S K := by
  rintro a w ⟨b, hr⟩ Q hq
  unfold wpList
  rw [if_pos (by rfl)]
  by_cases hm : Nat.min m2 m = 0
  · obtain ⟨A, n', c, hb, _, hv⟩ := hx b a w hr
    obtain ⟨A2, n2', c2, hb2, _, hv2⟩ := hy b a w hr
    refine .inl (wp_of_run (w' := w) (v := goInt 0) ?_ ?_)
    · simp only [execOp, resolve, invoke, builtin, Sem.run_bind, Sem.run_pure, Result.andThen_ok, List.map_toArray, List.map_cons, List.map_nil, hv, hv2]
      rw [run_copy0 ht hs hm]; rfl
    · have hw : Weak E S ⟨S.slots, (j, .arow n k get' e) :: S.owns⟩ := weak_own ho rfl fun i hi t ht => by
        rw [hg' i hi t ht, if_neg (by omega)]
      have h1 := (hw b a w hr).put (d := d) (x := .v (.int .i64 ((Nat.min m2 m : Nat) : Int))) (v := goInt 0) hd (by rw [hm]; rfl)
      exact hk _ _ ⟨b, h1⟩ Q hq
  · have hm2 : 0 < m2 ∧ 0 < m := by simp only [Nat.min_def] at hm; split at hm <;> omega
    have hle2 : Nat.min m2 m ≤ m2 := Nat.min_le_left _ _
    have hlem : Nat.min m2 m ≤ m := Nat.min_le_right _ _
    obtain ⟨hle, g, c, hb, hv⟩ := sub_at hr hx ho hm2.2
    obtain ⟨hle', g', c', hb', hv'⟩ := sub_at hr hy ho hm2.1
    rw [hb] at hb'
    simp only [Value.slice.injEq, Option.some.injEq, Addr.mk.injEq, true_and, and_true, Nat.add_right_cancel_iff] at hb'
    obtain ⟨rfl, rfl⟩ := hb'
    obtain ⟨g2, c2, cur, hb2, _, hh, _, _, hsz, hcell⟩ := own_cells hr ho (by omega)
    rw [hb] at hb2
    simp only [Value.slice.injEq, Option.some.injEq, Addr.mk.injEq, true_and, and_true, Nat.add_right_cancel_iff] at hb2
    obtain ⟨rfl, rfl⟩ := hb2
    let f : Nat → Nat → Value := fun i t => (cur[(lo2 + i) * k + t]?).getD undef
    have hf : ∀ i, i < m2 → ∀ t, t < k → w.cell? ⟨g, lo2 * k + (i * k + t), none⟩ = some (f i t) ∧ (f i t).oneCell' = true ∧ RO w (S.excl E b) (get (lo2 + i) t) (f i t) := fun i hi t ht => by
      obtain ⟨u, hu, h1, h2⟩ := hcell (lo2 + i) (by omega) t ht
      have ef : f i t = u := by simp only [f, hu, Option.getD_some]
      rw [ef]
      refine ⟨?_, h1, h2⟩
      rw [cell_of_row w g _ cur e (0, 0) hh, ← Nat.add_assoc, ← Nat.add_mul]; exact hu
    obtain ⟨cs, hl, hcs, hcs2⟩ := rows_list hkp (Nat.min m2 m) f
    obtain ⟨w', hst, hr'⟩ := own_write (P := P) hr ho lo (Nat.min m2 m) (by omega) (by omega) hkp cs hl (fun i t => get (lo2 + i) t) get' (fun i hi t ht => ⟨_, hcs i hi t ht, (hf i (by omega) t ht).2.1, (hf i (by omega) t ht).2.2⟩) hg' hb
    refine .inl (wp_of_run (w' := w') (v := goInt (Nat.min m2 m)) ?_ ?_)
    · simp only [execOp, resolve, invoke, builtin, Sem.run_bind, Sem.run_pure, Result.andThen_ok, List.map_toArray, List.map_cons, List.map_nil, hv, hv']
      rw [run_copyK ht hs hl (fun q v hqv => ?_) hst]
      · rfl
      · obtain ⟨h1, rfl⟩ := hcs2 q v hqv
        have h2 := (hf (q / k) (Nat.lt_of_lt_of_le (by rw [Nat.div_lt_iff_lt_mul hkp]; exact h1) hle2) (q % k) (Nat.mod_lt _ hkp)).1
        rw [Nat.mul_comm (q / k), Nat.div_add_mod] at h2
        rw [Addr.add_lit]; exact h2
    · have h1 := hr'.put (d := d) (x := .v (.int .i64 ((Nat.min m2 m : Nat) : Int))) (v := goInt (Nat.min m2 m)) hd rfl
      exact hk _ _ ⟨b, h1⟩ Q hq
def ovr {α : Type} (l : List α) (lo : Nat) (s : List α) : List α := l.take lo ++ s ++ l.drop (lo + s.length)
theorem ovr_len {α : Type} {l s : List α} {lo : Nat} (h : lo + s.length ≤ l.length) : (ovr l lo s).length = l.length := by simp [ovr]; omega
theorem ovr_at {α : Type} {cell : α → Nat → SV} {d : α} {l s : List α} {lo : Nat} (h : lo + s.length ≤ l.length) (i t : Nat) : rowG cell d (ovr l lo s) i t = if lo ≤ i ∧ i < lo + s.length then rowG cell d s (i - lo) t else rowG cell d l i t := by
  have e : (ovr l lo s).getD i d = if lo ≤ i ∧ i < lo + s.length then s.getD (i - lo) d else l.getD i d := by
    simp only [ovr, List.getD_eq_getElem?_getD]
    have hl : (l.take lo).length = lo := by rw [List.length_take]; omega
    by_cases h1 : i < lo
    · rw [if_neg (by omega), List.append_assoc, List.getElem?_append_left (by omega), List.getElem?_take, if_pos h1]
    · by_cases h2 : i < lo + s.length
      · rw [if_pos ⟨by omega, h2⟩, List.append_assoc, List.getElem?_append_right (by omega), hl, List.getElem?_append_left (by omega)]
      · rw [if_neg (by omega), List.getElem?_append_right (by rw [List.length_append, hl]; omega), List.length_append, hl, List.getElem?_drop]
        congr 2; omega
  simp only [rowG, e]
  split <;> rfl
end Go.Eng
namespace Go.Eng
open Go.RowKit
variable {P : Program} {NN : Nat} {E : Env NN} {S : St}
theorem q_mulW {x y : Operand} {t t' : TypeId} {k : IntKind} {m n : Int} (hx : Val E S x (.v (.int k m))) (hy : Val E S y (.v (.int k n))) : OpQ P E S (.binOp .mul t x y t') (.v (.int k (k.wrap (m * n)))) := fun b a w hr dst ty pos after gd => by
  have h1 : a.eval x = .int k m := hx b a w hr
  have h2 : a.eval y = .int k n := hy b a w hr
  refine ⟨_, fun w' hw' => ?_, rfl⟩
  simp only [execOp, h1, h2, eqGuard_mul, binOp_mul]
  simp [Op.intArith]
theorem q_addW {x y : Operand} {t t' : TypeId} {k : IntKind} {m n : Int} (hx : Val E S x (.v (.int k m))) (hy : Val E S y (.v (.int k n))) : OpQ P E S (.binOp .add t x y t') (.v (.int k (k.wrap (m + n)))) := fun b a w hr dst ty pos after gd => by
  have h1 : a.eval x = .int k m := hx b a w hr
  have h2 : a.eval y = .int k n := hy b a w hr
  refine ⟨_, fun w' hw' => ?_, rfl⟩
  simp only [execOp, h1, h2, eqGuard_add, binOp_add]
  simp [Op.intArith]
theorem q_shr {x y : Operand} {t t' : TypeId} {k k2 : IntKind} {m n : Int} (hx : Val E S x (.v (.int k m))) (hy : Val E S y (.v (.int k2 n))) (hn : 0 ≤ n ∧ n ≤ k.bits) : OpQ P E S (.binOp .shr t x y t') (.v (.int k (m / 2 ^ n.toNat))) := fun b a w hr dst ty pos after gd => by
  have h1 : a.eval x = .int k m := hx b a w hr
  have h2 : a.eval y = .int k2 n := hy b a w hr
  refine ⟨_, fun w' hw' => ?_, rfl⟩
  simp only [execOp, h1, h2, eqGuard_shr, binOp_shr, shift_shr k k2 m n hn.1 hn.2]
  rfl
theorem q_conv {x : Operand} {src dst' : TypeId} {k k2 : IntKind} {m : Int} (hx : Val E S x (.v (.int k m))) (hs : P.underlying src = some (.int k)) (hd : P.underlying dst' = some (.int k2)) (h : k2.wrap m = m) : OpQ P E S (.convert src dst' x) (.v (.int k2 m)) := fun b a w hr dst ty pos after gd => by
  have h1 : a.eval x = .int k m := hx b a w hr
  refine ⟨_, fun w' hw' => ?_, rfl⟩
  have hc : (convert src dst' (.int k m)).run P w' = .ok (.int k2 m) w' := by
    simp [convert, run_underlying hs, run_underlying hd, Conv.intToInt, h]
  simp only [execOp, h1, Sem.run_bind, hc]
  rfl
section
variable {α : Type} {cell : α → Nat → SV} {dd : α} {l : List α} {ops : Array Oper} {rest : List Oper} {K : St → Prop} {d : Tmp} {t t2 te : TypeId} {x y : Operand} {ty : TypeId} {pos : String} {after : Array Edge} {j k lo m : Nat} {e : TypeId}
theorem t_cpRT {s2 : List α} (ht : P.underlying t = some (.slice te)) (hs : ∀ w, (sizeOf te).run P w = .ok k w) (hx : Val E S x (.sub j k lo m)) (ho : lookO j S.owns = some (ownOf cell k dd l e)) (hy : Val E S y (rowOf cell k dd s2)) (hkp : 0 < k) (hle : lo + m ≤ l.length)
    (hk : T P E ops rest ⟨(d, .v (.int .i64 ((Nat.min s2.length m : Nat) : Int))) :: S.slots, (j, ownOf cell k dd (ovr l lo (s2.take m)) e) :: S.owns⟩ K) (hd : d < NN := by decide) :
    T P E ops ({ dst := some d, op := .call { callee := .builtin .copy, args := #[x, y], argTypes := #[t, t2] }, type := ty, pos, after, guard := none } :: rest) S K := by
  have hl : (s2.take m).length = Nat.min s2.length m := by rw [List.length_take]; exact Nat.min_comm _ _
  have hle2 : lo + (s2.take m).length ≤ l.length := by
    have : Nat.min s2.length m ≤ m := Nat.min_le_right _ _
    rw [hl]; omega
  refine t_cpR (rowG cell dd (ovr l lo (s2.take m))) ht hs hx ho hy hkp (fun i hi t ht => ?_) ?_ hd
  · rw [ovr_at hle2, hl]
    split
    · rename_i h
      have : i - lo < m := by
        have : Nat.min s2.length m ≤ m := Nat.min_le_right _ _
        omega
      simp only [rowG, List.getD_eq_getElem?_getD, List.getElem?_take, if_pos this]
    · rfl
  · have : ownOf cell k dd (ovr l lo (s2.take m)) e = .arow l.length k (rowG cell dd (ovr l lo (s2.take m))) e := by rw [ownOf, ovr_len hle2]
    rw [this] at hk; exact hk
theorem t_cpST {lo2 m2 : Nat} (ht : P.underlying t = some (.slice te)) (hs : ∀ w, (sizeOf te).run P w = .ok k w) (hx : Val E S x (.sub j k lo m)) (ho : lookO j S.owns = some (ownOf cell k dd l e)) (hy : Val E S y (.sub j k lo2 m2)) (hkp : 0 < k) (hle : lo + m ≤ l.length) (hle' : lo2 + m2 ≤ l.length)
    (hk : T P E ops rest ⟨(d, .v (.int .i64 ((Nat.min m2 m : Nat) : Int))) :: S.slots, (j, ownOf cell k dd (ovr l lo (((l.drop lo2).take m2).take m)) e) :: S.owns⟩ K) (hd : d < NN := by decide) :
    T P E ops ({ dst := some d, op := .call { callee := .builtin .copy, args := #[x, y], argTypes := #[t, t2] }, type := ty, pos, after, guard := none } :: rest) S K := by
  have hl : (((l.drop lo2).take m2).take m).length = Nat.min m2 m := by
    rw [List.length_take, List.length_take, List.length_drop, Nat.min_eq_left (show m2 ≤ l.length - lo2 by omega)]; exact Nat.min_comm _ _
  have hle2 : lo + (((l.drop lo2).take m2).take m).length ≤ l.length := by
    have : Nat.min m2 m ≤ m := Nat.min_le_right _ _
    rw [hl]; omega
  refine t_cpS (rowG cell dd (ovr l lo (((l.drop lo2).take m2).take m))) ht hs hx ho hy hkp (fun i hi t ht => ?_) ?_ hd
  · rw [ovr_at hle2, hl]
    split
    · rename_i h
      have h1 : i - lo < m := by
        have : Nat.min m2 m ≤ m := Nat.min_le_right _ _
        omega
      have h2 : i - lo < m2 := by
        have : Nat.min m2 m ≤ m2 := Nat.min_le_left _ _
        omega
      simp only [rowG, List.getD_eq_getElem?_getD, List.getElem?_take, if_pos h1, if_pos h2, List.getElem?_drop]
    · rfl
  · have : ownOf cell k dd (ovr l lo (((l.drop lo2).take m2).take m)) e = .arow l.length k (rowG cell dd (ovr l lo (((l.drop lo2).take m2).take m))) e := by rw [ownOf, ovr_len hle2]
    rw [this] at hk; exact hk
theorem t_clrT {zget : Nat → SV} (z0 : α) (ht : P.underlying t = some (.slice te)) (hz : ZeroOk P te k zget) (hx : Val E S x (.sub j k lo m)) (ho : lookO j S.owns = some (ownOf cell k dd l e)) (hkp : 0 < k) (hle : lo + m ≤ l.length) (hi : AllN (fun t => ImpO (zget t) (cell z0 t)) k)
    (hk : T P E ops rest ⟨S.slots, (j, ownOf cell k dd (ovr l lo (List.replicate m z0)) e) :: S.owns⟩ K) :
    T P E ops ({ dst := none, op := .call { callee := .builtin .clear, args := #[x], argTypes := #[t] }, type := ty, pos, after, guard := none } :: rest) S K := by
  have hle2 : lo + (List.replicate m z0).length ≤ l.length := by rw [List.length_replicate]; exact hle
  refine t_clr (rowG cell dd (ovr l lo (List.replicate m z0))) ht hz hx ho hkp (fun i hi' t ht => ?_) ?_
  · rw [ovr_at hle2, List.length_replicate]
    by_cases q : lo ≤ i ∧ i < lo + m
    · rw [if_pos q, if_pos q]
      have : rowG cell dd (List.replicate m z0) (i - lo) t = cell z0 t := by
        simp only [rowG, List.getD_eq_getElem?_getD, List.getElem?_replicate, if_pos (show i - lo < m by omega), Option.getD_some]
      rw [this]; exact hi.at t ht
    · rw [if_neg q, if_neg q]
  · have : ownOf cell k dd (ovr l lo (List.replicate m z0)) e = .arow l.length k (rowG cell dd (ovr l lo (List.replicate m z0))) e := by rw [ownOf, ovr_len hle2]
    rw [this] at hk; exact hk
theorem turn_cutT (s j j' i : Nat) (hs : look s S.slots = some (.sub j k 0 i)) (ho : lookO j S.owns = some (ownOf cell k dd l e)) (hi : i ≤ l.length) (hf : S.fresh j' = true) (hsN : s < NN) :
    Turn E S ⟨(s, .own j') :: killS j S.slots, (j', ownOf cell k dd (l.take i) e) :: killO j S.owns⟩ := by
  have hl : (l.take i).length = i := by rw [List.length_take]; omega
  have := turn_cut (E := E) (S := S) s j j' i (rowG cell dd (l.take i)) (get := rowG cell dd l) (n := l.length) (e := e) (fun q hq t _ => by simp only [rowG, List.getD_eq_getElem?_getD, List.getElem?_take, if_pos hq]) hs ho hf hsN
  rw [ownOf, hl]; exact this
end
theorem q_nilB {S : St} {x : Operand} {j off : Nat} (hx : Val E S x (.bp j off)) : OpQ P E S (.nilCheck x) (.bp j off) := fun b a w hr dst ty pos after gd => by
  obtain ⟨g, hb, hv⟩ := hx b a w hr
  refine ⟨.pointer (some ⟨g, off, none⟩), fun w' hw' => ?_, g, hb, rfl⟩
  simp [execOp, hv]
end Go.Eng
namespace Go.Eng
abbrev V := @val_tmp
abbrev K := @val_const
abbrev Vg := @val_grd
abbrev Vj := @val_junk
abbrev Vn := @val_nil
abbrev Va := @val_agg
abbrev Vi := @val_aggI
abbrev Vf := @val_func
abbrev VA := @val_A
abbrev VF := @val_fnE'
abbrev O := @tq_op
abbrev Nq := @tq_nil
abbrev Og := @tq_opG
abbrev U := @t_op
abbrev Ug := @t_opG
abbrev Nt := @t_nil
abbrev Uw := @t_w
abbrev UwG := @t_wG
abbrev Gy := @g_yes
abbrev Gn := @g_no
abbrev Gyy := @g_gyes
abbrev Gyn := @g_gno
abbrev Sq := @c_seq
abbrev Rq := @c_rq
abbrev Rqd := @c_rqd
abbrev Rt := @c_rt
abbrev Cd := @c_cond
abbrev Sk := @c_skip
abbrev Rx := @c_ret
abbrev Bo := @c_block
abbrev Ex := @c_exit
abbrev Lo := @c_loop
abbrev Nx := @c_next
abbrev NxH := @c_nextH
abbrev We := @weakE
abbrev Rl := @row_len
abbrev CtO := @ct_of
abbrev CmO := @ctM_of
abbrev Mv := @q_move
abbrev As := @q_assign
abbrev Lt := @q_lss
abbrev Le := @q_leq
abbrev Gt := @q_gtr
abbrev Ge := @q_geq
abbrev Ql := @q_eql
abbrev Qn := @q_neq
abbrev Qo := @q_not
abbrev Qa := @q_and
abbrev Qr := @q_or
abbrev Ad := @q_add
abbrev Sb := @q_sub
abbrev Ln := @q_len
abbrev LnO := @q_lenO
abbrev Ix := @q_idx
abbrev IxN := @q_idxN
abbrev IxO := @q_idxO
abbrev IOn := @q_idxON
abbrev IUn := @q_idxUN
abbrev Fl := @q_fld
abbrev FlB := @q_fldB
abbrev FlO := @q_fldO
abbrev Ld := @q_ld
abbrev LdA := @q_ldA
abbrev LdB := @q_ldB
abbrev LBA := @q_ldBA
abbrev LdO := @q_ldO
abbrev LOA := @q_ldOA
abbrev LdU := @q_ldU
abbrev LUA := @q_ldUA
abbrev Xt := @q_ext
abbrev Mk := @q_mkf
abbrev Bu := @q_build
abbrev CQ := @tq_call
abbrev CQg := @tq_callG
abbrev CT := @t_call
abbrev CTg := @t_callG
abbrev CQv := @tq_callV
abbrev CTv := @t_callV
abbrev CM := @t_callM
abbrev CMv := @t_callMV
abbrev CQb := @tq_callB
abbrev CTb := @t_callB
abbrev R1 := @ret1
abbrev R2 := @ret2
abbrev M1 := @retM1
abbrev M2 := @retM2
abbrev RR2 := @retR2
abbrev RR3 := @retR3
abbrev RM1 := @retRM1
abbrev Al := @t_alloc
abbrev BxA := @t_boxA
abbrev Bx1 := @t_box1
abbrev St1 := @t_st1
abbrev StA := @t_stA
abbrev StO := @t_stO
abbrev Ap := @t_app
abbrev Tt := @t_turn
abbrev Tc := @c_turn
abbrev Tk := @k_turn
abbrev FzC := @c_frz
abbrev FzT := @t_frz
abbrev Ir := @imp_rfl
abbrev In := @imp_nil
abbrev Gq := @og_q
abbrev GqG := @og_qG
abbrev GcG := @og_callG
abbrev Gp := @gs_op
abbrev Gz := @gs_nil
abbrev Rg := @c_rg
abbrev Mk2 := @t_make
theorem Z : True := trivial
end Go.Eng
namespace Go.Eng
theorem renm_fnL {g : Nat → Nat} {f : FuncId} {caps : List SV} : SV.renm g (fnL f caps) = fnL f (caps.map (SV.renm g)) := by
  show SV.fn f caps.length (fun t => (caps.getD t .junk).renm g) = SV.fn f (caps.map (SV.renm g)).length fun t => (caps.map (SV.renm g)).getD t .junk
  rw [List.length_map]
  refine congrArg (SV.fn f caps.length) (funext fun t => ?_)
  rw [List.getD_eq_getElem?_getD, List.getD_eq_getElem?_getD, List.getElem?_map]
  cases caps[t]? <;> rfl
end Go.Eng
namespace Go.Eng
open Go.RowKit
variable {P : Program} {NN : Nat} {E : Env NN} {S : St}
theorem store_at (g off : Nat) : ∀ (vs : List Value) (i : Nat), storeCells ⟨g, off, none⟩ vs i = storeCells ⟨g, 0, none⟩ vs (off + i)
  | [], _ => by simp [storeCells]
  | v :: r, i => by
    simp only [storeCells, Addr.add_lit, Nat.zero_add]
    rw [store_at g off r (i + 1), Nat.add_assoc]
theorem q_ixB {x y : Operand} {t : TypeId} {j off k i : Nat} {kk : IntKind} (hx : Val E S x (.bp j off)) (hy : Val E S y (.v (.int kk (i : Int)))) (ht : P.underlying t = some (.array (P.arrayLen t) (P.elem t))) (hs : ∀ w, (sizeOf (P.elem t)).run P w = .ok k w) (h1 : i < P.arrayLen t) :
    OpQ P E S (.indexAddr t x y) (.bp j (off + i * k)) := fun b a w hr dst ty pos after gd => by
  obtain ⟨g, hb, hv⟩ := hx b a w hr
  have h2 : a.eval y = .int kk (i : Int) := hy b a w hr
  refine ⟨.pointer (some ⟨g, off + i * k, none⟩), fun w' hw' => ?_, g, hb, rfl⟩
  have h3 : (0 : Int) ≤ (i : Int) ∧ (i : Int) < (P.arrayLen t : Int) := by omega
  simp [execOp, hv, h2, run_indexAt_array w' t _ kk _ ht, h1, hs, Addr.add_lit]
theorem q_ixE {x y : Operand} {t : TypeId} {n m off k i : Nat} {get : Nat → Nat → SV} {p : Nat} {kk : IntKind} (hx : Val E S x (.el n m get p off)) (hy : Val E S y (.v (.int kk (i : Int)))) (ht : P.underlying t = some (.array (P.arrayLen t) (P.elem t))) (hs : ∀ w, (sizeOf (P.elem t)).run P w = .ok k w) (h1 : i < P.arrayLen t) :
    OpQ P E S (.indexAddr t x y) (.el n m get p (off + i * k)) := fun b a w hr dst ty pos after gd => by
  obtain ⟨hi, g, o, hv, hg, hX, hc⟩ := hx b a w hr
  have h2 : a.eval y = .int kk (i : Int) := hy b a w hr
  refine ⟨.pointer (some ⟨g, o + (p * m + (off + i * k)), none⟩), fun w' hw' => ?_, hi, g, o, rfl, hg, hX, hc⟩
  have h3 : (0 : Int) ≤ (i : Int) ∧ (i : Int) < (P.arrayLen t : Int) := by omega
  simp [execOp, hv, h2, run_indexAt_array w' t _ kk _ ht, h1, hs, Addr.add_lit, Nat.add_assoc]
def part6 (get : Nat → SV) (off m : Nat) (get' : Nat → SV) : Nat → SV := fun t => match Nat.ble off t && Nat.blt t (off + m) with | true => get' (t - off) | false => get t
theorem t_stP {ops : Array Oper} {rest : List Oper} {K : St → Prop} {t : TypeId} {p x : Operand} {ty : TypeId} {pos : String} {after : Array Edge} {j m off q : Nat} {get get' : Nat → SV} {bt : TypeId} (g2 : Nat → SV)
    (hp : Val E S p (.bp j off)) (ho : lookO j S.owns = some (.box q get bt)) (hx : Val E S x (.agg m get')) (hs : ∀ w, (sizeOf t).run P w = .ok m w) (hq : off + m ≤ q) (hg : AllN (fun t => part6 get off m get' t = g2 t) q)
    (hk : T P E ops rest ⟨S.slots, (j, .box q g2 bt) :: S.owns⟩ K) :
    T P E ops ({ dst := none, op := .store t p x, type := ty, pos, after, guard := none } :: rest) S K := by
  rintro a w ⟨b, hr⟩ Q hQ
  obtain ⟨g, hb, hpv⟩ := hp b a w hr
  obtain ⟨vs, hv, hvm, hvc⟩ := hx b a w hr
  obtain ⟨g', cs, hb', _, hh, hm, hc⟩ := hr.owns j _ ho
  rw [hb] at hb'
  simp only [Value.pointer.injEq, Option.some.injEq, Addr.mk.injEq, and_true] at hb'
  subst hb'
  have h1 : ∀ v ∈ vs.toList, v.oneCell' = true := by
    intro v hv
    obtain ⟨i, hi, rfl⟩ := List.getElem_of_mem hv
    obtain ⟨u, hu, h1, _⟩ := hvc i (by simpa [hvm] using hi)
    rw [Array.getElem?_eq_getElem (by simpa using hi)] at hu
    simp only [Option.some.injEq] at hu
    simpa [hu] using h1
  obtain ⟨w', cs', hrun, h2, h3, h4, h5, h6⟩ := setRow_all (P := P) hh vs.toList off (by simp [hvm, hm]; omega) h1
  unfold wpList
  rw [if_pos (by rfl)]
  refine .inl (wp_of_skip (w' := w') ?_ ?_)
  · have hrun' : (storeCells ⟨g, off, none⟩ vs.toList 0).run P w = .ok () w' := by rw [store_at, Nat.add_zero]; exact hrun
    simp [execOp, Instr.storeAt, hpv, Instr.sureAddr, storeVar, hs, hv, Value.cells, hvm, hrun']
  · refine hk _ _ ⟨b, hr.setbox (cs := cs') ho hb (by omega) h5 h6 h2 (fun i hi => ?_)⟩ Q hQ
    rw [← hg.at i hi, h4 i]
    have e : (vs.toList.length) = m := by simp [hvm]
    rw [e]
    unfold part6
    by_cases c : off ≤ i ∧ i < off + m
    · obtain ⟨u, hu, h7, h8⟩ := hvc (i - off) (by omega)
      have hb2 : (Nat.ble off i && Nat.blt i (off + m)) = true := by
        rw [Bool.and_eq_true]; exact ⟨Nat.ble_eq_true_of_le c.1, Nat.ble_eq_true_of_le c.2⟩
      rw [hb2, if_pos c]
      exact ⟨u, by simpa using hu, h7, h8⟩
    · obtain ⟨u, hu, h7, h8⟩ := hc i hi
      have hb2 : (Nat.ble off i && Nat.blt i (off + m)) = false := by
        rw [Bool.eq_false_iff]; intro hh; rw [Bool.and_eq_true] at hh; exact c ⟨Nat.le_of_ble_eq_true hh.1, Nat.le_of_ble_eq_true hh.2⟩
      rw [hb2, if_neg c]
      exact ⟨u, hu, h7, h8⟩
theorem q_slA {α : Type} {cell : α → Nat → SV} {d : α} {x lo hi : Operand} {t : TypeId} {k l h : Nat} {comps : List SV} (r : List α) (ht : P.underlying t = some (.array (P.arrayLen t) (P.elem t))) (hs : ∀ w, (sizeOf (P.elem t)).run P w = .ok k w) (hx : Val E S x (elB comps 0))
    (hlo : Val E S lo (.v (.int .i64 (l : Int)))) (hhi : Val E S hi (.v (.int .i64 (h : Int)))) (hl : l < h) (hh : h ≤ P.arrayLen t) (hm : P.arrayLen t ≤ maxLen) (hc : P.arrayLen t * k ≤ comps.length) (hr : r.length = h - l)
    (he : ∀ i, i < h - l → AllN (fun q => comps.getD ((l + i) * k + q) .junk = cell (r.getD i d) q) k) :
    OpQ P E S (.slice t x (some lo) (some hi) none) (rowOf cell k d r) := fun b a w hrr dst ty pos after gd => by
  obtain ⟨_, g, o, hv, hg, hX, hcell⟩ := hx b a w hrr
  have h1 : a.eval lo = .int .i64 (l : Int) := hlo b a w hrr
  have h2 : a.eval hi = .int .i64 (h : Int) := hhi b a w hrr
  rw [Nat.zero_mul, Nat.add_zero] at hv
  have hv : a.eval x = .pointer (some ⟨g, o, none⟩) := hv
  refine ⟨.slice (some ⟨g, o + l * k, none⟩) (h - l) (P.arrayLen t - l), fun w' hw' => ?_, some ⟨g, o + l * k, none⟩, P.arrayLen t - l, by rw [hr], by omega, by omega, fun _ => ⟨g, o + l * k, rfl, hg, hX, fun i hi q hq => ?_⟩⟩
  · have h3 := run_sliceAt_array_lh (P := P) w' t ⟨g, o, none⟩ ht .i64 .i64 (l : Int) (h : Int) (by omega) (by omega) (by omega)
    simp only [execOp, Option.map_some, Option.map_none, h1, h2, hv, Sem.run_bind, h3, hs, Result.andThen_ok, Int.toNat_natCast]
    rw [slicedAt, if_neg (by omega), Addr.add_lit]; rfl
  · rw [hr] at hi
    have hlt : (l + i) * k + q < comps.length := by
      have : (l + i + 1) * k ≤ P.arrayLen t * k := Nat.mul_le_mul_right _ (by omega)
      rw [Nat.add_mul (l + i) 1 k, Nat.one_mul] at this
      omega
    obtain ⟨u, hu, h3, h4⟩ := hcell 0 (by omega) ((l + i) * k + q) hlt
    refine ⟨u, ?_, h3, ?_⟩
    · rw [← hu]
      congr 2
      rw [Nat.zero_mul, Nat.zero_add, Nat.add_mul]; omega
    · have e := (he i hi).at q hq
      show RO w _ (cell (r.getD i d) q) u
      rw [← e]; exact h4
end Go.Eng
namespace Go.Eng
open Go.RowKit
variable {P : Program} {NN : Nat} {E : Env NN}
theorem mv0 {S : St} : ∀ {xs : List Operand} {ss : List SV}, Vals E S xs ss → MVals E S (rn []) xs ss
  | [], [], _ => trivial
  | _ :: _, _ :: _, h => ⟨fun b a w hr => R_renm.2 (h.1.1 b a w hr), mv0 h.2⟩
  | [], _ :: _, h => h.elim
  | _ :: _, [], h => h.elim
end Go.Eng
namespace Go.Proofs.Ytmcdamcedemdiaa
open Go.RowKit Go.Eng
theorem ts22 : Try.prog.underlying 22 = some (.slice (Try.prog.elem 22)) := by kernel_rfl
theorem te22 : ∀ w, (sizeOf (Try.prog.elem 22)).run Try.prog w = .ok 8 w := fun w => by kernel_rfl
theorem ts33 : Try.prog.underlying 33 = some (.slice (Try.prog.elem 33)) := by kernel_rfl
theorem te33 : ∀ w, (sizeOf (Try.prog.elem 33)).run Try.prog w = .ok 1 w := fun w => by kernel_rfl
theorem ts80 : Try.prog.underlying 80 = some (.slice (Try.prog.elem 80)) := by kernel_rfl
theorem te80 : ∀ w, (sizeOf (Try.prog.elem 80)).run Try.prog w = .ok 2 w := fun w => by kernel_rfl
theorem en26 : Enters Try.prog 26 := fun args w => by kernel_rfl
theorem en36 : Enters Try.prog 36 := fun args w => by kernel_rfl
theorem en40 : Enters Try.prog 40 := fun args w => by kernel_rfl
theorem en44 : Enters Try.prog 44 := fun args w => by kernel_rfl
theorem en45 : Enters Try.prog 45 := fun args w => by kernel_rfl
theorem en47 : Enters Try.prog 47 := fun args w => by kernel_rfl
theorem en48 : Enters Try.prog 48 := fun args w => by kernel_rfl
theorem en51 : Enters Try.prog 51 := fun args w => by kernel_rfl
theorem en53 : Enters Try.prog 53 := fun args w => by kernel_rfl
theorem en54 : Enters Try.prog 54 := fun args w => by kernel_rfl
theorem en55 : Enters Try.prog 55 := fun args w => by kernel_rfl
theorem en56 : Enters Try.prog 56 := fun args w => by kernel_rfl
theorem en57 : Enters Try.prog 57 := fun args w => by kernel_rfl
theorem en58 : Enters Try.prog 58 := fun args w => by kernel_rfl
theorem en60 : Enters Try.prog 60 := fun args w => by kernel_rfl
theorem en61 : Enters Try.prog 61 := fun args w => by kernel_rfl
theorem en62 : Enters Try.prog 62 := fun args w => by kernel_rfl
theorem en63 : Enters Try.prog 63 := fun args w => by kernel_rfl
theorem en64 : Enters Try.prog 64 := fun args w => by kernel_rfl
theorem en65 : Enters Try.prog 65 := fun args w => by kernel_rfl
theorem en66 : Enters Try.prog 66 := fun args w => by kernel_rfl
theorem en80 : Enters Try.prog 80 := fun args w => by kernel_rfl
theorem en98 : Enters Try.prog 98 := fun args w => by kernel_rfl
theorem en100 : Enters Try.prog 100 := fun args w => by kernel_rfl
theorem en103 : Enters Try.prog 103 := fun args w => by kernel_rfl
theorem en110 : Enters Try.prog 110 := fun args w => by kernel_rfl
theorem en113 : Enters Try.prog 113 := fun args w => by kernel_rfl
theorem en114 : Enters Try.prog 114 := fun args w => by kernel_rfl
theorem en115 : Enters Try.prog 115 := fun args w => by kernel_rfl
theorem en118 : Enters Try.prog 118 := fun args w => by kernel_rfl
theorem en119 : Enters Try.prog 119 := fun args w => by kernel_rfl
theorem en120 : Enters Try.prog 120 := fun args w => by kernel_rfl
theorem en121 : Enters Try.prog 121 := fun args w => by kernel_rfl
theorem en124 : Enters Try.prog 124 := fun args w => by kernel_rfl
theorem en125 : Enters Try.prog 125 := fun args w => by kernel_rfl
theorem en126 : Enters Try.prog 126 := fun args w => by kernel_rfl
theorem en127 : Enters Try.prog 127 := fun args w => by kernel_rfl
theorem en128 : Enters Try.prog 128 := fun args w => by kernel_rfl
theorem en129 : Enters Try.prog 129 := fun args w => by kernel_rfl
theorem en130 : Enters Try.prog 130 := fun args w => by kernel_rfl
theorem en131 : Enters Try.prog 131 := fun args w => by kernel_rfl
theorem en147 : Enters Try.prog 147 := fun args w => by kernel_rfl
theorem en149 : Enters Try.prog 149 := fun args w => by kernel_rfl
theorem en150 : Enters Try.prog 150 := fun args w => by kernel_rfl
theorem laid : laidOutB Try.prog = true := by kernel_rfl
theorem ownk : ownKnob Try.prog.godebug = none := by kernel_rfl
theorem co3 : Try.prog.cellsOf 3 = 1 := by kernel_rfl
theorem zero3 : ZeroOk Try.prog 3 1 (fun _ => SV.v (.int .i64 0)) := zero_one Try.zeroValue3 rfl rfl
theorem eo22 : ElemOk Try.prog 22 61 8 80 := ⟨Try.underlying22, by
  have h : (Try.prog.info? 61).map (fun i => (i.size, i.bytes, i.zero.map fun z => z.cells.size)) = some (8, 80, some 8) := by kernel_rfl
  exact info_of h, by decide⟩
theorem rd24 : Try.prog.readableRec 24 = true ∧ 24 < Try.prog.types.size := ⟨by kernel_rfl, of_decide_eq_true (by kernel_rfl)⟩
theorem co26 : Try.prog.cellsOf 26 = 2 := by kernel_rfl
theorem rd26 : Try.prog.readableRec 26 = true ∧ 26 < Try.prog.types.size := ⟨by kernel_rfl, of_decide_eq_true (by kernel_rfl)⟩
theorem eo33 : ElemOk Try.prog 33 3 1 8 := ⟨Try.underlying33, by
  have h : (Try.prog.info? 3).map (fun i => (i.size, i.bytes, i.zero.map fun z => z.cells.size)) = some (1, 8, some 1) := by kernel_rfl
  exact info_of h, by decide⟩
theorem co61 : Try.prog.cellsOf 61 = 8 := by kernel_rfl
theorem eo80 : ElemOk Try.prog 80 26 2 16 := ⟨Try.underlying80, by
  have h : (Try.prog.info? 26).map (fun i => (i.size, i.bytes, i.zero.map fun z => z.cells.size)) = some (2, 16, some 2) := by kernel_rfl
  exact info_of h, by decide⟩
theorem rd80 : Try.prog.readableRec 80 = true ∧ 80 < Try.prog.types.size := ⟨by kernel_rfl, of_decide_eq_true (by kernel_rfl)⟩
theorem build24 : ∀ (w : World) (parts : List (Nat × Value)) (z : Value) (cs : Array Value), (zeroValue 24).run Try.prog w = .ok z w → Instr.fill (fun i => if i < 1 then some (i, 1) else none) z.cells parts = some cs → (∀ p ∈ parts, p.1 < 1) → (Instr.build 24 parts.toArray).run Try.prog w = .ok (.agg cs) w :=
  build_struct Try.underlying24 (fun w => by simp [Try.sizeOf22]; rfl)
theorem build26 : ∀ (w : World) (parts : List (Nat × Value)) (z : Value) (cs : Array Value), (zeroValue 26).run Try.prog w = .ok z w → Instr.fill (fun i => if i < 2 then some (i, 1) else none) z.cells parts = some cs → (∀ p ∈ parts, p.1 < 2) → (Instr.build 26 parts.toArray).run Try.prog w = .ok (.agg cs) w :=
  build_struct Try.underlying26 (fun w => by simp [Try.sizeOf3]; rfl)
theorem build61 : ∀ (w : World) (parts : List (Nat × Value)) (z : Value) (cs : Array Value), (zeroValue 61).run Try.prog w = .ok z w → Instr.fill (fun i => if i < 8 then some (i, 1) else none) z.cells parts = some cs → (∀ p ∈ parts, p.1 < 8) → (Instr.build 61 parts.toArray).run Try.prog w = .ok (.agg cs) w :=
  build_struct Try.underlying61 (fun w => by simp [Try.sizeOf3, Try.sizeOf4, Try.sizeOf33]; rfl)
abbrev Ga3 := fun w => @Try.isAgg3 w
abbrev Ga4 := fun w => @Try.isAgg4 w
abbrev Ga22 := fun w => @Try.isAgg22 w
abbrev Ga24 := fun w => @Try.isAgg24 w
abbrev Ga26 := fun w => @Try.isAgg26 w
abbrev Ga33 := fun w => @Try.isAgg33 w
abbrev Ga61 := fun w => @Try.isAgg61 w
abbrev Ga112 := fun w => @Try.isAgg112 w
abbrev Ga113 := fun w => @Try.isAgg113 w
abbrev Sz3 := fun w => @Try.sizeOf3 w
abbrev Sz4 := fun w => @Try.sizeOf4 w
abbrev Sz22 := fun w => @Try.sizeOf22 w
abbrev Sz24 := fun w => @Try.sizeOf24 w
abbrev Sz26 := fun w => @Try.sizeOf26 w
abbrev Sz33 := fun w => @Try.sizeOf33 w
abbrev Sz61 := fun w => @Try.sizeOf61 w
abbrev Sz112 := fun w => @Try.sizeOf112 w
abbrev Sz113 := fun w => @Try.sizeOf113 w
abbrev Un3 := @Try.underlying3
abbrev Un4 := @Try.underlying4
abbrev Un22 := @Try.underlying22
abbrev Un24 := @Try.underlying24
abbrev Un26 := @Try.underlying26
abbrev Un33 := @Try.underlying33
abbrev Un61 := @Try.underlying61
abbrev Un80 := @Try.underlying80
abbrev Un134 := @Try.underlying134
end Go.Proofs.Ytmcdamcedemdiaa
namespace Go.Proofs.Ytmcdamcedemdiaa
open Go.RowKit Go.Eng
def inCell (x : Int) (_ : Nat) : SV := iv x
def inRow (l : List Int) : SV := rowOf inCell 1 0 l
def cmpG (l : List SV) : Nat → SV := fun t => l.getD t .junk
theorem opens33 : Opens Try.prog 33 1 (fun l : List Int => l.length * 8 ≤ reachBytes ∧ l.length ≤ maxLen ∧ ∀ x ∈ l, okInt x) fun l _ => inRow l := opens_sliceW 0 Try.underlying33 (opens_int Try.underlying3) co3 (by decide) (by kernel_rfl)
theorem zero33 : ZeroOk Try.prog 33 1 (cmpG [.v (.slice none 0 0)]) := by
  refine ⟨_, Try.zeroValue33, rfl, fun t ht => ?_⟩
  match t, ht with
  | 0, _ => exact ⟨_, rfl, rfl, fun _ _ => rfl⟩
structure Nd where
  used : Bool
  uses : Int
  tag : Int
  mark : Int
  par : Int
  kids : List Int
  host : Int
  closed : Bool
  deriving DecidableEq, Inhabited
def ndCell (c : Nd) : Nat → SV
  | 0 => bv c.used
  | 1 => iv c.uses
  | 2 => iv c.tag
  | 3 => iv c.mark
  | 4 => iv c.par
  | 5 => inRow c.kids
  | 6 => iv c.host
  | _ => bv c.closed
def ndRow (l : List Nd) : SV := rowOf ndCell 8 default l
def okNd (c : Nd) : Prop := okInt c.uses ∧ okInt c.tag ∧ okInt c.mark ∧ okInt c.par ∧ (c.kids.length * 8 ≤ reachBytes ∧ c.kids.length ≤ maxLen ∧ ∀ x ∈ c.kids, okInt x) ∧ okInt c.host
theorem opens61 : Opens Try.prog 61 8 okNd ndCell := fun enc w base spare held fuel cs x h hlt hwt => by
  obtain ⟨hl, hf⟩ := struct_at Try.underlying61 (by kernel_rfl) (by kernel_rfl) h hlt hwt
  obtain ⟨x0, o0, u0, hu0, p0, r0⟩ := hf 0 _ rfl (opens_bool Try.underlying4)
  obtain ⟨x1, o1, u1, hu1, p1, r1⟩ := hf 1 _ rfl (opens_int Try.underlying3)
  obtain ⟨x2, o2, u2, hu2, p2, r2⟩ := hf 2 _ rfl (opens_int Try.underlying3)
  obtain ⟨x3, o3, u3, hu3, p3, r3⟩ := hf 3 _ rfl (opens_int Try.underlying3)
  obtain ⟨x4, o4, u4, hu4, p4, r4⟩ := hf 4 _ rfl (opens_int Try.underlying3)
  obtain ⟨x5, o5, u5, hu5, p5, r5⟩ := hf 5 _ rfl opens33
  obtain ⟨x6, o6, u6, hu6, p6, r6⟩ := hf 6 _ rfl (opens_int Try.underlying3)
  obtain ⟨x7, o7, u7, hu7, p7, r7⟩ := hf 7 _ rfl (opens_bool Try.underlying4)
  refine ⟨hl, ⟨x0, x1, x2, x3, x4, x5, x6, x7⟩, ⟨o1, o2, o3, o4, o5, o6⟩, fun i hi => ?_⟩
  match i, hi with
  | 0, _ => exact ⟨_, hu0, p0, r0⟩
  | 1, _ => exact ⟨_, hu1, p1, r1⟩
  | 2, _ => exact ⟨_, hu2, p2, r2⟩
  | 3, _ => exact ⟨_, hu3, p3, r3⟩
  | 4, _ => exact ⟨_, hu4, p4, r4⟩
  | 5, _ => exact ⟨_, hu5, p5, r5⟩
  | 6, _ => exact ⟨_, hu6, p6, r6⟩
  | 7, _ => exact ⟨_, hu7, p7, r7⟩
theorem opens22 : Opens Try.prog 22 1 (fun l : List Nd => l.length * 80 ≤ reachBytes ∧ l.length ≤ maxLen ∧ ∀ x ∈ l, okNd x) fun l _ => ndRow l := opens_sliceW default Try.underlying22 opens61 co61 (by decide) (by kernel_rfl)
theorem zero61 : ZeroOk Try.prog 61 8 (cmpG [bv false, iv 0, iv 0, iv 0, iv 0, .v (.slice none 0 0), iv 0, bv false]) := by
  refine ⟨_, Try.zeroValue61, rfl, fun t ht => ?_⟩
  match t, ht with
  | 0, _ => exact ⟨_, rfl, rfl, fun _ _ => rfl⟩
  | 1, _ => exact ⟨_, rfl, rfl, fun _ _ => rfl⟩
  | 2, _ => exact ⟨_, rfl, rfl, fun _ _ => rfl⟩
  | 3, _ => exact ⟨_, rfl, rfl, fun _ _ => rfl⟩
  | 4, _ => exact ⟨_, rfl, rfl, fun _ _ => rfl⟩
  | 5, _ => exact ⟨_, rfl, rfl, fun _ _ => rfl⟩
  | 6, _ => exact ⟨_, rfl, rfl, fun _ _ => rfl⟩
  | 7, _ => exact ⟨_, rfl, rfl, fun _ _ => rfl⟩
structure Hd where
  pl : Int
  use : Int
  deriving DecidableEq, Inhabited
def hdCell (c : Hd) : Nat → SV
  | 0 => iv c.pl
  | _ => iv c.use
def hdRow (l : List Hd) : SV := rowOf hdCell 2 default l
def okHd (c : Hd) : Prop := okInt c.pl ∧ okInt c.use
theorem opens26 : Opens Try.prog 26 2 okHd hdCell := fun enc w base spare held fuel cs x h hlt hwt => by
  obtain ⟨hl, hf⟩ := struct_at Try.underlying26 (by kernel_rfl) (by kernel_rfl) h hlt hwt
  obtain ⟨x0, o0, u0, hu0, p0, r0⟩ := hf 0 _ rfl (opens_int Try.underlying3)
  obtain ⟨x1, o1, u1, hu1, p1, r1⟩ := hf 1 _ rfl (opens_int Try.underlying3)
  refine ⟨hl, ⟨x0, x1⟩, ⟨o0, o1⟩, fun i hi => ?_⟩
  match i, hi with
  | 0, _ => exact ⟨_, hu0, p0, r0⟩
  | 1, _ => exact ⟨_, hu1, p1, r1⟩
theorem opens80 : Opens Try.prog 80 1 (fun l : List Hd => l.length * 16 ≤ reachBytes ∧ l.length ≤ maxLen ∧ ∀ x ∈ l, okHd x) fun l _ => hdRow l := opens_sliceW default Try.underlying80 opens26 co26 (by decide) (by kernel_rfl)
theorem zero26 : ZeroOk Try.prog 26 2 (cmpG [iv 0, iv 0]) := by
  refine ⟨_, Try.zeroValue26, rfl, fun t ht => ?_⟩
  match t, ht with
  | 0, _ => exact ⟨_, rfl, rfl, fun _ _ => rfl⟩
  | 1, _ => exact ⟨_, rfl, rfl, fun _ _ => rfl⟩
def stG (l : List Nd) : Nat → SV := fun _ => ndRow l
theorem opens24 : Opens Try.prog 24 1 (fun l : List Nd => l.length * 80 ≤ reachBytes ∧ l.length ≤ maxLen ∧ ∀ x ∈ l, okNd x) stG := fun enc w base spare held fuel cs x h hlt hwt => by
  obtain ⟨hl, hf⟩ := struct_at Try.underlying24 (by kernel_rfl) (by kernel_rfl) h hlt hwt
  obtain ⟨x0, o0, u0, hu0, p0, r0⟩ := hf 0 _ rfl opens22
  refine ⟨hl, x0, o0, fun i hi => ?_⟩
  match i, hi with
  | 0, _ => exact ⟨_, hu0, p0, r0⟩
theorem zero24 : ZeroOk Try.prog 24 1 (cmpG [.v (.slice none 0 0)]) := by
  refine ⟨_, Try.zeroValue24, rfl, fun t ht => ?_⟩
  match t, ht with
  | 0, _ => exact ⟨_, rfl, rfl, fun _ _ => rfl⟩
end Go.Proofs.Ytmcdamcedemdiaa
namespace Go.Proofs.Ytmcdamcedemdiaa
open Go.RowKit Go.Eng
theorem getD_lt {α : Type} {l : List α} {d : α} {i : Nat} (h : i < l.length) : l.getD i d = l[i] := by simp [List.getD_eq_getElem?_getD, h]
theorem mem_getD {α : Type} {l : List α} {d : α} {i : Nat} (h : i < l.length) : l.getD i d ∈ l := by rw [getD_lt h]; exact List.getElem_mem _
theorem getD_of_mem {α : Type} {l : List α} (d : α) {x : α} (h : x ∈ l) : ∃ i, i < l.length ∧ l.getD i d = x := by
  obtain ⟨i, hi, e⟩ := List.mem_iff_getElem.1 h
  exact ⟨i, hi, by rw [getD_lt hi]; exact e⟩
theorem take_s {α : Type} {l : List α} (d : α) {i : Nat} (h : i < l.length) : l.take (i + 1) = l.take i ++ [l.getD i d] := by
  rw [List.take_add_one, List.getElem?_eq_getElem h, getD_lt h]; rfl
def samePre {α : Type} (d : α) (l m : List α) (i : Nat) : Prop := l.length = m.length ∧ ∀ j, j < i → l.getD j d = m.getD j d
theorem samePre_0 {α : Type} {d : α} {l m : List α} (h : l.length = m.length) : samePre d l m 0 := ⟨h, fun _ h => absurd h (Nat.not_lt_zero _)⟩
theorem samePre_s {α : Type} {d : α} {l m : List α} {i : Nat} (h : samePre d l m i) (e : l.getD i d = m.getD i d) : samePre d l m (i + 1) :=
  ⟨h.1, fun j hj => by
    by_cases q : j < i
    · exact h.2 j q
    · have : j = i := by omega
      subst this; exact e⟩
theorem samePre_eq {α : Type} {d : α} {l m : List α} {i : Nat} (h : samePre d l m i) (hi : l.length ≤ i) : l = m := by
  refine List.ext_getElem h.1 fun j h1 h2 => ?_
  have := h.2 j (by omega)
  rwa [getD_lt h1, getD_lt h2] at this
theorem samePre_ne {α : Type} {d : α} {l m : List α} {i : Nat} (h : l.getD i d ≠ m.getD i d) : l ≠ m := fun e => h (by rw [e])
def eqInt (l m : List Int) : Bool := decide (l = m)
def pre {α : Type} (d : α) (p : α → α → Bool) (l m : List α) (i : Nat) : Prop := l.length = m.length ∧ ∀ j, j < i → p (l.getD j d) (m.getD j d) = true
def idxF {α : Type} (p : α → Bool) (l : List α) : Int := match l.findIdx? p with | some i => (i : Int) | none => -1
theorem idxF_hit {α : Type} {p : α → Bool} (d : α) {l : List α} {i : Nat} (hi : i < l.length) (h : ∀ j, j < i → p (l.getD j d) = false) (e : p (l.getD i d) = true) : idxF p l = (i : Int) := by
  have : l.findIdx? p = some i := by
    rw [List.findIdx?_eq_some_iff_getElem]
    refine ⟨hi, by rw [getD_lt hi] at e; exact e, fun j hj => ?_⟩
    have := h j hj
    rw [getD_lt (show j < l.length by omega)] at this
    rw [this]; simp
  simp only [idxF, this]
theorem idxF_none {α : Type} {p : α → Bool} (d : α) {l : List α} {i : Nat} (h : ∀ j, j < i → p (l.getD j d) = false) (hi : l.length ≤ i) : idxF p l = -1 := by
  have : l.findIdx? p = none := by
    rw [List.findIdx?_eq_none_iff]
    intro x hx
    obtain ⟨j, hj, rfl⟩ := getD_of_mem d hx
    exact h j (by omega)
  simp only [idxF, this]
theorem idxF_s {α : Type} {p : α → Bool} {d : α} {l : List α} {i : Nat} (h : ∀ j, j < i → p (l.getD j d) = false) (e : p (l.getD i d) = false) : ∀ j, j < i + 1 → p (l.getD j d) = false := fun j hj => by
  by_cases q : j < i
  · exact h j q
  · have : j = i := by omega
    subst this; exact e
theorem idxF_cases {α : Type} (p : α → Bool) (d : α) (l : List α) : (idxF p l = -1 ∧ ∀ x ∈ l, p x = false) ∨ ∃ i : Nat, idxF p l = (i : Int) ∧ i < l.length ∧ p (l.getD i d) = true ∧ ∀ j, j < i → p (l.getD j d) = false := by
  cases h : l.findIdx? p with
  | none => exact .inl ⟨by simp only [idxF, h], fun x hx => List.findIdx?_eq_none_iff.1 h x hx⟩
  | some i =>
    obtain ⟨hi, h1, h2⟩ := List.findIdx?_eq_some_iff_getElem.1 h
    refine .inr ⟨i, by simp only [idxF, h], hi, by rw [getD_lt hi]; exact h1, fun j hj => ?_⟩
    rw [getD_lt (show j < l.length by omega)]
    simpa using h2 j hj
def firstErr (f : Nat → Int) : Nat → Nat → Int
  | _, 0 => 0
  | i, n + 1 => if f i ≠ 0 then f i else firstErr f (i + 1) n
theorem firstErr_step {f : Nat → Int} {i n : Nat} (h : i < n) : firstErr f i (n - i) = if f i ≠ 0 then f i else firstErr f (i + 1) (n - (i + 1)) := by
  have e : n - i = (n - (i + 1)) + 1 := by omega
  rw [e]; rfl
theorem firstErr_hit {f : Nat → Int} {i n : Nat} {r e : Int} (hi : i < n) (h : r = firstErr f i (n - i)) (he : f i = e) (h0 : e ≠ 0) : r = e := by
  rw [h, firstErr_step hi, if_pos (by rw [he]; exact h0), he]
theorem firstErr_next {f : Nat → Int} {i n : Nat} {r : Int} (hi : i < n) (h : r = firstErr f i (n - i)) (he : f i = 0) : r = firstErr f (i + 1) (n - (i + 1)) := by
  rw [h, firstErr_step hi, if_neg (by rw [he]; simp)]
theorem firstErr_end {f : Nat → Int} {i n : Nat} {r : Int} (hi : n ≤ i) (h : r = firstErr f i (n - i)) : r = 0 := by
  rw [h, Nat.sub_eq_zero_of_le hi]; rfl
theorem firstErr_all {f : Nat → Int} : ∀ (n i : Nat), firstErr f i n = 0 → ∀ j, i ≤ j → j < i + n → f j = 0
  | 0, _, _, _, h1, h2 => by omega
  | n + 1, i, h, j, h1, h2 => by
    simp only [firstErr] at h
    by_cases q : f i ≠ 0
    · rw [if_pos q] at h; exact absurd h q
    · rw [if_neg q] at h
      by_cases e : j = i
      · subst e; simpa using q
      · exact firstErr_all n (i + 1) h j (by omega) (by omega)
theorem firstErr_zero {f : Nat → Int} : ∀ (n i : Nat), (∀ j, i ≤ j → j < i + n → f j = 0) → firstErr f i n = 0
  | 0, _, _ => rfl
  | n + 1, i, h => by
    rw [firstErr, if_neg (by rw [h i (Nat.le_refl _) (by omega)]; simp)]
    exact firstErr_zero n (i + 1) fun j h1 h2 => h j (by omega) (by omega)
theorem nd_same (x y : Nd) : ((((((((x.used == y.used) && (decide (x.uses = y.uses))) && (decide (x.tag = y.tag))) && (decide (x.mark = y.mark))) && (decide (x.par = y.par))) && (decide (x.host = y.host))) && (x.closed == y.closed)) && (eqInt x.kids y.kids)) = decide (x = y) := by
  cases x; cases y
  simp only [Nd.mk.injEq, eqInt]
  rw [Bool.eq_iff_iff]
  simp only [Bool.and_eq_true, decide_eq_true_eq, beq_iff_eq]
  grind
theorem nd_diff (x y : Nd) : ((((((((x.used != y.used) || (!decide (x.uses = y.uses))) || (!decide (x.tag = y.tag))) || (!decide (x.mark = y.mark))) || (!decide (x.par = y.par))) || (!decide (x.host = y.host))) || (x.closed != y.closed)) || (!(eqInt x.kids y.kids))) = !decide (x = y) := by
  rw [← nd_same]
  simp only [Bool.not_and, bne]
def inI (x lo hi : Int) : Bool := decide (lo ≤ x) && decide (x ≤ hi)
theorem inI_t {x lo hi : Int} : inI x lo hi = true ↔ lo ≤ x ∧ x ≤ hi := by simp [inI]
def above (n : Nd) : Int := if 0 ≤ n.host then n.host else n.par
def runder (n : Nd) : Int := if n.host ≠ -1 then n.host else n.par
def rangeBad (n : Nd) : Bool := decide (n.uses < 0) || decide (1000000 < n.uses) || decide (n.tag < 0) || decide (99 < n.tag) || decide (n.mark < -1000000) || decide (1000000 < n.mark)
def whoBad (N k : Int) : Bool := decide (k < -1) || decide (N ≤ k)
def formBad (n : Nd) : Bool := ((!n.used) && ((!decide (n.tag = 0)) || (!decide (n.mark = 0)) || (!decide (n.par = -1)) || (!decide (n.host = -1)) || n.closed || decide (0 < (n.kids.length : Int)))) || (n.used && decide (n.uses = 0))
def formBad2 (n : Nd) : Bool := (decide (n.host < 0) && n.closed) || (decide (0 ≤ n.host) && decide (0 ≤ n.par))
def nodeErr (N : Int) (n : Nd) : Int :=
  if rangeBad n = true then 2 else if (n.kids ++ [n.par, n.host]).any (whoBad N) = true then 4 else if formBad n = true then 3 else if formBad2 n = true then 3 else 0
theorem nodeErr_2 {N : Int} {n : Nd} (h : rangeBad n = true) : nodeErr N n = 2 := by unfold nodeErr; rw [if_pos h]
theorem nodeErr_4 {N : Int} {n : Nd} (h : rangeBad n = false) {k : Int} (hk : k ∈ n.kids ++ [n.par, n.host]) (h4 : whoBad N k = true) : nodeErr N n = 4 := by
  unfold nodeErr; rw [if_neg (ff h), if_pos (List.any_eq_true.2 ⟨k, hk, h4⟩)]
theorem nodeErr_w {N : Int} {n : Nd} (h : rangeBad n = false) (h4 : ∀ k ∈ n.kids ++ [n.par, n.host], whoBad N k = false) : nodeErr N n = if formBad n = true then 3 else if formBad2 n = true then 3 else 0 := by
  unfold nodeErr; rw [if_neg (ff h), if_neg]
  rw [List.any_eq_true]
  rintro ⟨k, hk, hb⟩
  rw [h4 k hk] at hb; cases hb
theorem nodeErr_3 {N : Int} {n : Nd} (h : rangeBad n = false) (h4 : ∀ k ∈ n.kids ++ [n.par, n.host], whoBad N k = false) (h3 : formBad n = true) : nodeErr N n = 3 := by rw [nodeErr_w h h4, if_pos h3]
theorem nodeErr_3' {N : Int} {n : Nd} (h : rangeBad n = false) (h4 : ∀ k ∈ n.kids ++ [n.par, n.host], whoBad N k = false) (h3 : formBad2 n = true) : nodeErr N n = 3 := by rw [nodeErr_w h h4, if_pos h3]; split <;> rfl
theorem nodeErr_0 {N : Int} {n : Nd} (h : rangeBad n = false) (h4 : ∀ k ∈ n.kids ++ [n.par, n.host], whoBad N k = false) (h3 : formBad n = false) (h5 : formBad2 n = false) : nodeErr N n = 0 := by rw [nodeErr_w h h4, if_neg (ff h3), if_neg (ff h5)]
structure Node1 (N : Int) (n : Nd) : Prop where
  uses : 0 ≤ n.uses ∧ n.uses ≤ 1000000
  tag : 0 ≤ n.tag ∧ n.tag ≤ 99
  mark : -1000000 ≤ n.mark ∧ n.mark ≤ 1000000
  kids : ∀ k ∈ n.kids, -1 ≤ k ∧ k < N
  par : -1 ≤ n.par ∧ n.par < N
  host : -1 ≤ n.host ∧ n.host < N
  free : n.used = false → n.tag = 0 ∧ n.mark = 0 ∧ n.par = -1 ∧ n.host = -1 ∧ n.closed = false ∧ n.kids = []
  use : n.used = true → n.uses ≠ 0
  closed : n.closed = true → 0 ≤ n.host
  one : 0 ≤ n.host → n.par = -1
theorem node1_of {N : Int} {n : Nd} (h : nodeErr N n = 0) : Node1 N n := by
  unfold nodeErr at h
  split at h; · cases h
  rename_i h1
  split at h; · cases h
  rename_i h2
  split at h; · cases h
  rename_i h3
  split at h; · cases h
  rename_i h4
  simp only [rangeBad, Bool.or_eq_true, decide_eq_true_eq] at h1
  have h2' : ∀ k ∈ n.kids ++ [n.par, n.host], -1 ≤ k ∧ k < N := fun k hk => by
    by_cases hb : whoBad N k = true
    · exact absurd (List.any_eq_true.2 ⟨k, hk, hb⟩) h2
    · simp only [whoBad, Bool.or_eq_true, decide_eq_true_eq] at hb; omega
  simp only [formBad, formBad2, Bool.or_eq_true, Bool.and_eq_true, Bool.not_eq_true', decide_eq_true_eq, decide_eq_false_iff_not] at h3 h4
  have hp := h2' n.par (by simp)
  have hh := h2' n.host (by simp)
  refine ⟨by omega, by omega, by omega, fun k hk => h2' k (by simp [hk]), hp, hh, fun hu => ?_, fun hu h0 => h3 (.inr ⟨hu, h0⟩), fun hc => ?_, fun h0 => ?_⟩
  · have h5 : ∀ {p : Prop} [Decidable p], (p → False) → ¬ p := fun h => h
    have hn := fun q => h3 (.inl ⟨hu, q⟩)
    refine ⟨?_, ?_, ?_, ?_, ?_, ?_⟩
    · exact Classical.byContradiction fun q => hn (.inl (.inl (.inl (.inl (.inl q)))))
    · exact Classical.byContradiction fun q => hn (.inl (.inl (.inl (.inl (.inr q)))))
    · exact Classical.byContradiction fun q => hn (.inl (.inl (.inl (.inr q))))
    · exact Classical.byContradiction fun q => hn (.inl (.inl (.inr q)))
    · exact Bool.eq_false_iff.2 fun q => hn (.inl (.inr q))
    · exact List.eq_nil_of_length_eq_zero (Nat.eq_zero_of_not_pos fun q => hn (.inr (by omega)))
  · exact Classical.byContradiction fun q => h4 (.inl ⟨by omega, hc⟩)
  · exact Classical.byContradiction fun q => h4 (.inr ⟨h0, by omega⟩)
theorem node1_err {N : Int} {n : Nd} (h : Node1 N n) : nodeErr N n = 0 := by
  refine nodeErr_0 ?_ (fun k hk => ?_) ?_ ?_
  · have h1 := h.uses; have h2 := h.tag; have h3 := h.mark
    simp only [rangeBad, Bool.or_eq_false_iff, decide_eq_false_iff_not]; omega
  · have : -1 ≤ k ∧ k < N := by
      simp only [List.mem_append, List.mem_cons, List.not_mem_nil, or_false] at hk
      rcases hk with hk | rfl | rfl
      · exact h.kids k hk
      · exact h.par
      · exact h.host
    simp only [whoBad, Bool.or_eq_false_iff, decide_eq_false_iff_not]; omega
  · cases hu : n.used with
    | true => have := h.use hu; simp [formBad, hu, this]
    | false => obtain ⟨h1, h2, h3, h4, h5, h6⟩ := h.free hu; simp [formBad, hu, h1, h2, h3, h4, h5, h6]
  · have h1 := h.closed; have h2 := h.one
    by_cases q : 0 ≤ n.host
    · have := h2 q; simp [formBad2, q, this]; intro; omega
    · have : n.closed = false := by cases hc : n.closed with | false => rfl | true => exact absurd (h1 hc) q
      simp [formBad2, q, this]
def errAt (l : List Nd) (i : Nat) : Int := nodeErr (l.length : Int) (l.getD i default)
def nodesErr (l : List Nd) : Int := firstErr (errAt l) 0 l.length
def kidOk (l : List Nd) (i : Nat) (c : Int) : Bool := decide (0 ≤ c) && (l.getD c.toNat default).used && decide ((l.getD c.toNat default).par = (i : Int))
def kcnt (l : List Nd) (k : Int) : Nat := (l.flatMap Nd.kids).count k
def rcnt (l : List Nd) (k : Int) : Nat := (l.map Nd.host).count k
def up1 (l : List Nd) (k : Int) : Int := if k < 0 then k else above (l.getD k.toNat default)
def upN (l : List Nd) : Nat → Int → Int
  | 0, k => k
  | n + 1, k => up1 l (upN l n k)
def link1 (l : List Nd) (i : Nat) : Bool := (l.getD i default).kids.all (kidOk l i) && (decide ((l.getD i default).host < 0) || (l.getD (l.getD i default).host.toNat default).used)
def link2 (l : List Nd) (i : Nat) : Bool := decide (kcnt l i ≤ 1) && (decide (0 < kcnt l i) == decide (0 ≤ (l.getD i default).par)) && decide (rcnt l i ≤ 1) && decide (upN l l.length i < 0)
def linksB (l : List Nd) : Bool := (List.range l.length).all fun i => link1 l i && link2 l i
def checkSt (l : List Nd) : Int := if 24 < l.length then 1 else if nodesErr l ≠ 0 then nodesErr l else if linksB l = true then 0 else 6
theorem linksB_iff {l : List Nd} : linksB l = true ↔ ∀ i, i < l.length → link1 l i = true ∧ link2 l i = true := by
  simp only [linksB, List.all_eq_true, List.mem_range, Bool.and_eq_true]
end Go.Proofs.Ytmcdamcedemdiaa
namespace Go.Proofs.Ytmcdamcedemdiaa
open Go.RowKit Go.Eng
theorem in_ct (x lo hi : Int) : Ct Try.prog 120 [iv (x), iv (lo), iv (hi)] (bv (inI x lo hi)) := by
 exact CtO 15 Try.func120 rfl rfl rfl fun E => Sq <| Rq <| O (As K) <| Nq <| Sq <| Rq <| O (Mv (V rfl)) <| O (Mv (V rfl)) <| O (Le (V rfl) (V rfl)) <| O (Mv (V rfl)) <| Og (Gy rfl rfl) (fun hg => Mv (V rfl)) <| Og (Gy rfl rfl) (fun hg => Mv (V rfl)) <| Og (Gy rfl rfl) (fun hg => Le (Vg (V rfl) hg) (Vg (V rfl) hg)) <| O (Qa (V rfl) (fun h => Vg (V rfl) h)) <| O (As (V rfl)) <| Nq <| Rx <| R1 rfl (V rfl) rfl (by show bv ((decide (lo ≤ x)) && (decide (x ≤ hi))) = bv (inI x lo hi); rfl)
theorem above_ct (n : Nd) : Ct Try.prog 110 [SV.agg 8 (ndCell n)] (iv (above n)) := by
 refine CtO 10 Try.func110 rfl rfl rfl fun E => row_lenA 5 (V (s := 0) rfl) rfl rfl fun hl0_5 => Sq <| Rt <| BxA 1 (V rfl) rfl rfl <| U (As K) <| Nt <| Sq <| Sq <| Rq <| O (FlB _ _ (V rfl) Un61 rfl 0 Sz3) <| O (LdB (V rfl) rfl Ga3 (by decide)) <| O (Ge (V rfl) K) <| Nq <| Cd (V rfl) (fun hc1 => ?_) (fun hc1 => ?_)
 ·have hc1s := hc1; try simp only [BL] at hc1s
  exact Sq <| Rq <| O (FlB _ _ (V rfl) Un61 rfl 0 Sz3) <| O (LdB (V rfl) rfl Ga3 (by decide)) <| O (As (V rfl)) <| Nq <| Rx <| R1 rfl (V rfl) rfl (by show iv (n.host) = iv (above n); rw [above, if_pos hc1s])
 ·have hc1s := hc1; try simp only [BL] at hc1s
  exact Sk <| Sq <| Rq <| O (FlB _ _ (V rfl) Un61 rfl 0 Sz3) <| O (LdB (V rfl) rfl Ga3 (by decide)) <| O (As (V rfl)) <| Nq <| Rx <| R1 rfl (V rfl) rfl (by show iv (n.par) = iv (above n); rw [above, if_neg hc1s])
theorem runder_ct (n : Nd) : Ct Try.prog 121 [SV.agg 8 (ndCell n)] (iv (runder n)) := by
 refine CtO 10 Try.func121 rfl rfl rfl fun E => row_lenA 5 (V (s := 0) rfl) rfl rfl fun hl0_5 => Sq <| Rt <| BxA 1 (V rfl) rfl rfl <| U (As K) <| Nt <| Sq <| Sq <| Rq <| O (FlB _ _ (V rfl) Un61 rfl 0 Sz3) <| O (LdB (V rfl) rfl Ga3 (by decide)) <| O (Qn (V rfl) K) <| Nq <| Cd (V rfl) (fun hc1 => ?_) (fun hc1 => ?_)
 ·have hc1s := hc1; try simp only [BL] at hc1s
  exact Sq <| Rq <| O (FlB _ _ (V rfl) Un61 rfl 0 Sz3) <| O (LdB (V rfl) rfl Ga3 (by decide)) <| O (As (V rfl)) <| Nq <| Rx <| R1 rfl (V rfl) rfl (by show iv (n.host) = iv (runder n); rw [runder, if_pos hc1s])
 ·have hc1s := hc1; try simp only [BL] at hc1s
  exact Sk <| Sq <| Rq <| O (FlB _ _ (V rfl) Un61 rfl 0 Sz3) <| O (LdB (V rfl) rfl Ga3 (by decide)) <| O (As (V rfl)) <| Nq <| Rx <| R1 rfl (V rfl) rfl (by show iv (n.par) = iv (runder n); rw [runder, if_neg (not_not_intro hc1s)])
theorem equal_ct (l m : List Int) : Ct Try.prog 26 [inRow l, inRow m] (bv (eqInt l m)) := by
 refine CtO 26 Try.func26 rfl rfl rfl fun E => Rl (V (s := 0) rfl) fun hl0 => Rl (V (s := 1) rfl) fun hl1 => Sq <| Rq <| O (As K) <| Nq <| Sq <| Sq <| Rq <| O (Mv (V rfl)) <| O (Ln (V rfl) ts33) <| O (Mv (V rfl)) <| O (Ln (V rfl) ts33) <| O (Qn (V rfl) (V rfl)) <| Nq <| Cd (V rfl) (fun hc1 => ?_) (fun hc1 => ?_)
 ·have hc1s := hc1; try simp only [BL] at hc1s
  exact Sq <| Rq <| O (As K) <| Nq <| Rx <| R1 rfl (V rfl) rfl (by show bv (false) = bv (eqInt l m); rw [eqInt, decide_eq_false (fun h => by rw [h] at hc1s; simp at hc1s)])
 ·have hc1s := hc1; try simp only [BL] at hc1s
  refine Sk <| Sq <| Sq <| Rq <| O (Mv (V rfl)) <| O (Ln (V rfl) ts33) <| O (Mv K) <| Nq <| Bo <| Lo (fun (i : Nat) => ⟨[(0, inRow l), (1, inRow m), (12, iv ((l.length : Int))), (13, iv ((i : Int)))], []⟩) (fun (i : Nat) => i ≤ l.length ∧ samePre 0 l m i) (fun (i : Nat) => l.length - i) 0 (by show 0 ≤ l.length ∧ samePre 0 l m 0; exact ⟨Nat.zero_le _, samePre_0 (by omega)⟩) (We (Vs rfl) Z) <| ?_
  ·rintro i hI1
   have hJ1 : i ≤ l.length ∧ samePre 0 l m i := hI1
   have hlm := hJ1.2.1
   refine Sq <| Rq <| O (Lt (V rfl) (V rfl)) <| Nq <| Sq <| Cd (V rfl) (fun hc2 => ?_) (fun hc2 => ?_)
   ·have hc2s := hc2; try simp only [BL] at hc2s
    refine Sk <| Sq <| Bo <| Sq <| Rq <| O (Mv (V rfl)) <| O (As (V rfl)) <| Nq <| Sq <| Rqd (by kernel_rfl) (by kernel_rfl) <| O (Mv (V rfl)) <| O (Mv (V rfl)) <| O (IxN (i := i) (V rfl) (V rfl) ts33 te33 (by omega)) <| O (Ld (V rfl) Ga3 (by decide)) <| O (Mv (V rfl)) <| O (Mv (V rfl)) <| O (IxN (i := i) (V rfl) (V rfl) ts33 te33 (by omega)) <| O (Ld (V rfl) Ga3 (by decide)) <| O (Qn (V rfl) (V rfl)) <| Nq <| Cd (V rfl) (fun hc3 => ?_) (fun hc3 => ?_)
    ·have hc3s := hc3; try simp only [BL] at hc3s
     exact Sq <| Rq <| O (As K) <| Nq <| Rx <| R1 rfl (V rfl) rfl (by show bv (false) = bv (eqInt l m); rw [eqInt, decide_eq_false (samePre_ne (i := i) (d := 0) (by simpa using hc3))])
    ·have hc3s := hc3; try simp only [BL] at hc3s
     exact Sk <| Rq <| O (Ad (V rfl) K (by omega)) <| O (Mv (V rfl)) <| Nq <| Nx (i + 1) (by show (i + 1) ≤ l.length ∧ samePre 0 l m (i + 1); exact ⟨by omega, samePre_s hJ1.2 (by simpa using hc3)⟩) (by show l.length - (i + 1) < l.length - i; omega) (We (Vs rfl) Z)
   ·have hc2s := hc2; try simp only [BL] at hc2s
    exact Ex <| Sq <| Rq <| O (As K) <| Nq <| Rx <| R1 rfl (V rfl) rfl (by show bv (true) = bv (eqInt l m); rw [eqInt, decide_eq_true (samePre_eq hJ1.2 (by omega))])
theorem idxf113_ct {f : FuncId} {caps : List SV} (p : Nd → Bool) (hE : Enters Try.prog f) (hro : allRO caps = true) (hC : ∀ x, Ct Try.prog f ([.agg 8 (ndCell x)] ++ caps) (bv (p x))) (l : List Nd) : Ct Try.prog 113 [ndRow l, fnA f caps] (iv (idxF p l)) := by
 refine CtO 19 Try.func113 rfl rfl rfl fun E => Rl (V (s := 0) rfl) fun hl0 => Sq <| Rq <| O (As K) <| Nq <| Sq <| Sq <| Rq <| O (Mv (V rfl)) <| O (Ln (V rfl) ts22) <| O (Mv K) <| Nq <| Bo <| Lo (fun (i : Nat) => ⟨[(0, ndRow l), (1, fnA f caps), (7, iv ((l.length : Int))), (8, iv ((i : Int)))], []⟩) (fun (i : Nat) => i ≤ l.length ∧ ∀ j, j < i → p (l.getD j default) = false) (fun (i : Nat) => l.length - i) 0 (by show 0 ≤ l.length ∧ ∀ j, j < 0 → p (l.getD j default) = false; exact ⟨Nat.zero_le _, fun j hj => absurd hj (Nat.not_lt_zero _)⟩) (We (Vs rfl) Z) <| ?_
 ·rintro i hI1
  have hJ1 : i ≤ l.length ∧ ∀ j, j < i → p (l.getD j default) = false := hI1
  have hi1 := hJ1.1
  have hall := hJ1.2
  refine Sq <| Rq <| O (Lt (V rfl) (V rfl)) <| Nq <| Sq <| Cd (V rfl) (fun hc1 => ?_) (fun hc1 => ?_)
  ·have hc1s := hc1; try simp only [BL] at hc1s
   refine Sk <| Sq <| Bo <| Sq <| Rq <| O (Mv (V rfl)) <| O (As (V rfl)) <| Nq <| Sq <| Rq <| O (Mv (V rfl)) <| O (Mv (V rfl)) <| O (Mv (V rfl)) <| O (IxN (i := i) (V rfl) (V rfl) ts22 te22 (by clear hall hJ1 hI1; omega)) <| O (LdA (V rfl) Ga61 Sz61 (by decide)) <| CQv (args := [SV.agg 8 (ndCell ⟨(l.getD i default).used, (l.getD i default).uses, (l.getD i default).tag, (l.getD i default).mark, (l.getD i default).par, (l.getD i default).kids, (l.getD i default).host, (l.getD i default).closed⟩)]) (caps := caps) (fnval_A (V rfl)) hro hE (by exact ⟨⟨(Vi (g' := ndCell ⟨(l.getD i default).used, (l.getD i default).uses, (l.getD i default).tag, (l.getD i default).mark, (l.getD i default).par, (l.getD i default).kids, (l.getD i default).host, (l.getD i default).closed⟩) (V rfl) ⟨⟨⟨⟨⟨⟨⟨⟨Z, Ir⟩, Ir⟩, Ir⟩, Ir⟩, Ir⟩, Ir⟩, Ir⟩, Ir⟩), rfl⟩, Z⟩) (hC (l.getD i default)) <| Nq <| Cd (V rfl) (fun hc2 => ?_) (fun hc2 => ?_)
   ·have hc2s := hc2; try simp only [BL] at hc2s
    exact Sq <| Rq <| O (Mv (V rfl)) <| O (As (V rfl)) <| Nq <| Rx <| R1 rfl (V rfl) rfl (by show iv ((i : Int)) = iv (idxF p l); rw [idxF_hit default (by clear hall hJ1 hI1; omega) hall hc2])
   ·have hc2s := hc2; try simp only [BL] at hc2s
    exact Sk <| Rq <| O (Ad (V rfl) K (by clear hall hJ1 hI1; omega)) <| O (Mv (V rfl)) <| Nq <| Nx (i + 1) (by show (i + 1) ≤ l.length ∧ ∀ j, j < (i + 1) → p (l.getD j default) = false; exact ⟨by clear hall hJ1 hI1; omega, idxF_s hall hc2⟩) (by show l.length - (i + 1) < l.length - i; clear hall hJ1 hI1; omega) (We (Vs rfl) Z)
  ·have hc1s := hc1; try simp only [BL] at hc1s
   exact Ex <| Sq <| Rq <| O (As K) <| Nq <| Rx <| R1 rfl (V rfl) rfl (by show iv ((-1)) = iv (idxF p l); rw [idxF_none default hall (by clear hall hJ1 hI1; omega)])
theorem rsame_ct (l m : List Nd) : Ct Try.prog 53 [SV.agg 1 (stG l), SV.agg 1 (stG m)] (bv (decide (l = m))) := by
 refine CtO 84 Try.func53 rfl rfl rfl fun E => row_lenA 0 (V (s := 0) rfl) rfl rfl fun hl0_0 => row_lenA 0 (V (s := 1) rfl) rfl rfl fun hl1_0 => Sq <| Rt <| BxA 1 (V rfl) rfl rfl <| BxA 2 (V rfl) rfl rfl <| U (As K) <| Nt <| Sq <| Sq <| Rq <| O (FlB _ _ (V rfl) Un24 rfl 0 Sz22) <| O (LdB (V rfl) rfl Ga22 (by decide)) <| O (Ln (V rfl) ts22) <| O (FlB _ _ (V rfl) Un24 rfl 0 Sz22) <| O (LdB (V rfl) rfl Ga22 (by decide)) <| O (Ln (V rfl) ts22) <| O (Qn (V rfl) (V rfl)) <| Nq <| Cd (V rfl) (fun hc1 => ?_) (fun hc1 => ?_)
 ·have hc1s := hc1; try simp only [BL] at hc1s
  exact Sq <| Rq <| O (As K) <| Nq <| Rx <| R1 rfl (V rfl) rfl (by show bv (false) = bv (decide (l = m)); rw [decide_eq_false (fun h => by rw [h] at hc1s; simp at hc1s)])
 ·have hc1s := hc1; try simp only [BL] at hc1s
  refine Sk <| Sq <| Sq <| Rq <| O (FlB _ _ (V rfl) Un24 rfl 0 Sz22) <| O (LdB (V rfl) rfl Ga22 (by decide)) <| O (Ln (V rfl) ts22) <| O (Mv K) <| Nq <| Bo <| Lo (fun (i : Nat) => ⟨[(3, SV.bp 2 0), (16, ndRow l), (17, iv ((l.length : Int))), (18, iv ((i : Int)))], [(2, Own.box 1 (stG m) 24)]⟩) (fun (i : Nat) => i ≤ l.length ∧ samePre default l m i) (fun (i : Nat) => l.length - i) 0 (by show 0 ≤ l.length ∧ samePre default l m 0; exact ⟨Nat.zero_le _, samePre_0 (by omega)⟩) (We (ow := [(2, Own.box 1 (stG m) 24)]) (Vs rfl) (by exact ⟨⟨_, rfl, rfl, rfl, (An rfl)⟩, Z⟩)) <| ?_
  ·rintro i hI1
   have hJ1 : i ≤ l.length ∧ samePre default l m i := hI1
   have hlm := hJ1.2.1
   refine Sq <| Rq <| O (Lt (V rfl) (V rfl)) <| Nq <| Sq <| Cd (V rfl) (fun hc2 => ?_) (fun hc2 => ?_)
   ·have hc2s := hc2; try simp only [BL] at hc2s
    refine Sk <| Sq <| Bo <| Sq <| Rt <| U (Mv (V rfl)) <| U (IxN (i := i) (V rfl) (V rfl) ts22 te22 (by omega)) <| U (LdA (V rfl) Ga61 Sz61 (by decide)) <| Al 3 zero61 rfl rfl <| U (As (V rfl)) <| StA (V rfl) rfl (V rfl) Sz61 <| Nt <| Sq <| Rt <| U (FlB _ _ (V rfl) Un24 rfl 0 Sz22) <| U (LdB (V rfl) rfl Ga22 (by decide)) <| U (Mv (V rfl)) <| U (IxN (i := i) (V rfl) (V rfl) ts22 te22 (by omega)) <| U (LdA (V rfl) Ga61 Sz61 (by decide)) <| Al 4 zero61 rfl rfl <| StA (V rfl) rfl (V rfl) Sz61 <| Nt <| Sq <| Rq <| O (FlB _ _ (V rfl) Un61 rfl 0 Sz4) <| O (LdB (V rfl) rfl Ga4 (by decide)) <| O (FlB _ _ (V rfl) Un61 rfl 0 Sz4) <| O (LdB (V rfl) rfl Ga4 (by decide)) <| O (q_neqb (V rfl) (V rfl) Un4) <| O (Mv (V rfl)) <| Og (Gn rfl rfl) (fun hg => FlB _ _ (V rfl) Un61 rfl 0 Sz3) <| Og (Gn rfl rfl) (fun hg => LdB (Vg (V rfl) hg) rfl Ga3 (by decide)) <| Og (Gn rfl rfl) (fun hg => FlB _ _ (V rfl) Un61 rfl 0 Sz3) <| Og (Gn rfl rfl) (fun hg => LdB (Vg (V rfl) hg) rfl Ga3 (by decide)) <| Og (Gn rfl rfl) (fun hg => Qn (Vg (V rfl) hg) (Vg (V rfl) hg)) <| O (Qr (V rfl) (fun h => Vg (V rfl) (notT h))) <| O (Mv (V rfl)) <| Og (Gn rfl rfl) (fun hg => FlB _ _ (V rfl) Un61 rfl 0 Sz3) <| Og (Gn rfl rfl) (fun hg => LdB (Vg (V rfl) hg) rfl Ga3 (by decide)) <| Og (Gn rfl rfl) (fun hg => FlB _ _ (V rfl) Un61 rfl 0 Sz3) <| ?_
    refine Og (Gn rfl rfl) (fun hg => LdB (Vg (V rfl) hg) rfl Ga3 (by decide)) <| Og (Gn rfl rfl) (fun hg => Qn (Vg (V rfl) hg) (Vg (V rfl) hg)) <| O (Qr (V rfl) (fun h => Vg (V rfl) (notT h))) <| O (Mv (V rfl)) <| Og (Gn rfl rfl) (fun hg => FlB _ _ (V rfl) Un61 rfl 0 Sz3) <| Og (Gn rfl rfl) (fun hg => LdB (Vg (V rfl) hg) rfl Ga3 (by decide)) <| Og (Gn rfl rfl) (fun hg => FlB _ _ (V rfl) Un61 rfl 0 Sz3) <| Og (Gn rfl rfl) (fun hg => LdB (Vg (V rfl) hg) rfl Ga3 (by decide)) <| Og (Gn rfl rfl) (fun hg => Qn (Vg (V rfl) hg) (Vg (V rfl) hg)) <| O (Qr (V rfl) (fun h => Vg (V rfl) (notT h))) <| O (Mv (V rfl)) <| Og (Gn rfl rfl) (fun hg => FlB _ _ (V rfl) Un61 rfl 0 Sz3) <| Og (Gn rfl rfl) (fun hg => LdB (Vg (V rfl) hg) rfl Ga3 (by decide)) <| Og (Gn rfl rfl) (fun hg => FlB _ _ (V rfl) Un61 rfl 0 Sz3) <| Og (Gn rfl rfl) (fun hg => LdB (Vg (V rfl) hg) rfl Ga3 (by decide)) <| Og (Gn rfl rfl) (fun hg => Qn (Vg (V rfl) hg) (Vg (V rfl) hg)) <| O (Qr (V rfl) (fun h => Vg (V rfl) (notT h))) <| O (Mv (V rfl)) <| Og (Gn rfl rfl) (fun hg => FlB _ _ (V rfl) Un61 rfl 0 Sz3) <| Og (Gn rfl rfl) (fun hg => LdB (Vg (V rfl) hg) rfl Ga3 (by decide)) <| Og (Gn rfl rfl) (fun hg => FlB _ _ (V rfl) Un61 rfl 0 Sz3) <| Og (Gn rfl rfl) (fun hg => LdB (Vg (V rfl) hg) rfl Ga3 (by decide)) <| Og (Gn rfl rfl) (fun hg => Qn (Vg (V rfl) hg) (Vg (V rfl) hg)) <| O (Qr (V rfl) (fun h => Vg (V rfl) (notT h))) <| O (Mv (V rfl)) <| Og (Gn rfl rfl) (fun hg => FlB _ _ (V rfl) Un61 rfl 0 Sz4) <| Og (Gn rfl rfl) (fun hg => LdB (Vg (V rfl) hg) rfl Ga4 (by decide)) <| Og (Gn rfl rfl) (fun hg => FlB _ _ (V rfl) Un61 rfl 0 Sz4) <| Og (Gn rfl rfl) (fun hg => LdB (Vg (V rfl) hg) rfl Ga4 (by decide)) <| Og (Gn rfl rfl) (fun hg => q_neqb (Vg (V rfl) hg) (Vg (V rfl) hg) Un4) <| O (Qr (V rfl) (fun h => Vg (V rfl) (notT h))) <| O (Mv (V rfl)) <| Og (Gn rfl rfl) (fun hg => FlB _ _ (V rfl) Un61 rfl 0 Sz33) <| Og (Gn rfl rfl) (fun hg => LdB (Vg (V rfl) hg) rfl Ga33 (by decide)) <| Og (Gn rfl rfl) (fun hg => FlB _ _ (V rfl) Un61 rfl 0 Sz33) <| Og (Gn rfl rfl) (fun hg => LdB (Vg (V rfl) hg) rfl Ga33 (by decide)) <| CQg (Gn rfl rfl) en26 (fun hg => (by exact ⟨⟨(Vg (V rfl) hg), rfl⟩, ⟨(Vg (V rfl) hg), rfl⟩, Z⟩)) (fun hg => equal_ct ((l.getD i default).kids) ((m.getD i default).kids)) <| Og (Gn rfl rfl) (fun hg => Qo (Vg (V rfl) hg)) <| O (Qr (V rfl) (fun h => Vg (V rfl) (notT h))) <| Nq <| ?_
    refine Cd (V rfl) (fun hc3 => ?_) (fun hc3 => ?_)
    ·have hc3s := hc3; try simp only [BL] at hc3s
     exact Sq <| Rq <| O (As K) <| Nq <| Rx <| R1 rfl (V rfl) rfl (by show bv (false) = bv (decide (l = m)); rw [decide_eq_false (samePre_ne (i := i) (d := default) (by simpa using (nd_diff _ _).symm.trans hc3))])
    ·have hc3s := hc3; try simp only [BL] at hc3s
     exact Sk <| Rq <| O (Ad (V rfl) K (by omega)) <| O (Mv (V rfl)) <| Nq <| Nx (i + 1) (by show (i + 1) ≤ l.length ∧ samePre default l m (i + 1); exact ⟨by omega, samePre_s hJ1.2 (by simpa using (nd_diff _ _).symm.trans hc3)⟩) (by show l.length - (i + 1) < l.length - i; omega) (We (ow := [(2, Own.box 1 (stG m) 24)]) (Vs rfl) (by exact ⟨⟨_, rfl, rfl, rfl, (An rfl)⟩, Z⟩))
   ·have hc2s := hc2; try simp only [BL] at hc2s
    exact Ex <| Sq <| Rq <| O (As K) <| Nq <| Rx <| R1 rfl (V rfl) rfl (by show bv (true) = bv (decide (l = m)); rw [decide_eq_true (samePre_eq hJ1.2 (by omega))])
theorem clone_ct (l : List Int) (hl : l.length ≤ 17592186043904) : CtM Try.prog 61 [inRow l] [] (SV.own 0) [(0, ownOf inCell 1 0 l 3)] := by
 refine CmO 8 Try.func61 rfl rfl rfl fun E => Rl (V (s := 0) rfl) fun hl0 => Sq <| Rt <| t_nilO 1 1 (rowG inCell 0 []) 3 (.inl rfl) rfl <| Nt <| Sq <| Sq <| Rq <| O (Mv (V rfl)) <| tq_isnil (V rfl) (eqnil Un33) fun isn hisn => Nq <| Cd (V rfl) (fun hc1 => ?_) (fun hc1 => ?_)
 ·have hc1s := hc1; try simp only [BL] at hc1s
  exact Sq <| Rt <| t_nilO 2 1 (rowG inCell 0 []) 3 (.inl rfl) rfl <| Nt <| c_mv 2 0 rfl rfl <| c_ownE 0 l rfl (by exact (List.eq_nil_of_length_eq_zero (hisn hc1)).symm) <| Rx <| M1 rfl (V rfl) (by exact ⟨⟨_, rfl, rfl⟩, Z⟩) (by show SV.own 0 = SV.own 0; rfl)
 ·have hc1s := hc1; try simp only [BL] at hc1s
  exact Sk <| Sq <| Rt <| t_bs0 3 (rowG inCell 0 []) Un33 Sz3 rfl <| U (Mv (V rfl)) <| Ap 4 (rowG inCell 0 (([]) ++ l)) eo33 (V rfl) rfl (V rfl) rfl (len_app ([]) l) (by first | (simp only [maxLen, List.length_append, List.length_set, List.length_nil, List.length_cons]; omega) | (simp only [maxLen]; omega)) (by first | (simp only [List.length_append, List.length_set, List.length_nil, List.length_cons]; omega) | (omega)) (app_typed (l := ([])) (m := l)) <| U (As (V rfl)) <| Nt <| c_mv 4 0 rfl rfl <| c_ownE 0 l rfl (by rfl) <| Rx <| M1 rfl (V rfl) (by exact ⟨⟨_, rfl, rfl⟩, Z⟩) (by show SV.own 0 = SV.own 0; rfl)
theorem cloneN_ct (l : List Nd) (hl : l.length ≤ 24) : CtM Try.prog 147 [ndRow l] [] (SV.own 0) [(0, ownOf ndCell 8 default l 61)] := by
 refine CmO 8 Try.func147 rfl rfl rfl fun E => Rl (V (s := 0) rfl) fun hl0 => Sq <| Rt <| t_nilO 1 8 (rowG ndCell default []) 61 (.inl rfl) rfl <| Nt <| Sq <| Sq <| Rq <| O (Mv (V rfl)) <| tq_isnil (V rfl) (eqnil Un22) fun isn hisn => Nq <| Cd (V rfl) (fun hc1 => ?_) (fun hc1 => ?_)
 ·have hc1s := hc1; try simp only [BL] at hc1s
  exact Sq <| Rt <| t_nilO 2 8 (rowG ndCell default []) 61 (.inl rfl) rfl <| Nt <| c_mv 2 0 rfl rfl <| c_ownE 0 l rfl (by exact (List.eq_nil_of_length_eq_zero (hisn hc1)).symm) <| Rx <| M1 rfl (V rfl) (by exact ⟨⟨_, rfl, rfl⟩, Z⟩) (by show SV.own 0 = SV.own 0; rfl)
 ·have hc1s := hc1; try simp only [BL] at hc1s
  exact Sk <| Sq <| Rt <| t_bs0 3 (rowG ndCell default []) Un22 Sz61 rfl <| U (Mv (V rfl)) <| Ap 4 (rowG ndCell default (([]) ++ l)) eo22 (V rfl) rfl (V rfl) rfl (len_app ([]) l) (by first | (simp only [maxLen, List.length_append, List.length_set, List.length_nil, List.length_cons]; omega) | (simp only [maxLen]; omega)) (by first | (simp only [List.length_append, List.length_set, List.length_nil, List.length_cons]; omega) | (omega)) (app_typed (l := ([])) (m := l)) <| U (As (V rfl)) <| Nt <| c_mv 4 0 rfl rfl <| c_ownE 0 l rfl (by rfl) <| Rx <| M1 rfl (V rfl) (by exact ⟨⟨_, rfl, rfl⟩, Z⟩) (by show SV.own 0 = SV.own 0; rfl)
end Go.Proofs.Ytmcdamcedemdiaa
namespace Go.Proofs.Ytmcdamcedemdiaa
open Go.RowKit Go.Eng
theorem who_all {N : Int} {l : List Int} {j : Nat} (h : ∀ q, q < j → whoBad N (l.getD q 0) = false) (hj : l.length ≤ j) : ∀ k ∈ l, whoBad N k = false := fun k hk => by
  obtain ⟨i, hi, rfl⟩ := getD_of_mem 0 hk
  exact h i (by omega)
def cntA (n : Nat) (ks : List Int) : List Int := (List.range n).map fun k : Nat => ((ks.count (k : Int) : Nat) : Int)
theorem cntA_len (n : Nat) (ks : List Int) : (cntA n ks).length = n := by simp [cntA]
theorem cntA_at {n : Nat} {ks : List Int} {k : Nat} (h : k < n) : (cntA n ks).getD k 0 = ((ks.count (k : Int) : Nat) : Int) := by
  rw [getD_lt (by rw [cntA_len]; exact h)]; simp [cntA]
theorem cntA_nil (n : Nat) : cntA n [] = List.replicate n 0 := by
  refine List.ext_getElem (by simp [cntA]) fun i h1 h2 => by simp [cntA]
theorem cntA_add {n : Nat} {ks : List Int} {c : Int} (h : 0 ≤ c ∧ c < (n : Int)) : (cntA n ks).set c.toNat ((cntA n ks).getD c.toNat 0 + 1) = cntA n (ks ++ [c]) := by
  rw [cntA_at (by omega)]
  refine List.ext_getElem (by simp [cntA]) fun i h1 h2 => ?_
  rw [List.getElem_set]
  simp only [cntA, List.getElem_map, List.getElem_range, List.count_append, List.count_singleton]
  by_cases e : c.toNat = i
  · rw [if_pos e]
    have : c = (i : Int) := by omega
    subst this; simp
  · rw [if_neg e]
    have : ¬ c = (i : Int) := by omega
    simp [this]
theorem cntA_neg {n : Nat} {ks : List Int} {c : Int} (h : c < 0) : cntA n (ks ++ [c]) = cntA n ks := by
  refine List.ext_getElem (by simp [cntA]) fun i h1 h2 => ?_
  simp only [cntA, List.getElem_map, List.getElem_range, List.count_append, List.count_singleton]
  have : ¬ c = (i : Int) := by omega
  simp [this]
theorem cntA_in (n : Nat) (ks : List Int) (k : Nat) : 0 ≤ (cntA n ks).getD k 0 ∧ (cntA n ks).getD k 0 ≤ (ks.length : Int) := by
  by_cases h : k < n
  · rw [cntA_at h]
    have := List.count_le_length (a := (k : Int)) (l := ks)
    omega
  · rw [List.getD_eq_getElem?_getD, List.getElem?_eq_none (by rw [cntA_len]; omega)]
    simp
theorem flat_len {M : Nat} : ∀ {l : List Nd}, (∀ n ∈ l, n.kids.length ≤ M) → (l.flatMap Nd.kids).length ≤ l.length * M
  | [], _ => by simp
  | x :: r, h => by
    have h1 := h x (.head _)
    have h2 := flat_len (l := r) fun n hn => h n (.tail _ hn)
    simp only [List.flatMap_cons, List.length_append, List.length_cons, Nat.succ_mul]
    omega
theorem flat_take_s {l : List Nd} {i : Nat} (h : i < l.length) : (l.take (i + 1)).flatMap Nd.kids = (l.take i).flatMap Nd.kids ++ (l.getD i default).kids := by
  rw [take_s default h, List.flatMap_append]; simp
theorem map_take_s {α β : Type} {f : α → β} {l : List α} (d : α) {i : Nat} (h : i < l.length) : (l.take (i + 1)).map f = (l.take i).map f ++ [f (l.getD i d)] := by
  rw [take_s d h, List.map_append]; rfl
theorem nodesErr_at {l : List Nd} (h : nodesErr l = 0) {i : Nat} (hi : i < l.length) : Node1 (l.length : Int) (l.getD i default) := node1_of (firstErr_all _ 0 h i (Nat.zero_le _) (by omega))
theorem up1_neg {l : List Nd} {k : Int} (h : k < 0) : up1 l k = k := if_pos h
theorem upN_neg {l : List Nd} {i : Int} {a : Nat} (h : upN l a i < 0) : ∀ m, upN l (a + m) i < 0
  | 0 => h
  | m + 1 => by
    have := upN_neg h m
    show up1 l (upN l (a + m) i) < 0
    rw [up1_neg this]; exact this
theorem upN_le {l : List Nd} {i : Int} {a b : Nat} (hab : a ≤ b) (h : 0 ≤ upN l b i) : 0 ≤ upN l a i := by
  obtain ⟨m, rfl⟩ := Nat.exists_eq_add_of_le hab
  exact Classical.byContradiction fun q => by have := upN_neg (Int.not_le.1 q) m; omega
theorem upN_add {l : List Nd} (a : Nat) (i : Int) : ∀ m, upN l (a + m) i = upN l m (upN l a i)
  | 0 => rfl
  | m + 1 => by
    show up1 l (upN l (a + m) i) = up1 l (upN l m (upN l a i))
    rw [upN_add a i m]
theorem upN_per {l : List Nd} {x : Int} {p : Nat} (h : upN l p x = x) : ∀ m, upN l (p * m) x = x
  | 0 => rfl
  | m + 1 => by rw [Nat.mul_succ, upN_add, upN_per h m, h]
theorem up_cycle {l : List Nd} {i : Int} {a b : Nat} (hab : a < b) (h : upN l a i = upN l b i) (h0 : 0 ≤ upN l a i) (m : Nat) : 0 ≤ upN l m i := by
  refine Classical.byContradiction fun q => ?_
  have hq := Int.not_le.1 q
  obtain ⟨p, rfl⟩ := Nat.exists_eq_add_of_le (Nat.le_of_lt hab)
  rw [upN_add] at h
  have hp := upN_per h.symm m
  rw [← upN_add] at hp
  have hpm : m ≤ a + p * m := by
    have : 1 * m ≤ p * m := Nat.mul_le_mul_right _ (by omega)
    omega
  obtain ⟨r, hr⟩ := Nat.exists_eq_add_of_le hpm
  have := upN_neg hq r
  rw [← hr, hp] at this
  omega
theorem nodup_bound : ∀ (n : Nat) (l : List Int), l.Nodup → (∀ k ∈ l, 0 ≤ k ∧ k < (n : Int)) → l.length ≤ n
  | 0, l, _, h => by
    cases l with
    | nil => exact Nat.le_refl _
    | cons x r => have := h x (.head _); omega
  | n + 1, l, hd, h => by
    have h1 := nodup_bound n (l.erase (n : Int)) (hd.erase _) fun k hk => by
      have := (List.Nodup.mem_erase_iff hd).1 hk
      have h2 := h k this.2
      have h3 := this.1
      omega
    have h2 := List.length_erase (a := (n : Int)) (l := l)
    split at h2 <;> omega
theorem above_in {l : List Nd} (h : nodesErr l = 0) {k : Int} (hk : 0 ≤ k ∧ k < (l.length : Int)) : -1 ≤ above (l.getD k.toNat default) ∧ above (l.getD k.toNat default) < (l.length : Int) := by
  have := nodesErr_at h (i := k.toNat) (by omega)
  have h1 := this.par
  have h2 := this.host
  unfold above
  split <;> omega
theorem upN_in {l : List Nd} (h : nodesErr l = 0) {i : Int} (hi : -1 ≤ i ∧ i < (l.length : Int)) : ∀ m, -1 ≤ upN l m i ∧ upN l m i < (l.length : Int)
  | 0 => hi
  | m + 1 => by
    have hm := upN_in h hi m
    show -1 ≤ up1 l (upN l m i) ∧ up1 l (upN l m i) < (l.length : Int)
    unfold up1
    split
    · exact hm
    · exact above_in h ⟨by omega, hm.2⟩
theorem up_pig {l : List Nd} (h : nodesErr l = 0) {i : Int} (hi : -1 ≤ i ∧ i < (l.length : Int)) (h0 : 0 ≤ upN l l.length i) (m : Nat) : 0 ≤ upN l m i := by
  refine Classical.byContradiction fun q => ?_
  have hnd : ((List.range (l.length + 1)).map fun j => upN l j i).Nodup := by
    rw [List.nodup_iff_pairwise_ne, List.pairwise_map]
    refine List.Pairwise.imp_of_mem ?_ (List.pairwise_lt_range)
    intro a b ha hb hab e
    exact q (up_cycle hab e (upN_le (by have := List.mem_range.1 ha; omega) h0) m)
  have := nodup_bound l.length _ hnd fun k hk => by
    obtain ⟨j, hj, rfl⟩ := List.mem_map.1 hk
    exact ⟨upN_le (by have := List.mem_range.1 hj; omega) h0, (upN_in h hi j).2⟩
  simp at this
  omega
theorem checkSt_1 {l : List Nd} (h : 24 < (l.length : Int)) : checkSt l = 1 := if_pos (by omega)
theorem checkSt_n {l : List Nd} (h : l.length ≤ 24) {e : Int} (hn : nodesErr l = e) (h0 : e ≠ 0) : checkSt l = e := by
  unfold checkSt; rw [if_neg (by omega), hn, if_pos h0]
theorem checkSt_l {l : List Nd} (h : l.length ≤ 24) (hn : nodesErr l = 0) : checkSt l = if linksB l = true then 0 else 6 := by
  unfold checkSt; rw [if_neg (by omega), hn, if_neg (by simp)]
theorem kidOk_no {l : List Nd} {i : Nat} {c : Int} (h : ((decide (c < 0) || !(l.getD c.toNat default).used) || !decide ((l.getD c.toNat default).par = (i : Int))) = true) : kidOk l i c = false := by
  have h0 : decide (c < 0) = !decide (0 ≤ c) := by rw [Bool.eq_iff_iff]; simp
  rw [h0] at h
  simp only [kidOk]
  cases hx : decide (0 ≤ c) <;> cases hy : (l.getD c.toNat default).used <;> cases hz : decide ((l.getD c.toNat default).par = (i : Int)) <;> simp_all
theorem kidOk_yes {l : List Nd} {i : Nat} {c : Int} (h : ((decide (c < 0) || !(l.getD c.toNat default).used) || !decide ((l.getD c.toNat default).par = (i : Int))) = false) : kidOk l i c = true := by
  have h0 : decide (c < 0) = !decide (0 ≤ c) := by rw [Bool.eq_iff_iff]; simp
  rw [h0] at h
  simp only [kidOk]
  cases hx : decide (0 ≤ c) <;> cases hy : (l.getD c.toNat default).used <;> cases hz : decide ((l.getD c.toNat default).par = (i : Int)) <;> simp_all
theorem kidsOk {l : List Nd} {i : Nat} {ks : List Int} {j : Nat} (h : ∀ q, q < j → kidOk l i (ks.getD q 0) = true) (hj : ks.length ≤ j) : ks.all (kidOk l i) = true := by
  rw [List.all_eq_true]
  intro k hk
  obtain ⟨q, hq, rfl⟩ := getD_of_mem 0 hk
  exact h q (by omega)
theorem all_s {p : Nat → Prop} {i : Nat} (h : ∀ q, q < i → p q) (e : p i) : ∀ q, q < i + 1 → p q := fun q hq => by
  by_cases e' : q < i
  · exact h q e'
  · have : q = i := by omega
    subst this; exact e
theorem link1_of {l : List Nd} {i : Nat} (h : (l.getD i default).kids.all (kidOk l i) = true) (h2 : (l.getD i default).host < 0 ∨ (l.getD (l.getD i default).host.toNat default).used = true) : link1 l i = true := by
  simp only [link1, h, Bool.true_and, Bool.or_eq_true, decide_eq_true_eq]; exact h2
theorem links_1 {l : List Nd} {i : Nat} (hi : i < l.length) (h : link1 l i = false) : (6 : Int) = if linksB l = true then 0 else 6 := by
  rw [if_neg]; rw [linksB_iff]; intro hh; rw [(hh i hi).1] at h; cases h
theorem links_2 {l : List Nd} {i : Nat} (hi : i < l.length) (h : link2 l i = false) : (6 : Int) = if linksB l = true then 0 else 6 := by
  rw [if_neg]; rw [linksB_iff]; intro hh; rw [(hh i hi).2] at h; cases h
theorem links_0 {l : List Nd} (h1 : ∀ q, q < l.length → link1 l q = true) (h2 : ∀ q, q < l.length → link2 l q = true) : (0 : Int) = if linksB l = true then 0 else 6 := by
  rw [if_pos]; rw [linksB_iff]; exact fun i hi => ⟨h1 i hi, h2 i hi⟩
theorem link1_kid {l : List Nd} {i : Nat} {c : Int} (hc : c ∈ (l.getD i default).kids) (h : kidOk l i c = false) : link1 l i = false := by
  have : (l.getD i default).kids.all (kidOk l i) = false := by
    rw [List.all_eq_false]; exact ⟨c, hc, by rw [h]; simp⟩
  simp only [link1, this, Bool.false_and]
theorem link1_host {l : List Nd} {i : Nat} (h : 0 ≤ (l.getD i default).host) (h2 : (l.getD (l.getD i default).host.toNat default).used = false) : link1 l i = false := by
  simp only [link1, h2, Bool.or_false, decide_eq_false (show ¬ (l.getD i default).host < 0 by omega), Bool.and_false]
theorem link2_eq {l : List Nd} {i : Nat} (hi : i < l.length) : link2 l i =
    (!((decide (1 < (cntA l.length (l.flatMap Nd.kids)).getD i 0) || (decide ((cntA l.length (l.flatMap Nd.kids)).getD i 0 = 1) != decide (0 ≤ (l.getD i default).par))) || decide (1 < (cntA l.length (l.map Nd.host)).getD i 0)) && decide (upN l l.length i < 0)) := by
  rw [cntA_at hi, cntA_at hi]
  unfold link2 kcnt rcnt
  generalize List.count (i : Int) (l.flatMap Nd.kids) = A
  generalize List.count (i : Int) (l.map Nd.host) = B
  generalize decide (upN l l.length (i : Int) < 0) = u
  generalize decide (0 ≤ (l.getD i default).par) = p
  have e2 : decide (B ≤ 1) = !decide ((1 : Int) < (B : Int)) := by
    rw [← decide_not, Bool.eq_iff_iff, decide_eq_true_iff, decide_eq_true_iff]; omega
  rw [e2]
  by_cases h1 : A ≤ 1
  · have e : decide (0 < A) = decide ((A : Int) = 1) := by
      rw [Bool.eq_iff_iff, decide_eq_true_iff, decide_eq_true_iff]; omega
    rw [decide_eq_true h1, decide_eq_false (show ¬ (1 : Int) < (A : Int) by omega), e]
    cases decide ((A : Int) = 1) <;> cases p <;> cases decide ((1 : Int) < (B : Int)) <;> cases u <;> rfl
  · rw [decide_eq_false h1, decide_eq_true (show (1 : Int) < (A : Int) by omega)]
    rfl
theorem link2_bad {l : List Nd} {i : Nat} (hi : i < l.length) (h : ((decide (1 < (cntA l.length (l.flatMap Nd.kids)).getD i 0) || (decide ((cntA l.length (l.flatMap Nd.kids)).getD i 0 = 1) != decide (0 ≤ (l.getD i default).par))) || decide (1 < (cntA l.length (l.map Nd.host)).getD i 0)) = true) : link2 l i = false := by
  rw [link2_eq hi, h]; rfl
theorem link2_up {l : List Nd} {i : Nat} {k : Nat} (hi : i < l.length) (hk : l.length ≤ k) (h : 0 ≤ upN l k i) : link2 l i = false := by
  rw [link2_eq hi, decide_eq_false (show ¬ upN l l.length i < 0 by have := upN_le hk h; omega), Bool.and_false]
theorem link2_ok {l : List Nd} {i : Nat} {k : Nat} (hN : nodesErr l = 0) (hi : i < l.length) (h : ((decide (1 < (cntA l.length (l.flatMap Nd.kids)).getD i 0) || (decide ((cntA l.length (l.flatMap Nd.kids)).getD i 0 = 1) != decide (0 ≤ (l.getD i default).par))) || decide (1 < (cntA l.length (l.map Nd.host)).getD i 0)) = false) (h2 : upN l k i < 0) : link2 l i = true := by
  rw [link2_eq hi, h, decide_eq_true]; · rfl
  refine Int.not_le.1 fun q => ?_
  have := up_pig hN (i := (i : Int)) (by omega) q k
  omega
theorem upN_s {l : List Nd} {k : Nat} {i a : Int} (h : a = upN l k i) (h0 : 0 ≤ a) : above (l.getD a.toNat default) = upN l (k + 1) i := by
  show _ = up1 l (upN l k i)
  rw [← h, up1, if_neg (by omega)]
end Go.Proofs.Ytmcdamcedemdiaa
namespace Go.Proofs.Ytmcdamcedemdiaa
open Go.RowKit Go.Eng
theorem check_ct (n : Nd) (N : Int) (hk : n.kids.length ≤ 17592186043904) : Ct Try.prog 118 [SV.agg 8 (ndCell n), iv (N)] (iv (nodeErr N n)) := by
 refine CtO 116 Try.func118 rfl rfl rfl fun E => row_lenA 5 (V (s := 0) rfl) rfl rfl fun hl0_5 => Sq <| Rt <| BxA 1 (V rfl) rfl rfl <| U (As K) <| Nt <| Sq <| Sq <| Rq <| O (FlB _ _ (V rfl) Un61 rfl 0 Sz3) <| O (LdB (V rfl) rfl Ga3 (by decide)) <| O (Lt (V rfl) K) <| O (Mv (V rfl)) <| Og (Gn rfl rfl) (fun hg => FlB _ _ (V rfl) Un61 rfl 0 Sz3) <| Og (Gn rfl rfl) (fun hg => LdB (Vg (V rfl) hg) rfl Ga3 (by decide)) <| Og (Gn rfl rfl) (fun hg => Gt (Vg (V rfl) hg) K) <| O (Qr (V rfl) (fun h => Vg (V rfl) (notT h))) <| O (Mv (V rfl)) <| Og (Gn rfl rfl) (fun hg => FlB _ _ (V rfl) Un61 rfl 0 Sz3) <| Og (Gn rfl rfl) (fun hg => LdB (Vg (V rfl) hg) rfl Ga3 (by decide)) <| Og (Gn rfl rfl) (fun hg => Lt (Vg (V rfl) hg) K) <| O (Qr (V rfl) (fun h => Vg (V rfl) (notT h))) <| O (Mv (V rfl)) <| Og (Gn rfl rfl) (fun hg => FlB _ _ (V rfl) Un61 rfl 0 Sz3) <| Og (Gn rfl rfl) (fun hg => LdB (Vg (V rfl) hg) rfl Ga3 (by decide)) <| Og (Gn rfl rfl) (fun hg => Gt (Vg (V rfl) hg) K) <| O (Qr (V rfl) (fun h => Vg (V rfl) (notT h))) <| O (Mv (V rfl)) <| Og (Gn rfl rfl) (fun hg => FlB _ _ (V rfl) Un61 rfl 0 Sz3) <| Og (Gn rfl rfl) (fun hg => LdB (Vg (V rfl) hg) rfl Ga3 (by decide)) <| Og (Gn rfl rfl) (fun hg => Lt (Vg (V rfl) hg) K) <| O (Qr (V rfl) (fun h => Vg (V rfl) (notT h))) <| O (Mv (V rfl)) <| Og (Gn rfl rfl) (fun hg => FlB _ _ (V rfl) Un61 rfl 0 Sz3) <| Og (Gn rfl rfl) (fun hg => LdB (Vg (V rfl) hg) rfl Ga3 (by decide)) <| Og (Gn rfl rfl) (fun hg => Gt (Vg (V rfl) hg) K) <| O (Qr (V rfl) (fun h => Vg (V rfl) (notT h))) <| Nq <| Cd (V rfl) (fun hc1 => ?_) (fun hc1 => ?_)
 ·have hc1s := hc1; try simp only [BL] at hc1s
  exact Sq <| Rq <| O (As K) <| Nq <| Rx <| R1 rfl (V rfl) rfl (by show iv (2) = iv (nodeErr N n); rw [nodeErr_2 hc1])
 ·have hc1s := hc1; try simp only [BL] at hc1s
  refine Sk <| Sq <| Sq <| c_rd (fun e => ⟨[(35, cj (e 0) (SV.bp 1 5)), (36, cj (e 1) (inRow n.kids)), (37, cj (e 2) (cjn (e 8) (SV.own 2))), (38, cj (e 3) (SV.bp 1 4)), (39, cj (e 4) (iv (n.par))), (40, cj (e 5) (SV.bp 1 6)), (41, cj (e 6) (iv (n.host))), (42, cj (e 7) (inRow ([n.par, n.host]))), (43, cj (e 8) (SV.own 3)), (44, cj (e 9) (iv (((n.kids ++ ([n.par, n.host])).length : Int)))), (45, cj (e 10) (iv (0))), (1, iv (N)), (2, SV.bp 1 0)], (cb (e 2) (cb (e 8) [(1, Own.box 8 (ndCell n) 61), (3, ownOf inCell 1 0 (n.kids ++ ([n.par, n.host])) 3)] [(1, Own.box 8 (ndCell n) 61), (2, ownOf inCell 1 0 n.kids 3)]) (cb (e 8) [] [(1, Own.box 8 (ndCell n) 61)]))⟩) ⟨[(35, SV.bp 1 5), (36, inRow n.kids), (38, SV.bp 1 4), (39, iv (n.par)), (40, SV.bp 1 6), (41, iv (n.host)), (42, inRow ([n.par, n.host])), (43, SV.own 3), (44, iv (((n.kids ++ ([n.par, n.host])).length : Int))), (45, iv (0)), (1, iv (N)), (2, SV.bp 1 0)], [(1, Own.box 8 (ndCell n) 61), (3, ownOf inCell 1 0 (n.kids ++ ([n.par, n.host])) 3)]⟩ (by kernel_rfl) (by kernel_rfl) ?_ ⟨?_, ?_, ?_, ?_, ?_, ?_, ?_, ?_, ?_, ?_, ?_, Z⟩ ?_ ?_
  ·show Weak _ _ ⟨[(35, SV.junk), (36, SV.junk), (37, SV.junk), (38, SV.junk), (39, SV.junk), (40, SV.junk), (41, SV.junk), (42, SV.junk), (43, SV.junk), (44, SV.junk), (45, SV.junk), (1, iv (N)), (2, SV.bp 1 0)], [(1, Own.box 8 (ndCell n) 61)]⟩
   refine We ?_ ?_
   ·exact ⟨Vj, Vj, Vj, Vj, Vj, Vj, Vj, Vj, Vj, Vj, Vj, V rfl, V rfl, Z⟩
   ·exact ⟨⟨_, rfl, ⟨rfl, rfl, (An rfl)⟩⟩, Z⟩
  ·intro e hdn he hdp
   have h2 : e 2 = false := fls he fun q => by obtain ⟨r1, -⟩ := (show e 1 = true ∧ True from hdn 2 q); obtain ⟨r0, -⟩ := (show e 0 = true ∧ True from hdn 1 r1); exact r0
   have h8 : e 8 = false := fls he fun q => by obtain ⟨r2, -, -, -⟩ := (show e 2 = true ∧ e 7 = true ∧ e 2 = true ∧ True from hdn 8 q); obtain ⟨r1, -⟩ := (show e 1 = true ∧ True from hdn 2 r2); obtain ⟨r0, -⟩ := (show e 0 = true ∧ True from hdn 1 r1); exact r0
   simp only [setE, he, h2, h8, cj_t, cj_f, cjn_t, cjn_f, cb_t, cb_f]
   refine U (FlB _ _ (V rfl) Un61 rfl 0 Sz33) <| Nt <| We ?_ ?_
   ·exact ⟨V rfl, V rfl, Vj, V rfl, V rfl, V rfl, V rfl, V rfl, Vj, V rfl, V rfl, V rfl, V rfl, Z⟩
   ·exact ⟨⟨_, rfl, ⟨rfl, rfl, (An rfl)⟩⟩, Z⟩
  ·intro e hdn he hdp
   obtain ⟨h0, -⟩ := (show e 0 = true ∧ True from hdp)
   have h2 : e 2 = false := fls he fun q => by obtain ⟨r1, -⟩ := (show e 1 = true ∧ True from hdn 2 q); exact r1
   have h8 : e 8 = false := fls he fun q => by obtain ⟨r2, -, -, -⟩ := (show e 2 = true ∧ e 7 = true ∧ e 2 = true ∧ True from hdn 8 q); obtain ⟨r1, -⟩ := (show e 1 = true ∧ True from hdn 2 r2); exact r1
   simp only [setE, h0, he, h2, h8, cj_t, cj_f, cjn_t, cjn_f, cb_t, cb_f]
   refine U (LdB (V rfl) rfl Ga33 (by decide)) <| Nt <| We ?_ ?_
   ·exact ⟨V rfl, V rfl, Vj, V rfl, V rfl, V rfl, V rfl, V rfl, Vj, V rfl, V rfl, V rfl, V rfl, Z⟩
   ·exact ⟨⟨_, rfl, ⟨rfl, rfl, (An rfl)⟩⟩, Z⟩
  ·intro e hdn he hdp
   obtain ⟨h1, -⟩ := (show e 1 = true ∧ True from hdp)
   obtain ⟨h0, -⟩ := (show e 0 = true ∧ True from hdn 1 h1)
   have h8 : e 8 = false := fls he fun q => by obtain ⟨r2, -, -, -⟩ := (show e 2 = true ∧ e 7 = true ∧ e 2 = true ∧ True from hdn 8 q); exact r2
   simp only [setE, h0, h1, he, h8, cj_t, cj_f, cjn_t, cjn_f, cb_t, cb_f]
   refine CM (cargs := [inRow n.kids]) [] [(0, 2)] en61 (by exact ⟨(V rfl), Z⟩) (clone_ct n.kids (by first | omega | assumption)) (by exact Z) rfl (freshN_cons (fresh_mk ⟨rfl, rfl, rfl, (noId_cj rfl), (noId_cj rfl), (noId_cj rfl), (noId_cj rfl), (noId_cj rfl), rfl, (noId_cj rfl), (noId_cj rfl), rfl, rfl, Z⟩ rfl rfl) rfl rfl) rfl rfl <| Nt <| We ?_ ?_
   ·exact ⟨V rfl, V rfl, V rfl, V rfl, V rfl, V rfl, V rfl, V rfl, Vj, V rfl, V rfl, V rfl, V rfl, Z⟩
   ·exact ⟨⟨_, rfl, ⟨rfl, rfl, (An rfl)⟩⟩, ⟨_, rfl, rfl⟩, Z⟩
  ·intro e hdn he hdp
   have h8 : e 8 = false := fls he fun q => by obtain ⟨-, r7, -, -⟩ := (show e 2 = true ∧ e 7 = true ∧ e 2 = true ∧ True from hdn 8 q); obtain ⟨r4, -, -⟩ := (show e 4 = true ∧ e 6 = true ∧ True from hdn 7 r7); obtain ⟨r3, -⟩ := (show e 3 = true ∧ True from hdn 4 r4); exact r3
   simp only [setE, he, h8, cj_t, cj_f, cjn_t, cjn_f, cb_t, cb_f]
   exact U (FlB _ _ (V rfl) Un61 rfl 0 Sz3) <| Nt <| weakS ⟨V rfl, V rfl, V rfl, V rfl, V rfl, V rfl, V rfl, V rfl, Vj, V rfl, V rfl, V rfl, V rfl, Z⟩
  ·intro e hdn he hdp
   obtain ⟨h3, -⟩ := (show e 3 = true ∧ True from hdp)
   have h8 : e 8 = false := fls he fun q => by obtain ⟨-, r7, -, -⟩ := (show e 2 = true ∧ e 7 = true ∧ e 2 = true ∧ True from hdn 8 q); obtain ⟨r4, -, -⟩ := (show e 4 = true ∧ e 6 = true ∧ True from hdn 7 r7); exact r4
   cases hu2 : e 2
   ·simp only [setE, h3, he, h8, hu2, cj_t, cj_f, cjn_t, cjn_f, cb_t, cb_f]
    refine U (LdB (V rfl) rfl Ga3 (by decide)) <| Nt <| We ?_ ?_
    ·exact ⟨V rfl, V rfl, Vj, V rfl, V rfl, V rfl, V rfl, V rfl, Vj, V rfl, V rfl, V rfl, V rfl, Z⟩
    ·exact ⟨⟨_, rfl, ⟨rfl, rfl, (An rfl)⟩⟩, Z⟩
   ·simp only [setE, h3, he, h8, hu2, cj_t, cj_f, cjn_t, cjn_f, cb_t, cb_f]
    refine U (LdB (V rfl) rfl Ga3 (by decide)) <| Nt <| We ?_ ?_
    ·exact ⟨V rfl, V rfl, V rfl, V rfl, V rfl, V rfl, V rfl, V rfl, Vj, V rfl, V rfl, V rfl, V rfl, Z⟩
    ·exact ⟨⟨_, rfl, ⟨rfl, rfl, (An rfl)⟩⟩, ⟨_, rfl, rfl⟩, Z⟩
  ·intro e hdn he hdp
   have h8 : e 8 = false := fls he fun q => by obtain ⟨-, r7, -, -⟩ := (show e 2 = true ∧ e 7 = true ∧ e 2 = true ∧ True from hdn 8 q); obtain ⟨-, r6, -⟩ := (show e 4 = true ∧ e 6 = true ∧ True from hdn 7 r7); obtain ⟨r5, -⟩ := (show e 5 = true ∧ True from hdn 6 r6); exact r5
   simp only [setE, he, h8, cj_t, cj_f, cjn_t, cjn_f, cb_t, cb_f]
   exact U (FlB _ _ (V rfl) Un61 rfl 0 Sz3) <| Nt <| weakS ⟨V rfl, V rfl, V rfl, V rfl, V rfl, V rfl, V rfl, V rfl, Vj, V rfl, V rfl, V rfl, V rfl, Z⟩
  ·intro e hdn he hdp
   obtain ⟨h5, -⟩ := (show e 5 = true ∧ True from hdp)
   have h8 : e 8 = false := fls he fun q => by obtain ⟨-, r7, -, -⟩ := (show e 2 = true ∧ e 7 = true ∧ e 2 = true ∧ True from hdn 8 q); obtain ⟨-, r6, -⟩ := (show e 4 = true ∧ e 6 = true ∧ True from hdn 7 r7); exact r6
   cases hu2 : e 2
   ·simp only [setE, h5, he, h8, hu2, cj_t, cj_f, cjn_t, cjn_f, cb_t, cb_f]
    refine U (LdB (V rfl) rfl Ga3 (by decide)) <| Nt <| We ?_ ?_
    ·exact ⟨V rfl, V rfl, Vj, V rfl, V rfl, V rfl, V rfl, V rfl, Vj, V rfl, V rfl, V rfl, V rfl, Z⟩
    ·exact ⟨⟨_, rfl, ⟨rfl, rfl, (An rfl)⟩⟩, Z⟩
   ·simp only [setE, h5, he, h8, hu2, cj_t, cj_f, cjn_t, cjn_f, cb_t, cb_f]
    refine U (LdB (V rfl) rfl Ga3 (by decide)) <| Nt <| We ?_ ?_
    ·exact ⟨V rfl, V rfl, V rfl, V rfl, V rfl, V rfl, V rfl, V rfl, Vj, V rfl, V rfl, V rfl, V rfl, Z⟩
    ·exact ⟨⟨_, rfl, ⟨rfl, rfl, (An rfl)⟩⟩, ⟨_, rfl, rfl⟩, Z⟩
  ·intro e hdn he hdp
   obtain ⟨h4, h6, -⟩ := (show e 4 = true ∧ e 6 = true ∧ True from hdp)
   obtain ⟨h5, -⟩ := (show e 5 = true ∧ True from hdn 6 h6)
   obtain ⟨h3, -⟩ := (show e 3 = true ∧ True from hdn 4 h4)
   have h8 : e 8 = false := fls he fun q => by obtain ⟨-, r7, -, -⟩ := (show e 2 = true ∧ e 7 = true ∧ e 2 = true ∧ True from hdn 8 q); exact r7
   simp only [setE, h3, h4, h5, h6, he, h8, cj_t, cj_f, cjn_t, cjn_f, cb_t, cb_f]
   exact Uw (w_bs (n := 2) (zget := fun _ => iv 0) [(fun _ => iv (n.par)), (fun _ => iv (n.host))] (rowG inCell 0 [n.par, n.host]) Un33 Sz3 zero3 (by decide) rfl (by decide) ⟨⟨rfl, .inr ⟨rfl, (V rfl), rfl⟩, rfl⟩, ⟨rfl, .inr ⟨rfl, (V rfl), rfl⟩, rfl⟩, Z⟩ ⟨⟨Z, ⟨Z, rfl⟩⟩, ⟨Z, rfl⟩⟩) <| Nt <| weakS ⟨V rfl, V rfl, V rfl, V rfl, V rfl, V rfl, V rfl, V rfl, Vj, V rfl, V rfl, V rfl, V rfl, Z⟩
  ·intro e hdn he hdp
   obtain ⟨h2, h7, -, -⟩ := (show e 2 = true ∧ e 7 = true ∧ e 2 = true ∧ True from hdp)
   obtain ⟨h4, h6, -⟩ := (show e 4 = true ∧ e 6 = true ∧ True from hdn 7 h7)
   obtain ⟨h5, -⟩ := (show e 5 = true ∧ True from hdn 6 h6)
   obtain ⟨h3, -⟩ := (show e 3 = true ∧ True from hdn 4 h4)
   obtain ⟨h1, -⟩ := (show e 1 = true ∧ True from hdn 2 h2)
   obtain ⟨h0, -⟩ := (show e 0 = true ∧ True from hdn 1 h1)
   simp only [setE, h0, h1, h2, h3, h4, h5, h6, h7, he, cj_t, cj_f, cjn_t, cjn_f, cb_t, cb_f]
   refine Ap 3 (rowG inCell 0 (n.kids ++ ([n.par, n.host]))) eo33 (V rfl) rfl (V rfl) (fresh_mk ⟨rfl, rfl, rfl, rfl, rfl, rfl, rfl, rfl, rfl, (noId_cj rfl), (noId_cj rfl), rfl, rfl, Z⟩ rfl rfl) (len_app n.kids ([n.par, n.host])) (by first | (simp only [maxLen, List.length_append, List.length_set, List.length_nil, List.length_cons]; (have := hk; omega)) | (simp only [maxLen]; (have := hk; omega))) (by first | (simp only [List.length_append, List.length_set, List.length_nil, List.length_cons]; (have := hk; omega)) | ((have := hk; omega))) (app_typed (l := n.kids) (m := ([n.par, n.host]))) <| Nt <| We ?_ ?_
   ·exact ⟨V rfl, V rfl, Vj, V rfl, V rfl, V rfl, V rfl, V rfl, V rfl, val_kc rfl (V rfl), val_kc rfl (V rfl), V rfl, V rfl, Z⟩
   ·exact ⟨⟨_, rfl, ⟨rfl, rfl, (An rfl)⟩⟩, ⟨_, rfl, rfl⟩, Z⟩
  ·intro e hdn he hdp
   obtain ⟨h8, -⟩ := (show e 8 = true ∧ True from hdp)
   obtain ⟨h2, h7, -, -⟩ := (show e 2 = true ∧ e 7 = true ∧ e 2 = true ∧ True from hdn 8 h8)
   obtain ⟨h4, h6, -⟩ := (show e 4 = true ∧ e 6 = true ∧ True from hdn 7 h7)
   obtain ⟨h5, -⟩ := (show e 5 = true ∧ True from hdn 6 h6)
   obtain ⟨h3, -⟩ := (show e 3 = true ∧ True from hdn 4 h4)
   obtain ⟨h1, -⟩ := (show e 1 = true ∧ True from hdn 2 h2)
   obtain ⟨h0, -⟩ := (show e 0 = true ∧ True from hdn 1 h1)
   simp only [setE, h0, h1, h2, h3, h4, h5, h6, h7, h8, he, cj_t, cj_f, cjn_t, cjn_f, cb_t, cb_f]
   refine U (LnO (V rfl) rfl ts33) <| Nt <| We ?_ ?_
   ·exact ⟨V rfl, V rfl, Vj, V rfl, V rfl, V rfl, V rfl, V rfl, V rfl, V rfl, V rfl, V rfl, V rfl, Z⟩
   ·exact ⟨⟨_, rfl, ⟨rfl, rfl, (An rfl)⟩⟩, ⟨_, rfl, rfl⟩, Z⟩
  ·intro e hdn he hdp
   simp only [setE, he, cj_t, cj_f, cjn_t, cjn_f, cb_t, cb_f]
   exact U (Mv K) <| Nt <| weakS ⟨V rfl, V rfl, V rfl, V rfl, V rfl, V rfl, V rfl, V rfl, V rfl, V rfl, V rfl, V rfl, V rfl, Z⟩
  ·intro e he
   have h0 := he 0 (by decide)
   have h1 := he 1 (by decide)
   have h2 := he 2 (by decide)
   have h3 := he 3 (by decide)
   have h4 := he 4 (by decide)
   have h5 := he 5 (by decide)
   have h6 := he 6 (by decide)
   have h7 := he 7 (by decide)
   have h8 := he 8 (by decide)
   have h9 := he 9 (by decide)
   have h10 := he 10 (by decide)
   show Weak _ ⟨[(35, cj (e 0) (SV.bp 1 5)), (36, cj (e 1) (inRow n.kids)), (37, cj (e 2) (cjn (e 8) (SV.own 2))), (38, cj (e 3) (SV.bp 1 4)), (39, cj (e 4) (iv (n.par))), (40, cj (e 5) (SV.bp 1 6)), (41, cj (e 6) (iv (n.host))), (42, cj (e 7) (inRow ([n.par, n.host]))), (43, cj (e 8) (SV.own 3)), (44, cj (e 9) (iv (((n.kids ++ ([n.par, n.host])).length : Int)))), (45, cj (e 10) (iv (0))), (1, iv (N)), (2, SV.bp 1 0)], (cb (e 2) (cb (e 8) [(1, Own.box 8 (ndCell n) 61), (3, ownOf inCell 1 0 (n.kids ++ ([n.par, n.host])) 3)] [(1, Own.box 8 (ndCell n) 61), (2, ownOf inCell 1 0 n.kids 3)]) (cb (e 8) [] [(1, Own.box 8 (ndCell n) 61)]))⟩ _
   simp only [h0, h1, h2, h3, h4, h5, h6, h7, h8, h9, h10]
   show Weak _ ⟨[(35, SV.bp 1 5), (36, inRow n.kids), (37, SV.junk), (38, SV.bp 1 4), (39, iv (n.par)), (40, SV.bp 1 6), (41, iv (n.host)), (42, inRow ([n.par, n.host])), (43, SV.own 3), (44, iv (((n.kids ++ ([n.par, n.host])).length : Int))), (45, iv (0)), (1, iv (N)), (2, SV.bp 1 0)], [(1, Own.box 8 (ndCell n) 61), (3, ownOf inCell 1 0 (n.kids ++ ([n.par, n.host])) 3)]⟩ _
   refine We ?_ ?_
   ·exact ⟨V rfl, V rfl, V rfl, V rfl, V rfl, V rfl, V rfl, V rfl, V rfl, V rfl, V rfl, V rfl, Z⟩
   ·exact ⟨⟨_, rfl, ⟨rfl, rfl, (An rfl)⟩⟩, ⟨_, rfl, rfl⟩, Z⟩
  refine Bo <| Lo (fun (j : Nat) => ⟨[(1, iv (N)), (2, SV.bp 1 0), (43, SV.own 3), (44, iv (((n.kids ++ ([n.par, n.host])).length : Int))), (45, iv ((j : Int)))], [(1, Own.box 8 (ndCell n) 61), (3, ownOf inCell 1 0 (n.kids ++ ([n.par, n.host])) 3)]⟩) (fun (j : Nat) => j ≤ (n.kids ++ [n.par, n.host]).length ∧ ∀ q, q < j → whoBad N ((n.kids ++ [n.par, n.host]).getD q 0) = false) (fun (j : Nat) => (n.kids ++ [n.par, n.host]).length - j) 0 (by show 0 ≤ (n.kids ++ [n.par, n.host]).length ∧ ∀ q, q < 0 → whoBad N ((n.kids ++ [n.par, n.host]).getD q 0) = false; exact ⟨Nat.zero_le _, fun q hq => absurd hq (Nat.not_lt_zero _)⟩) (We (ow := [(1, Own.box 8 (ndCell n) 61), (3, ownOf inCell 1 0 (n.kids ++ ([n.par, n.host])) 3)]) (Vs rfl) (by exact ⟨⟨_, rfl, rfl, rfl, (An rfl)⟩, ⟨_, rfl, rfl⟩, Z⟩)) <| ?_
  ·rintro j hI1
   have hJ1 : j ≤ (n.kids ++ [n.par, n.host]).length ∧ ∀ q, q < j → whoBad N ((n.kids ++ [n.par, n.host]).getD q 0) = false := hI1
   have hj1 := hJ1.1
   have hall := hJ1.2
   refine Sq <| Rq <| O (Lt (V rfl) (V rfl)) <| Nq <| Sq <| Cd (V rfl) (fun hc2 => ?_) (fun hc2 => ?_)
   ·have hc2s := hc2; try simp only [BL] at hc2s
    refine Sk <| Sq <| Bo <| Sq <| Rq <| O (IOn (i := j) (V rfl) rfl (V rfl) ts33 te33 (by clear hall hJ1 hI1; omega)) <| O (LdO (V rfl) rfl Ga3 (by decide)) <| O (As (V rfl)) <| Nq <| Sq <| Rq <| O (Mv (V rfl)) <| O (Lt (V rfl) K) <| O (Mv (V rfl)) <| Og (Gn rfl rfl) (fun hg => Mv (V rfl)) <| Og (Gn rfl rfl) (fun hg => Mv (V rfl)) <| Og (Gn rfl rfl) (fun hg => Ge (Vg (V rfl) hg) (Vg (V rfl) hg)) <| O (Qr (V rfl) (fun h => Vg (V rfl) (notT h))) <| Nq <| Cd (V rfl) (fun hc3 => ?_) (fun hc3 => ?_)
    ·have hc3s := hc3; try simp only [BL] at hc3s
     exact Sq <| Rq <| O (As K) <| Nq <| Rx <| R1 rfl (V rfl) rfl (by show iv (4) = iv (nodeErr N n); rw [nodeErr_4 hc1 (mem_getD (by clear hall hJ1 hI1; omega)) hc3])
    ·have hc3s := hc3; try simp only [BL] at hc3s
     exact Sk <| Rq <| O (Ad (V rfl) K (by clear hall hJ1 hI1; simp only [List.length_append, List.length_cons, List.length_nil] at *; omega)) <| O (Mv (V rfl)) <| Nq <| Nx (j + 1) (by show (j + 1) ≤ (n.kids ++ [n.par, n.host]).length ∧ ∀ q, q < (j + 1) → whoBad N ((n.kids ++ [n.par, n.host]).getD q 0) = false; exact ⟨by clear hall hJ1 hI1; omega, idxF_s hall hc3⟩) (by show (n.kids ++ [n.par, n.host]).length - (j + 1) < (n.kids ++ [n.par, n.host]).length - j; clear hall hJ1 hI1; omega) (We (ow := [(1, Own.box 8 (ndCell n) 61), (3, ownOf inCell 1 0 (n.kids ++ ([n.par, n.host])) 3)]) (Vs rfl) (by exact ⟨⟨_, rfl, rfl, rfl, (An rfl)⟩, ⟨_, rfl, rfl⟩, Z⟩))
   ·have hc2s := hc2; try simp only [BL] at hc2s
    have hw := who_all hall (by clear hall hJ1 hI1; omega)
    refine Ex <| Sq <| Sq <| Rq <| O (FlB _ _ (V rfl) Un61 rfl 0 Sz4) <| O (LdB (V rfl) rfl Ga4 (by decide)) <| O (Qo (V rfl)) <| O (Mv (V rfl)) <| Og (Gy rfl rfl) (fun hg => FlB _ _ (V rfl) Un61 rfl 0 Sz3) <| Og (Gy rfl rfl) (fun hg => LdB (Vg (V rfl) hg) rfl Ga3 (by decide)) <| Og (Gy rfl rfl) (fun hg => Qn (Vg (V rfl) hg) K) <| Og (Gy rfl rfl) (fun hg => Mv (Vg (V rfl) hg)) <| Og (Gyn rfl rfl) (fun hg => FlB _ _ (V rfl) Un61 rfl 0 Sz3) <| Og (Gyn rfl rfl) (fun hg => LdB (Vg (V rfl) hg) rfl Ga3 (by decide)) <| Og (Gyn rfl rfl) (fun hg => Qn (Vg (V rfl) hg) K) <| Og (Gy rfl rfl) (fun hg => Qr (Vg (V rfl) hg) (fun h => Vg (V rfl) (andI hg (notT h)))) <| Og (Gy rfl rfl) (fun hg => Mv (Vg (V rfl) hg)) <| Og (Gyn rfl rfl) (fun hg => FlB _ _ (V rfl) Un61 rfl 0 Sz3) <| Og (Gyn rfl rfl) (fun hg => LdB (Vg (V rfl) hg) rfl Ga3 (by decide)) <| Og (Gyn rfl rfl) (fun hg => Qn (Vg (V rfl) hg) K) <| Og (Gy rfl rfl) (fun hg => Qr (Vg (V rfl) hg) (fun h => Vg (V rfl) (andI hg (notT h)))) <| Og (Gy rfl rfl) (fun hg => Mv (Vg (V rfl) hg)) <| Og (Gyn rfl rfl) (fun hg => FlB _ _ (V rfl) Un61 rfl 0 Sz3) <| Og (Gyn rfl rfl) (fun hg => LdB (Vg (V rfl) hg) rfl Ga3 (by decide)) <| Og (Gyn rfl rfl) (fun hg => Qn (Vg (V rfl) hg) K) <| Og (Gy rfl rfl) (fun hg => Qr (Vg (V rfl) hg) (fun h => Vg (V rfl) (andI hg (notT h)))) <| Og (Gy rfl rfl) (fun hg => Mv (Vg (V rfl) hg)) <| Og (Gyn rfl rfl) (fun hg => FlB _ _ (V rfl) Un61 rfl 0 Sz4) <| Og (Gyn rfl rfl) (fun hg => LdB (Vg (V rfl) hg) rfl Ga4 (by decide)) <| Og (Gy rfl rfl) (fun hg => Qr (Vg (V rfl) hg) (fun h => Vg (V rfl) (andI hg (notT h)))) <| Og (Gy rfl rfl) (fun hg => Mv (Vg (V rfl) hg)) <| Og (Gyn rfl rfl) (fun hg => FlB _ _ (V rfl) Un61 rfl 0 Sz33) <| Og (Gyn rfl rfl) (fun hg => LdB (Vg (V rfl) hg) rfl Ga33 (by decide)) <| Og (Gyn rfl rfl) (fun hg => Ln (Vg (V rfl) hg) ts33) <| Og (Gyn rfl rfl) (fun hg => Gt (Vg (V rfl) hg) K) <| Og (Gy rfl rfl) (fun hg => Qr (Vg (V rfl) hg) (fun h => Vg (V rfl) (andI hg (notT h)))) <| O (Qa (V rfl) (fun h => Vg (V rfl) h)) <| O (Mv (V rfl)) <| Og (Gn rfl rfl) (fun hg => FlB _ _ (V rfl) Un61 rfl 0 Sz4) <| Og (Gn rfl rfl) (fun hg => LdB (Vg (V rfl) hg) rfl Ga4 (by decide)) <| ?_
    refine Og (Gn rfl rfl) (fun hg => Mv (Vg (V rfl) hg)) <| Og (Gyy rfl rfl) (fun hg => FlB _ _ (V rfl) Un61 rfl 0 Sz3) <| Og (Gyy rfl rfl) (fun hg => LdB (Vg (V rfl) hg) rfl Ga3 (by decide)) <| Og (Gyy rfl rfl) (fun hg => Ql (Vg (V rfl) hg) K) <| Og (Gn rfl rfl) (fun hg => Qa (Vg (V rfl) hg) (fun h => Vg (V rfl) (andI hg h))) <| O (Qr (V rfl) (fun h => Vg (V rfl) (notT h))) <| Nq <| Cd (V rfl) (fun hc4 => ?_) (fun hc4 => ?_)
    ·have hc4s := hc4; try simp only [BL] at hc4s
     have hw := who_all hall (by clear hall hJ1 hI1; omega)
     exact Sq <| Rq <| O (As K) <| Nq <| Rx <| R1 rfl (V rfl) rfl (by show iv (3) = iv (nodeErr N n); rw [nodeErr_3 hc1 hw hc4])
    ·have hc4s := hc4; try simp only [BL] at hc4s
     refine Sk <| Sq <| Sq <| Rq <| O (FlB _ _ (V rfl) Un61 rfl 0 Sz3) <| O (LdB (V rfl) rfl Ga3 (by decide)) <| O (Lt (V rfl) K) <| O (Mv (V rfl)) <| Og (Gy rfl rfl) (fun hg => FlB _ _ (V rfl) Un61 rfl 0 Sz4) <| Og (Gy rfl rfl) (fun hg => LdB (Vg (V rfl) hg) rfl Ga4 (by decide)) <| O (Qa (V rfl) (fun h => Vg (V rfl) h)) <| O (Mv (V rfl)) <| Og (Gn rfl rfl) (fun hg => FlB _ _ (V rfl) Un61 rfl 0 Sz3) <| Og (Gn rfl rfl) (fun hg => LdB (Vg (V rfl) hg) rfl Ga3 (by decide)) <| Og (Gn rfl rfl) (fun hg => Ge (Vg (V rfl) hg) K) <| Og (Gn rfl rfl) (fun hg => Mv (Vg (V rfl) hg)) <| Og (Gyy rfl rfl) (fun hg => FlB _ _ (V rfl) Un61 rfl 0 Sz3) <| Og (Gyy rfl rfl) (fun hg => LdB (Vg (V rfl) hg) rfl Ga3 (by decide)) <| Og (Gyy rfl rfl) (fun hg => Ge (Vg (V rfl) hg) K) <| Og (Gn rfl rfl) (fun hg => Qa (Vg (V rfl) hg) (fun h => Vg (V rfl) (andI hg h))) <| O (Qr (V rfl) (fun h => Vg (V rfl) (notT h))) <| Nq <| Cd (V rfl) (fun hc5 => ?_) (fun hc5 => ?_)
     ·have hc5s := hc5; try simp only [BL] at hc5s
      exact Sq <| Rq <| O (As K) <| Nq <| Rx <| R1 rfl (V rfl) rfl (by show iv (3) = iv (nodeErr N n); rw [nodeErr_3' hc1 hw hc5])
     ·have hc5s := hc5; try simp only [BL] at hc5s
      exact Sk <| Sq <| Rq <| O (As K) <| Nq <| Rx <| R1 rfl (V rfl) rfl (by show iv (0) = iv (nodeErr N n); rw [nodeErr_0 hc1 hw hc4 hc5])
end Go.Proofs.Ytmcdamcedemdiaa
namespace Go.Proofs.Ytmcdamcedemdiaa
open Go.RowKit Go.Eng
theorem links_ct (l : List Nd) (hb : ∀ n ∈ l, n.kids.length ≤ 17592186043904) (h24 : l.length ≤ 24) (h1 : nodesErr l = 0) : Ct Try.prog 119 [SV.agg 1 (stG l)] (iv (if linksB l = true then 0 else 6)) := by
 refine CtO 131 Try.func119 rfl rfl rfl fun E => row_lenA 0 (V (s := 0) rfl) rfl rfl fun hl0_0 => Sq <| Rt <| BxA 1 (V rfl) rfl rfl <| U (As K) <| Nt <| Sq <| Rt <| U (FlB _ _ (V rfl) Un24 rfl 0 Sz22) <| U (LdB (V rfl) rfl Ga22 (by decide)) <| U (Ln (V rfl) ts22) <| Mk2 (cell := inCell) (dd := 0) 2 0 eo33 zero3 (V rfl) (V rfl) (by omega) ⟨Z, impO_rfl⟩ rfl <| U (As (V rfl)) <| Nt <| Sq <| Rt <| U (FlB _ _ (V rfl) Un24 rfl 0 Sz22) <| U (LdB (V rfl) rfl Ga22 (by decide)) <| U (Ln (V rfl) ts22) <| Mk2 (cell := inCell) (dd := 0) 3 0 eo33 zero3 (V rfl) (V rfl) (by omega) ⟨Z, impO_rfl⟩ rfl <| U (As (V rfl)) <| Nt <| Sq <| Sq <| Rq <| O (FlB _ _ (V rfl) Un24 rfl 0 Sz22) <| O (LdB (V rfl) rfl Ga22 (by decide)) <| O (Ln (V rfl) ts22) <| O (Mv K) <| Nq <| Bo <| c_mv 2 60 rfl rfl <| c_mv 3 61 rfl rfl <| c_ownE 60 (cntA l.length ((l.take 0).flatMap Nd.kids)) rfl (by exact (cntA_nil _).symm) <| c_ownE 61 (cntA l.length ((l.take 0).map Nd.host)) rfl (by exact (cntA_nil _).symm) <| Lo (fun (i : Nat) => ⟨[(1, SV.bp 1 0), (3, SV.own 60), (4, SV.own 61), (22, ndRow l), (23, iv ((l.length : Int))), (24, iv ((i : Int)))], [(1, Own.box 1 (fun zt => SV.renm (mvN 3 61) ((fun zt => SV.renm (mvN 2 60) ((stG l) zt)) zt)) 24), (60, ownOf inCell 1 0 (cntA l.length ((l.take i).flatMap Nd.kids)) 3), (61, ownOf inCell 1 0 (cntA l.length ((l.take i).map Nd.host)) 3)]⟩) (fun (i : Nat) => i ≤ l.length ∧ ∀ q, q < i → link1 l q = true) (fun (i : Nat) => l.length - i) 0 (by show 0 ≤ l.length ∧ ∀ q, q < 0 → link1 l q = true; exact ⟨Nat.zero_le _, fun q hq => absurd hq (Nat.not_lt_zero _)⟩) (We (ow := [(1, Own.box 1 (fun zt => SV.renm (mvN 3 61) ((fun zt => SV.renm (mvN 2 60) ((stG l) zt)) zt)) 24), (60, ownOf inCell 1 0 (cntA l.length ((l.take 0).flatMap Nd.kids)) 3), (61, ownOf inCell 1 0 (cntA l.length ((l.take 0).map Nd.host)) 3)]) (Vs rfl) (by exact ⟨⟨_, rfl, rfl, rfl, (An rfl)⟩, ⟨_, rfl, rfl⟩, ⟨_, rfl, rfl⟩, Z⟩)) <| ?_
 ·rintro i hI1
  have hJ1 : i ≤ l.length ∧ ∀ q, q < i → link1 l q = true := hI1
  have hi1 := hJ1.1
  have hall := hJ1.2
  refine Sq <| Rq <| O (Lt (V rfl) (V rfl)) <| Nq <| Sq <| Cd (V rfl) (fun hc1 => ?_) (fun hc1 => ?_)
  ·have hc1s := hc1; try simp only [BL] at hc1s
   have hi : i < l.length := by omega
   have hN := nodesErr_at h1 hi
   have hNh := hN.host
   have hkb := hb _ (mem_getD (d := default) hi)
   have hfl := flat_len (l := l.take i) (M := 17592186043904) fun n hn => hb n (List.mem_of_mem_take hn)
   rw [List.length_take] at hfl
   have hcH := fun k => cntA_in l.length ((l.take i).map Nd.host) k
   simp only [List.length_map, List.length_take] at hcH
   refine Sk <| Sq <| Bo <| Sq <| Rt <| U (Mv (V rfl)) <| U (IxN (i := i) (V rfl) (V rfl) ts22 te22 (by first | omega | (simp only [cntA_len, List.length_set]; omega))) <| U (LdA (V rfl) Ga61 Sz61 (by decide)) <| Al 4 zero61 rfl rfl <| U (As (V rfl)) <| StA (V rfl) rfl (V rfl) Sz61 <| Nt <| Sq <| Sq <| Rq <| O (FlB _ _ (V rfl) Un61 rfl 0 Sz33) <| O (LdB (V rfl) rfl Ga33 (by decide)) <| O (Ln (V rfl) ts33) <| O (Mv K) <| Nq <| Bo <| c_ownE 60 (cntA l.length ((l.take i).flatMap Nd.kids ++ (l.getD i default).kids.take 0)) rfl (by simp) <| Lo (fun (j : Nat) => ⟨[(1, SV.bp 1 0), (3, SV.own 60), (4, SV.own 61), (5, iv ((i : Int))), (6, SV.bp 4 0), (22, ndRow l), (23, iv ((l.length : Int))), (24, iv ((i : Int))), (30, inRow ((l.getD i default).kids)), (31, iv ((((l.getD i default).kids).length : Int))), (32, iv ((j : Int)))], [(1, Own.box 1 (fun zt => SV.renm (mvN 3 61) ((fun zt => SV.renm (mvN 2 60) ((stG l) zt)) zt)) 24), (4, Own.box 8 (fun zi => (rowG ndCell default l) i (0 + zi)) 61), (60, ownOf inCell 1 0 (cntA l.length ((l.take i).flatMap Nd.kids ++ (l.getD i default).kids.take j)) 3), (61, ownOf inCell 1 0 (cntA l.length ((l.take i).map Nd.host)) 3)]⟩) (fun (j : Nat) => j ≤ (l.getD i default).kids.length ∧ ∀ q, q < j → kidOk l i ((l.getD i default).kids.getD q 0) = true) (fun (j : Nat) => (l.getD i default).kids.length - j) 0 (by show 0 ≤ (l.getD i default).kids.length ∧ ∀ q, q < 0 → kidOk l i ((l.getD i default).kids.getD q 0) = true; exact ⟨Nat.zero_le _, fun q hq => absurd hq (Nat.not_lt_zero _)⟩) (We (ow := [(1, Own.box 1 (fun zt => SV.renm (mvN 3 61) ((fun zt => SV.renm (mvN 2 60) ((stG l) zt)) zt)) 24), (4, Own.box 8 (fun zi => (rowG ndCell default l) i (0 + zi)) 61), (60, ownOf inCell 1 0 (cntA l.length ((l.take i).flatMap Nd.kids ++ (l.getD i default).kids.take 0)) 3), (61, ownOf inCell 1 0 (cntA l.length ((l.take i).map Nd.host)) 3)]) (Vs rfl) (by exact ⟨⟨_, rfl, rfl, rfl, (An rfl)⟩, ⟨_, rfl, rfl, rfl, (An rfl)⟩, ⟨_, rfl, rfl⟩, ⟨_, rfl, rfl⟩, Z⟩)) <| ?_
   ·rintro j hI2
    have hJ2 : j ≤ (l.getD i default).kids.length ∧ ∀ q, q < j → kidOk l i ((l.getD i default).kids.getD q 0) = true := hI2
    have hj1 := hJ2.1
    have hkall := hJ2.2
    refine Sq <| Rq <| O (Lt (V rfl) (V rfl)) <| Nq <| Sq <| Cd (V rfl) (fun hc2 => ?_) (fun hc2 => ?_)
    ·have hc2s := hc2; try simp only [BL] at hc2s
     have hkN := hN.kids _ (mem_getD (d := 0) (show j < (l.getD i default).kids.length by omega))
     have hcA := fun k => cntA_in l.length ((l.take i).flatMap Nd.kids ++ (l.getD i default).kids.take j) k
     simp only [List.length_append, List.length_take] at hcA
     refine Sk <| Sq <| Bo <| Sq <| Rq <| O (IxN (i := j) (V rfl) (V rfl) ts33 te33 (by first | omega | (simp only [cntA_len, List.length_set]; omega))) <| O (Ld (V rfl) Ga3 (by decide)) <| O (As (V rfl)) <| Nq <| Sq <| Sq <| Rq <| O (Mv (V rfl)) <| O (Lt (V rfl) K) <| O (Mv (V rfl)) <| Og (Gn rfl rfl) (fun hg => FlB _ _ (V rfl) Un24 rfl 0 Sz22) <| Og (Gn rfl rfl) (fun hg => LdB (Vg (V rfl) hg) rfl Ga22 (by decide)) <| Og (Gn rfl rfl) (fun hg => Mv (V rfl)) <| Og (Gn rfl rfl) (fun hg => Ix (Vg (V rfl) hg) (Vg (V rfl) hg) ts22 te22 (by have hgs := hg; try simp only [BL] at hgs; omega) (by have hgs := hg; try simp only [BL] at hgs; first | omega | (simp only [cntA_len, List.length_set]; omega))) <| Og (Gn rfl rfl) (fun hg => Fl _ _ (Vg (V rfl) hg) Un61 rfl 0 Sz4) <| Og (Gn rfl rfl) (fun hg => Ld (Vg (V rfl) hg) Ga4 (by decide)) <| Og (Gn rfl rfl) (fun hg => Qo (Vg (V rfl) hg)) <| O (Qr (V rfl) (fun h => Vg (V rfl) (notT h))) <| O (Mv (V rfl)) <| Og (Gn rfl rfl) (fun hg => FlB _ _ (V rfl) Un24 rfl 0 Sz22) <| Og (Gn rfl rfl) (fun hg => LdB (Vg (V rfl) hg) rfl Ga22 (by decide)) <| Og (Gn rfl rfl) (fun hg => Mv (V rfl)) <| Og (Gn rfl rfl) (fun hg => Ix (Vg (V rfl) hg) (Vg (V rfl) hg) ts22 te22 (by have hgs := hg; try simp only [BL] at hgs; omega) (by have hgs := hg; try simp only [BL] at hgs; first | omega | (simp only [cntA_len, List.length_set]; omega))) <| Og (Gn rfl rfl) (fun hg => Fl _ _ (Vg (V rfl) hg) Un61 rfl 0 Sz3) <| Og (Gn rfl rfl) (fun hg => Ld (Vg (V rfl) hg) Ga3 (by decide)) <| Og (Gn rfl rfl) (fun hg => Mv (V rfl)) <| Og (Gn rfl rfl) (fun hg => Qn (Vg (V rfl) hg) (Vg (V rfl) hg)) <| O (Qr (V rfl) (fun h => Vg (V rfl) (notT h))) <| Nq <| Cd (V rfl) (fun hc3 => ?_) (fun hc3 => ?_)
     ·have hc3s := hc3; try simp only [BL] at hc3s
      exact Sq <| Rq <| O (As K) <| Nq <| Rx <| R1 rfl (V rfl) rfl (by show iv (6) = iv (if linksB l = true then 0 else 6); exact congrArg iv (links_1 hi (link1_kid (mem_getD (by omega)) (kidOk_no hc3))))
     ·have hc3s := hc3; try simp only [BL] at hc3s
      refine Sk <| Rt <| U (Mv (V rfl)) <| U (Mv (V rfl)) <| U (IxO (V rfl) rfl (V rfl) ts33 te33 (by omega) (by first | omega | (simp only [cntA_len, List.length_set]; omega))) <| U (LdO (V rfl) rfl Ga3 (by decide)) <| U (Ad (V rfl) K (by first | omega | (have := hcA (Int.toNat ((l.getD i default).kids.getD j 0)); omega) | (have := hcH (Int.toNat (l.getD i default).host); omega))) <| U (IxO (V rfl) rfl (V rfl) ts33 te33 (by omega) (by first | omega | (simp only [cntA_len, List.length_set]; omega))) <| ?_
      have hidx0 : Int.toNat ((((l.getD i default).kids).getD j 0)) < (cntA l.length ((l.take i).flatMap Nd.kids ++ (l.getD i default).kids.take j)).length := by first | omega | (simp only [cntA_len, List.length_set]; omega)
      exact StO (rowG inCell 0 ((cntA l.length ((l.take i).flatMap Nd.kids ++ (l.getD i default).kids.take j)).set (Int.toNat ((((l.getD i default).kids).getD j 0))) ((((cntA l.length ((l.take i).flatMap Nd.kids ++ (l.getD i default).kids.take j)).getD (Int.toNat ((((l.getD i default).kids).getD j 0))) 0)) + 1))) (V rfl) rfl (V rfl) rfl rfl Sz3 (by decide) (show (cntA l.length ((l.take i).flatMap Nd.kids ++ (l.getD i default).kids.take j)).length = ((cntA l.length ((l.take i).flatMap Nd.kids ++ (l.getD i default).kids.take j)).set (Int.toNat ((((l.getD i default).kids).getD j 0))) ((((cntA l.length ((l.take i).flatMap Nd.kids ++ (l.getD i default).kids.take j)).getD (Int.toNat ((((l.getD i default).kids).getD j 0))) 0)) + 1)).length from List.length_set.symm) (set_at hidx0 rfl) (set_typed hidx0 fun t ht hne => match t, ht, hne with | 0, _, hne => absurd rfl hne) <| Nt <| Rq <| O (Ad (V rfl) K (by first | omega | (have := hcA (Int.toNat ((l.getD i default).kids.getD j 0)); omega) | (have := hcH (Int.toNat (l.getD i default).host); omega))) <| O (Mv (V rfl)) <| Nq <| k_ownE 60 (cntA l.length ((l.take i).flatMap Nd.kids ++ (l.getD i default).kids.take ((j + 1)))) rfl (by exact (cntA_add ⟨by omega, by omega⟩).trans (by rw [List.append_assoc, ← take_s 0 (by omega)])) <| Nx (j + 1) (by show (j + 1) ≤ (l.getD i default).kids.length ∧ ∀ q, q < (j + 1) → kidOk l i ((l.getD i default).kids.getD q 0) = true; exact ⟨by omega, all_s hkall (kidOk_yes hc3)⟩) (by show (l.getD i default).kids.length - (j + 1) < (l.getD i default).kids.length - j; omega) (We (ow := [(1, Own.box 1 (fun zt => SV.renm (mvN 3 61) ((fun zt => SV.renm (mvN 2 60) ((stG l) zt)) zt)) 24), (4, Own.box 8 (fun zi => (rowG ndCell default l) i (0 + zi)) 61), (60, ownOf inCell 1 0 (cntA l.length ((l.take i).flatMap Nd.kids ++ (l.getD i default).kids.take ((j + 1)))) 3), (61, ownOf inCell 1 0 (cntA l.length ((l.take i).map Nd.host)) 3)]) (Vs rfl) (by exact ⟨⟨_, rfl, rfl, rfl, (An rfl)⟩, ⟨_, rfl, rfl, rfl, (An rfl)⟩, ⟨_, rfl, rfl⟩, ⟨_, rfl, rfl⟩, Z⟩))
    ·have hc2s := hc2; try simp only [BL] at hc2s
     have hks := kidsOk hkall (by omega)
     refine Ex <| Sq <| Rq <| O (FlB _ _ (V rfl) Un61 rfl 0 Sz3) <| O (LdB (V rfl) rfl Ga3 (by decide)) <| O (Ge (V rfl) K) <| Nq <| Cd (V rfl) (fun hc4 => ?_) (fun hc4 => ?_)
     ·have hc4s := hc4; try simp only [BL] at hc4s
      refine Sq <| Sq <| Rq <| O (FlB _ _ (V rfl) Un24 rfl 0 Sz22) <| O (LdB (V rfl) rfl Ga22 (by decide)) <| O (FlB _ _ (V rfl) Un61 rfl 0 Sz3) <| O (LdB (V rfl) rfl Ga3 (by decide)) <| O (Ix (V rfl) (V rfl) ts22 te22 (by omega) (by first | omega | (simp only [cntA_len, List.length_set]; omega))) <| O (Fl _ _ (V rfl) Un61 rfl 0 Sz4) <| O (Ld (V rfl) Ga4 (by decide)) <| O (Qo (V rfl)) <| Nq <| Cd (V rfl) (fun hc5 => ?_) (fun hc5 => ?_)
      ·have hc5s := hc5; try simp only [BL] at hc5s
       exact Sq <| Rq <| O (As K) <| Nq <| Rx <| R1 rfl (V rfl) rfl (by show iv (6) = iv (if linksB l = true then 0 else 6); exact congrArg iv (links_1 hi (link1_host hc4s (by simpa using hc5))))
      ·have hc5s := hc5; try simp only [BL] at hc5s
       refine Sk <| Rt <| U (Mv (V rfl)) <| U (FlB _ _ (V rfl) Un61 rfl 0 Sz3) <| U (LdB (V rfl) rfl Ga3 (by decide)) <| U (IxO (V rfl) rfl (V rfl) ts33 te33 (by omega) (by first | omega | (simp only [cntA_len, List.length_set]; omega))) <| U (LdO (V rfl) rfl Ga3 (by decide)) <| U (Ad (V rfl) K (by first | omega | (have := hcA (Int.toNat ((l.getD i default).kids.getD j 0)); omega) | (have := hcH (Int.toNat (l.getD i default).host); omega))) <| U (IxO (V rfl) rfl (V rfl) ts33 te33 (by omega) (by first | omega | (simp only [cntA_len, List.length_set]; omega))) <| ?_
       have hidx1 : Int.toNat ((l.getD i default).host) < (cntA l.length ((l.take i).map Nd.host)).length := by first | omega | (simp only [cntA_len, List.length_set]; omega)
       exact StO (rowG inCell 0 ((cntA l.length ((l.take i).map Nd.host)).set (Int.toNat ((l.getD i default).host)) ((((cntA l.length ((l.take i).map Nd.host)).getD (Int.toNat ((l.getD i default).host)) 0)) + 1))) (V rfl) rfl (V rfl) rfl rfl Sz3 (by decide) (show (cntA l.length ((l.take i).map Nd.host)).length = ((cntA l.length ((l.take i).map Nd.host)).set (Int.toNat ((l.getD i default).host)) ((((cntA l.length ((l.take i).map Nd.host)).getD (Int.toNat ((l.getD i default).host)) 0)) + 1)).length from List.length_set.symm) (set_at hidx1 rfl) (set_typed hidx1 fun t ht hne => match t, ht, hne with | 0, _, hne => absurd rfl hne) <| Nt <| Rq <| O (Ad (V rfl) K (by first | omega | (have := hcA (Int.toNat ((l.getD i default).kids.getD j 0)); omega) | (have := hcH (Int.toNat (l.getD i default).host); omega))) <| O (Mv (V rfl)) <| Nq <| k_ownE 60 (cntA l.length ((l.take ((i + 1))).flatMap Nd.kids)) rfl (by rw [flat_take_s hi, List.take_of_length_le (show (l.getD i default).kids.length ≤ j by omega)]) <| k_ownE 61 (cntA l.length ((l.take ((i + 1))).map Nd.host)) rfl (by rw [map_take_s default hi, cntA_add (by omega)]) <| Nx (i + 1) (by show (i + 1) ≤ l.length ∧ ∀ q, q < (i + 1) → link1 l q = true; exact ⟨by omega, all_s hall (link1_of hks (.inr (by simpa using hc5)))⟩) (by show l.length - (i + 1) < l.length - i; omega) (We (ow := [(1, Own.box 1 (fun zt => SV.renm (mvN 3 61) ((fun zt => SV.renm (mvN 2 60) ((stG l) zt)) zt)) 24), (60, ownOf inCell 1 0 (cntA l.length ((l.take ((i + 1))).flatMap Nd.kids)) 3), (61, ownOf inCell 1 0 (cntA l.length ((l.take ((i + 1))).map Nd.host)) 3)]) (Vs rfl) (by exact ⟨⟨_, rfl, rfl, rfl, (An rfl)⟩, ⟨_, rfl, rfl⟩, ⟨_, rfl, rfl⟩, Z⟩))
     ·have hc4s := hc4; try simp only [BL] at hc4s
      exact Sk <| Rq <| O (Ad (V rfl) K (by first | omega | (have := hcA (Int.toNat ((l.getD i default).kids.getD j 0)); omega) | (have := hcH (Int.toNat (l.getD i default).host); omega))) <| O (Mv (V rfl)) <| Nq <| k_ownE 60 (cntA l.length ((l.take ((i + 1))).flatMap Nd.kids)) rfl (by rw [flat_take_s hi, List.take_of_length_le (show (l.getD i default).kids.length ≤ j by omega)]) <| k_ownE 61 (cntA l.length ((l.take ((i + 1))).map Nd.host)) rfl (by rw [map_take_s default hi, cntA_neg (by omega)]) <| Nx (i + 1) (by show (i + 1) ≤ l.length ∧ ∀ q, q < (i + 1) → link1 l q = true; exact ⟨by omega, all_s hall (link1_of hks (.inl (by omega)))⟩) (by show l.length - (i + 1) < l.length - i; omega) (We (ow := [(1, Own.box 1 (fun zt => SV.renm (mvN 3 61) ((fun zt => SV.renm (mvN 2 60) ((stG l) zt)) zt)) 24), (60, ownOf inCell 1 0 (cntA l.length ((l.take ((i + 1))).flatMap Nd.kids)) 3), (61, ownOf inCell 1 0 (cntA l.length ((l.take ((i + 1))).map Nd.host)) 3)]) (Vs rfl) (by exact ⟨⟨_, rfl, rfl, rfl, (An rfl)⟩, ⟨_, rfl, rfl⟩, ⟨_, rfl, rfl⟩, Z⟩))
  ·have hc1s := hc1; try simp only [BL] at hc1s
   have hA1 : ∀ q, q < l.length → link1 l q = true := fun q hq => hall q (by omega)
   have hil : i = l.length := by omega
   subst hil
   skip
   refine Ex <| Sq <| Sq <| Rq <| O (FlB _ _ (V rfl) Un24 rfl 0 Sz22) <| O (LdB (V rfl) rfl Ga22 (by decide)) <| O (Ln (V rfl) ts22) <| O (Mv K) <| Nq <| Bo <| c_ownE 60 (cntA l.length (l.flatMap Nd.kids)) rfl (by rw [List.take_of_length_le (by omega)]) <| c_ownE 61 (cntA l.length (l.map Nd.host)) rfl (by rw [List.take_of_length_le (by omega)]) <| Lo (fun (i : Nat) => ⟨[(1, SV.bp 1 0), (3, SV.own 60), (4, SV.own 61), (84, ndRow l), (85, iv ((l.length : Int))), (86, iv ((i : Int)))], [(1, Own.box 1 (fun zt => SV.renm (mvN 3 61) ((fun zt => SV.renm (mvN 2 60) ((stG l) zt)) zt)) 24), (60, ownOf inCell 1 0 (cntA l.length (l.flatMap Nd.kids)) 3), (61, ownOf inCell 1 0 (cntA l.length (l.map Nd.host)) 3)]⟩) (fun (i : Nat) => i ≤ l.length ∧ ∀ q, q < i → link2 l q = true) (fun (i : Nat) => l.length - i) 0 (by show 0 ≤ l.length ∧ ∀ q, q < 0 → link2 l q = true; exact ⟨Nat.zero_le _, fun q hq => absurd hq (Nat.not_lt_zero _)⟩) (We (ow := [(1, Own.box 1 (fun zt => SV.renm (mvN 3 61) ((fun zt => SV.renm (mvN 2 60) ((stG l) zt)) zt)) 24), (60, ownOf inCell 1 0 (cntA l.length (l.flatMap Nd.kids)) 3), (61, ownOf inCell 1 0 (cntA l.length (l.map Nd.host)) 3)]) (Vs rfl) (by exact ⟨⟨_, rfl, rfl, rfl, (An rfl)⟩, ⟨_, rfl, rfl⟩, ⟨_, rfl, rfl⟩, Z⟩)) <| ?_
   ·rintro i hI3
    have hJ3 : i ≤ l.length ∧ ∀ q, q < i → link2 l q = true := hI3
    have hi2 := hJ3.1
    have hall2 := hJ3.2
    refine Sq <| Rq <| O (Lt (V rfl) (V rfl)) <| Nq <| Sq <| Cd (V rfl) (fun hc6 => ?_) (fun hc6 => ?_)
    ·have hc6s := hc6; try simp only [BL] at hc6s
     have hi : i < l.length := by omega
     refine Sk <| Sq <| Bo <| Sq <| Rt <| U (Mv (V rfl)) <| U (IxN (i := i) (V rfl) (V rfl) ts22 te22 (by first | omega | (simp only [cntA_len, List.length_set]; omega))) <| U (LdA (V rfl) Ga61 Sz61 (by decide)) <| Al 5 zero61 rfl rfl <| U (As (V rfl)) <| StA (V rfl) rfl (V rfl) Sz61 <| Nt <| Sq <| Sq <| Rqd (by kernel_rfl) (by kernel_rfl) <| O (Mv (V rfl)) <| O (Mv (V rfl)) <| O (IOn (i := i) (V rfl) rfl (V rfl) ts33 te33 (by first | omega | (simp only [cntA_len, List.length_set]; omega))) <| O (LdO (V rfl) rfl Ga3 (by decide)) <| O (Gt (V rfl) K) <| O (Mv (V rfl)) <| Og (Gn rfl rfl) (fun hg => Mv (V rfl)) <| Og (Gn rfl rfl) (fun hg => Mv (V rfl)) <| Og (Gn rfl rfl) (fun hg => IOn (i := i) (Vg (V rfl) hg) rfl (Vg (V rfl) hg) ts33 te33 (by have hgs := hg; try simp only [BL] at hgs; first | omega | (simp only [cntA_len, List.length_set]; omega))) <| Og (Gn rfl rfl) (fun hg => LdO (Vg (V rfl) hg) rfl Ga3 (by decide)) <| Og (Gn rfl rfl) (fun hg => Ql (Vg (V rfl) hg) K) <| Og (Gn rfl rfl) (fun hg => FlB _ _ (V rfl) Un61 rfl 0 Sz3) <| Og (Gn rfl rfl) (fun hg => LdB (Vg (V rfl) hg) rfl Ga3 (by decide)) <| Og (Gn rfl rfl) (fun hg => Ge (Vg (V rfl) hg) K) <| Og (Gn rfl rfl) (fun hg => q_neqb (Vg (V rfl) hg) (Vg (V rfl) hg) Un4) <| O (Qr (V rfl) (fun h => Vg (V rfl) (notT h))) <| O (Mv (V rfl)) <| Og (Gn rfl rfl) (fun hg => Mv (V rfl)) <| Og (Gn rfl rfl) (fun hg => Mv (V rfl)) <| Og (Gn rfl rfl) (fun hg => IOn (i := i) (Vg (V rfl) hg) rfl (Vg (V rfl) hg) ts33 te33 (by have hgs := hg; try simp only [BL] at hgs; first | omega | (simp only [cntA_len, List.length_set]; omega))) <| Og (Gn rfl rfl) (fun hg => LdO (Vg (V rfl) hg) rfl Ga3 (by decide)) <| Og (Gn rfl rfl) (fun hg => Gt (Vg (V rfl) hg) K) <| O (Qr (V rfl) (fun h => Vg (V rfl) (notT h))) <| Nq <| Cd (V rfl) (fun hc7 => ?_) (fun hc7 => ?_)
     ·have hc7s := hc7; try simp only [BL] at hc7s
      exact Sq <| Rq <| O (As K) <| Nq <| Rx <| R1 rfl (V rfl) rfl (by show iv (6) = iv (if linksB l = true then 0 else 6); exact congrArg iv (links_2 hi (link2_bad hi hc7)))
     ·have hc7s := hc7; try simp only [BL] at hc7s
      refine Sk <| Sq <| Rq <| O (Mv (V rfl)) <| O (As K) <| O (As (V rfl)) <| Nq <| Bo <| Lo (uc2 fun (k : Nat) (a : Int) => ⟨[(1, SV.bp 1 0), (3, SV.own 60), (4, SV.own 61), (11, iv ((k : Int))), (12, iv (a)), (84, ndRow l), (85, iv ((l.length : Int))), (86, iv ((i : Int)))], [(1, Own.box 1 (fun zt => SV.renm (mvN 3 61) ((fun zt => SV.renm (mvN 2 60) ((stG l) zt)) zt)) 24), (60, ownOf inCell 1 0 (cntA l.length (l.flatMap Nd.kids)) 3), (61, ownOf inCell 1 0 (cntA l.length (l.map Nd.host)) 3)]⟩) (uc2 fun (k : Nat) (a : Int) => k ≤ l.length + 1 ∧ a = upN l k i) (uc2 fun (k : Nat) (a : Int) => l.length + 2 - k) (0, (i : Int)) (by show 0 ≤ l.length + 1 ∧ (i : Int) = upN l 0 i; exact ⟨by omega, rfl⟩) (We (ow := [(1, Own.box 1 (fun zt => SV.renm (mvN 3 61) ((fun zt => SV.renm (mvN 2 60) ((stG l) zt)) zt)) 24), (60, ownOf inCell 1 0 (cntA l.length (l.flatMap Nd.kids)) 3), (61, ownOf inCell 1 0 (cntA l.length (l.map Nd.host)) 3)]) (Vs rfl) (by exact ⟨⟨_, rfl, rfl, rfl, (An rfl)⟩, ⟨_, rfl, rfl⟩, ⟨_, rfl, rfl⟩, Z⟩)) <| ?_
      ·rintro ⟨k, a⟩ hI4
       have hJ4 : k ≤ l.length + 1 ∧ a = upN l k i := hI4
       have hk1 := hJ4.1
       have hak := hJ4.2
       refine Sq <| Sq <| Rq <| O (Mv (V rfl)) <| O (Ge (V rfl) K) <| Nq <| Cd (V rfl) (fun hc8 => ?_) (fun hc8 => ?_)
       ·have hc8s := hc8; try simp only [BL] at hc8s
        have hai := upN_in h1 (i := (i : Int)) (by omega) k
        refine Sk <| Sq <| Bo <| Sq <| Sq <| Rq <| O (Mv (V rfl)) <| O (FlB _ _ (V rfl) Un24 rfl 0 Sz22) <| O (LdB (V rfl) rfl Ga22 (by decide)) <| O (Ln (V rfl) ts22) <| O (Gt (V rfl) (V rfl)) <| Nq <| Cd (V rfl) (fun hc9 => ?_) (fun hc9 => ?_)
        ·have hc9s := hc9; try simp only [BL] at hc9s
         exact Sq <| Rq <| O (As K) <| Nq <| Rx <| R1 rfl (V rfl) rfl (by show iv (6) = iv (if linksB l = true then 0 else 6); exact congrArg iv (links_2 hi (link2_up (k := k) hi (by omega) (by omega))))
        ·have hc9s := hc9; try simp only [BL] at hc9s
         exact Sk <| Rq <| O (FlB _ _ (V rfl) Un24 rfl 0 Sz22) <| O (LdB (V rfl) rfl Ga22 (by decide)) <| O (Mv (V rfl)) <| O (Ix (V rfl) (V rfl) ts22 te22 (by omega) (by first | omega | (simp only [cntA_len, List.length_set]; omega))) <| O (LdA (V rfl) Ga61 Sz61 (by decide)) <| CQ en110 (by exact ⟨⟨(Vi (g' := ndCell ⟨(l.getD (Int.toNat a) default).used, (l.getD (Int.toNat a) default).uses, (l.getD (Int.toNat a) default).tag, (l.getD (Int.toNat a) default).mark, (l.getD (Int.toNat a) default).par, (l.getD (Int.toNat a) default).kids, (l.getD (Int.toNat a) default).host, (l.getD (Int.toNat a) default).closed⟩) (V rfl) ⟨⟨⟨⟨⟨⟨⟨⟨Z, Ir⟩, Ir⟩, Ir⟩, Ir⟩, Ir⟩, Ir⟩, Ir⟩, Ir⟩), rfl⟩, Z⟩) (above_ct (l.getD (Int.toNat a) default)) <| O (As (V rfl)) <| Nq <| Rq <| O (Mv (V rfl)) <| O (Ad (V rfl) K (by first | omega | (have := hcA (Int.toNat ((l.getD i default).kids.getD j 0)); omega) | (have := hcH (Int.toNat (l.getD i default).host); omega))) <| O (As (V rfl)) <| Nq <| Nx (k + 1, above (l.getD (Int.toNat a) default)) (by show (k + 1) ≤ l.length + 1 ∧ (above (l.getD (Int.toNat a) default)) = upN l (k + 1) i; exact ⟨by omega, upN_s hak (by omega)⟩) (by show l.length + 2 - (k + 1) < l.length + 2 - k; omega) (We (ow := [(1, Own.box 1 (fun zt => SV.renm (mvN 3 61) ((fun zt => SV.renm (mvN 2 60) ((stG l) zt)) zt)) 24), (60, ownOf inCell 1 0 (cntA l.length (l.flatMap Nd.kids)) 3), (61, ownOf inCell 1 0 (cntA l.length (l.map Nd.host)) 3)]) (Vs rfl) (by exact ⟨⟨_, rfl, rfl, rfl, (An rfl)⟩, ⟨_, rfl, rfl⟩, ⟨_, rfl, rfl⟩, Z⟩))
       ·have hc8s := hc8; try simp only [BL] at hc8s
        exact Ex <| Rq <| O (Ad (V rfl) K (by first | omega | (have := hcA (Int.toNat ((l.getD i default).kids.getD j 0)); omega) | (have := hcH (Int.toNat (l.getD i default).host); omega))) <| O (Mv (V rfl)) <| Nq <| Nx (i + 1) (by show (i + 1) ≤ l.length ∧ ∀ q, q < (i + 1) → link2 l q = true; exact ⟨by omega, all_s hall2 (link2_ok h1 hi hc7 (k := k) (by omega))⟩) (by show l.length - (i + 1) < l.length - i; omega) (We (ow := [(1, Own.box 1 (fun zt => SV.renm (mvN 3 61) ((fun zt => SV.renm (mvN 2 60) ((stG l) zt)) zt)) 24), (60, ownOf inCell 1 0 (cntA l.length (l.flatMap Nd.kids)) 3), (61, ownOf inCell 1 0 (cntA l.length (l.map Nd.host)) 3)]) (Vs rfl) (by exact ⟨⟨_, rfl, rfl, rfl, (An rfl)⟩, ⟨_, rfl, rfl⟩, ⟨_, rfl, rfl⟩, Z⟩))
    ·have hc6s := hc6; try simp only [BL] at hc6s
     exact Ex <| Sq <| Rq <| O (As K) <| Nq <| Rx <| R1 rfl (V rfl) rfl (by show iv (0) = iv (if linksB l = true then 0 else 6); exact congrArg iv (links_0 hA1 fun q hq => hall2 q (by omega)))
theorem stcheck_ct (l : List Nd) (hb : ∀ n ∈ l, n.kids.length ≤ 17592186043904) : Ct Try.prog 44 [SV.agg 1 (stG l)] (iv (checkSt l)) := by
 refine CtO 28 Try.func44 rfl rfl rfl fun E => row_lenA 0 (V (s := 0) rfl) rfl rfl fun hl0_0 => Sq <| Rt <| BxA 1 (V rfl) rfl rfl <| U (As K) <| Nt <| Sq <| Sq <| Rq <| O (FlB _ _ (V rfl) Un24 rfl 0 Sz22) <| O (LdB (V rfl) rfl Ga22 (by decide)) <| O (Ln (V rfl) ts22) <| O (Gt (V rfl) K) <| Nq <| Cd (V rfl) (fun hc1 => ?_) (fun hc1 => ?_)
 ·have hc1s := hc1; try simp only [BL] at hc1s
  exact Sq <| Rq <| O (As K) <| Nq <| Rx <| R1 rfl (V rfl) rfl (by show iv (1) = iv (checkSt l); rw [checkSt_1 hc1s])
 ·have hc1s := hc1; try simp only [BL] at hc1s
  have h24 : l.length ≤ 24 := by omega
  refine Sk <| Sq <| Sq <| Rq <| O (FlB _ _ (V rfl) Un24 rfl 0 Sz22) <| O (LdB (V rfl) rfl Ga22 (by decide)) <| O (Ln (V rfl) ts22) <| O (Mv K) <| Nq <| Bo <| Lo (fun (i : Nat) => ⟨[(1, SV.bp 1 0), (11, ndRow l), (12, iv ((l.length : Int))), (13, iv ((i : Int)))], [(1, Own.box 1 (stG l) 24)]⟩) (fun (i : Nat) => i ≤ l.length ∧ nodesErr l = firstErr (errAt l) i (l.length - i)) (fun (i : Nat) => l.length - i) 0 (by show 0 ≤ l.length ∧ nodesErr l = firstErr (errAt l) 0 (l.length - 0); exact ⟨Nat.zero_le _, rfl⟩) (We (ow := [(1, Own.box 1 (stG l) 24)]) (Vs rfl) (by exact ⟨⟨_, rfl, rfl, rfl, (An rfl)⟩, Z⟩)) <| ?_
  ·rintro i hI1
   have hJ1 : i ≤ l.length ∧ nodesErr l = firstErr (errAt l) i (l.length - i) := hI1
   refine Sq <| Rq <| O (Lt (V rfl) (V rfl)) <| Nq <| Sq <| Cd (V rfl) (fun hc2 => ?_) (fun hc2 => ?_)
   ·have hc2s := hc2; try simp only [BL] at hc2s
    refine Sk <| Sq <| Bo <| Sq <| Rt <| U (IxN (i := i) (V rfl) (V rfl) ts22 te22 (by omega)) <| U (LdA (V rfl) Ga61 Sz61 (by decide)) <| Al 2 zero61 rfl rfl <| StA (V rfl) rfl (V rfl) Sz61 <| Nt <| Sq <| Rq <| O (LBA (V rfl) rfl Ga61 Sz61 (by decide)) <| O (FlB _ _ (V rfl) Un24 rfl 0 Sz22) <| O (LdB (V rfl) rfl Ga22 (by decide)) <| O (Ln (V rfl) ts22) <| CQ en118 (by exact ⟨⟨(Vi (g' := ndCell ⟨(l.getD i default).used, (l.getD i default).uses, (l.getD i default).tag, (l.getD i default).mark, (l.getD i default).par, (l.getD i default).kids, (l.getD i default).host, (l.getD i default).closed⟩) (V rfl) ⟨⟨⟨⟨⟨⟨⟨⟨Z, Ir⟩, Ir⟩, Ir⟩, Ir⟩, Ir⟩, Ir⟩, Ir⟩, Ir⟩), rfl⟩, ⟨(V rfl), rfl⟩, Z⟩) (check_ct (l.getD i default) ((l.length : Int)) (by first | assumption | exact hb _ (mem_getD (by omega)))) <| O (As (V rfl)) <| Nq <| Sq <| Rq <| O (Mv (V rfl)) <| O (Qn (V rfl) K) <| Nq <| Cd (V rfl) (fun hc3 => ?_) (fun hc3 => ?_)
    ·have hc3s := hc3; try simp only [BL] at hc3s
     exact Sq <| Rq <| O (Mv (V rfl)) <| O (As (V rfl)) <| Nq <| Rx <| R1 rfl (V rfl) rfl (by show iv (nodeErr ((l.length : Int)) (l.getD i default)) = iv (checkSt l); rw [checkSt_n h24 (firstErr_hit (by omega) hJ1.2 rfl hc3s) hc3s]; rfl)
    ·have hc3s := hc3; try simp only [BL] at hc3s
     exact Sk <| Rq <| O (Ad (V rfl) K (by omega)) <| O (Mv (V rfl)) <| Nq <| Nx (i + 1) (by show (i + 1) ≤ l.length ∧ nodesErr l = firstErr (errAt l) (i + 1) (l.length - (i + 1)); exact ⟨by omega, firstErr_next (by omega) hJ1.2 hc3s⟩) (by show l.length - (i + 1) < l.length - i; omega) (We (ow := [(1, Own.box 1 (stG l) 24)]) (Vs rfl) (by exact ⟨⟨_, rfl, rfl, rfl, (An rfl)⟩, Z⟩))
   ·have hc2s := hc2; try simp only [BL] at hc2s
    have hN0 : nodesErr l = 0 := firstErr_end (by omega) hJ1.2
    exact Ex <| Sq <| Rq <| O (LBA (V rfl) rfl Ga24 Sz24 (by decide)) <| CQ en119 (by exact ⟨⟨(Vi (g' := stG l) (V rfl) ⟨Z, Ir⟩), rfl⟩, Z⟩) (links_ct l hb h24 hN0) <| O (As (V rfl)) <| Nq <| Rx <| R1 rfl (V rfl) rfl (by show iv (if linksB l = true then 0 else 6) = iv (checkSt l); rw [checkSt_l h24 hN0])
end Go.Proofs.Ytmcdamcedemdiaa
namespace Go.Proofs.Ytmcdamcedemdiaa
open Go.RowKit Go.Eng
theorem rng_ref (n : Nd) : (((!inI n.uses 0 1000000) || (!inI n.tag 0 99)) || (!inI n.mark (-1000000) 1000000)) = rangeBad n := by
  unfold inI rangeBad
  rw [Bool.eq_iff_iff]
  simp only [Bool.or_eq_true, Bool.not_eq_true', Bool.and_eq_false_iff, decide_eq_false_iff_not, decide_eq_true_eq]
  omega
theorem who_ref (k : Int) (N : Nat) : (!inI k (-1) ((N : Int) - 1)) = whoBad (N : Int) k := by
  unfold inI whoBad
  rw [Bool.eq_iff_iff]
  simp only [Bool.or_eq_true, Bool.not_eq_true', Bool.and_eq_false_iff, decide_eq_false_iff_not, decide_eq_true_eq]
  omega
theorem who_two {N : Int} {n : Nd} (h1 : ∀ k ∈ n.kids, whoBad N k = false) (h2 : (whoBad N n.par || whoBad N n.host) = false) : ∀ k ∈ n.kids ++ [n.par, n.host], whoBad N k = false := fun k hk => by
  simp only [Bool.or_eq_false_iff] at h2
  simp only [List.mem_append, List.mem_cons, List.not_mem_nil, or_false] at hk
  rcases hk with hk | rfl | rfl
  · exact h1 k hk
  · exact h2.1
  · exact h2.2
theorem who_par {N : Int} {n : Nd} (h0 : rangeBad n = false) (h2 : (whoBad N n.par || whoBad N n.host) = true) : nodeErr N n = 4 := by
  simp only [Bool.or_eq_true] at h2
  rcases h2 with h | h
  · exact nodeErr_4 h0 (k := n.par) (by simp) h
  · exact nodeErr_4 h0 (k := n.host) (by simp) h
def cleanB (n : Nd) : Bool := ((((decide (n.tag = 0) && decide (n.mark = 0)) && decide (n.par = -1)) && decide (n.host = -1)) && decide ((n.kids.length : Int) = 0)) && (!n.closed)
theorem form_ref (n : Nd) : formBad n = (((!n.used) && (!cleanB n)) || (n.used && decide (n.uses = 0))) := by
  have e : decide (0 < (n.kids.length : Int)) = !decide ((n.kids.length : Int) = 0) := by
    rw [← decide_not, Bool.eq_iff_iff, decide_eq_true_iff, decide_eq_true_iff]; omega
  unfold formBad cleanB
  rw [e]
  cases decide (n.tag = 0) <;> cases decide (n.mark = 0) <;> cases decide (n.par = -1) <;> cases decide (n.host = -1) <;> cases n.closed <;> cases decide ((n.kids.length : Int) = 0) <;> rfl
theorem form2_ref {N : Int} {n : Nd} (h : (whoBad N n.par || whoBad N n.host) = false) : formBad2 n = ((decide (n.host = -1) && n.closed) || ((!decide (n.host = -1)) && (!decide (n.par = -1)))) := by
  simp only [whoBad, Bool.or_eq_false_iff, decide_eq_false_iff_not] at h
  have e1 : decide (n.host < 0) = decide (n.host = -1) := by rw [Bool.eq_iff_iff, decide_eq_true_iff, decide_eq_true_iff]; omega
  have e2 : decide (0 ≤ n.host) = !decide (n.host = -1) := by rw [← decide_not, Bool.eq_iff_iff, decide_eq_true_iff, decide_eq_true_iff]; omega
  have e3 : decide (0 ≤ n.par) = !decide (n.par = -1) := by rw [← decide_not, Bool.eq_iff_iff, decide_eq_true_iff, decide_eq_true_iff]; omega
  unfold formBad2
  rw [e1, e2, e3]
theorem err_a {N : Int} {n : Nd} (h : rangeBad n = false) (h4 : ∀ k ∈ n.kids ++ [n.par, n.host], whoBad N k = false) (ha : ((!n.used) && (!cleanB n)) = true) : nodeErr N n = 3 := nodeErr_3 h h4 (by rw [form_ref, ha, Bool.true_or])
theorem err_b {N : Int} {n : Nd} (h : rangeBad n = false) (h4 : ∀ k ∈ n.kids ++ [n.par, n.host], whoBad N k = false) (hb : (n.used && decide (n.uses = 0)) = true) : nodeErr N n = 3 := nodeErr_3 h h4 (by rw [form_ref, hb, Bool.or_true])
theorem err_c {N : Int} {n : Nd} (h : rangeBad n = false) (hw : (whoBad N n.par || whoBad N n.host) = false) (h4 : ∀ k ∈ n.kids ++ [n.par, n.host], whoBad N k = false) (hc : (decide (n.host = -1) && n.closed) = true) : nodeErr N n = 3 := nodeErr_3' h h4 (by rw [form2_ref hw, hc, Bool.true_or])
theorem err_d {N : Int} {n : Nd} (h : rangeBad n = false) (hw : (whoBad N n.par || whoBad N n.host) = false) (h4 : ∀ k ∈ n.kids ++ [n.par, n.host], whoBad N k = false) (hd : ((!decide (n.host = -1)) && (!decide (n.par = -1))) = true) : nodeErr N n = 3 := nodeErr_3' h h4 (by rw [form2_ref hw, hd, Bool.or_true])
theorem err_0 {N : Int} {n : Nd} (h : rangeBad n = false) (hw : (whoBad N n.par || whoBad N n.host) = false) (h4 : ∀ k ∈ n.kids ++ [n.par, n.host], whoBad N k = false) (ha : ((!n.used) && (!cleanB n)) = false) (hb : (n.used && decide (n.uses = 0)) = false)
    (hc : (decide (n.host = -1) && n.closed) = false) (hd : ((!decide (n.host = -1)) && (!decide (n.par = -1))) = false) : nodeErr N n = 0 := nodeErr_0 h h4 (by rw [form_ref, ha, hb]; rfl) (by rw [form2_ref hw, hc, hd]; rfl)
def lineN (l : List Nd) : Nat → Int → List Int
  | 0, _ => []
  | n + 1, k => if 0 ≤ k ∧ k < (l.length : Int) then k :: lineN l n (runder (l.getD k.toNat default)) else []
def line (l : List Nd) (k : Int) : List Int := lineN l (l.length + 1) k
theorem line_s {l : List Nd} {k0 k : Int} {acc : List Int} (h : line l k0 = acc ++ lineN l (l.length + 1 - acc.length) k) (hk : 0 ≤ k ∧ k < (l.length : Int)) (ha : acc.length ≤ l.length) :
    line l k0 = (acc ++ [k]) ++ lineN l (l.length + 1 - (acc ++ [k]).length) (runder (l.getD k.toNat default)) := by
  have e : l.length + 1 - acc.length = (l.length + 1 - (acc ++ [k]).length) + 1 := by simp only [List.length_append, List.length_cons, List.length_nil]; omega
  rw [h, e, lineN, if_pos hk, List.append_assoc]; rfl
theorem line_e {l : List Nd} {k0 k : Int} {acc : List Int} (h : line l k0 = acc ++ lineN l (l.length + 1 - acc.length) k) (hk : ((decide (0 ≤ k) && decide (k < (l.length : Int))) && decide ((acc.length : Int) ≤ (l.length : Int))) = false) (ha : acc.length ≤ l.length + 1) : acc = line l k0 := by
  have : lineN l (l.length + 1 - acc.length) k = [] := by
    cases hm : l.length + 1 - acc.length with
    | zero => rfl
    | succ m =>
      rw [lineN, if_neg]
      intro hh
      rw [decide_eq_true hh.1, decide_eq_true hh.2, decide_eq_true (by omega)] at hk
      cases hk
  rw [h, this, List.append_nil]
theorem runder_above {l : List Nd} (h : nodesErr l = 0) {k : Int} (hk : 0 ≤ k ∧ k < (l.length : Int)) : runder (l.getD k.toNat default) = above (l.getD k.toNat default) := by
  have := (nodesErr_at h (i := k.toNat) (by omega)).host
  unfold runder above
  by_cases e : (l.getD k.toNat default).host = -1
  · rw [if_neg (not_not_intro e), if_neg (by omega)]
  · rw [if_pos e, if_pos (by omega)]
theorem line_len {l : List Nd} (h : nodesErr l = 0) : ∀ (m : Nat) (k : Int), -1 ≤ k ∧ k < (l.length : Int) → (lineN l m k).length ≤ m ∧ ((lineN l m k).length = m ↔ m = 0 ∨ 0 ≤ upN l (m - 1) k)
  | 0, k, _ => ⟨Nat.le_refl _, by simp [lineN]⟩
  | m + 1, k, hk => by
    by_cases q : 0 ≤ k
    · rw [lineN, if_pos ⟨q, hk.2⟩, runder_above h ⟨q, hk.2⟩]
      obtain ⟨h1, h2⟩ := line_len h m _ (above_in h ⟨q, hk.2⟩)
      refine ⟨by simp only [List.length_cons]; omega, ?_⟩
      simp only [List.length_cons, Nat.add_right_cancel_iff, h2, Nat.add_sub_cancel]
      cases m with
      | zero => simp [upN, q]
      | succ m =>
        have e := upN_add (l := l) 1 k m
        rw [Nat.add_comm 1 m] at e
        rw [e]
        have : upN l 1 k = above (l.getD k.toNat default) := by show up1 l k = _; rw [up1, if_neg (by omega)]
        rw [this]
        simp
    · rw [lineN, if_neg (by omega)]
      refine ⟨by simp, ?_⟩
      have : ¬ 0 ≤ upN l m k := fun hh => q (upN_le (a := 0) (Nat.zero_le _) hh)
      simp [this]
theorem line_long {l : List Nd} (h : nodesErr l = 0) {i : Nat} (hi : i < l.length) : decide ((l.length : Int) < ((line l (i : Int)).length : Int)) = !decide (upN l l.length (i : Int) < 0) := by
  have := line_len h (l.length + 1) (i : Int) (by omega)
  rw [← decide_not, Bool.eq_iff_iff, decide_eq_true_iff, decide_eq_true_iff]
  unfold line
  simp only [Nat.add_sub_cancel] at this
  omega
structure RLink (l : List Nd) (i m : Nat) : Prop where
  kid : ∀ q, q < m → ∀ c ∈ (l.getD q default).kids, c ≠ -1 ∧ (c = (i : Int) → (l.getD i default).used = true ∧ (l.getD i default).par = (q : Int))
  host : ∀ q, q < m → (l.getD q default).host = (i : Int) → (l.getD i default).used = true
def RL (l : List Nd) (i : Nat) : Prop := RLink l i l.length ∧ link2 l i = true
def kidR (l : List Nd) (i q : Nat) (c : Int) : Prop := c ≠ -1 ∧ (c = (i : Int) → (l.getD i default).used = true ∧ (l.getD i default).par = (q : Int))
theorem rlink_0 (l : List Nd) (i : Nat) : RLink l i 0 := ⟨fun q h => absurd h (Nat.not_lt_zero _), fun q h => absurd h (Nat.not_lt_zero _)⟩
theorem rlink_s {l : List Nd} {i m j : Nat} (h : RLink l i m) (hk : ∀ q, q < j → kidR l i m ((l.getD m default).kids.getD q 0)) (hj : (l.getD m default).kids.length ≤ j) (hh : (l.getD m default).host = (i : Int) → (l.getD i default).used = true) : RLink l i (m + 1) := by
  refine ⟨fun q hq c hc => ?_, fun q hq => ?_⟩
  · by_cases e : q < m
    · exact h.kid q e c hc
    · have : q = m := by omega
      subst this
      obtain ⟨p, hp, rfl⟩ := getD_of_mem 0 hc
      exact hk p (by omega)
  · by_cases e : q < m
    · exact h.host q e
    · have : q = m := by omega
      subst this; exact hh
theorem rl_links {l : List Nd} (hN : nodesErr l = 0) (h : ∀ i, i < l.length → RL l i) : (0 : Int) = if linksB l = true then 0 else 6 := by
  refine links_0 (fun q hq => ?_) fun q hq => (h q hq).2
  have hn := nodesErr_at hN hq
  refine link1_of (List.all_eq_true.2 fun c hc => ?_) ?_
  · have h1 := hn.kids c hc
    have h2 := ((h q hq).1.kid q hq c hc).1
    have h3 := (h c.toNat (by omega)).1.kid q hq c hc
    obtain ⟨h4, h5⟩ := h3.2 (by omega)
    rw [kidOk, h4, h5, decide_eq_true rfl, Bool.and_true, Bool.and_true, decide_eq_true_iff]
    omega
  · have h1 := hn.host
    by_cases q0 : (l.getD q default).host < 0
    · exact .inl q0
    · exact .inr ((h (l.getD q default).host.toNat (by omega)).1.host q hq (by omega))
theorem cnt_kid_y {A ks : List Int} {i j : Nat} (hj : j < ks.length) (e : ks.getD j 0 = (i : Int)) : ((List.count (i : Int) (A ++ ks.take j) : Nat) : Int) + 1 = ((List.count (i : Int) (A ++ ks.take (j + 1)) : Nat) : Int) := by
  rw [take_s 0 hj, ← List.append_assoc, List.count_append (l₁ := A ++ ks.take j), e]; simp
theorem cnt_kid_n {A ks : List Int} {i j : Nat} (hj : j < ks.length) (e : ¬ ks.getD j 0 = (i : Int)) : ((List.count (i : Int) (A ++ ks.take j) : Nat) : Int) = ((List.count (i : Int) (A ++ ks.take (j + 1)) : Nat) : Int) := by
  rw [take_s 0 hj, ← List.append_assoc, List.count_append (l₁ := A ++ ks.take j), List.count_singleton]
  have : (ks.getD j 0 == (i : Int)) = false := by simpa using e
  rw [this]; rfl
theorem cnt_flat {l : List Nd} {i j k : Nat} (hk : k < l.length) (hj : (l.getD k default).kids.length ≤ j) : ((List.count (i : Int) ((l.take k).flatMap Nd.kids ++ (l.getD k default).kids.take j) : Nat) : Int) = ((List.count (i : Int) ((l.take (k + 1)).flatMap Nd.kids) : Nat) : Int) := by
  rw [flat_take_s hk, List.take_of_length_le hj]
theorem cnt_host_y {l : List Nd} {i k : Nat} (hk : k < l.length) (e : (l.getD k default).host = (i : Int)) : ((List.count (i : Int) ((l.take k).map Nd.host) : Nat) : Int) + 1 = ((List.count (i : Int) ((l.take (k + 1)).map Nd.host) : Nat) : Int) := by
  rw [map_take_s default hk, List.count_append, e]; simp
theorem cnt_host_n {l : List Nd} {i k : Nat} (hk : k < l.length) (e : ¬ (l.getD k default).host = (i : Int)) : ((List.count (i : Int) ((l.take k).map Nd.host) : Nat) : Int) = ((List.count (i : Int) ((l.take (k + 1)).map Nd.host) : Nat) : Int) := by
  rw [map_take_s default hk, List.count_append, List.count_singleton]
  have : ((l.getD k default).host == (i : Int)) = false := by simpa using e
  rw [this]; rfl
theorem link1_neg {l : List Nd} {q : Nat} {c : Int} (hc : c ∈ (l.getD q default).kids) (h : c < 0) : link1 l q = false := link1_kid hc (by
  simp only [kidOk, decide_eq_false (show ¬ 0 ≤ c by omega), Bool.false_and])
theorem link1_self {l : List Nd} {i q : Nat} {c : Int} (hc : c ∈ (l.getD q default).kids) (e : c = (i : Int)) (h : ((!(l.getD i default).used) || (!decide ((l.getD i default).par = (q : Int)))) = true) : link1 l q = false := link1_kid hc (by
  subst e
  simp only [kidOk, Int.toNat_natCast]
  cases hx : (l.getD i default).used <;> cases hz : decide ((l.getD i default).par = (q : Int)) <;> simp_all)
theorem self_ok {l : List Nd} {i q : Nat} (h : ((!(l.getD i default).used) || (!decide ((l.getD i default).par = (q : Int)))) = false) : (l.getD i default).used = true ∧ (l.getD i default).par = (q : Int) := by
  simp only [Bool.or_eq_false_iff, Bool.not_eq_false', decide_eq_true_eq] at h; exact h
theorem link1_h {l : List Nd} {i q : Nat} (e : (l.getD q default).host = (i : Int)) (h : (l.getD i default).used = false) : link1 l q = false := link1_host (by omega) (by rw [e]; exact h)
theorem link2_ref {l : List Nd} (hN : nodesErr l = 0) {i : Nat} (hi : i < l.length) : link2 l i = !(((decide (1 < (((l.flatMap Nd.kids).count (i : Int) : Nat) : Int)) || decide (1 < (((l.map Nd.host).count (i : Int) : Nat) : Int))) || (decide (0 < (((l.flatMap Nd.kids).count (i : Int) : Nat) : Int)) != (!decide ((l.getD i default).par = -1)))) || decide ((l.length : Int) < ((line l (i : Int)).length : Int))) := by
  have hp := (nodesErr_at hN hi).par
  rw [line_long hN hi]
  unfold link2 kcnt rcnt
  have e3 : decide (0 ≤ (l.getD i default).par) = !decide ((l.getD i default).par = -1) := by rw [← decide_not, Bool.eq_iff_iff, decide_eq_true_iff, decide_eq_true_iff]; omega
  rw [e3]
  generalize List.count (i : Int) (l.flatMap Nd.kids) = A
  generalize List.count (i : Int) (l.map Nd.host) = B
  generalize decide (upN l l.length (i : Int) < 0) = u
  generalize decide ((l.getD i default).par = -1) = p
  have e1 : decide (A ≤ 1) = !decide ((1 : Int) < (A : Int)) := by rw [← decide_not, Bool.eq_iff_iff, decide_eq_true_iff, decide_eq_true_iff]; omega
  have e2 : decide (B ≤ 1) = !decide ((1 : Int) < (B : Int)) := by rw [← decide_not, Bool.eq_iff_iff, decide_eq_true_iff, decide_eq_true_iff]; omega
  have e4 : decide (0 < A) = decide ((0 : Int) < (A : Int)) := by rw [Bool.eq_iff_iff, decide_eq_true_iff, decide_eq_true_iff]; omega
  rw [e1, e2, e4]
  cases decide ((1 : Int) < (A : Int)) <;> cases decide ((1 : Int) < (B : Int)) <;> cases decide ((0 : Int) < (A : Int)) <;> cases p <;> cases u <;> rfl
end Go.Proofs.Ytmcdamcedemdiaa
namespace Go.Proofs.Ytmcdamcedemdiaa
open Go.RowKit Go.Eng
theorem line_ct (l : List Nd) (k0 : Int) (h24 : l.length ≤ 24) : Ct Try.prog 80 [SV.agg 1 (stG l), iv (k0)] (inRow (line l k0)) := by
 refine CtO 34 Try.func80 rfl rfl rfl fun E => row_lenA 0 (V (s := 0) rfl) rfl rfl fun hl0_0 => Sq <| Rt <| BxA 1 (V rfl) rfl rfl <| U (As (Vn (k := 1) (get := rowG inCell 0 []))) <| Nt <| Sq <| Rt <| t_nilO 2 1 (rowG inCell 0 []) 3 (.inl rfl) rfl <| Nt <| Sq <| Bo <| c_mv 2 60 rfl rfl <| Lo (uc2 fun (acc : List Int) (k : Int) => ⟨[(1, iv (k)), (2, SV.bp 1 0), (5, SV.own 60)], [(1, Own.box 1 (fun zt => SV.renm (mvN 2 60) ((stG l) zt)) 24), (60, ownOf inCell 1 0 acc 3)]⟩) (uc2 fun (acc : List Int) (k : Int) => acc.length ≤ l.length + 1 ∧ line l k0 = acc ++ lineN l (l.length + 1 - acc.length) k) (uc2 fun (acc : List Int) (k : Int) => l.length + 1 - acc.length) ([], k0) (by show ([]).length ≤ l.length + 1 ∧ line l k0 = ([]) ++ lineN l (l.length + 1 - ([]).length) k0; exact ⟨Nat.zero_le _, rfl⟩) (We (ow := [(1, Own.box 1 (fun zt => SV.renm (mvN 2 60) ((stG l) zt)) 24), (60, ownOf inCell 1 0 (([])) 3)]) (Vs rfl) (by exact ⟨⟨_, rfl, rfl, rfl, (An rfl)⟩, ⟨_, rfl, rfl⟩, Z⟩)) <| ?_
 ·rintro ⟨acc, k⟩ hI1
  have hJ1 : acc.length ≤ l.length + 1 ∧ line l k0 = acc ++ lineN l (l.length + 1 - acc.length) k := hI1
  have hac := hJ1.1
  have hln := hJ1.2
  refine Sq <| Sq <| Rq <| O (Mv (V rfl)) <| O (Ge (V rfl) K) <| O (Mv (V rfl)) <| Og (Gy rfl rfl) (fun hg => Mv (V rfl)) <| Og (Gy rfl rfl) (fun hg => FlB _ _ (V rfl) Un24 rfl 0 Sz22) <| Og (Gy rfl rfl) (fun hg => LdB (Vg (V rfl) hg) rfl Ga22 (by decide)) <| Og (Gy rfl rfl) (fun hg => Ln (Vg (V rfl) hg) ts22) <| Og (Gy rfl rfl) (fun hg => Lt (Vg (V rfl) hg) (Vg (V rfl) hg)) <| O (Qa (V rfl) (fun h => Vg (V rfl) h)) <| O (Mv (V rfl)) <| Og (Gy rfl rfl) (fun hg => Mv (V rfl)) <| Og (Gy rfl rfl) (fun hg => LnO (Vg (V rfl) hg) rfl ts33) <| Og (Gy rfl rfl) (fun hg => FlB _ _ (V rfl) Un24 rfl 0 Sz22) <| Og (Gy rfl rfl) (fun hg => LdB (Vg (V rfl) hg) rfl Ga22 (by decide)) <| Og (Gy rfl rfl) (fun hg => Ln (Vg (V rfl) hg) ts22) <| Og (Gy rfl rfl) (fun hg => Le (Vg (V rfl) hg) (Vg (V rfl) hg)) <| O (Qa (V rfl) (fun h => Vg (V rfl) h)) <| Nq <| Cd (V rfl) (fun hc1 => ?_) (fun hc1 => ?_)
  ·have hc1s := hc1; try simp only [BL] at hc1s
   exact Sk <| Bo <| Sq <| Rt <| U (Mv (V rfl)) <| U (Mv (V rfl)) <| Uw (w_bs (n := 1) (zget := fun _ => iv 0) [(fun _ => iv (k))] (rowG inCell 0 [k]) Un33 Sz3 zero3 (by decide) rfl (by decide) ⟨⟨rfl, .inr ⟨rfl, (V rfl), rfl⟩, rfl⟩, Z⟩ ⟨Z, ⟨Z, rfl⟩⟩) <| Ap 3 (rowG inCell 0 (acc ++ ([k]))) eo33 (V rfl) rfl (V rfl) rfl (len_app acc ([k])) (by first | (simp only [maxLen, List.length_append, List.length_set, List.length_nil, List.length_cons]; omega) | (simp only [maxLen]; omega)) (by first | (simp only [List.length_append, List.length_set, List.length_nil, List.length_cons]; omega) | (omega)) (app_typed (l := acc) (m := ([k]))) <| U (As (V rfl)) <| Nt <| Rq <| O (FlB _ _ (V rfl) Un24 rfl 0 Sz22) <| O (LdB (V rfl) rfl Ga22 (by decide)) <| O (Mv (V rfl)) <| O (Ix (V rfl) (V rfl) ts22 te22 (by omega) (by omega)) <| O (LdA (V rfl) Ga61 Sz61 (by decide)) <| CQ en121 (by exact ⟨⟨(Vi (g' := ndCell ⟨(l.getD (Int.toNat k) default).used, (l.getD (Int.toNat k) default).uses, (l.getD (Int.toNat k) default).tag, (l.getD (Int.toNat k) default).mark, (l.getD (Int.toNat k) default).par, (l.getD (Int.toNat k) default).kids, (l.getD (Int.toNat k) default).host, (l.getD (Int.toNat k) default).closed⟩) (V rfl) ⟨⟨⟨⟨⟨⟨⟨⟨Z, Ir⟩, Ir⟩, Ir⟩, Ir⟩, Ir⟩, Ir⟩, Ir⟩, Ir⟩), rfl⟩, Z⟩) (runder_ct (l.getD (Int.toNat k) default)) <| O (As (V rfl)) <| Nq <| k_mv 3 60 rfl rfl <| NxH (acc ++ [k], runder (l.getD (Int.toNat k) default)) (fun _ _ h => h) (by show (acc ++ [k]).length ≤ l.length + 1 ∧ line l k0 = (acc ++ [k]) ++ lineN l (l.length + 1 - (acc ++ [k]).length) (runder (l.getD (Int.toNat k) default)); exact ⟨by simp only [List.length_append, List.length_cons, List.length_nil]; omega, line_s hln (by omega) (by omega)⟩) (by show l.length + 1 - (acc ++ [k]).length < l.length + 1 - acc.length; simp only [List.length_append, List.length_cons, List.length_nil]; omega) (We (ow := [(1, Own.box 1 (fun zt => SV.renm (mvN 2 60) ((stG l) zt)) 24), (60, ownOf inCell 1 0 ((acc ++ [k])) 3)]) (Vs rfl) (by exact ⟨⟨_, rfl, rfl, rfl, (An rfl)⟩, ⟨_, rfl, rfl⟩, Z⟩))
  ·have hc1s := hc1; try simp only [BL] at hc1s
   exact Ex <| Sq <| Rq <| O (Mv (V rfl)) <| O (As (V rfl)) <| Nq <| FzC 60 rfl <| Rx <| R1 rfl (V rfl) rfl (by show inRow acc = inRow (line l k0); exact congrArg inRow (line_e hln hc1 hac))
theorem rcheck_ct (l : List Nd) (hb : ∀ n ∈ l, n.kids.length ≤ 17592186043904) : Ct Try.prog 51 [SV.agg 1 (stG l)] (iv (checkSt l)) := by
 refine CtO 211 Try.func51 rfl rfl rfl fun E => row_lenA 0 (V (s := 0) rfl) rfl rfl fun hl0_0 => Sq <| Rt <| BxA 1 (V rfl) rfl rfl <| U (As K) <| Nt <| Sq <| Sq <| Rq <| O (FlB _ _ (V rfl) Un24 rfl 0 Sz22) <| O (LdB (V rfl) rfl Ga22 (by decide)) <| O (Ln (V rfl) ts22) <| O (Gt (V rfl) K) <| Nq <| Cd (V rfl) (fun hc1 => ?_) (fun hc1 => ?_)
 ·have hc1s := hc1; try simp only [BL] at hc1s
  exact Sq <| Rq <| O (As K) <| Nq <| Rx <| R1 rfl (V rfl) rfl (by show iv (1) = iv (checkSt l); rw [checkSt_1 hc1s])
 ·have hc1s := hc1; try simp only [BL] at hc1s
  have h24 : l.length ≤ 24 := by omega
  refine Sk <| Sq <| Sq <| Rq <| O (FlB _ _ (V rfl) Un24 rfl 0 Sz22) <| O (LdB (V rfl) rfl Ga22 (by decide)) <| O (Ln (V rfl) ts22) <| O (Mv K) <| Nq <| Bo <| Lo (fun (i : Nat) => ⟨[(1, SV.bp 1 0), (21, ndRow l), (22, iv ((l.length : Int))), (23, iv ((i : Int)))], [(1, Own.box 1 (stG l) 24)]⟩) (fun (i : Nat) => i ≤ l.length ∧ nodesErr l = firstErr (errAt l) i (l.length - i)) (fun (i : Nat) => l.length - i) 0 (by show 0 ≤ l.length ∧ nodesErr l = firstErr (errAt l) 0 (l.length - 0); exact ⟨Nat.zero_le _, rfl⟩) (We (ow := [(1, Own.box 1 (stG l) 24)]) (Vs rfl) (by exact ⟨⟨_, rfl, rfl, rfl, (An rfl)⟩, Z⟩)) <| ?_
  ·rintro i hI1
   have hJ1 : i ≤ l.length ∧ nodesErr l = firstErr (errAt l) i (l.length - i) := hI1
   refine Sq <| Rq <| O (Lt (V rfl) (V rfl)) <| Nq <| Sq <| Cd (V rfl) (fun hc2 => ?_) (fun hc2 => ?_)
   ·have hc2s := hc2; try simp only [BL] at hc2s
    have hkb := hb _ (mem_getD (d := default) (show i < l.length by omega))
    refine Sk <| Sq <| Bo <| Sq <| Rt <| U (IxN (i := i) (V rfl) (V rfl) ts22 te22 (by omega)) <| U (LdA (V rfl) Ga61 Sz61 (by decide)) <| Al 2 zero61 rfl rfl <| StA (V rfl) rfl (V rfl) Sz61 <| Nt <| Sq <| Sq <| Rq <| O (FlB _ _ (V rfl) Un61 rfl 0 Sz3) <| O (LdB (V rfl) rfl Ga3 (by decide)) <| CQ en120 (by exact ⟨⟨(V rfl), rfl⟩, ⟨K, rfl⟩, ⟨K, rfl⟩, Z⟩) (in_ct ((l.getD i default).uses) 0 1000000) <| O (Qo (V rfl)) <| O (Mv (V rfl)) <| Og (Gn rfl rfl) (fun hg => FlB _ _ (V rfl) Un61 rfl 0 Sz3) <| Og (Gn rfl rfl) (fun hg => LdB (Vg (V rfl) hg) rfl Ga3 (by decide)) <| CQg (Gn rfl rfl) en120 (fun hg => (by exact ⟨⟨(Vg (V rfl) hg), rfl⟩, ⟨K, rfl⟩, ⟨K, rfl⟩, Z⟩)) (fun hg => in_ct ((l.getD i default).tag) 0 99) <| Og (Gn rfl rfl) (fun hg => Qo (Vg (V rfl) hg)) <| O (Qr (V rfl) (fun h => Vg (V rfl) (notT h))) <| O (Mv (V rfl)) <| Og (Gn rfl rfl) (fun hg => FlB _ _ (V rfl) Un61 rfl 0 Sz3) <| Og (Gn rfl rfl) (fun hg => LdB (Vg (V rfl) hg) rfl Ga3 (by decide)) <| CQg (Gn rfl rfl) en120 (fun hg => (by exact ⟨⟨(Vg (V rfl) hg), rfl⟩, ⟨K, rfl⟩, ⟨K, rfl⟩, Z⟩)) (fun hg => in_ct ((l.getD i default).mark) ((-1000000)) 1000000) <| Og (Gn rfl rfl) (fun hg => Qo (Vg (V rfl) hg)) <| O (Qr (V rfl) (fun h => Vg (V rfl) (notT h))) <| Nq <| Cd (V rfl) (fun hc3 => ?_) (fun hc3 => ?_)
    ·have hc3s := hc3; try simp only [BL] at hc3s
     exact Sq <| Rq <| O (As K) <| Nq <| Rx <| R1 rfl (V rfl) rfl (by show iv (2) = iv (checkSt l); rw [checkSt_n h24 (firstErr_hit (by omega) hJ1.2 (nodeErr_2 ((rng_ref _).symm.trans hc3)) (by decide)) (by decide)])
    ·have hc3s := hc3; try simp only [BL] at hc3s
     have hr : rangeBad (l.getD i default) = false := (rng_ref _).symm.trans hc3
     refine Sk <| Sq <| Sq <| Rq <| O (FlB _ _ (V rfl) Un61 rfl 0 Sz33) <| O (LdB (V rfl) rfl Ga33 (by decide)) <| O (Ln (V rfl) ts33) <| O (Mv K) <| Nq <| Bo <| Lo (fun (j : Nat) => ⟨[(1, SV.bp 1 0), (4, SV.bp 2 0), (21, ndRow l), (22, iv ((l.length : Int))), (23, iv ((i : Int))), (44, inRow ((l.getD i default).kids)), (45, iv ((((l.getD i default).kids).length : Int))), (46, iv ((j : Int)))], [(1, Own.box 1 (stG l) 24), (2, Own.box 8 (fun zi => (rowG ndCell default l) i (0 + zi)) 61)]⟩) (fun (j : Nat) => j ≤ (l.getD i default).kids.length ∧ ∀ q, q < j → whoBad (l.length : Int) ((l.getD i default).kids.getD q 0) = false) (fun (j : Nat) => (l.getD i default).kids.length - j) 0 (by show 0 ≤ (l.getD i default).kids.length ∧ ∀ q, q < 0 → whoBad (l.length : Int) ((l.getD i default).kids.getD q 0) = false; exact ⟨Nat.zero_le _, fun q hq => absurd hq (Nat.not_lt_zero _)⟩) (We (ow := [(1, Own.box 1 (stG l) 24), (2, Own.box 8 (fun zi => (rowG ndCell default l) i (0 + zi)) 61)]) (Vs rfl) (by exact ⟨⟨_, rfl, rfl, rfl, (An rfl)⟩, ⟨_, rfl, rfl, rfl, (An rfl)⟩, Z⟩)) <| ?_
     ·rintro j hI2
      have hJ2 : j ≤ (l.getD i default).kids.length ∧ ∀ q, q < j → whoBad (l.length : Int) ((l.getD i default).kids.getD q 0) = false := hI2
      have hj1 := hJ2.1
      have hall := hJ2.2
      refine Sq <| Rq <| O (Lt (V rfl) (V rfl)) <| Nq <| Sq <| Cd (V rfl) (fun hc4 => ?_) (fun hc4 => ?_)
      ·have hc4s := hc4; try simp only [BL] at hc4s
       refine Sk <| Sq <| Bo <| Sq <| Rq <| O (IxN (i := j) (V rfl) (V rfl) ts33 te33 (by omega)) <| O (Ld (V rfl) Ga3 (by decide)) <| O (As (V rfl)) <| Nq <| Sq <| Rq <| O (Mv (V rfl)) <| O (FlB _ _ (V rfl) Un24 rfl 0 Sz22) <| O (LdB (V rfl) rfl Ga22 (by decide)) <| O (Ln (V rfl) ts22) <| O (Sb (V rfl) K (by omega)) <| CQ en120 (by exact ⟨⟨(V rfl), rfl⟩, ⟨K, rfl⟩, ⟨(V rfl), rfl⟩, Z⟩) (in_ct ((((l.getD i default).kids).getD j 0)) ((-1)) (((l.length : Int)) - 1)) <| O (Qo (V rfl)) <| Nq <| Cd (V rfl) (fun hc5 => ?_) (fun hc5 => ?_)
       ·have hc5s := hc5; try simp only [BL] at hc5s
        exact Sq <| Rq <| O (As K) <| Nq <| Rx <| R1 rfl (V rfl) rfl (by show iv (4) = iv (checkSt l); rw [checkSt_n h24 (firstErr_hit (by omega) hJ1.2 (nodeErr_4 hr (List.mem_append_left _ (mem_getD (show j < (l.getD i default).kids.length by omega))) ((who_ref _ _).symm.trans hc5)) (by decide)) (by decide)])
       ·have hc5s := hc5; try simp only [BL] at hc5s
        exact Sk <| Rq <| O (Ad (V rfl) K (by omega)) <| O (Mv (V rfl)) <| Nq <| Nx (j + 1) (by show (j + 1) ≤ (l.getD i default).kids.length ∧ ∀ q, q < (j + 1) → whoBad (l.length : Int) ((l.getD i default).kids.getD q 0) = false; exact ⟨by omega, idxF_s hall ((who_ref _ _).symm.trans hc5)⟩) (by show (l.getD i default).kids.length - (j + 1) < (l.getD i default).kids.length - j; omega) (We (ow := [(1, Own.box 1 (stG l) 24), (2, Own.box 8 (fun zi => (rowG ndCell default l) i (0 + zi)) 61)]) (Vs rfl) (by exact ⟨⟨_, rfl, rfl, rfl, (An rfl)⟩, ⟨_, rfl, rfl, rfl, (An rfl)⟩, Z⟩))
      ·have hc4s := hc4; try simp only [BL] at hc4s
       refine Ex <| Sq <| Sq <| Rq <| O (FlB _ _ (V rfl) Un61 rfl 0 Sz3) <| O (LdB (V rfl) rfl Ga3 (by decide)) <| O (FlB _ _ (V rfl) Un24 rfl 0 Sz22) <| O (LdB (V rfl) rfl Ga22 (by decide)) <| O (Ln (V rfl) ts22) <| O (Sb (V rfl) K (by omega)) <| CQ en120 (by exact ⟨⟨(V rfl), rfl⟩, ⟨K, rfl⟩, ⟨(V rfl), rfl⟩, Z⟩) (in_ct ((l.getD i default).par) ((-1)) (((l.length : Int)) - 1)) <| O (Qo (V rfl)) <| O (Mv (V rfl)) <| Og (Gn rfl rfl) (fun hg => FlB _ _ (V rfl) Un61 rfl 0 Sz3) <| Og (Gn rfl rfl) (fun hg => LdB (Vg (V rfl) hg) rfl Ga3 (by decide)) <| Og (Gn rfl rfl) (fun hg => FlB _ _ (V rfl) Un24 rfl 0 Sz22) <| Og (Gn rfl rfl) (fun hg => LdB (Vg (V rfl) hg) rfl Ga22 (by decide)) <| Og (Gn rfl rfl) (fun hg => Ln (Vg (V rfl) hg) ts22) <| Og (Gn rfl rfl) (fun hg => Sb (Vg (V rfl) hg) K (by have hgs := hg; try simp only [BL] at hgs; omega)) <| CQg (Gn rfl rfl) en120 (fun hg => (by exact ⟨⟨(Vg (V rfl) hg), rfl⟩, ⟨K, rfl⟩, ⟨(Vg (V rfl) hg), rfl⟩, Z⟩)) (fun hg => in_ct ((l.getD i default).host) ((-1)) (((l.length : Int)) - 1)) <| Og (Gn rfl rfl) (fun hg => Qo (Vg (V rfl) hg)) <| O (Qr (V rfl) (fun h => Vg (V rfl) (notT h))) <| Nq <| Cd (V rfl) (fun hc6 => ?_) (fun hc6 => ?_)
       ·have hc6s := hc6; try simp only [BL] at hc6s
        exact Sq <| Rq <| O (As K) <| Nq <| Rx <| R1 rfl (V rfl) rfl (by show iv (4) = iv (checkSt l); rw [checkSt_n h24 (firstErr_hit (by omega) hJ1.2 (who_par hr (by rw [← who_ref, ← who_ref]; exact hc6)) (by decide)) (by decide)])
       ·have hc6s := hc6; try simp only [BL] at hc6s
        have hw : (whoBad (l.length : Int) (l.getD i default).par || whoBad (l.length : Int) (l.getD i default).host) = false := by rw [← who_ref, ← who_ref]; exact hc6
        have hw2 := who_two (fun k hk => who_all hall (by omega) k hk) hw
        refine Sk <| Sq <| Rq <| O (FlB _ _ (V rfl) Un61 rfl 0 Sz3) <| O (LdB (V rfl) rfl Ga3 (by decide)) <| O (Ql (V rfl) K) <| O (Mv (V rfl)) <| Og (Gy rfl rfl) (fun hg => FlB _ _ (V rfl) Un61 rfl 0 Sz3) <| Og (Gy rfl rfl) (fun hg => LdB (Vg (V rfl) hg) rfl Ga3 (by decide)) <| Og (Gy rfl rfl) (fun hg => Ql (Vg (V rfl) hg) K) <| O (Qa (V rfl) (fun h => Vg (V rfl) h)) <| O (Mv (V rfl)) <| Og (Gy rfl rfl) (fun hg => FlB _ _ (V rfl) Un61 rfl 0 Sz3) <| Og (Gy rfl rfl) (fun hg => LdB (Vg (V rfl) hg) rfl Ga3 (by decide)) <| Og (Gy rfl rfl) (fun hg => Ql (Vg (V rfl) hg) K) <| O (Qa (V rfl) (fun h => Vg (V rfl) h)) <| O (Mv (V rfl)) <| Og (Gy rfl rfl) (fun hg => FlB _ _ (V rfl) Un61 rfl 0 Sz3) <| Og (Gy rfl rfl) (fun hg => LdB (Vg (V rfl) hg) rfl Ga3 (by decide)) <| Og (Gy rfl rfl) (fun hg => Ql (Vg (V rfl) hg) K) <| O (Qa (V rfl) (fun h => Vg (V rfl) h)) <| O (Mv (V rfl)) <| Og (Gy rfl rfl) (fun hg => FlB _ _ (V rfl) Un61 rfl 0 Sz33) <| Og (Gy rfl rfl) (fun hg => LdB (Vg (V rfl) hg) rfl Ga33 (by decide)) <| Og (Gy rfl rfl) (fun hg => Ln (Vg (V rfl) hg) ts33) <| Og (Gy rfl rfl) (fun hg => Ql (Vg (V rfl) hg) K) <| O (Qa (V rfl) (fun h => Vg (V rfl) h)) <| O (Mv (V rfl)) <| Og (Gy rfl rfl) (fun hg => FlB _ _ (V rfl) Un61 rfl 0 Sz4) <| Og (Gy rfl rfl) (fun hg => LdB (Vg (V rfl) hg) rfl Ga4 (by decide)) <| Og (Gy rfl rfl) (fun hg => Qo (Vg (V rfl) hg)) <| O (Qa (V rfl) (fun h => Vg (V rfl) h)) <| O (As (V rfl)) <| Nq <| Bo <| Sq <| Sq <| Rq <| O (FlB _ _ (V rfl) Un61 rfl 0 Sz4) <| O (LdB (V rfl) rfl Ga4 (by decide)) <| ?_
        refine O (Qo (V rfl)) <| O (Mv (V rfl)) <| Og (Gy rfl rfl) (fun hg => Mv (V rfl)) <| Og (Gy rfl rfl) (fun hg => Qo (Vg (V rfl) hg)) <| O (Qa (V rfl) (fun h => Vg (V rfl) h)) <| O (As (V rfl)) <| Nq <| Cd (V rfl) (fun hc7 => ?_) (fun hc7 => ?_)
        ·have hc7s := hc7; try simp only [BL] at hc7s
         exact Sk <| c_condT (V rfl) hc7 <| Sq <| Rq <| O (As K) <| Nq <| Rx <| R1 rfl (V rfl) rfl (by show iv (3) = iv (checkSt l); rw [checkSt_n h24 (firstErr_hit (by omega) hJ1.2 (err_a hr hw2 hc7) (by decide)) (by decide)])
        ·have hc7s := hc7; try simp only [BL] at hc7s
         refine Sq <| Rq <| O (FlB _ _ (V rfl) Un61 rfl 0 Sz4) <| O (LdB (V rfl) rfl Ga4 (by decide)) <| O (Mv (V rfl)) <| Og (Gy rfl rfl) (fun hg => FlB _ _ (V rfl) Un61 rfl 0 Sz3) <| Og (Gy rfl rfl) (fun hg => LdB (Vg (V rfl) hg) rfl Ga3 (by decide)) <| Og (Gy rfl rfl) (fun hg => Ql (Vg (V rfl) hg) K) <| O (Qa (V rfl) (fun h => Vg (V rfl) h)) <| O (As (V rfl)) <| Nq <| Cd (V rfl) (fun hc8 => ?_) (fun hc8 => ?_)
         ·have hc8s := hc8; try simp only [BL] at hc8s
          exact Sk <| c_condT (V rfl) hc8 <| Sq <| Rq <| O (As K) <| Nq <| Rx <| R1 rfl (V rfl) rfl (by show iv (3) = iv (checkSt l); rw [checkSt_n h24 (firstErr_hit (by omega) hJ1.2 (err_b hr hw2 hc8) (by decide)) (by decide)])
         ·have hc8s := hc8; try simp only [BL] at hc8s
          refine Sq <| Rq <| O (FlB _ _ (V rfl) Un61 rfl 0 Sz3) <| O (LdB (V rfl) rfl Ga3 (by decide)) <| O (Ql (V rfl) K) <| O (Mv (V rfl)) <| Og (Gy rfl rfl) (fun hg => FlB _ _ (V rfl) Un61 rfl 0 Sz4) <| Og (Gy rfl rfl) (fun hg => LdB (Vg (V rfl) hg) rfl Ga4 (by decide)) <| O (Qa (V rfl) (fun h => Vg (V rfl) h)) <| O (As (V rfl)) <| Nq <| Cd (V rfl) (fun hc9 => ?_) (fun hc9 => ?_)
          ·have hc9s := hc9; try simp only [BL] at hc9s
           exact Sk <| c_condT (V rfl) hc9 <| Sq <| Rq <| O (As K) <| Nq <| Rx <| R1 rfl (V rfl) rfl (by show iv (3) = iv (checkSt l); rw [checkSt_n h24 (firstErr_hit (by omega) hJ1.2 (err_c hr hw hw2 hc9) (by decide)) (by decide)])
          ·have hc9s := hc9; try simp only [BL] at hc9s
           refine Rq <| O (FlB _ _ (V rfl) Un61 rfl 0 Sz3) <| O (LdB (V rfl) rfl Ga3 (by decide)) <| O (Qn (V rfl) K) <| O (Mv (V rfl)) <| Og (Gy rfl rfl) (fun hg => FlB _ _ (V rfl) Un61 rfl 0 Sz3) <| Og (Gy rfl rfl) (fun hg => LdB (Vg (V rfl) hg) rfl Ga3 (by decide)) <| Og (Gy rfl rfl) (fun hg => Qn (Vg (V rfl) hg) K) <| O (Qa (V rfl) (fun h => Vg (V rfl) h)) <| O (As (V rfl)) <| Nq <| Cd (V rfl) (fun hc10 => ?_) (fun hc10 => ?_)
           ·have hc10s := hc10; try simp only [BL] at hc10s
            exact Sq <| Rq <| O (As K) <| Nq <| Rx <| R1 rfl (V rfl) rfl (by show iv (3) = iv (checkSt l); rw [checkSt_n h24 (firstErr_hit (by omega) hJ1.2 (err_d hr hw hw2 hc10) (by decide)) (by decide)])
           ·have hc10s := hc10; try simp only [BL] at hc10s
            exact Sk <| Rq <| O (Ad (V rfl) K (by omega)) <| O (Mv (V rfl)) <| Nq <| Nx (i + 1) (by show (i + 1) ≤ l.length ∧ nodesErr l = firstErr (errAt l) (i + 1) (l.length - (i + 1)); exact ⟨by omega, firstErr_next (by omega) hJ1.2 (err_0 hr hw hw2 hc7 hc8 hc9 hc10)⟩) (by show l.length - (i + 1) < l.length - i; omega) (We (ow := [(1, Own.box 1 (stG l) 24)]) (Vs rfl) (by exact ⟨⟨_, rfl, rfl, rfl, (An rfl)⟩, Z⟩))
   ·have hc2s := hc2; try simp only [BL] at hc2s
    have hN0 : nodesErr l = 0 := firstErr_end (by omega) hJ1.2
    refine Ex <| Sq <| Sq <| Rq <| O (FlB _ _ (V rfl) Un24 rfl 0 Sz22) <| O (LdB (V rfl) rfl Ga22 (by decide)) <| O (Ln (V rfl) ts22) <| O (Mv K) <| Nq <| Bo <| Lo (fun (i : Nat) => ⟨[(1, SV.bp 1 0), (137, ndRow l), (138, iv ((l.length : Int))), (139, iv ((i : Int)))], [(1, Own.box 1 (stG l) 24)]⟩) (fun (i : Nat) => i ≤ l.length ∧ ∀ q, q < i → RL l q) (fun (i : Nat) => l.length - i) 0 (by show 0 ≤ l.length ∧ ∀ q, q < 0 → RL l q; exact ⟨Nat.zero_le _, fun q hq => absurd hq (Nat.not_lt_zero _)⟩) (We (ow := [(1, Own.box 1 (stG l) 24)]) (Vs rfl) (by exact ⟨⟨_, rfl, rfl, rfl, (An rfl)⟩, Z⟩)) <| ?_
    ·rintro i hI3
     have hJ3 : i ≤ l.length ∧ ∀ q, q < i → RL l q := hI3
     have hi1 := hJ3.1
     have hRL := hJ3.2
     refine Sq <| Rq <| O (Lt (V rfl) (V rfl)) <| Nq <| Sq <| Cd (V rfl) (fun hc11 => ?_) (fun hc11 => ?_)
     ·have hc11s := hc11; try simp only [BL] at hc11s
      have hi : i < l.length := by omega
      refine Sk <| Sq <| Bo <| Sq <| Rt <| U (Mv (V rfl)) <| U (IxN (i := i) (V rfl) (V rfl) ts22 te22 (by omega)) <| U (LdA (V rfl) Ga61 Sz61 (by decide)) <| Al 3 zero61 rfl rfl <| U (As (V rfl)) <| StA (V rfl) rfl (V rfl) Sz61 <| Nt <| Sq <| Rq <| O (As K) <| Nq <| Sq <| Rq <| O (As K) <| Nq <| Sq <| Sq <| Rq <| O (FlB _ _ (V rfl) Un24 rfl 0 Sz22) <| O (LdB (V rfl) rfl Ga22 (by decide)) <| O (Ln (V rfl) ts22) <| O (Mv K) <| Nq <| Bo <| Lo (fun (k : Nat) => ⟨[(1, SV.bp 1 0), (8, iv ((i : Int))), (9, SV.bp 3 0), (10, iv (((List.count (i : Int) ((l.take k).flatMap Nd.kids) : Nat) : Int))), (11, iv (((List.count (i : Int) ((l.take k).map Nd.host) : Nat) : Int))), (137, ndRow l), (138, iv ((l.length : Int))), (139, iv ((i : Int))), (145, ndRow l), (146, iv ((l.length : Int))), (147, iv ((k : Int)))], [(1, Own.box 1 (stG l) 24), (3, Own.box 8 (fun zi => (rowG ndCell default l) i (0 + zi)) 61)]⟩) (fun (k : Nat) => k ≤ l.length ∧ RLink l i k) (fun (k : Nat) => l.length - k) 0 (by show 0 ≤ l.length ∧ RLink l i 0; exact ⟨Nat.zero_le _, rlink_0 l i⟩) (We (sl := [(1, SV.bp 1 0), (8, iv ((i : Int))), (9, SV.bp 3 0), (10, iv (((List.count (i : Int) ((l.take 0).flatMap Nd.kids) : Nat) : Int))), (11, iv (((List.count (i : Int) ((l.take 0).map Nd.host) : Nat) : Int))), (137, ndRow l), (138, iv ((l.length : Int))), (139, iv ((i : Int))), (145, ndRow l), (146, iv ((l.length : Int))), (147, iv ((0 : Int)))]) (ow := [(1, Own.box 1 (stG l) 24), (3, Own.box 8 (fun zi => (rowG ndCell default l) i (0 + zi)) 61)]) (by exact ⟨V rfl, V rfl, V rfl, val_eq (V rfl) rfl, val_eq (V rfl) rfl, V rfl, V rfl, V rfl, V rfl, V rfl, V rfl, Z⟩) (by exact ⟨⟨_, rfl, rfl, rfl, (An rfl)⟩, ⟨_, rfl, rfl, rfl, (An rfl)⟩, Z⟩)) <| ?_
      ·rintro k hI4
       have hJ4 : k ≤ l.length ∧ RLink l i k := hI4
       have hk1 := hJ4.1
       have hrk := hJ4.2
       refine Sq <| Rq <| O (Lt (V rfl) (V rfl)) <| Nq <| Sq <| Cd (V rfl) (fun hc12 => ?_) (fun hc12 => ?_)
       ·have hc12s := hc12; try simp only [BL] at hc12s
        have hk : k < l.length := by omega
        have hkb := hb _ (mem_getD (d := default) hk)
        have hfl := flat_len (l := l.take k) (M := 17592186043904) fun n hn => hb n (List.mem_of_mem_take hn)
        rw [List.length_take] at hfl
        have hch := List.count_le_length (a := (i : Int)) (l := (l.take k).map Nd.host)
        simp only [List.length_map, List.length_take] at hch
        refine Sk <| Sq <| Bo <| Sq <| Rt <| U (Mv (V rfl)) <| U (IxN (i := k) (V rfl) (V rfl) ts22 te22 (by omega)) <| U (LdA (V rfl) Ga61 Sz61 (by decide)) <| Al 4 zero61 rfl rfl <| U (As (V rfl)) <| StA (V rfl) rfl (V rfl) Sz61 <| Nt <| Sq <| Sq <| Rq <| O (FlB _ _ (V rfl) Un61 rfl 0 Sz33) <| O (LdB (V rfl) rfl Ga33 (by decide)) <| O (Ln (V rfl) ts33) <| O (Mv K) <| Nq <| Bo <| Lo (fun (j : Nat) => ⟨[(1, SV.bp 1 0), (8, iv ((i : Int))), (9, SV.bp 3 0), (10, iv (((List.count (i : Int) ((l.take k).flatMap Nd.kids ++ (l.getD k default).kids.take j) : Nat) : Int))), (11, iv (((List.count (i : Int) ((l.take k).map Nd.host) : Nat) : Int))), (12, iv ((k : Int))), (13, SV.bp 4 0), (137, ndRow l), (138, iv ((l.length : Int))), (139, iv ((i : Int))), (145, ndRow l), (146, iv ((l.length : Int))), (147, iv ((k : Int))), (153, inRow ((l.getD k default).kids)), (154, iv ((((l.getD k default).kids).length : Int))), (155, iv ((j : Int)))], [(1, Own.box 1 (stG l) 24), (3, Own.box 8 (fun zi => (rowG ndCell default l) i (0 + zi)) 61), (4, Own.box 8 (fun zi => (rowG ndCell default l) k (0 + zi)) 61)]⟩) (fun (j : Nat) => j ≤ (l.getD k default).kids.length ∧ ∀ q, q < j → kidR l i k ((l.getD k default).kids.getD q 0)) (fun (j : Nat) => (l.getD k default).kids.length - j) 0 (by show 0 ≤ (l.getD k default).kids.length ∧ ∀ q, q < 0 → kidR l i k ((l.getD k default).kids.getD q 0); exact ⟨Nat.zero_le _, fun q hq => absurd hq (Nat.not_lt_zero _)⟩) (We (sl := [(1, SV.bp 1 0), (8, iv ((i : Int))), (9, SV.bp 3 0), (10, iv (((List.count (i : Int) ((l.take k).flatMap Nd.kids ++ (l.getD k default).kids.take 0) : Nat) : Int))), (11, iv (((List.count (i : Int) ((l.take k).map Nd.host) : Nat) : Int))), (12, iv ((k : Int))), (13, SV.bp 4 0), (137, ndRow l), (138, iv ((l.length : Int))), (139, iv ((i : Int))), (145, ndRow l), (146, iv ((l.length : Int))), (147, iv ((k : Int))), (153, inRow ((l.getD k default).kids)), (154, iv ((((l.getD k default).kids).length : Int))), (155, iv ((0 : Int)))]) (ow := [(1, Own.box 1 (stG l) 24), (3, Own.box 8 (fun zi => (rowG ndCell default l) i (0 + zi)) 61), (4, Own.box 8 (fun zi => (rowG ndCell default l) k (0 + zi)) 61)]) (by exact ⟨V rfl, V rfl, V rfl, val_eq (V rfl) (congrArg iv (by rw [List.take_zero, List.append_nil])), V rfl, V rfl, V rfl, V rfl, V rfl, V rfl, V rfl, V rfl, V rfl, V rfl, V rfl, V rfl, Z⟩) (by exact ⟨⟨_, rfl, rfl, rfl, (An rfl)⟩, ⟨_, rfl, rfl, rfl, (An rfl)⟩, ⟨_, rfl, rfl, rfl, (An rfl)⟩, Z⟩)) <| ?_
        ·rintro j hI5
         have hJ5 : j ≤ (l.getD k default).kids.length ∧ ∀ q, q < j → kidR l i k ((l.getD k default).kids.getD q 0) := hI5
         have hj1 := hJ5.1
         have hkr := hJ5.2
         refine Sq <| Rq <| O (Lt (V rfl) (V rfl)) <| Nq <| Sq <| Cd (V rfl) (fun hc13 => ?_) (fun hc13 => ?_)
         ·have hc13s := hc13; try simp only [BL] at hc13s
          have hj : j < (l.getD k default).kids.length := by omega
          have hcc := List.count_le_length (a := (i : Int)) (l := (l.take k).flatMap Nd.kids ++ (l.getD k default).kids.take j)
          simp only [List.length_append, List.length_take] at hcc
          refine Sk <| Sq <| Bo <| Sq <| Rq <| O (IxN (i := j) (V rfl) (V rfl) ts33 te33 (by omega)) <| O (Ld (V rfl) Ga3 (by decide)) <| O (As (V rfl)) <| Nq <| Sq <| Sq <| Rq <| O (Mv (V rfl)) <| O (Ql (V rfl) K) <| Nq <| Cd (V rfl) (fun hc14 => ?_) (fun hc14 => ?_)
          ·have hc14s := hc14; try simp only [BL] at hc14s
           exact Sq <| Rq <| O (As K) <| Nq <| Rx <| R1 rfl (V rfl) rfl (by show iv (6) = iv (checkSt l); rw [checkSt_l h24 hN0, ← links_1 hk (link1_neg (mem_getD (d := 0) hj) (by omega))])
          ·have hc14s := hc14; try simp only [BL] at hc14s
           refine Sk <| Sq <| Rq <| O (Mv (V rfl)) <| O (Mv (V rfl)) <| O (Ql (V rfl) (V rfl)) <| Nq <| Cd (V rfl) (fun hc15 => ?_) (fun hc15 => ?_)
           ·have hc15s := hc15; try simp only [BL] at hc15s
            refine Sq <| Rq <| O (Mv (V rfl)) <| O (Ad (V rfl) K (by omega)) <| O (As (V rfl)) <| Nq <| Sq <| Rq <| O (FlB _ _ (V rfl) Un61 rfl 0 Sz4) <| O (LdB (V rfl) rfl Ga4 (by decide)) <| O (Qo (V rfl)) <| O (Mv (V rfl)) <| Og (Gn rfl rfl) (fun hg => FlB _ _ (V rfl) Un61 rfl 0 Sz3) <| Og (Gn rfl rfl) (fun hg => LdB (Vg (V rfl) hg) rfl Ga3 (by decide)) <| Og (Gn rfl rfl) (fun hg => Mv (V rfl)) <| Og (Gn rfl rfl) (fun hg => Qn (Vg (V rfl) hg) (Vg (V rfl) hg)) <| O (Qr (V rfl) (fun h => Vg (V rfl) (notT h))) <| Nq <| Cd (V rfl) (fun hc16 => ?_) (fun hc16 => ?_)
            ·have hc16s := hc16; try simp only [BL] at hc16s
             exact Sq <| Rq <| O (As K) <| Nq <| Rx <| R1 rfl (V rfl) rfl (by show iv (6) = iv (checkSt l); rw [checkSt_l h24 hN0, ← links_1 hk (link1_self (mem_getD (d := 0) hj) hc15s hc16)])
            ·have hc16s := hc16; try simp only [BL] at hc16s
             exact Sk <| Rq <| O (Ad (V rfl) K (by omega)) <| O (Mv (V rfl)) <| Nq <| Nx (j + 1) (by show (j + 1) ≤ (l.getD k default).kids.length ∧ ∀ q, q < (j + 1) → kidR l i k ((l.getD k default).kids.getD q 0); exact ⟨by omega, all_s hkr ⟨hc14s, fun _ => self_ok hc16⟩⟩) (by show (l.getD k default).kids.length - (j + 1) < (l.getD k default).kids.length - j; omega) (We (sl := [(1, SV.bp 1 0), (8, iv ((i : Int))), (9, SV.bp 3 0), (10, iv (((List.count (i : Int) ((l.take k).flatMap Nd.kids ++ (l.getD k default).kids.take ((j + 1))) : Nat) : Int))), (11, iv (((List.count (i : Int) ((l.take k).map Nd.host) : Nat) : Int))), (12, iv ((k : Int))), (13, SV.bp 4 0), (137, ndRow l), (138, iv ((l.length : Int))), (139, iv ((i : Int))), (145, ndRow l), (146, iv ((l.length : Int))), (147, iv ((k : Int))), (153, inRow ((l.getD k default).kids)), (154, iv ((((l.getD k default).kids).length : Int))), (155, iv (((j + 1) : Int)))]) (ow := [(1, Own.box 1 (stG l) 24), (3, Own.box 8 (fun zi => (rowG ndCell default l) i (0 + zi)) 61), (4, Own.box 8 (fun zi => (rowG ndCell default l) k (0 + zi)) 61)]) (by exact ⟨V rfl, V rfl, V rfl, val_eq (V rfl) (congrArg iv (cnt_kid_y hj hc15s)), V rfl, V rfl, V rfl, V rfl, V rfl, V rfl, V rfl, V rfl, V rfl, V rfl, V rfl, V rfl, Z⟩) (by exact ⟨⟨_, rfl, rfl, rfl, (An rfl)⟩, ⟨_, rfl, rfl, rfl, (An rfl)⟩, ⟨_, rfl, rfl, rfl, (An rfl)⟩, Z⟩))
           ·have hc15s := hc15; try simp only [BL] at hc15s
            exact Sk <| Rq <| O (Ad (V rfl) K (by omega)) <| O (Mv (V rfl)) <| Nq <| Nx (j + 1) (by show (j + 1) ≤ (l.getD k default).kids.length ∧ ∀ q, q < (j + 1) → kidR l i k ((l.getD k default).kids.getD q 0); exact ⟨by omega, all_s hkr ⟨hc14s, fun hh => absurd hh hc15s⟩⟩) (by show (l.getD k default).kids.length - (j + 1) < (l.getD k default).kids.length - j; omega) (We (sl := [(1, SV.bp 1 0), (8, iv ((i : Int))), (9, SV.bp 3 0), (10, iv (((List.count (i : Int) ((l.take k).flatMap Nd.kids ++ (l.getD k default).kids.take ((j + 1))) : Nat) : Int))), (11, iv (((List.count (i : Int) ((l.take k).map Nd.host) : Nat) : Int))), (12, iv ((k : Int))), (13, SV.bp 4 0), (137, ndRow l), (138, iv ((l.length : Int))), (139, iv ((i : Int))), (145, ndRow l), (146, iv ((l.length : Int))), (147, iv ((k : Int))), (153, inRow ((l.getD k default).kids)), (154, iv ((((l.getD k default).kids).length : Int))), (155, iv (((j + 1) : Int)))]) (ow := [(1, Own.box 1 (stG l) 24), (3, Own.box 8 (fun zi => (rowG ndCell default l) i (0 + zi)) 61), (4, Own.box 8 (fun zi => (rowG ndCell default l) k (0 + zi)) 61)]) (by exact ⟨V rfl, V rfl, V rfl, val_eq (V rfl) (congrArg iv (cnt_kid_n hj hc15s)), V rfl, V rfl, V rfl, V rfl, V rfl, V rfl, V rfl, V rfl, V rfl, V rfl, V rfl, V rfl, Z⟩) (by exact ⟨⟨_, rfl, rfl, rfl, (An rfl)⟩, ⟨_, rfl, rfl, rfl, (An rfl)⟩, ⟨_, rfl, rfl, rfl, (An rfl)⟩, Z⟩))
         ·have hc13s := hc13; try simp only [BL] at hc13s
          have hjl : (l.getD k default).kids.length ≤ j := by omega
          refine Ex <| Sq <| Rq <| O (FlB _ _ (V rfl) Un61 rfl 0 Sz3) <| O (LdB (V rfl) rfl Ga3 (by decide)) <| O (Mv (V rfl)) <| O (Ql (V rfl) (V rfl)) <| Nq <| Cd (V rfl) (fun hc17 => ?_) (fun hc17 => ?_)
          ·have hc17s := hc17; try simp only [BL] at hc17s
           refine Sq <| Rq <| O (Mv (V rfl)) <| O (Ad (V rfl) K (by omega)) <| O (As (V rfl)) <| Nq <| Sq <| Rq <| O (FlB _ _ (V rfl) Un61 rfl 0 Sz4) <| O (LdB (V rfl) rfl Ga4 (by decide)) <| O (Qo (V rfl)) <| Nq <| Cd (V rfl) (fun hc18 => ?_) (fun hc18 => ?_)
           ·have hc18s := hc18; try simp only [BL] at hc18s
            exact Sq <| Rq <| O (As K) <| Nq <| Rx <| R1 rfl (V rfl) rfl (by show iv (6) = iv (checkSt l); rw [checkSt_l h24 hN0, ← links_1 hk (link1_h hc17s (by simpa using hc18))])
           ·have hc18s := hc18; try simp only [BL] at hc18s
            exact Sk <| Rq <| O (Ad (V rfl) K (by omega)) <| O (Mv (V rfl)) <| Nq <| Nx (k + 1) (by show (k + 1) ≤ l.length ∧ RLink l i (k + 1); exact ⟨by omega, rlink_s hrk hkr (by omega) fun _ => by simpa using hc18⟩) (by show l.length - (k + 1) < l.length - k; omega) (We (sl := [(1, SV.bp 1 0), (8, iv ((i : Int))), (9, SV.bp 3 0), (10, iv (((List.count (i : Int) ((l.take ((k + 1))).flatMap Nd.kids) : Nat) : Int))), (11, iv (((List.count (i : Int) ((l.take ((k + 1))).map Nd.host) : Nat) : Int))), (137, ndRow l), (138, iv ((l.length : Int))), (139, iv ((i : Int))), (145, ndRow l), (146, iv ((l.length : Int))), (147, iv (((k + 1) : Int)))]) (ow := [(1, Own.box 1 (stG l) 24), (3, Own.box 8 (fun zi => (rowG ndCell default l) i (0 + zi)) 61)]) (by exact ⟨V rfl, V rfl, V rfl, val_eq (V rfl) (congrArg iv (cnt_flat hk hjl)), val_eq (V rfl) (congrArg iv (cnt_host_y hk hc17s)), V rfl, V rfl, V rfl, V rfl, V rfl, V rfl, Z⟩) (by exact ⟨⟨_, rfl, rfl, rfl, (An rfl)⟩, ⟨_, rfl, rfl, rfl, (An rfl)⟩, Z⟩))
          ·have hc17s := hc17; try simp only [BL] at hc17s
           exact Sk <| Rq <| O (Ad (V rfl) K (by omega)) <| O (Mv (V rfl)) <| Nq <| Nx (k + 1) (by show (k + 1) ≤ l.length ∧ RLink l i (k + 1); exact ⟨by omega, rlink_s hrk hkr (by omega) fun hh => absurd hh hc17s⟩) (by show l.length - (k + 1) < l.length - k; omega) (We (sl := [(1, SV.bp 1 0), (8, iv ((i : Int))), (9, SV.bp 3 0), (10, iv (((List.count (i : Int) ((l.take ((k + 1))).flatMap Nd.kids) : Nat) : Int))), (11, iv (((List.count (i : Int) ((l.take ((k + 1))).map Nd.host) : Nat) : Int))), (137, ndRow l), (138, iv ((l.length : Int))), (139, iv ((i : Int))), (145, ndRow l), (146, iv ((l.length : Int))), (147, iv (((k + 1) : Int)))]) (ow := [(1, Own.box 1 (stG l) 24), (3, Own.box 8 (fun zi => (rowG ndCell default l) i (0 + zi)) 61)]) (by exact ⟨V rfl, V rfl, V rfl, val_eq (V rfl) (congrArg iv (cnt_flat hk hjl)), val_eq (V rfl) (congrArg iv (cnt_host_n hk hc17s)), V rfl, V rfl, V rfl, V rfl, V rfl, V rfl, Z⟩) (by exact ⟨⟨_, rfl, rfl, rfl, (An rfl)⟩, ⟨_, rfl, rfl, rfl, (An rfl)⟩, Z⟩))
       ·have hc12s := hc12; try simp only [BL] at hc12s
        have htk : l.take k = l := List.take_of_length_le (by omega)
        refine Ex <| Sq <| Rg [186, 187, 188, 189, 190, 191, 192, 193, 194, 195, 196, 197, 198, 199, 200, 201, 202, 203, 204, 205, 206, 207, 208, 209] (by kernel_rfl) (by kernel_rfl) (by kernel_rfl) <| Gp (Gq (Mv (V rfl))) <| Gp (Gq (Gt (V rfl) K)) <| Gp (Gq (Mv (V rfl))) <| Gp (GqG (Gn rfl rfl) (fun hg => Mv (V rfl))) <| Gp (GqG (Gn rfl rfl) (fun hg => Gt (Vg (V rfl) hg) K)) <| Gp (Gq (Qr (V rfl) (fun h => Vg (V rfl) (notT h)))) <| Gp (Gq (Mv (V rfl))) <| Gp (GqG (Gn rfl rfl) (fun hg => Mv (V rfl))) <| Gp (GqG (Gn rfl rfl) (fun hg => Gt (Vg (V rfl) hg) K)) <| Gp (GqG (Gn rfl rfl) (fun hg => FlB _ _ (V rfl) Un61 rfl 0 Sz3)) <| Gp (GqG (Gn rfl rfl) (fun hg => LdB (Vg (V rfl) hg) rfl Ga3 (by decide))) <| Gp (GqG (Gn rfl rfl) (fun hg => Qn (Vg (V rfl) hg) K)) <| Gp (GqG (Gn rfl rfl) (fun hg => q_neqb (Vg (V rfl) hg) (Vg (V rfl) hg) Un4)) <| Gp (Gq (Qr (V rfl) (fun h => Vg (V rfl) (notT h)))) <| Gp (Gq (Mv (V rfl))) <| Gp (GqG (Gn rfl rfl) (fun hg => LBA (V rfl) rfl Ga24 Sz24 (by decide))) <| Gp (GqG (Gn rfl rfl) (fun hg => Mv (V rfl))) <| Gp (GcG (Gn rfl rfl) en80 (fun hg => (by exact ⟨⟨(Vi (g' := stG l) (Vg (V rfl) hg) ⟨Z, Ir⟩), rfl⟩, ⟨(Vg (V rfl) hg), rfl⟩, Z⟩)) (fun hg => line_ct l ((i : Int)) (by first | assumption | omega))) <| Gp (GqG (Gn rfl rfl) (fun hg => Ln (Vg (V rfl) hg) ts33)) <| Gp (GqG (Gn rfl rfl) (fun hg => FlB _ _ (V rfl) Un24 rfl 0 Sz22)) <| Gp (GqG (Gn rfl rfl) (fun hg => LdB (Vg (V rfl) hg) rfl Ga22 (by decide))) <| Gp (GqG (Gn rfl rfl) (fun hg => Ln (Vg (V rfl) hg) ts22)) <| Gp (GqG (Gn rfl rfl) (fun hg => Gt (Vg (V rfl) hg) (Vg (V rfl) hg))) <| Gp (Gq (Qr (V rfl) (fun h => Vg (V rfl) (notT h)))) <| Gz <| Cd (V rfl) (fun hc19 => ?_) (fun hc19 => ?_)
        ·have hc19s := hc19; try simp only [BL] at hc19s
         rw [htk] at hc19
         exact Sq <| Rq <| O (As K) <| Nq <| Rx <| R1 rfl (V rfl) rfl (by show iv (6) = iv (checkSt l); rw [checkSt_l h24 hN0, ← links_2 hi (by rw [link2_ref hN0 hi, hc19]; rfl)])
        ·have hc19s := hc19; try simp only [BL] at hc19s
         rw [htk] at hc19
         exact Sk <| Rq <| O (Ad (V rfl) K (by omega)) <| O (Mv (V rfl)) <| Nq <| Nx (i + 1) (by show (i + 1) ≤ l.length ∧ ∀ q, q < (i + 1) → RL l q; exact ⟨by omega, all_s hRL ⟨by rwa [show k = l.length by omega] at hrk, by rw [link2_ref hN0 hi, hc19]; rfl⟩⟩) (by show l.length - (i + 1) < l.length - i; omega) (We (ow := [(1, Own.box 1 (stG l) 24)]) (Vs rfl) (by exact ⟨⟨_, rfl, rfl, rfl, (An rfl)⟩, Z⟩))
     ·have hc11s := hc11; try simp only [BL] at hc11s
      exact Ex <| Sq <| Rq <| O (As K) <| Nq <| Rx <| R1 rfl (V rfl) rfl (by show iv (0) = iv (checkSt l); rw [checkSt_l h24 hN0, ← rl_links hN0 fun q hq => hRL q (by omega)])
end Go.Proofs.Ytmcdamcedemdiaa
