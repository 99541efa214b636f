/- The engine, its third part: slices that hold slices of their own. -/
import Derived.Test.YtghkpailmdlhgaaEngb
set_option linter.unusedVariables false
set_option linter.unusedSimpArgs false
namespace Go.Eng
open Go.RowKit
variable {P : Program} {NN : Nat} {E : Env NN}
/-! What a slice that holds slices of its own gives, and takes. -/
/-- RepB.rename, what is new being said of the new memory. -/
theorem RepB.rename2 {S : St} {b b' : Nat → Value} {a : Act} {w : World} (h : RepB E b S a w) (D : List Nat) (nw : List (Nat × Own)) (p : Nat → Bool)
    (hhd : ∀ i, p i = true → hdv (b' i) = hdv (b i) ∧ ∀ q, b i = .pointer q → b' i = b i)
    (hsl : ∀ s x, look s S.slots = some x → x.okId p = true) (how : ∀ i o, lookO i S.owns = some o → o.okId p = true ∨ i ∈ D ∨ (lookO i nw).isSome)
    (hsame : ∀ i o, lookO i S.owns = some o → i ∉ D → lookO i nw = none → b' i = b i) (hold : ∀ i, 1000 ≤ i → b' i = b i)
    (hnew : (∀ g, St.excl ⟨S.slots, nw ++ dropKs D S.owns⟩ E b' g → S.excl E b g) → ∀ i o, lookO i nw = some o → OwnOk w (St.excl ⟨S.slots, nw ++ dropKs D S.owns⟩ E b') E.base b' i o)
    (hbk : ∀ i o, lookO i nw = some o → ∀ g, Bk (b' i) g → ∃ q oq, lookO q S.owns = some oq ∧ (q ∈ D ∨ (lookO q nw).isSome) ∧ Bk (b q) g)
    (hap : ∀ i q oi oq, lookO i nw = some oi → lookO q nw = some oq → i ≠ q → ∀ g, Bk (b' i) g → ¬ Bk (b' q) g) :
    RepB E b' ⟨S.slots, nw ++ dropKs D S.owns⟩ a w := by
  have he : Ext (S.excl E b) w w := ⟨Nat.le_refl _, fun _ _ _ => rfl⟩
  have hl : ∀ {i o}, lookO i (nw ++ dropKs D S.owns) = some o → lookO i nw = some o ∨ (lookO i nw = none ∧ i ∉ D ∧ lookO i S.owns = some o ∧ b' i = b i) := fun {i o} hi => by
    rcases lookO_app hi with h1 | ⟨h1, h2⟩
    · exact .inl h1
    · obtain ⟨h3, h4⟩ := lookO_dropKs h2
      exact .inr ⟨h1, h3, h4, hsame i o h4 h3 h1⟩
  have hX : ∀ g, St.excl ⟨S.slots, nw ++ dropKs D S.owns⟩ E b' g → S.excl E b g := by
    rintro g (hh | ⟨i, o, h1, h2⟩)
    · exact .inl hh
    · rcases hl h1 with h3 | ⟨h3, h4, h5, h6⟩
      · obtain ⟨q, oq, h7, _, h8⟩ := hbk i o h3 g h2
        exact .inr ⟨q, oq, h7, h8⟩
      · rw [h6] at h2; exact .inr ⟨i, o, h5, h2⟩
  have hR : ∀ x v, x.okId p = true → R w (S.excl E b) b x v → R w (St.excl ⟨S.slots, nw ++ dropKs D S.owns⟩ E b') b' x v := fun x v hx hr => (R_hd hhd hx hr).mono he (fun g _ hh => hX g hh)
  exact {
    size := h.size
    defers := h.defers
    below := h.below
    slots := fun s x hx => hR _ _ (hsl s x hx) (h.slots s x hx)
    owns := fun i o hi => by
      rcases hl hi with h3 | ⟨h3, h4, h5, h6⟩
      · exact hnew hX i o h3
      · exact (h.owns i o h5).keep0 (p := fun x => x.okId p = true) h6 (Own.okId_all ((how i o h5).resolve_right (by rintro (h7 | h7); exact h4 h7; rw [h3] at h7; cases h7))) (fun _ _ _ => rfl) hR (fun x v hr => hr.mono he (fun g _ hh => hX g hh))
    mine := fun i o hi g hg => by
      rcases hl hi with h3 | ⟨h3, h4, h5, h6⟩
      · obtain ⟨q, oq, h7, _, h8⟩ := hbk i o h3 g hg
        exact h.mine q oq h7 g h8
      · rw [h6] at hg; exact h.mine i o h5 g hg
    apart := fun i q oi oq hi hq hne g hgi hgq => by
      rcases hl hi with h3 | ⟨h3, h4, h5, h6⟩
      · rcases hl hq with h3' | ⟨h3', h4', h5', h6'⟩
        · exact hap i q oi oq h3 h3' hne g hgi hgq
        · obtain ⟨z, oz, h7, h8, h9⟩ := hbk i oi h3 g hgi
          rw [h6'] at hgq
          refine h.apart z q oz oq h7 h5' ?_ g h9 hgq
          rintro rfl
          rcases h8 with h8 | h8
          · exact h4' h8
          · rw [h3'] at h8; cases h8
      · rcases hl hq with h3' | ⟨h3', h4', h5', h6'⟩
        · obtain ⟨z, oz, h7, h8, h9⟩ := hbk q oq h3' g hgq
          rw [h6] at hgi
          refine h.apart z i oz oi h7 h5 ?_ g h9 hgi
          rintro rfl
          rcases h8 with h8 | h8
          · exact h4 h8
          · rw [h3] at h8; cases h8
        · rw [h6] at hgi; rw [h6'] at hgq
          exact h.apart i q oi oq h5 h5' hne g hgi hgq
    old := fun i hi => (hold i hi).trans (h.old i hi) }

section urow
variable {S : St} {j n k : Nat} {get : Nat → Nat → SV} {e : TypeId} {c : Nat} {ce : TypeId} {ck m : Nat} {kn : Nat → Nat} {kget : Nat → Nat → Nat → SV} {hole : Option (Nat × SV)}
/-- What a load of cell t of row i gives. -/
def uat (get : Nat → Nat → SV) (c m : Nat) (hole : Option (Nat × SV)) (i t : Nat) : SV :=
  if t = c then match hole with
    | some (h, x) => if i = h then x else if i < m then .junk else get i t
    | none => if i < m then .junk else get i t
  else get i t
theorem u_slice {b : Nat → Value} {a : Act} {w : World} (hr : RepB E b S a w) (ho : lookO j S.owns = some (.urow n k get e c ce ck m kn kget hole)) : ∃ A cp, hdv (b j) = .slice A n cp := by
  obtain ⟨v, subs, xs, h1, hown, _⟩ := hr.owns j _ ho
  obtain ⟨A, cp, hs, _⟩ := hown.slice
  exact ⟨A, cp, by rw [h1]; exact hs⟩
theorem u_cells {b : Nat → Value} {a : Act} {w : World} (hr : RepB E b S a w) (ho : lookO j S.owns = some (.urow n k get e c ce ck m kn kget hole)) (h0 : 0 < n) :
    ∃ subs g cp cur, b j = .tuple (.slice (some ⟨g, 0, none⟩) n (cp + 1) :: subs).toArray ∧ E.base ≤ g ∧ w.heap[g]? = some (.cells cur e (0, 0)) ∧ n ≤ cp + 1 ∧ cp + 1 ≤ maxLen ∧ cur.size = (cp + 1) * k ∧ subs.length = m ∧ m ≤ n ∧
      (∀ i, i < n → ∀ t, t < k → ∃ u, cur[i * k + t]? = some u ∧ u.oneCell' = true ∧ R w (S.excl E b) b (uat get c m hole i t) u ∧ (t ≠ c → RO w (S.excl E b) (get i t) u) ∧ (t = c → ¬ isHole i hole → m ≤ i → RO w (S.excl E b) (get i t) u) ∧ (t = c → ¬ isHole i hole → i < m → subs[i]? = some u) ∧
        (t = c → ∀ x, hole = some (i, x) → R w (S.excl E b) b x u)) ∧
      (∀ i, i < m → ∃ s, subs[i]? = some s ∧ (isHole i hole → blk1 s = none) ∧ (¬ isHole i hole → ∃ ys, ownsR w E.base ce ck s (kn i) ys ∧ ∀ q, q < kn i → ∀ t, t < ck → ∃ u, ys[q * ck + t]? = some u ∧ u.oneCell' = true ∧ RO w (S.excl E b) (kget i q t) u) ∧
        (∀ g', blk1 s = some g' → g ≠ g') ∧ ∀ i' s', subs[i']? = some s' → i' ≠ i → ∀ g, blk1 s = some g → blk1 s' ≠ some g) := by
  obtain ⟨v, subs, xs, h1, h, h2, h3, hc, hsub⟩ := hr.owns j _ ho
  rcases h with ⟨A, hv, hn, _⟩ | ⟨⟨hl, hv⟩, g', m', c', hv'⟩
  · omega
  · rcases hv with ⟨hv, hn⟩ | ⟨g, cap, cur, hv, hb, hh, hcap, hm, hs, ht⟩
    · omega
    · rw [hv] at hv'
      simp only [Value.slice.injEq, Option.some.injEq, Addr.mk.injEq, and_true] at hv'
      obtain ⟨rfl, rfl, rfl⟩ := hv'
      subst hv
      refine ⟨subs, g, c', cur, h1, hb, hh, hcap, hm, hs, h2, h3, fun i hi t htk => ?_, fun i hi => ?_⟩
      · obtain ⟨u, hu, h4, h5, h6, h7, h8⟩ := hc i hi t htk
        refine ⟨u, ?_, h4, ?_, h5, h6, h7, h8⟩
        · rw [← ht, List.getElem?_take] at hu
          split at hu
          · simpa using hu
          · cases hu
        · unfold uat
          split
          · rename_i htc
            split
            · split
              · rename_i e1; subst e1; exact h8 htc _ rfl
              · split
                · trivial
                · rename_i e1 e2; exact (h6 htc e1 (by omega)).toR
            · split
              · trivial
              · exact (h6 htc (fun z => z) (by omega)).toR
          · rename_i htc; exact (h5 htc).toR
      · obtain ⟨s, h4, h5, h6, h7, h8⟩ := hsub i hi
        exact ⟨s, h4, h5, h6, fun g' hg' e1 => h7 g' hg' (by rw [e1]; rfl), h8⟩
theorem q_lenU {x : Operand} {t : TypeId} (hx : Val E S x (.own j)) (ho : lookO j S.owns = some (.urow n k get e c ce ck m kn kget hole)) (ht : P.underlying t = some (.slice (P.elem t))) :
    OpQ P E S (.call { callee := .builtin .len, args := #[x], argTypes := #[t] }) (.v (.int .i64 (n : Int))) := fun b a w hr dst ty pos after gd => by
  have hv : a.eval x = hdv (b j) := hx b a w hr
  obtain ⟨A, c, hs⟩ := u_slice hr ho
  refine ⟨.int .i64 n, fun w' hw' => ?_, rfl⟩
  simp [execOp, resolve, invoke, builtin, hv, hs, run_len_slice w' t ty A n c ht, goInt]
theorem q_idxU {x y : Operand} {t : TypeId} {kk : IntKind} {i : Int} (hx : Val E S x (.own j)) (ho : lookO j S.owns = some (.urow n k get e c ce ck m kn kget hole)) (hy : Val E S y (.v (.int kk i)))
    (ht : P.underlying t = some (.slice (P.elem t))) (hs : ∀ w, (sizeOf (P.elem t)).run P w = .ok k w) (h0 : 0 ≤ i) (h1 : i < n) :
    OpQ P E S (.indexAddr t x y) (.oe j k i.toNat 0) := fun b a w hr dst ty pos after gd => by
  have hv : a.eval x = hdv (b j) := hx b a w hr
  have h2 : a.eval y = .int kk i := hy b a w hr
  obtain ⟨subs, g, c, cur, hb, _⟩ := u_cells hr ho (by omega)
  have hb : hdv (b j) = .slice (some ⟨g, 0, none⟩) n (c + 1) := by rw [hb]; rfl
  refine ⟨.pointer (some ⟨g, i.toNat * k + 0, none⟩), fun w' hw' => ?_, g, n, c + 1, hb, by omega, rfl⟩
  simp [execOp, hv, hb, h2, run_indexAt_slice w' t _ n (c + 1) kk i ht, h0, h1, hs, Addr.add_lit]
theorem q_idxUN {x y : Operand} {t : TypeId} {kk : IntKind} {i : Nat} (hx : Val E S x (.own j)) (ho : lookO j S.owns = some (.urow n k get e c ce ck m kn kget hole)) (hy : Val E S y (.v (.int kk (i : Int))))
    (ht : P.underlying t = some (.slice (P.elem t))) (hs : ∀ w, (sizeOf (P.elem t)).run P w = .ok k w) (h1 : i < n) :
    OpQ P E S (.indexAddr t x y) (.oe j k i 0) := by
  have := q_idxU hx ho hy ht hs (Int.natCast_nonneg i) (by omega)
  simpa using this
theorem q_ldU {x : Operand} {t : TypeId} {i off : Nat} {s : SV} (hx : Val E S x (.oe j k i off)) (ho : lookO j S.owns = some (.urow n k get e c ce ck m kn kget hole))
    (ht : ∀ w, (isAgg t).run P w = .ok false w) (hoff : off < k) (hs : uat get c m hole i off = s) : OpQ P E S (.load t x) s := fun b a w hr dst ty pos after gd => by
  subst hs
  obtain ⟨g, n', cap, hb, hi, hv⟩ := hx b a w hr
  obtain ⟨A, c1, hs⟩ := u_slice hr ho
  rw [hs] at hb
  simp only [Value.slice.injEq] at hb
  obtain ⟨rfl, rfl, rfl⟩ := hb
  obtain ⟨subs, g', c', cur, hb', _, hh, _, _, _, _, _, hc, _⟩ := u_cells hr ho (by omega)
  have hb' : hdv (b j) = .slice (some ⟨g', 0, none⟩) n (c' + 1) := by rw [hb']; rfl
  rw [hs] at hb'
  simp only [Value.slice.injEq, Option.some.injEq, Addr.mk.injEq, and_true] at hb'
  obtain ⟨rfl, _, _⟩ := hb'
  obtain ⟨u, hu, h1, h2, _⟩ := hc i hi off hoff
  refine ⟨u, fun w' hw' => ?_, h2⟩
  have hu' : w'.cell? ⟨g, i * k + off, none⟩ = some u := (hw'.cell (p := ⟨g, i * k + off, none⟩) (Array.getElem?_eq_some_iff.1 hh).1).trans (by rw [cell_of_row w g _ cur e (0, 0) hh]; exact hu)
  simp [execOp, hv, Instr.loadAt, Instr.sureAddr, loadVar, ht, hu']
theorem q_ldUA {x : Operand} {t : TypeId} {i off mm : Nat} {gt : Nat → SV} (hx : Val E S x (.oe j k i off)) (ho : lookO j S.owns = some (.urow n k get e c ce ck m kn kget hole))
    (ht : ∀ w, (isAgg t).run P w = .ok true w) (hsz : ∀ w, (sizeOf t).run P w = .ok mm w) (hoff : off + mm ≤ k) (hs : AllN (fun q => uat get c m hole i (off + q) = gt q) mm) : OpQ P E S (.load t x) (.agg mm gt) := fun b a w hr dst ty pos after gd => by
  obtain ⟨g, n', cap, hb, hi, hv⟩ := hx b a w hr
  obtain ⟨A, c1, hs1⟩ := u_slice hr ho
  rw [hs1] at hb
  simp only [Value.slice.injEq] at hb
  obtain ⟨rfl, rfl, rfl⟩ := hb
  obtain ⟨subs, g', c', cur, hb', _, hh, _, _, _, _, _, hc, _⟩ := u_cells hr ho (by omega)
  have hb' : hdv (b j) = .slice (some ⟨g', 0, none⟩) n (c' + 1) := by rw [hb']; rfl
  rw [hs1] at hb'
  simp only [Value.slice.injEq, Option.some.injEq, Addr.mk.injEq, and_true] at hb'
  obtain ⟨rfl, _, _⟩ := hb'
  have hg := (Array.getElem?_eq_some_iff.1 hh).1
  let f : Nat → Value := fun q => (w.cell? ⟨g, i * k + (off + q), none⟩).getD undef
  have hcell : ∀ q, q < mm → ∃ u, w.cell? ⟨g, i * k + (off + q), none⟩ = some u ∧ u.oneCell' = true ∧ R w (S.excl E b) b (gt q) u := fun q hq => by
    obtain ⟨u, hu, h1, h2, _⟩ := hc i hi (off + q) (by omega)
    exact ⟨u, by rw [cell_of_row w g _ cur e (0, 0) hh]; exact hu, h1, by rw [← hs.at q hq]; exact h2⟩
  have hf : ∀ q, q < mm → w.cell? ⟨g, i * k + off + (0 + q), none⟩ = some (f q) := fun q hq => by
    obtain ⟨u, hu, _⟩ := hcell q hq
    have e : i * k + off + (0 + q) = i * k + (off + q) := by omega
    rw [e]; simp only [f]; rw [hu]; rfl
  have hl := fun (w' : World) (hw' : Below w.heap.size w w') => run_loadCellsFrom (P := P) w' g (i * k + off) mm 0 #[] f (fun q hq => (hw'.cell (p := ⟨g, i * k + off + (0 + q), none⟩) hg).trans (hf q hq))
  refine ⟨.agg (#[] ++ (Array.ofFn fun t : Fin mm => f t.1)), fun w' hw' => ?_, _, rfl, by simp, fun q hq => ?_⟩
  · simp [execOp, hv, Instr.loadAt, Instr.sureAddr, loadVar, ht, hsz, loadCells, hl w' hw']
  · obtain ⟨u, hu, h1, h2⟩ := hcell q hq
    exact ⟨u, by simp [hq, f, hu], h1, h2⟩
end urow
end Go.Eng

namespace Go.Eng
open Go.RowKit
variable {P : Program} {NN : Nat} {E : Env NN}
section urow
variable {S : St} {j n k : Nat} {get : Nat → Nat → SV} {e : TypeId} {c : Nat} {ce : TypeId} {ck m : Nat} {kn : Nat → Nat} {kget : Nat → Nat → Nat → SV} {hole : Option (Nat × SV)}
/-- A store into a cell of a slice that holds slices of its own: into column c only where none of its own lies. -/
theorem t_stG {ops : Array Oper} {rest : List Oper} {K : St → Prop} {t : TypeId} {p x : Operand} {ty : TypeId} {pos : String} {after : Array Edge} {i off : Nat} {s : SV} {hole' : Option (Nat × SV)} (get' : Nat → Nat → SV)
    (hp : Val E S p (.oe j k i off)) (ho : lookO j S.owns = some (.urow n k get e c ce ck m kn kget hole)) (hx : Val E S x s) (h1 : OneV E S s) (hs : ∀ w, (sizeOf t).run P w = .ok 1 w) (hoff : off < k)
    (hset : (off ≠ c ∧ s.isRO = true ∧ get' i off = s ∧ hole' = hole) ∨ (off = c ∧ hole' = some (i, s) ∧ (isHole i hole ∨ (hole = none ∧ m ≤ i))))
    (hsame : ∀ i', i' < n → ∀ t, t < k → (i' ≠ i ∨ t ≠ off) → get' i' t = get i' t)
    (hk : T P E ops rest ⟨S.slots, (j, .urow n k get' e c ce ck m kn kget hole') :: S.owns⟩ K) :
    T P E ops ({ dst := none, op := .store t p x, type := ty, pos, after, guard := none } :: rest) S K := by
  rintro a w ⟨b, hr⟩ Q hq
  obtain ⟨g, n', cap, hb, hi, hpv⟩ := hp b a w hr
  obtain ⟨A, cq, hsl⟩ := u_slice hr ho
  rw [hsl] at hb
  simp only [Value.slice.injEq] at hb
  obtain ⟨rfl, rfl, rfl⟩ := hb
  obtain ⟨subs, g', c', cur, hb', hbase, hh, hcap, hmax, hsz, hsl2, hmn, hc, hsub⟩ := u_cells hr ho (by omega)
  have hb2 : hdv (b j) = .slice (some ⟨g', 0, none⟩) n (c' + 1) := by rw [hb']; rfl
  rw [hsl] at hb2
  simp only [Value.slice.injEq, Option.some.injEq, Addr.mk.injEq, and_true] at hb2
  obtain ⟨rfl, _, _⟩ := hb2
  have hv := hx b a w hr
  have hone := h1 b a w _ hr hv
  obtain ⟨u0, hu0, _⟩ := hc i hi off hoff
  have hu0' : w.cell? ⟨g, i * k + off, none⟩ = some u0 := by rw [cell_of_row w g _ cur e (0, 0) hh]; exact hu0
  have hfr : w.frozen? ⟨g, i * k + off, none⟩ = false := by simp [World.frozen?, hh]
  have hhole : ∀ i', i' ≠ i → (isHole i' hole' ↔ isHole i' hole) := fun i' hne => by
    rcases hset with ⟨_, _, _, rfl⟩ | ⟨_, rfl, h2 | ⟨rfl, _⟩⟩
    · exact Iff.rfl
    · cases hole with
      | none => exact h2.elim
      | some q => exact ⟨fun h => absurd h hne, fun h => absurd (h.trans (Eq.symm h2)) hne⟩
    · exact ⟨fun h => absurd h hne, fun h => h.elim⟩
  have hsubeq : ∀ q, q < m → (isHole q hole' ↔ isHole q hole) := fun q hq => by
    by_cases h3 : q = i
    · subst h3
      rcases hset with ⟨_, _, _, rfl⟩ | ⟨_, rfl, h2 | ⟨rfl, h4⟩⟩
      · exact Iff.rfl
      · exact ⟨fun _ => h2, fun _ => rfl⟩
      · omega
    · exact hhole q h3
  unfold wpList
  rw [if_pos (by rfl)]
  refine .inl (wp_of_skip (w' := w.setCell ⟨g, i * k + off, none⟩ (a.eval x)) ?_ ?_)
  · simp [execOp, Instr.storeAt, hpv, Instr.sureAddr, storeVar, hs, cells_one hone, storeCells, Addr.add_zero', run_store P w _ _ _ hone, hu0', hfr]
  · refine hk _ _ ⟨b, ?_⟩ Q hq
    refine hr.setown (g := g) ho (by rw [hb']; exact ⟨0, _, rfl, rfl⟩) ⟨rfl, rfl, rfl, by simp⟩ (fun k hk => Below.heap_setCell _ _ _ _ hk) (fun X hm hmo => ?_)
    have hcur' : (w.setCell ⟨g, i * k + off, none⟩ (a.eval x)).heap[g]? = some (.cells (cur.setIfInBounds (i * k + off) (a.eval x)) e (0, 0)) := by simp [World.setCell, Array.getElem?_modify, hh]
    have hnk : n * k ≤ cur.size := by rw [hsz]; exact Nat.mul_le_mul_right _ hcap
    refine ⟨_, subs, (cur.setIfInBounds (i * k + off) (a.eval x)).toList.take (n * k), hb', .inr ⟨⟨?_, .inr ⟨g, c' + 1, _, rfl, hbase, hcur', hcap, hmax, by simpa using hsz, rfl⟩⟩, g, n, c', rfl⟩, hsl2, hmn, fun i' hi' t ht => ?_, fun q hq => ?_⟩
    · simp; omega
    · have hlt : i' * k + t < n * k := by
        have : (i' + 1) * k ≤ n * k := Nat.mul_le_mul_right _ hi'
        have e1 : (i' + 1) * k = i' * k + k := by rw [Nat.add_mul, Nat.one_mul]
        omega
      rw [List.getElem?_take, if_pos hlt, Array.getElem?_toList, Array.getElem?_setIfInBounds]
      by_cases e1 : i * k + off = i' * k + t
      · have hii : i' = i ∧ t = off := by
          have h2 : (i * k + off) / k = i := by rw [Nat.mul_comm, Nat.mul_add_div (by omega), Nat.div_eq_of_lt hoff, Nat.add_zero]
          have h3 : (i' * k + t) / k = i' := by rw [Nat.mul_comm, Nat.mul_add_div (by omega), Nat.div_eq_of_lt ht, Nat.add_zero]
          have : i' = i := by rw [← h2, ← h3, e1]
          subst this
          exact ⟨rfl, by omega⟩
        obtain ⟨rfl, rfl⟩ := hii
        rw [if_pos e1, if_pos (by omega)]
        rcases hset with ⟨h2, hro, h3, h4⟩ | ⟨h2, rfl, _⟩
        · exact ⟨_, rfl, hone, fun _ => by rw [h3]; exact hmo (hv.toRO hro), fun h => absurd h h2, fun h => absurd h h2, fun h => absurd h h2⟩
        · exact ⟨_, rfl, hone, fun h => absurd h2 h, fun _ h => absurd rfl h, fun _ h => absurd rfl h, fun _ y hy => by
            simp only [Option.some.injEq, Prod.mk.injEq, true_and] at hy
            subst hy; exact hm hv⟩
      · rw [if_neg e1]
        have hne : i' ≠ i ∨ t ≠ off := by
          by_cases e2 : i' = i
          · exact .inr (fun e3 => e1 (by rw [e2, e3]))
          · exact .inl e2
        rw [hsame i' hi' t ht hne]
        obtain ⟨u, hu, h2, _, h3, h4, h5, h6⟩ := hc i' hi' t ht
        refine ⟨u, hu, h2, fun z => hmo (h3 z), fun z z2 z3 => ?_, fun z z2 z3 => ?_, fun z y hy => ?_⟩
        · by_cases e2 : i' = i
          · rcases hset with ⟨_, _, _, rfl⟩ | ⟨h7, _, _⟩
            · exact hmo (h4 z z2 z3)
            · rcases hne with h8 | h8
              · exact absurd e2 h8
              · exact absurd (z.trans h7.symm) h8
          · exact hmo (h4 z (fun h => z2 ((hhole i' e2).2 h)) z3)
        · by_cases e2 : i' = i
          · rcases hset with ⟨_, _, _, rfl⟩ | ⟨h7, _, _⟩
            · exact h5 z z2 z3
            · rcases hne with h8 | h8
              · exact absurd e2 h8
              · exact absurd (z.trans h7.symm) h8
          · exact h5 z (fun h => z2 ((hhole i' e2).2 h)) z3
        · rcases hset with ⟨_, _, _, rfl⟩ | ⟨h7, rfl, _⟩
          · exact hm (h6 z y hy)
          · simp only [Option.some.injEq, Prod.mk.injEq] at hy
            rcases hne with h8 | h8
            · exact absurd hy.1.symm h8
            · exact absurd (z.trans h7.symm) h8
    · obtain ⟨s', h2, h3, h4, h5, h6⟩ := hsub q hq
      refine ⟨s', h2, fun z => h3 ((hsubeq q hq).1 z), fun z => ?_, fun g1 hg1 e1 => h5 g1 hg1 ?_, h6⟩
      · obtain ⟨ys, h7, h8⟩ := h4 (fun h => z ((hsubeq q hq).2 h))
        refine ⟨ys, h7.same fun g1 hg1 => Below.heap_setCell _ _ _ _ fun e1 => h5 g1 hg1 e1.symm, fun i1 hi1 t1 ht1 => ?_⟩
        obtain ⟨u, hu, h9, h10⟩ := h8 i1 hi1 t1 ht1
        exact ⟨u, hu, h9, hmo h10⟩
      · simpa [blk1] using e1
/-- Into a cell off column c. -/
theorem t_stU {ops : Array Oper} {rest : List Oper} {K : St → Prop} {t : TypeId} {p x : Operand} {ty : TypeId} {pos : String} {after : Array Edge} {i off : Nat} {s : SV} (get' : Nat → Nat → SV)
    (hp : Val E S p (.oe j k i off)) (ho : lookO j S.owns = some (.urow n k get e c ce ck m kn kget hole)) (hx : Val E S x s) (h1 : s.one = true) (hro : s.isRO = true) (hs : ∀ w, (sizeOf t).run P w = .ok 1 w) (hoff : off < k) (hc : off ≠ c)
    (hset : get' i off = s) (hsame : ∀ i', i' < n → ∀ t, t < k → (i' ≠ i ∨ t ≠ off) → get' i' t = get i' t)
    (hk : T P E ops rest ⟨S.slots, (j, .urow n k get' e c ce ck m kn kget hole) :: S.owns⟩ K) :
    T P E ops ({ dst := none, op := .store t p x, type := ty, pos, after, guard := none } :: rest) S K :=
  t_stG get' hp ho hx (one_of h1) hs hoff (.inl ⟨hc, hro, hset, rfl⟩) hsame hk
/-- Into column c. -/
theorem t_stH {ops : Array Oper} {rest : List Oper} {K : St → Prop} {t : TypeId} {p x : Operand} {ty : TypeId} {pos : String} {after : Array Edge} {i : Nat} {s : SV}
    (hp : Val E S p (.oe j k i c)) (ho : lookO j S.owns = some (.urow n k get e c ce ck m kn kget hole)) (hx : Val E S x s) (h1 : OneV E S s) (hs : ∀ w, (sizeOf t).run P w = .ok 1 w) (hoff : c < k)
    (hh : isHole i hole ∨ (hole = none ∧ m ≤ i))
    (hk : T P E ops rest ⟨S.slots, (j, .urow n k get e c ce ck m kn kget (some (i, s))) :: S.owns⟩ K) :
    T P E ops ({ dst := none, op := .store t p x, type := ty, pos, after, guard := none } :: rest) S K :=
  t_stG get hp ho hx h1 hs hoff (.inr ⟨rfl, rfl, hh⟩) (fun _ _ _ _ _ => rfl) hk
end urow
end Go.Eng

namespace Go.Eng
open Go.RowKit
variable {P : Program} {NN : Nat} {E : Env NN}
section urow
variable {S : St} {j n k : Nat} {get : Nat → Nat → SV} {e : TypeId} {c : Nat} {ce : TypeId} {ck m : Nat} {kn : Nat → Nat} {kget : Nat → Nat → Nat → SV} {hole : Option (Nat × SV)}
theorem hdv_tuple (v : Value) (l : List Value) : hdv (.tuple (v :: l).toArray) = v := rfl
theorem Bk_tuple {v : Value} {l : List Value} {g : Nat} : Bk (.tuple (v :: l).toArray) g ↔ blk1 v = some g ∨ ∃ (i : Nat) (u : Value), l[i]? = some u ∧ blk1 u = some g := by
  constructor
  · rintro ⟨i, u, hi, hu⟩
    cases i with
    | zero =>
      have : v = u := by simpa using hi
      subst this; exact .inl hu
    | succ i => exact .inr ⟨i, u, by simpa using hi, hu⟩
  · rintro (h | ⟨i, u, hi, hu⟩)
    · exact ⟨0, v, rfl, h⟩
    · exact ⟨i + 1, u, by simpa using hi, hu⟩
theorem blk1_undef : blk1 undef = none := rfl
/-- A slice out of the bundle: it is the frame's own by a name. -/
theorem turn_split (j i j2 : Nat) (ho : lookO j S.owns = some (.urow n k get e c ce ck m kn kget none)) (hi : i < m) (hj : Nat.blt j 1000 = true) (hf : S.fresh j2 = true) :
    Turn E S ⟨S.slots, (j, .urow n k get e c ce ck m kn kget (some (i, .own j2))) :: (j2, .arow (kn i) ck (kget i) ce) :: dropKs [] S.owns⟩ := fun b a w hr => by
  obtain ⟨v, subs, xs, h1, hown, hsl, hmn, hc, hsub⟩ := hr.owns j _ ho
  have hj' : j < 1000 := Nat.le_of_ble_eq_true hj
  obtain ⟨hf1, hf2, hf3⟩ := St.fresh_parts hf
  have hjj : j ≠ j2 := (lookO_fresh hf2 j _ ho).1
  obtain ⟨s, hs1, _, hs3, hs4, hs5⟩ := hsub i hi
  obtain ⟨ys, hys, hyc⟩ := hs3 (fun z => z)
  obtain ⟨As, cs, hss, _⟩ := hys.slice
  let b' := setB (setB b j2 s) j (.tuple (v :: subs.set i undef).toArray)
  have hb1 : b' j = .tuple (v :: subs.set i undef).toArray := setB_same _ _ _
  have hb2 : b' j2 = s := by simp only [b']; rw [setB_other _ _ _ (Ne.symm hjj), setB_same]
  have hb3 : ∀ q, q ≠ j → q ≠ j2 → b' q = b q := fun q h2 h3 => by simp only [b']; rw [setB_other _ _ _ h2, setB_other _ _ _ h3]
  have hlk : ∀ {q o}, lookO q [(j, Own.urow n k get e c ce ck m kn kget (some (i, .own j2))), (j2, .arow (kn i) ck (kget i) ce)] = some o → (q = j ∧ o = .urow n k get e c ce ck m kn kget (some (i, .own j2))) ∨ (q = j2 ∧ o = .arow (kn i) ck (kget i) ce) := fun {q o} h => by
    rw [lookO_cons] at h
    split at h
    · injection h with h; exact .inl ⟨‹_›, h.symm⟩
    · rw [lookO_cons] at h
      split at h
      · injection h with h; exact .inr ⟨‹_›, h.symm⟩
      · cases h
  have hbkj : ∀ g, Bk (b' j) g → Bk (b j) g := fun g hg => by
    rw [hb1, Bk_tuple] at hg
    rw [h1, Bk_tuple]
    rcases hg with hg | ⟨q, u, hq, hu⟩
    · exact .inl hg
    · rw [List.getElem?_set] at hq
      split at hq
      · split at hq
        · injection hq with hq; subst hq; cases hu
        · cases hq
      · exact .inr ⟨q, u, hq, hu⟩
  refine ⟨b', hr.rename2 [] [(j, .urow n k get e c ce ck m kn kget (some (i, .own j2))), (j2, .arow (kn i) ck (kget i) ce)] (notJ j2) (fun q hq => ?_) (fun s x hx => look_fresh hf1 s x hx) (fun q o hq => .inl (lookO_fresh hf2 q o hq).2) (fun q o hq _ hn => ?_) (fun q hq => hb3 q (by omega) (by omega)) (fun hX q o hq => ?_) (fun q o hq g hg => ?_) (fun q z oq oz hq hz hne g hg hg2 => ?_)⟩
  · have h2 := notJ_ne hq
    by_cases h3 : q = j
    · subst h3
      rw [hb1, h1]
      exact ⟨rfl, fun z hz => by cases hz⟩
    · rw [hb3 q h3 h2]; exact ⟨rfl, fun _ _ => rfl⟩
  · refine hb3 q (fun h => ?_) (fun h => ?_)
    · subst h; rw [lookO_cons, if_pos rfl] at hn; cases hn
    · subst h; exact absurd rfl (lookO_fresh hf2 q o hq).1
  · rcases hlk hq with ⟨rfl, rfl⟩ | ⟨rfl, rfl⟩
    · refine ⟨v, subs.set i undef, xs, hb1, hown, by rw [List.length_set]; exact hsl, hmn, fun i1 hi1 t ht => ?_, fun i1 hi1 => ?_⟩
      · obtain ⟨u, hu, h2, h3, h4, h5, h6⟩ := hc i1 hi1 t ht
        refine ⟨u, hu, h2, fun z => (h3 z).mono ⟨Nat.le_refl _, fun _ _ _ => rfl⟩ (fun g _ => hX g), fun z z2 z3 => (h4 z (fun y => y) z3).mono ⟨Nat.le_refl _, fun _ _ _ => rfl⟩ (fun g _ => hX g), fun z z2 z3 => ?_, fun z x hx => ?_⟩
        · rw [List.getElem?_set, if_neg (fun h => z2 h.symm)]
          exact h5 z (fun y => y) z3
        · simp only [Option.some.injEq, Prod.mk.injEq] at hx
          obtain ⟨rfl, rfl⟩ := hx
          have h7 := h5 z (fun y => y) hi
          rw [hs1] at h7
          injection h7 with h7
          subst h7
          show s = hdv (b' j2)
          rw [hb2, hss]; rfl
      · by_cases h2 : i1 = i
        · subst h2
          refine ⟨undef, by rw [List.getElem?_set, if_pos rfl, if_pos (by omega)], fun _ => rfl, fun z => absurd rfl z, fun g hg => (by have q : (none : Option Nat) = some g := hg; cases q), fun _ _ _ _ g hg => (by have q : (none : Option Nat) = some g := hg; cases q)⟩
        · obtain ⟨s1, h3, h4, h5, h6, h7⟩ := hsub i1 hi1
          refine ⟨s1, by rw [List.getElem?_set, if_neg (fun h => h2 h.symm)]; exact h3, fun z => absurd z h2, fun _ => ?_, h6, fun i' s' hs' hne g hg hg' => ?_⟩
          · obtain ⟨zs, h8, h9⟩ := h5 (fun z => z)
            exact ⟨zs, h8, fun q1 hq1 t ht => by
              obtain ⟨u, hu, h10, h11⟩ := h9 q1 hq1 t ht
              exact ⟨u, hu, h10, h11.mono ⟨Nat.le_refl _, fun _ _ _ => rfl⟩ (fun g _ => hX g)⟩⟩
          · rw [List.getElem?_set] at hs'
            split at hs'
            · split at hs'
              · injection hs' with hs'; subst hs'; cases hg'
              · cases hs'
            · exact h7 i' s' hs' hne g hg hg'
    · refine ⟨ys, by rw [hb2]; exact hys, fun q1 hq1 t ht => ?_⟩
      obtain ⟨u, hu, h10, h11⟩ := hyc q1 hq1 t ht
      exact ⟨u, hu, h10, h11.mono ⟨Nat.le_refl _, fun _ _ _ => rfl⟩ (fun g _ => hX g)⟩
  · refine ⟨j, _, ho, .inr (by rw [lookO_cons, if_pos rfl]; rfl), ?_⟩
    rcases hlk hq with ⟨rfl, rfl⟩ | ⟨rfl, rfl⟩
    · exact hbkj g hg
    · rw [hb2, Bk_slice hss] at hg
      rw [h1, Bk_tuple]
      exact .inr ⟨i, s, hs1, hg⟩
  · have key : ∀ g, Bk (b' j) g → ¬ Bk (b' j2) g := fun g hg hg2 => by
      rw [hb2, Bk_slice hss] at hg2
      rw [hb1, Bk_tuple] at hg
      rcases hg with hg | ⟨q1, u, hq1, hu⟩
      · exact hs4 g hg2 hg
      · rw [List.getElem?_set] at hq1
        split at hq1
        · split at hq1
          · injection hq1 with hq1; subst hq1; cases hu
          · cases hq1
        · exact hs5 q1 u hq1 (fun h => ‹¬ i = q1› h.symm) g hg2 hu
    rcases hlk hq with ⟨rfl, _⟩ | ⟨rfl, _⟩ <;> rcases hlk hz with ⟨rfl, _⟩ | ⟨rfl, _⟩
    · exact hne rfl
    · exact key g hg hg2
    · exact key g hg2 hg
    · exact hne rfl
end urow
end Go.Eng

namespace Go.Eng
open Go.RowKit
variable {P : Program} {NN : Nat} {E : Env NN}
section urow
variable {S : St} {j n k : Nat} {get : Nat → Nat → SV} {e : TypeId} {c : Nat} {ce : TypeId} {ck m : Nat} {kn : Nat → Nat} {kget : Nat → Nat → Nat → SV} {hole : Option (Nat × SV)}
/-- A slice of the frame's own into the bundle: it lies in the row whose cell holds it. -/
theorem turn_join (get' : Nat → Nat → SV) (j i j2 m' n2 : Nat) {g2 : Nat → Nat → SV} {o : Own} (kn' : Nat → Nat) (kget' : Nat → Nat → Nat → SV) (ho : lookO j S.owns = some (.urow n k get e c ce ck m kn kget (some (i, .own j2)))) (ho2 : lookO j2 S.owns = some o) (he : o = .arow n2 ck g2 ce)
    (hi : i < n) (him : i ≤ m) (hm' : m' = if i < m then m else m + 1) (hj : Nat.blt j 1000 = true) (hj2 : Nat.beq j2 j = false)
    (hn2 : kn' i = n2) (hg2 : ∀ q, q < n2 → ∀ t, t < ck → kget' i q t = g2 q t) (hsame : ∀ q, q < m → q ≠ i → kn' q = kn q ∧ ∀ p, p < kn q → ∀ t, t < ck → kget' q p t = kget q p t) (hget : ∀ q, q < n → ∀ t, t < k → (t ≠ c ∨ m' ≤ q) → get' q t = get q t) :
    Turn E S ⟨S.slots, (j, .urow n k get' e c ce ck m' kn' kget' none) :: dropKs [j2] S.owns⟩ := fun b a w hr => by
  subst he
  obtain ⟨v, subs, xs, h1, hown, hsl, hmn, hc, hsub⟩ := hr.owns j _ ho
  have hj' : j < 1000 := Nat.le_of_ble_eq_true hj
  have hjj : j2 ≠ j := fun h => by rw [h] at hj2; simp at hj2
  obtain ⟨ys, hys, hyc⟩ := hr.owns j2 _ ho2
  obtain ⟨As, cs, hss, _⟩ := hys.slice
  have hap : ∀ g, blk1 (b j2) = some g → Bk (b j) g → False := fun g h2 h3 => hr.apart j2 j _ _ ho2 ho hjj g ((Bk_slice hss).2 h2) h3
  rw [h1] at hap
  let subs' := if i < m then subs.set i (b j2) else subs ++ [b j2]
  have hsl' : subs'.length = m' := by
    simp only [subs']
    split
    · rename_i h; rw [List.length_set, hm', if_pos h]; exact hsl
    · rename_i h; rw [List.length_append, hm', if_neg h, hsl]; rfl
  have hat : ∀ q, subs'[q]? = if q = i then some (b j2) else subs[q]? := fun q => by
    simp only [subs']
    split
    · rename_i h
      rw [List.getElem?_set]
      by_cases h2 : i = q
      · rw [if_pos h2, if_pos h2.symm, if_pos (by omega)]
      · rw [if_neg h2, if_neg (fun h3 => h2 h3.symm)]
    · rename_i h
      by_cases h2 : q = i
      · rw [if_pos h2, List.getElem?_append_right (by omega)]
        rw [show q - subs.length = 0 from by omega]; rfl
      · rw [if_neg h2]
        by_cases h3 : q < subs.length
        · rw [List.getElem?_append_left h3]
        · rw [List.getElem?_eq_none (l := subs) (by omega), List.getElem?_eq_none (by rw [List.length_append, List.length_singleton]; omega)]
  let b' := setB b j (.tuple (v :: subs').toArray)
  have hb1 : b' j = .tuple (v :: subs').toArray := setB_same _ _ _
  have hb3 : ∀ q, q ≠ j → b' q = b q := fun q h2 => setB_other _ _ _ h2
  have hlk : ∀ {q o}, lookO q [(j, Own.urow n k get' e c ce ck m' kn' kget' none)] = some o → (q = j ∧ o = .urow n k get' e c ce ck m' kn' kget' none) := fun {q o} h => by
    rw [lookO_cons] at h
    split at h
    · injection h with h; exact ⟨‹_›, h.symm⟩
    · cases h
  refine ⟨b', hr.rename2 [j2] [(j, .urow n k get' e c ce ck m' kn' kget' none)] (fun _ => true) (fun q hq => ?_) (fun _ _ _ => okId_all _) (fun q o hq => .inl ?_) (fun q o hq _ hn => ?_) (fun q hq => hb3 q (by omega)) (fun hX q o hq => ?_) (fun q o hq g hg => ?_) (fun q z oq oz hq hz hne g hg hg2 => ?_)⟩
  · by_cases h3 : q = j
    · subst h3
      rw [hb1, h1]
      exact ⟨rfl, fun z hz => by cases hz⟩
    · rw [hb3 q h3]; exact ⟨rfl, fun _ _ => rfl⟩
  · cases o with
    | box m get ty => exact allB_of fun t _ => okId_all _
    | urow n k get e c ce ck m kn kget hole => cases hole <;> first | rfl | exact okId_all _
    | _ => rfl
  · refine hb3 q (fun h => ?_)
    subst h; rw [lookO_cons, if_pos rfl] at hn; cases hn
  · obtain ⟨rfl, rfl⟩ := hlk hq
    have hXo : ∀ {x u}, RO w (S.excl E b) x u → RO w (St.excl ⟨S.slots, [(q, Own.urow n k get' e c ce ck m' kn' kget' none)] ++ dropKs [j2] S.owns⟩ E b') x u := fun h => h.mono ⟨Nat.le_refl _, fun _ _ _ => rfl⟩ (fun g _ => hX g)
    have hmm : ∀ q1, q1 < m' → q1 ≠ i → q1 < m := fun q1 h2 h3 => by rw [hm'] at h2; split at h2 <;> omega
    refine ⟨v, subs', xs, hb1, hown, hsl', by rw [hm']; split <;> omega, fun i1 hi1 t ht => ?_, fun i1 hi1 => ?_⟩
    · obtain ⟨u, hu, h2, h3, h4, h5, h6⟩ := hc i1 hi1 t ht
      refine ⟨u, hu, h2, fun z => by rw [hget i1 hi1 t ht (.inl z)]; exact hXo (h3 z), fun z _ z3 => ?_, fun z _ z3 => ?_, fun z x hx => (by cases hx)⟩
      · have : i1 ≠ i := fun h => by rw [h, hm'] at z3; split at z3 <;> omega
        rw [hget i1 hi1 t ht (.inr z3)]
        exact hXo (h4 z this (by rw [hm'] at z3; split at z3 <;> omega))
      · rw [hat]
        by_cases h7 : i1 = i
        · subst h7
          rw [if_pos rfl]
          have h8 : u = hdv (b j2) := h6 z _ rfl
          rw [h8, hss]; rfl
        · rw [if_neg h7]
          exact h5 z h7 (hmm i1 z3 h7)
    · by_cases h2 : i1 = i
      · subst h2
        refine ⟨b j2, by rw [hat, if_pos rfl], fun z => z.elim, fun _ => ⟨ys, by rw [hn2]; exact hys, fun q1 hq1 t ht => ?_⟩, fun g hg hv => ?_, fun i' s' hs' hne g hg hg' => ?_⟩
        · rw [hn2] at hq1
          obtain ⟨u, hu, h10, h11⟩ := hyc q1 hq1 t ht
          exact ⟨u, hu, h10, by rw [hg2 q1 hq1 t ht]; exact hXo h11⟩
        · exact hap g hg (Bk_tuple.2 (.inl hv))
        · rw [hat, if_neg hne] at hs'
          exact hap g hg (Bk_tuple.2 (.inr ⟨i', s', hs', hg'⟩))
      · obtain ⟨s1, h3, h4, h5, h6, h7⟩ := hsub i1 (hmm i1 hi1 h2)
        obtain ⟨e1, e2⟩ := hsame i1 (hmm i1 hi1 h2) h2
        refine ⟨s1, by rw [hat, if_neg h2]; exact h3, fun z => z.elim, fun _ => ?_, h6, fun i' s' hs' hne g hg hg' => ?_⟩
        · obtain ⟨zs, h8, h9⟩ := h5 h2
          refine ⟨zs, by rw [e1]; exact h8, fun q1 hq1 t ht => ?_⟩
          rw [e1] at hq1
          obtain ⟨u, hu, h10, h11⟩ := h9 q1 hq1 t ht
          exact ⟨u, hu, h10, by rw [e2 q1 hq1 t ht]; exact hXo h11⟩
        · rw [hat] at hs'
          split at hs'
          · injection hs' with hs'
            subst hs'
            exact hap g hg' (Bk_tuple.2 (.inr ⟨i1, s1, h3, hg⟩))
          · exact h7 i' s' hs' hne g hg hg'
  · obtain ⟨rfl, rfl⟩ := hlk hq
    rw [hb1, Bk_tuple] at hg
    rcases hg with hg | ⟨i1, u, hi1, hu⟩
    · exact ⟨q, _, ho, .inr (by rw [lookO_cons, if_pos rfl]; rfl), by rw [h1, Bk_tuple]; exact .inl hg⟩
    · rw [hat] at hi1
      split at hi1
      · injection hi1 with hi1
        subst hi1
        exact ⟨j2, _, ho2, .inl (List.mem_singleton.2 rfl), (Bk_slice hss).2 hu⟩
      · exact ⟨q, _, ho, .inr (by rw [lookO_cons, if_pos rfl]; rfl), by rw [h1, Bk_tuple]; exact .inr ⟨i1, u, hi1, hu⟩⟩
  · obtain ⟨rfl, _⟩ := hlk hq
    obtain ⟨rfl, _⟩ := hlk hz
    exact hne rfl
/-- What a cell reads as when the bundle's slices are no more to be written to. -/
def uro (get : Nat → Nat → SV) (c ck m : Nat) (kn : Nat → Nat) (kget : Nat → Nat → Nat → SV) (hole : Option (Nat × SV)) (i t : Nat) : SV :=
  if t = c then match hole with
    | some (h, x) => if i = h then x else if i < m then .row (kn i) ck (kget i) else get i t
    | none => if i < m then .row (kn i) ck (kget i) else get i t
  else get i t
/-- The bundle's slices are no more to be written to: the slice itself is. -/
theorem turn_uA (j : Nat) (get' : Nat → Nat → SV) (ho : lookO j S.owns = some (.urow n k get e c ce ck m kn kget hole)) (hj : Nat.blt j 1000 = true) (hh : ∀ i x, hole = some (i, x) → x.isRO = true)
    (hg : ∀ i, i < n → ∀ t, t < k → uro get c ck m kn kget hole i t = get' i t) :
    Turn E S ⟨S.slots, (j, .arow n k get' e) :: dropKs [] S.owns⟩ := fun b a w hr => by
  obtain ⟨v, subs, xs, h1, hown, hsl, hmn, hc, hsub⟩ := hr.owns j _ ho
  have hj' : j < 1000 := Nat.le_of_ble_eq_true hj
  obtain ⟨A, cp, hs, _⟩ := hown.slice
  let b' := setB b j v
  have hb1 : b' j = v := setB_same _ _ _
  have hb3 : ∀ q, q ≠ j → b' q = b q := fun q h2 => setB_other _ _ _ h2
  have hlk : ∀ {q o}, lookO q [(j, Own.arow n k get' e)] = some o → (q = j ∧ o = .arow n k get' e) := fun {q o} h => by
    rw [lookO_cons] at h
    split at h
    · injection h with h; exact ⟨‹_›, h.symm⟩
    · cases h
  refine ⟨b', hr.rename2 [] [(j, .arow n k get' e)] (fun _ => true) (fun q hq => ?_) (fun _ _ _ => okId_all _) (fun q o hq => .inl ?_) (fun q o hq _ hn => ?_) (fun q hq => hb3 q (by omega)) (fun hX q o hq => ?_) (fun q o hq g hg => ?_) (fun q z oq oz hq hz hne g hg hg2 => ?_)⟩
  · by_cases h3 : q = j
    · subst h3
      rw [hb1, h1]
      exact ⟨by rw [hs]; rfl, fun z hz => by cases hz⟩
    · rw [hb3 q h3]; exact ⟨rfl, fun _ _ => rfl⟩
  · cases o with
    | box m get ty => exact allB_of fun t _ => okId_all _
    | urow n k get e c ce ck m kn kget hole => cases hole <;> first | rfl | exact okId_all _
    | _ => rfl
  · refine hb3 q (fun h => ?_)
    subst h; rw [lookO_cons, if_pos rfl] at hn; cases hn
  · obtain ⟨rfl, rfl⟩ := hlk hq
    have hXo : ∀ {x u}, RO w (S.excl E b) x u → RO w (St.excl ⟨S.slots, [(q, Own.arow n k get' e)] ++ dropKs [] S.owns⟩ E b') x u := fun h => h.mono ⟨Nat.le_refl _, fun _ _ _ => rfl⟩ (fun g _ => hX g)
    have hfree : ∀ i s, subs[i]? = some s → i < m → ∀ g, blk1 s = some g → ¬ St.excl ⟨S.slots, [(q, Own.arow n k get' e)] ++ dropKs [] S.owns⟩ E b' g := fun i s hs1 hi g hg => by
      have hbg : Bk (b q) g := by rw [h1, Bk_tuple]; exact .inr ⟨i, s, hs1, hg⟩
      rintro (hh | ⟨z, o, hz1, hz2⟩)
      · exact hr.notX ho hbg hh
      · rcases lookO_app hz1 with h5 | ⟨h4, h5⟩
        · obtain ⟨rfl, rfl⟩ := hlk h5
          rw [hb1, Bk_slice hs] at hz2
          obtain ⟨s2, h6, _, _, h7, _⟩ := hsub i hi
          rw [hs1] at h6
          injection h6 with h6
          subst h6
          exact h7 g hg hz2
        · obtain ⟨_, h6⟩ := lookO_dropKs h5
          have hne : z ≠ q := fun e1 => by subst e1; rw [lookO_cons, if_pos rfl] at h4; cases h4
          rw [hb3 z hne] at hz2
          exact hr.apart z q _ _ h6 ho hne g hz2 hbg
    refine ⟨xs, by rw [hb1]; exact hown, fun i hi t ht => ?_⟩
    obtain ⟨u, hu, h2, h3, h4, h5, h6⟩ := hc i hi t ht
    refine ⟨u, hu, h2, ?_⟩
    rw [← hg i hi t ht]
    have hsubrow : t = c → ¬ isHole i hole → i < m → RO w (St.excl ⟨S.slots, [(q, Own.arow n k get' e)] ++ dropKs [] S.owns⟩ E b') (.row (kn i) ck (kget i)) u := fun z z2 z3 => by
      have h7 := h5 z z2 z3
      obtain ⟨s, h8, _, h9, _⟩ := hsub i z3
      rw [h7] at h8
      injection h8 with h8
      subst h8
      obtain ⟨ys, h10, h11⟩ := h9 z2
      exact h10.row (fun g hg => hfree i u h7 z3 g hg) (fun q1 hq1 t1 ht1 => by
        obtain ⟨u1, hu1, h12, h13⟩ := h11 q1 hq1 t1 ht1
        exact ⟨u1, hu1, h12, hXo h13⟩)
    unfold uro
    split
    · rename_i z
      split
      · split
        · rename_i e1; subst e1
          have h7 := h6 z _ rfl
          exact hXo (h7.toRO (hh _ _ rfl))
        · rename_i e1
          split
          · exact hsubrow z e1 ‹_›
          · exact hXo (h4 z e1 (by omega))
      · split
        · exact hsubrow z (fun z => z) ‹_›
        · exact hXo (h4 z (fun z => z) (by omega))
    · exact hXo (h3 ‹_›)
  · obtain ⟨rfl, rfl⟩ := hlk hq
    rw [hb1, Bk_slice hs] at hg
    exact ⟨q, _, ho, .inr (by rw [lookO_cons, if_pos rfl]; rfl), by rw [h1, Bk_tuple]; exact .inl hg⟩
  · obtain ⟨rfl, _⟩ := hlk hq
    obtain ⟨rfl, _⟩ := hlk hz
    exact hne rfl
end urow
end Go.Eng

namespace Go.Eng
open Go.RowKit
variable {P : Program} {NN : Nat} {E : Env NN}
/-! The same, of typed elements: sub is what column c holds. -/
def urowOf {α β : Type} (cell : α → Nat → SV) (k : Nat) (d : α) (l : List α) (e : TypeId) (c : Nat) (sub : α → List β) (scell : β → Nat → SV) (ck : Nat) (sd : β) (ce : TypeId) (m : Nat) (hole : Option (Nat × SV)) : Own :=
  .urow l.length k (rowG cell d l) e c ce ck m (fun i => (sub (l.getD i d)).length) (fun i => rowG scell sd (sub (l.getD i d))) hole
section typed
variable {α β : Type} {cell : α → Nat → SV} {k : Nat} {d : α} {l : List α} {e : TypeId} {c : Nat} {sub : α → List β} {scell : β → Nat → SV} {ck : Nat} {sd : β} {ce : TypeId} {m : Nat} {hole : Option (Nat × SV)} {S : St} {j : Nat}
theorem getD_put (l : List α) (i q : Nat) (y : α) (h : i < l.length) : (l.set i y).getD q d = if q = i then y else l.getD q d := by
  simp only [List.getD_eq_getElem?_getD, List.getElem?_set]
  by_cases e : i = q
  · subst e; simp [h]
  · rw [if_neg e, if_neg (fun z => e z.symm)]
theorem uat_off {get : Nat → Nat → SV} {i t : Nat} (h : t ≠ c) : uat get c m hole i t = get i t := if_neg h
theorem uat_hole {get : Nat → Nat → SV} {i : Nat} {x : SV} : uat get c m (some (i, x)) i c = x := by
  rw [uat, if_pos rfl]; exact if_pos rfl
theorem uat_early {get : Nat → Nat → SV} {i : Nat} (h : i < m) : uat get c m none i c = .junk := by
  rw [uat, if_pos rfl]; exact if_pos h
theorem uat_late {get : Nat → Nat → SV} {i : Nat} (h : m ≤ i) : uat get c m none i c = get i c := by
  rw [uat, if_pos rfl]; exact if_neg (by omega)
theorem turn_u0T (j c : Nat) (sub : α → List β) (scell : β → Nat → SV) (ck : Nat) (sd : β) (ce : TypeId) (ho : lookO j S.owns = some (ownOf cell k d l e)) (hj : Nat.blt j 1000 = true) :
    Turn E S ⟨S.slots, (j, urowOf cell k d l e c sub scell ck sd ce 0 none) :: dropKs [] S.owns⟩ := turn_u0 j c ce ck _ _ ho hj
theorem t_stUT {ops : Array Oper} {rest : List Oper} {K : St → Prop} {t : TypeId} {p x : Operand} {ty : TypeId} {pos : String} {after : Array Edge} {i off : Nat} {s : SV} (y : α)
    (hp : Val E S p (.oe j k i off)) (ho : lookO j S.owns = some (urowOf cell k d l e c sub scell ck sd ce m hole)) (hx : Val E S x s) (h1 : s.one = true) (hro : s.isRO = true) (hs : ∀ w, (sizeOf t).run P w = .ok 1 w) (hoff : off < k) (hc : off ≠ c)
    (hil : i < l.length) (hset : cell y off = s) (hsame : ∀ t, t < k → t ≠ off → cell y t = cell (l.getD i d) t) (hsub : sub y = sub (l.getD i d))
    (hk : T P E ops rest ⟨S.slots, (j, urowOf cell k d (l.set i y) e c sub scell ck sd ce m hole) :: S.owns⟩ K) :
    T P E ops ({ dst := none, op := .store t p x, type := ty, pos, after, guard := none } :: rest) S K := by
  refine t_stU (rowG cell d (l.set i y)) hp ho hx h1 hro hs hoff hc ?_ (fun q hq t ht hne => ?_) ?_
  · show cell ((l.set i y).getD i d) off = s
    rw [getD_put _ _ _ _ hil, if_pos rfl]; exact hset
  · show cell ((l.set i y).getD q d) t = cell (l.getD q d) t
    rw [getD_put _ _ _ _ hil]
    split
    · rename_i e1; subst e1
      exact hsame t ht (hne.resolve_left fun z => z rfl)
    · rfl
  · have h2 : ∀ q, sub ((l.set i y).getD q d) = sub (l.getD q d) := fun q => by
      rw [getD_put _ _ _ _ hil]
      split
      · rename_i e1; subst e1; exact hsub
      · rfl
    simp only [urowOf, h2, List.length_set] at hk
    exact hk
theorem turn_joinT (j i j2 m' : Nat) (y : α) {o : Own} {x : List β} (ho : lookO j S.owns = some (urowOf cell k d l e c sub scell ck sd ce m (some (i, .own j2)))) (ho2 : lookO j2 S.owns = some o) (he : o = ownOf scell ck sd x ce)
    (hi : i < l.length) (him : i ≤ m) (hm' : m' = if i < m then m else m + 1) (hj : Nat.blt j 1000 = true) (hj2 : Nat.beq j2 j = false)
    (hsame : ∀ t, t < k → t ≠ c → cell y t = cell (l.getD i d) t) (hsub : sub y = x) :
    Turn E S ⟨S.slots, (j, urowOf cell k d (l.set i y) e c sub scell ck sd ce m' none) :: dropKs [j2] S.owns⟩ := by
  have h2 : ∀ q, (l.set i y).getD q d = if q = i then y else l.getD q d := fun q => getD_put _ _ _ _ hi
  have := turn_join (E := E) (rowG cell d (l.set i y)) j i j2 m' x.length (fun q => (sub ((l.set i y).getD q d)).length) (fun q => rowG scell sd (sub ((l.set i y).getD q d))) ho ho2 he hi him hm' hj hj2
    (by show (sub ((l.set i y).getD i d)).length = _; rw [h2, if_pos rfl, hsub]) (fun q hq t ht => by show rowG scell sd (sub ((l.set i y).getD i d)) q t = _; rw [h2, if_pos rfl, hsub])
    (fun q hq hne => by
      constructor
      · show (sub ((l.set i y).getD q d)).length = _; rw [h2, if_neg hne]
      · intro p hp t ht
        show rowG scell sd (sub ((l.set i y).getD q d)) p t = _; rw [h2, if_neg hne])
    (fun q hq t ht hne => by
      show cell ((l.set i y).getD q d) t = cell (l.getD q d) t
      rw [h2]
      split
      · rename_i e1; subst e1
        refine hsame t ht (hne.resolve_right fun z => ?_)
        rw [hm'] at z; split at z <;> omega
      · rfl)
  simp only [urowOf, List.length_set]
  exact this
theorem turn_splitT (j i j2 : Nat) (ho : lookO j S.owns = some (urowOf cell k d l e c sub scell ck sd ce m none)) (hi : i < m) (hj : Nat.blt j 1000 = true) (hf : S.fresh j2 = true) :
    Turn E S ⟨S.slots, (j, urowOf cell k d l e c sub scell ck sd ce m (some (i, .own j2))) :: (j2, ownOf scell ck sd (sub (l.getD i d)) ce) :: dropKs [] S.owns⟩ := turn_split j i j2 ho hi hj hf
theorem turn_uAT (j : Nat) (ho : lookO j S.owns = some (urowOf cell k d l e c sub scell ck sd ce m none)) (hj : Nat.blt j 1000 = true) (hcell : ∀ x, cell x c = rowOf scell ck sd (sub x)) :
    Turn E S ⟨S.slots, (j, ownOf cell k d l e) :: dropKs [] S.owns⟩ :=
  turn_uA j (rowG cell d l) ho hj (fun _ _ h => (by cases h)) fun i hi t ht => by
    unfold uro
    split
    · rename_i h; subst h
      show (if i < m then _ else _) = _
      split
      · exact (hcell _).symm
      · rfl
    · rfl
theorem turn_uAH (j i : Nat) (y : α) {x : SV} {xs : List β} (ho : lookO j S.owns = some (urowOf cell k d l e c sub scell ck sd ce m (some (i, x)))) (hx : x = rowOf scell ck sd xs) (hi : i < l.length) (hj : Nat.blt j 1000 = true) (hcell : ∀ x, cell x c = rowOf scell ck sd (sub x))
    (hsame : ∀ t, t < k → t ≠ c → cell y t = cell (l.getD i d) t) (hsub : sub y = xs) :
    Turn E S ⟨S.slots, (j, ownOf cell k d (l.set i y) e) :: dropKs [] S.owns⟩ := by
  subst hx
  have h2 : ∀ q, (l.set i y).getD q d = if q = i then y else l.getD q d := fun q => getD_put _ _ _ _ hi
  have := turn_uA (E := E) j (rowG cell d (l.set i y)) ho hj (fun i' x' h => by
    simp only [Option.some.injEq, Prod.mk.injEq] at h
    rw [← h.2]; rfl) fun q hq t ht => by
      show _ = cell ((l.set i y).getD q d) t
      unfold uro
      rw [h2]
      split
      · rename_i h; subst h
        show (if q = i then _ else _) = _
        split
        · rename_i e1; subst e1
          rw [hcell, hsub]
        · split
          · exact (hcell _).symm
          · rfl
      · split
        · rename_i e1; subst e1
          exact (hsame t ht ‹_›).symm
        · rfl
  unfold ownOf
  rw [List.length_set]
  exact this
theorem weak_uE {l' : List α} {m' : Nat} (ho : lookO j S.owns = some (urowOf cell k d l e c sub scell ck sd ce m hole)) (h : l = l') (hm : m = m') : Weak E S ⟨S.slots, (j, urowOf cell k d l' e c sub scell ck sd ce m' hole) :: S.owns⟩ := by
  subst h; subst hm
  exact weak_ownG ho fun _ _ _ h => h
theorem k_uE {G : Act → World → Prop} (j : Nat) (l' : List α) (m' : Nat) (ho : lookO j S.owns = some (urowOf cell k d l e c sub scell ck sd ce m hole)) (h : l = l') (hm : m = m') (hk : ∀ a w, Rep E ⟨S.slots, (j, urowOf cell k d l' e c sub scell ck sd ce m' hole) :: S.owns⟩ a w → G a w) : ∀ a w, Rep E S a w → G a w := k_weak (weak_uE ho h hm) hk
theorem c_uE {code : Code} {Q : Exit → Act → World → Prop} (j : Nat) (l' : List α) (m' : Nat) (ho : lookO j S.owns = some (urowOf cell k d l e c sub scell ck sd ce m hole)) (h : l = l') (hm : m = m') (hk : C P E code ⟨S.slots, (j, urowOf cell k d l' e c sub scell ck sd ce m' hole) :: S.owns⟩ Q) : C P E code S Q := (weak_uE ho h hm).c hk
end typed
end Go.Eng

namespace Go.Eng
open Go.RowKit
variable {P : Program} {NN : Nat} {E : Env NN}
theorem storeCells_at (g B : Nat) : ∀ (vs : List Value) (i : Nat), storeCells ⟨g, B, none⟩ vs i = storeCells ⟨g, 0, none⟩ vs (B + i)
  | [], i => rfl
  | v :: vs, i => by
    simp only [storeCells, Addr.add_lit, Nat.zero_add, storeCells_at g B vs (i + 1)]
    rfl
/-- A struct into an element of a slice of the frame's own. -/
theorem t_stOA {ops : Array Oper} {rest : List Oper} {S : St} {K : St → Prop} {t : TypeId} {p x : Operand} {ty : TypeId} {pos : String} {after : Array Edge} {j n n' k i off m : Nat} {get : Nat → Nat → SV} {e : TypeId} {gt : Nat → SV} (get' : Nat → Nat → SV)
    (hp : Val E S p (.oe j k i off)) (ho : lookO j S.owns = some (.arow n k get e)) (hx : Val E S x (.agg m gt)) (hro : AllN (fun t => (gt t).isRO = true) m) (hs : ∀ w, (sizeOf t).run P w = .ok m w) (hoff : off + m ≤ k) (hn : n = n')
    (hset : ∀ t, t < m → get' i (off + t) = gt t) (hsame : ∀ i', i' < n → ∀ t, t < k → (i' ≠ i ∨ t < off ∨ off + m ≤ t) → get' i' t = get i' t)
    (hk : T P E ops rest ⟨S.slots, (j, .arow n' k get' e) :: S.owns⟩ K) :
    T P E ops ({ dst := none, op := .store t p x, type := ty, pos, after, guard := none } :: rest) S K := by
  subst hn
  rintro a w ⟨b, hr⟩ Q hq
  obtain ⟨g, n', cap, hb, hi, hpv⟩ := hp b a w hr
  obtain ⟨A, c, hsl⟩ := own_slice hr ho
  rw [hsl] at hb
  simp only [hdv, Value.slice.injEq] at hb
  obtain ⟨rfl, rfl, rfl⟩ := hb
  obtain ⟨g', c', cur, hb', hbase, hh, hcap, hmax, hsz, hc⟩ := own_cells hr ho (by omega)
  have hb2 := hb'
  rw [hsl] at hb'
  simp only [Value.slice.injEq, Option.some.injEq, Addr.mk.injEq, and_true] at hb'
  obtain ⟨rfl, _, _⟩ := hb'
  obtain ⟨vs, hv, hvm, hvc⟩ := hx b a w hr
  have h1 : ∀ v ∈ vs.toList, v.oneCell' = true := by
    intro v hv
    obtain ⟨i, hi, rfl⟩ := List.getElem_of_mem hv
    obtain ⟨u, hu, h1, _⟩ := hvc i (by simpa [hvm] using hi)
    rw [Array.getElem?_eq_getElem (by simpa using hi)] at hu
    simp only [Option.some.injEq] at hu
    simpa [hu] using h1
  have hik : (i + 1) * k ≤ n * k := Nat.mul_le_mul_right _ hi
  have hik1 : (i + 1) * k = i * k + k := by rw [Nat.add_mul, Nat.one_mul]
  have hnk : n * k ≤ cur.size := by rw [hsz]; exact Nat.mul_le_mul_right _ hcap
  obtain ⟨w', cs', hrun, h2, h3, h4, h5, h6⟩ := setRow_all (P := P) hh vs.toList (i * k + off) (by simp only [Array.length_toList, hvm]; omega) h1
  unfold wpList
  rw [if_pos (by rfl)]
  refine .inl (wp_of_skip (w' := w') ?_ ?_)
  · have e1 := storeCells_at g (i * k + off) vs.toList 0
    rw [Nat.add_zero] at e1
    simp [execOp, Instr.storeAt, hpv, Instr.sureAddr, storeVar, hs, hv, Value.cells, hvm, e1, hrun]
  · refine hk _ _ ⟨b, ?_⟩ Q hq
    refine hr.setown ho (by rw [hb2]; exact rfl) h5 h6 (fun X hm hmo => ?_)
    refine ⟨cs'.toList.take (n * k), .inr ⟨⟨?_, .inr ⟨g, c' + 1, _, hb2, hbase, h2, hcap, hmax, by rw [h3]; exact hsz, rfl⟩⟩, g, n, c', hb2⟩, fun i' hi' t ht => ?_⟩
    · simp; omega
    · have hlt : i' * k + t < n * k := by
        have : (i' + 1) * k ≤ n * k := Nat.mul_le_mul_right _ hi'
        have e1 : (i' + 1) * k = i' * k + k := by rw [Nat.add_mul, Nat.one_mul]
        omega
      rw [List.getElem?_take, if_pos hlt, Array.getElem?_toList, h4]
      have hdiv : ∀ q r, r < k → (q * k + r) / k = q := fun q r hr => by rw [Nat.mul_comm, Nat.mul_add_div (by omega), Nat.div_eq_of_lt hr, Nat.add_zero]
      simp only [Array.length_toList, hvm]
      by_cases e1 : i * k + off ≤ i' * k + t ∧ i' * k + t < i * k + off + m
      · have hii : i' = i := by
          rw [← hdiv i' t ht, ← hdiv i (i' * k + t - i * k) (by omega)]
          congr 1; omega
        subst hii
        rw [if_pos e1]
        obtain ⟨u, hu, h7, h8⟩ := hvc (t - off) (by omega)
        have h9 := hset (t - off) (by omega)
        rw [show off + (t - off) = t from by omega] at h9
        refine ⟨u, ?_, h7, ?_⟩
        · rw [show i' * k + t - (i' * k + off) = t - off from by omega, Array.getElem?_toList]; exact hu
        · rw [h9]; exact hmo (h8.toRO (hro.at _ (by omega)))
      · rw [if_neg e1, hsame i' hi' t ht (by
          by_cases e2 : i' = i
          · subst e2; exact .inr (by omega)
          · exact .inl e2)]
        obtain ⟨u, hu, h7, h8⟩ := hc i' hi' t ht
        exact ⟨u, hu, h7, hmo h8⟩
/-- A struct as an element. -/
theorem t_stOAT {α : Type} {cell : α → Nat → SV} {d : α} {l : List α} {ops : Array Oper} {rest : List Oper} {S : St} {K : St → Prop} {t : TypeId} {p x : Operand} {ty : TypeId} {pos : String} {after : Array Edge} {j k i : Nat} {e : TypeId} {gt : Nat → SV} (y : α)
    (hp : Val E S p (.oe j k i 0)) (ho : lookO j S.owns = some (ownOf cell k d l e)) (hx : Val E S x (.agg k gt)) (hro : AllN (fun t => (gt t).isRO = true) k) (hs : ∀ w, (sizeOf t).run P w = .ok k w) (hi : i < l.length)
    (hset : AllN (fun t => cell y t = gt t) k)
    (hk : T P E ops rest ⟨S.slots, (j, ownOf cell k d (l.set i y) e) :: S.owns⟩ K) :
    T P E ops ({ dst := none, op := .store t p x, type := ty, pos, after, guard := none } :: rest) S K := by
  have h2 : ∀ q, (l.set i y).getD q d = if q = i then y else l.getD q d := fun q => getD_put _ _ _ _ hi
  refine t_stOA (rowG cell d (l.set i y)) hp ho hx hro hs (by omega) List.length_set.symm (fun t ht => ?_) (fun q hq t ht hne => ?_) hk
  · show cell ((l.set i y).getD i d) (0 + t) = gt t
    rw [h2, if_pos rfl, Nat.zero_add]; exact hset.at t ht
  · show cell ((l.set i y).getD q d) t = cell (l.getD q d) t
    rw [h2, if_neg]
    rcases hne with h | h | h
    · exact h
    · omega
    · omega
theorem val_kf {S : St} {x : Operand} {j : Nat} {b : Bool} {y Y : SV} (hk : frz j Y y = y) (h : Val E S x (frz j Y (cj b y))) : Val E S x (cj b y) := by
  cases b with
  | true => exact hk ▸ h
  | false => exact val_junk
/-- A pointer that is one. -/
theorem q_nilO {S : St} {x : Operand} {j k i off : Nat} (hx : Val E S x (.oe j k i off)) : OpQ P E S (.nilCheck x) (.oe j k i off) := fun b a w hr dst ty pos after gd => by
  obtain ⟨g, n, cap, hb, hi, hv⟩ := hx b a w hr
  refine ⟨.pointer (some ⟨g, i * k + off, none⟩), fun w' hw' => ?_, g, n, cap, hb, hi, rfl⟩
  simp [execOp, hv]
end Go.Eng

namespace Go.Eng
open Go.RowKit
variable {P : Program} {NN : Nat} {E : Env NN}
/-- A variable's cells, said otherwise. -/
theorem weak_boxI {S : St} (j : Nat) {m : Nat} {g : Nat → SV} (g' : Nat → SV) {ty : TypeId} (ho : lookO j S.owns = some (.box m g ty)) (h : AllN (fun t => Imp (g t) (g' t)) m) : Weak E S ⟨S.slots, (j, .box m g' ty) :: S.owns⟩ :=
  weak_ownG ho fun w X b hh => by
    obtain ⟨q, cs, h1, h2, h3, h4, hr⟩ := hh
    refine ⟨q, cs, h1, h2, h3, h4, fun t ht => ?_⟩
    obtain ⟨u, hu, h5, h6⟩ := hr t ht
    exact ⟨u, hu, h5, h.at t ht w X b u h6⟩
theorem t_boxI {ops : Array Oper} {rest : List Oper} {S : St} {K : St → Prop} (j : Nat) {m : Nat} {g : Nat → SV} (g' : Nat → SV) {ty : TypeId} (ho : lookO j S.owns = some (.box m g ty)) (h : AllN (fun t => Imp (g t) (g' t)) m)
    (hk : T P E ops rest ⟨S.slots, (j, .box m g' ty) :: S.owns⟩ K) : T P E ops rest S K := T.weak (weak_boxI j g' ho h) hk
end Go.Eng

namespace Go.Eng
theorem cj_t (x : SV) : cj true x = x := rfl
theorem cj_f (x : SV) : cj false x = .junk := rfl
theorem cjn_t (x : SV) : cjn true x = .junk := rfl
theorem cjn_f (x : SV) : cjn false x = x := rfl
theorem cb_t (x y : List (Nat × Own)) : cb true x y = x := rfl
theorem cb_f (x y : List (Nat × Own)) : cb false x y = y := rfl
end Go.Eng

/-! Shorter ways to say the same. -/
namespace Go.Eng
variable {P : Program} {NN : Nat} {E : Env NN}
/-- What a test says, part by part. -/
theorem BL : (∀ a b : Bool, ((a && b) = true) = (a = true ∧ b = true)) ∧ (∀ a b : Bool, ((a || b) = true) = (a = true ∨ b = true)) ∧ (∀ b : Bool, ((!b) = true) = (b = false)) ∧ (∀ b : Bool, ((!b) = false) = (b = true)) ∧
    (∀ a b : Bool, ((a || b) = false) = (a = false ∧ b = false)) ∧ (∀ a b : Bool, ((a && b) = false) = (a = false ∨ b = false)) ∧ (∀ (p : Prop) [Decidable p], (decide p = true) = p) ∧ (∀ (p : Prop) [Decidable p], (decide p = false) = ¬ p) :=
  ⟨fun _ _ => by simp, fun _ _ => by simp, fun _ => by simp, fun _ => by simp, fun a b => by cases a <;> cases b <;> simp, fun a b => by cases a <;> cases b <;> simp, fun _ => by simp, fun _ => by simp⟩
def tab {α : Type} (g : Nat → α) : Nat → List α
  | 0 => []
  | n + 1 => g n :: tab g n
theorem An {α : Type} {g g' : Nat → α} : ∀ {m : Nat}, tab g m = tab g' m → AllN (fun t => g t = g' t) m
  | 0, _ => trivial
  | _ + 1, h => ⟨An (List.cons.inj h).2, (List.cons.inj h).1⟩
theorem Vs {S : St} : ∀ {sl : List (Nat × SV)}, sl.map (fun p => look p.1 S.slots) = sl.map (fun p => some p.2) → AllV E S sl
  | [], _ => trivial
  | _ :: _, h => ⟨val_tmp (List.cons.inj h).1, Vs (List.cons.inj h).2⟩
theorem AOs {S : St} : ∀ {ow : List (Nat × Own)}, ow.map (fun p => lookO p.1 S.owns) = ow.map (fun p => some p.2) → AllOE S ow
  | [], _ => trivial
  | _ :: _, h => ⟨⟨_, (List.cons.inj h).1, Own.eqv_rfl _⟩, AOs (List.cons.inj h).2⟩
theorem c_hereH {S : St} {G : Act → World → Prop} {ι : Type} {T : ι → St} {I : ι → Prop} (i : ι) (hG : ∀ a w, (∃ i, I i ∧ Rep E (T i) a w) → G a w) (hI : I i) (hw : Weak E S (T i)) : ∀ a w, Rep E S a w → G a w :=
  fun a w ⟨b, hr⟩ => hG a w ⟨i, hI, b, hw b a w hr⟩
end Go.Eng
/-! Short names. -/
namespace Go.Eng
abbrev V := @val_tmp
abbrev K := @val_const
abbrev Vg := @val_grd
abbrev Vj := @val_junk
abbrev Vn := @val_nil
abbrev Va := @val_agg
abbrev Vi := @val_aggI
abbrev Vm := @val_imp
abbrev Vf := @val_func
abbrev VA := @val_A
abbrev VE := @val_fnE
abbrev VF := @val_fnE'
abbrev O := @tq_op
abbrev Nq := @tq_nil
abbrev Og := @tq_opG
abbrev U := @t_op
abbrev Ug := @t_opG
abbrev Nt := @t_nil
abbrev Uw := @t_w
abbrev UwG := @t_wG
abbrev Gy := @g_yes
abbrev Gn := @g_no
abbrev Gyy := @g_gyes
abbrev Gyn := @g_gno
abbrev Sq := @c_seq
abbrev Rq := @c_rq
abbrev Rqd := @c_rqd
abbrev Rt := @c_rt
abbrev Cd := @c_cond
abbrev Sk := @c_skip
abbrev Rx := @c_ret
abbrev Bo := @c_block
abbrev Ex := @c_exit
abbrev Lo := @c_loop
abbrev Nx := @c_next
abbrev Hg := @c_hereH
abbrev Me := @c_meet
abbrev We := @weakE
abbrev Rl := @row_len
abbrev CtO := @ct_of
abbrev CmO := @ctM_of
abbrev Mv := @q_move
abbrev As := @q_assign
abbrev Lt := @q_lss
abbrev Le := @q_leq
abbrev Gt := @q_gtr
abbrev Ge := @q_geq
abbrev Ql := @q_eql
abbrev Qn := @q_neq
abbrev Qo := @q_not
abbrev Qa := @q_and
abbrev Qr := @q_or
abbrev Ad := @q_add
abbrev Sb := @q_sub
abbrev Ln := @q_len
abbrev LnO := @q_lenO
abbrev LnU := @q_lenU
abbrev Ix := @q_idx
abbrev IxN := @q_idxN
abbrev IxO := @q_idxO
abbrev IOn := @q_idxON
abbrev IUn := @q_idxUN
abbrev Fl := @q_fld
abbrev FlB := @q_fldB
abbrev FlO := @q_fldO
abbrev Ld := @q_ld
abbrev LdA := @q_ldA
abbrev LdB := @q_ldB
abbrev LBA := @q_ldBA
abbrev LdO := @q_ldO
abbrev LOA := @q_ldOA
abbrev LdU := @q_ldU
abbrev LUA := @q_ldUA
abbrev Xt := @q_ext
abbrev Mk := @q_mkf
abbrev Fd := @q_field
abbrev Bu := @q_build
abbrev CQ := @tq_call
abbrev CQg := @tq_callG
abbrev CT := @t_call
abbrev CTg := @t_callG
abbrev CQv := @tq_callV
abbrev CTv := @t_callV
abbrev CM := @t_callM
abbrev CMv := @t_callMV
abbrev CQb := @tq_callB
abbrev CTb := @t_callB
abbrev R1 := @ret1
abbrev R2 := @ret2
abbrev R3 := @ret3
abbrev M1 := @retM1
abbrev M2 := @retM2
abbrev M3 := @retM3
abbrev RR1 := @retR1
abbrev RR2 := @retR2
abbrev RR3 := @retR3
abbrev RM1 := @retRM1
abbrev RM2 := @retRM2
abbrev RM3 := @retRM3
abbrev Al := @t_alloc
abbrev BxA := @t_boxA
abbrev Bx1 := @t_box1
abbrev St1 := @t_st1
abbrev StA := @t_stA
abbrev StO := @t_stO
abbrev Ap := @t_app
abbrev Tt := @t_turn
abbrev Tc := @c_turn
abbrev Tk := @k_turn
abbrev FzC := @c_frz
abbrev FzT := @t_frz
abbrev FzQ := @tq_frz
abbrev Ir := @imp_rfl
abbrev In := @imp_nil
theorem Z : True := trivial
end Go.Eng
