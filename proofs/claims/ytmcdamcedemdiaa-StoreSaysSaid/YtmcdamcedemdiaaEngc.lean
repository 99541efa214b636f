/- The engine, its third part: slices that hold slices of their own. -/
import Derived.Test.YtmcdamcedemdiaaEngb
set_option linter.unusedVariables false
set_option linter.unusedSimpArgs false
namespace Go.Eng
open Go.RowKit
variable {P : Program} {NN : Nat} {E : Env NN}
/-! What a slice that holds slices of its own gives, and takes. -/
/-- RepB.rename, what is new being said of the new memory. -/
theorem RepB.rename2 {S : St} {b b' : Nat → Value} {a : Act} {w : World} (h : RepB E b S a w) (D : List Nat) (nw : List (Nat × Own)) (p : Nat → Bool)
    (hhd : ∀ i, p i = true → hdv (b' i) = hdv (b i) ∧ ∀ q, b i = .pointer q → b' i = b i)
    (hsl : ∀ s x, look s S.slots = some x → x.okId p = true) (how : ∀ i o, lookO i S.owns = some o → o.okId p = true ∨ i ∈ D ∨ (lookO i nw).isSome)
    (hsame : ∀ i o, lookO i S.owns = some o → i ∉ D → lookO i nw = none → b' i = b i) (hold : ∀ i, 1000 ≤ i → b' i = b i)
    (hnew : (∀ g, St.excl ⟨S.slots, nw ++ dropKs D S.owns⟩ E b' g → S.excl E b g) → ∀ i o, lookO i nw = some o → OwnOk w (St.excl ⟨S.slots, nw ++ dropKs D S.owns⟩ E b') E.base b' i o)
    (hbk : ∀ i o, lookO i nw = some o → ∀ g, Bk (b' i) g → ∃ q oq, lookO q S.owns = some oq ∧ (q ∈ D ∨ (lookO q nw).isSome) ∧ Bk (b q) g)
    (hap : ∀ i q oi oq, lookO i nw = some oi → lookO q nw = some oq → i ≠ q → ∀ g, Bk (b' i) g → ¬ Bk (b' q) g) :
    RepB E b' ⟨S.slots, nw ++ dropKs D S.owns⟩ a w := by
  have he : Ext (S.excl E b) w w := ⟨Nat.le_refl _, fun _ _ _ => rfl⟩
  have hl : ∀ {i o}, lookO i (nw ++ dropKs D S.owns) = some o → lookO i nw = some o ∨ (lookO i nw = none ∧ i ∉ D ∧ lookO i S.owns = some o ∧ b' i = b i) := fun {i o} hi => by
    rcases lookO_app hi with h1 | ⟨h1, h2⟩
    · exact .inl h1
    · obtain ⟨h3, h4⟩ := lookO_dropKs h2
      exact .inr ⟨h1, h3, h4, hsame i o h4 h3 h1⟩
  have hX : ∀ g, St.excl ⟨S.slots, nw ++ dropKs D S.owns⟩ E b' g → S.excl E b g := by
    rintro g (hh | ⟨i, o, h1, h2⟩)
    · exact .inl hh
    · rcases hl h1 with h3 | ⟨h3, h4, h5, h6⟩
      · obtain ⟨q, oq, h7, _, h8⟩ := hbk i o h3 g h2
        exact .inr ⟨q, oq, h7, h8⟩
      · rw [h6] at h2; exact .inr ⟨i, o, h5, h2⟩
  have hR : ∀ x v, x.okId p = true → R w (S.excl E b) b x v → R w (St.excl ⟨S.slots, nw ++ dropKs D S.owns⟩ E b') b' x v := fun x v hx hr => (R_hd hhd hx hr).mono he (fun g _ hh => hX g hh)
  exact {
    size := h.size
    defers := h.defers
    below := h.below
    slots := fun s x hx => hR _ _ (hsl s x hx) (h.slots s x hx)
    owns := fun i o hi => by
      rcases hl hi with h3 | ⟨h3, h4, h5, h6⟩
      · exact hnew hX i o h3
      · exact (h.owns i o h5).keep0 (p := fun x => x.okId p = true) h6 (Own.okId_all ((how i o h5).resolve_right (by rintro (h7 | h7); exact h4 h7; rw [h3] at h7; cases h7))) (fun _ _ _ => rfl) hR (fun x v hr => hr.mono he (fun g _ hh => hX g hh))
    mine := fun i o hi g hg => by
      rcases hl hi with h3 | ⟨h3, h4, h5, h6⟩
      · obtain ⟨q, oq, h7, _, h8⟩ := hbk i o h3 g hg
        exact h.mine q oq h7 g h8
      · rw [h6] at hg; exact h.mine i o h5 g hg
    apart := fun i q oi oq hi hq hne g hgi hgq => by
      rcases hl hi with h3 | ⟨h3, h4, h5, h6⟩
      · rcases hl hq with h3' | ⟨h3', h4', h5', h6'⟩
        · exact hap i q oi oq h3 h3' hne g hgi hgq
        · obtain ⟨z, oz, h7, h8, h9⟩ := hbk i oi h3 g hgi
          rw [h6'] at hgq
          refine h.apart z q oz oq h7 h5' ?_ g h9 hgq
          rintro rfl
          rcases h8 with h8 | h8
          · exact h4' h8
          · rw [h3'] at h8; cases h8
      · rcases hl hq with h3' | ⟨h3', h4', h5', h6'⟩
        · obtain ⟨z, oz, h7, h8, h9⟩ := hbk q oq h3' g hgq
          rw [h6] at hgi
          refine h.apart z i oz oi h7 h5 ?_ g h9 hgi
          rintro rfl
          rcases h8 with h8 | h8
          · exact h4 h8
          · rw [h3] at h8; cases h8
        · rw [h6] at hgi; rw [h6'] at hgq
          exact h.apart i q oi oq h5 h5' hne g hgi hgq
    old := fun i hi => (hold i hi).trans (h.old i hi) }

section urow
variable {S : St} {j n k : Nat} {get : Nat → Nat → SV} {e : TypeId} {c : Nat} {ce : TypeId} {ck m : Nat} {kn : Nat → Nat} {kget : Nat → Nat → Nat → SV} {hole : Option (Nat × SV)}
/-- What a load of cell t of row i gives. -/
def uat (get : Nat → Nat → SV) (c m : Nat) (hole : Option (Nat × SV)) (i t : Nat) : SV :=
  if t = c then match hole with
    | some (h, x) => if i = h then x else if i < m then .junk else get i t
    | none => if i < m then .junk else get i t
  else get i t
theorem u_slice {b : Nat → Value} {a : Act} {w : World} (hr : RepB E b S a w) (ho : lookO j S.owns = some (.urow n k get e c ce ck m kn kget hole)) : ∃ A cp, hdv (b j) = .slice A n cp := by
  obtain ⟨v, subs, xs, h1, hown, _⟩ := hr.owns j _ ho
  obtain ⟨A, cp, hs, _⟩ := hown.slice
  exact ⟨A, cp, by rw [h1]; exact hs⟩
theorem u_cells {b : Nat → Value} {a : Act} {w : World} (hr : RepB E b S a w) (ho : lookO j S.owns = some (.urow n k get e c ce ck m kn kget hole)) (h0 : 0 < n) :
    ∃ subs g cp cur, b j = .tuple (.slice (some ⟨g, 0, none⟩) n (cp + 1) :: subs).toArray ∧ E.base ≤ g ∧ w.heap[g]? = some (.cells cur e (0, 0)) ∧ n ≤ cp + 1 ∧ cp + 1 ≤ maxLen ∧ cur.size = (cp + 1) * k ∧ subs.length = m ∧ m ≤ n ∧
      (∀ i, i < n → ∀ t, t < k → ∃ u, cur[i * k + t]? = some u ∧ u.oneCell' = true ∧ R w (S.excl E b) b (uat get c m hole i t) u ∧ (t ≠ c → RO w (S.excl E b) (get i t) u) ∧ (t = c → ¬ isHole i hole → m ≤ i → RO w (S.excl E b) (get i t) u) ∧ (t = c → ¬ isHole i hole → i < m → subs[i]? = some u) ∧
        (t = c → ∀ x, hole = some (i, x) → R w (S.excl E b) b x u)) ∧
      (∀ i, i < m → ∃ s, subs[i]? = some s ∧ (isHole i hole → blk1 s = none) ∧ (¬ isHole i hole → ∃ ys, ownsR w E.base ce ck s (kn i) ys ∧ ∀ q, q < kn i → ∀ t, t < ck → ∃ u, ys[q * ck + t]? = some u ∧ u.oneCell' = true ∧ RO w (S.excl E b) (kget i q t) u) ∧
        (∀ g', blk1 s = some g' → g ≠ g') ∧ ∀ i' s', subs[i']? = some s' → i' ≠ i → ∀ g, blk1 s = some g → blk1 s' ≠ some g) := by
  obtain ⟨v, subs, xs, h1, h, h2, h3, hc, hsub⟩ := hr.owns j _ ho
  rcases h with ⟨A, hv, hn, _⟩ | ⟨⟨hl, hv⟩, g', m', c', hv'⟩
  · omega
  · rcases hv with ⟨hv, hn⟩ | ⟨g, cap, cur, hv, hb, hh, hcap, hm, hs, ht⟩
    · omega
    · rw [hv] at hv'
      simp only [Value.slice.injEq, Option.some.injEq, Addr.mk.injEq, and_true] at hv'
      obtain ⟨rfl, rfl, rfl⟩ := hv'
      subst hv
      refine ⟨subs, g, c', cur, h1, hb, hh, hcap, hm, hs, h2, h3, fun i hi t htk => ?_, fun i hi => ?_⟩
      · obtain ⟨u, hu, h4, h5, h6, h7, h8⟩ := hc i hi t htk
        refine ⟨u, ?_, h4, ?_, h5, h6, h7, h8⟩
        · rw [← ht, List.getElem?_take] at hu
          split at hu
          · simpa using hu
          · cases hu
        · unfold uat
          split
          · rename_i htc
            split
            · split
              · rename_i e1; subst e1; exact h8 htc _ rfl
              · split
                · trivial
                · rename_i e1 e2; exact (h6 htc e1 (by omega)).toR
            · split
              · trivial
              · exact (h6 htc (fun z => z) (by omega)).toR
          · rename_i htc; exact (h5 htc).toR
      · obtain ⟨s, h4, h5, h6, h7, h8⟩ := hsub i hi
        exact ⟨s, h4, h5, h6, fun g' hg' e1 => h7 g' hg' (by rw [e1]; rfl), h8⟩
theorem q_lenU {x : Operand} {t : TypeId} (hx : Val E S x (.own j)) (ho : lookO j S.owns = some (.urow n k get e c ce ck m kn kget hole)) (ht : P.underlying t = some (.slice (P.elem t))) :
    OpQ P E S (.call { callee := .builtin .len, args := #[x], argTypes := #[t] }) (.v (.int .i64 (n : Int))) := fun b a w hr dst ty pos after gd => by
  have hv : a.eval x = hdv (b j) := hx b a w hr
  obtain ⟨A, c, hs⟩ := u_slice hr ho
  refine ⟨.int .i64 n, fun w' hw' => ?_, rfl⟩
  simp [execOp, resolve, invoke, builtin, hv, hs, run_len_slice w' t ty A n c ht, goInt]
theorem q_idxU {x y : Operand} {t : TypeId} {kk : IntKind} {i : Int} (hx : Val E S x (.own j)) (ho : lookO j S.owns = some (.urow n k get e c ce ck m kn kget hole)) (hy : Val E S y (.v (.int kk i)))
    (ht : P.underlying t = some (.slice (P.elem t))) (hs : ∀ w, (sizeOf (P.elem t)).run P w = .ok k w) (h0 : 0 ≤ i) (h1 : i < n) :
    OpQ P E S (.indexAddr t x y) (.oe j k i.toNat 0) := fun b a w hr dst ty pos after gd => by
  have hv : a.eval x = hdv (b j) := hx b a w hr
  have h2 : a.eval y = .int kk i := hy b a w hr
  obtain ⟨subs, g, c, cur, hb, _⟩ := u_cells hr ho (by omega)
  have hb : hdv (b j) = .slice (some ⟨g, 0, none⟩) n (c + 1) := by rw [hb]; rfl
  refine ⟨.pointer (some ⟨g, i.toNat * k + 0, none⟩), fun w' hw' => ?_, g, n, c + 1, hb, by omega, rfl⟩
  simp [execOp, hv, hb, h2, run_indexAt_slice w' t _ n (c + 1) kk i ht, h0, h1, hs, Addr.add_lit]
theorem q_idxUN {x y : Operand} {t : TypeId} {kk : IntKind} {i : Nat} (hx : Val E S x (.own j)) (ho : lookO j S.owns = some (.urow n k get e c ce ck m kn kget hole)) (hy : Val E S y (.v (.int kk (i : Int))))
    (ht : P.underlying t = some (.slice (P.elem t))) (hs : ∀ w, (sizeOf (P.elem t)).run P w = .ok k w) (h1 : i < n) :
    OpQ P E S (.indexAddr t x y) (.oe j k i 0) := by
  have := q_idxU hx ho hy ht hs (Int.natCast_nonneg i) (by omega)
  simpa using this
theorem q_ldU {x : Operand} {t : TypeId} {i off : Nat} {s : SV} (hx : Val E S x (.oe j k i off)) (ho : lookO j S.owns = some (.urow n k get e c ce ck m kn kget hole))
    (ht : ∀ w, (isAgg t).run P w = .ok false w) (hoff : off < k) (hs : uat get c m hole i off = s) : OpQ P E S (.load t x) s := fun b a w hr dst ty pos after gd => by
  subst hs
  obtain ⟨g, n', cap, hb, hi, hv⟩ := hx b a w hr
  obtain ⟨A, c1, hs⟩ := u_slice hr ho
  rw [hs] at hb
  simp only [Value.slice.injEq] at hb
  obtain ⟨rfl, rfl, rfl⟩ := hb
  obtain ⟨subs, g', c', cur, hb', _, hh, _, _, _, _, _, hc, _⟩ := u_cells hr ho (by omega)
  have hb' : hdv (b j) = .slice (some ⟨g', 0, none⟩) n (c' + 1) := by rw [hb']; rfl
  rw [hs] at hb'
  simp only [Value.slice.injEq, Option.some.injEq, Addr.mk.injEq, and_true] at hb'
  obtain ⟨rfl, _, _⟩ := hb'
  obtain ⟨u, hu, h1, h2, _⟩ := hc i hi off hoff
  refine ⟨u, fun w' hw' => ?_, h2⟩
  have hu' : w'.cell? ⟨g, i * k + off, none⟩ = some u := (hw'.cell (p := ⟨g, i * k + off, none⟩) (Array.getElem?_eq_some_iff.1 hh).1).trans (by rw [cell_of_row w g _ cur e (0, 0) hh]; exact hu)
  simp [execOp, hv, Instr.loadAt, Instr.sureAddr, loadVar, ht, hu']
theorem q_ldUA {x : Operand} {t : TypeId} {i off mm : Nat} {gt : Nat → SV} (hx : Val E S x (.oe j k i off)) (ho : lookO j S.owns = some (.urow n k get e c ce ck m kn kget hole))
    (ht : ∀ w, (isAgg t).run P w = .ok true w) (hsz : ∀ w, (sizeOf t).run P w = .ok mm w) (hoff : off + mm ≤ k) (hs : AllN (fun q => uat get c m hole i (off + q) = gt q) mm) : OpQ P E S (.load t x) (.agg mm gt) := fun b a w hr dst ty pos after gd => by
  obtain ⟨g, n', cap, hb, hi, hv⟩ := hx b a w hr
  obtain ⟨A, c1, hs1⟩ := u_slice hr ho
  rw [hs1] at hb
  simp only [Value.slice.injEq] at hb
  obtain ⟨rfl, rfl, rfl⟩ := hb
  obtain ⟨subs, g', c', cur, hb', _, hh, _, _, _, _, _, hc, _⟩ := u_cells hr ho (by omega)
  have hb' : hdv (b j) = .slice (some ⟨g', 0, none⟩) n (c' + 1) := by rw [hb']; rfl
  rw [hs1] at hb'
  simp only [Value.slice.injEq, Option.some.injEq, Addr.mk.injEq, and_true] at hb'
  obtain ⟨rfl, _, _⟩ := hb'
  have hg := (Array.getElem?_eq_some_iff.1 hh).1
  let f : Nat → Value := fun q => (w.cell? ⟨g, i * k + (off + q), none⟩).getD undef
  have hcell : ∀ q, q < mm → ∃ u, w.cell? ⟨g, i * k + (off + q), none⟩ = some u ∧ u.oneCell' = true ∧ R w (S.excl E b) b (gt q) u := fun q hq => by
    obtain ⟨u, hu, h1, h2, _⟩ := hc i hi (off + q) (by omega)
    exact ⟨u, by rw [cell_of_row w g _ cur e (0, 0) hh]; exact hu, h1, by rw [← hs.at q hq]; exact h2⟩
  have hf : ∀ q, q < mm → w.cell? ⟨g, i * k + off + (0 + q), none⟩ = some (f q) := fun q hq => by
    obtain ⟨u, hu, _⟩ := hcell q hq
    have e : i * k + off + (0 + q) = i * k + (off + q) := by omega
    rw [e]; simp only [f]; rw [hu]; rfl
  have hl := fun (w' : World) (hw' : Below w.heap.size w w') => run_loadCellsFrom (P := P) w' g (i * k + off) mm 0 #[] f (fun q hq => (hw'.cell (p := ⟨g, i * k + off + (0 + q), none⟩) hg).trans (hf q hq))
  refine ⟨.agg (#[] ++ (Array.ofFn fun t : Fin mm => f t.1)), fun w' hw' => ?_, _, rfl, by simp, fun q hq => ?_⟩
  · simp [execOp, hv, Instr.loadAt, Instr.sureAddr, loadVar, ht, hsz, loadCells, hl w' hw']
  · obtain ⟨u, hu, h1, h2⟩ := hcell q hq
    exact ⟨u, by simp [hq, f, hu], h1, h2⟩
end urow
end Go.Eng

namespace Go.Eng
open Go.RowKit
variable {P : Program} {NN : Nat} {E : Env NN}
section urow
variable {S : St} {j n k : Nat} {get : Nat → Nat → SV} {e : TypeId} {c : Nat} {ce : TypeId} {ck m : Nat} {kn : Nat → Nat} {kget : Nat → Nat → Nat → SV} {hole : Option (Nat × SV)}
/-- A store into a cell of a slice that holds slices of its own: into column c only where none of its own lies. -/
theorem t_stG {ops : Array Oper} {rest : List Oper} {K : St → Prop} {t : TypeId} {p x : Operand} {ty : TypeId} {pos : String} {after : Array Edge} {i off : Nat} {s : SV} {hole' : Option (Nat × SV)} (get' : Nat → Nat → SV)
    (hp : Val E S p (.oe j k i off)) (ho : lookO j S.owns = some (.urow n k get e c ce ck m kn kget hole)) (hx : Val E S x s) (h1 : OneV E S s) (hs : ∀ w, (sizeOf t).run P w = .ok 1 w) (hoff : off < k)
    (hset : (off ≠ c ∧ s.isRO = true ∧ get' i off = s ∧ hole' = hole) ∨ (off = c ∧ hole' = some (i, s) ∧ (isHole i hole ∨ (hole = none ∧ m ≤ i))))
    (hsame : ∀ i', i' < n → ∀ t, t < k → (i' ≠ i ∨ t ≠ off) → get' i' t = get i' t)
    (hk : T P E ops rest ⟨S.slots, (j, .urow n k get' e c ce ck m kn kget hole') :: S.owns⟩ K) :
    T P E ops ({ dst := none, op := .store t p x, type := ty, pos, after, guard := none } :: rest) S K := by
  rintro a w ⟨b, hr⟩ Q hq
  obtain ⟨g, n', cap, hb, hi, hpv⟩ := hp b a w hr
  obtain ⟨A, cq, hsl⟩ := u_slice hr ho
  rw [hsl] at hb
  simp only [Value.slice.injEq] at hb
  obtain ⟨rfl, rfl, rfl⟩ := hb
  obtain ⟨subs, g', c', cur, hb', hbase, hh, hcap, hmax, hsz, hsl2, hmn, hc, hsub⟩ := u_cells hr ho (by omega)
  have hb2 : hdv (b j) = .slice (some ⟨g', 0, none⟩) n (c' + 1) := by rw [hb']; rfl
  rw [hsl] at hb2
  simp only [Value.slice.injEq, Option.some.injEq, Addr.mk.injEq, and_true] at hb2
  obtain ⟨rfl, _, _⟩ := hb2
  have hv := hx b a w hr
  have hone := h1 b a w _ hr hv
  obtain ⟨u0, hu0, _⟩ := hc i hi off hoff
  have hu0' : w.cell? ⟨g, i * k + off, none⟩ = some u0 := by rw [cell_of_row w g _ cur e (0, 0) hh]; exact hu0
  have hfr : w.frozen? ⟨g, i * k + off, none⟩ = false := by simp [World.frozen?, hh]
  have hhole : ∀ i', i' ≠ i → (isHole i' hole' ↔ isHole i' hole) := fun i' hne => by
    rcases hset with ⟨_, _, _, rfl⟩ | ⟨_, rfl, h2 | ⟨rfl, _⟩⟩
    · exact Iff.rfl
    · cases hole with
      | none => exact h2.elim
      | some q => exact ⟨fun h => absurd h hne, fun h => absurd (h.trans (Eq.symm h2)) hne⟩
    · exact ⟨fun h => absurd h hne, fun h => h.elim⟩
  have hsubeq : ∀ q, q < m → (isHole q hole' ↔ isHole q hole) := fun q hq => by
    by_cases h3 : q = i
    · subst h3
      rcases hset with ⟨_, _, _, rfl⟩ | ⟨_, rfl, h2 | ⟨rfl, h4⟩⟩
      · exact Iff.rfl
      · exact ⟨fun _ => h2, fun _ => rfl⟩
      · omega
    · exact hhole q h3
  unfold wpList
  rw [if_pos (by rfl)]
  refine .inl (wp_of_skip (w' := w.setCell ⟨g, i * k + off, none⟩ (a.eval x)) ?_ ?_)
  · simp [execOp, Instr.storeAt, hpv, Instr.sureAddr, storeVar, hs, cells_one hone, storeCells, Addr.add_zero', run_store P w _ _ _ hone, hu0', hfr]
  · refine hk _ _ ⟨b, ?_⟩ Q hq
    refine hr.setown (g := g) ho (by rw [hb']; exact ⟨0, _, rfl, rfl⟩) ⟨rfl, rfl, rfl, by simp⟩ (fun k hk => Below.heap_setCell _ _ _ _ hk) (fun X hm hmo => ?_)
    have hcur' : (w.setCell ⟨g, i * k + off, none⟩ (a.eval x)).heap[g]? = some (.cells (cur.setIfInBounds (i * k + off) (a.eval x)) e (0, 0)) := by simp [World.setCell, Array.getElem?_modify, hh]
    have hnk : n * k ≤ cur.size := by rw [hsz]; exact Nat.mul_le_mul_right _ hcap
    refine ⟨_, subs, (cur.setIfInBounds (i * k + off) (a.eval x)).toList.take (n * k), hb', .inr ⟨⟨?_, .inr ⟨g, c' + 1, _, rfl, hbase, hcur', hcap, hmax, by simpa using hsz, rfl⟩⟩, g, n, c', rfl⟩, hsl2, hmn, fun i' hi' t ht => ?_, fun q hq => ?_⟩
    · simp; omega
    · have hlt : i' * k + t < n * k := by
        have : (i' + 1) * k ≤ n * k := Nat.mul_le_mul_right _ hi'
        have e1 : (i' + 1) * k = i' * k + k := by rw [Nat.add_mul, Nat.one_mul]
        omega
      rw [List.getElem?_take, if_pos hlt, Array.getElem?_toList, Array.getElem?_setIfInBounds]
      by_cases e1 : i * k + off = i' * k + t
      · have hii : i' = i ∧ t = off := by
          have h2 : (i * k + off) / k = i := by rw [Nat.mul_comm, Nat.mul_add_div (by omega), Nat.div_eq_of_lt hoff, Nat.add_zero]
          have h3 : (i' * k + t) / k = i' := by rw [Nat.mul_comm, Nat.mul_add_div (by omega), Nat.div_eq_of_lt ht, Nat.add_zero]
          have : i' = i := by rw [← h2, ← h3, e1]
          subst this
          exact ⟨rfl, by omega⟩
        obtain ⟨rfl, rfl⟩ := hii
        rw [if_pos e1, if_pos (by omega)]
        rcases hset with ⟨h2, hro, h3, h4⟩ | ⟨h2, rfl, _⟩
        · exact ⟨_, rfl, hone, fun _ => by rw [h3]; exact hmo (hv.toRO hro), fun h => absurd h h2, fun h => absurd h h2, fun h => absurd h h2⟩
        · exact ⟨_, rfl, hone, fun h => absurd h2 h, fun _ h => absurd rfl h, fun _ h => absurd rfl h, fun _ y hy => by
            simp only [Option.some.injEq, Prod.mk.injEq, true_and] at hy
            subst hy; exact hm hv⟩
      · rw [if_neg e1]
        have hne : i' ≠ i ∨ t ≠ off := by
          by_cases e2 : i' = i
          · exact .inr (fun e3 => e1 (by rw [e2, e3]))
          · exact .inl e2
        rw [hsame i' hi' t ht hne]
        obtain ⟨u, hu, h2, _, h3, h4, h5, h6⟩ := hc i' hi' t ht
        refine ⟨u, hu, h2, fun z => hmo (h3 z), fun z z2 z3 => ?_, fun z z2 z3 => ?_, fun z y hy => ?_⟩
        · by_cases e2 : i' = i
          · rcases hset with ⟨_, _, _, rfl⟩ | ⟨h7, _, _⟩
            · exact hmo (h4 z z2 z3)
            · rcases hne with h8 | h8
              · exact absurd e2 h8
              · exact absurd (z.trans h7.symm) h8
          · exact hmo (h4 z (fun h => z2 ((hhole i' e2).2 h)) z3)
        · by_cases e2 : i' = i
          · rcases hset with ⟨_, _, _, rfl⟩ | ⟨h7, _, _⟩
            · exact h5 z z2 z3
            · rcases hne with h8 | h8
              · exact absurd e2 h8
              · exact absurd (z.trans h7.symm) h8
          · exact h5 z (fun h => z2 ((hhole i' e2).2 h)) z3
        · rcases hset with ⟨_, _, _, rfl⟩ | ⟨h7, rfl, _⟩
          · exact hm (h6 z y hy)
          · simp only [Option.some.injEq, Prod.mk.injEq] at hy
            rcases hne with h8 | h8
            · exact absurd hy.1.symm h8
            · exact absurd (z.trans h7.symm) h8
    · obtain ⟨s', h2, h3, h4, h5, h6⟩ := hsub q hq
      refine ⟨s', h2, fun z => h3 ((hsubeq q hq).1 z), fun z => ?_, fun g1 hg1 e1 => h5 g1 hg1 ?_, h6⟩
      · obtain ⟨ys, h7, h8⟩ := h4 (fun h => z ((hsubeq q hq).2 h))
        refine ⟨ys, h7.same fun g1 hg1 => Below.heap_setCell _ _ _ _ fun e1 => h5 g1 hg1 e1.symm, fun i1 hi1 t1 ht1 => ?_⟩
        obtain ⟨u, hu, h9, h10⟩ := h8 i1 hi1 t1 ht1
        exact ⟨u, hu, h9, hmo h10⟩
      · simpa [blk1] using e1
/-- Into a cell off column c. -/
theorem t_stU {ops : Array Oper} {rest : List Oper} {K : St → Prop} {t : TypeId} {p x : Operand} {ty : TypeId} {pos : String} {after : Array Edge} {i off : Nat} {s : SV} (get' : Nat → Nat → SV)
    (hp : Val E S p (.oe j k i off)) (ho : lookO j S.owns = some (.urow n k get e c ce ck m kn kget hole)) (hx : Val E S x s) (h1 : s.one = true) (hro : s.isRO = true) (hs : ∀ w, (sizeOf t).run P w = .ok 1 w) (hoff : off < k) (hc : off ≠ c)
    (hset : get' i off = s) (hsame : ∀ i', i' < n → ∀ t, t < k → (i' ≠ i ∨ t ≠ off) → get' i' t = get i' t)
    (hk : T P E ops rest ⟨S.slots, (j, .urow n k get' e c ce ck m kn kget hole) :: S.owns⟩ K) :
    T P E ops ({ dst := none, op := .store t p x, type := ty, pos, after, guard := none } :: rest) S K :=
  t_stG get' hp ho hx (one_of h1) hs hoff (.inl ⟨hc, hro, hset, rfl⟩) hsame hk
/-- Into column c. -/
theorem t_stH {ops : Array Oper} {rest : List Oper} {K : St → Prop} {t : TypeId} {p x : Operand} {ty : TypeId} {pos : String} {after : Array Edge} {i : Nat} {s : SV}
    (hp : Val E S p (.oe j k i c)) (ho : lookO j S.owns = some (.urow n k get e c ce ck m kn kget hole)) (hx : Val E S x s) (h1 : OneV E S s) (hs : ∀ w, (sizeOf t).run P w = .ok 1 w) (hoff : c < k)
    (hh : isHole i hole ∨ (hole = none ∧ m ≤ i))
    (hk : T P E ops rest ⟨S.slots, (j, .urow n k get e c ce ck m kn kget (some (i, s))) :: S.owns⟩ K) :
    T P E ops ({ dst := none, op := .store t p x, type := ty, pos, after, guard := none } :: rest) S K :=
  t_stG get hp ho hx h1 hs hoff (.inr ⟨rfl, rfl, hh⟩) (fun _ _ _ _ _ => rfl) hk
end urow
end Go.Eng

namespace Go.Eng
open Go.RowKit
variable {P : Program} {NN : Nat} {E : Env NN}
section urow
variable {S : St} {j n k : Nat} {get : Nat → Nat → SV} {e : TypeId} {c : Nat} {ce : TypeId} {ck m : Nat} {kn : Nat → Nat} {kget : Nat → Nat → Nat → SV} {hole : Option (Nat × SV)}
theorem hdv_tuple (v : Value) (l : List Value) : hdv (.tuple (v :: l).toArray) = v := rfl
theorem Bk_tuple {v : Value} {l : List Value} {g : Nat} : Bk (.tuple (v :: l).toArray) g ↔ blk1 v = some g ∨ ∃ (i : Nat) (u : Value), l[i]? = some u ∧ blk1 u = some g := by
  constructor
  · rintro ⟨i, u, hi, hu⟩
    cases i with
    | zero =>
      have : v = u := by simpa using hi
      subst this; exact .inl hu
    | succ i => exact .inr ⟨i, u, by simpa using hi, hu⟩
  · rintro (h | ⟨i, u, hi, hu⟩)
    · exact ⟨0, v, rfl, h⟩
    · exact ⟨i + 1, u, by simpa using hi, hu⟩
theorem blk1_undef : blk1 undef = none := rfl
/-- A slice out of the bundle: it is the frame's own by a name. -/
theorem turn_split (j i j2 : Nat) (ho : lookO j S.owns = some (.urow n k get e c ce ck m kn kget none)) (hi : i < m) (hj : Nat.blt j 1000 = true) (hf : S.fresh j2 = true) :
    Turn E S ⟨S.slots, (j, .urow n k get e c ce ck m kn kget (some (i, .own j2))) :: (j2, .arow (kn i) ck (kget i) ce) :: dropKs [] S.owns⟩ := fun b a w hr => by
  obtain ⟨v, subs, xs, h1, hown, hsl, hmn, hc, hsub⟩ := hr.owns j _ ho
  have hj' : j < 1000 := Nat.le_of_ble_eq_true hj
  obtain ⟨hf1, hf2, hf3⟩ := St.fresh_parts hf
  have hjj : j ≠ j2 := (lookO_fresh hf2 j _ ho).1
  obtain ⟨s, hs1, _, hs3, hs4, hs5⟩ := hsub i hi
  obtain ⟨ys, hys, hyc⟩ := hs3 (fun z => z)
  obtain ⟨As, cs, hss, _⟩ := hys.slice
  let b' := setB (setB b j2 s) j (.tuple (v :: subs.set i undef).toArray)
  have hb1 : b' j = .tuple (v :: subs.set i undef).toArray := setB_same _ _ _
  have hb2 : b' j2 = s := by simp only [b']; rw [setB_other _ _ _ (Ne.symm hjj), setB_same]
  have hb3 : ∀ q, q ≠ j → q ≠ j2 → b' q = b q := fun q h2 h3 => by simp only [b']; rw [setB_other _ _ _ h2, setB_other _ _ _ h3]
  have hlk : ∀ {q o}, lookO q [(j, Own.urow n k get e c ce ck m kn kget (some (i, .own j2))), (j2, .arow (kn i) ck (kget i) ce)] = some o → (q = j ∧ o = .urow n k get e c ce ck m kn kget (some (i, .own j2))) ∨ (q = j2 ∧ o = .arow (kn i) ck (kget i) ce) := fun {q o} h => by
    rw [lookO_cons] at h
    split at h
    · injection h with h; exact .inl ⟨‹_›, h.symm⟩
    · rw [lookO_cons] at h
      split at h
      · injection h with h; exact .inr ⟨‹_›, h.symm⟩
      · cases h
  have hbkj : ∀ g, Bk (b' j) g → Bk (b j) g := fun g hg => by
    rw [hb1, Bk_tuple] at hg
    rw [h1, Bk_tuple]
    rcases hg with hg | ⟨q, u, hq, hu⟩
    · exact .inl hg
    · rw [List.getElem?_set] at hq
      split at hq
      · split at hq
        · injection hq with hq; subst hq; cases hu
        · cases hq
      · exact .inr ⟨q, u, hq, hu⟩
  refine ⟨b', hr.rename2 [] [(j, .urow n k get e c ce ck m kn kget (some (i, .own j2))), (j2, .arow (kn i) ck (kget i) ce)] (notJ j2) (fun q hq => ?_) (fun s x hx => look_fresh hf1 s x hx) (fun q o hq => .inl (lookO_fresh hf2 q o hq).2) (fun q o hq _ hn => ?_) (fun q hq => hb3 q (by omega) (by omega)) (fun hX q o hq => ?_) (fun q o hq g hg => ?_) (fun q z oq oz hq hz hne g hg hg2 => ?_)⟩
  · have h2 := notJ_ne hq
    by_cases h3 : q = j
    · subst h3
      rw [hb1, h1]
      exact ⟨rfl, fun z hz => by cases hz⟩
    · rw [hb3 q h3 h2]; exact ⟨rfl, fun _ _ => rfl⟩
  · refine hb3 q (fun h => ?_) (fun h => ?_)
    · subst h; rw [lookO_cons, if_pos rfl] at hn; cases hn
    · subst h; exact absurd rfl (lookO_fresh hf2 q o hq).1
  · rcases hlk hq with ⟨rfl, rfl⟩ | ⟨rfl, rfl⟩
    · refine ⟨v, subs.set i undef, xs, hb1, hown, by rw [List.length_set]; exact hsl, hmn, fun i1 hi1 t ht => ?_, fun i1 hi1 => ?_⟩
      · obtain ⟨u, hu, h2, h3, h4, h5, h6⟩ := hc i1 hi1 t ht
        refine ⟨u, hu, h2, fun z => (h3 z).mono ⟨Nat.le_refl _, fun _ _ _ => rfl⟩ (fun g _ => hX g), fun z z2 z3 => (h4 z (fun y => y) z3).mono ⟨Nat.le_refl _, fun _ _ _ => rfl⟩ (fun g _ => hX g), fun z z2 z3 => ?_, fun z x hx => ?_⟩
        · rw [List.getElem?_set, if_neg (fun h => z2 h.symm)]
          exact h5 z (fun y => y) z3
        · simp only [Option.some.injEq, Prod.mk.injEq] at hx
          obtain ⟨rfl, rfl⟩ := hx
          have h7 := h5 z (fun y => y) hi
          rw [hs1] at h7
          injection h7 with h7
          subst h7
          show s = hdv (b' j2)
          rw [hb2, hss]; rfl
      · by_cases h2 : i1 = i
        · subst h2
          refine ⟨undef, by rw [List.getElem?_set, if_pos rfl, if_pos (by omega)], fun _ => rfl, fun z => absurd rfl z, fun g hg => (by have q : (none : Option Nat) = some g := hg; cases q), fun _ _ _ _ g hg => (by have q : (none : Option Nat) = some g := hg; cases q)⟩
        · obtain ⟨s1, h3, h4, h5, h6, h7⟩ := hsub i1 hi1
          refine ⟨s1, by rw [List.getElem?_set, if_neg (fun h => h2 h.symm)]; exact h3, fun z => absurd z h2, fun _ => ?_, h6, fun i' s' hs' hne g hg hg' => ?_⟩
          · obtain ⟨zs, h8, h9⟩ := h5 (fun z => z)
            exact ⟨zs, h8, fun q1 hq1 t ht => by
              obtain ⟨u, hu, h10, h11⟩ := h9 q1 hq1 t ht
              exact ⟨u, hu, h10, h11.mono ⟨Nat.le_refl _, fun _ _ _ => rfl⟩ (fun g _ => hX g)⟩⟩
          · rw [List.getElem?_set] at hs'
            split at hs'
            · split at hs'
              · injection hs' with hs'; subst hs'; cases hg'
              · cases hs'
            · exact h7 i' s' hs' hne g hg hg'
    · refine ⟨ys, by rw [hb2]; exact hys, fun q1 hq1 t ht => ?_⟩
      obtain ⟨u, hu, h10, h11⟩ := hyc q1 hq1 t ht
      exact ⟨u, hu, h10, h11.mono ⟨Nat.le_refl _, fun _ _ _ => rfl⟩ (fun g _ => hX g)⟩
  · refine ⟨j, _, ho, .inr (by rw [lookO_cons, if_pos rfl]; rfl), ?_⟩
    rcases hlk hq with ⟨rfl, rfl⟩ | ⟨rfl, rfl⟩
    · exact hbkj g hg
    · rw [hb2, Bk_slice hss] at hg
      rw [h1, Bk_tuple]
      exact .inr ⟨i, s, hs1, hg⟩
  · have key : ∀ g, Bk (b' j) g → ¬ Bk (b' j2) g := fun g hg hg2 => by
      rw [hb2, Bk_slice hss] at hg2
      rw [hb1, Bk_tuple] at hg
      rcases hg with hg | ⟨q1, u, hq1, hu⟩
      · exact hs4 g hg2 hg
      · rw [List.getElem?_set] at hq1
        split at hq1
        · split at hq1
          · injection hq1 with hq1; subst hq1; cases hu
          · cases hq1
        · exact hs5 q1 u hq1 (fun h => ‹¬ i = q1› h.symm) g hg2 hu
    rcases hlk hq with ⟨rfl, _⟩ | ⟨rfl, _⟩ <;> rcases hlk hz with ⟨rfl, _⟩ | ⟨rfl, _⟩
    · exact hne rfl
    · exact key g hg hg2
    · exact key g hg2 hg
    · exact hne rfl
end urow
end Go.Eng

namespace Go.Eng
open Go.RowKit
variable {P : Program} {NN : Nat} {E : Env NN}
section urow
variable {S : St} {j n k : Nat} {get : Nat → Nat → SV} {e : TypeId} {c : Nat} {ce : TypeId} {ck m : Nat} {kn : Nat → Nat} {kget : Nat → Nat → Nat → SV} {hole : Option (Nat × SV)}
/-- A slice of the frame's own into the bundle: it lies in the row whose cell holds it. -/
theorem turn_join (get' : Nat → Nat → SV) (j i j2 m' n2 : Nat) {g2 : Nat → Nat → SV} {o : Own} (kn' : Nat → Nat) (kget' : Nat → Nat → Nat → SV) (ho : lookO j S.owns = some (.urow n k get e c ce ck m kn kget (some (i, .own j2)))) (ho2 : lookO j2 S.owns = some o) (he : o = .arow n2 ck g2 ce)
    (hi : i < n) (him : i ≤ m) (hm' : m' = if i < m then m else m + 1) (hj : Nat.blt j 1000 = true) (hj2 : Nat.beq j2 j = false)
    (hn2 : kn' i = n2) (hg2 : ∀ q, q < n2 → ∀ t, t < ck → kget' i q t = g2 q t) (hsame : ∀ q, q < m → q ≠ i → kn' q = kn q ∧ ∀ p, p < kn q → ∀ t, t < ck → kget' q p t = kget q p t) (hget : ∀ q, q < n → ∀ t, t < k → (t ≠ c ∨ m' ≤ q) → get' q t = get q t) :
    Turn E S ⟨S.slots, (j, .urow n k get' e c ce ck m' kn' kget' none) :: dropKs [j2] S.owns⟩ := fun b a w hr => by
  subst he
  obtain ⟨v, subs, xs, h1, hown, hsl, hmn, hc, hsub⟩ := hr.owns j _ ho
  have hj' : j < 1000 := Nat.le_of_ble_eq_true hj
  have hjj : j2 ≠ j := fun h => by rw [h] at hj2; simp at hj2
  obtain ⟨ys, hys, hyc⟩ := hr.owns j2 _ ho2
  obtain ⟨As, cs, hss, _⟩ := hys.slice
  have hap : ∀ g, blk1 (b j2) = some g → Bk (b j) g → False := fun g h2 h3 => hr.apart j2 j _ _ ho2 ho hjj g ((Bk_slice hss).2 h2) h3
  rw [h1] at hap
  let subs' := if i < m then subs.set i (b j2) else subs ++ [b j2]
  have hsl' : subs'.length = m' := by
    simp only [subs']
    split
    · rename_i h; rw [List.length_set, hm', if_pos h]; exact hsl
    · rename_i h; rw [List.length_append, hm', if_neg h, hsl]; rfl
  have hat : ∀ q, subs'[q]? = if q = i then some (b j2) else subs[q]? := fun q => by
    simp only [subs']
    split
    · rename_i h
      rw [List.getElem?_set]
      by_cases h2 : i = q
      · rw [if_pos h2, if_pos h2.symm, if_pos (by omega)]
      · rw [if_neg h2, if_neg (fun h3 => h2 h3.symm)]
    · rename_i h
      by_cases h2 : q = i
      · rw [if_pos h2, List.getElem?_append_right (by omega)]
        rw [show q - subs.length = 0 from by omega]; rfl
      · rw [if_neg h2]
        by_cases h3 : q < subs.length
        · rw [List.getElem?_append_left h3]
        · rw [List.getElem?_eq_none (l := subs) (by omega), List.getElem?_eq_none (by rw [List.length_append, List.length_singleton]; omega)]
  let b' := setB b j (.tuple (v :: subs').toArray)
  have hb1 : b' j = .tuple (v :: subs').toArray := setB_same _ _ _
  have hb3 : ∀ q, q ≠ j → b' q = b q := fun q h2 => setB_other _ _ _ h2
  have hlk : ∀ {q o}, lookO q [(j, Own.urow n k get' e c ce ck m' kn' kget' none)] = some o → (q = j ∧ o = .urow n k get' e c ce ck m' kn' kget' none) := fun {q o} h => by
    rw [lookO_cons] at h
    split at h
    · injection h with h; exact ⟨‹_›, h.symm⟩
    · cases h
  refine ⟨b', hr.rename2 [j2] [(j, .urow n k get' e c ce ck m' kn' kget' none)] (fun _ => true) (fun q hq => ?_) (fun _ _ _ => okId_all _) (fun q o hq => .inl ?_) (fun q o hq _ hn => ?_) (fun q hq => hb3 q (by omega)) (fun hX q o hq => ?_) (fun q o hq g hg => ?_) (fun q z oq oz hq hz hne g hg hg2 => ?_)⟩
  · by_cases h3 : q = j
    · subst h3
      rw [hb1, h1]
      exact ⟨rfl, fun z hz => by cases hz⟩
    · rw [hb3 q h3]; exact ⟨rfl, fun _ _ => rfl⟩
  · cases o with
    | box m get ty => exact allB_of fun t _ => okId_all _
    | urow n k get e c ce ck m kn kget hole => cases hole <;> first | rfl | exact okId_all _
    | _ => rfl
  · refine hb3 q (fun h => ?_)
    subst h; rw [lookO_cons, if_pos rfl] at hn; cases hn
  · obtain ⟨rfl, rfl⟩ := hlk hq
    have hXo : ∀ {x u}, RO w (S.excl E b) x u → RO w (St.excl ⟨S.slots, [(q, Own.urow n k get' e c ce ck m' kn' kget' none)] ++ dropKs [j2] S.owns⟩ E b') x u := fun h => h.mono ⟨Nat.le_refl _, fun _ _ _ => rfl⟩ (fun g _ => hX g)
    have hmm : ∀ q1, q1 < m' → q1 ≠ i → q1 < m := fun q1 h2 h3 => by rw [hm'] at h2; split at h2 <;> omega
    refine ⟨v, subs', xs, hb1, hown, hsl', by rw [hm']; split <;> omega, fun i1 hi1 t ht => ?_, fun i1 hi1 => ?_⟩
    · obtain ⟨u, hu, h2, h3, h4, h5, h6⟩ := hc i1 hi1 t ht
      refine ⟨u, hu, h2, fun z => by rw [hget i1 hi1 t ht (.inl z)]; exact hXo (h3 z), fun z _ z3 => ?_, fun z _ z3 => ?_, fun z x hx => (by cases hx)⟩
      · have : i1 ≠ i := fun h => by rw [h, hm'] at z3; split at z3 <;> omega
        rw [hget i1 hi1 t ht (.inr z3)]
        exact hXo (h4 z this (by rw [hm'] at z3; split at z3 <;> omega))
      · rw [hat]
        by_cases h7 : i1 = i
        · subst h7
          rw [if_pos rfl]
          have h8 : u = hdv (b j2) := h6 z _ rfl
          rw [h8, hss]; rfl
        · rw [if_neg h7]
          exact h5 z h7 (hmm i1 z3 h7)
    · by_cases h2 : i1 = i
      · subst h2
        refine ⟨b j2, by rw [hat, if_pos rfl], fun z => z.elim, fun _ => ⟨ys, by rw [hn2]; exact hys, fun q1 hq1 t ht => ?_⟩, fun g hg hv => ?_, fun i' s' hs' hne g hg hg' => ?_⟩
        · rw [hn2] at hq1
          obtain ⟨u, hu, h10, h11⟩ := hyc q1 hq1 t ht
          exact ⟨u, hu, h10, by rw [hg2 q1 hq1 t ht]; exact hXo h11⟩
        · exact hap g hg (Bk_tuple.2 (.inl hv))
        · rw [hat, if_neg hne] at hs'
          exact hap g hg (Bk_tuple.2 (.inr ⟨i', s', hs', hg'⟩))
      · obtain ⟨s1, h3, h4, h5, h6, h7⟩ := hsub i1 (hmm i1 hi1 h2)
        obtain ⟨e1, e2⟩ := hsame i1 (hmm i1 hi1 h2) h2
        refine ⟨s1, by rw [hat, if_neg h2]; exact h3, fun z => z.elim, fun _ => ?_, h6, fun i' s' hs' hne g hg hg' => ?_⟩
        · obtain ⟨zs, h8, h9⟩ := h5 h2
          refine ⟨zs, by rw [e1]; exact h8, fun q1 hq1 t ht => ?_⟩
          rw [e1] at hq1
          obtain ⟨u, hu, h10, h11⟩ := h9 q1 hq1 t ht
          exact ⟨u, hu, h10, by rw [e2 q1 hq1 t ht]; exact hXo h11⟩
        · rw [hat] at hs'
          split at hs'
          · injection hs' with hs'
            subst hs'
            exact hap g hg' (Bk_tuple.2 (.inr ⟨i1, s1, h3, hg⟩))
          · exact h7 i' s' hs' hne g hg hg'
  · obtain ⟨rfl, rfl⟩ := hlk hq
    rw [hb1, Bk_tuple] at hg
    rcases hg with hg | ⟨i1, u, hi1, hu⟩
    · exact ⟨q, _, ho, .inr (by rw [lookO_cons, if_pos rfl]; rfl), by rw [h1, Bk_tuple]; exact .inl hg⟩
    · rw [hat] at hi1
      split at hi1
      · injection hi1 with hi1
        subst hi1
        exact ⟨j2, _, ho2, .inl (List.mem_singleton.2 rfl), (Bk_slice hss).2 hu⟩
      · exact ⟨q, _, ho, .inr (by rw [lookO_cons, if_pos rfl]; rfl), by rw [h1, Bk_tuple]; exact .inr ⟨i1, u, hi1, hu⟩⟩
  · obtain ⟨rfl, _⟩ := hlk hq
    obtain ⟨rfl, _⟩ := hlk hz
    exact hne rfl
/-- What a cell reads as when the bundle's slices are no more to be written to. -/
def uro (get : Nat → Nat → SV) (c ck m : Nat) (kn : Nat → Nat) (kget : Nat → Nat → Nat → SV) (hole : Option (Nat × SV)) (i t : Nat) : SV :=
  if t = c then match hole with
    | some (h, x) => if i = h then x else if i < m then .row (kn i) ck (kget i) else get i t
    | none => if i < m then .row (kn i) ck (kget i) else get i t
  else get i t
/-- The bundle's slices are no more to be written to: the slice itself is. -/
theorem turn_uA (j : Nat) (get' : Nat → Nat → SV) (ho : lookO j S.owns = some (.urow n k get e c ce ck m kn kget hole)) (hj : Nat.blt j 1000 = true) (hh : ∀ i x, hole = some (i, x) → x.isRO = true)
    (hg : ∀ i, i < n → ∀ t, t < k → uro get c ck m kn kget hole i t = get' i t) :
    Turn E S ⟨S.slots, (j, .arow n k get' e) :: dropKs [] S.owns⟩ := fun b a w hr => by
  obtain ⟨v, subs, xs, h1, hown, hsl, hmn, hc, hsub⟩ := hr.owns j _ ho
  have hj' : j < 1000 := Nat.le_of_ble_eq_true hj
  obtain ⟨A, cp, hs, _⟩ := hown.slice
  let b' := setB b j v
  have hb1 : b' j = v := setB_same _ _ _
  have hb3 : ∀ q, q ≠ j → b' q = b q := fun q h2 => setB_other _ _ _ h2
  have hlk : ∀ {q o}, lookO q [(j, Own.arow n k get' e)] = some o → (q = j ∧ o = .arow n k get' e) := fun {q o} h => by
    rw [lookO_cons] at h
    split at h
    · injection h with h; exact ⟨‹_›, h.symm⟩
    · cases h
  refine ⟨b', hr.rename2 [] [(j, .arow n k get' e)] (fun _ => true) (fun q hq => ?_) (fun _ _ _ => okId_all _) (fun q o hq => .inl ?_) (fun q o hq _ hn => ?_) (fun q hq => hb3 q (by omega)) (fun hX q o hq => ?_) (fun q o hq g hg => ?_) (fun q z oq oz hq hz hne g hg hg2 => ?_)⟩
  · by_cases h3 : q = j
    · subst h3
      rw [hb1, h1]
      exact ⟨by rw [hs]; rfl, fun z hz => by cases hz⟩
    · rw [hb3 q h3]; exact ⟨rfl, fun _ _ => rfl⟩
  · cases o with
    | box m get ty => exact allB_of fun t _ => okId_all _
    | urow n k get e c ce ck m kn kget hole => cases hole <;> first | rfl | exact okId_all _
    | _ => rfl
  · refine hb3 q (fun h => ?_)
    subst h; rw [lookO_cons, if_pos rfl] at hn; cases hn
  · obtain ⟨rfl, rfl⟩ := hlk hq
    have hXo : ∀ {x u}, RO w (S.excl E b) x u → RO w (St.excl ⟨S.slots, [(q, Own.arow n k get' e)] ++ dropKs [] S.owns⟩ E b') x u := fun h => h.mono ⟨Nat.le_refl _, fun _ _ _ => rfl⟩ (fun g _ => hX g)
    have hfree : ∀ i s, subs[i]? = some s → i < m → ∀ g, blk1 s = some g → ¬ St.excl ⟨S.slots, [(q, Own.arow n k get' e)] ++ dropKs [] S.owns⟩ E b' g := fun i s hs1 hi g hg => by
      have hbg : Bk (b q) g := by rw [h1, Bk_tuple]; exact .inr ⟨i, s, hs1, hg⟩
      rintro (hh | ⟨z, o, hz1, hz2⟩)
      · exact hr.notX ho hbg hh
      · rcases lookO_app hz1 with h5 | ⟨h4, h5⟩
        · obtain ⟨rfl, rfl⟩ := hlk h5
          rw [hb1, Bk_slice hs] at hz2
          obtain ⟨s2, h6, _, _, h7, _⟩ := hsub i hi
          rw [hs1] at h6
          injection h6 with h6
          subst h6
          exact h7 g hg hz2
        · obtain ⟨_, h6⟩ := lookO_dropKs h5
          have hne : z ≠ q := fun e1 => by subst e1; rw [lookO_cons, if_pos rfl] at h4; cases h4
          rw [hb3 z hne] at hz2
          exact hr.apart z q _ _ h6 ho hne g hz2 hbg
    refine ⟨xs, by rw [hb1]; exact hown, fun i hi t ht => ?_⟩
    obtain ⟨u, hu, h2, h3, h4, h5, h6⟩ := hc i hi t ht
    refine ⟨u, hu, h2, ?_⟩
    rw [← hg i hi t ht]
    have hsubrow : t = c → ¬ isHole i hole → i < m → RO w (St.excl ⟨S.slots, [(q, Own.arow n k get' e)] ++ dropKs [] S.owns⟩ E b') (.row (kn i) ck (kget i)) u := fun z z2 z3 => by
      have h7 := h5 z z2 z3
      obtain ⟨s, h8, _, h9, _⟩ := hsub i z3
      rw [h7] at h8
      injection h8 with h8
      subst h8
      obtain ⟨ys, h10, h11⟩ := h9 z2
      exact h10.row (fun g hg => hfree i u h7 z3 g hg) (fun q1 hq1 t1 ht1 => by
        obtain ⟨u1, hu1, h12, h13⟩ := h11 q1 hq1 t1 ht1
        exact ⟨u1, hu1, h12, hXo h13⟩)
    unfold uro
    split
    · rename_i z
      split
      · split
        · rename_i e1; subst e1
          have h7 := h6 z _ rfl
          exact hXo (h7.toRO (hh _ _ rfl))
        · rename_i e1
          split
          · exact hsubrow z e1 ‹_›
          · exact hXo (h4 z e1 (by omega))
      · split
        · exact hsubrow z (fun z => z) ‹_›
        · exact hXo (h4 z (fun z => z) (by omega))
    · exact hXo (h3 ‹_›)
  · obtain ⟨rfl, rfl⟩ := hlk hq
    rw [hb1, Bk_slice hs] at hg
    exact ⟨q, _, ho, .inr (by rw [lookO_cons, if_pos rfl]; rfl), by rw [h1, Bk_tuple]; exact .inl hg⟩
  · obtain ⟨rfl, _⟩ := hlk hq
    obtain ⟨rfl, _⟩ := hlk hz
    exact hne rfl
end urow
end Go.Eng

namespace Go.Eng
open Go.RowKit
variable {P : Program} {NN : Nat} {E : Env NN}
/-! The same, of typed elements: sub is what column c holds. -/
def urowOf {α β : Type} (cell : α → Nat → SV) (k : Nat) (d : α) (l : List α) (e : TypeId) (c : Nat) (sub : α → List β) (scell : β → Nat → SV) (ck : Nat) (sd : β) (ce : TypeId) (m : Nat) (hole : Option (Nat × SV)) : Own :=
  .urow l.length k (rowG cell d l) e c ce ck m (fun i => (sub (l.getD i d)).length) (fun i => rowG scell sd (sub (l.getD i d))) hole
section typed
variable {α β : Type} {cell : α → Nat → SV} {k : Nat} {d : α} {l : List α} {e : TypeId} {c : Nat} {sub : α → List β} {scell : β → Nat → SV} {ck : Nat} {sd : β} {ce : TypeId} {m : Nat} {hole : Option (Nat × SV)} {S : St} {j : Nat}
theorem getD_put (l : List α) (i q : Nat) (y : α) (h : i < l.length) : (l.set i y).getD q d = if q = i then y else l.getD q d := by
  simp only [List.getD_eq_getElem?_getD, List.getElem?_set]
  by_cases e : i = q
  · subst e; simp [h]
  · rw [if_neg e, if_neg (fun z => e z.symm)]
theorem uat_off {get : Nat → Nat → SV} {i t : Nat} (h : t ≠ c) : uat get c m hole i t = get i t := if_neg h
theorem uat_hole {get : Nat → Nat → SV} {i : Nat} {x : SV} : uat get c m (some (i, x)) i c = x := by
  rw [uat, if_pos rfl]; exact if_pos rfl
theorem uat_early {get : Nat → Nat → SV} {i : Nat} (h : i < m) : uat get c m none i c = .junk := by
  rw [uat, if_pos rfl]; exact if_pos h
theorem uat_late {get : Nat → Nat → SV} {i : Nat} (h : m ≤ i) : uat get c m none i c = get i c := by
  rw [uat, if_pos rfl]; exact if_neg (by omega)
theorem turn_u0T (j c : Nat) (sub : α → List β) (scell : β → Nat → SV) (ck : Nat) (sd : β) (ce : TypeId) (ho : lookO j S.owns = some (ownOf cell k d l e)) (hj : Nat.blt j 1000 = true) :
    Turn E S ⟨S.slots, (j, urowOf cell k d l e c sub scell ck sd ce 0 none) :: dropKs [] S.owns⟩ := turn_u0 j c ce ck _ _ ho hj
theorem t_stUT {ops : Array Oper} {rest : List Oper} {K : St → Prop} {t : TypeId} {p x : Operand} {ty : TypeId} {pos : String} {after : Array Edge} {i off : Nat} {s : SV} (y : α)
    (hp : Val E S p (.oe j k i off)) (ho : lookO j S.owns = some (urowOf cell k d l e c sub scell ck sd ce m hole)) (hx : Val E S x s) (h1 : s.one = true) (hro : s.isRO = true) (hs : ∀ w, (sizeOf t).run P w = .ok 1 w) (hoff : off < k) (hc : off ≠ c)
    (hil : i < l.length) (hset : cell y off = s) (hsame : ∀ t, t < k → t ≠ off → cell y t = cell (l.getD i d) t) (hsub : sub y = sub (l.getD i d))
    (hk : T P E ops rest ⟨S.slots, (j, urowOf cell k d (l.set i y) e c sub scell ck sd ce m hole) :: S.owns⟩ K) :
    T P E ops ({ dst := none, op := .store t p x, type := ty, pos, after, guard := none } :: rest) S K := by
  refine t_stU (rowG cell d (l.set i y)) hp ho hx h1 hro hs hoff hc ?_ (fun q hq t ht hne => ?_) ?_
  · show cell ((l.set i y).getD i d) off = s
    rw [getD_put _ _ _ _ hil, if_pos rfl]; exact hset
  · show cell ((l.set i y).getD q d) t = cell (l.getD q d) t
    rw [getD_put _ _ _ _ hil]
    split
    · rename_i e1; subst e1
      exact hsame t ht (hne.resolve_left fun z => z rfl)
    · rfl
  · have h2 : ∀ q, sub ((l.set i y).getD q d) = sub (l.getD q d) := fun q => by
      rw [getD_put _ _ _ _ hil]
      split
      · rename_i e1; subst e1; exact hsub
      · rfl
    simp only [urowOf, h2, List.length_set] at hk
    exact hk
theorem turn_joinT (j i j2 m' : Nat) (y : α) {o : Own} {x : List β} (ho : lookO j S.owns = some (urowOf cell k d l e c sub scell ck sd ce m (some (i, .own j2)))) (ho2 : lookO j2 S.owns = some o) (he : o = ownOf scell ck sd x ce)
    (hi : i < l.length) (him : i ≤ m) (hm' : m' = if i < m then m else m + 1) (hj : Nat.blt j 1000 = true) (hj2 : Nat.beq j2 j = false)
    (hsame : ∀ t, t < k → t ≠ c → cell y t = cell (l.getD i d) t) (hsub : sub y = x) :
    Turn E S ⟨S.slots, (j, urowOf cell k d (l.set i y) e c sub scell ck sd ce m' none) :: dropKs [j2] S.owns⟩ := by
  have h2 : ∀ q, (l.set i y).getD q d = if q = i then y else l.getD q d := fun q => getD_put _ _ _ _ hi
  have := turn_join (E := E) (rowG cell d (l.set i y)) j i j2 m' x.length (fun q => (sub ((l.set i y).getD q d)).length) (fun q => rowG scell sd (sub ((l.set i y).getD q d))) ho ho2 he hi him hm' hj hj2
    (by show (sub ((l.set i y).getD i d)).length = _; rw [h2, if_pos rfl, hsub]) (fun q hq t ht => by show rowG scell sd (sub ((l.set i y).getD i d)) q t = _; rw [h2, if_pos rfl, hsub])
    (fun q hq hne => by
      constructor
      · show (sub ((l.set i y).getD q d)).length = _; rw [h2, if_neg hne]
      · intro p hp t ht
        show rowG scell sd (sub ((l.set i y).getD q d)) p t = _; rw [h2, if_neg hne])
    (fun q hq t ht hne => by
      show cell ((l.set i y).getD q d) t = cell (l.getD q d) t
      rw [h2]
      split
      · rename_i e1; subst e1
        refine hsame t ht (hne.resolve_right fun z => ?_)
        rw [hm'] at z; split at z <;> omega
      · rfl)
  simp only [urowOf, List.length_set]
  exact this
theorem turn_splitT (j i j2 : Nat) (ho : lookO j S.owns = some (urowOf cell k d l e c sub scell ck sd ce m none)) (hi : i < m) (hj : Nat.blt j 1000 = true) (hf : S.fresh j2 = true) :
    Turn E S ⟨S.slots, (j, urowOf cell k d l e c sub scell ck sd ce m (some (i, .own j2))) :: (j2, ownOf scell ck sd (sub (l.getD i d)) ce) :: dropKs [] S.owns⟩ := turn_split j i j2 ho hi hj hf
theorem turn_uAT (j : Nat) (ho : lookO j S.owns = some (urowOf cell k d l e c sub scell ck sd ce m none)) (hj : Nat.blt j 1000 = true) (hcell : ∀ x, cell x c = rowOf scell ck sd (sub x)) :
    Turn E S ⟨S.slots, (j, ownOf cell k d l e) :: dropKs [] S.owns⟩ :=
  turn_uA j (rowG cell d l) ho hj (fun _ _ h => (by cases h)) fun i hi t ht => by
    unfold uro
    split
    · rename_i h; subst h
      show (if i < m then _ else _) = _
      split
      · exact (hcell _).symm
      · rfl
    · rfl
theorem turn_uAH (j i : Nat) (y : α) {x : SV} {xs : List β} (ho : lookO j S.owns = some (urowOf cell k d l e c sub scell ck sd ce m (some (i, x)))) (hx : x = rowOf scell ck sd xs) (hi : i < l.length) (hj : Nat.blt j 1000 = true) (hcell : ∀ x, cell x c = rowOf scell ck sd (sub x))
    (hsame : ∀ t, t < k → t ≠ c → cell y t = cell (l.getD i d) t) (hsub : sub y = xs) :
    Turn E S ⟨S.slots, (j, ownOf cell k d (l.set i y) e) :: dropKs [] S.owns⟩ := by
  subst hx
  have h2 : ∀ q, (l.set i y).getD q d = if q = i then y else l.getD q d := fun q => getD_put _ _ _ _ hi
  have := turn_uA (E := E) j (rowG cell d (l.set i y)) ho hj (fun i' x' h => by
    simp only [Option.some.injEq, Prod.mk.injEq] at h
    rw [← h.2]; rfl) fun q hq t ht => by
      show _ = cell ((l.set i y).getD q d) t
      unfold uro
      rw [h2]
      split
      · rename_i h; subst h
        show (if q = i then _ else _) = _
        split
        · rename_i e1; subst e1
          rw [hcell, hsub]
        · split
          · exact (hcell _).symm
          · rfl
      · split
        · rename_i e1; subst e1
          exact (hsame t ht ‹_›).symm
        · rfl
  unfold ownOf
  rw [List.length_set]
  exact this
theorem weak_uE {l' : List α} {m' : Nat} (ho : lookO j S.owns = some (urowOf cell k d l e c sub scell ck sd ce m hole)) (h : l = l') (hm : m = m') : Weak E S ⟨S.slots, (j, urowOf cell k d l' e c sub scell ck sd ce m' hole) :: S.owns⟩ := by
  subst h; subst hm
  exact weak_ownG ho fun _ _ _ h => h
theorem k_uE {G : Act → World → Prop} (j : Nat) (l' : List α) (m' : Nat) (ho : lookO j S.owns = some (urowOf cell k d l e c sub scell ck sd ce m hole)) (h : l = l') (hm : m = m') (hk : ∀ a w, Rep E ⟨S.slots, (j, urowOf cell k d l' e c sub scell ck sd ce m' hole) :: S.owns⟩ a w → G a w) : ∀ a w, Rep E S a w → G a w := k_weak (weak_uE ho h hm) hk
theorem c_uE {code : Code} {Q : Exit → Act → World → Prop} (j : Nat) (l' : List α) (m' : Nat) (ho : lookO j S.owns = some (urowOf cell k d l e c sub scell ck sd ce m hole)) (h : l = l') (hm : m = m') (hk : C P E code ⟨S.slots, (j, urowOf cell k d l' e c sub scell ck sd ce m' hole) :: S.owns⟩ Q) : C P E code S Q := (weak_uE ho h hm).c hk
end typed
end Go.Eng

namespace Go.Eng
open Go.RowKit
variable {P : Program} {NN : Nat} {E : Env NN}
theorem storeCells_at (g B : Nat) : ∀ (vs : List Value) (i : Nat), storeCells ⟨g, B, none⟩ vs i = storeCells ⟨g, 0, none⟩ vs (B + i)
  | [], i => rfl
  | v :: vs, i => by
    simp only [storeCells, Addr.add_lit, Nat.zero_add, storeCells_at g B vs (i + 1)]
    rfl
/-- A struct into an element of a slice of the frame's own. -/
theorem t_stOA {ops : Array Oper} {rest : List Oper} {S : St} {K : St → Prop} {t : TypeId} {p x : Operand} {ty : TypeId} {pos : String} {after : Array Edge} {j n n' k i off m : Nat} {get : Nat → Nat → SV} {e : TypeId} {gt : Nat → SV} (get' : Nat → Nat → SV)
    (hp : Val E S p (.oe j k i off)) (ho : lookO j S.owns = some (.arow n k get e)) (hx : Val E S x (.agg m gt)) (hro : AllN (fun t => (gt t).isRO = true) m) (hs : ∀ w, (sizeOf t).run P w = .ok m w) (hoff : off + m ≤ k) (hn : n = n')
    (hset : ∀ t, t < m → get' i (off + t) = gt t) (hsame : ∀ i', i' < n → ∀ t, t < k → (i' ≠ i ∨ t < off ∨ off + m ≤ t) → get' i' t = get i' t)
    (hk : T P E ops rest ⟨S.slots, (j, .arow n' k get' e) :: S.owns⟩ K) :
    T P E ops ({ dst := none, op := .store t p x, type := ty, pos, after, guard := none } :: rest) S K := by
  subst hn
  rintro a w ⟨b, hr⟩ Q hq
  obtain ⟨g, n', cap, hb, hi, hpv⟩ := hp b a w hr
  obtain ⟨A, c, hsl⟩ := own_slice hr ho
  rw [hsl] at hb
  simp only [hdv, Value.slice.injEq] at hb
  obtain ⟨rfl, rfl, rfl⟩ := hb
  obtain ⟨g', c', cur, hb', hbase, hh, hcap, hmax, hsz, hc⟩ := own_cells hr ho (by omega)
  have hb2 := hb'
  rw [hsl] at hb'
  simp only [Value.slice.injEq, Option.some.injEq, Addr.mk.injEq, and_true] at hb'
  obtain ⟨rfl, _, _⟩ := hb'
  obtain ⟨vs, hv, hvm, hvc⟩ := hx b a w hr
  have h1 : ∀ v ∈ vs.toList, v.oneCell' = true := by
    intro v hv
    obtain ⟨i, hi, rfl⟩ := List.getElem_of_mem hv
    obtain ⟨u, hu, h1, _⟩ := hvc i (by simpa [hvm] using hi)
    rw [Array.getElem?_eq_getElem (by simpa using hi)] at hu
    simp only [Option.some.injEq] at hu
    simpa [hu] using h1
  have hik : (i + 1) * k ≤ n * k := Nat.mul_le_mul_right _ hi
  have hik1 : (i + 1) * k = i * k + k := by rw [Nat.add_mul, Nat.one_mul]
  have hnk : n * k ≤ cur.size := by rw [hsz]; exact Nat.mul_le_mul_right _ hcap
  obtain ⟨w', cs', hrun, h2, h3, h4, h5, h6⟩ := setRow_all (P := P) hh vs.toList (i * k + off) (by simp only [Array.length_toList, hvm]; omega) h1
  unfold wpList
  rw [if_pos (by rfl)]
  refine .inl (wp_of_skip (w' := w') ?_ ?_)
  · have e1 := storeCells_at g (i * k + off) vs.toList 0
    rw [Nat.add_zero] at e1
    simp [execOp, Instr.storeAt, hpv, Instr.sureAddr, storeVar, hs, hv, Value.cells, hvm, e1, hrun]
  · refine hk _ _ ⟨b, ?_⟩ Q hq
    refine hr.setown ho (by rw [hb2]; exact rfl) h5 h6 (fun X hm hmo => ?_)
    refine ⟨cs'.toList.take (n * k), .inr ⟨⟨?_, .inr ⟨g, c' + 1, _, hb2, hbase, h2, hcap, hmax, by rw [h3]; exact hsz, rfl⟩⟩, g, n, c', hb2⟩, fun i' hi' t ht => ?_⟩
    · simp; omega
    · have hlt : i' * k + t < n * k := by
        have : (i' + 1) * k ≤ n * k := Nat.mul_le_mul_right _ hi'
        have e1 : (i' + 1) * k = i' * k + k := by rw [Nat.add_mul, Nat.one_mul]
        omega
      rw [List.getElem?_take, if_pos hlt, Array.getElem?_toList, h4]
      have hdiv : ∀ q r, r < k → (q * k + r) / k = q := fun q r hr => by rw [Nat.mul_comm, Nat.mul_add_div (by omega), Nat.div_eq_of_lt hr, Nat.add_zero]
      simp only [Array.length_toList, hvm]
      by_cases e1 : i * k + off ≤ i' * k + t ∧ i' * k + t < i * k + off + m
      · have hii : i' = i := by
          rw [← hdiv i' t ht, ← hdiv i (i' * k + t - i * k) (by omega)]
          congr 1; omega
        subst hii
        rw [if_pos e1]
        obtain ⟨u, hu, h7, h8⟩ := hvc (t - off) (by omega)
        have h9 := hset (t - off) (by omega)
        rw [show off + (t - off) = t from by omega] at h9
        refine ⟨u, ?_, h7, ?_⟩
        · rw [show i' * k + t - (i' * k + off) = t - off from by omega, Array.getElem?_toList]; exact hu
        · rw [h9]; exact hmo (h8.toRO (hro.at _ (by omega)))
      · rw [if_neg e1, hsame i' hi' t ht (by
          by_cases e2 : i' = i
          · subst e2; exact .inr (by omega)
          · exact .inl e2)]
        obtain ⟨u, hu, h7, h8⟩ := hc i' hi' t ht
        exact ⟨u, hu, h7, hmo h8⟩
/-- A struct as an element. -/
theorem t_stOAT {α : Type} {cell : α → Nat → SV} {d : α} {l : List α} {ops : Array Oper} {rest : List Oper} {S : St} {K : St → Prop} {t : TypeId} {p x : Operand} {ty : TypeId} {pos : String} {after : Array Edge} {j k i : Nat} {e : TypeId} {gt : Nat → SV} (y : α)
    (hp : Val E S p (.oe j k i 0)) (ho : lookO j S.owns = some (ownOf cell k d l e)) (hx : Val E S x (.agg k gt)) (hro : AllN (fun t => (gt t).isRO = true) k) (hs : ∀ w, (sizeOf t).run P w = .ok k w) (hi : i < l.length)
    (hset : AllN (fun t => cell y t = gt t) k)
    (hk : T P E ops rest ⟨S.slots, (j, ownOf cell k d (l.set i y) e) :: S.owns⟩ K) :
    T P E ops ({ dst := none, op := .store t p x, type := ty, pos, after, guard := none } :: rest) S K := by
  have h2 : ∀ q, (l.set i y).getD q d = if q = i then y else l.getD q d := fun q => getD_put _ _ _ _ hi
  refine t_stOA (rowG cell d (l.set i y)) hp ho hx hro hs (by omega) List.length_set.symm (fun t ht => ?_) (fun q hq t ht hne => ?_) hk
  · show cell ((l.set i y).getD i d) (0 + t) = gt t
    rw [h2, if_pos rfl, Nat.zero_add]; exact hset.at t ht
  · show cell ((l.set i y).getD q d) t = cell (l.getD q d) t
    rw [h2, if_neg]
    rcases hne with h | h | h
    · exact h
    · omega
    · omega
theorem val_kf {S : St} {x : Operand} {j : Nat} {b : Bool} {y Y : SV} (hk : frz j Y y = y) (h : Val E S x (frz j Y (cj b y))) : Val E S x (cj b y) := by
  cases b with
  | true => exact hk ▸ h
  | false => exact val_junk
/-- A pointer that is one. -/
theorem q_nilO {S : St} {x : Operand} {j k i off : Nat} (hx : Val E S x (.oe j k i off)) : OpQ P E S (.nilCheck x) (.oe j k i off) := fun b a w hr dst ty pos after gd => by
  obtain ⟨g, n, cap, hb, hi, hv⟩ := hx b a w hr
  refine ⟨.pointer (some ⟨g, i * k + off, none⟩), fun w' hw' => ?_, g, n, cap, hb, hi, rfl⟩
  simp [execOp, hv]
end Go.Eng

namespace Go.Eng
open Go.RowKit
variable {P : Program} {NN : Nat} {E : Env NN}
/-- A variable's cells, said otherwise. -/
theorem weak_boxI {S : St} (j : Nat) {m : Nat} {g : Nat → SV} (g' : Nat → SV) {ty : TypeId} (ho : lookO j S.owns = some (.box m g ty)) (h : AllN (fun t => Imp (g t) (g' t)) m) : Weak E S ⟨S.slots, (j, .box m g' ty) :: S.owns⟩ :=
  weak_ownG ho fun w X b hh => by
    obtain ⟨q, cs, h1, h2, h3, h4, hr⟩ := hh
    refine ⟨q, cs, h1, h2, h3, h4, fun t ht => ?_⟩
    obtain ⟨u, hu, h5, h6⟩ := hr t ht
    exact ⟨u, hu, h5, h.at t ht w X b u h6⟩
theorem t_boxI {ops : Array Oper} {rest : List Oper} {S : St} {K : St → Prop} (j : Nat) {m : Nat} {g : Nat → SV} (g' : Nat → SV) {ty : TypeId} (ho : lookO j S.owns = some (.box m g ty)) (h : AllN (fun t => Imp (g t) (g' t)) m)
    (hk : T P E ops rest ⟨S.slots, (j, .box m g' ty) :: S.owns⟩ K) : T P E ops rest S K := T.weak (weak_boxI j g' ho h) hk
end Go.Eng

namespace Go.Eng
theorem cj_t (x : SV) : cj true x = x := rfl
theorem cj_f (x : SV) : cj false x = .junk := rfl
theorem cjn_t (x : SV) : cjn true x = .junk := rfl
theorem cjn_f (x : SV) : cjn false x = x := rfl
theorem cb_t (x y : List (Nat × Own)) : cb true x y = x := rfl
theorem cb_f (x y : List (Nat × Own)) : cb false x y = y := rfl
/-- a slot that the region reads, then writes -/
def cv (b : Bool) (x y : SV) : SV := match b with | true => x | false => y
theorem cv_t (x y : SV) : cv true x y = x := rfl
theorem cv_f (x y : SV) : cv false x y = y := rfl
theorem noId_cv {j : Nat} {b : Bool} {x y : SV} (h : x.noId j = true) (h' : y.noId j = true) : (cv b x y).noId j = true := by cases b <;> assumption
end Go.Eng

/-! Shorter ways to say the same. -/
namespace Go.Eng
variable {P : Program} {NN : Nat} {E : Env NN}
/-- What a test says, part by part. -/
theorem BL : (∀ a b : Bool, ((a && b) = true) = (a = true ∧ b = true)) ∧ (∀ a b : Bool, ((a || b) = true) = (a = true ∨ b = true)) ∧ (∀ b : Bool, ((!b) = true) = (b = false)) ∧ (∀ b : Bool, ((!b) = false) = (b = true)) ∧
    (∀ a b : Bool, ((a || b) = false) = (a = false ∧ b = false)) ∧ (∀ a b : Bool, ((a && b) = false) = (a = false ∨ b = false)) ∧ (∀ (p : Prop) [Decidable p], (decide p = true) = p) ∧ (∀ (p : Prop) [Decidable p], (decide p = false) = ¬ p) :=
  ⟨fun _ _ => by simp, fun _ _ => by simp, fun _ => by simp, fun _ => by simp, fun a b => by cases a <;> cases b <;> simp, fun a b => by cases a <;> cases b <;> simp, fun _ => by simp, fun _ => by simp⟩
def tab {α : Type} (g : Nat → α) : Nat → List α
  | 0 => []
  | n + 1 => g n :: tab g n
theorem An {α : Type} {g g' : Nat → α} : ∀ {m : Nat}, tab g m = tab g' m → AllN (fun t => g t = g' t) m
  | 0, _ => trivial
  | _ + 1, h => ⟨An (List.cons.inj h).2, (List.cons.inj h).1⟩
theorem Vs {S : St} : ∀ {sl : List (Nat × SV)}, sl.map (fun p => look p.1 S.slots) = sl.map (fun p => some p.2) → AllV E S sl
  | [], _ => trivial
  | _ :: _, h => ⟨val_tmp (List.cons.inj h).1, Vs (List.cons.inj h).2⟩
theorem AOs {S : St} : ∀ {ow : List (Nat × Own)}, ow.map (fun p => lookO p.1 S.owns) = ow.map (fun p => some p.2) → AllOE S ow
  | [], _ => trivial
  | _ :: _, h => ⟨⟨_, (List.cons.inj h).1, Own.eqv_rfl _⟩, AOs (List.cons.inj h).2⟩
theorem row_lenA {S : St} {x : Operand} {m n k : Nat} {g : Nat → SV} {get : Nat → Nat → SV} (i : Nat) (hx : Val E S x (.agg m g)) (hi : Nat.blt i m = true) (e : g i = .row n k get) {c : Code} {Q : Exit → Act → World → Prop} (h : n ≤ 9223372036854775807 → C P E c S Q) : C P E c S Q := by
  rintro a w ⟨b, hr⟩
  obtain ⟨cs, _, _, hc⟩ := hx b a w hr
  obtain ⟨u, _, _, hu⟩ := hc i (Nat.le_of_ble_eq_true hi)
  rw [e] at hu
  obtain ⟨A, c, _, h1, h2, _⟩ := hu
  exact h (by simp only [maxLen] at h2; omega) a w ⟨b, hr⟩
theorem c_condT {c : Operand} {x y : Code} {S : St} {Q : Exit → Act → World → Prop} {t : Bool} (hc : Val E S c (.v (.bool t))) (h : t = true) (hx : C P E x S Q) : C P E (.cond c x y) S Q := c_cond hc (fun _ => hx) (fun h' => absurd (h.symm.trans h') (by simp))
theorem c_condF {c : Operand} {x y : Code} {S : St} {Q : Exit → Act → World → Prop} {t : Bool} (hc : Val E S c (.v (.bool t))) (h : t = false) (hy : C P E y S Q) : C P E (.cond c x y) S Q := c_cond hc (fun h' => absurd (h'.symm.trans h) (by simp)) (fun _ => hy)
theorem c_nextH {S : St} {G : Act → World → Prop} {ι : Type} {T : ι → St} {I : ι → Prop} {μ : ι → Nat} {i : ι} (i' : ι) (hG : ∀ a w, (∃ i', (I i' ∧ μ i' < μ i) ∧ Rep E (T i') a w) → G a w) (hI : I i') (hμ : μ i' < μ i) (hw : Weak E S (T i')) : ∀ a w, Rep E S a w → G a w :=
  fun a w ⟨b, hr⟩ => hG a w ⟨i', ⟨hI, hμ⟩, b, hw b a w hr⟩
theorem c_hereH {S : St} {G : Act → World → Prop} {ι : Type} {T : ι → St} {I : ι → Prop} (i : ι) (hG : ∀ a w, (∃ i, I i ∧ Rep E (T i) a w) → G a w) (hI : I i) (hw : Weak E S (T i)) : ∀ a w, Rep E S a w → G a w :=
  fun a w ⟨b, hr⟩ => hG a w ⟨i, hI, b, hw b a w hr⟩
end Go.Eng

namespace Go.Eng
open Go.RowKit
variable {P : Program} {NN : Nat} {E : Env NN}
/-! Regions that draw their order, once more: first what only reads and lays new blocks (op by op, each out of what it leans on), then what turns the frame's own memory. -/
theorem wpAny_inv {l : List Oper} {I : (Nat → Bool) → Act → World → Prop} {Q : Exit → Act → World → Prop} (hb : backB 0 l = true)
    (hs : ∀ i o, l[i]? = some o → ∀ e, Down l e → e i = false → DepsL e (depsOf o) → ∀ a w, I e a w → ∀ Q2 : Exit → Act → World → Prop, (∀ a' w', I (setE e i) a' w' → Q2 .normal a' w') → wpList P l.toArray Q2 [o] a w)
    (hf : ∀ e, (∀ i, i < l.length → e i = true) → ∀ a w, I e a w → Q .normal a w) :
    ∀ (fuel : Nat) (listed : Array Bool) (a : Act) (w : World), listed.size = l.length → leftN listed ≤ fuel → Down l (flags listed) → I (flags listed) a w → wpAny P .any l.toArray Q fuel listed a w := by
  have hempty : ∀ (listed : Array Bool), listed.size = l.length → Region.ready .any l.toArray listed = [] → ∀ i, i < l.length → flags listed i = true := by
    intro listed hsz hr i
    induction i using Nat.strongRecOn with
    | ind i ih =>
      intro hi
      cases hfl : flags listed i with
      | true => rfl
      | false =>
        have hm := mem_ready (md := .any) hsz (List.getElem?_eq_getElem hi) hfl (fun ed hed hbd => by
          have hlt := backB.at hb i _ (List.getElem?_eq_getElem hi) ed.on (List.mem_map.2 ⟨ed, List.mem_filter.2 ⟨hed, hbd⟩, rfl⟩)
          exact ih ed.on (by omega) (by omega))
        rw [hr] at hm; cases hm
  intro fuel
  induction fuel with
  | zero =>
    intro listed a w hsz hle hd hr
    have hall := leftN_zero (Nat.le_zero.1 hle)
    refine ⟨?_, hf _ (fun i hi => hall i (by omega)) a w hr⟩
    refine List.eq_nil_iff_forall_not_mem.2 fun i hi => ?_
    obtain ⟨o, ho, h1, _⟩ := ready_mem hsz hi
    have := hall i (by have := (List.getElem?_eq_some_iff.1 ho).1; omega)
    rw [h1] at this; cases this
  | succ fuel ih =>
    intro listed a w hsz hle hd hr
    refine ⟨fun h0 => hf _ (hempty listed hsz h0) a w hr, fun i hi => ?_⟩
    obtain ⟨o, ho, h1, h2⟩ := ready_mem hsz hi
    have hil : i < listed.size := by have := (List.getElem?_eq_some_iff.1 ho).1; omega
    let K : Act → World → Prop := wpAny P .any l.toArray Q fuel (listed.setIfInBounds i true)
    let Q2 : Exit → Act → World → Prop := fun x a w => match x with | .normal => K a w | _ => False
    have hstep := hs i o ho (flags listed) hd h1 (deps_iff.2 h2) a w hr Q2 (fun a' w' hr' => by
      show K a' w'
      refine ih _ a' w' (by simpa using hsz) (by have := leftN_set hil h1; omega) ?_ ?_
      · intro k hk
        rw [flags_set hil] at hk ⊢
        by_cases e : k = i
        · subst e
          rw [ho]
          refine deps_iff.2 fun ed hed hbd => ?_
          have := h2 ed hed hbd
          simp only [setE]
          split
          · rfl
          · exact this
        · have hk' : flags listed k = true := by
            simp only [setE] at hk
            split at hk
            · rename_i hb'; exact absurd (Nat.eq_of_beq_eq_true hb') e
            · exact hk
          refine DepsL.of fun x hx => ?_
          have := (hd k hk').at x hx
          simp only [setE]
          split
          · rfl
          · exact this
      · rw [flags_set hil]; exact hr')
    unfold wpOp
    have ho' : l.toArray[i]? = some o := by simp [ho]
    rw [ho']
    unfold wpList at hstep
    by_cases hw : Region.wanted o (yielded l.toArray a.tmps) = true
    · rw [if_pos hw] at hstep
      simp only []
      rw [if_pos hw]
      have hbad : ∀ x (a : Act) (w : World), x ≠ Exit.normal → Q2 x a w → Q x a w := by
        intro x a w hx hq
        cases x <;> first | exact absurd rfl hx | exact hq.elim
      rcases hstep with h | ⟨h, a', w', h'⟩
      · have e : wpList P l.toArray Q2 [] = K := by funext a w; simp only [wpList]; rfl
        rw [e] at h
        exact .inl (upon_mono hbad h)
      · exact h'.elim
    · rw [if_neg hw] at hstep
      simp only []
      rw [if_neg hw]
      unfold wpList at hstep
      exact hstep

/-- One operation that turns nothing, out of what a state says. -/
def OpG (P : Program) {NN : Nat} (E : Env NN) (S : St) (ops : Array Oper) (o : Oper) (x : SV) : Prop :=
  ∀ b a w, RepB E b S a w → ∀ Q : Exit → Act → World → Prop, (∀ v w', Below w.heap.size w w' → R w' (S.excl E b) b x v → Q .normal (a.put o.dst v) w') → wpList P ops Q [o] a w
section
variable {ops : Array Oper} {S : St} {d : Option Tmp} {ty : TypeId} {pos : String} {after : Array Edge} {gd : Nat × Bool} {c : Bool} {x : SV}
theorem og_w {op : Op} (h : OpW P E S op x) : OpG P E S ops { dst := d, op, type := ty, pos, after, guard := none } x := fun b a w hr Q hq => by
  obtain ⟨v, w', h1, h2, h3⟩ := h b a w hr d ty pos after none
  unfold wpList
  rw [if_pos (by rfl)]
  exact .inl (wp_of_run h1 (hq v w' h2 h3))
theorem og_q {op : Op} (h : OpQ P E S op x) : OpG P E S ops { dst := d, op, type := ty, pos, after, guard := none } x := og_w h.toW
theorem og_wG {op : Op} (hg : Guard E S ops gd c) (h : c = true → OpW P E S op x) : OpG P E S ops { dst := d, op, type := ty, pos, after, guard := some gd } (.grd c x) := fun b a w hr Q hq => by
  unfold wpList
  rw [hg b a w hr _ rfl]
  cases c with
  | false => exact hq undef w (Below.refl _ _) ⟨(fun h => by cases h), fun _ => rfl⟩
  | true =>
    obtain ⟨v, w', h1, h2, h3⟩ := h rfl b a w hr d ty pos after (some gd)
    exact .inl (wp_of_run h1 (hq v w' h2 ⟨fun _ => h3, fun h => by cases h⟩))
theorem og_qG {op : Op} (hg : Guard E S ops gd c) (h : c = true → OpQ P E S op x) : OpG P E S ops { dst := d, op, type := ty, pos, after, guard := some gd } (.grd c x) := og_wG hg fun hc => (h hc).toW
theorem og_call {f : FuncId} {xs : List Operand} {ats : Array TypeId} {args : List SV} (hf : Enters P f) (ha : Vals E S xs args) (h : Ct P f args x) :
    OpG P E S ops { dst := d, op := .call { callee := .value (.func f), args := xs.toArray, argTypes := ats }, type := ty, pos, after, guard := none } x := fun b a w hr Q hq => by
  unfold wpList
  rw [if_pos (by rfl)]
  refine .inl (wp_of_enter (R := fun v w'' => Below w.heap.size w w'' ∧ R w'' (S.excl E b) b x v) (run_call hf ..) ?_ fun v w'' hv => hq v w'' hv.1 hv.2)
  refine (h w (S.excl E b) _ (fun g hg => hr.excl_lt hg) (ha.ros hr)).mono ?_
  rintro e w'' ⟨v, rfl, hv, hb⟩
  exact ⟨v, rfl, hb, hv.toR⟩
theorem og_callG {f : FuncId} {xs : List Operand} {ats : Array TypeId} {args : List SV} (hg : Guard E S ops gd c) (hf : Enters P f) (ha : c = true → Vals E S xs args) (h : c = true → Ct P f args x) :
    OpG P E S ops { dst := d, op := .call { callee := .value (.func f), args := xs.toArray, argTypes := ats }, type := ty, pos, after, guard := some gd } (.grd c x) := fun b a w hr Q hq => by
  unfold wpList
  rw [hg b a w hr _ rfl]
  cases c with
  | false => exact hq undef w (Below.refl _ _) ⟨(fun h => by cases h), fun _ => rfl⟩
  | true =>
    refine .inl (wp_of_enter (R := fun v w'' => Below w.heap.size w w'' ∧ R w'' (S.excl E b) b x v) (run_call hf ..) ?_ fun v w'' hv => hq v w'' hv.1 ⟨fun _ => hv.2, fun h => by cases h⟩)
    refine (h rfl w (S.excl E b) _ (fun g hg => hr.excl_lt hg) ((ha rfl).ros hr)).mono ?_
    rintro e w'' ⟨v, rfl, hv, hb⟩
    exact ⟨v, rfl, hb, hv.toR⟩
theorem og_callV {f : FuncId} {caps : List SV} {xf : Operand} {xs : List Operand} {ats : Array TypeId} {args : List SV} (hxf : FnVal E S xf f caps) (hro : allRO caps = true) (hf : Enters P f) (ha : Vals E S xs args) (h : Ct P f (args ++ caps) x) :
    OpG P E S ops { dst := d, op := .call { callee := .value xf, args := xs.toArray, argTypes := ats }, type := ty, pos, after, guard := none } x := fun b a w hr Q hq => by
  obtain ⟨vals, hv, hc⟩ := hxf b a w hr
  unfold wpList
  rw [if_pos (by rfl)]
  refine .inl (wp_of_enter (R := fun v w'' => Below w.heap.size w w'' ∧ R w'' (S.excl E b) b x v) (run_callV hf a xf vals hv ..) ?_ fun v w'' hv => hq v w'' hv.1 hv.2)
  refine (h w (S.excl E b) _ (fun g hg => hr.excl_lt hg) (ros_app (ha.ros hr) (hc.ros hro))).mono ?_
  rintro e w'' ⟨v, rfl, hv, hb⟩
  exact ⟨v, rfl, hb, hv.toR⟩
theorem og_callB {f : FuncId} {xs : List Operand} {ats : Array TypeId} {args : List SV} {x : Value} (hf : Enters P f) (ha : ValsB E S xs args) (h : Ct P f args (.v x)) :
    OpG P E S ops { dst := d, op := .call { callee := .value (.func f), args := xs.toArray, argTypes := ats }, type := ty, pos, after, guard := none } (.v x) := fun b a w hr Q hq => by
  unfold wpList
  rw [if_pos (by rfl)]
  refine .inl (wp_of_enter (R := fun v w'' => Below w.heap.size w w'' ∧ v = x) (run_call hf ..) ?_ fun v w'' hv => hq v w'' hv.1 hv.2)
  refine (h w E.X _ (fun g hg => hr.excl_lt (.inl hg)) (ha.ros hr)).mono ?_
  rintro e w'' ⟨v, rfl, hv, hb⟩
  exact ⟨v, rfl, hb, hv⟩
theorem og_callBG {f : FuncId} {xs : List Operand} {ats : Array TypeId} {args : List SV} {x : Value} (hg : Guard E S ops gd c) (hf : Enters P f) (ha : c = true → ValsB E S xs args) (h : c = true → Ct P f args (.v x)) :
    OpG P E S ops { dst := d, op := .call { callee := .value (.func f), args := xs.toArray, argTypes := ats }, type := ty, pos, after, guard := some gd } (.grd c (.v x)) := fun b a w hr Q hq => by
  unfold wpList
  rw [hg b a w hr _ rfl]
  cases c with
  | false => exact hq undef w (Below.refl _ _) ⟨(fun h => by cases h), fun _ => rfl⟩
  | true =>
    refine .inl (wp_of_enter (R := fun v w'' => Below w.heap.size w w'' ∧ v = x) (run_call hf ..) ?_ fun v w'' hv => hq v w'' hv.1 ⟨fun _ => hv.2, fun h => by cases h⟩)
    refine (h rfl w E.X _ (fun g hg => hr.excl_lt (.inl hg)) ((ha rfl).ros hr)).mono ?_
    rintro e w'' ⟨v, rfl, hv, hb⟩
    exact ⟨v, rfl, hb, hv⟩
end

/-! The part that only reads: (index, slot, value) of each operation so far. -/
def mmB (k : Nat) : List Nat → Bool
  | [] => false
  | x :: r => match Nat.beq k x with | true => true | false => mmB k r
theorem mmB_iff {k : Nat} : ∀ {l : List Nat}, mmB k l = true ↔ k ∈ l
  | [] => by simp [mmB]
  | x :: r => by
    simp only [mmB, List.mem_cons]
    cases hb : Nat.beq k x with
    | true => simp [Nat.eq_of_beq_eq_true hb]
    | false =>
      have : k ≠ x := fun e => by subst e; simp at hb
      simp only [this, false_or]
      exact mmB_iff
def pick (deps : List Nat) : List (Nat × Nat × SV) → List (Nat × SV)
  | [] => []
  | p :: r => match mmB p.1 deps with | true => (p.2.1, p.2.2) :: pick deps r | false => pick deps r
def allS : List (Nat × Nat × SV) → List (Nat × SV)
  | [] => []
  | p :: r => (p.2.1, p.2.2) :: allS r
def dstsOf : List Oper → List Nat
  | [] => []
  | o :: r => match o.dst with | some d => d :: dstsOf r | none => dstsOf r
def keepS (ds : List Nat) : List (Nat × SV) → List (Nat × SV)
  | [] => []
  | p :: r => match mmB p.1 ds with | true => keepS ds r | false => p :: keepS ds r
def noDup : List Nat → Bool
  | [] => true
  | x :: r => !mmB x r && noDup r
def Gs (P : Program) {NN : Nat} (E : Env NN) (l : List Oper) (base : List (Nat × SV)) (ow : List (Nat × Own)) : List (Nat × Nat × SV) → Nat → List Oper → (List (Nat × Nat × SV) → Prop) → Prop
  | acc, _, [], K => K acc
  | acc, i, o :: r, K => ∃ d x, o.dst = some d ∧ d < NN ∧ OpG P E ⟨pick (depsOf o) acc ++ base, ow⟩ l.toArray o x ∧ Gs P E l base ow ((i, d, x) :: acc) (i + 1) r K
theorem gs_nil {l : List Oper} {base : List (Nat × SV)} {ow : List (Nat × Own)} {acc : List (Nat × Nat × SV)} {i : Nat} {K : List (Nat × Nat × SV) → Prop} (h : K acc) : Gs P E l base ow acc i [] K := h
theorem gs_op {l : List Oper} {base : List (Nat × SV)} {ow : List (Nat × Own)} {acc : List (Nat × Nat × SV)} {i : Nat} {K : List (Nat × Nat × SV) → Prop} {d : Nat} {x : SV} {op : Op} {ty : TypeId} {pos : String} {after : Array Edge} {gd : Option (Nat × Bool)} {r : List Oper}
    (h : OpG P E ⟨pick (depsOf { dst := some d, op, type := ty, pos, after, guard := gd }) acc ++ base, ow⟩ l.toArray { dst := some d, op, type := ty, pos, after, guard := gd } x) (hk : Gs P E l base ow ((i, d, x) :: acc) (i + 1) r K) (hd : d < NN := by decide) :
    Gs P E l base ow acc i ({ dst := some d, op, type := ty, pos, after, guard := gd } :: r) K := ⟨d, x, rfl, hd, h, hk⟩

theorem look_app {s : Nat} : ∀ {l m : List (Nat × SV)} {x : SV}, look s (l ++ m) = some x → look s l = some x ∨ look s m = some x
  | [], _, _, h => .inr h
  | p :: r, m, x, h => by
    simp only [List.cons_append, look] at h ⊢
    split at h
    · exact .inl h
    · exact look_app h
theorem look_pick {s : Nat} {deps : List Nat} : ∀ {acc : List (Nat × Nat × SV)} {x : SV}, look s (pick deps acc) = some x → ∃ k, k ∈ deps ∧ (k, s, x) ∈ acc
  | [], x, h => by simp [pick, look] at h
  | p :: r, x, h => by
    simp only [pick] at h
    split at h
    · rename_i hm
      simp only [look] at h
      split at h
      · rename_i hb
        injection h with h
        subst h
        have := Nat.eq_of_beq_eq_true hb
        exact ⟨p.1, mmB_iff.1 hm, by rw [this]; exact .head _⟩
      · obtain ⟨k, h1, h2⟩ := look_pick h; exact ⟨k, h1, .tail _ h2⟩
    · obtain ⟨k, h1, h2⟩ := look_pick h; exact ⟨k, h1, .tail _ h2⟩
theorem look_allS {s : Nat} : ∀ {acc : List (Nat × Nat × SV)} {x : SV}, look s (allS acc) = some x → ∃ k, (k, s, x) ∈ acc
  | [], x, h => by simp [allS, look] at h
  | p :: r, x, h => by
    simp only [allS, look] at h
    split at h
    · rename_i hb
      injection h with h
      subst h
      have := Nat.eq_of_beq_eq_true hb
      exact ⟨p.1, by rw [this]; exact .head _⟩
    · obtain ⟨k, h2⟩ := look_allS h; exact ⟨k, .tail _ h2⟩
theorem look_keep {s : Nat} {ds : List Nat} : ∀ {l : List (Nat × SV)} {x : SV}, look s (keepS ds l) = some x → ¬ s ∈ ds ∧ look s l = some x
  | [], x, h => by simp [keepS, look] at h
  | p :: r, x, h => by
    simp only [keepS] at h
    split at h
    · rename_i hm
      obtain ⟨h1, h2⟩ := look_keep h
      refine ⟨h1, ?_⟩
      simp only [look]
      split
      · rename_i hb
        exact absurd (Nat.eq_of_beq_eq_true hb ▸ mmB_iff.1 hm) h1
      · exact h2
    · rename_i hm
      simp only [look] at h ⊢
      split at h
      · rename_i hb
        exact ⟨fun hh => (by rw [Nat.eq_of_beq_eq_true hb] at hh; rw [mmB_iff.2 hh] at hm; cases hm), h⟩
      · rename_i hb
        exact look_keep h
/-- Entries stand under their operations' numbers. -/
def IxS (l : List Oper) : Nat → List (Nat × Nat × SV) → Prop
  | 0, [] => True
  | k + 1, p :: r => (p.1 = k ∧ ∃ o, l[k]? = some o ∧ o.dst = some p.2.1) ∧ IxS l k r
  | _, _ => False
theorem IxS.mem {l : List Oper} : ∀ {n : Nat} {acc : List (Nat × Nat × SV)}, IxS l n acc → ∀ p ∈ acc, p.1 < n ∧ ∃ o, l[p.1]? = some o ∧ o.dst = some p.2.1
  | 0, [], _, p, h => by cases h
  | k + 1, q :: r, hI, p, h => by
    cases h with
    | head => obtain ⟨⟨h1, h2⟩, _⟩ := hI; exact ⟨by omega, by rw [h1]; exact h2⟩
    | tail _ h => obtain ⟨h1, h2⟩ := hI.2.mem p h; exact ⟨by omega, h2⟩
  | 0, _ :: _, hI, _, _ => hI.elim
  | _ + 1, [], hI, _, _ => hI.elim
theorem IxS.uniq {l : List Oper} : ∀ {n : Nat} {acc : List (Nat × Nat × SV)}, IxS l n acc → ∀ p ∈ acc, ∀ q ∈ acc, p.1 = q.1 → p = q
  | 0, [], _, p, h, _, _, _ => by cases h
  | k + 1, x :: r, hI, p, hp, q, hq, e => by
    have h1 := hI.1.1
    cases hp with
    | head =>
      cases hq with
      | head => rfl
      | tail _ hq => have := (hI.2.mem q hq).1; omega
    | tail _ hp =>
      cases hq with
      | head => have := (hI.2.mem p hp).1; omega
      | tail _ hq => exact hI.2.uniq p hp q hq e
  | 0, _ :: _, hI, _, _, _, _, _ => hI.elim
  | _ + 1, [], hI, _, _, _, _, _ => hI.elim
theorem mem_dsts {d : Nat} : ∀ {l : List Oper} {i : Nat} {o : Oper}, l[i]? = some o → o.dst = some d → d ∈ dstsOf l
  | [], _, _, h, _ => by simp at h
  | y :: r, 0, o, h, h1 => by simp at h; subst h; simp [dstsOf, h1]
  | y :: r, i + 1, o, h, h1 => by
    have := mem_dsts (l := r) (i := i) (by simpa using h) h1
    simp only [dstsOf]
    split
    · exact .tail _ this
    · exact this
theorem noDup_at : ∀ {l : List Oper}, noDup (dstsOf l) = true → ∀ (i j : Nat) (o o' : Oper) (d : Nat), l[i]? = some o → l[j]? = some o' → o.dst = some d → o'.dst = some d → i = j
  | [], _, i, j, o, o', d, h, _, _, _ => by simp at h
  | x :: r, hn, i, j, o, o', d, h1, h2, h3, h4 => by
    have hm : ∀ {k : Nat} {o : Oper}, r[k]? = some o → o.dst = some d → d ∈ dstsOf r := by
      intro k o hk ho
      clear hn h1 h2
      induction r generalizing k with
      | nil => simp at hk
      | cons y r ih =>
        cases k with
        | zero => simp at hk; subst hk; simp [dstsOf, ho]
        | succ k =>
          have := ih (by simpa using hk)
          simp only [dstsOf]
          split
          · exact .tail _ this
          · exact this
    have hn' : noDup (dstsOf r) = true := by
      simp only [dstsOf] at hn
      split at hn
      · simp only [noDup, Bool.and_eq_true] at hn; exact hn.2
      · exact hn
    cases i with
    | zero =>
      simp at h1; subst h1
      cases j with
      | zero => rfl
      | succ j =>
        simp only [dstsOf, h3, noDup, Bool.and_eq_true, Bool.not_eq_true'] at hn
        have := hm (by simpa using h2) h4
        rw [mmB_iff.2 this] at hn
        exact absurd hn.1 (by simp)
    | succ i =>
      cases j with
      | zero =>
        simp at h2; subst h2
        simp only [dstsOf, h4, noDup, Bool.and_eq_true, Bool.not_eq_true'] at hn
        have := hm (by simpa using h1) h3
        rw [mmB_iff.2 this] at hn
        exact absurd hn.1 (by simp)
      | succ j => rw [noDup_at hn' i j o o' d (by simpa using h1) (by simpa using h2) h3 h4]
/-- All entries, and what is known of each operation. -/
theorem Gs.all {l : List Oper} {base : List (Nat × SV)} {ow : List (Nat × Own)} {K : List (Nat × Nat × SV) → Prop} : ∀ {r : List Oper} {acc : List (Nat × Nat × SV)} {i : Nat}, Gs P E l base ow acc i r K → IxS l i acc → (∀ j o, r[j]? = some o → l[i + j]? = some o) →
    ∃ full, K full ∧ IxS l (i + r.length) full ∧ (∀ p ∈ acc, p ∈ full) ∧ ∀ j o, r[j]? = some o → ∃ d x acc', o.dst = some d ∧ d < NN ∧ (i + j, d, x) ∈ full ∧ (∀ p ∈ acc', p ∈ full) ∧ OpG P E ⟨pick (depsOf o) acc' ++ base, ow⟩ l.toArray o x
  | [], acc, i, h, hI, _ => ⟨acc, h, hI, fun _ h => h, fun j o h => by simp at h⟩
  | o :: r, acc, i, ⟨d, x, h1, h2, h3, h4⟩, hI, hl => by
    obtain ⟨full, hK, hF, hacc, hall⟩ := Gs.all h4 (show IxS l (i + 1) ((i, d, x) :: acc) from ⟨⟨rfl, o, by simpa using hl 0 o rfl, h1⟩, hI⟩) (fun j o' h => by have := hl (j + 1) o' (by simpa using h); rwa [show i + 1 + j = i + (j + 1) by omega])
    refine ⟨full, hK, by rw [show i + (o :: r).length = i + 1 + r.length by simp; omega]; exact hF, fun p hp => hacc p (.tail _ hp), fun j o' h => ?_⟩
    cases j with
    | zero =>
      simp at h; subst h
      exact ⟨d, x, acc, h1, h2, hacc _ (.head _), fun p hp => hacc p (.tail _ hp), h3⟩
    | succ j =>
      obtain ⟨d', x', acc', q1, q2, q3, q4, q5⟩ := hall j o' (by simpa using h)
      exact ⟨d', x', acc', q1, q2, by rwa [show i + 1 + j = i + (j + 1) by omega] at q3, q4, q5⟩
/-- The first n operations, a set of which has run. -/
def GI {NN : Nat} (E : Env NN) (base : List (Nat × SV)) (ow : List (Nat × Own)) (full : List (Nat × Nat × SV)) (e : Nat → Bool) (a : Act) (w : World) : Prop :=
  ∃ b, RepB E b ⟨base, ow⟩ a w ∧ ∀ p ∈ full, e p.1 = true → R w (St.excl ⟨base, ow⟩ E b) b p.2.2 (a.tmps.getD p.2.1 undef)
theorem GI.weak {base : List (Nat × SV)} {ow : List (Nat × Own)} {full : List (Nat × Nat × SV)} {e : Nat → Bool} {a : Act} {w : World} {b : Nat → Value} (h : RepB E b ⟨base, ow⟩ a w) (hx : ∀ p ∈ full, e p.1 = true → R w (St.excl ⟨base, ow⟩ E b) b p.2.2 (a.tmps.getD p.2.1 undef))
    {sl : List (Nat × SV)} (hs : ∀ s x, look s sl = some x → look s base = some x ∨ ∃ k, e k = true ∧ (k, s, x) ∈ full) : RepB E b ⟨sl, ow⟩ a w where
  size := h.size
  defers := h.defers
  below := h.below
  slots := fun s x hl => by
    rcases hs s x hl with h1 | ⟨k, h1, h2⟩
    · exact h.slots s x h1
    · exact hx _ h2 h1
  owns := h.owns
  mine := h.mine
  apart := h.apart
  old := h.old
theorem setE_eq (e : Nat → Bool) (i k : Nat) : setE e i k = if k = i then true else e k := by
  simp only [setE]
  by_cases h : k = i
  · subst h; simp
  · have : Nat.beq k i = false := by
      cases hb : Nat.beq k i
      · rfl
      · exact absurd (Nat.eq_of_beq_eq_true hb) h
    rw [this, if_neg h]
/-- Whoever leans on operation k, among those whose numbers come: a list of numbers. -/
def desc (acc : List Nat) : Nat → List Oper → List Nat
  | _, [] => acc
  | i, o :: r => match (depsOf o).any (fun x => mmB x acc) with | true => desc (i :: acc) (i + 1) r | false => desc acc (i + 1) r
theorem desc_sound {l : List Oper} {k : Nat} : ∀ {r : List Oper} {i : Nat} {acc : List Nat}, (∀ j o, r[j]? = some o → l[i + j]? = some o) →
    (∀ q ∈ acc, q = k ∨ ∃ o, l[q]? = some o ∧ ∀ e, Down l e → DepsL e (depsOf o) → e k = true) → ∀ q ∈ desc acc i r, q = k ∨ ∃ o, l[q]? = some o ∧ ∀ e, Down l e → DepsL e (depsOf o) → e k = true
  | [], i, acc, _, h, q, hq => h q hq
  | o :: r, i, acc, hl, h, q, hq => by
    have hl' : ∀ j o', r[j]? = some o' → l[i + 1 + j]? = some o' := fun j o' hj => by have := hl (j + 1) o' (by simpa using hj); rwa [show i + 1 + j = i + (j + 1) by omega]
    simp only [desc] at hq
    split at hq
    · rename_i hany
      refine desc_sound hl' (fun q hq => ?_) q hq
      cases hq with
      | head =>
        have ho := hl 0 o rfl
        rw [Nat.add_zero] at ho
        refine .inr ⟨o, ho, fun e hd hdep => ?_⟩
        obtain ⟨x, hx, hxm⟩ := List.any_eq_true.1 hany
        have hex := hdep.at x hx
        rcases h x (mmB_iff.1 hxm) with h1 | ⟨o2, h1, h2⟩
        · exact h1 ▸ hex
        · have hd2 := hd x hex
          rw [h1] at hd2
          exact h2 e hd hd2
      | tail _ hq => exact h q hq
    · exact desc_sound hl' h q hq
/-- All operations from number n on lean on all ahead of it. -/
def sepB (n : Nat) (l : List Oper) : Bool := (List.range n).all fun k => (List.range' n (l.length - n)).all fun i => mmB i (desc [k] 0 l)
theorem sepB_sound {n : Nat} {l : List Oper} (h : sepB n l = true) {i : Nat} {o : Oper} (hi : n ≤ i) (ho : l[i]? = some o) {e : Nat → Bool} (hd : Down l e) (hdep : DepsL e (depsOf o)) : ∀ k, k < n → e k = true := fun k hk => by
  simp only [sepB, List.all_eq_true] at h
  have hlt := (List.getElem?_eq_some_iff.1 ho).1
  have h1 := mmB_iff.1 (h k (List.mem_range.2 hk) i (by simp [List.mem_range'_1]; omega))
  rcases desc_sound (l := l) (k := k) (fun j o hj => by simpa using hj) (fun q hq => by cases hq with | head => exact .inl rfl | tail _ hq => cases hq) i h1 with h2 | ⟨o', h2, h3⟩
  · omega
  · rw [ho] at h2
    injection h2 with h2
    subst h2
    exact h3 e hd hdep

/-- A region that draws its order: its first n operations only read; the others lean on all of these. -/
theorem c_rs {id : Nat} {l : List Oper} {S : St} {Q : Exit → Act → World → Prop} (n : Nat) (stE : List (Nat × Nat × SV) → (Nat → Bool) → St) (Sf : List (Nat × Nat × SV) → St) (hm : P.follows .mixedOrders = true) (hb : (backB 0 l && noDup (dstsOf l) && sepB n l && Nat.ble n l.length) = true)
    (h : Gs P E l (keepS (dstsOf (l.take n)) S.slots) S.owns [] 0 (l.take n) fun full =>
      (Weak E ⟨allS full ++ keepS (dstsOf (l.take n)) S.slots, S.owns⟩ (stE full fun k => Nat.blt k n) ∧
      (∀ i o, n ≤ i → l[i]? = some o → ∀ e, Down l e → e i = false → DepsL e (depsOf o) → T P E l.toArray [o] (stE full e) fun S' => Weak E S' (stE full (setE e i))) ∧
      (∀ e, (∀ i, i < l.length → e i = true) → Weak E (stE full e) (Sf full)) ∧ ∀ a w, Rep E (Sf full) a w → Q .normal a w)) : C P E (.region id l.toArray true) S Q := by
  rintro a w ⟨b, hr⟩
  simp only [Bool.and_eq_true] at hb
  obtain ⟨⟨⟨hback, hnd⟩, hsep⟩, hnl⟩ := hb
  have hnl := Nat.le_of_ble_eq_true hnl
  obtain ⟨full, ⟨h1, h2, h3, h4⟩, hI, -, hall⟩ := h.all (show IxS l 0 [] from trivial) (fun j o hj => by
    rw [Nat.zero_add]
    rw [List.getElem?_take] at hj
    split at hj
    · exact hj
    · cases hj)
  have hlen : (l.take n).length = n := by rw [List.length_take]; omega
  rw [hlen, Nat.zero_add] at hI
  have hfl : flags (Array.replicate l.toArray.size false) = fun _ => false := by
    funext i
    simp only [flags, Array.getD_eq_getD_getElem?, Array.getElem?_replicate]
    split <;> rfl
  let base := keepS (dstsOf (l.take n)) S.slots
  let I : (Nat → Bool) → Act → World → Prop := fun e a w => ((∀ k, k < n → e k = true) ∧ Rep E (stE full e) a w) ∨ ((∃ k, k < n ∧ e k = false) ∧ (∀ k, n ≤ k → e k = false) ∧ GI E base S.owns full e a w)
  have enter : ∀ e a w, (∀ k, k < n → e k = true) → (∀ k, n ≤ k → e k = false) → GI E base S.owns full e a w → I e a w := by
    intro e a w hA hB ⟨b, hr, hx⟩
    have he : e = fun k => Nat.blt k n := by
      funext k
      by_cases hk : k < n
      · rw [hA k hk]; exact (Nat.ble_eq_true_of_le hk).symm
      · rw [hB k (by omega)]
        cases hbl : Nat.blt k n with
        | false => rfl
        | true => exact absurd (Nat.le_of_ble_eq_true hbl) (by omega)
    refine .inl ⟨hA, b, ?_⟩
    rw [he]
    refine h1 b a w (GI.weak hr hx fun s x hl => ?_)
    rcases look_app hl with hl | hl
    · obtain ⟨k, hk⟩ := look_allS hl
      exact .inr ⟨k, hA k (hI.mem _ hk).1, hk⟩
    · exact .inl hl
  have start : ∀ a w, RepB E b S a w → I (fun _ => false) a w := by
    intro a w hr
    have hg : GI E base S.owns full (fun _ => false) a w := by
      refine ⟨b, ?_, fun p _ h => by cases h⟩
      exact { size := hr.size, defers := hr.defers, below := hr.below, slots := fun s x hl => hr.slots s x (look_keep hl).2, owns := hr.owns, mine := hr.mine, apart := hr.apart, old := hr.old }
    by_cases h0 : n = 0
    · exact enter _ a w (fun k hk => by omega) (fun _ _ => rfl) hg
    · exact .inr ⟨⟨0, by omega, rfl⟩, fun _ _ => rfl, hg⟩
  refine wp_region_any hm ?_
  refine wpAny_inv (I := I) hback ?_ ?_ l.toArray.size _ a _ (by simp) ?_ ?_ ?_
  · intro i o ho e hd hei hdep a w hIe Q2 hQ2
    rcases hIe with ⟨hA, hrep⟩ | ⟨⟨k0, hk0, hek0⟩, hB, b, hr, hx⟩
    · by_cases hin : i < n
      · rw [hA i hin] at hei; cases hei
      · refine h2 i o (by omega) ho e hd hei hdep a w hrep Q2 fun S' a' w' hw' ⟨b', hr'⟩ => hQ2 a' w' (.inl ⟨fun k hk => by rw [setE_eq]; split; rfl; exact hA k hk, b', hw' b' a' w' hr'⟩)
    · have hin : i < n := by
        by_cases hin : i < n
        · exact hin
        · have := sepB_sound hsep (by omega) ho hd hdep k0 hk0
          rw [this] at hek0; cases hek0
      obtain ⟨d, x, acc', q1, q2, q3, q4, q5⟩ := hall i o (by rw [List.getElem?_take, if_pos hin]; exact ho)
      rw [Nat.zero_add] at q3
      have hdk : d ∈ dstsOf (l.take n) := by
        have h5 : (l.take n)[i]? = some o := by rw [List.getElem?_take, if_pos hin]; exact ho
        exact mem_dsts h5 q1
      refine q5 b a w (GI.weak hr hx fun s x hl => ?_) Q2 fun v w' hw hv => hQ2 _ w' ?_
      · rcases look_app hl with hl | hl
        · obtain ⟨k, hk, hm⟩ := look_pick hl
          exact .inr ⟨k, hdep.at k hk, q4 _ hm⟩
        · exact .inl hl
      · have hr2 : RepB E b ⟨base, S.owns⟩ (a.put o.dst v) w' := by
          have hp := (hr.world hw).put (d := d) (x := x) (v := v) q2 hv
          rw [q1]
          exact { size := hp.size, defers := hp.defers, below := hp.below, slots := fun s y hl => hp.slots s y (by
              rw [look_cons, if_neg]
              · exact hl
              · rintro rfl
                exact (look_keep hl).1 hdk), owns := hp.owns, mine := hp.mine, apart := hp.apart, old := hp.old }
        have hg : GI E base S.owns full (setE e i) (a.put o.dst v) w' := by
          refine ⟨b, hr2, fun p hp hep => ?_⟩
          rw [setE_eq] at hep
          by_cases hpi : p.1 = i
          · have := hI.uniq p hp _ q3 hpi
            subst this
            rw [q1]
            have hsz : d < a.tmps.size := by rw [hr.size]; exact q2
            show R w' _ b x ((a.tmps.setIfInBounds d v).getD d undef)
            rw [getD_set _ _ _ _ hsz, if_pos rfl]
            exact hv
          · rw [if_neg hpi] at hep
            have h6 := hx p hp hep
            obtain ⟨_, o', h7, h8⟩ := hI.mem p hp
            have hne : p.2.1 ≠ d := fun hh => hpi (noDup_at hnd p.1 i o' o d h7 ho (hh ▸ h8) q1)
            have hsz : d < a.tmps.size := by rw [hr.size]; exact q2
            rw [q1]
            show R w' _ b p.2.2 ((a.tmps.setIfInBounds d v).getD p.2.1 undef)
            rw [getD_set _ _ _ _ hsz, if_neg hne]
            exact h6.mono (.of_below hw) (fun _ _ hh => hh)
        by_cases hall' : ∀ k, k < n → setE e i k = true
        · exact enter _ _ _ hall' (fun k hk => by rw [setE_eq, if_neg (by omega)]; exact hB k hk) hg
        · refine .inr ⟨?_, fun k hk => by rw [setE_eq, if_neg (by omega)]; exact hB k hk, hg⟩
          obtain ⟨k, hk⟩ := Classical.not_forall.1 hall'
          obtain ⟨hk1, hk2⟩ := Classical.not_imp.1 hk
          exact ⟨k, hk1, by simpa using hk2⟩
  · intro e he a w hIe
    rcases hIe with ⟨_, b, hr⟩ | ⟨⟨k, hk, hek⟩, _⟩
    · exact h4 a w ⟨b, h3 e he b a w hr⟩
    · rw [he k (by omega)] at hek; cases hek
  · simp only [leftN]
    refine Nat.le_trans List.countP_le_length ?_
    simp
  · rw [hfl]
    intro k hk
    cases hk
  · rw [hfl]
    exact start a _ (hr.world (below_drew w))
/-- A region that draws its order and only reads, or lays new blocks. -/
theorem c_rg0 {id : Nat} {l : List Oper} {S : St} {Q : Exit → Act → World → Prop} (hm : P.follows .mixedOrders = true) (hb : (backB 0 l && noDup (dstsOf l)) = true)
    (h : Gs P E l (keepS (dstsOf l) S.slots) S.owns [] 0 l fun full => ∀ a w, Rep E ⟨allS full ++ keepS (dstsOf l) S.slots, S.owns⟩ a w → Q .normal a w) : C P E (.region id l.toArray true) S Q := by
  have ht : l.take l.length = l := List.take_length
  refine c_rs l.length (fun full _ => ⟨allS full ++ keepS (dstsOf l) S.slots, S.owns⟩) (fun full => ⟨allS full ++ keepS (dstsOf l) S.slots, S.owns⟩) hm ?_ ?_
  · rw [hb, Bool.true_and, Bool.and_eq_true]
    refine ⟨?_, Nat.ble_eq_true_of_le (Nat.le_refl _)⟩
    simp [sepB]
  · rw [ht]
    have : ∀ {r : List Oper} {acc : List (Nat × Nat × SV)} {i : Nat} {base : List (Nat × SV)} {ow : List (Nat × Own)} {K K2 : List (Nat × Nat × SV) → Prop}, (∀ f, K f → K2 f) → Gs P E l base ow acc i r K → Gs P E l base ow acc i r K2 := by
      intro r
      induction r with
      | nil => intro acc i base ow K K2 hk h; exact hk _ h
      | cons o r ih => intro acc i base ow K K2 hk ⟨d, x, q1, q2, q3, q4⟩; exact ⟨d, x, q1, q2, q3, ih hk q4⟩
    refine this (fun full hk => ⟨fun b a w hr => hr, fun i o hi ho => absurd (List.getElem?_eq_some_iff.1 ho).1 (by omega), fun _ _ b a w hr => hr, hk⟩) h
theorem c_rg {id : Nat} {l : List Oper} {S : St} {Q : Exit → Act → World → Prop} (ds : List Nat) (hm : P.follows .mixedOrders = true) (hb : (backB 0 l && noDup (dstsOf l)) = true) (hds : dstsOf l = ds)
    (h : Gs P E l (keepS ds S.slots) S.owns [] 0 l fun full => ∀ a w, Rep E ⟨allS full ++ keepS ds S.slots, S.owns⟩ a w → Q .normal a w) : C P E (.region id l.toArray true) S Q := by
  subst hds
  exact c_rg0 hm hb h
end Go.Eng

namespace Go.Eng
open Go.RowKit
variable {P : Program} {NN : Nat} {E : Env NN}
theorem mod_row {i k t : Nat} (h : t < k) : (i * k + t) % k = t := by
  rw [Nat.mul_comm, Nat.mul_add_mod]; exact Nat.mod_eq_of_lt h
/-- 'make([]T, n)': a slice of the frame's own. -/
theorem t_make {α : Type} {cell : α → Nat → SV} {dd : α} {ops : Array Oper} {rest : List Oper} {S : St} {K : St → Prop} {d : Tmp} {t e : TypeId} {n k bytes : Nat} {x y : Operand} {ty : TypeId} {pos : String} {after : Array Edge} {zget : Nat → SV} (j : Nat) (z0 : α)
    (he : ElemOk P t e k bytes) (hz : ZeroOk P e k zget) (hx : Val E S x (.v (.int .i64 (n : Int)))) (hy : Val E S y (.v (.int .i64 (n : Int)))) (hn : n * bytes ≤ 281474976710656 ∧ n ≤ 9223372036854775807) (hi : AllN (fun t => ImpO (zget t) (cell z0 t)) k) (hf : S.fresh j = true)
    (hk : T P E ops rest ⟨(d, .own j) :: S.slots, (j, ownOf cell k dd (List.replicate n z0) e) :: S.owns⟩ K) (hd : d < NN := by decide) :
    T P E ops ({ dst := some d, op := .makeSlice t x y, type := ty, pos, after, guard := none } :: rest) S K := by
  rintro a w ⟨b, hr⟩ Q hq
  obtain ⟨ht, ⟨i, z, h1, h2, h3, h4, h5⟩, hk0⟩ := he
  obtain ⟨z', hz1, hz2, hz3⟩ := hz
  have hzz : z' = z := by
    have := hz1 w
    simp [zeroValue, typeInfo, h1, h2] at this
    exact this.symm
  subst hzz
  have vx : a.eval x = .int .i64 (n : Int) := hx b a w hr
  have vy : a.eval y = .int .i64 (n : Int) := hy b a w hr
  have hrun := run_make (P := P) w t e i z' ht h1 h2 .i64 .i64 (n : Int) (n : Int) (by omega) (Int.le_refl _) (by have := hn.1; rw [h4, ← Int.natCast_mul, Nat.mul_comm]; omega) (by have := hn.2; omega)
  simp only [Int.toNat_natCast] at hrun
  unfold wpList
  rw [if_pos (by rfl)]
  refine .inl (wp_of_run (w' := w.alloc (.cells (madeCells z'.cells (n * i.size)) e)) (v := .slice (some ⟨w.heap.size, 0, none⟩) n n) ?_ ?_)
  · simp only [execOp, vx, vy, Sem.run_bind, hrun]
    rfl
  · cases n with
    | zero =>
      refine hk _ _ ⟨_, ((hr.world (below_alloc w _)).newown (k := k) (get := rowG cell dd (List.replicate 0 z0)) (e := e) (A := some ⟨w.heap.size, 0, none⟩) hf).put (x := .own j) hd (own_val rfl)⟩ Q hq
    | succ n' =>
      have hy : ∀ g, Bk (.slice (some ⟨w.heap.size, 0, none⟩) (n' + 1) (n' + 1)) g → w.heap.size ≤ g := fun g hg => by
        have hg : some w.heap.size = some g := hg
        injection hg with hg; omega
      have hsz := size_madeCells z'.cells ((n' + 1) * i.size)
      rw [h3] at hsz
      have hadd := hr.add (below_alloc w (.cells (madeCells z'.cells ((n' + 1) * i.size)) e)) hf (o := ownOf cell k dd (List.replicate (n' + 1) z0) e) (y := .slice (some ⟨w.heap.size, 0, none⟩) (n' + 1) (n' + 1)) hy fun X' _ _ hRO => by
        have hlen : (List.replicate (n' + 1) z0).length = n' + 1 := List.length_replicate
        refine ⟨(madeCells z'.cells ((n' + 1) * i.size)).toList, .inr ⟨?_, w.heap.size, n' + 1, n', by rw [setB_same]⟩, fun q hq t ht => ?_⟩
        · rw [hlen]
          refine ⟨by rw [Array.length_toList, h3, hsz], .inr ⟨w.heap.size, n' + 1, _, by rw [setB_same], hr.base_le, heap_alloc_new w _, Nat.le_refl _, hn.2, by rw [h3]; exact hsz, ?_⟩⟩
          rw [List.take_of_length_le]; rw [Array.length_toList, h3, hsz]; exact Nat.le_refl _
        · rw [hlen] at hq
          obtain ⟨u, hu, h6, h7⟩ := hz3 t ht
          have hqk : q * k + t < (n' + 1) * k := by
            have : q * k + k ≤ (n' + 1) * k := by rw [← Nat.succ_mul]; exact Nat.mul_le_mul_right _ (by omega)
            omega
          have hlt : t < z'.cells.size := by rw [h5]; exact ht
          refine ⟨u, ?_, h6, ?_⟩
          · rw [Array.getElem?_toList, h3]
            simp only [madeCells, Array.getElem?_map, Array.getElem?_range, hqk, if_pos, Option.map_some, h5, mod_row ht]
            rw [Array.getElem?_eq_getElem hlt] at hu
            rw [getElem!_pos z'.cells t hlt]
            exact hu
          · have e : rowG cell dd (List.replicate (n' + 1) z0) q t = cell z0 t := by
              simp only [rowG, List.getD_eq_getElem?_getD, List.getElem?_replicate, if_pos hq, Option.getD_some]
            rw [e]
            exact (hi.at t ht) _ _ _ (h7 _ _)
      exact hk _ _ ⟨_, hadd.put (x := .own j) hd (own_val rfl)⟩ Q hq
end Go.Eng

namespace Go.Eng
open Go.RowKit
variable {P : Program} {NN : Nat} {E : Env NN}
/-! Parts of a slice of the frame's own: cut, cleared, copied over. -/
theorem q_slOL {S : St} {x lo : Operand} {t : TypeId} {j n k : Nat} {get : Nat → Nat → SV} {e : TypeId} {l : Int} (ht : P.underlying t = some (.slice (P.elem t))) (hs : ∀ w, (sizeOf (P.elem t)).run P w = .ok k w) (hx : Val E S x (.own j)) (ho : lookO j S.owns = some (.arow n k get e))
    (hlo : Val E S lo (.v (.int .i64 l))) (h1 : 0 ≤ l) (h2 : l ≤ n) : OpQ P E S (.slice t x (some lo) none none) (.sub j k l.toNat (n - l.toNat)) := fun b a w hr dst ty pos after gd => by
  have hv : a.eval x = hdv (b j) := hx b a w hr
  obtain ⟨xs, hown, _⟩ := hr.owns j _ ho
  obtain ⟨A, c, hb, hn, _⟩ := hown.slice
  have hbd : hdv (b j) = .slice A n c := by rw [hb]; rfl
  have hl : a.eval lo = .int .i64 l := hlo b a w hr
  refine ⟨.slice (if c = l.toNat then A else A.map (·.add (l.toNat * k))) (n - l.toNat) (c - l.toNat), fun w' hw' => ?_, A, n, c, hbd, by omega, ?_⟩
  · have h3 := run_slice_l (P := P) w' t A n c ht .i64 l h1 (by omega)
    simp only [execOp, Option.map_none, Option.map_some, hl, hv, hbd, Sem.run_bind, run_sliceAt_slice w' t _ _ _ _ ht, h3, hs, Result.andThen_ok]
    simp [sliced]
  · by_cases h0 : l.toNat = 0
    · rw [h0, if_pos rfl]
      split
      · rfl
      · cases A <;> simp [Addr.add_zero']
    · rw [if_neg h0]
theorem q_slOH {S : St} {x hi : Operand} {t : TypeId} {j n k : Nat} {get : Nat → Nat → SV} {e : TypeId} {h : Int} (ht : P.underlying t = some (.slice (P.elem t))) (hs : ∀ w, (sizeOf (P.elem t)).run P w = .ok k w) (hx : Val E S x (.own j)) (ho : lookO j S.owns = some (.arow n k get e))
    (hhi : Val E S hi (.v (.int .i64 h))) (h1 : 0 ≤ h) (h2 : h ≤ n) : OpQ P E S (.slice t x none (some hi) none) (.sub j k 0 h.toNat) := fun b a w hr dst ty pos after gd => by
  have hv : a.eval x = hdv (b j) := hx b a w hr
  obtain ⟨xs, hown, _⟩ := hr.owns j _ ho
  obtain ⟨A, c, hb, hn, _⟩ := hown.slice
  have hbd : hdv (b j) = .slice A n c := by rw [hb]; rfl
  have hh : a.eval hi = .int .i64 h := hhi b a w hr
  refine ⟨.slice A h.toNat c, fun w' hw' => ?_, A, n, c, hbd, by omega, by rw [if_pos rfl, Nat.sub_zero]⟩
  have h3 := run_slice_h (P := P) w' t A n c ht .i64 h h1 (by omega)
  simp only [execOp, Option.map_none, Option.map_some, hh, hv, hbd, Sem.run_bind, run_sliceAt_slice w' t _ _ _ _ ht, h3, hs, Result.andThen_ok]
  cases A <;> simp [sliced, Addr.add_zero']
/-- What a part that has cells is. -/
theorem sub_at {S : St} {b : Nat → Value} {a : Act} {w : World} (hr : RepB E b S a w) {x : Operand} {j k lo m n : Nat} {get : Nat → Nat → SV} {e : TypeId} (hx : Val E S x (.sub j k lo m)) (ho : lookO j S.owns = some (.arow n k get e)) (hm : 0 < m) :
    lo + m ≤ n ∧ ∃ g c, b j = .slice (some ⟨g, 0, none⟩) n (c + 1) ∧ a.eval x = .slice (some ⟨g, lo * k, none⟩) m (c + 1 - lo) := by
  obtain ⟨A, n', c, hb, hle, hv⟩ := hx b a w hr
  obtain ⟨xs, hown, _⟩ := hr.owns j _ ho
  obtain ⟨A', c', hb', hn', _⟩ := hown.slice
  rw [hb'] at hb
  simp only [hdv, Value.slice.injEq] at hb
  obtain ⟨rfl, rfl, rfl⟩ := hb
  obtain ⟨g, c2, cur, hb2, _, _, hcap, _⟩ := own_cells hr ho (by omega)
  rw [hb'] at hb2
  simp only [Value.slice.injEq, true_and] at hb2
  obtain ⟨rfl, rfl⟩ := hb2
  refine ⟨hle, g, c2, hb', ?_⟩
  rw [hv]
  by_cases h0 : lo = 0
  · subst h0; simp
  · rw [if_neg h0, if_neg (by omega)]; simp [Addr.add_lit]
/-- Some elements of an own slice, written over. -/
theorem own_write {S : St} {b : Nat → Value} {a : Act} {w : World} (hr : RepB E b S a w) {j n k : Nat} {get : Nat → Nat → SV} {e : TypeId} (ho : lookO j S.owns = some (.arow n k get e)) (lo m : Nat) (hm : 0 < m) (hlo : lo + m ≤ n) (hk : 0 < k) (vs : List Value) (hvl : vs.length = m * k)
    (gt get' : Nat → Nat → SV) (hvs : ∀ i, i < m → ∀ t, t < k → ∃ u, vs[i * k + t]? = some u ∧ u.oneCell' = true ∧ RO w (S.excl E b) (gt i t) u) (hg' : ∀ i, i < n → ∀ t, t < k → get' i t = if lo ≤ i ∧ i < lo + m then gt (i - lo) t else get i t) {g c : Nat} (hb : b j = .slice (some ⟨g, 0, none⟩) n (c + 1)) :
    ∃ w', (storeCells ⟨g, lo * k, none⟩ vs 0).run P w = .ok () w' ∧ RepB E b ⟨S.slots, (j, .arow n k get' e) :: S.owns⟩ a w' := by
  obtain ⟨g', c', cur, hb2, hbase, hh, hcap, hmax, hsz, hc⟩ := own_cells hr ho (by omega)
  have hb3 := hb2
  rw [hb] at hb2
  simp only [Value.slice.injEq, Option.some.injEq, Addr.mk.injEq, true_and, and_true, Nat.add_right_cancel_iff] at hb2
  obtain ⟨rfl, rfl⟩ := hb2
  have hdiv : ∀ q r, r < k → (q * k + r) / k = q := fun q r hr => by rw [Nat.mul_comm, Nat.mul_add_div (by omega), Nat.div_eq_of_lt hr, Nat.add_zero]
  have hmod : ∀ q r, r < k → (q * k + r) % k = r := fun q r hr => by rw [Nat.mul_comm, Nat.mul_add_mod]; exact Nat.mod_eq_of_lt hr
  have h1 : ∀ v ∈ vs, v.oneCell' = true := by
    intro v hv
    obtain ⟨q, hq, rfl⟩ := List.getElem_of_mem hv
    have hqk := Nat.div_add_mod q k
    have hqm : q / k < m := by rw [Nat.div_lt_iff_lt_mul hk]; omega
    obtain ⟨u, hu, h2, _⟩ := hvs (q / k) hqm (q % k) (Nat.mod_lt _ hk)
    rw [Nat.mul_comm, hqk, List.getElem?_eq_getElem hq] at hu
    simp only [Option.some.injEq] at hu
    rw [hu]; exact h2
  have hnk : n * k ≤ cur.size := by rw [hsz]; exact Nat.mul_le_mul_right _ hcap
  have hlm : (lo + m) * k ≤ n * k := Nat.mul_le_mul_right _ hlo
  rw [Nat.add_mul] at hlm
  obtain ⟨w', cs', hrun, h2, h3, h4, h5, h6⟩ := setRow_all (P := P) hh vs (lo * k) (by rw [hvl]; omega) h1
  refine ⟨w', ?_, ?_⟩
  · have e1 := storeCells_at g (lo * k) vs 0
    rw [Nat.add_zero] at e1
    rw [e1]; exact hrun
  · refine hr.setown ho (by rw [hb3]; exact rfl) h5 h6 (fun X hmm hmo => ?_)
    refine ⟨cs'.toList.take (n * k), .inr ⟨⟨?_, .inr ⟨g, c + 1, _, hb3, hbase, h2, hcap, hmax, by rw [h3]; exact hsz, rfl⟩⟩, g, n, c, hb3⟩, fun i' hi' t ht => ?_⟩
    · simp; omega
    · have hlt : i' * k + t < n * k := by
        have : (i' + 1) * k ≤ n * k := Nat.mul_le_mul_right _ hi'
        rw [Nat.add_mul, Nat.one_mul] at this
        omega
      rw [List.getElem?_take, if_pos hlt, Array.getElem?_toList, h4, hg' i' hi' t ht]
      have hiff : (lo * k ≤ i' * k + t ∧ i' * k + t < lo * k + vs.length) ↔ (lo ≤ i' ∧ i' < lo + m) := by
        rw [hvl]
        constructor
        · rintro ⟨q1, q2⟩
          have e1 : (lo * k) / k ≤ (i' * k + t) / k := Nat.div_le_div_right q1
          rw [hdiv i' t ht, Nat.mul_div_cancel _ hk] at e1
          refine ⟨e1, ?_⟩
          have e2 : i' * k + t < (lo + m) * k := by rw [Nat.add_mul]; exact q2
          have e3 := Nat.div_lt_of_lt_mul (show i' * k + t < k * (lo + m) from Nat.lt_of_lt_of_eq e2 (Nat.mul_comm _ _))
          rwa [hdiv i' t ht] at e3
        · rintro ⟨q1, q2⟩
          have e1 : lo * k ≤ i' * k := Nat.mul_le_mul_right _ q1
          have e2 : (i' + 1) * k ≤ (lo + m) * k := Nat.mul_le_mul_right _ q2
          rw [Nat.add_mul, Nat.add_mul, Nat.one_mul] at e2
          omega
      by_cases q : lo ≤ i' ∧ i' < lo + m
      · rw [if_pos (hiff.2 q), if_pos q]
        obtain ⟨u, hu, h7, h8⟩ := hvs (i' - lo) (by omega) t ht
        refine ⟨u, ?_, h7, hmo h8⟩
        have e2 : i' * k + t - lo * k = (i' - lo) * k + t := by
          have : lo * k ≤ i' * k := Nat.mul_le_mul_right _ q.1
          rw [Nat.sub_mul]; omega
        rw [e2]; exact hu
      · rw [if_neg (fun h => q (hiff.1 h)), if_neg q]
        obtain ⟨u, hu, h7, h8⟩ := hc i' hi' t ht
        exact ⟨u, hu, h7, hmo h8⟩

/-- 'clear(s[lo:])' -/
theorem t_clr {ops : Array Oper} {rest : List Oper} {S : St} {K : St → Prop} {t te : TypeId} {x : Operand} {ty : TypeId} {pos : String} {after : Array Edge} {j n k lo m : Nat} {get : Nat → Nat → SV} {e : TypeId} {zget : Nat → SV} (get' : Nat → Nat → SV)
    (ht : P.underlying t = some (.slice te)) (hz : ZeroOk P te k zget) (hx : Val E S x (.sub j k lo m)) (ho : lookO j S.owns = some (.arow n k get e)) (hkp : 0 < k) (hg' : ∀ i, i < n → ∀ t, t < k → if lo ≤ i ∧ i < lo + m then ImpO (zget t) (get' i t) else get' i t = get i t)
    (hk : T P E ops rest ⟨S.slots, (j, .arow n k get' e) :: S.owns⟩ K) :
    T P E ops ({ dst := none, op := .call { callee := .builtin .clear, args := #[x], argTypes := #[t] }, type := ty, pos, after, guard := none } :: rest) S K := by
  rintro a w ⟨b, hr⟩ Q hq
  obtain ⟨z, hz1, hz2, hz3⟩ := hz
  unfold wpList
  rw [if_pos (by rfl)]
  by_cases hm : m = 0
  · subst hm
    obtain ⟨A, n', c, hb, _, hv⟩ := hx b a w hr
    refine .inl (wp_of_run (w' := w) (v := .tuple #[]) ?_ ?_)
    · simp only [execOp, resolve, invoke, builtin, Sem.run_bind, Sem.run_pure, Result.andThen_ok, List.map_toArray, List.map_cons, List.map_nil, hv]
      generalize (if lo = 0 then A else if c = lo then A else A.map (·.add (lo * k))) = B
      cases B <;> simp [Builtin.clear_, run_underlying ht]
    · have : a.put none (.tuple #[]) = a := rfl
      rw [this]
      refine hk _ _ ⟨b, ?_⟩ Q hq
      have hw : Weak E S ⟨S.slots, (j, .arow n k get' e) :: S.owns⟩ := weak_own ho rfl fun i hi t ht => by
        have := hg' i hi t ht
        rw [if_neg (by omega)] at this
        exact this.symm
      exact hw b a w hr
  · obtain ⟨hle, g, c, hb, hv⟩ := sub_at hr hx ho (by omega)
    have hzl : (Builtin.zeroCells z.cells m).toList.length = m * k := by simp [Builtin.zeroCells, hz2]
    have hget : ∀ i, i < m → ∀ t, t < k → ∃ u, (Builtin.zeroCells z.cells m).toList[i * k + t]? = some u ∧ u.oneCell' = true ∧ RO w (S.excl E b) (get' (lo + i) t) u := fun i hi t ht => by
      obtain ⟨u, hu, h6, h7⟩ := hz3 t ht
      have hqk : i * k + t < m * k := by
        have : (i + 1) * k ≤ m * k := Nat.mul_le_mul_right _ hi
        rw [Nat.add_mul, Nat.one_mul] at this
        omega
      refine ⟨u, ?_, h6, ?_⟩
      · rw [Array.getElem?_toList]
        have hlt : t < z.cells.size := by rw [hz2]; exact ht
        rw [Array.getElem?_eq_getElem hlt] at hu
        simp only [Builtin.zeroCells, hz2, Array.getElem?_map, Array.getElem?_range, hqk, if_pos, Option.map_some, mod_row ht]
        rw [getElem!_pos z.cells t hlt]
        exact hu
      · have := hg' (lo + i) (by omega) t ht
        rw [if_pos (by omega)] at this
        exact this _ _ _ (h7 _ _)
    obtain ⟨w', hst, hr'⟩ := own_write (P := P) hr ho lo m (by omega) hle hkp _ hzl (fun i t => get' (lo + i) t) get' hget (fun i hi t ht => by
      by_cases q : lo ≤ i ∧ i < lo + m
      · rw [if_pos q, show lo + (i - lo) = i by omega]
      · rw [if_neg q]
        have := hg' i hi t ht
        rwa [if_neg q] at this) hb
    refine .inl (wp_of_run (w' := w') (v := .tuple #[]) ?_ ?_)
    · obtain ⟨m', rfl⟩ : ∃ m', m = m' + 1 := ⟨m - 1, by omega⟩
      simp [execOp, resolve, invoke, builtin, hv, Builtin.clear_, run_underlying ht, hz1, hst]
    · exact hk _ _ ⟨b, hr'⟩ Q hq
/-- 's[:i]' of one's own is one's own. -/
theorem turn_cut (s j j' i : Nat) (get' : Nat → Nat → SV) {S : St} {n k : Nat} {get : Nat → Nat → SV} {e : TypeId} (hg' : ∀ q, q < i → ∀ t, t < k → get' q t = get q t) (hs : look s S.slots = some (.sub j k 0 i)) (ho : lookO j S.owns = some (.arow n k get e)) (hf : S.fresh j' = true) (hsN : s < NN) :
    Turn E S ⟨(s, .own j') :: killS j S.slots, (j', .arow i k get' e) :: killO j S.owns⟩ := fun b a w hr => by
  obtain ⟨A, n', c, hb, hle, hv⟩ := hr.slots s _ hs
  have hown0 := hr.owns j _ ho
  obtain ⟨xs, hown, hc⟩ := hown0
  obtain ⟨A', c', hb', hn', hmx⟩ := hown.slice
  rw [hb'] at hb
  simp only [hdv, Value.slice.injEq] at hb
  obtain ⟨rfl, rfl, rfl⟩ := hb
  rw [if_pos rfl, Nat.sub_zero] at hv
  have hnew : ownsR w E.base e k (.slice A' i c') i (xs.take (i * k)) := by
    rcases hown with ⟨A, h1, h2, h3⟩ | ⟨⟨hl, h1⟩, g, m, c2, h2⟩
    · rw [hb'] at h1
      simp only [Value.slice.injEq] at h1
      obtain ⟨rfl, rfl, rfl⟩ := h1
      have : i = 0 := by omega
      subst this
      exact .inl ⟨A', rfl, rfl, by simp⟩
    · rcases h1 with ⟨h1, _⟩ | ⟨g', cap, cur, h1, h3, h4, h5, h6, h7, h8⟩
      · rw [h1] at h2; cases h2
      · rw [hb'] at h1 h2
        simp only [Value.slice.injEq] at h1 h2
        obtain ⟨rfl, _, rfl⟩ := h1
        obtain ⟨h21, h22, h23⟩ := h2
        have hik : i * k ≤ n * k := Nat.mul_le_mul_right _ (by omega)
        refine .inr ⟨⟨by rw [List.length_take]; omega, .inr ⟨g', c', cur, rfl, h3, h4, by omega, h6, h7, ?_⟩⟩, g', i, c2, by rw [h23]⟩
        rw [← h8, List.take_take, Nat.min_eq_left hik]
  have hrg := hr.regrow (j' := j') (n' := i) (get' := get') (v' := .slice A' i c') (xs := xs.take (i * k)) ho hf ⟨rfl, rfl, rfl, Nat.le_refl _⟩ (fun _ _ _ => rfl) (fun g hg => .inl (by
      rw [hb']
      cases A' with
      | none => cases hg
      | some p => cases c' with
        | zero => cases hg
        | succ c'' => exact hg)) hnew (fun q hq t ht => by
    obtain ⟨u, hu, h1, h2⟩ := hc q (by omega) t ht
    refine ⟨u, ?_, h1, by rw [hg' q hq t ht]; exact h2⟩
    have : q * k + t < i * k := by
      have : (q + 1) * k ≤ i * k := Nat.mul_le_mul_right _ hq
      rw [Nat.add_mul, Nat.one_mul] at this
      omega
    rw [List.getElem?_take, if_pos this]; exact hu)
  have hput := hrg.put (d := s) (x := .own j') (v := a.tmps.getD s undef) hsN (by
    show _ = hdv (setB b j' _ j')
    rw [setB_same, hv]; rfl)
  have hact : a.put (some s) (a.tmps.getD s undef) = a := by
    show { a with tmps := a.tmps.setIfInBounds s (a.tmps.getD s undef) } = a
    have : a.tmps.setIfInBounds s (a.tmps.getD s undef) = a.tmps := by
      apply Array.ext
      · simp
      · intro q h1 h2
        rw [Array.getElem_setIfInBounds h2]
        split
        · rename_i e; subst e; simp [Array.getD, h2]
        · rfl
    rw [this]
  rw [hact] at hput
  exact ⟨_, hput⟩
end Go.Eng

namespace Go.Eng
open Go.RowKit
variable {P : Program} {NN : Nat} {E : Env NN}
/-! 'copy' into a slice of the frame's own. -/
theorem run_copyK {w w' : World} {dT sT ty elem : TypeId} {k : Nat} (hu : P.underlying dT = some (.slice elem)) (hs : ∀ w, (sizeOf elem).run P w = .ok k w) {db sA : Addr} {dLen dCap sLen sCap : Nat} {cs : List Value} (hn : cs.length = Nat.min sLen dLen * k)
    (hsrc : ∀ j v, cs[j]? = some v → w.cell? (sA.add j) = some v) (hst : (storeCells db cs 0).run P w = .ok () w') :
    (Builtin.copy_ #[dT, sT] ty #[.slice (some db) dLen dCap, .slice (some sA) sLen sCap]).run P w = .ok (goInt (Nat.min sLen dLen)) w' := by
  have hl := run_loadCells_list (P := P) w sA cs hsrc
  rw [hn] at hl
  simp [Builtin.copy_, run_underlying hu, Builtin.lenOf, Builtin.firstCells, hs, hl, hst]
theorem run_copy0 {w : World} {dT sT ty elem : TypeId} {k : Nat} (hu : P.underlying dT = some (.slice elem)) (hs : ∀ w, (sizeOf elem).run P w = .ok k w) {db sA : Option Addr} {dLen dCap sLen sCap : Nat} (hn : Nat.min sLen dLen = 0) :
    (Builtin.copy_ #[dT, sT] ty #[.slice db dLen dCap, .slice sA sLen sCap]).run P w = .ok (goInt 0) w := by
  cases sA with
  | none => cases db <;> simp [Builtin.copy_, run_underlying hu, Builtin.lenOf, Builtin.firstCells, hs, hn, storeCells]
  | some q =>
    have hl := run_loadCells_list (P := P) w q [] (fun j v h => by simp at h)
    simp only [List.length_nil] at hl
    cases db <;> simp [Builtin.copy_, run_underlying hu, Builtin.lenOf, Builtin.firstCells, hs, hn, hl, storeCells]
theorem val_sub {S : St} {x : Operand} {j n k : Nat} {get : Nat → Nat → SV} {e : TypeId} (hx : Val E S x (.own j)) (ho : lookO j S.owns = some (.arow n k get e)) : Val E S x (.sub j k 0 n) := fun b a w hr => by
  obtain ⟨xs, hown, _⟩ := hr.owns j _ ho
  obtain ⟨A, c, hb, _⟩ := hown.slice
  refine ⟨A, n, c, by rw [hb]; rfl, by omega, ?_⟩
  rw [if_pos rfl, Nat.sub_zero, show a.eval x = hdv (b j) from hx b a w hr, hb]; rfl
theorem goInt_nat (n : Nat) : goInt n = .int .i64 (n : Int) := rfl
/-- Cells of elements one after the other. -/
theorem rows_list {k : Nat} (hk : 0 < k) (m : Nat) (f : Nat → Nat → Value) : ∃ cs : List Value, cs.length = m * k ∧ (∀ i, i < m → ∀ t, t < k → cs[i * k + t]? = some (f i t)) ∧ ∀ j v, cs[j]? = some v → j < m * k ∧ v = f (j / k) (j % k) := by
  refine ⟨(List.range (m * k)).map fun j => f (j / k) (j % k), by simp, fun i hi t ht => ?_, fun j v hv => ?_⟩
  · have hlt : i * k + t < m * k := by
      have : (i + 1) * k ≤ m * k := Nat.mul_le_mul_right _ hi
      rw [Nat.add_mul, Nat.one_mul] at this
      omega
    have hdiv : (i * k + t) / k = i := by rw [Nat.mul_comm, Nat.mul_add_div hk, Nat.div_eq_of_lt ht, Nat.add_zero]
    have hmod : (i * k + t) % k = t := mod_row ht
    simp [hlt, hdiv, hmod]
  · rw [List.getElem?_map] at hv
    cases h : (List.range (m * k))[j]? with
    | none => rw [h] at hv; cases hv
    | some q =>
      rw [h] at hv
      obtain ⟨h1, h2⟩ := List.getElem?_eq_some_iff.1 h
      simp only [List.length_range] at h1
      simp only [List.getElem_range] at h2
      subst h2
      simp only [Option.map_some, Option.some.injEq] at hv
      exact ⟨h1, hv.symm⟩
/-- 'copy(d, s)', s a row. -/
theorem t_cpR {ops : Array Oper} {rest : List Oper} {S : St} {K : St → Prop} {d : Tmp} {t t2 te : TypeId} {x y : Operand} {ty : TypeId} {pos : String} {after : Array Edge} {j n n2 k lo m : Nat} {get get2 : Nat → Nat → SV} {e : TypeId} (get' : Nat → Nat → SV)
    (ht : P.underlying t = some (.slice te)) (hs : ∀ w, (sizeOf te).run P w = .ok k w) (hx : Val E S x (.sub j k lo m)) (ho : lookO j S.owns = some (.arow n k get e)) (hy : Val E S y (.row n2 k get2)) (hkp : 0 < k)
    (hg' : ∀ i, i < n → ∀ t, t < k → get' i t = if lo ≤ i ∧ i < lo + Nat.min n2 m then get2 (i - lo) t else get i t)
    (hk : T P E ops rest ⟨(d, .v (.int .i64 ((Nat.min n2 m : Nat) : Int))) :: S.slots, (j, .arow n k get' e) :: S.owns⟩ K) (hd : d < NN := by decide) :
    T P E ops ({ dst := some d, op := .call { callee := .builtin .copy, args := #[x, y], argTypes := #[t, t2] }, type := ty, pos, after, guard := none } :: rest) S K := by
  rintro a w ⟨b, hr⟩ Q hq
  obtain ⟨A2, c2, hv2, _, _, hrow⟩ := hy b a w hr
  unfold wpList
  rw [if_pos (by rfl)]
  by_cases hm : Nat.min n2 m = 0
  · obtain ⟨A, n', c, hb, _, hv⟩ := hx b a w hr
    refine .inl (wp_of_run (w' := w) (v := goInt 0) ?_ ?_)
    · simp only [execOp, resolve, invoke, builtin, Sem.run_bind, Sem.run_pure, Result.andThen_ok, List.map_toArray, List.map_cons, List.map_nil, hv, hv2]
      rw [run_copy0 ht hs hm]; rfl
    · have hw : Weak E S ⟨S.slots, (j, .arow n k get' e) :: S.owns⟩ := weak_own ho rfl fun i hi t ht => by
        rw [hg' i hi t ht, if_neg (by omega)]
      have h1 := (hw b a w hr).put (d := d) (x := .v (.int .i64 ((Nat.min n2 m : Nat) : Int))) (v := goInt 0) hd (by rw [hm]; rfl)
      exact hk _ _ ⟨b, h1⟩ Q hq
  · have hm2 : 0 < n2 ∧ 0 < m := by simp only [Nat.min_def] at hm; split at hm <;> omega
    have hle2 : Nat.min n2 m ≤ n2 := Nat.min_le_left _ _
    have hlem : Nat.min n2 m ≤ m := Nat.min_le_right _ _
    obtain ⟨hle, g, c, hb, hv⟩ := sub_at hr hx ho hm2.2
    obtain ⟨b2, o2, hA2, hb2, hX2, hcell⟩ := hrow hm2.1
    let f : Nat → Nat → Value := fun i t => (w.cell? ⟨b2, o2 + (i * k + t), none⟩).getD undef
    have hf : ∀ i, i < n2 → ∀ t, t < k → w.cell? ⟨b2, o2 + (i * k + t), none⟩ = some (f i t) ∧ (f i t).oneCell' = true ∧ RO w (S.excl E b) (get2 i t) (f i t) := fun i hi t ht => by
      obtain ⟨u, hu, h1, h2⟩ := hcell i hi t ht
      have ef : f i t = u := by simp only [f, hu, Option.getD_some]
      rw [ef]; exact ⟨hu, h1, h2⟩
    obtain ⟨cs, hl, hcs, hcs2⟩ := rows_list hkp (Nat.min n2 m) f
    obtain ⟨w', hst, hr'⟩ := own_write (P := P) hr ho lo (Nat.min n2 m) (by omega) (by omega) hkp cs hl get2 get' (fun i hi t ht => ⟨_, hcs i hi t ht, (hf i (by omega) t ht).2.1, (hf i (by omega) t ht).2.2⟩) hg' hb
    refine .inl (wp_of_run (w' := w') (v := goInt (Nat.min n2 m)) ?_ ?_)
    · simp only [execOp, resolve, invoke, builtin, Sem.run_bind, Sem.run_pure, Result.andThen_ok, List.map_toArray, List.map_cons, List.map_nil, hv, hv2, hA2]
      rw [run_copyK ht hs hl (fun q v hqv => ?_) hst]
      · rfl
      · obtain ⟨h1, rfl⟩ := hcs2 q v hqv
        have h2 := (hf (q / k) (Nat.lt_of_lt_of_le (by rw [Nat.div_lt_iff_lt_mul hkp]; exact h1) hle2) (q % k) (Nat.mod_lt _ hkp)).1
        rw [Nat.mul_comm, Nat.div_add_mod] at h2
        rw [Addr.add_lit]; exact h2
    · have h1 := hr'.put (d := d) (x := .v (.int .i64 ((Nat.min n2 m : Nat) : Int))) (v := goInt (Nat.min n2 m)) hd rfl
      exact hk _ _ ⟨b, h1⟩ Q hq
/-- 'copy(d, s)', both parts of one slice. -/
theorem t_cpS {ops : Array Oper} {rest : List Oper} {S : St} {K : St → Prop} {d : Tmp} {t t2 te : TypeId} {x y : Operand} {ty : TypeId} {pos : String} {after : Array Edge} {j n k lo m lo2 m2 : Nat} {get : Nat → Nat → SV} {e : TypeId} (get' : Nat → Nat → SV)
    (ht : P.underlying t = some (.slice te)) (hs : ∀ w, (sizeOf te).run P w = .ok k w) (hx : Val E S x (.sub j k lo m)) (ho : lookO j S.owns = some (.arow n k get e)) (hy : Val E S y (.sub j k lo2 m2)) (hkp : 0 < k)
    (hg' : ∀ i, i < n → ∀ t, t < k → get' i t = if lo ≤ i ∧ i < lo + Nat.min m2 m then get (lo2 + (i - lo)) t else get i t)
    (hk : T P E ops rest ⟨(d, .v (.int .i64 ((Nat.min m2 m : Nat) : Int))) :: S.slots, (j, .arow n k get' e) :: S.owns⟩ K) (hd : d < NN := by decide) :
    T P E ops ({ dst := some d, op := .call { callee := .builtin .copy, args := #[x, y], argTypes := #[t, t2] }, type := ty, pos, after, guard := none } :: rest) S K := by
  rintro a w ⟨b, hr⟩ Q hq
  unfold wpList
  rw [if_pos (by rfl)]
  by_cases hm : Nat.min m2 m = 0
  · obtain ⟨A, n', c, hb, _, hv⟩ := hx b a w hr
    obtain ⟨A2, n2', c2, hb2, _, hv2⟩ := hy b a w hr
    refine .inl (wp_of_run (w' := w) (v := goInt 0) ?_ ?_)
    · simp only [execOp, resolve, invoke, builtin, Sem.run_bind, Sem.run_pure, Result.andThen_ok, List.map_toArray, List.map_cons, List.map_nil, hv, hv2]
      rw [run_copy0 ht hs hm]; rfl
    · have hw : Weak E S ⟨S.slots, (j, .arow n k get' e) :: S.owns⟩ := weak_own ho rfl fun i hi t ht => by
        rw [hg' i hi t ht, if_neg (by omega)]
      have h1 := (hw b a w hr).put (d := d) (x := .v (.int .i64 ((Nat.min m2 m : Nat) : Int))) (v := goInt 0) hd (by rw [hm]; rfl)
      exact hk _ _ ⟨b, h1⟩ Q hq
  · have hm2 : 0 < m2 ∧ 0 < m := by simp only [Nat.min_def] at hm; split at hm <;> omega
    have hle2 : Nat.min m2 m ≤ m2 := Nat.min_le_left _ _
    have hlem : Nat.min m2 m ≤ m := Nat.min_le_right _ _
    obtain ⟨hle, g, c, hb, hv⟩ := sub_at hr hx ho hm2.2
    obtain ⟨hle', g', c', hb', hv'⟩ := sub_at hr hy ho hm2.1
    rw [hb] at hb'
    simp only [Value.slice.injEq, Option.some.injEq, Addr.mk.injEq, true_and, and_true, Nat.add_right_cancel_iff] at hb'
    obtain ⟨rfl, rfl⟩ := hb'
    obtain ⟨g2, c2, cur, hb2, _, hh, _, _, hsz, hcell⟩ := own_cells hr ho (by omega)
    rw [hb] at hb2
    simp only [Value.slice.injEq, Option.some.injEq, Addr.mk.injEq, true_and, and_true, Nat.add_right_cancel_iff] at hb2
    obtain ⟨rfl, rfl⟩ := hb2
    let f : Nat → Nat → Value := fun i t => (cur[(lo2 + i) * k + t]?).getD undef
    have hf : ∀ i, i < m2 → ∀ t, t < k → w.cell? ⟨g, lo2 * k + (i * k + t), none⟩ = some (f i t) ∧ (f i t).oneCell' = true ∧ RO w (S.excl E b) (get (lo2 + i) t) (f i t) := fun i hi t ht => by
      obtain ⟨u, hu, h1, h2⟩ := hcell (lo2 + i) (by omega) t ht
      have ef : f i t = u := by simp only [f, hu, Option.getD_some]
      rw [ef]
      refine ⟨?_, h1, h2⟩
      rw [cell_of_row w g _ cur e (0, 0) hh, ← Nat.add_assoc, ← Nat.add_mul]; exact hu
    obtain ⟨cs, hl, hcs, hcs2⟩ := rows_list hkp (Nat.min m2 m) f
    obtain ⟨w', hst, hr'⟩ := own_write (P := P) hr ho lo (Nat.min m2 m) (by omega) (by omega) hkp cs hl (fun i t => get (lo2 + i) t) get' (fun i hi t ht => ⟨_, hcs i hi t ht, (hf i (by omega) t ht).2.1, (hf i (by omega) t ht).2.2⟩) hg' hb
    refine .inl (wp_of_run (w' := w') (v := goInt (Nat.min m2 m)) ?_ ?_)
    · simp only [execOp, resolve, invoke, builtin, Sem.run_bind, Sem.run_pure, Result.andThen_ok, List.map_toArray, List.map_cons, List.map_nil, hv, hv']
      rw [run_copyK ht hs hl (fun q v hqv => ?_) hst]
      · rfl
      · obtain ⟨h1, rfl⟩ := hcs2 q v hqv
        have h2 := (hf (q / k) (Nat.lt_of_lt_of_le (by rw [Nat.div_lt_iff_lt_mul hkp]; exact h1) hle2) (q % k) (Nat.mod_lt _ hkp)).1
        rw [Nat.mul_comm (q / k), Nat.div_add_mod] at h2
        rw [Addr.add_lit]; exact h2
    · have h1 := hr'.put (d := d) (x := .v (.int .i64 ((Nat.min m2 m : Nat) : Int))) (v := goInt (Nat.min m2 m)) hd rfl
      exact hk _ _ ⟨b, h1⟩ Q hq
/-- A list, some elements of it written over. -/
def ovr {α : Type} (l : List α) (lo : Nat) (s : List α) : List α := l.take lo ++ s ++ l.drop (lo + s.length)
theorem ovr_len {α : Type} {l s : List α} {lo : Nat} (h : lo + s.length ≤ l.length) : (ovr l lo s).length = l.length := by simp [ovr]; omega
theorem ovr_at {α : Type} {cell : α → Nat → SV} {d : α} {l s : List α} {lo : Nat} (h : lo + s.length ≤ l.length) (i t : Nat) : rowG cell d (ovr l lo s) i t = if lo ≤ i ∧ i < lo + s.length then rowG cell d s (i - lo) t else rowG cell d l i t := by
  have e : (ovr l lo s).getD i d = if lo ≤ i ∧ i < lo + s.length then s.getD (i - lo) d else l.getD i d := by
    simp only [ovr, List.getD_eq_getElem?_getD]
    have hl : (l.take lo).length = lo := by rw [List.length_take]; omega
    by_cases h1 : i < lo
    · rw [if_neg (by omega), List.append_assoc, List.getElem?_append_left (by omega), List.getElem?_take, if_pos h1]
    · by_cases h2 : i < lo + s.length
      · rw [if_pos ⟨by omega, h2⟩, List.append_assoc, List.getElem?_append_right (by omega), hl, List.getElem?_append_left (by omega)]
      · rw [if_neg (by omega), List.getElem?_append_right (by rw [List.length_append, hl]; omega), List.length_append, hl, List.getElem?_drop]
        congr 2; omega
  simp only [rowG, e]
  split <;> rfl
end Go.Eng

namespace Go.Eng
open Go.RowKit
variable {P : Program} {NN : Nat} {E : Env NN} {S : St}
/-! Numbers of other kinds. -/
theorem q_mulW {x y : Operand} {t t' : TypeId} {k : IntKind} {m n : Int} (hx : Val E S x (.v (.int k m))) (hy : Val E S y (.v (.int k n))) : OpQ P E S (.binOp .mul t x y t') (.v (.int k (k.wrap (m * n)))) := fun b a w hr dst ty pos after gd => by
  have h1 : a.eval x = .int k m := hx b a w hr
  have h2 : a.eval y = .int k n := hy b a w hr
  refine ⟨_, fun w' hw' => ?_, rfl⟩
  simp only [execOp, h1, h2, eqGuard_mul, binOp_mul]
  simp [Op.intArith]
theorem q_addW {x y : Operand} {t t' : TypeId} {k : IntKind} {m n : Int} (hx : Val E S x (.v (.int k m))) (hy : Val E S y (.v (.int k n))) : OpQ P E S (.binOp .add t x y t') (.v (.int k (k.wrap (m + n)))) := fun b a w hr dst ty pos after gd => by
  have h1 : a.eval x = .int k m := hx b a w hr
  have h2 : a.eval y = .int k n := hy b a w hr
  refine ⟨_, fun w' hw' => ?_, rfl⟩
  simp only [execOp, h1, h2, eqGuard_add, binOp_add]
  simp [Op.intArith]
theorem q_shr {x y : Operand} {t t' : TypeId} {k k2 : IntKind} {m n : Int} (hx : Val E S x (.v (.int k m))) (hy : Val E S y (.v (.int k2 n))) (hn : 0 ≤ n ∧ n ≤ k.bits) : OpQ P E S (.binOp .shr t x y t') (.v (.int k (m / 2 ^ n.toNat))) := fun b a w hr dst ty pos after gd => by
  have h1 : a.eval x = .int k m := hx b a w hr
  have h2 : a.eval y = .int k2 n := hy b a w hr
  refine ⟨_, fun w' hw' => ?_, rfl⟩
  simp only [execOp, h1, h2, eqGuard_shr, binOp_shr, shift_shr k k2 m n hn.1 hn.2]
  rfl
theorem q_conv {x : Operand} {src dst' : TypeId} {k k2 : IntKind} {m : Int} (hx : Val E S x (.v (.int k m))) (hs : P.underlying src = some (.int k)) (hd : P.underlying dst' = some (.int k2)) (h : k2.wrap m = m) : OpQ P E S (.convert src dst' x) (.v (.int k2 m)) := fun b a w hr dst ty pos after gd => by
  have h1 : a.eval x = .int k m := hx b a w hr
  refine ⟨_, fun w' hw' => ?_, rfl⟩
  have hc : (convert src dst' (.int k m)).run P w' = .ok (.int k2 m) w' := by
    simp [convert, run_underlying hs, run_underlying hd, Conv.intToInt, h]
  simp only [execOp, h1, Sem.run_bind, hc]
  rfl
section
variable {α : Type} {cell : α → Nat → SV} {dd : α} {l : List α} {ops : Array Oper} {rest : List Oper} {K : St → Prop} {d : Tmp} {t t2 te : TypeId} {x y : Operand} {ty : TypeId} {pos : String} {after : Array Edge} {j k lo m : Nat} {e : TypeId}
theorem t_cpRT {s2 : List α} (ht : P.underlying t = some (.slice te)) (hs : ∀ w, (sizeOf te).run P w = .ok k w) (hx : Val E S x (.sub j k lo m)) (ho : lookO j S.owns = some (ownOf cell k dd l e)) (hy : Val E S y (rowOf cell k dd s2)) (hkp : 0 < k) (hle : lo + m ≤ l.length)
    (hk : T P E ops rest ⟨(d, .v (.int .i64 ((Nat.min s2.length m : Nat) : Int))) :: S.slots, (j, ownOf cell k dd (ovr l lo (s2.take m)) e) :: S.owns⟩ K) (hd : d < NN := by decide) :
    T P E ops ({ dst := some d, op := .call { callee := .builtin .copy, args := #[x, y], argTypes := #[t, t2] }, type := ty, pos, after, guard := none } :: rest) S K := by
  have hl : (s2.take m).length = Nat.min s2.length m := by rw [List.length_take]; exact Nat.min_comm _ _
  have hle2 : lo + (s2.take m).length ≤ l.length := by
    have : Nat.min s2.length m ≤ m := Nat.min_le_right _ _
    rw [hl]; omega
  refine t_cpR (rowG cell dd (ovr l lo (s2.take m))) ht hs hx ho hy hkp (fun i hi t ht => ?_) ?_ hd
  · rw [ovr_at hle2, hl]
    split
    · rename_i h
      have : i - lo < m := by
        have : Nat.min s2.length m ≤ m := Nat.min_le_right _ _
        omega
      simp only [rowG, List.getD_eq_getElem?_getD, List.getElem?_take, if_pos this]
    · rfl
  · have : ownOf cell k dd (ovr l lo (s2.take m)) e = .arow l.length k (rowG cell dd (ovr l lo (s2.take m))) e := by rw [ownOf, ovr_len hle2]
    rw [this] at hk; exact hk
theorem t_cpST {lo2 m2 : Nat} (ht : P.underlying t = some (.slice te)) (hs : ∀ w, (sizeOf te).run P w = .ok k w) (hx : Val E S x (.sub j k lo m)) (ho : lookO j S.owns = some (ownOf cell k dd l e)) (hy : Val E S y (.sub j k lo2 m2)) (hkp : 0 < k) (hle : lo + m ≤ l.length) (hle' : lo2 + m2 ≤ l.length)
    (hk : T P E ops rest ⟨(d, .v (.int .i64 ((Nat.min m2 m : Nat) : Int))) :: S.slots, (j, ownOf cell k dd (ovr l lo (((l.drop lo2).take m2).take m)) e) :: S.owns⟩ K) (hd : d < NN := by decide) :
    T P E ops ({ dst := some d, op := .call { callee := .builtin .copy, args := #[x, y], argTypes := #[t, t2] }, type := ty, pos, after, guard := none } :: rest) S K := by
  have hl : (((l.drop lo2).take m2).take m).length = Nat.min m2 m := by
    rw [List.length_take, List.length_take, List.length_drop, Nat.min_eq_left (show m2 ≤ l.length - lo2 by omega)]; exact Nat.min_comm _ _
  have hle2 : lo + (((l.drop lo2).take m2).take m).length ≤ l.length := by
    have : Nat.min m2 m ≤ m := Nat.min_le_right _ _
    rw [hl]; omega
  refine t_cpS (rowG cell dd (ovr l lo (((l.drop lo2).take m2).take m))) ht hs hx ho hy hkp (fun i hi t ht => ?_) ?_ hd
  · rw [ovr_at hle2, hl]
    split
    · rename_i h
      have h1 : i - lo < m := by
        have : Nat.min m2 m ≤ m := Nat.min_le_right _ _
        omega
      have h2 : i - lo < m2 := by
        have : Nat.min m2 m ≤ m2 := Nat.min_le_left _ _
        omega
      simp only [rowG, List.getD_eq_getElem?_getD, List.getElem?_take, if_pos h1, if_pos h2, List.getElem?_drop]
    · rfl
  · have : ownOf cell k dd (ovr l lo (((l.drop lo2).take m2).take m)) e = .arow l.length k (rowG cell dd (ovr l lo (((l.drop lo2).take m2).take m))) e := by rw [ownOf, ovr_len hle2]
    rw [this] at hk; exact hk
theorem t_clrT {zget : Nat → SV} (z0 : α) (ht : P.underlying t = some (.slice te)) (hz : ZeroOk P te k zget) (hx : Val E S x (.sub j k lo m)) (ho : lookO j S.owns = some (ownOf cell k dd l e)) (hkp : 0 < k) (hle : lo + m ≤ l.length) (hi : AllN (fun t => ImpO (zget t) (cell z0 t)) k)
    (hk : T P E ops rest ⟨S.slots, (j, ownOf cell k dd (ovr l lo (List.replicate m z0)) e) :: S.owns⟩ K) :
    T P E ops ({ dst := none, op := .call { callee := .builtin .clear, args := #[x], argTypes := #[t] }, type := ty, pos, after, guard := none } :: rest) S K := by
  have hle2 : lo + (List.replicate m z0).length ≤ l.length := by rw [List.length_replicate]; exact hle
  refine t_clr (rowG cell dd (ovr l lo (List.replicate m z0))) ht hz hx ho hkp (fun i hi' t ht => ?_) ?_
  · rw [ovr_at hle2, List.length_replicate]
    by_cases q : lo ≤ i ∧ i < lo + m
    · rw [if_pos q, if_pos q]
      have : rowG cell dd (List.replicate m z0) (i - lo) t = cell z0 t := by
        simp only [rowG, List.getD_eq_getElem?_getD, List.getElem?_replicate, if_pos (show i - lo < m by omega), Option.getD_some]
      rw [this]; exact hi.at t ht
    · rw [if_neg q, if_neg q]
  · have : ownOf cell k dd (ovr l lo (List.replicate m z0)) e = .arow l.length k (rowG cell dd (ovr l lo (List.replicate m z0))) e := by rw [ownOf, ovr_len hle2]
    rw [this] at hk; exact hk
theorem turn_cutT (s j j' i : Nat) (hs : look s S.slots = some (.sub j k 0 i)) (ho : lookO j S.owns = some (ownOf cell k dd l e)) (hi : i ≤ l.length) (hf : S.fresh j' = true) (hsN : s < NN) :
    Turn E S ⟨(s, .own j') :: killS j S.slots, (j', ownOf cell k dd (l.take i) e) :: killO j S.owns⟩ := by
  have hl : (l.take i).length = i := by rw [List.length_take]; omega
  have := turn_cut (E := E) (S := S) s j j' i (rowG cell dd (l.take i)) (get := rowG cell dd l) (n := l.length) (e := e) (fun q hq t _ => by simp only [rowG, List.getD_eq_getElem?_getD, List.getElem?_take, if_pos hq]) hs ho hf hsN
  rw [ownOf, hl]; exact this
end
end Go.Eng
/-! Short names. -/
namespace Go.Eng
abbrev V := @val_tmp
abbrev K := @val_const
abbrev Vg := @val_grd
abbrev Vj := @val_junk
abbrev Vn := @val_nil
abbrev Va := @val_agg
abbrev Vi := @val_aggI
abbrev Vm := @val_imp
abbrev Vf := @val_func
abbrev VA := @val_A
abbrev VE := @val_fnE
abbrev VF := @val_fnE'
abbrev O := @tq_op
abbrev Nq := @tq_nil
abbrev Og := @tq_opG
abbrev U := @t_op
abbrev Ug := @t_opG
abbrev Nt := @t_nil
abbrev Uw := @t_w
abbrev UwG := @t_wG
abbrev Gy := @g_yes
abbrev Gn := @g_no
abbrev Gyy := @g_gyes
abbrev Gyn := @g_gno
abbrev Sq := @c_seq
abbrev Rq := @c_rq
abbrev Rqd := @c_rqd
abbrev Rt := @c_rt
abbrev Cd := @c_cond
abbrev Sk := @c_skip
abbrev Rx := @c_ret
abbrev Bo := @c_block
abbrev Ex := @c_exit
abbrev Lo := @c_loop
abbrev Nx := @c_next
abbrev NxH := @c_nextH
abbrev Hg := @c_hereH
abbrev Me := @c_meet
abbrev We := @weakE
abbrev Rl := @row_len
abbrev CtO := @ct_of
abbrev CmO := @ctM_of
abbrev Mv := @q_move
abbrev As := @q_assign
abbrev Lt := @q_lss
abbrev Le := @q_leq
abbrev Gt := @q_gtr
abbrev Ge := @q_geq
abbrev Ql := @q_eql
abbrev Qn := @q_neq
abbrev Qo := @q_not
abbrev Qa := @q_and
abbrev Qr := @q_or
abbrev Ad := @q_add
abbrev Sb := @q_sub
abbrev Ln := @q_len
abbrev LnO := @q_lenO
abbrev LnU := @q_lenU
abbrev Ix := @q_idx
abbrev IxN := @q_idxN
abbrev IxO := @q_idxO
abbrev IOn := @q_idxON
abbrev IUn := @q_idxUN
abbrev Fl := @q_fld
abbrev FlB := @q_fldB
abbrev FlO := @q_fldO
abbrev Ld := @q_ld
abbrev LdA := @q_ldA
abbrev LdB := @q_ldB
abbrev LBA := @q_ldBA
abbrev LdO := @q_ldO
abbrev LOA := @q_ldOA
abbrev LdU := @q_ldU
abbrev LUA := @q_ldUA
abbrev Xt := @q_ext
abbrev Mk := @q_mkf
abbrev Fd := @q_field
abbrev Bu := @q_build
abbrev CQ := @tq_call
abbrev CQg := @tq_callG
abbrev CT := @t_call
abbrev CTg := @t_callG
abbrev CQv := @tq_callV
abbrev CTv := @t_callV
abbrev CM := @t_callM
abbrev CMv := @t_callMV
abbrev CQb := @tq_callB
abbrev CTb := @t_callB
abbrev R1 := @ret1
abbrev R2 := @ret2
abbrev R3 := @ret3
abbrev M1 := @retM1
abbrev M2 := @retM2
abbrev M3 := @retM3
abbrev RR1 := @retR1
abbrev RR2 := @retR2
abbrev RR3 := @retR3
abbrev RM1 := @retRM1
abbrev RM2 := @retRM2
abbrev RM3 := @retRM3
abbrev Al := @t_alloc
abbrev BxA := @t_boxA
abbrev Bx1 := @t_box1
abbrev St1 := @t_st1
abbrev StA := @t_stA
abbrev StO := @t_stO
abbrev Ap := @t_app
abbrev Tt := @t_turn
abbrev Tc := @c_turn
abbrev Tk := @k_turn
abbrev FzC := @c_frz
abbrev FzT := @t_frz
abbrev FzQ := @tq_frz
abbrev Ir := @imp_rfl
abbrev In := @imp_nil
abbrev Gq := @og_q
abbrev Gw := @og_w
abbrev GqG := @og_qG
abbrev GwG := @og_wG
abbrev Gc := @og_call
abbrev GcG := @og_callG
abbrev Gcv := @og_callV
abbrev Gcb := @og_callB
abbrev GcB := @og_callBG
abbrev Gp := @gs_op
abbrev Gz := @gs_nil
abbrev Rg := @c_rg
abbrev Mk2 := @t_make
theorem Z : True := trivial
end Go.Eng
