/- An engine for proofs about this program: symbolic values, states, and what a state says of a frame and a world. Plain definitions and lemmas; no function of the program in sight. -/
import Derived.WalkKit
import Derived.Deep.Quiet
import Derived.Laws.Cover3
import Derived.Deep.Slices
import Derived.Deep.Fields
import Derived.ChangeSame
import Derived.Carry
import Derived.ProofKit
import Derived.OpenShut
import Derived.JoinedCond
set_option linter.unusedVariables false
set_option linter.unusedSimpArgs false
namespace Go.Eng
open Go.RowKit

/-- w' is w with more: what lies outside X in w lies there still. -/
structure Ext (X : Nat → Prop) (w w' : World) : Prop where
  size : w.heap.size ≤ w'.heap.size
  block : ∀ g, g < w.heap.size → ¬ X g → w'.heap[g]? = w.heap[g]?

/-- A symbolic value. -/
inductive SV where
  | v (x : Value)
  | row (n k : Nat) (get : Nat → Nat → SV)
  | el (n k : Nat) (get : Nat → Nat → SV) (i off : Nat)
  | agg (m : Nat) (get : Nat → SV)
  | tup (m : Nat) (get : Nat → SV)
  | bp (j off : Nat)
  | own (j : Nat)
  | oe (j k i off : Nat)
  | fn (f : FuncId) (caps : List Nat)
  | grd (c : Bool) (x : SV)
  | junk
  | abs (p : World → (Nat → Prop) → Value → Prop) (hp : ∀ w w' X X' v, Ext X w w' → (∀ g, g < w.heap.size → X' g → X g) → p w X v → p w' X' v)

/-- What a symbolic value says of a value, in a world, its memory lying outside the blocks X; no memory of the frame's own. -/
def RO (w : World) (X : Nat → Prop) : SV → Value → Prop
  | .v x, val => val = x
  | .row n k get, val => ∃ A c, val = .slice A n c ∧ n ≤ c ∧ c ≤ maxLen ∧ (0 < n → ∃ b o, A = some ⟨b, o, none⟩ ∧ b < w.heap.size ∧ ¬ X b ∧
      ∀ i, i < n → ∀ t, t < k → ∃ u, w.cell? ⟨b, o + (i * k + t), none⟩ = some u ∧ u.oneCell' = true ∧ RO w X (get i t) u)
  | .el n k get i off, val => i < n ∧ ∃ b o, val = .pointer (some ⟨b, o + (i * k + off), none⟩) ∧ b < w.heap.size ∧ ¬ X b ∧
      ∀ i', i' < n → ∀ t, t < k → ∃ u, w.cell? ⟨b, o + (i' * k + t), none⟩ = some u ∧ u.oneCell' = true ∧ RO w X (get i' t) u
  | .agg m get, val => ∃ cs : Array Value, val = .agg cs ∧ cs.size = m ∧ ∀ t, t < m → ∃ u, cs[t]? = some u ∧ u.oneCell' = true ∧ RO w X (get t) u
  | .tup m get, val => ∃ cs : Array Value, val = .tuple cs ∧ cs.size = m ∧ ∀ t, t < m → ∃ u, cs[t]? = some u ∧ RO w X (get t) u
  | .fn f caps, val => caps = [] ∧ val = .func (.func f) #[] #[]
  | .abs p _, val => p w X val
  | _, _ => False

/-- The same, of a value in a frame: b names the frame's own memory. -/
def R (w : World) (X : Nat → Prop) (b : Nat → Value) : SV → Value → Prop
  | .bp j off, val => ∃ g, b j = .pointer (some ⟨g, 0, none⟩) ∧ val = .pointer (some ⟨g, off, none⟩)
  | .own j, val => val = b j
  | .oe j k i off, val => ∃ g n cap, b j = .slice (some ⟨g, 0, none⟩) n cap ∧ i < n ∧ val = .pointer (some ⟨g, i * k + off, none⟩)
  | .fn f caps, val => val = .func (.func f) #[] (caps.map b).toArray
  | .grd c x, val => (c = true → R w X b x val) ∧ (c = false → val = undef)
  | .junk, _ => True
  | .abs p hp, val => RO w X (.abs p hp) val
  | .v x, val => RO w X (.v x) val
  | .row n k get, val => RO w X (.row n k get) val
  | .el n k get i off, val => RO w X (.el n k get i off) val
  | .agg m get, val => ∃ cs : Array Value, val = .agg cs ∧ cs.size = m ∧ ∀ t, t < m → ∃ u, cs[t]? = some u ∧ u.oneCell' = true ∧ R w X b (get t) u
  | .tup m get, val => ∃ cs : Array Value, val = .tuple cs ∧ cs.size = m ∧ ∀ t, t < m → ∃ u, cs[t]? = some u ∧ R w X b (get t) u

/-- A slice that the frame has made, or one that holds nothing and has no room. -/
def ownsR (w : World) (base : Nat) (e : TypeId) (k : Nat) (v : Value) (n : Nat) (xs : List Value) : Prop :=
  (∃ A, v = .slice A 0 0 ∧ n = 0 ∧ xs = []) ∨ (w.ownsRow base e k v n xs ∧ ∃ g m c, v = .slice (some ⟨g, 0, none⟩) m (c + 1))

/-- Memory of the frame's own: a variable's block; a slice that it has made. -/
inductive Own where
  | box (m : Nat) (get : Nat → SV) (ty : TypeId)
  | arow (n k : Nat) (get : Nat → Nat → SV) (elem : TypeId)

def OwnOk (w : World) (X : Nat → Prop) (base : Nat) (b : Nat → Value) (j : Nat) : Own → Prop
  | .box m get ty => ∃ (g : Nat) (cs : Array Value), b j = .pointer (some ⟨g, 0, none⟩) ∧ base ≤ g ∧ w.heap[g]? = some (.cells cs ty (0, 0)) ∧ cs.size = m ∧
      ∀ t, t < m → ∃ u, cs[t]? = some u ∧ u.oneCell' = true ∧ R w X b (get t) u
  | .arow n k get elem => ∃ xs, ownsR w base elem k (b j) n xs ∧ ∀ i, i < n → ∀ t, t < k → ∃ u, xs[i * k + t]? = some u ∧ u.oneCell' = true ∧ RO w X (get i t) u

structure St where
  slots : List (Nat × SV)
  owns : List (Nat × Own)

def look (s : Nat) : List (Nat × SV) → Option SV
  | [] => none
  | p :: r => match Nat.beq s p.1 with | true => some p.2 | false => look s r
def lookO (s : Nat) : List (Nat × Own) → Option Own
  | [] => none
  | p :: r => match Nat.beq s p.1 with | true => some p.2 | false => lookO s r

structure Env where
  w0 : World
  X : Nat → Prop
  hX : ∀ b, X b → b < w0.heap.size
  N : Nat

def blk : Value → Option Nat
  | .pointer (some a) => some a.block
  | .slice (some a) _ (_ + 1) => some a.block
  | _ => none

def St.excl (S : St) (E : Env) (b : Nat → Value) (g : Nat) : Prop := E.X g ∨ ∃ j o, lookO j S.owns = some o ∧ blk (b j) = some g

structure RepB (E : Env) (b : Nat → Value) (S : St) (a : Act) (w : World) : Prop where
  size : a.tmps.size = E.N
  defers : a.defers = []
  below : Below E.w0.heap.size E.w0 w
  slots : ∀ s x, look s S.slots = some x → R w (S.excl E b) b x (a.tmps.getD s undef)
  owns : ∀ j o, lookO j S.owns = some o → OwnOk w (S.excl E b) E.w0.heap.size b j o
  apart : ∀ i j oi oj, lookO i S.owns = some oi → lookO j S.owns = some oj → i ≠ j → ∀ g, blk (b i) = some g → blk (b j) ≠ some g

def Rep (E : Env) (S : St) (a : Act) (w : World) : Prop := ∃ b, RepB E b S a w

theorem Ext.cell {X : Nat → Prop} {w w' : World} (h : Ext X w w') {p : Addr} (hp : p.block < w.heap.size) (hX : ¬ X p.block) : w'.cell? p = w.cell? p :=
  World.cell?_of_block (h.block p.block hp hX)

theorem RO.mono {w w' : World} {X X' : Nat → Prop} (h : Ext X w w') (hX : ∀ g, g < w.heap.size → X' g → X g) {x : SV} {val : Value} (hr : RO w X x val) : RO w' X' x val := by
  induction x generalizing val with
  | v x => exact hr
  | row n k get ih =>
    obtain ⟨A, c, rfl, hn, hc, hr⟩ := hr
    refine ⟨A, c, rfl, hn, hc, fun h0 => ?_⟩
    obtain ⟨b, o, rfl, hb, hx, hr⟩ := hr h0
    refine ⟨b, o, rfl, by have := h.size; omega, fun hh => hx (hX _ hb hh), fun i hi t ht => ?_⟩
    obtain ⟨u, hu, h1, h2⟩ := hr i hi t ht
    exact ⟨u, (h.cell (p := ⟨b, _, none⟩) hb hx).trans hu, h1, ih i t h2⟩
  | el n k get i off ih =>
    obtain ⟨hi, b, o, rfl, hb, hx, hr⟩ := hr
    refine ⟨hi, b, o, rfl, by have := h.size; omega, fun hh => hx (hX _ hb hh), fun i hi t ht => ?_⟩
    obtain ⟨u, hu, h1, h2⟩ := hr i hi t ht
    exact ⟨u, (h.cell (p := ⟨b, _, none⟩) hb hx).trans hu, h1, ih i t h2⟩
  | agg m get ih =>
    obtain ⟨cs, rfl, hm, hr⟩ := hr
    refine ⟨cs, rfl, hm, fun t ht => ?_⟩
    obtain ⟨u, hu, h1, h2⟩ := hr t ht
    exact ⟨u, hu, h1, ih t h2⟩
  | tup m get ih =>
    obtain ⟨cs, rfl, hm, hr⟩ := hr
    refine ⟨cs, rfl, hm, fun t ht => ?_⟩
    obtain ⟨u, hu, h2⟩ := hr t ht
    exact ⟨u, hu, ih t h2⟩
  | bp j off => exact hr
  | own j => exact hr
  | oe j k i off => exact hr
  | fn f caps => exact hr
  | grd c x ih => exact hr
  | junk => exact hr
  | abs p hp => exact hp _ _ _ _ _ h hX hr

theorem R.mono {w w' : World} {X X' : Nat → Prop} {b : Nat → Value} (h : Ext X w w') (hX : ∀ g, g < w.heap.size → X' g → X g) {x : SV} {val : Value} (hr : R w X b x val) : R w' X' b x val := by
  induction x generalizing val with
  | grd c x ih => exact ⟨fun hc => ih (hr.1 hc), hr.2⟩
  | junk => exact hr
  | abs p hp => exact RO.mono h hX hr
  | bp j off => exact hr
  | own j => exact hr
  | oe j k i off => exact hr
  | fn f caps => exact hr
  | v x => exact RO.mono h hX hr
  | row n k get ih => exact RO.mono h hX hr
  | el n k get i off ih => exact RO.mono h hX hr
  | agg m get ih =>
    obtain ⟨cs, rfl, hm, hr⟩ := hr
    refine ⟨cs, rfl, hm, fun t ht => ?_⟩
    obtain ⟨u, hu, h1, h2⟩ := hr t ht
    exact ⟨u, hu, h1, ih t h2⟩
  | tup m get ih =>
    obtain ⟨cs, rfl, hm, hr⟩ := hr
    refine ⟨cs, rfl, hm, fun t ht => ?_⟩
    obtain ⟨u, hu, h2⟩ := hr t ht
    exact ⟨u, hu, ih t h2⟩

def allB (p : Nat → Bool) : Nat → Bool
  | 0 => true
  | n + 1 => p n && allB p n
/-- Does the value name the frame's own memory j? -/
def SV.noId (j : Nat) : SV → Bool
  | .bp i _ => !(Nat.beq i j)
  | .own i => !(Nat.beq i j)
  | .oe i _ _ _ => !(Nat.beq i j)
  | .fn _ caps => caps.all fun i => !(Nat.beq i j)
  | .grd _ x => x.noId j
  | .agg m get => allB (fun t => (get t).noId j) m
  | .tup m get => allB (fun t => (get t).noId j) m
  | _ => true
def Own.noId (j : Nat) : Own → Bool
  | .box m get _ => allB (fun t => (get t).noId j) m
  | .arow .. => true
def freshS (j : Nat) : List (Nat × SV) → Bool
  | [] => true
  | p :: r => p.2.noId j && freshS j r
def freshO (j : Nat) : List (Nat × Own) → Bool
  | [] => true
  | p :: r => (!(Nat.beq j p.1) && p.2.noId j) && freshO j r
def St.fresh (j : Nat) (S : St) : Bool := freshS j S.slots && freshO j S.owns

theorem allB_iff {p : Nat → Bool} : ∀ {n}, allB p n = true → ∀ t, t < n → p t = true
  | 0, _, t, h => absurd h (by omega)
  | n + 1, h, t, ht => by
    simp only [allB, Bool.and_eq_true] at h
    by_cases e : t = n
    · exact e ▸ h.1
    · exact allB_iff h.2 t (by omega)

def setB (b : Nat → Value) (j : Nat) (x : Value) : Nat → Value := fun i => if i = j then x else b i
theorem setB_same (b : Nat → Value) (j : Nat) (x : Value) : setB b j x j = x := by simp [setB]
theorem setB_other (b : Nat → Value) (j : Nat) (x : Value) {i : Nat} (h : i ≠ j) : setB b j x i = b i := by simp [setB, h]

theorem R_setB {w : World} {X : Nat → Prop} {b : Nat → Value} {j : Nat} {y : Value} {x : SV} {val : Value} (hn : x.noId j = true) (h : R w X b x val) : R w X (setB b j y) x val := by
  induction x generalizing val with
  | grd c x ih => exact ⟨fun hc => ih hn (h.1 hc), h.2⟩
  | junk => trivial
  | abs p hp => exact h
  | bp i off =>
    obtain ⟨g, h1, h2⟩ := h
    have : i ≠ j := by rintro rfl; simp [SV.noId] at hn
    exact ⟨g, by rw [setB_other _ _ _ this]; exact h1, h2⟩
  | own i =>
    have : i ≠ j := by rintro rfl; simp [SV.noId] at hn
    show val = _
    rw [setB_other _ _ _ this]; exact h
  | oe i k p off =>
    obtain ⟨g, n, c, h1, h2, h3⟩ := h
    have : i ≠ j := by rintro rfl; simp [SV.noId] at hn
    exact ⟨g, n, c, by rw [setB_other _ _ _ this]; exact h1, h2, h3⟩
  | fn f caps =>
    show val = _
    have e : caps.map (setB b j y) = caps.map b := by
      apply List.map_congr_left
      intro i hi
      simp only [SV.noId, List.all_eq_true] at hn
      have := hn i hi
      exact setB_other _ _ _ (fun e => by subst e; simp at this)
    rw [e]; exact h
  | v x => exact h
  | row n k get ih => exact h
  | el n k get i off ih => exact h
  | agg m get ih =>
    obtain ⟨cs, rfl, hm, hr⟩ := h
    refine ⟨cs, rfl, hm, fun t ht => ?_⟩
    obtain ⟨u, hu, h1, h2⟩ := hr t ht
    exact ⟨u, hu, h1, ih t (allB_iff hn t ht) h2⟩
  | tup m get ih =>
    obtain ⟨cs, rfl, hm, hr⟩ := h
    refine ⟨cs, rfl, hm, fun t ht => ?_⟩
    obtain ⟨u, hu, h2⟩ := hr t ht
    exact ⟨u, hu, ih t (allB_iff hn t ht) h2⟩

theorem look_fresh {j : Nat} : ∀ {l : List (Nat × SV)}, freshS j l = true → ∀ s x, look s l = some x → x.noId j = true
  | [], _, s, x, h => by simp [look] at h
  | p :: r, hf, s, x, h => by
    simp only [freshS, Bool.and_eq_true] at hf
    simp only [look] at h
    split at h
    · injection h with h; subst h; exact hf.1
    · exact look_fresh hf.2 s x h
theorem lookO_fresh {j : Nat} : ∀ {l : List (Nat × Own)}, freshO j l = true → ∀ s o, lookO s l = some o → s ≠ j ∧ o.noId j = true
  | [], _, s, x, h => by simp [lookO] at h
  | p :: r, hf, s, x, h => by
    simp only [freshO, Bool.and_eq_true] at hf
    simp only [lookO] at h
    split at h
    · rename_i hb
      injection h with h; subst h
      have := Nat.eq_of_beq_eq_true hb
      refine ⟨?_, hf.1.2⟩
      rintro rfl
      have h1 := hf.1.1
      rw [this] at h1
      simp at h1
    · exact lookO_fresh hf.2 s x h

theorem look_cons {s d : Nat} {y : SV} {l : List (Nat × SV)} : look s ((d, y) :: l) = if s = d then some y else look s l := by
  simp only [look]
  by_cases h : s = d
  · subst h; simp
  · have : Nat.beq s d = false := by
      cases hb : Nat.beq s d
      · rfl
      · exact absurd (Nat.eq_of_beq_eq_true hb) h
    rw [this, if_neg h]
theorem lookO_cons {s d : Nat} {y : Own} {l : List (Nat × Own)} : lookO s ((d, y) :: l) = if s = d then some y else lookO s l := by
  simp only [lookO]
  by_cases h : s = d
  · subst h; simp
  · have : Nat.beq s d = false := by
      cases hb : Nat.beq s d
      · rfl
      · exact absurd (Nat.eq_of_beq_eq_true hb) h
    rw [this, if_neg h]

theorem getD_set (t : Array Value) (d s : Nat) (v : Value) (h : d < t.size) : (t.setIfInBounds d v).getD s undef = if s = d then v else t.getD s undef := by
  simp only [Array.getD_eq_getD_getElem?, Array.getElem?_setIfInBounds]
  by_cases e : d = s
  · subst e; simp [h]
  · rw [if_neg e, if_neg (fun h => e h.symm)]

/-- What stands in an own block lies below the heap's end. -/
theorem OwnOk.lt {w : World} {X : Nat → Prop} {base : Nat} {b : Nat → Value} {j : Nat} {o : Own} (h : OwnOk w X base b j o) {g : Nat} (hg : blk (b j) = some g) : g < w.heap.size ∧ base ≤ g := by
  cases o with
  | box m get ty =>
    obtain ⟨g', cs, hb, hbase, hh, _⟩ := h
    rw [hb] at hg
    simp only [blk, Option.some.injEq] at hg
    subst hg
    exact ⟨(Array.getElem?_eq_some_iff.1 hh).1, hbase⟩
  | arow n k get elem =>
    obtain ⟨xs, ho, _⟩ := h
    rcases ho with ⟨A, hv, _⟩ | ⟨ho, g', m, c, hv⟩
    · rw [hv] at hg
      cases A <;> simp [blk] at hg
    · rw [hv] at hg
      simp only [blk, Option.some.injEq] at hg
      subst hg
      have := ho.lt g' (by rw [hv]; rfl)
      exact ⟨this.2, this.1⟩

theorem ownsR.kept {w w' : World} {base : Nat} {e : TypeId} {k : Nat} {v : Value} {n : Nat} {xs : List Value} {row : Option Nat} (h : ownsR w base e k v n xs) (hg : w.grownBy w' row) (hne : ∀ g, blk v = some g → row ≠ some g) : ownsR w' base e k v n xs := by
  rcases h with h | ⟨h, g, m, c, hv⟩
  · exact .inl h
  · refine .inr ⟨h.kept hg (.inr ?_), g, m, c, hv⟩
    rw [hv]
    exact fun e => hne g (by rw [hv]; rfl) e.symm

theorem RepB.excl_lt {E : Env} {b : Nat → Value} {S : St} {a : Act} {w : World} (h : RepB E b S a w) {g : Nat} (hg : S.excl E b g) : g < w.heap.size := by
  rcases hg with hg | ⟨j, o, ho, hb⟩
  · exact Nat.lt_of_lt_of_le (E.hX g hg) h.below.size
  · exact ((h.owns j o ho).lt hb).1

end Go.Eng

namespace Go.Eng
open Go.RowKit
variable {P : Program} {E : Env}

theorem Ext.of_below {X : Nat → Prop} {w w' : World} (h : Below w.heap.size w w') : Ext X w w' := ⟨h.size, fun g hg _ => h.block g hg⟩

theorem RepB.put {b : Nat → Value} {S : St} {a : Act} {w : World} (h : RepB E b S a w) {d : Nat} {x : SV} {v : Value} (hd : d < E.N) (hx : R w (S.excl E b) b x v) :
    RepB E b ⟨(d, x) :: S.slots, S.owns⟩ (a.put (some d) v) w where
  size := by simpa [Act.put] using h.size
  defers := h.defers
  below := h.below
  slots := fun s y hy => by
    have hg : (a.put (some d) v).tmps.getD s undef = if s = d then v else a.tmps.getD s undef := getD_set _ _ _ _ (by rw [h.size]; exact hd)
    rw [hg]
    rw [look_cons] at hy
    split at hy
    · rename_i e
      injection hy with hy
      subst hy
      rw [if_pos e]; exact hx
    · rename_i e
      rw [if_neg e]
      exact h.slots s y hy
  owns := h.owns
  apart := h.apart

/-- Forget what a slot holds. -/
theorem RepB.forget {b : Nat → Value} {S : St} {a : Act} {w : World} (h : RepB E b S a w) {d : Nat} {v : Value} (hd : d < E.N) :
    RepB E b ⟨(d, .junk) :: S.slots, S.owns⟩ (a.put (some d) v) w := h.put hd trivial

theorem RepB.world {b : Nat → Value} {S : St} {a : Act} {w w' : World} (h : RepB E b S a w) (hw : Below w.heap.size w w') : RepB E b S a w' where
  size := h.size
  defers := h.defers
  below := h.below.trans (hw.mono h.below.size)
  slots := fun s x hx => (h.slots s x hx).mono (.of_below hw) (fun _ _ hh => hh)
  owns := fun j o ho => by
    have h1 := h.owns j o ho
    cases o with
    | box m get ty =>
      obtain ⟨g, cs, hb, hbase, hh, hm, hr⟩ := h1
      refine ⟨g, cs, hb, hbase, ?_, hm, fun t ht => ?_⟩
      · rw [hw.block g (Array.getElem?_eq_some_iff.1 hh).1]; exact hh
      · obtain ⟨u, hu, h2, h3⟩ := hr t ht
        exact ⟨u, hu, h2, h3.mono (.of_below hw) (fun _ _ hh => hh)⟩
    | arow n k get elem =>
      obtain ⟨xs, hown, hr⟩ := h1
      refine ⟨xs, hown.kept (row := none) ⟨hw.os, hw.tape, hw.output, hw.size, fun g hg _ => hw.block g hg⟩ (fun _ _ => by simp), fun i hi t ht => ?_⟩
      obtain ⟨u, hu, h2, h3⟩ := hr i hi t ht
      exact ⟨u, hu, h2, h3.mono (.of_below hw) (fun _ _ hh => hh)⟩
  apart := h.apart

theorem below_drew (w : World) : Below w.heap.size w w.drew := ⟨rfl, rfl, rfl, Nat.le_refl _, fun _ _ => rfl⟩
theorem below_drewN (w : World) (n : Nat) : Below w.heap.size w (w.drewN n) := ⟨rfl, rfl, rfl, Nat.le_refl _, fun _ _ => rfl⟩
theorem below_alloc (w : World) (o : Obj) : Below w.heap.size w (w.alloc o) := ⟨rfl, rfl, rfl, by simp, fun k hk => Below.heap_alloc _ _ _ hk⟩

theorem RO.toR {w : World} {X : Nat → Prop} {b : Nat → Value} {x : SV} {val : Value} (h : RO w X x val) : R w X b x val := by
  induction x generalizing val with
  | fn f caps => obtain ⟨rfl, h⟩ := h; exact h
  | bp j off => exact h.elim
  | own j => exact h.elim
  | oe j k i off => exact h.elim
  | grd c x ih => exact h.elim
  | junk => exact h.elim
  | abs p hp => exact h
  | v x => exact h
  | row n k get ih => exact h
  | el n k get i off ih => exact h
  | agg m get ih =>
    obtain ⟨cs, rfl, hm, hr⟩ := h
    refine ⟨cs, rfl, hm, fun t ht => ?_⟩
    obtain ⟨u, hu, h1, h2⟩ := hr t ht
    exact ⟨u, hu, h1, ih t h2⟩
  | tup m get ih =>
    obtain ⟨cs, rfl, hm, hr⟩ := h
    refine ⟨cs, rfl, hm, fun t ht => ?_⟩
    obtain ⟨u, hu, h2⟩ := hr t ht
    exact ⟨u, hu, ih t h2⟩

/-- An operand comes to a symbolic value. -/
def Val (E : Env) (S : St) (o : Operand) (x : SV) : Prop := ∀ b a w, RepB E b S a w → R w (S.excl E b) b x (a.eval o)

theorem val_tmp {S : St} {s : Nat} {x : SV} (h : look s S.slots = some x) : Val E S (.tmp s) x := fun _ _ _ hr => hr.slots s x h
theorem val_const {S : St} {c : Value} : Val E S (.const c) (.v c) := fun _ _ _ _ => rfl
theorem val_func {S : St} {f : FuncId} : Val E S (.func f) (.fn f []) := fun _ _ _ _ => rfl
theorem val_nil {S : St} {k : Nat} {get : Nat → Nat → SV} : Val E S (.const (.slice none 0 0)) (.row 0 k get) :=
  fun _ _ _ _ => ⟨none, 0, rfl, Nat.le_refl _, Nat.zero_le _, fun h => absurd h (by omega)⟩
theorem val_grd {S : St} {o : Operand} {c : Bool} {x : SV} (h : Val E S o (.grd c x)) (hc : c = true) : Val E S o x := fun b a w hr => (h b a w hr).1 hc
theorem val_eq {S : St} {o : Operand} {x y : SV} (h : Val E S o x) (e : x = y) : Val E S o y := e ▸ h

/-- An operation that leaves the world as it is, and comes to a symbolic value. -/
def OpQ (P : Program) (E : Env) (S : St) (op : Op) (x : SV) : Prop :=
  ∀ b a w, RepB E b S a w → ∀ dst ty pos after gd, ∃ v, (∀ w', Below w.heap.size w w' → (execOp a.eval { dst, op, type := ty, pos, after, guard := gd }).run P w' = .ok (.value v) w') ∧ R w (S.excl E b) b x v

section quiet
variable {S : St}
theorem q_move {x : Operand} {s : SV} (h : Val E S x s) : OpQ P E S (.move x) s := fun b a w hr _ _ _ _ _ => ⟨_, fun _ _ => rfl, h b a w hr⟩
theorem q_assign {x : Operand} {s : SV} (h : Val E S x s) : OpQ P E S (.assign x) s := fun b a w hr _ _ _ _ _ => ⟨_, fun _ _ => rfl, h b a w hr⟩

theorem q_pick {c x y : Operand} {t p q : Bool} (hc : Val E S c (.v (.bool t))) (hx : t = true → Val E S x (.v (.bool p))) (hy : t = false → Val E S y (.v (.bool q))) :
    OpQ P E S (.pick c x y) (.v (.bool (bif t then p else q))) := fun b a w hr dst ty pos after gd => by
  have h1 : a.eval c = .bool t := hc b a w hr
  cases t with
  | true =>
    have h2 : a.eval x = .bool p := hx rfl b a w hr
    exact ⟨_, fun w' _ => by simp [execOp, h1, h2, asBool], rfl⟩
  | false =>
    have h2 : a.eval y = .bool q := hy rfl b a w hr
    exact ⟨_, fun w' _ => by simp [execOp, h1, h2, asBool], rfl⟩
theorem q_or {c y : Operand} {t q : Bool} (hc : Val E S c (.v (.bool t))) (hy : t = false → Val E S y (.v (.bool q))) :
    OpQ P E S (.pick c (.const (.bool true)) y) (.v (.bool (t || q))) := by
  have h := q_pick (P := P) (p := true) hc (fun _ => val_const) hy
  have e : (bif t then true else q) = (t || q) := by cases t <;> rfl
  rw [e] at h; exact h
theorem q_and {c x : Operand} {t p : Bool} (hc : Val E S c (.v (.bool t))) (hx : t = true → Val E S x (.v (.bool p))) :
    OpQ P E S (.pick c x (.const (.bool false))) (.v (.bool (t && p))) := by
  have h := q_pick (P := P) (q := false) hc hx (fun _ => val_const)
  have e : (bif t then p else false) = (t && p) := by cases t <;> rfl
  rw [e] at h; exact h

section ints
variable {x y : Operand} {t t' : TypeId} {k : IntKind} {m n : Int} (hx : Val E S x (.v (.int k m))) (hy : Val E S y (.v (.int k n)))
include hx hy
theorem q_lss : OpQ P E S (.binOp .lss t x y t') (.v (.bool (decide (m < n)))) := fun b a w hr dst ty pos after gd => by
  have h1 : a.eval x = .int k m := hx b a w hr
  have h2 : a.eval y = .int k n := hy b a w hr
  exact ⟨.bool (decide (m < n)), fun w' _ => by simp only [execOp, h1, h2, eqGuard_lss, binOp_lss]; rfl, rfl⟩
theorem q_leq : OpQ P E S (.binOp .leq t x y t') (.v (.bool (decide (m ≤ n)))) := fun b a w hr dst ty pos after gd => by
  have h1 : a.eval x = .int k m := hx b a w hr
  have h2 : a.eval y = .int k n := hy b a w hr
  exact ⟨.bool (decide (m ≤ n)), fun w' _ => by simp only [execOp, h1, h2, eqGuard_leq, binOp_leq]; rfl, rfl⟩
theorem q_gtr : OpQ P E S (.binOp .gtr t x y t') (.v (.bool (decide (n < m)))) := fun b a w hr dst ty pos after gd => by
  have h1 : a.eval x = .int k m := hx b a w hr
  have h2 : a.eval y = .int k n := hy b a w hr
  exact ⟨.bool (decide (n < m)), fun w' _ => by simp only [execOp, h1, h2, eqGuard_gtr, binOp_gtr]; rfl, rfl⟩
theorem q_geq : OpQ P E S (.binOp .geq t x y t') (.v (.bool (decide (n ≤ m)))) := fun b a w hr dst ty pos after gd => by
  have h1 : a.eval x = .int k m := hx b a w hr
  have h2 : a.eval y = .int k n := hy b a w hr
  exact ⟨.bool (decide (n ≤ m)), fun w' _ => by simp only [execOp, h1, h2, eqGuard_geq, binOp_geq]; rfl, rfl⟩
theorem q_eql : OpQ P E S (.binOp .eql t x y t') (.v (.bool (decide (m = n)))) := fun b a w hr dst ty pos after gd => by
  have h1 : a.eval x = .int k m := hx b a w hr
  have h2 : a.eval y = .int k n := hy b a w hr
  refine ⟨.bool (decide (m = n)), fun w' hw' => ?_, rfl⟩
  simp only [execOp, h1, h2, eqGuard_at_int, binOp_eql]
  have e : (m == n) = decide (m = n) := by rw [Bool.eq_iff_iff]; simp
  rw [e]; rfl
theorem q_neq : OpQ P E S (.binOp .neq t x y t') (.v (.bool (!decide (m = n)))) := fun b a w hr dst ty pos after gd => by
  have h1 : a.eval x = .int k m := hx b a w hr
  have h2 : a.eval y = .int k n := hy b a w hr
  refine ⟨.bool (!decide (m = n)), fun w' hw' => ?_, rfl⟩
  simp only [execOp, h1, h2, eqGuard_at_int, binOp_neq]
  have e : (m != n) = !decide (m = n) := by rw [Bool.eq_iff_iff]; simp
  rw [e]; rfl
theorem q_and64 : OpQ P E S (.binOp .and t x y t') (.v (.int k (bits .and k m n))) := fun b a w hr dst ty pos after gd => by
  have h1 : a.eval x = .int k m := hx b a w hr
  have h2 : a.eval y = .int k n := hy b a w hr
  exact ⟨_, fun w' _ => by simp only [execOp, h1, h2, eqGuard_and, binOp_and, intBits_and]; rfl, rfl⟩
theorem q_or64 : OpQ P E S (.binOp .or t x y t') (.v (.int k (bits .or k m n))) := fun b a w hr dst ty pos after gd => by
  have h1 : a.eval x = .int k m := hx b a w hr
  have h2 : a.eval y = .int k n := hy b a w hr
  exact ⟨_, fun w' _ => by simp only [execOp, h1, h2, eqGuard_or, binOp_or, intBits_or]; rfl, rfl⟩
theorem q_andNot64 : OpQ P E S (.binOp .andNot t x y t') (.v (.int k (bits .andNot k m n))) := fun b a w hr dst ty pos after gd => by
  have h1 : a.eval x = .int k m := hx b a w hr
  have h2 : a.eval y = .int k n := hy b a w hr
  exact ⟨_, fun w' _ => by simp only [execOp, h1, h2, eqGuard_andNot, binOp_andNot, intBits_andNot]; rfl, rfl⟩
end ints
theorem wrap_in {z : Int} (h1 : -9223372036854775808 ≤ z) (h2 : z ≤ 9223372036854775807) : IntKind.i64.wrap z = z := IntWalk.i64_in _ ⟨h1, h2⟩
section arith
variable {x y : Operand} {t t' : TypeId} {m n : Int} (hx : Val E S x (.v (.int .i64 m))) (hy : Val E S y (.v (.int .i64 n)))
include hx hy
theorem q_add (h : -9223372036854775808 ≤ m + n ∧ m + n ≤ 9223372036854775807) : OpQ P E S (.binOp .add t x y t') (.v (.int .i64 (m + n))) := fun b a w hr dst ty pos after gd => by
  have h1 : a.eval x = .int .i64 m := hx b a w hr
  have h2 : a.eval y = .int .i64 n := hy b a w hr
  refine ⟨.int .i64 (m + n), fun w' hw' => ?_, rfl⟩
  simp only [execOp, h1, h2, eqGuard_add, binOp_add]
  simp [Op.intArith, wrap_in h.1 h.2]
theorem q_sub (h : -9223372036854775808 ≤ m - n ∧ m - n ≤ 9223372036854775807) : OpQ P E S (.binOp .sub t x y t') (.v (.int .i64 (m - n))) := fun b a w hr dst ty pos after gd => by
  have h1 : a.eval x = .int .i64 m := hx b a w hr
  have h2 : a.eval y = .int .i64 n := hy b a w hr
  refine ⟨.int .i64 (m - n), fun w' hw' => ?_, rfl⟩
  simp only [execOp, h1, h2, eqGuard_sub, binOp_sub]
  simp [Op.intArith, wrap_in h.1 h.2]
theorem q_mul (h : -9223372036854775808 ≤ m * n ∧ m * n ≤ 9223372036854775807) : OpQ P E S (.binOp .mul t x y t') (.v (.int .i64 (m * n))) := fun b a w hr dst ty pos after gd => by
  have h1 : a.eval x = .int .i64 m := hx b a w hr
  have h2 : a.eval y = .int .i64 n := hy b a w hr
  refine ⟨.int .i64 (m * n), fun w' hw' => ?_, rfl⟩
  simp only [execOp, h1, h2, eqGuard_mul, binOp_mul]
  simp [Op.intArith, wrap_in h.1 h.2]
theorem q_quo (h : n ≠ 0) (hw : -9223372036854775808 ≤ m.tdiv n ∧ m.tdiv n ≤ 9223372036854775807) : OpQ P E S (.binOp .quo t x y t') (.v (.int .i64 (m.tdiv n))) := fun b a w hr dst ty pos after gd => by
  have h1 : a.eval x = .int .i64 m := hx b a w hr
  have h2 : a.eval y = .int .i64 n := hy b a w hr
  refine ⟨.int .i64 (m.tdiv n), fun w' hw' => ?_, rfl⟩
  simp only [execOp, h1, h2, eqGuard_quo, binOp_quo]
  simp [Op.intDiv, wrap_in hw.1 hw.2, h]
theorem q_rem (h : n ≠ 0) : OpQ P E S (.binOp .rem t x y t') (.v (.int .i64 (m.tmod n))) := fun b a w hr dst ty pos after gd => by
  have h1 : a.eval x = .int .i64 m := hx b a w hr
  have h2 : a.eval y = .int .i64 n := hy b a w hr
  refine ⟨.int .i64 (m.tmod n), fun w' hw' => ?_, rfl⟩
  simp only [execOp, h1, h2, eqGuard_rem, binOp_rem]
  simp [Op.intDiv, h]
end arith
section bools
variable {x y : Operand} {t t' : TypeId} {m n : Bool} (hx : Val E S x (.v (.bool m)))
include hx
theorem q_not : OpQ P E S (.unOp .not t x) (.v (.bool (!m))) := fun b a w hr dst ty pos after gd => by
  have h1 : a.eval x = .bool m := hx b a w hr
  exact ⟨_, fun w' _ => by simp only [execOp, h1, Op.unary]; rfl, rfl⟩
variable (hy : Val E S y (.v (.bool n)))
include hy
theorem q_eqlb (ht : P.underlying t = some .bool) : OpQ P E S (.binOp .eql t x y t') (.v (.bool (m == n))) := fun b a w hr dst ty pos after gd => by
  have h1 : a.eval x = .bool m := hx b a w hr
  have h2 : a.eval y = .bool n := hy b a w hr
  refine ⟨.bool (m == n), fun w' hw' => ?_, rfl⟩
  simp [execOp, h1, h2, eqGuard_at_bool, binOp, Op.equal, Op.maxDepth, run_equalIn_bool _ _ t m n ht]
theorem q_neqb (ht : P.underlying t = some .bool) : OpQ P E S (.binOp .neq t x y t') (.v (.bool (m != n))) := fun b a w hr dst ty pos after gd => by
  have h1 : a.eval x = .bool m := hx b a w hr
  have h2 : a.eval y = .bool n := hy b a w hr
  refine ⟨.bool (m != n), fun w' hw' => ?_, rfl⟩
  have e : (!(m == n)) = (m != n) := rfl
  simp [execOp, h1, h2, eqGuard_at_bool, binOp, Op.equal, Op.maxDepth, run_equalIn_bool _ _ t m n ht, e]
end bools
theorem q_len {x : Operand} {t : TypeId} {n k : Nat} {get : Nat → Nat → SV} (hx : Val E S x (.row n k get)) (ht : P.underlying t = some (.slice (P.elem t))) :
    OpQ P E S (.call { callee := .builtin .len, args := #[x], argTypes := #[t] }) (.v (.int .i64 (n : Int))) := fun b a w hr dst ty pos after gd => by
  obtain ⟨A, c, hv, _⟩ := hx b a w hr
  refine ⟨.int .i64 n, fun w' hw' => ?_, rfl⟩
  simp [execOp, resolve, invoke, builtin, hv, run_len_slice w' t ty A n c ht, goInt]
theorem q_idx {x y : Operand} {t : TypeId} {n k : Nat} {get : Nat → Nat → SV} {kk : IntKind} {i : Int} (hx : Val E S x (.row n k get)) (hy : Val E S y (.v (.int kk i)))
    (ht : P.underlying t = some (.slice (P.elem t))) (hs : ∀ w, (sizeOf (P.elem t)).run P w = .ok k w) (h0 : 0 ≤ i) (h1 : i < n) :
    OpQ P E S (.indexAddr t x y) (.el n k get i.toNat 0) := fun b a w hr dst ty pos after gd => by
  obtain ⟨A, c, hv, hn, hc, hr'⟩ := hx b a w hr
  have h2 : a.eval y = .int kk i := hy b a w hr
  obtain ⟨g, o, rfl, hg, hX, hr'⟩ := hr' (by omega)
  refine ⟨.pointer (some ⟨g, o + (i.toNat * k + 0), none⟩), fun w' hw' => ?_, by omega, g, o, rfl, hg, hX, hr'⟩
  simp [execOp, hv, h2, run_indexAt_slice w' t _ n c kk i ht, h0, h1, hs, Addr.add_lit]
theorem q_idxN {x y : Operand} {t : TypeId} {n k : Nat} {get : Nat → Nat → SV} {kk : IntKind} {i : Nat} (hx : Val E S x (.row n k get)) (hy : Val E S y (.v (.int kk (i : Int))))
    (ht : P.underlying t = some (.slice (P.elem t))) (hs : ∀ w, (sizeOf (P.elem t)).run P w = .ok k w) (h1 : i < n) :
    OpQ P E S (.indexAddr t x y) (.el n k get i 0) := q_idx hx hy ht hs (by omega) (by omega)
theorem q_fld {x : Operand} {t : TypeId} {f : Nat} {n k : Nat} {get : Nat → Nat → SV} {i off : Nat} (fs : Array Field) (fd : Field) (hx : Val E S x (.el n k get i off))
    (ht : P.underlying t = some (.struct fs)) (hf : fs[f]? = some fd) (m : Nat) (hs : ∀ w, (sizeOf fd.type).run P w = .ok (m + 1) w) :
    OpQ P E S (.fieldAddr t x f) (.el n k get i (off + fd.offset)) := fun b a w hr dst ty pos after gd => by
  obtain ⟨hi, g, o, hv, hg, hX, hr'⟩ := hx b a w hr
  refine ⟨.pointer (some ⟨g, o + (i * k + (off + fd.offset)), none⟩), fun w' hw' => ?_, hi, g, o, rfl, hg, hX, hr'⟩
  simp [execOp, hv, Instr.fieldAt, run_underlying ht, hf, Instr.sureAddr, fieldPlace, hs, Addr.add_lit, Nat.add_assoc]
theorem q_ld {x : Operand} {t : TypeId} {n k : Nat} {get : Nat → Nat → SV} {i off : Nat} (hx : Val E S x (.el n k get i off))
    (ht : ∀ w, (isAgg t).run P w = .ok false w) (ho : off < k) : OpQ P E S (.load t x) (get i off) := fun b a w hr dst ty pos after gd => by
  obtain ⟨hi, g, o, hv, hg, hX, hr'⟩ := hx b a w hr
  obtain ⟨u, hu, h1, h2⟩ := hr' i hi off ho
  refine ⟨u, fun w' hw' => ?_, h2.toR⟩
  have hu' := (hw'.cell (p := ⟨g, o + (i * k + off), none⟩) hg).trans hu
  simp [execOp, hv, Instr.loadAt, Instr.sureAddr, loadVar, ht, hu']
theorem run_loadCellsFrom (w : World) (g o : Nat) : ∀ (m j : Nat) (acc : Array Value) (f : Nat → Value), (∀ t, t < m → w.cell? ⟨g, o + (j + t), none⟩ = some (f t)) →
    (loadCellsFrom ⟨g, o, none⟩ j m acc).run P w = .ok (acc ++ (Array.ofFn fun t : Fin m => f t.1)) w
  | 0, j, acc, f, h => by simp [loadCellsFrom]
  | m + 1, j, acc, f, h => by
    have h0 := h 0 (by omega)
    simp only [Nat.add_zero] at h0
    have ih := run_loadCellsFrom w g o m (j + 1) (acc.push (f 0)) (fun t => f (t + 1)) (fun t ht => by have := h (t + 1) (by omega); rw [← this]; congr 2; omega)
    simp only [loadCellsFrom, Sem.run_bind, run_load, Addr.add_lit, h0, Result.andThen_ok, ih]
    congr 1
    apply Array.ext_getElem?
    intro i
    simp only [Array.getElem?_append, Array.size_push, Array.getElem?_push, Array.getElem?_ofFn]
    by_cases h1 : i < acc.size
    · simp [h1, Nat.lt_succ_of_lt h1, Nat.ne_of_lt h1]
    · by_cases h2 : i = acc.size
      · subst h2; simp
      · have h3 : ¬ i < acc.size + 1 := by omega
        simp only [h1, if_false, h3]
        by_cases h4 : i - acc.size < m + 1
        · have h5 : i - (acc.size + 1) < m := by omega
          simp only [h4, h5, dif_pos]
          congr 2; omega
        · have h5 : ¬ i - (acc.size + 1) < m := by omega
          simp [h4, h5]
theorem q_ldA {x : Operand} {t : TypeId} {n k : Nat} {get : Nat → Nat → SV} {i off m : Nat} (hx : Val E S x (.el n k get i off))
    (ht : ∀ w, (isAgg t).run P w = .ok true w) (hs : ∀ w, (sizeOf t).run P w = .ok m w) (ho : off + m ≤ k) : OpQ P E S (.load t x) (.agg m fun j => get i (off + j)) := fun b a w hr dst ty pos after gd => by
  obtain ⟨hi, g, o, hv, hg, hX, hr'⟩ := hx b a w hr
  have hc : ∀ j, j < m → ∃ u, w.cell? ⟨g, o + (i * k + (off + j)), none⟩ = some u ∧ u.oneCell' = true ∧ RO w (S.excl E b) (get i (off + j)) u := fun j hj => hr' i hi (off + j) (by omega)
  let f : Nat → Value := fun j => (w.cell? ⟨g, o + (i * k + (off + j)), none⟩).getD undef
  have hf : ∀ j, j < m → w.cell? ⟨g, o + (i * k + off) + (0 + j), none⟩ = some (f j) := fun j hj => by
    obtain ⟨u, hu, _⟩ := hc j hj
    have e : o + (i * k + off) + (0 + j) = o + (i * k + (off + j)) := by omega
    rw [e]; simp only [f]; rw [hu]; rfl
  have hl := fun (w' : World) (hw' : Below w.heap.size w w') => run_loadCellsFrom (P := P) w' g (o + (i * k + off)) m 0 #[] f (fun j hj => (hw'.cell (p := ⟨g, o + (i * k + off) + (0 + j), none⟩) hg).trans (hf j hj))
  refine ⟨.agg (#[] ++ (Array.ofFn fun t : Fin m => f t.1)), fun w' hw' => ?_, _, rfl, by simp, fun j hj => ?_⟩
  · simp [execOp, hv, Instr.loadAt, Instr.sureAddr, loadVar, ht, hs, loadCells, hl w' hw']
  · obtain ⟨u, hu, h1, h2⟩ := hc j hj
    exact ⟨u, by simp [hj, f, hu], h1, h2.toR⟩

/-! The frame's own boxes. -/
theorem q_fldB {x : Operand} {t : TypeId} {f : Nat} {j off : Nat} (fs : Array Field) (fd : Field) (hx : Val E S x (.bp j off))
    (ht : P.underlying t = some (.struct fs)) (hf : fs[f]? = some fd) (m : Nat) (hs : ∀ w, (sizeOf fd.type).run P w = .ok (m + 1) w) :
    OpQ P E S (.fieldAddr t x f) (.bp j (off + fd.offset)) := fun b a w hr dst ty pos after gd => by
  obtain ⟨g, hb, hv⟩ := hx b a w hr
  refine ⟨.pointer (some ⟨g, off + fd.offset, none⟩), fun w' hw' => ?_, g, hb, rfl⟩
  simp [execOp, hv, Instr.fieldAt, run_underlying ht, hf, Instr.sureAddr, fieldPlace, hs, Addr.add_lit]
theorem box_cell {b : Nat → Value} {a : Act} {w : World} (hr : RepB E b S a w) {j m : Nat} {get : Nat → SV} {ty : TypeId} (ho : lookO j S.owns = some (.box m get ty)) {g : Nat} (hb : b j = .pointer (some ⟨g, 0, none⟩))
    {t : Nat} (ht : t < m) : ∃ u, w.cell? ⟨g, t, none⟩ = some u ∧ u.oneCell' = true ∧ R w (S.excl E b) b (get t) u := by
  obtain ⟨g', cs, hb', _, hh, hm, hc⟩ := hr.owns j _ ho
  rw [hb] at hb'
  simp only [Value.pointer.injEq, Option.some.injEq, Addr.mk.injEq, and_true] at hb'
  subst hb'
  obtain ⟨u, hu, h1, h2⟩ := hc t ht
  exact ⟨u, by rw [cell_of_row w g t cs ty (0, 0) hh]; exact hu, h1, h2⟩
theorem q_ldB {x : Operand} {t : TypeId} {j off m : Nat} {get : Nat → SV} {ty : TypeId} (hx : Val E S x (.bp j off)) (ho : lookO j S.owns = some (.box m get ty))
    (ht : ∀ w, (isAgg t).run P w = .ok false w) (h : off < m) : OpQ P E S (.load t x) (get off) := fun b a w hr dst ty pos after gd => by
  obtain ⟨g, hb, hv⟩ := hx b a w hr
  obtain ⟨u, hu, h1, h2⟩ := box_cell hr ho hb h
  refine ⟨u, fun w' hw' => ?_, h2⟩
  have hu' := (hw'.cell (p := ⟨g, off, none⟩) (World.block_lt_of_cell? w _ hu)).trans hu
  simp [execOp, hv, Instr.loadAt, Instr.sureAddr, loadVar, ht, hu']
/-- A whole struct out of a box, all of whose cells are plain. -/
theorem q_ldBA {x : Operand} {t : TypeId} {j off m q : Nat} {get : Nat → SV} {ty : TypeId} (hx : Val E S x (.bp j off)) (ho : lookO j S.owns = some (.box q get ty))
    (ht : ∀ w, (isAgg t).run P w = .ok true w) (hs : ∀ w, (sizeOf t).run P w = .ok m w) (h : off + m ≤ q) : OpQ P E S (.load t x) (.agg m fun i => get (off + i)) := fun b a w hr dst ty pos after gd => by
  obtain ⟨g, hb, hv⟩ := hx b a w hr
  have hc : ∀ i, i < m → ∃ u, w.cell? ⟨g, off + i, none⟩ = some u ∧ u.oneCell' = true ∧ R w (S.excl E b) b (get (off + i)) u := fun i hi => box_cell hr ho hb (by omega)
  let f : Nat → Value := fun i => (w.cell? ⟨g, off + i, none⟩).getD undef
  have hf : ∀ i, i < m → w.cell? ⟨g, off + (0 + i), none⟩ = some (f i) := fun i hi => by
    obtain ⟨u, hu, _⟩ := hc i hi
    simp only [f, Nat.zero_add]; rw [hu]; rfl
  have hl := fun (w' : World) (hw' : Below w.heap.size w w') => run_loadCellsFrom (P := P) w' g off m 0 #[] f (fun i hi => (hw'.cell (p := ⟨g, off + (0 + i), none⟩) (World.block_lt_of_cell? w _ (hf i hi))).trans (hf i hi))
  refine ⟨.agg (#[] ++ (Array.ofFn fun t : Fin m => f t.1)), fun w' hw' => ?_, _, rfl, by simp, fun i hi => ?_⟩
  · simp [execOp, hv, Instr.loadAt, Instr.sureAddr, loadVar, ht, hs, loadCells, hl w' hw']
  · obtain ⟨u, hu, h1, h2⟩ := hc i hi
    exact ⟨u, by simp [hi, f, hu], h1, h2⟩
theorem q_ext {x : Operand} {i m : Nat} {get : Nat → SV} (hx : Val E S x (.tup m get)) (h : i < m) : OpQ P E S (.extract x i) (get i) := fun b a w hr dst ty pos after gd => by
  obtain ⟨cs, hv, hm, hc⟩ := hx b a w hr
  obtain ⟨u, hu, h2⟩ := hc i h
  refine ⟨u, fun w' hw' => ?_, h2⟩
  simp [execOp, hv, Instr.extract, hu]
end quiet
end Go.Eng
namespace Go.Eng
theorem andl {a b : Bool} (h : (a && b) = true) : a = true := by cases a <;> simp_all
theorem andr {a b : Bool} (h : (a && b) = true) : b = true := by cases b <;> simp_all
theorem andI {a b : Bool} (h : a = true) (k : b = true) : (a && b) = true := by rw [h, k]; rfl
theorem notT {a : Bool} (h : a = false) : (!a) = true := by rw [h]; rfl
def iv (n : Int) : SV := .v (.int .i64 n)
theorem ff {b : Bool} (h : b = false) : ¬ (b = true) := by rw [h]; decide
def bv (b : Bool) : SV := .v (.bool b)
def uc2 {α β γ : Type _} (f : α → β → γ) (p : α × β) : γ := f p.1 p.2
def uc3 {α β γ δ : Type _} (f : α → β → γ → δ) (p : α × β × γ) : δ := f p.1 p.2.1 p.2.2
def uc4 {α β γ δ ε : Type _} (f : α → β → γ → δ → ε) (p : α × β × γ × δ) : ε := f p.1 p.2.1 p.2.2.1 p.2.2.2
def uc5 {α β γ δ ε ζ : Type _} (f : α → β → γ → δ → ε → ζ) (p : α × β × γ × δ × ε) : ζ := f p.1 p.2.1 p.2.2.1 p.2.2.2.1 p.2.2.2.2
def uc6 {α β γ δ ε ζ η : Type _} (f : α → β → γ → δ → ε → ζ → η) (p : α × β × γ × δ × ε × ζ) : η := f p.1 p.2.1 p.2.2.1 p.2.2.2.1 p.2.2.2.2.1 p.2.2.2.2.2
end Go.Eng

namespace Go.Eng
open Go.RowKit
variable {P : Program} {E : Env}

/-! Calls: a contract over symbolic values. -/
def ROs (w : World) (X : Nat → Prop) : List SV → List Value → Prop
  | [], [] => True
  | s :: ss, v :: vs => RO w X s v ∧ ROs w X ss vs
  | _, _ => False

def Ct (P : Program) (f : FuncId) (args : List SV) (r : SV) : Prop :=
  ∀ (w : World) (X : Nat → Prop) (vals : List Value), (∀ g, X g → g < w.heap.size) → ROs w X args vals →
    Calls P f vals.toArray w fun e w' => ∃ v, e = .returned v ∧ RO w' X r v ∧ Below w.heap.size w w'

def SV.isRO : SV → Bool
  | .v _ | .row .. | .el .. | .abs .. => true
  | .agg m get => allB (fun t => (get t).isRO) m
  | .tup m get => allB (fun t => (get t).isRO) m
  | .fn _ caps => caps.isEmpty
  | _ => false
theorem R.toRO {w : World} {X : Nat → Prop} {b : Nat → Value} {x : SV} {val : Value} (h : R w X b x val) (hx : x.isRO = true) : RO w X x val := by
  induction x generalizing val with
  | fn f caps =>
    cases caps with
    | nil => exact ⟨rfl, h⟩
    | cons => simp [SV.isRO] at hx
  | v x => exact h
  | row n k get ih => exact h
  | el n k get i off ih => exact h
  | agg m get ih =>
    obtain ⟨cs, rfl, hm, hr⟩ := h
    refine ⟨cs, rfl, hm, fun t ht => ?_⟩
    obtain ⟨u, hu, h1, h2⟩ := hr t ht
    exact ⟨u, hu, h1, ih t h2 (allB_iff hx t ht)⟩
  | tup m get ih =>
    obtain ⟨cs, rfl, hm, hr⟩ := h
    refine ⟨cs, rfl, hm, fun t ht => ?_⟩
    obtain ⟨u, hu, h2⟩ := hr t ht
    exact ⟨u, hu, ih t h2 (allB_iff hx t ht)⟩
  | bp j off => simp [SV.isRO] at hx
  | own j => simp [SV.isRO] at hx
  | oe j k i off => simp [SV.isRO] at hx
  | grd c x ih => simp [SV.isRO] at hx
  | junk => simp [SV.isRO] at hx
  | abs p hp => exact h

def Vals (E : Env) (S : St) : List Operand → List SV → Prop
  | [], [] => True
  | x :: xs, s :: ss => (Val E S x s ∧ s.isRO = true) ∧ Vals E S xs ss
  | _, _ => False
theorem Vals.ros {S : St} {b : Nat → Value} {a : Act} {w : World} (hr : RepB E b S a w) : ∀ {xs : List Operand} {ss : List SV}, Vals E S xs ss → ROs w (S.excl E b) ss (xs.map a.eval)
  | [], [], _ => trivial
  | _ :: _, _ :: _, h => ⟨(h.1.1 b a w hr).toRO h.1.2, Vals.ros hr h.2⟩
  | [], _ :: _, h => h.elim
  | _ :: _, [], h => h.elim

/-- A call goes to the function's own text. -/
def Enters (P : Program) (f : FuncId) : Prop := ∀ args w, (callFunc f args).run P w = .ok (.enter f args) w

theorem run_call {f : FuncId} (hf : Enters P f) (a : Act) (xs : List Operand) (ats : Array TypeId) (dst : Option Tmp) (ty : TypeId) (pos : String) (after : Array Edge) (gd : Option (Nat × Bool)) (w : World) :
    (execOp a.eval { dst, op := .call { callee := .value (.func f), args := xs.toArray, argTypes := ats }, type := ty, pos, after, guard := gd }).run P w = .ok (.enter f (xs.map a.eval).toArray) w := by
  rw [execOp_call_go]
  rw [hf]
  simp

/-! Quiet regions: in whatever order. -/
def ClB (w w' : World) : Prop := Below w.heap.size w w'

def TQ (P : Program) (E : Env) (ops : Array Oper) (rest : List Oper) (S : St) (K : St → Prop) : Prop :=
  ∀ b a w, RepB E b S a w → wpQuiet P ops (ClB w) (fun a' => ∃ S', K S' ∧ RepB E b S' a' w) rest a

theorem tq_nil {ops : Array Oper} {S : St} {K : St → Prop} (h : K S) : TQ P E ops [] S K := fun _ _ _ hr => ⟨S, h, hr⟩

def nextQ (S : St) (d : Nat) (x : SV) : St := ⟨(d, x) :: S.slots, S.owns⟩

theorem quiet_of {S : St} {op : Op} {x : SV} (h : OpQ P E S op x) {b : Nat → Value} {a : Act} {w : World} (hr : RepB E b S a w) {dst : Option Tmp} {ty : TypeId} {pos : String} {after : Array Edge} {gd : Option (Nat × Bool)} :
    ∃ v, (∀ w', ClB w w' → Oper.quietAt P { dst, op, type := ty, pos, after, guard := gd } a (ClB w) w' v) ∧ R w (S.excl E b) b x v := by
  obtain ⟨v, h1, h2⟩ := h b a w hr dst ty pos after gd
  refine ⟨v, fun w' hw' => ?_, h2⟩
  unfold Oper.quietAt
  rw [h1 w' hw']
  exact ⟨rfl, rfl⟩

theorem tq_op {ops : Array Oper} {rest : List Oper} {S : St} {K : St → Prop} {d : Tmp} {op : Op} {ty : TypeId} {pos : String} {after : Array Edge} {x : SV} (hd : d < E.N) (h : OpQ P E S op x) (hk : TQ P E ops rest (nextQ S d x) K) :
    TQ P E ops ({ dst := some d, op, type := ty, pos, after, guard := none } :: rest) S K := fun b a w hr => by
  obtain ⟨v, h1, h2⟩ := quiet_of h hr (dst := some d) (ty := ty) (pos := pos) (after := after) (gd := none)
  unfold wpQuiet
  rw [if_pos (by rfl)]
  exact ⟨v, h1, hk b _ w (hr.put hd h2)⟩

/-- A quiet call: a plain value comes back. -/
theorem tq_call {ops : Array Oper} {rest : List Oper} {S : St} {K : St → Prop} {d : Tmp} {f : FuncId} {xs : List Operand} {ats : Array TypeId} {ty : TypeId} {pos : String} {after : Array Edge} {args : List SV} {x : Value}
    (hf : Enters P f) (hd : d < E.N) (ha : Vals E S xs args) (h : Ct P f args (.v x)) (hk : TQ P E ops rest (nextQ S d (.v x)) K) :
    TQ P E ops ({ dst := some d, op := .call { callee := .value (.func f), args := xs.toArray, argTypes := ats }, type := ty, pos, after, guard := none } :: rest) S K := fun b a w hr => by
  unfold wpQuiet
  rw [if_pos (by rfl)]
  refine ⟨x, fun w' hw' => ?_, hk b _ w (hr.put hd rfl)⟩
  unfold Oper.quietAt
  rw [run_call hf]
  refine ⟨rfl, (h w' (S.excl E b) _ (fun g hg => Nat.lt_of_lt_of_le (hr.excl_lt hg) hw'.size) ((hr.world hw' : RepB E b S a w') |> ha.ros)).mono ?_⟩
  rintro e w'' ⟨v, rfl, hv, hb⟩
  have : v = x := hv
  subst this
  exact ⟨rfl, hw'.trans (hb.mono hw'.size)⟩

theorem wanted_guard {ops : Array Oper} {i g : Nat} {want t : Bool} {o : Oper} (ho : o.guard = some (i, want)) (hg : (ops[i]?).bind (·.dst) = some g) {tm : Array Value} (hs : tm.getD g undef = .bool t) :
    Region.wanted o (yielded ops tm) = (t == want) := by
  have h1 : tm[g]? = some (.bool t) := by
    rw [Array.getD_eq_getD_getElem?] at hs
    cases h : tm[g]? with
    | none => rw [h] at hs; simp [undef] at hs
    | some u => rw [h] at hs; simp at hs; rw [hs]
  simp only [Region.wanted, ho, yielded, hg, Option.bind_some, h1]
  cases t <;> cases want <;> rfl
theorem wanted_undef {ops : Array Oper} {i g : Nat} {want : Bool} {o : Oper} (ho : o.guard = some (i, want)) (hg : (ops[i]?).bind (·.dst) = some g) {tm : Array Value} (hs : tm.getD g undef = undef) :
    Region.wanted o (yielded ops tm) = false := by
  simp only [Region.wanted, ho, yielded, hg, Option.bind_some]
  rw [Array.getD_eq_getD_getElem?] at hs
  cases h : tm[g]? with
  | none => rfl
  | some u =>
    rw [h] at hs
    have : u = undef := by simpa using hs
    subst this; rfl

/-- A guard: which Bool says that the operation is carried out. -/
def Guard (E : Env) (S : St) (ops : Array Oper) (gd : Nat × Bool) (c : Bool) : Prop :=
  ∀ b a w, RepB E b S a w → ∀ o : Oper, o.guard = some gd → Region.wanted o (yielded ops a.tmps) = c

theorem g_yes {S : St} {ops : Array Oper} {i g : Nat} {t : Bool} (hg : (ops[i]?).bind (·.dst) = some g) (h : look g S.slots = some (.v (.bool t))) : Guard E S ops (i, true) t := fun b a w hr o ho => by
  rw [wanted_guard ho hg (t := t) (hr.slots g _ h)]; cases t <;> rfl
theorem g_no {S : St} {ops : Array Oper} {i g : Nat} {t : Bool} (hg : (ops[i]?).bind (·.dst) = some g) (h : look g S.slots = some (.v (.bool t))) : Guard E S ops (i, false) (!t) := fun b a w hr o ho => by
  rw [wanted_guard ho hg (t := t) (hr.slots g _ h)]; cases t <;> rfl
theorem g_gyes {S : St} {ops : Array Oper} {i g : Nat} {c t : Bool} (hg : (ops[i]?).bind (·.dst) = some g) (h : look g S.slots = some (.grd c (.v (.bool t)))) : Guard E S ops (i, true) (c && t) := fun b a w hr o ho => by
  have h1 := hr.slots g _ h
  cases c with
  | false => exact wanted_undef ho hg (h1.2 rfl)
  | true => rw [wanted_guard ho hg (t := t) (h1.1 rfl)]; cases t <;> rfl
theorem g_gno {S : St} {ops : Array Oper} {i g : Nat} {c t : Bool} (hg : (ops[i]?).bind (·.dst) = some g) (h : look g S.slots = some (.grd c (.v (.bool t)))) : Guard E S ops (i, false) (c && !t) := fun b a w hr o ho => by
  have h1 := hr.slots g _ h
  cases c with
  | false => exact wanted_undef ho hg (h1.2 rfl)
  | true => rw [wanted_guard ho hg (t := t) (h1.1 rfl)]; cases t <;> rfl

theorem tq_opG {ops : Array Oper} {rest : List Oper} {S : St} {K : St → Prop} {d : Tmp} {op : Op} {ty : TypeId} {pos : String} {after : Array Edge} {x : SV} {gd : Nat × Bool} {c : Bool} (hg : Guard E S ops gd c) (hd : d < E.N)
    (h : c = true → OpQ P E S op x) (hk : TQ P E ops rest (nextQ S d (.grd c x)) K) :
    TQ P E ops ({ dst := some d, op, type := ty, pos, after, guard := some gd } :: rest) S K := fun b a w hr => by
  unfold wpQuiet
  rw [hg b a w hr _ rfl]
  cases c with
  | false => exact hk b _ w (hr.put hd ⟨(fun h => by cases h), fun _ => rfl⟩)
  | true =>
    obtain ⟨v, h1, h2⟩ := quiet_of (h rfl) hr (dst := some d) (ty := ty) (pos := pos) (after := after) (gd := some gd)
    exact ⟨v, h1, hk b _ w (hr.put hd ⟨fun _ => h2, fun h => by cases h⟩)⟩

theorem tq_callG {ops : Array Oper} {rest : List Oper} {S : St} {K : St → Prop} {d : Tmp} {f : FuncId} {xs : List Operand} {ats : Array TypeId} {ty : TypeId} {pos : String} {after : Array Edge} {args : List SV} {x : Value} {gd : Nat × Bool} {c : Bool}
    (hg : Guard E S ops gd c) (hf : Enters P f) (hd : d < E.N) (ha : c = true → Vals E S xs args) (h : c = true → Ct P f args (.v x)) (hk : TQ P E ops rest (nextQ S d (.grd c (.v x))) K) :
    TQ P E ops ({ dst := some d, op := .call { callee := .value (.func f), args := xs.toArray, argTypes := ats }, type := ty, pos, after, guard := some gd } :: rest) S K := fun b a w hr => by
  unfold wpQuiet
  rw [hg b a w hr _ rfl]
  cases c with
  | false => exact hk b _ w (hr.put hd ⟨(fun h => by cases h), fun _ => rfl⟩)
  | true =>
    refine ⟨x, fun w' hw' => ?_, hk b _ w (hr.put hd ⟨fun _ => rfl, fun h => by cases h⟩)⟩
    unfold Oper.quietAt
    rw [run_call hf]
    refine ⟨rfl, (h rfl w' (S.excl E b) _ (fun g hg => Nat.lt_of_lt_of_le (hr.excl_lt hg) hw'.size) ((hr.world hw' : RepB E b S a w') |> (ha rfl).ros)).mono ?_⟩
    rintro e w'' ⟨v, rfl, hv, hb⟩
    have : v = x := hv
    subst this
    exact ⟨rfl, hw'.trans (hb.mono hw'.size)⟩

/-! Code. -/
def C (P : Program) (E : Env) (c : Code) (S : St) (Q : Exit → Act → World → Prop) : Prop := ∀ a w, Rep E S a w → c.wp P Q a w

theorem wpList_of_quiet {ops : Array Oper} {Cl : World → Prop} {K : Act → Prop} {Q : Exit → Act → World → Prop} : ∀ {l : List Oper} {a : Act} {w : World}, Cl w → wpQuiet P ops Cl K l a → (∀ a' w', Cl w' → K a' → Q .normal a' w') → wpList P ops Q l a w
  | [], a, w, hw, h, hq => hq a w hw h
  | o :: rest, a, w, hw, h, hq => by
    unfold wpQuiet at h
    unfold wpList
    split
    · rename_i hwt
      rw [if_pos hwt] at h
      exact .inl (Oper.wp_of_quiet (K := wpQuiet P ops Cl K rest) hw (fun a w' hw' h' => wpList_of_quiet hw' h' hq) h)
    · rename_i hwt
      rw [if_neg hwt] at h
      exact wpList_of_quiet hw h hq

theorem ClB.rep {S : St} {b : Nat → Value} {a : Act} {w w' : World} (h : ClB w w') (hr : RepB E b S a w) : RepB E b S a w' := hr.world h

theorem c_rq {id : Nat} {l : List Oper} {S : St} {Q : Exit → Act → World → Prop} (h : TQ P E l.toArray l S fun S' => ∀ a w, Rep E S' a w → Q .normal a w) : C P E (.region id l.toArray false) S Q := by
  rintro a w ⟨b, hr⟩
  refine wp_region_lit (wpList_of_quiet (Cl := ClB w) (Below.refl _ _) (h b a w hr) ?_)
  rintro a' w' hw' ⟨S', hk, hr'⟩
  exact hk _ _ ⟨b, hr'.world hw'⟩
theorem c_rqd {id : Nat} {l : List Oper} {S : St} {Q : Exit → Act → World → Prop} (hm : P.follows .mixedOrders = true) (hB : Region.lexB .any l.toArray = true)
    (h : TQ P E l.toArray l S fun S' => ∀ a w, Rep E S' a w → Q .normal a w) : C P E (.region id l.toArray true) S Q := by
  rintro a w ⟨b, hr⟩
  refine wp_region_quiet (C := ClB w) hm hB (below_drew w) ?_
  have h1 := h b a w hr
  have hmono : ∀ (l' : List Oper) (a : Act), wpQuiet P l.toArray (ClB w) (fun a' => ∃ S', (∀ a w, Rep E S' a w → Q .normal a w) ∧ RepB E b S' a' w) l' a → wpQuiet P l.toArray (ClB w) (fun a' => ∀ w', ClB w w' → Q .normal a' w') l' a := by
    intro l'
    induction l' with
    | nil =>
      rintro a ⟨S', hk, hr'⟩ w' hw'
      exact hk _ _ ⟨b, hr'.world hw'⟩
    | cons o l' ih =>
      intro a h
      unfold wpQuiet at h ⊢
      split
      · rename_i hwt
        rw [if_pos hwt] at h
        exact Oper.quiet_mono (fun a => ih a) h
      · rename_i hwt
        rw [if_neg hwt] at h
        exact ih _ h
  exact hmono _ _ h1

theorem c_seq {x y : Code} {S : St} {Q : Exit → Act → World → Prop} (h : C P E x S (Exit.then (fun a w => y.wp P Q a w) Q)) : C P E (.seq x y) S Q := fun a w hr => wp_seq (h a w hr)
theorem c_seqJ {x y : Code} {S : St} {Q : Exit → Act → World → Prop} (J : Act → World → Prop) (h : C P E x S (Exit.then J Q)) (hy : ∀ a w, J a w → y.wp P Q a w) : C P E (.seq x y) S Q := fun a w hr =>
  wp_seq (wp_mono (h a w hr) fun e a w hq => by cases e <;> first | exact hy _ _ hq | exact hq)
theorem c_cond {c : Operand} {x y : Code} {S : St} {Q : Exit → Act → World → Prop} {t : Bool} (hc : Val E S c (.v (.bool t))) (hx : t = true → C P E x S Q) (hy : t = false → C P E y S Q) : C P E (.cond c x y) S Q := by
  rintro a w ⟨b, hr⟩
  exact wp_cond_split (hc b a w hr) (fun h => hx h a w ⟨b, hr⟩) (fun h => hy h a w ⟨b, hr⟩)
theorem c_skip {S : St} {Q : Exit → Act → World → Prop} (h : ∀ a w, Rep E S a w → Q .normal a w) : C P E .skip S Q := fun a w hr => wp_skip (h a w hr)
theorem c_ret {S : St} {Q : Exit → Act → World → Prop} (h : ∀ a w, Rep E S a w → Q .ret a w) : C P E .ret S Q := fun a w hr => wp_ret (h a w hr)
theorem c_exit {S : St} {id : Nat} {Q : Exit → Act → World → Prop} (h : ∀ a w, Rep E S a w → Q (.exit id) a w) : C P E (.exit id) S Q := fun a w hr => wp_exit (h a w hr)
theorem c_block {S : St} {id : Nat} {c : Code} {Q : Exit → Act → World → Prop} (h : C P E c S (Exit.inBlock id Q)) : C P E (.block id c) S Q := fun a w hr => wp_block (h a w hr)

theorem C.forget {c : Code} {S : St} {Q : Exit → Act → World → Prop} (h : ∀ a w, Rep E S a w → c.wp P Q a w) : C P E c S Q := h

/-- From one state to a weaker one. -/
def Weak (E : Env) (S S' : St) : Prop := ∀ b a w, RepB E b S a w → RepB E b S' a w
theorem Weak.c {c : Code} {S S' : St} {Q : Exit → Act → World → Prop} (h : Weak E S S') (hc : C P E c S' Q) : C P E c S Q := fun a w ⟨b, hr⟩ => hc a w ⟨b, h b a w hr⟩

theorem c_loop {body : Code} {S : St} {Q : Exit → Act → World → Prop} {ι : Type} (T : ι → St) (I : ι → Prop) (μ : ι → Nat) (i0 : ι) (h0 : I i0) (hw : Weak E S (T i0))
    (round : ∀ i, I i → C P E body (T i) (Exit.then (fun a w => ∃ i', (I i' ∧ μ i' < μ i) ∧ Rep E (T i') a w) Q)) : C P E (.loop body) S Q := by
  rintro a w ⟨b0, hr0⟩ b k cs
  have key : ∀ n i a w, μ i = n → I i → Rep E (T i) a w →
      ∃ e a' w', Q e a' w' ∧ Arrives P (lone (b.at a (.code body :: .inLoop body :: k)) cs w) b k cs e a' w' := by
    intro n
    induction n using Nat.strongRecOn with
    | _ n ih =>
      intro i a w hn hI hr
      obtain ⟨e, a₁, w₁, hq, harr⟩ := round i hI a w hr b (.inLoop body :: k) cs
      cases e with
      | normal =>
        obtain ⟨i', ⟨hI', hlt⟩, hr'⟩ := hq
        obtain ⟨e₂, a₂, w₂, hq₂, harr₂⟩ := ih (μ i') (hn ▸ hlt) i' a₁ w₁ rfl hI' hr'
        exact ⟨e₂, a₂, w₂, hq₂, .of_steps (Steps.trans harr (.one step_inLoop)) harr₂⟩
      | exit id => exact ⟨_, a₁, w₁, hq, .pass (x := .inLoop body) rfl (fun _ _ => .inl (by simp)) harr⟩
      | goto l => exact ⟨_, a₁, w₁, hq, .pass (x := .inLoop body) rfl (fun _ _ => .inl (by simp)) harr⟩
      | ret => exact ⟨_, a₁, w₁, hq, .pass (x := .inLoop body) rfl (fun _ _ => .inl (by simp)) harr⟩
      | panic ch => exact ⟨_, a₁, w₁, hq, .pass (x := .inLoop body) rfl (fun _ _ => .inl (by simp)) harr⟩
      | outgrown => exact ⟨_, a₁, w₁, hq, .pass (x := .inLoop body) rfl (fun _ _ => .inl (by simp)) harr⟩
  obtain ⟨e, a', w', hq, harr⟩ := key _ i0 a w rfl h0 ⟨b0, hw b0 a w hr0⟩
  exact ⟨e, a', w', hq, .of_steps (.one step_loop) harr⟩

/-! Weaker states. -/
def AllV (E : Env) (S : St) : List (Nat × SV) → Prop
  | [] => True
  | p :: r => Val E S (.tmp p.1) p.2 ∧ AllV E S r
theorem AllV.look {S : St} : ∀ {l : List (Nat × SV)}, AllV E S l → ∀ s x, look s l = some x → Val E S (.tmp s) x
  | [], _, s, x, h => by simp [Eng.look] at h
  | (d, y) :: r, hv, s, x, h => by
    rw [look_cons] at h
    split at h
    · rename_i e
      injection h with h
      subst h; subst e
      exact hv.1
    · exact AllV.look hv.2 s x h
def AllO (S : St) : List (Nat × Own) → Prop
  | [] => True
  | p :: r => lookO p.1 S.owns = some p.2 ∧ AllO S r
theorem AllO.look {S : St} : ∀ {l : List (Nat × Own)}, AllO S l → ∀ s x, lookO s l = some x → lookO s S.owns = some x
  | [], _, s, x, h => by simp [Eng.lookO] at h
  | (d, y) :: r, hv, s, x, h => by
    rw [lookO_cons] at h
    split at h
    · rename_i e
      injection h with h
      subst h; subst e
      exact hv.1
    · exact AllO.look hv.2 s x h

theorem OwnOk.mono {w : World} {X X' : Nat → Prop} {base : Nat} {b : Nat → Value} {j : Nat} {o : Own} (hX : ∀ g, X' g → X g) (h : OwnOk w X base b j o) : OwnOk w X' base b j o := by
  have he : Ext X w w := ⟨Nat.le_refl _, fun _ _ _ => rfl⟩
  cases o with
  | box m get ty =>
    obtain ⟨g, cs, hb, hbase, hh, hm, hr⟩ := h
    refine ⟨g, cs, hb, hbase, hh, hm, fun t ht => ?_⟩
    obtain ⟨u, hu, h2, h3⟩ := hr t ht
    exact ⟨u, hu, h2, h3.mono he (fun g _ hh => hX g hh)⟩
  | arow n k get elem =>
    obtain ⟨xs, hown, hr⟩ := h
    refine ⟨xs, hown, fun i hi t ht => ?_⟩
    obtain ⟨u, hu, h2, h3⟩ := hr i hi t ht
    exact ⟨u, hu, h2, h3.mono he (fun g _ hh => hX g hh)⟩

theorem weak {S : St} {sl : List (Nat × SV)} {ow : List (Nat × Own)} (hs : AllV E S sl) (ho : AllO S ow) : Weak E S ⟨sl, ow⟩ := fun b a w hr => by
  have hX : ∀ g, St.excl ⟨sl, ow⟩ E b g → S.excl E b g := by
    rintro g (h | ⟨j, o, h1, h2⟩)
    · exact .inl h
    · exact .inr ⟨j, o, ho.look _ _ h1, h2⟩
  exact {
    size := hr.size
    defers := hr.defers
    below := hr.below
    slots := fun s x hx => (hs.look s x hx b a w hr).mono ⟨Nat.le_refl _, fun _ _ _ => rfl⟩ (fun g _ hh => hX g hh)
    owns := fun j o h => (hr.owns j o (ho.look _ _ h)).mono hX
    apart := fun i j oi oj h1 h2 => hr.apart i j oi oj (ho.look _ _ h1) (ho.look _ _ h2) }

/-! A function's body. -/
def PostR (E : Env) (r : SV) : Ending → World → Prop := fun e w' => ∃ v, e = .returned v ∧ RO w' E.X r v ∧ Below E.w0.heap.size E.w0 w'

def argSlots : Nat → List SV → List (Nat × SV)
  | _, [] => []
  | s, x :: xs => (s, x) :: argSlots (s + 1) xs

theorem rep_args {w : World} {X : Nat → Prop} : ∀ {args : List SV} {vals : List Value} {s : Nat} {pre : List Value} {t : List Value}, ROs w X args vals → pre.length = s →
    ∀ q x, look q (argSlots s args) = some x → RO w X x ((pre ++ vals ++ t).toArray.getD q undef)
  | [], [], s, pre, t, _, _, q, x, h => by simp [argSlots, look] at h
  | y :: ys, v :: vs, s, pre, t, hr, hp, q, x, h => by
    simp only [argSlots] at h
    rw [look_cons] at h
    split at h
    · rename_i e
      injection h with h
      subst h; subst e; subst hp
      have : (pre ++ v :: vs ++ t).toArray.getD pre.length undef = v := by simp [Array.getD_eq_getD_getElem?, List.append_assoc]
      rw [this]; exact hr.1
    · have := rep_args (t := t) (pre := pre ++ [v]) (s := s + 1) hr.2 (by simp [hp]) q x h
      simpa [List.append_assoc] using this
  | [], _ :: _, s, pre, t, h, _, _, _, _ => h.elim
  | _ :: _, [], s, pre, t, h, _, _, _, _ => h.elim

theorem ros_len {w : World} {X : Nat → Prop} : ∀ {args : List SV} {vals : List Value}, ROs w X args vals → vals.length = args.length
  | [], [], _ => rfl
  | _ :: ys, _ :: vs, h => by simp [ros_len (args := ys) (vals := vs) h.2]
  | [], _ :: _, h => h.elim
  | _ :: _, [], h => h.elim

theorem ct_of {f : FuncId} {fn : Func} {c : Code} {args : List SV} {r : SV} (hf : P.funcs[f]? = some fn) (hb : fn.body = some c) (hn : args.length ≤ fn.ntmps)
    (h : ∀ E : Env, E.N = fn.ntmps → C P E c ⟨argSlots 0 args, []⟩ (bodyPost P fn (PostR E r))) : Ct P f args r := by
  intro w X vals hX hr
  refine calls_of_wp hf hb ?_
  refine h ⟨w, X, hX, fn.ntmps⟩ rfl _ _ ⟨fun _ => undef, ?_⟩
  have hl := ros_len hr
  exact {
    size := by simp; omega
    defers := rfl
    below := Below.refl _ _
    slots := fun s x hx => by
      have h1 := rep_args (pre := []) (t := List.replicate (fn.ntmps - vals.length) undef) hr rfl s x hx
      have e : (vals.toArray ++ Array.replicate (fn.ntmps - vals.toArray.size) undef) = ([] ++ vals ++ List.replicate (fn.ntmps - vals.length) undef).toArray := by simp
      have h2 : RO w (St.excl ⟨argSlots 0 args, []⟩ ⟨w, X, hX, fn.ntmps⟩ fun _ => undef) x ((vals.toArray ++ Array.replicate (fn.ntmps - vals.toArray.size) undef).getD s undef) := by
        rw [e]
        refine h1.mono ⟨Nat.le_refl _, fun _ _ _ => rfl⟩ ?_
        rintro g _ (hh | ⟨j, o, hh, _⟩)
        · exact hh
        · simp [lookO] at hh
      exact h2.toR
    owns := fun j o h => by simp [lookO] at h
    apart := fun i j oi oj h => by simp [lookO] at h }

theorem post_ret {fn : Func} {r : SV} {b : Nat → Value} {S : St} {a : Act} {w : World} (hr : RepB E b S a w) {v : Value} (hv : (results fn a.tmps).run P w = .ok v w) (hx : RO w (S.excl E b) r v) :
    bodyPost P fn (PostR E r) .ret a w :=
  ⟨hr.defers, v, hv, v, rfl, hx.mono ⟨Nat.le_refl _, fun _ _ _ => rfl⟩ (fun _ _ hh => .inl hh), hr.below⟩

theorem ret1 {fn : Func} {t : Tmp} {S : St} {x r : SV} (hres : fn.results = #[.tmp t]) (h : Val E S (.tmp t) x) (hro : x.isRO = true) (e : x = r) :
    ∀ a w, Rep E S a w → bodyPost P fn (PostR E r) .ret a w := by
  rintro a w ⟨b, hr⟩
  subst e
  exact post_ret hr (results_tmp hres _ _ _) ((h b a w hr).toRO hro)
def sv2 (x y : SV) : SV := .tup 2 fun i => match i with | 0 => x | _ => y
def sv3 (x y z : SV) : SV := .tup 3 fun i => match i with | 0 => x | 1 => y | _ => z
theorem ret2 {fn : Func} {t u : Tmp} {S : St} {x y r : SV} (hres : fn.results = #[.tmp t, .tmp u]) (hx : Val E S (.tmp t) x) (hy : Val E S (.tmp u) y) (h1 : x.isRO = true) (h2 : y.isRO = true) (e : sv2 x y = r) :
    ∀ a w, Rep E S a w → bodyPost P fn (PostR E r) .ret a w := by
  rintro a w ⟨b, hr⟩
  subst e
  refine post_ret hr (results_tmp2 hres _ _ _) ⟨_, rfl, rfl, fun i hi => ?_⟩
  match i, hi with
  | 0, _ => exact ⟨_, rfl, (hx b a w hr).toRO h1⟩
  | 1, _ => exact ⟨_, rfl, (hy b a w hr).toRO h2⟩
theorem results_tmp3 {fn : Func} {t u q : Tmp} (h : fn.results = #[.tmp t, .tmp u, .tmp q]) (tmps : Array Value) (P : Program) (w : World) :
    (results fn tmps).run P w = .ok (.tuple #[tmps.getD t undef, tmps.getD u undef, tmps.getD q undef]) w := by
  simp [results, h]
theorem ret3 {fn : Func} {t u q : Tmp} {S : St} {x y z r : SV} (hres : fn.results = #[.tmp t, .tmp u, .tmp q]) (hx : Val E S (.tmp t) x) (hy : Val E S (.tmp u) y) (hz : Val E S (.tmp q) z)
    (h1 : x.isRO = true) (h2 : y.isRO = true) (h3 : z.isRO = true) (e : sv3 x y z = r) : ∀ a w, Rep E S a w → bodyPost P fn (PostR E r) .ret a w := by
  rintro a w ⟨b, hr⟩
  subst e
  refine post_ret hr (results_tmp3 hres _ _ _) ⟨_, rfl, rfl, fun i hi => ?_⟩
  match i, hi with
  | 0, _ => exact ⟨_, rfl, (hx b a w hr).toRO h1⟩
  | 1, _ => exact ⟨_, rfl, (hy b a w hr).toRO h2⟩
  | 2, _ => exact ⟨_, rfl, (hz b a w hr).toRO h3⟩
end Go.Eng

namespace Go.Eng
open Go.RowKit
variable {P : Program} {E : Env}

/-! Regions in the text's own order, in which the world may turn. -/
def T (P : Program) (E : Env) (ops : Array Oper) (rest : List Oper) (S : St) (K : St → Prop) : Prop :=
  ∀ a w, Rep E S a w → ∀ Q : Exit → Act → World → Prop, (∀ S' a w, K S' → Rep E S' a w → Q .normal a w) → wpList P ops Q rest a w

theorem c_rt {id : Nat} {l : List Oper} {S : St} {Q : Exit → Act → World → Prop} (h : T P E l.toArray l S fun S' => ∀ a w, Rep E S' a w → Q .normal a w) : C P E (.region id l.toArray false) S Q :=
  fun a w hr => wp_region_lit (h a w hr Q fun _ a w hk hr => hk a w hr)

theorem t_nil {ops : Array Oper} {S : St} {K : St → Prop} (h : K S) : T P E ops [] S K := fun a w hr _ hq => hq S a w h hr

theorem wp_of_run {o : Oper} {a : Act} {w w' : World} {v : Value} {N : Act → World → Prop} {Q : Exit → Act → World → Prop} (h : (execOp a.eval o).run P w = .ok (.value v) w') (hn : N (a.put o.dst v) w') : o.wp P a w N Q := by
  unfold Oper.wp; rw [h]; exact hn
theorem wp_of_skip {o : Oper} {a : Act} {w w' : World} {N : Act → World → Prop} {Q : Exit → Act → World → Prop} (h : (execOp a.eval o).run P w = .ok .skip w') (hn : N (a.put o.dst undef) w') : o.wp P a w N Q := by
  unfold Oper.wp; rw [h]; exact hn
theorem wp_of_enter {o : Oper} {a : Act} {w w' : World} {f : FuncId} {args : Array Value} {R : Value → World → Prop} {N : Act → World → Prop} {Q : Exit → Act → World → Prop} (h : (execOp a.eval o).run P w = .ok (.enter f args) w')
    (hc : Calls P f args w' fun e w'' => ∃ v, e = .returned v ∧ R v w'') (hn : ∀ v w'', R v w'' → N (a.put o.dst v) w'') : o.wp P a w N Q := by
  unfold Oper.wp; rw [h]
  exact hc.mono fun e w'' ⟨v, he, hr⟩ => by subst he; exact hn v w'' hr

theorem t_op {ops : Array Oper} {rest : List Oper} {S : St} {K : St → Prop} {d : Tmp} {op : Op} {ty : TypeId} {pos : String} {after : Array Edge} {x : SV} (hd : d < E.N) (h : OpQ P E S op x) (hk : T P E ops rest (nextQ S d x) K) :
    T P E ops ({ dst := some d, op, type := ty, pos, after, guard := none } :: rest) S K := by
  rintro a w ⟨b, hr⟩ Q hq
  obtain ⟨v, h1, h2⟩ := h b a w hr (some d) ty pos after none
  unfold wpList
  rw [if_pos (by rfl)]
  exact .inl (wp_of_run (h1 w (Below.refl _ _)) (hk _ _ ⟨b, hr.put hd h2⟩ Q hq))
theorem t_opG {ops : Array Oper} {rest : List Oper} {S : St} {K : St → Prop} {d : Tmp} {op : Op} {ty : TypeId} {pos : String} {after : Array Edge} {x : SV} {gd : Nat × Bool} {c : Bool} (hg : Guard E S ops gd c) (hd : d < E.N)
    (h : c = true → OpQ P E S op x) (hk : T P E ops rest (nextQ S d (.grd c x)) K) :
    T P E ops ({ dst := some d, op, type := ty, pos, after, guard := some gd } :: rest) S K := by
  rintro a w ⟨b, hr⟩ Q hq
  unfold wpList
  rw [hg b a w hr _ rfl]
  cases c with
  | false => exact hk _ _ ⟨b, hr.put hd ⟨(fun h => by cases h), fun _ => rfl⟩⟩ Q hq
  | true =>
    obtain ⟨v, h1, h2⟩ := h rfl b a w hr (some d) ty pos after (some gd)
    exact .inl (wp_of_run (h1 w (Below.refl _ _)) (hk _ _ ⟨b, hr.put hd ⟨fun _ => h2, fun h => by cases h⟩⟩ Q hq))

theorem call_step {S : St} {b : Nat → Value} {a : Act} {w : World} (hr : RepB E b S a w) {f : FuncId} {xs : List Operand} {args : List SV} {x : SV} (ha : Vals E S xs args) (h : Ct P f args x) :
    Calls P f (xs.map a.eval).toArray w fun e w'' => ∃ v, e = .returned v ∧ (RepB E b S a w'' ∧ R w'' (S.excl E b) b x v) := by
  refine (h w (S.excl E b) _ (fun g hg => hr.excl_lt hg) (ha.ros hr)).mono ?_
  rintro e w'' ⟨v, rfl, hv, hb⟩
  exact ⟨v, rfl, hr.world hb, hv.toR⟩

theorem t_call {ops : Array Oper} {rest : List Oper} {S : St} {K : St → Prop} {d : Tmp} {f : FuncId} {xs : List Operand} {ats : Array TypeId} {ty : TypeId} {pos : String} {after : Array Edge} {args : List SV} {x : SV}
    (hf : Enters P f) (hd : d < E.N) (ha : Vals E S xs args) (h : Ct P f args x) (hk : T P E ops rest (nextQ S d x) K) :
    T P E ops ({ dst := some d, op := .call { callee := .value (.func f), args := xs.toArray, argTypes := ats }, type := ty, pos, after, guard := none } :: rest) S K := by
  rintro a w ⟨b, hr⟩ Q hq
  unfold wpList
  rw [if_pos (by rfl)]
  exact .inl (wp_of_enter (run_call hf ..) (call_step hr ha h) fun v w'' ⟨hr', hv⟩ => hk _ _ ⟨b, hr'.put hd hv⟩ Q hq)
theorem t_callG {ops : Array Oper} {rest : List Oper} {S : St} {K : St → Prop} {d : Tmp} {f : FuncId} {xs : List Operand} {ats : Array TypeId} {ty : TypeId} {pos : String} {after : Array Edge} {args : List SV} {x : SV} {gd : Nat × Bool} {c : Bool}
    (hg : Guard E S ops gd c) (hf : Enters P f) (hd : d < E.N) (ha : c = true → Vals E S xs args) (h : c = true → Ct P f args x) (hk : T P E ops rest (nextQ S d (.grd c x)) K) :
    T P E ops ({ dst := some d, op := .call { callee := .value (.func f), args := xs.toArray, argTypes := ats }, type := ty, pos, after, guard := some gd } :: rest) S K := by
  rintro a w ⟨b, hr⟩ Q hq
  unfold wpList
  rw [hg b a w hr _ rfl]
  cases c with
  | false => exact hk _ _ ⟨b, hr.put hd ⟨(fun h => by cases h), fun _ => rfl⟩⟩ Q hq
  | true => exact .inl (wp_of_enter (run_call hf ..) (call_step hr (ha rfl) (h rfl)) fun v w'' ⟨hr', hv⟩ => hk _ _ ⟨b, hr'.put hd ⟨fun _ => hv, fun h => by cases h⟩⟩ Q hq)

/-! Boxes. -/
theorem RepB.newbox {b : Nat → Value} {S : St} {a : Act} {w : World} (h : RepB E b S a w) {j m : Nat} {get : Nat → SV} {ty : TypeId} {cs : Array Value} (hf : S.fresh j = true) (hn : allB (fun t => (get t).noId j) m = true)
    (hm : cs.size = m) (hc : ∀ t, t < m → ∃ u, cs[t]? = some u ∧ u.oneCell' = true ∧ R w (S.excl E b) b (get t) u) :
    RepB E (setB b j (.pointer (some ⟨w.heap.size, 0, none⟩))) ⟨S.slots, (j, .box m get ty) :: S.owns⟩ a (w.alloc (.cells cs ty)) := by
  simp only [St.fresh, Bool.and_eq_true] at hf
  have hw := below_alloc w (.cells cs ty)
  have h' := h.world hw
  have hlt : ∀ i o, lookO i S.owns = some o → ∀ g, blk (b i) = some g → g < w.heap.size := fun i o ho g hg => ((h.owns i o ho).lt hg).1
  have hX : ∀ g, g < w.heap.size → St.excl ⟨S.slots, (j, .box m get ty) :: S.owns⟩ E (setB b j (.pointer (some ⟨w.heap.size, 0, none⟩))) g → S.excl E b g := by
    rintro g hg (hh | ⟨i, o, h1, h2⟩)
    · exact .inl hh
    · rw [lookO_cons] at h1
      split at h1
      · rename_i e
        subst e
        rw [setB_same] at h2
        simp only [blk, Option.some.injEq] at h2
        omega
      · rename_i e
        rw [setB_other _ _ _ e] at h2
        exact .inr ⟨i, o, h1, h2⟩
  have hmono : ∀ {x : SV} {val : Value}, x.noId j = true → R w (S.excl E b) b x val →
      R (w.alloc (.cells cs ty)) (St.excl ⟨S.slots, (j, .box m get ty) :: S.owns⟩ E (setB b j (.pointer (some ⟨w.heap.size, 0, none⟩)))) (setB b j (.pointer (some ⟨w.heap.size, 0, none⟩))) x val :=
    fun hx hr => R_setB hx (hr.mono (.of_below hw) hX)
  exact {
    size := h.size
    defers := h.defers
    below := h'.below
    slots := fun s x hx => hmono (look_fresh hf.1 s x hx) (h.slots s x hx)
    owns := fun i o ho => by
      rw [lookO_cons] at ho
      split at ho
      · rename_i e
        injection ho with ho
        subst ho; subst e
        refine ⟨w.heap.size, cs, setB_same _ _ _, h.below.size, heap_alloc_new w _, hm, fun t ht => ?_⟩
        obtain ⟨u, hu, h1, h2⟩ := hc t ht
        exact ⟨u, hu, h1, hmono (allB_iff hn t ht) h2⟩
      · have h1 := h.owns i o ho
        have hij := lookO_fresh hf.2 i o ho
        cases o with
        | box m' get' ty' =>
          obtain ⟨g, cs', hb, hbase, hh, hm', hr⟩ := h1
          refine ⟨g, cs', by rw [setB_other _ _ _ hij.1]; exact hb, hbase, ?_, hm', fun t ht => ?_⟩
          · rw [hw.block g (Array.getElem?_eq_some_iff.1 hh).1]; exact hh
          · obtain ⟨u, hu, h2, h3⟩ := hr t ht
            exact ⟨u, hu, h2, hmono (allB_iff hij.2 t ht) h3⟩
        | arow n k get' elem =>
          obtain ⟨xs, hown, hr⟩ := h1
          refine ⟨xs, by rw [setB_other _ _ _ hij.1]; exact hown.kept (World.grownBy_alloc w _ none) (fun _ _ => by simp), fun i hi t ht => ?_⟩
          obtain ⟨u, hu, h2, h3⟩ := hr i hi t ht
          exact ⟨u, hu, h2, h3.mono (.of_below hw) hX⟩
    apart := fun p q op oq hp hq hne g hg => by
      rw [lookO_cons] at hp hq
      split at hp
      · rename_i e
        subst e
        rw [setB_same] at hg
        simp only [blk, Option.some.injEq] at hg
        split at hq
        · rename_i e; exact absurd e.symm hne
        · rename_i e
          rw [setB_other _ _ _ e]
          intro hh
          have := hlt q oq hq g hh
          omega
      · rename_i e
        rw [setB_other _ _ _ e] at hg
        split at hq
        · rename_i e'
          subst e'
          rw [setB_same]
          simp only [blk, ne_eq, Option.some.injEq]
          have := hlt p op hp g hg
          omega
        · rename_i e'
          rw [setB_other _ _ _ e']
          exact h.apart p q op oq hp hq hne g hg }

/-- What a type's zero value reads as. -/
def ZeroOk (P : Program) (t : TypeId) (m : Nat) (get : Nat → SV) : Prop :=
  ∃ z, (∀ w, (zeroValue t).run P w = .ok z w) ∧ z.cells.size = m ∧ ∀ t, t < m → ∃ u, z.cells[t]? = some u ∧ u.oneCell' = true ∧ ∀ w X, RO w X (get t) u

theorem t_alloc {ops : Array Oper} {rest : List Oper} {S : St} {K : St → Prop} {d : Tmp} {elem : TypeId} {ty : TypeId} {pos : String} {after : Array Edge} {m : Nat} {get : Nat → SV} (j : Nat)
    (hd : d < E.N) (hz : ZeroOk P elem m get) (hf : S.fresh j = true) (hn : allB (fun t => (get t).noId j) m = true) (hk : T P E ops rest ⟨(d, .bp j 0) :: S.slots, (j, .box m get elem) :: S.owns⟩ K) :
    T P E ops ({ dst := some d, op := .alloc elem, type := ty, pos, after, guard := none } :: rest) S K := by
  rintro a w ⟨b, hr⟩ Q hq
  obtain ⟨z, h1, h2, h3⟩ := hz
  unfold wpList
  rw [if_pos (by rfl)]
  refine .inl (wp_of_run (w' := w.alloc (.cells z.cells elem)) (v := .pointer (some ⟨w.heap.size, 0, none⟩)) ?_ ?_)
  · simp [execOp, Instr.alloc, h1, newVar, newRow]
  · have hb := hr.newbox (j := j) (m := m) (get := get) (ty := elem) (cs := z.cells) hf hn h2 (fun t ht => by
      obtain ⟨u, hu, h4, h5⟩ := h3 t ht
      exact ⟨u, hu, h4, (h5 _ _).toR⟩)
    refine hk _ _ ⟨_, hb.put (x := .bp j 0) hd ?_⟩ Q hq
    exact ⟨w.heap.size, setB_same _ _ _, rfl⟩

theorem t_boxA {ops : Array Oper} {rest : List Oper} {S : St} {K : St → Prop} {d : Tmp} {elem : TypeId} {x : Operand} {ty : TypeId} {pos : String} {after : Array Edge} {m : Nat} {get : Nat → SV} (j : Nat)
    (hd : d < E.N) (hx : Val E S x (.agg m get)) (hf : S.fresh j = true) (hn : allB (fun t => (get t).noId j) m = true) (hk : T P E ops rest ⟨(d, .bp j 0) :: S.slots, (j, .box m get elem) :: S.owns⟩ K) :
    T P E ops ({ dst := some d, op := .box elem x, type := ty, pos, after, guard := none } :: rest) S K := by
  rintro a w ⟨b, hr⟩ Q hq
  obtain ⟨cs, hv, hm, hc⟩ := hx b a w hr
  unfold wpList
  rw [if_pos (by rfl)]
  refine .inl (wp_of_run (w' := w.alloc (.cells cs elem)) (v := .pointer (some ⟨w.heap.size, 0, none⟩)) ?_ ?_)
  · simp [execOp, Instr.box, hv, newVar, newRow, Value.cells]
  · have hb := hr.newbox (j := j) (m := m) (get := get) (ty := elem) (cs := cs) hf hn hm (fun t ht => by
      obtain ⟨u, hu, h4, h5⟩ := hc t ht
      exact ⟨u, hu, h4, h5⟩)
    exact hk _ _ ⟨_, hb.put (x := .bp j 0) hd ⟨w.heap.size, setB_same _ _ _, rfl⟩⟩ Q hq

/-- A value of one cell. -/
def SV.one : SV → Bool
  | .v (.agg _) | .v (.tuple _) | .agg .. | .tup .. | .grd .. | .junk | .own _ | .abs .. => false
  | _ => true
theorem R.one {w : World} {X : Nat → Prop} {b : Nat → Value} {x : SV} {val : Value} (h : R w X b x val) (hx : x.one = true) : val.oneCell' = true := by
  cases x with
  | v x => have : val = x := h
           subst this
           cases val <;> first | rfl | (simp [SV.one] at hx)
  | row n k get => obtain ⟨A, c, rfl, _⟩ := h; rfl
  | el n k get i off => obtain ⟨_, _, _, rfl, _⟩ := h; rfl
  | bp j off => obtain ⟨g, _, rfl⟩ := h; rfl
  | oe j k i off => obtain ⟨g, n, cap, _, _, rfl⟩ := h; rfl
  | fn f caps => have : val = .func (.func f) #[] (caps.map b).toArray := h
                 subst this; rfl
  | _ => simp [SV.one] at hx
theorem cells_one {v : Value} (h : v.oneCell' = true) : v.cells = #[v] := by cases v <;> first | rfl | (simp [Value.oneCell'] at h)

theorem t_box1 {ops : Array Oper} {rest : List Oper} {S : St} {K : St → Prop} {d : Tmp} {elem : TypeId} {x : Operand} {ty : TypeId} {pos : String} {after : Array Edge} {s : SV} (j : Nat)
    (hd : d < E.N) (hx : Val E S x s) (h1 : s.one = true) (hf : S.fresh j = true) (hn : s.noId j = true) (hk : T P E ops rest ⟨(d, .bp j 0) :: S.slots, (j, .box 1 (fun _ => s) elem) :: S.owns⟩ K) :
    T P E ops ({ dst := some d, op := .box elem x, type := ty, pos, after, guard := none } :: rest) S K := by
  rintro a w ⟨b, hr⟩ Q hq
  have hv := hx b a w hr
  have ho := hv.one h1
  unfold wpList
  rw [if_pos (by rfl)]
  refine .inl (wp_of_run (w' := w.alloc (.cells #[a.eval x] elem)) (v := .pointer (some ⟨w.heap.size, 0, none⟩)) ?_ ?_)
  · simp [execOp, Instr.box, newVar, newRow, cells_one ho]
  · have hb := hr.newbox (j := j) (m := 1) (get := fun _ => s) (ty := elem) (cs := #[a.eval x]) hf (by simp [allB, hn]) rfl (fun t ht => by
      have : t = 0 := by omega
      subst this
      exact ⟨_, rfl, ho, hv⟩)
    exact hk _ _ ⟨_, hb.put (x := .bp j 0) hd ⟨w.heap.size, setB_same _ _ _, rfl⟩⟩ Q hq

/-- A box is written anew, whole. -/
theorem RepB.setbox {b : Nat → Value} {S : St} {a : Act} {w w' : World} (h : RepB E b S a w) {j m : Nat} {get get' : Nat → SV} {ty : TypeId} {cs : Array Value} {g : Nat} (ho : lookO j S.owns = some (.box m get ty)) (hbj : b j = .pointer (some ⟨g, 0, none⟩))
    (hm : cs.size = m) (hw1 : w'.os = w.os ∧ w'.tape = w.tape ∧ w'.output = w.output ∧ w'.heap.size = w.heap.size) (hw2 : ∀ k, k ≠ g → w'.heap[k]? = w.heap[k]?) (hw3 : w'.heap[g]? = some (.cells cs ty (0, 0)))
    (hc : ∀ t, t < m → ∃ u, cs[t]? = some u ∧ u.oneCell' = true ∧ R w (S.excl E b) b (get' t) u) :
    RepB E b ⟨S.slots, (j, .box m get' ty) :: S.owns⟩ a w' := by
  have hgX : S.excl E b g := .inr ⟨j, _, ho, by rw [hbj]; rfl⟩
  have hext : Ext (S.excl E b) w w' := ⟨by omega, fun k _ hk => hw2 k (fun e => hk (e ▸ hgX))⟩
  have hX : ∀ k, St.excl ⟨S.slots, (j, .box m get' ty) :: S.owns⟩ E b k → S.excl E b k := by
    rintro k (hh | ⟨i, o, h1, h2⟩)
    · exact .inl hh
    · rw [lookO_cons] at h1
      split at h1
      · rename_i e; subst e; exact .inr ⟨i, _, ho, h2⟩
      · exact .inr ⟨i, o, h1, h2⟩
  have hbase : E.w0.heap.size ≤ g := ((h.owns j _ ho).lt (by rw [hbj]; rfl)).2
  have hmono : ∀ {x : SV} {val : Value}, R w (S.excl E b) b x val → R w' (St.excl ⟨S.slots, (j, .box m get' ty) :: S.owns⟩ E b) b x val := fun hr => hr.mono hext (fun k _ hh => hX k hh)
  exact {
    size := h.size
    defers := h.defers
    below := h.below.trans ⟨hw1.1, hw1.2.1, hw1.2.2.1, by omega, fun k hk => hw2 k (by omega)⟩
    slots := fun s x hx => hmono (h.slots s x hx)
    owns := fun i o hi => by
      rw [lookO_cons] at hi
      split at hi
      · rename_i e
        injection hi with hi
        subst hi; subst e
        refine ⟨g, cs, hbj, hbase, hw3, hm, fun t ht => ?_⟩
        obtain ⟨u, hu, h1, h2⟩ := hc t ht
        exact ⟨u, hu, h1, hmono h2⟩
      · rename_i e
        have h1 := h.owns i o hi
        have hgi : blk (b i) ≠ some g := h.apart j i _ _ ho hi (fun e' => e e'.symm) g (by rw [hbj]; rfl)
        cases o with
        | box m' get'' ty' =>
          obtain ⟨g', cs', hb, hbs, hh, hm', hr⟩ := h1
          refine ⟨g', cs', hb, hbs, ?_, hm', fun t ht => ?_⟩
          · rw [hw2 g' (fun e' => hgi (by rw [hb, e']; rfl))]; exact hh
          · obtain ⟨u, hu, h2, h3⟩ := hr t ht
            exact ⟨u, hu, h2, hmono h3⟩
        | arow n k get'' elem =>
          obtain ⟨xs, hown, hr⟩ := h1
          refine ⟨xs, ?_, fun i' hi' t ht => ?_⟩
          · refine hown.kept (row := some g) ⟨hw1.1, hw1.2.1, hw1.2.2.1, by omega, fun k _ hk => hw2 k (fun e => hk (by rw [e]))⟩ (fun k hk => ?_)
            intro e'
            injection e' with e'
            exact hgi (by rw [e']; exact hk)
          · obtain ⟨u, hu, h2, h3⟩ := hr i' hi' t ht
            exact ⟨u, hu, h2, h3.mono hext (fun k _ hh => hX k hh)⟩
    apart := fun p q op oq hp hq hne k hk => by
      have hp' : ∃ o, lookO p S.owns = some o := by
        rw [lookO_cons] at hp
        split at hp
        · rename_i e; subst e; exact ⟨_, ho⟩
        · exact ⟨_, hp⟩
      have hq' : ∃ o, lookO q S.owns = some o := by
        rw [lookO_cons] at hq
        split at hq
        · rename_i e; subst e; exact ⟨_, ho⟩
        · exact ⟨_, hq⟩
      obtain ⟨o1, h1⟩ := hp'
      obtain ⟨o2, h2⟩ := hq'
      exact h.apart p q o1 o2 h1 h2 hne k hk }

def upd (g : Nat → SV) (o : Nat) (x : SV) : Nat → SV := fun t => match Nat.beq t o with | true => x | false => g t
theorem upd_eq (g : Nat → SV) (o : Nat) (x : SV) (t : Nat) : upd g o x t = if t = o then x else g t := by
  unfold upd
  by_cases h : t = o
  · subst h; simp
  · have : Nat.beq t o = false := by
      cases hb : Nat.beq t o
      · rfl
      · exact absurd (Nat.eq_of_beq_eq_true hb) h
    rw [this, if_neg h]

theorem t_st1 {ops : Array Oper} {rest : List Oper} {S : St} {K : St → Prop} {t : TypeId} {p x : Operand} {ty : TypeId} {pos : String} {after : Array Edge} {j off m : Nat} {get : Nat → SV} {bt : TypeId} {s : SV}
    (hp : Val E S p (.bp j off)) (ho : lookO j S.owns = some (.box m get bt)) (hx : Val E S x s) (h1 : s.one = true) (hs : ∀ w, (sizeOf t).run P w = .ok 1 w) (hoff : off < m)
    (hk : T P E ops rest ⟨S.slots, (j, .box m (upd get off s) bt) :: S.owns⟩ K) :
    T P E ops ({ dst := none, op := .store t p x, type := ty, pos, after, guard := none } :: rest) S K := by
  rintro a w ⟨b, hr⟩ Q hq
  obtain ⟨g, hb, hpv⟩ := hp b a w hr
  have hv := hx b a w hr
  have hone := hv.one h1
  obtain ⟨g', cs, hb', _, hh, hm, hc⟩ := hr.owns j _ ho
  rw [hb] at hb'
  simp only [Value.pointer.injEq, Option.some.injEq, Addr.mk.injEq, and_true] at hb'
  subst hb'
  have hcell : ∃ u, w.cell? ⟨g, off, none⟩ = some u := by
    obtain ⟨u, hu, _⟩ := hc off hoff
    exact ⟨u, by rw [cell_of_row w g off cs bt (0, 0) hh]; exact hu⟩
  obtain ⟨u0, hu0⟩ := hcell
  have hfr : w.frozen? ⟨g, off, none⟩ = false := by simp [World.frozen?, hh]
  unfold wpList
  rw [if_pos (by rfl)]
  refine .inl (wp_of_skip (w' := w.setCell ⟨g, off, none⟩ (a.eval x)) ?_ ?_)
  · simp [execOp, Instr.storeAt, hpv, Instr.sureAddr, storeVar, hs, cells_one hone, storeCells, Addr.add_zero', run_store P w _ _ _ hone, hu0, hfr]
  · refine hk _ _ ⟨b, ?_⟩ Q hq
    refine hr.setbox (cs := cs.setIfInBounds off (a.eval x)) ho hb (by simpa using hm) ⟨rfl, rfl, rfl, by simp⟩ (fun k hk => Below.heap_setCell _ _ _ _ hk) ?_ (fun i hi => ?_)
    · simp [World.setCell, Array.getElem?_modify, hh]
    · rw [upd_eq]
      by_cases e : i = off
      · subst e
        rw [if_pos rfl]
        exact ⟨a.eval x, by simp [hm, hi], hone, hv⟩
      · rw [if_neg e]
        obtain ⟨u, hu, h2, h3⟩ := hc i hi
        exact ⟨u, by rw [Array.getElem?_setIfInBounds, if_neg (fun h => e h.symm)]; exact hu, h2, h3⟩

theorem setRow_all {w : World} {g : Nat} {cs : Array Value} {ty : TypeId} (hh : w.heap[g]? = some (.cells cs ty (0, 0))) : ∀ (vs : List Value) (i : Nat), i + vs.length ≤ cs.size → (∀ v ∈ vs, v.oneCell' = true) →
    ∃ w' cs', (storeCells ⟨g, 0, none⟩ vs i).run P w = .ok () w' ∧ w'.heap[g]? = some (.cells cs' ty (0, 0)) ∧ cs'.size = cs.size ∧ (∀ t, cs'[t]? = if i ≤ t ∧ t < i + vs.length then vs[t - i]? else cs[t]?) ∧
      (w'.os = w.os ∧ w'.tape = w.tape ∧ w'.output = w.output ∧ w'.heap.size = w.heap.size) ∧ (∀ k, k ≠ g → w'.heap[k]? = w.heap[k]?) := by
  intro vs
  induction vs generalizing w cs with
  | nil => intro i _ _; exact ⟨w, cs, by simp [storeCells], hh, rfl, fun t => by rw [if_neg (by simp only [List.length_nil]; omega)], ⟨rfl, rfl, rfl, rfl⟩, fun _ _ => rfl⟩
  | cons v vs ih =>
    intro i hi h1
    simp only [List.length_cons] at hi
    have hv := h1 v (by simp)
    have hu0 : w.cell? ⟨g, i, none⟩ = some (cs[i]'(by omega)) := by rw [cell_of_row w g i cs ty (0, 0) hh]; exact Array.getElem?_eq_getElem (by omega)
    have hfr : w.frozen? ⟨g, i, none⟩ = false := by simp [World.frozen?, hh]
    have hh' : (w.setCell ⟨g, i, none⟩ v).heap[g]? = some (.cells (cs.setIfInBounds i v) ty (0, 0)) := by simp [World.setCell, Array.getElem?_modify, hh]
    obtain ⟨w', cs', hr, h2, h3, h4, h5, h6⟩ := ih hh' (i + 1) (by simp; omega) (fun v hv => h1 v (by simp [hv]))
    refine ⟨w', cs', ?_, h2, by simpa using h3, fun t => ?_, ⟨h5.1, h5.2.1, h5.2.2.1, by simpa using h5.2.2.2⟩, fun k hk => (h6 k hk).trans (Below.heap_setCell _ _ _ _ hk)⟩
    · simp only [storeCells, Sem.run_bind, Addr.add_lit, Nat.zero_add, run_store P w _ _ _ hv, hu0, hfr]
      simpa using hr
    · rw [h4 t]
      by_cases e1 : i + 1 ≤ t ∧ t < i + 1 + vs.length
      · rw [if_pos e1, if_pos (by simp; omega)]
        have : t - i = (t - (i + 1)) + 1 := by omega
        rw [this, List.getElem?_cons_succ]
      · rw [if_neg e1]
        by_cases e2 : t = i
        · subst e2
          rw [if_pos (by simp), Nat.sub_self, Array.getElem?_setIfInBounds, if_pos rfl, if_pos (by omega)]
          rfl
        · rw [if_neg (by simp; omega), Array.getElem?_setIfInBounds, if_neg (fun h => e2 h.symm)]

/-- A struct, whole, into a box. -/
theorem t_stA {ops : Array Oper} {rest : List Oper} {S : St} {K : St → Prop} {t : TypeId} {p x : Operand} {ty : TypeId} {pos : String} {after : Array Edge} {j m : Nat} {get get' : Nat → SV} {bt : TypeId}
    (hp : Val E S p (.bp j 0)) (ho : lookO j S.owns = some (.box m get bt)) (hx : Val E S x (.agg m get')) (hs : ∀ w, (sizeOf t).run P w = .ok m w)
    (hk : T P E ops rest ⟨S.slots, (j, .box m get' bt) :: S.owns⟩ K) :
    T P E ops ({ dst := none, op := .store t p x, type := ty, pos, after, guard := none } :: rest) S K := by
  rintro a w ⟨b, hr⟩ Q hq
  obtain ⟨g, hb, hpv⟩ := hp b a w hr
  obtain ⟨vs, hv, hvm, hvc⟩ := hx b a w hr
  obtain ⟨g', cs, hb', _, hh, hm, hc⟩ := hr.owns j _ ho
  rw [hb] at hb'
  simp only [Value.pointer.injEq, Option.some.injEq, Addr.mk.injEq, and_true] at hb'
  subst hb'
  have h1 : ∀ v ∈ vs.toList, v.oneCell' = true := by
    intro v hv
    obtain ⟨i, hi, rfl⟩ := List.getElem_of_mem hv
    obtain ⟨u, hu, h1, _⟩ := hvc i (by simpa [hvm] using hi)
    rw [Array.getElem?_eq_getElem (by simpa using hi)] at hu
    simp only [Option.some.injEq] at hu
    simpa [hu] using h1
  obtain ⟨w', cs', hrun, h2, h3, h4, h5, h6⟩ := setRow_all (P := P) hh vs.toList 0 (by simp [hvm, hm]) h1
  unfold wpList
  rw [if_pos (by rfl)]
  refine .inl (wp_of_skip (w' := w') ?_ ?_)
  · simp [execOp, Instr.storeAt, hpv, Instr.sureAddr, storeVar, hs, hv, Value.cells, hvm, hrun]
  · refine hk _ _ ⟨b, hr.setbox (cs := cs') ho hb (by omega) h5 h6 h2 (fun i hi => ?_)⟩ Q hq
    obtain ⟨u, hu, h7, h8⟩ := hvc i hi
    refine ⟨u, ?_, h7, h8⟩
    rw [h4 i, if_pos (by simp [hvm]; omega)]
    simpa using hu

/-! A round's end; ways that meet. -/
theorem c_next {S : St} {Q : Exit → Act → World → Prop} {ι : Type} {T : ι → St} {I : ι → Prop} {μ : ι → Nat} {i : ι} (i' : ι) (hI : I i') (hμ : μ i' < μ i) (hw : Weak E S (T i')) :
    ∀ a w, Rep E S a w → Exit.then (fun a w => ∃ i', (I i' ∧ μ i' < μ i) ∧ Rep E (T i') a w) Q .normal a w :=
  fun a w ⟨b, hr⟩ => ⟨i', ⟨hI, hμ⟩, b, hw b a w hr⟩
theorem c_meet {x y : Code} {S : St} {Q : Exit → Act → World → Prop} {ι : Type} (T : ι → St) (I : ι → Prop) (h : C P E x S (Exit.then (fun a w => ∃ i, I i ∧ Rep E (T i) a w) Q)) (hy : ∀ i, I i → C P E y (T i) Q) : C P E (.seq x y) S Q :=
  c_seqJ _ h fun a w ⟨i, hI, hr⟩ => hy i hI a w hr
theorem c_here {S : St} {Q : Exit → Act → World → Prop} {ι : Type} {T : ι → St} {I : ι → Prop} (i : ι) (hI : I i) (hw : Weak E S (T i)) :
    ∀ a w, Rep E S a w → Exit.then (fun a w => ∃ i, I i ∧ Rep E (T i) a w) Q .normal a w :=
  fun a w ⟨b, hr⟩ => ⟨i, hI, b, hw b a w hr⟩
/-- A slice's length fits. -/
theorem row_len {S : St} {x : Operand} {n k : Nat} {get : Nat → Nat → SV} (hx : Val E S x (.row n k get)) {c : Code} {Q : Exit → Act → World → Prop} (h : n ≤ 9223372036854775807 → C P E c S Q) : C P E c S Q := by
  rintro a w ⟨b, hr⟩
  obtain ⟨A, c, _, h1, h2, _⟩ := hx b a w hr
  exact h (by simp only [maxLen] at h2; omega) a w ⟨b, hr⟩
end Go.Eng

namespace Go.Eng
open Go.RowKit
variable {P : Program} {E : Env}

/-! Rows of typed elements. -/
def rowG {α : Type} (c : α → Nat → SV) (d : α) (l : List α) : Nat → Nat → SV := fun i t => c (l.getD i d) t
def rowOf {α : Type} (c : α → Nat → SV) (k : Nat) (d : α) (l : List α) : SV := .row l.length k (rowG c d l)
def ownOf {α : Type} (c : α → Nat → SV) (k : Nat) (d : α) (l : List α) (e : TypeId) : Own := .arow l.length k (rowG c d l) e

theorem getD_app {α : Type} (d : α) (l m : List α) (i : Nat) : (l ++ m).getD i d = if i < l.length then l.getD i d else m.getD (i - l.length) d := by
  simp only [List.getD_eq_getElem?_getD, List.getElem?_append]
  split <;> rfl

/-! Slices that the frame has made: length, element, field, load. -/
section own
variable {S : St}
theorem own_slice {b : Nat → Value} {a : Act} {w : World} (hr : RepB E b S a w) {j n k : Nat} {get : Nat → Nat → SV} {e : TypeId} (ho : lookO j S.owns = some (.arow n k get e)) : ∃ A c, b j = .slice A n c := by
  obtain ⟨xs, h, _⟩ := hr.owns j _ ho
  rcases h with ⟨A, hv, hn, _⟩ | ⟨⟨_, hv⟩, _⟩
  · exact ⟨A, 0, by rw [hv, hn]⟩
  · rcases hv with ⟨hv, hn⟩ | ⟨g, cap, cur, hv, _⟩
    · exact ⟨none, 0, by rw [hv, hn]⟩
    · exact ⟨_, cap, hv⟩
theorem own_cells {b : Nat → Value} {a : Act} {w : World} (hr : RepB E b S a w) {j n k : Nat} {get : Nat → Nat → SV} {e : TypeId} (ho : lookO j S.owns = some (.arow n k get e)) (h0 : 0 < n) :
    ∃ g c cur, b j = .slice (some ⟨g, 0, none⟩) n (c + 1) ∧ E.w0.heap.size ≤ g ∧ w.heap[g]? = some (.cells cur e (0, 0)) ∧ n ≤ c + 1 ∧ c + 1 ≤ maxLen ∧ cur.size = (c + 1) * k ∧
      ∀ i, i < n → ∀ t, t < k → ∃ u, cur[i * k + t]? = some u ∧ u.oneCell' = true ∧ RO w (S.excl E b) (get i t) u := by
  obtain ⟨xs, h, hc⟩ := hr.owns j _ ho
  rcases h with ⟨A, hv, hn, _⟩ | ⟨⟨hl, hv⟩, g', m', c', hv'⟩
  · omega
  · rcases hv with ⟨hv, hn⟩ | ⟨g, cap, cur, hv, hb, hh, hcap, hm, hs, ht⟩
    · omega
    · rw [hv] at hv'
      simp only [Value.slice.injEq, Option.some.injEq, Addr.mk.injEq, and_true] at hv'
      obtain ⟨rfl, rfl, rfl⟩ := hv'
      refine ⟨g, c', cur, hv, hb, hh, hcap, hm, hs, fun i hi t htk => ?_⟩
      obtain ⟨u, hu, h1, h2⟩ := hc i hi t htk
      refine ⟨u, ?_, h1, h2⟩
      rw [← ht, List.getElem?_take] at hu
      split at hu
      · simpa using hu
      · cases hu
theorem q_lenO {x : Operand} {t : TypeId} {j n k : Nat} {get : Nat → Nat → SV} {e : TypeId} (hx : Val E S x (.own j)) (ho : lookO j S.owns = some (.arow n k get e)) (ht : P.underlying t = some (.slice (P.elem t))) :
    OpQ P E S (.call { callee := .builtin .len, args := #[x], argTypes := #[t] }) (.v (.int .i64 (n : Int))) := fun b a w hr dst ty pos after gd => by
  have hv : a.eval x = b j := hx b a w hr
  obtain ⟨A, c, hs⟩ := own_slice hr ho
  refine ⟨.int .i64 n, fun w' hw' => ?_, rfl⟩
  simp [execOp, resolve, invoke, builtin, hv, hs, run_len_slice w' t ty A n c ht, goInt]
theorem q_idxO {x y : Operand} {t : TypeId} {j n k : Nat} {get : Nat → Nat → SV} {e : TypeId} {kk : IntKind} {i : Int} (hx : Val E S x (.own j)) (ho : lookO j S.owns = some (.arow n k get e)) (hy : Val E S y (.v (.int kk i)))
    (ht : P.underlying t = some (.slice (P.elem t))) (hs : ∀ w, (sizeOf (P.elem t)).run P w = .ok k w) (h0 : 0 ≤ i) (h1 : i < n) :
    OpQ P E S (.indexAddr t x y) (.oe j k i.toNat 0) := fun b a w hr dst ty pos after gd => by
  have hv : a.eval x = b j := hx b a w hr
  have h2 : a.eval y = .int kk i := hy b a w hr
  obtain ⟨g, c, cur, hb, _⟩ := own_cells hr ho (by omega)
  refine ⟨.pointer (some ⟨g, i.toNat * k + 0, none⟩), fun w' hw' => ?_, g, n, c + 1, hb, by omega, rfl⟩
  simp [execOp, hv, hb, h2, run_indexAt_slice w' t _ n (c + 1) kk i ht, h0, h1, hs, Addr.add_lit]
theorem q_fldO {x : Operand} {t : TypeId} {f : Nat} {j k i off : Nat} (fs : Array Field) (fd : Field) (hx : Val E S x (.oe j k i off))
    (ht : P.underlying t = some (.struct fs)) (hf : fs[f]? = some fd) (m : Nat) (hs : ∀ w, (sizeOf fd.type).run P w = .ok (m + 1) w) :
    OpQ P E S (.fieldAddr t x f) (.oe j k i (off + fd.offset)) := fun b a w hr dst ty pos after gd => by
  obtain ⟨g, n, cap, hb, hi, hv⟩ := hx b a w hr
  refine ⟨.pointer (some ⟨g, i * k + (off + fd.offset), none⟩), fun w' hw' => ?_, g, n, cap, hb, hi, rfl⟩
  simp [execOp, hv, Instr.fieldAt, run_underlying ht, hf, Instr.sureAddr, fieldPlace, hs, Addr.add_lit, Nat.add_assoc]
theorem q_ldO {x : Operand} {t : TypeId} {j n k i off : Nat} {get : Nat → Nat → SV} {e : TypeId} (hx : Val E S x (.oe j k i off)) (ho : lookO j S.owns = some (.arow n k get e))
    (ht : ∀ w, (isAgg t).run P w = .ok false w) (hoff : off < k) : OpQ P E S (.load t x) (get i off) := fun b a w hr dst ty pos after gd => by
  obtain ⟨g, n', cap, hb, hi, hv⟩ := hx b a w hr
  obtain ⟨A, c, hs⟩ := own_slice hr ho
  rw [hb] at hs
  simp only [Value.slice.injEq] at hs
  obtain ⟨_, rfl, _⟩ := hs
  obtain ⟨g', c', cur, hb', _, hh, _, _, _, hc⟩ := own_cells hr ho (by omega)
  rw [hb] at hb'
  simp only [Value.slice.injEq, Option.some.injEq, Addr.mk.injEq, and_true] at hb'
  obtain ⟨rfl, _, _⟩ := hb'
  obtain ⟨u, hu, h1, h2⟩ := hc i hi off hoff
  refine ⟨u, fun w' hw' => ?_, h2.toR⟩
  have hu' : w'.cell? ⟨g, i * k + off, none⟩ = some u := (hw'.cell (p := ⟨g, i * k + off, none⟩) (Array.getElem?_eq_some_iff.1 hh).1).trans (by rw [cell_of_row w g _ cur e (0, 0) hh]; exact hu)
  simp [execOp, hv, Instr.loadAt, Instr.sureAddr, loadVar, ht, hu']
theorem q_ldOA {x : Operand} {t : TypeId} {j n k i off m : Nat} {get : Nat → Nat → SV} {e : TypeId} (hx : Val E S x (.oe j k i off)) (ho : lookO j S.owns = some (.arow n k get e))
    (ht : ∀ w, (isAgg t).run P w = .ok true w) (hsz : ∀ w, (sizeOf t).run P w = .ok m w) (hoff : off + m ≤ k) : OpQ P E S (.load t x) (.agg m fun q => get i (off + q)) := fun b a w hr dst ty pos after gd => by
  obtain ⟨g, n', cap, hb, hi, hv⟩ := hx b a w hr
  obtain ⟨A, c, hs⟩ := own_slice hr ho
  rw [hb] at hs
  simp only [Value.slice.injEq] at hs
  obtain ⟨_, rfl, _⟩ := hs
  obtain ⟨g', c', cur, hb', _, hh, _, _, _, hc⟩ := own_cells hr ho (by omega)
  rw [hb] at hb'
  simp only [Value.slice.injEq, Option.some.injEq, Addr.mk.injEq, and_true] at hb'
  obtain ⟨rfl, _, _⟩ := hb'
  have hg := (Array.getElem?_eq_some_iff.1 hh).1
  let f : Nat → Value := fun q => (w.cell? ⟨g, i * k + (off + q), none⟩).getD undef
  have hcell : ∀ q, q < m → ∃ u, w.cell? ⟨g, i * k + (off + q), none⟩ = some u ∧ u.oneCell' = true ∧ RO w (S.excl E b) (get i (off + q)) u := fun q hq => by
    obtain ⟨u, hu, h1, h2⟩ := hc i hi (off + q) (by omega)
    exact ⟨u, by rw [cell_of_row w g _ cur e (0, 0) hh]; exact hu, h1, h2⟩
  have hf : ∀ q, q < m → w.cell? ⟨g, i * k + off + (0 + q), none⟩ = some (f q) := fun q hq => by
    obtain ⟨u, hu, _⟩ := hcell q hq
    have e : i * k + off + (0 + q) = i * k + (off + q) := by omega
    rw [e]; simp only [f]; rw [hu]; rfl
  have hl := fun (w' : World) (hw' : Below w.heap.size w w') => run_loadCellsFrom (P := P) w' g (i * k + off) m 0 #[] f (fun q hq => (hw'.cell (p := ⟨g, i * k + off + (0 + q), none⟩) hg).trans (hf q hq))
  refine ⟨.agg (#[] ++ (Array.ofFn fun t : Fin m => f t.1)), fun w' hw' => ?_, _, rfl, by simp, fun q hq => ?_⟩
  · simp [execOp, hv, Instr.loadAt, Instr.sureAddr, loadVar, ht, hsz, loadCells, hl w' hw']
  · obtain ⟨u, hu, h1, h2⟩ := hcell q hq
    exact ⟨u, by simp [hq, f, hu], h1, h2.toR⟩
end own

/-- One thing that the frame owns is written: all else stays. -/
theorem RepB.setown {b : Nat → Value} {S : St} {a : Act} {w w' : World} (h : RepB E b S a w) {j : Nat} {o o' : Own} {g : Nat} (ho : lookO j S.owns = some o) (hbj : blk (b j) = some g)
    (hw1 : w'.os = w.os ∧ w'.tape = w.tape ∧ w'.output = w.output ∧ w'.heap.size = w.heap.size) (hw2 : ∀ k, k ≠ g → w'.heap[k]? = w.heap[k]?)
    (hnew : ∀ X : Nat → Prop, (∀ {x : SV} {val : Value}, R w (S.excl E b) b x val → R w' X b x val) → (∀ {x : SV} {val : Value}, RO w (S.excl E b) x val → RO w' X x val) → OwnOk w' X E.w0.heap.size b j o') :
    RepB E b ⟨S.slots, (j, o') :: S.owns⟩ a w' := by
  have hgX : S.excl E b g := .inr ⟨j, _, ho, hbj⟩
  have hext : Ext (S.excl E b) w w' := ⟨by omega, fun k _ hk => hw2 k (fun e => hk (e ▸ hgX))⟩
  have hX : ∀ k, St.excl ⟨S.slots, (j, o') :: S.owns⟩ E b k → S.excl E b k := by
    rintro k (hh | ⟨i, o1, h1, h2⟩)
    · exact .inl hh
    · rw [lookO_cons] at h1
      split at h1
      · rename_i e; subst e; exact .inr ⟨i, _, ho, h2⟩
      · exact .inr ⟨i, o1, h1, h2⟩
  have hbase : E.w0.heap.size ≤ g := ((h.owns j _ ho).lt hbj).2
  have hmono : ∀ {x : SV} {val : Value}, R w (S.excl E b) b x val → R w' (St.excl ⟨S.slots, (j, o') :: S.owns⟩ E b) b x val := fun hr => hr.mono hext (fun k _ hh => hX k hh)
  have hmonoO : ∀ {x : SV} {val : Value}, RO w (S.excl E b) x val → RO w' (St.excl ⟨S.slots, (j, o') :: S.owns⟩ E b) x val := fun hr => hr.mono hext (fun k _ hh => hX k hh)
  exact {
    size := h.size
    defers := h.defers
    below := h.below.trans ⟨hw1.1, hw1.2.1, hw1.2.2.1, by omega, fun k hk => hw2 k (by omega)⟩
    slots := fun s x hx => hmono (h.slots s x hx)
    owns := fun i o1 hi => by
      rw [lookO_cons] at hi
      split at hi
      · rename_i e
        injection hi with hi
        subst hi; subst e
        exact hnew _ hmono hmonoO
      · rename_i e
        have h1 := h.owns i o1 hi
        have hgi : blk (b i) ≠ some g := h.apart j i _ _ ho hi (fun e' => e e'.symm) g hbj
        cases o1 with
        | box m' get'' ty' =>
          obtain ⟨g', cs', hb, hbs, hh, hm', hr⟩ := h1
          refine ⟨g', cs', hb, hbs, ?_, hm', fun t ht => ?_⟩
          · rw [hw2 g' (fun e' => hgi (by rw [hb, e']; rfl))]; exact hh
          · obtain ⟨u, hu, h2, h3⟩ := hr t ht
            exact ⟨u, hu, h2, hmono h3⟩
        | arow n k get'' elem =>
          obtain ⟨xs, hown, hr⟩ := h1
          refine ⟨xs, ?_, fun i' hi' t ht => ?_⟩
          · refine hown.kept (row := some g) ⟨hw1.1, hw1.2.1, hw1.2.2.1, by omega, fun k _ hk => hw2 k (fun e => hk (by rw [e]))⟩ (fun k hk => ?_)
            intro e'
            injection e' with e'
            exact hgi (by rw [e']; exact hk)
          · obtain ⟨u, hu, h2, h3⟩ := hr i' hi' t ht
            exact ⟨u, hu, h2, hmonoO h3⟩
    apart := fun p q op oq hp hq hne k hk => by
      have hp' : ∃ o, lookO p S.owns = some o := by
        rw [lookO_cons] at hp
        split at hp
        · rename_i e; subst e; exact ⟨_, ho⟩
        · exact ⟨_, hp⟩
      have hq' : ∃ o, lookO q S.owns = some o := by
        rw [lookO_cons] at hq
        split at hq
        · rename_i e; subst e; exact ⟨_, ho⟩
        · exact ⟨_, hq⟩
      obtain ⟨o1, h1⟩ := hp'
      obtain ⟨o2, h2⟩ := hq'
      exact h.apart p q o1 o2 h1 h2 hne k hk }

/-- A store into an element of a slice of the frame's own. -/
theorem t_stO {ops : Array Oper} {rest : List Oper} {S : St} {K : St → Prop} {t : TypeId} {p x : Operand} {ty : TypeId} {pos : String} {after : Array Edge} {j n n' k i off : Nat} {get : Nat → Nat → SV} {e : TypeId} {s : SV} (get' : Nat → Nat → SV)
    (hp : Val E S p (.oe j k i off)) (ho : lookO j S.owns = some (.arow n k get e)) (hx : Val E S x s) (h1 : s.one = true) (hro : s.isRO = true) (hs : ∀ w, (sizeOf t).run P w = .ok 1 w) (hoff : off < k) (hn : n = n')
    (hset : get' i off = s) (hsame : ∀ i', i' < n → ∀ t, t < k → (i' ≠ i ∨ t ≠ off) → get' i' t = get i' t)
    (hk : T P E ops rest ⟨S.slots, (j, .arow n' k get' e) :: S.owns⟩ K) :
    T P E ops ({ dst := none, op := .store t p x, type := ty, pos, after, guard := none } :: rest) S K := by
  subst hn
  rintro a w ⟨b, hr⟩ Q hq
  obtain ⟨g, n', cap, hb, hi, hpv⟩ := hp b a w hr
  obtain ⟨A, c, hsl⟩ := own_slice hr ho
  rw [hb] at hsl
  simp only [Value.slice.injEq] at hsl
  obtain ⟨_, rfl, _⟩ := hsl
  obtain ⟨g', c', cur, hb', hbase, hh, hcap, hmax, hsz, hc⟩ := own_cells hr ho (by omega)
  have hb2 := hb'
  rw [hb] at hb'
  simp only [Value.slice.injEq, Option.some.injEq, Addr.mk.injEq, and_true] at hb'
  obtain ⟨rfl, _, _⟩ := hb'
  have hv := hx b a w hr
  have hone := hv.one h1
  obtain ⟨u0, hu0, _⟩ := hc i hi off hoff
  have hu0' : w.cell? ⟨g, i * k + off, none⟩ = some u0 := by rw [cell_of_row w g _ cur e (0, 0) hh]; exact hu0
  have hfr : w.frozen? ⟨g, i * k + off, none⟩ = false := by simp [World.frozen?, hh]
  unfold wpList
  rw [if_pos (by rfl)]
  refine .inl (wp_of_skip (w' := w.setCell ⟨g, i * k + off, none⟩ (a.eval x)) ?_ ?_)
  · simp [execOp, Instr.storeAt, hpv, Instr.sureAddr, storeVar, hs, cells_one hone, storeCells, Addr.add_zero', run_store P w _ _ _ hone, hu0', hfr]
  · refine hk _ _ ⟨b, ?_⟩ Q hq
    refine hr.setown ho (by rw [hb2]; rfl) ⟨rfl, rfl, rfl, by simp⟩ (fun k hk => Below.heap_setCell _ _ _ _ hk) (fun X hm hmo => ?_)
    obtain ⟨xs, hown, _⟩ := hr.owns j _ ho
    have hcur' : (w.setCell ⟨g, i * k + off, none⟩ (a.eval x)).heap[g]? = some (.cells (cur.setIfInBounds (i * k + off) (a.eval x)) e (0, 0)) := by simp [World.setCell, Array.getElem?_modify, hh]
    have hnk : n' * k ≤ cur.size := by rw [hsz]; exact Nat.mul_le_mul_right _ hcap
    refine ⟨(cur.setIfInBounds (i * k + off) (a.eval x)).toList.take (n' * k), .inr ⟨⟨?_, .inr ⟨g, c' + 1, _, hb2, hbase, hcur', hcap, hmax, by simpa using hsz, rfl⟩⟩, g, n', c', hb2⟩, fun i' hi' t ht => ?_⟩
    · simp; omega
    · have hlt : i' * k + t < n' * k := by
        have : (i' + 1) * k ≤ n' * k := Nat.mul_le_mul_right _ hi'
        have e1 : (i' + 1) * k = i' * k + k := by rw [Nat.add_mul, Nat.one_mul]
        omega
      rw [List.getElem?_take, if_pos hlt, Array.getElem?_toList, Array.getElem?_setIfInBounds]
      by_cases e1 : i * k + off = i' * k + t
      · have hii : i' = i ∧ t = off := by
          have h2 : (i * k + off) / k = i := by rw [Nat.mul_comm, Nat.mul_add_div (by omega), Nat.div_eq_of_lt hoff, Nat.add_zero]
          have h3 : (i' * k + t) / k = i' := by rw [Nat.mul_comm, Nat.mul_add_div (by omega), Nat.div_eq_of_lt ht, Nat.add_zero]
          have : i' = i := by rw [← h2, ← h3, e1]
          subst this
          exact ⟨rfl, by omega⟩
        rw [if_pos e1, if_pos (by omega), hii.1, hii.2, hset]
        exact ⟨_, rfl, hone, hmo (hv.toRO hro)⟩
      · rw [if_neg e1, hsame i' hi' t ht (by
          by_cases e2 : i' = i
          · exact .inr (fun e3 => e1 (by rw [e2, e3]))
          · exact .inl e2)]
        obtain ⟨u, hu, h2, h3⟩ := hc i' hi' t ht
        exact ⟨u, hu, h2, hmo h3⟩

/-! A value that names j no more. -/
def kill (j : Nat) (x : SV) : SV := match x.noId j with | true => x | false => .junk
def killS (j : Nat) : List (Nat × SV) → List (Nat × SV)
  | [] => []
  | p :: r => (p.1, kill j p.2) :: killS j r
def killO (j : Nat) : List (Nat × Own) → List (Nat × Own)
  | [] => []
  | p :: r => match Nat.beq j p.1 with
    | true => killO j r
    | false => (p.1, match p.2 with | .box m get ty => .box m (fun t => kill j (get t)) ty | .arow n k get e => .arow n k get e) :: killO j r
theorem kill_R {w : World} {X : Nat → Prop} {b : Nat → Value} {j : Nat} {x : SV} {val : Value} (h : R w X b x val) : R w X b (kill j x) val := by
  unfold kill; split
  · exact h
  · trivial
theorem kill_noId (j : Nat) (x : SV) : (kill j x).noId j = true := by
  unfold kill; split
  · assumption
  · rfl
theorem look_kill {j : Nat} : ∀ {l : List (Nat × SV)} {s : Nat} {x : SV}, look s (killS j l) = some x → ∃ y, look s l = some y ∧ x = kill j y
  | [], s, x, h => by simp [killS, look] at h
  | (d, y) :: r, s, x, h => by
    simp only [killS] at h
    rw [look_cons] at h ⊢
    split at h
    · injection h with h
      exact ⟨y, by rename_i e; rw [if_pos e], h.symm⟩
    · obtain ⟨z, hz, e⟩ := look_kill h
      exact ⟨z, by rename_i e'; rw [if_neg e']; exact hz, e⟩
def killOwn (j : Nat) : Own → Own
  | .box m get ty => .box m (fun t => kill j (get t)) ty
  | .arow n k get e => .arow n k get e
theorem lookO_kill {j : Nat} : ∀ {l : List (Nat × Own)} {s : Nat} {x : Own}, lookO s (killO j l) = some x → s ≠ j ∧ ∃ y, lookO s l = some y ∧ x = killOwn j y
  | [], s, x, h => by simp [killO, lookO] at h
  | (d, y) :: r, s, x, h => by
    simp only [killO] at h
    split at h
    · rename_i hb
      have hb := Nat.eq_of_beq_eq_true hb
      subst hb
      obtain ⟨h1, z, hz, e⟩ := lookO_kill h
      exact ⟨h1, z, by rw [lookO_cons, if_neg h1]; exact hz, e⟩
    · rename_i hb
      rw [lookO_cons] at h ⊢
      split at h
      · rename_i e
        injection h with h
        refine ⟨fun e' => ?_, y, by rw [if_pos e], ?_⟩
        · rw [← e', e] at hb; simp at hb
        · rw [← h]; cases y <;> rfl
      · rename_i e
        obtain ⟨h1, z, hz, e2⟩ := lookO_kill h
        exact ⟨h1, z, by rw [if_neg e]; exact hz, e2⟩

/-- The slice j is grown: it is now j'. -/
theorem RepB.regrow {b : Nat → Value} {S : St} {a : Act} {w w' : World} (h : RepB E b S a w) {j j' n k n' : Nat} {get get' : Nat → Nat → SV} {e : TypeId} {v' : Value} {xs : List Value} (ho : lookO j S.owns = some (.arow n k get e))
    (hfr : S.fresh j' = true) (hos : w'.os = w.os ∧ w'.tape = w.tape ∧ w'.output = w.output ∧ w.heap.size ≤ w'.heap.size) (hsame : ∀ g, g < w.heap.size → blk (b j) ≠ some g → w'.heap[g]? = w.heap[g]?)
    (hv' : ∀ g, blk v' = some g → blk (b j) = some g ∨ w.heap.size ≤ g) (hown : ownsR w' E.w0.heap.size e k v' n' xs)
    (hel : ∀ i, i < n' → ∀ t, t < k → ∃ u, xs[i * k + t]? = some u ∧ u.oneCell' = true ∧ RO w (S.excl E b) (get' i t) u) :
    RepB E (setB b j' v') ⟨killS j S.slots, (j', .arow n' k get' e) :: killO j S.owns⟩ a w' := by
  simp only [St.fresh, Bool.and_eq_true] at hfr
  have hbase : ∀ g, blk (b j) = some g → E.w0.heap.size ≤ g := fun g hg => ((h.owns j _ ho).lt hg).2
  have hjX : ∀ g, blk (b j) = some g → S.excl E b g := fun g hg => .inr ⟨j, _, ho, hg⟩
  have hext : Ext (S.excl E b) w w' := ⟨hos.2.2.2, fun g hg hX => hsame g hg (fun e => hX (hjX g e))⟩
  have hX : ∀ g, g < w.heap.size → St.excl ⟨killS j S.slots, (j', .arow n' k get' e) :: killO j S.owns⟩ E (setB b j' v') g → S.excl E b g := by
    rintro g hg (hh | ⟨i, o, h1, h2⟩)
    · exact .inl hh
    · rw [lookO_cons] at h1
      split at h1
      · rename_i e'
        subst e'
        rw [setB_same] at h2
        rcases hv' g h2 with h3 | h3
        · exact hjX g h3
        · omega
      · rename_i e'
        rw [setB_other _ _ _ e'] at h2
        obtain ⟨_, y, hy, _⟩ := lookO_kill h1
        exact .inr ⟨i, y, hy, h2⟩
  have hmono : ∀ {x : SV} {val : Value}, x.noId j' = true → R w (S.excl E b) b x val →
      R w' (St.excl ⟨killS j S.slots, (j', .arow n' k get' e) :: killO j S.owns⟩ E (setB b j' v')) (setB b j' v') x val := fun hx hr => R_setB hx (hr.mono hext hX)
  have hmonoO : ∀ {x : SV} {val : Value}, RO w (S.excl E b) x val → RO w' (St.excl ⟨killS j S.slots, (j', .arow n' k get' e) :: killO j S.owns⟩ E (setB b j' v')) x val := fun hr => hr.mono hext hX
  have hkj : ∀ x : SV, x.noId j' = true → (kill j x).noId j' = true := fun x hx => by unfold kill; split <;> first | exact hx | rfl
  exact {
    size := h.size
    defers := h.defers
    below := h.below.trans ⟨hos.1, hos.2.1, hos.2.2.1, hos.2.2.2, fun g hg => hsame g (by have := h.below.size; omega) (fun e' => by have := hbase g e'; omega)⟩
    slots := fun s x hx => by
      obtain ⟨y, hy, rfl⟩ := look_kill hx
      exact hmono (hkj y (look_fresh hfr.1 s y hy)) (kill_R (h.slots s y hy))
    owns := fun i o hi => by
      rw [lookO_cons] at hi
      split at hi
      · rename_i e'
        injection hi with hi
        subst hi; subst e'
        refine ⟨xs, by rw [setB_same]; exact hown, fun i hi t ht => ?_⟩
        obtain ⟨u, hu, h1, h2⟩ := hel i hi t ht
        exact ⟨u, hu, h1, hmonoO h2⟩
      · rename_i e'
        obtain ⟨hij, y, hy, rfl⟩ := lookO_kill hi
        have h1 := h.owns i y hy
        have hf := lookO_fresh hfr.2 i y hy
        have hne : ∀ g, blk (b i) = some g → blk (b j) ≠ some g := fun g hg => h.apart i j _ _ hy ho hij g hg
        cases y with
        | box m get'' ty =>
          obtain ⟨g, cs, hb, hbs, hh, hm, hr⟩ := h1
          refine ⟨g, cs, by rw [setB_other _ _ _ e']; exact hb, hbs, ?_, hm, fun t ht => ?_⟩
          · rw [hsame g (Array.getElem?_eq_some_iff.1 hh).1 (hne g (by rw [hb]; rfl))]; exact hh
          · obtain ⟨u, hu, h2, h3⟩ := hr t ht
            exact ⟨u, hu, h2, hmono (hkj _ (allB_iff hf.2 t ht)) (kill_R h3)⟩
        | arow n1 k1 get1 e1 =>
          obtain ⟨xs1, hown1, hr⟩ := h1
          refine ⟨xs1, ?_, fun i' hi' t ht => ?_⟩
          · rw [setB_other _ _ _ e']
            refine hown1.kept (row := blk (b j)) ⟨hos.1, hos.2.1, hos.2.2.1, hos.2.2.2, fun g hg hk => hsame g hg (fun e2 => hk e2.symm)⟩ (fun g hg => hne g hg)
          · obtain ⟨u, hu, h2, h3⟩ := hr i' hi' t ht
            exact ⟨u, hu, h2, hmonoO h3⟩
    apart := fun p q op oq hp hq hne g hg => by
      rw [lookO_cons] at hp hq
      have hlt : ∀ i o, lookO i (killO j S.owns) = some o → ∀ g, blk (b i) = some g → g < w.heap.size ∧ blk (b j) ≠ some g := fun i o hi g hg => by
        obtain ⟨hij, y, hy, _⟩ := lookO_kill hi
        exact ⟨((h.owns i y hy).lt hg).1, h.apart i j _ _ hy ho hij g hg⟩
      split at hp
      · rename_i e1
        subst e1
        rw [setB_same] at hg
        split at hq
        · rename_i e2; exact absurd e2.symm hne
        · rename_i e2
          rw [setB_other _ _ _ e2]
          intro hh
          have := hlt q oq hq g hh
          rcases hv' g hg with h3 | h3
          · exact this.2 h3
          · omega
      · rename_i e1
        rw [setB_other _ _ _ e1] at hg
        have h4 := hlt p op hp g hg
        split at hq
        · rename_i e2
          subst e2
          rw [setB_same]
          intro hh
          rcases hv' g hh with h3 | h3
          · exact h4.2 h3
          · omega
        · rename_i e2
          rw [setB_other _ _ _ e2]
          obtain ⟨_, y, hy, _⟩ := lookO_kill hp
          obtain ⟨_, z, hz, _⟩ := lookO_kill hq
          exact h.apart p q y z hy hz hne g hg }

/-- What is known of an element type, for append. -/
structure ElemOk (P : Program) (t e : TypeId) (k bytes : Nat) : Prop where
  und : P.underlying t = some (.slice e)
  info : ∃ i z, P.info? e = some i ∧ i.zero = some z ∧ i.size = k ∧ i.bytes = bytes ∧ z.cells.size = k
  pos : 0 < k

theorem run_append_R {w : World} {t ty e : TypeId} {k bytes : Nat} (he : ElemOk P t e k bytes) {base : Nat} {v : Value} {n : Nat} {xs : List Value} (hown : ownsR w base e k v n xs) (hb : base ≤ w.heap.size)
    {A : Option Addr} {m c : Nat} {news : List Value} (hl : news.length = m * k) (hA : 0 < m → ∃ g o, A = some ⟨g, o, none⟩ ∧ ∀ q u, news[q]? = some u → w.cell? ⟨g, o + q, none⟩ = some u) (h1 : ∀ u ∈ news, u.oneCell' = true)
    (h63 : n + m ≤ maxLen) (hby : (n + m) * bytes ≤ 140737488355328) :
    ∃ v' w', (Builtin.append_ #[t, t] ty #[v, .slice A m c]).run P w = .ok v' w' ∧ ownsR w' base e k v' (n + m) (xs ++ news) ∧
      (w'.os = w.os ∧ w'.tape = w.tape ∧ w'.output = w.output ∧ w.heap.size ≤ w'.heap.size) ∧ (∀ g, g < w.heap.size → blk v ≠ some g → w'.heap[g]? = w.heap[g]?) ∧ (∀ g, blk v' = some g → blk v = some g ∨ w.heap.size ≤ g) := by
  obtain ⟨i, z, hi, hz, hsz, hbytes, hzs⟩ := he.info
  rcases Nat.eq_zero_or_pos m with hm | hm
  · subst hm
    have hn : news = [] := List.eq_nil_of_length_eq_zero (by simpa using hl)
    subst hn
    refine ⟨v, w, ?_, by simpa using hown, ⟨rfl, rfl, rfl, Nat.le_refl _⟩, fun _ _ _ => rfl, fun g hg => .inl hg⟩
    have hv : ∃ A' c', v = .slice A' n c' ∧ n ≤ c' := by
      rcases hown with ⟨A', hv, hn, _⟩ | ⟨⟨_, hv⟩, _⟩
      · exact ⟨A', 0, by rw [hv, hn], by omega⟩
      · rcases hv with ⟨hv, hn⟩ | ⟨g, cap, cur, hv, _, _, hc, _⟩
        · exact ⟨none, 0, by rw [hv, hn], by omega⟩
        · exact ⟨_, cap, hv, hc⟩
    obtain ⟨A', c', rfl, hc⟩ := hv
    cases A with
    | none => cases A' <;> simp [Builtin.append_, run_underlying he.und, sizeOf, typeInfo, hi, Builtin.lenOf, hc, Builtin.firstCells, storeCells]
    | some ad => cases A' <;> simp [Builtin.append_, run_underlying he.und, sizeOf, typeInfo, hi, Builtin.lenOf, hc, Builtin.firstCells, storeCells, loadCells, loadCellsFrom]
  · obtain ⟨g, o, rfl, hnews⟩ := hA hm
    have hnews' : ∀ q u, news[q]? = some u → w.cell? ((⟨g, o, none⟩ : Addr).add q) = some u := fun q u hq => by rw [Addr.add_lit]; exact hnews q u hq
    rcases hown with ⟨A', rfl, rfl, rfl⟩ | ⟨hown, g0, m0, c0, hv0⟩
    · -- no room: a new block
      have hfits := growslice_fits (old := 0) (need := 0 + m) (bytes := bytes) (by omega) hby
      have hgr : ∀ old, (World.ownsRow (w.drew.alloc (.cells (news.toArray ++ Builtin.zeroCells z.cells (grownCap w m old e - m)) e)) base e k (.slice (some ⟨w.heap.size, 0, none⟩) m (grownCap w m old e)) m news) := fun old => by
        have hge := grownCap_ge w m old e
        have hcm : grownCap w m old e ≤ maxLen := grownCap_le_maxLen w m old e (by omega)
        refine ⟨hl, .inr ⟨w.heap.size, _, _, rfl, hb, heap_alloc_new w.drew _, hge, hcm, ?_, ?_⟩⟩
        · simp only [Array.size_append, List.size_toArray, size_zeroCells, hzs, hl, ← Nat.add_mul]
          congr 1; omega
        · simp only [Array.toList_append]
          rw [← hl]
          exact List.take_left
      have hge := grownCap_ge w m 0 e
      have hrun : (Builtin.append_ #[t, t] ty #[.slice A' 0 0, .slice (some ⟨g, o, none⟩) m c]).run P w =
          .ok (.slice (some ⟨w.heap.size, 0, none⟩) m (grownCap w m 0 e)) (w.drew.alloc (.cells (news.toArray ++ Builtin.zeroCells z.cells (grownCap w m 0 e - m)) e)) := by
        cases A' with
        | none =>
          exact run_append_nil (P := P) w t ty e i z he.und hi hz ⟨g, o, none⟩ m c news (by rw [hsz]; exact hl) hnews' hm (by simp only [maxLen] at h63; omega) (by rw [hbytes]; have := hby; simp only [Nat.zero_add] at this; omega)
        | some ad =>
          have := run_append_grow (P := P) w t ty e i z he.und hi hz ad 0 0 [] (by simp) (by intro j u h; simp at h) ⟨g, o, none⟩ m c news (by rw [hsz]; exact hl) hnews' (by omega) (by simp only [maxLen] at h63; omega) (by rw [hbytes]; exact hfits)
          simpa using this
      refine ⟨_, _, hrun, .inr ⟨by simpa using hgr 0, w.heap.size, m, grownCap w m 0 e - 1, by congr 1; omega⟩, ⟨rfl, rfl, rfl, by simp⟩, fun q hq _ => Below.heap_alloc w.drew _ q hq, fun q hq => ?_⟩
      right
      have e2 : grownCap w m 0 e = (grownCap w m 0 e - 1) + 1 := by omega
      rw [e2] at hq
      simp only [blk, Option.some.injEq] at hq
      omega
    · obtain ⟨v', w', hrun, h2, h3, h4⟩ := run_append_own (P := P) w base t ty e i z k bytes he.und hi hz hsz hbytes hzs he.pos v n xs hown ⟨g, o, none⟩ m c news hl hnews' h1 h63 hby hb
      have hvb : v.ownBlock = some g0 := by rw [hv0]; rfl
      have hbv : blk v = some g0 := by rw [hv0]; rfl
      have hne : v' ≠ .slice none 0 0 := fun e => by have := (h4.1 e).2; omega
      refine ⟨v', w', hrun, ?_, ⟨h3.os, h3.tape, h3.output, h3.size⟩, fun q hq hk => h3.block q hq (by rw [hvb]; rw [hbv] at hk; exact fun e => hk e.symm), fun q hq => ?_⟩
      · rcases h2.2 with ⟨e1, _⟩ | ⟨g', cap, cur, e1, _, _, hc, _⟩
        · exact absurd e1 hne
        · exact .inr ⟨h2, g', n + m, cap - 1, by rw [e1]; congr 1; omega⟩
      · by_cases hq2 : w.heap.size ≤ q
        · exact .inr hq2
        · left
          rw [hbv]
          rcases h2.2 with ⟨e1, _⟩ | ⟨g', cap, cur, e1, hbs, hh, hc, hmx, hcs, htk⟩
          · exact absurd e1 hne
          · have hgq : g' = q := by
              rw [e1] at hq
              cases cap with
              | zero => simp [blk] at hq
              | succ c => simpa [blk] using hq
            subst hgq
            -- the block was there: it is the old one, for 'append' hands back the old block or a new one
            by_cases e3 : some g' = v.ownBlock
            · rw [hvb] at e3; exact e3.symm
            · exfalso
              -- a block of the old heap that 'append' did not write: then v' is the old slice's block
              rcases hown.2 with ⟨e4, _⟩ | ⟨g1, cap1, cur1, e4, _, hh1, hc1, hm1, hs1, ht1⟩
              · rw [e4] at hv0; simp at hv0
              · rw [e4] at hrun
                by_cases hroom : n + m ≤ cap1
                · have hr := run_append_room (P := P) (ty := ty) w t e i he.und hi g1 n cap1 cur1 hh1 ⟨g, o, none⟩ m c news (by rw [hsz]; exact hl) hnews' h1 hroom (by rw [hsz, hl, hs1, ← Nat.add_mul]; exact Nat.mul_le_mul_right _ hroom)
                  rw [hr] at hrun
                  injection hrun with e5 _
                  rw [← e5] at e1
                  simp only [Value.slice.injEq, Option.some.injEq, Addr.mk.injEq, and_true] at e1
                  apply e3
                  rw [e4, ← e1.1]; rfl
                · have holds : ∀ q u, xs[q]? = some u → w.cell? ((⟨g1, 0, none⟩ : Addr).add q) = some u := by rw [e4] at hown; exact hown.cells (g := g1) rfl
                  have hr := run_append_grow (P := P) (ty := ty) w t e i z he.und hi hz ⟨g1, 0, none⟩ n cap1 xs (by rw [hsz]; exact hown.1) holds ⟨g, o, none⟩ m c news (by rw [hsz]; exact hl) hnews' (by omega) (by simp only [maxLen] at h63; omega) (by rw [hbytes]; exact growslice_fits (by omega) hby)
                  rw [hr] at hrun
                  injection hrun with e5 _
                  rw [← e5] at e1
                  simp only [Value.slice.injEq, Option.some.injEq, Addr.mk.injEq, and_true] at e1
                  omega
end Go.Eng

namespace Go.Eng
open Go.RowKit
variable {P : Program} {E : Env}

/-- The cells of a row, laid out. -/
theorem row_cells {w : World} {X : Nat → Prop} {n k : Nat} {get : Nat → Nat → SV} {val : Value} (h : RO w X (.row n k get) val) :
    ∃ (A : Option Addr) (c : Nat) (news : List Value), val = .slice A n c ∧ n ≤ c ∧ news.length = n * k ∧ (0 < n → ∃ g o, A = some ⟨g, o, none⟩ ∧ ∀ q u, news[q]? = some u → w.cell? ⟨g, o + q, none⟩ = some u) ∧ (∀ u ∈ news, u.oneCell' = true) ∧
      ∀ i, i < n → ∀ t, t < k → ∃ u, news[i * k + t]? = some u ∧ u.oneCell' = true ∧ RO w X (get i t) u := by
  obtain ⟨A, c, rfl, hn, hc, hr⟩ := h
  rcases Nat.eq_zero_or_pos n with h0 | h0
  · subst h0
    exact ⟨A, c, [], rfl, hn, by simp, fun h => absurd h (by omega), fun u hu => by simp at hu, fun i hi => absurd hi (by omega)⟩
  · obtain ⟨g, o, rfl, hg, hX, hr⟩ := hr h0
    rcases Nat.eq_zero_or_pos k with hk | hk
    · subst hk
      exact ⟨_, c, [], rfl, hn, by simp, fun _ => ⟨g, o, rfl, fun q u h => by simp at h⟩, fun u hu => by simp at hu, fun i hi t ht => absurd ht (by omega)⟩
    · let f : Nat → Value := fun q => (w.cell? ⟨g, o + q, none⟩).getD undef
      have hq : ∀ q, q < n * k → ∃ u, w.cell? ⟨g, o + q, none⟩ = some u ∧ u.oneCell' = true := fun q hq => by
        have h1 : q / k < n := Nat.div_lt_of_lt_mul (by rw [Nat.mul_comm]; exact hq)
        obtain ⟨u, hu, h2, _⟩ := hr (q / k) h1 (q % k) (Nat.mod_lt _ hk)
        have e : q / k * k + q % k = q := by rw [Nat.mul_comm]; exact Nat.div_add_mod q k
        rw [e] at hu
        exact ⟨u, hu, h2⟩
      refine ⟨_, c, (List.range (n * k)).map f, rfl, hn, by simp, fun _ => ⟨g, o, rfl, fun q u h => ?_⟩, fun u hu => ?_, fun i hi t ht => ?_⟩
      · simp only [List.getElem?_map] at h
        by_cases h1 : q < n * k
        · rw [List.getElem?_range h1] at h
          simp only [Option.map_some, Option.some.injEq] at h
          obtain ⟨u', hu', _⟩ := hq q h1
          rw [← h]; simp only [f]; rw [hu']; rfl
        · rw [List.getElem?_eq_none (by simpa using h1)] at h; cases h
      · obtain ⟨q, hq1, rfl⟩ := List.mem_map.1 hu
        obtain ⟨u', hu', h2⟩ := hq q (by simpa using hq1)
        simp only [f]; rw [hu']; exact h2
      · have hlt : i * k + t < n * k := by
          have : (i + 1) * k ≤ n * k := Nat.mul_le_mul_right _ hi
          have e1 : (i + 1) * k = i * k + k := by rw [Nat.add_mul, Nat.one_mul]
          omega
        obtain ⟨u, hu, h2, h3⟩ := hr i hi t ht
        exact ⟨u, by simp [hlt, f, hu], h2, h3⟩

theorem run_appendOp {a : Act} {x y : Operand} {t : TypeId} {dst : Option Tmp} {ty : TypeId} {pos : String} {after : Array Edge} {gd : Option (Nat × Bool)} {w w' : World} {v' : Value}
    (h : (Builtin.append_ #[t, t] ty #[a.eval x, a.eval y]).run P w = .ok v' w') :
    (execOp a.eval { dst, op := .call { callee := .builtin .append, args := #[x, y], argTypes := #[t, t] }, type := ty, pos, after, guard := gd }).run P w = .ok (.value v') w' := by
  simp [execOp, resolve, invoke, builtin, h]

/-- append onto a slice of the frame's own. -/
theorem t_app {ops : Array Oper} {rest : List Oper} {S : St} {K : St → Prop} {d : Tmp} {x y : Operand} {t : TypeId} {ty : TypeId} {pos : String} {after : Array Edge} {j n n' k m bytes : Nat} {get get2 : Nat → Nat → SV} {e : TypeId} (j' : Nat) (get' : Nat → Nat → SV)
    (hd : d < E.N) (he : ElemOk P t e k bytes) (hx : Val E S x (.own j)) (ho : lookO j S.owns = some (.arow n k get e)) (hy : Val E S y (.row m k get2)) (hf : S.fresh j' = true)
    (hn : n + m = n') (h63 : n + m ≤ maxLen) (hby : (n + m) * bytes ≤ 140737488355328)
    (hg : ∀ i, i < n + m → ∀ t, t < k → get' i t = if i < n then get i t else get2 (i - n) t)
    (hk : T P E ops rest ⟨(d, .own j') :: killS j S.slots, (j', .arow n' k get' e) :: killO j S.owns⟩ K) :
    T P E ops ({ dst := some d, op := .call { callee := .builtin .append, args := #[x, y], argTypes := #[t, t] }, type := ty, pos, after, guard := none } :: rest) S K := by
  subst hn
  rintro a w ⟨b, hr⟩ Q hq
  have hxv : a.eval x = b j := hx b a w hr
  obtain ⟨A, c, news, hyv, hmc, hl, hA, h1, hel⟩ := row_cells (hy b a w hr)
  obtain ⟨xs, hown, hel0⟩ := hr.owns j _ ho
  obtain ⟨v', w', hrun, h2, h3, h4, h5⟩ := run_append_R (P := P) (ty := ty) he hown hr.below.size hl hA h1 h63 hby (c := c)
  have hlen : xs.length = n * k := by
    rcases hown with ⟨_, _, hn, hxs⟩ | ⟨hown, _⟩
    · rw [hn, hxs]; simp
    · exact hown.1
  unfold wpList
  rw [if_pos (by rfl)]
  refine .inl (wp_of_run (run_appendOp (by rw [hxv, hyv]; exact hrun)) ?_)
  have hb := hr.regrow (j' := j') (get' := get') ho hf h3 h4 h5 h2 (fun i hi t ht => by
    rw [hg i hi t ht]
    by_cases hin : i < n
    · rw [if_pos hin]
      obtain ⟨u, hu, h6, h7⟩ := hel0 i hin t ht
      refine ⟨u, ?_, h6, h7⟩
      rw [List.getElem?_append_left]
      · exact hu
      · exact (List.getElem?_eq_some_iff.1 hu).1
    · rw [if_neg hin]
      obtain ⟨u, hu, h6, h7⟩ := hel (i - n) (by omega) t ht
      refine ⟨u, ?_, h6, h7⟩
      have e1 : i * k + t = n * k + ((i - n) * k + t) := by
        have : i * k = n * k + (i - n) * k := by rw [← Nat.add_mul]; congr 1; omega
        omega
      rw [List.getElem?_append_right (by rw [hlen]; omega), hlen, e1, Nat.add_sub_cancel_left]
      exact hu)
  refine hk _ _ ⟨_, hb.put (x := .own j') hd (setB_same _ _ _).symm⟩ Q hq

theorem app_typed {α : Type} {c : α → Nat → SV} {d : α} {l m : List α} {k : Nat} : ∀ i, i < l.length + m.length → ∀ t, t < k → rowG c d (l ++ m) i t = if i < l.length then rowG c d l i t else rowG c d m (i - l.length) t := by
  intro i _ t _
  simp only [rowG, getD_app]
  split <;> rfl

/-- A new slice that nobody owns yet: a value that is nil, or has no room, becomes the frame's own. -/
theorem RepB.newown {b : Nat → Value} {S : St} {a : Act} {w : World} (h : RepB E b S a w) {j k : Nat} {get : Nat → Nat → SV} {e : TypeId} {A : Option Addr} (hf : S.fresh j = true) :
    RepB E (setB b j (.slice A 0 0)) ⟨S.slots, (j, .arow 0 k get e) :: S.owns⟩ a w := by
  simp only [St.fresh, Bool.and_eq_true] at hf
  have hX : ∀ g, St.excl ⟨S.slots, (j, .arow 0 k get e) :: S.owns⟩ E (setB b j (.slice A 0 0)) g → S.excl E b g := by
    rintro g (hh | ⟨i, o, h1, h2⟩)
    · exact .inl hh
    · rw [lookO_cons] at h1
      split at h1
      · rename_i e'; subst e'; rw [setB_same] at h2; cases A <;> simp [blk] at h2
      · rename_i e'; rw [setB_other _ _ _ e'] at h2; exact .inr ⟨i, o, h1, h2⟩
  have hmono : ∀ {x : SV} {val : Value}, x.noId j = true → R w (S.excl E b) b x val → R w (St.excl ⟨S.slots, (j, .arow 0 k get e) :: S.owns⟩ E (setB b j (.slice A 0 0))) (setB b j (.slice A 0 0)) x val :=
    fun hx hr => R_setB hx (hr.mono ⟨Nat.le_refl _, fun _ _ _ => rfl⟩ (fun g _ hh => hX g hh))
  exact {
    size := h.size
    defers := h.defers
    below := h.below
    slots := fun s x hx => hmono (look_fresh hf.1 s x hx) (h.slots s x hx)
    owns := fun i o ho => by
      rw [lookO_cons] at ho
      split at ho
      · rename_i e'
        injection ho with ho
        subst ho; subst e'
        exact ⟨[], .inl ⟨A, setB_same _ _ _, rfl, rfl⟩, fun i hi => absurd hi (by omega)⟩
      · rename_i e'
        have h1 := h.owns i o ho
        have hij := lookO_fresh hf.2 i o ho
        cases o with
        | box m' get' ty' =>
          obtain ⟨g, cs', hb, hbase, hh, hm', hr⟩ := h1
          refine ⟨g, cs', by rw [setB_other _ _ _ hij.1]; exact hb, hbase, hh, hm', fun t ht => ?_⟩
          obtain ⟨u, hu, h2, h3⟩ := hr t ht
          exact ⟨u, hu, h2, hmono (allB_iff hij.2 t ht) h3⟩
        | arow n k get' elem =>
          obtain ⟨xs, hown, hr⟩ := h1
          refine ⟨xs, by rw [setB_other _ _ _ hij.1]; exact hown, fun i hi t ht => ?_⟩
          obtain ⟨u, hu, h2, h3⟩ := hr i hi t ht
          exact ⟨u, hu, h2, h3.mono ⟨Nat.le_refl _, fun _ _ _ => rfl⟩ (fun g _ hh => hX g hh)⟩
    apart := fun p q op oq hp hq hne g hg => by
      rw [lookO_cons] at hp hq
      split at hp
      · rename_i e'; subst e'; rw [setB_same] at hg; cases A <;> simp [blk] at hg
      · rename_i e'
        rw [setB_other _ _ _ e'] at hg
        split at hq
        · rename_i e2; subst e2; rw [setB_same]; cases A <;> simp [blk]
        · rename_i e2; rw [setB_other _ _ _ e2]; exact h.apart p q op oq hp hq hne g hg }

/-- 'var out []T', 'out = nil': a slice of the frame's own, of nothing. -/
theorem t_nilO {ops : Array Oper} {rest : List Oper} {S : St} {K : St → Prop} {d : Tmp} {ty : TypeId} {pos : String} {after : Array Edge} {op : Op} (j k : Nat) (get : Nat → Nat → SV) (e : TypeId) (hop : op = .assign (.const (.slice none 0 0)) ∨ op = .move (.const (.slice none 0 0)))
    (hd : d < E.N) (hf : S.fresh j = true) (hk : T P E ops rest ⟨(d, .own j) :: S.slots, (j, .arow 0 k get e) :: S.owns⟩ K) :
    T P E ops ({ dst := some d, op, type := ty, pos, after, guard := none } :: rest) S K := by
  rintro a w ⟨b, hr⟩ Q hq
  unfold wpList
  rw [if_pos (by rfl)]
  refine .inl (wp_of_run (w' := w) (v := .slice none 0 0) ?_ ?_)
  · rcases hop with rfl | rfl <;> rfl
  · exact hk _ _ ⟨_, (hr.newown (k := k) (get := get) (e := e) (A := none) hf).put (x := .own j) hd (setB_same _ _ _).symm⟩ Q hq

/-- 's[:0:0]' -/
theorem t_cut0 {ops : Array Oper} {rest : List Oper} {S : St} {K : St → Prop} {d : Tmp} {x : Operand} {t : TypeId} {ty : TypeId} {pos : String} {after : Array Edge} {n k : Nat} {get : Nat → Nat → SV} (j : Nat) (get' : Nat → Nat → SV) (e : TypeId)
    (ht : P.underlying t = some (.slice (P.elem t))) (hs : ∀ w, (sizeOf (P.elem t)).run P w = .ok k w) (hx : Val E S x (.row n k get))
    (hd : d < E.N) (hf : S.fresh j = true) (hk : T P E ops rest ⟨(d, .own j) :: S.slots, (j, .arow 0 k get' e) :: S.owns⟩ K) :
    T P E ops ({ dst := some d, op := .slice t x none (some (.const (.int .i64 0))) (some (.const (.int .i64 0))), type := ty, pos, after, guard := none } :: rest) S K := by
  rintro a w ⟨b, hr⟩ Q hq
  obtain ⟨A, c, hv, hn, hc, _⟩ := hx b a w hr
  unfold wpList
  rw [if_pos (by rfl)]
  refine .inl (wp_of_run (w' := w) (v := .slice A 0 0) ?_ ?_)
  · have h0 : a.eval (.const (.int .i64 0)) = .int .i64 0 := rfl
    have h1 := run_slice_hm (P := P) w t A n c ht .i64 .i64 0 0 (Int.le_refl _) (Int.le_refl _) (by omega)
    simp only [execOp, Option.map_none, Option.map_some, h0, hv, Sem.run_bind, run_sliceAt_slice w t _ _ _ _ ht, h1, hs, Result.andThen_ok]
    simp [sliced]
  · exact hk _ _ ⟨_, (hr.newown (k := k) (get := get') (e := e) (A := A) hf).put (x := .own j) hd (setB_same _ _ _).symm⟩ Q hq

/-- A part of a row. -/
theorem q_sl {S : St} {x lo hi : Operand} {t : TypeId} {n k : Nat} {get : Nat → Nat → SV} {l h : Int} (ht : P.underlying t = some (.slice (P.elem t))) (hs : ∀ w, (sizeOf (P.elem t)).run P w = .ok k w) (hx : Val E S x (.row n k get))
    (hlo : Val E S lo (.v (.int .i64 l))) (hhi : Val E S hi (.v (.int .i64 h))) (h0 : 0 ≤ l) (h1 : l ≤ h) (h2 : h ≤ n) :
    OpQ P E S (.slice t x (some lo) (some hi) none) (.row (h.toNat - l.toNat) k fun i t => get (l.toNat + i) t) := fun b a w hr dst ty pos after gd => by
  obtain ⟨A, c, hv, hn, hc, hr'⟩ := hx b a w hr
  have hl : a.eval lo = .int .i64 l := hlo b a w hr
  have hh : a.eval hi = .int .i64 h := hhi b a w hr
  refine ⟨.slice (if c = l.toNat then A else A.map (·.add (l.toNat * k))) (h.toNat - l.toNat) (c - l.toNat), fun w' hw' => ?_, _, _, rfl, by omega, by omega, fun hp => ?_⟩
  · have h3 := run_slice_lh (P := P) w' t A n c ht .i64 .i64 l h h0 h1 (by omega)
    simp only [execOp, Option.map_none, Option.map_some, hl, hh, hv, Sem.run_bind, run_sliceAt_slice w' t _ _ _ _ ht, h3, hs, Result.andThen_ok]
    simp [sliced]
  · have hn0 : 0 < n := by clear hr'; omega
    have hcl : ¬ c = l.toNat := by clear hr'; omega
    have hlt : ∀ i, i < h.toNat - l.toNat → l.toNat + i < n := by clear hr'; intro i hi; omega
    obtain ⟨g, o, rfl, hg, hX, hr'⟩ := hr' hn0
    rw [if_neg hcl]
    refine ⟨g, o + l.toNat * k, by simp [Addr.add_lit], hg, hX, fun i hi t ht => ?_⟩
    obtain ⟨u, hu, h4, h5⟩ := hr' (l.toNat + i) (hlt i hi) t ht
    refine ⟨u, ?_, h4, h5⟩
    have e : o + l.toNat * k + (i * k + t) = o + ((l.toNat + i) * k + t) := by simp only [Nat.add_mul, Nat.add_assoc]
    rw [e]; exact hu
theorem q_slH {S : St} {x hi : Operand} {t : TypeId} {n k : Nat} {get : Nat → Nat → SV} {h : Int} (ht : P.underlying t = some (.slice (P.elem t))) (hs : ∀ w, (sizeOf (P.elem t)).run P w = .ok k w) (hx : Val E S x (.row n k get))
    (hhi : Val E S hi (.v (.int .i64 h))) (h1 : 0 ≤ h) (h2 : h ≤ n) :
    OpQ P E S (.slice t x none (some hi) none) (.row h.toNat k get) := fun b a w hr dst ty pos after gd => by
  obtain ⟨A, c, hv, hn, hc, hr'⟩ := hx b a w hr
  have hh : a.eval hi = .int .i64 h := hhi b a w hr
  refine ⟨.slice A h.toNat c, fun w' hw' => ?_, _, _, rfl, by omega, by omega, fun hp => ?_⟩
  · have h3 := run_slice_h (P := P) w' t A n c ht .i64 h h1 (by omega)
    simp only [execOp, Option.map_none, Option.map_some, hh, hv, Sem.run_bind, run_sliceAt_slice w' t _ _ _ _ ht, h3, hs, Result.andThen_ok]
    cases A <;> simp [sliced, Addr.add_zero']
  · have hn0 : 0 < n := by clear hr'; omega
    have hlt : ∀ i, i < h.toNat → i < n := by clear hr'; intro i hi; omega
    obtain ⟨g, o, rfl, hg, hX, hr'⟩ := hr' hn0
    exact ⟨g, o, rfl, hg, hX, fun i hi t ht => hr' i (hlt i hi) t ht⟩
theorem q_slL {S : St} {x lo : Operand} {t : TypeId} {n k : Nat} {get : Nat → Nat → SV} {l : Int} (ht : P.underlying t = some (.slice (P.elem t))) (hs : ∀ w, (sizeOf (P.elem t)).run P w = .ok k w) (hx : Val E S x (.row n k get))
    (hlo : Val E S lo (.v (.int .i64 l))) (h1 : 0 ≤ l) (h2 : l ≤ n) :
    OpQ P E S (.slice t x (some lo) none none) (.row (n - l.toNat) k fun i t => get (l.toNat + i) t) := fun b a w hr dst ty pos after gd => by
  obtain ⟨A, c, hv, hn, hc, hr'⟩ := hx b a w hr
  have hl : a.eval lo = .int .i64 l := hlo b a w hr
  refine ⟨.slice (if c = l.toNat then A else A.map (·.add (l.toNat * k))) (n - l.toNat) (c - l.toNat), fun w' hw' => ?_, _, _, rfl, by omega, by omega, fun hp => ?_⟩
  · have h3 := run_slice_l (P := P) w' t A n c ht .i64 l h1 (by omega)
    simp only [execOp, Option.map_none, Option.map_some, hl, hv, Sem.run_bind, run_sliceAt_slice w' t _ _ _ _ ht, h3, hs, Result.andThen_ok]
    simp [sliced]
  · have hn0 : 0 < n := by clear hr'; omega
    have hcl : ¬ c = l.toNat := by clear hr'; omega
    have hlt : ∀ i, i < n - l.toNat → l.toNat + i < n := by clear hr'; intro i hi; omega
    obtain ⟨g, o, rfl, hg, hX, hr'⟩ := hr' hn0
    rw [if_neg hcl]
    refine ⟨g, o + l.toNat * k, by simp [Addr.add_lit], hg, hX, fun i hi t ht => ?_⟩
    obtain ⟨u, hu, h4, h5⟩ := hr' (l.toNat + i) (hlt i hi) t ht
    refine ⟨u, ?_, h4, h5⟩
    have e : o + l.toNat * k + (i * k + t) = o + ((l.toNat + i) * k + t) := by simp only [Nat.add_mul, Nat.add_assoc]
    rw [e]; exact hu

/-- The same row, said in other words. -/
theorem RO.row_congr {w : World} {X : Nat → Prop} {n k : Nat} {get get' : Nat → Nat → SV} {val : Value} (h : RO w X (.row n k get) val) (he : ∀ i, i < n → ∀ t, t < k → get i t = get' i t) : RO w X (.row n k get') val := by
  obtain ⟨A, c, hv, hn, hc, hr⟩ := h
  refine ⟨A, c, hv, hn, hc, fun h0 => ?_⟩
  obtain ⟨g, o, hA, hg, hX, hr⟩ := hr h0
  refine ⟨g, o, hA, hg, hX, fun i hi t ht => ?_⟩
  obtain ⟨u, hu, h1, h2⟩ := hr i hi t ht
  exact ⟨u, hu, h1, he i hi t ht ▸ h2⟩
theorem q_row {S : St} {op : Op} {n n' k : Nat} {get get' : Nat → Nat → SV} (h : OpQ P E S op (.row n k get)) (hn : n = n') (he : ∀ i, i < n' → ∀ t, t < k → get i t = get' i t) : OpQ P E S op (.row n' k get') := fun b a w hr dst ty pos after gd => by
  subst hn
  obtain ⟨v, h1, h2⟩ := h b a w hr dst ty pos after gd
  exact ⟨v, h1, RO.row_congr h2 he⟩
theorem val_row {S : St} {x : Operand} {n n' k : Nat} {get get' : Nat → Nat → SV} (h : Val E S x (.row n k get)) (hn : n = n') (he : ∀ i, i < n' → ∀ t, t < k → get i t = get' i t) : Val E S x (.row n' k get') := fun b a w hr => by
  subst hn
  exact RO.row_congr (h b a w hr) he

/-! From the frame's own to what nobody writes any more. -/
def frz (j : Nat) (y : SV) : SV → SV
  | .own i => match Nat.beq i j with | true => y | false => .own i
  | .oe i k p off => match Nat.beq i j with | true => .junk | false => .oe i k p off
  | .agg m get => .agg m fun t => frz j y (get t)
  | .tup m get => .tup m fun t => frz j y (get t)
  | .grd c x => .grd c (frz j y x)
  | x => x
def frzS (j : Nat) (y : SV) : List (Nat × SV) → List (Nat × SV)
  | [] => []
  | p :: r => (p.1, frz j y p.2) :: frzS j y r
def frzOwn (j : Nat) (y : SV) : Own → Own
  | .box m get ty => .box m (fun t => frz j y (get t)) ty
  | .arow n k get e => .arow n k get e
def frzO (j : Nat) (y : SV) : List (Nat × Own) → List (Nat × Own)
  | [] => []
  | p :: r => match Nat.beq j p.1 with
    | true => frzO j y r
    | false => (p.1, frzOwn j y p.2) :: frzO j y r
theorem look_frz {j : Nat} {y : SV} : ∀ {l : List (Nat × SV)} {s : Nat} {x : SV}, look s (frzS j y l) = some x → ∃ z, look s l = some z ∧ x = frz j y z
  | [], s, x, h => by simp [frzS, look] at h
  | (d, z) :: r, s, x, h => by
    simp only [frzS] at h
    rw [look_cons] at h ⊢
    split at h
    · injection h with h
      exact ⟨z, by rename_i e; rw [if_pos e], h.symm⟩
    · obtain ⟨z', hz, e⟩ := look_frz h
      exact ⟨z', by rename_i e'; rw [if_neg e']; exact hz, e⟩
theorem lookO_frz {j : Nat} {y : SV} : ∀ {l : List (Nat × Own)} {s : Nat} {x : Own}, lookO s (frzO j y l) = some x → s ≠ j ∧ ∃ z, lookO s l = some z ∧ x = frzOwn j y z
  | [], s, x, h => by simp [frzO, lookO] at h
  | (d, z) :: r, s, x, h => by
    simp only [frzO] at h
    split at h
    · rename_i hb
      have hb := Nat.eq_of_beq_eq_true hb
      subst hb
      obtain ⟨h1, z', hz, e⟩ := lookO_frz h
      exact ⟨h1, z', by rw [lookO_cons, if_neg h1]; exact hz, e⟩
    · rename_i hb
      rw [lookO_cons] at h ⊢
      split at h
      · rename_i e
        injection h with h
        exact ⟨fun e' => (by rw [← e', e] at hb; simp at hb), z, by rw [if_pos e], h.symm⟩
      · rename_i e
        obtain ⟨h1, z', hz, e2⟩ := lookO_frz h
        exact ⟨h1, z', by rw [if_neg e]; exact hz, e2⟩
theorem frz_R {w : World} {X X' : Nat → Prop} {b : Nat → Value} {j : Nat} {y : SV} (hX : ∀ g, X' g → X g) (hy : R w X' b y (b j)) {x : SV} {val : Value} (h : R w X b x val) : R w X' b (frz j y x) val := by
  have he : Ext X w w := ⟨Nat.le_refl _, fun _ _ _ => rfl⟩
  induction x generalizing val with
  | own i =>
    simp only [frz]
    split
    · rename_i hb
      have hb := Nat.eq_of_beq_eq_true hb
      subst hb
      have : val = b i := h
      rw [this]; exact hy
    · exact h
  | oe i k p off =>
    simp only [frz]
    split
    · trivial
    · exact h
  | agg m get ih =>
    obtain ⟨cs, rfl, hm, hr⟩ := h
    refine ⟨cs, rfl, hm, fun t ht => ?_⟩
    obtain ⟨u, hu, h1, h2⟩ := hr t ht
    exact ⟨u, hu, h1, ih t h2⟩
  | tup m get ih =>
    obtain ⟨cs, rfl, hm, hr⟩ := h
    refine ⟨cs, rfl, hm, fun t ht => ?_⟩
    obtain ⟨u, hu, h2⟩ := hr t ht
    exact ⟨u, hu, ih t h2⟩
  | grd c x ih => exact ⟨fun hc => ih (h.1 hc), h.2⟩
  | v x => exact h.mono he (fun g _ hh => hX g hh)
  | row n k get ih => exact h.mono he (fun g _ hh => hX g hh)
  | el n k get i off ih => exact h.mono he (fun g _ hh => hX g hh)
  | bp i off => exact h
  | fn f caps => exact h
  | junk => trivial
  | abs p hp => exact h.mono he (fun g _ hh => hX g hh)

theorem weak_frz {S : St} (j : Nat) {n k : Nat} {get : Nat → Nat → SV} {e : TypeId} (ho : lookO j S.owns = some (.arow n k get e)) : Weak E S ⟨frzS j (.row n k get) S.slots, frzO j (.row n k get) S.owns⟩ := fun b a w hr => by
  have he : Ext (S.excl E b) w w := ⟨Nat.le_refl _, fun _ _ _ => rfl⟩
  have hX : ∀ g, St.excl ⟨frzS j (.row n k get) S.slots, frzO j (.row n k get) S.owns⟩ E b g → S.excl E b g := by
    rintro g (hh | ⟨i, o, h1, h2⟩)
    · exact .inl hh
    · obtain ⟨_, z, hz, _⟩ := lookO_frz h1
      exact .inr ⟨i, z, hz, h2⟩
  have hnX : ∀ g, blk (b j) = some g → ¬ St.excl ⟨frzS j (.row n k get) S.slots, frzO j (.row n k get) S.owns⟩ E b g := by
    rintro g hg (hh | ⟨i, o, h1, h2⟩)
    · have h3 := E.hX g hh
      have h4 := ((hr.owns j _ ho).lt hg).2
      omega
    · obtain ⟨hij, z, hz, _⟩ := lookO_frz h1
      exact hr.apart i j z _ hz ho hij g h2 hg
  have hy : R w (St.excl ⟨frzS j (.row n k get) S.slots, frzO j (.row n k get) S.owns⟩ E b) b (.row n k get) (b j) := by
    rcases Nat.eq_zero_or_pos n with h0 | h0
    · obtain ⟨xs, h, _⟩ := hr.owns j _ ho
      rcases h with ⟨A, hv, hn, _⟩ | ⟨⟨_, hv⟩, _⟩
      · exact ⟨A, 0, by rw [hv, hn], by omega, by simp [maxLen], fun h => absurd h (by omega)⟩
      · rcases hv with ⟨hv, hn⟩ | ⟨g, cap, cur, hv, _, _, hc, hm, _⟩
        · exact ⟨none, 0, by rw [hv, hn], by omega, by simp [maxLen], fun h => absurd h (by omega)⟩
        · exact ⟨_, cap, hv, hc, hm, fun h => absurd h (by omega)⟩
    · obtain ⟨g, c, cur, hb, hbase, hh, hcap, hmax, hs, hc⟩ := own_cells hr ho h0
      refine ⟨_, c + 1, hb, hcap, hmax, fun _ => ⟨g, 0, rfl, (Array.getElem?_eq_some_iff.1 hh).1, hnX g (by rw [hb]; rfl), fun i hi t ht => ?_⟩⟩
      obtain ⟨u, hu, h1, h2⟩ := hc i hi t ht
      exact ⟨u, by rw [Nat.zero_add, cell_of_row w g _ cur e (0, 0) hh]; exact hu, h1, h2.mono he (fun g _ hh => hX g hh)⟩
  exact {
    size := hr.size
    defers := hr.defers
    below := hr.below
    slots := fun s x hx => by
      obtain ⟨z, hz, rfl⟩ := look_frz hx
      exact frz_R hX hy (hr.slots s z hz)
    owns := fun i o hi => by
      obtain ⟨hij, z, hz, rfl⟩ := lookO_frz hi
      have h1 := hr.owns i z hz
      cases z with
      | box m get'' ty =>
        obtain ⟨g, cs, hb, hbs, hh, hm, hr'⟩ := h1
        refine ⟨g, cs, hb, hbs, hh, hm, fun t ht => ?_⟩
        obtain ⟨u, hu, h2, h3⟩ := hr' t ht
        exact ⟨u, hu, h2, frz_R hX hy h3⟩
      | arow n1 k1 get1 e1 => exact h1.mono hX
    apart := fun p q op oq hp hq hne g hg => by
      obtain ⟨_, z, hz, _⟩ := lookO_frz hp
      obtain ⟨_, z', hz', _⟩ := lookO_frz hq
      exact hr.apart p q z z' hz hz' hne g hg }

theorem T.weak {ops : Array Oper} {rest : List Oper} {S S' : St} {K : St → Prop} (h : Weak E S S') (ht : T P E ops rest S' K) : T P E ops rest S K := fun a w ⟨b, hr⟩ Q hq => ht a w ⟨b, h b a w hr⟩ Q hq
theorem TQ.weak {ops : Array Oper} {rest : List Oper} {S S' : St} {K : St → Prop} (h : Weak E S S') (ht : TQ P E ops rest S' K) : TQ P E ops rest S K := fun b a w hr => ht b a w (h b a w hr)
/-- Freeze, ahead of an operation; ahead of a piece of code. -/
theorem t_frz {ops : Array Oper} {rest : List Oper} {S : St} {K : St → Prop} (j : Nat) {n k : Nat} {get : Nat → Nat → SV} {e : TypeId} (ho : lookO j S.owns = some (.arow n k get e))
    (h : T P E ops rest ⟨frzS j (.row n k get) S.slots, frzO j (.row n k get) S.owns⟩ K) : T P E ops rest S K := h.weak (weak_frz j ho)
theorem tq_frz {ops : Array Oper} {rest : List Oper} {S : St} {K : St → Prop} (j : Nat) {n k : Nat} {get : Nat → Nat → SV} {e : TypeId} (ho : lookO j S.owns = some (.arow n k get e))
    (h : TQ P E ops rest ⟨frzS j (.row n k get) S.slots, frzO j (.row n k get) S.owns⟩ K) : TQ P E ops rest S K := h.weak (weak_frz j ho)
theorem c_frz {c : Code} {S : St} {Q : Exit → Act → World → Prop} (j : Nat) {n k : Nat} {get : Nat → Nat → SV} {e : TypeId} (ho : lookO j S.owns = some (.arow n k get e))
    (h : C P E c ⟨frzS j (.row n k get) S.slots, frzO j (.row n k get) S.owns⟩ Q) : C P E c S Q := (weak_frz j ho).c h
end Go.Eng

namespace Go.Eng
open Go.RowKit
variable {P : Program} {E : Env}

def AllN (p : Nat → Prop) : Nat → Prop
  | 0 => True
  | n + 1 => AllN p n ∧ p n
theorem AllN.at {p : Nat → Prop} : ∀ {n}, AllN p n → ∀ t, t < n → p t
  | n + 1, h, t, ht => by
    by_cases e : t = n
    · exact e ▸ h.2
    · exact AllN.at h.1 t (by omega)

/-! Literals: structs of one-cell fields, arrays, slices. -/
theorem fill_one {place : Nat → Option (Nat × Nat)} {off : Nat → Nat} : ∀ (parts : List (Nat × Value)) (cells : Array Value), (∀ p ∈ parts, place p.1 = some (off p.1, 1) ∧ p.2.oneCell' = true ∧ off p.1 < cells.size) →
    ∃ cs, Instr.fill place cells parts = some cs ∧ cs.size = cells.size ∧ ∀ q, cs[q]? = match (parts.reverse.find? fun p => off p.1 == q) with | some p => some p.2 | none => cells[q]?
  | [], cells, _ => ⟨cells, rfl, rfl, fun q => rfl⟩
  | (i, v) :: rest, cells, h => by
    obtain ⟨h1, h2, h3⟩ := h (i, v) (by simp)
    have hc := cells_one h2
    obtain ⟨cs, hf, hs, hq⟩ := fill_one rest (cells.setIfInBounds (off i) v) (fun p hp => by
      obtain ⟨a1, a2, a3⟩ := h p (by simp [hp])
      exact ⟨a1, a2, by simpa using a3⟩)
    refine ⟨cs, ?_, by simpa using hs, fun q => ?_⟩
    · simp only at h1 h3
      have h4 : ¬ off i + 1 > cells.size := by omega
      simpa [Instr.fill, h1, hc, h4] using hf
    · rw [hq q, List.reverse_cons, List.find?_append]
      cases hfind : rest.reverse.find? fun p => off p.1 == q with
      | some p => simp
      | none =>
        by_cases e : off i = q
        · subst e; simp [h3]
        · simp [e]

/-- Which part stands in cell q (the last one wins). -/
def partAt (off : Nat → Nat) (q : Nat) : List (Nat × SV) → Option SV
  | [] => none
  | p :: r => match partAt off q r with
    | some x => some x
    | none => match Nat.beq (off p.1) q with | true => some p.2 | false => none

def PVals (E : Env) (S : St) : List (Nat × Operand) → List (Nat × SV) → Prop
  | [], [] => True
  | x :: xs, s :: ss => (x.1 = s.1 ∧ Val E S x.2 s.2 ∧ s.2.one = true) ∧ PVals E S xs ss
  | _, _ => False

theorem pvals_find {S : St} {b : Nat → Value} {a : Act} {w : World} (hr : RepB E b S a w) {off : Nat → Nat} {q : Nat} : ∀ {xs : List (Nat × Operand)} {ss : List (Nat × SV)}, PVals E S xs ss →
    (match partAt off q ss with
      | some x => ∃ p, (((xs.map fun y => (y.1, a.eval y.2)).reverse).find? fun p => off p.1 == q) = some p ∧ p.2.oneCell' = true ∧ R w (S.excl E b) b x p.2
      | none => (((xs.map fun y => (y.1, a.eval y.2)).reverse).find? fun p => off p.1 == q) = none)
  | [], [], _ => by simp [partAt]
  | (i, x) :: xs, (i', s) :: ss, h => by
    obtain ⟨⟨hi, hv, h1⟩, hrest⟩ := h
    simp only at hi hv h1
    subst hi
    have ih := pvals_find hr (off := off) (q := q) hrest
    simp only [partAt]
    cases hp : partAt off q ss with
    | some y =>
      rw [hp] at ih
      obtain ⟨p, h2, h3, h4⟩ := ih
      refine ⟨p, ?_, h3, h4⟩
      simp only [List.map_cons, List.reverse_cons, List.find?_append, h2]
      rfl
    | none =>
      rw [hp] at ih
      simp only [List.map_cons, List.reverse_cons, List.find?_append, ih]
      by_cases e : off i = q
      · have hb : Nat.beq (off i) q = true := by rw [e]; simp
        rw [hb]
        refine ⟨(i, a.eval x), by simp [e], (hv b a w hr).one h1, hv b a w hr⟩
      · have hb : Nat.beq (off i) q = false := by
          cases hb : Nat.beq (off i) q
          · rfl
          · exact absurd (Nat.eq_of_beq_eq_true hb) e
        rw [hb]
        simp [e]
  | [], _ :: _, h => h.elim
  | _ :: _, [], h => h.elim

/-- A struct literal, or an array's, of one-cell parts. 'off': a part's place; the rest is the zero value. -/
theorem q_build {S : St} {t : TypeId} {xs : List (Nat × Operand)} (ss : List (Nat × SV)) (off : Nat → Nat) {m : Nat} {zget : Nat → SV} (get : Nat → SV)
    (hz : ZeroOk P t m zget) (hb : ∀ (w : World) (parts : List (Nat × Value)) (z : Value) (cs : Array Value), (zeroValue t).run P w = .ok z w → Instr.fill (fun i => if i < m then some (off i, 1) else none) z.cells parts = some cs → (∀ p ∈ parts, p.1 < m) → (Instr.build t parts.toArray).run P w = .ok (.agg cs) w)
    (hp : PVals E S xs ss) (hlt : ∀ p ∈ xs, p.1 < m ∧ off p.1 < m)
    (hg : AllN (fun q => get q = match partAt off q ss with | some x => x | none => zget q) m) :
    OpQ P E S (.build t xs.toArray) (.agg m get) := fun b a w hr dst ty pos after gd => by
  obtain ⟨z, hz1, hz2, hz3⟩ := hz
  have hone : ∀ {xs : List (Nat × Operand)} {ss : List (Nat × SV)}, PVals E S xs ss → ∀ p ∈ xs.map (fun y => (y.1, a.eval y.2)), p.2.oneCell' = true := by
    intro xs
    induction xs with
    | nil => intro ss _ p hp; simp at hp
    | cons x xs ih =>
      intro ss h p hp
      cases ss with
      | nil => exact h.elim
      | cons s ss =>
        simp only [List.map_cons, List.mem_cons] at hp
        rcases hp with rfl | hp
        · exact (h.1.2.1 b a w hr).one h.1.2.2
        · exact ih h.2 p hp
  obtain ⟨cs, hf, hs, hq⟩ := fill_one (place := fun i => if i < m then some (off i, 1) else none) (off := off) (xs.map fun y => (y.1, a.eval y.2)) z.cells (fun p hp => by
    obtain ⟨x, hx, rfl⟩ := List.mem_map.1 hp
    refine ⟨by simp [(hlt x hx).1], hone ‹_› _ hp, by rw [hz2]; exact (hlt x hx).2⟩)
  refine ⟨.agg cs, fun w' hw' => ?_, cs, rfl, by omega, fun t ht => ?_⟩
  · have := hb w' (xs.map fun y => (y.1, a.eval y.2)) z cs (hz1 w') hf (fun p hp => by
      obtain ⟨x, hx, rfl⟩ := List.mem_map.1 hp
      exact (hlt x hx).1)
    simp [execOp, this]
  · have h1 := hg.at t ht
    have h2 := pvals_find hr (off := off) (q := t) hp
    rw [hq t]
    cases hpa : partAt off t ss with
    | some x =>
      rw [hpa] at h1 h2
      obtain ⟨p, h3, h4, h5⟩ := h2
      rw [h3]
      exact ⟨p.2, rfl, h4, h1 ▸ h5⟩
    | none =>
      rw [hpa] at h1 h2
      rw [h2]
      obtain ⟨u, hu, h3, h4⟩ := hz3 t ht
      exact ⟨u, hu, h3, h1 ▸ (h4 _ _).toR⟩

/-- The parts of a slice's literal: place s on; each a struct or a value of one cell, of nobody's own memory. -/
def SVals (E : Env) (S : St) (k : Nat) : Nat → List (Nat × Operand) → List (Nat → SV) → Prop
  | _, [], [] => True
  | s, x :: xs, g :: gs => (x.1 = s ∧ (Val E S x.2 (.agg k g) ∨ (k = 1 ∧ Val E S x.2 (g 0) ∧ (g 0).one = true)) ∧ allB (fun t => (g t).isRO) k = true) ∧ SVals E S k (s + 1) xs gs
  | _, _, _ => False

theorem foldl_set (off : Nat) : ∀ (vs : List Value) (j : Nat) (cells : Array Value), ((vs.zipIdx j).foldl (fun cs p => cs.setIfInBounds (off + p.2) p.1) cells).size = cells.size ∧
    ∀ q, ((vs.zipIdx j).foldl (fun cs p => cs.setIfInBounds (off + p.2) p.1) cells)[q]? = if off + j ≤ q ∧ q < off + j + vs.length ∧ q < cells.size then vs[q - (off + j)]? else cells[q]?
  | [], j, cells => ⟨rfl, fun q => by rw [if_neg (by simp only [List.length_nil]; omega)]; rfl⟩
  | v :: vs, j, cells => by
    obtain ⟨h1, h2⟩ := foldl_set off vs (j + 1) (cells.setIfInBounds (off + j) v)
    simp only [List.zipIdx_cons, List.foldl_cons, List.length_cons]
    refine ⟨by simpa using h1, fun q => ?_⟩
    rw [h2 q]
    by_cases e : q = off + j
    · subst e
      rw [if_neg (by omega)]
      by_cases hlt : off + j < cells.size
      · rw [if_pos (by omega), Array.getElem?_setIfInBounds, if_pos rfl, if_pos hlt, Nat.sub_self]; rfl
      · rw [if_neg (by omega), Array.getElem?_eq_none (by simpa using hlt), Array.getElem?_eq_none (by omega)]
    · by_cases h3 : off + (j + 1) ≤ q ∧ q < off + (j + 1) + vs.length ∧ q < cells.size
      · rw [if_pos (by simpa using h3), if_pos (by omega)]
        have e2 : q - (off + j) = (q - (off + (j + 1))) + 1 := by omega
        rw [e2, List.getElem?_cons_succ]
      · rw [if_neg (by simpa using h3), if_neg (by omega), Array.getElem?_setIfInBounds, if_neg (fun h => e h.symm)]

theorem fill_rows {k : Nat} : ∀ (parts : List (Nat × Value)) (s : Nat) (cells : Array Value), (∀ i p, parts[i]? = some p → p.1 = s + i ∧ p.2.cells.size = k) → (s + parts.length) * k ≤ cells.size →
    ∃ cs, Instr.fill (fun i => some (i * k, k)) cells parts = some cs ∧ cs.size = cells.size ∧ (∀ i p, parts[i]? = some p → ∀ t, t < k → cs[(s + i) * k + t]? = p.2.cells[t]?) ∧ (∀ q, q < s * k → cs[q]? = cells[q]?)
  | [], s, cells, _, _ => ⟨cells, rfl, rfl, fun i p h => by simp at h, fun _ _ => rfl⟩
  | (i0, v) :: rest, s, cells, h, hs => by
    obtain ⟨h1, h2⟩ := h 0 (i0, v) rfl
    simp only [Nat.add_zero] at h1 h2
    subst h1
    simp only [List.length_cons] at hs
    have hk1 : (i0 + 1) * k ≤ cells.size := Nat.le_trans (Nat.mul_le_mul_right _ (by omega)) hs
    have e1 : (i0 + 1) * k = i0 * k + k := by rw [Nat.add_mul, Nat.one_mul]
    obtain ⟨f1, f2⟩ := foldl_set (i0 * k) v.cells.toList 0 cells
    have hzi : v.cells.zipIdx.foldl (fun cs p => cs.setIfInBounds (i0 * k + p.2) p.1) cells = ((v.cells.toList.zipIdx 0).foldl (fun cs p => cs.setIfInBounds (i0 * k + p.2) p.1) cells) := by
      rw [← Array.foldl_toList]; simp
    obtain ⟨cs, g1, g2, g3, g4⟩ := fill_rows rest (i0 + 1) (v.cells.zipIdx.foldl (fun cs p => cs.setIfInBounds (i0 * k + p.2) p.1) cells)
      (fun i p hp => by
        have := h (i + 1) p (by simpa using hp)
        exact ⟨by omega, this.2⟩) (by rw [hzi, f1]; have : (i0 + 1 + rest.length) * k = (i0 + (rest.length + 1)) * k := by congr 1; omega
                                      omega)
    have hfs : cs.size = cells.size := by rw [g2, hzi, f1]
    refine ⟨cs, ?_, hfs, fun i p hp t ht => ?_, fun q hq => ?_⟩
    · have h5 : ¬ i0 * k + k > cells.size := by omega
      simp only [Instr.fill, h2, ne_eq, not_true_eq_false, decide_false, Bool.false_or, h5]
      exact g1
    · cases i with
      | zero =>
        simp only [List.getElem?_cons_zero, Option.some.injEq] at hp
        subst hp
        simp only [Nat.add_zero]
        rw [g4 _ (by omega), hzi, f2, if_pos (by simp only [Array.length_toList, h2]; omega)]
        simp
      | succ i =>
        have := g3 i p (by simpa using hp) t ht
        have e2 : (i0 + (i + 1)) = (i0 + 1 + i) := by omega
        rw [e2]; exact this
    · rw [g4 q (by omega), hzi, f2, if_neg (by omega)]

theorem svals_len {S : St} {k : Nat} : ∀ {s : Nat} {xs : List (Nat × Operand)} {gs : List (Nat → SV)}, SVals E S k s xs gs → xs.length = gs.length
  | _, [], [], _ => rfl
  | _, _ :: xs, _ :: gs, h => by simp [svals_len (xs := xs) (gs := gs) h.2]
  | _, [], _ :: _, h => h.elim
  | _, _ :: _, [], h => h.elim
theorem svals_at {S : St} {k : Nat} {b : Nat → Value} {a : Act} {w : World} (hr : RepB E b S a w) : ∀ {s : Nat} {xs : List (Nat × Operand)} {gs : List (Nat → SV)}, SVals E S k s xs gs → ∀ i p, (xs.map fun y => (y.1, a.eval y.2))[i]? = some p →
    p.1 = s + i ∧ p.2.cells.size = k ∧ ∃ g, gs[i]? = some g ∧ ∀ t, t < k → ∃ u, p.2.cells[t]? = some u ∧ u.oneCell' = true ∧ RO w (S.excl E b) (g t) u
  | s, [], [], _, i, p, hp => by simp at hp
  | s, (i0, x) :: xs, g :: gs, h, i, p, hp => by
    obtain ⟨⟨h1, h2, h3⟩, h4⟩ := h
    simp only at h1 h2
    subst h1
    cases i with
    | zero =>
      simp only [List.map_cons, List.getElem?_cons_zero, Option.some.injEq] at hp
      subst hp
      refine ⟨rfl, ?_⟩
      rcases h2 with h2 | ⟨rfl, h2, h5⟩
      · obtain ⟨cs, hv, hm, hc⟩ := h2 b a w hr
        simp only [hv, Value.cells]
        refine ⟨hm, g, rfl, fun t ht => ?_⟩
        obtain ⟨u, hu, h6, h7⟩ := hc t ht
        exact ⟨u, hu, h6, h7.toRO (allB_iff h3 t ht)⟩
      · have hv := h2 b a w hr
        have h6 := hv.one h5
        simp only [cells_one h6]
        refine ⟨rfl, g, rfl, fun t ht => ?_⟩
        have : t = 0 := by omega
        subst this
        exact ⟨_, rfl, h6, hv.toRO (allB_iff h3 0 (by omega))⟩
    | succ i =>
      have := svals_at hr h4 i p (by simpa using hp)
      exact ⟨by omega, this.2.1, by simpa using this.2.2⟩
  | _, [], _ :: _, h, _, _, _ => h.elim
  | _, _ :: _, [], h, _, _, _ => h.elim

/-- A slice's literal: a row that nobody writes. -/
theorem t_bs {ops : Array Oper} {rest : List Oper} {S : St} {K : St → Prop} {d : Tmp} {t e : TypeId} {n k : Nat} {xs : List (Nat × Operand)} {ty : TypeId} {pos : String} {after : Array Edge} {zget : Nat → SV} (gs : List (Nat → SV)) (get : Nat → Nat → SV)
    (hd : d < E.N) (ht : P.underlying t = some (.slice e)) (hs : ∀ w, (sizeOf e).run P w = .ok k w) (hz : ZeroOk P e k zget) (hk0 : 0 < k) (hn : n = xs.length) (hbig : n * k ≤ 16777216)
    (hp : SVals E S k 0 xs gs) (hg : ∀ i, i < n → ∀ t, t < k → ∀ g, gs[i]? = some g → get i t = g t) (hk : T P E ops rest (nextQ S d (.row n k get)) K) :
    T P E ops ({ dst := some d, op := .buildSlice t n xs.toArray, type := ty, pos, after, guard := none } :: rest) S K := by
  rintro a w ⟨b, hr⟩ Q hq
  obtain ⟨z, hz1, hz2, hz3⟩ := hz
  have hat := svals_at hr hp
  have hlen : (xs.map fun y => (y.1, a.eval y.2)).length = n := by simp [hn]
  obtain ⟨cs, hf, hcs, hc, _⟩ := fill_rows (k := k) (xs.map fun y => (y.1, a.eval y.2)) 0 ((Array.range (n * k)).map fun q => z.cells[q % z.cells.size]!) (fun i p hp => ⟨(hat i p hp).1, (hat i p hp).2.1⟩) (by simp [hlen])
  have hcs' : cs.size = n * k := by simpa using hcs
  unfold wpList
  rw [if_pos (by rfl)]
  refine .inl (wp_of_run (w' := w.alloc (.cells cs e)) (v := .slice (some ⟨w.heap.size, 0, none⟩) n n) ?_ ?_)
  · have hbig' : ¬ n * k > 2 ^ 24 := by omega
    by_cases h0 : n * k = 0
    · have hn0 : n = 0 := by
        rcases Nat.mul_eq_zero.1 h0 with h | h
        · exact h
        · omega
      have hxs : xs = [] := List.eq_nil_of_length_eq_zero (by omega)
      subst hn0; subst hxs
      have hcs0 : cs = #[] := Array.eq_empty_of_size_eq_zero (by omega)
      subst hcs0
      simp [execOp, Instr.buildSlice, run_underlying ht, hs, Instr.fill, newRow, Array.range]
      congr 2
      exact Array.eq_empty_of_size_eq_zero (by simp)
    · simp only [execOp, Instr.buildSlice, Sem.run_bind, run_underlying ht, Result.andThen_ok, hs, Sem.run_ite, if_neg hbig', h0, if_false, Sem.run_pure, hz1]
      simp [hf, newRow]
  · refine hk _ _ ⟨b, ?_⟩ Q hq
    have hw := below_alloc w (.cells cs e)
    refine (hr.world hw).put hd ⟨_, n, rfl, Nat.le_refl _, ?_, fun h0 => ⟨w.heap.size, 0, rfl, by simp, fun hX => ?_, fun i hi t ht => ?_⟩⟩
    · have : n * 1 ≤ n * k := Nat.mul_le_mul_left _ hk0
      simp only [maxLen]; omega
    · have := hr.excl_lt hX; omega
    · have hi' : i < (xs.map fun y => (y.1, a.eval y.2)).length := by omega
      obtain ⟨h1, h2, g, h3, h4⟩ := hat i _ (List.getElem?_eq_getElem hi')
      obtain ⟨u, hu, h5, h6⟩ := h4 t ht
      refine ⟨u, ?_, h5, ?_⟩
      · have h7 := hc i _ (List.getElem?_eq_getElem hi') t ht
        rw [Nat.zero_add] at h7
        simp only [Nat.zero_add, World.cell?_alloc_new]
        rw [h7]; exact hu
      · rw [hg i hi t ht g h3]
        exact h6.mono (.of_below hw) (fun _ _ hh => hh)

/-! Structs held against each other; an array's element; the smaller of two. -/
theorem agg_val {w : World} {X : Nat → Prop} {b : Nat → Value} {m : Nat} {get : Nat → SV} {val : Value} (h : R w X b (.agg m get) val) (f : Nat → Value) (hg : AllN (fun t => get t = .v (f t)) m) : val = .agg (Array.ofFn fun i : Fin m => f i.1) := by
  obtain ⟨cs, rfl, hm, hc⟩ := h
  congr 1
  apply Array.ext_getElem?
  intro i
  simp only [Array.getElem?_ofFn]
  split
  · rename_i hi
    obtain ⟨u, hu, _, h2⟩ := hc i hi
    rw [hg.at i hi] at h2
    have : u = f i := h2
    rw [hu, this]
  · rename_i hi
    exact Array.getElem?_eq_none (by omega)
theorem q_eqS {S : St} {x y : Operand} {t t' : TypeId} {m : Nat} {gx gy : Nat → SV} (f g : Nat → Value) {r : Bool} {op : BinOp} (hx : Val E S x (.agg m gx)) (hy : Val E S y (.agg m gy)) (hgx : AllN (fun t => gx t = .v (f t)) m) (hgy : AllN (fun t => gy t = .v (g t)) m)
    (heq : ∀ w, (do eqGuard op t x y (.agg (Array.ofFn fun i : Fin m => f i.1)) (.agg (Array.ofFn fun i : Fin m => g i.1)); binOp op t (.agg (Array.ofFn fun i : Fin m => f i.1)) (.agg (Array.ofFn fun i : Fin m => g i.1))).run P w = .ok (.bool r) w) :
    OpQ P E S (.binOp op t x y t') (.v (.bool r)) := fun b a w hr dst ty pos after gd => by
  have h1 := agg_val (hx b a w hr) f hgx
  have h2 := agg_val (hy b a w hr) g hgy
  refine ⟨.bool r, fun w' _ => ?_, rfl⟩
  have := heq w'
  simp only [execOp, h1, h2] at this ⊢
  simp only [Sem.run_bind] at this ⊢
  rw [this]; rfl
theorem q_ixA {S : St} {x y : Operand} {t : TypeId} {n m : Nat} {get : Nat → SV} {kk : IntKind} {i : Nat} (hx : Val E S x (.agg m get)) (hy : Val E S y (.v (.int kk (i : Int)))) (e : TypeId) (ht : P.underlying t = some (.array n e)) (hs : ∀ w, (sizeOf e).run P w = .ok 1 w) (ha : ∀ w, (isAgg e).run P w = .ok false w) (h1 : i < n) (h2 : n = m) :
    OpQ P E S (.index t x y) (get i) := fun b a w hr dst ty pos after gd => by
  obtain ⟨cs, hv, hm, hc⟩ := hx b a w hr
  have h3 : a.eval y = .int kk (i : Int) := hy b a w hr
  obtain ⟨u, hu, _, h4⟩ := hc i (by omega)
  refine ⟨u, fun w' _ => ?_, h4⟩
  have h5 : (0 : Int) ≤ (i : Int) ∧ (i : Int) < (n : Int) := by omega
  simp [execOp, Instr.index, h3, asIntOf, run_underlying ht, hv, h1, hs, part, ha, hu]
theorem q_min {S : St} {x y : Operand} {ats : Array TypeId} {k : IntKind} {m n : Int} (hx : Val E S x (.v (.int k m))) (hy : Val E S y (.v (.int k n))) :
    OpQ P E S (.call { callee := .builtin .min, args := #[x, y], argTypes := ats }) (.v (.int k (min m n))) := fun b a w hr dst ty pos after gd => by
  have h1 : a.eval x = .int k m := hx b a w hr
  have h2 : a.eval y = .int k n := hy b a w hr
  refine ⟨.int k (min m n), fun w' _ => ?_, rfl⟩
  have e : (if n < m then n else m) = min m n := by rw [Int.min_def]; split <;> split <;> omega
  simp [execOp, resolve, invoke, builtin, h1, h2, Builtin.min_, Builtin.min2, e]
theorem q_field {S : St} {x : Operand} {t : TypeId} {f m : Nat} {get : Nat → SV} (fs : Array Field) (fd : Field) (hx : Val E S x (.agg m get)) (ht : P.underlying t = some (.struct fs)) (hf : fs[f]? = some fd) (ha : ∀ w, (isAgg fd.type).run P w = .ok false w) (ho : fd.offset < m) :
    OpQ P E S (.field t x f) (get fd.offset) := fun b a w hr dst ty pos after gd => by
  obtain ⟨cs, hv, hm, hc⟩ := hx b a w hr
  obtain ⟨u, hu, _, h4⟩ := hc fd.offset ho
  refine ⟨u, fun w' _ => ?_, h4⟩
  simp [execOp, Instr.field, run_underlying ht, hf, hv, asAgg, part, ha, hu]

/-! Calls that hand back a slice of their own make. -/
def SV.onlyId (j : Nat) : SV → Bool
  | .own i => Nat.beq i j
  | .v _ | .row .. | .el .. | .abs .. => true
  | .fn _ caps => caps.isEmpty
  | .agg m get => allB (fun t => (get t).onlyId j) m
  | .tup m get => allB (fun t => (get t).onlyId j) m
  | _ => false
def ren (j : Nat) : SV → SV
  | .own _ => .own j
  | .agg m get => .agg m fun t => ren j (get t)
  | .tup m get => .tup m fun t => ren j (get t)
  | x => x
theorem R_ren {w : World} {X : Nat → Prop} {b b' : Nat → Value} {i j : Nat} (hb : b' j = b i) {x : SV} {val : Value} (hx : x.onlyId i = true) (h : R w X b x val) : R w X b' (ren j x) val := by
  induction x generalizing val with
  | own p =>
    have hp := Nat.eq_of_beq_eq_true (show Nat.beq p i = true from hx)
    subst hp
    show val = _
    rw [hb]; exact h
  | agg m get ih =>
    obtain ⟨cs, rfl, hm, hr⟩ := h
    refine ⟨cs, rfl, hm, fun t ht => ?_⟩
    obtain ⟨u, hu, h1, h2⟩ := hr t ht
    exact ⟨u, hu, h1, ih t (allB_iff hx t ht) h2⟩
  | tup m get ih =>
    obtain ⟨cs, rfl, hm, hr⟩ := h
    refine ⟨cs, rfl, hm, fun t ht => ?_⟩
    obtain ⟨u, hu, h2⟩ := hr t ht
    exact ⟨u, hu, ih t (allB_iff hx t ht) h2⟩
  | fn f caps =>
    cases caps with
    | nil => exact h
    | cons => simp [SV.onlyId] at hx
  | v x => exact h
  | row n k get ih => exact h
  | el n k get i off ih => exact h
  | abs p hp => exact h
  | bp i off => simp [SV.onlyId] at hx
  | oe i k p off => simp [SV.onlyId] at hx
  | grd c x ih => simp [SV.onlyId] at hx
  | junk => simp [SV.onlyId] at hx

/-- A contract: what comes back holds one slice of the call's own make (number 0). -/
def CtO (P : Program) (f : FuncId) (args : List SV) (n k : Nat) (get : Nat → Nat → SV) (e : TypeId) (r : SV) : Prop :=
  r.onlyId 0 = true ∧ ∀ (w : World) (X : Nat → Prop) (vals : List Value), (∀ g, X g → g < w.heap.size) → ROs w X args vals →
    Calls P f vals.toArray w fun en w' => ∃ v y, en = .returned v ∧ Below w.heap.size w w' ∧
      R w' (fun g => X g ∨ blk y = some g) (fun _ => y) r v ∧ OwnOk w' (fun g => X g ∨ blk y = some g) w.heap.size (fun _ => y) 0 (.arow n k get e)

theorem RepB.addown {b : Nat → Value} {S : St} {a : Act} {w w' : World} (h : RepB E b S a w) (hw : Below w.heap.size w w') {j n k : Nat} {get : Nat → Nat → SV} {e : TypeId} {y : Value} (hf : S.fresh j = true)
    (ho : OwnOk w' (fun g => S.excl E b g ∨ blk y = some g) w.heap.size (fun _ => y) 0 (.arow n k get e)) :
    RepB E (setB b j y) ⟨S.slots, (j, .arow n k get e) :: S.owns⟩ a w' ∧ (∀ g, St.excl ⟨S.slots, (j, .arow n k get e) :: S.owns⟩ E (setB b j y) g → S.excl E b g ∨ blk y = some g) := by
  simp only [St.fresh, Bool.and_eq_true] at hf
  have h' := h.world hw
  have hy : ∀ g, blk y = some g → w.heap.size ≤ g := fun g hg => (OwnOk.lt ho hg).2
  have hX : ∀ g, St.excl ⟨S.slots, (j, .arow n k get e) :: S.owns⟩ E (setB b j y) g → S.excl E b g ∨ blk y = some g := by
    rintro g (hh | ⟨i, o, h1, h2⟩)
    · exact .inl (.inl hh)
    · rw [lookO_cons] at h1
      split at h1
      · rename_i e'; subst e'; rw [setB_same] at h2; exact .inr h2
      · rename_i e'; rw [setB_other _ _ _ e'] at h2; exact .inl (.inr ⟨i, o, h1, h2⟩)
  have hX2 : ∀ g, g < w.heap.size → St.excl ⟨S.slots, (j, .arow n k get e) :: S.owns⟩ E (setB b j y) g → S.excl E b g := fun g hg hh => by
    rcases hX g hh with h1 | h1
    · exact h1
    · have := hy g h1; omega
  have hmono : ∀ {x : SV} {val : Value}, x.noId j = true → R w (S.excl E b) b x val → R w' (St.excl ⟨S.slots, (j, .arow n k get e) :: S.owns⟩ E (setB b j y)) (setB b j y) x val :=
    fun hx hr => R_setB hx (hr.mono (.of_below hw) hX2)
  refine ⟨?_, hX⟩
  exact {
    size := h.size
    defers := h.defers
    below := h'.below
    slots := fun s x hx => hmono (look_fresh hf.1 s x hx) (h.slots s x hx)
    owns := fun i o hi => by
      rw [lookO_cons] at hi
      split at hi
      · rename_i e'
        injection hi with hi
        subst hi; subst e'
        obtain ⟨xs, h1, h2⟩ := ho
        refine ⟨xs, ?_, fun i hi t ht => ?_⟩
        · rw [setB_same]
          rcases h1 with h1 | ⟨⟨h3, h4⟩, h5⟩
          · exact .inl h1
          · refine .inr ⟨⟨h3, ?_⟩, h5⟩
            rcases h4 with h4 | ⟨g, cap, cur, h6, h7, h8⟩
            · exact .inl h4
            · exact .inr ⟨g, cap, cur, h6, Nat.le_trans h.below.size h7, h8⟩
        · obtain ⟨u, hu, h3, h4⟩ := h2 i hi t ht
          exact ⟨u, hu, h3, h4.mono ⟨Nat.le_refl _, fun _ _ _ => rfl⟩ (fun g _ hh => hX g hh)⟩
      · rename_i e'
        have h1 := h.owns i o hi
        have hij := lookO_fresh hf.2 i o hi
        cases o with
        | box m' get' ty' =>
          obtain ⟨g, cs', hb, hbase, hh, hm', hr⟩ := h1
          refine ⟨g, cs', by rw [setB_other _ _ _ hij.1]; exact hb, hbase, by rw [hw.block g (Array.getElem?_eq_some_iff.1 hh).1]; exact hh, hm', fun t ht => ?_⟩
          obtain ⟨u, hu, h2, h3⟩ := hr t ht
          exact ⟨u, hu, h2, hmono (allB_iff hij.2 t ht) h3⟩
        | arow n1 k1 get1 e1 =>
          obtain ⟨xs, hown, hr⟩ := h1
          refine ⟨xs, by rw [setB_other _ _ _ hij.1]; exact hown.kept (row := none) ⟨hw.os, hw.tape, hw.output, hw.size, fun g hg _ => hw.block g hg⟩ (fun _ _ => by simp), fun i hi t ht => ?_⟩
          obtain ⟨u, hu, h2, h3⟩ := hr i hi t ht
          exact ⟨u, hu, h2, h3.mono (.of_below hw) hX2⟩
    apart := fun p q op oq hp hq hne g hg => by
      rw [lookO_cons] at hp hq
      have hlt : ∀ i o, lookO i S.owns = some o → ∀ g, blk (b i) = some g → g < w.heap.size := fun i o ho g hg => ((h.owns i o ho).lt hg).1
      split at hp
      · rename_i e1
        subst e1
        rw [setB_same] at hg
        split at hq
        · rename_i e2; exact absurd e2.symm hne
        · rename_i e2
          rw [setB_other _ _ _ e2]
          intro hh
          have := hlt q oq hq g hh
          have := hy g hg
          omega
      · rename_i e1
        rw [setB_other _ _ _ e1] at hg
        split at hq
        · rename_i e2
          subst e2
          rw [setB_same]
          intro hh
          have := hlt p op hp g hg
          have := hy g hh
          omega
        · rename_i e2
          rw [setB_other _ _ _ e2]
          exact h.apart p q op oq hp hq hne g hg }

theorem t_callO {ops : Array Oper} {rest : List Oper} {S : St} {K : St → Prop} {d : Tmp} {f : FuncId} {xs : List Operand} {ats : Array TypeId} {ty : TypeId} {pos : String} {after : Array Edge} {args : List SV} {n k : Nat} {get : Nat → Nat → SV} {e : TypeId} {r : SV} (j : Nat)
    (hf : Enters P f) (hd : d < E.N) (ha : Vals E S xs args) (h : CtO P f args n k get e r) (hfr : S.fresh j = true) (hk : T P E ops rest ⟨(d, ren j r) :: S.slots, (j, .arow n k get e) :: S.owns⟩ K) :
    T P E ops ({ dst := some d, op := .call { callee := .value (.func f), args := xs.toArray, argTypes := ats }, type := ty, pos, after, guard := none } :: rest) S K := by
  rintro a w ⟨b, hr⟩ Q hq
  unfold wpList
  rw [if_pos (by rfl)]
  refine .inl (wp_of_enter (R := fun v w'' => ∃ b', RepB E b' ⟨S.slots, (j, .arow n k get e) :: S.owns⟩ a w'' ∧ R w'' (St.excl ⟨S.slots, (j, .arow n k get e) :: S.owns⟩ E b') b' (ren j r) v) (run_call hf ..) ?_ fun v w'' ⟨b', hr', hv⟩ => hk _ _ ⟨b', hr'.put hd hv⟩ Q hq)
  refine (h.2 w (S.excl E b) _ (fun g hg => hr.excl_lt hg) (ha.ros hr)).mono ?_
  rintro en w'' ⟨v, y, rfl, hb, hv, ho⟩
  obtain ⟨h1, h2⟩ := hr.addown hb hfr ho
  exact ⟨v, rfl, setB b j y, h1, R_ren (setB_same _ _ _) h.1 (hv.mono ⟨Nat.le_refl _, fun _ _ _ => rfl⟩ (fun g _ hh => h2 g hh))⟩

def PostO (E : Env) (n k : Nat) (get : Nat → Nat → SV) (e : TypeId) (r : SV) : Ending → World → Prop := fun en w' => ∃ v y, en = .returned v ∧ Below E.w0.heap.size E.w0 w' ∧
  R w' (fun g => E.X g ∨ blk y = some g) (fun _ => y) r v ∧ OwnOk w' (fun g => E.X g ∨ blk y = some g) E.w0.heap.size (fun _ => y) 0 (.arow n k get e)

theorem ctO_of {f : FuncId} {fn : Func} {c : Code} {args : List SV} {n k : Nat} {get : Nat → Nat → SV} {e : TypeId} {r : SV} (hf : P.funcs[f]? = some fn) (hb : fn.body = some c) (hn : args.length ≤ fn.ntmps) (hid : r.onlyId 0 = true)
    (h : ∀ E : Env, E.N = fn.ntmps → C P E c ⟨argSlots 0 args, []⟩ (bodyPost P fn (PostO E n k get e r))) : CtO P f args n k get e r := by
  refine ⟨hid, fun w X vals hX hr => ?_⟩
  refine calls_of_wp hf hb ?_
  refine h ⟨w, X, hX, fn.ntmps⟩ rfl _ _ ⟨fun _ => undef, ?_⟩
  have hl := ros_len hr
  exact {
    size := by simp; omega
    defers := rfl
    below := Below.refl _ _
    slots := fun s x hx => by
      have h1 := rep_args (pre := []) (t := List.replicate (fn.ntmps - vals.length) undef) hr rfl s x hx
      have e : (vals.toArray ++ Array.replicate (fn.ntmps - vals.toArray.size) undef) = ([] ++ vals ++ List.replicate (fn.ntmps - vals.length) undef).toArray := by simp
      have h2 : RO w (St.excl ⟨argSlots 0 args, []⟩ ⟨w, X, hX, fn.ntmps⟩ fun _ => undef) x ((vals.toArray ++ Array.replicate (fn.ntmps - vals.toArray.size) undef).getD s undef) := by
        rw [e]
        refine h1.mono ⟨Nat.le_refl _, fun _ _ _ => rfl⟩ ?_
        rintro g _ (hh | ⟨j, o, hh, _⟩)
        · exact hh
        · simp [lookO] at hh
      exact h2.toR
    owns := fun j o h => by simp [lookO] at h
    apart := fun i j oi oj h => by simp [lookO] at h }

theorem post_retO {fn : Func} {r x : SV} {b : Nat → Value} {S : St} {a : Act} {w : World} {j n k : Nat} {get : Nat → Nat → SV} {e : TypeId} (hr : RepB E b S a w) {v : Value} (hv : (results fn a.tmps).run P w = .ok v w) (ho : lookO j S.owns = some (.arow n k get e))
    (hx : R w (S.excl E b) b x v) (hid : x.onlyId j = true) (hren : ren 0 x = r) : bodyPost P fn (PostO E n k get e r) .ret a w := by
  have hX : ∀ g, E.X g ∨ blk (b j) = some g → S.excl E b g := fun g hg => by
    rcases hg with h | h
    · exact .inl h
    · exact .inr ⟨j, _, ho, h⟩
  refine ⟨hr.defers, v, hv, v, b j, rfl, hr.below, ?_, ?_⟩
  · rw [← hren]
    exact R_ren (i := j) (j := 0) (b := b) (b' := fun _ => b j) rfl hid (hx.mono ⟨Nat.le_refl _, fun _ _ _ => rfl⟩ (fun g _ hh => hX g hh))
  · obtain ⟨xs, h1, h2⟩ := hr.owns j _ ho
    refine ⟨xs, h1, fun i hi t ht => ?_⟩
    obtain ⟨u, hu, h3, h4⟩ := h2 i hi t ht
    exact ⟨u, hu, h3, h4.mono ⟨Nat.le_refl _, fun _ _ _ => rfl⟩ (fun g _ hh => hX g hh)⟩
theorem retO1 {fn : Func} {t : Tmp} {S : St} {x r : SV} {j n k : Nat} {get : Nat → Nat → SV} {e : TypeId} (hres : fn.results = #[.tmp t]) (h : Val E S (.tmp t) x) (ho : lookO j S.owns = some (.arow n k get e)) (hid : x.onlyId j = true) (hren : ren 0 x = r) :
    ∀ a w, Rep E S a w → bodyPost P fn (PostO E n k get e r) .ret a w := by
  rintro a w ⟨b, hr⟩
  exact post_retO hr (results_tmp hres _ _ _) ho (h b a w hr) hid hren

/-! A call through a function value. -/
theorem run_callV {f : FuncId} (hf : Enters P f) (a : Act) (x : Operand) (caps : List Value) (hx : a.eval x = .func (.func f) #[] caps.toArray) (xs : List Operand) (ats : Array TypeId) (dst : Option Tmp) (ty : TypeId) (pos : String) (after : Array Edge) (gd : Option (Nat × Bool)) (w : World) :
    (execOp a.eval { dst, op := .call { callee := .value x, args := xs.toArray, argTypes := ats }, type := ty, pos, after, guard := gd }).run P w = .ok (.enter f (xs.map a.eval ++ caps).toArray) w := by
  simp only [execOp, resolve, hx, Deferred.ofValue, Sem.run_bind, Sem.run_pure, Result.andThen_ok, invoke]
  rw [hf]
  simp
theorem tq_callV {ops : Array Oper} {rest : List Oper} {S : St} {K : St → Prop} {d : Tmp} {f : FuncId} {xf : Operand} {xs : List Operand} {ats : Array TypeId} {ty : TypeId} {pos : String} {after : Array Edge} {args : List SV} {x : Value}
    (hxf : Val E S xf (.fn f [])) (hf : Enters P f) (hd : d < E.N) (ha : Vals E S xs args) (h : Ct P f args (.v x)) (hk : TQ P E ops rest (nextQ S d (.v x)) K) :
    TQ P E ops ({ dst := some d, op := .call { callee := .value xf, args := xs.toArray, argTypes := ats }, type := ty, pos, after, guard := none } :: rest) S K := fun b a w hr => by
  unfold wpQuiet
  rw [if_pos (by rfl)]
  refine ⟨x, fun w' hw' => ?_, hk b _ w (hr.put hd rfl)⟩
  unfold Oper.quietAt
  have hv : a.eval xf = .func (.func f) #[] ([] : List Value).toArray := hxf b a w hr
  rw [run_callV hf a xf [] hv]
  refine ⟨rfl, ?_⟩
  rw [List.append_nil]
  refine (h w' (S.excl E b) _ (fun g hg => Nat.lt_of_lt_of_le (hr.excl_lt hg) hw'.size) ((hr.world hw' : RepB E b S a w') |> ha.ros)).mono ?_
  rintro e w'' ⟨v, rfl, hv, hb⟩
  have : v = x := hv
  subst this
  exact ⟨rfl, hw'.trans (hb.mono hw'.size)⟩
end Go.Eng

namespace Go.Eng
open Go.RowKit
variable {P : Program} {E : Env}

/-- An operation that may lay new blocks, and turns nothing that was there. -/
def OpW (P : Program) (E : Env) (S : St) (op : Op) (x : SV) : Prop :=
  ∀ b a w, RepB E b S a w → ∀ dst ty pos after gd, ∃ v w', (execOp a.eval { dst, op, type := ty, pos, after, guard := gd }).run P w = .ok (.value v) w' ∧ Below w.heap.size w w' ∧ R w' (S.excl E b) b x v

theorem OpQ.toW {S : St} {op : Op} {x : SV} (h : OpQ P E S op x) : OpW P E S op x := fun b a w hr dst ty pos after gd => by
  obtain ⟨v, h1, h2⟩ := h b a w hr dst ty pos after gd
  exact ⟨v, w, h1 w (Below.refl _ _), Below.refl _ _, h2⟩

theorem t_w {ops : Array Oper} {rest : List Oper} {S : St} {K : St → Prop} {d : Tmp} {op : Op} {ty : TypeId} {pos : String} {after : Array Edge} {x : SV} (hd : d < E.N) (h : OpW P E S op x) (hk : T P E ops rest (nextQ S d x) K) :
    T P E ops ({ dst := some d, op, type := ty, pos, after, guard := none } :: rest) S K := by
  rintro a w ⟨b, hr⟩ Q hq
  obtain ⟨v, w', h1, h2, h3⟩ := h b a w hr (some d) ty pos after none
  unfold wpList
  rw [if_pos (by rfl)]
  exact .inl (wp_of_run h1 (hk _ _ ⟨b, (hr.world h2).put hd h3⟩ Q hq))
theorem t_wG {ops : Array Oper} {rest : List Oper} {S : St} {K : St → Prop} {d : Tmp} {op : Op} {ty : TypeId} {pos : String} {after : Array Edge} {x : SV} {gd : Nat × Bool} {c : Bool} (hg : Guard E S ops gd c) (hd : d < E.N)
    (h : c = true → OpW P E S op x) (hk : T P E ops rest (nextQ S d (.grd c x)) K) :
    T P E ops ({ dst := some d, op, type := ty, pos, after, guard := some gd } :: rest) S K := by
  rintro a w ⟨b, hr⟩ Q hq
  unfold wpList
  rw [hg b a w hr _ rfl]
  cases c with
  | false => exact hk _ _ ⟨b, hr.put hd ⟨(fun h => by cases h), fun _ => rfl⟩⟩ Q hq
  | true =>
    obtain ⟨v, w', h1, h2, h3⟩ := h rfl b a w hr (some d) ty pos after (some gd)
    exact .inl (wp_of_run h1 (hk _ _ ⟨b, (hr.world h2).put hd ⟨fun _ => h3, fun h => by cases h⟩⟩ Q hq))

theorem w_bs {S : St} {t e : TypeId} {n k : Nat} {xs : List (Nat × Operand)} {zget : Nat → SV} (gs : List (Nat → SV)) (get : Nat → Nat → SV)
    (ht : P.underlying t = some (.slice e)) (hs : ∀ w, (sizeOf e).run P w = .ok k w) (hz : ZeroOk P e k zget) (hk0 : 0 < k) (hn : n = xs.length) (hbig : n * k ≤ 16777216)
    (hp : SVals E S k 0 xs gs) (hg : AllN (fun i => AllN (fun t => get i t = (gs.getD i fun _ => .junk) t) k) n) :
    OpW P E S (.buildSlice t n xs.toArray) (.row n k get) := by
  intro b a w hr dst ty pos after gd
  obtain ⟨z, hz1, hz2, hz3⟩ := hz
  have hat := svals_at hr hp
  have hlen : (xs.map fun y => (y.1, a.eval y.2)).length = n := by simp [hn]
  obtain ⟨cs, hf, hcs, hc, _⟩ := fill_rows (k := k) (xs.map fun y => (y.1, a.eval y.2)) 0 ((Array.range (n * k)).map fun q => z.cells[q % z.cells.size]!) (fun i p hp => ⟨(hat i p hp).1, (hat i p hp).2.1⟩) (by simp [hlen])
  have hcs' : cs.size = n * k := by simpa using hcs
  have hw := below_alloc w (.cells cs e)
  refine ⟨.slice (some ⟨w.heap.size, 0, none⟩) n n, w.alloc (.cells cs e), ?_, hw, ⟨_, n, rfl, Nat.le_refl _, ?_, fun h0 => ⟨w.heap.size, 0, rfl, by simp, fun hX => ?_, fun i hi t ht => ?_⟩⟩⟩
  · have hbig' : ¬ n * k > 2 ^ 24 := by omega
    by_cases h0 : n * k = 0
    · have hn0 : n = 0 := by
        rcases Nat.mul_eq_zero.1 h0 with h | h
        · exact h
        · omega
      have hxs : xs = [] := List.eq_nil_of_length_eq_zero (by omega)
      subst hn0; subst hxs
      have hcs0 : cs = #[] := Array.eq_empty_of_size_eq_zero (by omega)
      subst hcs0
      simp [execOp, Instr.buildSlice, run_underlying ht, hs, Instr.fill, newRow, Array.range]
      congr 2
      exact Array.eq_empty_of_size_eq_zero (by simp)
    · simp only [execOp, Instr.buildSlice, Sem.run_bind, run_underlying ht, Result.andThen_ok, hs, Sem.run_ite, if_neg hbig', h0, if_false, Sem.run_pure, hz1]
      simp [hf, newRow]
  · have : n * 1 ≤ n * k := Nat.mul_le_mul_left _ hk0
    simp only [maxLen]; omega
  · have := hr.excl_lt hX; omega
  · have hi' : i < (xs.map fun y => (y.1, a.eval y.2)).length := by omega
    obtain ⟨h1, h2, g, h3, h4⟩ := hat i _ (List.getElem?_eq_getElem hi')
    obtain ⟨u, hu, h5, h6⟩ := h4 t ht
    refine ⟨u, ?_, h5, ?_⟩
    · have h7 := hc i _ (List.getElem?_eq_getElem hi') t ht
      rw [Nat.zero_add] at h7
      simp only [Nat.zero_add, World.cell?_alloc_new]
      rw [h7]; exact hu
    · have h8 := (hg.at i hi).at t ht
      simp only [List.getD_eq_getElem?_getD, h3, Option.getD_some] at h8
      rw [h8]
      exact h6.mono (.of_below hw) (fun _ _ hh => hh)

/-- '[]T{}': a slice of the frame's own, of nothing. -/
theorem t_bs0 {ops : Array Oper} {rest : List Oper} {S : St} {K : St → Prop} {d : Tmp} {t e : TypeId} {k : Nat} {ty : TypeId} {pos : String} {after : Array Edge} (j : Nat) (get : Nat → Nat → SV)
    (hd : d < E.N) (ht : P.underlying t = some (.slice e)) (hs : ∀ w, (sizeOf e).run P w = .ok k w) (hf : S.fresh j = true) (hk : T P E ops rest ⟨(d, .own j) :: S.slots, (j, .arow 0 k get e) :: S.owns⟩ K) :
    T P E ops ({ dst := some d, op := .buildSlice t 0 #[], type := ty, pos, after, guard := none } :: rest) S K := by
  rintro a w ⟨b, hr⟩ Q hq
  unfold wpList
  rw [if_pos (by rfl)]
  refine .inl (wp_of_run (w' := w.alloc (.cells #[] e)) (v := .slice (some ⟨w.heap.size, 0, none⟩) 0 0) ?_ ?_)
  · simp [execOp, Instr.buildSlice, run_underlying ht, hs, Instr.fill, newRow, Array.range]
    congr 2
    exact Array.eq_empty_of_size_eq_zero (by simp)
  · exact hk _ _ ⟨_, ((hr.world (below_alloc w _)).newown (k := k) (get := get) (e := e) (A := some ⟨w.heap.size, 0, none⟩) hf).put (x := .own j) hd (setB_same _ _ _).symm⟩ Q hq

/-- 's == nil': one or the other; if so there is nothing in it. -/
theorem tq_isnil {ops : Array Oper} {rest : List Oper} {S : St} {K : St → Prop} {d : Tmp} {t t' : TypeId} {x : Operand} {n k : Nat} {get : Nat → Nat → SV} {ty : TypeId} {pos : String} {after : Array Edge} (hd : d < E.N) (hx : Val E S x (.row n k get))
    (heq : ∀ A n c w, (binOp .eql t (.slice A n c) (.slice none 0 0)).run P w = .ok (.bool A.isNone) w)
    (hk : ∀ β : Bool, (β = true → n = 0) → TQ P E ops rest (nextQ S d (.v (.bool β))) K) :
    TQ P E ops ({ dst := some d, op := .binOp .eql t x (.const (.slice none 0 0)) t', type := ty, pos, after, guard := none } :: rest) S K := fun b a w hr => by
  obtain ⟨A, c, hv, _, _, h0⟩ := hx b a w hr
  unfold wpQuiet
  rw [if_pos (by rfl)]
  refine ⟨.bool A.isNone, fun w' hw' => ?_, hk A.isNone (fun hA => ?_) b _ w (hr.put hd rfl)⟩
  · unfold Oper.quietAt
    have h1 : a.eval (.const (.slice none 0 0)) = .slice none 0 0 := rfl
    simp only [execOp, hv, h1, eqGuard_at_slice, Sem.run_bind, Sem.run_pure, Result.andThen_ok, heq]
    exact ⟨rfl, rfl⟩
  · rcases Nat.eq_zero_or_pos n with h | h
    · exact h
    · obtain ⟨g, o, rfl, _⟩ := h0 h
      cases hA

theorem eqnil {t e : TypeId} (h : P.underlying t = some (.slice e)) : ∀ A n c w, (binOp .eql t (.slice A n c) (.slice none 0 0)).run P w = .ok (.bool A.isNone) w := by
  intro A n c w
  simp only [binOp]
  simp [run_equal_slice_nil w t e A n c h]

/-- The same own slice, said in other words. -/
theorem weak_own {S : St} {j n n' k : Nat} {get get' : Nat → Nat → SV} {e : TypeId} (ho : lookO j S.owns = some (.arow n k get e)) (hn : n = n') (hg : ∀ i, i < n' → ∀ t, t < k → get i t = get' i t) :
    Weak E S ⟨S.slots, (j, .arow n' k get' e) :: S.owns⟩ := fun b a w hr => by
  subst hn
  have hX : ∀ g, St.excl ⟨S.slots, (j, .arow n k get' e) :: S.owns⟩ E b g → S.excl E b g := by
    rintro g (hh | ⟨i, o, h1, h2⟩)
    · exact .inl hh
    · rw [lookO_cons] at h1
      split at h1
      · rename_i e'; subst e'; exact .inr ⟨i, _, ho, h2⟩
      · exact .inr ⟨i, o, h1, h2⟩
  exact {
    size := hr.size
    defers := hr.defers
    below := hr.below
    slots := fun s x hx => (hr.slots s x hx).mono ⟨Nat.le_refl _, fun _ _ _ => rfl⟩ (fun g _ hh => hX g hh)
    owns := fun i o hi => by
      rw [lookO_cons] at hi
      split at hi
      · rename_i e'
        injection hi with hi
        subst hi; subst e'
        obtain ⟨xs, h1, h2⟩ := (hr.owns _ _ ho).mono hX
        refine ⟨xs, h1, fun i hi t ht => ?_⟩
        obtain ⟨u, hu, h3, h4⟩ := h2 i hi t ht
        exact ⟨u, hu, h3, hg i hi t ht ▸ h4⟩
      · exact (hr.owns i o hi).mono hX
    apart := fun p q op oq hp hq hne g hg => by
      have hp' : ∃ o, lookO p S.owns = some o := by
        rw [lookO_cons] at hp
        split at hp
        · rename_i e; subst e; exact ⟨_, ho⟩
        · exact ⟨_, hp⟩
      have hq' : ∃ o, lookO q S.owns = some o := by
        rw [lookO_cons] at hq
        split at hq
        · rename_i e; subst e; exact ⟨_, ho⟩
        · exact ⟨_, hq⟩
      obtain ⟨o1, h1⟩ := hp'
      obtain ⟨o2, h2⟩ := hq'
      exact hr.apart p q o1 o2 h1 h2 hne g hg }
theorem t_own {ops : Array Oper} {rest : List Oper} {S : St} {K : St → Prop} (j : Nat) {n n' k : Nat} {get : Nat → Nat → SV} (get' : Nat → Nat → SV) {e : TypeId} (ho : lookO j S.owns = some (.arow n k get e)) (hn : n = n') (hg : ∀ i, i < n' → ∀ t, t < k → get i t = get' i t)
    (h : T P E ops rest ⟨S.slots, (j, .arow n' k get' e) :: S.owns⟩ K) : T P E ops rest S K := h.weak (weak_own ho hn hg)
theorem c_own {c : Code} {S : St} {Q : Exit → Act → World → Prop} (j : Nat) {n n' k : Nat} {get : Nat → Nat → SV} (get' : Nat → Nat → SV) {e : TypeId} (ho : lookO j S.owns = some (.arow n k get e)) (hn : n = n') (hg : ∀ i, i < n' → ∀ t, t < k → get i t = get' i t)
    (h : C P E c ⟨S.slots, (j, .arow n' k get' e) :: S.owns⟩ Q) : C P E c S Q := (weak_own ho hn hg).c h

/-! Typed rows: grown, set, cut. -/
theorem len_app {α : Type} (l m : List α) : l.length + m.length = (l ++ m).length := (List.length_append).symm
theorem set_typed {α : Type} {c : α → Nat → SV} {d : α} {l : List α} {i : Nat} {y : α} {off k : Nat} (_hi : i < l.length) (h : ∀ t, t < k → t ≠ off → c y t = c (l.getD i d) t) :
    ∀ i', i' < l.length → ∀ t, t < k → (i' ≠ i ∨ t ≠ off) → rowG c d (l.set i y) i' t = rowG c d l i' t := by
  intro i' hi' t ht hne
  simp only [rowG, List.getD_eq_getElem?_getD, List.getElem?_set]
  by_cases e : i = i'
  · subst e
    rw [if_pos rfl, if_pos hi']
    have := h t ht (by rcases hne with h | h; exact absurd rfl h; exact h)
    simpa [List.getD_eq_getElem?_getD] using this
  · rw [if_neg e]
theorem set_at {α : Type} {c : α → Nat → SV} {d : α} {l : List α} {i : Nat} {y : α} {off : Nat} {x : SV} (hi : i < l.length) (h : c y off = x) : rowG c d (l.set i y) i off = x := by
  simp only [rowG, List.getD_eq_getElem?_getD, List.getElem?_set, if_pos hi]
  exact h
end Go.Eng

namespace Go.Eng
open Go.RowKit Go.ChangeShapes Go.WideShapes Go.Deep
/-! What an argument reads as, opened to a symbolic value; a law's ending. -/

/-- A type's cells, read: some value of α, told by 'sv'. -/
def Opens (P : Program) (t : TypeId) (m : Nat) {α : Type} (ok : α → Prop) (sv : α → Nat → SV) : Prop :=
  ∀ {H : Type} (enc : TypeId × Value → H) (w : World) (base : Nat) (spare : Nat → Bool) (held : Bool) (fuel : Nat) (cs : List Value) (x : DataW H × List MemPlace), DataW.trod enc P w base spare held fuel t cs = some x →
    (∀ p ∈ x.2, p.block < w.heap.size) → cs.length = m ∧ ∃ a, ok a ∧ ∀ i, i < m → ∃ u, cs[i]? = some u ∧ u.oneCell' = true ∧ RO w (fun _ => False) (sv a i) u

def okInt (n : Int) : Prop := -9223372036854775808 ≤ n ∧ n ≤ 9223372036854775807

theorem opens_int {P : Program} {t : TypeId} (ht : P.underlying t = some (.int .i64)) : Opens P t 1 okInt fun n _ => iv n := fun enc w base spare held fuel cs x h hlt => by
  obtain ⟨n, rfl, _, hw⟩ := DataW.trod_int ht h
  refine ⟨rfl, n, ?_, fun i hi => ?_⟩
  · show _ ∧ _
    simpa [Lit.wf, IntKind.min, IntKind.max, IntKind.signed, IntKind.bits] using hw
  · obtain rfl : i = 0 := by omega
    exact ⟨_, rfl, rfl, rfl⟩
theorem opens_bool {P : Program} {t : TypeId} (ht : P.underlying t = some .bool) : Opens P t 1 (fun _ : Bool => True) fun n _ => bv n := fun enc w base spare held fuel cs x h hlt => by
  obtain ⟨n, rfl, _⟩ := DataW.trod_bool ht h
  refine ⟨rfl, n, trivial, fun i hi => ?_⟩
  obtain rfl : i = 0 := by omega
  exact ⟨_, rfl, rfl, rfl⟩

theorem list_choice {α : Type} {p : Nat → α → Prop} : ∀ {n : Nat}, (∀ i, i < n → ∃ a, p i a) → ∃ l : List α, l.length = n ∧ ∀ i (h : i < l.length), p i l[i]
  | 0, _ => ⟨[], rfl, fun _ h => absurd h (Nat.not_lt_zero _)⟩
  | n + 1, hp => by
    obtain ⟨l, h1, h2⟩ := list_choice (n := n) fun i hi => hp i (by omega)
    obtain ⟨a, ha⟩ := hp n (by omega)
    refine ⟨l ++ [a], by simp [h1], fun i hi => ?_⟩
    by_cases e : i < l.length
    · rw [List.getElem_append_left e]; exact h2 i e
    · have : i = l.length := by simp at hi; omega
      subst this
      simp only [List.getElem_append_right (Nat.le_refl _), Nat.sub_self, List.getElem_cons_zero]
      exact h1 ▸ ha

theorem opens_slice {P : Program} {t e : TypeId} {k : Nat} {α : Type} {ok : α → Prop} {sv : α → Nat → SV} (d : α) (ht : P.underlying t = some (.slice e)) (he : Opens P e k ok sv) (hC : P.cellsOf e = k) (hk : 0 < k) :
    Opens P t 1 (fun l : List α => l.length ≤ maxLen ∧ ∀ x ∈ l, ok x) fun l _ => .row l.length k (rowG sv d l) := fun enc w base spare held fuel cs x h hlt => by
  rcases Go.Deep.open_slice ht h with ⟨rfl, rfl⟩ | ⟨a, len, cap, m, n, D, Pl, rfl, hb, hl, hm, hmm, rfl, hel⟩
  · refine ⟨rfl, [], ⟨Nat.zero_le _, fun x hx => (by cases hx)⟩, fun i hi => ?_⟩
    obtain rfl : i = 0 := by omega
    exact ⟨_, rfl, rfl, none, 0, rfl, Nat.le_refl _, Nat.zero_le _, fun h => absurd h (Nat.lt_irrefl 0)⟩
  · have hlm : len ≤ m := by rw [hmm]; split <;> omega
    have hall : ∀ i, i < len → ∃ y : α, ok y ∧ ∀ j, j < k → ∃ u, w.cell? (a.add (i * k + j)) = some u ∧ u.oneCell' = true ∧ RO w (fun _ => False) (sv y j) u := fun i hi => by
      obtain ⟨cs', hc, htr⟩ := hel i (by omega)
      rw [hC] at hc
      obtain ⟨_, hcl, hat⟩ := World.cells?_some hc
      obtain ⟨_, y, hy, hj⟩ := he enc w base spare held n cs' _ htr (fun p hp => hlt p (by
        simp only [List.mem_append, List.mem_flatMap, List.mem_range]
        exact .inr ⟨i, by omega, hp⟩))
      refine ⟨y, hy, fun j hj' => ?_⟩
      obtain ⟨u, hu, h1, h2⟩ := hj j hj'
      have := hat j hj'
      rw [Go.Deep.add_add] at this
      exact ⟨u, this.trans hu, h1, h2⟩
    obtain ⟨l, hll, hlp⟩ := list_choice hall
    subst hll
    refine ⟨rfl, l, ⟨by omega, fun y hy => ?_⟩, fun i hi => ?_⟩
    · obtain ⟨i, hi, rfl⟩ := List.mem_iff_getElem.1 hy
      exact (hlp i hi).1
    · obtain rfl : i = 0 := by omega
      refine ⟨_, rfl, rfl, some a, cap, rfl, hl, hm, fun h0 => ?_⟩
      obtain ⟨u, hu, _⟩ := (hlp 0 h0).2 0 hk
      have hsp : a.spot = none := by
        have hu' : w.cell? a = some u := by simpa [Addr.add] using hu
        unfold World.cell? at hu'
        split at hu'
        · split at hu'
          · cases hu'
          · rename_i hs; simpa using hs
        · cases hu'
      obtain ⟨b, o, s⟩ := a
      simp only at hsp
      subst hsp
      refine ⟨b, o, rfl, ?_, fun hf => hf, fun i hi t ht => ?_⟩
      · have hu' : w.cell? ⟨b, o, none⟩ = some u := by simpa [Addr.add] using hu
        unfold World.cell? at hu'
        split at hu'
        · rename_i hh; exact (Array.getElem?_eq_some_iff.1 hh).1
        · cases hu'
      · obtain ⟨u, hu, h1, h2⟩ := (hlp i hi).2 t ht
        refine ⟨u, ?_, h1, ?_⟩
        · have e : (⟨b, o + (i * k + t), none⟩ : Addr) = Addr.add ⟨b, o, none⟩ (i * k + t) := by unfold Addr.add; split <;> simp_all
          rw [e]; exact hu
        · have e : rowG sv d l i t = sv l[i] t := by simp [rowG, List.getD_eq_getElem?_getD, hi]
          rw [e]; exact h2

/-- A struct of one-cell fields: each field's reading. -/
theorem struct_at {P : Program} {t : TypeId} {fs : Array Field} (he : P.underlying t = some (.struct fs)) (hone : oneCellFields P fs = true) (hC : P.cellsOf t = fs.size) {H : Type} {enc : TypeId × Value → H} {w : World} {base : Nat} {spare : Nat → Bool}
    {held : Bool} {fuel : Nat} {cs : List Value} {x : DataW H × List MemPlace} (h : DataW.trod enc P w base spare held fuel t cs = some x) (hlt : ∀ p ∈ x.2, p.block < w.heap.size) :
    cs.length = fs.size ∧ ∀ (j : Nat) (f : Field), fs[j]? = some f → ∀ {α : Type} {ok : α → Prop} {sv : α → Nat → SV}, Opens P f.type 1 ok sv → ∃ a, ok a ∧ ∃ u, cs[j]? = some u ∧ u.oneCell' = true ∧ RO w (fun _ => False) (sv a 0) u := by
  obtain ⟨ys, n', _, rfl, hlen, hyl, hf⟩ := DataW.trod_struct he h
  rw [hC] at hlen
  refine ⟨hlen, fun j f hj α ok sv hop => ?_⟩
  obtain ⟨ho, hk⟩ := hone_of hone j f hj
  have hjl : j < fs.size := (Array.getElem?_eq_some_iff.1 hj).1
  have h1 := hf j f hj
  rw [ho, hk] at h1
  have hone' : (cs.drop j).take 1 = [cs[j]'(by omega)] := by
    rw [List.drop_eq_getElem_cons (by omega)]
    rfl
  rw [hone'] at h1
  have hys : ys[j]? = some (ys[j]'(by omega)) := List.getElem?_eq_getElem (by omega)
  obtain ⟨_, a, ha, hi⟩ := hop enc w base spare held n' _ _ (h1.trans hys) (fun p hp => hlt p (by
    simp only [List.mem_flatMap]
    exact ⟨_, List.getElem_mem _, hp⟩))
  obtain ⟨u, hu, h2, h3⟩ := hi 0 (by omega)
  simp only [List.getElem?_cons_zero, Option.some.injEq] at hu
  subst hu
  exact ⟨a, ha, _, List.getElem?_eq_getElem (by omega), h2, h3⟩

/-- A parameter of one cell. -/
theorem Opens.param {P : Program} {t : TypeId} {α : Type} {ok : α → Prop} {sv : α → Nat → SV} (h : Opens P t 1 ok sv) {H : Type} {enc : TypeId × Value → H} {w : World} {v : Value} {d : DataW H} {p : List MemPlace}
    (hd : DataW.Trod enc P w 0 (fun _ => true) true t v d p) (hlt : ∀ x ∈ p, x.block < w.heap.size) (hv : ∀ cs, v ≠ .agg cs) : ∃ a, ok a ∧ RO w (fun _ => False) (sv a 0) v := by
  obtain ⟨fuel, hf⟩ := hd
  obtain ⟨_, a, ha, hi⟩ := h enc w 0 _ true fuel _ _ hf hlt
  obtain ⟨u, hu, _, h3⟩ := hi 0 (by omega)
  have e : v.cells = #[v] := by
    cases v <;> first | rfl | exact absurd rfl (hv _)
  rw [e] at hu
  simp at hu
  subst hu
  exact ⟨a, ha, h3⟩
/-- A parameter that is a struct. -/
theorem Opens.param_agg {P : Program} {t : TypeId} {m : Nat} {α : Type} {ok : α → Prop} {sv : α → Nat → SV} (h : Opens P t m ok sv) {H : Type} {enc : TypeId × Value → H} {w : World} {cs : Array Value} {d : DataW H} {p : List MemPlace}
    (hd : DataW.Trod enc P w 0 (fun _ => true) true t (.agg cs) d p) (hlt : ∀ x ∈ p, x.block < w.heap.size) : ∃ a, ok a ∧ RO w (fun _ => False) (.agg m (sv a)) (.agg cs) := by
  obtain ⟨fuel, hf⟩ := hd
  obtain ⟨hl, a, ha, hi⟩ := h enc w 0 _ true fuel _ _ hf hlt
  have e : (Value.agg cs).cells = cs := rfl
  rw [e] at hl hi
  refine ⟨a, ha, cs, rfl, by simpa using hl, fun t ht => ?_⟩
  obtain ⟨u, hu, h2, h3⟩ := hi t ht
  exact ⟨u, by simpa using hu, h2, h3⟩

theorem trodAll_stays {P : Program} (hl : laidOutB P = true) {H : Type} {enc : TypeId × Value → H} {W W' : World} (hb : Below W.heap.size W W') :
    ∀ {ts : List TypeId} {vs : List Value} {ds : List (DataW H)} {ps : List MemPlace}, (∀ t ∈ ts, P.readableRec t = true ∧ t < P.types.size) → DataW.TrodAll enc P W 0 (fun _ => true) true ts vs ds ps → (∀ x ∈ ps, x.block < W.heap.size) →
      DataW.TrodAll enc P W' 0 (fun b => decide (b < W.heap.size)) true ts vs ds ps
  | [], vs, ds, ps, _, h, _ => by
    obtain ⟨rfl, rfl, rfl⟩ := trodAll_nil h
    exact trodAll_mk0
  | t :: ts, vs, ds, ps, hr, h, hlt => by
    obtain ⟨v, vs', d, ds', p, q, rfl, rfl, rfl, h1, h2⟩ := trodAll_cons h
    exact ⟨p, q, Below.trod hl (hr t (.head _)).1 (hr t (.head _)).2 h1 hb (fun x hx => hlt x (List.mem_append_left _ hx)), trodAll_stays hl hb (fun t ht => hr t (.tail _ ht)) h2 (fun x hx => hlt x (List.mem_append_right _ hx)), rfl⟩

/-- A LAW's ENDING: it answers true, and what was there stays. -/
theorem law_post {P : Program} {fn : Func} {s : ChangeSpec} {t : TypeId} {H : Type} {enc : TypeId × Value → H} {W W' : World} {args : Array Value} {ds gs : List (DataW H)} {before : List MemPlace}
    (hl : laidOutB P = true) (hr : ∀ t ∈ fn.params.toList, P.readableRec t = true ∧ t < P.types.size) (hres : fn.resultTypes = #[t]) (ht : P.underlying t = some .bool) (hvars : s.vars = [])
    (hspec : s.fn H (ds ++ gs) = { results := [.lit (.bool true)], args := ds })
    (hW : DataW.Whole enc P fn.params.toList s.vars false W args.toList ds gs before) (hb : Below W.heap.size W W') :
    s.post enc P fn false true false false W args (.bool true) W' := by
  have hW' := hW
  obtain ⟨p, q, hA, hV, rfl, hfz, hnd⟩ := hW
  rw [hvars] at hV
  obtain ⟨rfl, rfl⟩ := trodVars_none hV
  refine ⟨ds, [], p ++ [], [], p, [], hW', ?_, ?_, ?_, hb.frame _, fun h => by cases h⟩
  · rw [hspec, hres]
    exact trodAll_cons_mk (shut_bool ht _) trodAll_mk0
  · rw [hspec]
    exact trodAll_stays hl hb hr hA fun x hx => hW'.lt x (List.mem_append_left _ hx)
  · rw [hspec, hvars]
    rfl

theorem slice_not_agg {P : Program} {w : World} {r : Reach} {b : Nat} {t e : TypeId} {v : Value} (ht : P.underlying t = some (.slice e)) (h : Value.okWide P w r b t v) : ∀ cs, v ≠ .agg cs := by
  obtain ⟨a, l, c, rfl⟩ := okWide_slice ht h
  exact fun cs h => by cases h
theorem int_not_agg {P : Program} {w : World} {r : Reach} {b : Nat} {t : TypeId} {k : IntKind} {v : Value} (ht : P.underlying t = some (.int k)) (h : Value.okWide P w r b t v) : ∀ cs, v ≠ .agg cs := by
  obtain ⟨n, rfl⟩ := okWide_int ht h
  exact fun cs h => by cases h
theorem bool_not_agg {P : Program} {w : World} {r : Reach} {b : Nat} {t : TypeId} {v : Value} (ht : P.underlying t = some .bool) (h : Value.okWide P w r b t v) : ∀ cs, v ≠ .agg cs := by
  obtain ⟨n, rfl⟩ := okWide_bool ht h
  exact fun cs h => by cases h

/-- A contract, called. -/
theorem Ct.law {P : Program} {f : FuncId} {svs : List SV} (h : Ct P f svs (bv true)) {W : World} {vals : List Value} (hR : ROs W (fun _ => False) svs vals) :
    Calls P f vals.toArray W fun e W' => e = .returned (.bool true) ∧ Below W.heap.size W W' :=
  (h W (fun _ => False) vals (fun _ hf => hf.elim) hR).mono fun e W' ⟨v, he, hv, hb⟩ => ⟨by rw [he]; exact congrArg _ hv, hb⟩
end Go.Eng
namespace Go.Eng
theorem info_of {P : Program} {e : TypeId} {k bytes : Nat} (h : (P.info? e).map (fun i => (i.size, i.bytes, i.zero.map fun z => z.cells.size)) = some (k, bytes, some k)) :
    ∃ i z, P.info? e = some i ∧ i.zero = some z ∧ i.size = k ∧ i.bytes = bytes ∧ z.cells.size = k := by
  obtain ⟨i, hi, hz⟩ := Option.map_eq_some_iff.1 h
  simp only [Prod.mk.injEq] at hz
  obtain ⟨h1, h2, h3⟩ := hz
  obtain ⟨z, h4, h5⟩ := Option.map_eq_some_iff.1 h3
  exact ⟨i, z, hi, h4, h1, h2, h5⟩
end Go.Eng
namespace Go.Eng
theorem zero_one {P : Program} {t : TypeId} {u : Value} (h : ∀ w, (zeroValue t).run P w = .ok u w) (hc : u.cells = #[u]) (h1 : u.oneCell' = true) : ZeroOk P t 1 (fun _ => SV.v u) :=
  ⟨u, h, by rw [hc]; rfl, fun t ht => by
    obtain rfl : t = 0 := by omega
    exact ⟨u, by rw [hc]; rfl, h1, fun _ _ => rfl⟩⟩
end Go.Eng

