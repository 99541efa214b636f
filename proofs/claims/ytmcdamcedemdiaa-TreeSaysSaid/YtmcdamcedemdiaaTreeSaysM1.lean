/- What the proof of TreeSays rests on, part 1: the engine, the walks, the plain laws. -/
import Derived.WalkKit
import Derived.Deep.Quiet
import Derived.Laws.Cover3
import Derived.Deep.Slices
import Derived.Deep.Fields
import Derived.ChangeSame
import Derived.Carry
import Derived.ProofKit
import Derived.OpenShut
import Derived.JoinedCond
import Derived.SizedLaws
import Derived.Test.YtmcdamcedemdiaaRows
import Derived.Shelf.Spec.SlicesInsert
import Derived.Shelf.Spec.SlicesInsertGrow
set_option linter.unusedVariables false
set_option linter.unusedSimpArgs false
namespace Go.Eng
open Go.RowKit
structure Ext (X : Nat → Prop) (w w' : World) : Prop where
  size : w.heap.size ≤ w'.heap.size
  block : ∀ g, g < w.heap.size → ¬ X g → w'.heap[g]? = w.heap[g]?
inductive SV where
  | v (x : Value)
  | row (n k : Nat) (get : Nat → Nat → SV)
  | el (n k : Nat) (get : Nat → Nat → SV) (i off : Nat)
  | agg (m : Nat) (get : Nat → SV)
  | tup (m : Nat) (get : Nat → SV)
  | bp (j off : Nat)
  | own (j : Nat)
  | oe (j k i off : Nat)
  | sub (j k lo m : Nat)
  | fn (f : FuncId) (m : Nat) (get : Nat → SV)
  | grd (c : Bool) (x : SV)
  | junk
  | abs (p : World → (Nat → Prop) → Value → Prop) (hp : ∀ w w' X X' v, Ext X w w' → (∀ g, g < w.heap.size → X' g → X g) → p w X v → p w' X' v)
def RO (w : World) (X : Nat → Prop) : SV → Value → Prop
  | .v x, val => val = x
  | .row n k get, val => ∃ A c, val = .slice A n c ∧ n ≤ c ∧ c ≤ maxLen ∧ (0 < n → ∃ b o, A = some ⟨b, o, none⟩ ∧ b < w.heap.size ∧ ¬ X b ∧
      ∀ i, i < n → ∀ t, t < k → ∃ u, w.cell? ⟨b, o + (i * k + t), none⟩ = some u ∧ u.oneCell' = true ∧ RO w X (get i t) u)
  | .el n k get i off, val => i < n ∧ ∃ b o, val = .pointer (some ⟨b, o + (i * k + off), none⟩) ∧ b < w.heap.size ∧ ¬ X b ∧
      ∀ i', i' < n → ∀ t, t < k → ∃ u, w.cell? ⟨b, o + (i' * k + t), none⟩ = some u ∧ u.oneCell' = true ∧ RO w X (get i' t) u
  | .agg m get, val => ∃ cs : Array Value, val = .agg cs ∧ cs.size = m ∧ ∀ t, t < m → ∃ u, cs[t]? = some u ∧ u.oneCell' = true ∧ RO w X (get t) u
  | .tup m get, val => ∃ cs : Array Value, val = .tuple cs ∧ cs.size = m ∧ ∀ t, t < m → ∃ u, cs[t]? = some u ∧ RO w X (get t) u
  | .fn f m get, val => ∃ cs : Array Value, val = .func (.func f) #[] cs ∧ cs.size = m ∧ ∀ t, t < m → ∃ u, cs[t]? = some u ∧ RO w X (get t) u
  | .abs p _, val => p w X val
  | _, _ => False
def hdv : Value → Value
  | .tuple cs => cs.getD 0 undef
  | v => v
def R (w : World) (X : Nat → Prop) (b : Nat → Value) : SV → Value → Prop
  | .bp j off, val => ∃ g, b j = .pointer (some ⟨g, 0, none⟩) ∧ val = .pointer (some ⟨g, off, none⟩)
  | .own j, val => val = hdv (b j)
  | .oe j k i off, val => ∃ g n cap, hdv (b j) = .slice (some ⟨g, 0, none⟩) n cap ∧ i < n ∧ val = .pointer (some ⟨g, i * k + off, none⟩)
  | .sub j k lo m, val => ∃ A n c, hdv (b j) = .slice A n c ∧ lo + m ≤ n ∧ val = .slice (if lo = 0 then A else if c = lo then A else A.map (·.add (lo * k))) m (c - lo)
  | .fn f m get, val => ∃ cs : Array Value, val = .func (.func f) #[] cs ∧ cs.size = m ∧ ∀ t, t < m → ∃ u, cs[t]? = some u ∧ R w X b (get t) u
  | .grd c x, val => (c = true → R w X b x val) ∧ (c = false → val = undef)
  | .junk, _ => True
  | .abs p hp, val => RO w X (.abs p hp) val
  | .v x, val => RO w X (.v x) val
  | .row n k get, val => RO w X (.row n k get) val
  | .el n k get i off, val => RO w X (.el n k get i off) val
  | .agg m get, val => ∃ cs : Array Value, val = .agg cs ∧ cs.size = m ∧ ∀ t, t < m → ∃ u, cs[t]? = some u ∧ u.oneCell' = true ∧ R w X b (get t) u
  | .tup m get, val => ∃ cs : Array Value, val = .tuple cs ∧ cs.size = m ∧ ∀ t, t < m → ∃ u, cs[t]? = some u ∧ R w X b (get t) u
def ownsR (w : World) (base : Nat) (e : TypeId) (k : Nat) (v : Value) (n : Nat) (xs : List Value) : Prop :=
  (∃ A, v = .slice A 0 0 ∧ n = 0 ∧ xs = []) ∨ (w.ownsRow base e k v n xs ∧ ∃ g m c, v = .slice (some ⟨g, 0, none⟩) m (c + 1))
def blk1 : Value → Option Nat
  | .pointer (some a) => some a.block
  | .slice (some a) _ (_ + 1) => some a.block
  | .map (some g) => some g
  | _ => none
def Bk : Value → Nat → Prop
  | .tuple cs, g => ∃ (i : Nat) (u : Value), cs[i]? = some u ∧ blk1 u = some g
  | v, g => blk1 v = some g
inductive Own where
  | box (m : Nat) (get : Nat → SV) (ty : TypeId)
  | arow (n k : Nat) (get : Nat → Nat → SV) (elem : TypeId)
  | amap (kvs : List (Int × Value))
  | urow (n k : Nat) (get : Nat → Nat → SV) (elem : TypeId) (c : Nat) (ce : TypeId) (ck m : Nat) (kn : Nat → Nat) (kget : Nat → Nat → Nat → SV) (hole : Option (Nat × SV))
def isHole (i : Nat) : Option (Nat × SV) → Prop
  | none => False
  | some p => i = p.1
def OwnOk (w : World) (X : Nat → Prop) (base : Nat) (b : Nat → Value) (j : Nat) : Own → Prop
  | .box m get ty => ∃ (g : Nat) (cs : Array Value), b j = .pointer (some ⟨g, 0, none⟩) ∧ base ≤ g ∧ w.heap[g]? = some (.cells cs ty (0, 0)) ∧ cs.size = m ∧
      ∀ t, t < m → ∃ u, cs[t]? = some u ∧ u.oneCell' = true ∧ R w X b (get t) u
  | .arow n k get elem => ∃ xs, ownsR w base elem k (b j) n xs ∧ ∀ i, i < n → ∀ t, t < k → ∃ u, xs[i * k + t]? = some u ∧ u.oneCell' = true ∧ RO w X (get i t) u
  | .amap kvs => ∃ (g : Nat) (es : Array MapEntry) (clk : Nat), b j = .map (some g) ∧ base ≤ g ∧ w.heap[g]? = some (.map es clk) ∧ es.toList.map (fun e => (e.key, e.val)) = kvs.map (fun p => (.int .i64 p.1, p.2))
  | .urow n k get elem c ce ck m kn kget hole => ∃ (v : Value) (subs xs : List Value), b j = .tuple (v :: subs).toArray ∧ ownsR w base elem k v n xs ∧ subs.length = m ∧ m ≤ n ∧
      (∀ i, i < n → ∀ t, t < k → ∃ u, xs[i * k + t]? = some u ∧ u.oneCell' = true ∧ (t ≠ c → RO w X (get i t) u) ∧ (t = c → ¬ isHole i hole → m ≤ i → RO w X (get i t) u) ∧ (t = c → ¬ isHole i hole → i < m → subs[i]? = some u) ∧
        (t = c → ∀ x, hole = some (i, x) → R w X b x u)) ∧
      (∀ i, i < m → ∃ s, subs[i]? = some s ∧ (isHole i hole → blk1 s = none) ∧ (¬ isHole i hole → ∃ ys, ownsR w base ce ck s (kn i) ys ∧ ∀ q, q < kn i → ∀ t, t < ck → ∃ u, ys[q * ck + t]? = some u ∧ u.oneCell' = true ∧ RO w X (kget i q t) u) ∧
        (∀ g, blk1 s = some g → blk1 v ≠ some g) ∧ ∀ i' s', subs[i']? = some s' → i' ≠ i → ∀ g, blk1 s = some g → blk1 s' ≠ some g)
structure St where
  slots : List (Nat × SV)
  owns : List (Nat × Own)
def look (s : Nat) : List (Nat × SV) → Option SV
  | [] => none
  | p :: r => match Nat.beq s p.1 with | true => some p.2 | false => look s r
def lookO (s : Nat) : List (Nat × Own) → Option Own
  | [] => none
  | p :: r => match Nat.beq s p.1 with | true => some p.2 | false => lookO s r
structure Env (NN : Nat) where
  w0 : World
  X : Nat → Prop
  Y : Nat → Prop
  base : Nat
  b0 : Nat → Value
  hX : ∀ b, X b → b < w0.heap.size
  hXY : ∀ b, X b → ¬ Y b
  hY : ∀ b, Y b → b < w0.heap.size
  hbase : base ≤ w0.heap.size
structure KeptBut (Y : Nat → Prop) (w0 w : World) : Prop where
  os : w.os = w0.os
  tape : w.tape = w0.tape
  output : w.output = w0.output
  size : w0.heap.size ≤ w.heap.size
  block : ∀ g, g < w0.heap.size → ¬ Y g → w.heap[g]? = w0.heap[g]?
theorem KeptBut.refl (Y : Nat → Prop) (w : World) : KeptBut Y w w := ⟨rfl, rfl, rfl, Nat.le_refl _, fun _ _ _ => rfl⟩
def BkO (b : Nat → Value) (ow : List (Nat × Own)) (g : Nat) : Prop := ∃ j o, lookO j ow = some o ∧ Bk (b j) g
def St.excl (S : St) {NN : Nat} (E : Env NN) (b : Nat → Value) (g : Nat) : Prop := E.X g ∨ BkO b S.owns g
structure RepB {NN : Nat} (E : Env NN) (b : Nat → Value) (S : St) (a : Act) (w : World) : Prop where
  size : a.tmps.size = NN
  defers : a.defers = []
  below : KeptBut E.Y E.w0 w
  slots : ∀ s x, look s S.slots = some x → R w (S.excl E b) b x (a.tmps.getD s undef)
  owns : ∀ j o, lookO j S.owns = some o → OwnOk w (S.excl E b) E.base b j o
  mine : ∀ j o, lookO j S.owns = some o → ∀ g, Bk (b j) g → E.w0.heap.size ≤ g ∨ E.Y g
  apart : ∀ i j oi oj, lookO i S.owns = some oi → lookO j S.owns = some oj → i ≠ j → ∀ g, Bk (b i) g → ¬ Bk (b j) g
  old : ∀ j, 1000 ≤ j → b j = E.b0 j
def Rep {NN : Nat} (E : Env NN) (S : St) (a : Act) (w : World) : Prop := ∃ b, RepB E b S a w
theorem Ext.cell {X : Nat → Prop} {w w' : World} (h : Ext X w w') {p : Addr} (hp : p.block < w.heap.size) (hX : ¬ X p.block) : w'.cell? p = w.cell? p :=
  World.cell?_of_block (h.block p.block hp hX)
theorem RO.mono {w w' : World} {X X' : Nat → Prop} (h : Ext X w w') (hX : ∀ g, g < w.heap.size → X' g → X g) {x : SV} {val : Value} (hr : RO w X x val) : RO w' X' x val := by
  induction x generalizing val with
  | v x => exact hr
  | row n k get ih =>
    obtain ⟨A, c, rfl, hn, hc, hr⟩ := hr
    refine ⟨A, c, rfl, hn, hc, fun h0 => ?_⟩
    obtain ⟨b, o, rfl, hb, hx, hr⟩ := hr h0
    refine ⟨b, o, rfl, by have := h.size; omega, fun hh => hx (hX _ hb hh), fun i hi t ht => ?_⟩
    obtain ⟨u, hu, h1, h2⟩ := hr i hi t ht
    exact ⟨u, (h.cell (p := ⟨b, _, none⟩) hb hx).trans hu, h1, ih i t h2⟩
  | el n k get i off ih =>
    obtain ⟨hi, b, o, rfl, hb, hx, hr⟩ := hr
    refine ⟨hi, b, o, rfl, by have := h.size; omega, fun hh => hx (hX _ hb hh), fun i hi t ht => ?_⟩
    obtain ⟨u, hu, h1, h2⟩ := hr i hi t ht
    exact ⟨u, (h.cell (p := ⟨b, _, none⟩) hb hx).trans hu, h1, ih i t h2⟩
  | agg m get ih =>
    obtain ⟨cs, rfl, hm, hr⟩ := hr
    refine ⟨cs, rfl, hm, fun t ht => ?_⟩
    obtain ⟨u, hu, h1, h2⟩ := hr t ht
    exact ⟨u, hu, h1, ih t h2⟩
  | tup m get ih =>
    obtain ⟨cs, rfl, hm, hr⟩ := hr
    refine ⟨cs, rfl, hm, fun t ht => ?_⟩
    obtain ⟨u, hu, h2⟩ := hr t ht
    exact ⟨u, hu, ih t h2⟩
  | bp j off => exact hr
  | own j => exact hr
  | oe j k i off => exact hr
  | sub j k lo m => exact hr
  | fn f m get ih =>
    obtain ⟨cs, rfl, hm, hr⟩ := hr
    refine ⟨cs, rfl, hm, fun t ht => ?_⟩
    obtain ⟨u, hu, h2⟩ := hr t ht
    exact ⟨u, hu, ih t h2⟩
  | grd c x ih => exact hr
  | junk => exact hr
  | abs p hp => exact hp _ _ _ _ _ h hX hr
theorem R.mono {w w' : World} {X X' : Nat → Prop} {b : Nat → Value} (h : Ext X w w') (hX : ∀ g, g < w.heap.size → X' g → X g) {x : SV} {val : Value} (hr : R w X b x val) : R w' X' b x val := by
  induction x generalizing val with
  | grd c x ih => exact ⟨fun hc => ih (hr.1 hc), hr.2⟩
  | junk => exact hr
  | abs p hp => exact RO.mono h hX hr
  | bp j off => exact hr
  | own j => exact hr
  | oe j k i off => exact hr
  | sub j k lo m => exact hr
  | fn f m get ih =>
    obtain ⟨cs, rfl, hm, hr⟩ := hr
    refine ⟨cs, rfl, hm, fun t ht => ?_⟩
    obtain ⟨u, hu, h2⟩ := hr t ht
    exact ⟨u, hu, ih t h2⟩
  | v x => exact RO.mono h hX hr
  | row n k get ih => exact RO.mono h hX hr
  | el n k get i off ih => exact RO.mono h hX hr
  | agg m get ih =>
    obtain ⟨cs, rfl, hm, hr⟩ := hr
    refine ⟨cs, rfl, hm, fun t ht => ?_⟩
    obtain ⟨u, hu, h1, h2⟩ := hr t ht
    exact ⟨u, hu, h1, ih t h2⟩
  | tup m get ih =>
    obtain ⟨cs, rfl, hm, hr⟩ := hr
    refine ⟨cs, rfl, hm, fun t ht => ?_⟩
    obtain ⟨u, hu, h2⟩ := hr t ht
    exact ⟨u, hu, ih t h2⟩
def allB (p : Nat → Bool) : Nat → Bool
  | 0 => true
  | n + 1 => p n && allB p n
def SV.okId (p : Nat → Bool) : SV → Bool
  | .bp i _ => p i
  | .own i => p i
  | .oe i _ _ _ => p i
  | .sub i _ _ _ => p i
  | .fn _ m get => allB (fun t => (get t).okId p) m
  | .grd _ x => x.okId p
  | .agg m get => allB (fun t => (get t).okId p) m
  | .tup m get => allB (fun t => (get t).okId p) m
  | _ => true
def Own.okId (p : Nat → Bool) : Own → Bool
  | .box m get _ => allB (fun t => (get t).okId p) m
  | .arow .. => true
  | .amap _ => true
  | .urow _ _ _ _ _ _ _ _ _ _ hole => match hole with | none => true | some q => q.2.okId p
def notJ (j i : Nat) : Bool := !(Nat.beq i j)
def SV.noId (j : Nat) (x : SV) : Bool := x.okId (notJ j)
def Own.noId (j : Nat) (x : Own) : Bool := x.okId (notJ j)
def freshS (j : Nat) : List (Nat × SV) → Bool
  | [] => true
  | p :: r => p.2.noId j && freshS j r
def freshO (j : Nat) : List (Nat × Own) → Bool
  | [] => true
  | p :: r => (!(Nat.beq j p.1) && p.2.noId j) && freshO j r
def St.fresh (j : Nat) (S : St) : Bool := (freshS j S.slots && freshO j S.owns) && Nat.blt j 1000
theorem St.fresh_parts {j : Nat} {S : St} (h : S.fresh j = true) : freshS j S.slots = true ∧ freshO j S.owns = true ∧ j < 1000 := by
  simp only [St.fresh, Bool.and_eq_true] at h
  exact ⟨h.1.1, h.1.2, Nat.le_of_ble_eq_true h.2⟩
theorem allB_iff {p : Nat → Bool} : ∀ {n}, allB p n = true → ∀ t, t < n → p t = true
  | 0, _, t, h => absurd h (by omega)
  | n + 1, h, t, ht => by
    simp only [allB, Bool.and_eq_true] at h
    by_cases e : t = n
    · exact e ▸ h.1
    · exact allB_iff h.2 t (by omega)
theorem allB_of {p : Nat → Bool} : ∀ {n}, (∀ t, t < n → p t = true) → allB p n = true
  | 0, _ => rfl
  | n + 1, h => by simp only [allB, Bool.and_eq_true]; exact ⟨h n (by omega), allB_of fun t ht => h t (by omega)⟩
def setB (b : Nat → Value) (j : Nat) (x : Value) : Nat → Value := fun i => if i = j then x else b i
theorem setB_same (b : Nat → Value) (j : Nat) (x : Value) : setB b j x j = x := by simp [setB]
theorem setB_other (b : Nat → Value) (j : Nat) (x : Value) {i : Nat} (h : i ≠ j) : setB b j x i = b i := by simp [setB, h]
theorem notJ_ne {i j : Nat} (h : notJ j i = true) : i ≠ j := by rintro rfl; simp [notJ] at h
theorem R_congr {w : World} {X : Nat → Prop} {b b' : Nat → Value} {p : Nat → Bool} (hb : ∀ i, p i = true → b' i = b i) {x : SV} {val : Value} (hn : x.okId p = true) (h : R w X b x val) : R w X b' x val := by
  induction x generalizing val with
  | grd c x ih => exact ⟨fun hc => ih hn (h.1 hc), h.2⟩
  | junk => trivial
  | abs p hp => exact h
  | bp i off =>
    obtain ⟨g, h1, h2⟩ := h
    exact ⟨g, by rw [hb i hn]; exact h1, h2⟩
  | own i => show val = _; rw [hb i hn]; exact h
  | oe i k p off =>
    obtain ⟨g, n, c, h1, h2, h3⟩ := h
    exact ⟨g, n, c, by rw [hb i hn]; exact h1, h2, h3⟩
  | sub i k lo m =>
    obtain ⟨A, n, c, h1, h2, h3⟩ := h
    exact ⟨A, n, c, by rw [hb i hn]; exact h1, h2, h3⟩
  | v x => exact h
  | row n k get ih => exact h
  | el n k get i off ih => exact h
  | agg m get ih =>
    obtain ⟨cs, rfl, hm, hr⟩ := h
    refine ⟨cs, rfl, hm, fun t ht => ?_⟩
    obtain ⟨u, hu, h1, h2⟩ := hr t ht
    exact ⟨u, hu, h1, ih t (allB_iff hn t ht) h2⟩
  | tup m get ih =>
    obtain ⟨cs, rfl, hm, hr⟩ := h
    refine ⟨cs, rfl, hm, fun t ht => ?_⟩
    obtain ⟨u, hu, h2⟩ := hr t ht
    exact ⟨u, hu, ih t (allB_iff hn t ht) h2⟩
  | fn f m get ih =>
    obtain ⟨cs, rfl, hm, hr⟩ := h
    refine ⟨cs, rfl, hm, fun t ht => ?_⟩
    obtain ⟨u, hu, h2⟩ := hr t ht
    exact ⟨u, hu, ih t (allB_iff hn t ht) h2⟩
theorem R_setB {w : World} {X : Nat → Prop} {b : Nat → Value} {j : Nat} {y : Value} {x : SV} {val : Value} (hn : x.noId j = true) (h : R w X b x val) : R w X (setB b j y) x val :=
  R_congr (fun i hi => setB_other _ _ _ (notJ_ne hi)) hn h
def Own.All (p : SV → Prop) : Own → Prop
  | .box m get _ => ∀ t, t < m → p (get t)
  | .urow _ _ _ _ _ _ _ _ _ _ hole => ∀ q, hole = some q → p q.2
  | _ => True
def holeMap (f : SV → SV) : Option (Nat × SV) → Option (Nat × SV)
  | none => none
  | some q => some (q.1, f q.2)
def Own.map (f : SV → SV) : Own → Own
  | .box m get ty => .box m (fun t => f (get t)) ty
  | .arow n k get e => .arow n k get e
  | .amap kvs => .amap kvs
  | .urow n k get e c ce ck m kn kget hole => .urow n k get e c ce ck m kn kget (holeMap f hole)
theorem Own.map_id (o : Own) : o.map (fun x => x) = o := by
  cases o with
  | urow n k get e c ce ck m kn kget hole => cases hole <;> rfl
  | _ => rfl
theorem Own.okId_all {p : Nat → Bool} {o : Own} (h : o.okId p = true) : o.All fun x => x.okId p = true := by
  cases o with
  | box m get ty => exact fun t ht => allB_iff h t ht
  | urow n k get e c ce ck m kn kget hole =>
    intro q hq
    subst hq
    exact h
  | _ => trivial
theorem Own.noId_all {j : Nat} {o : Own} (h : o.noId j = true) : o.All fun x => x.noId j = true := okId_all h
theorem Own.all_true {p : SV → Prop} {o : Own} (h : ∀ x, p x) : o.All p := by cases o <;> simp [Own.All, h]
theorem Own.All.mono {p q : SV → Prop} {o : Own} (h : o.All p) (hpq : ∀ x, p x → q x) : o.All q := by
  cases o with
  | box m get ty => exact fun t ht => hpq _ (h t ht)
  | urow n k get e c ce ck m kn kget hole => exact fun y hy => hpq _ (h y hy)
  | _ => trivial
theorem Bk_slice {v : Value} {A : Option Addr} {n c : Nat} (h : v = .slice A n c) {g : Nat} : Bk v g ↔ blk1 v = some g := by subst h; rfl
theorem ownsR.slice {w : World} {base : Nat} {e : TypeId} {k : Nat} {v : Value} {n : Nat} {xs : List Value} (h : ownsR w base e k v n xs) : ∃ A c, v = .slice A n c ∧ n ≤ c ∧ c ≤ maxLen := by
  rcases h with ⟨A, hv, hn, _⟩ | ⟨⟨_, hv⟩, _⟩
  · exact ⟨A, 0, by rw [hv, hn], by omega, by simp [maxLen]⟩
  · rcases hv with ⟨hv, hn⟩ | ⟨g, cap, cur, hv, _, _, hc, hm, _⟩
    · exact ⟨none, 0, by rw [hv, hn], by omega, by simp [maxLen]⟩
    · exact ⟨_, cap, hv, hc, hm⟩
theorem ownsR.lt {w : World} {base : Nat} {e : TypeId} {k : Nat} {v : Value} {n : Nat} {xs : List Value} (h : ownsR w base e k v n xs) {g : Nat} (hg : blk1 v = some g) : g < w.heap.size ∧ base ≤ g := by
  rcases h with ⟨A, hv, _⟩ | ⟨ho, g', m, c, hv⟩
  · rw [hv] at hg
    cases A <;> simp [blk1] at hg
  · rw [hv] at hg
    simp only [blk1, Option.some.injEq] at hg
    subst hg
    have := ho.lt g' (by rw [hv]; rfl)
    exact ⟨this.2, this.1⟩
theorem ownsR.same {w w' : World} {base : Nat} {e : TypeId} {k : Nat} {v : Value} {n : Nat} {xs : List Value} (h : ownsR w base e k v n xs) (hs : ∀ g, blk1 v = some g → w'.heap[g]? = w.heap[g]?) : ownsR w' base e k v n xs := by
  rcases h with h | ⟨⟨hl, hv⟩, g, m, c, hv'⟩
  · exact .inl h
  · refine .inr ⟨⟨hl, ?_⟩, g, m, c, hv'⟩
    rcases hv with h1 | ⟨g1, cap, cur, h1, hb, hh, hrest⟩
    · exact .inl h1
    · refine .inr ⟨g1, cap, cur, h1, hb, ?_, hrest⟩
      rw [hv'] at h1
      simp only [Value.slice.injEq, Option.some.injEq, Addr.mk.injEq, and_true] at h1
      obtain ⟨rfl, _, _⟩ := h1
      rw [hs g (by rw [hv']; rfl)]; exact hh
theorem OwnOk.keep {w w' : World} {X X' : Nat → Prop} {base : Nat} {b b' : Nat → Value} {j : Nat} {o : Own} (f : SV → SV) {p : SV → Prop} (h : OwnOk w X base b j o) (hb : b' j = b j) (ho : o.All p)
    (hsame : ∀ g, g < w.heap.size → Bk (b j) g → w'.heap[g]? = w.heap[g]?) (hR : ∀ x v, p x → R w X b x v → R w' X' b' (f x) v) (hRO : ∀ x v, RO w X x v → RO w' X' x v) : OwnOk w' X' base b' j (o.map f) := by
  cases o with
  | box m get ty =>
    obtain ⟨g, cs, h1, hbase, hh, hm, hr⟩ := h
    have hlt := (Array.getElem?_eq_some_iff.1 hh).1
    refine ⟨g, cs, hb.trans h1, hbase, by rw [hsame g hlt (by rw [h1]; exact rfl)]; exact hh, hm, fun t ht => ?_⟩
    obtain ⟨u, hu, h2, h3⟩ := hr t ht
    exact ⟨u, hu, h2, hR _ _ (ho t ht) h3⟩
  | arow n k get e =>
    obtain ⟨xs, hown, hr⟩ := h
    obtain ⟨A, c, hs, _⟩ := hown.slice
    refine ⟨xs, ?_, fun i hi t ht => ?_⟩
    · rw [hb]
      exact hown.same fun g hg => hsame g (hown.lt hg).1 ((Bk_slice hs).2 hg)
    · obtain ⟨u, hu, h2, h3⟩ := hr i hi t ht
      exact ⟨u, hu, h2, hRO _ _ h3⟩
  | amap kvs =>
    obtain ⟨g, es, clk, h1, hbase, hh, hk⟩ := h
    exact ⟨g, es, clk, hb.trans h1, hbase, by rw [hsame g (Array.getElem?_eq_some_iff.1 hh).1 (by rw [h1]; exact rfl)]; exact hh, hk⟩
  | urow n k get e c ce ck m kn kget hole =>
    obtain ⟨v, subs, xs, h1, hown, hsl, hmn, hc, hsub⟩ := h
    have hv : ∀ g, blk1 v = some g → Bk (b j) g := fun g hg => by rw [h1]; exact ⟨0, v, rfl, hg⟩
    have hs : ∀ i s, subs[i]? = some s → ∀ g, blk1 s = some g → Bk (b j) g := fun i s hi g hg => by rw [h1]; exact ⟨i + 1, s, by simpa using hi, hg⟩
    have hhole : ∀ i, isHole i (holeMap f hole) ↔ isHole i hole := fun i => by cases hole <;> exact Iff.rfl
    refine ⟨v, subs, xs, hb.trans h1, hown.same fun g hg => hsame g (hown.lt hg).1 (hv g hg), hsl, hmn, fun i hi t ht => ?_, fun i hi => ?_⟩
    · obtain ⟨u, hu, h2, h3, h4, h5, h6⟩ := hc i hi t ht
      refine ⟨u, hu, h2, fun q => hRO _ _ (h3 q), fun q q2 q3 => hRO _ _ (h4 q (fun z => q2 ((hhole i).2 z)) q3), fun q q2 q3 => h5 q (fun z => q2 ((hhole i).2 z)) q3, fun q x hx => ?_⟩
      cases hole with
      | none => cases hx
      | some y =>
        simp only [holeMap, Option.some.injEq, Prod.mk.injEq] at hx
        obtain ⟨rfl, rfl⟩ := hx
        exact hR _ _ (ho y rfl) (h6 q y.2 rfl)
    · obtain ⟨s, h2, h3, h4, h5, h6⟩ := hsub i hi
      refine ⟨s, h2, fun q => h3 ((hhole i).1 q), fun q => ?_, h5, h6⟩
      obtain ⟨ys, h7, h8⟩ := h4 (fun z => q ((hhole i).2 z))
      refine ⟨ys, h7.same fun g hg => hsame g (h7.lt hg).1 (hs i s h2 g hg), fun q hq t ht => ?_⟩
      obtain ⟨u, hu, h9, h10⟩ := h8 q hq t ht
      exact ⟨u, hu, h9, hRO _ _ h10⟩
theorem OwnOk.keep0 {w w' : World} {X X' : Nat → Prop} {base : Nat} {b b' : Nat → Value} {j : Nat} {o : Own} {p : SV → Prop} (h : OwnOk w X base b j o) (hb : b' j = b j) (ho : o.All p)
    (hsame : ∀ g, g < w.heap.size → Bk (b j) g → w'.heap[g]? = w.heap[g]?) (hR : ∀ x v, p x → R w X b x v → R w' X' b' x v) (hRO : ∀ x v, RO w X x v → RO w' X' x v) : OwnOk w' X' base b' j o := by
  have := OwnOk.keep (fun x => x) h hb ho hsame hR hRO
  rwa [o.map_id] at this
theorem look_fresh {j : Nat} : ∀ {l : List (Nat × SV)}, freshS j l = true → ∀ s x, look s l = some x → x.noId j = true
  | [], _, s, x, h => by simp [look] at h
  | p :: r, hf, s, x, h => by
    simp only [freshS, Bool.and_eq_true] at hf
    simp only [look] at h
    split at h
    · injection h with h; subst h; exact hf.1
    · exact look_fresh hf.2 s x h
theorem lookO_fresh {j : Nat} : ∀ {l : List (Nat × Own)}, freshO j l = true → ∀ s o, lookO s l = some o → s ≠ j ∧ o.noId j = true
  | [], _, s, x, h => by simp [lookO] at h
  | p :: r, hf, s, x, h => by
    simp only [freshO, Bool.and_eq_true] at hf
    simp only [lookO] at h
    split at h
    · rename_i hb
      injection h with h; subst h
      have := Nat.eq_of_beq_eq_true hb
      refine ⟨?_, hf.1.2⟩
      rintro rfl
      have h1 := hf.1.1
      rw [this] at h1
      simp at h1
    · exact lookO_fresh hf.2 s x h
theorem look_cons {s d : Nat} {y : SV} {l : List (Nat × SV)} : look s ((d, y) :: l) = if s = d then some y else look s l := by
  simp only [look]
  by_cases h : s = d
  · subst h; simp
  · have : Nat.beq s d = false := by
      cases hb : Nat.beq s d
      · rfl
      · exact absurd (Nat.eq_of_beq_eq_true hb) h
    rw [this, if_neg h]
theorem lookO_cons {s d : Nat} {y : Own} {l : List (Nat × Own)} : lookO s ((d, y) :: l) = if s = d then some y else lookO s l := by
  simp only [lookO]
  by_cases h : s = d
  · subst h; simp
  · have : Nat.beq s d = false := by
      cases hb : Nat.beq s d
      · rfl
      · exact absurd (Nat.eq_of_beq_eq_true hb) h
    rw [this, if_neg h]
theorem getD_set (t : Array Value) (d s : Nat) (v : Value) (h : d < t.size) : (t.setIfInBounds d v).getD s undef = if s = d then v else t.getD s undef := by
  simp only [Array.getD_eq_getD_getElem?, Array.getElem?_setIfInBounds]
  by_cases e : d = s
  · subst e; simp [h]
  · rw [if_neg e, if_neg (fun h => e h.symm)]
theorem OwnOk.lt {w : World} {X : Nat → Prop} {base : Nat} {b : Nat → Value} {j : Nat} {o : Own} (h : OwnOk w X base b j o) {g : Nat} (hg : Bk (b j) g) : g < w.heap.size ∧ base ≤ g := by
  cases o with
  | box m get ty =>
    obtain ⟨g', cs, hb, hbase, hh, _⟩ := h
    rw [hb] at hg
    have hg : some g' = some g := hg
    injection hg with hg
    subst hg
    exact ⟨(Array.getElem?_eq_some_iff.1 hh).1, hbase⟩
  | arow n k get elem =>
    obtain ⟨xs, ho, _⟩ := h
    obtain ⟨A, c, hs, _⟩ := ho.slice
    exact ho.lt ((Bk_slice hs).1 hg)
  | amap kvs =>
    obtain ⟨g', es, clk, hb, hbase, hh, _⟩ := h
    rw [hb] at hg
    have hg : some g' = some g := hg
    injection hg with hg
    subst hg
    exact ⟨(Array.getElem?_eq_some_iff.1 hh).1, hbase⟩
  | urow n k get e c ce ck m kn kget hole =>
    obtain ⟨v, subs, xs, h1, hown, hsl, hmn, hc, hsub⟩ := h
    rw [h1] at hg
    obtain ⟨i, u, hi, hu⟩ := hg
    cases i with
    | zero =>
      have : v = u := by simpa using hi
      subst this
      exact hown.lt hu
    | succ i =>
      have hi : subs[i]? = some u := by simpa using hi
      obtain ⟨s, h2, h3, h4, _⟩ := hsub i (by rw [← hsl]; exact (List.getElem?_eq_some_iff.1 hi).1)
      rw [hi] at h2
      injection h2 with h2
      subst h2
      by_cases hh : isHole i hole
      · rw [h3 hh] at hu; cases hu
      · obtain ⟨ys, h5, _⟩ := h4 hh
        exact h5.lt hu
theorem RepB.own_lt {NN : Nat} {E : Env NN} {b : Nat → Value} {S : St} {a : Act} {w : World} (h : RepB E b S a w) {j : Nat} {o : Own} (ho : lookO j S.owns = some o) {g : Nat} (hg : Bk (b j) g) : g < w.heap.size := ((h.owns j o ho).lt hg).1
theorem RepB.excl_lt {NN : Nat} {E : Env NN} {b : Nat → Value} {S : St} {a : Act} {w : World} (h : RepB E b S a w) {g : Nat} (hg : S.excl E b g) : g < w.heap.size := by
  rcases hg with hg | ⟨j, o, ho, hb⟩
  · exact Nat.lt_of_lt_of_le (E.hX g hg) h.below.size
  · exact h.own_lt ho hb
theorem RepB.notX {NN : Nat} {E : Env NN} {b : Nat → Value} {S : St} {a : Act} {w : World} (h : RepB E b S a w) {j : Nat} {o : Own} (ho : lookO j S.owns = some o) {g : Nat} (hg : Bk (b j) g) : ¬ E.X g := fun hx => by
  rcases h.mine j o ho g hg with h1 | h1
  · have := E.hX g hx; omega
  · exact E.hXY g hx h1
theorem RepB.base_le {NN : Nat} {E : Env NN} {b : Nat → Value} {S : St} {a : Act} {w : World} (h : RepB E b S a w) : E.base ≤ w.heap.size := Nat.le_trans E.hbase h.below.size
end Go.Eng
namespace Go.Eng
open Go.RowKit
variable {P : Program} {NN : Nat} {E : Env NN}
theorem Ext.of_below {X : Nat → Prop} {w w' : World} (h : Below w.heap.size w w') : Ext X w w' := ⟨h.size, fun g hg _ => h.block g hg⟩
theorem RepB.put {b : Nat → Value} {S : St} {a : Act} {w : World} (h : RepB E b S a w) {d : Nat} {x : SV} {v : Value} (hd : d < NN) (hx : R w (S.excl E b) b x v) :
    RepB E b ⟨(d, x) :: S.slots, S.owns⟩ (a.put (some d) v) w where
  size := by simpa [Act.put] using h.size
  defers := h.defers
  below := h.below
  slots := fun s y hy => by
    have hg : (a.put (some d) v).tmps.getD s undef = if s = d then v else a.tmps.getD s undef := getD_set _ _ _ _ (by rw [h.size]; exact hd)
    rw [hg]
    rw [look_cons] at hy
    split at hy
    · rename_i e
      injection hy with hy
      subst hy
      rw [if_pos e]; exact hx
    · rename_i e
      rw [if_neg e]
      exact h.slots s y hy
  owns := h.owns
  mine := h.mine
  apart := h.apart
  old := h.old
theorem KeptBut.trans_below {Y : Nat → Prop} {w0 w w' : World} (h : KeptBut Y w0 w) (hw : Below w.heap.size w w') : KeptBut Y w0 w' :=
  ⟨hw.os.trans h.os, hw.tape.trans h.tape, hw.output.trans h.output, Nat.le_trans h.size hw.size, fun g hg hY => (hw.block g (by have := h.size; omega)).trans (h.block g hg hY)⟩
theorem RepB.world {b : Nat → Value} {S : St} {a : Act} {w w' : World} (h : RepB E b S a w) (hw : Below w.heap.size w w') : RepB E b S a w' where
  size := h.size
  defers := h.defers
  below := h.below.trans_below hw
  slots := fun s x hx => (h.slots s x hx).mono (.of_below hw) (fun _ _ hh => hh)
  owns := fun j o ho => (h.owns j o ho).keep0 (p := fun _ => True) rfl (Own.all_true fun _ => trivial) (fun g hg _ => hw.block g hg) (fun x v _ hr => hr.mono (.of_below hw) (fun _ _ hh => hh)) (fun x v hr => hr.mono (.of_below hw) (fun _ _ hh => hh))
  mine := h.mine
  apart := h.apart
  old := h.old
theorem below_drew (w : World) : Below w.heap.size w w.drew := ⟨rfl, rfl, rfl, Nat.le_refl _, fun _ _ => rfl⟩
theorem below_alloc (w : World) (o : Obj) : Below w.heap.size w (w.alloc o) := ⟨rfl, rfl, rfl, by simp, fun k hk => Below.heap_alloc _ _ _ hk⟩
theorem RO.toR {w : World} {X : Nat → Prop} {b : Nat → Value} {x : SV} {val : Value} (h : RO w X x val) : R w X b x val := by
  induction x generalizing val with
  | fn f m get ih =>
    obtain ⟨cs, rfl, hm, hr⟩ := h
    refine ⟨cs, rfl, hm, fun t ht => ?_⟩
    obtain ⟨u, hu, h2⟩ := hr t ht
    exact ⟨u, hu, ih t h2⟩
  | bp j off => exact h.elim
  | own j => exact h.elim
  | oe j k i off => exact h.elim
  | sub j k lo m => exact h.elim
  | grd c x ih => exact h.elim
  | junk => exact h.elim
  | abs p hp => exact h
  | v x => exact h
  | row n k get ih => exact h
  | el n k get i off ih => exact h
  | agg m get ih =>
    obtain ⟨cs, rfl, hm, hr⟩ := h
    refine ⟨cs, rfl, hm, fun t ht => ?_⟩
    obtain ⟨u, hu, h1, h2⟩ := hr t ht
    exact ⟨u, hu, h1, ih t h2⟩
  | tup m get ih =>
    obtain ⟨cs, rfl, hm, hr⟩ := h
    refine ⟨cs, rfl, hm, fun t ht => ?_⟩
    obtain ⟨u, hu, h2⟩ := hr t ht
    exact ⟨u, hu, ih t h2⟩
def Val {NN : Nat} (E : Env NN) (S : St) (o : Operand) (x : SV) : Prop := ∀ b a w, RepB E b S a w → R w (S.excl E b) b x (a.eval o)
theorem val_tmp {S : St} {s : Nat} {x : SV} (h : look s S.slots = some x) : Val E S (.tmp s) x := fun _ _ _ hr => hr.slots s x h
theorem val_const {S : St} {c : Value} : Val E S (.const c) (.v c) := fun _ _ _ _ => rfl
def fnL (f : FuncId) (caps : List SV) : SV := .fn f caps.length fun t => caps.getD t .junk
theorem val_func {S : St} {f : FuncId} : Val E S (.func f) (fnL f []) := fun _ _ _ _ => ⟨#[], rfl, rfl, fun t ht => absurd ht (Nat.not_lt_zero t)⟩
theorem val_nil {S : St} {k : Nat} {get : Nat → Nat → SV} : Val E S (.const (.slice none 0 0)) (.row 0 k get) :=
  fun _ _ _ _ => ⟨none, 0, rfl, Nat.le_refl _, Nat.zero_le _, fun h => absurd h (by omega)⟩
theorem val_grd {S : St} {o : Operand} {c : Bool} {x : SV} (h : Val E S o (.grd c x)) (hc : c = true) : Val E S o x := fun b a w hr => (h b a w hr).1 hc
theorem val_eq {S : St} {o : Operand} {x y : SV} (h : Val E S o x) (e : x = y) : Val E S o y := e ▸ h
def OpQ (P : Program) {NN : Nat} (E : Env NN) (S : St) (op : Op) (x : SV) : Prop :=
  ∀ b a w, RepB E b S a w → ∀ dst ty pos after gd, ∃ v, (∀ w', Below w.heap.size w w' → (execOp a.eval { dst, op, type := ty, pos, after, guard := gd }).run P w' = .ok (.value v) w') ∧ R w (S.excl E b) b x v
section quiet
variable {S : St}
theorem q_move {x : Operand} {s : SV} (h : Val E S x s) : OpQ P E S (.move x) s := fun b a w hr _ _ _ _ _ => ⟨_, fun _ _ => rfl, h b a w hr⟩
theorem q_assign {x : Operand} {s : SV} (h : Val E S x s) : OpQ P E S (.assign x) s := fun b a w hr _ _ _ _ _ => ⟨_, fun _ _ => rfl, h b a w hr⟩
theorem q_pick {c x y : Operand} {t p q : Bool} (hc : Val E S c (.v (.bool t))) (hx : t = true → Val E S x (.v (.bool p))) (hy : t = false → Val E S y (.v (.bool q))) :
    OpQ P E S (.pick c x y) (.v (.bool (bif t then p else q))) := fun b a w hr dst ty pos after gd => by
  have h1 : a.eval c = .bool t := hc b a w hr
  cases t with
  | true =>
    have h2 : a.eval x = .bool p := hx rfl b a w hr
    exact ⟨_, fun w' _ => by simp [execOp, h1, h2, asBool], rfl⟩
  | false =>
    have h2 : a.eval y = .bool q := hy rfl b a w hr
    exact ⟨_, fun w' _ => by simp [execOp, h1, h2, asBool], rfl⟩
theorem q_or {c y : Operand} {t q : Bool} (hc : Val E S c (.v (.bool t))) (hy : t = false → Val E S y (.v (.bool q))) :
    OpQ P E S (.pick c (.const (.bool true)) y) (.v (.bool (t || q))) := by
  have h := q_pick (P := P) (p := true) hc (fun _ => val_const) hy
  have e : (bif t then true else q) = (t || q) := by cases t <;> rfl
  rw [e] at h; exact h
theorem q_and {c x : Operand} {t p : Bool} (hc : Val E S c (.v (.bool t))) (hx : t = true → Val E S x (.v (.bool p))) :
    OpQ P E S (.pick c x (.const (.bool false))) (.v (.bool (t && p))) := by
  have h := q_pick (P := P) (q := false) hc hx (fun _ => val_const)
  have e : (bif t then p else false) = (t && p) := by cases t <;> rfl
  rw [e] at h; exact h
section ints
variable {x y : Operand} {t t' : TypeId} {k : IntKind} {m n : Int} (hx : Val E S x (.v (.int k m))) (hy : Val E S y (.v (.int k n)))
include hx hy
theorem q_lss : OpQ P E S (.binOp .lss t x y t') (.v (.bool (decide (m < n)))) := fun b a w hr dst ty pos after gd => by
  have h1 : a.eval x = .int k m := hx b a w hr
  have h2 : a.eval y = .int k n := hy b a w hr
  exact ⟨.bool (decide (m < n)), fun w' _ => by simp only [execOp, h1, h2, eqGuard_lss, binOp_lss]; rfl, rfl⟩
theorem q_leq : OpQ P E S (.binOp .leq t x y t') (.v (.bool (decide (m ≤ n)))) := fun b a w hr dst ty pos after gd => by
  have h1 : a.eval x = .int k m := hx b a w hr
  have h2 : a.eval y = .int k n := hy b a w hr
  exact ⟨.bool (decide (m ≤ n)), fun w' _ => by simp only [execOp, h1, h2, eqGuard_leq, binOp_leq]; rfl, rfl⟩
theorem q_gtr : OpQ P E S (.binOp .gtr t x y t') (.v (.bool (decide (n < m)))) := fun b a w hr dst ty pos after gd => by
  have h1 : a.eval x = .int k m := hx b a w hr
  have h2 : a.eval y = .int k n := hy b a w hr
  exact ⟨.bool (decide (n < m)), fun w' _ => by simp only [execOp, h1, h2, eqGuard_gtr, binOp_gtr]; rfl, rfl⟩
theorem q_geq : OpQ P E S (.binOp .geq t x y t') (.v (.bool (decide (n ≤ m)))) := fun b a w hr dst ty pos after gd => by
  have h1 : a.eval x = .int k m := hx b a w hr
  have h2 : a.eval y = .int k n := hy b a w hr
  exact ⟨.bool (decide (n ≤ m)), fun w' _ => by simp only [execOp, h1, h2, eqGuard_geq, binOp_geq]; rfl, rfl⟩
theorem q_eql : OpQ P E S (.binOp .eql t x y t') (.v (.bool (decide (m = n)))) := fun b a w hr dst ty pos after gd => by
  have h1 : a.eval x = .int k m := hx b a w hr
  have h2 : a.eval y = .int k n := hy b a w hr
  refine ⟨.bool (decide (m = n)), fun w' hw' => ?_, rfl⟩
  simp only [execOp, h1, h2, eqGuard_at_int, binOp_eql]
  have e : (m == n) = decide (m = n) := by rw [Bool.eq_iff_iff]; simp
  rw [e]; rfl
theorem q_neq : OpQ P E S (.binOp .neq t x y t') (.v (.bool (!decide (m = n)))) := fun b a w hr dst ty pos after gd => by
  have h1 : a.eval x = .int k m := hx b a w hr
  have h2 : a.eval y = .int k n := hy b a w hr
  refine ⟨.bool (!decide (m = n)), fun w' hw' => ?_, rfl⟩
  simp only [execOp, h1, h2, eqGuard_at_int, binOp_neq]
  have e : (m != n) = !decide (m = n) := by rw [Bool.eq_iff_iff]; simp
  rw [e]; rfl
theorem q_and64 : OpQ P E S (.binOp .and t x y t') (.v (.int k (bits .and k m n))) := fun b a w hr dst ty pos after gd => by
  have h1 : a.eval x = .int k m := hx b a w hr
  have h2 : a.eval y = .int k n := hy b a w hr
  exact ⟨_, fun w' _ => by simp only [execOp, h1, h2, eqGuard_and, binOp_and, intBits_and]; rfl, rfl⟩
end ints
theorem wrap_in {z : Int} (h1 : -9223372036854775808 ≤ z) (h2 : z ≤ 9223372036854775807) : IntKind.i64.wrap z = z := IntWalk.i64_in _ ⟨h1, h2⟩
section arith
variable {x y : Operand} {t t' : TypeId} {m n : Int} (hx : Val E S x (.v (.int .i64 m))) (hy : Val E S y (.v (.int .i64 n)))
include hx hy
theorem q_add (h : -9223372036854775808 ≤ m + n ∧ m + n ≤ 9223372036854775807) : OpQ P E S (.binOp .add t x y t') (.v (.int .i64 (m + n))) := fun b a w hr dst ty pos after gd => by
  have h1 : a.eval x = .int .i64 m := hx b a w hr
  have h2 : a.eval y = .int .i64 n := hy b a w hr
  refine ⟨.int .i64 (m + n), fun w' hw' => ?_, rfl⟩
  simp only [execOp, h1, h2, eqGuard_add, binOp_add]
  simp [Op.intArith, wrap_in h.1 h.2]
theorem q_sub (h : -9223372036854775808 ≤ m - n ∧ m - n ≤ 9223372036854775807) : OpQ P E S (.binOp .sub t x y t') (.v (.int .i64 (m - n))) := fun b a w hr dst ty pos after gd => by
  have h1 : a.eval x = .int .i64 m := hx b a w hr
  have h2 : a.eval y = .int .i64 n := hy b a w hr
  refine ⟨.int .i64 (m - n), fun w' hw' => ?_, rfl⟩
  simp only [execOp, h1, h2, eqGuard_sub, binOp_sub]
  simp [Op.intArith, wrap_in h.1 h.2]
end arith
section bools
variable {x y : Operand} {t t' : TypeId} {m n : Bool} (hx : Val E S x (.v (.bool m)))
include hx
theorem q_not : OpQ P E S (.unOp .not t x) (.v (.bool (!m))) := fun b a w hr dst ty pos after gd => by
  have h1 : a.eval x = .bool m := hx b a w hr
  exact ⟨_, fun w' _ => by simp only [execOp, h1, Op.unary]; rfl, rfl⟩
variable (hy : Val E S y (.v (.bool n)))
include hy
theorem q_neqb (ht : P.underlying t = some .bool) : OpQ P E S (.binOp .neq t x y t') (.v (.bool (m != n))) := fun b a w hr dst ty pos after gd => by
  have h1 : a.eval x = .bool m := hx b a w hr
  have h2 : a.eval y = .bool n := hy b a w hr
  refine ⟨.bool (m != n), fun w' hw' => ?_, rfl⟩
  have e : (!(m == n)) = (m != n) := rfl
  simp [execOp, h1, h2, eqGuard_at_bool, binOp, Op.equal, Op.maxDepth, run_equalIn_bool _ _ t m n ht, e]
end bools
theorem q_len {x : Operand} {t : TypeId} {n k : Nat} {get : Nat → Nat → SV} (hx : Val E S x (.row n k get)) (ht : P.underlying t = some (.slice (P.elem t))) :
    OpQ P E S (.call { callee := .builtin .len, args := #[x], argTypes := #[t] }) (.v (.int .i64 (n : Int))) := fun b a w hr dst ty pos after gd => by
  obtain ⟨A, c, hv, _⟩ := hx b a w hr
  refine ⟨.int .i64 n, fun w' hw' => ?_, rfl⟩
  simp [execOp, resolve, invoke, builtin, hv, run_len_slice w' t ty A n c ht, goInt]
theorem q_idx {x y : Operand} {t : TypeId} {n k : Nat} {get : Nat → Nat → SV} {kk : IntKind} {i : Int} (hx : Val E S x (.row n k get)) (hy : Val E S y (.v (.int kk i)))
    (ht : P.underlying t = some (.slice (P.elem t))) (hs : ∀ w, (sizeOf (P.elem t)).run P w = .ok k w) (h0 : 0 ≤ i) (h1 : i < n) :
    OpQ P E S (.indexAddr t x y) (.el n k get i.toNat 0) := fun b a w hr dst ty pos after gd => by
  obtain ⟨A, c, hv, hn, hc, hr'⟩ := hx b a w hr
  have h2 : a.eval y = .int kk i := hy b a w hr
  obtain ⟨g, o, rfl, hg, hX, hr'⟩ := hr' (by omega)
  refine ⟨.pointer (some ⟨g, o + (i.toNat * k + 0), none⟩), fun w' hw' => ?_, by omega, g, o, rfl, hg, hX, hr'⟩
  simp [execOp, hv, h2, run_indexAt_slice w' t _ n c kk i ht, h0, h1, hs, Addr.add_lit]
theorem q_idxN {x y : Operand} {t : TypeId} {n k : Nat} {get : Nat → Nat → SV} {kk : IntKind} {i : Nat} (hx : Val E S x (.row n k get)) (hy : Val E S y (.v (.int kk (i : Int))))
    (ht : P.underlying t = some (.slice (P.elem t))) (hs : ∀ w, (sizeOf (P.elem t)).run P w = .ok k w) (h1 : i < n) :
    OpQ P E S (.indexAddr t x y) (.el n k get i 0) := q_idx hx hy ht hs (by omega) (by omega)
theorem q_fld {x : Operand} {t : TypeId} {f : Nat} {n k : Nat} {get : Nat → Nat → SV} {i off : Nat} (fs : Array Field) (fd : Field) (hx : Val E S x (.el n k get i off))
    (ht : P.underlying t = some (.struct fs)) (hf : fs[f]? = some fd) (m : Nat) (hs : ∀ w, (sizeOf fd.type).run P w = .ok (m + 1) w) :
    OpQ P E S (.fieldAddr t x f) (.el n k get i (off + fd.offset)) := fun b a w hr dst ty pos after gd => by
  obtain ⟨hi, g, o, hv, hg, hX, hr'⟩ := hx b a w hr
  refine ⟨.pointer (some ⟨g, o + (i * k + (off + fd.offset)), none⟩), fun w' hw' => ?_, hi, g, o, rfl, hg, hX, hr'⟩
  simp [execOp, hv, Instr.fieldAt, run_underlying ht, hf, Instr.sureAddr, fieldPlace, hs, Addr.add_lit, Nat.add_assoc]
theorem q_ld {x : Operand} {t : TypeId} {n k : Nat} {get : Nat → Nat → SV} {i off : Nat} (hx : Val E S x (.el n k get i off))
    (ht : ∀ w, (isAgg t).run P w = .ok false w) (ho : off < k) : OpQ P E S (.load t x) (get i off) := fun b a w hr dst ty pos after gd => by
  obtain ⟨hi, g, o, hv, hg, hX, hr'⟩ := hx b a w hr
  obtain ⟨u, hu, h1, h2⟩ := hr' i hi off ho
  refine ⟨u, fun w' hw' => ?_, h2.toR⟩
  have hu' := (hw'.cell (p := ⟨g, o + (i * k + off), none⟩) hg).trans hu
  simp [execOp, hv, Instr.loadAt, Instr.sureAddr, loadVar, ht, hu']
theorem run_loadCellsFrom (w : World) (g o : Nat) : ∀ (m j : Nat) (acc : Array Value) (f : Nat → Value), (∀ t, t < m → w.cell? ⟨g, o + (j + t), none⟩ = some (f t)) →
    (loadCellsFrom ⟨g, o, none⟩ j m acc).run P w = .ok (acc ++ (Array.ofFn fun t : Fin m => f t.1)) w
  | 0, j, acc, f, h => by simp [loadCellsFrom]
  | m + 1, j, acc, f, h => by
    have h0 := h 0 (by omega)
    simp only [Nat.add_zero] at h0
    have ih := run_loadCellsFrom w g o m (j + 1) (acc.push (f 0)) (fun t => f (t + 1)) (fun t ht => by have := h (t + 1) (by omega); rw [← this]; congr 2; omega)
    simp only [loadCellsFrom, Sem.run_bind, run_load, Addr.add_lit, h0, Result.andThen_ok, ih]
    congr 1
    apply Array.ext_getElem?
    intro i
    simp only [Array.getElem?_append, Array.size_push, Array.getElem?_push, Array.getElem?_ofFn]
    by_cases h1 : i < acc.size
    · simp [h1, Nat.lt_succ_of_lt h1, Nat.ne_of_lt h1]
    · by_cases h2 : i = acc.size
      · subst h2; simp
      · have h3 : ¬ i < acc.size + 1 := by omega
        simp only [h1, if_false, h3]
        by_cases h4 : i - acc.size < m + 1
        · have h5 : i - (acc.size + 1) < m := by omega
          simp only [h4, h5, dif_pos]
          congr 2; omega
        · have h5 : ¬ i - (acc.size + 1) < m := by omega
          simp [h4, h5]
theorem q_ldA {x : Operand} {t : TypeId} {n k : Nat} {get : Nat → Nat → SV} {i off m : Nat} (hx : Val E S x (.el n k get i off))
    (ht : ∀ w, (isAgg t).run P w = .ok true w) (hs : ∀ w, (sizeOf t).run P w = .ok m w) (ho : off + m ≤ k) : OpQ P E S (.load t x) (.agg m fun j => get i (off + j)) := fun b a w hr dst ty pos after gd => by
  obtain ⟨hi, g, o, hv, hg, hX, hr'⟩ := hx b a w hr
  have hc : ∀ j, j < m → ∃ u, w.cell? ⟨g, o + (i * k + (off + j)), none⟩ = some u ∧ u.oneCell' = true ∧ RO w (S.excl E b) (get i (off + j)) u := fun j hj => hr' i hi (off + j) (by omega)
  let f : Nat → Value := fun j => (w.cell? ⟨g, o + (i * k + (off + j)), none⟩).getD undef
  have hf : ∀ j, j < m → w.cell? ⟨g, o + (i * k + off) + (0 + j), none⟩ = some (f j) := fun j hj => by
    obtain ⟨u, hu, _⟩ := hc j hj
    have e : o + (i * k + off) + (0 + j) = o + (i * k + (off + j)) := by omega
    rw [e]; simp only [f]; rw [hu]; rfl
  have hl := fun (w' : World) (hw' : Below w.heap.size w w') => run_loadCellsFrom (P := P) w' g (o + (i * k + off)) m 0 #[] f (fun j hj => (hw'.cell (p := ⟨g, o + (i * k + off) + (0 + j), none⟩) hg).trans (hf j hj))
  refine ⟨.agg (#[] ++ (Array.ofFn fun t : Fin m => f t.1)), fun w' hw' => ?_, _, rfl, by simp, fun j hj => ?_⟩
  · simp [execOp, hv, Instr.loadAt, Instr.sureAddr, loadVar, ht, hs, loadCells, hl w' hw']
  · obtain ⟨u, hu, h1, h2⟩ := hc j hj
    exact ⟨u, by simp [hj, f, hu], h1, h2.toR⟩
theorem q_fldB {x : Operand} {t : TypeId} {f : Nat} {j off : Nat} (fs : Array Field) (fd : Field) (hx : Val E S x (.bp j off))
    (ht : P.underlying t = some (.struct fs)) (hf : fs[f]? = some fd) (m : Nat) (hs : ∀ w, (sizeOf fd.type).run P w = .ok (m + 1) w) :
    OpQ P E S (.fieldAddr t x f) (.bp j (off + fd.offset)) := fun b a w hr dst ty pos after gd => by
  obtain ⟨g, hb, hv⟩ := hx b a w hr
  refine ⟨.pointer (some ⟨g, off + fd.offset, none⟩), fun w' hw' => ?_, g, hb, rfl⟩
  simp [execOp, hv, Instr.fieldAt, run_underlying ht, hf, Instr.sureAddr, fieldPlace, hs, Addr.add_lit]
theorem box_cell {b : Nat → Value} {a : Act} {w : World} (hr : RepB E b S a w) {j m : Nat} {get : Nat → SV} {ty : TypeId} (ho : lookO j S.owns = some (.box m get ty)) {g : Nat} (hb : b j = .pointer (some ⟨g, 0, none⟩))
    {t : Nat} (ht : t < m) : ∃ u, w.cell? ⟨g, t, none⟩ = some u ∧ u.oneCell' = true ∧ R w (S.excl E b) b (get t) u := by
  obtain ⟨g', cs, hb', _, hh, hm, hc⟩ := hr.owns j _ ho
  rw [hb] at hb'
  simp only [Value.pointer.injEq, Option.some.injEq, Addr.mk.injEq, and_true] at hb'
  subst hb'
  obtain ⟨u, hu, h1, h2⟩ := hc t ht
  exact ⟨u, by rw [cell_of_row w g t cs ty (0, 0) hh]; exact hu, h1, h2⟩
theorem q_ldB {x : Operand} {t : TypeId} {j off m : Nat} {get : Nat → SV} {ty : TypeId} (hx : Val E S x (.bp j off)) (ho : lookO j S.owns = some (.box m get ty))
    (ht : ∀ w, (isAgg t).run P w = .ok false w) (h : off < m) : OpQ P E S (.load t x) (get off) := fun b a w hr dst ty pos after gd => by
  obtain ⟨g, hb, hv⟩ := hx b a w hr
  obtain ⟨u, hu, h1, h2⟩ := box_cell hr ho hb h
  refine ⟨u, fun w' hw' => ?_, h2⟩
  have hu' := (hw'.cell (p := ⟨g, off, none⟩) (World.block_lt_of_cell? w _ hu)).trans hu
  simp [execOp, hv, Instr.loadAt, Instr.sureAddr, loadVar, ht, hu']
theorem q_ldBA {x : Operand} {t : TypeId} {j off m q : Nat} {get : Nat → SV} {ty : TypeId} (hx : Val E S x (.bp j off)) (ho : lookO j S.owns = some (.box q get ty))
    (ht : ∀ w, (isAgg t).run P w = .ok true w) (hs : ∀ w, (sizeOf t).run P w = .ok m w) (h : off + m ≤ q) : OpQ P E S (.load t x) (.agg m fun i => get (off + i)) := fun b a w hr dst ty pos after gd => by
  obtain ⟨g, hb, hv⟩ := hx b a w hr
  have hc : ∀ i, i < m → ∃ u, w.cell? ⟨g, off + i, none⟩ = some u ∧ u.oneCell' = true ∧ R w (S.excl E b) b (get (off + i)) u := fun i hi => box_cell hr ho hb (by omega)
  let f : Nat → Value := fun i => (w.cell? ⟨g, off + i, none⟩).getD undef
  have hf : ∀ i, i < m → w.cell? ⟨g, off + (0 + i), none⟩ = some (f i) := fun i hi => by
    obtain ⟨u, hu, _⟩ := hc i hi
    simp only [f, Nat.zero_add]; rw [hu]; rfl
  have hl := fun (w' : World) (hw' : Below w.heap.size w w') => run_loadCellsFrom (P := P) w' g off m 0 #[] f (fun i hi => (hw'.cell (p := ⟨g, off + (0 + i), none⟩) (World.block_lt_of_cell? w _ (hf i hi))).trans (hf i hi))
  refine ⟨.agg (#[] ++ (Array.ofFn fun t : Fin m => f t.1)), fun w' hw' => ?_, _, rfl, by simp, fun i hi => ?_⟩
  · simp [execOp, hv, Instr.loadAt, Instr.sureAddr, loadVar, ht, hs, loadCells, hl w' hw']
  · obtain ⟨u, hu, h1, h2⟩ := hc i hi
    exact ⟨u, by simp [hi, f, hu], h1, h2⟩
theorem q_ext {x : Operand} {i m : Nat} {get : Nat → SV} (hx : Val E S x (.tup m get)) (h : i < m) : OpQ P E S (.extract x i) (get i) := fun b a w hr dst ty pos after gd => by
  obtain ⟨cs, hv, hm, hc⟩ := hx b a w hr
  obtain ⟨u, hu, h2⟩ := hc i h
  refine ⟨u, fun w' hw' => ?_, h2⟩
  simp [execOp, hv, Instr.extract, hu]
end quiet
end Go.Eng
namespace Go.Eng
theorem andI {a b : Bool} (h : a = true) (k : b = true) : (a && b) = true := by rw [h, k]; rfl
theorem notT {a : Bool} (h : a = false) : (!a) = true := by rw [h]; rfl
def iv (n : Int) : SV := .v (.int .i64 n)
theorem ff {b : Bool} (h : b = false) : ¬ (b = true) := by rw [h]; decide
def bv (b : Bool) : SV := .v (.bool b)
def uc2 {α β γ : Type _} (f : α → β → γ) (p : α × β) : γ := f p.1 p.2
end Go.Eng
namespace Go.Eng
open Go.RowKit
variable {P : Program} {NN : Nat} {E : Env NN}
def ROs (w : World) (X : Nat → Prop) : List SV → List Value → Prop
  | [], [] => True
  | s :: ss, v :: vs => RO w X s v ∧ ROs w X ss vs
  | _, _ => False
def Ct (P : Program) (f : FuncId) (args : List SV) (r : SV) : Prop :=
  ∀ (w : World) (X : Nat → Prop) (vals : List Value), (∀ g, X g → g < w.heap.size) → ROs w X args vals →
    Calls P f vals.toArray w fun e w' => ∃ v, e = .returned v ∧ RO w' X r v ∧ Below w.heap.size w w'
def SV.isRO : SV → Bool
  | .v _ | .row .. | .el .. | .abs .. => true
  | .agg m get => allB (fun t => (get t).isRO) m
  | .tup m get => allB (fun t => (get t).isRO) m
  | .fn _ m get => allB (fun t => (get t).isRO) m
  | _ => false
theorem R.toRO {w : World} {X : Nat → Prop} {b : Nat → Value} {x : SV} {val : Value} (h : R w X b x val) (hx : x.isRO = true) : RO w X x val := by
  induction x generalizing val with
  | fn f m get ih =>
    obtain ⟨cs, rfl, hm, hr⟩ := h
    refine ⟨cs, rfl, hm, fun t ht => ?_⟩
    obtain ⟨u, hu, h2⟩ := hr t ht
    exact ⟨u, hu, ih t h2 (allB_iff hx t ht)⟩
  | v x => exact h
  | row n k get ih => exact h
  | el n k get i off ih => exact h
  | agg m get ih =>
    obtain ⟨cs, rfl, hm, hr⟩ := h
    refine ⟨cs, rfl, hm, fun t ht => ?_⟩
    obtain ⟨u, hu, h1, h2⟩ := hr t ht
    exact ⟨u, hu, h1, ih t h2 (allB_iff hx t ht)⟩
  | tup m get ih =>
    obtain ⟨cs, rfl, hm, hr⟩ := h
    refine ⟨cs, rfl, hm, fun t ht => ?_⟩
    obtain ⟨u, hu, h2⟩ := hr t ht
    exact ⟨u, hu, ih t h2 (allB_iff hx t ht)⟩
  | bp j off => simp [SV.isRO] at hx
  | own j => simp [SV.isRO] at hx
  | oe j k i off => simp [SV.isRO] at hx
  | sub j k lo m => simp [SV.isRO] at hx
  | grd c x ih => simp [SV.isRO] at hx
  | junk => simp [SV.isRO] at hx
  | abs p hp => exact h
def Vals {NN : Nat} (E : Env NN) (S : St) : List Operand → List SV → Prop
  | [], [] => True
  | x :: xs, s :: ss => (Val E S x s ∧ s.isRO = true) ∧ Vals E S xs ss
  | _, _ => False
theorem Vals.ros {S : St} {b : Nat → Value} {a : Act} {w : World} (hr : RepB E b S a w) : ∀ {xs : List Operand} {ss : List SV}, Vals E S xs ss → ROs w (S.excl E b) ss (xs.map a.eval)
  | [], [], _ => trivial
  | _ :: _, _ :: _, h => ⟨(h.1.1 b a w hr).toRO h.1.2, Vals.ros hr h.2⟩
  | [], _ :: _, h => h.elim
  | _ :: _, [], h => h.elim
def Enters (P : Program) (f : FuncId) : Prop := ∀ args w, (callFunc f args).run P w = .ok (.enter f args) w
theorem run_call {f : FuncId} (hf : Enters P f) (a : Act) (xs : List Operand) (ats : Array TypeId) (dst : Option Tmp) (ty : TypeId) (pos : String) (after : Array Edge) (gd : Option (Nat × Bool)) (w : World) :
    (execOp a.eval { dst, op := .call { callee := .value (.func f), args := xs.toArray, argTypes := ats }, type := ty, pos, after, guard := gd }).run P w = .ok (.enter f (xs.map a.eval).toArray) w := by
  rw [execOp_call_go]
  rw [hf]
  simp
def ClB (w w' : World) : Prop := Below w.heap.size w w'
def TQ (P : Program) {NN : Nat} (E : Env NN) (ops : Array Oper) (rest : List Oper) (S : St) (K : St → Prop) : Prop :=
  ∀ b a w, RepB E b S a w → wpQuiet P ops (ClB w) (fun a' => ∃ S', K S' ∧ RepB E b S' a' w) rest a
theorem tq_nil {ops : Array Oper} {S : St} {K : St → Prop} (h : K S) : TQ P E ops [] S K := fun _ _ _ hr => ⟨S, h, hr⟩
def nextQ (S : St) (d : Nat) (x : SV) : St := ⟨(d, x) :: S.slots, S.owns⟩
theorem quiet_of {S : St} {op : Op} {x : SV} (h : OpQ P E S op x) {b : Nat → Value} {a : Act} {w : World} (hr : RepB E b S a w) {dst : Option Tmp} {ty : TypeId} {pos : String} {after : Array Edge} {gd : Option (Nat × Bool)} :
    ∃ v, (∀ w', ClB w w' → Oper.quietAt P { dst, op, type := ty, pos, after, guard := gd } a (ClB w) w' v) ∧ R w (S.excl E b) b x v := by
  obtain ⟨v, h1, h2⟩ := h b a w hr dst ty pos after gd
  refine ⟨v, fun w' hw' => ?_, h2⟩
  unfold Oper.quietAt
  rw [h1 w' hw']
  exact ⟨rfl, rfl⟩
theorem tq_op {ops : Array Oper} {rest : List Oper} {S : St} {K : St → Prop} {d : Tmp} {op : Op} {ty : TypeId} {pos : String} {after : Array Edge} {x : SV} (h : OpQ P E S op x) (hk : TQ P E ops rest (nextQ S d x) K) (hd : d < NN := by decide) :
    TQ P E ops ({ dst := some d, op, type := ty, pos, after, guard := none } :: rest) S K := fun b a w hr => by
  obtain ⟨v, h1, h2⟩ := quiet_of h hr (dst := some d) (ty := ty) (pos := pos) (after := after) (gd := none)
  unfold wpQuiet
  rw [if_pos (by rfl)]
  exact ⟨v, h1, hk b _ w (hr.put hd h2)⟩
theorem tq_call {ops : Array Oper} {rest : List Oper} {S : St} {K : St → Prop} {d : Tmp} {f : FuncId} {xs : List Operand} {ats : Array TypeId} {ty : TypeId} {pos : String} {after : Array Edge} {args : List SV} {x : Value}
    (hf : Enters P f) (ha : Vals E S xs args) (h : Ct P f args (.v x)) (hk : TQ P E ops rest (nextQ S d (.v x)) K) (hd : d < NN := by decide) :
    TQ P E ops ({ dst := some d, op := .call { callee := .value (.func f), args := xs.toArray, argTypes := ats }, type := ty, pos, after, guard := none } :: rest) S K := fun b a w hr => by
  unfold wpQuiet
  rw [if_pos (by rfl)]
  refine ⟨x, fun w' hw' => ?_, hk b _ w (hr.put hd rfl)⟩
  unfold Oper.quietAt
  rw [run_call hf]
  refine ⟨rfl, (h w' (S.excl E b) _ (fun g hg => Nat.lt_of_lt_of_le (hr.excl_lt hg) hw'.size) ((hr.world hw' : RepB E b S a w') |> ha.ros)).mono ?_⟩
  rintro e w'' ⟨v, rfl, hv, hb⟩
  have : v = x := hv
  subst this
  exact ⟨rfl, hw'.trans (hb.mono hw'.size)⟩
theorem wanted_guard {ops : Array Oper} {i g : Nat} {want t : Bool} {o : Oper} (ho : o.guard = some (i, want)) (hg : (ops[i]?).bind (·.dst) = some g) {tm : Array Value} (hs : tm.getD g undef = .bool t) :
    Region.wanted o (yielded ops tm) = (t == want) := by
  have h1 : tm[g]? = some (.bool t) := by
    rw [Array.getD_eq_getD_getElem?] at hs
    cases h : tm[g]? with
    | none => rw [h] at hs; simp [undef] at hs
    | some u => rw [h] at hs; simp at hs; rw [hs]
  simp only [Region.wanted, ho, yielded, hg, Option.bind_some, h1]
  cases t <;> cases want <;> rfl
theorem wanted_undef {ops : Array Oper} {i g : Nat} {want : Bool} {o : Oper} (ho : o.guard = some (i, want)) (hg : (ops[i]?).bind (·.dst) = some g) {tm : Array Value} (hs : tm.getD g undef = undef) :
    Region.wanted o (yielded ops tm) = false := by
  simp only [Region.wanted, ho, yielded, hg, Option.bind_some]
  rw [Array.getD_eq_getD_getElem?] at hs
  cases h : tm[g]? with
  | none => rfl
  | some u =>
    rw [h] at hs
    have : u = undef := by simpa using hs
    subst this; rfl
def Guard {NN : Nat} (E : Env NN) (S : St) (ops : Array Oper) (gd : Nat × Bool) (c : Bool) : Prop :=
  ∀ b a w, RepB E b S a w → ∀ o : Oper, o.guard = some gd → Region.wanted o (yielded ops a.tmps) = c
theorem g_yes {S : St} {ops : Array Oper} {i g : Nat} {t : Bool} (hg : (ops[i]?).bind (·.dst) = some g) (h : look g S.slots = some (.v (.bool t))) : Guard E S ops (i, true) t := fun b a w hr o ho => by
  rw [wanted_guard ho hg (t := t) (hr.slots g _ h)]; cases t <;> rfl
theorem g_no {S : St} {ops : Array Oper} {i g : Nat} {t : Bool} (hg : (ops[i]?).bind (·.dst) = some g) (h : look g S.slots = some (.v (.bool t))) : Guard E S ops (i, false) (!t) := fun b a w hr o ho => by
  rw [wanted_guard ho hg (t := t) (hr.slots g _ h)]; cases t <;> rfl
theorem g_gyes {S : St} {ops : Array Oper} {i g : Nat} {c t : Bool} (hg : (ops[i]?).bind (·.dst) = some g) (h : look g S.slots = some (.grd c (.v (.bool t)))) : Guard E S ops (i, true) (c && t) := fun b a w hr o ho => by
  have h1 := hr.slots g _ h
  cases c with
  | false => exact wanted_undef ho hg (h1.2 rfl)
  | true => rw [wanted_guard ho hg (t := t) (h1.1 rfl)]; cases t <;> rfl
theorem g_gno {S : St} {ops : Array Oper} {i g : Nat} {c t : Bool} (hg : (ops[i]?).bind (·.dst) = some g) (h : look g S.slots = some (.grd c (.v (.bool t)))) : Guard E S ops (i, false) (c && !t) := fun b a w hr o ho => by
  have h1 := hr.slots g _ h
  cases c with
  | false => exact wanted_undef ho hg (h1.2 rfl)
  | true => rw [wanted_guard ho hg (t := t) (h1.1 rfl)]; cases t <;> rfl
theorem tq_opG {ops : Array Oper} {rest : List Oper} {S : St} {K : St → Prop} {d : Tmp} {op : Op} {ty : TypeId} {pos : String} {after : Array Edge} {x : SV} {gd : Nat × Bool} {c : Bool} (hg : Guard E S ops gd c) 
    (h : c = true → OpQ P E S op x) (hk : TQ P E ops rest (nextQ S d (.grd c x)) K) (hd : d < NN := by decide) :
    TQ P E ops ({ dst := some d, op, type := ty, pos, after, guard := some gd } :: rest) S K := fun b a w hr => by
  unfold wpQuiet
  rw [hg b a w hr _ rfl]
  cases c with
  | false => exact hk b _ w (hr.put hd ⟨(fun h => by cases h), fun _ => rfl⟩)
  | true =>
    obtain ⟨v, h1, h2⟩ := quiet_of (h rfl) hr (dst := some d) (ty := ty) (pos := pos) (after := after) (gd := some gd)
    exact ⟨v, h1, hk b _ w (hr.put hd ⟨fun _ => h2, fun h => by cases h⟩)⟩
theorem tq_callG {ops : Array Oper} {rest : List Oper} {S : St} {K : St → Prop} {d : Tmp} {f : FuncId} {xs : List Operand} {ats : Array TypeId} {ty : TypeId} {pos : String} {after : Array Edge} {args : List SV} {x : Value} {gd : Nat × Bool} {c : Bool}
    (hg : Guard E S ops gd c) (hf : Enters P f) (ha : c = true → Vals E S xs args) (h : c = true → Ct P f args (.v x)) (hk : TQ P E ops rest (nextQ S d (.grd c (.v x))) K) (hd : d < NN := by decide) :
    TQ P E ops ({ dst := some d, op := .call { callee := .value (.func f), args := xs.toArray, argTypes := ats }, type := ty, pos, after, guard := some gd } :: rest) S K := fun b a w hr => by
  unfold wpQuiet
  rw [hg b a w hr _ rfl]
  cases c with
  | false => exact hk b _ w (hr.put hd ⟨(fun h => by cases h), fun _ => rfl⟩)
  | true =>
    refine ⟨x, fun w' hw' => ?_, hk b _ w (hr.put hd ⟨fun _ => rfl, fun h => by cases h⟩)⟩
    unfold Oper.quietAt
    rw [run_call hf]
    refine ⟨rfl, (h rfl w' (S.excl E b) _ (fun g hg => Nat.lt_of_lt_of_le (hr.excl_lt hg) hw'.size) ((hr.world hw' : RepB E b S a w') |> (ha rfl).ros)).mono ?_⟩
    rintro e w'' ⟨v, rfl, hv, hb⟩
    have : v = x := hv
    subst this
    exact ⟨rfl, hw'.trans (hb.mono hw'.size)⟩
def C (P : Program) {NN : Nat} (E : Env NN) (c : Code) (S : St) (Q : Exit → Act → World → Prop) : Prop := ∀ a w, Rep E S a w → c.wp P Q a w
theorem wpList_of_quiet {ops : Array Oper} {Cl : World → Prop} {K : Act → Prop} {Q : Exit → Act → World → Prop} : ∀ {l : List Oper} {a : Act} {w : World}, Cl w → wpQuiet P ops Cl K l a → (∀ a' w', Cl w' → K a' → Q .normal a' w') → wpList P ops Q l a w
  | [], a, w, hw, h, hq => hq a w hw h
  | o :: rest, a, w, hw, h, hq => by
    unfold wpQuiet at h
    unfold wpList
    split
    · rename_i hwt
      rw [if_pos hwt] at h
      exact .inl (Oper.wp_of_quiet (K := wpQuiet P ops Cl K rest) hw (fun a w' hw' h' => wpList_of_quiet hw' h' hq) h)
    · rename_i hwt
      rw [if_neg hwt] at h
      exact wpList_of_quiet hw h hq
theorem c_rq {id : Nat} {l : List Oper} {S : St} {Q : Exit → Act → World → Prop} (h : TQ P E l.toArray l S fun S' => ∀ a w, Rep E S' a w → Q .normal a w) : C P E (.region id l.toArray false) S Q := by
  rintro a w ⟨b, hr⟩
  refine wp_region_lit (wpList_of_quiet (Cl := ClB w) (Below.refl _ _) (h b a w hr) ?_)
  rintro a' w' hw' ⟨S', hk, hr'⟩
  exact hk _ _ ⟨b, hr'.world hw'⟩
theorem c_rqd {id : Nat} {l : List Oper} {S : St} {Q : Exit → Act → World → Prop} (hm : P.follows .mixedOrders = true) (hB : Region.lexB .any l.toArray = true)
    (h : TQ P E l.toArray l S fun S' => ∀ a w, Rep E S' a w → Q .normal a w) : C P E (.region id l.toArray true) S Q := by
  rintro a w ⟨b, hr⟩
  refine wp_region_quiet (C := ClB w) hm hB (below_drew w) ?_
  have h1 := h b a w hr
  have hmono : ∀ (l' : List Oper) (a : Act), wpQuiet P l.toArray (ClB w) (fun a' => ∃ S', (∀ a w, Rep E S' a w → Q .normal a w) ∧ RepB E b S' a' w) l' a → wpQuiet P l.toArray (ClB w) (fun a' => ∀ w', ClB w w' → Q .normal a' w') l' a := by
    intro l'
    induction l' with
    | nil =>
      rintro a ⟨S', hk, hr'⟩ w' hw'
      exact hk _ _ ⟨b, hr'.world hw'⟩
    | cons o l' ih =>
      intro a h
      unfold wpQuiet at h ⊢
      split
      · rename_i hwt
        rw [if_pos hwt] at h
        exact Oper.quiet_mono (fun a => ih a) h
      · rename_i hwt
        rw [if_neg hwt] at h
        exact ih _ h
  exact hmono _ _ h1
theorem c_seq {x y : Code} {S : St} {Q : Exit → Act → World → Prop} (h : C P E x S (Exit.then (fun a w => y.wp P Q a w) Q)) : C P E (.seq x y) S Q := fun a w hr => wp_seq (h a w hr)
theorem c_cond {c : Operand} {x y : Code} {S : St} {Q : Exit → Act → World → Prop} {t : Bool} (hc : Val E S c (.v (.bool t))) (hx : t = true → C P E x S Q) (hy : t = false → C P E y S Q) : C P E (.cond c x y) S Q := by
  rintro a w ⟨b, hr⟩
  exact wp_cond_split (hc b a w hr) (fun h => hx h a w ⟨b, hr⟩) (fun h => hy h a w ⟨b, hr⟩)
theorem c_skip {S : St} {Q : Exit → Act → World → Prop} (h : ∀ a w, Rep E S a w → Q .normal a w) : C P E .skip S Q := fun a w hr => wp_skip (h a w hr)
theorem c_ret {S : St} {Q : Exit → Act → World → Prop} (h : ∀ a w, Rep E S a w → Q .ret a w) : C P E .ret S Q := fun a w hr => wp_ret (h a w hr)
theorem c_exit {S : St} {id : Nat} {Q : Exit → Act → World → Prop} (h : ∀ a w, Rep E S a w → Q (.exit id) a w) : C P E (.exit id) S Q := fun a w hr => wp_exit (h a w hr)
theorem c_block {S : St} {id : Nat} {c : Code} {Q : Exit → Act → World → Prop} (h : C P E c S (Exit.inBlock id Q)) : C P E (.block id c) S Q := fun a w hr => wp_block (h a w hr)
def Weak {NN : Nat} (E : Env NN) (S S' : St) : Prop := ∀ b a w, RepB E b S a w → RepB E b S' a w
theorem Weak.c {c : Code} {S S' : St} {Q : Exit → Act → World → Prop} (h : Weak E S S') (hc : C P E c S' Q) : C P E c S Q := fun a w ⟨b, hr⟩ => hc a w ⟨b, h b a w hr⟩
theorem c_loop {body : Code} {S : St} {Q : Exit → Act → World → Prop} {ι : Type} (T : ι → St) (I : ι → Prop) (μ : ι → Nat) (i0 : ι) (h0 : I i0) (hw : Weak E S (T i0))
    (round : ∀ i, I i → C P E body (T i) (Exit.then (fun a w => ∃ i', (I i' ∧ μ i' < μ i) ∧ Rep E (T i') a w) Q)) : C P E (.loop body) S Q := by
  rintro a w ⟨b0, hr0⟩ b k cs
  have key : ∀ n i a w, μ i = n → I i → Rep E (T i) a w →
      ∃ e a' w', Q e a' w' ∧ Arrives P (lone (b.at a (.code body :: .inLoop body :: k)) cs w) b k cs e a' w' := by
    intro n
    induction n using Nat.strongRecOn with
    | _ n ih =>
      intro i a w hn hI hr
      obtain ⟨e, a₁, w₁, hq, harr⟩ := round i hI a w hr b (.inLoop body :: k) cs
      cases e with
      | normal =>
        obtain ⟨i', ⟨hI', hlt⟩, hr'⟩ := hq
        obtain ⟨e₂, a₂, w₂, hq₂, harr₂⟩ := ih (μ i') (hn ▸ hlt) i' a₁ w₁ rfl hI' hr'
        exact ⟨e₂, a₂, w₂, hq₂, .of_steps (Steps.trans harr (.one step_inLoop)) harr₂⟩
      | exit id => exact ⟨_, a₁, w₁, hq, .pass (x := .inLoop body) rfl (fun _ _ => .inl (by simp)) harr⟩
      | goto l => exact ⟨_, a₁, w₁, hq, .pass (x := .inLoop body) rfl (fun _ _ => .inl (by simp)) harr⟩
      | ret => exact ⟨_, a₁, w₁, hq, .pass (x := .inLoop body) rfl (fun _ _ => .inl (by simp)) harr⟩
      | panic ch => exact ⟨_, a₁, w₁, hq, .pass (x := .inLoop body) rfl (fun _ _ => .inl (by simp)) harr⟩
      | outgrown => exact ⟨_, a₁, w₁, hq, .pass (x := .inLoop body) rfl (fun _ _ => .inl (by simp)) harr⟩
  obtain ⟨e, a', w', hq, harr⟩ := key _ i0 a w rfl h0 ⟨b0, hw b0 a w hr0⟩
  exact ⟨e, a', w', hq, .of_steps (.one step_loop) harr⟩
def AllV {NN : Nat} (E : Env NN) (S : St) : List (Nat × SV) → Prop
  | [] => True
  | p :: r => Val E S (.tmp p.1) p.2 ∧ AllV E S r
theorem AllV.look {S : St} : ∀ {l : List (Nat × SV)}, AllV E S l → ∀ s x, look s l = some x → Val E S (.tmp s) x
  | [], _, s, x, h => by simp [Eng.look] at h
  | (d, y) :: r, hv, s, x, h => by
    rw [look_cons] at h
    split at h
    · rename_i e
      injection h with h
      subst h; subst e
      exact hv.1
    · exact AllV.look hv.2 s x h
def AllO (S : St) : List (Nat × Own) → Prop
  | [] => True
  | p :: r => lookO p.1 S.owns = some p.2 ∧ AllO S r
theorem AllO.look {S : St} : ∀ {l : List (Nat × Own)}, AllO S l → ∀ s x, lookO s l = some x → lookO s S.owns = some x
  | [], _, s, x, h => by simp [Eng.lookO] at h
  | (d, y) :: r, hv, s, x, h => by
    rw [lookO_cons] at h
    split at h
    · rename_i e
      injection h with h
      subst h; subst e
      exact hv.1
    · exact AllO.look hv.2 s x h
theorem OwnOk.mono {w : World} {X X' : Nat → Prop} {base : Nat} {b : Nat → Value} {j : Nat} {o : Own} (hX : ∀ g, X' g → X g) (h : OwnOk w X base b j o) : OwnOk w X' base b j o := by
  have he : Ext X w w := ⟨Nat.le_refl _, fun _ _ _ => rfl⟩
  exact h.keep0 (p := fun _ => True) rfl (Own.all_true fun _ => trivial) (fun _ _ _ => rfl) (fun x v _ hr => hr.mono he (fun g _ hh => hX g hh)) (fun x v hr => hr.mono he (fun g _ hh => hX g hh))
theorem weak {S : St} {sl : List (Nat × SV)} {ow : List (Nat × Own)} (hs : AllV E S sl) (ho : AllO S ow) : Weak E S ⟨sl, ow⟩ := fun b a w hr => by
  have hX : ∀ g, St.excl ⟨sl, ow⟩ E b g → S.excl E b g := by
    rintro g (h | ⟨j, o, h1, h2⟩)
    · exact .inl h
    · exact .inr ⟨j, o, ho.look _ _ h1, h2⟩
  exact {
    size := hr.size
    defers := hr.defers
    below := hr.below
    slots := fun s x hx => (hs.look s x hx b a w hr).mono ⟨Nat.le_refl _, fun _ _ _ => rfl⟩ (fun g _ hh => hX g hh)
    owns := fun j o h => (hr.owns j o (ho.look _ _ h)).mono hX
    mine := fun j o h => hr.mine j o (ho.look _ _ h)
    apart := fun i j oi oj h1 h2 => hr.apart i j oi oj (ho.look _ _ h1) (ho.look _ _ h2)
    old := hr.old }
def PostR {NN : Nat} (E : Env NN) (r : SV) : Ending → World → Prop := fun e w' => ∃ v, e = .returned v ∧ RO w' E.X r v ∧ KeptBut E.Y E.w0 w'
def argSlots : Nat → List SV → List (Nat × SV)
  | _, [] => []
  | s, x :: xs => (s, x) :: argSlots (s + 1) xs
theorem rep_args {w : World} {X : Nat → Prop} : ∀ {args : List SV} {vals : List Value} {s : Nat} {pre : List Value} {t : List Value}, ROs w X args vals → pre.length = s →
    ∀ q x, look q (argSlots s args) = some x → RO w X x ((pre ++ vals ++ t).toArray.getD q undef)
  | [], [], s, pre, t, _, _, q, x, h => by simp [argSlots, look] at h
  | y :: ys, v :: vs, s, pre, t, hr, hp, q, x, h => by
    simp only [argSlots] at h
    rw [look_cons] at h
    split at h
    · rename_i e
      injection h with h
      subst h; subst e; subst hp
      have : (pre ++ v :: vs ++ t).toArray.getD pre.length undef = v := by simp [Array.getD_eq_getD_getElem?, List.append_assoc]
      rw [this]; exact hr.1
    · have := rep_args (t := t) (pre := pre ++ [v]) (s := s + 1) hr.2 (by simp [hp]) q x h
      simpa [List.append_assoc] using this
  | [], _ :: _, s, pre, t, h, _, _, _, _ => h.elim
  | _ :: _, [], s, pre, t, h, _, _, _, _ => h.elim
theorem ros_len {w : World} {X : Nat → Prop} : ∀ {args : List SV} {vals : List Value}, ROs w X args vals → vals.length = args.length
  | [], [], _ => rfl
  | _ :: ys, _ :: vs, h => by simp [ros_len (args := ys) (vals := vs) h.2]
  | [], _ :: _, h => h.elim
  | _ :: _, [], h => h.elim
def env0 (w : World) (X : Nat → Prop) (hX : ∀ g, X g → g < w.heap.size) (N : Nat) : Env N :=
  ⟨w, X, fun _ => False, w.heap.size, fun _ => undef, hX, fun _ _ h => h, fun _ h => h.elim, Nat.le_refl _⟩
theorem below_of_kept {w w' : World} (h : KeptBut (fun _ => False) w w') : Below w.heap.size w w' := ⟨h.os, h.tape, h.output, h.size, fun g hg => h.block g hg (fun h => h)⟩
theorem rep_start {w : World} {X : Nat → Prop} {hX : ∀ g, X g → g < w.heap.size} {N : Nat} {args : List SV} {vals : List Value} (hn : args.length ≤ N) (_ : ∀ g, X g → g < w.heap.size) (hr : ROs w X args vals) :
    RepB (env0 w X hX N) (fun _ => undef) ⟨argSlots 0 args, []⟩ { tmps := vals.toArray ++ Array.replicate (N - vals.toArray.size) undef, defers := [] } w := by
  have hl := ros_len hr
  exact {
    size := by simp [env0]; omega
    defers := rfl
    below := KeptBut.refl _ _
    slots := fun s x hx => by
      have h1 := rep_args (pre := []) (t := List.replicate (N - vals.length) undef) hr rfl s x hx
      have e : (vals.toArray ++ Array.replicate (N - vals.toArray.size) undef) = ([] ++ vals ++ List.replicate (N - vals.length) undef).toArray := by simp
      have h2 : RO w (St.excl ⟨argSlots 0 args, []⟩ (env0 w X hX N) fun _ => undef) x ((vals.toArray ++ Array.replicate (N - vals.toArray.size) undef).getD s undef) := by
        rw [e]
        refine h1.mono ⟨Nat.le_refl _, fun _ _ _ => rfl⟩ ?_
        rintro g _ (hh | ⟨j, o, hh, _⟩)
        · exact hh
        · simp [lookO] at hh
      exact h2.toR
    owns := fun j o h => by simp [lookO] at h
    mine := fun j o h => by simp [lookO] at h
    apart := fun i j oi oj h => by simp [lookO] at h
    old := fun _ _ => rfl }
theorem ct_of {f : FuncId} {fn : Func} {c : Code} {args : List SV} {r : SV} (N : Nat) (hf : P.funcs[f]? = some fn) (hb : fn.body = some c) (hN : fn.ntmps = N) (hn : Nat.ble args.length N = true)
    (h : ∀ E : Env N, C P E c ⟨argSlots 0 args, []⟩ (bodyPost P fn (PostR E r))) : Ct P f args r := by
  subst hN
  intro w X vals hX hr
  have hC : Calls P f vals.toArray w (PostR (env0 w X hX fn.ntmps) r) := by
    refine calls_of_wp hf hb ?_
    exact h (env0 w X hX fn.ntmps) _ _ ⟨fun _ => undef, rep_start (Nat.le_of_ble_eq_true hn) hX hr⟩
  exact hC.mono fun e w' ⟨v, he, hv, hk⟩ => ⟨v, he, hv, below_of_kept hk⟩
theorem post_ret {fn : Func} {r : SV} {b : Nat → Value} {S : St} {a : Act} {w : World} (hr : RepB E b S a w) {v : Value} (hv : (results fn a.tmps).run P w = .ok v w) (hx : RO w (S.excl E b) r v) :
    bodyPost P fn (PostR E r) .ret a w :=
  ⟨hr.defers, v, hv, v, rfl, hx.mono ⟨Nat.le_refl _, fun _ _ _ => rfl⟩ (fun _ _ hh => .inl hh), hr.below⟩
theorem ret1 {fn : Func} {t : Tmp} {S : St} {x r : SV} (hres : fn.results = #[.tmp t]) (h : Val E S (.tmp t) x) (hro : x.isRO = true) (e : x = r) :
    ∀ a w, Rep E S a w → bodyPost P fn (PostR E r) .ret a w := by
  rintro a w ⟨b, hr⟩
  subst e
  exact post_ret hr (results_tmp hres _ _ _) ((h b a w hr).toRO hro)
def sv2 (x y : SV) : SV := .tup 2 fun i => match i with | 0 => x | _ => y
def sv3 (x y z : SV) : SV := .tup 3 fun i => match i with | 0 => x | 1 => y | _ => z
theorem ret2 {fn : Func} {t u : Tmp} {S : St} {x y r : SV} (hres : fn.results = #[.tmp t, .tmp u]) (hx : Val E S (.tmp t) x) (hy : Val E S (.tmp u) y) (h1 : x.isRO = true) (h2 : y.isRO = true) (e : sv2 x y = r) :
    ∀ a w, Rep E S a w → bodyPost P fn (PostR E r) .ret a w := by
  rintro a w ⟨b, hr⟩
  subst e
  refine post_ret hr (results_tmp2 hres _ _ _) ⟨_, rfl, rfl, fun i hi => ?_⟩
  match i, hi with
  | 0, _ => exact ⟨_, rfl, (hx b a w hr).toRO h1⟩
  | 1, _ => exact ⟨_, rfl, (hy b a w hr).toRO h2⟩
end Go.Eng
namespace Go.Eng
open Go.RowKit
variable {P : Program} {NN : Nat} {E : Env NN}
theorem RepB.add {b : Nat → Value} {S : St} {a : Act} {w w' : World} (h : RepB E b S a w) (hw : Below w.heap.size w w') {j : Nat} (hf : S.fresh j = true) {o : Own} {y : Value} (hy : ∀ g, Bk y g → w.heap.size ≤ g)
    (ho : ∀ X' : Nat → Prop, (∀ g, X' g → S.excl E b g ∨ Bk y g) → (∀ x v, x.noId j = true → R w (S.excl E b) b x v → R w' X' (setB b j y) x v) → (∀ x v, RO w (S.excl E b) x v → RO w' X' x v) → OwnOk w' X' E.base (setB b j y) j o) :
    RepB E (setB b j y) ⟨S.slots, (j, o) :: S.owns⟩ a w' := by
  obtain ⟨hf1, hf2, hf3⟩ := St.fresh_parts hf
  have h' := h.world hw
  have hX : ∀ g, St.excl ⟨S.slots, (j, o) :: S.owns⟩ E (setB b j y) g → S.excl E b g ∨ Bk y g := by
    rintro g (hh | ⟨i, o', h1, h2⟩)
    · exact .inl (.inl hh)
    · rw [lookO_cons] at h1
      split at h1
      · rename_i e; subst e; rw [setB_same] at h2; exact .inr h2
      · rename_i e; rw [setB_other _ _ _ e] at h2; exact .inl (.inr ⟨i, o', h1, h2⟩)
  have hX2 : ∀ g, g < w.heap.size → St.excl ⟨S.slots, (j, o) :: S.owns⟩ E (setB b j y) g → S.excl E b g := fun g hg hh => by
    rcases hX g hh with h1 | h1
    · exact h1
    · have := hy g h1; omega
  have hR : ∀ x v, x.noId j = true → R w (S.excl E b) b x v → R w' (St.excl ⟨S.slots, (j, o) :: S.owns⟩ E (setB b j y)) (setB b j y) x v :=
    fun x v hx hr => R_setB hx (hr.mono (.of_below hw) hX2)
  have hRO : ∀ x v, RO w (S.excl E b) x v → RO w' (St.excl ⟨S.slots, (j, o) :: S.owns⟩ E (setB b j y)) x v := fun x v hr => hr.mono (.of_below hw) hX2
  exact {
    size := h.size
    defers := h.defers
    below := h'.below
    slots := fun s x hx => hR _ _ (look_fresh hf1 s x hx) (h.slots s x hx)
    owns := fun i o' hi => by
      rw [lookO_cons] at hi
      split at hi
      · rename_i e
        injection hi with hi
        subst hi; subst e
        exact ho _ hX hR hRO
      · rename_i e
        have hij := lookO_fresh hf2 i o' hi
        exact (h.owns i o' hi).keep0 (p := fun x => x.noId j = true) (setB_other _ _ _ e) (Own.noId_all hij.2) (fun g hg _ => hw.block g hg) hR hRO
    mine := fun i o' hi g hg => by
      rw [lookO_cons] at hi
      split at hi
      · rename_i e
        subst e
        rw [setB_same] at hg
        exact .inl (Nat.le_trans h.below.size (hy g hg))
      · rename_i e
        rw [setB_other _ _ _ e] at hg
        exact h.mine i o' hi g hg
    apart := fun p q op oq hp hq hne g hg => by
      rw [lookO_cons] at hp hq
      split at hp
      · rename_i e1
        subst e1
        rw [setB_same] at hg
        split at hq
        · rename_i e2; exact absurd e2.symm hne
        · rename_i e2
          rw [setB_other _ _ _ e2]
          intro hh
          have := h.own_lt hq hh
          have := hy g hg
          omega
      · rename_i e1
        rw [setB_other _ _ _ e1] at hg
        split at hq
        · rename_i e2
          subst e2
          rw [setB_same]
          intro hh
          have := h.own_lt hp hg
          have := hy g hh
          omega
        · rename_i e2
          rw [setB_other _ _ _ e2]
          exact h.apart p q op oq hp hq hne g hg
    old := fun i hi => by rw [setB_other _ _ _ (by omega)]; exact h.old i hi }
theorem RepB.set {b : Nat → Value} {S : St} {a : Act} {w w' : World} (h : RepB E b S a w) {j : Nat} {o o' : Own} (ho : lookO j S.owns = some o)
    (hw1 : w'.os = w.os ∧ w'.tape = w.tape ∧ w'.output = w.output ∧ w.heap.size ≤ w'.heap.size) (hw2 : ∀ k, k < w.heap.size → ¬ Bk (b j) k → w'.heap[k]? = w.heap[k]?)
    (hnew : ∀ X : Nat → Prop, (∀ g, X g → S.excl E b g) → (∀ {x : SV} {val : Value}, R w (S.excl E b) b x val → R w' X b x val) → (∀ {x : SV} {val : Value}, RO w (S.excl E b) x val → RO w' X x val) → OwnOk w' X E.base b j o') :
    RepB E b ⟨S.slots, (j, o') :: S.owns⟩ a w' := by
  have hjX : ∀ g, Bk (b j) g → S.excl E b g := fun g hg => .inr ⟨j, _, ho, hg⟩
  have hext : Ext (S.excl E b) w w' := ⟨hw1.2.2.2, fun k hk hX => hw2 k hk (fun e => hX (hjX k e))⟩
  have hlook : ∀ i o1, lookO i ((j, o') :: S.owns) = some o1 → ∃ o2, lookO i S.owns = some o2 := fun i o1 h1 => by
    rw [lookO_cons] at h1
    split at h1
    · rename_i e; subst e; exact ⟨_, ho⟩
    · exact ⟨_, h1⟩
  have hX : ∀ k, St.excl ⟨S.slots, (j, o') :: S.owns⟩ E b k → S.excl E b k := by
    rintro k (hh | ⟨i, o1, h1, h2⟩)
    · exact .inl hh
    · obtain ⟨o2, h3⟩ := hlook i o1 h1
      exact .inr ⟨i, o2, h3, h2⟩
  have hmono : ∀ {x : SV} {val : Value}, R w (S.excl E b) b x val → R w' (St.excl ⟨S.slots, (j, o') :: S.owns⟩ E b) b x val := fun hr => hr.mono hext (fun k _ hh => hX k hh)
  have hmonoO : ∀ {x : SV} {val : Value}, RO w (S.excl E b) x val → RO w' (St.excl ⟨S.slots, (j, o') :: S.owns⟩ E b) x val := fun hr => hr.mono hext (fun k _ hh => hX k hh)
  exact {
    size := h.size
    defers := h.defers
    below := ⟨hw1.1.trans h.below.os, hw1.2.1.trans h.below.tape, hw1.2.2.1.trans h.below.output, Nat.le_trans h.below.size hw1.2.2.2, fun k hk hY => by
      refine (hw2 k (by have := h.below.size; omega) fun e => ?_).trans (h.below.block k hk hY)
      rcases h.mine j o ho k e with h1 | h1
      · omega
      · exact hY h1⟩
    slots := fun s x hx => hmono (h.slots s x hx)
    owns := fun i o1 hi => by
      rw [lookO_cons] at hi
      split at hi
      · rename_i e
        injection hi with hi
        subst hi; subst e
        exact hnew _ hX hmono hmonoO
      · rename_i e
        have hgi : ∀ g, Bk (b i) g → ¬ Bk (b j) g := fun g hg => h.apart i j _ _ hi ho e g hg
        exact (h.owns i o1 hi).keep0 (p := fun _ => True) rfl (Own.all_true fun _ => trivial) (fun g hg hb => hw2 g hg (hgi g hb)) (fun x v _ hr => hmono hr) (fun x v hr => hmonoO hr)
    mine := fun i o1 hi g hg => by
      obtain ⟨o2, h3⟩ := hlook i o1 hi
      exact h.mine i o2 h3 g hg
    apart := fun p q op oq hp hq hne k hk => by
      obtain ⟨o1, h1⟩ := hlook p op hp
      obtain ⟨o2, h2⟩ := hlook q oq hq
      exact h.apart p q o1 o2 h1 h2 hne k hk
    old := h.old }
theorem RepB.setown {b : Nat → Value} {S : St} {a : Act} {w w' : World} (h : RepB E b S a w) {j : Nat} {o o' : Own} {g : Nat} (ho : lookO j S.owns = some o) (hbj : Bk (b j) g)
    (hw1 : w'.os = w.os ∧ w'.tape = w.tape ∧ w'.output = w.output ∧ w'.heap.size = w.heap.size) (hw2 : ∀ k, k ≠ g → w'.heap[k]? = w.heap[k]?)
    (hnew : ∀ X : Nat → Prop, (∀ {x : SV} {val : Value}, R w (S.excl E b) b x val → R w' X b x val) → (∀ {x : SV} {val : Value}, RO w (S.excl E b) x val → RO w' X x val) → OwnOk w' X E.base b j o') :
    RepB E b ⟨S.slots, (j, o') :: S.owns⟩ a w' :=
  h.set ho ⟨hw1.1, hw1.2.1, hw1.2.2.1, by omega⟩ (fun k _ hk => hw2 k (fun e => hk (e ▸ hbj))) (fun X _ => hnew X)
end Go.Eng
namespace Go.Eng
open Go.RowKit
variable {P : Program} {NN : Nat} {E : Env NN}
def T (P : Program) {NN : Nat} (E : Env NN) (ops : Array Oper) (rest : List Oper) (S : St) (K : St → Prop) : Prop :=
  ∀ a w, Rep E S a w → ∀ Q : Exit → Act → World → Prop, (∀ S' a w, K S' → Rep E S' a w → Q .normal a w) → wpList P ops Q rest a w
theorem c_rt {id : Nat} {l : List Oper} {S : St} {Q : Exit → Act → World → Prop} (h : T P E l.toArray l S fun S' => ∀ a w, Rep E S' a w → Q .normal a w) : C P E (.region id l.toArray false) S Q :=
  fun a w hr => wp_region_lit (h a w hr Q fun _ a w hk hr => hk a w hr)
theorem t_nil {ops : Array Oper} {S : St} {K : St → Prop} (h : K S) : T P E ops [] S K := fun a w hr _ hq => hq S a w h hr
theorem wp_of_run {o : Oper} {a : Act} {w w' : World} {v : Value} {N : Act → World → Prop} {Q : Exit → Act → World → Prop} (h : (execOp a.eval o).run P w = .ok (.value v) w') (hn : N (a.put o.dst v) w') : o.wp P a w N Q := by
  unfold Oper.wp; rw [h]; exact hn
theorem wp_of_skip {o : Oper} {a : Act} {w w' : World} {N : Act → World → Prop} {Q : Exit → Act → World → Prop} (h : (execOp a.eval o).run P w = .ok .skip w') (hn : N (a.put o.dst undef) w') : o.wp P a w N Q := by
  unfold Oper.wp; rw [h]; exact hn
theorem wp_of_enter {o : Oper} {a : Act} {w w' : World} {f : FuncId} {args : Array Value} {R : Value → World → Prop} {N : Act → World → Prop} {Q : Exit → Act → World → Prop} (h : (execOp a.eval o).run P w = .ok (.enter f args) w')
    (hc : Calls P f args w' fun e w'' => ∃ v, e = .returned v ∧ R v w'') (hn : ∀ v w'', R v w'' → N (a.put o.dst v) w'') : o.wp P a w N Q := by
  unfold Oper.wp; rw [h]
  exact hc.mono fun e w'' ⟨v, he, hr⟩ => by subst he; exact hn v w'' hr
theorem t_op {ops : Array Oper} {rest : List Oper} {S : St} {K : St → Prop} {d : Tmp} {op : Op} {ty : TypeId} {pos : String} {after : Array Edge} {x : SV} (h : OpQ P E S op x) (hk : T P E ops rest (nextQ S d x) K) (hd : d < NN := by decide) :
    T P E ops ({ dst := some d, op, type := ty, pos, after, guard := none } :: rest) S K := by
  rintro a w ⟨b, hr⟩ Q hq
  obtain ⟨v, h1, h2⟩ := h b a w hr (some d) ty pos after none
  unfold wpList
  rw [if_pos (by rfl)]
  exact .inl (wp_of_run (h1 w (Below.refl _ _)) (hk _ _ ⟨b, hr.put hd h2⟩ Q hq))
theorem t_opG {ops : Array Oper} {rest : List Oper} {S : St} {K : St → Prop} {d : Tmp} {op : Op} {ty : TypeId} {pos : String} {after : Array Edge} {x : SV} {gd : Nat × Bool} {c : Bool} (hg : Guard E S ops gd c) 
    (h : c = true → OpQ P E S op x) (hk : T P E ops rest (nextQ S d (.grd c x)) K) (hd : d < NN := by decide) :
    T P E ops ({ dst := some d, op, type := ty, pos, after, guard := some gd } :: rest) S K := by
  rintro a w ⟨b, hr⟩ Q hq
  unfold wpList
  rw [hg b a w hr _ rfl]
  cases c with
  | false => exact hk _ _ ⟨b, hr.put hd ⟨(fun h => by cases h), fun _ => rfl⟩⟩ Q hq
  | true =>
    obtain ⟨v, h1, h2⟩ := h rfl b a w hr (some d) ty pos after (some gd)
    exact .inl (wp_of_run (h1 w (Below.refl _ _)) (hk _ _ ⟨b, hr.put hd ⟨fun _ => h2, fun h => by cases h⟩⟩ Q hq))
theorem call_step {S : St} {b : Nat → Value} {a : Act} {w : World} (hr : RepB E b S a w) {f : FuncId} {xs : List Operand} {args : List SV} {x : SV} (ha : Vals E S xs args) (h : Ct P f args x) :
    Calls P f (xs.map a.eval).toArray w fun e w'' => ∃ v, e = .returned v ∧ (RepB E b S a w'' ∧ R w'' (S.excl E b) b x v) := by
  refine (h w (S.excl E b) _ (fun g hg => hr.excl_lt hg) (ha.ros hr)).mono ?_
  rintro e w'' ⟨v, rfl, hv, hb⟩
  exact ⟨v, rfl, hr.world hb, hv.toR⟩
theorem t_call {ops : Array Oper} {rest : List Oper} {S : St} {K : St → Prop} {d : Tmp} {f : FuncId} {xs : List Operand} {ats : Array TypeId} {ty : TypeId} {pos : String} {after : Array Edge} {args : List SV} {x : SV}
    (hf : Enters P f) (ha : Vals E S xs args) (h : Ct P f args x) (hk : T P E ops rest (nextQ S d x) K) (hd : d < NN := by decide) :
    T P E ops ({ dst := some d, op := .call { callee := .value (.func f), args := xs.toArray, argTypes := ats }, type := ty, pos, after, guard := none } :: rest) S K := by
  rintro a w ⟨b, hr⟩ Q hq
  unfold wpList
  rw [if_pos (by rfl)]
  exact .inl (wp_of_enter (run_call hf ..) (call_step hr ha h) fun v w'' ⟨hr', hv⟩ => hk _ _ ⟨b, hr'.put hd hv⟩ Q hq)
theorem t_callG {ops : Array Oper} {rest : List Oper} {S : St} {K : St → Prop} {d : Tmp} {f : FuncId} {xs : List Operand} {ats : Array TypeId} {ty : TypeId} {pos : String} {after : Array Edge} {args : List SV} {x : SV} {gd : Nat × Bool} {c : Bool}
    (hg : Guard E S ops gd c) (hf : Enters P f) (ha : c = true → Vals E S xs args) (h : c = true → Ct P f args x) (hk : T P E ops rest (nextQ S d (.grd c x)) K) (hd : d < NN := by decide) :
    T P E ops ({ dst := some d, op := .call { callee := .value (.func f), args := xs.toArray, argTypes := ats }, type := ty, pos, after, guard := some gd } :: rest) S K := by
  rintro a w ⟨b, hr⟩ Q hq
  unfold wpList
  rw [hg b a w hr _ rfl]
  cases c with
  | false => exact hk _ _ ⟨b, hr.put hd ⟨(fun h => by cases h), fun _ => rfl⟩⟩ Q hq
  | true => exact .inl (wp_of_enter (run_call hf ..) (call_step hr (ha rfl) (h rfl)) fun v w'' ⟨hr', hv⟩ => hk _ _ ⟨b, hr'.put hd ⟨fun _ => hv, fun h => by cases h⟩⟩ Q hq)
theorem RepB.newbox {b : Nat → Value} {S : St} {a : Act} {w : World} (h : RepB E b S a w) {j m : Nat} {get : Nat → SV} {ty : TypeId} {cs : Array Value} (hf : S.fresh j = true) (hn : allB (fun t => (get t).noId j) m = true)
    (hm : cs.size = m) (hc : ∀ t, t < m → ∃ u, cs[t]? = some u ∧ u.oneCell' = true ∧ R w (S.excl E b) b (get t) u) :
    RepB E (setB b j (.pointer (some ⟨w.heap.size, 0, none⟩))) ⟨S.slots, (j, .box m get ty) :: S.owns⟩ a (w.alloc (.cells cs ty)) := by
  have hy : ∀ g, Bk (.pointer (some ⟨w.heap.size, 0, none⟩)) g → w.heap.size ≤ g := fun g hg => by
    have hg : some w.heap.size = some g := hg
    injection hg with hg; omega
  refine h.add (below_alloc w (.cells cs ty)) hf hy fun X' _ hR _ => ⟨w.heap.size, cs, setB_same _ _ _, h.base_le, heap_alloc_new w _, hm, fun t ht => ?_⟩
  obtain ⟨u, hu, h1, h2⟩ := hc t ht
  exact ⟨u, hu, h1, hR _ _ (allB_iff hn t ht) h2⟩
def ZeroOk (P : Program) (t : TypeId) (m : Nat) (get : Nat → SV) : Prop :=
  ∃ z, (∀ w, (zeroValue t).run P w = .ok z w) ∧ z.cells.size = m ∧ ∀ t, t < m → ∃ u, z.cells[t]? = some u ∧ u.oneCell' = true ∧ ∀ w X, RO w X (get t) u
theorem t_alloc {ops : Array Oper} {rest : List Oper} {S : St} {K : St → Prop} {d : Tmp} {elem : TypeId} {ty : TypeId} {pos : String} {after : Array Edge} {m : Nat} {get : Nat → SV} (j : Nat)
    (hz : ZeroOk P elem m get) (hf : S.fresh j = true) (hn : allB (fun t => (get t).noId j) m = true) (hk : T P E ops rest ⟨(d, .bp j 0) :: S.slots, (j, .box m get elem) :: S.owns⟩ K) (hd : d < NN := by decide) :
    T P E ops ({ dst := some d, op := .alloc elem, type := ty, pos, after, guard := none } :: rest) S K := by
  rintro a w ⟨b, hr⟩ Q hq
  obtain ⟨z, h1, h2, h3⟩ := hz
  unfold wpList
  rw [if_pos (by rfl)]
  refine .inl (wp_of_run (w' := w.alloc (.cells z.cells elem)) (v := .pointer (some ⟨w.heap.size, 0, none⟩)) ?_ ?_)
  · simp [execOp, Instr.alloc, h1, newVar, newRow]
  · have hb := hr.newbox (j := j) (m := m) (get := get) (ty := elem) (cs := z.cells) hf hn h2 (fun t ht => by
      obtain ⟨u, hu, h4, h5⟩ := h3 t ht
      exact ⟨u, hu, h4, (h5 _ _).toR⟩)
    refine hk _ _ ⟨_, hb.put (x := .bp j 0) hd ?_⟩ Q hq
    exact ⟨w.heap.size, setB_same _ _ _, rfl⟩
theorem t_boxA {ops : Array Oper} {rest : List Oper} {S : St} {K : St → Prop} {d : Tmp} {elem : TypeId} {x : Operand} {ty : TypeId} {pos : String} {after : Array Edge} {m : Nat} {get : Nat → SV} (j : Nat)
    (hx : Val E S x (.agg m get)) (hf : S.fresh j = true) (hn : allB (fun t => (get t).noId j) m = true) (hk : T P E ops rest ⟨(d, .bp j 0) :: S.slots, (j, .box m get elem) :: S.owns⟩ K) (hd : d < NN := by decide) :
    T P E ops ({ dst := some d, op := .box elem x, type := ty, pos, after, guard := none } :: rest) S K := by
  rintro a w ⟨b, hr⟩ Q hq
  obtain ⟨cs, hv, hm, hc⟩ := hx b a w hr
  unfold wpList
  rw [if_pos (by rfl)]
  refine .inl (wp_of_run (w' := w.alloc (.cells cs elem)) (v := .pointer (some ⟨w.heap.size, 0, none⟩)) ?_ ?_)
  · simp [execOp, Instr.box, hv, newVar, newRow, Value.cells]
  · have hb := hr.newbox (j := j) (m := m) (get := get) (ty := elem) (cs := cs) hf hn hm (fun t ht => by
      obtain ⟨u, hu, h4, h5⟩ := hc t ht
      exact ⟨u, hu, h4, h5⟩)
    exact hk _ _ ⟨_, hb.put (x := .bp j 0) hd ⟨w.heap.size, setB_same _ _ _, rfl⟩⟩ Q hq
def SV.one : SV → Bool
  | .v (.agg _) | .v (.tuple _) | .agg .. | .tup .. | .grd .. | .junk | .own _ | .abs .. => false
  | _ => true
theorem R.one {w : World} {X : Nat → Prop} {b : Nat → Value} {x : SV} {val : Value} (h : R w X b x val) (hx : x.one = true) : val.oneCell' = true := by
  cases x with
  | v x => have : val = x := h
           subst this
           cases val <;> first | rfl | (simp [SV.one] at hx)
  | row n k get => obtain ⟨A, c, rfl, _⟩ := h; rfl
  | el n k get i off => obtain ⟨_, _, _, rfl, _⟩ := h; rfl
  | bp j off => obtain ⟨g, _, rfl⟩ := h; rfl
  | oe j k i off => obtain ⟨g, n, cap, _, _, rfl⟩ := h; rfl
  | sub j k lo m => obtain ⟨_, _, _, _, _, rfl⟩ := h; rfl
  | fn f m get => obtain ⟨cs, rfl, _⟩ := h; rfl
  | _ => simp [SV.one] at hx
theorem cells_one {v : Value} (h : v.oneCell' = true) : v.cells = #[v] := by cases v <;> first | rfl | (simp [Value.oneCell'] at h)
theorem t_box1 {ops : Array Oper} {rest : List Oper} {S : St} {K : St → Prop} {d : Tmp} {elem : TypeId} {x : Operand} {ty : TypeId} {pos : String} {after : Array Edge} {s : SV} (j : Nat)
    (hx : Val E S x s) (h1 : s.one = true) (hf : S.fresh j = true) (hn : s.noId j = true) (hk : T P E ops rest ⟨(d, .bp j 0) :: S.slots, (j, .box 1 (fun _ => s) elem) :: S.owns⟩ K) (hd : d < NN := by decide) :
    T P E ops ({ dst := some d, op := .box elem x, type := ty, pos, after, guard := none } :: rest) S K := by
  rintro a w ⟨b, hr⟩ Q hq
  have hv := hx b a w hr
  have ho := hv.one h1
  unfold wpList
  rw [if_pos (by rfl)]
  refine .inl (wp_of_run (w' := w.alloc (.cells #[a.eval x] elem)) (v := .pointer (some ⟨w.heap.size, 0, none⟩)) ?_ ?_)
  · simp [execOp, Instr.box, newVar, newRow, cells_one ho]
  · have hb := hr.newbox (j := j) (m := 1) (get := fun _ => s) (ty := elem) (cs := #[a.eval x]) hf (by simp [allB, hn]) rfl (fun t ht => by
      have : t = 0 := by omega
      subst this
      exact ⟨_, rfl, ho, hv⟩)
    exact hk _ _ ⟨_, hb.put (x := .bp j 0) hd ⟨w.heap.size, setB_same _ _ _, rfl⟩⟩ Q hq
theorem RepB.setbox {b : Nat → Value} {S : St} {a : Act} {w w' : World} (h : RepB E b S a w) {j m : Nat} {get get' : Nat → SV} {ty : TypeId} {cs : Array Value} {g : Nat} (ho : lookO j S.owns = some (.box m get ty)) (hbj : b j = .pointer (some ⟨g, 0, none⟩))
    (hm : cs.size = m) (hw1 : w'.os = w.os ∧ w'.tape = w.tape ∧ w'.output = w.output ∧ w'.heap.size = w.heap.size) (hw2 : ∀ k, k ≠ g → w'.heap[k]? = w.heap[k]?) (hw3 : w'.heap[g]? = some (.cells cs ty (0, 0)))
    (hc : ∀ t, t < m → ∃ u, cs[t]? = some u ∧ u.oneCell' = true ∧ R w (S.excl E b) b (get' t) u) :
    RepB E b ⟨S.slots, (j, .box m get' ty) :: S.owns⟩ a w' := by
  have hbk : Bk (b j) g := by rw [hbj]; exact rfl
  refine h.setown ho hbk hw1 hw2 fun X hR _ => ⟨g, cs, hbj, ((h.owns j _ ho).lt hbk).2, hw3, hm, fun t ht => ?_⟩
  obtain ⟨u, hu, h1, h2⟩ := hc t ht
  exact ⟨u, hu, h1, hR h2⟩
def upd (g : Nat → SV) (o : Nat) (x : SV) : Nat → SV := fun t => match Nat.beq t o with | true => x | false => g t
theorem upd_eq (g : Nat → SV) (o : Nat) (x : SV) (t : Nat) : upd g o x t = if t = o then x else g t := by
  unfold upd
  by_cases h : t = o
  · subst h; simp
  · have : Nat.beq t o = false := by
      cases hb : Nat.beq t o
      · rfl
      · exact absurd (Nat.eq_of_beq_eq_true hb) h
    rw [this, if_neg h]
theorem t_st1 {ops : Array Oper} {rest : List Oper} {S : St} {K : St → Prop} {t : TypeId} {p x : Operand} {ty : TypeId} {pos : String} {after : Array Edge} {j off m : Nat} {get : Nat → SV} {bt : TypeId} {s : SV}
    (hp : Val E S p (.bp j off)) (ho : lookO j S.owns = some (.box m get bt)) (hx : Val E S x s) (h1 : s.one = true) (hs : ∀ w, (sizeOf t).run P w = .ok 1 w) (hoff : off < m)
    (hk : T P E ops rest ⟨S.slots, (j, .box m (upd get off s) bt) :: S.owns⟩ K) :
    T P E ops ({ dst := none, op := .store t p x, type := ty, pos, after, guard := none } :: rest) S K := by
  rintro a w ⟨b, hr⟩ Q hq
  obtain ⟨g, hb, hpv⟩ := hp b a w hr
  have hv := hx b a w hr
  have hone := hv.one h1
  obtain ⟨g', cs, hb', _, hh, hm, hc⟩ := hr.owns j _ ho
  rw [hb] at hb'
  simp only [Value.pointer.injEq, Option.some.injEq, Addr.mk.injEq, and_true] at hb'
  subst hb'
  have hcell : ∃ u, w.cell? ⟨g, off, none⟩ = some u := by
    obtain ⟨u, hu, _⟩ := hc off hoff
    exact ⟨u, by rw [cell_of_row w g off cs bt (0, 0) hh]; exact hu⟩
  obtain ⟨u0, hu0⟩ := hcell
  have hfr : w.frozen? ⟨g, off, none⟩ = false := by simp [World.frozen?, hh]
  unfold wpList
  rw [if_pos (by rfl)]
  refine .inl (wp_of_skip (w' := w.setCell ⟨g, off, none⟩ (a.eval x)) ?_ ?_)
  · simp [execOp, Instr.storeAt, hpv, Instr.sureAddr, storeVar, hs, cells_one hone, storeCells, Addr.add_zero', run_store P w _ _ _ hone, hu0, hfr]
  · refine hk _ _ ⟨b, ?_⟩ Q hq
    refine hr.setbox (cs := cs.setIfInBounds off (a.eval x)) ho hb (by simpa using hm) ⟨rfl, rfl, rfl, by simp⟩ (fun k hk => Below.heap_setCell _ _ _ _ hk) ?_ (fun i hi => ?_)
    · simp [World.setCell, Array.getElem?_modify, hh]
    · rw [upd_eq]
      by_cases e : i = off
      · subst e
        rw [if_pos rfl]
        exact ⟨a.eval x, by simp [hm, hi], hone, hv⟩
      · rw [if_neg e]
        obtain ⟨u, hu, h2, h3⟩ := hc i hi
        exact ⟨u, by rw [Array.getElem?_setIfInBounds, if_neg (fun h => e h.symm)]; exact hu, h2, h3⟩
theorem setRow_all {w : World} {g : Nat} {cs : Array Value} {ty : TypeId} (hh : w.heap[g]? = some (.cells cs ty (0, 0))) : ∀ (vs : List Value) (i : Nat), i + vs.length ≤ cs.size → (∀ v ∈ vs, v.oneCell' = true) →
    ∃ w' cs', (storeCells ⟨g, 0, none⟩ vs i).run P w = .ok () w' ∧ w'.heap[g]? = some (.cells cs' ty (0, 0)) ∧ cs'.size = cs.size ∧ (∀ t, cs'[t]? = if i ≤ t ∧ t < i + vs.length then vs[t - i]? else cs[t]?) ∧
      (w'.os = w.os ∧ w'.tape = w.tape ∧ w'.output = w.output ∧ w'.heap.size = w.heap.size) ∧ (∀ k, k ≠ g → w'.heap[k]? = w.heap[k]?) := by
  intro vs
  induction vs generalizing w cs with
  | nil => intro i _ _; exact ⟨w, cs, by simp [storeCells], hh, rfl, fun t => by rw [if_neg (by simp only [List.length_nil]; omega)], ⟨rfl, rfl, rfl, rfl⟩, fun _ _ => rfl⟩
  | cons v vs ih =>
    intro i hi h1
    simp only [List.length_cons] at hi
    have hv := h1 v (by simp)
    have hu0 : w.cell? ⟨g, i, none⟩ = some (cs[i]'(by omega)) := by rw [cell_of_row w g i cs ty (0, 0) hh]; exact Array.getElem?_eq_getElem (by omega)
    have hfr : w.frozen? ⟨g, i, none⟩ = false := by simp [World.frozen?, hh]
    have hh' : (w.setCell ⟨g, i, none⟩ v).heap[g]? = some (.cells (cs.setIfInBounds i v) ty (0, 0)) := by simp [World.setCell, Array.getElem?_modify, hh]
    obtain ⟨w', cs', hr, h2, h3, h4, h5, h6⟩ := ih hh' (i + 1) (by simp; omega) (fun v hv => h1 v (by simp [hv]))
    refine ⟨w', cs', ?_, h2, by simpa using h3, fun t => ?_, ⟨h5.1, h5.2.1, h5.2.2.1, by simpa using h5.2.2.2⟩, fun k hk => (h6 k hk).trans (Below.heap_setCell _ _ _ _ hk)⟩
    · simp only [storeCells, Sem.run_bind, Addr.add_lit, Nat.zero_add, run_store P w _ _ _ hv, hu0, hfr]
      simpa using hr
    · rw [h4 t]
      by_cases e1 : i + 1 ≤ t ∧ t < i + 1 + vs.length
      · rw [if_pos e1, if_pos (by simp; omega)]
        have : t - i = (t - (i + 1)) + 1 := by omega
        rw [this, List.getElem?_cons_succ]
      · rw [if_neg e1]
        by_cases e2 : t = i
        · subst e2
          rw [if_pos (by simp), Nat.sub_self, Array.getElem?_setIfInBounds, if_pos rfl, if_pos (by omega)]
          rfl
        · rw [if_neg (by simp; omega), Array.getElem?_setIfInBounds, if_neg (fun h => e2 h.symm)]
theorem t_stA {ops : Array Oper} {rest : List Oper} {S : St} {K : St → Prop} {t : TypeId} {p x : Operand} {ty : TypeId} {pos : String} {after : Array Edge} {j m : Nat} {get get' : Nat → SV} {bt : TypeId}
    (hp : Val E S p (.bp j 0)) (ho : lookO j S.owns = some (.box m get bt)) (hx : Val E S x (.agg m get')) (hs : ∀ w, (sizeOf t).run P w = .ok m w)
    (hk : T P E ops rest ⟨S.slots, (j, .box m get' bt) :: S.owns⟩ K) :
    T P E ops ({ dst := none, op := .store t p x, type := ty, pos, after, guard := none } :: rest) S K := by
  rintro a w ⟨b, hr⟩ Q hq
  obtain ⟨g, hb, hpv⟩ := hp b a w hr
  obtain ⟨vs, hv, hvm, hvc⟩ := hx b a w hr
  obtain ⟨g', cs, hb', _, hh, hm, hc⟩ := hr.owns j _ ho
  rw [hb] at hb'
  simp only [Value.pointer.injEq, Option.some.injEq, Addr.mk.injEq, and_true] at hb'
  subst hb'
  have h1 : ∀ v ∈ vs.toList, v.oneCell' = true := by
    intro v hv
    obtain ⟨i, hi, rfl⟩ := List.getElem_of_mem hv
    obtain ⟨u, hu, h1, _⟩ := hvc i (by simpa [hvm] using hi)
    rw [Array.getElem?_eq_getElem (by simpa using hi)] at hu
    simp only [Option.some.injEq] at hu
    simpa [hu] using h1
  obtain ⟨w', cs', hrun, h2, h3, h4, h5, h6⟩ := setRow_all (P := P) hh vs.toList 0 (by simp [hvm, hm]) h1
  unfold wpList
  rw [if_pos (by rfl)]
  refine .inl (wp_of_skip (w' := w') ?_ ?_)
  · simp [execOp, Instr.storeAt, hpv, Instr.sureAddr, storeVar, hs, hv, Value.cells, hvm, hrun]
  · refine hk _ _ ⟨b, hr.setbox (cs := cs') ho hb (by omega) h5 h6 h2 (fun i hi => ?_)⟩ Q hq
    obtain ⟨u, hu, h7, h8⟩ := hvc i hi
    refine ⟨u, ?_, h7, h8⟩
    rw [h4 i, if_pos (by simp [hvm]; omega)]
    simpa using hu
theorem c_next {S : St} {Q : Exit → Act → World → Prop} {ι : Type} {T : ι → St} {I : ι → Prop} {μ : ι → Nat} {i : ι} (i' : ι) (hI : I i') (hμ : μ i' < μ i) (hw : Weak E S (T i')) :
    ∀ a w, Rep E S a w → Exit.then (fun a w => ∃ i', (I i' ∧ μ i' < μ i) ∧ Rep E (T i') a w) Q .normal a w :=
  fun a w ⟨b, hr⟩ => ⟨i', ⟨hI, hμ⟩, b, hw b a w hr⟩
theorem row_len {S : St} {x : Operand} {n k : Nat} {get : Nat → Nat → SV} (hx : Val E S x (.row n k get)) {c : Code} {Q : Exit → Act → World → Prop} (h : n ≤ 9223372036854775807 → C P E c S Q) : C P E c S Q := by
  rintro a w ⟨b, hr⟩
  obtain ⟨A, c, _, h1, h2, _⟩ := hx b a w hr
  exact h (by simp only [maxLen] at h2; omega) a w ⟨b, hr⟩
end Go.Eng
namespace Go.Eng
open Go.RowKit
variable {P : Program} {NN : Nat} {E : Env NN}
def rowG {α : Type} (c : α → Nat → SV) (d : α) (l : List α) : Nat → Nat → SV := fun i t => c (l.getD i d) t
def rowOf {α : Type} (c : α → Nat → SV) (k : Nat) (d : α) (l : List α) : SV := .row l.length k (rowG c d l)
def ownOf {α : Type} (c : α → Nat → SV) (k : Nat) (d : α) (l : List α) (e : TypeId) : Own := .arow l.length k (rowG c d l) e
theorem getD_app {α : Type} (d : α) (l m : List α) (i : Nat) : (l ++ m).getD i d = if i < l.length then l.getD i d else m.getD (i - l.length) d := by
  simp only [List.getD_eq_getElem?_getD, List.getElem?_append]
  split <;> rfl
section own
variable {S : St}
theorem own_slice {b : Nat → Value} {a : Act} {w : World} (hr : RepB E b S a w) {j n k : Nat} {get : Nat → Nat → SV} {e : TypeId} (ho : lookO j S.owns = some (.arow n k get e)) : ∃ A c, b j = .slice A n c := by
  obtain ⟨xs, h, _⟩ := hr.owns j _ ho
  rcases h with ⟨A, hv, hn, _⟩ | ⟨⟨_, hv⟩, _⟩
  · exact ⟨A, 0, by rw [hv, hn]⟩
  · rcases hv with ⟨hv, hn⟩ | ⟨g, cap, cur, hv, _⟩
    · exact ⟨none, 0, by rw [hv, hn]⟩
    · exact ⟨_, cap, hv⟩
theorem own_cells {b : Nat → Value} {a : Act} {w : World} (hr : RepB E b S a w) {j n k : Nat} {get : Nat → Nat → SV} {e : TypeId} (ho : lookO j S.owns = some (.arow n k get e)) (h0 : 0 < n) :
    ∃ g c cur, b j = .slice (some ⟨g, 0, none⟩) n (c + 1) ∧ E.base ≤ g ∧ w.heap[g]? = some (.cells cur e (0, 0)) ∧ n ≤ c + 1 ∧ c + 1 ≤ maxLen ∧ cur.size = (c + 1) * k ∧
      ∀ i, i < n → ∀ t, t < k → ∃ u, cur[i * k + t]? = some u ∧ u.oneCell' = true ∧ RO w (S.excl E b) (get i t) u := by
  obtain ⟨xs, h, hc⟩ := hr.owns j _ ho
  rcases h with ⟨A, hv, hn, _⟩ | ⟨⟨hl, hv⟩, g', m', c', hv'⟩
  · omega
  · rcases hv with ⟨hv, hn⟩ | ⟨g, cap, cur, hv, hb, hh, hcap, hm, hs, ht⟩
    · omega
    · rw [hv] at hv'
      simp only [Value.slice.injEq, Option.some.injEq, Addr.mk.injEq, and_true] at hv'
      obtain ⟨rfl, rfl, rfl⟩ := hv'
      refine ⟨g, c', cur, hv, hb, hh, hcap, hm, hs, fun i hi t htk => ?_⟩
      obtain ⟨u, hu, h1, h2⟩ := hc i hi t htk
      refine ⟨u, ?_, h1, h2⟩
      rw [← ht, List.getElem?_take] at hu
      split at hu
      · simpa using hu
      · cases hu
theorem q_lenO {x : Operand} {t : TypeId} {j n k : Nat} {get : Nat → Nat → SV} {e : TypeId} (hx : Val E S x (.own j)) (ho : lookO j S.owns = some (.arow n k get e)) (ht : P.underlying t = some (.slice (P.elem t))) :
    OpQ P E S (.call { callee := .builtin .len, args := #[x], argTypes := #[t] }) (.v (.int .i64 (n : Int))) := fun b a w hr dst ty pos after gd => by
  have hv : a.eval x = hdv (b j) := hx b a w hr
  obtain ⟨A, c, hs⟩ := own_slice hr ho
  refine ⟨.int .i64 n, fun w' hw' => ?_, rfl⟩
  simp [execOp, resolve, invoke, builtin, hv, hs, hdv, run_len_slice w' t ty A n c ht, goInt]
theorem q_idxO {x y : Operand} {t : TypeId} {j n k : Nat} {get : Nat → Nat → SV} {e : TypeId} {kk : IntKind} {i : Int} (hx : Val E S x (.own j)) (ho : lookO j S.owns = some (.arow n k get e)) (hy : Val E S y (.v (.int kk i)))
    (ht : P.underlying t = some (.slice (P.elem t))) (hs : ∀ w, (sizeOf (P.elem t)).run P w = .ok k w) (h0 : 0 ≤ i) (h1 : i < n) :
    OpQ P E S (.indexAddr t x y) (.oe j k i.toNat 0) := fun b a w hr dst ty pos after gd => by
  have hv : a.eval x = hdv (b j) := hx b a w hr
  have h2 : a.eval y = .int kk i := hy b a w hr
  obtain ⟨g, c, cur, hb, _⟩ := own_cells hr ho (by omega)
  refine ⟨.pointer (some ⟨g, i.toNat * k + 0, none⟩), fun w' hw' => ?_, g, n, c + 1, by rw [hb]; rfl, by omega, rfl⟩
  simp [execOp, hv, hb, hdv, h2, run_indexAt_slice w' t _ n (c + 1) kk i ht, h0, h1, hs, Addr.add_lit]
theorem q_fldO {x : Operand} {t : TypeId} {f : Nat} {j k i off : Nat} (fs : Array Field) (fd : Field) (hx : Val E S x (.oe j k i off))
    (ht : P.underlying t = some (.struct fs)) (hf : fs[f]? = some fd) (m : Nat) (hs : ∀ w, (sizeOf fd.type).run P w = .ok (m + 1) w) :
    OpQ P E S (.fieldAddr t x f) (.oe j k i (off + fd.offset)) := fun b a w hr dst ty pos after gd => by
  obtain ⟨g, n, cap, hb, hi, hv⟩ := hx b a w hr
  refine ⟨.pointer (some ⟨g, i * k + (off + fd.offset), none⟩), fun w' hw' => ?_, g, n, cap, hb, hi, rfl⟩
  simp [execOp, hv, Instr.fieldAt, run_underlying ht, hf, Instr.sureAddr, fieldPlace, hs, Addr.add_lit, Nat.add_assoc]
theorem q_ldO {x : Operand} {t : TypeId} {j n k i off : Nat} {get : Nat → Nat → SV} {e : TypeId} (hx : Val E S x (.oe j k i off)) (ho : lookO j S.owns = some (.arow n k get e))
    (ht : ∀ w, (isAgg t).run P w = .ok false w) (hoff : off < k) : OpQ P E S (.load t x) (get i off) := fun b a w hr dst ty pos after gd => by
  obtain ⟨g, n', cap, hb, hi, hv⟩ := hx b a w hr
  obtain ⟨A, c, hs⟩ := own_slice hr ho
  rw [hs] at hb
  simp only [hdv, Value.slice.injEq] at hb
  obtain ⟨rfl, rfl, rfl⟩ := hb
  obtain ⟨g', c', cur, hb', _, hh, _, _, _, hc⟩ := own_cells hr ho (by omega)
  rw [hs] at hb'
  simp only [Value.slice.injEq, Option.some.injEq, Addr.mk.injEq, and_true] at hb'
  obtain ⟨rfl, _, _⟩ := hb'
  obtain ⟨u, hu, h1, h2⟩ := hc i hi off hoff
  refine ⟨u, fun w' hw' => ?_, h2.toR⟩
  have hu' : w'.cell? ⟨g, i * k + off, none⟩ = some u := (hw'.cell (p := ⟨g, i * k + off, none⟩) (Array.getElem?_eq_some_iff.1 hh).1).trans (by rw [cell_of_row w g _ cur e (0, 0) hh]; exact hu)
  simp [execOp, hv, Instr.loadAt, Instr.sureAddr, loadVar, ht, hu']
theorem q_ldOA {x : Operand} {t : TypeId} {j n k i off m : Nat} {get : Nat → Nat → SV} {e : TypeId} (hx : Val E S x (.oe j k i off)) (ho : lookO j S.owns = some (.arow n k get e))
    (ht : ∀ w, (isAgg t).run P w = .ok true w) (hsz : ∀ w, (sizeOf t).run P w = .ok m w) (hoff : off + m ≤ k) : OpQ P E S (.load t x) (.agg m fun q => get i (off + q)) := fun b a w hr dst ty pos after gd => by
  obtain ⟨g, n', cap, hb, hi, hv⟩ := hx b a w hr
  obtain ⟨A, c, hs⟩ := own_slice hr ho
  rw [hs] at hb
  simp only [hdv, Value.slice.injEq] at hb
  obtain ⟨rfl, rfl, rfl⟩ := hb
  obtain ⟨g', c', cur, hb', _, hh, _, _, _, hc⟩ := own_cells hr ho (by omega)
  rw [hs] at hb'
  simp only [Value.slice.injEq, Option.some.injEq, Addr.mk.injEq, and_true] at hb'
  obtain ⟨rfl, _, _⟩ := hb'
  have hg := (Array.getElem?_eq_some_iff.1 hh).1
  let f : Nat → Value := fun q => (w.cell? ⟨g, i * k + (off + q), none⟩).getD undef
  have hcell : ∀ q, q < m → ∃ u, w.cell? ⟨g, i * k + (off + q), none⟩ = some u ∧ u.oneCell' = true ∧ RO w (S.excl E b) (get i (off + q)) u := fun q hq => by
    obtain ⟨u, hu, h1, h2⟩ := hc i hi (off + q) (by omega)
    exact ⟨u, by rw [cell_of_row w g _ cur e (0, 0) hh]; exact hu, h1, h2⟩
  have hf : ∀ q, q < m → w.cell? ⟨g, i * k + off + (0 + q), none⟩ = some (f q) := fun q hq => by
    obtain ⟨u, hu, _⟩ := hcell q hq
    have e : i * k + off + (0 + q) = i * k + (off + q) := by omega
    rw [e]; simp only [f]; rw [hu]; rfl
  have hl := fun (w' : World) (hw' : Below w.heap.size w w') => run_loadCellsFrom (P := P) w' g (i * k + off) m 0 #[] f (fun q hq => (hw'.cell (p := ⟨g, i * k + off + (0 + q), none⟩) hg).trans (hf q hq))
  refine ⟨.agg (#[] ++ (Array.ofFn fun t : Fin m => f t.1)), fun w' hw' => ?_, _, rfl, by simp, fun q hq => ?_⟩
  · simp [execOp, hv, Instr.loadAt, Instr.sureAddr, loadVar, ht, hsz, loadCells, hl w' hw']
  · obtain ⟨u, hu, h1, h2⟩ := hcell q hq
    exact ⟨u, by simp [hq, f, hu], h1, h2.toR⟩
end own
theorem t_stO {ops : Array Oper} {rest : List Oper} {S : St} {K : St → Prop} {t : TypeId} {p x : Operand} {ty : TypeId} {pos : String} {after : Array Edge} {j n n' k i off : Nat} {get : Nat → Nat → SV} {e : TypeId} {s : SV} (get' : Nat → Nat → SV)
    (hp : Val E S p (.oe j k i off)) (ho : lookO j S.owns = some (.arow n k get e)) (hx : Val E S x s) (h1 : s.one = true) (hro : s.isRO = true) (hs : ∀ w, (sizeOf t).run P w = .ok 1 w) (hoff : off < k) (hn : n = n')
    (hset : get' i off = s) (hsame : ∀ i', i' < n → ∀ t, t < k → (i' ≠ i ∨ t ≠ off) → get' i' t = get i' t)
    (hk : T P E ops rest ⟨S.slots, (j, .arow n' k get' e) :: S.owns⟩ K) :
    T P E ops ({ dst := none, op := .store t p x, type := ty, pos, after, guard := none } :: rest) S K := by
  subst hn
  rintro a w ⟨b, hr⟩ Q hq
  obtain ⟨g, n', cap, hb, hi, hpv⟩ := hp b a w hr
  obtain ⟨A, c, hsl⟩ := own_slice hr ho
  rw [hsl] at hb
  simp only [hdv, Value.slice.injEq] at hb
  obtain ⟨rfl, rfl, rfl⟩ := hb
  obtain ⟨g', c', cur, hb', hbase, hh, hcap, hmax, hsz, hc⟩ := own_cells hr ho (by omega)
  have hb2 := hb'
  rw [hsl] at hb'
  simp only [Value.slice.injEq, Option.some.injEq, Addr.mk.injEq, and_true] at hb'
  obtain ⟨rfl, _, _⟩ := hb'
  have hv := hx b a w hr
  have hone := hv.one h1
  obtain ⟨u0, hu0, _⟩ := hc i hi off hoff
  have hu0' : w.cell? ⟨g, i * k + off, none⟩ = some u0 := by rw [cell_of_row w g _ cur e (0, 0) hh]; exact hu0
  have hfr : w.frozen? ⟨g, i * k + off, none⟩ = false := by simp [World.frozen?, hh]
  unfold wpList
  rw [if_pos (by rfl)]
  refine .inl (wp_of_skip (w' := w.setCell ⟨g, i * k + off, none⟩ (a.eval x)) ?_ ?_)
  · simp [execOp, Instr.storeAt, hpv, Instr.sureAddr, storeVar, hs, cells_one hone, storeCells, Addr.add_zero', run_store P w _ _ _ hone, hu0', hfr]
  · refine hk _ _ ⟨b, ?_⟩ Q hq
    refine hr.setown ho (by rw [hb2]; exact rfl) ⟨rfl, rfl, rfl, by simp⟩ (fun k hk => Below.heap_setCell _ _ _ _ hk) (fun X hm hmo => ?_)
    obtain ⟨xs, hown, _⟩ := hr.owns j _ ho
    have hcur' : (w.setCell ⟨g, i * k + off, none⟩ (a.eval x)).heap[g]? = some (.cells (cur.setIfInBounds (i * k + off) (a.eval x)) e (0, 0)) := by simp [World.setCell, Array.getElem?_modify, hh]
    have hnk : n * k ≤ cur.size := by rw [hsz]; exact Nat.mul_le_mul_right _ hcap
    refine ⟨(cur.setIfInBounds (i * k + off) (a.eval x)).toList.take (n * k), .inr ⟨⟨?_, .inr ⟨g, c' + 1, _, hb2, hbase, hcur', hcap, hmax, by simpa using hsz, rfl⟩⟩, g, n, c', hb2⟩, fun i' hi' t ht => ?_⟩
    · simp; omega
    · have hlt : i' * k + t < n * k := by
        have : (i' + 1) * k ≤ n * k := Nat.mul_le_mul_right _ hi'
        have e1 : (i' + 1) * k = i' * k + k := by rw [Nat.add_mul, Nat.one_mul]
        omega
      rw [List.getElem?_take, if_pos hlt, Array.getElem?_toList, Array.getElem?_setIfInBounds]
      by_cases e1 : i * k + off = i' * k + t
      · have hii : i' = i ∧ t = off := by
          have h2 : (i * k + off) / k = i := by rw [Nat.mul_comm, Nat.mul_add_div (by omega), Nat.div_eq_of_lt hoff, Nat.add_zero]
          have h3 : (i' * k + t) / k = i' := by rw [Nat.mul_comm, Nat.mul_add_div (by omega), Nat.div_eq_of_lt ht, Nat.add_zero]
          have : i' = i := by rw [← h2, ← h3, e1]
          subst this
          exact ⟨rfl, by omega⟩
        rw [if_pos e1, if_pos (by omega), hii.1, hii.2, hset]
        exact ⟨_, rfl, hone, hmo (hv.toRO hro)⟩
      · rw [if_neg e1, hsame i' hi' t ht (by
          by_cases e2 : i' = i
          · exact .inr (fun e3 => e1 (by rw [e2, e3]))
          · exact .inl e2)]
        obtain ⟨u, hu, h2, h3⟩ := hc i' hi' t ht
        exact ⟨u, hu, h2, hmo h3⟩
def kill (j : Nat) (x : SV) : SV := match x.noId j with | true => x | false => .junk
def killS (j : Nat) : List (Nat × SV) → List (Nat × SV)
  | [] => []
  | p :: r => (p.1, kill j p.2) :: killS j r
def killO (j : Nat) : List (Nat × Own) → List (Nat × Own)
  | [] => []
  | p :: r => match Nat.beq j p.1 with
    | true => killO j r
    | false => (p.1, p.2.map (kill j)) :: killO j r
theorem kill_R {w : World} {X : Nat → Prop} {b : Nat → Value} {j : Nat} {x : SV} {val : Value} (h : R w X b x val) : R w X b (kill j x) val := by
  unfold kill; split
  · exact h
  · trivial
theorem look_kill {j : Nat} : ∀ {l : List (Nat × SV)} {s : Nat} {x : SV}, look s (killS j l) = some x → ∃ y, look s l = some y ∧ x = kill j y
  | [], s, x, h => by simp [killS, look] at h
  | (d, y) :: r, s, x, h => by
    simp only [killS] at h
    rw [look_cons] at h ⊢
    split at h
    · injection h with h
      exact ⟨y, by rename_i e; rw [if_pos e], h.symm⟩
    · obtain ⟨z, hz, e⟩ := look_kill h
      exact ⟨z, by rename_i e'; rw [if_neg e']; exact hz, e⟩
theorem lookO_kill {j : Nat} : ∀ {l : List (Nat × Own)} {s : Nat} {x : Own}, lookO s (killO j l) = some x → s ≠ j ∧ ∃ y, lookO s l = some y ∧ x = y.map (kill j)
  | [], s, x, h => by simp [killO, lookO] at h
  | (d, y) :: r, s, x, h => by
    simp only [killO] at h
    split at h
    · rename_i hb
      have hb := Nat.eq_of_beq_eq_true hb
      subst hb
      obtain ⟨h1, z, hz, e⟩ := lookO_kill h
      exact ⟨h1, z, by rw [lookO_cons, if_neg h1]; exact hz, e⟩
    · rename_i hb
      rw [lookO_cons] at h ⊢
      split at h
      · rename_i e
        injection h with h
        refine ⟨fun e' => ?_, y, by rw [if_pos e], h.symm⟩
        rw [← e', e] at hb; simp at hb
      · rename_i e
        obtain ⟨h1, z, hz, e2⟩ := lookO_kill h
        exact ⟨h1, z, by rw [if_neg e]; exact hz, e2⟩
theorem RepB.regrow {b : Nat → Value} {S : St} {a : Act} {w w' : World} (h : RepB E b S a w) {j j' n k n' : Nat} {get get' : Nat → Nat → SV} {e : TypeId} {v' : Value} {xs : List Value} (ho : lookO j S.owns = some (.arow n k get e))
    (hfr : S.fresh j' = true) (hos : w'.os = w.os ∧ w'.tape = w.tape ∧ w'.output = w.output ∧ w.heap.size ≤ w'.heap.size) (hsame : ∀ g, g < w.heap.size → blk1 (b j) ≠ some g → w'.heap[g]? = w.heap[g]?)
    (hv' : ∀ g, blk1 v' = some g → blk1 (b j) = some g ∨ w.heap.size ≤ g) (hown : ownsR w' E.base e k v' n' xs)
    (hel : ∀ i, i < n' → ∀ t, t < k → ∃ u, xs[i * k + t]? = some u ∧ u.oneCell' = true ∧ RO w (S.excl E b) (get' i t) u) :
    RepB E (setB b j' v') ⟨killS j S.slots, (j', .arow n' k get' e) :: killO j S.owns⟩ a w' := by
  obtain ⟨hf1, hf2, hf3⟩ := St.fresh_parts hfr
  have hbs : ∀ g, Bk (b j) g ↔ blk1 (b j) = some g := fun g => by
    obtain ⟨_, h1, _⟩ := h.owns j _ ho
    obtain ⟨A, c, hs, _⟩ := h1.slice
    exact Bk_slice hs
  have hvs : ∀ g, Bk v' g ↔ blk1 v' = some g := fun g => by
    obtain ⟨A, c, hs, _⟩ := hown.slice
    exact Bk_slice hs
  have hjX : ∀ g, blk1 (b j) = some g → S.excl E b g := fun g hg => .inr ⟨j, _, ho, (hbs g).2 hg⟩
  have hext : Ext (S.excl E b) w w' := ⟨hos.2.2.2, fun g hg hX => hsame g hg (fun e => hX (hjX g e))⟩
  have hX : ∀ g, g < w.heap.size → St.excl ⟨killS j S.slots, (j', .arow n' k get' e) :: killO j S.owns⟩ E (setB b j' v') g → S.excl E b g := by
    rintro g hg (hh | ⟨i, o, h1, h2⟩)
    · exact .inl hh
    · rw [lookO_cons] at h1
      split at h1
      · rename_i e'
        subst e'
        rw [setB_same, hvs] at h2
        rcases hv' g h2 with h3 | h3
        · exact hjX g h3
        · omega
      · rename_i e'
        rw [setB_other _ _ _ e'] at h2
        obtain ⟨_, y, hy, _⟩ := lookO_kill h1
        exact .inr ⟨i, y, hy, h2⟩
  have hkj : ∀ x : SV, x.noId j' = true → (kill j x).noId j' = true := fun x hx => by unfold kill; split <;> first | exact hx | rfl
  have hmono : ∀ x v, x.noId j' = true → R w (S.excl E b) b x v →
      R w' (St.excl ⟨killS j S.slots, (j', .arow n' k get' e) :: killO j S.owns⟩ E (setB b j' v')) (setB b j' v') (kill j x) v := fun x v hx hr => R_setB (hkj x hx) ((kill_R hr).mono hext hX)
  have hmonoO : ∀ x v, RO w (S.excl E b) x v → RO w' (St.excl ⟨killS j S.slots, (j', .arow n' k get' e) :: killO j S.owns⟩ E (setB b j' v')) x v := fun x v hr => hr.mono hext hX
  exact {
    size := h.size
    defers := h.defers
    below := ⟨hos.1.trans h.below.os, hos.2.1.trans h.below.tape, hos.2.2.1.trans h.below.output, Nat.le_trans h.below.size hos.2.2.2, fun g hg hY => by
      refine (hsame g (by have := h.below.size; omega) fun e' => ?_).trans (h.below.block g hg hY)
      rcases h.mine j _ ho g ((hbs g).2 e') with h1 | h1
      · omega
      · exact hY h1⟩
    slots := fun s x hx => by
      obtain ⟨y, hy, rfl⟩ := look_kill hx
      exact hmono _ _ (look_fresh hf1 s y hy) (h.slots s y hy)
    owns := fun i o hi => by
      rw [lookO_cons] at hi
      split at hi
      · rename_i e'
        injection hi with hi
        subst hi; subst e'
        refine ⟨xs, by rw [setB_same]; exact hown, fun i hi t ht => ?_⟩
        obtain ⟨u, hu, h1, h2⟩ := hel i hi t ht
        exact ⟨u, hu, h1, hmonoO _ _ h2⟩
      · rename_i e'
        obtain ⟨hij, y, hy, rfl⟩ := lookO_kill hi
        have hf := lookO_fresh hf2 i y hy
        have hne : ∀ g, Bk (b i) g → blk1 (b j) ≠ some g := fun g hg hh => h.apart i j _ _ hy ho hij g hg ((hbs g).2 hh)
        exact (h.owns i y hy).keep (kill j) (p := fun x => x.noId j' = true) (setB_other _ _ _ e') (Own.noId_all hf.2) (fun g hg hb => hsame g hg (hne g hb)) hmono hmonoO
    mine := fun i o hi g hg => by
      rw [lookO_cons] at hi
      split at hi
      · rename_i e'
        subst e'
        rw [setB_same, hvs] at hg
        rcases hv' g hg with h3 | h3
        · exact h.mine j _ ho g ((hbs g).2 h3)
        · exact .inl (Nat.le_trans h.below.size h3)
      · rename_i e'
        rw [setB_other _ _ _ e'] at hg
        obtain ⟨hij, y, hy, rfl⟩ := lookO_kill hi
        exact h.mine i y hy g hg
    apart := fun p q op oq hp hq hne g hg => by
      rw [lookO_cons] at hp hq
      have hlt : ∀ i o, lookO i (killO j S.owns) = some o → ∀ g, Bk (b i) g → g < w.heap.size ∧ blk1 (b j) ≠ some g := fun i o hi g hg => by
        obtain ⟨hij, y, hy, _⟩ := lookO_kill hi
        exact ⟨h.own_lt hy hg, fun hh => h.apart i j _ _ hy ho hij g hg ((hbs g).2 hh)⟩
      split at hp
      · rename_i e1
        subst e1
        rw [setB_same, hvs] at hg
        split at hq
        · rename_i e2; exact absurd e2.symm hne
        · rename_i e2
          rw [setB_other _ _ _ e2]
          intro hh
          have := hlt q oq hq g hh
          rcases hv' g hg with h3 | h3
          · exact this.2 h3
          · omega
      · rename_i e1
        rw [setB_other _ _ _ e1] at hg
        have h4 := hlt p op hp g hg
        split at hq
        · rename_i e2
          subst e2
          rw [setB_same, hvs]
          intro hh
          rcases hv' g hh with h3 | h3
          · exact h4.2 h3
          · omega
        · rename_i e2
          rw [setB_other _ _ _ e2]
          obtain ⟨_, y, hy, _⟩ := lookO_kill hp
          obtain ⟨_, z, hz, _⟩ := lookO_kill hq
          exact h.apart p q y z hy hz hne g hg
    old := fun i hi => by rw [setB_other _ _ _ (by omega)]; exact h.old i hi }
structure ElemOk (P : Program) (t e : TypeId) (k bytes : Nat) : Prop where
  und : P.underlying t = some (.slice e)
  info : ∃ i z, P.info? e = some i ∧ i.zero = some z ∧ i.size = k ∧ i.bytes = bytes ∧ z.cells.size = k
  pos : 0 < k
theorem run_append_R {w : World} {t ty e : TypeId} {k bytes : Nat} (he : ElemOk P t e k bytes) {base : Nat} {v : Value} {n : Nat} {xs : List Value} (hown : ownsR w base e k v n xs) (hb : base ≤ w.heap.size)
    {A : Option Addr} {m c : Nat} {news : List Value} (hl : news.length = m * k) (hA : 0 < m → ∃ g o, A = some ⟨g, o, none⟩ ∧ ∀ q u, news[q]? = some u → w.cell? ⟨g, o + q, none⟩ = some u) (h1 : ∀ u ∈ news, u.oneCell' = true)
    (h63 : n + m ≤ maxLen) (hby : (n + m) * bytes ≤ 140737488355328) :
    ∃ v' w', (Builtin.append_ #[t, t] ty #[v, .slice A m c]).run P w = .ok v' w' ∧ ownsR w' base e k v' (n + m) (xs ++ news) ∧
      (w'.os = w.os ∧ w'.tape = w.tape ∧ w'.output = w.output ∧ w.heap.size ≤ w'.heap.size) ∧ (∀ g, g < w.heap.size → blk1 v ≠ some g → w'.heap[g]? = w.heap[g]?) ∧ (∀ g, blk1 v' = some g → blk1 v = some g ∨ w.heap.size ≤ g) := by
  obtain ⟨i, z, hi, hz, hsz, hbytes, hzs⟩ := he.info
  rcases Nat.eq_zero_or_pos m with hm | hm
  · subst hm
    have hn : news = [] := List.eq_nil_of_length_eq_zero (by simpa using hl)
    subst hn
    refine ⟨v, w, ?_, by simpa using hown, ⟨rfl, rfl, rfl, Nat.le_refl _⟩, fun _ _ _ => rfl, fun g hg => .inl hg⟩
    have hv : ∃ A' c', v = .slice A' n c' ∧ n ≤ c' := by
      rcases hown with ⟨A', hv, hn, _⟩ | ⟨⟨_, hv⟩, _⟩
      · exact ⟨A', 0, by rw [hv, hn], by omega⟩
      · rcases hv with ⟨hv, hn⟩ | ⟨g, cap, cur, hv, _, _, hc, _⟩
        · exact ⟨none, 0, by rw [hv, hn], by omega⟩
        · exact ⟨_, cap, hv, hc⟩
    obtain ⟨A', c', rfl, hc⟩ := hv
    cases A with
    | none => cases A' <;> simp [Builtin.append_, run_underlying he.und, sizeOf, typeInfo, hi, Builtin.lenOf, hc, Builtin.firstCells, storeCells]
    | some ad => cases A' <;> simp [Builtin.append_, run_underlying he.und, sizeOf, typeInfo, hi, Builtin.lenOf, hc, Builtin.firstCells, storeCells, loadCells, loadCellsFrom]
  · obtain ⟨g, o, rfl, hnews⟩ := hA hm
    have hnews' : ∀ q u, news[q]? = some u → w.cell? ((⟨g, o, none⟩ : Addr).add q) = some u := fun q u hq => by rw [Addr.add_lit]; exact hnews q u hq
    rcases hown with ⟨A', rfl, rfl, rfl⟩ | ⟨hown, g0, m0, c0, hv0⟩
    · -- no room: a new block
      have hfits := growslice_fits (old := 0) (need := 0 + m) (bytes := bytes) (by omega) hby
      have hgr : ∀ old, (World.ownsRow (w.drew.alloc (.cells (news.toArray ++ Builtin.zeroCells z.cells (grownCap w m old e - m)) e)) base e k (.slice (some ⟨w.heap.size, 0, none⟩) m (grownCap w m old e)) m news) := fun old => by
        have hge := grownCap_ge w m old e
        have hcm : grownCap w m old e ≤ maxLen := grownCap_le_maxLen w m old e (by omega)
        refine ⟨hl, .inr ⟨w.heap.size, _, _, rfl, hb, heap_alloc_new w.drew _, hge, hcm, ?_, ?_⟩⟩
        · simp only [Array.size_append, List.size_toArray, size_zeroCells, hzs, hl, ← Nat.add_mul]
          congr 1; omega
        · simp only [Array.toList_append]
          rw [← hl]
          exact List.take_left
      have hge := grownCap_ge w m 0 e
      have hrun : (Builtin.append_ #[t, t] ty #[.slice A' 0 0, .slice (some ⟨g, o, none⟩) m c]).run P w =
          .ok (.slice (some ⟨w.heap.size, 0, none⟩) m (grownCap w m 0 e)) (w.drew.alloc (.cells (news.toArray ++ Builtin.zeroCells z.cells (grownCap w m 0 e - m)) e)) := by
        cases A' with
        | none =>
          exact run_append_nil (P := P) w t ty e i z he.und hi hz ⟨g, o, none⟩ m c news (by rw [hsz]; exact hl) hnews' hm (by simp only [maxLen] at h63; omega) (by rw [hbytes]; have := hby; simp only [Nat.zero_add] at this; omega)
        | some ad =>
          have := run_append_grow (P := P) w t ty e i z he.und hi hz ad 0 0 [] (by simp) (by intro j u h; simp at h) ⟨g, o, none⟩ m c news (by rw [hsz]; exact hl) hnews' (by omega) (by simp only [maxLen] at h63; omega) (by rw [hbytes]; exact hfits)
          simpa using this
      refine ⟨_, _, hrun, .inr ⟨by simpa using hgr 0, w.heap.size, m, grownCap w m 0 e - 1, by congr 1; omega⟩, ⟨rfl, rfl, rfl, by simp⟩, fun q hq _ => Below.heap_alloc w.drew _ q hq, fun q hq => ?_⟩
      right
      have e2 : grownCap w m 0 e = (grownCap w m 0 e - 1) + 1 := by omega
      rw [e2] at hq
      simp only [blk1, Option.some.injEq] at hq
      omega
    · obtain ⟨v', w', hrun, h2, h3, h4⟩ := run_append_own (P := P) w base t ty e i z k bytes he.und hi hz hsz hbytes hzs he.pos v n xs hown ⟨g, o, none⟩ m c news hl hnews' h1 h63 hby hb
      have hvb : v.ownBlock = some g0 := by rw [hv0]; rfl
      have hbv : blk1 v = some g0 := by rw [hv0]; rfl
      have hne : v' ≠ .slice none 0 0 := fun e => by have := (h4.1 e).2; omega
      refine ⟨v', w', hrun, ?_, ⟨h3.os, h3.tape, h3.output, h3.size⟩, fun q hq hk => h3.block q hq (by rw [hvb]; rw [hbv] at hk; exact fun e => hk e.symm), fun q hq => ?_⟩
      · rcases h2.2 with ⟨e1, _⟩ | ⟨g', cap, cur, e1, _, _, hc, _⟩
        · exact absurd e1 hne
        · exact .inr ⟨h2, g', n + m, cap - 1, by rw [e1]; congr 1; omega⟩
      · by_cases hq2 : w.heap.size ≤ q
        · exact .inr hq2
        · left
          rw [hbv]
          rcases h2.2 with ⟨e1, _⟩ | ⟨g', cap, cur, e1, hbs, hh, hc, hmx, hcs, htk⟩
          · exact absurd e1 hne
          · have hgq : g' = q := by
              rw [e1] at hq
              cases cap with
              | zero => simp [blk1] at hq
              | succ c => simpa [blk1] using hq
            subst hgq
            -- the block was there: it is the old one, for 'append' hands back the old block or a new one
            by_cases e3 : some g' = v.ownBlock
            · rw [hvb] at e3; exact e3.symm
            · exfalso
              -- a block of the old heap that 'append' did not write: then v' is the old slice's block
              rcases hown.2 with ⟨e4, _⟩ | ⟨g1, cap1, cur1, e4, _, hh1, hc1, hm1, hs1, ht1⟩
              · rw [e4] at hv0; simp at hv0
              · rw [e4] at hrun
                by_cases hroom : n + m ≤ cap1
                · have hr := run_append_room (P := P) (ty := ty) w t e i he.und hi g1 n cap1 cur1 hh1 ⟨g, o, none⟩ m c news (by rw [hsz]; exact hl) hnews' h1 hroom (by rw [hsz, hl, hs1, ← Nat.add_mul]; exact Nat.mul_le_mul_right _ hroom)
                  rw [hr] at hrun
                  injection hrun with e5 _
                  rw [← e5] at e1
                  simp only [Value.slice.injEq, Option.some.injEq, Addr.mk.injEq, and_true] at e1
                  apply e3
                  rw [e4, ← e1.1]; rfl
                · have holds : ∀ q u, xs[q]? = some u → w.cell? ((⟨g1, 0, none⟩ : Addr).add q) = some u := by rw [e4] at hown; exact hown.cells (g := g1) rfl
                  have hr := run_append_grow (P := P) (ty := ty) w t e i z he.und hi hz ⟨g1, 0, none⟩ n cap1 xs (by rw [hsz]; exact hown.1) holds ⟨g, o, none⟩ m c news (by rw [hsz]; exact hl) hnews' (by omega) (by simp only [maxLen] at h63; omega) (by rw [hbytes]; exact growslice_fits (by omega) hby)
                  rw [hr] at hrun
                  injection hrun with e5 _
                  rw [← e5] at e1
                  simp only [Value.slice.injEq, Option.some.injEq, Addr.mk.injEq, and_true] at e1
                  omega
end Go.Eng
namespace Go.Eng
open Go.RowKit
variable {P : Program} {NN : Nat} {E : Env NN}
theorem row_cells {w : World} {X : Nat → Prop} {n k : Nat} {get : Nat → Nat → SV} {val : Value} (h : RO w X (.row n k get) val) :
    ∃ (A : Option Addr) (c : Nat) (news : List Value), val = .slice A n c ∧ n ≤ c ∧ news.length = n * k ∧ (0 < n → ∃ g o, A = some ⟨g, o, none⟩ ∧ ∀ q u, news[q]? = some u → w.cell? ⟨g, o + q, none⟩ = some u) ∧ (∀ u ∈ news, u.oneCell' = true) ∧
      ∀ i, i < n → ∀ t, t < k → ∃ u, news[i * k + t]? = some u ∧ u.oneCell' = true ∧ RO w X (get i t) u := by
  obtain ⟨A, c, rfl, hn, hc, hr⟩ := h
  rcases Nat.eq_zero_or_pos n with h0 | h0
  · subst h0
    exact ⟨A, c, [], rfl, hn, by simp, fun h => absurd h (by omega), fun u hu => by simp at hu, fun i hi => absurd hi (by omega)⟩
  · obtain ⟨g, o, rfl, hg, hX, hr⟩ := hr h0
    rcases Nat.eq_zero_or_pos k with hk | hk
    · subst hk
      exact ⟨_, c, [], rfl, hn, by simp, fun _ => ⟨g, o, rfl, fun q u h => by simp at h⟩, fun u hu => by simp at hu, fun i hi t ht => absurd ht (by omega)⟩
    · let f : Nat → Value := fun q => (w.cell? ⟨g, o + q, none⟩).getD undef
      have hq : ∀ q, q < n * k → ∃ u, w.cell? ⟨g, o + q, none⟩ = some u ∧ u.oneCell' = true := fun q hq => by
        have h1 : q / k < n := Nat.div_lt_of_lt_mul (by rw [Nat.mul_comm]; exact hq)
        obtain ⟨u, hu, h2, _⟩ := hr (q / k) h1 (q % k) (Nat.mod_lt _ hk)
        have e : q / k * k + q % k = q := by rw [Nat.mul_comm]; exact Nat.div_add_mod q k
        rw [e] at hu
        exact ⟨u, hu, h2⟩
      refine ⟨_, c, (List.range (n * k)).map f, rfl, hn, by simp, fun _ => ⟨g, o, rfl, fun q u h => ?_⟩, fun u hu => ?_, fun i hi t ht => ?_⟩
      · simp only [List.getElem?_map] at h
        by_cases h1 : q < n * k
        · rw [List.getElem?_range h1] at h
          simp only [Option.map_some, Option.some.injEq] at h
          obtain ⟨u', hu', _⟩ := hq q h1
          rw [← h]; simp only [f]; rw [hu']; rfl
        · rw [List.getElem?_eq_none (by simpa using h1)] at h; cases h
      · obtain ⟨q, hq1, rfl⟩ := List.mem_map.1 hu
        obtain ⟨u', hu', h2⟩ := hq q (by simpa using hq1)
        simp only [f]; rw [hu']; exact h2
      · have hlt : i * k + t < n * k := by
          have : (i + 1) * k ≤ n * k := Nat.mul_le_mul_right _ hi
          have e1 : (i + 1) * k = i * k + k := by rw [Nat.add_mul, Nat.one_mul]
          omega
        obtain ⟨u, hu, h2, h3⟩ := hr i hi t ht
        exact ⟨u, by simp [hlt, f, hu], h2, h3⟩
theorem run_appendOp {a : Act} {x y : Operand} {t : TypeId} {dst : Option Tmp} {ty : TypeId} {pos : String} {after : Array Edge} {gd : Option (Nat × Bool)} {w w' : World} {v' : Value}
    (h : (Builtin.append_ #[t, t] ty #[a.eval x, a.eval y]).run P w = .ok v' w') :
    (execOp a.eval { dst, op := .call { callee := .builtin .append, args := #[x, y], argTypes := #[t, t] }, type := ty, pos, after, guard := gd }).run P w = .ok (.value v') w' := by
  simp [execOp, resolve, invoke, builtin, h]
theorem t_app {ops : Array Oper} {rest : List Oper} {S : St} {K : St → Prop} {d : Tmp} {x y : Operand} {t : TypeId} {ty : TypeId} {pos : String} {after : Array Edge} {j n n' k m bytes : Nat} {get get2 : Nat → Nat → SV} {e : TypeId} (j' : Nat) (get' : Nat → Nat → SV)
    (he : ElemOk P t e k bytes) (hx : Val E S x (.own j)) (ho : lookO j S.owns = some (.arow n k get e)) (hy : Val E S y (.row m k get2)) (hf : S.fresh j' = true)
    (hn : n + m = n') (h63 : n + m ≤ maxLen) (hby : (n + m) * bytes ≤ 140737488355328)
    (hg : ∀ i, i < n + m → ∀ t, t < k → get' i t = if i < n then get i t else get2 (i - n) t)
    (hk : T P E ops rest ⟨(d, .own j') :: killS j S.slots, (j', .arow n' k get' e) :: killO j S.owns⟩ K) (hd : d < NN := by decide) :
    T P E ops ({ dst := some d, op := .call { callee := .builtin .append, args := #[x, y], argTypes := #[t, t] }, type := ty, pos, after, guard := none } :: rest) S K := by
  subst hn
  rintro a w ⟨b, hr⟩ Q hq
  have hxv : a.eval x = hdv (b j) := hx b a w hr
  obtain ⟨A, c, news, hyv, hmc, hl, hA, h1, hel⟩ := row_cells (hy b a w hr)
  obtain ⟨xs, hown, hel0⟩ := hr.owns j _ ho
  obtain ⟨A0, c0, hs0, _⟩ := hown.slice
  rw [hs0, show hdv (.slice A0 n c0) = .slice A0 n c0 from rfl, ← hs0] at hxv
  obtain ⟨v', w', hrun, h2, h3, h4, h5⟩ := run_append_R (P := P) (ty := ty) he hown hr.base_le hl hA h1 h63 hby (c := c)
  have hv' : hdv v' = v' := by
    obtain ⟨A1, c1, hs1, _⟩ := h2.slice
    rw [hs1]; rfl
  have hlen : xs.length = n * k := by
    rcases hown with ⟨_, _, hn, hxs⟩ | ⟨hown, _⟩
    · rw [hn, hxs]; simp
    · exact hown.1
  unfold wpList
  rw [if_pos (by rfl)]
  refine .inl (wp_of_run (run_appendOp (by rw [hxv, hyv]; exact hrun)) ?_)
  have hb := hr.regrow (j' := j') (get' := get') ho hf h3 h4 h5 h2 (fun i hi t ht => by
    rw [hg i hi t ht]
    by_cases hin : i < n
    · rw [if_pos hin]
      obtain ⟨u, hu, h6, h7⟩ := hel0 i hin t ht
      refine ⟨u, ?_, h6, h7⟩
      rw [List.getElem?_append_left]
      · exact hu
      · exact (List.getElem?_eq_some_iff.1 hu).1
    · rw [if_neg hin]
      obtain ⟨u, hu, h6, h7⟩ := hel (i - n) (by omega) t ht
      refine ⟨u, ?_, h6, h7⟩
      have e1 : i * k + t = n * k + ((i - n) * k + t) := by
        have : i * k = n * k + (i - n) * k := by rw [← Nat.add_mul]; congr 1; omega
        omega
      rw [List.getElem?_append_right (by rw [hlen]; omega), hlen, e1, Nat.add_sub_cancel_left]
      exact hu)
  refine hk _ _ ⟨_, hb.put (x := .own j') hd (show v' = hdv (setB b j' v' j') from by rw [setB_same, hv'])⟩ Q hq
theorem app_typed {α : Type} {c : α → Nat → SV} {d : α} {l m : List α} {k : Nat} : ∀ i, i < l.length + m.length → ∀ t, t < k → rowG c d (l ++ m) i t = if i < l.length then rowG c d l i t else rowG c d m (i - l.length) t := by
  intro i _ t _
  simp only [rowG, getD_app]
  split <;> rfl
theorem RepB.newown {b : Nat → Value} {S : St} {a : Act} {w : World} (h : RepB E b S a w) {j k : Nat} {get : Nat → Nat → SV} {e : TypeId} {A : Option Addr} (hf : S.fresh j = true) :
    RepB E (setB b j (.slice A 0 0)) ⟨S.slots, (j, .arow 0 k get e) :: S.owns⟩ a w :=
  h.add (Below.refl _ _) hf (fun g hg => by
    have hg : blk1 (.slice A 0 0) = some g := hg
    cases A <;> simp [blk1] at hg) fun X' _ _ _ => ⟨[], .inl ⟨A, setB_same _ _ _, rfl, rfl⟩, fun i hi => absurd hi (by omega)⟩
theorem own_val {b : Nat → Value} {j : Nat} {v : Value} (h : hdv v = v) {w : World} {X : Nat → Prop} : R w X (setB b j v) (.own j) v := by
  show v = hdv (setB b j v j)
  rw [setB_same, h]
theorem t_nilO {ops : Array Oper} {rest : List Oper} {S : St} {K : St → Prop} {d : Tmp} {ty : TypeId} {pos : String} {after : Array Edge} {op : Op} (j k : Nat) (get : Nat → Nat → SV) (e : TypeId) (hop : op = .assign (.const (.slice none 0 0)) ∨ op = .move (.const (.slice none 0 0)))
    (hf : S.fresh j = true) (hk : T P E ops rest ⟨(d, .own j) :: S.slots, (j, .arow 0 k get e) :: S.owns⟩ K) (hd : d < NN := by decide) :
    T P E ops ({ dst := some d, op, type := ty, pos, after, guard := none } :: rest) S K := by
  rintro a w ⟨b, hr⟩ Q hq
  unfold wpList
  rw [if_pos (by rfl)]
  refine .inl (wp_of_run (w' := w) (v := .slice none 0 0) ?_ ?_)
  · rcases hop with rfl | rfl <;> rfl
  · exact hk _ _ ⟨_, (hr.newown (k := k) (get := get) (e := e) (A := none) hf).put (x := .own j) hd (own_val rfl)⟩ Q hq
def mapS (f : SV → SV) : List (Nat × SV) → List (Nat × SV)
  | [] => []
  | p :: r => (p.1, f p.2) :: mapS f r
def dropM (f : SV → SV) (j : Nat) : List (Nat × Own) → List (Nat × Own)
  | [] => []
  | p :: r => match Nat.beq j p.1 with
    | true => dropM f j r
    | false => (p.1, p.2.map f) :: dropM f j r
theorem look_map {f : SV → SV} : ∀ {l : List (Nat × SV)} {s : Nat} {x : SV}, look s (mapS f l) = some x → ∃ z, look s l = some z ∧ x = f z
  | [], s, x, h => by simp [mapS, look] at h
  | (d, z) :: r, s, x, h => by
    simp only [mapS] at h
    rw [look_cons] at h ⊢
    split at h
    · injection h with h
      exact ⟨z, by rename_i e; rw [if_pos e], h.symm⟩
    · obtain ⟨z', hz, e⟩ := look_map h
      exact ⟨z', by rename_i e'; rw [if_neg e']; exact hz, e⟩
theorem lookO_dropM {f : SV → SV} {j : Nat} : ∀ {l : List (Nat × Own)} {s : Nat} {x : Own}, lookO s (dropM f j l) = some x → s ≠ j ∧ ∃ z, lookO s l = some z ∧ x = z.map f
  | [], s, x, h => by simp [dropM, lookO] at h
  | (d, z) :: r, s, x, h => by
    simp only [dropM] at h
    split at h
    · rename_i hb
      have hb := Nat.eq_of_beq_eq_true hb
      subst hb
      obtain ⟨h1, z', hz, e⟩ := lookO_dropM h
      exact ⟨h1, z', by rw [lookO_cons, if_neg h1]; exact hz, e⟩
    · rename_i hb
      rw [lookO_cons] at h ⊢
      split at h
      · rename_i e
        injection h with h
        exact ⟨fun e' => (by rw [← e', e] at hb; simp at hb), z, by rw [if_pos e], h.symm⟩
      · rename_i e
        obtain ⟨h1, z', hz, e2⟩ := lookO_dropM h
        exact ⟨h1, z', by rw [if_neg e]; exact hz, e2⟩
theorem weak_drop {S : St} (j : Nat) {oj : Own} (f : SV → SV) (ho : lookO j S.owns = some oj)
    (hf : ∀ (b : Nat → Value) (w : World) (X X' : Nat → Prop), OwnOk w X E.base b j oj → (∀ g, Bk (b j) g → ¬ X' g) → (∀ g, X' g → X g) → ∀ x v, R w X b x v → R w X' b (f x) v) : Weak E S ⟨mapS f S.slots, dropM f j S.owns⟩ := fun b a w hr => by
  have he : Ext (S.excl E b) w w := ⟨Nat.le_refl _, fun _ _ _ => rfl⟩
  have hX : ∀ g, St.excl ⟨mapS f S.slots, dropM f j S.owns⟩ E b g → S.excl E b g := by
    rintro g (hh | ⟨i, o, h1, h2⟩)
    · exact .inl hh
    · obtain ⟨_, z, hz, _⟩ := lookO_dropM h1
      exact .inr ⟨i, z, hz, h2⟩
  have hnX : ∀ g, Bk (b j) g → ¬ St.excl ⟨mapS f S.slots, dropM f j S.owns⟩ E b g := by
    rintro g hg (hh | ⟨i, o, h1, h2⟩)
    · exact hr.notX ho hg hh
    · obtain ⟨hij, z, hz, _⟩ := lookO_dropM h1
      exact hr.apart i j z _ hz ho hij g h2 hg
  have hR := hf b w _ _ (hr.owns j _ ho) hnX hX
  exact {
    size := hr.size
    defers := hr.defers
    below := hr.below
    slots := fun s x hx => by
      obtain ⟨z, hz, rfl⟩ := look_map hx
      exact hR _ _ (hr.slots s z hz)
    owns := fun i o hi => by
      obtain ⟨hij, z, hz, rfl⟩ := lookO_dropM hi
      exact (hr.owns i z hz).keep f (p := fun _ => True) rfl (Own.all_true fun _ => trivial) (fun _ _ _ => rfl) (fun x v _ h => hR x v h) (fun x v h => h.mono he (fun g _ hh => hX g hh))
    mine := fun i o hi => by
      obtain ⟨hij, z, hz, rfl⟩ := lookO_dropM hi
      exact hr.mine i z hz
    apart := fun p q op oq hp hq hne g hg => by
      obtain ⟨_, z, hz, _⟩ := lookO_dropM hp
      obtain ⟨_, z', hz', _⟩ := lookO_dropM hq
      exact hr.apart p q z z' hz hz' hne g hg
    old := hr.old }
def frz (j : Nat) (y : SV) : SV → SV
  | .own i => match Nat.beq i j with | true => y | false => .own i
  | .oe i k p off => match Nat.beq i j with | true => .junk | false => .oe i k p off
  | .sub i k p m => match Nat.beq i j with | true => .junk | false => .sub i k p m
  | .agg m get => .agg m fun t => frz j y (get t)
  | .tup m get => .tup m fun t => frz j y (get t)
  | .fn f m get => .fn f m fun t => frz j y (get t)
  | .grd c x => .grd c (frz j y x)
  | x => x
theorem frz_R {w : World} {X X' : Nat → Prop} {b : Nat → Value} {j : Nat} {y : SV} (hX : ∀ g, X' g → X g) (hy : R w X' b y (hdv (b j))) {x : SV} {val : Value} (h : R w X b x val) : R w X' b (frz j y x) val := by
  have he : Ext X w w := ⟨Nat.le_refl _, fun _ _ _ => rfl⟩
  induction x generalizing val with
  | own i =>
    simp only [frz]
    split
    · rename_i hb
      have hb := Nat.eq_of_beq_eq_true hb
      subst hb
      have : val = hdv (b i) := h
      rw [this]; exact hy
    · exact h
  | oe i k p off =>
    simp only [frz]
    split
    · trivial
    · exact h
  | sub i k p m =>
    simp only [frz]
    split
    · trivial
    · exact h
  | agg m get ih =>
    obtain ⟨cs, rfl, hm, hr⟩ := h
    refine ⟨cs, rfl, hm, fun t ht => ?_⟩
    obtain ⟨u, hu, h1, h2⟩ := hr t ht
    exact ⟨u, hu, h1, ih t h2⟩
  | tup m get ih =>
    obtain ⟨cs, rfl, hm, hr⟩ := h
    refine ⟨cs, rfl, hm, fun t ht => ?_⟩
    obtain ⟨u, hu, h2⟩ := hr t ht
    exact ⟨u, hu, ih t h2⟩
  | fn f m get ih =>
    obtain ⟨cs, rfl, hm, hr⟩ := h
    refine ⟨cs, rfl, hm, fun t ht => ?_⟩
    obtain ⟨u, hu, h2⟩ := hr t ht
    exact ⟨u, hu, ih t h2⟩
  | grd c x ih => exact ⟨fun hc => ih (h.1 hc), h.2⟩
  | v x => exact h.mono he (fun g _ hh => hX g hh)
  | row n k get ih => exact h.mono he (fun g _ hh => hX g hh)
  | el n k get i off ih => exact h.mono he (fun g _ hh => hX g hh)
  | bp i off => exact h
  | junk => trivial
  | abs p hp => exact h.mono he (fun g _ hh => hX g hh)
def frzS (j : Nat) (y : SV) : List (Nat × SV) → List (Nat × SV) := mapS (frz j y)
def frzO (j : Nat) (y : SV) : List (Nat × Own) → List (Nat × Own) := dropM (frz j y) j
theorem weak_frzG {S : St} (j : Nat) {oj : Own} (y : SV) (ho : lookO j S.owns = some oj) (hyy : ∀ (b : Nat → Value) (w : World) (X X' : Nat → Prop), OwnOk w X E.base b j oj → (∀ g, Bk (b j) g → ¬ X' g) → (∀ g, X' g → X g) → R w X' b y (hdv (b j))) : Weak E S ⟨frzS j y S.slots, frzO j y S.owns⟩ :=
  weak_drop j (frz j y) ho fun b w X X' h1 h2 h3 _ _ hr => frz_R h3 (hyy b w X X' h1 h2 h3) hr
theorem ownsR.row {w : World} {X' : Nat → Prop} {base : Nat} {e : TypeId} {k n : Nat} {v : Value} {xs : List Value} {get : Nat → Nat → SV} (h : ownsR w base e k v n xs) (hX : ∀ g, blk1 v = some g → ¬ X' g)
    (hc : ∀ i, i < n → ∀ t, t < k → ∃ u, xs[i * k + t]? = some u ∧ u.oneCell' = true ∧ RO w X' (get i t) u) : RO w X' (.row n k get) v := by
  rcases h with ⟨A, hv, hn, _⟩ | ⟨⟨hl, hv⟩, g', m', c', hv'⟩
  · exact ⟨A, 0, by rw [hv, hn], by omega, by simp [maxLen], fun h => absurd h (by omega)⟩
  · rcases hv with ⟨hv, hn⟩ | ⟨g, cap, cur, hv, hb, hh, hcap, hm, hs, ht⟩
    · exact ⟨none, 0, by rw [hv, hn], by omega, by simp [maxLen], fun h => absurd h (by omega)⟩
    · have hg : blk1 v = some g := by
        rw [hv'] at hv
        simp only [Value.slice.injEq, Option.some.injEq, Addr.mk.injEq, and_true] at hv
        rw [hv', ← hv.1]; rfl
      refine ⟨_, cap, hv, hcap, hm, fun _ => ⟨g, 0, rfl, (Array.getElem?_eq_some_iff.1 hh).1, hX g hg, fun i hi t htk => ?_⟩⟩
      obtain ⟨u, hu, h1, h2⟩ := hc i hi t htk
      refine ⟨u, ?_, h1, h2⟩
      rw [← ht, List.getElem?_take] at hu
      split at hu
      · rw [Nat.zero_add, cell_of_row w g _ cur e (0, 0) hh]; simpa using hu
      · cases hu
theorem weak_frz {S : St} (j : Nat) {n k : Nat} {get : Nat → Nat → SV} {e : TypeId} (ho : lookO j S.owns = some (.arow n k get e)) : Weak E S ⟨frzS j (.row n k get) S.slots, frzO j (.row n k get) S.owns⟩ :=
  weak_frzG j (.row n k get) ho fun b w X X' ⟨xs, hown, hc⟩ hnX hX => by
    obtain ⟨A, c, hs, _⟩ := hown.slice
    have e : hdv (b j) = b j := by rw [hs]; rfl
    rw [e]
    refine RO.toR (hown.row (fun g hg => hnX g ((Bk_slice hs).2 hg)) fun i hi t ht => ?_)
    obtain ⟨u, hu, h1, h2⟩ := hc i hi t ht
    exact ⟨u, hu, h1, h2.mono ⟨Nat.le_refl _, fun _ _ _ => rfl⟩ (fun g _ hh => hX g hh)⟩
theorem T.weak {ops : Array Oper} {rest : List Oper} {S S' : St} {K : St → Prop} (h : Weak E S S') (ht : T P E ops rest S' K) : T P E ops rest S K := fun a w ⟨b, hr⟩ Q hq => ht a w ⟨b, h b a w hr⟩ Q hq
theorem TQ.weak {ops : Array Oper} {rest : List Oper} {S S' : St} {K : St → Prop} (h : Weak E S S') (ht : TQ P E ops rest S' K) : TQ P E ops rest S K := fun b a w hr => ht b a w (h b a w hr)
theorem t_frz {ops : Array Oper} {rest : List Oper} {S : St} {K : St → Prop} (j : Nat) {n k : Nat} {get : Nat → Nat → SV} {e : TypeId} (ho : lookO j S.owns = some (.arow n k get e))
    (h : T P E ops rest ⟨frzS j (.row n k get) S.slots, frzO j (.row n k get) S.owns⟩ K) : T P E ops rest S K := h.weak (weak_frz j ho)
theorem c_frz {c : Code} {S : St} {Q : Exit → Act → World → Prop} (j : Nat) {n k : Nat} {get : Nat → Nat → SV} {e : TypeId} (ho : lookO j S.owns = some (.arow n k get e))
    (h : C P E c ⟨frzS j (.row n k get) S.slots, frzO j (.row n k get) S.owns⟩ Q) : C P E c S Q := (weak_frz j ho).c h
end Go.Eng
namespace Go.Eng
open Go.RowKit
variable {P : Program} {NN : Nat} {E : Env NN}
def AllN (p : Nat → Prop) : Nat → Prop
  | 0 => True
  | n + 1 => AllN p n ∧ p n
theorem AllN.at {p : Nat → Prop} : ∀ {n}, AllN p n → ∀ t, t < n → p t
  | n + 1, h, t, ht => by
    by_cases e : t = n
    · exact e ▸ h.2
    · exact AllN.at h.1 t (by omega)
theorem AllN.of {p : Nat → Prop} : ∀ {n}, (∀ t, t < n → p t) → AllN p n
  | 0, _ => trivial
  | n + 1, h => ⟨AllN.of fun t ht => h t (by omega), h n (by omega)⟩
theorem fill_one {place : Nat → Option (Nat × Nat)} {off : Nat → Nat} : ∀ (parts : List (Nat × Value)) (cells : Array Value), (∀ p ∈ parts, place p.1 = some (off p.1, 1) ∧ p.2.oneCell' = true ∧ off p.1 < cells.size) →
    ∃ cs, Instr.fill place cells parts = some cs ∧ cs.size = cells.size ∧ ∀ q, cs[q]? = match (parts.reverse.find? fun p => off p.1 == q) with | some p => some p.2 | none => cells[q]?
  | [], cells, _ => ⟨cells, rfl, rfl, fun q => rfl⟩
  | (i, v) :: rest, cells, h => by
    obtain ⟨h1, h2, h3⟩ := h (i, v) (by simp)
    have hc := cells_one h2
    obtain ⟨cs, hf, hs, hq⟩ := fill_one rest (cells.setIfInBounds (off i) v) (fun p hp => by
      obtain ⟨a1, a2, a3⟩ := h p (by simp [hp])
      exact ⟨a1, a2, by simpa using a3⟩)
    refine ⟨cs, ?_, by simpa using hs, fun q => ?_⟩
    · simp only at h1 h3
      have h4 : ¬ off i + 1 > cells.size := by omega
      simpa [Instr.fill, h1, hc, h4] using hf
    · rw [hq q, List.reverse_cons, List.find?_append]
      cases hfind : rest.reverse.find? fun p => off p.1 == q with
      | some p => simp
      | none =>
        by_cases e : off i = q
        · subst e; simp [h3]
        · simp [e]
def partAt (off : Nat → Nat) (q : Nat) : List (Nat × SV) → Option SV
  | [] => none
  | p :: r => match partAt off q r with
    | some x => some x
    | none => match Nat.beq (off p.1) q with | true => some p.2 | false => none
def PVals {NN : Nat} (E : Env NN) (S : St) : List (Nat × Operand) → List (Nat × SV) → Prop
  | [], [] => True
  | x :: xs, s :: ss => (x.1 = s.1 ∧ Val E S x.2 s.2 ∧ s.2.one = true) ∧ PVals E S xs ss
  | _, _ => False
theorem pvals_find {S : St} {b : Nat → Value} {a : Act} {w : World} (hr : RepB E b S a w) {off : Nat → Nat} {q : Nat} : ∀ {xs : List (Nat × Operand)} {ss : List (Nat × SV)}, PVals E S xs ss →
    (match partAt off q ss with
      | some x => ∃ p, (((xs.map fun y => (y.1, a.eval y.2)).reverse).find? fun p => off p.1 == q) = some p ∧ p.2.oneCell' = true ∧ R w (S.excl E b) b x p.2
      | none => (((xs.map fun y => (y.1, a.eval y.2)).reverse).find? fun p => off p.1 == q) = none)
  | [], [], _ => by simp [partAt]
  | (i, x) :: xs, (i', s) :: ss, h => by
    obtain ⟨⟨hi, hv, h1⟩, hrest⟩ := h
    simp only at hi hv h1
    subst hi
    have ih := pvals_find hr (off := off) (q := q) hrest
    simp only [partAt]
    cases hp : partAt off q ss with
    | some y =>
      rw [hp] at ih
      obtain ⟨p, h2, h3, h4⟩ := ih
      refine ⟨p, ?_, h3, h4⟩
      simp only [List.map_cons, List.reverse_cons, List.find?_append, h2]
      rfl
    | none =>
      rw [hp] at ih
      simp only [List.map_cons, List.reverse_cons, List.find?_append, ih]
      by_cases e : off i = q
      · have hb : Nat.beq (off i) q = true := by rw [e]; simp
        rw [hb]
        refine ⟨(i, a.eval x), by simp [e], (hv b a w hr).one h1, hv b a w hr⟩
      · have hb : Nat.beq (off i) q = false := by
          cases hb : Nat.beq (off i) q
          · rfl
          · exact absurd (Nat.eq_of_beq_eq_true hb) e
        rw [hb]
        simp [e]
  | [], _ :: _, h => h.elim
  | _ :: _, [], h => h.elim
theorem q_build {S : St} {t : TypeId} {xs : List (Nat × Operand)} (ss : List (Nat × SV)) (off : Nat → Nat) {m : Nat} {zget : Nat → SV} (get : Nat → SV)
    (hz : ZeroOk P t m zget) (hb : ∀ (w : World) (parts : List (Nat × Value)) (z : Value) (cs : Array Value), (zeroValue t).run P w = .ok z w → Instr.fill (fun i => if i < m then some (off i, 1) else none) z.cells parts = some cs → (∀ p ∈ parts, p.1 < m) → (Instr.build t parts.toArray).run P w = .ok (.agg cs) w)
    (hp : PVals E S xs ss) (hlt : ∀ p ∈ xs, p.1 < m ∧ off p.1 < m)
    (hg : AllN (fun q => get q = match partAt off q ss with | some x => x | none => zget q) m) :
    OpQ P E S (.build t xs.toArray) (.agg m get) := fun b a w hr dst ty pos after gd => by
  obtain ⟨z, hz1, hz2, hz3⟩ := hz
  have hone : ∀ {xs : List (Nat × Operand)} {ss : List (Nat × SV)}, PVals E S xs ss → ∀ p ∈ xs.map (fun y => (y.1, a.eval y.2)), p.2.oneCell' = true := by
    intro xs
    induction xs with
    | nil => intro ss _ p hp; simp at hp
    | cons x xs ih =>
      intro ss h p hp
      cases ss with
      | nil => exact h.elim
      | cons s ss =>
        simp only [List.map_cons, List.mem_cons] at hp
        rcases hp with rfl | hp
        · exact (h.1.2.1 b a w hr).one h.1.2.2
        · exact ih h.2 p hp
  obtain ⟨cs, hf, hs, hq⟩ := fill_one (place := fun i => if i < m then some (off i, 1) else none) (off := off) (xs.map fun y => (y.1, a.eval y.2)) z.cells (fun p hp => by
    obtain ⟨x, hx, rfl⟩ := List.mem_map.1 hp
    refine ⟨by simp [(hlt x hx).1], hone ‹_› _ hp, by rw [hz2]; exact (hlt x hx).2⟩)
  refine ⟨.agg cs, fun w' hw' => ?_, cs, rfl, by omega, fun t ht => ?_⟩
  · have := hb w' (xs.map fun y => (y.1, a.eval y.2)) z cs (hz1 w') hf (fun p hp => by
      obtain ⟨x, hx, rfl⟩ := List.mem_map.1 hp
      exact (hlt x hx).1)
    simp [execOp, this]
  · have h1 := hg.at t ht
    have h2 := pvals_find hr (off := off) (q := t) hp
    rw [hq t]
    cases hpa : partAt off t ss with
    | some x =>
      rw [hpa] at h1 h2
      obtain ⟨p, h3, h4, h5⟩ := h2
      rw [h3]
      exact ⟨p.2, rfl, h4, h1 ▸ h5⟩
    | none =>
      rw [hpa] at h1 h2
      rw [h2]
      obtain ⟨u, hu, h3, h4⟩ := hz3 t ht
      exact ⟨u, hu, h3, h1 ▸ (h4 _ _).toR⟩
def SVals {NN : Nat} (E : Env NN) (S : St) (k : Nat) : Nat → List (Nat × Operand) → List (Nat → SV) → Prop
  | _, [], [] => True
  | s, x :: xs, g :: gs => (x.1 = s ∧ (Val E S x.2 (.agg k g) ∨ (k = 1 ∧ Val E S x.2 (g 0) ∧ (g 0).one = true)) ∧ allB (fun t => (g t).isRO) k = true) ∧ SVals E S k (s + 1) xs gs
  | _, _, _ => False
theorem foldl_set (off : Nat) : ∀ (vs : List Value) (j : Nat) (cells : Array Value), ((vs.zipIdx j).foldl (fun cs p => cs.setIfInBounds (off + p.2) p.1) cells).size = cells.size ∧
    ∀ q, ((vs.zipIdx j).foldl (fun cs p => cs.setIfInBounds (off + p.2) p.1) cells)[q]? = if off + j ≤ q ∧ q < off + j + vs.length ∧ q < cells.size then vs[q - (off + j)]? else cells[q]?
  | [], j, cells => ⟨rfl, fun q => by rw [if_neg (by simp only [List.length_nil]; omega)]; rfl⟩
  | v :: vs, j, cells => by
    obtain ⟨h1, h2⟩ := foldl_set off vs (j + 1) (cells.setIfInBounds (off + j) v)
    simp only [List.zipIdx_cons, List.foldl_cons, List.length_cons]
    refine ⟨by simpa using h1, fun q => ?_⟩
    rw [h2 q]
    by_cases e : q = off + j
    · subst e
      rw [if_neg (by omega)]
      by_cases hlt : off + j < cells.size
      · rw [if_pos (by omega), Array.getElem?_setIfInBounds, if_pos rfl, if_pos hlt, Nat.sub_self]; rfl
      · rw [if_neg (by omega), Array.getElem?_eq_none (by simpa using hlt), Array.getElem?_eq_none (by omega)]
    · by_cases h3 : off + (j + 1) ≤ q ∧ q < off + (j + 1) + vs.length ∧ q < cells.size
      · rw [if_pos (by simpa using h3), if_pos (by omega)]
        have e2 : q - (off + j) = (q - (off + (j + 1))) + 1 := by omega
        rw [e2, List.getElem?_cons_succ]
      · rw [if_neg (by simpa using h3), if_neg (by omega), Array.getElem?_setIfInBounds, if_neg (fun h => e h.symm)]
theorem fill_rows {k : Nat} : ∀ (parts : List (Nat × Value)) (s : Nat) (cells : Array Value), (∀ i p, parts[i]? = some p → p.1 = s + i ∧ p.2.cells.size = k) → (s + parts.length) * k ≤ cells.size →
    ∃ cs, Instr.fill (fun i => some (i * k, k)) cells parts = some cs ∧ cs.size = cells.size ∧ (∀ i p, parts[i]? = some p → ∀ t, t < k → cs[(s + i) * k + t]? = p.2.cells[t]?) ∧ (∀ q, q < s * k → cs[q]? = cells[q]?)
  | [], s, cells, _, _ => ⟨cells, rfl, rfl, fun i p h => by simp at h, fun _ _ => rfl⟩
  | (i0, v) :: rest, s, cells, h, hs => by
    obtain ⟨h1, h2⟩ := h 0 (i0, v) rfl
    simp only [Nat.add_zero] at h1 h2
    subst h1
    simp only [List.length_cons] at hs
    have hk1 : (i0 + 1) * k ≤ cells.size := Nat.le_trans (Nat.mul_le_mul_right _ (by omega)) hs
    have e1 : (i0 + 1) * k = i0 * k + k := by rw [Nat.add_mul, Nat.one_mul]
    obtain ⟨f1, f2⟩ := foldl_set (i0 * k) v.cells.toList 0 cells
    have hzi : v.cells.zipIdx.foldl (fun cs p => cs.setIfInBounds (i0 * k + p.2) p.1) cells = ((v.cells.toList.zipIdx 0).foldl (fun cs p => cs.setIfInBounds (i0 * k + p.2) p.1) cells) := by
      rw [← Array.foldl_toList]; simp
    obtain ⟨cs, g1, g2, g3, g4⟩ := fill_rows rest (i0 + 1) (v.cells.zipIdx.foldl (fun cs p => cs.setIfInBounds (i0 * k + p.2) p.1) cells)
      (fun i p hp => by
        have := h (i + 1) p (by simpa using hp)
        exact ⟨by omega, this.2⟩) (by rw [hzi, f1]; have : (i0 + 1 + rest.length) * k = (i0 + (rest.length + 1)) * k := by congr 1; omega
                                      omega)
    have hfs : cs.size = cells.size := by rw [g2, hzi, f1]
    refine ⟨cs, ?_, hfs, fun i p hp t ht => ?_, fun q hq => ?_⟩
    · have h5 : ¬ i0 * k + k > cells.size := by omega
      simp only [Instr.fill, h2, ne_eq, not_true_eq_false, decide_false, Bool.false_or, h5]
      exact g1
    · cases i with
      | zero =>
        simp only [List.getElem?_cons_zero, Option.some.injEq] at hp
        subst hp
        simp only [Nat.add_zero]
        rw [g4 _ (by omega), hzi, f2, if_pos (by simp only [Array.length_toList, h2]; omega)]
        simp
      | succ i =>
        have := g3 i p (by simpa using hp) t ht
        have e2 : (i0 + (i + 1)) = (i0 + 1 + i) := by omega
        rw [e2]; exact this
    · rw [g4 q (by omega), hzi, f2, if_neg (by omega)]
theorem svals_at {S : St} {k : Nat} {b : Nat → Value} {a : Act} {w : World} (hr : RepB E b S a w) : ∀ {s : Nat} {xs : List (Nat × Operand)} {gs : List (Nat → SV)}, SVals E S k s xs gs → ∀ i p, (xs.map fun y => (y.1, a.eval y.2))[i]? = some p →
    p.1 = s + i ∧ p.2.cells.size = k ∧ ∃ g, gs[i]? = some g ∧ ∀ t, t < k → ∃ u, p.2.cells[t]? = some u ∧ u.oneCell' = true ∧ RO w (S.excl E b) (g t) u
  | s, [], [], _, i, p, hp => by simp at hp
  | s, (i0, x) :: xs, g :: gs, h, i, p, hp => by
    obtain ⟨⟨h1, h2, h3⟩, h4⟩ := h
    simp only at h1 h2
    subst h1
    cases i with
    | zero =>
      simp only [List.map_cons, List.getElem?_cons_zero, Option.some.injEq] at hp
      subst hp
      refine ⟨rfl, ?_⟩
      rcases h2 with h2 | ⟨rfl, h2, h5⟩
      · obtain ⟨cs, hv, hm, hc⟩ := h2 b a w hr
        simp only [hv, Value.cells]
        refine ⟨hm, g, rfl, fun t ht => ?_⟩
        obtain ⟨u, hu, h6, h7⟩ := hc t ht
        exact ⟨u, hu, h6, h7.toRO (allB_iff h3 t ht)⟩
      · have hv := h2 b a w hr
        have h6 := hv.one h5
        simp only [cells_one h6]
        refine ⟨rfl, g, rfl, fun t ht => ?_⟩
        have : t = 0 := by omega
        subst this
        exact ⟨_, rfl, h6, hv.toRO (allB_iff h3 0 (by omega))⟩
    | succ i =>
      have := svals_at hr h4 i p (by simpa using hp)
      exact ⟨by omega, this.2.1, by simpa using this.2.2⟩
  | _, [], _ :: _, h, _, _, _ => h.elim
  | _, _ :: _, [], h, _, _, _ => h.elim
end Go.Eng
namespace Go.Eng
open Go.RowKit
variable {P : Program} {NN : Nat} {E : Env NN}
def OpW (P : Program) {NN : Nat} (E : Env NN) (S : St) (op : Op) (x : SV) : Prop :=
  ∀ b a w, RepB E b S a w → ∀ dst ty pos after gd, ∃ v w', (execOp a.eval { dst, op, type := ty, pos, after, guard := gd }).run P w = .ok (.value v) w' ∧ Below w.heap.size w w' ∧ R w' (S.excl E b) b x v
theorem OpQ.toW {S : St} {op : Op} {x : SV} (h : OpQ P E S op x) : OpW P E S op x := fun b a w hr dst ty pos after gd => by
  obtain ⟨v, h1, h2⟩ := h b a w hr dst ty pos after gd
  exact ⟨v, w, h1 w (Below.refl _ _), Below.refl _ _, h2⟩
theorem t_w {ops : Array Oper} {rest : List Oper} {S : St} {K : St → Prop} {d : Tmp} {op : Op} {ty : TypeId} {pos : String} {after : Array Edge} {x : SV} (h : OpW P E S op x) (hk : T P E ops rest (nextQ S d x) K) (hd : d < NN := by decide) :
    T P E ops ({ dst := some d, op, type := ty, pos, after, guard := none } :: rest) S K := by
  rintro a w ⟨b, hr⟩ Q hq
  obtain ⟨v, w', h1, h2, h3⟩ := h b a w hr (some d) ty pos after none
  unfold wpList
  rw [if_pos (by rfl)]
  exact .inl (wp_of_run h1 (hk _ _ ⟨b, (hr.world h2).put hd h3⟩ Q hq))
theorem t_wG {ops : Array Oper} {rest : List Oper} {S : St} {K : St → Prop} {d : Tmp} {op : Op} {ty : TypeId} {pos : String} {after : Array Edge} {x : SV} {gd : Nat × Bool} {c : Bool} (hg : Guard E S ops gd c) 
    (h : c = true → OpW P E S op x) (hk : T P E ops rest (nextQ S d (.grd c x)) K) (hd : d < NN := by decide) :
    T P E ops ({ dst := some d, op, type := ty, pos, after, guard := some gd } :: rest) S K := by
  rintro a w ⟨b, hr⟩ Q hq
  unfold wpList
  rw [hg b a w hr _ rfl]
  cases c with
  | false => exact hk _ _ ⟨b, hr.put hd ⟨(fun h => by cases h), fun _ => rfl⟩⟩ Q hq
  | true =>
    obtain ⟨v, w', h1, h2, h3⟩ := h rfl b a w hr (some d) ty pos after (some gd)
    exact .inl (wp_of_run h1 (hk _ _ ⟨b, (hr.world h2).put hd ⟨fun _ => h3, fun h => by cases h⟩⟩ Q hq))
theorem w_bs {S : St} {t e : TypeId} {n k : Nat} {xs : List (Nat × Operand)} {zget : Nat → SV} (gs : List (Nat → SV)) (get : Nat → Nat → SV)
    (ht : P.underlying t = some (.slice e)) (hs : ∀ w, (sizeOf e).run P w = .ok k w) (hz : ZeroOk P e k zget) (hk0 : 0 < k) (hn : n = xs.length) (hbig : n * k ≤ 16777216)
    (hp : SVals E S k 0 xs gs) (hg : AllN (fun i => AllN (fun t => get i t = (gs.getD i fun _ => .junk) t) k) n) :
    OpW P E S (.buildSlice t n xs.toArray) (.row n k get) := by
  intro b a w hr dst ty pos after gd
  obtain ⟨z, hz1, hz2, hz3⟩ := hz
  have hat := svals_at hr hp
  have hlen : (xs.map fun y => (y.1, a.eval y.2)).length = n := by simp [hn]
  obtain ⟨cs, hf, hcs, hc, _⟩ := fill_rows (k := k) (xs.map fun y => (y.1, a.eval y.2)) 0 ((Array.range (n * k)).map fun q => z.cells[q % z.cells.size]!) (fun i p hp => ⟨(hat i p hp).1, (hat i p hp).2.1⟩) (by simp [hlen])
  have hcs' : cs.size = n * k := by simpa using hcs
  have hw := below_alloc w (.cells cs e)
  refine ⟨.slice (some ⟨w.heap.size, 0, none⟩) n n, w.alloc (.cells cs e), ?_, hw, ⟨_, n, rfl, Nat.le_refl _, ?_, fun h0 => ⟨w.heap.size, 0, rfl, by simp, fun hX => ?_, fun i hi t ht => ?_⟩⟩⟩
  · have hbig' : ¬ n * k > 2 ^ 24 := by omega
    by_cases h0 : n * k = 0
    · have hn0 : n = 0 := by
        rcases Nat.mul_eq_zero.1 h0 with h | h
        · exact h
        · omega
      have hxs : xs = [] := List.eq_nil_of_length_eq_zero (by omega)
      subst hn0; subst hxs
      have hcs0 : cs = #[] := Array.eq_empty_of_size_eq_zero (by omega)
      subst hcs0
      simp [execOp, Instr.buildSlice, run_underlying ht, hs, Instr.fill, newRow, Array.range]
      congr 2
      exact Array.eq_empty_of_size_eq_zero (by simp)
    · simp only [execOp, Instr.buildSlice, Sem.run_bind, run_underlying ht, Result.andThen_ok, hs, Sem.run_ite, if_neg hbig', h0, if_false, Sem.run_pure, hz1]
      simp [hf, newRow]
  · have : n * 1 ≤ n * k := Nat.mul_le_mul_left _ hk0
    simp only [maxLen]; omega
  · have := hr.excl_lt hX; omega
  · have hi' : i < (xs.map fun y => (y.1, a.eval y.2)).length := by omega
    obtain ⟨h1, h2, g, h3, h4⟩ := hat i _ (List.getElem?_eq_getElem hi')
    obtain ⟨u, hu, h5, h6⟩ := h4 t ht
    refine ⟨u, ?_, h5, ?_⟩
    · have h7 := hc i _ (List.getElem?_eq_getElem hi') t ht
      rw [Nat.zero_add] at h7
      simp only [Nat.zero_add, World.cell?_alloc_new]
      rw [h7]; exact hu
    · have h8 := (hg.at i hi).at t ht
      simp only [List.getD_eq_getElem?_getD, h3, Option.getD_some] at h8
      rw [h8]
      exact h6.mono (.of_below hw) (fun _ _ hh => hh)
theorem t_bs0 {ops : Array Oper} {rest : List Oper} {S : St} {K : St → Prop} {d : Tmp} {t e : TypeId} {k : Nat} {ty : TypeId} {pos : String} {after : Array Edge} (j : Nat) (get : Nat → Nat → SV)
    (ht : P.underlying t = some (.slice e)) (hs : ∀ w, (sizeOf e).run P w = .ok k w) (hf : S.fresh j = true) (hk : T P E ops rest ⟨(d, .own j) :: S.slots, (j, .arow 0 k get e) :: S.owns⟩ K) (hd : d < NN := by decide) :
    T P E ops ({ dst := some d, op := .buildSlice t 0 #[], type := ty, pos, after, guard := none } :: rest) S K := by
  rintro a w ⟨b, hr⟩ Q hq
  unfold wpList
  rw [if_pos (by rfl)]
  refine .inl (wp_of_run (w' := w.alloc (.cells #[] e)) (v := .slice (some ⟨w.heap.size, 0, none⟩) 0 0) ?_ ?_)
  · simp [execOp, Instr.buildSlice, run_underlying ht, hs, Instr.fill, newRow, Array.range]
    congr 2
    exact Array.eq_empty_of_size_eq_zero (by simp)
  · exact hk _ _ ⟨_, ((hr.world (below_alloc w _)).newown (k := k) (get := get) (e := e) (A := some ⟨w.heap.size, 0, none⟩) hf).put (x := .own j) hd (own_val rfl)⟩ Q hq
theorem tq_isnil {ops : Array Oper} {rest : List Oper} {S : St} {K : St → Prop} {d : Tmp} {t t' : TypeId} {x : Operand} {n k : Nat} {get : Nat → Nat → SV} {ty : TypeId} {pos : String} {after : Array Edge} (hx : Val E S x (.row n k get))
    (heq : ∀ A n c w, (binOp .eql t (.slice A n c) (.slice none 0 0)).run P w = .ok (.bool A.isNone) w)
    (hk : ∀ β : Bool, (β = true → n = 0) → TQ P E ops rest (nextQ S d (.v (.bool β))) K) (hd : d < NN := by decide) :
    TQ P E ops ({ dst := some d, op := .binOp .eql t x (.const (.slice none 0 0)) t', type := ty, pos, after, guard := none } :: rest) S K := fun b a w hr => by
  obtain ⟨A, c, hv, _, _, h0⟩ := hx b a w hr
  unfold wpQuiet
  rw [if_pos (by rfl)]
  refine ⟨.bool A.isNone, fun w' hw' => ?_, hk A.isNone (fun hA => ?_) b _ w (hr.put hd rfl)⟩
  · unfold Oper.quietAt
    have h1 : a.eval (.const (.slice none 0 0)) = .slice none 0 0 := rfl
    simp only [execOp, hv, h1, eqGuard_at_slice, Sem.run_bind, Sem.run_pure, Result.andThen_ok, heq]
    exact ⟨rfl, rfl⟩
  · rcases Nat.eq_zero_or_pos n with h | h
    · exact h
    · obtain ⟨g, o, rfl, _⟩ := h0 h
      cases hA
theorem eqnil {t e : TypeId} (h : P.underlying t = some (.slice e)) : ∀ A n c w, (binOp .eql t (.slice A n c) (.slice none 0 0)).run P w = .ok (.bool A.isNone) w := by
  intro A n c w
  simp only [binOp]
  simp [run_equal_slice_nil w t e A n c h]
theorem weak_ownG {S : St} {j : Nat} {o o' : Own} (ho : lookO j S.owns = some o) (hg : ∀ (w : World) (X : Nat → Prop) (b : Nat → Value), OwnOk w X E.base b j o → OwnOk w X E.base b j o') : Weak E S ⟨S.slots, (j, o') :: S.owns⟩ := fun b a w hr =>
  hr.set ho ⟨rfl, rfl, rfl, Nat.le_refl _⟩ (fun _ _ _ => rfl) fun X hX _ _ => hg _ _ _ ((hr.owns j o ho).mono hX)
theorem weak_own {S : St} {j n n' k : Nat} {get get' : Nat → Nat → SV} {e : TypeId} (ho : lookO j S.owns = some (.arow n k get e)) (hn : n = n') (hg : ∀ i, i < n' → ∀ t, t < k → get i t = get' i t) :
    Weak E S ⟨S.slots, (j, .arow n' k get' e) :: S.owns⟩ := weak_ownG ho fun w X b ⟨xs, h1, h2⟩ => by
  subst hn
  refine ⟨xs, h1, fun i hi t ht => ?_⟩
  obtain ⟨u, hu, h3, h4⟩ := h2 i hi t ht
  exact ⟨u, hu, h3, hg i hi t ht ▸ h4⟩
theorem c_own {c : Code} {S : St} {Q : Exit → Act → World → Prop} (j : Nat) {n n' k : Nat} {get : Nat → Nat → SV} (get' : Nat → Nat → SV) {e : TypeId} (ho : lookO j S.owns = some (.arow n k get e)) (hn : n = n') (hg : ∀ i, i < n' → ∀ t, t < k → get i t = get' i t)
    (h : C P E c ⟨S.slots, (j, .arow n' k get' e) :: S.owns⟩ Q) : C P E c S Q := (weak_own ho hn hg).c h
theorem len_app {α : Type} (l m : List α) : l.length + m.length = (l ++ m).length := (List.length_append).symm
theorem set_typed {α : Type} {c : α → Nat → SV} {d : α} {l : List α} {i : Nat} {y : α} {off k : Nat} (_hi : i < l.length) (h : ∀ t, t < k → t ≠ off → c y t = c (l.getD i d) t) :
    ∀ i', i' < l.length → ∀ t, t < k → (i' ≠ i ∨ t ≠ off) → rowG c d (l.set i y) i' t = rowG c d l i' t := by
  intro i' hi' t ht hne
  simp only [rowG, List.getD_eq_getElem?_getD, List.getElem?_set]
  by_cases e : i = i'
  · subst e
    rw [if_pos rfl, if_pos hi']
    have := h t ht (by rcases hne with h | h; exact absurd rfl h; exact h)
    simpa [List.getD_eq_getElem?_getD] using this
  · rw [if_neg e]
theorem set_at {α : Type} {c : α → Nat → SV} {d : α} {l : List α} {i : Nat} {y : α} {off : Nat} {x : SV} (hi : i < l.length) (h : c y off = x) : rowG c d (l.set i y) i off = x := by
  simp only [rowG, List.getD_eq_getElem?_getD, List.getElem?_set, if_pos hi]
  exact h
end Go.Eng
namespace Go.Eng
open Go.RowKit Go.ChangeShapes Go.WideShapes Go.Deep
def Opens (P : Program) (t : TypeId) (m : Nat) {α : Type} (ok : α → Prop) (sv : α → Nat → SV) : Prop :=
  ∀ {H : Type} (enc : TypeId × Value → H) (w : World) (base : Nat) (spare : Nat → Bool) (held : Bool) (fuel : Nat) (cs : List Value) (x : DataW H × List MemPlace), DataW.trod enc P w base spare held fuel t cs = some x →
    (∀ p ∈ x.2, p.block < w.heap.size) → (∀ n ∈ x.1.weights P t, n ≤ reachBytes) → cs.length = m ∧ ∃ a, ok a ∧ ∀ i, i < m → ∃ u, cs[i]? = some u ∧ u.oneCell' = true ∧ RO w (fun _ => False) (sv a i) u
def okInt (n : Int) : Prop := -9223372036854775808 ≤ n ∧ n ≤ 9223372036854775807
theorem opens_int {P : Program} {t : TypeId} (ht : P.underlying t = some (.int .i64)) : Opens P t 1 okInt fun n _ => iv n := fun enc w base spare held fuel cs x h hlt hwt => by
  obtain ⟨n, rfl, _, hw⟩ := DataW.trod_int ht h
  refine ⟨rfl, n, ?_, fun i hi => ?_⟩
  · show _ ∧ _
    simpa [Lit.wf, IntKind.min, IntKind.max, IntKind.signed, IntKind.bits] using hw
  · obtain rfl : i = 0 := by omega
    exact ⟨_, rfl, rfl, rfl⟩
theorem opens_bool {P : Program} {t : TypeId} (ht : P.underlying t = some .bool) : Opens P t 1 (fun _ : Bool => True) fun n _ => bv n := fun enc w base spare held fuel cs x h hlt hwt => by
  obtain ⟨n, rfl, _⟩ := DataW.trod_bool ht h
  refine ⟨rfl, n, trivial, fun i hi => ?_⟩
  obtain rfl : i = 0 := by omega
  exact ⟨_, rfl, rfl, rfl⟩
theorem list_choice {α : Type} {p : Nat → α → Prop} : ∀ {n : Nat}, (∀ i, i < n → ∃ a, p i a) → ∃ l : List α, l.length = n ∧ ∀ i (h : i < l.length), p i l[i]
  | 0, _ => ⟨[], rfl, fun _ h => absurd h (Nat.not_lt_zero _)⟩
  | n + 1, hp => by
    obtain ⟨l, h1, h2⟩ := list_choice (n := n) fun i hi => hp i (by omega)
    obtain ⟨a, ha⟩ := hp n (by omega)
    refine ⟨l ++ [a], by simp [h1], fun i hi => ?_⟩
    by_cases e : i < l.length
    · rw [List.getElem_append_left e]; exact h2 i e
    · have : i = l.length := by simp at hi; omega
      subst this
      simp only [List.getElem_append_right (Nat.le_refl _), Nat.sub_self, List.getElem_cons_zero]
      exact h1 ▸ ha
theorem weights_mem_all {H : Type} {P : Program} {e : TypeId} : ∀ {ds : List (DataW H)} {d : DataW H}, d ∈ ds → ∀ n ∈ d.weights P e, n ∈ DataW.weightsAll P e ds
  | _ :: _, _, .head _, n, hn => by simp only [DataW.weightsAll, List.mem_append]; exact .inl hn
  | _ :: _, _, .tail _ h, n, hn => by simp only [DataW.weightsAll, List.mem_append]; exact .inr (weights_mem_all h n hn)
theorem opens_sliceW {P : Program} {t e : TypeId} {k by_ : Nat} {α : Type} {ok : α → Prop} {sv : α → Nat → SV} (d : α) (ht : P.underlying t = some (.slice e)) (he : Opens P e k ok sv) (hC : P.cellsOf e = k) (hk : 0 < k) (hB : P.bytesOf e = by_) :
    Opens P t 1 (fun l : List α => l.length * by_ ≤ reachBytes ∧ l.length ≤ maxLen ∧ ∀ x ∈ l, ok x) fun l _ => .row l.length k (rowG sv d l) := fun enc w base spare held fuel cs x h hlt hwt => by
  rcases Go.Deep.open_slice ht h with ⟨rfl, rfl⟩ | ⟨a, len, cap, m, n, D, Pl, rfl, hb, hl, hm, hmm, rfl, hel⟩
  · refine ⟨rfl, [], ⟨by simp, Nat.zero_le _, fun x hx => (by cases hx)⟩, fun i hi => ?_⟩
    obtain rfl : i = 0 := by omega
    exact ⟨_, rfl, rfl, none, 0, rfl, Nat.le_refl _, Nat.zero_le _, fun h => absurd h (Nat.lt_irrefl 0)⟩
  · have hlm : len ≤ m := by rw [hmm]; split <;> omega
    have hall : ∀ i, i < len → ∃ y : α, ok y ∧ ∀ j, j < k → ∃ u, w.cell? (a.add (i * k + j)) = some u ∧ u.oneCell' = true ∧ RO w (fun _ => False) (sv y j) u := fun i hi => by
      obtain ⟨cs', hc, htr⟩ := hel i (by omega)
      rw [hC] at hc
      obtain ⟨_, hcl, hat⟩ := World.cells?_some hc
      obtain ⟨_, y, hy, hj⟩ := he enc w base spare held n cs' _ htr (fun p hp => hlt p (by
        simp only [List.mem_append, List.mem_flatMap, List.mem_range]
        exact .inr ⟨i, by omega, hp⟩)) (fun n hn => hwt n (by
        simp only [DataW.weights, ht, List.mem_cons, List.mem_append]
        exact .inr (.inl (weights_mem_all (List.mem_map.2 ⟨i, List.mem_range.2 hi, rfl⟩) n hn))))
      refine ⟨y, hy, fun j hj' => ?_⟩
      obtain ⟨u, hu, h1, h2⟩ := hj j hj'
      have := hat j hj'
      rw [Go.Deep.add_add] at this
      exact ⟨u, this.trans hu, h1, h2⟩
    obtain ⟨l, hll, hlp⟩ := list_choice hall
    subst hll
    refine ⟨rfl, l, ⟨?_, by omega, fun y hy => ?_⟩, fun i hi => ?_⟩
    · have := hwt _ (by simp only [DataW.weights, ht]; exact .head _)
      simp only [List.length_map, List.length_range, hB] at this
      exact Nat.le_trans (Nat.mul_le_mul_right _ (Nat.le_add_right _ _)) this
    · obtain ⟨i, hi, rfl⟩ := List.mem_iff_getElem.1 hy
      exact (hlp i hi).1
    · obtain rfl : i = 0 := by omega
      refine ⟨_, rfl, rfl, some a, cap, rfl, hl, hm, fun h0 => ?_⟩
      obtain ⟨u, hu, _⟩ := (hlp 0 h0).2 0 hk
      have hsp : a.spot = none := by
        have hu' : w.cell? a = some u := by simpa [Addr.add] using hu
        unfold World.cell? at hu'
        split at hu'
        · split at hu'
          · cases hu'
          · rename_i hs; simpa using hs
        · cases hu'
      obtain ⟨b, o, s⟩ := a
      simp only at hsp
      subst hsp
      refine ⟨b, o, rfl, ?_, fun hf => hf, fun i hi t ht => ?_⟩
      · have hu' : w.cell? ⟨b, o, none⟩ = some u := by simpa [Addr.add] using hu
        unfold World.cell? at hu'
        split at hu'
        · rename_i hh; exact (Array.getElem?_eq_some_iff.1 hh).1
        · cases hu'
      · obtain ⟨u, hu, h1, h2⟩ := (hlp i hi).2 t ht
        refine ⟨u, ?_, h1, ?_⟩
        · have e : (⟨b, o + (i * k + t), none⟩ : Addr) = Addr.add ⟨b, o, none⟩ (i * k + t) := by unfold Addr.add; split <;> simp_all
          rw [e]; exact hu
        · have e : rowG sv d l i t = sv l[i] t := by simp [rowG, List.getD_eq_getElem?_getD, hi]
          rw [e]; exact h2
theorem Opens.mono {P : Program} {t : TypeId} {m : Nat} {α : Type} {ok ok' : α → Prop} {sv : α → Nat → SV} (h : Opens P t m ok sv) (hi : ∀ a, ok a → ok' a) : Opens P t m ok' sv := fun enc w base spare held fuel cs x h1 hlt hwt => by
  obtain ⟨q1, a, q2, q3⟩ := h enc w base spare held fuel cs x h1 hlt hwt
  exact ⟨q1, a, hi a q2, q3⟩
theorem struct_at {P : Program} {t : TypeId} {fs : Array Field} (he : P.underlying t = some (.struct fs)) (hone : oneCellFields P fs = true) (hC : P.cellsOf t = fs.size) {H : Type} {enc : TypeId × Value → H} {w : World} {base : Nat} {spare : Nat → Bool}
    {held : Bool} {fuel : Nat} {cs : List Value} {x : DataW H × List MemPlace} (h : DataW.trod enc P w base spare held fuel t cs = some x) (hlt : ∀ p ∈ x.2, p.block < w.heap.size) (hwt : ∀ n ∈ x.1.weights P t, n ≤ reachBytes) :
    cs.length = fs.size ∧ ∀ (j : Nat) (f : Field), fs[j]? = some f → ∀ {α : Type} {ok : α → Prop} {sv : α → Nat → SV}, Opens P f.type 1 ok sv → ∃ a, ok a ∧ ∃ u, cs[j]? = some u ∧ u.oneCell' = true ∧ RO w (fun _ => False) (sv a 0) u := by
  obtain ⟨ys, n', _, rfl, hlen, hyl, hf⟩ := DataW.trod_struct he h
  rw [hC] at hlen
  refine ⟨hlen, fun j f hj α ok sv hop => ?_⟩
  obtain ⟨ho, hk⟩ := hone_of hone j f hj
  have hjl : j < fs.size := (Array.getElem?_eq_some_iff.1 hj).1
  have h1 := hf j f hj
  rw [ho, hk] at h1
  have hone' : (cs.drop j).take 1 = [cs[j]'(by omega)] := by
    rw [List.drop_eq_getElem_cons (by omega)]
    rfl
  rw [hone'] at h1
  have hys : ys[j]? = some (ys[j]'(by omega)) := List.getElem?_eq_getElem (by omega)
  obtain ⟨_, a, ha, hi⟩ := hop enc w base spare held n' _ _ (h1.trans hys) (fun p hp => hlt p (by
    simp only [List.mem_flatMap]
    exact ⟨_, List.getElem_mem _, hp⟩)) (fun n hn => hwt n (by
    simp only [DataW.weights, he]
    exact DataW.weights_mem_each (j := j) (t := f.type) (d := (ys[j]'(by omega)).1) (by simp [hj]) (by simp [hys]) n hn))
  obtain ⟨u, hu, h2, h3⟩ := hi 0 (by omega)
  simp only [List.getElem?_cons_zero, Option.some.injEq] at hu
  subst hu
  exact ⟨a, ha, _, List.getElem?_eq_getElem (by omega), h2, h3⟩
theorem Opens.param {P : Program} {t : TypeId} {α : Type} {ok : α → Prop} {sv : α → Nat → SV} (h : Opens P t 1 ok sv) {H : Type} {enc : TypeId × Value → H} {w : World} {v : Value} {d : DataW H} {p : List MemPlace}
    (hd : DataW.Trod enc P w 0 (fun _ => true) true t v d p) (hlt : ∀ x ∈ p, x.block < w.heap.size) (hwt : ∀ n ∈ d.weights P t, n ≤ reachBytes) (hv : ∀ cs, v ≠ .agg cs) : ∃ a, ok a ∧ RO w (fun _ => False) (sv a 0) v := by
  obtain ⟨fuel, hf⟩ := hd
  obtain ⟨_, a, ha, hi⟩ := h enc w 0 _ true fuel _ _ hf hlt hwt
  obtain ⟨u, hu, _, h3⟩ := hi 0 (by omega)
  have e : v.cells = #[v] := by
    cases v <;> first | rfl | exact absurd rfl (hv _)
  rw [e] at hu
  simp at hu
  subst hu
  exact ⟨a, ha, h3⟩
theorem Opens.param_agg {P : Program} {t : TypeId} {m : Nat} {α : Type} {ok : α → Prop} {sv : α → Nat → SV} (h : Opens P t m ok sv) {H : Type} {enc : TypeId × Value → H} {w : World} {cs : Array Value} {d : DataW H} {p : List MemPlace}
    (hd : DataW.Trod enc P w 0 (fun _ => true) true t (.agg cs) d p) (hlt : ∀ x ∈ p, x.block < w.heap.size) (hwt : ∀ n ∈ d.weights P t, n ≤ reachBytes) : ∃ a, ok a ∧ RO w (fun _ => False) (.agg m (sv a)) (.agg cs) := by
  obtain ⟨fuel, hf⟩ := hd
  obtain ⟨hl, a, ha, hi⟩ := h enc w 0 _ true fuel _ _ hf hlt hwt
  have e : (Value.agg cs).cells = cs := rfl
  rw [e] at hl hi
  refine ⟨a, ha, cs, rfl, by simpa using hl, fun t ht => ?_⟩
  obtain ⟨u, hu, h2, h3⟩ := hi t ht
  exact ⟨u, by simpa using hu, h2, h3⟩
theorem weights_of {H : Type} {P : Program} {ts : List TypeId} {ds : List (DataW H)} (h : (DataW.weightsEach P ts ds).all (· ≤ reachBytes) = true) (j : Nat) {t : TypeId} {d : DataW H} (ht : ts[j]? = some t) (hd : ds[j]? = some d) : ∀ n ∈ d.weights P t, n ≤ reachBytes := fun n hn => by
  simpa using List.all_eq_true.1 h n (DataW.weights_mem_each ht hd n hn)
theorem trodAll_stays {P : Program} (hl : laidOutB P = true) {H : Type} {enc : TypeId × Value → H} {W W' : World} (hb : Below W.heap.size W W') :
    ∀ {ts : List TypeId} {vs : List Value} {ds : List (DataW H)} {ps : List MemPlace}, (∀ t ∈ ts, P.readableRec t = true ∧ t < P.types.size) → DataW.TrodAll enc P W 0 (fun _ => true) true ts vs ds ps → (∀ x ∈ ps, x.block < W.heap.size) →
      DataW.TrodAll enc P W' 0 (fun b => decide (b < W.heap.size)) true ts vs ds ps
  | [], vs, ds, ps, _, h, _ => by
    obtain ⟨rfl, rfl, rfl⟩ := trodAll_nil h
    exact trodAll_mk0
  | t :: ts, vs, ds, ps, hr, h, hlt => by
    obtain ⟨v, vs', d, ds', p, q, rfl, rfl, rfl, h1, h2⟩ := trodAll_cons h
    exact ⟨p, q, Below.trod hl (hr t (.head _)).1 (hr t (.head _)).2 h1 hb (fun x hx => hlt x (List.mem_append_left _ hx)), trodAll_stays hl hb (fun t ht => hr t (.tail _ ht)) h2 (fun x hx => hlt x (List.mem_append_right _ hx)), rfl⟩
theorem law_post {P : Program} {fn : Func} {s : ChangeSpec} {t : TypeId} {H : Type} {enc : TypeId × Value → H} {W W' : World} {args : Array Value} {ds gs : List (DataW H)} {before : List MemPlace}
    (hl : laidOutB P = true) (hr : ∀ t ∈ fn.params.toList, P.readableRec t = true ∧ t < P.types.size) (hres : fn.resultTypes = #[t]) (ht : P.underlying t = some .bool) (hvars : s.vars = [])
    (hspec : s.fn H (ds ++ gs) = { results := [.lit (.bool true)], args := ds })
    (hW : DataW.Whole enc P fn.params.toList s.vars false W args.toList ds gs before) (hb : Below W.heap.size W W') :
    s.post enc P fn false true false false W args (.bool true) W' := by
  have hW' := hW
  obtain ⟨p, q, hA, hV, rfl, hfz, hnd⟩ := hW
  rw [hvars] at hV
  obtain ⟨rfl, rfl⟩ := trodVars_none hV
  refine ⟨ds, [], p ++ [], [], p, [], hW', ?_, ?_, ?_, hb.frame _, fun h => by cases h⟩
  · rw [hspec, hres]
    exact trodAll_cons_mk (shut_bool ht _) trodAll_mk0
  · rw [hspec]
    exact trodAll_stays hl hb hr hA fun x hx => hW'.lt x (List.mem_append_left _ hx)
  · rw [hspec, hvars]
    rfl
theorem slice_not_agg {P : Program} {w : World} {r : Reach} {b : Nat} {t e : TypeId} {v : Value} (ht : P.underlying t = some (.slice e)) (h : Value.okWide P w r b t v) : ∀ cs, v ≠ .agg cs := by
  obtain ⟨a, l, c, rfl⟩ := okWide_slice ht h
  exact fun cs h => by cases h
theorem Ct.law {P : Program} {f : FuncId} {svs : List SV} (h : Ct P f svs (bv true)) {W : World} {vals : List Value} (hR : ROs W (fun _ => False) svs vals) :
    Calls P f vals.toArray W fun e W' => e = .returned (.bool true) ∧ Below W.heap.size W W' :=
  (h W (fun _ => False) vals (fun _ hf => hf.elim) hR).mono fun e W' ⟨v, he, hv, hb⟩ => ⟨by rw [he]; exact congrArg _ hv, hb⟩
end Go.Eng
namespace Go.Eng
theorem info_of {P : Program} {e : TypeId} {k bytes : Nat} (h : (P.info? e).map (fun i => (i.size, i.bytes, i.zero.map fun z => z.cells.size)) = some (k, bytes, some k)) :
    ∃ i z, P.info? e = some i ∧ i.zero = some z ∧ i.size = k ∧ i.bytes = bytes ∧ z.cells.size = k := by
  obtain ⟨i, hi, hz⟩ := Option.map_eq_some_iff.1 h
  simp only [Prod.mk.injEq] at hz
  obtain ⟨h1, h2, h3⟩ := hz
  obtain ⟨z, h4, h5⟩ := Option.map_eq_some_iff.1 h3
  exact ⟨i, z, hi, h4, h1, h2, h5⟩
end Go.Eng
namespace Go.Eng
theorem zero_one {P : Program} {t : TypeId} {u : Value} (h : ∀ w, (zeroValue t).run P w = .ok u w) (hc : u.cells = #[u]) (h1 : u.oneCell' = true) : ZeroOk P t 1 (fun _ => SV.v u) :=
  ⟨u, h, by rw [hc]; rfl, fun t ht => by
    obtain rfl : t = 0 := by omega
    exact ⟨u, by rw [hc]; rfl, h1, fun _ _ => rfl⟩⟩
end Go.Eng
namespace Go.Eng
open Go.RowKit
variable {P : Program} {NN : Nat} {E : Env NN}
end Go.Eng
namespace Go.Eng
open Go.RowKit
variable {P : Program} {NN : Nat} {E : Env NN}
theorem fill_congr {p p' : Nat → Option (Nat × Nat)} : ∀ (l : List (Nat × Value)) (cells cs : Array Value), (∀ x ∈ l, p' x.1 = p x.1) → Instr.fill p cells l = some cs → Instr.fill p' cells l = some cs
  | [], _, _, _, h => h
  | (i, v) :: r, cells, cs, he, h => by
    have e : p' i = p i := he (i, v) (.head _)
    simp only [Instr.fill, e] at h ⊢
    cases hp : p i with
    | none => rw [hp] at h; cases h
    | some q =>
      obtain ⟨off, size⟩ := q
      simp only [hp] at h ⊢
      split at h
      · cases h
      · rename_i hc
        rw [if_neg hc]
        exact fill_congr r _ _ (fun x hx => he x (.tail _ hx)) h
theorem build_struct {t : TypeId} {fs : Array Field} {m : Nat} (ht : P.underlying t = some (.struct fs))
    (hpl : ∀ w, (fs.mapM fun f => (do pure (f.offset, ← sizeOf f.type) : Sem (Nat × Nat))).run P w = .ok (Array.ofFn fun i : Fin m => (i.1, 1)) w) :
    ∀ (w : World) (parts : List (Nat × Value)) (z : Value) (cs : Array Value), (zeroValue t).run P w = .ok z w → Instr.fill (fun i => if i < m then some (i, 1) else none) z.cells parts = some cs → (∀ p ∈ parts, p.1 < m) → (Instr.build t parts.toArray).run P w = .ok (.agg cs) w := by
  intro w parts z cs hz hf hlt
  have hf' := fill_congr (p' := fun i => (Array.ofFn fun i : Fin m => (i.1, 1))[i]?) parts z.cells cs (fun x hx => by simp [hlt x hx]) hf
  simp only [Instr.build, Sem.run_bind, hz, Result.andThen_ok, run_underlying ht, hpl, hf', Sem.run_pure]
end Go.Eng
namespace Go.Eng
open Go.RowKit
variable {P : Program} {NN : Nat} {E : Env NN}
def setE (e : Nat → Bool) (i : Nat) : Nat → Bool := fun k => match Nat.beq k i with | true => true | false => e k
def depsOf (o : Oper) : List Nat := (o.after.toList.filter (Region.binds .any)).map (·.on)
def DepsL (e : Nat → Bool) : List Nat → Prop
  | [] => True
  | k :: r => e k = true ∧ DepsL e r
theorem DepsL.at {e : Nat → Bool} : ∀ {l : List Nat}, DepsL e l → ∀ k ∈ l, e k = true
  | k :: r, h, x, hx => by
    cases hx with
    | head => exact h.1
    | tail _ hx => exact DepsL.at h.2 x hx
theorem DepsL.of {e : Nat → Bool} : ∀ {l : List Nat}, (∀ k ∈ l, e k = true) → DepsL e l
  | [], _ => trivial
  | k :: r, h => ⟨h k (.head _), DepsL.of fun x hx => h x (.tail _ hx)⟩
def Down (l : List Oper) (e : Nat → Bool) : Prop := ∀ k, e k = true → DepsL e (match l[k]? with | some o => depsOf o | none => [])
def Steps (P : Program) {NN : Nat} (E : Env NN) (l : List Oper) (stE : (Nat → Bool) → St) : Nat → List Oper → Prop
  | _, [] => True
  | k, o :: r => (∀ e, Down l e → e k = false → DepsL e (depsOf o) → T P E l.toArray [o] (stE e) (fun S' => Weak E S' (stE (setE e k)))) ∧ Steps P E l stE (k + 1) r
theorem Steps.at {l : List Oper} {stE : (Nat → Bool) → St} : ∀ {r : List Oper} {k : Nat}, Steps P E l stE k r → ∀ i o, r[i]? = some o →
    ∀ e, Down l e → e (k + i) = false → DepsL e (depsOf o) → T P E l.toArray [o] (stE e) (fun S' => Weak E S' (stE (setE e (k + i))))
  | [], _, _, i, o, h => by simp at h
  | x :: r, k, hs, 0, o, h => by simp at h; subst h; exact hs.1
  | x :: r, k, hs, i + 1, o, h => by
    have := Steps.at hs.2 i o (by simpa using h)
    have e : k + 1 + i = k + (i + 1) := by omega
    rw [e] at this
    exact this
def backB : Nat → List Oper → Bool
  | _, [] => true
  | k, o :: r => (depsOf o).all (fun x => decide (x < k)) && backB (k + 1) r
theorem backB.at : ∀ {r : List Oper} {k : Nat}, backB k r = true → ∀ i o, r[i]? = some o → ∀ x ∈ depsOf o, x < k + i
  | [], _, _, i, o, h => by simp at h
  | y :: r, k, hb, 0, o, h => by
    simp at h; subst h
    simp only [backB, Bool.and_eq_true, List.all_eq_true, decide_eq_true_eq] at hb
    exact fun x hx => by have := hb.1 x hx; omega
  | y :: r, k, hb, i + 1, o, h => by
    simp only [backB, Bool.and_eq_true] at hb
    intro x hx
    have := backB.at hb.2 i o (by simpa using h) x hx
    omega
theorem upon_mono {o : Oper} {a : Act} {N : Act → World → Prop} {Q Q2 : Exit → Act → World → Prop} (hQ : ∀ x a w, x ≠ .normal → Q x a w → Q2 x a w) {r : Result Next} (h : o.upon P a N Q r) : o.upon P a N Q2 r := by
  cases r with
  | ok n w' =>
    cases n <;> simp only [Oper.upon] at h ⊢ <;>
      first
        | exact h
        | exact Calls.mono h (fun e w'' he => by
            cases e with
            | returned v => exact he
            | panicked c => exact hQ _ _ _ (by simp) he
            | outgrown => obtain ⟨a, w, hh⟩ := he; exact ⟨a, w, hQ _ _ _ (by simp) hh⟩)
  | halt x w' => cases x <;> simp only [Oper.upon] at h ⊢ <;> exact hQ _ _ _ (by simp) h
def flags (listed : Array Bool) : Nat → Bool := fun i => listed.getD i false
def leftN (listed : Array Bool) : Nat := listed.toList.countP (fun b => !b)
theorem ready_mem {md : Region.Mode} {l : List Oper} {listed : Array Bool} (hsz : listed.size = l.length) {i : Nat} (h : i ∈ Region.ready md l.toArray listed) :
    ∃ o, l[i]? = some o ∧ flags listed i = false ∧ ∀ ed ∈ o.after.toList, Region.binds md ed = true → flags listed ed.on = true := by
  simp only [Region.ready, List.mem_filter, List.mem_range, Bool.and_eq_true, Bool.not_eq_true', List.size_toArray] at h
  obtain ⟨hi, h1, h2⟩ := h
  have hl : l[i]? = some l[i] := List.getElem?_eq_getElem hi
  refine ⟨l[i], hl, ?_, fun ed he hb => ?_⟩
  · have h3 : i < listed.size := by omega
    simp only [Array.getD_eq_getD_getElem?, Array.getElem?_eq_getElem h3, Option.getD_some, flags] at h1 ⊢
    exact h1
  · have h4 : (l.toArray[i]?) = some l[i] := by simp [hi]
    rw [h4] at h2
    simp only [Option.map_some, Option.getD_some, Array.all_eq_true_iff_forall_mem, Bool.or_eq_true, Bool.not_eq_true'] at h2
    rcases h2 ed (by simpa using he) with h5 | h5
    · rw [hb] at h5; cases h5
    · exact h5
theorem mem_ready {md : Region.Mode} {l : List Oper} {listed : Array Bool} (hsz : listed.size = l.length) {i : Nat} {o : Oper} (ho : l[i]? = some o) (he : flags listed i = false)
    (hd : ∀ ed ∈ o.after.toList, Region.binds md ed = true → flags listed ed.on = true) : i ∈ Region.ready md l.toArray listed := by
  have hi : i < l.length := (List.getElem?_eq_some_iff.1 ho).1
  have hoi : l[i] = o := (List.getElem?_eq_some_iff.1 ho).2
  simp only [Region.ready, List.mem_filter, List.mem_range, Bool.and_eq_true, Bool.not_eq_true', List.size_toArray]
  refine ⟨hi, ?_, ?_⟩
  · have h3 : i < listed.size := by omega
    simp only [Array.getD_eq_getD_getElem?, Array.getElem?_eq_getElem h3, Option.getD_some, flags] at he ⊢
    exact he
  · have h4 : (l.toArray[i]?) = some o := by simp [ho]
    rw [h4]
    simp only [Option.map_some, Option.getD_some, Array.all_eq_true_iff_forall_mem, Bool.or_eq_true, Bool.not_eq_true']
    intro ed hed
    cases hb : Region.binds md ed with
    | false => exact .inl rfl
    | true => exact .inr (hd ed (by simpa using hed) hb)
theorem leftN_set {listed : Array Bool} {i : Nat} (hi : i < listed.size) (h : flags listed i = false) : leftN (listed.setIfInBounds i true) + 1 = leftN listed := by
  obtain ⟨l⟩ := listed
  simp only [leftN, flags, Array.getD_eq_getD_getElem?, List.getElem?_toArray, List.setIfInBounds_toArray] at *
  simp only [List.size_toArray] at hi
  induction l generalizing i with
  | nil => simp at hi
  | cons x r ih =>
    cases i with
    | zero =>
      simp at h; subst h
      simp [List.countP_cons]
    | succ i =>
      have := ih (i := i) (by simpa using h) (by simpa using hi)
      simp only [List.set_cons_succ, List.countP_cons]
      omega
theorem leftN_zero {listed : Array Bool} (h : leftN listed = 0) : ∀ i, i < listed.size → flags listed i = true := by
  intro i hi
  simp only [leftN, List.countP_eq_zero] at h
  have := h listed[i] (by simp)
  simp only [flags, Array.getD_eq_getD_getElem?, Array.getElem?_eq_getElem hi, Option.getD_some]
  simpa using this
theorem flags_set {listed : Array Bool} {i : Nat} (hi : i < listed.size) : flags (listed.setIfInBounds i true) = setE (flags listed) i := by
  funext k
  simp only [flags, setE, Array.getD_eq_getD_getElem?, Array.getElem?_setIfInBounds]
  by_cases e : i = k
  · subst e; simp [hi]
  · have hb : Nat.beq k i = false := by
      cases hb : Nat.beq k i
      · rfl
      · exact absurd (Nat.eq_of_beq_eq_true hb).symm e
    rw [if_neg e, hb]
theorem deps_iff {o : Oper} {e : Nat → Bool} : DepsL e (depsOf o) ↔ ∀ ed ∈ o.after.toList, Region.binds .any ed = true → e ed.on = true := by
  constructor
  · intro h ed he hb
    exact h.at _ (List.mem_map.2 ⟨ed, List.mem_filter.2 ⟨he, hb⟩, rfl⟩)
  · intro h
    refine DepsL.of fun k hk => ?_
    obtain ⟨ed, hed, rfl⟩ := List.mem_map.1 hk
    obtain ⟨h1, h2⟩ := List.mem_filter.1 hed
    exact h ed h1 h2
theorem wpAny_steps {l : List Oper} {stE : (Nat → Bool) → St} {Q : Exit → Act → World → Prop} (hb : backB 0 l = true) (hs : Steps P E l stE 0 l) (hf : ∀ e, (∀ i, i < l.length → e i = true) → ∀ a w, Rep E (stE e) a w → Q .normal a w) :
    ∀ (fuel : Nat) (listed : Array Bool) (a : Act) (w : World), listed.size = l.length → leftN listed ≤ fuel → Down l (flags listed) → Rep E (stE (flags listed)) a w → wpAny P .any l.toArray Q fuel listed a w := by
  have hempty : ∀ (listed : Array Bool), listed.size = l.length → Region.ready .any l.toArray listed = [] → ∀ i, i < l.length → flags listed i = true := by
    intro listed hsz hr i
    induction i using Nat.strongRecOn with
    | ind i ih =>
      intro hi
      cases hfl : flags listed i with
      | true => rfl
      | false =>
        have hm := mem_ready (md := .any) hsz (List.getElem?_eq_getElem hi) hfl (fun ed hed hbd => by
          have hlt := backB.at hb i _ (List.getElem?_eq_getElem hi) ed.on (List.mem_map.2 ⟨ed, List.mem_filter.2 ⟨hed, hbd⟩, rfl⟩)
          exact ih ed.on (by omega) (by omega))
        rw [hr] at hm; cases hm
  intro fuel
  induction fuel with
  | zero =>
    intro listed a w hsz hle hd hr
    have hall := leftN_zero (Nat.le_zero.1 hle)
    refine ⟨?_, hf _ (fun i hi => hall i (by omega)) a w hr⟩
    refine List.eq_nil_iff_forall_not_mem.2 fun i hi => ?_
    obtain ⟨o, ho, h1, _⟩ := ready_mem hsz hi
    have := hall i (by have := (List.getElem?_eq_some_iff.1 ho).1; omega)
    rw [h1] at this; cases this
  | succ fuel ih =>
    intro listed a w hsz hle hd hr
    refine ⟨fun h0 => hf _ (hempty listed hsz h0) a w hr, fun i hi => ?_⟩
    obtain ⟨o, ho, h1, h2⟩ := ready_mem hsz hi
    have hil : i < listed.size := by have := (List.getElem?_eq_some_iff.1 ho).1; omega
    have hst := Steps.at hs i o ho (flags listed) hd (by rw [Nat.zero_add]; exact h1) (deps_iff.2 h2)
    rw [Nat.zero_add] at hst
    let K : Act → World → Prop := wpAny P .any l.toArray Q fuel (listed.setIfInBounds i true)
    let Q2 : Exit → Act → World → Prop := fun x a w => match x with | .normal => K a w | _ => False
    have hstep := hst a w hr Q2 (fun S' a' w' hw hr' => by
      show K a' w'
      obtain ⟨b, hr'⟩ := hr'
      refine ih _ a' w' (by simpa using hsz) (by have := leftN_set hil h1; omega) ?_ ?_
      · intro k hk
        rw [flags_set hil] at hk ⊢
        by_cases e : k = i
        · subst e
          rw [ho]
          refine deps_iff.2 fun ed hed hbd => ?_
          have := h2 ed hed hbd
          simp only [setE]
          split
          · rfl
          · exact this
        · have hk' : flags listed k = true := by
            simp only [setE] at hk
            split at hk
            · rename_i hb'; exact absurd (Nat.eq_of_beq_eq_true hb') e
            · exact hk
          refine DepsL.of fun x hx => ?_
          have := (hd k hk').at x hx
          simp only [setE]
          split
          · rfl
          · exact this
      · rw [flags_set hil]
        exact ⟨b, hw b a' w' hr'⟩)
    unfold wpOp
    have ho' : l.toArray[i]? = some o := by simp [ho]
    rw [ho']
    unfold wpList at hstep
    by_cases hw : Region.wanted o (yielded l.toArray a.tmps) = true
    · rw [if_pos hw] at hstep
      simp only []
      rw [if_pos hw]
      have hbad : ∀ x (a : Act) (w : World), x ≠ Exit.normal → Q2 x a w → Q x a w := by
        intro x a w hx hq
        cases x <;> first | exact absurd rfl hx | exact hq.elim
      rcases hstep with h | ⟨h, a', w', h'⟩
      · have e : wpList P l.toArray Q2 [] = K := by funext a w; simp only [wpList]; rfl
        rw [e] at h
        exact .inl (upon_mono hbad h)
      · exact h'.elim
    · rw [if_neg hw] at hstep
      simp only []
      rw [if_neg hw]
      unfold wpList at hstep
      exact hstep
theorem c_rd {id : Nat} {l : List Oper} {S : St} {Q : Exit → Act → World → Prop} (stE : (Nat → Bool) → St) (Sf : St) (hm : P.follows .mixedOrders = true) (hb : backB 0 l = true) (h0 : Weak E S (stE fun _ => false)) (hs : Steps P E l stE 0 l)
    (hf : ∀ e, (∀ i, i < l.length → e i = true) → Weak E (stE e) Sf) (hk : ∀ a w, Rep E Sf a w → Q .normal a w) : C P E (.region id l.toArray true) S Q := by
  rintro a w ⟨b, hr⟩
  refine wp_region_any hm ?_
  have hfl : flags (Array.replicate l.toArray.size false) = fun _ => false := by
    funext i
    simp only [flags, Array.getD_eq_getD_getElem?, Array.getElem?_replicate]
    split <;> rfl
  refine wpAny_steps hb hs (fun e he a w ⟨b, hr⟩ => hk a w ⟨b, hf e he b a w hr⟩) l.toArray.size _ a _ (by simp) ?_ ?_ ?_
  · simp only [leftN]
    refine Nat.le_trans List.countP_le_length ?_
    simp
  · rw [hfl]
    intro k hk
    cases hk
  · rw [hfl]
    exact ⟨b, h0 b a _ (hr.world (below_drew w))⟩
end Go.Eng
namespace Go.Eng
open Go.RowKit
variable {P : Program} {NN : Nat} {E : Env NN}
def cj (b : Bool) (x : SV) : SV := match b with | true => x | false => .junk
def cb (b : Bool) (x y : List (Nat × Own)) : List (Nat × Own) := match b with | true => x | false => y
def cjn (b : Bool) (x : SV) : SV := match b with | true => .junk | false => x
theorem noId_cj {j : Nat} {b : Bool} {x : SV} (h : x.noId j = true) : (cj b x).noId j = true := by cases b <;> first | exact h | rfl
def FreshP (j : Nat) : List (Nat × SV) → Prop
  | [] => True
  | p :: r => p.2.noId j = true ∧ FreshP j r
theorem fresh_mk {j : Nat} {sl : List (Nat × SV)} {ow : List (Nat × Own)} (h : FreshP j sl) (ho : freshO j ow = true) (hl : Nat.blt j 1000 = true) : St.fresh j ⟨sl, ow⟩ = true := by
  simp only [St.fresh, ho, hl, Bool.and_true]
  clear ho hl
  induction sl with
  | nil => rfl
  | cons p r ih => simp only [freshS, h.1, ih h.2, Bool.and_true]
theorem val_junk {S : St} {x : Operand} : Val E S x .junk := fun _ _ _ _ => trivial
theorem val_kc {S : St} {x : Operand} {j : Nat} {b : Bool} {y : SV} (hk : kill j y = y) (h : Val E S x (kill j (cj b y))) : Val E S x (cj b y) := by
  cases b with
  | true => exact hk ▸ h
  | false => exact val_junk
theorem weakS {S : St} {sl : List (Nat × SV)} (hs : AllV E S sl) : Weak E S ⟨sl, S.owns⟩ := fun b a w hr => {
  size := hr.size
  defers := hr.defers
  below := hr.below
  slots := fun s x hx => hs.look s x hx b a w hr
  owns := hr.owns
  mine := hr.mine
  apart := hr.apart
  old := hr.old }
theorem fls {b c : Bool} (hb : b = false) (h : c = true → b = true) : c = false := by
  cases c with
  | false => rfl
  | true => rw [h rfl] at hb; cases hb
end Go.Eng
namespace Go.Eng
open Go.RowKit
variable {P : Program} {NN : Nat} {E : Env NN}
theorem c_ownE {α : Type} {f : α → Nat → SV} {k : Nat} {d : α} {e : TypeId} {code : Code} {S : St} {Q : Exit → Act → World → Prop} (j : Nat) {l1 : List α} (l2 : List α) (ho : lookO j S.owns = some (ownOf f k d l1 e)) (h : l1 = l2)
    (hk : C P E code ⟨S.slots, (j, ownOf f k d l2 e) :: S.owns⟩ Q) : C P E code S Q := by
  subst h
  exact c_own j _ ho rfl (fun _ _ _ _ => rfl) hk
end Go.Eng
namespace Go.Eng
open Go.RowKit
variable {P : Program} {NN : Nat} {E : Env NN}
def Rs (w : World) (X : Nat → Prop) (b : Nat → Value) : List SV → List Value → Prop
  | [], [] => True
  | s :: ss, v :: vs => R w X b s v ∧ Rs w X b ss vs
  | _, _ => False
theorem rs_of_at {w : World} {X : Nat → Prop} {b : Nat → Value} : ∀ {l : List SV} {vals : List Value}, vals.length = l.length → (∀ t, t < l.length → ∃ u, vals[t]? = some u ∧ R w X b (l.getD t .junk) u) → Rs w X b l vals
  | [], [], _, _ => trivial
  | s :: ss, v :: vs, hl, h => ⟨by
      obtain ⟨u, hu, hr⟩ := h 0 (by simp)
      simp at hu; subst hu; exact hr, rs_of_at (by simpa using hl) fun t ht => by simpa using h (t + 1) (by simpa using ht)⟩
  | [], _ :: _, hl, _ => by simp at hl
  | _ :: _, [], hl, _ => by simp at hl
theorem ros_app {w : World} {X : Nat → Prop} : ∀ {l l' : List SV} {vs vs' : List Value}, ROs w X l vs → ROs w X l' vs' → ROs w X (l ++ l') (vs ++ vs')
  | [], _, [], _, _, h => h
  | _ :: _, _, _ :: _, _, h, h' => ⟨h.1, ros_app h.2 h'⟩
  | [], _, _ :: _, _, h, _ => h.elim
  | _ :: _, _, [], _, h, _ => h.elim
theorem rs_app {w : World} {X : Nat → Prop} {b : Nat → Value} : ∀ {l l' : List SV} {vs vs' : List Value}, Rs w X b l vs → Rs w X b l' vs' → Rs w X b (l ++ l') (vs ++ vs')
  | [], _, [], _, _, h => h
  | _ :: _, _, _ :: _, _, h, h' => ⟨h.1, rs_app h.2 h'⟩
  | [], _, _ :: _, _, h, _ => h.elim
  | _ :: _, _, [], _, h, _ => h.elim
theorem rs_len {w : World} {X : Nat → Prop} {b : Nat → Value} : ∀ {l : List SV} {vs : List Value}, Rs w X b l vs → vs.length = l.length
  | [], [], _ => rfl
  | _ :: ys, _ :: vs, h => by simp [rs_len (l := ys) (vs := vs) h.2]
  | [], _ :: _, h => h.elim
  | _ :: _, [], h => h.elim
def FnVal {NN : Nat} (E : Env NN) (S : St) (x : Operand) (f : FuncId) (caps : List SV) : Prop := ∀ b a w, RepB E b S a w → ∃ vals : List Value, a.eval x = .func (.func f) #[] vals.toArray ∧ Rs w (S.excl E b) b caps vals
def fnA (f : FuncId) (caps : List SV) : SV := .abs (fun w X v => RO w X (fnL f caps) v) fun _ _ _ _ _ he hX h => RO.mono he hX h
theorem fnval_L {S : St} {x : Operand} {f : FuncId} {caps : List SV} (h : Val E S x (fnL f caps)) : FnVal E S x f caps := fun b a w hr => by
  obtain ⟨cs, hv, hm, hc⟩ := h b a w hr
  exact ⟨cs.toList, by simpa using hv, rs_of_at (by simpa using hm) fun t ht => by
    obtain ⟨u, hu, hr⟩ := hc t ht
    exact ⟨u, by simpa using hu, hr⟩⟩
theorem fnval_A {S : St} {x : Operand} {f : FuncId} {caps : List SV} (h : Val E S x (fnA f caps)) : FnVal E S x f caps := fnval_L fun b a w hr => RO.toR (x := fnL f caps) (h b a w hr)
theorem val_A {S : St} {x : Operand} {f : FuncId} {caps : List SV} (h : Val E S x (fnL f caps)) (hro : (fnL f caps).isRO = true) : Val E S x (fnA f caps) := fun b a w hr => (h b a w hr).toRO hro
def allRO : List SV → Bool
  | [] => true
  | x :: r => x.isRO && allRO r
theorem Rs.ros {w : World} {X : Nat → Prop} {b : Nat → Value} : ∀ {l : List SV} {vs : List Value}, Rs w X b l vs → allRO l = true → ROs w X l vs
  | [], [], _, _ => trivial
  | _ :: _, _ :: _, h, hr => by
    simp only [allRO, Bool.and_eq_true] at hr
    exact ⟨h.1.toRO hr.1, Rs.ros h.2 hr.2⟩
  | [], _ :: _, h, _ => h.elim
  | _ :: _, [], h, _ => h.elim
theorem ROs.rs {w : World} {X : Nat → Prop} {b : Nat → Value} : ∀ {l : List SV} {vs : List Value}, ROs w X l vs → Rs w X b l vs
  | [], [], _ => trivial
  | _ :: _, _ :: _, h => ⟨h.1.toR, ROs.rs h.2⟩
  | [], _ :: _, h => h.elim
  | _ :: _, [], h => h.elim
theorem run_callV {f : FuncId} (hf : Enters P f) (a : Act) (x : Operand) (caps : List Value) (hx : a.eval x = .func (.func f) #[] caps.toArray) (xs : List Operand) (ats : Array TypeId) (dst : Option Tmp) (ty : TypeId) (pos : String) (after : Array Edge) (gd : Option (Nat × Bool)) (w : World) :
    (execOp a.eval { dst, op := .call { callee := .value x, args := xs.toArray, argTypes := ats }, type := ty, pos, after, guard := gd }).run P w = .ok (.enter f (xs.map a.eval ++ caps).toArray) w := by
  simp only [execOp, resolve, hx, Deferred.ofValue, Sem.run_bind, Sem.run_pure, Result.andThen_ok, invoke]
  rw [hf]
  simp
theorem tq_callV {ops : Array Oper} {rest : List Oper} {S : St} {K : St → Prop} {d : Tmp} {f : FuncId} {caps : List SV} {xf : Operand} {xs : List Operand} {ats : Array TypeId} {ty : TypeId} {pos : String} {after : Array Edge} {args : List SV} {x : Value}
    (hxf : FnVal E S xf f caps) (hro : allRO caps = true) (hf : Enters P f) (ha : Vals E S xs args) (h : Ct P f (args ++ caps) (.v x)) (hk : TQ P E ops rest (nextQ S d (.v x)) K) (hd : d < NN := by decide) :
    TQ P E ops ({ dst := some d, op := .call { callee := .value xf, args := xs.toArray, argTypes := ats }, type := ty, pos, after, guard := none } :: rest) S K := fun b a w hr => by
  unfold wpQuiet
  rw [if_pos (by rfl)]
  refine ⟨x, fun w' hw' => ?_, hk b _ w (hr.put hd rfl)⟩
  unfold Oper.quietAt
  have hr' : RepB E b S a w' := hr.world hw'
  obtain ⟨vals, hv, hc⟩ := hxf b a w' hr'
  rw [run_callV hf a xf vals hv]
  refine ⟨rfl, ?_⟩
  refine (h w' (S.excl E b) _ (fun g hg => Nat.lt_of_lt_of_le (hr.excl_lt hg) hw'.size) (ros_app (hr' |> ha.ros) (hc.ros hro))).mono ?_
  rintro e w'' ⟨v, rfl, hv, hb⟩
  have : v = x := hv
  subst this
  exact ⟨rfl, hw'.trans (hb.mono hw'.size)⟩
theorem t_callV {ops : Array Oper} {rest : List Oper} {S : St} {K : St → Prop} {d : Tmp} {f : FuncId} {caps : List SV} {xf : Operand} {xs : List Operand} {ats : Array TypeId} {ty : TypeId} {pos : String} {after : Array Edge} {args : List SV} {x : SV}
    (hxf : FnVal E S xf f caps) (hro : allRO caps = true) (hf : Enters P f) (ha : Vals E S xs args) (h : Ct P f (args ++ caps) x) (hk : T P E ops rest (nextQ S d x) K) (hd : d < NN := by decide) :
    T P E ops ({ dst := some d, op := .call { callee := .value xf, args := xs.toArray, argTypes := ats }, type := ty, pos, after, guard := none } :: rest) S K := by
  rintro a w ⟨b, hr⟩ Q hq
  obtain ⟨vals, hv, hc⟩ := hxf b a w hr
  unfold wpList
  rw [if_pos (by rfl)]
  refine .inl (wp_of_enter (R := fun v w'' => RepB E b S a w'' ∧ R w'' (S.excl E b) b x v) (run_callV hf a xf vals hv ..) ?_ fun v w'' ⟨hr', hv⟩ => hk _ _ ⟨b, hr'.put hd hv⟩ Q hq)
  refine (h w (S.excl E b) _ (fun g hg => hr.excl_lt hg) (ros_app (ha.ros hr) (hc.ros hro))).mono ?_
  rintro e w'' ⟨v, rfl, hv, hb⟩
  exact ⟨v, rfl, hr.world hb, hv.toR⟩
def BVals {NN : Nat} (E : Env NN) (S : St) : List Operand → List SV → Prop
  | [], [] => True
  | x :: xs, s :: ss => Val E S x s ∧ BVals E S xs ss
  | _, _ => False
theorem BVals.rs {S : St} {b : Nat → Value} {a : Act} {w : World} (hr : RepB E b S a w) : ∀ {xs : List Operand} {ss : List SV}, BVals E S xs ss → Rs w (S.excl E b) b ss (xs.map a.eval)
  | [], [], _ => trivial
  | _ :: _, _ :: _, h => ⟨h.1 b a w hr, BVals.rs hr h.2⟩
  | [], _ :: _, h => h.elim
  | _ :: _, [], h => h.elim
theorem rs_at {w : World} {X : Nat → Prop} {b : Nat → Value} : ∀ {l : List SV} {vals : List Value}, Rs w X b l vals → ∀ t, t < l.length → ∃ u, vals[t]? = some u ∧ R w X b (l.getD t .junk) u
  | [], _, _, t, ht => absurd ht (Nat.not_lt_zero t)
  | s :: ss, v :: vs, h, 0, _ => ⟨v, rfl, h.1⟩
  | s :: ss, v :: vs, h, t + 1, ht => by
    obtain ⟨u, hu, hr⟩ := rs_at h.2 t (by simpa using ht)
    exact ⟨u, by simpa using hu, by simpa using hr⟩
  | _ :: _, [], h, _, _ => h.elim
theorem q_mkf {S : St} {f : FuncId} {xs : List Operand} {caps : List SV} (h : BVals E S xs caps) : OpQ P E S (.makeFunc (.func f) #[] xs.toArray) (fnL f caps) := fun b a w hr dst ty pos after gd => by
  have hR := h.rs hr
  refine ⟨.func (.func f) #[] (xs.map a.eval).toArray, fun w' _ => ?_, _, rfl, by simpa using rs_len hR, fun t ht => ?_⟩
  · simp [execOp, Instr.makeFunc]
  · obtain ⟨u, hu, hr⟩ := rs_at hR t ht
    exact ⟨u, by simpa using hu, hr⟩
def elB (l : List SV) (off : Nat) : SV := .el 1 l.length (fun _ t => l.getD t .junk) 0 off
def frzB (j : Nat) (l : List SV) : SV → SV
  | .bp i off => match Nat.beq i j with | true => (match Nat.blt off l.length with | true => elB l off | false => .junk) | false => .bp i off
  | .agg q g => .agg q fun t => frzB j l (g t)
  | .tup q g => .tup q fun t => frzB j l (g t)
  | .fn f q g => .fn f q fun t => frzB j l (g t)
  | .grd c x => .grd c (frzB j l x)
  | x => x
theorem frzB_R {w : World} {X X' : Nat → Prop} {b : Nat → Value} {j : Nat} {l : List SV} {g : Nat} (hX : ∀ g, X' g → X g) (hb : b j = .pointer (some ⟨g, 0, none⟩)) (hg : g < w.heap.size) (hnX : ¬ X' g)
    (hc : ∀ t, t < l.length → ∃ u, w.cell? ⟨g, t, none⟩ = some u ∧ u.oneCell' = true ∧ RO w X' (l.getD t .junk) u) {x : SV} {val : Value} (h : R w X b x val) : R w X' b (frzB j l x) val := by
  have he : Ext X w w := ⟨Nat.le_refl _, fun _ _ _ => rfl⟩
  induction x generalizing val with
  | bp i off =>
    simp only [frzB]
    split
    · rename_i hbq
      have hbq := Nat.eq_of_beq_eq_true hbq
      subst hbq
      split
      · rename_i hlt
        have hlt : off < l.length := Nat.le_of_ble_eq_true hlt
        obtain ⟨g', h1, h2⟩ := h
        rw [hb] at h1
        simp only [Value.pointer.injEq, Option.some.injEq, Addr.mk.injEq, and_true] at h1
        subst h1
        refine ⟨by omega, g, 0, by simpa using h2, hg, hnX, fun i' hi' t ht => ?_⟩
        obtain rfl : i' = 0 := by omega
        obtain ⟨u, hu, h3, h4⟩ := hc t ht
        exact ⟨u, by simpa using hu, h3, h4⟩
      · trivial
    · exact h
  | agg m get ih =>
    obtain ⟨cs, rfl, hm, hr⟩ := h
    refine ⟨cs, rfl, hm, fun t ht => ?_⟩
    obtain ⟨u, hu, h1, h2⟩ := hr t ht
    exact ⟨u, hu, h1, ih t h2⟩
  | tup m get ih =>
    obtain ⟨cs, rfl, hm, hr⟩ := h
    refine ⟨cs, rfl, hm, fun t ht => ?_⟩
    obtain ⟨u, hu, h2⟩ := hr t ht
    exact ⟨u, hu, ih t h2⟩
  | fn f m get ih =>
    obtain ⟨cs, rfl, hm, hr⟩ := h
    refine ⟨cs, rfl, hm, fun t ht => ?_⟩
    obtain ⟨u, hu, h2⟩ := hr t ht
    exact ⟨u, hu, ih t h2⟩
  | grd c x ih => exact ⟨fun hc => ih (h.1 hc), h.2⟩
  | v x => exact h.mono he (fun g _ hh => hX g hh)
  | row n k get ih => exact h.mono he (fun g _ hh => hX g hh)
  | el n k get i off ih => exact h.mono he (fun g _ hh => hX g hh)
  | own i => exact h
  | oe i k p off => exact h
  | sub i k lo m => exact h
  | junk => trivial
  | abs p hp => exact h.mono he (fun g _ hh => hX g hh)
theorem weak_frzB {S : St} (j : Nat) (l : List SV) {m : Nat} {get : Nat → SV} {ty : TypeId} (ho : lookO j S.owns = some (.box m get ty)) (hm : m = l.length) (hg : AllN (fun t => get t = l.getD t .junk) m) (hro : allRO l = true) : Weak E S ⟨mapS (frzB j l) S.slots, dropM (frzB j l) j S.owns⟩ := by
  subst hm
  have hall : ∀ (l : List SV), allRO l = true → ∀ t, t < l.length → (l.getD t .junk).isRO = true := by
    intro l
    induction l with
    | nil => intro _ t ht; simp at ht
    | cons x r ih =>
      intro h t ht
      simp only [allRO, Bool.and_eq_true] at h
      cases t with
      | zero => exact h.1
      | succ t => simpa using ih h.2 t (by simpa using ht)
  exact weak_drop j (frzB j l) ho fun b w X X' ⟨g, cs, hb, hbase, hh, hm, hc⟩ h2 h3 x v hr =>
    frzB_R h3 hb (Array.getElem?_eq_some_iff.1 hh).1 (h2 g (by rw [hb]; exact rfl)) (fun t ht => by
      obtain ⟨u, hu, h4, h5⟩ := hc t ht
      refine ⟨u, by rw [cell_of_row w g t cs ty (0, 0) hh]; exact hu, h4, ?_⟩
      rw [hg.at t ht] at h5
      exact (h5.toRO (hall l hro t ht)).mono ⟨Nat.le_refl _, fun _ _ _ => rfl⟩ (fun g _ hh => h3 g hh)) hr
theorem c_frzB {c : Code} {S : St} {Q : Exit → Act → World → Prop} (j : Nat) (l : List SV) {m : Nat} {get : Nat → SV} {ty : TypeId} (ho : lookO j S.owns = some (.box m get ty)) (hm : m = l.length) (hg : AllN (fun t => get t = l.getD t .junk) m) (hro : allRO l = true)
    (h : C P E c ⟨mapS (frzB j l) S.slots, dropM (frzB j l) j S.owns⟩ Q) : C P E c S Q := (weak_frzB j l ho hm hg hro).c h
end Go.Eng
namespace Go.Eng
open Go.RowKit
variable {P : Program} {NN : Nat} {E : Env NN}
def rn : List (Nat × Nat) → Nat → Nat
  | [], i => i
  | p :: r, i => match Nat.beq i p.1 with | true => p.2 | false => rn r i
def SV.renm (g : Nat → Nat) : SV → SV
  | .bp j off => .bp (g j) off
  | .own j => .own (g j)
  | .oe j k i off => .oe (g j) k i off
  | .sub j k lo m => .sub (g j) k lo m
  | .agg m get => .agg m fun t => (get t).renm g
  | .tup m get => .tup m fun t => (get t).renm g
  | .fn f m get => .fn f m fun t => (get t).renm g
  | .grd c x => .grd c (x.renm g)
  | x => x
theorem R_renm {w : World} {X : Nat → Prop} {b : Nat → Value} {g : Nat → Nat} {x : SV} {val : Value} : R w X b (x.renm g) val ↔ R w X (fun i => b (g i)) x val := by
  induction x generalizing val with
  | agg m get ih =>
    constructor
    · rintro ⟨cs, rfl, hm, hr⟩
      exact ⟨cs, rfl, hm, fun t ht => let ⟨u, hu, h1, h2⟩ := hr t ht; ⟨u, hu, h1, (ih t).1 h2⟩⟩
    · rintro ⟨cs, rfl, hm, hr⟩
      exact ⟨cs, rfl, hm, fun t ht => let ⟨u, hu, h1, h2⟩ := hr t ht; ⟨u, hu, h1, (ih t).2 h2⟩⟩
  | tup m get ih =>
    constructor
    · rintro ⟨cs, rfl, hm, hr⟩
      exact ⟨cs, rfl, hm, fun t ht => let ⟨u, hu, h2⟩ := hr t ht; ⟨u, hu, (ih t).1 h2⟩⟩
    · rintro ⟨cs, rfl, hm, hr⟩
      exact ⟨cs, rfl, hm, fun t ht => let ⟨u, hu, h2⟩ := hr t ht; ⟨u, hu, (ih t).2 h2⟩⟩
  | fn f m get ih =>
    constructor
    · rintro ⟨cs, rfl, hm, hr⟩
      exact ⟨cs, rfl, hm, fun t ht => let ⟨u, hu, h2⟩ := hr t ht; ⟨u, hu, (ih t).1 h2⟩⟩
    · rintro ⟨cs, rfl, hm, hr⟩
      exact ⟨cs, rfl, hm, fun t ht => let ⟨u, hu, h2⟩ := hr t ht; ⟨u, hu, (ih t).2 h2⟩⟩
  | grd c x ih => exact ⟨fun h => ⟨fun hc => ih.1 (h.1 hc), h.2⟩, fun h => ⟨fun hc => ih.2 (h.1 hc), h.2⟩⟩
  | _ => exact Iff.rfl
def Own.renm (g : Nat → Nat) (o : Own) : Own := o.map (SV.renm g)
theorem OwnOk_renm {w : World} {X : Nat → Prop} {base : Nat} {b : Nat → Value} {g : Nat → Nat} {j : Nat} {o : Own} : OwnOk w X base b (g j) (o.renm g) ↔ OwnOk w X base (fun i => b (g i)) j o := by
  cases o with
  | box m get ty =>
    constructor
    · rintro ⟨q, cs, h1, h2, h3, h4, hr⟩
      exact ⟨q, cs, h1, h2, h3, h4, fun t ht => let ⟨u, hu, h5, h6⟩ := hr t ht; ⟨u, hu, h5, R_renm.1 h6⟩⟩
    · rintro ⟨q, cs, h1, h2, h3, h4, hr⟩
      exact ⟨q, cs, h1, h2, h3, h4, fun t ht => let ⟨u, hu, h5, h6⟩ := hr t ht; ⟨u, hu, h5, R_renm.2 h6⟩⟩
  | arow n k get e => exact Iff.rfl
  | amap kvs => exact Iff.rfl
  | urow n k get e c ce ck m kn kget hole =>
    cases hole with
    | none =>
      constructor
      · rintro ⟨v, subs, xs, h1, h2, h3, h4, h5, h6⟩
        exact ⟨v, subs, xs, h1, h2, h3, h4, fun i hi t ht => let ⟨u, q1, q2, q3, q4, q5, _⟩ := h5 i hi t ht; ⟨u, q1, q2, q3, q4, q5, fun _ _ h => (by cases h)⟩, h6⟩
      · rintro ⟨v, subs, xs, h1, h2, h3, h4, h5, h6⟩
        exact ⟨v, subs, xs, h1, h2, h3, h4, fun i hi t ht => let ⟨u, q1, q2, q3, q4, q5, _⟩ := h5 i hi t ht; ⟨u, q1, q2, q3, q4, q5, fun _ _ h => (by cases h)⟩, h6⟩
    | some p =>
      obtain ⟨i0, x0⟩ := p
      constructor
      · rintro ⟨v, subs, xs, h1, h2, h3, h4, h5, h6⟩
        exact ⟨v, subs, xs, h1, h2, h3, h4, fun i hi t ht => let ⟨u, q1, q2, q3, q4, q5, q6⟩ := h5 i hi t ht; ⟨u, q1, q2, q3, q4, q5, fun q x hx => by
          simp only [Option.some.injEq, Prod.mk.injEq] at hx
          obtain ⟨rfl, rfl⟩ := hx
          exact R_renm.1 (q6 q _ rfl)⟩, h6⟩
      · rintro ⟨v, subs, xs, h1, h2, h3, h4, h5, h6⟩
        exact ⟨v, subs, xs, h1, h2, h3, h4, fun i hi t ht => let ⟨u, q1, q2, q3, q4, q5, q6⟩ := h5 i hi t ht; ⟨u, q1, q2, q3, q4, q5, fun q x hx => by
          simp only [holeMap, Option.some.injEq, Prod.mk.injEq] at hx
          obtain ⟨rfl, rfl⟩ := hx
          exact R_renm.2 (q6 q _ rfl)⟩, h6⟩
structure OwnsIn (w : World) (X : Nat → Prop) (base : Nat) (b : Nat → Value) (ow : List (Nat × Own)) : Prop where
  owns : ∀ j o, lookO j ow = some o → OwnOk w (fun g => X g ∨ BkO b ow g) base b j o
  apart : ∀ i j oi oj, lookO i ow = some oi → lookO j ow = some oj → i ≠ j → ∀ g, Bk (b i) g → ¬ Bk (b j) g
  free : ∀ g, BkO b ow g → ¬ X g
def CtM (P : Program) (f : FuncId) (args : List SV) (ow : List (Nat × Own)) (r : SV) (ow' : List (Nat × Own)) : Prop :=
  ∀ (w : World) (X : Nat → Prop) (base : Nat) (b : Nat → Value) (vals : List Value), base ≤ w.heap.size → (∀ g, X g → g < w.heap.size) → OwnsIn w X base b ow → Rs w (fun g => X g ∨ BkO b ow g) b args vals →
    Calls P f vals.toArray w fun e w' => ∃ v b', e = .returned v ∧ (∀ j, 1000 ≤ j → b' j = b j) ∧ OwnsIn w' X base b' ow' ∧ R w' (fun g => X g ∨ BkO b' ow' g) b' r v ∧ KeptBut (BkO b ow) w w' ∧ ∀ g, BkO b' ow' g → w.heap.size ≤ g ∨ BkO b ow g
def PostM {NN : Nat} (E : Env NN) (r : SV) (ow' : List (Nat × Own)) : Ending → World → Prop := fun e w' => ∃ v b', e = .returned v ∧ (∀ j, 1000 ≤ j → b' j = E.b0 j) ∧ OwnsIn w' E.X E.base b' ow' ∧ R w' (fun g => E.X g ∨ BkO b' ow' g) b' r v ∧ KeptBut E.Y E.w0 w' ∧
  ∀ g, BkO b' ow' g → E.w0.heap.size ≤ g ∨ E.Y g
theorem rep_argsR {w : World} {X : Nat → Prop} {b : Nat → Value} : ∀ {args : List SV} {vals : List Value} {s : Nat} {pre : List Value} {t : List Value}, Rs w X b args vals → pre.length = s →
    ∀ q x, look q (argSlots s args) = some x → R w X b x ((pre ++ vals ++ t).toArray.getD q undef)
  | [], [], s, pre, t, _, _, q, x, h => by simp [argSlots, look] at h
  | y :: ys, v :: vs, s, pre, t, hr, hp, q, x, h => by
    simp only [argSlots] at h
    rw [look_cons] at h
    split at h
    · rename_i e
      injection h with h
      subst h; subst e; subst hp
      have : (pre ++ v :: vs ++ t).toArray.getD pre.length undef = v := by simp [Array.getD_eq_getD_getElem?, List.append_assoc]
      rw [this]; exact hr.1
    · have := rep_argsR (t := t) (pre := pre ++ [v]) (s := s + 1) hr.2 (by simp [hp]) q x h
      simpa [List.append_assoc] using this
  | [], _ :: _, s, pre, t, h, _, _, _, _ => h.elim
  | _ :: _, [], s, pre, t, h, _, _, _, _ => h.elim
theorem ctM_of {f : FuncId} {fn : Func} {c : Code} {args : List SV} {ow ow' : List (Nat × Own)} {r : SV} (N : Nat) (hf : P.funcs[f]? = some fn) (hb : fn.body = some c) (hN : fn.ntmps = N) (hn : Nat.ble args.length N = true)
    (h : ∀ E : Env N, C P E c ⟨argSlots 0 args, ow⟩ (bodyPost P fn (PostM E r ow'))) : CtM P f args ow r ow' := by
  subst hN
  have hn := Nat.le_of_ble_eq_true hn
  intro w X base b vals hbase hX hO hr
  have hlt : ∀ g, BkO b ow g → g < w.heap.size := fun g ⟨j, o, h1, h2⟩ => ((hO.owns j o h1).lt h2).1
  let E : Env fn.ntmps := ⟨w, X, BkO b ow, base, b, hX, fun g hx hy => hO.free g hy hx, hlt, hbase⟩
  have hC : Calls P f vals.toArray w (PostM E r ow') := by
    refine calls_of_wp hf hb (h E _ _ ⟨b, ?_⟩)
    have hl := rs_len hr
    exact {
      size := by simp [E]; omega
      defers := rfl
      below := KeptBut.refl _ _
      slots := fun s x hx => by
        have h1 := rep_argsR (pre := []) (t := List.replicate (fn.ntmps - vals.length) undef) hr rfl s x hx
        have e : (vals.toArray ++ Array.replicate (fn.ntmps - vals.toArray.size) undef) = ([] ++ vals ++ List.replicate (fn.ntmps - vals.length) undef).toArray := by simp
        show R w _ b x ((vals.toArray ++ Array.replicate (fn.ntmps - vals.toArray.size) undef).getD s undef)
        rw [e]
        exact h1
      owns := hO.owns
      mine := fun j o h1 g h2 => .inr ⟨j, o, h1, h2⟩
      apart := hO.apart
      old := fun _ _ => rfl }
  exact hC
def Own.eqv : Own → Own → Prop
  | .box m g ty, .box m' g' ty' => m = m' ∧ ty = ty' ∧ AllN (fun t => g t = g' t) m
  | o, o' => o = o'
theorem Own.eqv_rfl (o : Own) : o.eqv o := by
  cases o with
  | box m g ty => exact ⟨rfl, rfl, AllN.of fun _ _ => rfl⟩
  | _ => exact rfl
theorem OwnOk.eqv {w : World} {X : Nat → Prop} {base : Nat} {b : Nat → Value} {j : Nat} {o o' : Own} (h : OwnOk w X base b j o) (e : o.eqv o') : OwnOk w X base b j o' := by
  cases o with
  | box m g ty =>
    cases o' with
    | box m' g' ty' =>
      obtain ⟨rfl, rfl, e⟩ := e
      obtain ⟨q, cs, h1, h2, h3, h4, hr⟩ := h
      refine ⟨q, cs, h1, h2, h3, h4, fun t ht => ?_⟩
      obtain ⟨u, hu, h5, h6⟩ := hr t ht
      exact ⟨u, hu, h5, e.at t ht ▸ h6⟩
    | _ => exact (show Own.box m g ty = _ from e) ▸ h
  | arow n k get e1 => have e : Own.arow n k get e1 = o' := by cases o' <;> exact e
                       exact e ▸ h
  | amap kvs => have e : Own.amap kvs = o' := by cases o' <;> exact e
                exact e ▸ h
  | urow n k get e1 c ce ck m kn kget hole => have e : Own.urow n k get e1 c ce ck m kn kget hole = o' := by cases o' <;> exact e
                                              exact e ▸ h
def PassO (S : St) (g : Nat → Nat) : List (Nat × Own) → Prop
  | [] => True
  | p :: r => (∃ o, lookO (g p.1) S.owns = some o ∧ o.eqv (p.2.renm g)) ∧ PassO S g r
theorem PassO.look {S : St} {g : Nat → Nat} : ∀ {l : List (Nat × Own)}, PassO S g l → ∀ j o, lookO j l = some o → ∃ o', lookO (g j) S.owns = some o' ∧ o'.eqv (o.renm g)
  | [], _, j, o, h => by simp [lookO] at h
  | (d, y) :: r, hp, j, o, h => by
    rw [lookO_cons] at h
    split at h
    · rename_i e
      injection h with h
      subst h; subst e
      exact hp.1
    · exact PassO.look hp.2 j o h
def AllOE (S : St) : List (Nat × Own) → Prop
  | [] => True
  | p :: r => (∃ o, lookO p.1 S.owns = some o ∧ o.eqv p.2) ∧ AllOE S r
theorem AllOE.look {S : St} : ∀ {l : List (Nat × Own)}, AllOE S l → ∀ j o, lookO j l = some o → ∃ o', lookO j S.owns = some o' ∧ o'.eqv o
  | [], _, j, o, h => by simp [lookO] at h
  | (d, y) :: r, hp, j, o, h => by
    rw [lookO_cons] at h
    split at h
    · rename_i e
      injection h with h
      subst h; subst e
      exact hp.1
    · exact AllOE.look hp.2 j o h
theorem weakE {S : St} {sl : List (Nat × SV)} {ow : List (Nat × Own)} (hs : AllV E S sl) (ho : AllOE S ow) : Weak E S ⟨sl, ow⟩ := fun b a w hr => by
  have hX : ∀ g, St.excl ⟨sl, ow⟩ E b g → S.excl E b g := by
    rintro g (h | ⟨j, o, h1, h2⟩)
    · exact .inl h
    · obtain ⟨o', h3, _⟩ := ho.look _ _ h1
      exact .inr ⟨j, o', h3, h2⟩
  exact {
    size := hr.size
    defers := hr.defers
    below := hr.below
    slots := fun s x hx => (hs.look s x hx b a w hr).mono ⟨Nat.le_refl _, fun _ _ _ => rfl⟩ (fun g _ hh => hX g hh)
    owns := fun j o h => by
      obtain ⟨o', h3, h4⟩ := ho.look _ _ h
      exact ((hr.owns j o' h3).eqv h4).mono hX
    mine := fun j o h => by
      obtain ⟨o', h3, _⟩ := ho.look _ _ h
      exact hr.mine j o' h3
    apart := fun i j oi oj h1 h2 => by
      obtain ⟨o1, h3, _⟩ := ho.look _ _ h1
      obtain ⟨o2, h4, _⟩ := ho.look _ _ h2
      exact hr.apart i j o1 o2 h3 h4
    old := hr.old }
theorem post_retM {fn : Func} {r x : SV} {b : Nat → Value} {S : St} {a : Act} {w : World} {ow' : List (Nat × Own)} (hr : RepB E b S a w) {v : Value} (hv : (results fn a.tmps).run P w = .ok v w) (hx : R w (S.excl E b) b x v) (ho : AllOE S ow') (e : x = r) :
    ∃ v, (results fn a.tmps).run P w = .ok v w ∧ PostM E r ow' (.returned v) w := by
  subst e
  have h := weakE (E := E) (sl := []) trivial ho b a w hr
  have hX : ∀ g, St.excl ⟨[], ow'⟩ E b g → S.excl E b g := by
    rintro g (h | ⟨j, o, h1, h2⟩)
    · exact .inl h
    · obtain ⟨o', h3, _⟩ := ho.look _ _ h1
      exact .inr ⟨j, o', h3, h2⟩
  refine ⟨v, hv, v, b, rfl, h.old, ⟨h.owns, h.apart, fun g ⟨j, o, h1, h2⟩ => h.notX h1 h2⟩, hx.mono ⟨Nat.le_refl _, fun _ _ _ => rfl⟩ (fun g _ hh => hX g hh), h.below, fun g ⟨j, o, h1, h2⟩ => h.mine j o h1 g h2⟩
theorem retM1 {fn : Func} {t : Tmp} {S : St} {x r : SV} {ow' : List (Nat × Own)} (hres : fn.results = #[.tmp t]) (h : Val E S (.tmp t) x) (ho : AllOE S ow') (e : x = r) : ∀ a w, Rep E S a w → bodyPost P fn (PostM E r ow') .ret a w := by
  rintro a w ⟨b, hr⟩
  exact ⟨hr.defers, post_retM hr (results_tmp hres _ _ _) (h b a w hr) ho e⟩
theorem retM2 {fn : Func} {t u : Tmp} {S : St} {x y r : SV} {ow' : List (Nat × Own)} (hres : fn.results = #[.tmp t, .tmp u]) (hx : Val E S (.tmp t) x) (hy : Val E S (.tmp u) y) (ho : AllOE S ow') (e : sv2 x y = r) : ∀ a w, Rep E S a w → bodyPost P fn (PostM E r ow') .ret a w := by
  rintro a w ⟨b, hr⟩
  exact ⟨hr.defers, post_retM (x := sv2 x y) hr (results_tmp2 hres _ _ _) ⟨_, rfl, rfl, fun i hi => match i, hi with
    | 0, _ => ⟨_, rfl, hx b a w hr⟩
    | 1, _ => ⟨_, rfl, hy b a w hr⟩⟩ ho e⟩
def sv0 : SV := .tup 0 fun _ => .junk
theorem endM0 {fn : Func} {S : St} {r : SV} {ow' : List (Nat × Own)} (hres : fn.results = #[]) (ho : AllOE S ow') (e : sv0 = r) : ∀ a w, Rep E S a w → bodyPost P fn (PostM E r ow') .normal a w := by
  rintro a w ⟨b, hr⟩
  exact ⟨hr.defers, post_retM (x := sv0) hr (results_none hres _ _ _) ⟨_, rfl, rfl, fun i hi => absurd hi (Nat.not_lt_zero i)⟩ ho e⟩
def memB (x : Nat) : List Nat → Bool
  | [] => false
  | y :: r => match Nat.beq x y with | true => true | false => memB x r
theorem memB_iff {x : Nat} : ∀ {l : List Nat}, memB x l = true ↔ x ∈ l
  | [] => by simp [memB]
  | y :: r => by
    simp only [memB]
    split
    · rename_i h; have := Nat.eq_of_beq_eq_true h; simp [this]
    · rename_i h
      rw [memB_iff (l := r)]
      have : x ≠ y := by rintro rfl; simp at h
      simp [this]
def dropKs (ks : List Nat) : List (Nat × Own) → List (Nat × Own)
  | [] => []
  | p :: r => match memB p.1 ks with | true => dropKs ks r | false => p :: dropKs ks r
theorem lookO_dropKs {ks : List Nat} : ∀ {l : List (Nat × Own)} {j : Nat} {o : Own}, lookO j (dropKs ks l) = some o → j ∉ ks ∧ lookO j l = some o
  | [], j, o, h => by simp [dropKs, lookO] at h
  | (d, y) :: r, j, o, h => by
    simp only [dropKs] at h
    split at h
    · rename_i hm
      have hm := memB_iff.1 hm
      obtain ⟨h1, h2⟩ := lookO_dropKs h
      refine ⟨h1, ?_⟩
      rw [lookO_cons, if_neg (fun e : j = d => h1 (by rw [e]; exact hm))]; exact h2
    · rename_i hm
      rw [lookO_cons] at h ⊢
      split at h
      · rename_i e
        injection h with h
        subst h; subst e
        exact ⟨fun hh => (by rw [memB_iff.2 hh] at hm; cases hm), by simp⟩
      · rename_i e
        obtain ⟨h1, h2⟩ := lookO_dropKs h
        exact ⟨h1, by rw [if_neg e]; exact h2⟩
def renO (g : Nat → Nat) : List (Nat × Own) → List (Nat × Own)
  | [] => []
  | p :: r => (g p.1, p.2.renm g) :: renO g r
theorem lookO_renO {g : Nat → Nat} : ∀ {l : List (Nat × Own)} {j : Nat} {o : Own}, lookO j (renO g l) = some o → ∃ i o', lookO i l = some o' ∧ j = g i ∧ o = o'.renm g
  | [], j, o, h => by simp [renO, lookO] at h
  | (d, y) :: r, j, o, h => by
    simp only [renO] at h
    rw [lookO_cons] at h
    split at h
    · rename_i e
      injection h with h
      exact ⟨d, y, by rw [lookO_cons, if_pos rfl], e, h.symm⟩
    · rename_i e
      obtain ⟨i, o', h1, h2, h3⟩ := lookO_renO h
      refine ⟨i, o', ?_, h2, h3⟩
      rw [lookO_cons, if_neg (fun e' => e (by rw [h2, e']))]; exact h1
theorem lookO_app {l m : List (Nat × Own)} {j : Nat} {o : Own} (h : lookO j (l ++ m) = some o) : lookO j l = some o ∨ (lookO j l = none ∧ lookO j m = some o) := by
  induction l with
  | nil => exact .inr ⟨rfl, h⟩
  | cons p r ih =>
    obtain ⟨d, y⟩ := p
    rw [List.cons_append, lookO_cons] at h
    rw [lookO_cons]
    split at h
    · rename_i e; left; rw [if_pos e]; exact h
    · rename_i e; rw [if_neg e]; exact ih h
def setN (b b' : Nat → Value) : List (Nat × Nat) → Nat → Value
  | [], i => b i
  | p :: r, i => match Nat.beq i p.2 with | true => b' p.1 | false => setN b b' r i
def FreshN (S : St) : List (Nat × Nat) → Bool
  | [] => true
  | p :: r => (S.fresh p.2 && !(memB p.2 (r.map (·.2)))) && FreshN S r
theorem setN_other {b b' : Nat → Value} : ∀ {l : List (Nat × Nat)} {i : Nat}, memB i (l.map (·.2)) = false → setN b b' l i = b i
  | [], _, _ => rfl
  | p :: r, i, h => by
    simp only [List.map_cons, memB] at h
    split at h
    · cases h
    · rename_i hb
      simp only [setN, hb]
      exact setN_other h
def inD : List (Nat × Nat) → Nat → Bool
  | [], _ => false
  | p :: r, i => match Nat.beq i p.1 with | true => true | false => inD r i
def hiD (l : List (Nat × Nat)) (i : Nat) : Bool := inD l i && Nat.ble 1000 i
def allIds (p : Nat → Bool) : List (Nat × Own) → Bool
  | [] => true
  | q :: r => (p q.1 && q.2.okId p) && allIds p r
theorem allIds_at {p : Nat → Bool} : ∀ {l : List (Nat × Own)}, allIds p l = true → ∀ j o, lookO j l = some o → p j = true ∧ o.okId p = true
  | [], _, j, o, h => by simp [lookO] at h
  | (d, y) :: r, ha, j, o, h => by
    simp only [allIds, Bool.and_eq_true] at ha
    rw [lookO_cons] at h
    split at h
    · rename_i e
      injection h with h
      subst h; subst e
      exact ha.1
    · exact allIds_at ha.2 j o h
def distinctB (g : Nat → Nat) : List (Nat × Own) → Bool
  | [] => true
  | p :: r => (r.all fun q => !(Nat.beq (g p.1) (g q.1))) && distinctB g r
theorem lookO_in : ∀ {l : List (Nat × Own)} {j : Nat} {o : Own}, lookO j l = some o → (j, o) ∈ l
  | [], j, o, h => by simp [lookO] at h
  | (d, y) :: r, j, o, h => by
    rw [lookO_cons] at h
    split at h
    · rename_i e
      injection h with h
      subst h; subst e
      exact .head _
    · exact .tail _ (lookO_in h)
theorem distinctB_at {g : Nat → Nat} : ∀ {l : List (Nat × Own)}, distinctB g l = true → ∀ i j oi oj, lookO i l = some oi → lookO j l = some oj → i ≠ j → g i ≠ g j
  | [], _, i, j, oi, oj, h, _, _ => by simp [lookO] at h
  | (d, y) :: r, hd, i, j, oi, oj, hi, hj, hne => by
    simp only [distinctB, Bool.and_eq_true, List.all_eq_true] at hd
    rw [lookO_cons] at hi hj
    have hq : ∀ j o, lookO j r = some o → g d ≠ g j := fun j o hj e => by
      have := hd.1 _ (lookO_in hj)
      simp only [e] at this
      simp at this
    split at hi
    · rename_i e1
      subst e1
      split at hj
      · rename_i e2; exact absurd e2.symm hne
      · exact hq j _ hj
    · rename_i e1
      split at hj
      · rename_i e2; subst e2; exact fun e => hq i _ hi e.symm
      · exact distinctB_at hd.2 i j oi oj hi hj hne
theorem rn_mem : ∀ {r : List (Nat × Nat)} {i : Nat}, inD r i = true → rn r i ∈ r.map (·.2)
  | [], _, h => by simp [inD] at h
  | q :: r, i, h => by
    simp only [inD] at h
    simp only [rn]
    split
    · simp
    · rename_i hb
      rw [hb] at h
      obtain ⟨z, hz, e⟩ := List.mem_map.1 (rn_mem h)
      exact List.mem_map.2 ⟨z, .tail _ hz, e⟩
theorem setN_at {b b' : Nat → Value} {S : St} : ∀ {l : List (Nat × Nat)} {i : Nat}, FreshN S l = true → inD l i = true → setN b b' l (rn l i) = b' i
  | [], _, _, h => by simp [inD] at h
  | p :: r, i, hf, h => by
    simp only [FreshN, Bool.and_eq_true, Bool.not_eq_true'] at hf
    simp only [inD] at h
    simp only [rn]
    split
    · rename_i hb
      have hb := Nat.eq_of_beq_eq_true hb
      subst hb
      simp [setN]
    · rename_i hb
      rw [hb] at h
      have hne : Nat.beq (rn r i) p.2 = false := by
        cases hq : Nat.beq (rn r i) p.2 with
        | false => rfl
        | true =>
          have hq := Nat.eq_of_beq_eq_true hq
          have : rn r i ∈ r.map (·.2) := rn_mem h
          rw [hq, ← memB_iff, hf.1.2] at this
          cases this
      simp only [setN, hne]
      exact setN_at hf.2 h
theorem freshN_mem {S : St} : ∀ {l : List (Nat × Nat)} {i : Nat}, FreshN S l = true → memB i (l.map (·.2)) = true → S.fresh i = true
  | [], _, _, h => by simp [memB] at h
  | p :: r, i, hf, h => by
    simp only [FreshN, Bool.and_eq_true] at hf
    simp only [List.map_cons, memB] at h
    split at h
    · rename_i hb
      have := Nat.eq_of_beq_eq_true hb
      rw [this]; exact hf.1.1
    · exact freshN_mem hf.2 h
theorem noIds {l : List Nat} {x : SV} (h : ∀ i, memB i l = true → x.noId i = true) : x.okId (fun i => !(memB i l)) = true := by
  induction x with
  | agg m get ih => exact allB_of fun t ht => ih t fun i hi => allB_iff (h i hi) t ht
  | tup m get ih => exact allB_of fun t ht => ih t fun i hi => allB_iff (h i hi) t ht
  | fn f m get ih => exact allB_of fun t ht => ih t fun i hi => allB_iff (h i hi) t ht
  | grd c x ih => exact ih h
  | bp i off =>
    show (!(memB i l)) = true
    cases hm : memB i l with
    | false => rfl
    | true => exact absurd rfl (notJ_ne (h i hm))
  | own i =>
    show (!(memB i l)) = true
    cases hm : memB i l with
    | false => rfl
    | true => exact absurd rfl (notJ_ne (h i hm))
  | oe i k p off =>
    show (!(memB i l)) = true
    cases hm : memB i l with
    | false => rfl
    | true => exact absurd rfl (notJ_ne (h i hm))
  | sub i k lo m =>
    show (!(memB i l)) = true
    cases hm : memB i l with
    | false => rfl
    | true => exact absurd rfl (notJ_ne (h i hm))
  | _ => rfl
theorem inD_app {l m : List (Nat × Nat)} {i : Nat} : rn (l ++ m) i = if inD l i = true then rn l i else rn m i := by
  induction l with
  | nil => rfl
  | cons p r ih =>
    rcases Bool.eq_false_or_eq_true (Nat.beq i p.1) with hq | hq
    · simp only [List.cons_append, rn, inD, hq]; rfl
    · simp only [List.cons_append, rn, inD, hq]; exact ih
def disjB (ρ ν : List (Nat × Nat)) : Bool := ρ.all fun p => !(memB p.2 (ν.map (·.2)))
theorem disjB_at {ρ ν : List (Nat × Nat)} (h : disjB ρ ν = true) {i : Nat} (hi : inD ρ i = true) : memB (rn ρ i) (ν.map (·.2)) = false := by
  obtain ⟨p, hp, e⟩ := List.mem_map.1 (rn_mem hi)
  have := List.all_eq_true.1 h p hp
  rw [← e]; simpa using this
theorem Own.All_many {l : List Nat} {o : Own} (h : ∀ i, memB i l = true → o.noId i = true) : o.All fun x => ∀ i, memB i l = true → x.noId i = true := by
  cases o with
  | box m get ty => exact fun t ht i hi => Own.noId_all (h i hi) t ht
  | urow n k get e c ce ck m kn kget hole => exact fun q hq i hi => Own.noId_all (h i hi) q hq
  | _ => trivial
theorem call_stepM {S : St} {b : Nat → Value} {a : Act} {w : World} (hr : RepB E b S a w) {f : FuncId} {vals : List Value} {cargs : List SV} {cow cow' : List (Nat × Own)} {cr : SV} (ρ ν : List (Nat × Nat))
    (h : CtM P f cargs cow cr cow') (hv : Rs w (S.excl E b) (fun i => b (rn ρ i)) cargs vals) (hp : PassO S (rn ρ) cow) (hd : distinctB (rn ρ) cow = true) (hn : FreshN S ν = true) (hρ : disjB ρ ν = true)
    (hid : (cr.okId (fun i => hiD ρ i || (inD ν i && !(inD ρ i))) && allIds (fun i => hiD ρ i || (inD ν i && !(inD ρ i))) cow') = true) :
    Calls P f vals.toArray w fun e w'' => ∃ v b'', e = .returned v ∧ RepB E b'' ⟨S.slots, renO (rn (ρ ++ ν)) cow' ++ dropKs (cow.map fun p => rn ρ p.1) S.owns⟩ a w'' ∧
      R w'' (St.excl ⟨S.slots, renO (rn (ρ ++ ν)) cow' ++ dropKs (cow.map fun p => rn ρ p.1) S.owns⟩ E b'') b'' (cr.renm (rn (ρ ++ ν))) v := by
  simp only [Bool.and_eq_true] at hid
  have hrest : ∀ {j o}, lookO j (dropKs (cow.map fun p => rn ρ p.1) S.owns) = some o → (∀ i o', lookO i cow = some o' → rn ρ i ≠ j) ∧ lookO j S.owns = some o := fun {j o} hj => by
    obtain ⟨h1, h2⟩ := lookO_dropKs hj
    exact ⟨fun i o' hi e => h1 (List.mem_map.2 ⟨(i, o'), lookO_in hi, e⟩), h2⟩
  -- the callee's view
  let bc : Nat → Value := fun i => b (rn ρ i)
  let Xc : Nat → Prop := fun g => E.X g ∨ BkO b (dropKs (cow.map fun p => rn ρ p.1) S.owns) g
  have hpl : ∀ i o, lookO i cow = some o → ∃ o', lookO (rn ρ i) S.owns = some o' := fun i o hi => (hp.look i o hi).imp fun _ h => h.1
  have hcow : ∀ g, BkO bc cow g → S.excl E b g := fun g ⟨i, o, h1, h2⟩ => .inr ⟨rn ρ i, _, (hpl i o h1).choose_spec, h2⟩
  have hXc : ∀ g, Xc g → S.excl E b g := by
    rintro g (h1 | ⟨j, o, h1, h2⟩)
    · exact .inl h1
    · exact .inr ⟨j, o, (hrest h1).2, h2⟩
  have hall : ∀ g, (Xc g ∨ BkO bc cow g) → S.excl E b g := fun g hg => hg.elim (hXc g) (hcow g)
  have hdis : ∀ g, BkO bc cow g → ¬ Xc g := by
    rintro g ⟨i, o, h1, h2⟩ (h3 | ⟨j, o', h3, h4⟩)
    · exact hr.notX (hpl i o h1).choose_spec h2 h3
    · exact hr.apart _ _ _ _ (hpl i o h1).choose_spec (hrest h3).2 ((hrest h3).1 i o h1) g h2 h4
  have hE : Ext (S.excl E b) w w := ⟨Nat.le_refl _, fun _ _ _ => rfl⟩
  have hin : OwnsIn w Xc E.base bc cow := ⟨fun i o hi => (OwnOk_renm.1 ((hr.owns _ _ (hp.look i o hi).choose_spec.1).eqv (hp.look i o hi).choose_spec.2)).mono hall,
    fun i j oi oj hi hj hne g => hr.apart _ _ _ _ (hpl i oi hi).choose_spec (hpl j oj hj).choose_spec (distinctB_at hd i j oi oj hi hj hne) g, hdis⟩
  have hlen : ∀ {l : List SV} {vs : List Value}, Rs w (S.excl E b) bc l vs → Rs w (fun g => Xc g ∨ BkO bc cow g) bc l vs := fun {l} => by
    induction l with
    | nil => intro vs hh; cases vs <;> exact hh
    | cons x l ih =>
      intro vs hh
      cases vs with
      | nil => exact hh
      | cons v vs => exact ⟨hh.1.mono hE (fun g _ hg => hall g hg), ih hh.2⟩
  refine (h w Xc E.base bc vals hr.base_le (fun g hg => hr.excl_lt (hXc g hg)) hin (hlen hv)).mono ?_
  rintro e w'' ⟨v, b', rfl, hold, hout, hR, hkept, hnew⟩
  let b'' := setN b b' ν
  have hext : Ext (S.excl E b) w w'' := ⟨hkept.size, fun g hg hX => hkept.block g hg (fun hh => hX (hcow g hh))⟩
  have hb'' : ∀ i, memB i (ν.map (·.2)) = false → b'' i = b i := fun i hi => setN_other hi
  -- names that come back
  have hρν : ∀ i, (hiD ρ i || (inD ν i && !(inD ρ i))) = true → b'' (rn (ρ ++ ν) i) = b' i := fun i hi => by
    rw [inD_app]
    cases hq : inD ρ i with
    | true =>
      rw [if_pos rfl]
      have h1000 : 1000 ≤ i := by
        simp only [hq, hiD, Bool.true_and, Bool.not_true, Bool.and_false, Bool.or_false] at hi
        exact Nat.le_of_ble_eq_true hi
      rw [hold i h1000]
      show setN b b' ν (rn ρ i) = b (rn ρ i)
      exact setN_other (disjB_at hρ hq)
    | false =>
      rw [if_neg (by simp)]
      simp only [hiD, hq, Bool.false_and, Bool.false_or, Bool.not_false, Bool.and_true] at hi
      exact setN_at hn hi
  have hfr : ∀ j, memB j (ν.map (·.2)) = true → freshS j S.slots = true ∧ freshO j S.owns = true ∧ j < 1000 := fun j hj => St.fresh_parts (freshN_mem hn hj)
  have hkey : ∀ {j o}, lookO j S.owns = some o → memB j (ν.map (·.2)) = false := fun {j o} hj => by
    cases hm : memB j (ν.map (·.2)) with
    | false => rfl
    | true => exact absurd rfl (lookO_fresh (hfr j hm).2.1 j o hj).1
  let S'' : St := ⟨S.slots, renO (rn (ρ ++ ν)) cow' ++ dropKs (cow.map fun p => rn ρ p.1) S.owns⟩
  have hl : ∀ {j o}, lookO j S''.owns = some o → (∃ i o', lookO i cow' = some o' ∧ j = rn (ρ ++ ν) i ∧ o = o'.renm (rn (ρ ++ ν)) ∧ b'' j = b' i) ∨ (lookO j (dropKs (cow.map fun p => rn ρ p.1) S.owns) = some o ∧ b'' j = b j) := fun {j o} hj => by
    rcases lookO_app hj with h1 | ⟨_, h1⟩
    · obtain ⟨i, o', h2, rfl, rfl⟩ := lookO_renO h1
      exact .inl ⟨i, o', h2, rfl, rfl, hρν i (allIds_at hid.2 i o' h2).1⟩
    · exact .inr ⟨h1, hb'' j (hkey (hrest h1).2)⟩
  have hX3 : ∀ g, S''.excl E b'' g → Xc g ∨ BkO b' cow' g := by
    rintro g (h1 | ⟨j, o, h1, h2⟩)
    · exact .inl (.inl h1)
    · rcases hl h1 with ⟨i, o', h3, rfl, rfl, h4⟩ | ⟨h3, h4⟩
      · rw [h4] at h2; exact .inr ⟨i, o', h3, h2⟩
      · rw [h4] at h2; exact .inl (.inr ⟨j, o, h3, h2⟩)
  have hX2 : ∀ g, g < w.heap.size → S''.excl E b'' g → S.excl E b g := fun g hg h1 => by
    rcases hX3 g h1 with h2 | h2
    · exact hXc g h2
    · rcases hnew g h2 with h3 | h3
      · omega
      · exact hcow g h3
  have hRR : ∀ x v, (∀ i, memB i (ν.map (·.2)) = true → x.noId i = true) → R w (S.excl E b) b x v → R w'' (S''.excl E b'') b'' x v := fun x v hx hr => by
    refine (R_congr (p := fun i => !(memB i (ν.map (·.2)))) (fun i hi => hb'' i (by simpa using hi)) (noIds hx) hr).mono hext hX2
  have hRM : ∀ x v, x.okId (fun i => hiD ρ i || (inD ν i && !(inD ρ i))) = true → R w'' (fun g => Xc g ∨ BkO b' cow' g) b' x v → R w'' (S''.excl E b'') (fun i => b'' (rn (ρ ++ ν) i)) x v := fun x v hx hr =>
    (R_congr (b' := fun i => b'' (rn (ρ ++ ν) i)) hρν hx hr).mono ⟨Nat.le_refl _, fun _ _ _ => rfl⟩ (fun g _ hg => hX3 g hg)
  refine ⟨v, b'', rfl, ?_, R_renm.2 (hRM _ _ hid.1 hR)⟩
  exact {
    size := hr.size
    defers := hr.defers
    below := ⟨hkept.os.trans hr.below.os, hkept.tape.trans hr.below.tape, hkept.output.trans hr.below.output, Nat.le_trans hr.below.size hkept.size, fun g hg hY => by
      refine (hkept.block g (by have := hr.below.size; omega) fun hh => ?_).trans (hr.below.block g hg hY)
      obtain ⟨i, o, h1, h2⟩ := hh
      rcases hr.mine _ _ (hpl i o h1).choose_spec g h2 with h3 | h3
      · omega
      · exact hY h3⟩
    slots := fun s x hx => hRR _ _ (fun i hi => look_fresh (hfr i hi).1 s x hx) (hr.slots s x hx)
    owns := fun j o hj => by
      rcases hl hj with ⟨i, o', h3, rfl, rfl, h4⟩ | ⟨h3, h4⟩
      · exact OwnOk_renm.2 ((hout.owns i o' h3).keep0 (b' := fun i => b'' (rn (ρ ++ ν) i)) (p := fun x => x.okId (fun i => hiD ρ i || (inD ν i && !(inD ρ i))) = true) h4 (Own.okId_all (allIds_at hid.2 i o' h3).2) (fun _ _ _ => rfl) hRM
          (fun x v hr => hr.mono ⟨Nat.le_refl _, fun _ _ _ => rfl⟩ (fun g _ hg => hX3 g hg)))
      · exact (hr.owns j o (hrest h3).2).keep0 (p := fun x => ∀ i, memB i (ν.map (·.2)) = true → x.noId i = true) h4 (Own.All_many fun i hi => (lookO_fresh (hfr i hi).2.1 j o (hrest h3).2).2)
          (fun g hg hb => hkept.block g hg fun ⟨i, o', h5, h6⟩ => hr.apart _ _ _ _ (hpl i o' h5).choose_spec (hrest h3).2 ((hrest h3).1 i o' h5) g h6 hb) hRR (fun x v hr => hr.mono hext hX2)
    mine := fun j o hj g hg => by
      rcases hl hj with ⟨i, o', h3, rfl, rfl, h4⟩ | ⟨h3, h4⟩
      · rw [h4] at hg
        rcases hnew g ⟨i, o', h3, hg⟩ with h5 | ⟨i2, o2, h5, h6⟩
        · exact .inl (Nat.le_trans hr.below.size h5)
        · exact hr.mine _ _ (hpl i2 o2 h5).choose_spec g h6
      · rw [h4] at hg
        exact hr.mine j o (hrest h3).2 g hg
    apart := fun j1 j2 o1 o2 h1 h2 hne g hg1 hg2 => by
      rcases hl h1 with ⟨i, o', h3, rfl, rfl, h4⟩ | ⟨h3, h4⟩
      · rcases hl h2 with ⟨i2, o2', h5, rfl, rfl, h6⟩ | ⟨h5, h6⟩
        · rw [h4] at hg1; rw [h6] at hg2
          exact hout.apart i i2 _ _ h3 h5 (fun e => hne (by rw [e])) g hg1 hg2
        · rw [h4] at hg1; rw [h6] at hg2
          exact hout.free g ⟨i, o', h3, hg1⟩ (.inr ⟨j2, o2, h5, hg2⟩)
      · rcases hl h2 with ⟨i2, o2', h5, rfl, rfl, h6⟩ | ⟨h5, h6⟩
        · rw [h4] at hg1; rw [h6] at hg2
          exact hout.free g ⟨i2, o2', h5, hg2⟩ (.inr ⟨j1, o1, h3, hg1⟩)
        · rw [h4] at hg1; rw [h6] at hg2
          exact hr.apart j1 j2 _ _ (hrest h3).2 (hrest h5).2 hne g hg1 hg2
    old := fun j hj => (hb'' j (by
      cases hm : memB j (ν.map (·.2)) with
      | false => rfl
      | true => have := (hfr j hm).2.2; omega)).trans (hr.old j hj) }
def MVals {NN : Nat} (E : Env NN) (S : St) (g : Nat → Nat) : List Operand → List SV → Prop
  | [], [] => True
  | x :: xs, s :: ss => Val E S x (s.renm g) ∧ MVals E S g xs ss
  | _, _ => False
theorem MVals.rs {S : St} {g : Nat → Nat} {b : Nat → Value} {a : Act} {w : World} (hr : RepB E b S a w) : ∀ {xs : List Operand} {ss : List SV}, MVals E S g xs ss → Rs w (S.excl E b) (fun i => b (g i)) ss (xs.map a.eval)
  | [], [], _ => trivial
  | _ :: _, _ :: _, h => ⟨R_renm.1 (h.1 b a w hr), MVals.rs hr h.2⟩
  | [], _ :: _, h => h.elim
  | _ :: _, [], h => h.elim
def renL (g : Nat → Nat) : List SV → List SV
  | [] => []
  | x :: r => x.renm g :: renL g r
theorem rs_renL {w : World} {X : Nat → Prop} {b : Nat → Value} {g : Nat → Nat} : ∀ {l : List SV} {vs : List Value}, Rs w X b (renL g l) vs → Rs w X (fun i => b (g i)) l vs
  | [], [], _ => trivial
  | _ :: _, _ :: _, h => ⟨R_renm.1 h.1, rs_renL h.2⟩
  | [], _ :: _, h => h.elim
  | _ :: _, [], h => h.elim
theorem t_callM {ops : Array Oper} {rest : List Oper} {S : St} {K : St → Prop} {d : Tmp} {f : FuncId} {xs : List Operand} {ats : Array TypeId} {ty : TypeId} {pos : String} {after : Array Edge} {cargs : List SV} {cow cow' : List (Nat × Own)} {cr : SV} (ρ ν : List (Nat × Nat))
    (hf : Enters P f) (ha : MVals E S (rn ρ) xs cargs) (h : CtM P f cargs cow cr cow') (hp : PassO S (rn ρ) cow) (hdi : distinctB (rn ρ) cow = true) (hn : FreshN S ν = true) (hρ : disjB ρ ν = true)
    (hid : (cr.okId (fun i => hiD ρ i || (inD ν i && !(inD ρ i))) && allIds (fun i => hiD ρ i || (inD ν i && !(inD ρ i))) cow') = true)
    (hk : T P E ops rest ⟨(d, cr.renm (rn (ρ ++ ν))) :: S.slots, renO (rn (ρ ++ ν)) cow' ++ dropKs (cow.map fun p => rn ρ p.1) S.owns⟩ K) (hd : d < NN := by decide) :
    T P E ops ({ dst := some d, op := .call { callee := .value (.func f), args := xs.toArray, argTypes := ats }, type := ty, pos, after, guard := none } :: rest) S K := by
  rintro a w ⟨b, hr⟩ Q hq
  unfold wpList
  rw [if_pos (by rfl)]
  refine .inl (wp_of_enter (R := fun v w'' => ∃ b'', RepB E b'' ⟨S.slots, renO (rn (ρ ++ ν)) cow' ++ dropKs (cow.map fun p => rn ρ p.1) S.owns⟩ a w'' ∧ R w'' (St.excl ⟨S.slots, renO (rn (ρ ++ ν)) cow' ++ dropKs (cow.map fun p => rn ρ p.1) S.owns⟩ E b'') b'' (cr.renm (rn (ρ ++ ν))) v)
    (run_call hf ..) ?_ fun v w'' ⟨b'', hr', hv⟩ => hk _ _ ⟨b'', hr'.put hd hv⟩ Q hq)
  refine (call_stepM hr ρ ν h (ha.rs hr) hp hdi hn hρ hid).mono ?_
  rintro e w'' ⟨v, b'', rfl, h1, h2⟩
  exact ⟨v, rfl, b'', h1, h2⟩
theorem t_callMV {ops : Array Oper} {rest : List Oper} {S : St} {K : St → Prop} {d : Tmp} {f : FuncId} {xf : Operand} {xs : List Operand} {ats : Array TypeId} {ty : TypeId} {pos : String} {after : Array Edge} {caps cargs : List SV} {cow cow' : List (Nat × Own)} {cr : SV} (ρ ν : List (Nat × Nat))
    (hxf : FnVal E S xf f (renL (rn ρ) caps)) (hf : Enters P f) (ha : MVals E S (rn ρ) xs cargs) (h : CtM P f (cargs ++ caps) cow cr cow') (hp : PassO S (rn ρ) cow) (hdi : distinctB (rn ρ) cow = true) (hn : FreshN S ν = true) (hρ : disjB ρ ν = true)
    (hid : (cr.okId (fun i => hiD ρ i || (inD ν i && !(inD ρ i))) && allIds (fun i => hiD ρ i || (inD ν i && !(inD ρ i))) cow') = true)
    (hk : T P E ops rest ⟨(d, cr.renm (rn (ρ ++ ν))) :: S.slots, renO (rn (ρ ++ ν)) cow' ++ dropKs (cow.map fun p => rn ρ p.1) S.owns⟩ K) (hd : d < NN := by decide) :
    T P E ops ({ dst := some d, op := .call { callee := .value xf, args := xs.toArray, argTypes := ats }, type := ty, pos, after, guard := none } :: rest) S K := by
  rintro a w ⟨b, hr⟩ Q hq
  obtain ⟨vals, hv, hc⟩ := hxf b a w hr
  unfold wpList
  rw [if_pos (by rfl)]
  refine .inl (wp_of_enter (R := fun v w'' => ∃ b'', RepB E b'' ⟨S.slots, renO (rn (ρ ++ ν)) cow' ++ dropKs (cow.map fun p => rn ρ p.1) S.owns⟩ a w'' ∧ R w'' (St.excl ⟨S.slots, renO (rn (ρ ++ ν)) cow' ++ dropKs (cow.map fun p => rn ρ p.1) S.owns⟩ E b'') b'' (cr.renm (rn (ρ ++ ν))) v)
    (run_callV hf a xf vals hv ..) ?_ fun v w'' ⟨b'', hr', hv⟩ => hk _ _ ⟨b'', hr'.put hd hv⟩ Q hq)
  refine (call_stepM hr ρ ν h (rs_app (ha.rs hr) (rs_renL hc)) hp hdi hn hρ hid).mono ?_
  rintro e w'' ⟨v, b'', rfl, h1, h2⟩
  exact ⟨v, rfl, b'', h1, h2⟩
end Go.Eng
namespace Go.Eng
open Go.RowKit
variable {P : Program} {NN : Nat} {E : Env NN}
def mvN (j j' : Nat) (i : Nat) : Nat := match Nat.beq i j with | true => j' | false => i
theorem rep_mv {S : St} {b : Nat → Value} {a : Act} {w : World} (h : RepB E b S a w) (j j' : Nat) {o : Own} (ho : lookO j S.owns = some o) (hf : S.fresh j' = true) :
    RepB E (setB b j' (b j)) ⟨mapS (SV.renm (mvN j j')) S.slots, (j', o.map (SV.renm (mvN j j'))) :: dropM (SV.renm (mvN j j')) j S.owns⟩ a w := by
  obtain ⟨hf1, hf2, hf3⟩ := St.fresh_parts hf
  have hN : ∀ i, notJ j' i = true → setB b j' (b j) (mvN j j' i) = b i := fun i hi => by
    have hne := notJ_ne hi
    unfold mvN
    split
    · rename_i hb
      rw [setB_same, Nat.eq_of_beq_eq_true hb]
    · rw [setB_other _ _ _ hne]
  have hX : ∀ g, St.excl ⟨mapS (SV.renm (mvN j j')) S.slots, (j', o.map (SV.renm (mvN j j'))) :: dropM (SV.renm (mvN j j')) j S.owns⟩ E (setB b j' (b j)) g → S.excl E b g := by
    rintro g (hh | ⟨i, o1, h1, h2⟩)
    · exact .inl hh
    · rw [lookO_cons] at h1
      split at h1
      · rename_i e; subst e; rw [setB_same] at h2; exact .inr ⟨j, o, ho, h2⟩
      · rename_i e
        rw [setB_other _ _ _ e] at h2
        obtain ⟨_, z, hz, _⟩ := lookO_dropM h1
        exact .inr ⟨i, z, hz, h2⟩
  have he : Ext (S.excl E b) w w := ⟨Nat.le_refl _, fun _ _ _ => rfl⟩
  have hR : ∀ x v, x.noId j' = true → R w (S.excl E b) b x v → R w (St.excl ⟨mapS (SV.renm (mvN j j')) S.slots, (j', o.map (SV.renm (mvN j j'))) :: dropM (SV.renm (mvN j j')) j S.owns⟩ E (setB b j' (b j))) (setB b j' (b j)) (x.renm (mvN j j')) v :=
    fun x v hx hr => R_renm.2 ((R_congr (b' := fun i => setB b j' (b j) (mvN j j' i)) hN hx hr).mono he (fun g _ hh => hX g hh))
  have hRO : ∀ x v, RO w (S.excl E b) x v → RO w (St.excl ⟨mapS (SV.renm (mvN j j')) S.slots, (j', o.map (SV.renm (mvN j j'))) :: dropM (SV.renm (mvN j j')) j S.owns⟩ E (setB b j' (b j))) x v := fun x v hr => hr.mono he (fun g _ hh => hX g hh)
  exact {
    size := h.size
    defers := h.defers
    below := h.below
    slots := fun s x hx => by
      obtain ⟨z, hz, rfl⟩ := look_map hx
      exact hR _ _ (look_fresh hf1 s z hz) (h.slots s z hz)
    owns := fun i o1 hi => by
      rw [lookO_cons] at hi
      split at hi
      · rename_i e
        injection hi with hi
        subst hi; subst e
        have hij := lookO_fresh hf2 j o ho
        have hmv : mvN j i j = i := by simp [mvN]
        have h3 := OwnOk_renm.2 ((h.owns j o ho).keep0 (X' := St.excl ⟨mapS (SV.renm (mvN j i)) S.slots, (i, o.map (SV.renm (mvN j i))) :: dropM (SV.renm (mvN j i)) j S.owns⟩ E (setB b i (b j))) (b' := fun q => setB b i (b j) (mvN j i q)) (p := fun x => x.noId i = true)
          (by show setB b i (b j) (mvN j i j) = b j; rw [hmv, setB_same]) (Own.noId_all hij.2) (fun _ _ _ => rfl) (fun x v hx hr => (R_congr (b' := fun q => setB b i (b j) (mvN j i q)) hN hx hr).mono he (fun g _ hh => hX g hh)) hRO)
        rw [hmv] at h3
        exact h3
      · rename_i e
        obtain ⟨hij, z, hz, rfl⟩ := lookO_dropM hi
        have hij2 := lookO_fresh hf2 i z hz
        exact (h.owns i z hz).keep (SV.renm (mvN j j')) (p := fun x => x.noId j' = true) (setB_other _ _ _ e) (Own.noId_all hij2.2) (fun _ _ _ => rfl) hR hRO
    mine := fun i o1 hi g hg => by
      rw [lookO_cons] at hi
      split at hi
      · rename_i e; subst e; rw [setB_same] at hg; exact h.mine j o ho g hg
      · rename_i e
        rw [setB_other _ _ _ e] at hg
        obtain ⟨hij, z, hz, rfl⟩ := lookO_dropM hi
        exact h.mine i z hz g hg
    apart := fun p q op oq hp hq hne g hg => by
      rw [lookO_cons] at hp hq
      split at hp
      · rename_i e1
        subst e1
        rw [setB_same] at hg
        split at hq
        · rename_i e2; exact absurd e2.symm hne
        · rename_i e2
          rw [setB_other _ _ _ e2]
          obtain ⟨h1, z, hz, rfl⟩ := lookO_dropM hq
          exact h.apart j q o z ho hz (Ne.symm h1) g hg
      · rename_i e1
        rw [setB_other _ _ _ e1] at hg
        obtain ⟨h1, z, hz, rfl⟩ := lookO_dropM hp
        split at hq
        · rename_i e2
          subst e2
          rw [setB_same]
          exact h.apart p j z o hz ho h1 g hg
        · rename_i e2
          rw [setB_other _ _ _ e2]
          obtain ⟨h3, z', hz', rfl⟩ := lookO_dropM hq
          exact h.apart p q z z' hz hz' hne g hg
    old := fun i hi => by rw [setB_other _ _ _ (by omega)]; exact h.old i hi }
theorem c_mv {c : Code} {S : St} {Q : Exit → Act → World → Prop} (j j' : Nat) {o : Own} (ho : lookO j S.owns = some o) (hf : S.fresh j' = true)
    (h : C P E c ⟨mapS (SV.renm (mvN j j')) S.slots, (j', o.map (SV.renm (mvN j j'))) :: dropM (SV.renm (mvN j j')) j S.owns⟩ Q) : C P E c S Q := fun a w ⟨_, hr⟩ => h a w ⟨_, rep_mv hr j j' ho hf⟩
theorem freshN_cons {S : St} {p : Nat × Nat} {r : List (Nat × Nat)} (h : S.fresh p.2 = true) (hm : memB p.2 (r.map (·.2)) = false) (hr : FreshN S r = true) : FreshN S (p :: r) = true := by
  simp only [FreshN, h, hm, hr]; rfl
theorem q_idxON {S : St} {x y : Operand} {t : TypeId} {j n k : Nat} {get : Nat → Nat → SV} {e : TypeId} {kk : IntKind} {i : Nat} (hx : Val E S x (.own j)) (ho : lookO j S.owns = some (.arow n k get e)) (hy : Val E S y (.v (.int kk (i : Int))))
    (ht : P.underlying t = some (.slice (P.elem t))) (hs : ∀ w, (sizeOf (P.elem t)).run P w = .ok k w) (h1 : i < n) :
    OpQ P E S (.indexAddr t x y) (.oe j k i 0) := q_idxO hx ho hy ht hs (by omega) (by omega)
theorem k_weak {S S' : St} {G : Act → World → Prop} (h : Weak E S S') (hk : ∀ a w, Rep E S' a w → G a w) : ∀ a w, Rep E S a w → G a w := fun a w ⟨b, hr⟩ => hk a w ⟨b, h b a w hr⟩
theorem weak_ownE {α : Type} {f : α → Nat → SV} {k : Nat} {d : α} {e : TypeId} {S : St} (j : Nat) {l1 : List α} (l2 : List α) (ho : lookO j S.owns = some (ownOf f k d l1 e)) (h : l1 = l2) : Weak E S ⟨S.slots, (j, ownOf f k d l2 e) :: S.owns⟩ := by
  subst h
  exact weak_own ho rfl (fun _ _ _ _ => rfl)
theorem k_ownE {α : Type} {f : α → Nat → SV} {k : Nat} {d : α} {e : TypeId} {S : St} {G : Act → World → Prop} (j : Nat) {l1 : List α} (l2 : List α) (ho : lookO j S.owns = some (ownOf f k d l1 e)) (h : l1 = l2)
    (hk : ∀ a w, Rep E ⟨S.slots, (j, ownOf f k d l2 e) :: S.owns⟩ a w → G a w) : ∀ a w, Rep E S a w → G a w := k_weak (weak_ownE j l2 ho h) hk
theorem k_mv {S : St} {G : Act → World → Prop} (j j' : Nat) {o : Own} (ho : lookO j S.owns = some o) (hf : S.fresh j' = true)
    (h : ∀ a w, Rep E ⟨mapS (SV.renm (mvN j j')) S.slots, (j', o.map (SV.renm (mvN j j'))) :: dropM (SV.renm (mvN j j')) j S.owns⟩ a w → G a w) : ∀ a w, Rep E S a w → G a w := fun a w ⟨_, hr⟩ => h a w ⟨_, rep_mv hr j j' ho hf⟩
section parts
variable {α : Type} {c : α → Nat → SV} {k : Nat} {d : α} {l : List α} {S : St} {x lo hi : Operand} {t : TypeId}
end parts
end Go.Eng
namespace Go.Eng
open Go.RowKit
variable {P : Program} {NN : Nat} {E : Env NN}
def resRun (tmps : Array Value) : ResultVar → Sem Value
  | .tmp t => pure (tmps.getD t undef)
  | .cell a t => do loadVar t (← asAddr (tmps.getD a undef))
def ResV (P : Program) {NN : Nat} (E : Env NN) (S : St) (r : ResultVar) (x : SV) : Prop := ∀ b a w, RepB E b S a w → ∃ v, (resRun a.tmps r).run P w = .ok v w ∧ R w (S.excl E b) b x v
theorem rv_tmp {S : St} {t : Tmp} {x : SV} (h : Val E S (.tmp t) x) : ResV P E S (.tmp t) x := fun b a w hr => ⟨_, rfl, h b a w hr⟩
theorem rv_cell {S : St} {q : Tmp} {t : TypeId} {j m : Nat} {get : Nat → SV} {ty : TypeId} (hx : Val E S (.tmp q) (.bp j 0)) (ho : lookO j S.owns = some (.box m get ty))
    (ht : ∀ w, (isAgg t).run P w = .ok true w) (hs : ∀ w, (sizeOf t).run P w = .ok m w) : ResV P E S (.cell q t) (.agg m get) := fun b a w hr => by
  obtain ⟨v, h1, h2⟩ := q_ldBA (P := P) (t := t) hx ho ht hs (Nat.le_of_eq (Nat.zero_add m)) b a w hr none 0 "" #[] none
  obtain ⟨cs, rfl, hm, hc⟩ := h2
  refine ⟨.agg cs, ?_, cs, rfl, hm, fun t ht => ?_⟩
  · have h3 := h1 w (Below.refl _ _)
    obtain ⟨g, hb, hv⟩ := hx b a w hr
    simp only [Act.eval] at hv
    simp only [execOp, Act.eval, hv, Instr.loadAt, Instr.sureAddr, Sem.run_bind] at h3
    simp only [resRun, hv, asAddr, Sem.run_bind, Sem.run_pure, Result.andThen_ok] at h3 ⊢
    revert h3
    generalize (loadVar t ⟨g, 0, none⟩).run P w = r
    intro h3
    cases r with
    | ok u w1 => simpa using h3
    | halt u w1 => simp at h3
  · have := hc t ht
    simpa using this
theorem results_eq (fn : Func) (tmps : Array Value) : results fn tmps = (do
    let vs ← fn.results.mapM (resRun tmps)
    pure (if h : vs.size = 1 then vs[0] else .tuple vs)) := by
  unfold results
  congr 1
theorem results1 {fn : Func} {r : ResultVar} (h : fn.results = #[r]) {tmps : Array Value} {w : World} {v : Value} (h1 : (resRun tmps r).run P w = .ok v w) : (results fn tmps).run P w = .ok v w := by
  rw [results_eq, h]
  simp [h1]
theorem results2 {fn : Func} {r s : ResultVar} (h : fn.results = #[r, s]) {tmps : Array Value} {w : World} {v u : Value} (h1 : (resRun tmps r).run P w = .ok v w) (h2 : (resRun tmps s).run P w = .ok u w) : (results fn tmps).run P w = .ok (.tuple #[v, u]) w := by
  rw [results_eq, h]
  simp [h1, h2]
theorem results3 {fn : Func} {r s q : ResultVar} (h : fn.results = #[r, s, q]) {tmps : Array Value} {w : World} {v u x : Value} (h1 : (resRun tmps r).run P w = .ok v w) (h2 : (resRun tmps s).run P w = .ok u w) (h3 : (resRun tmps q).run P w = .ok x w) :
    (results fn tmps).run P w = .ok (.tuple #[v, u, x]) w := by
  rw [results_eq, h]
  simp [h1, h2, h3]
theorem retR2 {fn : Func} {t u : ResultVar} {S : St} {x y r : SV} (hres : fn.results = #[t, u]) (hx : ResV P E S t x) (hy : ResV P E S u y) (h1 : x.isRO = true) (h2 : y.isRO = true) (e : sv2 x y = r) : ∀ a w, Rep E S a w → bodyPost P fn (PostR E r) .ret a w := by
  rintro a w ⟨b, hr⟩
  subst e
  obtain ⟨v, h3, h4⟩ := hx b a w hr
  obtain ⟨v', h5, h6⟩ := hy b a w hr
  exact post_ret hr (results2 hres h3 h5) ⟨_, rfl, rfl, fun i hi => match i, hi with
    | 0, _ => ⟨_, rfl, h4.toRO h1⟩
    | 1, _ => ⟨_, rfl, h6.toRO h2⟩⟩
theorem retR3 {fn : Func} {t u q : ResultVar} {S : St} {x y z r : SV} (hres : fn.results = #[t, u, q]) (hx : ResV P E S t x) (hy : ResV P E S u y) (hz : ResV P E S q z) (h1 : x.isRO = true) (h2 : y.isRO = true) (h3 : z.isRO = true) (e : sv3 x y z = r) : ∀ a w, Rep E S a w → bodyPost P fn (PostR E r) .ret a w := by
  rintro a w ⟨b, hr⟩
  subst e
  obtain ⟨v, g1, g2⟩ := hx b a w hr
  obtain ⟨v', g3, g4⟩ := hy b a w hr
  obtain ⟨v'', g5, g6⟩ := hz b a w hr
  exact post_ret hr (results3 hres g1 g3 g5) ⟨_, rfl, rfl, fun i hi => match i, hi with
    | 0, _ => ⟨_, rfl, g2.toRO h1⟩
    | 1, _ => ⟨_, rfl, g4.toRO h2⟩
    | 2, _ => ⟨_, rfl, g6.toRO h3⟩⟩
theorem retRM1 {fn : Func} {t : ResultVar} {S : St} {x r : SV} {ow' : List (Nat × Own)} (hres : fn.results = #[t]) (h : ResV P E S t x) (ho : AllOE S ow') (e : x = r) : ∀ a w, Rep E S a w → bodyPost P fn (PostM E r ow') .ret a w := by
  rintro a w ⟨b, hr⟩
  obtain ⟨v, h1, h2⟩ := h b a w hr
  exact ⟨hr.defers, post_retM hr (results1 hres h1) h2 ho e⟩
def kget {β : Type} (l : List (Int × β)) (k : Int) : Option β := (l.find? (fun p => decide (p.1 = k))).map (·.2)
section maps
variable {S : St} {t kt et : TypeId} {m xk : Operand} {j : Nat} {k : Int}
end maps
end Go.Eng
namespace Go.Eng
open Go.RowKit
variable {P : Program} {NN : Nat} {E : Env NN}
theorem R.agg_congr {w : World} {X : Nat → Prop} {b : Nat → Value} {m : Nat} {g g' : Nat → SV} {val : Value} (h : R w X b (.agg m g) val) (e : AllN (fun t => g t = g' t) m) : R w X b (.agg m g') val := by
  obtain ⟨cs, rfl, hm, hr⟩ := h
  refine ⟨cs, rfl, hm, fun t ht => ?_⟩
  obtain ⟨u, hu, h1, h2⟩ := hr t ht
  exact ⟨u, hu, h1, e.at t ht ▸ h2⟩
theorem val_agg {S : St} {x : Operand} {m : Nat} {g g' : Nat → SV} (h : Val E S x (.agg m g)) (e : AllN (fun t => g t = g' t) m) : Val E S x (.agg m g') := fun b a w hr => (h b a w hr).agg_congr e
def Turn {NN : Nat} (E : Env NN) (S S' : St) : Prop := ∀ b a w, RepB E b S a w → ∃ b', RepB E b' S' a w
theorem t_turn {ops : Array Oper} {rest : List Oper} {S S' : St} {K : St → Prop} (h : Turn E S S') (ht : T P E ops rest S' K) : T P E ops rest S K := fun a w ⟨b, hr⟩ Q hq => ht a w (h b a w hr) Q hq
theorem c_turn {c : Code} {S S' : St} {Q : Exit → Act → World → Prop} (h : Turn E S S') (hc : C P E c S' Q) : C P E c S Q := fun a w ⟨b, hr⟩ => hc a w (h b a w hr)
theorem k_turn {S S' : St} {G : Act → World → Prop} (h : Turn E S S') (hk : ∀ a w, Rep E S' a w → G a w) : ∀ a w, Rep E S a w → G a w := fun a w ⟨b, hr⟩ => hk a w (h b a w hr)
theorem turn_nilB {S : St} (i off j k : Nat) (get : Nat → Nat → SV) (e : TypeId) {m : Nat} {g : Nat → SV} {ty : TypeId} (ho : lookO i S.owns = some (.box m g ty)) (hg : g off = .v (.slice none 0 0)) (hf : S.fresh j = true) :
    Turn E S ⟨S.slots, (i, .box m (upd g off (.own j)) ty) :: (j, .arow 0 k get e) :: S.owns⟩ := fun b a w hr => by
  have h := hr.newown (j := j) (k := k) (get := get) (e := e) (A := none) hf
  have hij : i ≠ j := (lookO_fresh (St.fresh_parts hf).2.1 i _ ho).1
  have ho' : lookO i ((j, Own.arow 0 k get e) :: S.owns) = some (.box m g ty) := by rw [lookO_cons, if_neg hij]; exact ho
  refine ⟨_, h.set (j := i) (o := .box m g ty) ho' ⟨rfl, rfl, rfl, Nat.le_refl _⟩ (fun _ _ _ => rfl) fun X hX hR _ => ?_⟩
  obtain ⟨q, cs, h1, h2, h3, h4, hc⟩ := (h.owns i _ ho').mono hX
  refine ⟨q, cs, h1, h2, h3, h4, fun t ht => ?_⟩
  obtain ⟨u, hu, h5, h6⟩ := hc t ht
  refine ⟨u, hu, h5, ?_⟩
  rw [upd_eq]
  split
  · rename_i et
    subst et
    rw [hg] at h6
    have h6 : u = .slice none 0 0 := h6
    show u = hdv (setB b j (.slice none 0 0) j)
    rw [setB_same, h6]; rfl
  · exact h6
def Imp (s s' : SV) : Prop := ∀ (w : World) (X : Nat → Prop) (b : Nat → Value) (v : Value), R w X b s v → R w X b s' v
theorem imp_rfl {s : SV} : Imp s s := fun _ _ _ _ h => h
theorem imp_nil {k : Nat} {get : Nat → Nat → SV} : Imp (.v (.slice none 0 0)) (.row 0 k get) := fun _ _ _ _ h => by
  have h : _ = Value.slice none 0 0 := h
  rw [h]
  exact ⟨none, 0, rfl, Nat.le_refl _, Nat.zero_le _, fun h => absurd h (Nat.lt_irrefl 0)⟩
theorem R.agg_imp {w : World} {X : Nat → Prop} {b : Nat → Value} {m : Nat} {g g' : Nat → SV} {val : Value} (h : R w X b (.agg m g) val) (e : AllN (fun t => Imp (g t) (g' t)) m) : R w X b (.agg m g') val := by
  obtain ⟨cs, rfl, hm, hr⟩ := h
  refine ⟨cs, rfl, hm, fun t ht => ?_⟩
  obtain ⟨u, hu, h1, h2⟩ := hr t ht
  exact ⟨u, hu, h1, e.at t ht _ _ _ _ h2⟩
theorem val_aggI {S : St} {x : Operand} {m : Nat} {g g' : Nat → SV} (h : Val E S x (.agg m g)) (e : AllN (fun t => Imp (g t) (g' t)) m) : Val E S x (.agg m g') := fun b a w hr => (h b a w hr).agg_imp e
theorem rv_aggI {S : St} {r : ResultVar} {m : Nat} {g g' : Nat → SV} (h : ResV P E S r (.agg m g)) (e : AllN (fun t => Imp (g t) (g' t)) m) : ResV P E S r (.agg m g') := fun b a w hr => by
  obtain ⟨v, h1, h2⟩ := h b a w hr
  exact ⟨v, h1, h2.agg_imp e⟩
theorem t_bsO {ops : Array Oper} {rest : List Oper} {S : St} {K : St → Prop} {d : Tmp} {t e : TypeId} {n k : Nat} {xs : List (Nat × Operand)} {ty : TypeId} {pos : String} {after : Array Edge} {zget : Nat → SV} (j : Nat) (gs : List (Nat → SV)) (get : Nat → Nat → SV)
    (ht : P.underlying t = some (.slice e)) (hs : ∀ w, (sizeOf e).run P w = .ok k w) (hz : ZeroOk P e k zget) (hk0 : 0 < k) (hn0 : 0 < n) (hn : n = xs.length) (hbig : n * k ≤ 16777216)
    (hp : SVals E S k 0 xs gs) (hg : AllN (fun i => AllN (fun t => get i t = (gs.getD i fun _ => .junk) t) k) n) (hf : S.fresh j = true)
    (hk : T P E ops rest ⟨(d, .own j) :: S.slots, (j, .arow n k get e) :: S.owns⟩ K) (hd : d < NN := by decide) :
    T P E ops ({ dst := some d, op := .buildSlice t n xs.toArray, type := ty, pos, after, guard := none } :: rest) S K := by
  rintro a w ⟨b, hr⟩ Q hq
  obtain ⟨z, hz1, hz2, hz3⟩ := hz
  have hat := svals_at hr hp
  have hlen : (xs.map fun y => (y.1, a.eval y.2)).length = n := by simp [hn]
  obtain ⟨cs, hfl, hcs, hc, _⟩ := fill_rows (k := k) (xs.map fun y => (y.1, a.eval y.2)) 0 ((Array.range (n * k)).map fun q => z.cells[q % z.cells.size]!) (fun i p hp => ⟨(hat i p hp).1, (hat i p hp).2.1⟩) (by simp [hlen])
  have hcs' : cs.size = n * k := by simpa using hcs
  have hnk : n * 1 ≤ n * k := Nat.mul_le_mul_left _ hk0
  obtain ⟨n', rfl⟩ : ∃ n', n = n' + 1 := ⟨n - 1, by omega⟩
  unfold wpList
  rw [if_pos (by rfl)]
  refine .inl (wp_of_run (w' := w.alloc (.cells cs e)) (v := .slice (some ⟨w.heap.size, 0, none⟩) (n' + 1) (n' + 1)) ?_ ?_)
  · have hbig' : ¬ (n' + 1) * k > 2 ^ 24 := by omega
    have h0 : ¬ (n' + 1) * k = 0 := by omega
    simp only [execOp, Instr.buildSlice, Sem.run_bind, run_underlying ht, Result.andThen_ok, hs, Sem.run_ite, if_neg hbig', h0, if_false, Sem.run_pure, hz1]
    simp [hfl, newRow]
  · have hy : ∀ g, Bk (.slice (some ⟨w.heap.size, 0, none⟩) (n' + 1) (n' + 1)) g → w.heap.size ≤ g := fun g hg => by
      have hg : some w.heap.size = some g := hg
      injection hg with hg; omega
    have hadd := hr.add (below_alloc w (.cells cs e)) hf (o := .arow (n' + 1) k get e) (y := .slice (some ⟨w.heap.size, 0, none⟩) (n' + 1) (n' + 1)) hy fun X' _ _ hRO => by
      refine ⟨cs.toList, .inr ⟨⟨by simpa using hcs', .inr ⟨w.heap.size, n' + 1, cs, by rw [setB_same], hr.base_le, heap_alloc_new w _, Nat.le_refl _, by simp only [maxLen]; omega, hcs', ?_⟩⟩, w.heap.size, n' + 1, n', by rw [setB_same]⟩, fun i hi t ht => ?_⟩
      · rw [List.take_of_length_le]; simp [hcs']
      · have hi' : i < (xs.map fun y => (y.1, a.eval y.2)).length := by omega
        obtain ⟨h1, h2, g, h3, h4⟩ := hat i _ (List.getElem?_eq_getElem hi')
        obtain ⟨u, hu, h5, h6⟩ := h4 t ht
        refine ⟨u, ?_, h5, ?_⟩
        · have h7 := hc i _ (List.getElem?_eq_getElem hi') t ht
          rw [Nat.zero_add] at h7
          rw [Array.getElem?_toList, h7]; exact hu
        · have h8 := (hg.at i hi).at t ht
          simp only [List.getD_eq_getElem?_getD, h3, Option.getD_some] at h8
          rw [h8]
          exact hRO _ _ h6
    exact hk _ _ ⟨_, hadd.put (x := .own j) hd (own_val rfl)⟩ Q hq
def OneV {NN : Nat} (E : Env NN) (S : St) (s : SV) : Prop := ∀ b a w v, RepB E b S a w → R w (S.excl E b) b s v → v.oneCell' = true
theorem one_of {S : St} {s : SV} (h : s.one = true) : OneV E S s := fun _ _ _ _ _ hv => hv.one h
theorem one_own {S : St} {i n k : Nat} {get : Nat → Nat → SV} {e : TypeId} (ho : lookO i S.owns = some (.arow n k get e)) : OneV E S (.own i) := fun b a w v hr hv => by
  obtain ⟨A, c, hs⟩ := own_slice hr ho
  have hv : v = hdv (b i) := hv
  rw [hv, hs]; rfl
theorem t_st1V {ops : Array Oper} {rest : List Oper} {S : St} {K : St → Prop} {t : TypeId} {p x : Operand} {ty : TypeId} {pos : String} {after : Array Edge} {j off m : Nat} {get : Nat → SV} {bt : TypeId} {s : SV}
    (hp : Val E S p (.bp j off)) (ho : lookO j S.owns = some (.box m get bt)) (hx : Val E S x s) (h1 : OneV E S s) (hs : ∀ w, (sizeOf t).run P w = .ok 1 w) (hoff : off < m)
    (hk : T P E ops rest ⟨S.slots, (j, .box m (upd get off s) bt) :: S.owns⟩ K) :
    T P E ops ({ dst := none, op := .store t p x, type := ty, pos, after, guard := none } :: rest) S K := by
  rintro a w ⟨b, hr⟩ Q hq
  obtain ⟨g, hb, hpv⟩ := hp b a w hr
  have hv := hx b a w hr
  have hone := h1 b a w _ hr hv
  obtain ⟨g', cs, hb', _, hh, hm, hc⟩ := hr.owns j _ ho
  rw [hb] at hb'
  simp only [Value.pointer.injEq, Option.some.injEq, Addr.mk.injEq, and_true] at hb'
  subst hb'
  have hcell : ∃ u, w.cell? ⟨g, off, none⟩ = some u := by
    obtain ⟨u, hu, _⟩ := hc off hoff
    exact ⟨u, by rw [cell_of_row w g off cs bt (0, 0) hh]; exact hu⟩
  obtain ⟨u0, hu0⟩ := hcell
  have hfr : w.frozen? ⟨g, off, none⟩ = false := by simp [World.frozen?, hh]
  unfold wpList
  rw [if_pos (by rfl)]
  refine .inl (wp_of_skip (w' := w.setCell ⟨g, off, none⟩ (a.eval x)) ?_ ?_)
  · simp [execOp, Instr.storeAt, hpv, Instr.sureAddr, storeVar, hs, cells_one hone, storeCells, Addr.add_zero', run_store P w _ _ _ hone, hu0, hfr]
  · refine hk _ _ ⟨b, ?_⟩ Q hq
    refine hr.setbox (cs := cs.setIfInBounds off (a.eval x)) ho hb (by simpa using hm) ⟨rfl, rfl, rfl, by simp⟩ (fun k hk => Below.heap_setCell _ _ _ _ hk) ?_ (fun i hi => ?_)
    · simp [World.setCell, Array.getElem?_modify, hh]
    · rw [upd_eq]
      by_cases e : i = off
      · subst e
        rw [if_pos rfl]
        exact ⟨a.eval x, by simp [hm, hi], hone, hv⟩
      · rw [if_neg e]
        obtain ⟨u, hu, h2, h3⟩ := hc i hi
        exact ⟨u, by rw [Array.getElem?_setIfInBounds, if_neg (fun h => e h.symm)]; exact hu, h2, h3⟩
end Go.Eng
namespace Go.Eng
open Go.RowKit
variable {P : Program} {NN : Nat} {E : Env NN}
def ImpO (s s' : SV) : Prop := ∀ (w : World) (X : Nat → Prop) (v : Value), RO w X s v → RO w X s' v
theorem impO_rfl {s : SV} : ImpO s s := fun _ _ _ h => h
theorem impO_nil {k : Nat} {get : Nat → Nat → SV} : ImpO (.v (.slice none 0 0)) (.row 0 k get) := fun _ _ _ h => by
  have h : _ = Value.slice none 0 0 := h
  rw [h]
  exact ⟨none, 0, rfl, Nat.le_refl _, Nat.zero_le _, fun h => absurd h (Nat.lt_irrefl 0)⟩
theorem RO.row_imp {w : World} {X : Nat → Prop} {n k : Nat} {get get' : Nat → Nat → SV} {val : Value} (h : RO w X (.row n k get) val) (he : AllN (fun i => AllN (fun t => ImpO (get i t) (get' i t)) k) n) : RO w X (.row n k get') val := by
  obtain ⟨A, c, hv, hn, hc, hr⟩ := h
  refine ⟨A, c, hv, hn, hc, fun h0 => ?_⟩
  obtain ⟨g, o, hA, hg, hX, hr⟩ := hr h0
  refine ⟨g, o, hA, hg, hX, fun i hi t ht => ?_⟩
  obtain ⟨u, hu, h1, h2⟩ := hr i hi t ht
  exact ⟨u, hu, h1, (he.at i hi).at t ht _ _ _ h2⟩
theorem w_rowI {S : St} {op : Op} {n k : Nat} {get get' : Nat → Nat → SV} (h : OpW P E S op (.row n k get)) (he : AllN (fun i => AllN (fun t => ImpO (get i t) (get' i t)) k) n) : OpW P E S op (.row n k get') := fun b a w hr dst ty pos after gd => by
  obtain ⟨v, w', h1, h2, h3⟩ := h b a w hr dst ty pos after gd
  exact ⟨v, w', h1, h2, RO.row_imp h3 he⟩
end Go.Eng
namespace Go.Eng
open Go.RowKit
variable {P : Program} {NN : Nat} {E : Env NN}
theorem arow_brw {S : St} {b : Nat → Value} {a : Act} {w : World} (hr : RepB E b S a w) {j n k : Nat} {get : Nat → Nat → SV} {e : TypeId} (ho : lookO j S.owns = some (.arow n k get e)) : R w E.X b (.row n k get) (hdv (b j)) := by
  obtain ⟨xs, hown, hc⟩ := hr.owns j _ ho
  obtain ⟨A, c, hs, _⟩ := hown.slice
  have e : hdv (b j) = b j := by rw [hs]; rfl
  rw [e]
  refine RO.toR (hown.row (fun g hg => hr.notX ho ((Bk_slice hs).2 hg)) fun i hi t ht => ?_)
  obtain ⟨u, hu, h1, h2⟩ := hc i hi t ht
  exact ⟨u, hu, h1, h2.mono ⟨Nat.le_refl _, fun _ _ _ => rfl⟩ (fun g _ hh => .inl hh)⟩
def VB {NN : Nat} (E : Env NN) (S : St) (x : Operand) (s : SV) : Prop := ∀ b a w, RepB E b S a w → RO w E.X s (a.eval x)
theorem vb_ro {S : St} {x : Operand} {s : SV} (h : Val E S x s) (hro : s.isRO = true) : VB E S x s := fun b a w hr => ((h b a w hr).toRO hro).mono ⟨Nat.le_refl _, fun _ _ _ => rfl⟩ (fun g _ hh => .inl hh)
theorem vb_frz {S : St} {x : Operand} {s s' : SV} {j n k : Nat} {get : Nat → Nat → SV} {e : TypeId} (h : Val E S x s) (ho : lookO j S.owns = some (.arow n k get e)) (hs : frz j (.row n k get) s = s') (hro : s'.isRO = true) : VB E S x s' := fun b a w hr => by
  subst hs
  exact (frz_R (fun g hh => .inl hh) (arow_brw hr ho) (h b a w hr)).toRO hro
theorem vb_own {S : St} {x : Operand} {j n k : Nat} {get : Nat → Nat → SV} {e : TypeId} (h : Val E S x (.own j)) (ho : lookO j S.owns = some (.arow n k get e)) : VB E S x (.row n k get) := vb_frz h ho (by simp [frz]) rfl
def ValsB {NN : Nat} (E : Env NN) (S : St) : List Operand → List SV → Prop
  | [], [] => True
  | x :: xs, s :: ss => VB E S x s ∧ ValsB E S xs ss
  | _, _ => False
theorem ValsB.ros {S : St} {b : Nat → Value} {a : Act} {w : World} (hr : RepB E b S a w) : ∀ {xs : List Operand} {ss : List SV}, ValsB E S xs ss → ROs w E.X ss (xs.map a.eval)
  | [], [], _ => trivial
  | _ :: _, _ :: _, h => ⟨h.1 b a w hr, ValsB.ros hr h.2⟩
  | [], _ :: _, h => h.elim
  | _ :: _, [], h => h.elim
theorem tq_callB {ops : Array Oper} {rest : List Oper} {S : St} {K : St → Prop} {d : Tmp} {f : FuncId} {xs : List Operand} {ats : Array TypeId} {ty : TypeId} {pos : String} {after : Array Edge} {args : List SV} {x : Value}
    (hf : Enters P f) (ha : ValsB E S xs args) (h : Ct P f args (.v x)) (hk : TQ P E ops rest (nextQ S d (.v x)) K) (hd : d < NN := by decide) :
    TQ P E ops ({ dst := some d, op := .call { callee := .value (.func f), args := xs.toArray, argTypes := ats }, type := ty, pos, after, guard := none } :: rest) S K := fun b a w hr => by
  unfold wpQuiet
  rw [if_pos (by rfl)]
  refine ⟨x, fun w' hw' => ?_, hk b _ w (hr.put hd rfl)⟩
  unfold Oper.quietAt
  rw [run_call hf]
  have hr' : RepB E b S a w' := hr.world hw'
  refine ⟨rfl, (h w' E.X _ (fun g hg => Nat.lt_of_lt_of_le (E.hX g hg) hr'.below.size) (ha.ros hr')).mono ?_⟩
  rintro e w'' ⟨v, rfl, hv, hb⟩
  have : v = x := hv
  subst this
  exact ⟨rfl, hw'.trans (hb.mono hw'.size)⟩
theorem t_callB {ops : Array Oper} {rest : List Oper} {S : St} {K : St → Prop} {d : Tmp} {f : FuncId} {xs : List Operand} {ats : Array TypeId} {ty : TypeId} {pos : String} {after : Array Edge} {args : List SV} {x : Value}
    (hf : Enters P f) (ha : ValsB E S xs args) (h : Ct P f args (.v x)) (hk : T P E ops rest (nextQ S d (.v x)) K) (hd : d < NN := by decide) :
    T P E ops ({ dst := some d, op := .call { callee := .value (.func f), args := xs.toArray, argTypes := ats }, type := ty, pos, after, guard := none } :: rest) S K := by
  rintro a w ⟨b, hr⟩ Q hq
  unfold wpList
  rw [if_pos (by rfl)]
  refine .inl (wp_of_enter (R := fun v w'' => v = x ∧ RepB E b S a w'') (run_call hf ..) ?_ fun v w'' ⟨hv, hr'⟩ => hk _ _ ⟨b, hr'.put (x := .v x) hd hv⟩ Q hq)
  refine (h w E.X _ (fun g hg => Nat.lt_of_lt_of_le (E.hX g hg) hr.below.size) (ha.ros hr)).mono ?_
  rintro e w'' ⟨v, rfl, hv, hb⟩
  exact ⟨v, rfl, hv, hr.world hb⟩
theorem t_callBG {ops : Array Oper} {rest : List Oper} {S : St} {K : St → Prop} {d : Tmp} {f : FuncId} {xs : List Operand} {ats : Array TypeId} {ty : TypeId} {pos : String} {after : Array Edge} {args : List SV} {x : Value} {gd : Nat × Bool} {c : Bool}
    (hg : Guard E S ops gd c) (hf : Enters P f) (ha : c = true → ValsB E S xs args) (h : c = true → Ct P f args (.v x)) (hk : T P E ops rest (nextQ S d (.grd c (.v x))) K) (hd : d < NN := by decide) :
    T P E ops ({ dst := some d, op := .call { callee := .value (.func f), args := xs.toArray, argTypes := ats }, type := ty, pos, after, guard := some gd } :: rest) S K := by
  rintro a w ⟨b, hr⟩ Q hq
  unfold wpList
  rw [hg b a w hr _ rfl]
  cases c with
  | false => exact hk _ _ ⟨b, hr.put hd ⟨(fun h => by cases h), fun _ => rfl⟩⟩ Q hq
  | true =>
    refine .inl (wp_of_enter (R := fun v w'' => v = x ∧ RepB E b S a w'') (run_call hf ..) ?_ fun v w'' ⟨hv, hr'⟩ => hk _ _ ⟨b, hr'.put (x := .grd true (.v x)) hd ⟨fun _ => hv, fun h => by cases h⟩⟩ Q hq)
    refine (h rfl w E.X _ (fun g hg => Nat.lt_of_lt_of_le (E.hX g hg) hr.below.size) ((ha rfl).ros hr)).mono ?_
    rintro e w'' ⟨v, rfl, hv, hb⟩
    exact ⟨v, rfl, hv, hr.world hb⟩
theorem val_fnE {S : St} {x : Operand} {f : FuncId} {m : Nat} {g g' : Nat → SV} (h : Val E S x (.fn f m g)) (e : AllN (fun t => g t = g' t) m) : Val E S x (.fn f m g') := fun b a w hr => by
  obtain ⟨cs, hv, hm, hc⟩ := h b a w hr
  refine ⟨cs, hv, hm, fun t ht => ?_⟩
  obtain ⟨u, hu, h1⟩ := hc t ht
  exact ⟨u, hu, e.at t ht ▸ h1⟩
theorem val_fnE' {S : St} {x : Operand} {f : FuncId} {g : Nat → SV} (caps : List SV) (h : Val E S x (.fn f caps.length g)) (e : AllN (fun t => g t = caps.getD t .junk) caps.length) : Val E S x (fnL f caps) := val_fnE h e
end Go.Eng
namespace Go.Eng
open Go.RowKit
variable {P : Program} {NN : Nat} {E : Env NN}
section urow
variable {S : St} {j n k : Nat} {get : Nat → Nat → SV} {e : TypeId} {c : Nat} {ce : TypeId} {ck m : Nat} {kn : Nat → Nat} {kget : Nat → Nat → Nat → SV} {hole : Option (Nat × SV)}
theorem R_hd {w : World} {X : Nat → Prop} {b b' : Nat → Value} {p : Nat → Bool} (hb : ∀ i, p i = true → hdv (b' i) = hdv (b i) ∧ ∀ a, b i = .pointer a → b' i = b i) {x : SV} {val : Value} (hn : x.okId p = true) (h : R w X b x val) : R w X b' x val := by
  induction x generalizing val with
  | grd c x ih => exact ⟨fun hc => ih hn (h.1 hc), h.2⟩
  | junk => trivial
  | abs p hp => exact h
  | bp i off =>
    obtain ⟨g, h1, h2⟩ := h
    exact ⟨g, by rw [(hb i hn).2 _ h1]; exact h1, h2⟩
  | own i => show val = _; rw [(hb i hn).1]; exact h
  | oe i k p off =>
    obtain ⟨g, n, c, h1, h2, h3⟩ := h
    exact ⟨g, n, c, by rw [(hb i hn).1]; exact h1, h2, h3⟩
  | sub i k lo m =>
    obtain ⟨A, n, c, h1, h2, h3⟩ := h
    exact ⟨A, n, c, by rw [(hb i hn).1]; exact h1, h2, h3⟩
  | v x => exact h
  | row n k get ih => exact h
  | el n k get i off ih => exact h
  | agg m get ih =>
    obtain ⟨cs, rfl, hm, hr⟩ := h
    refine ⟨cs, rfl, hm, fun t ht => ?_⟩
    obtain ⟨u, hu, h1, h2⟩ := hr t ht
    exact ⟨u, hu, h1, ih t (allB_iff hn t ht) h2⟩
  | tup m get ih =>
    obtain ⟨cs, rfl, hm, hr⟩ := h
    refine ⟨cs, rfl, hm, fun t ht => ?_⟩
    obtain ⟨u, hu, h2⟩ := hr t ht
    exact ⟨u, hu, ih t (allB_iff hn t ht) h2⟩
  | fn f m get ih =>
    obtain ⟨cs, rfl, hm, hr⟩ := h
    refine ⟨cs, rfl, hm, fun t ht => ?_⟩
    obtain ⟨u, hu, h2⟩ := hr t ht
    exact ⟨u, hu, ih t (allB_iff hn t ht) h2⟩
theorem okId_all (x : SV) : x.okId (fun _ => true) = true := by
  induction x with
  | agg m get ih => exact allB_of fun t _ => ih t
  | tup m get ih => exact allB_of fun t _ => ih t
  | fn f m get ih => exact allB_of fun t _ => ih t
  | grd c x ih => exact ih
  | _ => rfl
theorem RepB.rename {b b' : Nat → Value} {a : Act} {w : World} (h : RepB E b S a w) (D : List Nat) (nw : List (Nat × Own)) (p : Nat → Bool)
    (hhd : ∀ i, p i = true → hdv (b' i) = hdv (b i) ∧ ∀ q, b i = .pointer q → b' i = b i)
    (hsl : ∀ s x, look s S.slots = some x → x.okId p = true) (how : ∀ i o, lookO i S.owns = some o → o.okId p = true)
    (hsame : ∀ i o, lookO i S.owns = some o → i ∉ D → lookO i nw = none → b' i = b i) (hold : ∀ i, 1000 ≤ i → b' i = b i)
    (hnew : ∀ i o, lookO i nw = some o → OwnOk w (S.excl E b) E.base b' i o)
    (hbk : ∀ i o, lookO i nw = some o → ∀ g, Bk (b' i) g → ∃ q oq, lookO q S.owns = some oq ∧ (q ∈ D ∨ (lookO q nw).isSome) ∧ Bk (b q) g)
    (hap : ∀ i q oi oq, lookO i nw = some oi → lookO q nw = some oq → i ≠ q → ∀ g, Bk (b' i) g → ¬ Bk (b' q) g) :
    RepB E b' ⟨S.slots, nw ++ dropKs D S.owns⟩ a w := by
  have he : Ext (S.excl E b) w w := ⟨Nat.le_refl _, fun _ _ _ => rfl⟩
  have hl : ∀ {i o}, lookO i (nw ++ dropKs D S.owns) = some o → lookO i nw = some o ∨ (lookO i nw = none ∧ i ∉ D ∧ lookO i S.owns = some o ∧ b' i = b i) := fun {i o} hi => by
    rcases lookO_app hi with h1 | ⟨h1, h2⟩
    · exact .inl h1
    · obtain ⟨h3, h4⟩ := lookO_dropKs h2
      exact .inr ⟨h1, h3, h4, hsame i o h4 h3 h1⟩
  have hX : ∀ g, St.excl ⟨S.slots, nw ++ dropKs D S.owns⟩ E b' g → S.excl E b g := by
    rintro g (hh | ⟨i, o, h1, h2⟩)
    · exact .inl hh
    · rcases hl h1 with h3 | ⟨h3, h4, h5, h6⟩
      · obtain ⟨q, oq, h7, _, h8⟩ := hbk i o h3 g h2
        exact .inr ⟨q, oq, h7, h8⟩
      · rw [h6] at h2; exact .inr ⟨i, o, h5, h2⟩
  have hR : ∀ x v, x.okId p = true → R w (S.excl E b) b x v → R w (St.excl ⟨S.slots, nw ++ dropKs D S.owns⟩ E b') b' x v := fun x v hx hr => (R_hd hhd hx hr).mono he (fun g _ hh => hX g hh)
  exact {
    size := h.size
    defers := h.defers
    below := h.below
    slots := fun s x hx => hR _ _ (hsl s x hx) (h.slots s x hx)
    owns := fun i o hi => by
      rcases hl hi with h3 | ⟨h3, h4, h5, h6⟩
      · exact (hnew i o h3).mono hX
      · exact (h.owns i o h5).keep0 (p := fun x => x.okId p = true) h6 (Own.okId_all (how i o h5)) (fun _ _ _ => rfl) hR (fun x v hr => hr.mono he (fun g _ hh => hX g hh))
    mine := fun i o hi g hg => by
      rcases hl hi with h3 | ⟨h3, h4, h5, h6⟩
      · obtain ⟨q, oq, h7, _, h8⟩ := hbk i o h3 g hg
        exact h.mine q oq h7 g h8
      · rw [h6] at hg; exact h.mine i o h5 g hg
    apart := fun i q oi oq hi hq hne g hgi hgq => by
      rcases hl hi with h3 | ⟨h3, h4, h5, h6⟩
      · rcases hl hq with h3' | ⟨h3', h4', h5', h6'⟩
        · exact hap i q oi oq h3 h3' hne g hgi hgq
        · obtain ⟨z, oz, h7, h8, h9⟩ := hbk i oi h3 g hgi
          rw [h6'] at hgq
          refine h.apart z q oz oq h7 h5' ?_ g h9 hgq
          rintro rfl
          rcases h8 with h8 | h8
          · exact h4' h8
          · rw [h3'] at h8; cases h8
      · rcases hl hq with h3' | ⟨h3', h4', h5', h6'⟩
        · obtain ⟨z, oz, h7, h8, h9⟩ := hbk q oq h3' g hgq
          rw [h6] at hgi
          refine h.apart z i oz oi h7 h5 ?_ g h9 hgi
          rintro rfl
          rcases h8 with h8 | h8
          · exact h4 h8
          · rw [h3] at h8; cases h8
        · rw [h6] at hgi; rw [h6'] at hgq
          exact h.apart i q oi oq h5 h5' hne g hgi hgq
    old := fun i hi => (hold i hi).trans (h.old i hi) }
theorem turn_u0 (j c : Nat) (ce : TypeId) (ck : Nat) (kn : Nat → Nat) (kget : Nat → Nat → Nat → SV) (ho : lookO j S.owns = some (.arow n k get e)) (hj : Nat.blt j 1000 = true) :
    Turn E S ⟨S.slots, (j, .urow n k get e c ce ck 0 kn kget none) :: dropKs [] S.owns⟩ := fun b a w hr => by
  obtain ⟨xs, hown, hc⟩ := hr.owns j _ ho
  obtain ⟨A, cp, hs, _⟩ := hown.slice
  have hj' : j < 1000 := Nat.le_of_ble_eq_true hj
  refine ⟨setB b j (.tuple #[b j]), hr.rename [] [(j, .urow n k get e c ce ck 0 kn kget none)] (fun _ => true) (fun i _ => ?_) (fun _ _ _ => okId_all _) (fun i o hi => ?_) (fun i o hi _ hn => ?_) (fun i hi => setB_other _ _ _ (by omega)) (fun i o hi => ?_) (fun i o hi g hg => ?_) (fun i q oi oq hi hq hne => ?_)⟩
  · by_cases h : i = j
    · subst h
      rw [setB_same]
      exact ⟨by rw [hs]; rfl, fun q hq => by rw [hs] at hq; cases hq⟩
    · rw [setB_other _ _ _ h]; exact ⟨rfl, fun _ _ => rfl⟩
  · cases o with
    | box m get ty => exact allB_of fun t _ => okId_all _
    | urow n k get e c ce ck m kn kget hole => cases hole <;> first | rfl | exact okId_all _
    | _ => rfl
  · refine setB_other _ _ _ fun h => ?_
    rw [h, lookO_cons, if_pos rfl] at hn; cases hn
  · rw [lookO_cons] at hi
    split at hi
    · rename_i h; subst h
      injection hi with hi; subst hi
      refine ⟨b i, [], xs, setB_same _ _ _, hown, rfl, Nat.zero_le _, fun q hq t ht => ?_, fun q hq => absurd hq (Nat.not_lt_zero q)⟩
      obtain ⟨u, hu, h1, h2⟩ := hc q hq t ht
      exact ⟨u, hu, h1, fun _ => h2, fun _ _ _ => h2, fun _ _ h => absurd h (Nat.not_lt_zero q), fun _ _ h => (by cases h)⟩
    · cases hi
  · rw [lookO_cons] at hi
    split at hi
    · rename_i h; subst h
      rw [setB_same] at hg
      obtain ⟨q, u, hq, hu⟩ := hg
      have : q = 0 := by
        cases q with
        | zero => rfl
        | succ q => simp at hq
      subst this
      simp at hq; subst hq
      exact ⟨i, _, ho, .inr (by rw [lookO_cons, if_pos rfl]; rfl), (Bk_slice hs).2 hu⟩
    · cases hi
  · rw [lookO_cons] at hi hq
    split at hi
    · rename_i h1
      split at hq
      · rename_i h2; exact absurd (h1.trans h2.symm) hne
      · cases hq
    · cases hi
end urow
end Go.Eng
