/- Nodes, hands, slots, hearers, calls, tests: their rows; what arguments read as. -/
import Derived.Test.YtmcdamcedemdiaaFacts
set_option linter.unusedVariables false
set_option linter.unusedSimpArgs false
namespace Go.Proofs.Ytmcdamcedemdiaa
open Go.RowKit Go.Eng
def inCell (x : Int) (_ : Nat) : SV := iv x
def inRow (l : List Int) : SV := rowOf inCell 1 0 l
def boCell (x : Bool) (_ : Nat) : SV := bv x
def boRow (l : List Bool) : SV := rowOf boCell 1 false l
def cmpG (l : List SV) : Nat → SV := fun t => l.getD t .junk
theorem opens33 : Opens Try.prog 33 1 (fun l : List Int => l.length * 8 ≤ reachBytes ∧ l.length ≤ maxLen ∧ ∀ x ∈ l, okInt x) fun l _ => inRow l := opens_sliceW 0 Try.underlying33 (opens_int Try.underlying3) co3 (by decide) (by kernel_rfl)
theorem zero33 : ZeroOk Try.prog 33 1 (cmpG [.v (.slice none 0 0)]) := by
  refine ⟨_, Try.zeroValue33, rfl, fun t ht => ?_⟩
  match t, ht with
  | 0, _ => exact ⟨_, rfl, rfl, fun _ _ => rfl⟩
structure Nd where
  used : Bool
  uses : Int
  tag : Int
  mark : Int
  par : Int
  kids : List Int
  host : Int
  closed : Bool
  deriving DecidableEq, Inhabited
def ndCell (c : Nd) : Nat → SV
  | 0 => bv c.used
  | 1 => iv c.uses
  | 2 => iv c.tag
  | 3 => iv c.mark
  | 4 => iv c.par
  | 5 => inRow c.kids
  | 6 => iv c.host
  | _ => bv c.closed
def ndRow (l : List Nd) : SV := rowOf ndCell 8 default l
def okNd (c : Nd) : Prop := okInt c.uses ∧ okInt c.tag ∧ okInt c.mark ∧ okInt c.par ∧ (c.kids.length * 8 ≤ reachBytes ∧ c.kids.length ≤ maxLen ∧ ∀ x ∈ c.kids, okInt x) ∧ okInt c.host
theorem opens61 : Opens Try.prog 61 8 okNd ndCell := fun enc w base spare held fuel cs x h hlt hwt => by
  obtain ⟨hl, hf⟩ := struct_at Try.underlying61 (by kernel_rfl) (by kernel_rfl) h hlt hwt
  obtain ⟨x0, o0, u0, hu0, p0, r0⟩ := hf 0 _ rfl (opens_bool Try.underlying4)
  obtain ⟨x1, o1, u1, hu1, p1, r1⟩ := hf 1 _ rfl (opens_int Try.underlying3)
  obtain ⟨x2, o2, u2, hu2, p2, r2⟩ := hf 2 _ rfl (opens_int Try.underlying3)
  obtain ⟨x3, o3, u3, hu3, p3, r3⟩ := hf 3 _ rfl (opens_int Try.underlying3)
  obtain ⟨x4, o4, u4, hu4, p4, r4⟩ := hf 4 _ rfl (opens_int Try.underlying3)
  obtain ⟨x5, o5, u5, hu5, p5, r5⟩ := hf 5 _ rfl opens33
  obtain ⟨x6, o6, u6, hu6, p6, r6⟩ := hf 6 _ rfl (opens_int Try.underlying3)
  obtain ⟨x7, o7, u7, hu7, p7, r7⟩ := hf 7 _ rfl (opens_bool Try.underlying4)
  refine ⟨hl, ⟨x0, x1, x2, x3, x4, x5, x6, x7⟩, ⟨o1, o2, o3, o4, o5, o6⟩, fun i hi => ?_⟩
  match i, hi with
  | 0, _ => exact ⟨_, hu0, p0, r0⟩
  | 1, _ => exact ⟨_, hu1, p1, r1⟩
  | 2, _ => exact ⟨_, hu2, p2, r2⟩
  | 3, _ => exact ⟨_, hu3, p3, r3⟩
  | 4, _ => exact ⟨_, hu4, p4, r4⟩
  | 5, _ => exact ⟨_, hu5, p5, r5⟩
  | 6, _ => exact ⟨_, hu6, p6, r6⟩
  | 7, _ => exact ⟨_, hu7, p7, r7⟩
theorem opens22 : Opens Try.prog 22 1 (fun l : List Nd => l.length * 80 ≤ reachBytes ∧ l.length ≤ maxLen ∧ ∀ x ∈ l, okNd x) fun l _ => ndRow l := opens_sliceW default Try.underlying22 opens61 co61 (by decide) (by kernel_rfl)
theorem zero61 : ZeroOk Try.prog 61 8 (cmpG [bv false, iv 0, iv 0, iv 0, iv 0, .v (.slice none 0 0), iv 0, bv false]) := by
  refine ⟨_, Try.zeroValue61, rfl, fun t ht => ?_⟩
  match t, ht with
  | 0, _ => exact ⟨_, rfl, rfl, fun _ _ => rfl⟩
  | 1, _ => exact ⟨_, rfl, rfl, fun _ _ => rfl⟩
  | 2, _ => exact ⟨_, rfl, rfl, fun _ _ => rfl⟩
  | 3, _ => exact ⟨_, rfl, rfl, fun _ _ => rfl⟩
  | 4, _ => exact ⟨_, rfl, rfl, fun _ _ => rfl⟩
  | 5, _ => exact ⟨_, rfl, rfl, fun _ _ => rfl⟩
  | 6, _ => exact ⟨_, rfl, rfl, fun _ _ => rfl⟩
  | 7, _ => exact ⟨_, rfl, rfl, fun _ _ => rfl⟩
structure Hd where
  pl : Int
  use : Int
  deriving DecidableEq, Inhabited
def hdCell (c : Hd) : Nat → SV
  | 0 => iv c.pl
  | _ => iv c.use
def hdRow (l : List Hd) : SV := rowOf hdCell 2 default l
def okHd (c : Hd) : Prop := okInt c.pl ∧ okInt c.use
theorem opens26 : Opens Try.prog 26 2 okHd hdCell := fun enc w base spare held fuel cs x h hlt hwt => by
  obtain ⟨hl, hf⟩ := struct_at Try.underlying26 (by kernel_rfl) (by kernel_rfl) h hlt hwt
  obtain ⟨x0, o0, u0, hu0, p0, r0⟩ := hf 0 _ rfl (opens_int Try.underlying3)
  obtain ⟨x1, o1, u1, hu1, p1, r1⟩ := hf 1 _ rfl (opens_int Try.underlying3)
  refine ⟨hl, ⟨x0, x1⟩, ⟨o0, o1⟩, fun i hi => ?_⟩
  match i, hi with
  | 0, _ => exact ⟨_, hu0, p0, r0⟩
  | 1, _ => exact ⟨_, hu1, p1, r1⟩
theorem opens80 : Opens Try.prog 80 1 (fun l : List Hd => l.length * 16 ≤ reachBytes ∧ l.length ≤ maxLen ∧ ∀ x ∈ l, okHd x) fun l _ => hdRow l := opens_sliceW default Try.underlying80 opens26 co26 (by decide) (by kernel_rfl)
theorem zero26 : ZeroOk Try.prog 26 2 (cmpG [iv 0, iv 0]) := by
  refine ⟨_, Try.zeroValue26, rfl, fun t ht => ?_⟩
  match t, ht with
  | 0, _ => exact ⟨_, rfl, rfl, fun _ _ => rfl⟩
  | 1, _ => exact ⟨_, rfl, rfl, fun _ _ => rfl⟩
structure Sl where
  pl : Int
  num : Int
  given : List Int
  deriving DecidableEq, Inhabited
def slCell (c : Sl) : Nat → SV
  | 0 => iv c.pl
  | 1 => iv c.num
  | _ => inRow c.given
def slRow (l : List Sl) : SV := rowOf slCell 3 default l
def okSl (c : Sl) : Prop := okInt c.pl ∧ okInt c.num ∧ (c.given.length * 8 ≤ reachBytes ∧ c.given.length ≤ maxLen ∧ ∀ x ∈ c.given, okInt x)
theorem opens41 : Opens Try.prog 41 3 okSl slCell := fun enc w base spare held fuel cs x h hlt hwt => by
  obtain ⟨hl, hf⟩ := struct_at Try.underlying41 (by kernel_rfl) (by kernel_rfl) h hlt hwt
  obtain ⟨x0, o0, u0, hu0, p0, r0⟩ := hf 0 _ rfl (opens_int Try.underlying3)
  obtain ⟨x1, o1, u1, hu1, p1, r1⟩ := hf 1 _ rfl (opens_int Try.underlying3)
  obtain ⟨x2, o2, u2, hu2, p2, r2⟩ := hf 2 _ rfl opens33
  refine ⟨hl, ⟨x0, x1, x2⟩, ⟨o0, o1, o2⟩, fun i hi => ?_⟩
  match i, hi with
  | 0, _ => exact ⟨_, hu0, p0, r0⟩
  | 1, _ => exact ⟨_, hu1, p1, r1⟩
  | 2, _ => exact ⟨_, hu2, p2, r2⟩
theorem opens27 : Opens Try.prog 27 1 (fun l : List Sl => l.length * 40 ≤ reachBytes ∧ l.length ≤ maxLen ∧ ∀ x ∈ l, okSl x) fun l _ => slRow l := opens_sliceW default Try.underlying27 opens41 co41 (by decide) (by kernel_rfl)
theorem zero41 : ZeroOk Try.prog 41 3 (cmpG [iv 0, iv 0, .v (.slice none 0 0)]) := by
  refine ⟨_, Try.zeroValue41, rfl, fun t ht => ?_⟩
  match t, ht with
  | 0, _ => exact ⟨_, rfl, rfl, fun _ _ => rfl⟩
  | 1, _ => exact ⟨_, rfl, rfl, fun _ _ => rfl⟩
  | 2, _ => exact ⟨_, rfl, rfl, fun _ _ => rfl⟩
structure He where
  pl : Int
  down : Bool
  once : Bool
  stops : Bool
  id : Int
  deriving DecidableEq, Inhabited
def heCell (c : He) : Nat → SV
  | 0 => iv c.pl
  | 1 => bv c.down
  | 2 => bv c.once
  | 3 => bv c.stops
  | _ => iv c.id
def heRow (l : List He) : SV := rowOf heCell 5 default l
def okHe (c : He) : Prop := okInt c.pl ∧ okInt c.id
theorem opens54 : Opens Try.prog 54 5 okHe heCell := fun enc w base spare held fuel cs x h hlt hwt => by
  obtain ⟨hl, hf⟩ := struct_at Try.underlying54 (by kernel_rfl) (by kernel_rfl) h hlt hwt
  obtain ⟨x0, o0, u0, hu0, p0, r0⟩ := hf 0 _ rfl (opens_int Try.underlying3)
  obtain ⟨x1, o1, u1, hu1, p1, r1⟩ := hf 1 _ rfl (opens_bool Try.underlying4)
  obtain ⟨x2, o2, u2, hu2, p2, r2⟩ := hf 2 _ rfl (opens_bool Try.underlying4)
  obtain ⟨x3, o3, u3, hu3, p3, r3⟩ := hf 3 _ rfl (opens_bool Try.underlying4)
  obtain ⟨x4, o4, u4, hu4, p4, r4⟩ := hf 4 _ rfl (opens_int Try.underlying3)
  refine ⟨hl, ⟨x0, x1, x2, x3, x4⟩, ⟨o0, o4⟩, fun i hi => ?_⟩
  match i, hi with
  | 0, _ => exact ⟨_, hu0, p0, r0⟩
  | 1, _ => exact ⟨_, hu1, p1, r1⟩
  | 2, _ => exact ⟨_, hu2, p2, r2⟩
  | 3, _ => exact ⟨_, hu3, p3, r3⟩
  | 4, _ => exact ⟨_, hu4, p4, r4⟩
theorem opens45 : Opens Try.prog 45 1 (fun l : List He => l.length * 24 ≤ reachBytes ∧ l.length ≤ maxLen ∧ ∀ x ∈ l, okHe x) fun l _ => heRow l := opens_sliceW default Try.underlying45 opens54 co54 (by decide) (by kernel_rfl)
theorem zero54 : ZeroOk Try.prog 54 5 (cmpG [iv 0, bv false, bv false, bv false, iv 0]) := by
  refine ⟨_, Try.zeroValue54, rfl, fun t ht => ?_⟩
  match t, ht with
  | 0, _ => exact ⟨_, rfl, rfl, fun _ _ => rfl⟩
  | 1, _ => exact ⟨_, rfl, rfl, fun _ _ => rfl⟩
  | 2, _ => exact ⟨_, rfl, rfl, fun _ _ => rfl⟩
  | 3, _ => exact ⟨_, rfl, rfl, fun _ _ => rfl⟩
  | 4, _ => exact ⟨_, rfl, rfl, fun _ _ => rfl⟩
structure Ca where
  id : Int
  at_ : Int
  tgt : Int
  ph : Int
  deriving DecidableEq, Inhabited
def caCell (c : Ca) : Nat → SV
  | 0 => iv c.id
  | 1 => iv c.at_
  | 2 => iv c.tgt
  | _ => iv c.ph
def caRow (l : List Ca) : SV := rowOf caCell 4 default l
def okCa (c : Ca) : Prop := okInt c.id ∧ okInt c.at_ ∧ okInt c.tgt ∧ okInt c.ph
theorem opens51 : Opens Try.prog 51 4 okCa caCell := fun enc w base spare held fuel cs x h hlt hwt => by
  obtain ⟨hl, hf⟩ := struct_at Try.underlying51 (by kernel_rfl) (by kernel_rfl) h hlt hwt
  obtain ⟨x0, o0, u0, hu0, p0, r0⟩ := hf 0 _ rfl (opens_int Try.underlying3)
  obtain ⟨x1, o1, u1, hu1, p1, r1⟩ := hf 1 _ rfl (opens_int Try.underlying3)
  obtain ⟨x2, o2, u2, hu2, p2, r2⟩ := hf 2 _ rfl (opens_int Try.underlying3)
  obtain ⟨x3, o3, u3, hu3, p3, r3⟩ := hf 3 _ rfl (opens_int Try.underlying3)
  refine ⟨hl, ⟨x0, x1, x2, x3⟩, ⟨o0, o1, o2, o3⟩, fun i hi => ?_⟩
  match i, hi with
  | 0, _ => exact ⟨_, hu0, p0, r0⟩
  | 1, _ => exact ⟨_, hu1, p1, r1⟩
  | 2, _ => exact ⟨_, hu2, p2, r2⟩
  | 3, _ => exact ⟨_, hu3, p3, r3⟩
theorem opens46 : Opens Try.prog 46 1 (fun l : List Ca => l.length * 32 ≤ reachBytes ∧ l.length ≤ maxLen ∧ ∀ x ∈ l, okCa x) fun l _ => caRow l := opens_sliceW default Try.underlying46 opens51 co51 (by decide) (by kernel_rfl)
theorem zero51 : ZeroOk Try.prog 51 4 (cmpG [iv 0, iv 0, iv 0, iv 0]) := by
  refine ⟨_, Try.zeroValue51, rfl, fun t ht => ?_⟩
  match t, ht with
  | 0, _ => exact ⟨_, rfl, rfl, fun _ _ => rfl⟩
  | 1, _ => exact ⟨_, rfl, rfl, fun _ _ => rfl⟩
  | 2, _ => exact ⟨_, rfl, rfl, fun _ _ => rfl⟩
  | 3, _ => exact ⟨_, rfl, rfl, fun _ _ => rfl⟩
structure Te where
  tag : Int
  mark : Int
  near : Bool
  deriving DecidableEq, Inhabited
def teCell (c : Te) : Nat → SV
  | 0 => iv c.tag
  | 1 => iv c.mark
  | _ => bv c.near
def teRow (l : List Te) : SV := rowOf teCell 3 default l
def okTe (c : Te) : Prop := okInt c.tag ∧ okInt c.mark
theorem opens100 : Opens Try.prog 100 3 okTe teCell := fun enc w base spare held fuel cs x h hlt hwt => by
  obtain ⟨hl, hf⟩ := struct_at Try.underlying100 (by kernel_rfl) (by kernel_rfl) h hlt hwt
  obtain ⟨x0, o0, u0, hu0, p0, r0⟩ := hf 0 _ rfl (opens_int Try.underlying3)
  obtain ⟨x1, o1, u1, hu1, p1, r1⟩ := hf 1 _ rfl (opens_int Try.underlying3)
  obtain ⟨x2, o2, u2, hu2, p2, r2⟩ := hf 2 _ rfl (opens_bool Try.underlying4)
  refine ⟨hl, ⟨x0, x1, x2⟩, ⟨o0, o1⟩, fun i hi => ?_⟩
  match i, hi with
  | 0, _ => exact ⟨_, hu0, p0, r0⟩
  | 1, _ => exact ⟨_, hu1, p1, r1⟩
  | 2, _ => exact ⟨_, hu2, p2, r2⟩
theorem opens87 : Opens Try.prog 87 1 (fun l : List Te => l.length * 24 ≤ reachBytes ∧ l.length ≤ maxLen ∧ ∀ x ∈ l, okTe x) fun l _ => teRow l := opens_sliceW default Try.underlying87 opens100 co100 (by decide) (by kernel_rfl)
theorem zero100 : ZeroOk Try.prog 100 3 (cmpG [iv 0, iv 0, bv false]) := by
  refine ⟨_, Try.zeroValue100, rfl, fun t ht => ?_⟩
  match t, ht with
  | 0, _ => exact ⟨_, rfl, rfl, fun _ _ => rfl⟩
  | 1, _ => exact ⟨_, rfl, rfl, fun _ _ => rfl⟩
  | 2, _ => exact ⟨_, rfl, rfl, fun _ _ => rfl⟩
structure Sp where
  at_ : Int
  down : Bool
  deriving DecidableEq, Inhabited
def spCell (c : Sp) : Nat → SV
  | 0 => iv c.at_
  | _ => bv c.down
def spRow (l : List Sp) : SV := rowOf spCell 2 default l
def okSp (c : Sp) : Prop := okInt c.at_
theorem zero147 : ZeroOk Try.prog 147 2 (cmpG [iv 0, bv false]) := by
  refine ⟨_, Try.zeroValue147, rfl, fun t ht => ?_⟩
  match t, ht with
  | 0, _ => exact ⟨_, rfl, rfl, fun _ _ => rfl⟩
  | 1, _ => exact ⟨_, rfl, rfl, fun _ _ => rfl⟩
def stG (l : List Nd) : Nat → SV := fun _ => ndRow l
theorem opens24 : Opens Try.prog 24 1 (fun l : List Nd => l.length * 80 ≤ reachBytes ∧ l.length ≤ maxLen ∧ ∀ x ∈ l, okNd x) stG := fun enc w base spare held fuel cs x h hlt hwt => by
  obtain ⟨hl, hf⟩ := struct_at Try.underlying24 (by kernel_rfl) (by kernel_rfl) h hlt hwt
  obtain ⟨x0, o0, u0, hu0, p0, r0⟩ := hf 0 _ rfl opens22
  refine ⟨hl, x0, o0, fun i hi => ?_⟩
  match i, hi with
  | 0, _ => exact ⟨_, hu0, p0, r0⟩
theorem zero24 : ZeroOk Try.prog 24 1 (cmpG [.v (.slice none 0 0)]) := by
  refine ⟨_, Try.zeroValue24, rfl, fun t ht => ?_⟩
  match t, ht with
  | 0, _ => exact ⟨_, rfl, rfl, fun _ _ => rfl⟩
theorem zero22 : ZeroOk Try.prog 22 1 (cmpG [.v (.slice none 0 0)]) := by
  refine ⟨_, Try.zeroValue22, rfl, fun t ht => ?_⟩
  match t, ht with
  | 0, _ => exact ⟨_, rfl, rfl, fun _ _ => rfl⟩
theorem zero80 : ZeroOk Try.prog 80 1 (cmpG [.v (.slice none 0 0)]) := by
  refine ⟨_, Try.zeroValue80, rfl, fun t ht => ?_⟩
  match t, ht with
  | 0, _ => exact ⟨_, rfl, rfl, fun _ _ => rfl⟩
theorem zero27 : ZeroOk Try.prog 27 1 (cmpG [.v (.slice none 0 0)]) := by
  refine ⟨_, Try.zeroValue27, rfl, fun t ht => ?_⟩
  match t, ht with
  | 0, _ => exact ⟨_, rfl, rfl, fun _ _ => rfl⟩
theorem zero45 : ZeroOk Try.prog 45 1 (cmpG [.v (.slice none 0 0)]) := by
  refine ⟨_, Try.zeroValue45, rfl, fun t ht => ?_⟩
  match t, ht with
  | 0, _ => exact ⟨_, rfl, rfl, fun _ _ => rfl⟩
theorem zero46 : ZeroOk Try.prog 46 1 (cmpG [.v (.slice none 0 0)]) := by
  refine ⟨_, Try.zeroValue46, rfl, fun t ht => ?_⟩
  match t, ht with
  | 0, _ => exact ⟨_, rfl, rfl, fun _ _ => rfl⟩
theorem zero87 : ZeroOk Try.prog 87 1 (cmpG [.v (.slice none 0 0)]) := by
  refine ⟨_, Try.zeroValue87, rfl, fun t ht => ?_⟩
  match t, ht with
  | 0, _ => exact ⟨_, rfl, rfl, fun _ _ => rfl⟩
theorem zero145 : ZeroOk Try.prog 145 1 (cmpG [.v (.slice none 0 0)]) := by
  refine ⟨_, Try.zeroValue145, rfl, fun t ht => ?_⟩
  match t, ht with
  | 0, _ => exact ⟨_, rfl, rfl, fun _ _ => rfl⟩
theorem zero161 : ZeroOk Try.prog 161 1 (cmpG [.v (.slice none 0 0)]) := by
  refine ⟨_, Try.zeroValue161, rfl, fun t ht => ?_⟩
  match t, ht with
  | 0, _ => exact ⟨_, rfl, rfl, fun _ _ => rfl⟩
end Go.Proofs.Ytmcdamcedemdiaa
