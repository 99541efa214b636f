/-
  No cell of these rows narrows 'for every input' (looked for: loops, veiled, ifaces, maps, wideKeys, modest, calm, conditions, laid).
  DERIVED. THE GIVEN ROWS OF THIS SEAT. 18 by the template 'for every input the law returns true; each argument reads behind the call as it read before'; 0 by the template 'total and deterministic' (their statements: YtmcdamcedemdiaaTotals.lean).
  GIVEN WITH THE SEED: the statements are not yours to turn. If you find one false, say at which input.
  Laid BY PROGRAM, IN A SANDBOX (cutbox-rows.mjs): the forced cells as the released guide's own fill.sh prints them over the translation 3cc21e4d76eea03f… (all of the seat's roots in one cut). By AI agents, Wed Nov 11 2026. No macro, syntax, notation, axiom, sorry.
-/
import Derived.Test.YtmcdamcedemdiaaChecked
import GoSem.Claim
import GoSem.ClaimJoined
import GoSem.ClaimMapViews
import Derived.JoinedTies
import Derived.KernelRfl
namespace Go.Proofs.Ytmcdamcedemdiaa
/- THE CELL 'sum', in the pinned program and in every row, IS THE sha256 OF THE DUMP (.gsa) THAT YtmcdamcedemdiaaProg.lean LOADS. Nothing in Lean hashes anything: it is a label: what it is worth is what the hold of that sum in a sandbox is worth. -/
noncomputable def Try.pinned : Pinned := { name := "ytmcdamcedemdiaa", sum := "3cc21e4d76eea03f2cf734b4d5c86c12b995c5009af889d6d3a6c13060a5464b", checked := Try.checked }
namespace Rows
def none {H : Type} : Left H := { results := [], args := [] }

/-- 'glasshouselaw.SlotSays': WHATEVER THE INPUT: true; the input reads as it did. -/
def slotSaysSpec : ChangeSpec := { name := "slotSays", fn := fun _ => fun
  | [d1, d2] => { results := [.lit (.bool true)], args := [d1, d2] }
  | _ => none }
def slotSaysRow : OpenClaim := { program := "ytmcdamcedemdiaa", sum := "3cc21e4d76eea03f2cf734b4d5c86c12b995c5009af889d6d3a6c13060a5464b", func := "glasshouse/glasshouselaw.SlotSays", spec := "slotSays", inPlace := ["slices.overlaps[int]"], unfollowed := true, recurses := true, apart := false }
def SlotSaysSaid : Prop := slotSaysRow.holds Try.pinned (OpenSpec.ofChange slotSaysSpec)

/-- ITS FALSE NEIGHBOUR: 'it returns false'. Refute it at one input. -/
def slotSaysWrong : ChangeSpec := { name := "slotSays", fn := fun _ => fun
  | [d1, d2] => { results := [.lit (.bool false)], args := [d1, d2] }
  | _ => none }
def SlotSaysWrongFalsely : Prop := slotSaysRow.holds Try.pinned (OpenSpec.ofChange slotSaysWrong)

/-- 'glasshouselaw.EventTold': WHATEVER THE INPUT: true; the input reads as it did. -/
def eventToldSpec : ChangeSpec := { name := "eventTold", fn := fun _ => fun
  | [d1, d2, d3] => { results := [.lit (.bool true)], args := [d1, d2, d3] }
  | _ => none }
def eventToldRow : OpenClaim := { program := "ytmcdamcedemdiaa", sum := "3cc21e4d76eea03f2cf734b4d5c86c12b995c5009af889d6d3a6c13060a5464b", func := "glasshouse/glasshouselaw.EventTold", spec := "eventTold", inPlace := ["slices.overlaps[int]"], unfollowed := true, recurses := true, apart := false }
def EventToldSaid : Prop := eventToldRow.holds Try.pinned (OpenSpec.ofChange eventToldSpec)

/-- ITS FALSE NEIGHBOUR: 'it returns false'. Refute it at one input. -/
def eventToldWrong : ChangeSpec := { name := "eventTold", fn := fun _ => fun
  | [d1, d2, d3] => { results := [.lit (.bool false)], args := [d1, d2, d3] }
  | _ => none }
def EventToldWrongFalsely : Prop := eventToldRow.holds Try.pinned (OpenSpec.ofChange eventToldWrong)

/-- 'glasshouselaw.StoreHolds': WHATEVER THE INPUT: true; the input reads as it did. -/
def storeHoldsSpec : ChangeSpec := { name := "storeHolds", fn := fun _ => fun
  | [d1, d2, d3] => { results := [.lit (.bool true)], args := [d1, d2, d3] }
  | _ => none }
def storeHoldsRow : OpenClaim := { program := "ytmcdamcedemdiaa", sum := "3cc21e4d76eea03f2cf734b4d5c86c12b995c5009af889d6d3a6c13060a5464b", func := "glasshouse/glasshouselaw.StoreHolds", spec := "storeHolds", unfollowed := true, recurses := true, apart := false }
def StoreHoldsSaid : Prop := storeHoldsRow.holds Try.pinned (OpenSpec.ofChange storeHoldsSpec)

/-- ITS FALSE NEIGHBOUR: 'it returns false'. Refute it at one input. -/
def storeHoldsWrong : ChangeSpec := { name := "storeHolds", fn := fun _ => fun
  | [d1, d2, d3] => { results := [.lit (.bool false)], args := [d1, d2, d3] }
  | _ => none }
def StoreHoldsWrongFalsely : Prop := storeHoldsRow.holds Try.pinned (OpenSpec.ofChange storeHoldsWrong)

/-- 'glasshouselaw.StoreRoom': WHATEVER THE INPUT: true; the input reads as it did. -/
def storeRoomSpec : ChangeSpec := { name := "storeRoom", fn := fun _ => fun
  | [d1, d2] => { results := [.lit (.bool true)], args := [d1, d2] }
  | _ => none }
def storeRoomRow : OpenClaim := { program := "ytmcdamcedemdiaa", sum := "3cc21e4d76eea03f2cf734b4d5c86c12b995c5009af889d6d3a6c13060a5464b", func := "glasshouse/glasshouselaw.StoreRoom", spec := "storeRoom", unfollowed := true, recurses := true, apart := false }
def StoreRoomSaid : Prop := storeRoomRow.holds Try.pinned (OpenSpec.ofChange storeRoomSpec)

/-- ITS FALSE NEIGHBOUR: 'it returns false'. Refute it at one input. -/
def storeRoomWrong : ChangeSpec := { name := "storeRoom", fn := fun _ => fun
  | [d1, d2] => { results := [.lit (.bool false)], args := [d1, d2] }
  | _ => none }
def StoreRoomWrongFalsely : Prop := storeRoomRow.holds Try.pinned (OpenSpec.ofChange storeRoomWrong)

/-- 'glasshouselaw.StoreSays': WHATEVER THE INPUT: true; the input reads as it did. -/
def storeSaysSpec : ChangeSpec := { name := "storeSays", fn := fun _ => fun
  | [d1, d2, d3, d4, d5] => { results := [.lit (.bool true)], args := [d1, d2, d3, d4, d5] }
  | _ => none }
def storeSaysRow : OpenClaim := { program := "ytmcdamcedemdiaa", sum := "3cc21e4d76eea03f2cf734b4d5c86c12b995c5009af889d6d3a6c13060a5464b", func := "glasshouse/glasshouselaw.StoreSays", spec := "storeSays", unfollowed := true, recurses := true, apart := false }
def StoreSaysSaid : Prop := storeSaysRow.holds Try.pinned (OpenSpec.ofChange storeSaysSpec)

/-- ITS FALSE NEIGHBOUR: 'it returns false'. Refute it at one input. -/
def storeSaysWrong : ChangeSpec := { name := "storeSays", fn := fun _ => fun
  | [d1, d2, d3, d4, d5] => { results := [.lit (.bool false)], args := [d1, d2, d3, d4, d5] }
  | _ => none }
def StoreSaysWrongFalsely : Prop := storeSaysRow.holds Try.pinned (OpenSpec.ofChange storeSaysWrong)

/-- 'glasshouselaw.TreeMoves': WHATEVER THE INPUT: true; the input reads as it did. -/
def treeMovesSpec : ChangeSpec := { name := "treeMoves", fn := fun _ => fun
  | [d1, d2, d3, d4] => { results := [.lit (.bool true)], args := [d1, d2, d3, d4] }
  | _ => none }
def treeMovesRow : OpenClaim := { program := "ytmcdamcedemdiaa", sum := "3cc21e4d76eea03f2cf734b4d5c86c12b995c5009af889d6d3a6c13060a5464b", func := "glasshouse/glasshouselaw.TreeMoves", spec := "treeMoves", inPlace := ["slices.overlaps[int]"], unfollowed := true, recurses := true, apart := false }
def TreeMovesSaid : Prop := treeMovesRow.holds Try.pinned (OpenSpec.ofChange treeMovesSpec)

/-- ITS FALSE NEIGHBOUR: 'it returns false'. Refute it at one input. -/
def treeMovesWrong : ChangeSpec := { name := "treeMoves", fn := fun _ => fun
  | [d1, d2, d3, d4] => { results := [.lit (.bool false)], args := [d1, d2, d3, d4] }
  | _ => none }
def TreeMovesWrongFalsely : Prop := treeMovesRow.holds Try.pinned (OpenSpec.ofChange treeMovesWrong)

/-- 'glasshouselaw.TreeOrder': WHATEVER THE INPUT: true; the input reads as it did. -/
def treeOrderSpec : ChangeSpec := { name := "treeOrder", fn := fun _ => fun
  | [d1, d2] => { results := [.lit (.bool true)], args := [d1, d2] }
  | _ => none }
def treeOrderRow : OpenClaim := { program := "ytmcdamcedemdiaa", sum := "3cc21e4d76eea03f2cf734b4d5c86c12b995c5009af889d6d3a6c13060a5464b", func := "glasshouse/glasshouselaw.TreeOrder", spec := "treeOrder", inPlace := ["slices.overlaps[int]"], unfollowed := true, recurses := true, apart := false }
def TreeOrderSaid : Prop := treeOrderRow.holds Try.pinned (OpenSpec.ofChange treeOrderSpec)

/-- ITS FALSE NEIGHBOUR: 'it returns false'. Refute it at one input. -/
def treeOrderWrong : ChangeSpec := { name := "treeOrder", fn := fun _ => fun
  | [d1, d2] => { results := [.lit (.bool false)], args := [d1, d2] }
  | _ => none }
def TreeOrderWrongFalsely : Prop := treeOrderRow.holds Try.pinned (OpenSpec.ofChange treeOrderWrong)

/-- 'glasshouselaw.TreeSays': WHATEVER THE INPUT: true; the input reads as it did. -/
def treeSaysSpec : ChangeSpec := { name := "treeSays", fn := fun _ => fun
  | [d1, d2, d3, d4] => { results := [.lit (.bool true)], args := [d1, d2, d3, d4] }
  | _ => none }
def treeSaysRow : OpenClaim := { program := "ytmcdamcedemdiaa", sum := "3cc21e4d76eea03f2cf734b4d5c86c12b995c5009af889d6d3a6c13060a5464b", func := "glasshouse/glasshouselaw.TreeSays", spec := "treeSays", inPlace := ["slices.overlaps[int]"], unfollowed := true, recurses := true, apart := false }
def TreeSaysSaid : Prop := treeSaysRow.holds Try.pinned (OpenSpec.ofChange treeSaysSpec)

/-- ITS FALSE NEIGHBOUR: 'it returns false'. Refute it at one input. -/
def treeSaysWrong : ChangeSpec := { name := "treeSays", fn := fun _ => fun
  | [d1, d2, d3, d4] => { results := [.lit (.bool false)], args := [d1, d2, d3, d4] }
  | _ => none }
def TreeSaysWrongFalsely : Prop := treeSaysRow.holds Try.pinned (OpenSpec.ofChange treeSaysWrong)

/-- 'glasshouselaw.TreeKeeps': WHATEVER THE INPUT: true; the input reads as it did. -/
def treeKeepsSpec : ChangeSpec := { name := "treeKeeps", fn := fun _ => fun
  | [d1, d2, d3, d4] => { results := [.lit (.bool true)], args := [d1, d2, d3, d4] }
  | _ => none }
def treeKeepsRow : OpenClaim := { program := "ytmcdamcedemdiaa", sum := "3cc21e4d76eea03f2cf734b4d5c86c12b995c5009af889d6d3a6c13060a5464b", func := "glasshouse/glasshouselaw.TreeKeeps", spec := "treeKeeps", inPlace := ["slices.overlaps[int]"], unfollowed := true, recurses := true, apart := false }
def TreeKeepsSaid : Prop := treeKeepsRow.holds Try.pinned (OpenSpec.ofChange treeKeepsSpec)

/-- ITS FALSE NEIGHBOUR: 'it returns false'. Refute it at one input. -/
def treeKeepsWrong : ChangeSpec := { name := "treeKeeps", fn := fun _ => fun
  | [d1, d2, d3, d4] => { results := [.lit (.bool false)], args := [d1, d2, d3, d4] }
  | _ => none }
def TreeKeepsWrongFalsely : Prop := treeKeepsRow.holds Try.pinned (OpenSpec.ofChange treeKeepsWrong)

/-- 'glasshouselaw.QuerySays': WHATEVER THE INPUT: true; the input reads as it did. -/
def querySaysSpec : ChangeSpec := { name := "querySays", fn := fun _ => fun
  | [d1, d2, d3] => { results := [.lit (.bool true)], args := [d1, d2, d3] }
  | _ => none }
def querySaysRow : OpenClaim := { program := "ytmcdamcedemdiaa", sum := "3cc21e4d76eea03f2cf734b4d5c86c12b995c5009af889d6d3a6c13060a5464b", func := "glasshouse/glasshouselaw.QuerySays", spec := "querySays", inPlace := ["slices.overlaps[int]"], unfollowed := true, recurses := true, apart := false }
def QuerySaysSaid : Prop := querySaysRow.holds Try.pinned (OpenSpec.ofChange querySaysSpec)

/-- ITS FALSE NEIGHBOUR: 'it returns false'. Refute it at one input. -/
def querySaysWrong : ChangeSpec := { name := "querySays", fn := fun _ => fun
  | [d1, d2, d3] => { results := [.lit (.bool false)], args := [d1, d2, d3] }
  | _ => none }
def QuerySaysWrongFalsely : Prop := querySaysRow.holds Try.pinned (OpenSpec.ofChange querySaysWrong)

/-- 'glasshouselaw.ShadowOpen': WHATEVER THE INPUT: true; the input reads as it did. -/
def shadowOpenSpec : ChangeSpec := { name := "shadowOpen", fn := fun _ => fun
  | [d1, d2, d3, d4] => { results := [.lit (.bool true)], args := [d1, d2, d3, d4] }
  | _ => none }
def shadowOpenRow : OpenClaim := { program := "ytmcdamcedemdiaa", sum := "3cc21e4d76eea03f2cf734b4d5c86c12b995c5009af889d6d3a6c13060a5464b", func := "glasshouse/glasshouselaw.ShadowOpen", spec := "shadowOpen", inPlace := ["slices.overlaps[int]"], unfollowed := true, recurses := true, apart := false }
def ShadowOpenSaid : Prop := shadowOpenRow.holds Try.pinned (OpenSpec.ofChange shadowOpenSpec)

/-- ITS FALSE NEIGHBOUR: 'it returns false'. Refute it at one input. -/
def shadowOpenWrong : ChangeSpec := { name := "shadowOpen", fn := fun _ => fun
  | [d1, d2, d3, d4] => { results := [.lit (.bool false)], args := [d1, d2, d3, d4] }
  | _ => none }
def ShadowOpenWrongFalsely : Prop := shadowOpenRow.holds Try.pinned (OpenSpec.ofChange shadowOpenWrong)

/-- 'glasshouselaw.ShadowSays': WHATEVER THE INPUT: true; the input reads as it did. -/
def shadowSaysSpec : ChangeSpec := { name := "shadowSays", fn := fun _ => fun
  | [d1, d2, d3, d4] => { results := [.lit (.bool true)], args := [d1, d2, d3, d4] }
  | _ => none }
def shadowSaysRow : OpenClaim := { program := "ytmcdamcedemdiaa", sum := "3cc21e4d76eea03f2cf734b4d5c86c12b995c5009af889d6d3a6c13060a5464b", func := "glasshouse/glasshouselaw.ShadowSays", spec := "shadowSays", inPlace := ["slices.overlaps[int]"], unfollowed := true, recurses := true, apart := false }
def ShadowSaysSaid : Prop := shadowSaysRow.holds Try.pinned (OpenSpec.ofChange shadowSaysSpec)

/-- ITS FALSE NEIGHBOUR: 'it returns false'. Refute it at one input. -/
def shadowSaysWrong : ChangeSpec := { name := "shadowSays", fn := fun _ => fun
  | [d1, d2, d3, d4] => { results := [.lit (.bool false)], args := [d1, d2, d3, d4] }
  | _ => none }
def ShadowSaysWrongFalsely : Prop := shadowSaysRow.holds Try.pinned (OpenSpec.ofChange shadowSaysWrong)

/-- 'glasshouselaw.ShadowHides': WHATEVER THE INPUT: true; the input reads as it did. -/
def shadowHidesSpec : ChangeSpec := { name := "shadowHides", fn := fun _ => fun
  | [d1, d2, d3] => { results := [.lit (.bool true)], args := [d1, d2, d3] }
  | _ => none }
def shadowHidesRow : OpenClaim := { program := "ytmcdamcedemdiaa", sum := "3cc21e4d76eea03f2cf734b4d5c86c12b995c5009af889d6d3a6c13060a5464b", func := "glasshouse/glasshouselaw.ShadowHides", spec := "shadowHides", inPlace := ["slices.overlaps[int]"], unfollowed := true, recurses := true, apart := false }
def ShadowHidesSaid : Prop := shadowHidesRow.holds Try.pinned (OpenSpec.ofChange shadowHidesSpec)

/-- ITS FALSE NEIGHBOUR: 'it returns false'. Refute it at one input. -/
def shadowHidesWrong : ChangeSpec := { name := "shadowHides", fn := fun _ => fun
  | [d1, d2, d3] => { results := [.lit (.bool false)], args := [d1, d2, d3] }
  | _ => none }
def ShadowHidesWrongFalsely : Prop := shadowHidesRow.holds Try.pinned (OpenSpec.ofChange shadowHidesWrong)

/-- 'glasshouselaw.QueryFinds': WHATEVER THE INPUT: true; the input reads as it did. -/
def queryFindsSpec : ChangeSpec := { name := "queryFinds", fn := fun _ => fun
  | [d1, d2, d3, d4] => { results := [.lit (.bool true)], args := [d1, d2, d3, d4] }
  | _ => none }
def queryFindsRow : OpenClaim := { program := "ytmcdamcedemdiaa", sum := "3cc21e4d76eea03f2cf734b4d5c86c12b995c5009af889d6d3a6c13060a5464b", func := "glasshouse/glasshouselaw.QueryFinds", spec := "queryFinds", inPlace := ["slices.overlaps[int]"], unfollowed := true, recurses := true, apart := false }
def QueryFindsSaid : Prop := queryFindsRow.holds Try.pinned (OpenSpec.ofChange queryFindsSpec)

/-- ITS FALSE NEIGHBOUR: 'it returns false'. Refute it at one input. -/
def queryFindsWrong : ChangeSpec := { name := "queryFinds", fn := fun _ => fun
  | [d1, d2, d3, d4] => { results := [.lit (.bool false)], args := [d1, d2, d3, d4] }
  | _ => none }
def QueryFindsWrongFalsely : Prop := queryFindsRow.holds Try.pinned (OpenSpec.ofChange queryFindsWrong)

/-- 'glasshouselaw.SlotOnce': WHATEVER THE INPUT: true; the input reads as it did. -/
def slotOnceSpec : ChangeSpec := { name := "slotOnce", fn := fun _ => fun
  | [d1, d2] => { results := [.lit (.bool true)], args := [d1, d2] }
  | _ => none }
def slotOnceRow : OpenClaim := { program := "ytmcdamcedemdiaa", sum := "3cc21e4d76eea03f2cf734b4d5c86c12b995c5009af889d6d3a6c13060a5464b", func := "glasshouse/glasshouselaw.SlotOnce", spec := "slotOnce", inPlace := ["slices.overlaps[int]"], unfollowed := true, recurses := true, apart := false }
def SlotOnceSaid : Prop := slotOnceRow.holds Try.pinned (OpenSpec.ofChange slotOnceSpec)

/-- ITS FALSE NEIGHBOUR: 'it returns false'. Refute it at one input. -/
def slotOnceWrong : ChangeSpec := { name := "slotOnce", fn := fun _ => fun
  | [d1, d2] => { results := [.lit (.bool false)], args := [d1, d2] }
  | _ => none }
def SlotOnceWrongFalsely : Prop := slotOnceRow.holds Try.pinned (OpenSpec.ofChange slotOnceWrong)

/-- 'glasshouselaw.SlotNone': WHATEVER THE INPUT: true; the input reads as it did. -/
def slotNoneSpec : ChangeSpec := { name := "slotNone", fn := fun _ => fun
  | [d1, d2] => { results := [.lit (.bool true)], args := [d1, d2] }
  | _ => none }
def slotNoneRow : OpenClaim := { program := "ytmcdamcedemdiaa", sum := "3cc21e4d76eea03f2cf734b4d5c86c12b995c5009af889d6d3a6c13060a5464b", func := "glasshouse/glasshouselaw.SlotNone", spec := "slotNone", inPlace := ["slices.overlaps[int]"], unfollowed := true, recurses := true, apart := false }
def SlotNoneSaid : Prop := slotNoneRow.holds Try.pinned (OpenSpec.ofChange slotNoneSpec)

/-- ITS FALSE NEIGHBOUR: 'it returns false'. Refute it at one input. -/
def slotNoneWrong : ChangeSpec := { name := "slotNone", fn := fun _ => fun
  | [d1, d2] => { results := [.lit (.bool false)], args := [d1, d2] }
  | _ => none }
def SlotNoneWrongFalsely : Prop := slotNoneRow.holds Try.pinned (OpenSpec.ofChange slotNoneWrong)

/-- 'glasshouselaw.EventStops': WHATEVER THE INPUT: true; the input reads as it did. -/
def eventStopsSpec : ChangeSpec := { name := "eventStops", fn := fun _ => fun
  | [d1, d2, d3, d4] => { results := [.lit (.bool true)], args := [d1, d2, d3, d4] }
  | _ => none }
def eventStopsRow : OpenClaim := { program := "ytmcdamcedemdiaa", sum := "3cc21e4d76eea03f2cf734b4d5c86c12b995c5009af889d6d3a6c13060a5464b", func := "glasshouse/glasshouselaw.EventStops", spec := "eventStops", inPlace := ["slices.overlaps[int]"], unfollowed := true, recurses := true, apart := false }
def EventStopsSaid : Prop := eventStopsRow.holds Try.pinned (OpenSpec.ofChange eventStopsSpec)

/-- ITS FALSE NEIGHBOUR: 'it returns false'. Refute it at one input. -/
def eventStopsWrong : ChangeSpec := { name := "eventStops", fn := fun _ => fun
  | [d1, d2, d3, d4] => { results := [.lit (.bool false)], args := [d1, d2, d3, d4] }
  | _ => none }
def EventStopsWrongFalsely : Prop := eventStopsRow.holds Try.pinned (OpenSpec.ofChange eventStopsWrong)

/-- 'glasshouselaw.EventSays': WHATEVER THE INPUT: true; the input reads as it did. -/
def eventSaysSpec : ChangeSpec := { name := "eventSays", fn := fun _ => fun
  | [d1, d2, d3, d4] => { results := [.lit (.bool true)], args := [d1, d2, d3, d4] }
  | _ => none }
def eventSaysRow : OpenClaim := { program := "ytmcdamcedemdiaa", sum := "3cc21e4d76eea03f2cf734b4d5c86c12b995c5009af889d6d3a6c13060a5464b", func := "glasshouse/glasshouselaw.EventSays", spec := "eventSays", inPlace := ["slices.overlaps[int]"], unfollowed := true, recurses := true, apart := false }
def EventSaysSaid : Prop := eventSaysRow.holds Try.pinned (OpenSpec.ofChange eventSaysSpec)

/-- ITS FALSE NEIGHBOUR: 'it returns false'. Refute it at one input. -/
def eventSaysWrong : ChangeSpec := { name := "eventSays", fn := fun _ => fun
  | [d1, d2, d3, d4] => { results := [.lit (.bool false)], args := [d1, d2, d3, d4] }
  | _ => none }
def EventSaysWrongFalsely : Prop := eventSaysRow.holds Try.pinned (OpenSpec.ofChange eventSaysWrong)

/- THE SECOND FORM. 'bulk': how many values and letters a reading holds, each counted each time it is reached (what is shared counts as often as it is met; a slice's spare places count too). A statement '..UptoSaid' is the law's where the arguments, and the package variables that the reading takes, are together of bulk at most 1048576: NARROWER than '..Said'. Prove '..Said' where nothing that the law and all that it calls make is longer than what came in: it says more and counts as full. Else prove '..UptoSaid'. A law counts once. -/
mutual
def uptoBulk {H : Type} : DataW H → Nat
  | .lit (.string bytes) => bytes.length + 1
  | .lit _ => 1
  | .nil => 1
  | .ptr d => uptoBulk d + 1
  | .slice elems spare => uptoBulkAll elems + uptoBulkAll spare + 1
  | .agg parts => uptoBulkAll parts + 1
  | .iface _ d => uptoBulk d + 1
  | .map entries => uptoBulkEntries entries + 1
  | .held _ => 1
def uptoBulkAll {H : Type} : List (DataW H) → Nat
  | [] => 0
  | d :: r => uptoBulk d + uptoBulkAll r
def uptoBulkEntries {H : Type} : List (Lit × DataW H) → Nat
  | [] => 0
  | x :: r => uptoBulkEntry x + uptoBulkEntries r
def uptoBulkEntry {H : Type} : Lit × DataW H → Nat
  | (.string bytes, d) => bytes.length + uptoBulk d + 1
  | (_, d) => uptoBulk d + 1
 end
def uptoSmall : (H : Type) → List (DataW H) → Bool := fun _ ds => decide (uptoBulkAll ds ≤ 1048576)
def OpenSpec.upto (s : _root_.Go.ChangeSpec) : _root_.Go.OpenSpec := { _root_.Go.OpenSpec.ofChange s with cond := some uptoSmall }

/-- 'glasshouselaw.SlotSays', WHERE WHAT IT READS IS OF BULK AT MOST 1048576: true; the input reads as it did. -/
def slotSaysUptoRow : OpenClaim := { program := "ytmcdamcedemdiaa", sum := "3cc21e4d76eea03f2cf734b4d5c86c12b995c5009af889d6d3a6c13060a5464b", func := "glasshouse/glasshouselaw.SlotSays", spec := "slotSays", inPlace := ["slices.overlaps[int]"], unfollowed := true, recurses := true, apart := false, narrowed := true }
def SlotSaysUptoSaid : Prop := slotSaysUptoRow.holds Try.pinned (OpenSpec.upto slotSaysSpec)

/-- 'glasshouselaw.EventTold', WHERE WHAT IT READS IS OF BULK AT MOST 1048576: true; the input reads as it did. -/
def eventToldUptoRow : OpenClaim := { program := "ytmcdamcedemdiaa", sum := "3cc21e4d76eea03f2cf734b4d5c86c12b995c5009af889d6d3a6c13060a5464b", func := "glasshouse/glasshouselaw.EventTold", spec := "eventTold", inPlace := ["slices.overlaps[int]"], unfollowed := true, recurses := true, apart := false, narrowed := true }
def EventToldUptoSaid : Prop := eventToldUptoRow.holds Try.pinned (OpenSpec.upto eventToldSpec)

/-- 'glasshouselaw.StoreHolds', WHERE WHAT IT READS IS OF BULK AT MOST 1048576: true; the input reads as it did. -/
def storeHoldsUptoRow : OpenClaim := { program := "ytmcdamcedemdiaa", sum := "3cc21e4d76eea03f2cf734b4d5c86c12b995c5009af889d6d3a6c13060a5464b", func := "glasshouse/glasshouselaw.StoreHolds", spec := "storeHolds", unfollowed := true, recurses := true, apart := false, narrowed := true }
def StoreHoldsUptoSaid : Prop := storeHoldsUptoRow.holds Try.pinned (OpenSpec.upto storeHoldsSpec)

/-- 'glasshouselaw.StoreRoom', WHERE WHAT IT READS IS OF BULK AT MOST 1048576: true; the input reads as it did. -/
def storeRoomUptoRow : OpenClaim := { program := "ytmcdamcedemdiaa", sum := "3cc21e4d76eea03f2cf734b4d5c86c12b995c5009af889d6d3a6c13060a5464b", func := "glasshouse/glasshouselaw.StoreRoom", spec := "storeRoom", unfollowed := true, recurses := true, apart := false, narrowed := true }
def StoreRoomUptoSaid : Prop := storeRoomUptoRow.holds Try.pinned (OpenSpec.upto storeRoomSpec)

/-- 'glasshouselaw.StoreSays', WHERE WHAT IT READS IS OF BULK AT MOST 1048576: true; the input reads as it did. -/
def storeSaysUptoRow : OpenClaim := { program := "ytmcdamcedemdiaa", sum := "3cc21e4d76eea03f2cf734b4d5c86c12b995c5009af889d6d3a6c13060a5464b", func := "glasshouse/glasshouselaw.StoreSays", spec := "storeSays", unfollowed := true, recurses := true, apart := false, narrowed := true }
def StoreSaysUptoSaid : Prop := storeSaysUptoRow.holds Try.pinned (OpenSpec.upto storeSaysSpec)

/-- 'glasshouselaw.TreeMoves', WHERE WHAT IT READS IS OF BULK AT MOST 1048576: true; the input reads as it did. -/
def treeMovesUptoRow : OpenClaim := { program := "ytmcdamcedemdiaa", sum := "3cc21e4d76eea03f2cf734b4d5c86c12b995c5009af889d6d3a6c13060a5464b", func := "glasshouse/glasshouselaw.TreeMoves", spec := "treeMoves", inPlace := ["slices.overlaps[int]"], unfollowed := true, recurses := true, apart := false, narrowed := true }
def TreeMovesUptoSaid : Prop := treeMovesUptoRow.holds Try.pinned (OpenSpec.upto treeMovesSpec)

/-- 'glasshouselaw.TreeOrder', WHERE WHAT IT READS IS OF BULK AT MOST 1048576: true; the input reads as it did. -/
def treeOrderUptoRow : OpenClaim := { program := "ytmcdamcedemdiaa", sum := "3cc21e4d76eea03f2cf734b4d5c86c12b995c5009af889d6d3a6c13060a5464b", func := "glasshouse/glasshouselaw.TreeOrder", spec := "treeOrder", inPlace := ["slices.overlaps[int]"], unfollowed := true, recurses := true, apart := false, narrowed := true }
def TreeOrderUptoSaid : Prop := treeOrderUptoRow.holds Try.pinned (OpenSpec.upto treeOrderSpec)

/-- 'glasshouselaw.TreeSays', WHERE WHAT IT READS IS OF BULK AT MOST 1048576: true; the input reads as it did. -/
def treeSaysUptoRow : OpenClaim := { program := "ytmcdamcedemdiaa", sum := "3cc21e4d76eea03f2cf734b4d5c86c12b995c5009af889d6d3a6c13060a5464b", func := "glasshouse/glasshouselaw.TreeSays", spec := "treeSays", inPlace := ["slices.overlaps[int]"], unfollowed := true, recurses := true, apart := false, narrowed := true }
def TreeSaysUptoSaid : Prop := treeSaysUptoRow.holds Try.pinned (OpenSpec.upto treeSaysSpec)

/-- 'glasshouselaw.TreeKeeps', WHERE WHAT IT READS IS OF BULK AT MOST 1048576: true; the input reads as it did. -/
def treeKeepsUptoRow : OpenClaim := { program := "ytmcdamcedemdiaa", sum := "3cc21e4d76eea03f2cf734b4d5c86c12b995c5009af889d6d3a6c13060a5464b", func := "glasshouse/glasshouselaw.TreeKeeps", spec := "treeKeeps", inPlace := ["slices.overlaps[int]"], unfollowed := true, recurses := true, apart := false, narrowed := true }
def TreeKeepsUptoSaid : Prop := treeKeepsUptoRow.holds Try.pinned (OpenSpec.upto treeKeepsSpec)

/-- 'glasshouselaw.QuerySays', WHERE WHAT IT READS IS OF BULK AT MOST 1048576: true; the input reads as it did. -/
def querySaysUptoRow : OpenClaim := { program := "ytmcdamcedemdiaa", sum := "3cc21e4d76eea03f2cf734b4d5c86c12b995c5009af889d6d3a6c13060a5464b", func := "glasshouse/glasshouselaw.QuerySays", spec := "querySays", inPlace := ["slices.overlaps[int]"], unfollowed := true, recurses := true, apart := false, narrowed := true }
def QuerySaysUptoSaid : Prop := querySaysUptoRow.holds Try.pinned (OpenSpec.upto querySaysSpec)

/-- 'glasshouselaw.ShadowOpen', WHERE WHAT IT READS IS OF BULK AT MOST 1048576: true; the input reads as it did. -/
def shadowOpenUptoRow : OpenClaim := { program := "ytmcdamcedemdiaa", sum := "3cc21e4d76eea03f2cf734b4d5c86c12b995c5009af889d6d3a6c13060a5464b", func := "glasshouse/glasshouselaw.ShadowOpen", spec := "shadowOpen", inPlace := ["slices.overlaps[int]"], unfollowed := true, recurses := true, apart := false, narrowed := true }
def ShadowOpenUptoSaid : Prop := shadowOpenUptoRow.holds Try.pinned (OpenSpec.upto shadowOpenSpec)

/-- 'glasshouselaw.ShadowSays', WHERE WHAT IT READS IS OF BULK AT MOST 1048576: true; the input reads as it did. -/
def shadowSaysUptoRow : OpenClaim := { program := "ytmcdamcedemdiaa", sum := "3cc21e4d76eea03f2cf734b4d5c86c12b995c5009af889d6d3a6c13060a5464b", func := "glasshouse/glasshouselaw.ShadowSays", spec := "shadowSays", inPlace := ["slices.overlaps[int]"], unfollowed := true, recurses := true, apart := false, narrowed := true }
def ShadowSaysUptoSaid : Prop := shadowSaysUptoRow.holds Try.pinned (OpenSpec.upto shadowSaysSpec)

/-- 'glasshouselaw.ShadowHides', WHERE WHAT IT READS IS OF BULK AT MOST 1048576: true; the input reads as it did. -/
def shadowHidesUptoRow : OpenClaim := { program := "ytmcdamcedemdiaa", sum := "3cc21e4d76eea03f2cf734b4d5c86c12b995c5009af889d6d3a6c13060a5464b", func := "glasshouse/glasshouselaw.ShadowHides", spec := "shadowHides", inPlace := ["slices.overlaps[int]"], unfollowed := true, recurses := true, apart := false, narrowed := true }
def ShadowHidesUptoSaid : Prop := shadowHidesUptoRow.holds Try.pinned (OpenSpec.upto shadowHidesSpec)

/-- 'glasshouselaw.QueryFinds', WHERE WHAT IT READS IS OF BULK AT MOST 1048576: true; the input reads as it did. -/
def queryFindsUptoRow : OpenClaim := { program := "ytmcdamcedemdiaa", sum := "3cc21e4d76eea03f2cf734b4d5c86c12b995c5009af889d6d3a6c13060a5464b", func := "glasshouse/glasshouselaw.QueryFinds", spec := "queryFinds", inPlace := ["slices.overlaps[int]"], unfollowed := true, recurses := true, apart := false, narrowed := true }
def QueryFindsUptoSaid : Prop := queryFindsUptoRow.holds Try.pinned (OpenSpec.upto queryFindsSpec)

/-- 'glasshouselaw.SlotOnce', WHERE WHAT IT READS IS OF BULK AT MOST 1048576: true; the input reads as it did. -/
def slotOnceUptoRow : OpenClaim := { program := "ytmcdamcedemdiaa", sum := "3cc21e4d76eea03f2cf734b4d5c86c12b995c5009af889d6d3a6c13060a5464b", func := "glasshouse/glasshouselaw.SlotOnce", spec := "slotOnce", inPlace := ["slices.overlaps[int]"], unfollowed := true, recurses := true, apart := false, narrowed := true }
def SlotOnceUptoSaid : Prop := slotOnceUptoRow.holds Try.pinned (OpenSpec.upto slotOnceSpec)

/-- 'glasshouselaw.SlotNone', WHERE WHAT IT READS IS OF BULK AT MOST 1048576: true; the input reads as it did. -/
def slotNoneUptoRow : OpenClaim := { program := "ytmcdamcedemdiaa", sum := "3cc21e4d76eea03f2cf734b4d5c86c12b995c5009af889d6d3a6c13060a5464b", func := "glasshouse/glasshouselaw.SlotNone", spec := "slotNone", inPlace := ["slices.overlaps[int]"], unfollowed := true, recurses := true, apart := false, narrowed := true }
def SlotNoneUptoSaid : Prop := slotNoneUptoRow.holds Try.pinned (OpenSpec.upto slotNoneSpec)

/-- 'glasshouselaw.EventStops', WHERE WHAT IT READS IS OF BULK AT MOST 1048576: true; the input reads as it did. -/
def eventStopsUptoRow : OpenClaim := { program := "ytmcdamcedemdiaa", sum := "3cc21e4d76eea03f2cf734b4d5c86c12b995c5009af889d6d3a6c13060a5464b", func := "glasshouse/glasshouselaw.EventStops", spec := "eventStops", inPlace := ["slices.overlaps[int]"], unfollowed := true, recurses := true, apart := false, narrowed := true }
def EventStopsUptoSaid : Prop := eventStopsUptoRow.holds Try.pinned (OpenSpec.upto eventStopsSpec)

/-- 'glasshouselaw.EventSays', WHERE WHAT IT READS IS OF BULK AT MOST 1048576: true; the input reads as it did. -/
def eventSaysUptoRow : OpenClaim := { program := "ytmcdamcedemdiaa", sum := "3cc21e4d76eea03f2cf734b4d5c86c12b995c5009af889d6d3a6c13060a5464b", func := "glasshouse/glasshouselaw.EventSays", spec := "eventSays", inPlace := ["slices.overlaps[int]"], unfollowed := true, recurses := true, apart := false, narrowed := true }
def EventSaysUptoSaid : Prop := eventSaysUptoRow.holds Try.pinned (OpenSpec.upto eventSaysSpec)

end Rows
end Go.Proofs.Ytmcdamcedemdiaa
