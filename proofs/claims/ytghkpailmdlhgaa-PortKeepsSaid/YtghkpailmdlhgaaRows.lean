/-
  No cell of these rows narrows 'for every input' (looked for: loops, veiled, ifaces, maps, wideKeys, modest, calm, conditions, laid).
  DERIVED. THE GIVEN ROWS OF THIS SEAT. 14 by the template 'for every input the law returns true; each argument reads behind the call as it read before'; 0 by the template 'total and deterministic' (their statements: YtghkpailmdlhgaaTotals.lean).
  GIVEN WITH THE SEED: the statements are not yours to turn. If you find one false, say at which input.
  Laid BY PROGRAM, IN A SANDBOX (cutbox-rows.mjs): the forced cells as the released guide's own fill.sh prints them over the translation acd082888039ec20… (all of the seat's roots in one cut). By AI agents, Wed Nov 11 2026. No macro, syntax, notation, axiom, sorry.
-/
import Derived.Test.YtghkpailmdlhgaaChecked
import GoSem.Claim
import GoSem.ClaimJoined
import GoSem.ClaimMapViews
import Derived.JoinedTies
import Derived.KernelRfl
namespace Go.Proofs.Ytghkpailmdlhgaa
/- THE CELL 'sum', in the pinned program and in every row, IS THE sha256 OF THE DUMP (.gsa) THAT YtghkpailmdlhgaaProg.lean LOADS. Nothing in Lean hashes anything: it is a label: what it is worth is what the hold of that sum in a sandbox is worth. -/
noncomputable def Try.pinned : Pinned := { name := "ytghkpailmdlhgaa", sum := "acd082888039ec20c729f746446bb1c10ecc4ea045b83a86100886981038f7ba", checked := Try.checked }
namespace Rows
def none {H : Type} : Left H := { results := [], args := [] }

/-- 'glasshouselaw.Names': WHATEVER THE INPUT: true; the input reads as it did. -/
def namesSpec : ChangeSpec := { name := "names", fn := fun _ => fun
  | [] => { results := [.lit (.bool true)], args := [] }
  | _ => none }
def namesRow : OpenClaim := { program := "ytghkpailmdlhgaa", sum := "acd082888039ec20c729f746446bb1c10ecc4ea045b83a86100886981038f7ba", func := "glasshouse/glasshouselaw.Names", spec := "names", apart := false }
def NamesSaid : Prop := namesRow.holds Try.pinned (OpenSpec.ofChange namesSpec)

/-- ITS FALSE NEIGHBOUR: 'it returns false'. Refute it at one input. -/
def namesWrong : ChangeSpec := { name := "names", fn := fun _ => fun
  | [] => { results := [.lit (.bool false)], args := [] }
  | _ => none }
def NamesWrongFalsely : Prop := namesRow.holds Try.pinned (OpenSpec.ofChange namesWrong)

/-- 'glasshouselaw.GuardSays': WHATEVER THE INPUT: true; the input reads as it did. -/
def guardSaysSpec : ChangeSpec := { name := "guardSays", fn := fun _ => fun
  | [d1, d2, d3, d4] => { results := [.lit (.bool true)], args := [d1, d2, d3, d4] }
  | _ => none }
def guardSaysRow : OpenClaim := { program := "ytghkpailmdlhgaa", sum := "acd082888039ec20c729f746446bb1c10ecc4ea045b83a86100886981038f7ba", func := "glasshouse/glasshouselaw.GuardSays", spec := "guardSays", unfollowed := true, recurses := true, apart := false }
def GuardSaysSaid : Prop := guardSaysRow.holds Try.pinned (OpenSpec.ofChange guardSaysSpec)

/-- ITS FALSE NEIGHBOUR: 'it returns false'. Refute it at one input. -/
def guardSaysWrong : ChangeSpec := { name := "guardSays", fn := fun _ => fun
  | [d1, d2, d3, d4] => { results := [.lit (.bool false)], args := [d1, d2, d3, d4] }
  | _ => none }
def GuardSaysWrongFalsely : Prop := guardSaysRow.holds Try.pinned (OpenSpec.ofChange guardSaysWrong)

/-- 'glasshouselaw.GuardOne': WHATEVER THE INPUT: true; the input reads as it did. -/
def guardOneSpec : ChangeSpec := { name := "guardOne", fn := fun _ => fun
  | [d1, d2, d3] => { results := [.lit (.bool true)], args := [d1, d2, d3] }
  | _ => none }
def guardOneRow : OpenClaim := { program := "ytghkpailmdlhgaa", sum := "acd082888039ec20c729f746446bb1c10ecc4ea045b83a86100886981038f7ba", func := "glasshouse/glasshouselaw.GuardOne", spec := "guardOne", unfollowed := true, recurses := true, apart := false }
def GuardOneSaid : Prop := guardOneRow.holds Try.pinned (OpenSpec.ofChange guardOneSpec)

/-- ITS FALSE NEIGHBOUR: 'it returns false'. Refute it at one input. -/
def guardOneWrong : ChangeSpec := { name := "guardOne", fn := fun _ => fun
  | [d1, d2, d3] => { results := [.lit (.bool false)], args := [d1, d2, d3] }
  | _ => none }
def GuardOneWrongFalsely : Prop := guardOneRow.holds Try.pinned (OpenSpec.ofChange guardOneWrong)

/-- 'glasshouselaw.CloneLike': WHATEVER THE INPUT: true; the input reads as it did. -/
def cloneLikeSpec : ChangeSpec := { name := "cloneLike", fn := fun _ => fun
  | [d1, d2] => { results := [.lit (.bool true)], args := [d1, d2] }
  | _ => none }
def cloneLikeRow : OpenClaim := { program := "ytghkpailmdlhgaa", sum := "acd082888039ec20c729f746446bb1c10ecc4ea045b83a86100886981038f7ba", func := "glasshouse/glasshouselaw.CloneLike", spec := "cloneLike", unfollowed := true, recurses := true, apart := false }
def CloneLikeSaid : Prop := cloneLikeRow.holds Try.pinned (OpenSpec.ofChange cloneLikeSpec)

/-- ITS FALSE NEIGHBOUR: 'it returns false'. Refute it at one input. -/
def cloneLikeWrong : ChangeSpec := { name := "cloneLike", fn := fun _ => fun
  | [d1, d2] => { results := [.lit (.bool false)], args := [d1, d2] }
  | _ => none }
def CloneLikeWrongFalsely : Prop := cloneLikeRow.holds Try.pinned (OpenSpec.ofChange cloneLikeWrong)

/-- 'glasshouselaw.FrameCount': WHATEVER THE INPUT: true; the input reads as it did. -/
def frameCountSpec : ChangeSpec := { name := "frameCount", fn := fun _ => fun
  | [d] => { results := [.lit (.bool true)], args := [d] }
  | _ => none }
def frameCountRow : OpenClaim := { program := "ytghkpailmdlhgaa", sum := "acd082888039ec20c729f746446bb1c10ecc4ea045b83a86100886981038f7ba", func := "glasshouse/glasshouselaw.FrameCount", spec := "frameCount", apart := false }
def FrameCountSaid : Prop := frameCountRow.holds Try.pinned (OpenSpec.ofChange frameCountSpec)

/-- ITS FALSE NEIGHBOUR: 'it returns false'. Refute it at one input. -/
def frameCountWrong : ChangeSpec := { name := "frameCount", fn := fun _ => fun
  | [d] => { results := [.lit (.bool false)], args := [d] }
  | _ => none }
def FrameCountWrongFalsely : Prop := frameCountRow.holds Try.pinned (OpenSpec.ofChange frameCountWrong)

/-- 'glasshouselaw.CloneSays': WHATEVER THE INPUT: true; the input reads as it did. -/
def cloneSaysSpec : ChangeSpec := { name := "cloneSays", fn := fun _ => fun
  | [d1, d2] => { results := [.lit (.bool true)], args := [d1, d2] }
  | _ => none }
def cloneSaysRow : OpenClaim := { program := "ytghkpailmdlhgaa", sum := "acd082888039ec20c729f746446bb1c10ecc4ea045b83a86100886981038f7ba", func := "glasshouse/glasshouselaw.CloneSays", spec := "cloneSays", unfollowed := true, recurses := true, apart := false }
def CloneSaysSaid : Prop := cloneSaysRow.holds Try.pinned (OpenSpec.ofChange cloneSaysSpec)

/-- ITS FALSE NEIGHBOUR: 'it returns false'. Refute it at one input. -/
def cloneSaysWrong : ChangeSpec := { name := "cloneSays", fn := fun _ => fun
  | [d1, d2] => { results := [.lit (.bool false)], args := [d1, d2] }
  | _ => none }
def CloneSaysWrongFalsely : Prop := cloneSaysRow.holds Try.pinned (OpenSpec.ofChange cloneSaysWrong)

/-- 'glasshouselaw.NavNever': WHATEVER THE INPUT: true; the input reads as it did. -/
def navNeverSpec : ChangeSpec := { name := "navNever", fn := fun _ => fun
  | [d1, d2, d3] => { results := [.lit (.bool true)], args := [d1, d2, d3] }
  | _ => none }
def navNeverRow : OpenClaim := { program := "ytghkpailmdlhgaa", sum := "acd082888039ec20c729f746446bb1c10ecc4ea045b83a86100886981038f7ba", func := "glasshouse/glasshouselaw.NavNever", spec := "navNever", apart := false }
def NavNeverSaid : Prop := navNeverRow.holds Try.pinned (OpenSpec.ofChange navNeverSpec)

/-- ITS FALSE NEIGHBOUR: 'it returns false'. Refute it at one input. -/
def navNeverWrong : ChangeSpec := { name := "navNever", fn := fun _ => fun
  | [d1, d2, d3] => { results := [.lit (.bool false)], args := [d1, d2, d3] }
  | _ => none }
def NavNeverWrongFalsely : Prop := navNeverRow.holds Try.pinned (OpenSpec.ofChange navNeverWrong)

/-- 'glasshouselaw.CloneApart': WHATEVER THE INPUT: true; the input reads as it did. -/
def cloneApartSpec : ChangeSpec := { name := "cloneApart", fn := fun _ => fun
  | [d1, d2] => { results := [.lit (.bool true)], args := [d1, d2] }
  | _ => none }
def cloneApartRow : OpenClaim := { program := "ytghkpailmdlhgaa", sum := "acd082888039ec20c729f746446bb1c10ecc4ea045b83a86100886981038f7ba", func := "glasshouse/glasshouselaw.CloneApart", spec := "cloneApart", unfollowed := true, recurses := true, apart := false }
def CloneApartSaid : Prop := cloneApartRow.holds Try.pinned (OpenSpec.ofChange cloneApartSpec)

/-- ITS FALSE NEIGHBOUR: 'it returns false'. Refute it at one input. -/
def cloneApartWrong : ChangeSpec := { name := "cloneApart", fn := fun _ => fun
  | [d1, d2] => { results := [.lit (.bool false)], args := [d1, d2] }
  | _ => none }
def CloneApartWrongFalsely : Prop := cloneApartRow.holds Try.pinned (OpenSpec.ofChange cloneApartWrong)

/-- 'glasshouselaw.GuardDown': WHATEVER THE INPUT: true; the input reads as it did. -/
def guardDownSpec : ChangeSpec := { name := "guardDown", fn := fun _ => fun
  | [d1, d2, d3, d4, d5] => { results := [.lit (.bool true)], args := [d1, d2, d3, d4, d5] }
  | _ => none }
def guardDownRow : OpenClaim := { program := "ytghkpailmdlhgaa", sum := "acd082888039ec20c729f746446bb1c10ecc4ea045b83a86100886981038f7ba", func := "glasshouse/glasshouselaw.GuardDown", spec := "guardDown", unfollowed := true, recurses := true, apart := false }
def GuardDownSaid : Prop := guardDownRow.holds Try.pinned (OpenSpec.ofChange guardDownSpec)

/-- ITS FALSE NEIGHBOUR: 'it returns false'. Refute it at one input. -/
def guardDownWrong : ChangeSpec := { name := "guardDown", fn := fun _ => fun
  | [d1, d2, d3, d4, d5] => { results := [.lit (.bool false)], args := [d1, d2, d3, d4, d5] }
  | _ => none }
def GuardDownWrongFalsely : Prop := guardDownRow.holds Try.pinned (OpenSpec.ofChange guardDownWrong)

/-- 'glasshouselaw.NavSays': WHATEVER THE INPUT: true; the input reads as it did. -/
def navSaysSpec : ChangeSpec := { name := "navSays", fn := fun _ => fun
  | [d1, d2, d3, d4] => { results := [.lit (.bool true)], args := [d1, d2, d3, d4] }
  | _ => none }
def navSaysRow : OpenClaim := { program := "ytghkpailmdlhgaa", sum := "acd082888039ec20c729f746446bb1c10ecc4ea045b83a86100886981038f7ba", func := "glasshouse/glasshouselaw.NavSays", spec := "navSays", recurses := true, apart := false }
def NavSaysSaid : Prop := navSaysRow.holds Try.pinned (OpenSpec.ofChange navSaysSpec)

/-- ITS FALSE NEIGHBOUR: 'it returns false'. Refute it at one input. -/
def navSaysWrong : ChangeSpec := { name := "navSays", fn := fun _ => fun
  | [d1, d2, d3, d4] => { results := [.lit (.bool false)], args := [d1, d2, d3, d4] }
  | _ => none }
def NavSaysWrongFalsely : Prop := navSaysRow.holds Try.pinned (OpenSpec.ofChange navSaysWrong)

/-- 'glasshouselaw.FrameSays': WHATEVER THE INPUT: true; the input reads as it did. -/
def frameSaysSpec : ChangeSpec := { name := "frameSays", fn := fun _ => fun
  | [d1, d2, d3, d4, d5] => { results := [.lit (.bool true)], args := [d1, d2, d3, d4, d5] }
  | _ => none }
def frameSaysRow : OpenClaim := { program := "ytghkpailmdlhgaa", sum := "acd082888039ec20c729f746446bb1c10ecc4ea045b83a86100886981038f7ba", func := "glasshouse/glasshouselaw.FrameSays", spec := "frameSays", recurses := true, apart := false }
def FrameSaysSaid : Prop := frameSaysRow.holds Try.pinned (OpenSpec.ofChange frameSaysSpec)

/-- ITS FALSE NEIGHBOUR: 'it returns false'. Refute it at one input. -/
def frameSaysWrong : ChangeSpec := { name := "frameSays", fn := fun _ => fun
  | [d1, d2, d3, d4, d5] => { results := [.lit (.bool false)], args := [d1, d2, d3, d4, d5] }
  | _ => none }
def FrameSaysWrongFalsely : Prop := frameSaysRow.holds Try.pinned (OpenSpec.ofChange frameSaysWrong)

/-- 'glasshouselaw.FrameMay': WHATEVER THE INPUT: true; the input reads as it did. -/
def frameMaySpec : ChangeSpec := { name := "frameMay", fn := fun _ => fun
  | [d1, d2, d3, d4] => { results := [.lit (.bool true)], args := [d1, d2, d3, d4] }
  | _ => none }
def frameMayRow : OpenClaim := { program := "ytghkpailmdlhgaa", sum := "acd082888039ec20c729f746446bb1c10ecc4ea045b83a86100886981038f7ba", func := "glasshouse/glasshouselaw.FrameMay", spec := "frameMay", apart := false }
def FrameMaySaid : Prop := frameMayRow.holds Try.pinned (OpenSpec.ofChange frameMaySpec)

/-- ITS FALSE NEIGHBOUR: 'it returns false'. Refute it at one input. -/
def frameMayWrong : ChangeSpec := { name := "frameMay", fn := fun _ => fun
  | [d1, d2, d3, d4] => { results := [.lit (.bool false)], args := [d1, d2, d3, d4] }
  | _ => none }
def FrameMayWrongFalsely : Prop := frameMayRow.holds Try.pinned (OpenSpec.ofChange frameMayWrong)

/-- 'glasshouselaw.PortKeeps': WHATEVER THE INPUT: true; the input reads as it did. -/
def portKeepsSpec : ChangeSpec := { name := "portKeeps", fn := fun _ => fun
  | [d1, d2] => { results := [.lit (.bool true)], args := [d1, d2] }
  | _ => none }
def portKeepsRow : OpenClaim := { program := "ytghkpailmdlhgaa", sum := "acd082888039ec20c729f746446bb1c10ecc4ea045b83a86100886981038f7ba", func := "glasshouse/glasshouselaw.PortKeeps", spec := "portKeeps", unfollowed := true, recurses := true, apart := false }
def PortKeepsSaid : Prop := portKeepsRow.holds Try.pinned (OpenSpec.ofChange portKeepsSpec)

/-- ITS FALSE NEIGHBOUR: 'it returns false'. Refute it at one input. -/
def portKeepsWrong : ChangeSpec := { name := "portKeeps", fn := fun _ => fun
  | [d1, d2] => { results := [.lit (.bool false)], args := [d1, d2] }
  | _ => none }
def PortKeepsWrongFalsely : Prop := portKeepsRow.holds Try.pinned (OpenSpec.ofChange portKeepsWrong)

/-- 'glasshouselaw.PortSays': WHATEVER THE INPUT: true; the input reads as it did. -/
def portSaysSpec : ChangeSpec := { name := "portSays", fn := fun _ => fun
  | [d1, d2, d3, d4, d5, d6, d7] => { results := [.lit (.bool true)], args := [d1, d2, d3, d4, d5, d6, d7] }
  | _ => none }
def portSaysRow : OpenClaim := { program := "ytghkpailmdlhgaa", sum := "acd082888039ec20c729f746446bb1c10ecc4ea045b83a86100886981038f7ba", func := "glasshouse/glasshouselaw.PortSays", spec := "portSays", unfollowed := true, recurses := true, apart := false }
def PortSaysSaid : Prop := portSaysRow.holds Try.pinned (OpenSpec.ofChange portSaysSpec)

/-- ITS FALSE NEIGHBOUR: 'it returns false'. Refute it at one input. -/
def portSaysWrong : ChangeSpec := { name := "portSays", fn := fun _ => fun
  | [d1, d2, d3, d4, d5, d6, d7] => { results := [.lit (.bool false)], args := [d1, d2, d3, d4, d5, d6, d7] }
  | _ => none }
def PortSaysWrongFalsely : Prop := portSaysRow.holds Try.pinned (OpenSpec.ofChange portSaysWrong)

/- THE SECOND FORM. 'bulk': how many values and letters a reading holds, each counted each time it is reached (what is shared counts as often as it is met; a slice's spare places count too). A statement '..UptoSaid' is the law's where the arguments, and the package variables that the reading takes, are together of bulk at most 1048576: NARROWER than '..Said'. Prove '..Said' where nothing that the law and all that it calls make is longer than what came in: it says more and counts as full. Else prove '..UptoSaid'. A law counts once. -/
mutual
def uptoBulk {H : Type} : DataW H → Nat
  | .lit (.string bytes) => bytes.length + 1
  | .lit _ => 1
  | .nil => 1
  | .ptr d => uptoBulk d + 1
  | .slice elems spare => uptoBulkAll elems + uptoBulkAll spare + 1
  | .agg parts => uptoBulkAll parts + 1
  | .iface _ d => uptoBulk d + 1
  | .map entries => uptoBulkEntries entries + 1
  | .held _ => 1
def uptoBulkAll {H : Type} : List (DataW H) → Nat
  | [] => 0
  | d :: r => uptoBulk d + uptoBulkAll r
def uptoBulkEntries {H : Type} : List (Lit × DataW H) → Nat
  | [] => 0
  | x :: r => uptoBulkEntry x + uptoBulkEntries r
def uptoBulkEntry {H : Type} : Lit × DataW H → Nat
  | (.string bytes, d) => bytes.length + uptoBulk d + 1
  | (_, d) => uptoBulk d + 1
 end
def uptoSmall : (H : Type) → List (DataW H) → Bool := fun _ ds => decide (uptoBulkAll ds ≤ 1048576)
def OpenSpec.upto (s : _root_.Go.ChangeSpec) : _root_.Go.OpenSpec := { _root_.Go.OpenSpec.ofChange s with cond := some uptoSmall }

/-- 'glasshouselaw.Names', WHERE WHAT IT READS IS OF BULK AT MOST 1048576: true; the input reads as it did. -/
def namesUptoRow : OpenClaim := { program := "ytghkpailmdlhgaa", sum := "acd082888039ec20c729f746446bb1c10ecc4ea045b83a86100886981038f7ba", func := "glasshouse/glasshouselaw.Names", spec := "names", apart := false, narrowed := true }
def NamesUptoSaid : Prop := namesUptoRow.holds Try.pinned (OpenSpec.upto namesSpec)

/-- 'glasshouselaw.GuardSays', WHERE WHAT IT READS IS OF BULK AT MOST 1048576: true; the input reads as it did. -/
def guardSaysUptoRow : OpenClaim := { program := "ytghkpailmdlhgaa", sum := "acd082888039ec20c729f746446bb1c10ecc4ea045b83a86100886981038f7ba", func := "glasshouse/glasshouselaw.GuardSays", spec := "guardSays", unfollowed := true, recurses := true, apart := false, narrowed := true }
def GuardSaysUptoSaid : Prop := guardSaysUptoRow.holds Try.pinned (OpenSpec.upto guardSaysSpec)

/-- 'glasshouselaw.GuardOne', WHERE WHAT IT READS IS OF BULK AT MOST 1048576: true; the input reads as it did. -/
def guardOneUptoRow : OpenClaim := { program := "ytghkpailmdlhgaa", sum := "acd082888039ec20c729f746446bb1c10ecc4ea045b83a86100886981038f7ba", func := "glasshouse/glasshouselaw.GuardOne", spec := "guardOne", unfollowed := true, recurses := true, apart := false, narrowed := true }
def GuardOneUptoSaid : Prop := guardOneUptoRow.holds Try.pinned (OpenSpec.upto guardOneSpec)

/-- 'glasshouselaw.CloneLike', WHERE WHAT IT READS IS OF BULK AT MOST 1048576: true; the input reads as it did. -/
def cloneLikeUptoRow : OpenClaim := { program := "ytghkpailmdlhgaa", sum := "acd082888039ec20c729f746446bb1c10ecc4ea045b83a86100886981038f7ba", func := "glasshouse/glasshouselaw.CloneLike", spec := "cloneLike", unfollowed := true, recurses := true, apart := false, narrowed := true }
def CloneLikeUptoSaid : Prop := cloneLikeUptoRow.holds Try.pinned (OpenSpec.upto cloneLikeSpec)

/-- 'glasshouselaw.FrameCount', WHERE WHAT IT READS IS OF BULK AT MOST 1048576: true; the input reads as it did. -/
def frameCountUptoRow : OpenClaim := { program := "ytghkpailmdlhgaa", sum := "acd082888039ec20c729f746446bb1c10ecc4ea045b83a86100886981038f7ba", func := "glasshouse/glasshouselaw.FrameCount", spec := "frameCount", apart := false, narrowed := true }
def FrameCountUptoSaid : Prop := frameCountUptoRow.holds Try.pinned (OpenSpec.upto frameCountSpec)

/-- 'glasshouselaw.CloneSays', WHERE WHAT IT READS IS OF BULK AT MOST 1048576: true; the input reads as it did. -/
def cloneSaysUptoRow : OpenClaim := { program := "ytghkpailmdlhgaa", sum := "acd082888039ec20c729f746446bb1c10ecc4ea045b83a86100886981038f7ba", func := "glasshouse/glasshouselaw.CloneSays", spec := "cloneSays", unfollowed := true, recurses := true, apart := false, narrowed := true }
def CloneSaysUptoSaid : Prop := cloneSaysUptoRow.holds Try.pinned (OpenSpec.upto cloneSaysSpec)

/-- 'glasshouselaw.NavNever', WHERE WHAT IT READS IS OF BULK AT MOST 1048576: true; the input reads as it did. -/
def navNeverUptoRow : OpenClaim := { program := "ytghkpailmdlhgaa", sum := "acd082888039ec20c729f746446bb1c10ecc4ea045b83a86100886981038f7ba", func := "glasshouse/glasshouselaw.NavNever", spec := "navNever", apart := false, narrowed := true }
def NavNeverUptoSaid : Prop := navNeverUptoRow.holds Try.pinned (OpenSpec.upto navNeverSpec)

/-- 'glasshouselaw.CloneApart', WHERE WHAT IT READS IS OF BULK AT MOST 1048576: true; the input reads as it did. -/
def cloneApartUptoRow : OpenClaim := { program := "ytghkpailmdlhgaa", sum := "acd082888039ec20c729f746446bb1c10ecc4ea045b83a86100886981038f7ba", func := "glasshouse/glasshouselaw.CloneApart", spec := "cloneApart", unfollowed := true, recurses := true, apart := false, narrowed := true }
def CloneApartUptoSaid : Prop := cloneApartUptoRow.holds Try.pinned (OpenSpec.upto cloneApartSpec)

/-- 'glasshouselaw.GuardDown', WHERE WHAT IT READS IS OF BULK AT MOST 1048576: true; the input reads as it did. -/
def guardDownUptoRow : OpenClaim := { program := "ytghkpailmdlhgaa", sum := "acd082888039ec20c729f746446bb1c10ecc4ea045b83a86100886981038f7ba", func := "glasshouse/glasshouselaw.GuardDown", spec := "guardDown", unfollowed := true, recurses := true, apart := false, narrowed := true }
def GuardDownUptoSaid : Prop := guardDownUptoRow.holds Try.pinned (OpenSpec.upto guardDownSpec)

/-- 'glasshouselaw.NavSays', WHERE WHAT IT READS IS OF BULK AT MOST 1048576: true; the input reads as it did. -/
def navSaysUptoRow : OpenClaim := { program := "ytghkpailmdlhgaa", sum := "acd082888039ec20c729f746446bb1c10ecc4ea045b83a86100886981038f7ba", func := "glasshouse/glasshouselaw.NavSays", spec := "navSays", recurses := true, apart := false, narrowed := true }
def NavSaysUptoSaid : Prop := navSaysUptoRow.holds Try.pinned (OpenSpec.upto navSaysSpec)

/-- 'glasshouselaw.FrameSays', WHERE WHAT IT READS IS OF BULK AT MOST 1048576: true; the input reads as it did. -/
def frameSaysUptoRow : OpenClaim := { program := "ytghkpailmdlhgaa", sum := "acd082888039ec20c729f746446bb1c10ecc4ea045b83a86100886981038f7ba", func := "glasshouse/glasshouselaw.FrameSays", spec := "frameSays", recurses := true, apart := false, narrowed := true }
def FrameSaysUptoSaid : Prop := frameSaysUptoRow.holds Try.pinned (OpenSpec.upto frameSaysSpec)

/-- 'glasshouselaw.FrameMay', WHERE WHAT IT READS IS OF BULK AT MOST 1048576: true; the input reads as it did. -/
def frameMayUptoRow : OpenClaim := { program := "ytghkpailmdlhgaa", sum := "acd082888039ec20c729f746446bb1c10ecc4ea045b83a86100886981038f7ba", func := "glasshouse/glasshouselaw.FrameMay", spec := "frameMay", apart := false, narrowed := true }
def FrameMayUptoSaid : Prop := frameMayUptoRow.holds Try.pinned (OpenSpec.upto frameMaySpec)

/-- 'glasshouselaw.PortKeeps', WHERE WHAT IT READS IS OF BULK AT MOST 1048576: true; the input reads as it did. -/
def portKeepsUptoRow : OpenClaim := { program := "ytghkpailmdlhgaa", sum := "acd082888039ec20c729f746446bb1c10ecc4ea045b83a86100886981038f7ba", func := "glasshouse/glasshouselaw.PortKeeps", spec := "portKeeps", unfollowed := true, recurses := true, apart := false, narrowed := true }
def PortKeepsUptoSaid : Prop := portKeepsUptoRow.holds Try.pinned (OpenSpec.upto portKeepsSpec)

/-- 'glasshouselaw.PortSays', WHERE WHAT IT READS IS OF BULK AT MOST 1048576: true; the input reads as it did. -/
def portSaysUptoRow : OpenClaim := { program := "ytghkpailmdlhgaa", sum := "acd082888039ec20c729f746446bb1c10ecc4ea045b83a86100886981038f7ba", func := "glasshouse/glasshouselaw.PortSays", spec := "portSays", unfollowed := true, recurses := true, apart := false, narrowed := true }
def PortSaysUptoSaid : Prop := portSaysUptoRow.holds Try.pinned (OpenSpec.upto portSaysSpec)

end Rows
end Go.Proofs.Ytghkpailmdlhgaa
