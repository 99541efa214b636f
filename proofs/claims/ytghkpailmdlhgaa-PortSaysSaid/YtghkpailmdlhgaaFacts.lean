/- Facts on the seat's program: slice types, functions with a body. -/
import Derived.Test.YtghkpailmdlhgaaRows
import Derived.Test.YtghkpailmdlhgaaEngc
set_option linter.unusedVariables false
namespace Go.Proofs.Ytghkpailmdlhgaa
open Go.RowKit Go.Eng
theorem ts23 : Try.prog.underlying 23 = some (.slice (Try.prog.elem 23)) := by kernel_rfl
theorem te23 : ∀ w, (sizeOf (Try.prog.elem 23)).run Try.prog w = .ok 1 w := fun w => by kernel_rfl
theorem ts24 : Try.prog.underlying 24 = some (.slice (Try.prog.elem 24)) := by kernel_rfl
theorem te24 : ∀ w, (sizeOf (Try.prog.elem 24)).run Try.prog w = .ok 1 w := fun w => by kernel_rfl
theorem ts27 : Try.prog.underlying 27 = some (.slice (Try.prog.elem 27)) := by kernel_rfl
theorem te27 : ∀ w, (sizeOf (Try.prog.elem 27)).run Try.prog w = .ok 5 w := fun w => by kernel_rfl
theorem ts33 : Try.prog.underlying 33 = some (.slice (Try.prog.elem 33)) := by kernel_rfl
theorem te33 : ∀ w, (sizeOf (Try.prog.elem 33)).run Try.prog w = .ok 2 w := fun w => by kernel_rfl
theorem ts59 : Try.prog.underlying 59 = some (.slice (Try.prog.elem 59)) := by kernel_rfl
theorem te59 : ∀ w, (sizeOf (Try.prog.elem 59)).run Try.prog w = .ok 1 w := fun w => by kernel_rfl
theorem ts60 : Try.prog.underlying 60 = some (.slice (Try.prog.elem 60)) := by kernel_rfl
theorem te60 : ∀ w, (sizeOf (Try.prog.elem 60)).run Try.prog w = .ok 5 w := fun w => by kernel_rfl
theorem en3 : Enters Try.prog 3 := fun args w => by kernel_rfl
theorem en4 : Enters Try.prog 4 := fun args w => by kernel_rfl
theorem en5 : Enters Try.prog 5 := fun args w => by kernel_rfl
theorem en6 : Enters Try.prog 6 := fun args w => by kernel_rfl
theorem en7 : Enters Try.prog 7 := fun args w => by kernel_rfl
theorem en8 : Enters Try.prog 8 := fun args w => by kernel_rfl
theorem en9 : Enters Try.prog 9 := fun args w => by kernel_rfl
theorem en10 : Enters Try.prog 10 := fun args w => by kernel_rfl
theorem en11 : Enters Try.prog 11 := fun args w => by kernel_rfl
theorem en12 : Enters Try.prog 12 := fun args w => by kernel_rfl
theorem en13 : Enters Try.prog 13 := fun args w => by kernel_rfl
theorem en14 : Enters Try.prog 14 := fun args w => by kernel_rfl
theorem en15 : Enters Try.prog 15 := fun args w => by kernel_rfl
theorem en16 : Enters Try.prog 16 := fun args w => by kernel_rfl
theorem en17 : Enters Try.prog 17 := fun args w => by kernel_rfl
theorem en18 : Enters Try.prog 18 := fun args w => by kernel_rfl
theorem en19 : Enters Try.prog 19 := fun args w => by kernel_rfl
theorem en20 : Enters Try.prog 20 := fun args w => by kernel_rfl
theorem en21 : Enters Try.prog 21 := fun args w => by kernel_rfl
theorem en22 : Enters Try.prog 22 := fun args w => by kernel_rfl
theorem en23 : Enters Try.prog 23 := fun args w => by kernel_rfl
theorem en24 : Enters Try.prog 24 := fun args w => by kernel_rfl
theorem en25 : Enters Try.prog 25 := fun args w => by kernel_rfl
theorem en26 : Enters Try.prog 26 := fun args w => by kernel_rfl
theorem en27 : Enters Try.prog 27 := fun args w => by kernel_rfl
theorem en28 : Enters Try.prog 28 := fun args w => by kernel_rfl
theorem en29 : Enters Try.prog 29 := fun args w => by kernel_rfl
theorem en30 : Enters Try.prog 30 := fun args w => by kernel_rfl
theorem en31 : Enters Try.prog 31 := fun args w => by kernel_rfl
theorem en32 : Enters Try.prog 32 := fun args w => by kernel_rfl
theorem en33 : Enters Try.prog 33 := fun args w => by kernel_rfl
theorem en34 : Enters Try.prog 34 := fun args w => by kernel_rfl
theorem en35 : Enters Try.prog 35 := fun args w => by kernel_rfl
theorem en36 : Enters Try.prog 36 := fun args w => by kernel_rfl
theorem en37 : Enters Try.prog 37 := fun args w => by kernel_rfl
theorem en38 : Enters Try.prog 38 := fun args w => by kernel_rfl
theorem en39 : Enters Try.prog 39 := fun args w => by kernel_rfl
theorem en40 : Enters Try.prog 40 := fun args w => by kernel_rfl
theorem en41 : Enters Try.prog 41 := fun args w => by kernel_rfl
theorem en42 : Enters Try.prog 42 := fun args w => by kernel_rfl
theorem en43 : Enters Try.prog 43 := fun args w => by kernel_rfl
theorem en44 : Enters Try.prog 44 := fun args w => by kernel_rfl
theorem en45 : Enters Try.prog 45 := fun args w => by kernel_rfl
theorem en46 : Enters Try.prog 46 := fun args w => by kernel_rfl
theorem en47 : Enters Try.prog 47 := fun args w => by kernel_rfl
theorem en48 : Enters Try.prog 48 := fun args w => by kernel_rfl
theorem en49 : Enters Try.prog 49 := fun args w => by kernel_rfl
theorem en50 : Enters Try.prog 50 := fun args w => by kernel_rfl
theorem en51 : Enters Try.prog 51 := fun args w => by kernel_rfl
theorem en52 : Enters Try.prog 52 := fun args w => by kernel_rfl
theorem en53 : Enters Try.prog 53 := fun args w => by kernel_rfl
theorem en54 : Enters Try.prog 54 := fun args w => by kernel_rfl
theorem en55 : Enters Try.prog 55 := fun args w => by kernel_rfl
theorem en56 : Enters Try.prog 56 := fun args w => by kernel_rfl
theorem en57 : Enters Try.prog 57 := fun args w => by kernel_rfl
theorem en58 : Enters Try.prog 58 := fun args w => by kernel_rfl
theorem en59 : Enters Try.prog 59 := fun args w => by kernel_rfl
theorem en60 : Enters Try.prog 60 := fun args w => by kernel_rfl
theorem en61 : Enters Try.prog 61 := fun args w => by kernel_rfl
theorem en62 : Enters Try.prog 62 := fun args w => by kernel_rfl
theorem en63 : Enters Try.prog 63 := fun args w => by kernel_rfl
theorem en64 : Enters Try.prog 64 := fun args w => by kernel_rfl
theorem en65 : Enters Try.prog 65 := fun args w => by kernel_rfl
theorem en66 : Enters Try.prog 66 := fun args w => by kernel_rfl
theorem en67 : Enters Try.prog 67 := fun args w => by kernel_rfl
theorem en68 : Enters Try.prog 68 := fun args w => by kernel_rfl
theorem en69 : Enters Try.prog 69 := fun args w => by kernel_rfl
theorem en70 : Enters Try.prog 70 := fun args w => by kernel_rfl
theorem en71 : Enters Try.prog 71 := fun args w => by kernel_rfl
theorem en72 : Enters Try.prog 72 := fun args w => by kernel_rfl
theorem en73 : Enters Try.prog 73 := fun args w => by kernel_rfl
theorem en74 : Enters Try.prog 74 := fun args w => by kernel_rfl
theorem en75 : Enters Try.prog 75 := fun args w => by kernel_rfl
theorem en76 : Enters Try.prog 76 := fun args w => by kernel_rfl
theorem en77 : Enters Try.prog 77 := fun args w => by kernel_rfl
theorem en78 : Enters Try.prog 78 := fun args w => by kernel_rfl
theorem en79 : Enters Try.prog 79 := fun args w => by kernel_rfl
theorem en80 : Enters Try.prog 80 := fun args w => by kernel_rfl
theorem en81 : Enters Try.prog 81 := fun args w => by kernel_rfl
theorem en82 : Enters Try.prog 82 := fun args w => by kernel_rfl
theorem en83 : Enters Try.prog 83 := fun args w => by kernel_rfl
theorem en84 : Enters Try.prog 84 := fun args w => by kernel_rfl
theorem en85 : Enters Try.prog 85 := fun args w => by kernel_rfl
theorem en86 : Enters Try.prog 86 := fun args w => by kernel_rfl
theorem en87 : Enters Try.prog 87 := fun args w => by kernel_rfl
theorem en88 : Enters Try.prog 88 := fun args w => by kernel_rfl
theorem en89 : Enters Try.prog 89 := fun args w => by kernel_rfl
theorem en90 : Enters Try.prog 90 := fun args w => by kernel_rfl
theorem en91 : Enters Try.prog 91 := fun args w => by kernel_rfl
theorem en92 : Enters Try.prog 92 := fun args w => by kernel_rfl
theorem en93 : Enters Try.prog 93 := fun args w => by kernel_rfl
theorem en94 : Enters Try.prog 94 := fun args w => by kernel_rfl
theorem laid : laidOutB Try.prog = true := by kernel_rfl
theorem ownk : ownKnob Try.prog.godebug = none := by kernel_rfl
theorem co2 : Try.prog.cellsOf 2 = 1 := by kernel_rfl
theorem zero2 : ZeroOk Try.prog 2 1 (fun _ => SV.v (.int .i64 0)) := zero_one Try.zeroValue2 rfl rfl
theorem rd2 : Try.prog.readableRec 2 = true ∧ 2 < Try.prog.types.size := ⟨by kernel_rfl, of_decide_eq_true (by kernel_rfl)⟩
theorem co3 : Try.prog.cellsOf 3 = 1 := by kernel_rfl
theorem zero3 : ZeroOk Try.prog 3 1 (fun _ => SV.v (.int .i64 0)) := zero_one Try.zeroValue3 rfl rfl
theorem rd3 : Try.prog.readableRec 3 = true ∧ 3 < Try.prog.types.size := ⟨by kernel_rfl, of_decide_eq_true (by kernel_rfl)⟩
theorem co4 : Try.prog.cellsOf 4 = 1 := by kernel_rfl
theorem zero4 : ZeroOk Try.prog 4 1 (fun _ => bv false) := zero_one Try.zeroValue4 rfl rfl
theorem rd4 : Try.prog.readableRec 4 = true ∧ 4 < Try.prog.types.size := ⟨by kernel_rfl, of_decide_eq_true (by kernel_rfl)⟩
theorem co5 : Try.prog.cellsOf 5 = 1 := by kernel_rfl
theorem zero5 : ZeroOk Try.prog 5 1 (fun _ => SV.v (.int .u8 0)) := zero_one Try.zeroValue5 rfl rfl
theorem rd5 : Try.prog.readableRec 5 = true ∧ 5 < Try.prog.types.size := ⟨by kernel_rfl, of_decide_eq_true (by kernel_rfl)⟩
theorem co6 : Try.prog.cellsOf 6 = 1 := by kernel_rfl
theorem zero6 : ZeroOk Try.prog 6 1 (fun _ => SV.v (.int .u8 0)) := zero_one Try.zeroValue6 rfl rfl
theorem rd6 : Try.prog.readableRec 6 = true ∧ 6 < Try.prog.types.size := ⟨by kernel_rfl, of_decide_eq_true (by kernel_rfl)⟩
theorem co7 : Try.prog.cellsOf 7 = 4 := by kernel_rfl
theorem rd7 : Try.prog.readableRec 7 = true ∧ 7 < Try.prog.types.size := ⟨by kernel_rfl, of_decide_eq_true (by kernel_rfl)⟩
theorem co8 : Try.prog.cellsOf 8 = 4 := by kernel_rfl
theorem rd8 : Try.prog.readableRec 8 = true ∧ 8 < Try.prog.types.size := ⟨by kernel_rfl, of_decide_eq_true (by kernel_rfl)⟩
theorem co12 : Try.prog.cellsOf 12 = 1 := by kernel_rfl
theorem zero12 : ZeroOk Try.prog 12 1 (fun _ => SV.v (.int .u64 0)) := zero_one Try.zeroValue12 rfl rfl
theorem rd12 : Try.prog.readableRec 12 = true ∧ 12 < Try.prog.types.size := ⟨by kernel_rfl, of_decide_eq_true (by kernel_rfl)⟩
theorem co13 : Try.prog.cellsOf 13 = 2 := by kernel_rfl
theorem rd13 : Try.prog.readableRec 13 = true ∧ 13 < Try.prog.types.size := ⟨by kernel_rfl, of_decide_eq_true (by kernel_rfl)⟩
theorem co14 : Try.prog.cellsOf 14 = 2 := by kernel_rfl
theorem rd14 : Try.prog.readableRec 14 = true ∧ 14 < Try.prog.types.size := ⟨by kernel_rfl, of_decide_eq_true (by kernel_rfl)⟩
theorem co18 : Try.prog.cellsOf 18 = 1 := by kernel_rfl
theorem rd18 : Try.prog.readableRec 18 = true ∧ 18 < Try.prog.types.size := ⟨by kernel_rfl, of_decide_eq_true (by kernel_rfl)⟩
theorem co19 : Try.prog.cellsOf 19 = 1 := by kernel_rfl
theorem rd19 : Try.prog.readableRec 19 = true ∧ 19 < Try.prog.types.size := ⟨by kernel_rfl, of_decide_eq_true (by kernel_rfl)⟩
theorem co21 : Try.prog.cellsOf 21 = 1 := by kernel_rfl
theorem zero21 : ZeroOk Try.prog 21 1 (fun _ => SV.v (.int .i32 0)) := zero_one Try.zeroValue21 rfl rfl
theorem rd21 : Try.prog.readableRec 21 = true ∧ 21 < Try.prog.types.size := ⟨by kernel_rfl, of_decide_eq_true (by kernel_rfl)⟩
theorem co22 : Try.prog.cellsOf 22 = 1 := by kernel_rfl
theorem zero22 : ZeroOk Try.prog 22 1 (fun _ => SV.v (.int .i64 0)) := zero_one Try.zeroValue22 rfl rfl
theorem rd22 : Try.prog.readableRec 22 = true ∧ 22 < Try.prog.types.size := ⟨by kernel_rfl, of_decide_eq_true (by kernel_rfl)⟩
theorem co23 : Try.prog.cellsOf 23 = 1 := by kernel_rfl
theorem eo23 : ElemOk Try.prog 23 22 1 8 := ⟨Try.underlying23, by
  have h : (Try.prog.info? 22).map (fun i => (i.size, i.bytes, i.zero.map fun z => z.cells.size)) = some (1, 8, some 1) := by kernel_rfl
  exact info_of h, by decide⟩
theorem rd23 : Try.prog.readableRec 23 = true ∧ 23 < Try.prog.types.size := ⟨by kernel_rfl, of_decide_eq_true (by kernel_rfl)⟩
theorem co24 : Try.prog.cellsOf 24 = 1 := by kernel_rfl
theorem eo24 : ElemOk Try.prog 24 3 1 8 := ⟨Try.underlying24, by
  have h : (Try.prog.info? 3).map (fun i => (i.size, i.bytes, i.zero.map fun z => z.cells.size)) = some (1, 8, some 1) := by kernel_rfl
  exact info_of h, by decide⟩
theorem rd24 : Try.prog.readableRec 24 = true ∧ 24 < Try.prog.types.size := ⟨by kernel_rfl, of_decide_eq_true (by kernel_rfl)⟩
theorem co27 : Try.prog.cellsOf 27 = 1 := by kernel_rfl
theorem eo27 : ElemOk Try.prog 27 47 5 40 := ⟨Try.underlying27, by
  have h : (Try.prog.info? 47).map (fun i => (i.size, i.bytes, i.zero.map fun z => z.cells.size)) = some (5, 40, some 5) := by kernel_rfl
  exact info_of h, by decide⟩
theorem rd27 : Try.prog.readableRec 27 = true ∧ 27 < Try.prog.types.size := ⟨by kernel_rfl, of_decide_eq_true (by kernel_rfl)⟩
theorem co33 : Try.prog.cellsOf 33 = 1 := by kernel_rfl
theorem eo33 : ElemOk Try.prog 33 43 2 32 := ⟨Try.underlying33, by
  have h : (Try.prog.info? 43).map (fun i => (i.size, i.bytes, i.zero.map fun z => z.cells.size)) = some (2, 32, some 2) := by kernel_rfl
  exact info_of h, by decide⟩
theorem rd33 : Try.prog.readableRec 33 = true ∧ 33 < Try.prog.types.size := ⟨by kernel_rfl, of_decide_eq_true (by kernel_rfl)⟩
theorem co34 : Try.prog.cellsOf 34 = 1 := by kernel_rfl
theorem rd34 : Try.prog.readableRec 34 = true ∧ 34 < Try.prog.types.size := ⟨by kernel_rfl, of_decide_eq_true (by kernel_rfl)⟩
theorem co35 : Try.prog.cellsOf 35 = 1 := by kernel_rfl
theorem rd35 : Try.prog.readableRec 35 = true ∧ 35 < Try.prog.types.size := ⟨by kernel_rfl, of_decide_eq_true (by kernel_rfl)⟩
theorem co42 : Try.prog.cellsOf 42 = 2 := by kernel_rfl
theorem rd42 : Try.prog.readableRec 42 = true ∧ 42 < Try.prog.types.size := ⟨by kernel_rfl, of_decide_eq_true (by kernel_rfl)⟩
theorem co43 : Try.prog.cellsOf 43 = 2 := by kernel_rfl
theorem rd43 : Try.prog.readableRec 43 = true ∧ 43 < Try.prog.types.size := ⟨by kernel_rfl, of_decide_eq_true (by kernel_rfl)⟩
theorem co46 : Try.prog.cellsOf 46 = 5 := by kernel_rfl
theorem rd46 : Try.prog.readableRec 46 = true ∧ 46 < Try.prog.types.size := ⟨by kernel_rfl, of_decide_eq_true (by kernel_rfl)⟩
theorem co47 : Try.prog.cellsOf 47 = 5 := by kernel_rfl
theorem rd47 : Try.prog.readableRec 47 = true ∧ 47 < Try.prog.types.size := ⟨by kernel_rfl, of_decide_eq_true (by kernel_rfl)⟩
theorem co59 : Try.prog.cellsOf 59 = 1 := by kernel_rfl
theorem eo59 : ElemOk Try.prog 59 35 1 24 := ⟨Try.underlying59, by
  have h : (Try.prog.info? 35).map (fun i => (i.size, i.bytes, i.zero.map fun z => z.cells.size)) = some (1, 24, some 1) := by kernel_rfl
  exact info_of h, by decide⟩
theorem rd59 : Try.prog.readableRec 59 = true ∧ 59 < Try.prog.types.size := ⟨by kernel_rfl, of_decide_eq_true (by kernel_rfl)⟩
theorem co60 : Try.prog.cellsOf 60 = 1 := by kernel_rfl
theorem eo60 : ElemOk Try.prog 60 71 5 56 := ⟨Try.underlying60, by
  have h : (Try.prog.info? 71).map (fun i => (i.size, i.bytes, i.zero.map fun z => z.cells.size)) = some (5, 56, some 5) := by kernel_rfl
  exact info_of h, by decide⟩
theorem rd60 : Try.prog.readableRec 60 = true ∧ 60 < Try.prog.types.size := ⟨by kernel_rfl, of_decide_eq_true (by kernel_rfl)⟩
theorem co70 : Try.prog.cellsOf 70 = 5 := by kernel_rfl
theorem rd70 : Try.prog.readableRec 70 = true ∧ 70 < Try.prog.types.size := ⟨by kernel_rfl, of_decide_eq_true (by kernel_rfl)⟩
theorem co71 : Try.prog.cellsOf 71 = 5 := by kernel_rfl
theorem rd71 : Try.prog.readableRec 71 = true ∧ 71 < Try.prog.types.size := ⟨by kernel_rfl, of_decide_eq_true (by kernel_rfl)⟩
theorem co103 : Try.prog.cellsOf 103 = 4 := by kernel_rfl
theorem co104 : Try.prog.cellsOf 104 = 4 := by kernel_rfl
theorem co106 : Try.prog.cellsOf 106 = 0 := by kernel_rfl
theorem co107 : Try.prog.cellsOf 107 = 0 := by kernel_rfl
theorem co109 : Try.prog.cellsOf 109 = 1 := by kernel_rfl
theorem zero109 : ZeroOk Try.prog 109 1 (fun _ => SV.v (.int .u32 0)) := zero_one Try.zeroValue109 rfl rfl
theorem co110 : Try.prog.cellsOf 110 = 1 := by kernel_rfl
theorem zero110 : ZeroOk Try.prog 110 1 (fun _ => SV.v (.int .u8 0)) := zero_one Try.zeroValue110 rfl rfl
theorem co111 : Try.prog.cellsOf 111 = 1 := by kernel_rfl
theorem zero111 : ZeroOk Try.prog 111 1 (fun _ => SV.v (.int .u8 0)) := zero_one Try.zeroValue111 rfl rfl
theorem co114 : Try.prog.cellsOf 114 = 1 := by kernel_rfl
theorem zero114 : ZeroOk Try.prog 114 1 (fun _ => SV.v (.int .i32 0)) := zero_one Try.zeroValue114 rfl rfl
theorem co115 : Try.prog.cellsOf 115 = 1 := by kernel_rfl
theorem zero115 : ZeroOk Try.prog 115 1 (fun _ => SV.v (.int .i32 0)) := zero_one Try.zeroValue115 rfl rfl
theorem co116 : Try.prog.cellsOf 116 = 11 := by kernel_rfl
theorem co117 : Try.prog.cellsOf 117 = 11 := by kernel_rfl
theorem build7 : ∀ (w : World) (parts : List (Nat × Value)) (z : Value) (cs : Array Value), (zeroValue 7).run Try.prog w = .ok z w → Instr.fill (fun i => if i < 4 then some (i, 1) else none) z.cells parts = some cs → (∀ p ∈ parts, p.1 < 4) → (Instr.build 7 parts.toArray).run Try.prog w = .ok (.agg cs) w :=
  build_struct Try.underlying7 (fun w => by simp [Try.sizeOf2, Try.sizeOf3, Try.sizeOf4, Try.sizeOf6]; rfl)
theorem build8 : ∀ (w : World) (parts : List (Nat × Value)) (z : Value) (cs : Array Value), (zeroValue 8).run Try.prog w = .ok z w → Instr.fill (fun i => if i < 4 then some (i, 1) else none) z.cells parts = some cs → (∀ p ∈ parts, p.1 < 4) → (Instr.build 8 parts.toArray).run Try.prog w = .ok (.agg cs) w :=
  build_struct Try.underlying8 (fun w => by simp [Try.sizeOf2, Try.sizeOf3, Try.sizeOf4, Try.sizeOf6]; rfl)
theorem build13 : ∀ (w : World) (parts : List (Nat × Value)) (z : Value) (cs : Array Value), (zeroValue 13).run Try.prog w = .ok z w → Instr.fill (fun i => if i < 2 then some (i, 1) else none) z.cells parts = some cs → (∀ p ∈ parts, p.1 < 2) → (Instr.build 13 parts.toArray).run Try.prog w = .ok (.agg cs) w :=
  build_struct Try.underlying13 (fun w => by simp [Try.sizeOf9, Try.sizeOf12]; rfl)
theorem build14 : ∀ (w : World) (parts : List (Nat × Value)) (z : Value) (cs : Array Value), (zeroValue 14).run Try.prog w = .ok z w → Instr.fill (fun i => if i < 2 then some (i, 1) else none) z.cells parts = some cs → (∀ p ∈ parts, p.1 < 2) → (Instr.build 14 parts.toArray).run Try.prog w = .ok (.agg cs) w :=
  build_struct Try.underlying14 (fun w => by simp [Try.sizeOf9, Try.sizeOf12]; rfl)
theorem build18 : ∀ (w : World) (parts : List (Nat × Value)) (z : Value) (cs : Array Value), (zeroValue 18).run Try.prog w = .ok z w → Instr.fill (fun i => if i < 1 then some (i, 1) else none) z.cells parts = some cs → (∀ p ∈ parts, p.1 < 1) → (Instr.build 18 parts.toArray).run Try.prog w = .ok (.agg cs) w :=
  build_struct Try.underlying18 (fun w => by simp [Try.sizeOf17]; rfl)
theorem build19 : ∀ (w : World) (parts : List (Nat × Value)) (z : Value) (cs : Array Value), (zeroValue 19).run Try.prog w = .ok z w → Instr.fill (fun i => if i < 1 then some (i, 1) else none) z.cells parts = some cs → (∀ p ∈ parts, p.1 < 1) → (Instr.build 19 parts.toArray).run Try.prog w = .ok (.agg cs) w :=
  build_struct Try.underlying19 (fun w => by simp [Try.sizeOf17]; rfl)
theorem build34 : ∀ (w : World) (parts : List (Nat × Value)) (z : Value) (cs : Array Value), (zeroValue 34).run Try.prog w = .ok z w → Instr.fill (fun i => if i < 1 then some (i, 1) else none) z.cells parts = some cs → (∀ p ∈ parts, p.1 < 1) → (Instr.build 34 parts.toArray).run Try.prog w = .ok (.agg cs) w :=
  build_struct Try.underlying34 (fun w => by simp [Try.sizeOf33]; rfl)
theorem build35 : ∀ (w : World) (parts : List (Nat × Value)) (z : Value) (cs : Array Value), (zeroValue 35).run Try.prog w = .ok z w → Instr.fill (fun i => if i < 1 then some (i, 1) else none) z.cells parts = some cs → (∀ p ∈ parts, p.1 < 1) → (Instr.build 35 parts.toArray).run Try.prog w = .ok (.agg cs) w :=
  build_struct Try.underlying35 (fun w => by simp [Try.sizeOf33]; rfl)
theorem build42 : ∀ (w : World) (parts : List (Nat × Value)) (z : Value) (cs : Array Value), (zeroValue 42).run Try.prog w = .ok z w → Instr.fill (fun i => if i < 2 then some (i, 1) else none) z.cells parts = some cs → (∀ p ∈ parts, p.1 < 2) → (Instr.build 42 parts.toArray).run Try.prog w = .ok (.agg cs) w :=
  build_struct Try.underlying42 (fun w => by simp [Try.sizeOf3, Try.sizeOf24]; rfl)
theorem build43 : ∀ (w : World) (parts : List (Nat × Value)) (z : Value) (cs : Array Value), (zeroValue 43).run Try.prog w = .ok z w → Instr.fill (fun i => if i < 2 then some (i, 1) else none) z.cells parts = some cs → (∀ p ∈ parts, p.1 < 2) → (Instr.build 43 parts.toArray).run Try.prog w = .ok (.agg cs) w :=
  build_struct Try.underlying43 (fun w => by simp [Try.sizeOf3, Try.sizeOf24]; rfl)
theorem build46 : ∀ (w : World) (parts : List (Nat × Value)) (z : Value) (cs : Array Value), (zeroValue 46).run Try.prog w = .ok z w → Instr.fill (fun i => if i < 5 then some (i, 1) else none) z.cells parts = some cs → (∀ p ∈ parts, p.1 < 5) → (Instr.build 46 parts.toArray).run Try.prog w = .ok (.agg cs) w :=
  build_struct Try.underlying46 (fun w => by simp [Try.sizeOf3, Try.sizeOf4]; rfl)
theorem build47 : ∀ (w : World) (parts : List (Nat × Value)) (z : Value) (cs : Array Value), (zeroValue 47).run Try.prog w = .ok z w → Instr.fill (fun i => if i < 5 then some (i, 1) else none) z.cells parts = some cs → (∀ p ∈ parts, p.1 < 5) → (Instr.build 47 parts.toArray).run Try.prog w = .ok (.agg cs) w :=
  build_struct Try.underlying47 (fun w => by simp [Try.sizeOf3, Try.sizeOf4]; rfl)
theorem build63 : ∀ (w : World) (parts : List (Nat × Value)) (z : Value) (cs : Array Value), (zeroValue 63).run Try.prog w = .ok z w → Instr.fill (fun i => if i < 2 then some (i, 1) else none) z.cells parts = some cs → (∀ p ∈ parts, p.1 < 2) → (Instr.build 63 parts.toArray).run Try.prog w = .ok (.agg cs) w :=
  build_array Try.underlying63 (fun w => Try.sizeOf59 w)
theorem build64 : ∀ (w : World) (parts : List (Nat × Value)) (z : Value) (cs : Array Value), (zeroValue 64).run Try.prog w = .ok z w → Instr.fill (fun i => if i < 2 then some (i, 1) else none) z.cells parts = some cs → (∀ p ∈ parts, p.1 < 2) → (Instr.build 64 parts.toArray).run Try.prog w = .ok (.agg cs) w :=
  build_array Try.underlying64 (fun w => Try.sizeOf3 w)
theorem build70 : ∀ (w : World) (parts : List (Nat × Value)) (z : Value) (cs : Array Value), (zeroValue 70).run Try.prog w = .ok z w → Instr.fill (fun i => if i < 5 then some (i, 1) else none) z.cells parts = some cs → (∀ p ∈ parts, p.1 < 5) → (Instr.build 70 parts.toArray).run Try.prog w = .ok (.agg cs) w :=
  build_struct Try.underlying70 (fun w => by simp [Try.sizeOf3, Try.sizeOf4, Try.sizeOf59]; rfl)
theorem build71 : ∀ (w : World) (parts : List (Nat × Value)) (z : Value) (cs : Array Value), (zeroValue 71).run Try.prog w = .ok z w → Instr.fill (fun i => if i < 5 then some (i, 1) else none) z.cells parts = some cs → (∀ p ∈ parts, p.1 < 5) → (Instr.build 71 parts.toArray).run Try.prog w = .ok (.agg cs) w :=
  build_struct Try.underlying71 (fun w => by simp [Try.sizeOf3, Try.sizeOf4, Try.sizeOf59]; rfl)
abbrev Ga0 := fun w => @Try.isAgg0 w
abbrev Ga1 := fun w => @Try.isAgg1 w
abbrev Ga2 := fun w => @Try.isAgg2 w
abbrev Ga3 := fun w => @Try.isAgg3 w
abbrev Ga4 := fun w => @Try.isAgg4 w
abbrev Ga5 := fun w => @Try.isAgg5 w
abbrev Ga6 := fun w => @Try.isAgg6 w
abbrev Ga7 := fun w => @Try.isAgg7 w
abbrev Ga8 := fun w => @Try.isAgg8 w
abbrev Ga9 := fun w => @Try.isAgg9 w
abbrev Ga10 := fun w => @Try.isAgg10 w
abbrev Ga11 := fun w => @Try.isAgg11 w
abbrev Ga12 := fun w => @Try.isAgg12 w
abbrev Ga13 := fun w => @Try.isAgg13 w
abbrev Ga14 := fun w => @Try.isAgg14 w
abbrev Ga15 := fun w => @Try.isAgg15 w
abbrev Ga16 := fun w => @Try.isAgg16 w
abbrev Ga17 := fun w => @Try.isAgg17 w
abbrev Ga18 := fun w => @Try.isAgg18 w
abbrev Ga19 := fun w => @Try.isAgg19 w
abbrev Ga20 := fun w => @Try.isAgg20 w
abbrev Ga21 := fun w => @Try.isAgg21 w
abbrev Ga22 := fun w => @Try.isAgg22 w
abbrev Ga23 := fun w => @Try.isAgg23 w
abbrev Ga24 := fun w => @Try.isAgg24 w
abbrev Ga25 := fun w => @Try.isAgg25 w
abbrev Ga26 := fun w => @Try.isAgg26 w
abbrev Ga27 := fun w => @Try.isAgg27 w
abbrev Ga28 := fun w => @Try.isAgg28 w
abbrev Ga29 := fun w => @Try.isAgg29 w
abbrev Ga30 := fun w => @Try.isAgg30 w
abbrev Ga31 := fun w => @Try.isAgg31 w
abbrev Ga32 := fun w => @Try.isAgg32 w
abbrev Ga33 := fun w => @Try.isAgg33 w
abbrev Ga34 := fun w => @Try.isAgg34 w
abbrev Ga35 := fun w => @Try.isAgg35 w
abbrev Ga36 := fun w => @Try.isAgg36 w
abbrev Ga37 := fun w => @Try.isAgg37 w
abbrev Ga38 := fun w => @Try.isAgg38 w
abbrev Ga39 := fun w => @Try.isAgg39 w
abbrev Ga40 := fun w => @Try.isAgg40 w
abbrev Ga41 := fun w => @Try.isAgg41 w
abbrev Ga42 := fun w => @Try.isAgg42 w
abbrev Ga43 := fun w => @Try.isAgg43 w
abbrev Ga44 := fun w => @Try.isAgg44 w
abbrev Ga45 := fun w => @Try.isAgg45 w
abbrev Ga46 := fun w => @Try.isAgg46 w
abbrev Ga47 := fun w => @Try.isAgg47 w
abbrev Ga48 := fun w => @Try.isAgg48 w
abbrev Ga49 := fun w => @Try.isAgg49 w
abbrev Ga50 := fun w => @Try.isAgg50 w
abbrev Ga51 := fun w => @Try.isAgg51 w
abbrev Ga52 := fun w => @Try.isAgg52 w
abbrev Ga53 := fun w => @Try.isAgg53 w
abbrev Ga54 := fun w => @Try.isAgg54 w
abbrev Ga55 := fun w => @Try.isAgg55 w
abbrev Ga56 := fun w => @Try.isAgg56 w
abbrev Ga57 := fun w => @Try.isAgg57 w
abbrev Ga58 := fun w => @Try.isAgg58 w
abbrev Ga59 := fun w => @Try.isAgg59 w
abbrev Ga60 := fun w => @Try.isAgg60 w
abbrev Ga61 := fun w => @Try.isAgg61 w
abbrev Ga62 := fun w => @Try.isAgg62 w
abbrev Ga63 := fun w => @Try.isAgg63 w
abbrev Ga64 := fun w => @Try.isAgg64 w
abbrev Ga65 := fun w => @Try.isAgg65 w
abbrev Ga66 := fun w => @Try.isAgg66 w
abbrev Ga67 := fun w => @Try.isAgg67 w
abbrev Ga68 := fun w => @Try.isAgg68 w
abbrev Ga69 := fun w => @Try.isAgg69 w
abbrev Ga70 := fun w => @Try.isAgg70 w
abbrev Ga71 := fun w => @Try.isAgg71 w
abbrev Ga72 := fun w => @Try.isAgg72 w
abbrev Ga73 := fun w => @Try.isAgg73 w
abbrev Ga74 := fun w => @Try.isAgg74 w
abbrev Ga75 := fun w => @Try.isAgg75 w
abbrev Ga76 := fun w => @Try.isAgg76 w
abbrev Ga77 := fun w => @Try.isAgg77 w
abbrev Ga78 := fun w => @Try.isAgg78 w
abbrev Ga79 := fun w => @Try.isAgg79 w
abbrev Ga80 := fun w => @Try.isAgg80 w
abbrev Ga81 := fun w => @Try.isAgg81 w
abbrev Ga82 := fun w => @Try.isAgg82 w
abbrev Ga83 := fun w => @Try.isAgg83 w
abbrev Ga84 := fun w => @Try.isAgg84 w
abbrev Ga85 := fun w => @Try.isAgg85 w
abbrev Ga86 := fun w => @Try.isAgg86 w
abbrev Ga87 := fun w => @Try.isAgg87 w
abbrev Ga88 := fun w => @Try.isAgg88 w
abbrev Ga89 := fun w => @Try.isAgg89 w
abbrev Ga90 := fun w => @Try.isAgg90 w
abbrev Ga91 := fun w => @Try.isAgg91 w
abbrev Ga92 := fun w => @Try.isAgg92 w
abbrev Ga93 := fun w => @Try.isAgg93 w
abbrev Ga94 := fun w => @Try.isAgg94 w
abbrev Ga95 := fun w => @Try.isAgg95 w
abbrev Ga96 := fun w => @Try.isAgg96 w
abbrev Ga97 := fun w => @Try.isAgg97 w
abbrev Ga98 := fun w => @Try.isAgg98 w
abbrev Ga99 := fun w => @Try.isAgg99 w
abbrev Ga100 := fun w => @Try.isAgg100 w
abbrev Ga101 := fun w => @Try.isAgg101 w
abbrev Ga102 := fun w => @Try.isAgg102 w
abbrev Ga103 := fun w => @Try.isAgg103 w
abbrev Ga104 := fun w => @Try.isAgg104 w
abbrev Ga105 := fun w => @Try.isAgg105 w
abbrev Ga106 := fun w => @Try.isAgg106 w
abbrev Ga107 := fun w => @Try.isAgg107 w
abbrev Ga108 := fun w => @Try.isAgg108 w
abbrev Ga109 := fun w => @Try.isAgg109 w
abbrev Ga110 := fun w => @Try.isAgg110 w
abbrev Sz0 := fun w => @Try.sizeOf0 w
abbrev Sz1 := fun w => @Try.sizeOf1 w
abbrev Sz2 := fun w => @Try.sizeOf2 w
abbrev Sz3 := fun w => @Try.sizeOf3 w
abbrev Sz4 := fun w => @Try.sizeOf4 w
abbrev Sz5 := fun w => @Try.sizeOf5 w
abbrev Sz6 := fun w => @Try.sizeOf6 w
abbrev Sz7 := fun w => @Try.sizeOf7 w
abbrev Sz8 := fun w => @Try.sizeOf8 w
abbrev Sz9 := fun w => @Try.sizeOf9 w
abbrev Sz10 := fun w => @Try.sizeOf10 w
abbrev Sz11 := fun w => @Try.sizeOf11 w
abbrev Sz12 := fun w => @Try.sizeOf12 w
abbrev Sz13 := fun w => @Try.sizeOf13 w
abbrev Sz14 := fun w => @Try.sizeOf14 w
abbrev Sz15 := fun w => @Try.sizeOf15 w
abbrev Sz16 := fun w => @Try.sizeOf16 w
abbrev Sz17 := fun w => @Try.sizeOf17 w
abbrev Sz18 := fun w => @Try.sizeOf18 w
abbrev Sz19 := fun w => @Try.sizeOf19 w
abbrev Sz20 := fun w => @Try.sizeOf20 w
abbrev Sz21 := fun w => @Try.sizeOf21 w
abbrev Sz22 := fun w => @Try.sizeOf22 w
abbrev Sz23 := fun w => @Try.sizeOf23 w
abbrev Sz24 := fun w => @Try.sizeOf24 w
abbrev Sz25 := fun w => @Try.sizeOf25 w
abbrev Sz26 := fun w => @Try.sizeOf26 w
abbrev Sz27 := fun w => @Try.sizeOf27 w
abbrev Sz28 := fun w => @Try.sizeOf28 w
abbrev Sz29 := fun w => @Try.sizeOf29 w
abbrev Sz30 := fun w => @Try.sizeOf30 w
abbrev Sz31 := fun w => @Try.sizeOf31 w
abbrev Sz32 := fun w => @Try.sizeOf32 w
abbrev Sz33 := fun w => @Try.sizeOf33 w
abbrev Sz34 := fun w => @Try.sizeOf34 w
abbrev Sz35 := fun w => @Try.sizeOf35 w
abbrev Sz36 := fun w => @Try.sizeOf36 w
abbrev Sz37 := fun w => @Try.sizeOf37 w
abbrev Sz38 := fun w => @Try.sizeOf38 w
abbrev Sz39 := fun w => @Try.sizeOf39 w
abbrev Sz40 := fun w => @Try.sizeOf40 w
abbrev Sz41 := fun w => @Try.sizeOf41 w
abbrev Sz42 := fun w => @Try.sizeOf42 w
abbrev Sz43 := fun w => @Try.sizeOf43 w
abbrev Sz44 := fun w => @Try.sizeOf44 w
abbrev Sz45 := fun w => @Try.sizeOf45 w
abbrev Sz46 := fun w => @Try.sizeOf46 w
abbrev Sz47 := fun w => @Try.sizeOf47 w
abbrev Sz48 := fun w => @Try.sizeOf48 w
abbrev Sz49 := fun w => @Try.sizeOf49 w
abbrev Sz50 := fun w => @Try.sizeOf50 w
abbrev Sz51 := fun w => @Try.sizeOf51 w
abbrev Sz52 := fun w => @Try.sizeOf52 w
abbrev Sz53 := fun w => @Try.sizeOf53 w
abbrev Sz54 := fun w => @Try.sizeOf54 w
abbrev Sz55 := fun w => @Try.sizeOf55 w
abbrev Sz56 := fun w => @Try.sizeOf56 w
abbrev Sz57 := fun w => @Try.sizeOf57 w
abbrev Sz58 := fun w => @Try.sizeOf58 w
abbrev Sz59 := fun w => @Try.sizeOf59 w
abbrev Sz60 := fun w => @Try.sizeOf60 w
abbrev Sz61 := fun w => @Try.sizeOf61 w
abbrev Sz62 := fun w => @Try.sizeOf62 w
abbrev Sz63 := fun w => @Try.sizeOf63 w
abbrev Sz64 := fun w => @Try.sizeOf64 w
abbrev Sz65 := fun w => @Try.sizeOf65 w
abbrev Sz66 := fun w => @Try.sizeOf66 w
abbrev Sz67 := fun w => @Try.sizeOf67 w
abbrev Sz68 := fun w => @Try.sizeOf68 w
abbrev Sz69 := fun w => @Try.sizeOf69 w
abbrev Sz70 := fun w => @Try.sizeOf70 w
abbrev Sz71 := fun w => @Try.sizeOf71 w
abbrev Sz72 := fun w => @Try.sizeOf72 w
abbrev Sz73 := fun w => @Try.sizeOf73 w
abbrev Sz74 := fun w => @Try.sizeOf74 w
abbrev Sz75 := fun w => @Try.sizeOf75 w
abbrev Sz76 := fun w => @Try.sizeOf76 w
abbrev Sz77 := fun w => @Try.sizeOf77 w
abbrev Sz78 := fun w => @Try.sizeOf78 w
abbrev Sz79 := fun w => @Try.sizeOf79 w
abbrev Sz80 := fun w => @Try.sizeOf80 w
abbrev Sz81 := fun w => @Try.sizeOf81 w
abbrev Sz82 := fun w => @Try.sizeOf82 w
abbrev Sz83 := fun w => @Try.sizeOf83 w
abbrev Sz84 := fun w => @Try.sizeOf84 w
abbrev Sz85 := fun w => @Try.sizeOf85 w
abbrev Sz86 := fun w => @Try.sizeOf86 w
abbrev Sz87 := fun w => @Try.sizeOf87 w
abbrev Sz88 := fun w => @Try.sizeOf88 w
abbrev Sz89 := fun w => @Try.sizeOf89 w
abbrev Sz90 := fun w => @Try.sizeOf90 w
abbrev Sz91 := fun w => @Try.sizeOf91 w
abbrev Sz92 := fun w => @Try.sizeOf92 w
abbrev Sz93 := fun w => @Try.sizeOf93 w
abbrev Sz94 := fun w => @Try.sizeOf94 w
abbrev Sz95 := fun w => @Try.sizeOf95 w
abbrev Sz96 := fun w => @Try.sizeOf96 w
abbrev Sz97 := fun w => @Try.sizeOf97 w
abbrev Sz98 := fun w => @Try.sizeOf98 w
abbrev Sz99 := fun w => @Try.sizeOf99 w
abbrev Sz100 := fun w => @Try.sizeOf100 w
abbrev Sz101 := fun w => @Try.sizeOf101 w
abbrev Sz102 := fun w => @Try.sizeOf102 w
abbrev Sz103 := fun w => @Try.sizeOf103 w
abbrev Sz104 := fun w => @Try.sizeOf104 w
abbrev Sz105 := fun w => @Try.sizeOf105 w
abbrev Sz106 := fun w => @Try.sizeOf106 w
abbrev Sz107 := fun w => @Try.sizeOf107 w
abbrev Sz108 := fun w => @Try.sizeOf108 w
abbrev Sz109 := fun w => @Try.sizeOf109 w
abbrev Sz110 := fun w => @Try.sizeOf110 w
abbrev Un0 := @Try.underlying0
abbrev Un1 := @Try.underlying1
abbrev Un2 := @Try.underlying2
abbrev Un3 := @Try.underlying3
abbrev Un4 := @Try.underlying4
abbrev Un5 := @Try.underlying5
abbrev Un6 := @Try.underlying6
abbrev Un7 := @Try.underlying7
abbrev Un8 := @Try.underlying8
abbrev Un9 := @Try.underlying9
abbrev Un10 := @Try.underlying10
abbrev Un11 := @Try.underlying11
abbrev Un12 := @Try.underlying12
abbrev Un13 := @Try.underlying13
abbrev Un14 := @Try.underlying14
abbrev Un15 := @Try.underlying15
abbrev Un16 := @Try.underlying16
abbrev Un17 := @Try.underlying17
abbrev Un18 := @Try.underlying18
abbrev Un19 := @Try.underlying19
abbrev Un20 := @Try.underlying20
abbrev Un21 := @Try.underlying21
abbrev Un22 := @Try.underlying22
abbrev Un23 := @Try.underlying23
abbrev Un24 := @Try.underlying24
abbrev Un25 := @Try.underlying25
abbrev Un26 := @Try.underlying26
abbrev Un27 := @Try.underlying27
abbrev Un28 := @Try.underlying28
abbrev Un29 := @Try.underlying29
abbrev Un30 := @Try.underlying30
abbrev Un31 := @Try.underlying31
abbrev Un32 := @Try.underlying32
abbrev Un33 := @Try.underlying33
abbrev Un34 := @Try.underlying34
abbrev Un35 := @Try.underlying35
abbrev Un36 := @Try.underlying36
abbrev Un37 := @Try.underlying37
abbrev Un38 := @Try.underlying38
abbrev Un39 := @Try.underlying39
abbrev Un40 := @Try.underlying40
abbrev Un41 := @Try.underlying41
abbrev Un42 := @Try.underlying42
abbrev Un43 := @Try.underlying43
abbrev Un44 := @Try.underlying44
abbrev Un45 := @Try.underlying45
abbrev Un46 := @Try.underlying46
abbrev Un47 := @Try.underlying47
abbrev Un48 := @Try.underlying48
abbrev Un49 := @Try.underlying49
abbrev Un50 := @Try.underlying50
abbrev Un51 := @Try.underlying51
abbrev Un52 := @Try.underlying52
abbrev Un53 := @Try.underlying53
abbrev Un54 := @Try.underlying54
abbrev Un55 := @Try.underlying55
abbrev Un56 := @Try.underlying56
abbrev Un57 := @Try.underlying57
abbrev Un58 := @Try.underlying58
abbrev Un59 := @Try.underlying59
abbrev Un60 := @Try.underlying60
abbrev Un61 := @Try.underlying61
abbrev Un62 := @Try.underlying62
abbrev Un63 := @Try.underlying63
abbrev Un64 := @Try.underlying64
abbrev Un65 := @Try.underlying65
abbrev Un66 := @Try.underlying66
abbrev Un67 := @Try.underlying67
abbrev Un68 := @Try.underlying68
abbrev Un69 := @Try.underlying69
abbrev Un70 := @Try.underlying70
abbrev Un71 := @Try.underlying71
abbrev Un72 := @Try.underlying72
abbrev Un73 := @Try.underlying73
abbrev Un74 := @Try.underlying74
abbrev Un75 := @Try.underlying75
abbrev Un76 := @Try.underlying76
abbrev Un77 := @Try.underlying77
abbrev Un78 := @Try.underlying78
abbrev Un79 := @Try.underlying79
abbrev Un80 := @Try.underlying80
abbrev Un81 := @Try.underlying81
abbrev Un82 := @Try.underlying82
abbrev Un83 := @Try.underlying83
abbrev Un84 := @Try.underlying84
abbrev Un85 := @Try.underlying85
abbrev Un86 := @Try.underlying86
abbrev Un87 := @Try.underlying87
abbrev Un88 := @Try.underlying88
abbrev Un89 := @Try.underlying89
abbrev Un90 := @Try.underlying90
abbrev Un91 := @Try.underlying91
abbrev Un92 := @Try.underlying92
abbrev Un93 := @Try.underlying93
abbrev Un94 := @Try.underlying94
abbrev Un95 := @Try.underlying95
abbrev Un96 := @Try.underlying96
abbrev Un97 := @Try.underlying97
abbrev Un98 := @Try.underlying98
abbrev Un99 := @Try.underlying99
abbrev Un100 := @Try.underlying100
abbrev Un101 := @Try.underlying101
abbrev Un102 := @Try.underlying102
abbrev Un103 := @Try.underlying103
abbrev Un104 := @Try.underlying104
abbrev Un105 := @Try.underlying105
abbrev Un106 := @Try.underlying106
abbrev Un107 := @Try.underlying107
abbrev Un108 := @Try.underlying108
abbrev Un109 := @Try.underlying109
abbrev Un110 := @Try.underlying110
end Go.Proofs.Ytghkpailmdlhgaa
