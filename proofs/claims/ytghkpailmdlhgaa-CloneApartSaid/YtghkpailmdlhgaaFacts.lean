/- Facts on the seat's program: slice types, functions with a body. -/
import Derived.Test.YtghkpailmdlhgaaRows
import Derived.Test.YtghkpailmdlhgaaEngb
set_option linter.unusedVariables false
namespace Go.Proofs.Ytghkpailmdlhgaa
open Go.RowKit Go.Eng
theorem ts23 : Try.prog.underlying 23 = some (.slice (Try.prog.elem 23)) := by kernel_rfl
theorem te23 : ∀ w, (sizeOf (Try.prog.elem 23)).run Try.prog w = .ok 1 w := fun w => by kernel_rfl
theorem ts24 : Try.prog.underlying 24 = some (.slice (Try.prog.elem 24)) := by kernel_rfl
theorem te24 : ∀ w, (sizeOf (Try.prog.elem 24)).run Try.prog w = .ok 1 w := fun w => by kernel_rfl
theorem ts27 : Try.prog.underlying 27 = some (.slice (Try.prog.elem 27)) := by kernel_rfl
theorem te27 : ∀ w, (sizeOf (Try.prog.elem 27)).run Try.prog w = .ok 5 w := fun w => by kernel_rfl
theorem ts33 : Try.prog.underlying 33 = some (.slice (Try.prog.elem 33)) := by kernel_rfl
theorem te33 : ∀ w, (sizeOf (Try.prog.elem 33)).run Try.prog w = .ok 2 w := fun w => by kernel_rfl
theorem ts59 : Try.prog.underlying 59 = some (.slice (Try.prog.elem 59)) := by kernel_rfl
theorem te59 : ∀ w, (sizeOf (Try.prog.elem 59)).run Try.prog w = .ok 1 w := fun w => by kernel_rfl
theorem ts60 : Try.prog.underlying 60 = some (.slice (Try.prog.elem 60)) := by kernel_rfl
theorem te60 : ∀ w, (sizeOf (Try.prog.elem 60)).run Try.prog w = .ok 5 w := fun w => by kernel_rfl
theorem en3 : Enters Try.prog 3 := fun args w => by kernel_rfl
theorem en4 : Enters Try.prog 4 := fun args w => by kernel_rfl
theorem en5 : Enters Try.prog 5 := fun args w => by kernel_rfl
theorem en6 : Enters Try.prog 6 := fun args w => by kernel_rfl
theorem en7 : Enters Try.prog 7 := fun args w => by kernel_rfl
theorem en8 : Enters Try.prog 8 := fun args w => by kernel_rfl
theorem en9 : Enters Try.prog 9 := fun args w => by kernel_rfl
theorem en10 : Enters Try.prog 10 := fun args w => by kernel_rfl
theorem en11 : Enters Try.prog 11 := fun args w => by kernel_rfl
theorem en12 : Enters Try.prog 12 := fun args w => by kernel_rfl
theorem en13 : Enters Try.prog 13 := fun args w => by kernel_rfl
theorem en14 : Enters Try.prog 14 := fun args w => by kernel_rfl
theorem en15 : Enters Try.prog 15 := fun args w => by kernel_rfl
theorem en16 : Enters Try.prog 16 := fun args w => by kernel_rfl
theorem en17 : Enters Try.prog 17 := fun args w => by kernel_rfl
theorem en18 : Enters Try.prog 18 := fun args w => by kernel_rfl
theorem en19 : Enters Try.prog 19 := fun args w => by kernel_rfl
theorem en20 : Enters Try.prog 20 := fun args w => by kernel_rfl
theorem en21 : Enters Try.prog 21 := fun args w => by kernel_rfl
theorem en22 : Enters Try.prog 22 := fun args w => by kernel_rfl
theorem en23 : Enters Try.prog 23 := fun args w => by kernel_rfl
theorem en24 : Enters Try.prog 24 := fun args w => by kernel_rfl
theorem en25 : Enters Try.prog 25 := fun args w => by kernel_rfl
theorem en26 : Enters Try.prog 26 := fun args w => by kernel_rfl
theorem en27 : Enters Try.prog 27 := fun args w => by kernel_rfl
theorem en28 : Enters Try.prog 28 := fun args w => by kernel_rfl
theorem en29 : Enters Try.prog 29 := fun args w => by kernel_rfl
theorem en30 : Enters Try.prog 30 := fun args w => by kernel_rfl
theorem en31 : Enters Try.prog 31 := fun args w => by kernel_rfl
theorem en32 : Enters Try.prog 32 := fun args w => by kernel_rfl
theorem en33 : Enters Try.prog 33 := fun args w => by kernel_rfl
theorem en34 : Enters Try.prog 34 := fun args w => by kernel_rfl
theorem en35 : Enters Try.prog 35 := fun args w => by kernel_rfl
theorem en36 : Enters Try.prog 36 := fun args w => by kernel_rfl
theorem en37 : Enters Try.prog 37 := fun args w => by kernel_rfl
theorem en38 : Enters Try.prog 38 := fun args w => by kernel_rfl
theorem en39 : Enters Try.prog 39 := fun args w => by kernel_rfl
theorem en40 : Enters Try.prog 40 := fun args w => by kernel_rfl
theorem en41 : Enters Try.prog 41 := fun args w => by kernel_rfl
theorem en42 : Enters Try.prog 42 := fun args w => by kernel_rfl
theorem en43 : Enters Try.prog 43 := fun args w => by kernel_rfl
theorem en44 : Enters Try.prog 44 := fun args w => by kernel_rfl
theorem en45 : Enters Try.prog 45 := fun args w => by kernel_rfl
theorem en46 : Enters Try.prog 46 := fun args w => by kernel_rfl
theorem en47 : Enters Try.prog 47 := fun args w => by kernel_rfl
theorem en48 : Enters Try.prog 48 := fun args w => by kernel_rfl
theorem en49 : Enters Try.prog 49 := fun args w => by kernel_rfl
theorem en50 : Enters Try.prog 50 := fun args w => by kernel_rfl
theorem en51 : Enters Try.prog 51 := fun args w => by kernel_rfl
theorem en52 : Enters Try.prog 52 := fun args w => by kernel_rfl
theorem en53 : Enters Try.prog 53 := fun args w => by kernel_rfl
theorem en54 : Enters Try.prog 54 := fun args w => by kernel_rfl
theorem en55 : Enters Try.prog 55 := fun args w => by kernel_rfl
theorem en56 : Enters Try.prog 56 := fun args w => by kernel_rfl
theorem en57 : Enters Try.prog 57 := fun args w => by kernel_rfl
theorem en58 : Enters Try.prog 58 := fun args w => by kernel_rfl
theorem en59 : Enters Try.prog 59 := fun args w => by kernel_rfl
theorem en60 : Enters Try.prog 60 := fun args w => by kernel_rfl
theorem en61 : Enters Try.prog 61 := fun args w => by kernel_rfl
theorem en62 : Enters Try.prog 62 := fun args w => by kernel_rfl
theorem en63 : Enters Try.prog 63 := fun args w => by kernel_rfl
theorem en64 : Enters Try.prog 64 := fun args w => by kernel_rfl
theorem en65 : Enters Try.prog 65 := fun args w => by kernel_rfl
theorem en66 : Enters Try.prog 66 := fun args w => by kernel_rfl
theorem en67 : Enters Try.prog 67 := fun args w => by kernel_rfl
theorem en68 : Enters Try.prog 68 := fun args w => by kernel_rfl
theorem en69 : Enters Try.prog 69 := fun args w => by kernel_rfl
theorem en70 : Enters Try.prog 70 := fun args w => by kernel_rfl
theorem en71 : Enters Try.prog 71 := fun args w => by kernel_rfl
theorem en72 : Enters Try.prog 72 := fun args w => by kernel_rfl
theorem en73 : Enters Try.prog 73 := fun args w => by kernel_rfl
theorem en74 : Enters Try.prog 74 := fun args w => by kernel_rfl
theorem en75 : Enters Try.prog 75 := fun args w => by kernel_rfl
theorem en76 : Enters Try.prog 76 := fun args w => by kernel_rfl
theorem en77 : Enters Try.prog 77 := fun args w => by kernel_rfl
theorem en78 : Enters Try.prog 78 := fun args w => by kernel_rfl
theorem en79 : Enters Try.prog 79 := fun args w => by kernel_rfl
theorem en80 : Enters Try.prog 80 := fun args w => by kernel_rfl
theorem en81 : Enters Try.prog 81 := fun args w => by kernel_rfl
theorem en82 : Enters Try.prog 82 := fun args w => by kernel_rfl
theorem en83 : Enters Try.prog 83 := fun args w => by kernel_rfl
theorem en84 : Enters Try.prog 84 := fun args w => by kernel_rfl
theorem en85 : Enters Try.prog 85 := fun args w => by kernel_rfl
theorem en86 : Enters Try.prog 86 := fun args w => by kernel_rfl
theorem en87 : Enters Try.prog 87 := fun args w => by kernel_rfl
theorem en88 : Enters Try.prog 88 := fun args w => by kernel_rfl
theorem en89 : Enters Try.prog 89 := fun args w => by kernel_rfl
theorem en90 : Enters Try.prog 90 := fun args w => by kernel_rfl
theorem en91 : Enters Try.prog 91 := fun args w => by kernel_rfl
theorem en92 : Enters Try.prog 92 := fun args w => by kernel_rfl
theorem en93 : Enters Try.prog 93 := fun args w => by kernel_rfl
theorem en94 : Enters Try.prog 94 := fun args w => by kernel_rfl
theorem laid : laidOutB Try.prog = true := by kernel_rfl
theorem ownk : ownKnob Try.prog.godebug = none := by kernel_rfl
theorem co2 : Try.prog.cellsOf 2 = 1 := by kernel_rfl
theorem zero2 : ZeroOk Try.prog 2 1 (fun _ => SV.v (.int .i64 0)) := zero_one Try.zeroValue2 rfl rfl
theorem rd2 : Try.prog.readableRec 2 = true ∧ 2 < Try.prog.types.size := ⟨by kernel_rfl, of_decide_eq_true (by kernel_rfl)⟩
theorem co3 : Try.prog.cellsOf 3 = 1 := by kernel_rfl
theorem zero3 : ZeroOk Try.prog 3 1 (fun _ => SV.v (.int .i64 0)) := zero_one Try.zeroValue3 rfl rfl
theorem rd3 : Try.prog.readableRec 3 = true ∧ 3 < Try.prog.types.size := ⟨by kernel_rfl, of_decide_eq_true (by kernel_rfl)⟩
theorem co4 : Try.prog.cellsOf 4 = 1 := by kernel_rfl
theorem zero4 : ZeroOk Try.prog 4 1 (fun _ => bv false) := zero_one Try.zeroValue4 rfl rfl
theorem rd4 : Try.prog.readableRec 4 = true ∧ 4 < Try.prog.types.size := ⟨by kernel_rfl, of_decide_eq_true (by kernel_rfl)⟩
theorem co5 : Try.prog.cellsOf 5 = 1 := by kernel_rfl
theorem zero5 : ZeroOk Try.prog 5 1 (fun _ => SV.v (.int .u8 0)) := zero_one Try.zeroValue5 rfl rfl
theorem rd5 : Try.prog.readableRec 5 = true ∧ 5 < Try.prog.types.size := ⟨by kernel_rfl, of_decide_eq_true (by kernel_rfl)⟩
theorem co6 : Try.prog.cellsOf 6 = 1 := by kernel_rfl
theorem zero6 : ZeroOk Try.prog 6 1 (fun _ => SV.v (.int .u8 0)) := zero_one Try.zeroValue6 rfl rfl
theorem rd6 : Try.prog.readableRec 6 = true ∧ 6 < Try.prog.types.size := ⟨by kernel_rfl, of_decide_eq_true (by kernel_rfl)⟩
theorem co7 : Try.prog.cellsOf 7 = 4 := by kernel_rfl
theorem rd7 : Try.prog.readableRec 7 = true ∧ 7 < Try.prog.types.size := ⟨by kernel_rfl, of_decide_eq_true (by kernel_rfl)⟩
theorem co8 : Try.prog.cellsOf 8 = 4 := by kernel_rfl
theorem rd8 : Try.prog.readableRec 8 = true ∧ 8 < Try.prog.types.size := ⟨by kernel_rfl, of_decide_eq_true (by kernel_rfl)⟩
theorem co12 : Try.prog.cellsOf 12 = 1 := by kernel_rfl
theorem zero12 : ZeroOk Try.prog 12 1 (fun _ => SV.v (.int .u64 0)) := zero_one Try.zeroValue12 rfl rfl
theorem rd12 : Try.prog.readableRec 12 = true ∧ 12 < Try.prog.types.size := ⟨by kernel_rfl, of_decide_eq_true (by kernel_rfl)⟩
theorem co13 : Try.prog.cellsOf 13 = 2 := by kernel_rfl
theorem rd13 : Try.prog.readableRec 13 = true ∧ 13 < Try.prog.types.size := ⟨by kernel_rfl, of_decide_eq_true (by kernel_rfl)⟩
theorem co14 : Try.prog.cellsOf 14 = 2 := by kernel_rfl
theorem rd14 : Try.prog.readableRec 14 = true ∧ 14 < Try.prog.types.size := ⟨by kernel_rfl, of_decide_eq_true (by kernel_rfl)⟩
theorem co18 : Try.prog.cellsOf 18 = 1 := by kernel_rfl
theorem rd18 : Try.prog.readableRec 18 = true ∧ 18 < Try.prog.types.size := ⟨by kernel_rfl, of_decide_eq_true (by kernel_rfl)⟩
theorem co19 : Try.prog.cellsOf 19 = 1 := by kernel_rfl
theorem rd19 : Try.prog.readableRec 19 = true ∧ 19 < Try.prog.types.size := ⟨by kernel_rfl, of_decide_eq_true (by kernel_rfl)⟩
theorem co21 : Try.prog.cellsOf 21 = 1 := by kernel_rfl
theorem zero21 : ZeroOk Try.prog 21 1 (fun _ => SV.v (.int .i32 0)) := zero_one Try.zeroValue21 rfl rfl
theorem rd21 : Try.prog.readableRec 21 = true ∧ 21 < Try.prog.types.size := ⟨by kernel_rfl, of_decide_eq_true (by kernel_rfl)⟩
theorem co22 : Try.prog.cellsOf 22 = 1 := by kernel_rfl
theorem zero22 : ZeroOk Try.prog 22 1 (fun _ => SV.v (.int .i64 0)) := zero_one Try.zeroValue22 rfl rfl
theorem rd22 : Try.prog.readableRec 22 = true ∧ 22 < Try.prog.types.size := ⟨by kernel_rfl, of_decide_eq_true (by kernel_rfl)⟩
theorem co23 : Try.prog.cellsOf 23 = 1 := by kernel_rfl
theorem eo23 : ElemOk Try.prog 23 22 1 8 := ⟨Try.underlying23, by
  have h : (Try.prog.info? 22).map (fun i => (i.size, i.bytes, i.zero.map fun z => z.cells.size)) = some (1, 8, some 1) := by kernel_rfl
  exact info_of h, by decide⟩
theorem rd23 : Try.prog.readableRec 23 = true ∧ 23 < Try.prog.types.size := ⟨by kernel_rfl, of_decide_eq_true (by kernel_rfl)⟩
theorem co24 : Try.prog.cellsOf 24 = 1 := by kernel_rfl
theorem eo24 : ElemOk Try.prog 24 3 1 8 := ⟨Try.underlying24, by
  have h : (Try.prog.info? 3).map (fun i => (i.size, i.bytes, i.zero.map fun z => z.cells.size)) = some (1, 8, some 1) := by kernel_rfl
  exact info_of h, by decide⟩
theorem rd24 : Try.prog.readableRec 24 = true ∧ 24 < Try.prog.types.size := ⟨by kernel_rfl, of_decide_eq_true (by kernel_rfl)⟩
theorem co27 : Try.prog.cellsOf 27 = 1 := by kernel_rfl
theorem eo27 : ElemOk Try.prog 27 47 5 40 := ⟨Try.underlying27, by
  have h : (Try.prog.info? 47).map (fun i => (i.size, i.bytes, i.zero.map fun z => z.cells.size)) = some (5, 40, some 5) := by kernel_rfl
  exact info_of h, by decide⟩
theorem rd27 : Try.prog.readableRec 27 = true ∧ 27 < Try.prog.types.size := ⟨by kernel_rfl, of_decide_eq_true (by kernel_rfl)⟩
theorem co33 : Try.prog.cellsOf 33 = 1 := by kernel_rfl
theorem eo33 : ElemOk Try.prog 33 43 2 32 := ⟨Try.underlying33, by
  have h : (Try.prog.info? 43).map (fun i => (i.size, i.bytes, i.zero.map fun z => z.cells.size)) = some (2, 32, some 2) := by kernel_rfl
  exact info_of h, by decide⟩
theorem rd33 : Try.prog.readableRec 33 = true ∧ 33 < Try.prog.types.size := ⟨by kernel_rfl, of_decide_eq_true (by kernel_rfl)⟩
theorem co34 : Try.prog.cellsOf 34 = 1 := by kernel_rfl
theorem rd34 : Try.prog.readableRec 34 = true ∧ 34 < Try.prog.types.size := ⟨by kernel_rfl, of_decide_eq_true (by kernel_rfl)⟩
theorem co35 : Try.prog.cellsOf 35 = 1 := by kernel_rfl
theorem rd35 : Try.prog.readableRec 35 = true ∧ 35 < Try.prog.types.size := ⟨by kernel_rfl, of_decide_eq_true (by kernel_rfl)⟩
theorem co42 : Try.prog.cellsOf 42 = 2 := by kernel_rfl
theorem rd42 : Try.prog.readableRec 42 = true ∧ 42 < Try.prog.types.size := ⟨by kernel_rfl, of_decide_eq_true (by kernel_rfl)⟩
theorem co43 : Try.prog.cellsOf 43 = 2 := by kernel_rfl
theorem rd43 : Try.prog.readableRec 43 = true ∧ 43 < Try.prog.types.size := ⟨by kernel_rfl, of_decide_eq_true (by kernel_rfl)⟩
theorem co46 : Try.prog.cellsOf 46 = 5 := by kernel_rfl
theorem rd46 : Try.prog.readableRec 46 = true ∧ 46 < Try.prog.types.size := ⟨by kernel_rfl, of_decide_eq_true (by kernel_rfl)⟩
theorem co47 : Try.prog.cellsOf 47 = 5 := by kernel_rfl
theorem rd47 : Try.prog.readableRec 47 = true ∧ 47 < Try.prog.types.size := ⟨by kernel_rfl, of_decide_eq_true (by kernel_rfl)⟩
theorem co59 : Try.prog.cellsOf 59 = 1 := by kernel_rfl
theorem eo59 : ElemOk Try.prog 59 35 1 24 := ⟨Try.underlying59, by
  have h : (Try.prog.info? 35).map (fun i => (i.size, i.bytes, i.zero.map fun z => z.cells.size)) = some (1, 24, some 1) := by kernel_rfl
  exact info_of h, by decide⟩
theorem rd59 : Try.prog.readableRec 59 = true ∧ 59 < Try.prog.types.size := ⟨by kernel_rfl, of_decide_eq_true (by kernel_rfl)⟩
theorem co60 : Try.prog.cellsOf 60 = 1 := by kernel_rfl
theorem eo60 : ElemOk Try.prog 60 71 5 56 := ⟨Try.underlying60, by
  have h : (Try.prog.info? 71).map (fun i => (i.size, i.bytes, i.zero.map fun z => z.cells.size)) = some (5, 56, some 5) := by kernel_rfl
  exact info_of h, by decide⟩
theorem rd60 : Try.prog.readableRec 60 = true ∧ 60 < Try.prog.types.size := ⟨by kernel_rfl, of_decide_eq_true (by kernel_rfl)⟩
theorem co70 : Try.prog.cellsOf 70 = 5 := by kernel_rfl
theorem rd70 : Try.prog.readableRec 70 = true ∧ 70 < Try.prog.types.size := ⟨by kernel_rfl, of_decide_eq_true (by kernel_rfl)⟩
theorem co71 : Try.prog.cellsOf 71 = 5 := by kernel_rfl
theorem rd71 : Try.prog.readableRec 71 = true ∧ 71 < Try.prog.types.size := ⟨by kernel_rfl, of_decide_eq_true (by kernel_rfl)⟩
theorem co103 : Try.prog.cellsOf 103 = 4 := by kernel_rfl
theorem co104 : Try.prog.cellsOf 104 = 4 := by kernel_rfl
theorem co106 : Try.prog.cellsOf 106 = 0 := by kernel_rfl
theorem co107 : Try.prog.cellsOf 107 = 0 := by kernel_rfl
theorem co109 : Try.prog.cellsOf 109 = 1 := by kernel_rfl
theorem zero109 : ZeroOk Try.prog 109 1 (fun _ => SV.v (.int .u32 0)) := zero_one Try.zeroValue109 rfl rfl
theorem co110 : Try.prog.cellsOf 110 = 1 := by kernel_rfl
theorem zero110 : ZeroOk Try.prog 110 1 (fun _ => SV.v (.int .u8 0)) := zero_one Try.zeroValue110 rfl rfl
theorem co111 : Try.prog.cellsOf 111 = 1 := by kernel_rfl
theorem zero111 : ZeroOk Try.prog 111 1 (fun _ => SV.v (.int .u8 0)) := zero_one Try.zeroValue111 rfl rfl
theorem co114 : Try.prog.cellsOf 114 = 1 := by kernel_rfl
theorem zero114 : ZeroOk Try.prog 114 1 (fun _ => SV.v (.int .i32 0)) := zero_one Try.zeroValue114 rfl rfl
theorem co115 : Try.prog.cellsOf 115 = 1 := by kernel_rfl
theorem zero115 : ZeroOk Try.prog 115 1 (fun _ => SV.v (.int .i32 0)) := zero_one Try.zeroValue115 rfl rfl
theorem co116 : Try.prog.cellsOf 116 = 11 := by kernel_rfl
theorem co117 : Try.prog.cellsOf 117 = 11 := by kernel_rfl
theorem build7 : ∀ (w : World) (parts : List (Nat × Value)) (z : Value) (cs : Array Value), (zeroValue 7).run Try.prog w = .ok z w → Instr.fill (fun i => if i < 4 then some (i, 1) else none) z.cells parts = some cs → (∀ p ∈ parts, p.1 < 4) → (Instr.build 7 parts.toArray).run Try.prog w = .ok (.agg cs) w :=
  build_struct Try.underlying7 (fun w => by simp [Try.sizeOf2, Try.sizeOf3, Try.sizeOf4, Try.sizeOf6]; rfl)
theorem build8 : ∀ (w : World) (parts : List (Nat × Value)) (z : Value) (cs : Array Value), (zeroValue 8).run Try.prog w = .ok z w → Instr.fill (fun i => if i < 4 then some (i, 1) else none) z.cells parts = some cs → (∀ p ∈ parts, p.1 < 4) → (Instr.build 8 parts.toArray).run Try.prog w = .ok (.agg cs) w :=
  build_struct Try.underlying8 (fun w => by simp [Try.sizeOf2, Try.sizeOf3, Try.sizeOf4, Try.sizeOf6]; rfl)
theorem build13 : ∀ (w : World) (parts : List (Nat × Value)) (z : Value) (cs : Array Value), (zeroValue 13).run Try.prog w = .ok z w → Instr.fill (fun i => if i < 2 then some (i, 1) else none) z.cells parts = some cs → (∀ p ∈ parts, p.1 < 2) → (Instr.build 13 parts.toArray).run Try.prog w = .ok (.agg cs) w :=
  build_struct Try.underlying13 (fun w => by simp [Try.sizeOf9, Try.sizeOf12]; rfl)
theorem build14 : ∀ (w : World) (parts : List (Nat × Value)) (z : Value) (cs : Array Value), (zeroValue 14).run Try.prog w = .ok z w → Instr.fill (fun i => if i < 2 then some (i, 1) else none) z.cells parts = some cs → (∀ p ∈ parts, p.1 < 2) → (Instr.build 14 parts.toArray).run Try.prog w = .ok (.agg cs) w :=
  build_struct Try.underlying14 (fun w => by simp [Try.sizeOf9, Try.sizeOf12]; rfl)
theorem build18 : ∀ (w : World) (parts : List (Nat × Value)) (z : Value) (cs : Array Value), (zeroValue 18).run Try.prog w = .ok z w → Instr.fill (fun i => if i < 1 then some (i, 1) else none) z.cells parts = some cs → (∀ p ∈ parts, p.1 < 1) → (Instr.build 18 parts.toArray).run Try.prog w = .ok (.agg cs) w :=
  build_struct Try.underlying18 (fun w => by simp [Try.sizeOf17]; rfl)
theorem build19 : ∀ (w : World) (parts : List (Nat × Value)) (z : Value) (cs : Array Value), (zeroValue 19).run Try.prog w = .ok z w → Instr.fill (fun i => if i < 1 then some (i, 1) else none) z.cells parts = some cs → (∀ p ∈ parts, p.1 < 1) → (Instr.build 19 parts.toArray).run Try.prog w = .ok (.agg cs) w :=
  build_struct Try.underlying19 (fun w => by simp [Try.sizeOf17]; rfl)
theorem build34 : ∀ (w : World) (parts : List (Nat × Value)) (z : Value) (cs : Array Value), (zeroValue 34).run Try.prog w = .ok z w → Instr.fill (fun i => if i < 1 then some (i, 1) else none) z.cells parts = some cs → (∀ p ∈ parts, p.1 < 1) → (Instr.build 34 parts.toArray).run Try.prog w = .ok (.agg cs) w :=
  build_struct Try.underlying34 (fun w => by simp [Try.sizeOf33]; rfl)
theorem build35 : ∀ (w : World) (parts : List (Nat × Value)) (z : Value) (cs : Array Value), (zeroValue 35).run Try.prog w = .ok z w → Instr.fill (fun i => if i < 1 then some (i, 1) else none) z.cells parts = some cs → (∀ p ∈ parts, p.1 < 1) → (Instr.build 35 parts.toArray).run Try.prog w = .ok (.agg cs) w :=
  build_struct Try.underlying35 (fun w => by simp [Try.sizeOf33]; rfl)
theorem build42 : ∀ (w : World) (parts : List (Nat × Value)) (z : Value) (cs : Array Value), (zeroValue 42).run Try.prog w = .ok z w → Instr.fill (fun i => if i < 2 then some (i, 1) else none) z.cells parts = some cs → (∀ p ∈ parts, p.1 < 2) → (Instr.build 42 parts.toArray).run Try.prog w = .ok (.agg cs) w :=
  build_struct Try.underlying42 (fun w => by simp [Try.sizeOf3, Try.sizeOf24]; rfl)
theorem build43 : ∀ (w : World) (parts : List (Nat × Value)) (z : Value) (cs : Array Value), (zeroValue 43).run Try.prog w = .ok z w → Instr.fill (fun i => if i < 2 then some (i, 1) else none) z.cells parts = some cs → (∀ p ∈ parts, p.1 < 2) → (Instr.build 43 parts.toArray).run Try.prog w = .ok (.agg cs) w :=
  build_struct Try.underlying43 (fun w => by simp [Try.sizeOf3, Try.sizeOf24]; rfl)
theorem build46 : ∀ (w : World) (parts : List (Nat × Value)) (z : Value) (cs : Array Value), (zeroValue 46).run Try.prog w = .ok z w → Instr.fill (fun i => if i < 5 then some (i, 1) else none) z.cells parts = some cs → (∀ p ∈ parts, p.1 < 5) → (Instr.build 46 parts.toArray).run Try.prog w = .ok (.agg cs) w :=
  build_struct Try.underlying46 (fun w => by simp [Try.sizeOf3, Try.sizeOf4]; rfl)
theorem build47 : ∀ (w : World) (parts : List (Nat × Value)) (z : Value) (cs : Array Value), (zeroValue 47).run Try.prog w = .ok z w → Instr.fill (fun i => if i < 5 then some (i, 1) else none) z.cells parts = some cs → (∀ p ∈ parts, p.1 < 5) → (Instr.build 47 parts.toArray).run Try.prog w = .ok (.agg cs) w :=
  build_struct Try.underlying47 (fun w => by simp [Try.sizeOf3, Try.sizeOf4]; rfl)
theorem build63 : ∀ (w : World) (parts : List (Nat × Value)) (z : Value) (cs : Array Value), (zeroValue 63).run Try.prog w = .ok z w → Instr.fill (fun i => if i < 2 then some (i, 1) else none) z.cells parts = some cs → (∀ p ∈ parts, p.1 < 2) → (Instr.build 63 parts.toArray).run Try.prog w = .ok (.agg cs) w :=
  build_array Try.underlying63 (fun w => Try.sizeOf59 w)
theorem build64 : ∀ (w : World) (parts : List (Nat × Value)) (z : Value) (cs : Array Value), (zeroValue 64).run Try.prog w = .ok z w → Instr.fill (fun i => if i < 2 then some (i, 1) else none) z.cells parts = some cs → (∀ p ∈ parts, p.1 < 2) → (Instr.build 64 parts.toArray).run Try.prog w = .ok (.agg cs) w :=
  build_array Try.underlying64 (fun w => Try.sizeOf3 w)
theorem build70 : ∀ (w : World) (parts : List (Nat × Value)) (z : Value) (cs : Array Value), (zeroValue 70).run Try.prog w = .ok z w → Instr.fill (fun i => if i < 5 then some (i, 1) else none) z.cells parts = some cs → (∀ p ∈ parts, p.1 < 5) → (Instr.build 70 parts.toArray).run Try.prog w = .ok (.agg cs) w :=
  build_struct Try.underlying70 (fun w => by simp [Try.sizeOf3, Try.sizeOf4, Try.sizeOf59]; rfl)
theorem build71 : ∀ (w : World) (parts : List (Nat × Value)) (z : Value) (cs : Array Value), (zeroValue 71).run Try.prog w = .ok z w → Instr.fill (fun i => if i < 5 then some (i, 1) else none) z.cells parts = some cs → (∀ p ∈ parts, p.1 < 5) → (Instr.build 71 parts.toArray).run Try.prog w = .ok (.agg cs) w :=
  build_struct Try.underlying71 (fun w => by simp [Try.sizeOf3, Try.sizeOf4, Try.sizeOf59]; rfl)
end Go.Proofs.Ytghkpailmdlhgaa
