/- Facts on the seat's program: slice types, functions with a body. -/
import Derived.Test.YtmcdamcedemdiaaRows
import Derived.Test.YtmcdamcedemdiaaEngc
set_option linter.unusedVariables false
namespace Go.Proofs.Ytmcdamcedemdiaa
open Go.RowKit Go.Eng
theorem ts22 : Try.prog.underlying 22 = some (.slice (Try.prog.elem 22)) := by kernel_rfl
theorem te22 : ∀ w, (sizeOf (Try.prog.elem 22)).run Try.prog w = .ok 8 w := fun w => by kernel_rfl
theorem ts27 : Try.prog.underlying 27 = some (.slice (Try.prog.elem 27)) := by kernel_rfl
theorem te27 : ∀ w, (sizeOf (Try.prog.elem 27)).run Try.prog w = .ok 3 w := fun w => by kernel_rfl
theorem ts33 : Try.prog.underlying 33 = some (.slice (Try.prog.elem 33)) := by kernel_rfl
theorem te33 : ∀ w, (sizeOf (Try.prog.elem 33)).run Try.prog w = .ok 1 w := fun w => by kernel_rfl
theorem ts45 : Try.prog.underlying 45 = some (.slice (Try.prog.elem 45)) := by kernel_rfl
theorem te45 : ∀ w, (sizeOf (Try.prog.elem 45)).run Try.prog w = .ok 5 w := fun w => by kernel_rfl
theorem ts46 : Try.prog.underlying 46 = some (.slice (Try.prog.elem 46)) := by kernel_rfl
theorem te46 : ∀ w, (sizeOf (Try.prog.elem 46)).run Try.prog w = .ok 4 w := fun w => by kernel_rfl
theorem ts80 : Try.prog.underlying 80 = some (.slice (Try.prog.elem 80)) := by kernel_rfl
theorem te80 : ∀ w, (sizeOf (Try.prog.elem 80)).run Try.prog w = .ok 2 w := fun w => by kernel_rfl
theorem ts87 : Try.prog.underlying 87 = some (.slice (Try.prog.elem 87)) := by kernel_rfl
theorem te87 : ∀ w, (sizeOf (Try.prog.elem 87)).run Try.prog w = .ok 3 w := fun w => by kernel_rfl
theorem ts145 : Try.prog.underlying 145 = some (.slice (Try.prog.elem 145)) := by kernel_rfl
theorem te145 : ∀ w, (sizeOf (Try.prog.elem 145)).run Try.prog w = .ok 2 w := fun w => by kernel_rfl
theorem ts161 : Try.prog.underlying 161 = some (.slice (Try.prog.elem 161)) := by kernel_rfl
theorem te161 : ∀ w, (sizeOf (Try.prog.elem 161)).run Try.prog w = .ok 1 w := fun w => by kernel_rfl
theorem en3 : Enters Try.prog 3 := fun args w => by kernel_rfl
theorem en4 : Enters Try.prog 4 := fun args w => by kernel_rfl
theorem en5 : Enters Try.prog 5 := fun args w => by kernel_rfl
theorem en6 : Enters Try.prog 6 := fun args w => by kernel_rfl
theorem en7 : Enters Try.prog 7 := fun args w => by kernel_rfl
theorem en8 : Enters Try.prog 8 := fun args w => by kernel_rfl
theorem en9 : Enters Try.prog 9 := fun args w => by kernel_rfl
theorem en10 : Enters Try.prog 10 := fun args w => by kernel_rfl
theorem en11 : Enters Try.prog 11 := fun args w => by kernel_rfl
theorem en12 : Enters Try.prog 12 := fun args w => by kernel_rfl
theorem en13 : Enters Try.prog 13 := fun args w => by kernel_rfl
theorem en14 : Enters Try.prog 14 := fun args w => by kernel_rfl
theorem en15 : Enters Try.prog 15 := fun args w => by kernel_rfl
theorem en16 : Enters Try.prog 16 := fun args w => by kernel_rfl
theorem en17 : Enters Try.prog 17 := fun args w => by kernel_rfl
theorem en18 : Enters Try.prog 18 := fun args w => by kernel_rfl
theorem en19 : Enters Try.prog 19 := fun args w => by kernel_rfl
theorem en20 : Enters Try.prog 20 := fun args w => by kernel_rfl
theorem en21 : Enters Try.prog 21 := fun args w => by kernel_rfl
theorem en22 : Enters Try.prog 22 := fun args w => by kernel_rfl
theorem en23 : Enters Try.prog 23 := fun args w => by kernel_rfl
theorem en24 : Enters Try.prog 24 := fun args w => by kernel_rfl
theorem en25 : Enters Try.prog 25 := fun args w => by kernel_rfl
theorem en26 : Enters Try.prog 26 := fun args w => by kernel_rfl
theorem en27 : Enters Try.prog 27 := fun args w => by kernel_rfl
theorem en28 : Enters Try.prog 28 := fun args w => by kernel_rfl
theorem en29 : Enters Try.prog 29 := fun args w => by kernel_rfl
theorem en30 : Enters Try.prog 30 := fun args w => by kernel_rfl
theorem en31 : Enters Try.prog 31 := fun args w => by kernel_rfl
theorem en32 : Enters Try.prog 32 := fun args w => by kernel_rfl
theorem en33 : Enters Try.prog 33 := fun args w => by kernel_rfl
theorem en34 : Enters Try.prog 34 := fun args w => by kernel_rfl
theorem en35 : Enters Try.prog 35 := fun args w => by kernel_rfl
theorem en36 : Enters Try.prog 36 := fun args w => by kernel_rfl
theorem en37 : Enters Try.prog 37 := fun args w => by kernel_rfl
theorem en38 : Enters Try.prog 38 := fun args w => by kernel_rfl
theorem en39 : Enters Try.prog 39 := fun args w => by kernel_rfl
theorem en40 : Enters Try.prog 40 := fun args w => by kernel_rfl
theorem en41 : Enters Try.prog 41 := fun args w => by kernel_rfl
theorem en42 : Enters Try.prog 42 := fun args w => by kernel_rfl
theorem en43 : Enters Try.prog 43 := fun args w => by kernel_rfl
theorem en44 : Enters Try.prog 44 := fun args w => by kernel_rfl
theorem en45 : Enters Try.prog 45 := fun args w => by kernel_rfl
theorem en46 : Enters Try.prog 46 := fun args w => by kernel_rfl
theorem en47 : Enters Try.prog 47 := fun args w => by kernel_rfl
theorem en48 : Enters Try.prog 48 := fun args w => by kernel_rfl
theorem en49 : Enters Try.prog 49 := fun args w => by kernel_rfl
theorem en50 : Enters Try.prog 50 := fun args w => by kernel_rfl
theorem en51 : Enters Try.prog 51 := fun args w => by kernel_rfl
theorem en52 : Enters Try.prog 52 := fun args w => by kernel_rfl
theorem en53 : Enters Try.prog 53 := fun args w => by kernel_rfl
theorem en54 : Enters Try.prog 54 := fun args w => by kernel_rfl
theorem en55 : Enters Try.prog 55 := fun args w => by kernel_rfl
theorem en56 : Enters Try.prog 56 := fun args w => by kernel_rfl
theorem en57 : Enters Try.prog 57 := fun args w => by kernel_rfl
theorem en58 : Enters Try.prog 58 := fun args w => by kernel_rfl
theorem en59 : Enters Try.prog 59 := fun args w => by kernel_rfl
theorem en60 : Enters Try.prog 60 := fun args w => by kernel_rfl
theorem en61 : Enters Try.prog 61 := fun args w => by kernel_rfl
theorem en62 : Enters Try.prog 62 := fun args w => by kernel_rfl
theorem en63 : Enters Try.prog 63 := fun args w => by kernel_rfl
theorem en64 : Enters Try.prog 64 := fun args w => by kernel_rfl
theorem en65 : Enters Try.prog 65 := fun args w => by kernel_rfl
theorem en66 : Enters Try.prog 66 := fun args w => by kernel_rfl
theorem en67 : Enters Try.prog 67 := fun args w => by kernel_rfl
theorem en68 : Enters Try.prog 68 := fun args w => by kernel_rfl
theorem en69 : Enters Try.prog 69 := fun args w => by kernel_rfl
theorem en70 : Enters Try.prog 70 := fun args w => by kernel_rfl
theorem en71 : Enters Try.prog 71 := fun args w => by kernel_rfl
theorem en72 : Enters Try.prog 72 := fun args w => by kernel_rfl
theorem en73 : Enters Try.prog 73 := fun args w => by kernel_rfl
theorem en74 : Enters Try.prog 74 := fun args w => by kernel_rfl
theorem en75 : Enters Try.prog 75 := fun args w => by kernel_rfl
theorem en76 : Enters Try.prog 76 := fun args w => by kernel_rfl
theorem en77 : Enters Try.prog 77 := fun args w => by kernel_rfl
theorem en78 : Enters Try.prog 78 := fun args w => by kernel_rfl
theorem en79 : Enters Try.prog 79 := fun args w => by kernel_rfl
theorem en80 : Enters Try.prog 80 := fun args w => by kernel_rfl
theorem en81 : Enters Try.prog 81 := fun args w => by kernel_rfl
theorem en82 : Enters Try.prog 82 := fun args w => by kernel_rfl
theorem en83 : Enters Try.prog 83 := fun args w => by kernel_rfl
theorem en84 : Enters Try.prog 84 := fun args w => by kernel_rfl
theorem en85 : Enters Try.prog 85 := fun args w => by kernel_rfl
theorem en86 : Enters Try.prog 86 := fun args w => by kernel_rfl
theorem en87 : Enters Try.prog 87 := fun args w => by kernel_rfl
theorem en88 : Enters Try.prog 88 := fun args w => by kernel_rfl
theorem en89 : Enters Try.prog 89 := fun args w => by kernel_rfl
theorem en90 : Enters Try.prog 90 := fun args w => by kernel_rfl
theorem en91 : Enters Try.prog 91 := fun args w => by kernel_rfl
theorem en92 : Enters Try.prog 92 := fun args w => by kernel_rfl
theorem en93 : Enters Try.prog 93 := fun args w => by kernel_rfl
theorem en94 : Enters Try.prog 94 := fun args w => by kernel_rfl
theorem en95 : Enters Try.prog 95 := fun args w => by kernel_rfl
theorem en96 : Enters Try.prog 96 := fun args w => by kernel_rfl
theorem en97 : Enters Try.prog 97 := fun args w => by kernel_rfl
theorem en98 : Enters Try.prog 98 := fun args w => by kernel_rfl
theorem en99 : Enters Try.prog 99 := fun args w => by kernel_rfl
theorem en100 : Enters Try.prog 100 := fun args w => by kernel_rfl
theorem en101 : Enters Try.prog 101 := fun args w => by kernel_rfl
theorem en102 : Enters Try.prog 102 := fun args w => by kernel_rfl
theorem en103 : Enters Try.prog 103 := fun args w => by kernel_rfl
theorem en104 : Enters Try.prog 104 := fun args w => by kernel_rfl
theorem en106 : Enters Try.prog 106 := fun args w => by kernel_rfl
theorem en107 : Enters Try.prog 107 := fun args w => by kernel_rfl
theorem en108 : Enters Try.prog 108 := fun args w => by kernel_rfl
theorem en109 : Enters Try.prog 109 := fun args w => by kernel_rfl
theorem en110 : Enters Try.prog 110 := fun args w => by kernel_rfl
theorem en111 : Enters Try.prog 111 := fun args w => by kernel_rfl
theorem en112 : Enters Try.prog 112 := fun args w => by kernel_rfl
theorem en113 : Enters Try.prog 113 := fun args w => by kernel_rfl
theorem en114 : Enters Try.prog 114 := fun args w => by kernel_rfl
theorem en115 : Enters Try.prog 115 := fun args w => by kernel_rfl
theorem en116 : Enters Try.prog 116 := fun args w => by kernel_rfl
theorem en117 : Enters Try.prog 117 := fun args w => by kernel_rfl
theorem en118 : Enters Try.prog 118 := fun args w => by kernel_rfl
theorem en119 : Enters Try.prog 119 := fun args w => by kernel_rfl
theorem en120 : Enters Try.prog 120 := fun args w => by kernel_rfl
theorem en121 : Enters Try.prog 121 := fun args w => by kernel_rfl
theorem en122 : Enters Try.prog 122 := fun args w => by kernel_rfl
theorem en123 : Enters Try.prog 123 := fun args w => by kernel_rfl
theorem en124 : Enters Try.prog 124 := fun args w => by kernel_rfl
theorem en125 : Enters Try.prog 125 := fun args w => by kernel_rfl
theorem en126 : Enters Try.prog 126 := fun args w => by kernel_rfl
theorem en127 : Enters Try.prog 127 := fun args w => by kernel_rfl
theorem en128 : Enters Try.prog 128 := fun args w => by kernel_rfl
theorem en129 : Enters Try.prog 129 := fun args w => by kernel_rfl
theorem en130 : Enters Try.prog 130 := fun args w => by kernel_rfl
theorem en131 : Enters Try.prog 131 := fun args w => by kernel_rfl
theorem en132 : Enters Try.prog 132 := fun args w => by kernel_rfl
theorem en133 : Enters Try.prog 133 := fun args w => by kernel_rfl
theorem en134 : Enters Try.prog 134 := fun args w => by kernel_rfl
theorem en135 : Enters Try.prog 135 := fun args w => by kernel_rfl
theorem en136 : Enters Try.prog 136 := fun args w => by kernel_rfl
theorem en137 : Enters Try.prog 137 := fun args w => by kernel_rfl
theorem en138 : Enters Try.prog 138 := fun args w => by kernel_rfl
theorem en139 : Enters Try.prog 139 := fun args w => by kernel_rfl
theorem en140 : Enters Try.prog 140 := fun args w => by kernel_rfl
theorem en141 : Enters Try.prog 141 := fun args w => by kernel_rfl
theorem en142 : Enters Try.prog 142 := fun args w => by kernel_rfl
theorem en143 : Enters Try.prog 143 := fun args w => by kernel_rfl
theorem en145 : Enters Try.prog 145 := fun args w => by kernel_rfl
theorem en146 : Enters Try.prog 146 := fun args w => by kernel_rfl
theorem en147 : Enters Try.prog 147 := fun args w => by kernel_rfl
theorem en148 : Enters Try.prog 148 := fun args w => by kernel_rfl
theorem en149 : Enters Try.prog 149 := fun args w => by kernel_rfl
theorem en150 : Enters Try.prog 150 := fun args w => by kernel_rfl
theorem en151 : Enters Try.prog 151 := fun args w => by kernel_rfl
theorem en152 : Enters Try.prog 152 := fun args w => by kernel_rfl
theorem en153 : Enters Try.prog 153 := fun args w => by kernel_rfl
theorem en154 : Enters Try.prog 154 := fun args w => by kernel_rfl
theorem laid : laidOutB Try.prog = true := by kernel_rfl
theorem ownk : ownKnob Try.prog.godebug = none := by kernel_rfl
theorem co2 : Try.prog.cellsOf 2 = 1 := by kernel_rfl
theorem zero2 : ZeroOk Try.prog 2 1 (fun _ => SV.v (.int .i64 0)) := zero_one Try.zeroValue2 rfl rfl
theorem rd2 : Try.prog.readableRec 2 = true ∧ 2 < Try.prog.types.size := ⟨by kernel_rfl, of_decide_eq_true (by kernel_rfl)⟩
theorem co3 : Try.prog.cellsOf 3 = 1 := by kernel_rfl
theorem zero3 : ZeroOk Try.prog 3 1 (fun _ => SV.v (.int .i64 0)) := zero_one Try.zeroValue3 rfl rfl
theorem rd3 : Try.prog.readableRec 3 = true ∧ 3 < Try.prog.types.size := ⟨by kernel_rfl, of_decide_eq_true (by kernel_rfl)⟩
theorem co4 : Try.prog.cellsOf 4 = 1 := by kernel_rfl
theorem zero4 : ZeroOk Try.prog 4 1 (fun _ => bv false) := zero_one Try.zeroValue4 rfl rfl
theorem rd4 : Try.prog.readableRec 4 = true ∧ 4 < Try.prog.types.size := ⟨by kernel_rfl, of_decide_eq_true (by kernel_rfl)⟩
theorem co5 : Try.prog.cellsOf 5 = 1 := by kernel_rfl
theorem zero5 : ZeroOk Try.prog 5 1 (fun _ => SV.v (.int .u8 0)) := zero_one Try.zeroValue5 rfl rfl
theorem rd5 : Try.prog.readableRec 5 = true ∧ 5 < Try.prog.types.size := ⟨by kernel_rfl, of_decide_eq_true (by kernel_rfl)⟩
theorem co6 : Try.prog.cellsOf 6 = 1 := by kernel_rfl
theorem zero6 : ZeroOk Try.prog 6 1 (fun _ => SV.v (.int .u8 0)) := zero_one Try.zeroValue6 rfl rfl
theorem rd6 : Try.prog.readableRec 6 = true ∧ 6 < Try.prog.types.size := ⟨by kernel_rfl, of_decide_eq_true (by kernel_rfl)⟩
theorem co7 : Try.prog.cellsOf 7 = 4 := by kernel_rfl
theorem rd7 : Try.prog.readableRec 7 = true ∧ 7 < Try.prog.types.size := ⟨by kernel_rfl, of_decide_eq_true (by kernel_rfl)⟩
theorem co8 : Try.prog.cellsOf 8 = 4 := by kernel_rfl
theorem rd8 : Try.prog.readableRec 8 = true ∧ 8 < Try.prog.types.size := ⟨by kernel_rfl, of_decide_eq_true (by kernel_rfl)⟩
theorem co12 : Try.prog.cellsOf 12 = 1 := by kernel_rfl
theorem zero12 : ZeroOk Try.prog 12 1 (fun _ => SV.v (.int .u64 0)) := zero_one Try.zeroValue12 rfl rfl
theorem rd12 : Try.prog.readableRec 12 = true ∧ 12 < Try.prog.types.size := ⟨by kernel_rfl, of_decide_eq_true (by kernel_rfl)⟩
theorem co13 : Try.prog.cellsOf 13 = 2 := by kernel_rfl
theorem rd13 : Try.prog.readableRec 13 = true ∧ 13 < Try.prog.types.size := ⟨by kernel_rfl, of_decide_eq_true (by kernel_rfl)⟩
theorem co14 : Try.prog.cellsOf 14 = 2 := by kernel_rfl
theorem rd14 : Try.prog.readableRec 14 = true ∧ 14 < Try.prog.types.size := ⟨by kernel_rfl, of_decide_eq_true (by kernel_rfl)⟩
theorem co18 : Try.prog.cellsOf 18 = 1 := by kernel_rfl
theorem rd18 : Try.prog.readableRec 18 = true ∧ 18 < Try.prog.types.size := ⟨by kernel_rfl, of_decide_eq_true (by kernel_rfl)⟩
theorem co19 : Try.prog.cellsOf 19 = 1 := by kernel_rfl
theorem rd19 : Try.prog.readableRec 19 = true ∧ 19 < Try.prog.types.size := ⟨by kernel_rfl, of_decide_eq_true (by kernel_rfl)⟩
theorem co21 : Try.prog.cellsOf 21 = 1 := by kernel_rfl
theorem zero21 : ZeroOk Try.prog 21 1 (fun _ => SV.v (.int .i32 0)) := zero_one Try.zeroValue21 rfl rfl
theorem rd21 : Try.prog.readableRec 21 = true ∧ 21 < Try.prog.types.size := ⟨by kernel_rfl, of_decide_eq_true (by kernel_rfl)⟩
theorem co22 : Try.prog.cellsOf 22 = 1 := by kernel_rfl
theorem eo22 : ElemOk Try.prog 22 61 8 80 := ⟨Try.underlying22, by
  have h : (Try.prog.info? 61).map (fun i => (i.size, i.bytes, i.zero.map fun z => z.cells.size)) = some (8, 80, some 8) := by kernel_rfl
  exact info_of h, by decide⟩
theorem rd22 : Try.prog.readableRec 22 = true ∧ 22 < Try.prog.types.size := ⟨by kernel_rfl, of_decide_eq_true (by kernel_rfl)⟩
theorem co23 : Try.prog.cellsOf 23 = 1 := by kernel_rfl
theorem rd23 : Try.prog.readableRec 23 = true ∧ 23 < Try.prog.types.size := ⟨by kernel_rfl, of_decide_eq_true (by kernel_rfl)⟩
theorem co24 : Try.prog.cellsOf 24 = 1 := by kernel_rfl
theorem rd24 : Try.prog.readableRec 24 = true ∧ 24 < Try.prog.types.size := ⟨by kernel_rfl, of_decide_eq_true (by kernel_rfl)⟩
theorem co25 : Try.prog.cellsOf 25 = 2 := by kernel_rfl
theorem rd25 : Try.prog.readableRec 25 = true ∧ 25 < Try.prog.types.size := ⟨by kernel_rfl, of_decide_eq_true (by kernel_rfl)⟩
theorem co26 : Try.prog.cellsOf 26 = 2 := by kernel_rfl
theorem rd26 : Try.prog.readableRec 26 = true ∧ 26 < Try.prog.types.size := ⟨by kernel_rfl, of_decide_eq_true (by kernel_rfl)⟩
theorem co27 : Try.prog.cellsOf 27 = 1 := by kernel_rfl
theorem eo27 : ElemOk Try.prog 27 41 3 40 := ⟨Try.underlying27, by
  have h : (Try.prog.info? 41).map (fun i => (i.size, i.bytes, i.zero.map fun z => z.cells.size)) = some (3, 40, some 3) := by kernel_rfl
  exact info_of h, by decide⟩
theorem rd27 : Try.prog.readableRec 27 = true ∧ 27 < Try.prog.types.size := ⟨by kernel_rfl, of_decide_eq_true (by kernel_rfl)⟩
theorem co28 : Try.prog.cellsOf 28 = 1 := by kernel_rfl
theorem zero28 : ZeroOk Try.prog 28 1 (fun _ => SV.v (.int .i64 0)) := zero_one Try.zeroValue28 rfl rfl
theorem rd28 : Try.prog.readableRec 28 = true ∧ 28 < Try.prog.types.size := ⟨by kernel_rfl, of_decide_eq_true (by kernel_rfl)⟩
theorem co33 : Try.prog.cellsOf 33 = 1 := by kernel_rfl
theorem eo33 : ElemOk Try.prog 33 3 1 8 := ⟨Try.underlying33, by
  have h : (Try.prog.info? 3).map (fun i => (i.size, i.bytes, i.zero.map fun z => z.cells.size)) = some (1, 8, some 1) := by kernel_rfl
  exact info_of h, by decide⟩
theorem rd33 : Try.prog.readableRec 33 = true ∧ 33 < Try.prog.types.size := ⟨by kernel_rfl, of_decide_eq_true (by kernel_rfl)⟩
theorem co40 : Try.prog.cellsOf 40 = 3 := by kernel_rfl
theorem rd40 : Try.prog.readableRec 40 = true ∧ 40 < Try.prog.types.size := ⟨by kernel_rfl, of_decide_eq_true (by kernel_rfl)⟩
theorem co41 : Try.prog.cellsOf 41 = 3 := by kernel_rfl
theorem rd41 : Try.prog.readableRec 41 = true ∧ 41 < Try.prog.types.size := ⟨by kernel_rfl, of_decide_eq_true (by kernel_rfl)⟩
theorem co45 : Try.prog.cellsOf 45 = 1 := by kernel_rfl
theorem eo45 : ElemOk Try.prog 45 54 5 24 := ⟨Try.underlying45, by
  have h : (Try.prog.info? 54).map (fun i => (i.size, i.bytes, i.zero.map fun z => z.cells.size)) = some (5, 24, some 5) := by kernel_rfl
  exact info_of h, by decide⟩
theorem rd45 : Try.prog.readableRec 45 = true ∧ 45 < Try.prog.types.size := ⟨by kernel_rfl, of_decide_eq_true (by kernel_rfl)⟩
theorem co46 : Try.prog.cellsOf 46 = 1 := by kernel_rfl
theorem eo46 : ElemOk Try.prog 46 51 4 32 := ⟨Try.underlying46, by
  have h : (Try.prog.info? 51).map (fun i => (i.size, i.bytes, i.zero.map fun z => z.cells.size)) = some (4, 32, some 4) := by kernel_rfl
  exact info_of h, by decide⟩
theorem rd46 : Try.prog.readableRec 46 = true ∧ 46 < Try.prog.types.size := ⟨by kernel_rfl, of_decide_eq_true (by kernel_rfl)⟩
theorem co50 : Try.prog.cellsOf 50 = 4 := by kernel_rfl
theorem rd50 : Try.prog.readableRec 50 = true ∧ 50 < Try.prog.types.size := ⟨by kernel_rfl, of_decide_eq_true (by kernel_rfl)⟩
theorem co51 : Try.prog.cellsOf 51 = 4 := by kernel_rfl
theorem rd51 : Try.prog.readableRec 51 = true ∧ 51 < Try.prog.types.size := ⟨by kernel_rfl, of_decide_eq_true (by kernel_rfl)⟩
theorem co53 : Try.prog.cellsOf 53 = 5 := by kernel_rfl
theorem rd53 : Try.prog.readableRec 53 = true ∧ 53 < Try.prog.types.size := ⟨by kernel_rfl, of_decide_eq_true (by kernel_rfl)⟩
theorem co54 : Try.prog.cellsOf 54 = 5 := by kernel_rfl
theorem rd54 : Try.prog.readableRec 54 = true ∧ 54 < Try.prog.types.size := ⟨by kernel_rfl, of_decide_eq_true (by kernel_rfl)⟩
theorem co60 : Try.prog.cellsOf 60 = 8 := by kernel_rfl
theorem rd60 : Try.prog.readableRec 60 = true ∧ 60 < Try.prog.types.size := ⟨by kernel_rfl, of_decide_eq_true (by kernel_rfl)⟩
theorem co61 : Try.prog.cellsOf 61 = 8 := by kernel_rfl
theorem rd61 : Try.prog.readableRec 61 = true ∧ 61 < Try.prog.types.size := ⟨by kernel_rfl, of_decide_eq_true (by kernel_rfl)⟩
theorem co80 : Try.prog.cellsOf 80 = 1 := by kernel_rfl
theorem eo80 : ElemOk Try.prog 80 26 2 16 := ⟨Try.underlying80, by
  have h : (Try.prog.info? 26).map (fun i => (i.size, i.bytes, i.zero.map fun z => z.cells.size)) = some (2, 16, some 2) := by kernel_rfl
  exact info_of h, by decide⟩
theorem rd80 : Try.prog.readableRec 80 = true ∧ 80 < Try.prog.types.size := ⟨by kernel_rfl, of_decide_eq_true (by kernel_rfl)⟩
theorem co87 : Try.prog.cellsOf 87 = 1 := by kernel_rfl
theorem eo87 : ElemOk Try.prog 87 100 3 24 := ⟨Try.underlying87, by
  have h : (Try.prog.info? 100).map (fun i => (i.size, i.bytes, i.zero.map fun z => z.cells.size)) = some (3, 24, some 3) := by kernel_rfl
  exact info_of h, by decide⟩
theorem rd87 : Try.prog.readableRec 87 = true ∧ 87 < Try.prog.types.size := ⟨by kernel_rfl, of_decide_eq_true (by kernel_rfl)⟩
theorem co99 : Try.prog.cellsOf 99 = 3 := by kernel_rfl
theorem rd99 : Try.prog.readableRec 99 = true ∧ 99 < Try.prog.types.size := ⟨by kernel_rfl, of_decide_eq_true (by kernel_rfl)⟩
theorem co100 : Try.prog.cellsOf 100 = 3 := by kernel_rfl
theorem rd100 : Try.prog.readableRec 100 = true ∧ 100 < Try.prog.types.size := ⟨by kernel_rfl, of_decide_eq_true (by kernel_rfl)⟩
theorem co117 : Try.prog.cellsOf 117 = 3 := by kernel_rfl
theorem co118 : Try.prog.cellsOf 118 = 3 := by kernel_rfl
theorem co134 : Try.prog.cellsOf 134 = 1 := by kernel_rfl
theorem zero134 : ZeroOk Try.prog 134 1 (fun _ => SV.v (.int .u64 0)) := zero_one Try.zeroValue134 rfl rfl
theorem co145 : Try.prog.cellsOf 145 = 1 := by kernel_rfl
theorem eo145 : ElemOk Try.prog 145 147 2 16 := ⟨Try.underlying145, by
  have h : (Try.prog.info? 147).map (fun i => (i.size, i.bytes, i.zero.map fun z => z.cells.size)) = some (2, 16, some 2) := by kernel_rfl
  exact info_of h, by decide⟩
theorem co146 : Try.prog.cellsOf 146 = 2 := by kernel_rfl
theorem co147 : Try.prog.cellsOf 147 = 2 := by kernel_rfl
theorem co154 : Try.prog.cellsOf 154 = 1 := by kernel_rfl
theorem zero154 : ZeroOk Try.prog 154 1 (fun _ => SV.v (.int .u32 0)) := zero_one Try.zeroValue154 rfl rfl
theorem co157 : Try.prog.cellsOf 157 = 1 := by kernel_rfl
theorem zero157 : ZeroOk Try.prog 157 1 (fun _ => SV.v (.int .u64 0)) := zero_one Try.zeroValue157 rfl rfl
theorem co161 : Try.prog.cellsOf 161 = 1 := by kernel_rfl
theorem eo161 : ElemOk Try.prog 161 4 1 1 := ⟨Try.underlying161, by
  have h : (Try.prog.info? 4).map (fun i => (i.size, i.bytes, i.zero.map fun z => z.cells.size)) = some (1, 1, some 1) := by kernel_rfl
  exact info_of h, by decide⟩
theorem co165 : Try.prog.cellsOf 165 = 4 := by kernel_rfl
theorem co166 : Try.prog.cellsOf 166 = 4 := by kernel_rfl
theorem co168 : Try.prog.cellsOf 168 = 0 := by kernel_rfl
theorem co169 : Try.prog.cellsOf 169 = 0 := by kernel_rfl
theorem co171 : Try.prog.cellsOf 171 = 1 := by kernel_rfl
theorem zero171 : ZeroOk Try.prog 171 1 (fun _ => SV.v (.int .u8 0)) := zero_one Try.zeroValue171 rfl rfl
theorem co172 : Try.prog.cellsOf 172 = 1 := by kernel_rfl
theorem zero172 : ZeroOk Try.prog 172 1 (fun _ => SV.v (.int .u8 0)) := zero_one Try.zeroValue172 rfl rfl
theorem co175 : Try.prog.cellsOf 175 = 1 := by kernel_rfl
theorem zero175 : ZeroOk Try.prog 175 1 (fun _ => SV.v (.int .i32 0)) := zero_one Try.zeroValue175 rfl rfl
theorem co176 : Try.prog.cellsOf 176 = 1 := by kernel_rfl
theorem zero176 : ZeroOk Try.prog 176 1 (fun _ => SV.v (.int .i32 0)) := zero_one Try.zeroValue176 rfl rfl
theorem co177 : Try.prog.cellsOf 177 = 11 := by kernel_rfl
theorem co178 : Try.prog.cellsOf 178 = 11 := by kernel_rfl
theorem build7 : ∀ (w : World) (parts : List (Nat × Value)) (z : Value) (cs : Array Value), (zeroValue 7).run Try.prog w = .ok z w → Instr.fill (fun i => if i < 4 then some (i, 1) else none) z.cells parts = some cs → (∀ p ∈ parts, p.1 < 4) → (Instr.build 7 parts.toArray).run Try.prog w = .ok (.agg cs) w :=
  build_struct Try.underlying7 (fun w => by simp [Try.sizeOf2, Try.sizeOf3, Try.sizeOf4, Try.sizeOf6]; rfl)
theorem build8 : ∀ (w : World) (parts : List (Nat × Value)) (z : Value) (cs : Array Value), (zeroValue 8).run Try.prog w = .ok z w → Instr.fill (fun i => if i < 4 then some (i, 1) else none) z.cells parts = some cs → (∀ p ∈ parts, p.1 < 4) → (Instr.build 8 parts.toArray).run Try.prog w = .ok (.agg cs) w :=
  build_struct Try.underlying8 (fun w => by simp [Try.sizeOf2, Try.sizeOf3, Try.sizeOf4, Try.sizeOf6]; rfl)
theorem build13 : ∀ (w : World) (parts : List (Nat × Value)) (z : Value) (cs : Array Value), (zeroValue 13).run Try.prog w = .ok z w → Instr.fill (fun i => if i < 2 then some (i, 1) else none) z.cells parts = some cs → (∀ p ∈ parts, p.1 < 2) → (Instr.build 13 parts.toArray).run Try.prog w = .ok (.agg cs) w :=
  build_struct Try.underlying13 (fun w => by simp [Try.sizeOf9, Try.sizeOf12]; rfl)
theorem build14 : ∀ (w : World) (parts : List (Nat × Value)) (z : Value) (cs : Array Value), (zeroValue 14).run Try.prog w = .ok z w → Instr.fill (fun i => if i < 2 then some (i, 1) else none) z.cells parts = some cs → (∀ p ∈ parts, p.1 < 2) → (Instr.build 14 parts.toArray).run Try.prog w = .ok (.agg cs) w :=
  build_struct Try.underlying14 (fun w => by simp [Try.sizeOf9, Try.sizeOf12]; rfl)
theorem build18 : ∀ (w : World) (parts : List (Nat × Value)) (z : Value) (cs : Array Value), (zeroValue 18).run Try.prog w = .ok z w → Instr.fill (fun i => if i < 1 then some (i, 1) else none) z.cells parts = some cs → (∀ p ∈ parts, p.1 < 1) → (Instr.build 18 parts.toArray).run Try.prog w = .ok (.agg cs) w :=
  build_struct Try.underlying18 (fun w => by simp [Try.sizeOf17]; rfl)
theorem build19 : ∀ (w : World) (parts : List (Nat × Value)) (z : Value) (cs : Array Value), (zeroValue 19).run Try.prog w = .ok z w → Instr.fill (fun i => if i < 1 then some (i, 1) else none) z.cells parts = some cs → (∀ p ∈ parts, p.1 < 1) → (Instr.build 19 parts.toArray).run Try.prog w = .ok (.agg cs) w :=
  build_struct Try.underlying19 (fun w => by simp [Try.sizeOf17]; rfl)
theorem build23 : ∀ (w : World) (parts : List (Nat × Value)) (z : Value) (cs : Array Value), (zeroValue 23).run Try.prog w = .ok z w → Instr.fill (fun i => if i < 1 then some (i, 1) else none) z.cells parts = some cs → (∀ p ∈ parts, p.1 < 1) → (Instr.build 23 parts.toArray).run Try.prog w = .ok (.agg cs) w :=
  build_struct Try.underlying23 (fun w => by simp [Try.sizeOf22]; rfl)
theorem build24 : ∀ (w : World) (parts : List (Nat × Value)) (z : Value) (cs : Array Value), (zeroValue 24).run Try.prog w = .ok z w → Instr.fill (fun i => if i < 1 then some (i, 1) else none) z.cells parts = some cs → (∀ p ∈ parts, p.1 < 1) → (Instr.build 24 parts.toArray).run Try.prog w = .ok (.agg cs) w :=
  build_struct Try.underlying24 (fun w => by simp [Try.sizeOf22]; rfl)
theorem build25 : ∀ (w : World) (parts : List (Nat × Value)) (z : Value) (cs : Array Value), (zeroValue 25).run Try.prog w = .ok z w → Instr.fill (fun i => if i < 2 then some (i, 1) else none) z.cells parts = some cs → (∀ p ∈ parts, p.1 < 2) → (Instr.build 25 parts.toArray).run Try.prog w = .ok (.agg cs) w :=
  build_struct Try.underlying25 (fun w => by simp [Try.sizeOf3]; rfl)
theorem build26 : ∀ (w : World) (parts : List (Nat × Value)) (z : Value) (cs : Array Value), (zeroValue 26).run Try.prog w = .ok z w → Instr.fill (fun i => if i < 2 then some (i, 1) else none) z.cells parts = some cs → (∀ p ∈ parts, p.1 < 2) → (Instr.build 26 parts.toArray).run Try.prog w = .ok (.agg cs) w :=
  build_struct Try.underlying26 (fun w => by simp [Try.sizeOf3]; rfl)
theorem build40 : ∀ (w : World) (parts : List (Nat × Value)) (z : Value) (cs : Array Value), (zeroValue 40).run Try.prog w = .ok z w → Instr.fill (fun i => if i < 3 then some (i, 1) else none) z.cells parts = some cs → (∀ p ∈ parts, p.1 < 3) → (Instr.build 40 parts.toArray).run Try.prog w = .ok (.agg cs) w :=
  build_struct Try.underlying40 (fun w => by simp [Try.sizeOf3, Try.sizeOf33]; rfl)
theorem build41 : ∀ (w : World) (parts : List (Nat × Value)) (z : Value) (cs : Array Value), (zeroValue 41).run Try.prog w = .ok z w → Instr.fill (fun i => if i < 3 then some (i, 1) else none) z.cells parts = some cs → (∀ p ∈ parts, p.1 < 3) → (Instr.build 41 parts.toArray).run Try.prog w = .ok (.agg cs) w :=
  build_struct Try.underlying41 (fun w => by simp [Try.sizeOf3, Try.sizeOf33]; rfl)
theorem build50 : ∀ (w : World) (parts : List (Nat × Value)) (z : Value) (cs : Array Value), (zeroValue 50).run Try.prog w = .ok z w → Instr.fill (fun i => if i < 4 then some (i, 1) else none) z.cells parts = some cs → (∀ p ∈ parts, p.1 < 4) → (Instr.build 50 parts.toArray).run Try.prog w = .ok (.agg cs) w :=
  build_struct Try.underlying50 (fun w => by simp [Try.sizeOf3]; rfl)
theorem build51 : ∀ (w : World) (parts : List (Nat × Value)) (z : Value) (cs : Array Value), (zeroValue 51).run Try.prog w = .ok z w → Instr.fill (fun i => if i < 4 then some (i, 1) else none) z.cells parts = some cs → (∀ p ∈ parts, p.1 < 4) → (Instr.build 51 parts.toArray).run Try.prog w = .ok (.agg cs) w :=
  build_struct Try.underlying51 (fun w => by simp [Try.sizeOf3]; rfl)
theorem build53 : ∀ (w : World) (parts : List (Nat × Value)) (z : Value) (cs : Array Value), (zeroValue 53).run Try.prog w = .ok z w → Instr.fill (fun i => if i < 5 then some (i, 1) else none) z.cells parts = some cs → (∀ p ∈ parts, p.1 < 5) → (Instr.build 53 parts.toArray).run Try.prog w = .ok (.agg cs) w :=
  build_struct Try.underlying53 (fun w => by simp [Try.sizeOf3, Try.sizeOf4]; rfl)
theorem build54 : ∀ (w : World) (parts : List (Nat × Value)) (z : Value) (cs : Array Value), (zeroValue 54).run Try.prog w = .ok z w → Instr.fill (fun i => if i < 5 then some (i, 1) else none) z.cells parts = some cs → (∀ p ∈ parts, p.1 < 5) → (Instr.build 54 parts.toArray).run Try.prog w = .ok (.agg cs) w :=
  build_struct Try.underlying54 (fun w => by simp [Try.sizeOf3, Try.sizeOf4]; rfl)
theorem build60 : ∀ (w : World) (parts : List (Nat × Value)) (z : Value) (cs : Array Value), (zeroValue 60).run Try.prog w = .ok z w → Instr.fill (fun i => if i < 8 then some (i, 1) else none) z.cells parts = some cs → (∀ p ∈ parts, p.1 < 8) → (Instr.build 60 parts.toArray).run Try.prog w = .ok (.agg cs) w :=
  build_struct Try.underlying60 (fun w => by simp [Try.sizeOf3, Try.sizeOf4, Try.sizeOf33]; rfl)
theorem build61 : ∀ (w : World) (parts : List (Nat × Value)) (z : Value) (cs : Array Value), (zeroValue 61).run Try.prog w = .ok z w → Instr.fill (fun i => if i < 8 then some (i, 1) else none) z.cells parts = some cs → (∀ p ∈ parts, p.1 < 8) → (Instr.build 61 parts.toArray).run Try.prog w = .ok (.agg cs) w :=
  build_struct Try.underlying61 (fun w => by simp [Try.sizeOf3, Try.sizeOf4, Try.sizeOf33]; rfl)
theorem build99 : ∀ (w : World) (parts : List (Nat × Value)) (z : Value) (cs : Array Value), (zeroValue 99).run Try.prog w = .ok z w → Instr.fill (fun i => if i < 3 then some (i, 1) else none) z.cells parts = some cs → (∀ p ∈ parts, p.1 < 3) → (Instr.build 99 parts.toArray).run Try.prog w = .ok (.agg cs) w :=
  build_struct Try.underlying99 (fun w => by simp [Try.sizeOf3, Try.sizeOf4]; rfl)
theorem build100 : ∀ (w : World) (parts : List (Nat × Value)) (z : Value) (cs : Array Value), (zeroValue 100).run Try.prog w = .ok z w → Instr.fill (fun i => if i < 3 then some (i, 1) else none) z.cells parts = some cs → (∀ p ∈ parts, p.1 < 3) → (Instr.build 100 parts.toArray).run Try.prog w = .ok (.agg cs) w :=
  build_struct Try.underlying100 (fun w => by simp [Try.sizeOf3, Try.sizeOf4]; rfl)
abbrev Ga0 := fun w => @Try.isAgg0 w
abbrev Ga1 := fun w => @Try.isAgg1 w
abbrev Ga2 := fun w => @Try.isAgg2 w
abbrev Ga3 := fun w => @Try.isAgg3 w
abbrev Ga4 := fun w => @Try.isAgg4 w
abbrev Ga5 := fun w => @Try.isAgg5 w
abbrev Ga6 := fun w => @Try.isAgg6 w
abbrev Ga7 := fun w => @Try.isAgg7 w
abbrev Ga8 := fun w => @Try.isAgg8 w
abbrev Ga9 := fun w => @Try.isAgg9 w
abbrev Ga10 := fun w => @Try.isAgg10 w
abbrev Ga11 := fun w => @Try.isAgg11 w
abbrev Ga12 := fun w => @Try.isAgg12 w
abbrev Ga13 := fun w => @Try.isAgg13 w
abbrev Ga14 := fun w => @Try.isAgg14 w
abbrev Ga15 := fun w => @Try.isAgg15 w
abbrev Ga16 := fun w => @Try.isAgg16 w
abbrev Ga17 := fun w => @Try.isAgg17 w
abbrev Ga18 := fun w => @Try.isAgg18 w
abbrev Ga19 := fun w => @Try.isAgg19 w
abbrev Ga20 := fun w => @Try.isAgg20 w
abbrev Ga21 := fun w => @Try.isAgg21 w
abbrev Ga22 := fun w => @Try.isAgg22 w
abbrev Ga23 := fun w => @Try.isAgg23 w
abbrev Ga24 := fun w => @Try.isAgg24 w
abbrev Ga25 := fun w => @Try.isAgg25 w
abbrev Ga26 := fun w => @Try.isAgg26 w
abbrev Ga27 := fun w => @Try.isAgg27 w
abbrev Ga28 := fun w => @Try.isAgg28 w
abbrev Ga29 := fun w => @Try.isAgg29 w
abbrev Ga30 := fun w => @Try.isAgg30 w
abbrev Ga31 := fun w => @Try.isAgg31 w
abbrev Ga32 := fun w => @Try.isAgg32 w
abbrev Ga33 := fun w => @Try.isAgg33 w
abbrev Ga34 := fun w => @Try.isAgg34 w
abbrev Ga35 := fun w => @Try.isAgg35 w
abbrev Ga36 := fun w => @Try.isAgg36 w
abbrev Ga37 := fun w => @Try.isAgg37 w
abbrev Ga38 := fun w => @Try.isAgg38 w
abbrev Ga39 := fun w => @Try.isAgg39 w
abbrev Ga40 := fun w => @Try.isAgg40 w
abbrev Ga41 := fun w => @Try.isAgg41 w
abbrev Ga42 := fun w => @Try.isAgg42 w
abbrev Ga43 := fun w => @Try.isAgg43 w
abbrev Ga44 := fun w => @Try.isAgg44 w
abbrev Ga45 := fun w => @Try.isAgg45 w
abbrev Ga46 := fun w => @Try.isAgg46 w
abbrev Ga47 := fun w => @Try.isAgg47 w
abbrev Ga48 := fun w => @Try.isAgg48 w
abbrev Ga49 := fun w => @Try.isAgg49 w
abbrev Ga50 := fun w => @Try.isAgg50 w
abbrev Ga51 := fun w => @Try.isAgg51 w
abbrev Ga52 := fun w => @Try.isAgg52 w
abbrev Ga53 := fun w => @Try.isAgg53 w
abbrev Ga54 := fun w => @Try.isAgg54 w
abbrev Ga55 := fun w => @Try.isAgg55 w
abbrev Ga56 := fun w => @Try.isAgg56 w
abbrev Ga57 := fun w => @Try.isAgg57 w
abbrev Ga58 := fun w => @Try.isAgg58 w
abbrev Ga59 := fun w => @Try.isAgg59 w
abbrev Ga60 := fun w => @Try.isAgg60 w
abbrev Ga61 := fun w => @Try.isAgg61 w
abbrev Ga62 := fun w => @Try.isAgg62 w
abbrev Ga63 := fun w => @Try.isAgg63 w
abbrev Ga64 := fun w => @Try.isAgg64 w
abbrev Ga65 := fun w => @Try.isAgg65 w
abbrev Ga66 := fun w => @Try.isAgg66 w
abbrev Ga67 := fun w => @Try.isAgg67 w
abbrev Ga68 := fun w => @Try.isAgg68 w
abbrev Ga69 := fun w => @Try.isAgg69 w
abbrev Ga70 := fun w => @Try.isAgg70 w
abbrev Ga71 := fun w => @Try.isAgg71 w
abbrev Ga72 := fun w => @Try.isAgg72 w
abbrev Ga73 := fun w => @Try.isAgg73 w
abbrev Ga74 := fun w => @Try.isAgg74 w
abbrev Ga75 := fun w => @Try.isAgg75 w
abbrev Ga76 := fun w => @Try.isAgg76 w
abbrev Ga77 := fun w => @Try.isAgg77 w
abbrev Ga78 := fun w => @Try.isAgg78 w
abbrev Ga79 := fun w => @Try.isAgg79 w
abbrev Ga80 := fun w => @Try.isAgg80 w
abbrev Ga81 := fun w => @Try.isAgg81 w
abbrev Ga82 := fun w => @Try.isAgg82 w
abbrev Ga83 := fun w => @Try.isAgg83 w
abbrev Ga84 := fun w => @Try.isAgg84 w
abbrev Ga85 := fun w => @Try.isAgg85 w
abbrev Ga86 := fun w => @Try.isAgg86 w
abbrev Ga87 := fun w => @Try.isAgg87 w
abbrev Ga88 := fun w => @Try.isAgg88 w
abbrev Ga89 := fun w => @Try.isAgg89 w
abbrev Ga90 := fun w => @Try.isAgg90 w
abbrev Ga91 := fun w => @Try.isAgg91 w
abbrev Ga92 := fun w => @Try.isAgg92 w
abbrev Ga93 := fun w => @Try.isAgg93 w
abbrev Ga94 := fun w => @Try.isAgg94 w
abbrev Ga95 := fun w => @Try.isAgg95 w
abbrev Ga96 := fun w => @Try.isAgg96 w
abbrev Ga97 := fun w => @Try.isAgg97 w
abbrev Ga98 := fun w => @Try.isAgg98 w
abbrev Ga99 := fun w => @Try.isAgg99 w
abbrev Ga100 := fun w => @Try.isAgg100 w
abbrev Ga101 := fun w => @Try.isAgg101 w
abbrev Ga102 := fun w => @Try.isAgg102 w
abbrev Ga103 := fun w => @Try.isAgg103 w
abbrev Ga104 := fun w => @Try.isAgg104 w
abbrev Ga105 := fun w => @Try.isAgg105 w
abbrev Ga106 := fun w => @Try.isAgg106 w
abbrev Ga107 := fun w => @Try.isAgg107 w
abbrev Ga108 := fun w => @Try.isAgg108 w
abbrev Ga109 := fun w => @Try.isAgg109 w
abbrev Ga110 := fun w => @Try.isAgg110 w
abbrev Ga111 := fun w => @Try.isAgg111 w
abbrev Ga112 := fun w => @Try.isAgg112 w
abbrev Ga113 := fun w => @Try.isAgg113 w
abbrev Ga114 := fun w => @Try.isAgg114 w
abbrev Ga115 := fun w => @Try.isAgg115 w
abbrev Ga116 := fun w => @Try.isAgg116 w
abbrev Ga117 := fun w => @Try.isAgg117 w
abbrev Ga118 := fun w => @Try.isAgg118 w
abbrev Ga119 := fun w => @Try.isAgg119 w
abbrev Ga120 := fun w => @Try.isAgg120 w
abbrev Ga121 := fun w => @Try.isAgg121 w
abbrev Ga122 := fun w => @Try.isAgg122 w
abbrev Ga123 := fun w => @Try.isAgg123 w
abbrev Ga124 := fun w => @Try.isAgg124 w
abbrev Ga125 := fun w => @Try.isAgg125 w
abbrev Ga126 := fun w => @Try.isAgg126 w
abbrev Ga127 := fun w => @Try.isAgg127 w
abbrev Ga128 := fun w => @Try.isAgg128 w
abbrev Ga129 := fun w => @Try.isAgg129 w
abbrev Ga130 := fun w => @Try.isAgg130 w
abbrev Ga131 := fun w => @Try.isAgg131 w
abbrev Ga132 := fun w => @Try.isAgg132 w
abbrev Ga133 := fun w => @Try.isAgg133 w
abbrev Ga134 := fun w => @Try.isAgg134 w
abbrev Ga135 := fun w => @Try.isAgg135 w
abbrev Ga136 := fun w => @Try.isAgg136 w
abbrev Ga137 := fun w => @Try.isAgg137 w
abbrev Ga138 := fun w => @Try.isAgg138 w
abbrev Ga139 := fun w => @Try.isAgg139 w
abbrev Ga140 := fun w => @Try.isAgg140 w
abbrev Ga141 := fun w => @Try.isAgg141 w
abbrev Ga142 := fun w => @Try.isAgg142 w
abbrev Ga143 := fun w => @Try.isAgg143 w
abbrev Ga144 := fun w => @Try.isAgg144 w
abbrev Ga145 := fun w => @Try.isAgg145 w
abbrev Ga146 := fun w => @Try.isAgg146 w
abbrev Ga147 := fun w => @Try.isAgg147 w
abbrev Ga148 := fun w => @Try.isAgg148 w
abbrev Ga149 := fun w => @Try.isAgg149 w
abbrev Ga150 := fun w => @Try.isAgg150 w
abbrev Ga151 := fun w => @Try.isAgg151 w
abbrev Ga152 := fun w => @Try.isAgg152 w
abbrev Ga153 := fun w => @Try.isAgg153 w
abbrev Ga154 := fun w => @Try.isAgg154 w
abbrev Ga155 := fun w => @Try.isAgg155 w
abbrev Ga156 := fun w => @Try.isAgg156 w
abbrev Ga157 := fun w => @Try.isAgg157 w
abbrev Ga158 := fun w => @Try.isAgg158 w
abbrev Ga159 := fun w => @Try.isAgg159 w
abbrev Ga160 := fun w => @Try.isAgg160 w
abbrev Ga161 := fun w => @Try.isAgg161 w
abbrev Sz0 := fun w => @Try.sizeOf0 w
abbrev Sz1 := fun w => @Try.sizeOf1 w
abbrev Sz2 := fun w => @Try.sizeOf2 w
abbrev Sz3 := fun w => @Try.sizeOf3 w
abbrev Sz4 := fun w => @Try.sizeOf4 w
abbrev Sz5 := fun w => @Try.sizeOf5 w
abbrev Sz6 := fun w => @Try.sizeOf6 w
abbrev Sz7 := fun w => @Try.sizeOf7 w
abbrev Sz8 := fun w => @Try.sizeOf8 w
abbrev Sz9 := fun w => @Try.sizeOf9 w
abbrev Sz10 := fun w => @Try.sizeOf10 w
abbrev Sz11 := fun w => @Try.sizeOf11 w
abbrev Sz12 := fun w => @Try.sizeOf12 w
abbrev Sz13 := fun w => @Try.sizeOf13 w
abbrev Sz14 := fun w => @Try.sizeOf14 w
abbrev Sz15 := fun w => @Try.sizeOf15 w
abbrev Sz16 := fun w => @Try.sizeOf16 w
abbrev Sz17 := fun w => @Try.sizeOf17 w
abbrev Sz18 := fun w => @Try.sizeOf18 w
abbrev Sz19 := fun w => @Try.sizeOf19 w
abbrev Sz20 := fun w => @Try.sizeOf20 w
abbrev Sz21 := fun w => @Try.sizeOf21 w
abbrev Sz22 := fun w => @Try.sizeOf22 w
abbrev Sz23 := fun w => @Try.sizeOf23 w
abbrev Sz24 := fun w => @Try.sizeOf24 w
abbrev Sz25 := fun w => @Try.sizeOf25 w
abbrev Sz26 := fun w => @Try.sizeOf26 w
abbrev Sz27 := fun w => @Try.sizeOf27 w
abbrev Sz28 := fun w => @Try.sizeOf28 w
abbrev Sz29 := fun w => @Try.sizeOf29 w
abbrev Sz30 := fun w => @Try.sizeOf30 w
abbrev Sz31 := fun w => @Try.sizeOf31 w
abbrev Sz32 := fun w => @Try.sizeOf32 w
abbrev Sz33 := fun w => @Try.sizeOf33 w
abbrev Sz34 := fun w => @Try.sizeOf34 w
abbrev Sz35 := fun w => @Try.sizeOf35 w
abbrev Sz36 := fun w => @Try.sizeOf36 w
abbrev Sz37 := fun w => @Try.sizeOf37 w
abbrev Sz38 := fun w => @Try.sizeOf38 w
abbrev Sz39 := fun w => @Try.sizeOf39 w
abbrev Sz40 := fun w => @Try.sizeOf40 w
abbrev Sz41 := fun w => @Try.sizeOf41 w
abbrev Sz42 := fun w => @Try.sizeOf42 w
abbrev Sz43 := fun w => @Try.sizeOf43 w
abbrev Sz44 := fun w => @Try.sizeOf44 w
abbrev Sz45 := fun w => @Try.sizeOf45 w
abbrev Sz46 := fun w => @Try.sizeOf46 w
abbrev Sz47 := fun w => @Try.sizeOf47 w
abbrev Sz48 := fun w => @Try.sizeOf48 w
abbrev Sz49 := fun w => @Try.sizeOf49 w
abbrev Sz50 := fun w => @Try.sizeOf50 w
abbrev Sz51 := fun w => @Try.sizeOf51 w
abbrev Sz52 := fun w => @Try.sizeOf52 w
abbrev Sz53 := fun w => @Try.sizeOf53 w
abbrev Sz54 := fun w => @Try.sizeOf54 w
abbrev Sz55 := fun w => @Try.sizeOf55 w
abbrev Sz56 := fun w => @Try.sizeOf56 w
abbrev Sz57 := fun w => @Try.sizeOf57 w
abbrev Sz58 := fun w => @Try.sizeOf58 w
abbrev Sz59 := fun w => @Try.sizeOf59 w
abbrev Sz60 := fun w => @Try.sizeOf60 w
abbrev Sz61 := fun w => @Try.sizeOf61 w
abbrev Sz62 := fun w => @Try.sizeOf62 w
abbrev Sz63 := fun w => @Try.sizeOf63 w
abbrev Sz64 := fun w => @Try.sizeOf64 w
abbrev Sz65 := fun w => @Try.sizeOf65 w
abbrev Sz66 := fun w => @Try.sizeOf66 w
abbrev Sz67 := fun w => @Try.sizeOf67 w
abbrev Sz68 := fun w => @Try.sizeOf68 w
abbrev Sz69 := fun w => @Try.sizeOf69 w
abbrev Sz70 := fun w => @Try.sizeOf70 w
abbrev Sz71 := fun w => @Try.sizeOf71 w
abbrev Sz72 := fun w => @Try.sizeOf72 w
abbrev Sz73 := fun w => @Try.sizeOf73 w
abbrev Sz74 := fun w => @Try.sizeOf74 w
abbrev Sz75 := fun w => @Try.sizeOf75 w
abbrev Sz76 := fun w => @Try.sizeOf76 w
abbrev Sz77 := fun w => @Try.sizeOf77 w
abbrev Sz78 := fun w => @Try.sizeOf78 w
abbrev Sz79 := fun w => @Try.sizeOf79 w
abbrev Sz80 := fun w => @Try.sizeOf80 w
abbrev Sz81 := fun w => @Try.sizeOf81 w
abbrev Sz82 := fun w => @Try.sizeOf82 w
abbrev Sz83 := fun w => @Try.sizeOf83 w
abbrev Sz84 := fun w => @Try.sizeOf84 w
abbrev Sz85 := fun w => @Try.sizeOf85 w
abbrev Sz86 := fun w => @Try.sizeOf86 w
abbrev Sz87 := fun w => @Try.sizeOf87 w
abbrev Sz88 := fun w => @Try.sizeOf88 w
abbrev Sz89 := fun w => @Try.sizeOf89 w
abbrev Sz90 := fun w => @Try.sizeOf90 w
abbrev Sz91 := fun w => @Try.sizeOf91 w
abbrev Sz92 := fun w => @Try.sizeOf92 w
abbrev Sz93 := fun w => @Try.sizeOf93 w
abbrev Sz94 := fun w => @Try.sizeOf94 w
abbrev Sz95 := fun w => @Try.sizeOf95 w
abbrev Sz96 := fun w => @Try.sizeOf96 w
abbrev Sz97 := fun w => @Try.sizeOf97 w
abbrev Sz98 := fun w => @Try.sizeOf98 w
abbrev Sz99 := fun w => @Try.sizeOf99 w
abbrev Sz100 := fun w => @Try.sizeOf100 w
abbrev Sz101 := fun w => @Try.sizeOf101 w
abbrev Sz102 := fun w => @Try.sizeOf102 w
abbrev Sz103 := fun w => @Try.sizeOf103 w
abbrev Sz104 := fun w => @Try.sizeOf104 w
abbrev Sz105 := fun w => @Try.sizeOf105 w
abbrev Sz106 := fun w => @Try.sizeOf106 w
abbrev Sz107 := fun w => @Try.sizeOf107 w
abbrev Sz108 := fun w => @Try.sizeOf108 w
abbrev Sz109 := fun w => @Try.sizeOf109 w
abbrev Sz110 := fun w => @Try.sizeOf110 w
abbrev Sz111 := fun w => @Try.sizeOf111 w
abbrev Sz112 := fun w => @Try.sizeOf112 w
abbrev Sz113 := fun w => @Try.sizeOf113 w
abbrev Sz114 := fun w => @Try.sizeOf114 w
abbrev Sz115 := fun w => @Try.sizeOf115 w
abbrev Sz116 := fun w => @Try.sizeOf116 w
abbrev Sz117 := fun w => @Try.sizeOf117 w
abbrev Sz118 := fun w => @Try.sizeOf118 w
abbrev Sz119 := fun w => @Try.sizeOf119 w
abbrev Sz120 := fun w => @Try.sizeOf120 w
abbrev Sz121 := fun w => @Try.sizeOf121 w
abbrev Sz122 := fun w => @Try.sizeOf122 w
abbrev Sz123 := fun w => @Try.sizeOf123 w
abbrev Sz124 := fun w => @Try.sizeOf124 w
abbrev Sz125 := fun w => @Try.sizeOf125 w
abbrev Sz126 := fun w => @Try.sizeOf126 w
abbrev Sz127 := fun w => @Try.sizeOf127 w
abbrev Sz128 := fun w => @Try.sizeOf128 w
abbrev Sz129 := fun w => @Try.sizeOf129 w
abbrev Sz130 := fun w => @Try.sizeOf130 w
abbrev Sz131 := fun w => @Try.sizeOf131 w
abbrev Sz132 := fun w => @Try.sizeOf132 w
abbrev Sz133 := fun w => @Try.sizeOf133 w
abbrev Sz134 := fun w => @Try.sizeOf134 w
abbrev Sz135 := fun w => @Try.sizeOf135 w
abbrev Sz136 := fun w => @Try.sizeOf136 w
abbrev Sz137 := fun w => @Try.sizeOf137 w
abbrev Sz138 := fun w => @Try.sizeOf138 w
abbrev Sz139 := fun w => @Try.sizeOf139 w
abbrev Sz140 := fun w => @Try.sizeOf140 w
abbrev Sz141 := fun w => @Try.sizeOf141 w
abbrev Sz142 := fun w => @Try.sizeOf142 w
abbrev Sz143 := fun w => @Try.sizeOf143 w
abbrev Sz144 := fun w => @Try.sizeOf144 w
abbrev Sz145 := fun w => @Try.sizeOf145 w
abbrev Sz146 := fun w => @Try.sizeOf146 w
abbrev Sz147 := fun w => @Try.sizeOf147 w
abbrev Sz148 := fun w => @Try.sizeOf148 w
abbrev Sz149 := fun w => @Try.sizeOf149 w
abbrev Sz150 := fun w => @Try.sizeOf150 w
abbrev Sz151 := fun w => @Try.sizeOf151 w
abbrev Sz152 := fun w => @Try.sizeOf152 w
abbrev Sz153 := fun w => @Try.sizeOf153 w
abbrev Sz154 := fun w => @Try.sizeOf154 w
abbrev Sz155 := fun w => @Try.sizeOf155 w
abbrev Sz156 := fun w => @Try.sizeOf156 w
abbrev Sz157 := fun w => @Try.sizeOf157 w
abbrev Sz158 := fun w => @Try.sizeOf158 w
abbrev Sz159 := fun w => @Try.sizeOf159 w
abbrev Sz160 := fun w => @Try.sizeOf160 w
abbrev Sz161 := fun w => @Try.sizeOf161 w
abbrev Un0 := @Try.underlying0
abbrev Un1 := @Try.underlying1
abbrev Un2 := @Try.underlying2
abbrev Un3 := @Try.underlying3
abbrev Un4 := @Try.underlying4
abbrev Un5 := @Try.underlying5
abbrev Un6 := @Try.underlying6
abbrev Un7 := @Try.underlying7
abbrev Un8 := @Try.underlying8
abbrev Un9 := @Try.underlying9
abbrev Un10 := @Try.underlying10
abbrev Un11 := @Try.underlying11
abbrev Un12 := @Try.underlying12
abbrev Un13 := @Try.underlying13
abbrev Un14 := @Try.underlying14
abbrev Un15 := @Try.underlying15
abbrev Un16 := @Try.underlying16
abbrev Un17 := @Try.underlying17
abbrev Un18 := @Try.underlying18
abbrev Un19 := @Try.underlying19
abbrev Un20 := @Try.underlying20
abbrev Un21 := @Try.underlying21
abbrev Un22 := @Try.underlying22
abbrev Un23 := @Try.underlying23
abbrev Un24 := @Try.underlying24
abbrev Un25 := @Try.underlying25
abbrev Un26 := @Try.underlying26
abbrev Un27 := @Try.underlying27
abbrev Un28 := @Try.underlying28
abbrev Un29 := @Try.underlying29
abbrev Un30 := @Try.underlying30
abbrev Un31 := @Try.underlying31
abbrev Un32 := @Try.underlying32
abbrev Un33 := @Try.underlying33
abbrev Un34 := @Try.underlying34
abbrev Un35 := @Try.underlying35
abbrev Un36 := @Try.underlying36
abbrev Un37 := @Try.underlying37
abbrev Un38 := @Try.underlying38
abbrev Un39 := @Try.underlying39
abbrev Un40 := @Try.underlying40
abbrev Un41 := @Try.underlying41
abbrev Un42 := @Try.underlying42
abbrev Un43 := @Try.underlying43
abbrev Un44 := @Try.underlying44
abbrev Un45 := @Try.underlying45
abbrev Un46 := @Try.underlying46
abbrev Un47 := @Try.underlying47
abbrev Un48 := @Try.underlying48
abbrev Un49 := @Try.underlying49
abbrev Un50 := @Try.underlying50
abbrev Un51 := @Try.underlying51
abbrev Un52 := @Try.underlying52
abbrev Un53 := @Try.underlying53
abbrev Un54 := @Try.underlying54
abbrev Un55 := @Try.underlying55
abbrev Un56 := @Try.underlying56
abbrev Un57 := @Try.underlying57
abbrev Un58 := @Try.underlying58
abbrev Un59 := @Try.underlying59
abbrev Un60 := @Try.underlying60
abbrev Un61 := @Try.underlying61
abbrev Un62 := @Try.underlying62
abbrev Un63 := @Try.underlying63
abbrev Un64 := @Try.underlying64
abbrev Un65 := @Try.underlying65
abbrev Un66 := @Try.underlying66
abbrev Un67 := @Try.underlying67
abbrev Un68 := @Try.underlying68
abbrev Un69 := @Try.underlying69
abbrev Un70 := @Try.underlying70
abbrev Un71 := @Try.underlying71
abbrev Un72 := @Try.underlying72
abbrev Un73 := @Try.underlying73
abbrev Un74 := @Try.underlying74
abbrev Un75 := @Try.underlying75
abbrev Un76 := @Try.underlying76
abbrev Un77 := @Try.underlying77
abbrev Un78 := @Try.underlying78
abbrev Un79 := @Try.underlying79
abbrev Un80 := @Try.underlying80
abbrev Un81 := @Try.underlying81
abbrev Un82 := @Try.underlying82
abbrev Un83 := @Try.underlying83
abbrev Un84 := @Try.underlying84
abbrev Un85 := @Try.underlying85
abbrev Un86 := @Try.underlying86
abbrev Un87 := @Try.underlying87
abbrev Un88 := @Try.underlying88
abbrev Un89 := @Try.underlying89
abbrev Un90 := @Try.underlying90
abbrev Un91 := @Try.underlying91
abbrev Un92 := @Try.underlying92
abbrev Un93 := @Try.underlying93
abbrev Un94 := @Try.underlying94
abbrev Un95 := @Try.underlying95
abbrev Un96 := @Try.underlying96
abbrev Un97 := @Try.underlying97
abbrev Un98 := @Try.underlying98
abbrev Un99 := @Try.underlying99
abbrev Un100 := @Try.underlying100
abbrev Un101 := @Try.underlying101
abbrev Un102 := @Try.underlying102
abbrev Un103 := @Try.underlying103
abbrev Un104 := @Try.underlying104
abbrev Un105 := @Try.underlying105
abbrev Un106 := @Try.underlying106
abbrev Un107 := @Try.underlying107
abbrev Un108 := @Try.underlying108
abbrev Un109 := @Try.underlying109
abbrev Un110 := @Try.underlying110
abbrev Un111 := @Try.underlying111
abbrev Un112 := @Try.underlying112
abbrev Un113 := @Try.underlying113
abbrev Un114 := @Try.underlying114
abbrev Un115 := @Try.underlying115
abbrev Un116 := @Try.underlying116
abbrev Un117 := @Try.underlying117
abbrev Un118 := @Try.underlying118
abbrev Un119 := @Try.underlying119
abbrev Un120 := @Try.underlying120
abbrev Un121 := @Try.underlying121
abbrev Un122 := @Try.underlying122
abbrev Un123 := @Try.underlying123
abbrev Un124 := @Try.underlying124
abbrev Un125 := @Try.underlying125
abbrev Un126 := @Try.underlying126
abbrev Un127 := @Try.underlying127
abbrev Un128 := @Try.underlying128
abbrev Un129 := @Try.underlying129
abbrev Un130 := @Try.underlying130
abbrev Un131 := @Try.underlying131
abbrev Un132 := @Try.underlying132
abbrev Un133 := @Try.underlying133
abbrev Un134 := @Try.underlying134
abbrev Un135 := @Try.underlying135
abbrev Un136 := @Try.underlying136
abbrev Un137 := @Try.underlying137
abbrev Un138 := @Try.underlying138
abbrev Un139 := @Try.underlying139
abbrev Un140 := @Try.underlying140
abbrev Un141 := @Try.underlying141
abbrev Un142 := @Try.underlying142
abbrev Un143 := @Try.underlying143
abbrev Un144 := @Try.underlying144
abbrev Un145 := @Try.underlying145
abbrev Un146 := @Try.underlying146
abbrev Un147 := @Try.underlying147
abbrev Un148 := @Try.underlying148
abbrev Un149 := @Try.underlying149
abbrev Un150 := @Try.underlying150
abbrev Un151 := @Try.underlying151
abbrev Un152 := @Try.underlying152
abbrev Un153 := @Try.underlying153
abbrev Un154 := @Try.underlying154
abbrev Un155 := @Try.underlying155
abbrev Un156 := @Try.underlying156
abbrev Un157 := @Try.underlying157
abbrev Un158 := @Try.underlying158
abbrev Un159 := @Try.underlying159
abbrev Un160 := @Try.underlying160
abbrev Un161 := @Try.underlying161
end Go.Proofs.Ytmcdamcedemdiaa
