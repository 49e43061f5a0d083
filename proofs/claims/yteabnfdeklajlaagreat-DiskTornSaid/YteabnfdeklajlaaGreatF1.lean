/- Part of a proof, by program out of hand-written texts. -/
import Derived.Test.YteabnfdeklajlaaGreatV1
import Derived.KernelRfl
import Derived.Test.YteabnfdeklajlaaGreatChecked
set_option linter.unusedVariables false
set_option linter.unusedSimpArgs false
set_option maxRecDepth 10000
namespace Go.Proofs
open Go Go.V
theorem Tryz.i3 : Inf Tryz.prog 3 (.int .i64 0) 1 8 := by unfold Inf; kernel_rfl
theorem Tryz.i4 : Inf Tryz.prog 4 (.bool false) 1 1 := by unfold Inf; kernel_rfl
theorem Tryz.i5 : Inf Tryz.prog 5 (.int .u8 0) 1 1 := by unfold Inf; kernel_rfl
theorem Tryz.i9 : Inf Tryz.prog 9 (.string ByteArray.empty) 1 16 := by unfold Inf; kernel_rfl
theorem Tryz.i22 : Inf Tryz.prog 22 (.slice none 0 0) 1 24 := by unfold Inf; kernel_rfl
theorem Tryz.i33 : Inf Tryz.prog 33 (.agg #[.int .i64 0, .int .i64 0]) 2 16 := by unfold Inf; kernel_rfl
theorem Tryz.i34 : Inf Tryz.prog 34 (.slice none 0 0) 1 24 := by unfold Inf; kernel_rfl
theorem Tryz.i36 : Inf Tryz.prog 36 (.agg #[.slice none 0 0, .slice none 0 0]) 2 48 := by unfold Inf; kernel_rfl
theorem Tryz.i44 : Inf Tryz.prog 44 (.slice none 0 0) 1 24 := by unfold Inf; kernel_rfl
theorem Tryz.i45 : Inf Tryz.prog 45 (.slice none 0 0) 1 24 := by unfold Inf; kernel_rfl
theorem Tryz.i47 : Inf Tryz.prog 47 (.agg #[.int .i64 0, .slice none 0 0, .slice none 0 0]) 3 56 := by unfold Inf; kernel_rfl
theorem Tryz.i51 : Inf Tryz.prog 51 (.agg #[.bool false, .int .i64 0, .slice none 0 0]) 3 40 := by unfold Inf; kernel_rfl
theorem Tryz.i53 : Inf Tryz.prog 53 (.slice none 0 0) 1 24 := by unfold Inf; kernel_rfl
theorem Tryz.i55 : Inf Tryz.prog 55 (.agg #[.int .u8 0, .bool false]) 2 2 := by unfold Inf; kernel_rfl
theorem Tryz.i59 : Inf Tryz.prog 59 (.agg #[.int .i64 0, .slice none 0 0]) 2 32 := by unfold Inf; kernel_rfl
theorem Tryz.i61 : Inf Tryz.prog 61 (.agg #[.string ByteArray.empty, .slice none 0 0]) 2 40 := by unfold Inf; kernel_rfl
theorem Tryz.i96 : Inf Tryz.prog 96 (.pointer none) 1 8 := by unfold Inf; kernel_rfl
theorem Tryz.i100 : Inf Tryz.prog 100 (.map none) 1 8 := by unfold Inf; kernel_rfl
theorem Tryz.i101 : Inf Tryz.prog 101 (.map none) 1 8 := by unfold Inf; kernel_rfl
theorem Tryz.i102 : Inf Tryz.prog 102 (.slice none 0 0) 1 24 := by unfold Inf; kernel_rfl
theorem Tryz.i107 : Inf Tryz.prog 107 (.agg #[.string ByteArray.empty, .string ByteArray.empty, .int .i64 0]) 3 40 := by unfold Inf; kernel_rfl
theorem Tryz.i109 : Inf Tryz.prog 109 (.slice none 0 0) 1 24 := by unfold Inf; kernel_rfl
theorem Tryz.i115 : Inf Tryz.prog 115 (.nilFunc) 1 8 := by unfold Inf; kernel_rfl
theorem Tryz.i116 : Inf Tryz.prog 116 (.nilFunc) 1 8 := by unfold Inf; kernel_rfl
theorem Tryz.i125 : Inf Tryz.prog 125 (.map none) 1 8 := by unfold Inf; kernel_rfl
theorem Tryz.i126 : Inf Tryz.prog 126 (.slice none 0 0) 1 24 := by unfold Inf; kernel_rfl
theorem Tryz.i128 : Inf Tryz.prog 128 (.agg #[.slice none 0 0, .slice none 0 0]) 2 48 := by unfold Inf; kernel_rfl
theorem Tryz.i150 : Inf Tryz.prog 150 (.nilIface) 1 16 := by unfold Inf; kernel_rfl
theorem Tryz.mixed : Tryz.prog.follows .mixedOrders = true := by kernel_rfl
theorem Tryz.bf0 (w1 : Int) (w : World) : (Instr.buildSlice 22 1 #[(0, (.int .u8 w1 : Value))]).run Tryz.prog w = .ok (.slice (some ⟨w.heap.size, 0, none⟩) 1 1) { w with heap := w.heap.push (.cells #[.int .u8 w1] 5) } := by kernel_rfl
theorem Tryz.bf1 (w1 : Int) (w2 : Int) (w3 : Int) (w4 : Int) (w : World) : (Instr.buildSlice 22 4 #[(0, (.int .u8 w1 : Value)), (1, (.int .u8 w2 : Value)), (2, (.int .u8 w3 : Value)), (3, (.int .u8 w4 : Value))]).run Tryz.prog w = .ok (.slice (some ⟨w.heap.size, 0, none⟩) 4 4) { w with heap := w.heap.push (.cells #[.int .u8 w1, .int .u8 w2, .int .u8 w3, .int .u8 w4] 5) } := by kernel_rfl
theorem Tryz.bf2 (w1 : Int) (w2 : Int) (w3 : Int) (w4 : Int) (w5 : Int) (w6 : Int) (w7 : Int) (w8 : Int) (w9 : Int) (w10 : Int) (w11 : Int) (w12 : Int) (w13 : Int) (w14 : Int) (w15 : Int) (w16 : Int) (w17 : Int) (w18 : Int) (w19 : Int) (w20 : Int) (w : World) : (Instr.buildSlice 22 20 #[(0, (.int .u8 w1 : Value)), (1, (.int .u8 w2 : Value)), (2, (.int .u8 w3 : Value)), (3, (.int .u8 w4 : Value)), (4, (.int .u8 w5 : Value)), (5, (.int .u8 w6 : Value)), (6, (.int .u8 w7 : Value)), (7, (.int .u8 w8 : Value)), (8, (.int .u8 w9 : Value)), (9, (.int .u8 w10 : Value)), (10, (.int .u8 w11 : Value)), (11, (.int .u8 w12 : Value)), (12, (.int .u8 w13 : Value)), (13, (.int .u8 w14 : Value)), (14, (.int .u8 w15 : Value)), (15, (.int .u8 w16 : Value)), (16, (.int .u8 w17 : Value)), (17, (.int .u8 w18 : Value)), (18, (.int .u8 w19 : Value)), (19, (.int .u8 w20 : Value))]).run Tryz.prog w = .ok (.slice (some ⟨w.heap.size, 0, none⟩) 20 20) { w with heap := w.heap.push (.cells #[.int .u8 w1, .int .u8 w2, .int .u8 w3, .int .u8 w4, .int .u8 w5, .int .u8 w6, .int .u8 w7, .int .u8 w8, .int .u8 w9, .int .u8 w10, .int .u8 w11, .int .u8 w12, .int .u8 w13, .int .u8 w14, .int .u8 w15, .int .u8 w16, .int .u8 w17, .int .u8 w18, .int .u8 w19, .int .u8 w20] 5) } := by kernel_rfl
theorem Tryz.bf3 (w1 : Int) (w2A : Option Addr) (w2n : Nat) (w2c : Nat) : Tryz.prog.built 59 [(0, (.int .i64 w1 : Value)), (1, (.slice w2A w2n w2c : Value))] = some #[.int .i64 w1, .slice w2A w2n w2c] := by kernel_rfl
theorem Tryz.bf4 (w1A : Option Addr) (w1n : Nat) (w1c : Nat) : Tryz.prog.built 47 [(2, (.slice w1A w1n w1c : Value))] = some #[.int .i64 0, .slice none 0 0, .slice w1A w1n w1c] := by kernel_rfl
theorem Tryz.bf5 (w2 : Int) (w3A : Option Addr) (w3n : Nat) (w3c : Nat) (w : World) : (Instr.buildSlice 45 1 #[(0, (.agg #[.int .i64 w2, .slice w3A w3n w3c] : Value))]).run Tryz.prog w = .ok (.slice (some ⟨w.heap.size, 0, none⟩) 1 1) { w with heap := w.heap.push (.cells #[.int .i64 w2, .slice w3A w3n w3c] 59) } := by kernel_rfl
theorem Tryz.bf6 (w1 : Int) (w : World) : (Instr.buildSlice 44 1 #[(0, (.int .i64 w1 : Value))]).run Tryz.prog w = .ok (.slice (some ⟨w.heap.size, 0, none⟩) 1 1) { w with heap := w.heap.push (.cells #[.int .i64 w1] 3) } := by kernel_rfl
theorem Tryz.bf7 (w2 : Option Addr) (w3 : Option Addr) (w : World) : (Instr.buildSlice 146 1 #[(0, (.func (.func 51) #[] #[.pointer w2, .pointer w3] : Value))]).run Tryz.prog w = .ok (.slice (some ⟨w.heap.size, 0, none⟩) 1 1) { w with heap := w.heap.push (.cells #[.func (.func 51) #[] #[.pointer w2, .pointer w3]] 116) } := by kernel_rfl
theorem Tryz.bf8 (w2 : Option Addr) (w : World) : (Instr.buildSlice 146 1 #[(0, (.func (.func 55) #[] #[.pointer w2] : Value))]).run Tryz.prog w = .ok (.slice (some ⟨w.heap.size, 0, none⟩) 1 1) { w with heap := w.heap.push (.cells #[.func (.func 55) #[] #[.pointer w2]] 116) } := by kernel_rfl
theorem Tryz.bf9 (w1A : Option Addr) (w1n : Nat) (w1c : Nat) (w2A : Option Addr) (w2n : Nat) (w2c : Nat) : Tryz.prog.built 36 [(0, (.slice w1A w1n w1c : Value)), (1, (.slice w2A w2n w2c : Value))] = some #[.slice w1A w1n w1c, .slice w2A w2n w2c] := by kernel_rfl
theorem Tryz.bf10 (w1 : Int) (w2 : Int) : Tryz.prog.built 104 [(0, (.int .i64 w1 : Value)), (1, (.int .i64 w2 : Value))] = some #[.int .i64 w1, .int .i64 w2, .int .i64 0, .map none, .map none, .slice none 0 0, .slice none 0 0, .slice none 0 0, .int .i64 0, .int .i64 0, .bool false] := by kernel_rfl
theorem Tryz.bf11 (w1 : ByteArray) (w2 : Int) : Tryz.prog.built 107 [(1, (.string w1 : Value)), (2, (.int .i64 w2 : Value))] = some #[.string ByteArray.empty, .string w1, .int .i64 w2] := by kernel_rfl
theorem Tryz.bf12 (w2 : ByteArray) (w3 : ByteArray) (w4 : Int) (w : World) : (Instr.buildSlice 102 1 #[(0, (.agg #[.string w2, .string w3, .int .i64 w4] : Value))]).run Tryz.prog w = .ok (.slice (some ⟨w.heap.size, 0, none⟩) 1 1) { w with heap := w.heap.push (.cells #[.string w2, .string w3, .int .i64 w4] 107) } := by kernel_rfl
theorem Tryz.bf13 (w1A : Option Addr) (w1n : Nat) (w1c : Nat) : Tryz.prog.built 111 [(0, (.slice w1A w1n w1c : Value))] = some #[.slice w1A w1n w1c, .slice none 0 0] := by kernel_rfl
theorem Tryz.bf14 (w1A : Option Addr) (w1n : Nat) (w1c : Nat) : Tryz.prog.built 114 [(0, (.slice w1A w1n w1c : Value))] = some #[.slice w1A w1n w1c] := by kernel_rfl
theorem Tryz.bf15 (w3A : Option Addr) (w3n : Nat) (w3c : Nat) (w : World) : (Instr.buildSlice 109 1 #[(0, (.iface 114 (.agg #[.slice w3A w3n w3c]) : Value))]).run Tryz.prog w = .ok (.slice (some ⟨w.heap.size, 0, none⟩) 1 1) { w with heap := w.heap.push (.cells #[.iface 114 (.agg #[.slice w3A w3n w3c])] 150) } := by kernel_rfl
theorem Tryz.bf16  (w : World) : (Instr.buildSlice 22 0 #[]).run Tryz.prog w = .ok (.slice (some ⟨w.heap.size, 0, none⟩) 0 0) { w with heap := w.heap.push (.cells #[] 5) } := by kernel_rfl
theorem Tryz.bf17  (w : World) : (Instr.buildSlice 34 0 #[]).run Tryz.prog w = .ok (.slice (some ⟨w.heap.size, 0, none⟩) 0 0) { w with heap := w.heap.push (.cells #[] 33) } := by kernel_rfl
theorem Tryz.bf18 (w1 : Int) : Tryz.prog.built 122 [(0, (.int .i64 w1 : Value))] = some #[.int .i64 w1] := by kernel_rfl
theorem Tryz.bf19 (w3 : Int) (w : World) : (Instr.buildSlice 109 1 #[(0, (.iface 122 (.agg #[.int .i64 w3]) : Value))]).run Tryz.prog w = .ok (.slice (some ⟨w.heap.size, 0, none⟩) 1 1) { w with heap := w.heap.push (.cells #[.iface 122 (.agg #[.int .i64 w3])] 150) } := by kernel_rfl
theorem Tryz.bf20 (w1A : Option Addr) (w1n : Nat) (w1c : Nat) (w2A : Option Addr) (w2n : Nat) (w2c : Nat) : Tryz.prog.built 128 [(0, (.slice w1A w1n w1c : Value)), (1, (.slice w2A w2n w2c : Value))] = some #[.slice w1A w1n w1c, .slice w2A w2n w2c] := by kernel_rfl
theorem Tryz.bf21  : Tryz.prog.built 107 [] = some #[.string ByteArray.empty, .string ByteArray.empty, .int .i64 0] := by kernel_rfl
theorem Tryz.bf22 (w1 : ByteArray) (w2A : Option Addr) (w2n : Nat) (w2c : Nat) : Tryz.prog.built 61 [(0, (.string w1 : Value)), (1, (.slice w2A w2n w2c : Value))] = some #[.string w1, .slice w2A w2n w2c] := by kernel_rfl
theorem Tryz.bf23 (w2 : ByteArray) (w3A : Option Addr) (w3n : Nat) (w3c : Nat) (w : World) : (Instr.buildSlice 42 1 #[(0, (.agg #[.string w2, .slice w3A w3n w3c] : Value))]).run Tryz.prog w = .ok (.slice (some ⟨w.heap.size, 0, none⟩) 1 1) { w with heap := w.heap.push (.cells #[.string w2, .slice w3A w3n w3c] 61) } := by kernel_rfl
theorem Tryz.bf26  (w : World) : (Instr.buildSlice 102 0 #[]).run Tryz.prog w = .ok (.slice (some ⟨w.heap.size, 0, none⟩) 0 0) { w with heap := w.heap.push (.cells #[] 107) } := by kernel_rfl
theorem Tryz.bf27 (w1 : Bool) (w : World) : (Instr.buildSlice 126 1 #[(0, (.bool w1 : Value))]).run Tryz.prog w = .ok (.slice (some ⟨w.heap.size, 0, none⟩) 1 1) { w with heap := w.heap.push (.cells #[.bool w1] 4) } := by kernel_rfl
theorem Tryz.bf28  : Tryz.prog.built 36 [] = some #[.slice none 0 0, .slice none 0 0] := by kernel_rfl
theorem Tryz.bf34 (w1 : Int) (w2 : Bool) : Tryz.prog.built 55 [(0, (.int .u8 w1 : Value)), (1, (.bool w2 : Value))] = some #[.int .u8 w1, .bool w2] := by kernel_rfl
theorem Tryz.bf35 (w2 : Int) (w3 : Bool) (w : World) : (Instr.buildSlice 53 1 #[(0, (.agg #[.int .u8 w2, .bool w3] : Value))]).run Tryz.prog w = .ok (.slice (some ⟨w.heap.size, 0, none⟩) 1 1) { w with heap := w.heap.push (.cells #[.int .u8 w2, .bool w3] 55) } := by kernel_rfl
theorem Tryz.bf36 (w1A : Option Addr) (w1n : Nat) (w1c : Nat) (w : World) : (Instr.buildSlice 52 1 #[(0, (.slice w1A w1n w1c : Value))]).run Tryz.prog w = .ok (.slice (some ⟨w.heap.size, 0, none⟩) 1 1) { w with heap := w.heap.push (.cells #[.slice w1A w1n w1c] 53) } := by kernel_rfl
theorem Tryz.nn9 : (Tryz.f9.name == "runtime.NumGoroutine") = false := by kernel_rfl
theorem Tryz.nn10 : (Tryz.f10.name == "runtime.NumGoroutine") = false := by kernel_rfl
theorem Tryz.nn11 : (Tryz.f11.name == "runtime.NumGoroutine") = false := by kernel_rfl
theorem Tryz.nn12 : (Tryz.f12.name == "runtime.NumGoroutine") = false := by kernel_rfl
theorem Tryz.nn13 : (Tryz.f13.name == "runtime.NumGoroutine") = false := by kernel_rfl
theorem Tryz.nn14 : (Tryz.f14.name == "runtime.NumGoroutine") = false := by kernel_rfl
theorem Tryz.nn15 : (Tryz.f15.name == "runtime.NumGoroutine") = false := by kernel_rfl
theorem Tryz.nn16 : (Tryz.f16.name == "runtime.NumGoroutine") = false := by kernel_rfl
theorem Tryz.nn17 : (Tryz.f17.name == "runtime.NumGoroutine") = false := by kernel_rfl
theorem Tryz.nn18 : (Tryz.f18.name == "runtime.NumGoroutine") = false := by kernel_rfl
theorem Tryz.nn20 : (Tryz.f20.name == "runtime.NumGoroutine") = false := by kernel_rfl
theorem Tryz.nn21 : (Tryz.f21.name == "runtime.NumGoroutine") = false := by kernel_rfl
theorem Tryz.nn22 : (Tryz.f22.name == "runtime.NumGoroutine") = false := by kernel_rfl
theorem Tryz.nn37 : (Tryz.f37.name == "runtime.NumGoroutine") = false := by kernel_rfl
theorem Tryz.nn38 : (Tryz.f38.name == "runtime.NumGoroutine") = false := by kernel_rfl
theorem Tryz.nn39 : (Tryz.f39.name == "runtime.NumGoroutine") = false := by kernel_rfl
theorem Tryz.nn40 : (Tryz.f40.name == "runtime.NumGoroutine") = false := by kernel_rfl
theorem Tryz.nn41 : (Tryz.f41.name == "runtime.NumGoroutine") = false := by kernel_rfl
theorem Tryz.nn42 : (Tryz.f42.name == "runtime.NumGoroutine") = false := by kernel_rfl
theorem Tryz.nn43 : (Tryz.f43.name == "runtime.NumGoroutine") = false := by kernel_rfl
theorem Tryz.nn44 : (Tryz.f44.name == "runtime.NumGoroutine") = false := by kernel_rfl
theorem Tryz.nn45 : (Tryz.f45.name == "runtime.NumGoroutine") = false := by kernel_rfl
theorem Tryz.nn46 : (Tryz.f46.name == "runtime.NumGoroutine") = false := by kernel_rfl
theorem Tryz.nn47 : (Tryz.f47.name == "runtime.NumGoroutine") = false := by kernel_rfl
theorem Tryz.nn48 : (Tryz.f48.name == "runtime.NumGoroutine") = false := by kernel_rfl
theorem Tryz.nn49 : (Tryz.f49.name == "runtime.NumGoroutine") = false := by kernel_rfl
theorem Tryz.nn50 : (Tryz.f50.name == "runtime.NumGoroutine") = false := by kernel_rfl
theorem Tryz.nn51 : (Tryz.f51.name == "runtime.NumGoroutine") = false := by kernel_rfl
theorem Tryz.nn52 : (Tryz.f52.name == "runtime.NumGoroutine") = false := by kernel_rfl
theorem Tryz.nn53 : (Tryz.f53.name == "runtime.NumGoroutine") = false := by kernel_rfl
theorem Tryz.nn54 : (Tryz.f54.name == "runtime.NumGoroutine") = false := by kernel_rfl
theorem Tryz.nn55 : (Tryz.f55.name == "runtime.NumGoroutine") = false := by kernel_rfl
theorem Tryz.nn56 : (Tryz.f56.name == "runtime.NumGoroutine") = false := by kernel_rfl
theorem Tryz.nn57 : (Tryz.f57.name == "runtime.NumGoroutine") = false := by kernel_rfl
theorem Tryz.nn58 : (Tryz.f58.name == "runtime.NumGoroutine") = false := by kernel_rfl
theorem Tryz.nn59 : (Tryz.f59.name == "runtime.NumGoroutine") = false := by kernel_rfl
theorem Tryz.nn60 : (Tryz.f60.name == "runtime.NumGoroutine") = false := by kernel_rfl
theorem Tryz.nn61 : (Tryz.f61.name == "runtime.NumGoroutine") = false := by kernel_rfl
theorem Tryz.nn62 : (Tryz.f62.name == "runtime.NumGoroutine") = false := by kernel_rfl
theorem Tryz.nn63 : (Tryz.f63.name == "runtime.NumGoroutine") = false := by kernel_rfl
theorem Tryz.nn64 : (Tryz.f64.name == "runtime.NumGoroutine") = false := by kernel_rfl
theorem Tryz.nn65 : (Tryz.f65.name == "runtime.NumGoroutine") = false := by kernel_rfl
theorem Tryz.nn66 : (Tryz.f66.name == "runtime.NumGoroutine") = false := by kernel_rfl
theorem Tryz.nn67 : (Tryz.f67.name == "runtime.NumGoroutine") = false := by kernel_rfl
theorem Tryz.nn68 : (Tryz.f68.name == "runtime.NumGoroutine") = false := by kernel_rfl
theorem Tryz.nn69 : (Tryz.f69.name == "runtime.NumGoroutine") = false := by kernel_rfl
theorem Tryz.nn70 : (Tryz.f70.name == "runtime.NumGoroutine") = false := by kernel_rfl
theorem Tryz.nn71 : (Tryz.f71.name == "runtime.NumGoroutine") = false := by kernel_rfl
theorem Tryz.nn82 : (Tryz.f82.name == "runtime.NumGoroutine") = false := by kernel_rfl
theorem Tryz.nn84 : (Tryz.f84.name == "runtime.NumGoroutine") = false := by kernel_rfl
theorem Tryz.nn85 : (Tryz.f85.name == "runtime.NumGoroutine") = false := by kernel_rfl
theorem Tryz.nn88 : (Tryz.f88.name == "runtime.NumGoroutine") = false := by kernel_rfl
theorem Tryz.nn90 : (Tryz.f90.name == "runtime.NumGoroutine") = false := by kernel_rfl
theorem Tryz.nn91 : (Tryz.f91.name == "runtime.NumGoroutine") = false := by kernel_rfl
theorem Tryz.nn92 : (Tryz.f92.name == "runtime.NumGoroutine") = false := by kernel_rfl
theorem Tryz.nn93 : (Tryz.f93.name == "runtime.NumGoroutine") = false := by kernel_rfl
theorem Tryz.nn94 : (Tryz.f94.name == "runtime.NumGoroutine") = false := by kernel_rfl
theorem Tryz.nn95 : (Tryz.f95.name == "runtime.NumGoroutine") = false := by kernel_rfl
theorem Tryz.nn102 : (Tryz.f102.name == "runtime.NumGoroutine") = false := by kernel_rfl
theorem Tryz.nn103 : (Tryz.f103.name == "runtime.NumGoroutine") = false := by kernel_rfl
theorem Tryz.nn104 : (Tryz.f104.name == "runtime.NumGoroutine") = false := by kernel_rfl
theorem Tryz.nn105 : (Tryz.f105.name == "runtime.NumGoroutine") = false := by kernel_rfl
theorem Tryz.nn106 : (Tryz.f106.name == "runtime.NumGoroutine") = false := by kernel_rfl
theorem Tryz.nn108 : (Tryz.f108.name == "runtime.NumGoroutine") = false := by kernel_rfl
theorem Tryz.nn172 : (Tryz.f172.name == "runtime.NumGoroutine") = false := by kernel_rfl
theorem Tryz.nn173 : (Tryz.f173.name == "runtime.NumGoroutine") = false := by kernel_rfl
theorem Tryz.nn174 : (Tryz.f174.name == "runtime.NumGoroutine") = false := by kernel_rfl
theorem Tryz.nn175 : (Tryz.f175.name == "runtime.NumGoroutine") = false := by kernel_rfl
end Go.Proofs
