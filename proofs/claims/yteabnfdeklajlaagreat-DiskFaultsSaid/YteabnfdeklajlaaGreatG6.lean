/- Part of a proof, by program out of hand-written texts. -/
import Derived.Test.YteabnfdeklajlaaGreatF1
set_option linter.unusedVariables false
set_option linter.unusedSimpArgs false
set_option maxRecDepth 10000
namespace Go.Proofs
open Go Go.V
def D_treadlelaw3_DiskFaults.J8 (R : Value → Hp → Prop)  (y10 : Option Addr) (j47A : Option Addr) (j47n : Nat) (j47c : Nat) (j64 : Bool) (h65 : Hp) : Prop :=
  ((j64 = true → R (.bool false) h65) ∧ (j64 = false → CH Tryz.prog 20 #[.pointer y10, .agg #[.int .i64 0, .slice none 0 0, .slice none 0 0]] h65 (fun r67 h68 => ∃ y69A : Option Addr, ∃ y69n : Nat, ∃ y69c : Nat, r67 = .slice y69A y69n y69c ∧ CH Tryz.prog 18 #[.pointer y10, .string (ByteArray.mk #[102])] h68 (fun r70 h71 => ∃ y72_0A : Option Addr, ∃ y72_0n : Nat, ∃ y72_0c : Nat, ∃ y72_1 : Int, r70 = .tuple #[.slice y72_0A y72_0n y72_0c, .int .i64 y72_1] ∧ (((y72_1 == 0) = true → CH Tryz.prog 19 #[.slice y72_0A y72_0n y72_0c, .slice j47A j47n j47c] h71 (fun r74 h75 => ∃ y76 : Bool, r74 = .bool y76 ∧ ((y76 = true → CH Tryz.prog 9 #[] h75 (fun r78 h79 => ∃ y80 : Bool, r78 = .bool y80 ∧ R (.bool y80) h79)) ∧ (y76 = false → R (.bool false) h75)))) ∧ ((y72_1 == 0) = false → R (.bool false) h71))))))
def D_treadlelaw3_DiskFaults.J7 (R : Value → Hp → Prop)  (baseA : Option Addr) (basen : Nat) (basec : Nat) (y10 : Option Addr) (j47A : Option Addr) (j47n : Nat) (j47c : Nat)  (h57 : Hp) : Prop :=
  CH Tryz.prog 18 #[.pointer y10, .string (ByteArray.mk #[102])] h57 (fun r58 h59 => ∃ y60_0A : Option Addr, ∃ y60_0n : Nat, ∃ y60_0c : Nat, ∃ y60_1 : Int, r58 = .tuple #[.slice y60_0A y60_0n y60_0c, .int .i64 y60_1] ∧ CH Tryz.prog 18 #[.pointer y10, .string (ByteArray.mk #[103])] h59 (fun r61 h62 => ∃ y63_0A : Option Addr, ∃ y63_0n : Nat, ∃ y63_0c : Nat, ∃ y63_1 : Int, r61 = .tuple #[.slice y63_0A y63_0n y63_0c, .int .i64 y63_1] ∧ (((y60_1 != 0) = true → D_treadlelaw3_DiskFaults.J8 R  y10 j47A j47n j47c true h62) ∧ ((y60_1 != 0) = false → (((y63_1 != 0) = true → D_treadlelaw3_DiskFaults.J8 R  y10 j47A j47n j47c true h62) ∧ ((y63_1 != 0) = false → CH Tryz.prog 19 #[.slice y60_0A y60_0n y60_0c, .slice j47A j47n j47c] h62 (fun r87 h88 => ∃ y89 : Bool, r87 = .bool y89 ∧ (((!y89) = true → D_treadlelaw3_DiskFaults.J8 R  y10 j47A j47n j47c true h88) ∧ ((!y89) = false → CH Tryz.prog 19 #[.slice y63_0A y63_0n y63_0c, .slice baseA basen basec] h88 (fun r91 h92 => ∃ y93 : Bool, r91 = .bool y93 ∧ (((!y93) = true → D_treadlelaw3_DiskFaults.J8 R  y10 j47A j47n j47c true h92) ∧ ((!y93) = false → CH Tryz.prog 13 #[.pointer y10, .string (ByteArray.mk #[102])] h92 (fun r95 h96 => ∃ y97 : Int, r95 = .int .i64 y97 ∧ D_treadlelaw3_DiskFaults.J8 R  y10 j47A j47n j47c (y97 != 0) h96)))))))))))))
def D_treadlelaw3_DiskFaults.J10 (R : Value → Hp → Prop) (C105 : Int → Hp → Prop) (j103 : Int) (j107 : Bool) (h108 : Hp) : Prop :=
  ((j107 = true → R (.bool false) h108) ∧ (j107 = false → C105 (IntKind.i64.wrap (j103 + 1)) h108))
def D_treadlelaw3_DiskFaults.L9 (R : Value → Hp → Prop)  (baseA : Option Addr) (basen : Nat) (basec : Nat) (y10 : Option Addr) (y18 : Int) (j47A : Option Addr) (j47n : Nat) (j47c : Nat) (b56 : Nat) (C105 : Int → Hp → Prop) (j103 : Int) (h104 : Hp) : Prop :=
  (((decide (j103 < 5)) = true → ((((IntKind.i64.wrap (j103 + 1)) == (IntKind.i64.wrap (1 + y18))) = true → (∃ a111 : Addr, (some (Addr.mk b56 0 none)) = some a111 ∧ (0 : Int) ≤ j103 ∧ j103 < (5 : Int) ∧ (∃ x115 : Int, cell h104 (a111.add (Int.toNat j103 * 1)) = some (.int .i64 x115) ∧ (((x115 != 10) = true → D_treadlelaw3_DiskFaults.J10 R C105 j103 true h104) ∧ ((x115 != 10) = false → ((((IntKind.i64.wrap (j103 + 1)) != (IntKind.i64.wrap (1 + y18))) = true → (∃ a119 : Addr, (some (Addr.mk b56 0 none)) = some a119 ∧ (0 : Int) ≤ j103 ∧ j103 < (5 : Int) ∧ (∃ x123 : Int, cell h104 (a119.add (Int.toNat j103 * 1)) = some (.int .i64 x123) ∧ D_treadlelaw3_DiskFaults.J10 R C105 j103 (x123 != 0) h104))) ∧ (((IntKind.i64.wrap (j103 + 1)) != (IntKind.i64.wrap (1 + y18))) = false → D_treadlelaw3_DiskFaults.J10 R C105 j103 false h104))))))) ∧ (((IntKind.i64.wrap (j103 + 1)) == (IntKind.i64.wrap (1 + y18))) = false → ((((IntKind.i64.wrap (j103 + 1)) != (IntKind.i64.wrap (1 + y18))) = true → (∃ a126 : Addr, (some (Addr.mk b56 0 none)) = some a126 ∧ (0 : Int) ≤ j103 ∧ j103 < (5 : Int) ∧ (∃ x130 : Int, cell h104 (a126.add (Int.toNat j103 * 1)) = some (.int .i64 x130) ∧ D_treadlelaw3_DiskFaults.J10 R C105 j103 (x130 != 0) h104))) ∧ (((IntKind.i64.wrap (j103 + 1)) != (IntKind.i64.wrap (1 + y18))) = false → D_treadlelaw3_DiskFaults.J10 R C105 j103 false h104))))) ∧ ((decide (j103 < 5)) = false → D_treadlelaw3_DiskFaults.J7 R  baseA basen basec y10 j47A j47n j47c  h104))
def D_treadlelaw3_DiskFaults.J6 (R : Value → Hp → Prop)  (baseA : Option Addr) (basen : Nat) (basec : Nat) (y10 : Option Addr) (y18 : Int) (y36 : Int) (y41 : Int) (y46 : Int) (j47A : Option Addr) (j47n : Nat) (j47c : Nat) (h48 : Hp) : Prop :=
  CH Tryz.prog 14 #[.pointer y10] h48 (fun r49 h50 => ∃ y51 : Int, r49 = .int .i64 y51 ∧ CH Tryz.prog 17 #[.pointer y10, .string (ByteArray.mk #[102]), .int .i64 ((j47n : Nat) : Int)] h50 (fun r52 h53 => ∃ y54 : Int, r52 = .int .i64 y54 ∧ (∀ b56 h55, b56 = Array.size h53 → h55 = Array.push h53 (.cells #[.int .i64 y36, .int .i64 y41, .int .i64 y46, .int .i64 y51, .int .i64 y54] 26) → (∃ Inv : Int → Hp → Nat → Prop, (∃ m, Inv 0 h55 m) ∧ ∀ j103 h104 m, Inv j103 h104 m → D_treadlelaw3_DiskFaults.L9 R  baseA basen basec y10 y18 j47A j47n j47c b56 (fun j103 h104 => ∃ m1, m1 < m ∧ Inv j103 h104 m1) j103 h104))))
def D_treadlelaw3_DiskFaults.J11 (R : Value → Hp → Prop)  (baseA : Option Addr) (basen : Nat) (basec : Nat) (y10 : Option Addr) (y18 : Int) (y36 : Int) (y41 : Int) (j42A : Option Addr) (j42n : Nat) (j42c : Nat) (y46 : Int) (j136 : Bool) (h137 : Hp) : Prop :=
  ((j136 = true → D_treadlelaw3_DiskFaults.J6 R  baseA basen basec y10 y18 y36 y41 y46 baseA basen basec h137) ∧ (j136 = false → D_treadlelaw3_DiskFaults.J6 R  baseA basen basec y10 y18 y36 y41 y46 j42A j42n j42c h137))
def D_treadlelaw3_DiskFaults.J5 (R : Value → Hp → Prop)  (baseA : Option Addr) (basen : Nat) (basec : Nat) (lost : Bool) (y10 : Option Addr) (y18 : Int) (y36 : Int) (y41 : Int) (j42A : Option Addr) (j42n : Nat) (j42c : Nat) (h43 : Hp) : Prop :=
  CH Tryz.prog 13 #[.pointer y10, .string (ByteArray.mk #[102])] h43 (fun r44 h45 => ∃ y46 : Int, r44 = .int .i64 y46 ∧ ((((IntKind.i64.wrap (1 + y18)) == 3) = true → D_treadlelaw3_DiskFaults.J11 R  baseA basen basec y10 y18 y36 y41 j42A j42n j42c y46 lost h45) ∧ (((IntKind.i64.wrap (1 + y18)) == 3) = false → D_treadlelaw3_DiskFaults.J11 R  baseA basen basec y10 y18 y36 y41 j42A j42n j42c y46 false h45)))
def D_treadlelaw3_DiskFaults.J12 (R : Value → Hp → Prop)  (baseA : Option Addr) (basen : Nat) (basec : Nat) (secondA : Option Addr) (secondn : Nat) (secondc : Nat) (lost : Bool) (y10 : Option Addr) (y18 : Int) (y36 : Int) (j37A : Option Addr) (j37n : Nat) (j37c : Nat) (y41 : Int) (j141 : Bool) (h142 : Hp) : Prop :=
  ((j141 = true → ((0 : Int) ≤ (IntKind.i64.wrap (Int.tdiv ((secondn : Nat) : Int) 2)) ∧ (IntKind.i64.wrap (Int.tdiv ((secondn : Nat) : Int) 2)) ≤ ((secondc : Nat) : Int) ∧ (∃ vs146 : List Value, Src h142 ((Int.toNat (IntKind.i64.wrap (Int.tdiv ((secondn : Nat) : Int) 2))) * 1) vs146 secondA ∧ (∀ v ∈ vs146, oneC v = true) ∧ (j37n + (Int.toNat (IntKind.i64.wrap (Int.tdiv ((secondn : Nat) : Int) 2)))) * 1 ≤ 140737488355328 ∧ j37n + (Int.toNat (IntKind.i64.wrap (Int.tdiv ((secondn : Nat) : Int) 2))) ≤ 9223372036854775807 ∧ AppendV 5 (.int .u8 0 : Value) 1 h142 j37A j37n j37c (Int.toNat (IntKind.i64.wrap (Int.tdiv ((secondn : Nat) : Int) 2))) vs146 (fun A151 n152 c153 h154 => D_treadlelaw3_DiskFaults.J5 R  baseA basen basec lost y10 y18 y36 y41 A151 n152 c153 h154)))) ∧ (j141 = false → ((((IntKind.i64.wrap (1 + y18)) != 2) = true → (∃ vs156 : List Value, Src h142 (secondn * 1) vs156 secondA ∧ (∀ v ∈ vs156, oneC v = true) ∧ (j37n + secondn) * 1 ≤ 140737488355328 ∧ j37n + secondn ≤ 9223372036854775807 ∧ AppendV 5 (.int .u8 0 : Value) 1 h142 j37A j37n j37c secondn vs156 (fun A161 n162 c163 h164 => D_treadlelaw3_DiskFaults.J5 R  baseA basen basec lost y10 y18 y36 y41 A161 n162 c163 h164))) ∧ (((IntKind.i64.wrap (1 + y18)) != 2) = false → D_treadlelaw3_DiskFaults.J5 R  baseA basen basec lost y10 y18 y36 y41 j37A j37n j37c h142))))
def D_treadlelaw3_DiskFaults.J4 (R : Value → Hp → Prop)  (baseA : Option Addr) (basen : Nat) (basec : Nat) (secondA : Option Addr) (secondn : Nat) (secondc : Nat) (lost : Bool) (y10 : Option Addr) (y18 : Int) (y36 : Int) (j37A : Option Addr) (j37n : Nat) (j37c : Nat) (h38 : Hp) : Prop :=
  CH Tryz.prog 12 #[.pointer y10, .string (ByteArray.mk #[102]), .slice secondA secondn secondc] h38 (fun r39 h40 => ∃ y41 : Int, r39 = .int .i64 y41 ∧ ((((IntKind.i64.wrap (1 + y18)) == 2) = true → D_treadlelaw3_DiskFaults.J12 R  baseA basen basec secondA secondn secondc lost y10 y18 y36 j37A j37n j37c y41 (!lost) h40) ∧ (((IntKind.i64.wrap (1 + y18)) == 2) = false → D_treadlelaw3_DiskFaults.J12 R  baseA basen basec secondA secondn secondc lost y10 y18 y36 j37A j37n j37c y41 false h40)))
def D_treadlelaw3_DiskFaults.J13 (R : Value → Hp → Prop)  (baseA : Option Addr) (basen : Nat) (basec : Nat) (firstA : Option Addr) (firstn : Nat) (firstc : Nat) (secondA : Option Addr) (secondn : Nat) (secondc : Nat) (lost : Bool) (y10 : Option Addr) (y18 : Int) (A30 : Option Addr) (n31 : Nat) (c32 : Nat) (y36 : Int) (j167 : Bool) (h168 : Hp) : Prop :=
  ((j167 = true → ((0 : Int) ≤ (IntKind.i64.wrap (Int.tdiv ((firstn : Nat) : Int) 2)) ∧ (IntKind.i64.wrap (Int.tdiv ((firstn : Nat) : Int) 2)) ≤ ((firstc : Nat) : Int) ∧ (∃ vs172 : List Value, Src h168 ((Int.toNat (IntKind.i64.wrap (Int.tdiv ((firstn : Nat) : Int) 2))) * 1) vs172 firstA ∧ (∀ v ∈ vs172, oneC v = true) ∧ (n31 + (Int.toNat (IntKind.i64.wrap (Int.tdiv ((firstn : Nat) : Int) 2)))) * 1 ≤ 140737488355328 ∧ n31 + (Int.toNat (IntKind.i64.wrap (Int.tdiv ((firstn : Nat) : Int) 2))) ≤ 9223372036854775807 ∧ AppendV 5 (.int .u8 0 : Value) 1 h168 A30 n31 c32 (Int.toNat (IntKind.i64.wrap (Int.tdiv ((firstn : Nat) : Int) 2))) vs172 (fun A177 n178 c179 h180 => D_treadlelaw3_DiskFaults.J4 R  baseA basen basec secondA secondn secondc lost y10 y18 y36 A177 n178 c179 h180)))) ∧ (j167 = false → ((((IntKind.i64.wrap (1 + y18)) != 1) = true → (∃ vs182 : List Value, Src h168 (firstn * 1) vs182 firstA ∧ (∀ v ∈ vs182, oneC v = true) ∧ (n31 + firstn) * 1 ≤ 140737488355328 ∧ n31 + firstn ≤ 9223372036854775807 ∧ AppendV 5 (.int .u8 0 : Value) 1 h168 A30 n31 c32 firstn vs182 (fun A187 n188 c189 h190 => D_treadlelaw3_DiskFaults.J4 R  baseA basen basec secondA secondn secondc lost y10 y18 y36 A187 n188 c189 h190))) ∧ (((IntKind.i64.wrap (1 + y18)) != 1) = false → D_treadlelaw3_DiskFaults.J4 R  baseA basen basec secondA secondn secondc lost y10 y18 y36 A30 n31 c32 h168))))
def D_treadlelaw3_DiskFaults.J3 (R : Value → Hp → Prop)  (baseA : Option Addr) (basen : Nat) (basec : Nat) (firstA : Option Addr) (firstn : Nat) (firstc : Nat) (secondA : Option Addr) (secondn : Nat) (secondc : Nat) (a_at : Int) (lost : Bool) (y10 : Option Addr) (j14 : Int) (h15 : Hp) : Prop :=
  CH Tryz.prog 15 #[.int .i64 a_at, .int .i64 5] h15 (fun r16 h17 => ∃ y18 : Int, r16 = .int .i64 y18 ∧ (∀ b20 h19, b20 = Array.size h17 → h19 = Array.push h17 (.cells #[.int .i64 (IntKind.i64.wrap (1 + y18)), .int .i64 j14] 33) → CH Tryz.prog 16 #[.pointer y10, .agg #[.slice (some (Addr.mk b20 0 none)) 1 1, .slice none 0 0]] h19 (fun r21 h22 => (∀ b24 h23, b24 = Array.size h22 → h23 = Array.push h22 (.cells #[] 5) → (∃ vs25 : List Value, Src h23 (basen * 1) vs25 baseA ∧ (∀ v ∈ vs25, oneC v = true) ∧ (0 + basen) * 1 ≤ 140737488355328 ∧ 0 + basen ≤ 9223372036854775807 ∧ AppendV 5 (.int .u8 0 : Value) 1 h23 (some (Addr.mk b24 0 none)) 0 0 basen vs25 (fun A30 n31 c32 h33 => CH Tryz.prog 12 #[.pointer y10, .string (ByteArray.mk #[102]), .slice firstA firstn firstc] h33 (fun r34 h35 => ∃ y36 : Int, r34 = .int .i64 y36 ∧ ((((IntKind.i64.wrap (1 + y18)) == 1) = true → D_treadlelaw3_DiskFaults.J13 R  baseA basen basec firstA firstn firstc secondA secondn secondc lost y10 y18 A30 n31 c32 y36 (!lost) h35) ∧ (((IntKind.i64.wrap (1 + y18)) == 1) = false → D_treadlelaw3_DiskFaults.J13 R  baseA basen basec firstA firstn firstc secondA secondn secondc lost y10 y18 A30 n31 c32 y36 false h35)))))))))
def D_treadlelaw3_DiskFaults.J2 (R : Value → Hp → Prop)  (baseA : Option Addr) (basen : Nat) (basec : Nat) (firstA : Option Addr) (firstn : Nat) (firstc : Nat) (secondA : Option Addr) (secondn : Nat) (secondc : Nat) (a_at : Int) (lost : Bool) (y10 : Option Addr) (j11 : Bool) (h12 : Hp) : Prop :=
  ((j11 = true → R (.bool false) h12) ∧ (j11 = false → ((lost = true → D_treadlelaw3_DiskFaults.J3 R  baseA basen basec firstA firstn firstc secondA secondn secondc a_at lost y10 4 h12) ∧ (lost = false → D_treadlelaw3_DiskFaults.J3 R  baseA basen basec firstA firstn firstc secondA secondn secondc a_at lost y10 5 h12))))
def D_treadlelaw3_DiskFaults.J1 (R : Value → Hp → Prop)  (baseA : Option Addr) (basen : Nat) (basec : Nat) (firstA : Option Addr) (firstn : Nat) (firstc : Nat) (secondA : Option Addr) (secondn : Nat) (secondc : Nat) (a_at : Int) (lost : Bool) (j1 : Bool) (h2 : Hp) : Prop :=
  ((j1 = true → CH Tryz.prog 9 #[] h2 (fun r4 h5 => ∃ y6 : Bool, r4 = .bool y6 ∧ R (.bool y6) h5)) ∧ (j1 = false → CH Tryz.prog 10 #[.int .i64 4194304, .int .i64 3] h2 (fun r8 h9 => ∃ y10 : Option Addr, r8 = .pointer y10 ∧ (((Option.isNone y10) = true → D_treadlelaw3_DiskFaults.J2 R  baseA basen basec firstA firstn firstc secondA secondn secondc a_at lost y10 true h9) ∧ ((Option.isNone y10) = false → CH Tryz.prog 11 #[.pointer y10, .string (ByteArray.mk #[102])] h9 (fun r200 h201 => ∃ y202 : Int, r200 = .int .i64 y202 ∧ (((y202 != 0) = true → D_treadlelaw3_DiskFaults.J2 R  baseA basen basec firstA firstn firstc secondA secondn secondc a_at lost y10 true h201) ∧ ((y202 != 0) = false → CH Tryz.prog 11 #[.pointer y10, .string (ByteArray.mk #[103])] h201 (fun r204 h205 => ∃ y206 : Int, r204 = .int .i64 y206 ∧ (((y206 != 0) = true → D_treadlelaw3_DiskFaults.J2 R  baseA basen basec firstA firstn firstc secondA secondn secondc a_at lost y10 true h205) ∧ ((y206 != 0) = false → CH Tryz.prog 12 #[.pointer y10, .string (ByteArray.mk #[102]), .slice baseA basen basec] h205 (fun r208 h209 => ∃ y210 : Int, r208 = .int .i64 y210 ∧ (((y210 != 0) = true → D_treadlelaw3_DiskFaults.J2 R  baseA basen basec firstA firstn firstc secondA secondn secondc a_at lost y10 true h209) ∧ ((y210 != 0) = false → CH Tryz.prog 12 #[.pointer y10, .string (ByteArray.mk #[103]), .slice baseA basen basec] h209 (fun r212 h213 => ∃ y214 : Int, r212 = .int .i64 y214 ∧ (((y214 != 0) = true → D_treadlelaw3_DiskFaults.J2 R  baseA basen basec firstA firstn firstc secondA secondn secondc a_at lost y10 true h213) ∧ ((y214 != 0) = false → CH Tryz.prog 13 #[.pointer y10, .string (ByteArray.mk #[102])] h213 (fun r216 h217 => ∃ y218 : Int, r216 = .int .i64 y218 ∧ (((y218 != 0) = true → D_treadlelaw3_DiskFaults.J2 R  baseA basen basec firstA firstn firstc secondA secondn secondc a_at lost y10 true h217) ∧ ((y218 != 0) = false → CH Tryz.prog 14 #[.pointer y10] h217 (fun r220 h221 => ∃ y222 : Int, r220 = .int .i64 y222 ∧ D_treadlelaw3_DiskFaults.J2 R  baseA basen basec firstA firstn firstc secondA secondn secondc a_at lost y10 (y222 != 0) h221)))))))))))))))))))))
def D_treadlelaw3_DiskFaults (R : Value → Hp → Prop) (baseA : Option Addr) (basen : Nat) (basec : Nat) (firstA : Option Addr) (firstn : Nat) (firstc : Nat) (secondA : Option Addr) (secondn : Nat) (secondc : Nat) (a_at : Int) (lost : Bool) (h : Hp) : Prop :=
  (((decide (((basen : Nat) : Int) > 200000)) = true → D_treadlelaw3_DiskFaults.J1 R  baseA basen basec firstA firstn firstc secondA secondn secondc a_at lost true h) ∧ ((decide (((basen : Nat) : Int) > 200000)) = false → (((decide (((firstn : Nat) : Int) > 200000)) = true → D_treadlelaw3_DiskFaults.J1 R  baseA basen basec firstA firstn firstc secondA secondn secondc a_at lost true h) ∧ ((decide (((firstn : Nat) : Int) > 200000)) = false → D_treadlelaw3_DiskFaults.J1 R  baseA basen basec firstA firstn firstc secondA secondn secondc a_at lost (decide (((secondn : Nat) : Int) > 200000)) h))))
set_option maxRecDepth 10000 in
set_option maxHeartbeats 4000000 in
theorem D_treadlelaw3_DiskFaults.sound {R : Value → Hp → Prop} {baseA : Option Addr} {basen : Nat} {basec : Nat} {firstA : Option Addr} {firstn : Nat} {firstc : Nat} {secondA : Option Addr} {secondn : Nat} {secondc : Nat} {a_at : Int} {lost : Bool} {h : Hp} (H : D_treadlelaw3_DiskFaults R  baseA basen basec firstA firstn firstc secondA secondn secondc a_at lost h) : CH Tryz.prog 3 #[.slice baseA basen basec, .slice firstA firstn firstc, .slice secondA secondn secondc, .int .i64 a_at, .bool lost] h R := by
  refine CHE.enter (n := 231) Tryz.func3 rfl rfl (Nat.le_of_ble_eq_true rfl) ?_
  unfold D_treadlelaw3_DiskFaults at H
  refine VC.seq ?_
  refine VC.region ?_
  refine VL.stepD rfl rfl (by decide) (OE.assignV (v := .bool false) rfl ?_)
  refine VL.nil ?_
  change VC _ _ _ _ _ _ _
  refine VC.seq ?_
  refine VC.seqJ (fun f h2 => ∃ j1 : Bool, f 0 = (.slice baseA basen basec : Value) ∧ f 1 = (.slice firstA firstn firstc : Value) ∧ f 2 = (.slice secondA secondn secondc : Value) ∧ f 3 = (.int .i64 a_at : Value) ∧ f 4 = (.bool lost : Value) ∧ f 35 = (.bool j1 : Value) ∧ D_treadlelaw3_DiskFaults.J1 R  baseA basen basec firstA firstn firstc secondA secondn secondc a_at lost j1 h2) ?_ ?_
  · intro f h2 J
    obtain ⟨j1, hk0, hk1, hk2, hk3, hk4, hk35, H⟩ := J
    rw [← fr_self f [(0, .slice baseA basen basec), (1, .slice firstA firstn firstc), (2, .slice secondA secondn secondc), (3, .int .i64 a_at), (4, .bool lost), (35, .bool j1)] (by simp only [List.mem_cons, List.not_mem_nil, or_false]; rintro p (rfl | rfl | rfl | rfl | rfl | rfl) <;> assumption)]
    unfold D_treadlelaw3_DiskFaults.J1 at H
    refine VC.cond (t := j1) rfl (fun e3 => ?_) (fun e3 => ?_)
    · have H := H.1 e3
      refine VC.seq ?_
      refine VC.region ?_
      refine VL.stepD rfl rfl (by decide) (OE.callL (args := []) Tryz.func9 rfl Tryz.nn9 rfl rfl (CHE.mono H (fun r4 h5 H => ?_) (fun _ _ e => e.elim)))
      obtain ⟨y6, rfl, H⟩ := H
      refine VL.stepD rfl rfl (by decide) (OE.assignV (v := .bool y6) rfl ?_)
      refine VL.nil ?_
      change VC _ _ _ _ _ _ _
      refine VC.ret ?_
      exact ⟨rfl, _, ResOK.t1 rfl (v := .bool y6) rfl, H⟩
    · have H := H.2 e3
      refine VC.skip ?_
      change VC _ _ _ _ _ _ _
      refine VC.seq ?_
      refine VC.region ?_
      refine VL.stepD rfl rfl (by decide) (OE.callL (args := [.int .i64 4194304, .int .i64 3]) Tryz.func10 rfl Tryz.nn10 rfl rfl (CHE.mono H (fun r8 h9 H => ?_) (fun _ _ e => e.elim)))
      obtain ⟨y10, rfl, H⟩ := H
      refine VL.stepD rfl rfl (by decide) (OE.assignV (v := .pointer y10) rfl ?_)
      refine VL.nil ?_
      change VC _ _ _ _ _ _ _
      refine VC.seq ?_
      refine VC.seqJ (fun f h12 => ∃ j11 : Bool, f 0 = (.slice baseA basen basec : Value) ∧ f 1 = (.slice firstA firstn firstc : Value) ∧ f 2 = (.slice secondA secondn secondc : Value) ∧ f 3 = (.int .i64 a_at : Value) ∧ f 4 = (.bool lost : Value) ∧ f 11 = (.pointer y10 : Value) ∧ f 71 = (.bool j11 : Value) ∧ D_treadlelaw3_DiskFaults.J2 R  baseA basen basec firstA firstn firstc secondA secondn secondc a_at lost y10 j11 h12) ?_ ?_
      · intro f h12 J
        obtain ⟨j11, hk0, hk1, hk2, hk3, hk4, hk11, hk71, H⟩ := J
        rw [← fr_self f [(0, .slice baseA basen basec), (1, .slice firstA firstn firstc), (2, .slice secondA secondn secondc), (3, .int .i64 a_at), (4, .bool lost), (11, .pointer y10), (71, .bool j11)] (by simp only [List.mem_cons, List.not_mem_nil, or_false]; rintro p (rfl | rfl | rfl | rfl | rfl | rfl | rfl) <;> assumption)]
        unfold D_treadlelaw3_DiskFaults.J2 at H
        refine VC.cond (t := j11) rfl (fun e13 => ?_) (fun e13 => ?_)
        · have H := H.1 e13
          refine VC.seq ?_
          refine VC.region ?_
          refine VL.stepD rfl rfl (by decide) (OE.assignV (v := .bool false) rfl ?_)
          refine VL.nil ?_
          change VC _ _ _ _ _ _ _
          refine VC.ret ?_
          exact ⟨rfl, _, ResOK.t1 rfl (v := .bool false) rfl, H⟩
        · have H := H.2 e13
          refine VC.skip ?_
          change VC _ _ _ _ _ _ _
          refine VC.seq ?_
          refine VC.region ?_
          refine VL.stepD rfl rfl (by decide) (OE.assignV (v := .int .i64 5) rfl ?_)
          refine VL.nil ?_
          change VC _ _ _ _ _ _ _
          refine VC.seqJ (fun f h15 => ∃ j14 : Int, f 0 = (.slice baseA basen basec : Value) ∧ f 1 = (.slice firstA firstn firstc : Value) ∧ f 2 = (.slice secondA secondn secondc : Value) ∧ f 3 = (.int .i64 a_at : Value) ∧ f 4 = (.bool lost : Value) ∧ f 11 = (.pointer y10 : Value) ∧ f 12 = (.int .i64 j14 : Value) ∧ D_treadlelaw3_DiskFaults.J3 R  baseA basen basec firstA firstn firstc secondA secondn secondc a_at lost y10 j14 h15) ?_ ?_
          · intro f h15 J
            obtain ⟨j14, hk0, hk1, hk2, hk3, hk4, hk11, hk12, H⟩ := J
            rw [← fr_self f [(0, .slice baseA basen basec), (1, .slice firstA firstn firstc), (2, .slice secondA secondn secondc), (3, .int .i64 a_at), (4, .bool lost), (11, .pointer y10), (12, .int .i64 j14)] (by simp only [List.mem_cons, List.not_mem_nil, or_false]; rintro p (rfl | rfl | rfl | rfl | rfl | rfl | rfl) <;> assumption)]
            unfold D_treadlelaw3_DiskFaults.J3 at H
            refine VC.seq ?_
            refine VC.region ?_
            refine VL.stepD rfl rfl (by decide) (OE.moveV (v := .int .i64 a_at) rfl ?_)
            refine VL.stepD rfl rfl (by decide) (OE.callL (args := [.int .i64 a_at, .int .i64 5]) Tryz.func15 rfl Tryz.nn15 rfl rfl (CHE.mono H (fun r16 h17 H => ?_) (fun _ _ e => e.elim)))
            obtain ⟨y18, rfl, H⟩ := H
            refine VL.stepD rfl rfl (by decide) (OE.binI (v := .int .i64 (IntKind.i64.wrap (1 + y18))) rfl rfl rfl ?_)
            refine VL.stepD rfl rfl (by decide) (OE.assignV (v := .int .i64 (IntKind.i64.wrap (1 + y18))) rfl ?_)
            refine VL.nil ?_
            change VC _ _ _ _ _ _ _
            refine VC.seq ?_
            refine VC.region ?_
            refine VL.stepD rfl rfl (by decide) (OE.moveV (v := .pointer y10) rfl ?_)
            refine VL.stepD rfl rfl (by decide) (OE.moveV (v := .int .i64 (IntKind.i64.wrap (1 + y18))) rfl ?_)
            refine VL.stepD rfl rfl (by decide) (OE.moveV (v := .int .i64 j14) rfl ?_)
            refine VL.stepD rfl rfl (by decide) (OE.buildV (ps := [(0, (.int .i64 (IntKind.i64.wrap (1 + y18)) : Value)), (1, (.int .i64 j14 : Value))]) rfl (Tryz.bf29 _ _) ?_)
            obtain ⟨b20, eb195⟩ : ∃ b20, b20 = Array.size h17 := ⟨_, rfl⟩
            obtain ⟨h19, eh196⟩ : ∃ h19, h19 = Array.push h17 (.cells #[.int .i64 (IntKind.i64.wrap (1 + y18)), .int .i64 j14] 33) := ⟨_, rfl⟩
            have H := H b20 h19 eb195 eh196
            refine VL.stepD rfl rfl (by decide) (OE.buildSliceE (ps := [(0, (.agg #[.int .i64 (IntKind.i64.wrap (1 + y18)), .int .i64 j14] : Value))]) (cells := #[.int .i64 (IntKind.i64.wrap (1 + y18)), .int .i64 j14]) (e := 33) rfl (Tryz.bf31 _ _) eb195 eh196 ?_)
            refine VL.stepD rfl rfl (by decide) (OE.buildV (ps := [(0, (.slice (some (Addr.mk b20 0 none)) 1 1 : Value))]) rfl (Tryz.bf30 _ _ _) ?_)
            refine VL.stepD rfl rfl (by decide) (OE.callL (args := [.pointer y10, .agg #[.slice (some (Addr.mk b20 0 none)) 1 1, .slice none 0 0]]) Tryz.func16 rfl Tryz.nn16 rfl rfl (CHE.mono H (fun r21 h22 H => ?_) (fun _ _ e => e.elim)))
            refine VL.nil ?_
            change VC _ _ _ _ _ _ _
            refine VC.seq ?_
            refine VC.region ?_
            obtain ⟨b24, eb193⟩ : ∃ b24, b24 = Array.size h22 := ⟨_, rfl⟩
            obtain ⟨h23, eh194⟩ : ∃ h23, h23 = Array.push h22 (.cells #[] 5) := ⟨_, rfl⟩
            have H := H b24 h23 eb193 eh194
            refine VL.stepD rfl rfl (by decide) (OE.buildSliceE (ps := []) (cells := #[]) (e := 5) rfl (Tryz.bf16) eb193 eh194 ?_)
            refine VL.stepD rfl rfl (by decide) (OE.moveV (v := .slice baseA basen basec) rfl ?_)
            obtain ⟨vs25, z26, z27, z28, z29, H⟩ := H
            refine VL.stepD rfl rfl (by decide) (OE.appendV (z := (.int .u8 0 : Value)) (sz := 1) (bs := 1) rfl rfl Tryz.underlying22 Tryz.i5 z26 z27 z28 z29 (AppendV.mono H (fun A30 n31 c32 h33 H => ?_)))
            refine VL.stepD rfl rfl (by decide) (OE.assignV (v := .slice A30 n31 c32) rfl ?_)
            refine VL.nil ?_
            change VC _ _ _ _ _ _ _
            refine VC.seq ?_
            refine VC.region ?_
            refine VL.stepD rfl rfl (by decide) (OE.moveV (v := .pointer y10) rfl ?_)
            refine VL.stepD rfl rfl (by decide) (OE.moveV (v := .slice firstA firstn firstc) rfl ?_)
            refine VL.stepD rfl rfl (by decide) (OE.callL (args := [.pointer y10, .string (ByteArray.mk #[102]), .slice firstA firstn firstc]) Tryz.func12 rfl Tryz.nn12 rfl rfl (CHE.mono H (fun r34 h35 H => ?_) (fun _ _ e => e.elim)))
            obtain ⟨y36, rfl, H⟩ := H
            refine VL.stepD rfl rfl (by decide) (OE.assignV (v := .int .i64 y36) rfl ?_)
            refine VL.nil ?_
            change VC _ _ _ _ _ _ _
            refine VC.seqJ (fun f h38 => ∃ j37A : Option Addr, ∃ j37n : Nat, ∃ j37c : Nat, f 0 = (.slice baseA basen basec : Value) ∧ f 2 = (.slice secondA secondn secondc : Value) ∧ f 3 = (.int .i64 (IntKind.i64.wrap (1 + y18)) : Value) ∧ f 4 = (.bool lost : Value) ∧ f 11 = (.pointer y10 : Value) ∧ f 13 = (.slice j37A j37n j37c : Value) ∧ f 14 = (.int .i64 y36 : Value) ∧ D_treadlelaw3_DiskFaults.J4 R  baseA basen basec secondA secondn secondc lost y10 y18 y36 j37A j37n j37c h38) ?_ ?_
            · intro f h38 J
              obtain ⟨j37A, j37n, j37c, hk0, hk2, hk3, hk4, hk11, hk13, hk14, H⟩ := J
              rw [← fr_self f [(0, .slice baseA basen basec), (2, .slice secondA secondn secondc), (3, .int .i64 (IntKind.i64.wrap (1 + y18))), (4, .bool lost), (11, .pointer y10), (13, .slice j37A j37n j37c), (14, .int .i64 y36)] (by simp only [List.mem_cons, List.not_mem_nil, or_false]; rintro p (rfl | rfl | rfl | rfl | rfl | rfl | rfl) <;> assumption)]
              unfold D_treadlelaw3_DiskFaults.J4 at H
              refine VC.seq ?_
              refine VC.region ?_
              refine VL.stepD rfl rfl (by decide) (OE.moveV (v := .pointer y10) rfl ?_)
              refine VL.stepD rfl rfl (by decide) (OE.moveV (v := .slice secondA secondn secondc) rfl ?_)
              refine VL.stepD rfl rfl (by decide) (OE.callL (args := [.pointer y10, .string (ByteArray.mk #[102]), .slice secondA secondn secondc]) Tryz.func12 rfl Tryz.nn12 rfl rfl (CHE.mono H (fun r39 h40 H => ?_) (fun _ _ e => e.elim)))
              obtain ⟨y41, rfl, H⟩ := H
              refine VL.stepD rfl rfl (by decide) (OE.assignV (v := .int .i64 y41) rfl ?_)
              refine VL.nil ?_
              change VC _ _ _ _ _ _ _
              refine VC.seqJ (fun f h43 => ∃ j42A : Option Addr, ∃ j42n : Nat, ∃ j42c : Nat, f 0 = (.slice baseA basen basec : Value) ∧ f 3 = (.int .i64 (IntKind.i64.wrap (1 + y18)) : Value) ∧ f 4 = (.bool lost : Value) ∧ f 11 = (.pointer y10 : Value) ∧ f 13 = (.slice j42A j42n j42c : Value) ∧ f 14 = (.int .i64 y36 : Value) ∧ f 15 = (.int .i64 y41 : Value) ∧ D_treadlelaw3_DiskFaults.J5 R  baseA basen basec lost y10 y18 y36 y41 j42A j42n j42c h43) ?_ ?_
              · intro f h43 J
                obtain ⟨j42A, j42n, j42c, hk0, hk3, hk4, hk11, hk13, hk14, hk15, H⟩ := J
                rw [← fr_self f [(0, .slice baseA basen basec), (3, .int .i64 (IntKind.i64.wrap (1 + y18))), (4, .bool lost), (11, .pointer y10), (13, .slice j42A j42n j42c), (14, .int .i64 y36), (15, .int .i64 y41)] (by simp only [List.mem_cons, List.not_mem_nil, or_false]; rintro p (rfl | rfl | rfl | rfl | rfl | rfl | rfl) <;> assumption)]
                unfold D_treadlelaw3_DiskFaults.J5 at H
                refine VC.seq ?_
                refine VC.region ?_
                refine VL.stepD rfl rfl (by decide) (OE.moveV (v := .pointer y10) rfl ?_)
                refine VL.stepD rfl rfl (by decide) (OE.callL (args := [.pointer y10, .string (ByteArray.mk #[102])]) Tryz.func13 rfl Tryz.nn13 rfl rfl (CHE.mono H (fun r44 h45 H => ?_) (fun _ _ e => e.elim)))
                obtain ⟨y46, rfl, H⟩ := H
                refine VL.stepD rfl rfl (by decide) (OE.assignV (v := .int .i64 y46) rfl ?_)
                refine VL.nil ?_
                change VC _ _ _ _ _ _ _
                refine VC.seqJ (fun f h48 => ∃ j47A : Option Addr, ∃ j47n : Nat, ∃ j47c : Nat, f 0 = (.slice baseA basen basec : Value) ∧ f 3 = (.int .i64 (IntKind.i64.wrap (1 + y18)) : Value) ∧ f 11 = (.pointer y10 : Value) ∧ f 13 = (.slice j47A j47n j47c : Value) ∧ f 14 = (.int .i64 y36 : Value) ∧ f 15 = (.int .i64 y41 : Value) ∧ f 16 = (.int .i64 y46 : Value) ∧ D_treadlelaw3_DiskFaults.J6 R  baseA basen basec y10 y18 y36 y41 y46 j47A j47n j47c h48) ?_ ?_
                · intro f h48 J
                  obtain ⟨j47A, j47n, j47c, hk0, hk3, hk11, hk13, hk14, hk15, hk16, H⟩ := J
                  rw [← fr_self f [(0, .slice baseA basen basec), (3, .int .i64 (IntKind.i64.wrap (1 + y18))), (11, .pointer y10), (13, .slice j47A j47n j47c), (14, .int .i64 y36), (15, .int .i64 y41), (16, .int .i64 y46)] (by simp only [List.mem_cons, List.not_mem_nil, or_false]; rintro p (rfl | rfl | rfl | rfl | rfl | rfl | rfl) <;> assumption)]
                  unfold D_treadlelaw3_DiskFaults.J6 at H
                  refine VC.seq ?_
                  refine VC.region ?_
                  refine VL.stepD rfl rfl (by decide) (OE.moveV (v := .pointer y10) rfl ?_)
                  refine VL.stepD rfl rfl (by decide) (OE.callL (args := [.pointer y10]) Tryz.func14 rfl Tryz.nn14 rfl rfl (CHE.mono H (fun r49 h50 H => ?_) (fun _ _ e => e.elim)))
                  obtain ⟨y51, rfl, H⟩ := H
                  refine VL.stepD rfl rfl (by decide) (OE.assignV (v := .int .i64 y51) rfl ?_)
                  refine VL.nil ?_
                  change VC _ _ _ _ _ _ _
                  refine VC.seq ?_
                  refine VC.region ?_
                  refine VL.stepD rfl rfl (by decide) (OE.moveV (v := .pointer y10) rfl ?_)
                  refine VL.stepD rfl rfl (by decide) (OE.moveV (v := .slice j47A j47n j47c) rfl ?_)
                  refine VL.stepD rfl rfl (by decide) (OE.lenSlice rfl Tryz.underlying22 ?_)
                  refine VL.stepD rfl rfl (by decide) (OE.callL (args := [.pointer y10, .string (ByteArray.mk #[102]), .int .i64 ((j47n : Nat) : Int)]) Tryz.func17 rfl Tryz.nn17 rfl rfl (CHE.mono H (fun r52 h53 H => ?_) (fun _ _ e => e.elim)))
                  obtain ⟨y54, rfl, H⟩ := H
                  refine VL.stepD rfl rfl (by decide) (OE.assignV (v := .int .i64 y54) rfl ?_)
                  refine VL.nil ?_
                  change VC _ _ _ _ _ _ _
                  refine VC.seq ?_
                  refine VC.region ?_
                  refine VL.stepD rfl rfl (by decide) (OE.moveV (v := .int .i64 y36) rfl ?_)
                  refine VL.stepD rfl rfl (by decide) (OE.moveV (v := .int .i64 y41) rfl ?_)
                  refine VL.stepD rfl rfl (by decide) (OE.moveV (v := .int .i64 y46) rfl ?_)
                  refine VL.stepD rfl rfl (by decide) (OE.moveV (v := .int .i64 y51) rfl ?_)
                  refine VL.stepD rfl rfl (by decide) (OE.moveV (v := .int .i64 y54) rfl ?_)
                  obtain ⟨b56, eb132⟩ : ∃ b56, b56 = Array.size h53 := ⟨_, rfl⟩
                  obtain ⟨h55, eh133⟩ : ∃ h55, h55 = Array.push h53 (.cells #[.int .i64 y36, .int .i64 y41, .int .i64 y46, .int .i64 y51, .int .i64 y54] 26) := ⟨_, rfl⟩
                  have H := H b56 h55 eb132 eh133
                  refine VL.stepD rfl rfl (by decide) (OE.buildSliceE (ps := [(0, (.int .i64 y36 : Value)), (1, (.int .i64 y41 : Value)), (2, (.int .i64 y46 : Value)), (3, (.int .i64 y51 : Value)), (4, (.int .i64 y54 : Value))]) (cells := #[.int .i64 y36, .int .i64 y41, .int .i64 y46, .int .i64 y51, .int .i64 y54]) (e := 26) rfl (Tryz.bf32 _ _ _ _ _) eb132 eh133 ?_)
                  refine VL.stepD rfl rfl (by decide) (OE.assignV (v := .slice (some (Addr.mk b56 0 none)) 5 5) rfl ?_)
                  refine VL.nil ?_
                  change VC _ _ _ _ _ _ _
                  refine VC.seqJ (fun f h57 => f 0 = (.slice baseA basen basec : Value) ∧ f 11 = (.pointer y10 : Value) ∧ f 13 = (.slice j47A j47n j47c : Value) ∧ D_treadlelaw3_DiskFaults.J7 R  baseA basen basec y10 j47A j47n j47c  h57) ?_ ?_
                  · intro f h57 J
                    obtain ⟨hk0, hk11, hk13, H⟩ := J
                    rw [← fr_self f [(0, .slice baseA basen basec), (11, .pointer y10), (13, .slice j47A j47n j47c)] (by simp only [List.mem_cons, List.not_mem_nil, or_false]; rintro p (rfl | rfl | rfl) <;> assumption)]
                    unfold D_treadlelaw3_DiskFaults.J7 at H
                    refine VC.seq ?_
                    refine VC.region ?_
                    refine VL.stepD rfl rfl (by decide) (OE.moveV (v := .pointer y10) rfl ?_)
                    refine VL.stepD rfl rfl (by decide) (OE.callL (args := [.pointer y10, .string (ByteArray.mk #[102])]) Tryz.func18 rfl Tryz.nn18 rfl rfl (CHE.mono H (fun r58 h59 H => ?_) (fun _ _ e => e.elim)))
                    obtain ⟨y60_0A, y60_0n, y60_0c, y60_1, rfl, H⟩ := H
                    refine VL.stepD rfl rfl (by decide) (OE.moveV (v := .tuple #[.slice y60_0A y60_0n y60_0c, .int .i64 y60_1]) rfl ?_)
                    refine VL.stepD rfl rfl (by decide) (OE.extract (v := .slice y60_0A y60_0n y60_0c) rfl rfl ?_)
                    refine VL.stepD rfl rfl (by decide) (OE.extract (v := .int .i64 y60_1) rfl rfl ?_)
                    refine VL.stepD rfl rfl (by decide) (OE.assignV (v := .slice y60_0A y60_0n y60_0c) rfl ?_)
                    refine VL.stepD rfl rfl (by decide) (OE.assignV (v := .int .i64 y60_1) rfl ?_)
                    refine VL.nil ?_
                    change VC _ _ _ _ _ _ _
                    refine VC.seq ?_
                    refine VC.region ?_
                    refine VL.stepD rfl rfl (by decide) (OE.moveV (v := .pointer y10) rfl ?_)
                    refine VL.stepD rfl rfl (by decide) (OE.callL (args := [.pointer y10, .string (ByteArray.mk #[103])]) Tryz.func18 rfl Tryz.nn18 rfl rfl (CHE.mono H (fun r61 h62 H => ?_) (fun _ _ e => e.elim)))
                    obtain ⟨y63_0A, y63_0n, y63_0c, y63_1, rfl, H⟩ := H
                    refine VL.stepD rfl rfl (by decide) (OE.moveV (v := .tuple #[.slice y63_0A y63_0n y63_0c, .int .i64 y63_1]) rfl ?_)
                    refine VL.stepD rfl rfl (by decide) (OE.extract (v := .slice y63_0A y63_0n y63_0c) rfl rfl ?_)
                    refine VL.stepD rfl rfl (by decide) (OE.extract (v := .int .i64 y63_1) rfl rfl ?_)
                    refine VL.stepD rfl rfl (by decide) (OE.assignV (v := .slice y63_0A y63_0n y63_0c) rfl ?_)
                    refine VL.stepD rfl rfl (by decide) (OE.assignV (v := .int .i64 y63_1) rfl ?_)
                    refine VL.nil ?_
                    change VC _ _ _ _ _ _ _
                    refine VC.seq ?_
                    refine VC.seqJ (fun f h65 => ∃ j64 : Bool, f 11 = (.pointer y10 : Value) ∧ f 13 = (.slice j47A j47n j47c : Value) ∧ f 212 = (.bool j64 : Value) ∧ D_treadlelaw3_DiskFaults.J8 R  y10 j47A j47n j47c j64 h65) ?_ ?_
                    · intro f h65 J
                      obtain ⟨j64, hk11, hk13, hk212, H⟩ := J
                      rw [← fr_self f [(11, .pointer y10), (13, .slice j47A j47n j47c), (212, .bool j64)] (by simp only [List.mem_cons, List.not_mem_nil, or_false]; rintro p (rfl | rfl | rfl) <;> assumption)]
                      unfold D_treadlelaw3_DiskFaults.J8 at H
                      refine VC.cond (t := j64) rfl (fun e66 => ?_) (fun e66 => ?_)
                      · have H := H.1 e66
                        refine VC.seq ?_
                        refine VC.region ?_
                        refine VL.stepD rfl rfl (by decide) (OE.assignV (v := .bool false) rfl ?_)
                        refine VL.nil ?_
                        change VC _ _ _ _ _ _ _
                        refine VC.ret ?_
                        exact ⟨rfl, _, ResOK.t1 rfl (v := .bool false) rfl, H⟩
                      · have H := H.2 e66
                        refine VC.skip ?_
                        change VC _ _ _ _ _ _ _
                        refine VC.seq ?_
                        refine VC.region ?_
                        refine VL.stepD rfl rfl (by decide) (OE.moveV (v := .pointer y10) rfl ?_)
                        refine VL.stepD rfl rfl (by decide) (OE.buildV (ps := []) rfl (Tryz.bf33) ?_)
                        refine VL.stepD rfl rfl (by decide) (OE.callL (args := [.pointer y10, .agg #[.int .i64 0, .slice none 0 0, .slice none 0 0]]) Tryz.func20 rfl Tryz.nn20 rfl rfl (CHE.mono H (fun r67 h68 H => ?_) (fun _ _ e => e.elim)))
                        obtain ⟨y69A, y69n, y69c, rfl, H⟩ := H
                        refine VL.nil ?_
                        change VC _ _ _ _ _ _ _
                        refine VC.seq ?_
                        refine VC.region ?_
                        refine VL.stepD rfl rfl (by decide) (OE.moveV (v := .pointer y10) rfl ?_)
                        refine VL.stepD rfl rfl (by decide) (OE.callL (args := [.pointer y10, .string (ByteArray.mk #[102])]) Tryz.func18 rfl Tryz.nn18 rfl rfl (CHE.mono H (fun r70 h71 H => ?_) (fun _ _ e => e.elim)))
                        obtain ⟨y72_0A, y72_0n, y72_0c, y72_1, rfl, H⟩ := H
                        refine VL.stepD rfl rfl (by decide) (OE.moveV (v := .tuple #[.slice y72_0A y72_0n y72_0c, .int .i64 y72_1]) rfl ?_)
                        refine VL.stepD rfl rfl (by decide) (OE.extract (v := .slice y72_0A y72_0n y72_0c) rfl rfl ?_)
                        refine VL.stepD rfl rfl (by decide) (OE.extract (v := .int .i64 y72_1) rfl rfl ?_)
                        refine VL.stepD rfl rfl (by decide) (OE.assignV (v := .slice y72_0A y72_0n y72_0c) rfl ?_)
                        refine VL.stepD rfl rfl (by decide) (OE.assignV (v := .int .i64 y72_1) rfl ?_)
                        refine VL.nil ?_
                        change VC _ _ _ _ _ _ _
                        refine VC.seq ?_
                        refine VC.region ?_
                        refine VL.stepD rfl rfl (by decide) (OE.moveV (v := .int .i64 y72_1) rfl ?_)
                        refine VL.stepD rfl rfl (by decide) (OE.binI (v := .bool (y72_1 == 0)) rfl rfl rfl ?_)
                        refine VL.stepD rfl rfl (by decide) (OE.moveV (v := .bool (y72_1 == 0)) rfl ?_)
                        refine boolSplit ((y72_1 == 0)) (fun e73 => ?_) (fun e73 => ?_)
                        · have H := H.1 e73
                          refine VL.gstepD rfl rfl (by decide) (congrArg Value.bool e73) rfl (by decide) (OE.moveV (v := .slice y72_0A y72_0n y72_0c) rfl ?_)
                          refine VL.gstepD rfl rfl (by decide) (congrArg Value.bool e73) rfl (by decide) (OE.moveV (v := .slice j47A j47n j47c) rfl ?_)
                          refine VL.gstepD rfl rfl (by decide) (congrArg Value.bool e73) rfl (by decide) (OE.callL (args := [.slice y72_0A y72_0n y72_0c, .slice j47A j47n j47c]) Tryz.func19 rfl Tryz.nn19 rfl rfl (CHE.mono H (fun r74 h75 H => ?_) (fun _ _ e => e.elim)))
                          obtain ⟨y76, rfl, H⟩ := H
                          refine VL.stepD rfl rfl (by decide) (OE.pickV (t := true) (v := .bool y76) (congrArg Value.bool e73) rfl ?_)
                          refine VL.stepD rfl rfl (by decide) (OE.moveV (v := .bool y76) rfl ?_)
                          refine boolSplit (y76) (fun e77 => ?_) (fun e77 => ?_)
                          · have H := H.1 e77
                            refine VL.gstepD rfl rfl (by decide) (congrArg Value.bool e77) rfl (by decide) (OE.callL (args := []) Tryz.func9 rfl Tryz.nn9 rfl rfl (CHE.mono H (fun r78 h79 H => ?_) (fun _ _ e => e.elim)))
                            obtain ⟨y80, rfl, H⟩ := H
                            refine VL.stepD rfl rfl (by decide) (OE.pickV (t := true) (v := .bool y80) (congrArg Value.bool e77) rfl ?_)
                            refine VL.stepD rfl rfl (by decide) (OE.assignV (v := .bool y80) rfl ?_)
                            refine VL.nil ?_
                            change VC _ _ _ _ _ _ _
                            refine VC.ret ?_
                            exact ⟨rfl, _, ResOK.t1 rfl (v := .bool y80) rfl, H⟩
                          · have H := H.2 e77
                            refine VL.gskipD rfl rfl (by decide) (.inl (congrArg Value.bool e77)) rfl (by decide) ?_
                            refine VL.stepD rfl rfl (by decide) (OE.pickV (t := false) (v := .bool false) (congrArg Value.bool e77) rfl ?_)
                            refine VL.stepD rfl rfl (by decide) (OE.assignV (v := .bool false) rfl ?_)
                            refine VL.nil ?_
                            change VC _ _ _ _ _ _ _
                            refine VC.ret ?_
                            exact ⟨rfl, _, ResOK.t1 rfl (v := .bool false) rfl, H⟩
                        · have H := H.2 e73
                          refine VL.gskipD rfl rfl (by decide) (.inl (congrArg Value.bool e73)) rfl (by decide) ?_
                          refine VL.gskipD rfl rfl (by decide) (.inl (congrArg Value.bool e73)) rfl (by decide) ?_
                          refine VL.gskipD rfl rfl (by decide) (.inl (congrArg Value.bool e73)) rfl (by decide) ?_
                          refine VL.stepD rfl rfl (by decide) (OE.pickV (t := false) (v := .bool false) (congrArg Value.bool e73) rfl ?_)
                          refine VL.stepD rfl rfl (by decide) (OE.moveV (v := .bool false) rfl ?_)
                          refine VL.gskipD rfl rfl (by decide) (.inl rfl) rfl (by decide) ?_
                          refine VL.stepD rfl rfl (by decide) (OE.pickV (t := false) (v := .bool false) rfl rfl ?_)
                          refine VL.stepD rfl rfl (by decide) (OE.assignV (v := .bool false) rfl ?_)
                          refine VL.nil ?_
                          change VC _ _ _ _ _ _ _
                          refine VC.ret ?_
                          exact ⟨rfl, _, ResOK.t1 rfl (v := .bool false) rfl, H⟩
                    · skip
                      refine VC.region ?_
                      refine VL.stepD rfl rfl (by decide) (OE.moveV (v := .int .i64 y60_1) rfl ?_)
                      refine VL.stepD rfl rfl (by decide) (OE.binI (v := .bool (y60_1 != 0)) rfl rfl rfl ?_)
                      refine VL.stepD rfl rfl (by decide) (OE.moveV (v := .bool (y60_1 != 0)) rfl ?_)
                      refine boolSplit ((y60_1 != 0)) (fun e85 => ?_) (fun e85 => ?_)
                      · have H := H.1 e85
                        refine VL.gskipD rfl rfl (by decide) (.inl (congrArg Value.bool e85)) rfl (by decide) ?_
                        refine VL.gskipD rfl rfl (by decide) (.inl (congrArg Value.bool e85)) rfl (by decide) ?_
                        refine VL.stepD rfl rfl (by decide) (OE.pickV (t := true) (v := .bool true) (congrArg Value.bool e85) rfl ?_)
                        refine VL.stepD rfl rfl (by decide) (OE.moveV (v := .bool true) rfl ?_)
                        refine VL.gskipD rfl rfl (by decide) (.inl rfl) rfl (by decide) ?_
                        refine VL.gskipD rfl rfl (by decide) (.inl rfl) rfl (by decide) ?_
                        refine VL.gskipD rfl rfl (by decide) (.inl rfl) rfl (by decide) ?_
                        refine VL.gskipD rfl rfl (by decide) (.inl rfl) rfl (by decide) ?_
                        refine VL.stepD rfl rfl (by decide) (OE.pickV (t := true) (v := .bool true) rfl rfl ?_)
                        refine VL.stepD rfl rfl (by decide) (OE.moveV (v := .bool true) rfl ?_)
                        refine VL.gskipD rfl rfl (by decide) (.inl rfl) rfl (by decide) ?_
                        refine VL.gskipD rfl rfl (by decide) (.inl rfl) rfl (by decide) ?_
                        refine VL.gskipD rfl rfl (by decide) (.inl rfl) rfl (by decide) ?_
                        refine VL.gskipD rfl rfl (by decide) (.inl rfl) rfl (by decide) ?_
                        refine VL.stepD rfl rfl (by decide) (OE.pickV (t := true) (v := .bool true) rfl rfl ?_)
                        refine VL.stepD rfl rfl (by decide) (OE.moveV (v := .bool true) rfl ?_)
                        refine VL.gskipD rfl rfl (by decide) (.inl rfl) rfl (by decide) ?_
                        refine VL.gskipD rfl rfl (by decide) (.inl rfl) rfl (by decide) ?_
                        refine VL.gskipD rfl rfl (by decide) (.inl rfl) rfl (by decide) ?_
                        refine VL.stepD rfl rfl (by decide) (OE.pickV (t := true) (v := .bool true) rfl rfl ?_)
                        refine VL.nil ?_
                        exact ⟨rfl, true, rfl, rfl, rfl, H⟩
                      · have H := H.2 e85
                        refine VL.gstepD rfl rfl (by decide) (congrArg Value.bool e85) rfl (by decide) (OE.moveV (v := .int .i64 y63_1) rfl ?_)
                        refine VL.gstepD rfl rfl (by decide) (congrArg Value.bool e85) rfl (by decide) (OE.binI (v := .bool (y63_1 != 0)) rfl rfl rfl ?_)
                        refine VL.stepD rfl rfl (by decide) (OE.pickV (t := false) (v := .bool (y63_1 != 0)) (congrArg Value.bool e85) rfl ?_)
                        refine VL.stepD rfl rfl (by decide) (OE.moveV (v := .bool (y63_1 != 0)) rfl ?_)
                        refine boolSplit ((y63_1 != 0)) (fun e86 => ?_) (fun e86 => ?_)
                        · have H := H.1 e86
                          refine VL.gskipD rfl rfl (by decide) (.inl (congrArg Value.bool e86)) rfl (by decide) ?_
                          refine VL.gskipD rfl rfl (by decide) (.inl (congrArg Value.bool e86)) rfl (by decide) ?_
                          refine VL.gskipD rfl rfl (by decide) (.inl (congrArg Value.bool e86)) rfl (by decide) ?_
                          refine VL.gskipD rfl rfl (by decide) (.inl (congrArg Value.bool e86)) rfl (by decide) ?_
                          refine VL.stepD rfl rfl (by decide) (OE.pickV (t := true) (v := .bool true) (congrArg Value.bool e86) rfl ?_)
                          refine VL.stepD rfl rfl (by decide) (OE.moveV (v := .bool true) rfl ?_)
                          refine VL.gskipD rfl rfl (by decide) (.inl rfl) rfl (by decide) ?_
                          refine VL.gskipD rfl rfl (by decide) (.inl rfl) rfl (by decide) ?_
                          refine VL.gskipD rfl rfl (by decide) (.inl rfl) rfl (by decide) ?_
                          refine VL.gskipD rfl rfl (by decide) (.inl rfl) rfl (by decide) ?_
                          refine VL.stepD rfl rfl (by decide) (OE.pickV (t := true) (v := .bool true) rfl rfl ?_)
                          refine VL.stepD rfl rfl (by decide) (OE.moveV (v := .bool true) rfl ?_)
                          refine VL.gskipD rfl rfl (by decide) (.inl rfl) rfl (by decide) ?_
                          refine VL.gskipD rfl rfl (by decide) (.inl rfl) rfl (by decide) ?_
                          refine VL.gskipD rfl rfl (by decide) (.inl rfl) rfl (by decide) ?_
                          refine VL.stepD rfl rfl (by decide) (OE.pickV (t := true) (v := .bool true) rfl rfl ?_)
                          refine VL.nil ?_
                          exact ⟨rfl, true, rfl, rfl, rfl, H⟩
                        · have H := H.2 e86
                          refine VL.gstepD rfl rfl (by decide) (congrArg Value.bool e86) rfl (by decide) (OE.moveV (v := .slice y60_0A y60_0n y60_0c) rfl ?_)
                          refine VL.gstepD rfl rfl (by decide) (congrArg Value.bool e86) rfl (by decide) (OE.moveV (v := .slice j47A j47n j47c) rfl ?_)
                          refine VL.gstepD rfl rfl (by decide) (congrArg Value.bool e86) rfl (by decide) (OE.callL (args := [.slice y60_0A y60_0n y60_0c, .slice j47A j47n j47c]) Tryz.func19 rfl Tryz.nn19 rfl rfl (CHE.mono H (fun r87 h88 H => ?_) (fun _ _ e => e.elim)))
                          obtain ⟨y89, rfl, H⟩ := H
                          refine VL.gstepD rfl rfl (by decide) (congrArg Value.bool e86) rfl (by decide) (OE.not rfl ?_)
                          refine VL.stepD rfl rfl (by decide) (OE.pickV (t := false) (v := .bool (!y89)) (congrArg Value.bool e86) rfl ?_)
                          refine VL.stepD rfl rfl (by decide) (OE.moveV (v := .bool (!y89)) rfl ?_)
                          refine boolSplit ((!y89)) (fun e90 => ?_) (fun e90 => ?_)
                          · have H := H.1 e90
                            refine VL.gskipD rfl rfl (by decide) (.inl (congrArg Value.bool e90)) rfl (by decide) ?_
                            refine VL.gskipD rfl rfl (by decide) (.inl (congrArg Value.bool e90)) rfl (by decide) ?_
                            refine VL.gskipD rfl rfl (by decide) (.inl (congrArg Value.bool e90)) rfl (by decide) ?_
                            refine VL.gskipD rfl rfl (by decide) (.inl (congrArg Value.bool e90)) rfl (by decide) ?_
                            refine VL.stepD rfl rfl (by decide) (OE.pickV (t := true) (v := .bool true) (congrArg Value.bool e90) rfl ?_)
                            refine VL.stepD rfl rfl (by decide) (OE.moveV (v := .bool true) rfl ?_)
                            refine VL.gskipD rfl rfl (by decide) (.inl rfl) rfl (by decide) ?_
                            refine VL.gskipD rfl rfl (by decide) (.inl rfl) rfl (by decide) ?_
                            refine VL.gskipD rfl rfl (by decide) (.inl rfl) rfl (by decide) ?_
                            refine VL.stepD rfl rfl (by decide) (OE.pickV (t := true) (v := .bool true) rfl rfl ?_)
                            refine VL.nil ?_
                            exact ⟨rfl, true, rfl, rfl, rfl, H⟩
                          · have H := H.2 e90
                            refine VL.gstepD rfl rfl (by decide) (congrArg Value.bool e90) rfl (by decide) (OE.moveV (v := .slice y63_0A y63_0n y63_0c) rfl ?_)
                            refine VL.gstepD rfl rfl (by decide) (congrArg Value.bool e90) rfl (by decide) (OE.moveV (v := .slice baseA basen basec) rfl ?_)
                            refine VL.gstepD rfl rfl (by decide) (congrArg Value.bool e90) rfl (by decide) (OE.callL (args := [.slice y63_0A y63_0n y63_0c, .slice baseA basen basec]) Tryz.func19 rfl Tryz.nn19 rfl rfl (CHE.mono H (fun r91 h92 H => ?_) (fun _ _ e => e.elim)))
                            obtain ⟨y93, rfl, H⟩ := H
                            refine VL.gstepD rfl rfl (by decide) (congrArg Value.bool e90) rfl (by decide) (OE.not rfl ?_)
                            refine VL.stepD rfl rfl (by decide) (OE.pickV (t := false) (v := .bool (!y93)) (congrArg Value.bool e90) rfl ?_)
                            refine VL.stepD rfl rfl (by decide) (OE.moveV (v := .bool (!y93)) rfl ?_)
                            refine boolSplit ((!y93)) (fun e94 => ?_) (fun e94 => ?_)
                            · have H := H.1 e94
                              refine VL.gskipD rfl rfl (by decide) (.inl (congrArg Value.bool e94)) rfl (by decide) ?_
                              refine VL.gskipD rfl rfl (by decide) (.inl (congrArg Value.bool e94)) rfl (by decide) ?_
                              refine VL.gskipD rfl rfl (by decide) (.inl (congrArg Value.bool e94)) rfl (by decide) ?_
                              refine VL.stepD rfl rfl (by decide) (OE.pickV (t := true) (v := .bool true) (congrArg Value.bool e94) rfl ?_)
                              refine VL.nil ?_
                              exact ⟨rfl, true, rfl, rfl, rfl, H⟩
                            · have H := H.2 e94
                              refine VL.gstepD rfl rfl (by decide) (congrArg Value.bool e94) rfl (by decide) (OE.moveV (v := .pointer y10) rfl ?_)
                              refine VL.gstepD rfl rfl (by decide) (congrArg Value.bool e94) rfl (by decide) (OE.callL (args := [.pointer y10, .string (ByteArray.mk #[102])]) Tryz.func13 rfl Tryz.nn13 rfl rfl (CHE.mono H (fun r95 h96 H => ?_) (fun _ _ e => e.elim)))
                              obtain ⟨y97, rfl, H⟩ := H
                              refine VL.gstepD rfl rfl (by decide) (congrArg Value.bool e94) rfl (by decide) (OE.binI (v := .bool (y97 != 0)) rfl rfl rfl ?_)
                              refine VL.stepD rfl rfl (by decide) (OE.pickV (t := false) (v := .bool (y97 != 0)) (congrArg Value.bool e94) rfl ?_)
                              refine VL.nil ?_
                              exact ⟨rfl, (y97 != 0), rfl, rfl, rfl, H⟩
                  · skip
                    refine VC.seq ?_
                    refine VC.region ?_
                    refine VL.stepD rfl rfl (by decide) (OE.assignV (v := .int .i64 0) rfl ?_)
                    refine VL.nil ?_
                    change VC _ _ _ _ _ _ _
                    refine VC.block ?_
                    obtain ⟨Inv, ⟨m0, h0⟩, H⟩ := H
                    refine VC.loop (fun ds f h104 m => ds = [] ∧ ∃ j103 : Int, f 0 = (.slice baseA basen basec : Value) ∧ f 3 = (.int .i64 (IntKind.i64.wrap (1 + y18)) : Value) ∧ f 11 = (.pointer y10 : Value) ∧ f 13 = (.slice j47A j47n j47c : Value) ∧ f 19 = (.slice (some (Addr.mk b56 0 none)) 5 5 : Value) ∧ f 20 = (.int .i64 j103 : Value) ∧ Inv j103 h104 m) (m0 := m0) ⟨rfl, 0, rfl, rfl, rfl, rfl, rfl, rfl, h0⟩ ?_
                    intro ds f h104 m I
                    obtain ⟨rfl, j103, hk0, hk3, hk11, hk13, hk19, hk20, I⟩ := I
                    rw [← fr_self f [(0, .slice baseA basen basec), (3, .int .i64 (IntKind.i64.wrap (1 + y18))), (11, .pointer y10), (13, .slice j47A j47n j47c), (19, .slice (some (Addr.mk b56 0 none)) 5 5), (20, .int .i64 j103)] (by simp only [List.mem_cons, List.not_mem_nil, or_false]; rintro p (rfl | rfl | rfl | rfl | rfl | rfl) <;> assumption)]
                    obtain ⟨C105, eC105⟩ : ∃ C105 : Int → Hp → Prop, C105 = (fun j103 h104 => ∃ m1, m1 < m ∧ Inv j103 h104 m1) := ⟨_, rfl⟩
                    have H : D_treadlelaw3_DiskFaults.L9 R  baseA basen basec y10 y18 j47A j47n j47c b56 C105 j103 h104 := by rw [eC105]; exact H j103 h104 m I
                    unfold D_treadlelaw3_DiskFaults.L9 at H
                    refine VC.seq ?_
                    refine VC.seq ?_
                    refine VC.region ?_
                    refine VL.stepD rfl rfl (by decide) (OE.moveV (v := .int .i64 j103) rfl ?_)
                    refine VL.stepD rfl rfl (by decide) (OE.binI (v := .bool (decide (j103 < 5))) rfl rfl rfl ?_)
                    refine VL.nil ?_
                    change VC _ _ _ _ _ _ _
                    refine VC.cond (t := (decide (j103 < 5))) rfl (fun e106 => ?_) (fun e106 => ?_)
                    · have H := H.1 e106
                      refine VC.skip ?_
                      change VC _ _ _ _ _ _ _
                      refine VC.seq ?_
                      refine VC.block ?_
                      refine VC.seqJ (fun f h108 => ∃ j107 : Bool, f 0 = (.slice baseA basen basec : Value) ∧ f 3 = (.int .i64 (IntKind.i64.wrap (1 + y18)) : Value) ∧ f 11 = (.pointer y10 : Value) ∧ f 13 = (.slice j47A j47n j47c : Value) ∧ f 19 = (.slice (some (Addr.mk b56 0 none)) 5 5 : Value) ∧ f 20 = (.int .i64 j103 : Value) ∧ f 179 = (.bool j107 : Value) ∧ D_treadlelaw3_DiskFaults.J10 R C105 j103 j107 h108) ?_ ?_
                      · intro f h108 J
                        obtain ⟨j107, hk0, hk3, hk11, hk13, hk19, hk20, hk179, H⟩ := J
                        rw [← fr_self f [(0, .slice baseA basen basec), (3, .int .i64 (IntKind.i64.wrap (1 + y18))), (11, .pointer y10), (13, .slice j47A j47n j47c), (19, .slice (some (Addr.mk b56 0 none)) 5 5), (20, .int .i64 j103), (179, .bool j107)] (by simp only [List.mem_cons, List.not_mem_nil, or_false]; rintro p (rfl | rfl | rfl | rfl | rfl | rfl | rfl) <;> assumption)]
                        unfold D_treadlelaw3_DiskFaults.J10 at H
                        refine VC.cond (t := j107) rfl (fun e109 => ?_) (fun e109 => ?_)
                        · have H := H.1 e109
                          refine VC.seq ?_
                          refine VC.region ?_
                          refine VL.stepD rfl rfl (by decide) (OE.assignV (v := .bool false) rfl ?_)
                          refine VL.nil ?_
                          change VC _ _ _ _ _ _ _
                          refine VC.ret ?_
                          exact ⟨rfl, _, ResOK.t1 rfl (v := .bool false) rfl, H⟩
                        · have H := H.2 e109
                          refine VC.skip ?_
                          change VC _ _ _ _ _ _ _
                          refine VC.region ?_
                          refine VL.stepD rfl rfl (by decide) (OE.moveV (v := .int .i64 j103) rfl ?_)
                          refine VL.stepD rfl rfl (by decide) (OE.binI (v := .int .i64 (IntKind.i64.wrap (j103 + 1))) rfl rfl rfl ?_)
                          refine VL.stepD rfl rfl (by decide) (OE.assignV (v := .int .i64 (IntKind.i64.wrap (j103 + 1))) rfl ?_)
                          refine VL.nil ?_
                          rw [eC105] at H
                          obtain ⟨m1, hm1, H⟩ := H
                          exact ⟨m1, hm1, rfl, (IntKind.i64.wrap (j103 + 1)), rfl, rfl, rfl, rfl, rfl, rfl, H⟩
                      · skip
                        refine VC.region ?_
                        refine VL.stepD rfl rfl (by decide) (OE.moveV (v := .int .i64 j103) rfl ?_)
                        refine VL.stepD rfl rfl (by decide) (OE.binI (v := .int .i64 (IntKind.i64.wrap (j103 + 1))) rfl rfl rfl ?_)
                        refine VL.stepD rfl rfl (by decide) (OE.moveV (v := .int .i64 (IntKind.i64.wrap (1 + y18))) rfl ?_)
                        refine VL.stepD rfl rfl (by decide) (OE.binI (v := .bool ((IntKind.i64.wrap (j103 + 1)) == (IntKind.i64.wrap (1 + y18)))) rfl rfl rfl ?_)
                        refine VL.stepD rfl rfl (by decide) (OE.moveV (v := .bool ((IntKind.i64.wrap (j103 + 1)) == (IntKind.i64.wrap (1 + y18)))) rfl ?_)
                        refine boolSplit (((IntKind.i64.wrap (j103 + 1)) == (IntKind.i64.wrap (1 + y18)))) (fun e110 => ?_) (fun e110 => ?_)
                        · have H := H.1 e110
                          refine VL.gstepD rfl rfl (by decide) (congrArg Value.bool e110) rfl (by decide) (OE.moveV (v := .slice (some (Addr.mk b56 0 none)) 5 5) rfl ?_)
                          refine VL.gstepD rfl rfl (by decide) (congrArg Value.bool e110) rfl (by decide) (OE.moveV (v := .int .i64 j103) rfl ?_)
                          obtain ⟨a111, e112, z113, z114, H⟩ := H
                          refine VL.gstepD rfl rfl (by decide) (congrArg Value.bool e110) rfl (by decide) (OE.indexAddrI (sz := 1) rfl rfl Tryz.underlying38 Tryz.i26 e112 z113 z114 ?_)
                          obtain ⟨x115, hl116, H⟩ := H
                          refine VL.gstepD rfl rfl (by decide) (congrArg Value.bool e110) rfl (by decide) (OE.load (a := (a111.add (Int.toNat j103 * 1))) (v := .int .i64 x115) rfl (LdT.one Tryz.underlying26 rfl hl116) ?_)
                          refine VL.gstepD rfl rfl (by decide) (congrArg Value.bool e110) rfl (by decide) (OE.binI (v := .bool (x115 != 10)) rfl rfl rfl ?_)
                          refine VL.stepD rfl rfl (by decide) (OE.pickV (t := true) (v := .bool (x115 != 10)) (congrArg Value.bool e110) rfl ?_)
                          refine VL.stepD rfl rfl (by decide) (OE.moveV (v := .bool (x115 != 10)) rfl ?_)
                          refine boolSplit ((x115 != 10)) (fun e117 => ?_) (fun e117 => ?_)
                          · have H := H.1 e117
                            refine VL.gskipD rfl rfl (by decide) (.inl (congrArg Value.bool e117)) rfl (by decide) ?_
                            refine VL.gskipD rfl rfl (by decide) (.inl (congrArg Value.bool e117)) rfl (by decide) ?_
                            refine VL.gskipD rfl rfl (by decide) (.inl (congrArg Value.bool e117)) rfl (by decide) ?_
                            refine VL.gskipD rfl rfl (by decide) (.inl (congrArg Value.bool e117)) rfl (by decide) ?_
                            refine VL.gskipD rfl rfl (by decide) (.inl (congrArg Value.bool e117)) rfl (by decide) ?_
                            refine VL.gskipD rfl rfl (by decide) (.inr rfl) rfl (by decide) ?_
                            refine VL.gskipD rfl rfl (by decide) (.inr rfl) rfl (by decide) ?_
                            refine VL.gskipD rfl rfl (by decide) (.inr rfl) rfl (by decide) ?_
                            refine VL.gskipD rfl rfl (by decide) (.inr rfl) rfl (by decide) ?_
                            refine VL.gskipD rfl rfl (by decide) (.inr rfl) rfl (by decide) ?_
                            refine VL.gskipD rfl rfl (by decide) (.inl (congrArg Value.bool e117)) rfl (by decide) ?_
                            refine VL.stepD rfl rfl (by decide) (OE.pickV (t := true) (v := .bool true) (congrArg Value.bool e117) rfl ?_)
                            refine VL.nil ?_
                            exact ⟨rfl, true, rfl, rfl, rfl, rfl, rfl, rfl, rfl, H⟩
                          · have H := H.2 e117
                            refine VL.gstepD rfl rfl (by decide) (congrArg Value.bool e117) rfl (by decide) (OE.moveV (v := .int .i64 j103) rfl ?_)
                            refine VL.gstepD rfl rfl (by decide) (congrArg Value.bool e117) rfl (by decide) (OE.binI (v := .int .i64 (IntKind.i64.wrap (j103 + 1))) rfl rfl rfl ?_)
                            refine VL.gstepD rfl rfl (by decide) (congrArg Value.bool e117) rfl (by decide) (OE.moveV (v := .int .i64 (IntKind.i64.wrap (1 + y18))) rfl ?_)
                            refine VL.gstepD rfl rfl (by decide) (congrArg Value.bool e117) rfl (by decide) (OE.binI (v := .bool ((IntKind.i64.wrap (j103 + 1)) != (IntKind.i64.wrap (1 + y18)))) rfl rfl rfl ?_)
                            refine VL.gstepD rfl rfl (by decide) (congrArg Value.bool e117) rfl (by decide) (OE.moveV (v := .bool ((IntKind.i64.wrap (j103 + 1)) != (IntKind.i64.wrap (1 + y18)))) rfl ?_)
                            refine boolSplit (((IntKind.i64.wrap (j103 + 1)) != (IntKind.i64.wrap (1 + y18)))) (fun e118 => ?_) (fun e118 => ?_)
                            · have H := H.1 e118
                              refine VL.gstepD rfl rfl (by decide) (congrArg Value.bool e118) rfl (by decide) (OE.moveV (v := .slice (some (Addr.mk b56 0 none)) 5 5) rfl ?_)
                              refine VL.gstepD rfl rfl (by decide) (congrArg Value.bool e118) rfl (by decide) (OE.moveV (v := .int .i64 j103) rfl ?_)
                              obtain ⟨a119, e120, z121, z122, H⟩ := H
                              refine VL.gstepD rfl rfl (by decide) (congrArg Value.bool e118) rfl (by decide) (OE.indexAddrI (sz := 1) rfl rfl Tryz.underlying38 Tryz.i26 e120 z121 z122 ?_)
                              obtain ⟨x123, hl124, H⟩ := H
                              refine VL.gstepD rfl rfl (by decide) (congrArg Value.bool e118) rfl (by decide) (OE.load (a := (a119.add (Int.toNat j103 * 1))) (v := .int .i64 x123) rfl (LdT.one Tryz.underlying26 rfl hl124) ?_)
                              refine VL.gstepD rfl rfl (by decide) (congrArg Value.bool e118) rfl (by decide) (OE.binI (v := .bool (x123 != 0)) rfl rfl rfl ?_)
                              refine VL.gstepD rfl rfl (by decide) (congrArg Value.bool e117) rfl (by decide) (OE.pickV (t := true) (v := .bool (x123 != 0)) (congrArg Value.bool e118) rfl ?_)
                              refine VL.stepD rfl rfl (by decide) (OE.pickV (t := false) (v := .bool (x123 != 0)) (congrArg Value.bool e117) rfl ?_)
                              refine VL.nil ?_
                              exact ⟨rfl, (x123 != 0), rfl, rfl, rfl, rfl, rfl, rfl, rfl, H⟩
                            · have H := H.2 e118
                              refine VL.gskipD rfl rfl (by decide) (.inl (congrArg Value.bool e118)) rfl (by decide) ?_
                              refine VL.gskipD rfl rfl (by decide) (.inl (congrArg Value.bool e118)) rfl (by decide) ?_
                              refine VL.gskipD rfl rfl (by decide) (.inl (congrArg Value.bool e118)) rfl (by decide) ?_
                              refine VL.gskipD rfl rfl (by decide) (.inl (congrArg Value.bool e118)) rfl (by decide) ?_
                              refine VL.gskipD rfl rfl (by decide) (.inl (congrArg Value.bool e118)) rfl (by decide) ?_
                              refine VL.gstepD rfl rfl (by decide) (congrArg Value.bool e117) rfl (by decide) (OE.pickV (t := false) (v := .bool false) (congrArg Value.bool e118) rfl ?_)
                              refine VL.stepD rfl rfl (by decide) (OE.pickV (t := false) (v := .bool false) (congrArg Value.bool e117) rfl ?_)
                              refine VL.nil ?_
                              exact ⟨rfl, false, rfl, rfl, rfl, rfl, rfl, rfl, rfl, H⟩
                        · have H := H.2 e110
                          refine VL.gskipD rfl rfl (by decide) (.inl (congrArg Value.bool e110)) rfl (by decide) ?_
                          refine VL.gskipD rfl rfl (by decide) (.inl (congrArg Value.bool e110)) rfl (by decide) ?_
                          refine VL.gskipD rfl rfl (by decide) (.inl (congrArg Value.bool e110)) rfl (by decide) ?_
                          refine VL.gskipD rfl rfl (by decide) (.inl (congrArg Value.bool e110)) rfl (by decide) ?_
                          refine VL.gskipD rfl rfl (by decide) (.inl (congrArg Value.bool e110)) rfl (by decide) ?_
                          refine VL.stepD rfl rfl (by decide) (OE.pickV (t := false) (v := .bool false) (congrArg Value.bool e110) rfl ?_)
                          refine VL.stepD rfl rfl (by decide) (OE.moveV (v := .bool false) rfl ?_)
                          refine VL.gstepD rfl rfl (by decide) rfl rfl (by decide) (OE.moveV (v := .int .i64 j103) rfl ?_)
                          refine VL.gstepD rfl rfl (by decide) rfl rfl (by decide) (OE.binI (v := .int .i64 (IntKind.i64.wrap (j103 + 1))) rfl rfl rfl ?_)
                          refine VL.gstepD rfl rfl (by decide) rfl rfl (by decide) (OE.moveV (v := .int .i64 (IntKind.i64.wrap (1 + y18))) rfl ?_)
                          refine VL.gstepD rfl rfl (by decide) rfl rfl (by decide) (OE.binI (v := .bool ((IntKind.i64.wrap (j103 + 1)) != (IntKind.i64.wrap (1 + y18)))) rfl rfl rfl ?_)
                          refine VL.gstepD rfl rfl (by decide) rfl rfl (by decide) (OE.moveV (v := .bool ((IntKind.i64.wrap (j103 + 1)) != (IntKind.i64.wrap (1 + y18)))) rfl ?_)
                          refine boolSplit (((IntKind.i64.wrap (j103 + 1)) != (IntKind.i64.wrap (1 + y18)))) (fun e125 => ?_) (fun e125 => ?_)
                          · have H := H.1 e125
                            refine VL.gstepD rfl rfl (by decide) (congrArg Value.bool e125) rfl (by decide) (OE.moveV (v := .slice (some (Addr.mk b56 0 none)) 5 5) rfl ?_)
                            refine VL.gstepD rfl rfl (by decide) (congrArg Value.bool e125) rfl (by decide) (OE.moveV (v := .int .i64 j103) rfl ?_)
                            obtain ⟨a126, e127, z128, z129, H⟩ := H
                            refine VL.gstepD rfl rfl (by decide) (congrArg Value.bool e125) rfl (by decide) (OE.indexAddrI (sz := 1) rfl rfl Tryz.underlying38 Tryz.i26 e127 z128 z129 ?_)
                            obtain ⟨x130, hl131, H⟩ := H
                            refine VL.gstepD rfl rfl (by decide) (congrArg Value.bool e125) rfl (by decide) (OE.load (a := (a126.add (Int.toNat j103 * 1))) (v := .int .i64 x130) rfl (LdT.one Tryz.underlying26 rfl hl131) ?_)
                            refine VL.gstepD rfl rfl (by decide) (congrArg Value.bool e125) rfl (by decide) (OE.binI (v := .bool (x130 != 0)) rfl rfl rfl ?_)
                            refine VL.gstepD rfl rfl (by decide) rfl rfl (by decide) (OE.pickV (t := true) (v := .bool (x130 != 0)) (congrArg Value.bool e125) rfl ?_)
                            refine VL.stepD rfl rfl (by decide) (OE.pickV (t := false) (v := .bool (x130 != 0)) rfl rfl ?_)
                            refine VL.nil ?_
                            exact ⟨rfl, (x130 != 0), rfl, rfl, rfl, rfl, rfl, rfl, rfl, H⟩
                          · have H := H.2 e125
                            refine VL.gskipD rfl rfl (by decide) (.inl (congrArg Value.bool e125)) rfl (by decide) ?_
                            refine VL.gskipD rfl rfl (by decide) (.inl (congrArg Value.bool e125)) rfl (by decide) ?_
                            refine VL.gskipD rfl rfl (by decide) (.inl (congrArg Value.bool e125)) rfl (by decide) ?_
                            refine VL.gskipD rfl rfl (by decide) (.inl (congrArg Value.bool e125)) rfl (by decide) ?_
                            refine VL.gskipD rfl rfl (by decide) (.inl (congrArg Value.bool e125)) rfl (by decide) ?_
                            refine VL.gstepD rfl rfl (by decide) rfl rfl (by decide) (OE.pickV (t := false) (v := .bool false) (congrArg Value.bool e125) rfl ?_)
                            refine VL.stepD rfl rfl (by decide) (OE.pickV (t := false) (v := .bool false) rfl rfl ?_)
                            refine VL.nil ?_
                            exact ⟨rfl, false, rfl, rfl, rfl, rfl, rfl, rfl, rfl, H⟩
                    · have H := H.2 e106
                      refine VC.exit ?_
                      exact ⟨rfl, rfl, rfl, rfl, H⟩
                · skip
                  refine VC.seqJ (fun f h137 => ∃ j136 : Bool, f 0 = (.slice baseA basen basec : Value) ∧ f 3 = (.int .i64 (IntKind.i64.wrap (1 + y18)) : Value) ∧ f 11 = (.pointer y10 : Value) ∧ f 13 = (.slice j42A j42n j42c : Value) ∧ f 14 = (.int .i64 y36 : Value) ∧ f 15 = (.int .i64 y41 : Value) ∧ f 16 = (.int .i64 y46 : Value) ∧ f 138 = (.bool j136 : Value) ∧ D_treadlelaw3_DiskFaults.J11 R  baseA basen basec y10 y18 y36 y41 j42A j42n j42c y46 j136 h137) ?_ ?_
                  · intro f h137 J
                    obtain ⟨j136, hk0, hk3, hk11, hk13, hk14, hk15, hk16, hk138, H⟩ := J
                    rw [← fr_self f [(0, .slice baseA basen basec), (3, .int .i64 (IntKind.i64.wrap (1 + y18))), (11, .pointer y10), (13, .slice j42A j42n j42c), (14, .int .i64 y36), (15, .int .i64 y41), (16, .int .i64 y46), (138, .bool j136)] (by simp only [List.mem_cons, List.not_mem_nil, or_false]; rintro p (rfl | rfl | rfl | rfl | rfl | rfl | rfl | rfl) <;> assumption)]
                    unfold D_treadlelaw3_DiskFaults.J11 at H
                    refine VC.cond (t := j136) rfl (fun e138 => ?_) (fun e138 => ?_)
                    · have H := H.1 e138
                      refine VC.region ?_
                      refine VL.stepD rfl rfl (by decide) (OE.moveV (v := .slice baseA basen basec) rfl ?_)
                      refine VL.stepD rfl rfl (by decide) (OE.assignV (v := .slice baseA basen basec) rfl ?_)
                      refine VL.nil ?_
                      exact ⟨rfl, baseA, basen, basec, rfl, rfl, rfl, rfl, rfl, rfl, rfl, H⟩
                    · have H := H.2 e138
                      refine VC.skip ?_
                      exact ⟨rfl, j42A, j42n, j42c, rfl, rfl, rfl, rfl, rfl, rfl, rfl, H⟩
                  · skip
                    refine VC.region ?_
                    refine VL.stepD rfl rfl (by decide) (OE.moveV (v := .int .i64 (IntKind.i64.wrap (1 + y18))) rfl ?_)
                    refine VL.stepD rfl rfl (by decide) (OE.binI (v := .bool ((IntKind.i64.wrap (1 + y18)) == 3)) rfl rfl rfl ?_)
                    refine VL.stepD rfl rfl (by decide) (OE.moveV (v := .bool ((IntKind.i64.wrap (1 + y18)) == 3)) rfl ?_)
                    refine boolSplit (((IntKind.i64.wrap (1 + y18)) == 3)) (fun e139 => ?_) (fun e139 => ?_)
                    · have H := H.1 e139
                      refine VL.gstepD rfl rfl (by decide) (congrArg Value.bool e139) rfl (by decide) (OE.moveV (v := .bool lost) rfl ?_)
                      refine VL.stepD rfl rfl (by decide) (OE.pickV (t := true) (v := .bool lost) (congrArg Value.bool e139) rfl ?_)
                      refine VL.nil ?_
                      exact ⟨rfl, lost, rfl, rfl, rfl, rfl, rfl, rfl, rfl, rfl, H⟩
                    · have H := H.2 e139
                      refine VL.gskipD rfl rfl (by decide) (.inl (congrArg Value.bool e139)) rfl (by decide) ?_
                      refine VL.stepD rfl rfl (by decide) (OE.pickV (t := false) (v := .bool false) (congrArg Value.bool e139) rfl ?_)
                      refine VL.nil ?_
                      exact ⟨rfl, false, rfl, rfl, rfl, rfl, rfl, rfl, rfl, rfl, H⟩
              · skip
                refine VC.block ?_
                refine VC.seqJ (fun f h142 => ∃ j141 : Bool, f 0 = (.slice baseA basen basec : Value) ∧ f 2 = (.slice secondA secondn secondc : Value) ∧ f 3 = (.int .i64 (IntKind.i64.wrap (1 + y18)) : Value) ∧ f 4 = (.bool lost : Value) ∧ f 11 = (.pointer y10 : Value) ∧ f 13 = (.slice j37A j37n j37c : Value) ∧ f 14 = (.int .i64 y36 : Value) ∧ f 15 = (.int .i64 y41 : Value) ∧ f 112 = (.bool j141 : Value) ∧ D_treadlelaw3_DiskFaults.J12 R  baseA basen basec secondA secondn secondc lost y10 y18 y36 j37A j37n j37c y41 j141 h142) ?_ ?_
                · intro f h142 J
                  obtain ⟨j141, hk0, hk2, hk3, hk4, hk11, hk13, hk14, hk15, hk112, H⟩ := J
                  rw [← fr_self f [(0, .slice baseA basen basec), (2, .slice secondA secondn secondc), (3, .int .i64 (IntKind.i64.wrap (1 + y18))), (4, .bool lost), (11, .pointer y10), (13, .slice j37A j37n j37c), (14, .int .i64 y36), (15, .int .i64 y41), (112, .bool j141)] (by simp only [List.mem_cons, List.not_mem_nil, or_false]; rintro p (rfl | rfl | rfl | rfl | rfl | rfl | rfl | rfl | rfl) <;> assumption)]
                  unfold D_treadlelaw3_DiskFaults.J12 at H
                  refine VC.cond (t := j141) rfl (fun e143 => ?_) (fun e143 => ?_)
                  · have H := H.1 e143
                    refine VC.region ?_
                    refine VL.stepD rfl rfl (by decide) (OE.moveV (v := .slice j37A j37n j37c) rfl ?_)
                    refine VL.stepD rfl rfl (by decide) (OE.moveV (v := .slice secondA secondn secondc) rfl ?_)
                    refine VL.stepD rfl rfl (by decide) (OE.moveV (v := .slice secondA secondn secondc) rfl ?_)
                    refine VL.stepD rfl rfl (by decide) (OE.lenSlice rfl Tryz.underlying22 ?_)
                    refine VL.stepD rfl rfl (by decide) (OE.binI (v := .int .i64 (IntKind.i64.wrap (Int.tdiv ((secondn : Nat) : Int) 2))) rfl rfl rfl ?_)
                    obtain ⟨z144, z145, H⟩ := H
                    refine VL.stepD rfl rfl (by decide) (OE.sliceHiV (sz := 1) rfl rfl Tryz.underlying22 Tryz.i5 z144 z145 ?_)
                    obtain ⟨vs146, z147, z148, z149, z150, H⟩ := H
                    refine VL.stepD rfl rfl (by decide) (OE.appendV (z := (.int .u8 0 : Value)) (sz := 1) (bs := 1) rfl rfl Tryz.underlying22 Tryz.i5 z147 z148 z149 z150 (AppendV.mono H (fun A151 n152 c153 h154 H => ?_)))
                    refine VL.stepD rfl rfl (by decide) (OE.assignV (v := .slice A151 n152 c153) rfl ?_)
                    refine VL.nil ?_
                    exact ⟨rfl, A151, n152, c153, rfl, rfl, rfl, rfl, rfl, rfl, rfl, H⟩
                  · have H := H.2 e143
                    refine VC.seq ?_
                    refine VC.region ?_
                    refine VL.stepD rfl rfl (by decide) (OE.moveV (v := .int .i64 (IntKind.i64.wrap (1 + y18))) rfl ?_)
                    refine VL.stepD rfl rfl (by decide) (OE.binI (v := .bool ((IntKind.i64.wrap (1 + y18)) != 2)) rfl rfl rfl ?_)
                    refine VL.stepD rfl rfl (by decide) (OE.assignV (v := .bool ((IntKind.i64.wrap (1 + y18)) != 2)) rfl ?_)
                    refine VL.nil ?_
                    change VC _ _ _ _ _ _ _
                    refine VC.cond (t := ((IntKind.i64.wrap (1 + y18)) != 2)) rfl (fun e155 => ?_) (fun e155 => ?_)
                    · have H := H.1 e155
                      refine VC.region ?_
                      refine VL.stepD rfl rfl (by decide) (OE.moveV (v := .slice j37A j37n j37c) rfl ?_)
                      refine VL.stepD rfl rfl (by decide) (OE.moveV (v := .slice secondA secondn secondc) rfl ?_)
                      obtain ⟨vs156, z157, z158, z159, z160, H⟩ := H
                      refine VL.stepD rfl rfl (by decide) (OE.appendV (z := (.int .u8 0 : Value)) (sz := 1) (bs := 1) rfl rfl Tryz.underlying22 Tryz.i5 z157 z158 z159 z160 (AppendV.mono H (fun A161 n162 c163 h164 H => ?_)))
                      refine VL.stepD rfl rfl (by decide) (OE.assignV (v := .slice A161 n162 c163) rfl ?_)
                      refine VL.nil ?_
                      exact ⟨rfl, A161, n162, c163, rfl, rfl, rfl, rfl, rfl, rfl, rfl, H⟩
                    · have H := H.2 e155
                      refine VC.skip ?_
                      exact ⟨rfl, j37A, j37n, j37c, rfl, rfl, rfl, rfl, rfl, rfl, rfl, H⟩
                · skip
                  refine VC.region ?_
                  refine VL.stepD rfl rfl (by decide) (OE.moveV (v := .int .i64 (IntKind.i64.wrap (1 + y18))) rfl ?_)
                  refine VL.stepD rfl rfl (by decide) (OE.binI (v := .bool ((IntKind.i64.wrap (1 + y18)) == 2)) rfl rfl rfl ?_)
                  refine VL.stepD rfl rfl (by decide) (OE.moveV (v := .bool ((IntKind.i64.wrap (1 + y18)) == 2)) rfl ?_)
                  refine boolSplit (((IntKind.i64.wrap (1 + y18)) == 2)) (fun e165 => ?_) (fun e165 => ?_)
                  · have H := H.1 e165
                    refine VL.gstepD rfl rfl (by decide) (congrArg Value.bool e165) rfl (by decide) (OE.moveV (v := .bool lost) rfl ?_)
                    refine VL.gstepD rfl rfl (by decide) (congrArg Value.bool e165) rfl (by decide) (OE.not rfl ?_)
                    refine VL.stepD rfl rfl (by decide) (OE.pickV (t := true) (v := .bool (!lost)) (congrArg Value.bool e165) rfl ?_)
                    refine VL.stepD rfl rfl (by decide) (OE.assignV (v := .bool (!lost)) rfl ?_)
                    refine VL.nil ?_
                    exact ⟨rfl, (!lost), rfl, rfl, rfl, rfl, rfl, rfl, rfl, rfl, rfl, H⟩
                  · have H := H.2 e165
                    refine VL.gskipD rfl rfl (by decide) (.inl (congrArg Value.bool e165)) rfl (by decide) ?_
                    refine VL.gskipD rfl rfl (by decide) (.inl (congrArg Value.bool e165)) rfl (by decide) ?_
                    refine VL.stepD rfl rfl (by decide) (OE.pickV (t := false) (v := .bool false) (congrArg Value.bool e165) rfl ?_)
                    refine VL.stepD rfl rfl (by decide) (OE.assignV (v := .bool false) rfl ?_)
                    refine VL.nil ?_
                    exact ⟨rfl, false, rfl, rfl, rfl, rfl, rfl, rfl, rfl, rfl, rfl, H⟩
            · skip
              refine VC.block ?_
              refine VC.seqJ (fun f h168 => ∃ j167 : Bool, f 0 = (.slice baseA basen basec : Value) ∧ f 1 = (.slice firstA firstn firstc : Value) ∧ f 2 = (.slice secondA secondn secondc : Value) ∧ f 3 = (.int .i64 (IntKind.i64.wrap (1 + y18)) : Value) ∧ f 4 = (.bool lost : Value) ∧ f 11 = (.pointer y10 : Value) ∧ f 13 = (.slice A30 n31 c32 : Value) ∧ f 14 = (.int .i64 y36 : Value) ∧ f 89 = (.bool j167 : Value) ∧ D_treadlelaw3_DiskFaults.J13 R  baseA basen basec firstA firstn firstc secondA secondn secondc lost y10 y18 A30 n31 c32 y36 j167 h168) ?_ ?_
              · intro f h168 J
                obtain ⟨j167, hk0, hk1, hk2, hk3, hk4, hk11, hk13, hk14, hk89, H⟩ := J
                rw [← fr_self f [(0, .slice baseA basen basec), (1, .slice firstA firstn firstc), (2, .slice secondA secondn secondc), (3, .int .i64 (IntKind.i64.wrap (1 + y18))), (4, .bool lost), (11, .pointer y10), (13, .slice A30 n31 c32), (14, .int .i64 y36), (89, .bool j167)] (by simp only [List.mem_cons, List.not_mem_nil, or_false]; rintro p (rfl | rfl | rfl | rfl | rfl | rfl | rfl | rfl | rfl) <;> assumption)]
                unfold D_treadlelaw3_DiskFaults.J13 at H
                refine VC.cond (t := j167) rfl (fun e169 => ?_) (fun e169 => ?_)
                · have H := H.1 e169
                  refine VC.region ?_
                  refine VL.stepD rfl rfl (by decide) (OE.moveV (v := .slice A30 n31 c32) rfl ?_)
                  refine VL.stepD rfl rfl (by decide) (OE.moveV (v := .slice firstA firstn firstc) rfl ?_)
                  refine VL.stepD rfl rfl (by decide) (OE.moveV (v := .slice firstA firstn firstc) rfl ?_)
                  refine VL.stepD rfl rfl (by decide) (OE.lenSlice rfl Tryz.underlying22 ?_)
                  refine VL.stepD rfl rfl (by decide) (OE.binI (v := .int .i64 (IntKind.i64.wrap (Int.tdiv ((firstn : Nat) : Int) 2))) rfl rfl rfl ?_)
                  obtain ⟨z170, z171, H⟩ := H
                  refine VL.stepD rfl rfl (by decide) (OE.sliceHiV (sz := 1) rfl rfl Tryz.underlying22 Tryz.i5 z170 z171 ?_)
                  obtain ⟨vs172, z173, z174, z175, z176, H⟩ := H
                  refine VL.stepD rfl rfl (by decide) (OE.appendV (z := (.int .u8 0 : Value)) (sz := 1) (bs := 1) rfl rfl Tryz.underlying22 Tryz.i5 z173 z174 z175 z176 (AppendV.mono H (fun A177 n178 c179 h180 H => ?_)))
                  refine VL.stepD rfl rfl (by decide) (OE.assignV (v := .slice A177 n178 c179) rfl ?_)
                  refine VL.nil ?_
                  exact ⟨rfl, A177, n178, c179, rfl, rfl, rfl, rfl, rfl, rfl, rfl, H⟩
                · have H := H.2 e169
                  refine VC.seq ?_
                  refine VC.region ?_
                  refine VL.stepD rfl rfl (by decide) (OE.moveV (v := .int .i64 (IntKind.i64.wrap (1 + y18))) rfl ?_)
                  refine VL.stepD rfl rfl (by decide) (OE.binI (v := .bool ((IntKind.i64.wrap (1 + y18)) != 1)) rfl rfl rfl ?_)
                  refine VL.stepD rfl rfl (by decide) (OE.assignV (v := .bool ((IntKind.i64.wrap (1 + y18)) != 1)) rfl ?_)
                  refine VL.nil ?_
                  change VC _ _ _ _ _ _ _
                  refine VC.cond (t := ((IntKind.i64.wrap (1 + y18)) != 1)) rfl (fun e181 => ?_) (fun e181 => ?_)
                  · have H := H.1 e181
                    refine VC.region ?_
                    refine VL.stepD rfl rfl (by decide) (OE.moveV (v := .slice A30 n31 c32) rfl ?_)
                    refine VL.stepD rfl rfl (by decide) (OE.moveV (v := .slice firstA firstn firstc) rfl ?_)
                    obtain ⟨vs182, z183, z184, z185, z186, H⟩ := H
                    refine VL.stepD rfl rfl (by decide) (OE.appendV (z := (.int .u8 0 : Value)) (sz := 1) (bs := 1) rfl rfl Tryz.underlying22 Tryz.i5 z183 z184 z185 z186 (AppendV.mono H (fun A187 n188 c189 h190 H => ?_)))
                    refine VL.stepD rfl rfl (by decide) (OE.assignV (v := .slice A187 n188 c189) rfl ?_)
                    refine VL.nil ?_
                    exact ⟨rfl, A187, n188, c189, rfl, rfl, rfl, rfl, rfl, rfl, rfl, H⟩
                  · have H := H.2 e181
                    refine VC.skip ?_
                    exact ⟨rfl, A30, n31, c32, rfl, rfl, rfl, rfl, rfl, rfl, rfl, H⟩
              · skip
                refine VC.region ?_
                refine VL.stepD rfl rfl (by decide) (OE.moveV (v := .int .i64 (IntKind.i64.wrap (1 + y18))) rfl ?_)
                refine VL.stepD rfl rfl (by decide) (OE.binI (v := .bool ((IntKind.i64.wrap (1 + y18)) == 1)) rfl rfl rfl ?_)
                refine VL.stepD rfl rfl (by decide) (OE.moveV (v := .bool ((IntKind.i64.wrap (1 + y18)) == 1)) rfl ?_)
                refine boolSplit (((IntKind.i64.wrap (1 + y18)) == 1)) (fun e191 => ?_) (fun e191 => ?_)
                · have H := H.1 e191
                  refine VL.gstepD rfl rfl (by decide) (congrArg Value.bool e191) rfl (by decide) (OE.moveV (v := .bool lost) rfl ?_)
                  refine VL.gstepD rfl rfl (by decide) (congrArg Value.bool e191) rfl (by decide) (OE.not rfl ?_)
                  refine VL.stepD rfl rfl (by decide) (OE.pickV (t := true) (v := .bool (!lost)) (congrArg Value.bool e191) rfl ?_)
                  refine VL.stepD rfl rfl (by decide) (OE.assignV (v := .bool (!lost)) rfl ?_)
                  refine VL.nil ?_
                  exact ⟨rfl, (!lost), rfl, rfl, rfl, rfl, rfl, rfl, rfl, rfl, rfl, H⟩
                · have H := H.2 e191
                  refine VL.gskipD rfl rfl (by decide) (.inl (congrArg Value.bool e191)) rfl (by decide) ?_
                  refine VL.gskipD rfl rfl (by decide) (.inl (congrArg Value.bool e191)) rfl (by decide) ?_
                  refine VL.stepD rfl rfl (by decide) (OE.pickV (t := false) (v := .bool false) (congrArg Value.bool e191) rfl ?_)
                  refine VL.stepD rfl rfl (by decide) (OE.assignV (v := .bool false) rfl ?_)
                  refine VL.nil ?_
                  exact ⟨rfl, false, rfl, rfl, rfl, rfl, rfl, rfl, rfl, rfl, rfl, H⟩
          · skip
            refine VC.seq ?_
            refine VC.region ?_
            refine VL.stepD rfl rfl (by decide) (OE.moveV (v := .bool lost) rfl ?_)
            refine VL.nil ?_
            change VC _ _ _ _ _ _ _
            refine VC.cond (t := lost) rfl (fun e198 => ?_) (fun e198 => ?_)
            · have H := H.1 e198
              refine VC.region ?_
              refine VL.stepD rfl rfl (by decide) (OE.assignV (v := .int .i64 4) rfl ?_)
              refine VL.nil ?_
              exact ⟨rfl, 4, rfl, rfl, rfl, rfl, rfl, rfl, rfl, H⟩
            · have H := H.2 e198
              refine VC.skip ?_
              exact ⟨rfl, 5, rfl, rfl, rfl, rfl, rfl, rfl, rfl, H⟩
      · skip
        refine VC.region ?_
        refine VL.stepD rfl rfl (by decide) (OE.moveV (v := .pointer y10) rfl ?_)
        refine VL.stepD rfl rfl (by decide) (OE.ptrNilV (b := (Option.isNone y10)) (p := y10) (q := none) rfl rfl Tryz.underlying24 (.inr rfl) (by simp) ?_)
        refine VL.stepD rfl rfl (by decide) (OE.moveV (v := .bool (Option.isNone y10)) rfl ?_)
        refine boolSplit ((Option.isNone y10)) (fun e199 => ?_) (fun e199 => ?_)
        · have H := H.1 e199
          refine VL.gskipD rfl rfl (by decide) (.inl (congrArg Value.bool e199)) rfl (by decide) ?_
          refine VL.gskipD rfl rfl (by decide) (.inl (congrArg Value.bool e199)) rfl (by decide) ?_
          refine VL.gskipD rfl rfl (by decide) (.inl (congrArg Value.bool e199)) rfl (by decide) ?_
          refine VL.stepD rfl rfl (by decide) (OE.pickV (t := true) (v := .bool true) (congrArg Value.bool e199) rfl ?_)
          refine VL.stepD rfl rfl (by decide) (OE.moveV (v := .bool true) rfl ?_)
          refine VL.gskipD rfl rfl (by decide) (.inl rfl) rfl (by decide) ?_
          refine VL.gskipD rfl rfl (by decide) (.inl rfl) rfl (by decide) ?_
          refine VL.gskipD rfl rfl (by decide) (.inl rfl) rfl (by decide) ?_
          refine VL.stepD rfl rfl (by decide) (OE.pickV (t := true) (v := .bool true) rfl rfl ?_)
          refine VL.stepD rfl rfl (by decide) (OE.moveV (v := .bool true) rfl ?_)
          refine VL.gskipD rfl rfl (by decide) (.inl rfl) rfl (by decide) ?_
          refine VL.gskipD rfl rfl (by decide) (.inl rfl) rfl (by decide) ?_
          refine VL.gskipD rfl rfl (by decide) (.inl rfl) rfl (by decide) ?_
          refine VL.gskipD rfl rfl (by decide) (.inl rfl) rfl (by decide) ?_
          refine VL.stepD rfl rfl (by decide) (OE.pickV (t := true) (v := .bool true) rfl rfl ?_)
          refine VL.stepD rfl rfl (by decide) (OE.moveV (v := .bool true) rfl ?_)
          refine VL.gskipD rfl rfl (by decide) (.inl rfl) rfl (by decide) ?_
          refine VL.gskipD rfl rfl (by decide) (.inl rfl) rfl (by decide) ?_
          refine VL.gskipD rfl rfl (by decide) (.inl rfl) rfl (by decide) ?_
          refine VL.gskipD rfl rfl (by decide) (.inl rfl) rfl (by decide) ?_
          refine VL.stepD rfl rfl (by decide) (OE.pickV (t := true) (v := .bool true) rfl rfl ?_)
          refine VL.stepD rfl rfl (by decide) (OE.moveV (v := .bool true) rfl ?_)
          refine VL.gskipD rfl rfl (by decide) (.inl rfl) rfl (by decide) ?_
          refine VL.gskipD rfl rfl (by decide) (.inl rfl) rfl (by decide) ?_
          refine VL.gskipD rfl rfl (by decide) (.inl rfl) rfl (by decide) ?_
          refine VL.stepD rfl rfl (by decide) (OE.pickV (t := true) (v := .bool true) rfl rfl ?_)
          refine VL.stepD rfl rfl (by decide) (OE.moveV (v := .bool true) rfl ?_)
          refine VL.gskipD rfl rfl (by decide) (.inl rfl) rfl (by decide) ?_
          refine VL.gskipD rfl rfl (by decide) (.inl rfl) rfl (by decide) ?_
          refine VL.gskipD rfl rfl (by decide) (.inl rfl) rfl (by decide) ?_
          refine VL.stepD rfl rfl (by decide) (OE.pickV (t := true) (v := .bool true) rfl rfl ?_)
          refine VL.nil ?_
          exact ⟨rfl, true, rfl, rfl, rfl, rfl, rfl, rfl, rfl, H⟩
        · have H := H.2 e199
          refine VL.gstepD rfl rfl (by decide) (congrArg Value.bool e199) rfl (by decide) (OE.moveV (v := .pointer y10) rfl ?_)
          refine VL.gstepD rfl rfl (by decide) (congrArg Value.bool e199) rfl (by decide) (OE.callL (args := [.pointer y10, .string (ByteArray.mk #[102])]) Tryz.func11 rfl Tryz.nn11 rfl rfl (CHE.mono H (fun r200 h201 H => ?_) (fun _ _ e => e.elim)))
          obtain ⟨y202, rfl, H⟩ := H
          refine VL.gstepD rfl rfl (by decide) (congrArg Value.bool e199) rfl (by decide) (OE.binI (v := .bool (y202 != 0)) rfl rfl rfl ?_)
          refine VL.stepD rfl rfl (by decide) (OE.pickV (t := false) (v := .bool (y202 != 0)) (congrArg Value.bool e199) rfl ?_)
          refine VL.stepD rfl rfl (by decide) (OE.moveV (v := .bool (y202 != 0)) rfl ?_)
          refine boolSplit ((y202 != 0)) (fun e203 => ?_) (fun e203 => ?_)
          · have H := H.1 e203
            refine VL.gskipD rfl rfl (by decide) (.inl (congrArg Value.bool e203)) rfl (by decide) ?_
            refine VL.gskipD rfl rfl (by decide) (.inl (congrArg Value.bool e203)) rfl (by decide) ?_
            refine VL.gskipD rfl rfl (by decide) (.inl (congrArg Value.bool e203)) rfl (by decide) ?_
            refine VL.stepD rfl rfl (by decide) (OE.pickV (t := true) (v := .bool true) (congrArg Value.bool e203) rfl ?_)
            refine VL.stepD rfl rfl (by decide) (OE.moveV (v := .bool true) rfl ?_)
            refine VL.gskipD rfl rfl (by decide) (.inl rfl) rfl (by decide) ?_
            refine VL.gskipD rfl rfl (by decide) (.inl rfl) rfl (by decide) ?_
            refine VL.gskipD rfl rfl (by decide) (.inl rfl) rfl (by decide) ?_
            refine VL.gskipD rfl rfl (by decide) (.inl rfl) rfl (by decide) ?_
            refine VL.stepD rfl rfl (by decide) (OE.pickV (t := true) (v := .bool true) rfl rfl ?_)
            refine VL.stepD rfl rfl (by decide) (OE.moveV (v := .bool true) rfl ?_)
            refine VL.gskipD rfl rfl (by decide) (.inl rfl) rfl (by decide) ?_
            refine VL.gskipD rfl rfl (by decide) (.inl rfl) rfl (by decide) ?_
            refine VL.gskipD rfl rfl (by decide) (.inl rfl) rfl (by decide) ?_
            refine VL.gskipD rfl rfl (by decide) (.inl rfl) rfl (by decide) ?_
            refine VL.stepD rfl rfl (by decide) (OE.pickV (t := true) (v := .bool true) rfl rfl ?_)
            refine VL.stepD rfl rfl (by decide) (OE.moveV (v := .bool true) rfl ?_)
            refine VL.gskipD rfl rfl (by decide) (.inl rfl) rfl (by decide) ?_
            refine VL.gskipD rfl rfl (by decide) (.inl rfl) rfl (by decide) ?_
            refine VL.gskipD rfl rfl (by decide) (.inl rfl) rfl (by decide) ?_
            refine VL.stepD rfl rfl (by decide) (OE.pickV (t := true) (v := .bool true) rfl rfl ?_)
            refine VL.stepD rfl rfl (by decide) (OE.moveV (v := .bool true) rfl ?_)
            refine VL.gskipD rfl rfl (by decide) (.inl rfl) rfl (by decide) ?_
            refine VL.gskipD rfl rfl (by decide) (.inl rfl) rfl (by decide) ?_
            refine VL.gskipD rfl rfl (by decide) (.inl rfl) rfl (by decide) ?_
            refine VL.stepD rfl rfl (by decide) (OE.pickV (t := true) (v := .bool true) rfl rfl ?_)
            refine VL.nil ?_
            exact ⟨rfl, true, rfl, rfl, rfl, rfl, rfl, rfl, rfl, H⟩
          · have H := H.2 e203
            refine VL.gstepD rfl rfl (by decide) (congrArg Value.bool e203) rfl (by decide) (OE.moveV (v := .pointer y10) rfl ?_)
            refine VL.gstepD rfl rfl (by decide) (congrArg Value.bool e203) rfl (by decide) (OE.callL (args := [.pointer y10, .string (ByteArray.mk #[103])]) Tryz.func11 rfl Tryz.nn11 rfl rfl (CHE.mono H (fun r204 h205 H => ?_) (fun _ _ e => e.elim)))
            obtain ⟨y206, rfl, H⟩ := H
            refine VL.gstepD rfl rfl (by decide) (congrArg Value.bool e203) rfl (by decide) (OE.binI (v := .bool (y206 != 0)) rfl rfl rfl ?_)
            refine VL.stepD rfl rfl (by decide) (OE.pickV (t := false) (v := .bool (y206 != 0)) (congrArg Value.bool e203) rfl ?_)
            refine VL.stepD rfl rfl (by decide) (OE.moveV (v := .bool (y206 != 0)) rfl ?_)
            refine boolSplit ((y206 != 0)) (fun e207 => ?_) (fun e207 => ?_)
            · have H := H.1 e207
              refine VL.gskipD rfl rfl (by decide) (.inl (congrArg Value.bool e207)) rfl (by decide) ?_
              refine VL.gskipD rfl rfl (by decide) (.inl (congrArg Value.bool e207)) rfl (by decide) ?_
              refine VL.gskipD rfl rfl (by decide) (.inl (congrArg Value.bool e207)) rfl (by decide) ?_
              refine VL.gskipD rfl rfl (by decide) (.inl (congrArg Value.bool e207)) rfl (by decide) ?_
              refine VL.stepD rfl rfl (by decide) (OE.pickV (t := true) (v := .bool true) (congrArg Value.bool e207) rfl ?_)
              refine VL.stepD rfl rfl (by decide) (OE.moveV (v := .bool true) rfl ?_)
              refine VL.gskipD rfl rfl (by decide) (.inl rfl) rfl (by decide) ?_
              refine VL.gskipD rfl rfl (by decide) (.inl rfl) rfl (by decide) ?_
              refine VL.gskipD rfl rfl (by decide) (.inl rfl) rfl (by decide) ?_
              refine VL.gskipD rfl rfl (by decide) (.inl rfl) rfl (by decide) ?_
              refine VL.stepD rfl rfl (by decide) (OE.pickV (t := true) (v := .bool true) rfl rfl ?_)
              refine VL.stepD rfl rfl (by decide) (OE.moveV (v := .bool true) rfl ?_)
              refine VL.gskipD rfl rfl (by decide) (.inl rfl) rfl (by decide) ?_
              refine VL.gskipD rfl rfl (by decide) (.inl rfl) rfl (by decide) ?_
              refine VL.gskipD rfl rfl (by decide) (.inl rfl) rfl (by decide) ?_
              refine VL.stepD rfl rfl (by decide) (OE.pickV (t := true) (v := .bool true) rfl rfl ?_)
              refine VL.stepD rfl rfl (by decide) (OE.moveV (v := .bool true) rfl ?_)
              refine VL.gskipD rfl rfl (by decide) (.inl rfl) rfl (by decide) ?_
              refine VL.gskipD rfl rfl (by decide) (.inl rfl) rfl (by decide) ?_
              refine VL.gskipD rfl rfl (by decide) (.inl rfl) rfl (by decide) ?_
              refine VL.stepD rfl rfl (by decide) (OE.pickV (t := true) (v := .bool true) rfl rfl ?_)
              refine VL.nil ?_
              exact ⟨rfl, true, rfl, rfl, rfl, rfl, rfl, rfl, rfl, H⟩
            · have H := H.2 e207
              refine VL.gstepD rfl rfl (by decide) (congrArg Value.bool e207) rfl (by decide) (OE.moveV (v := .pointer y10) rfl ?_)
              refine VL.gstepD rfl rfl (by decide) (congrArg Value.bool e207) rfl (by decide) (OE.moveV (v := .slice baseA basen basec) rfl ?_)
              refine VL.gstepD rfl rfl (by decide) (congrArg Value.bool e207) rfl (by decide) (OE.callL (args := [.pointer y10, .string (ByteArray.mk #[102]), .slice baseA basen basec]) Tryz.func12 rfl Tryz.nn12 rfl rfl (CHE.mono H (fun r208 h209 H => ?_) (fun _ _ e => e.elim)))
              obtain ⟨y210, rfl, H⟩ := H
              refine VL.gstepD rfl rfl (by decide) (congrArg Value.bool e207) rfl (by decide) (OE.binI (v := .bool (y210 != 0)) rfl rfl rfl ?_)
              refine VL.stepD rfl rfl (by decide) (OE.pickV (t := false) (v := .bool (y210 != 0)) (congrArg Value.bool e207) rfl ?_)
              refine VL.stepD rfl rfl (by decide) (OE.moveV (v := .bool (y210 != 0)) rfl ?_)
              refine boolSplit ((y210 != 0)) (fun e211 => ?_) (fun e211 => ?_)
              · have H := H.1 e211
                refine VL.gskipD rfl rfl (by decide) (.inl (congrArg Value.bool e211)) rfl (by decide) ?_
                refine VL.gskipD rfl rfl (by decide) (.inl (congrArg Value.bool e211)) rfl (by decide) ?_
                refine VL.gskipD rfl rfl (by decide) (.inl (congrArg Value.bool e211)) rfl (by decide) ?_
                refine VL.gskipD rfl rfl (by decide) (.inl (congrArg Value.bool e211)) rfl (by decide) ?_
                refine VL.stepD rfl rfl (by decide) (OE.pickV (t := true) (v := .bool true) (congrArg Value.bool e211) rfl ?_)
                refine VL.stepD rfl rfl (by decide) (OE.moveV (v := .bool true) rfl ?_)
                refine VL.gskipD rfl rfl (by decide) (.inl rfl) rfl (by decide) ?_
                refine VL.gskipD rfl rfl (by decide) (.inl rfl) rfl (by decide) ?_
                refine VL.gskipD rfl rfl (by decide) (.inl rfl) rfl (by decide) ?_
                refine VL.stepD rfl rfl (by decide) (OE.pickV (t := true) (v := .bool true) rfl rfl ?_)
                refine VL.stepD rfl rfl (by decide) (OE.moveV (v := .bool true) rfl ?_)
                refine VL.gskipD rfl rfl (by decide) (.inl rfl) rfl (by decide) ?_
                refine VL.gskipD rfl rfl (by decide) (.inl rfl) rfl (by decide) ?_
                refine VL.gskipD rfl rfl (by decide) (.inl rfl) rfl (by decide) ?_
                refine VL.stepD rfl rfl (by decide) (OE.pickV (t := true) (v := .bool true) rfl rfl ?_)
                refine VL.nil ?_
                exact ⟨rfl, true, rfl, rfl, rfl, rfl, rfl, rfl, rfl, H⟩
              · have H := H.2 e211
                refine VL.gstepD rfl rfl (by decide) (congrArg Value.bool e211) rfl (by decide) (OE.moveV (v := .pointer y10) rfl ?_)
                refine VL.gstepD rfl rfl (by decide) (congrArg Value.bool e211) rfl (by decide) (OE.moveV (v := .slice baseA basen basec) rfl ?_)
                refine VL.gstepD rfl rfl (by decide) (congrArg Value.bool e211) rfl (by decide) (OE.callL (args := [.pointer y10, .string (ByteArray.mk #[103]), .slice baseA basen basec]) Tryz.func12 rfl Tryz.nn12 rfl rfl (CHE.mono H (fun r212 h213 H => ?_) (fun _ _ e => e.elim)))
                obtain ⟨y214, rfl, H⟩ := H
                refine VL.gstepD rfl rfl (by decide) (congrArg Value.bool e211) rfl (by decide) (OE.binI (v := .bool (y214 != 0)) rfl rfl rfl ?_)
                refine VL.stepD rfl rfl (by decide) (OE.pickV (t := false) (v := .bool (y214 != 0)) (congrArg Value.bool e211) rfl ?_)
                refine VL.stepD rfl rfl (by decide) (OE.moveV (v := .bool (y214 != 0)) rfl ?_)
                refine boolSplit ((y214 != 0)) (fun e215 => ?_) (fun e215 => ?_)
                · have H := H.1 e215
                  refine VL.gskipD rfl rfl (by decide) (.inl (congrArg Value.bool e215)) rfl (by decide) ?_
                  refine VL.gskipD rfl rfl (by decide) (.inl (congrArg Value.bool e215)) rfl (by decide) ?_
                  refine VL.gskipD rfl rfl (by decide) (.inl (congrArg Value.bool e215)) rfl (by decide) ?_
                  refine VL.stepD rfl rfl (by decide) (OE.pickV (t := true) (v := .bool true) (congrArg Value.bool e215) rfl ?_)
                  refine VL.stepD rfl rfl (by decide) (OE.moveV (v := .bool true) rfl ?_)
                  refine VL.gskipD rfl rfl (by decide) (.inl rfl) rfl (by decide) ?_
                  refine VL.gskipD rfl rfl (by decide) (.inl rfl) rfl (by decide) ?_
                  refine VL.gskipD rfl rfl (by decide) (.inl rfl) rfl (by decide) ?_
                  refine VL.stepD rfl rfl (by decide) (OE.pickV (t := true) (v := .bool true) rfl rfl ?_)
                  refine VL.nil ?_
                  exact ⟨rfl, true, rfl, rfl, rfl, rfl, rfl, rfl, rfl, H⟩
                · have H := H.2 e215
                  refine VL.gstepD rfl rfl (by decide) (congrArg Value.bool e215) rfl (by decide) (OE.moveV (v := .pointer y10) rfl ?_)
                  refine VL.gstepD rfl rfl (by decide) (congrArg Value.bool e215) rfl (by decide) (OE.callL (args := [.pointer y10, .string (ByteArray.mk #[102])]) Tryz.func13 rfl Tryz.nn13 rfl rfl (CHE.mono H (fun r216 h217 H => ?_) (fun _ _ e => e.elim)))
                  obtain ⟨y218, rfl, H⟩ := H
                  refine VL.gstepD rfl rfl (by decide) (congrArg Value.bool e215) rfl (by decide) (OE.binI (v := .bool (y218 != 0)) rfl rfl rfl ?_)
                  refine VL.stepD rfl rfl (by decide) (OE.pickV (t := false) (v := .bool (y218 != 0)) (congrArg Value.bool e215) rfl ?_)
                  refine VL.stepD rfl rfl (by decide) (OE.moveV (v := .bool (y218 != 0)) rfl ?_)
                  refine boolSplit ((y218 != 0)) (fun e219 => ?_) (fun e219 => ?_)
                  · have H := H.1 e219
                    refine VL.gskipD rfl rfl (by decide) (.inl (congrArg Value.bool e219)) rfl (by decide) ?_
                    refine VL.gskipD rfl rfl (by decide) (.inl (congrArg Value.bool e219)) rfl (by decide) ?_
                    refine VL.gskipD rfl rfl (by decide) (.inl (congrArg Value.bool e219)) rfl (by decide) ?_
                    refine VL.stepD rfl rfl (by decide) (OE.pickV (t := true) (v := .bool true) (congrArg Value.bool e219) rfl ?_)
                    refine VL.nil ?_
                    exact ⟨rfl, true, rfl, rfl, rfl, rfl, rfl, rfl, rfl, H⟩
                  · have H := H.2 e219
                    refine VL.gstepD rfl rfl (by decide) (congrArg Value.bool e219) rfl (by decide) (OE.moveV (v := .pointer y10) rfl ?_)
                    refine VL.gstepD rfl rfl (by decide) (congrArg Value.bool e219) rfl (by decide) (OE.callL (args := [.pointer y10]) Tryz.func14 rfl Tryz.nn14 rfl rfl (CHE.mono H (fun r220 h221 H => ?_) (fun _ _ e => e.elim)))
                    obtain ⟨y222, rfl, H⟩ := H
                    refine VL.gstepD rfl rfl (by decide) (congrArg Value.bool e219) rfl (by decide) (OE.binI (v := .bool (y222 != 0)) rfl rfl rfl ?_)
                    refine VL.stepD rfl rfl (by decide) (OE.pickV (t := false) (v := .bool (y222 != 0)) (congrArg Value.bool e219) rfl ?_)
                    refine VL.nil ?_
                    exact ⟨rfl, (y222 != 0), rfl, rfl, rfl, rfl, rfl, rfl, rfl, H⟩
  · skip
    refine VC.region ?_
    refine VL.stepD rfl rfl (by decide) (OE.moveV (v := .slice baseA basen basec) rfl ?_)
    refine VL.stepD rfl rfl (by decide) (OE.lenSlice rfl Tryz.underlying22 ?_)
    refine VL.stepD rfl rfl (by decide) (OE.binI (v := .bool (decide (((basen : Nat) : Int) > 200000))) rfl rfl rfl ?_)
    refine VL.stepD rfl rfl (by decide) (OE.moveV (v := .bool (decide (((basen : Nat) : Int) > 200000))) rfl ?_)
    refine boolSplit ((decide (((basen : Nat) : Int) > 200000))) (fun e230 => ?_) (fun e230 => ?_)
    · have H := H.1 e230
      refine VL.gskipD rfl rfl (by decide) (.inl (congrArg Value.bool e230)) rfl (by decide) ?_
      refine VL.gskipD rfl rfl (by decide) (.inl (congrArg Value.bool e230)) rfl (by decide) ?_
      refine VL.gskipD rfl rfl (by decide) (.inl (congrArg Value.bool e230)) rfl (by decide) ?_
      refine VL.stepD rfl rfl (by decide) (OE.pickV (t := true) (v := .bool true) (congrArg Value.bool e230) rfl ?_)
      refine VL.stepD rfl rfl (by decide) (OE.moveV (v := .bool true) rfl ?_)
      refine VL.gskipD rfl rfl (by decide) (.inl rfl) rfl (by decide) ?_
      refine VL.gskipD rfl rfl (by decide) (.inl rfl) rfl (by decide) ?_
      refine VL.gskipD rfl rfl (by decide) (.inl rfl) rfl (by decide) ?_
      refine VL.stepD rfl rfl (by decide) (OE.pickV (t := true) (v := .bool true) rfl rfl ?_)
      refine VL.nil ?_
      exact ⟨rfl, true, rfl, rfl, rfl, rfl, rfl, rfl, H⟩
    · have H := H.2 e230
      refine VL.gstepD rfl rfl (by decide) (congrArg Value.bool e230) rfl (by decide) (OE.moveV (v := .slice firstA firstn firstc) rfl ?_)
      refine VL.gstepD rfl rfl (by decide) (congrArg Value.bool e230) rfl (by decide) (OE.lenSlice rfl Tryz.underlying22 ?_)
      refine VL.gstepD rfl rfl (by decide) (congrArg Value.bool e230) rfl (by decide) (OE.binI (v := .bool (decide (((firstn : Nat) : Int) > 200000))) rfl rfl rfl ?_)
      refine VL.stepD rfl rfl (by decide) (OE.pickV (t := false) (v := .bool (decide (((firstn : Nat) : Int) > 200000))) (congrArg Value.bool e230) rfl ?_)
      refine VL.stepD rfl rfl (by decide) (OE.moveV (v := .bool (decide (((firstn : Nat) : Int) > 200000))) rfl ?_)
      refine boolSplit ((decide (((firstn : Nat) : Int) > 200000))) (fun e231 => ?_) (fun e231 => ?_)
      · have H := H.1 e231
        refine VL.gskipD rfl rfl (by decide) (.inl (congrArg Value.bool e231)) rfl (by decide) ?_
        refine VL.gskipD rfl rfl (by decide) (.inl (congrArg Value.bool e231)) rfl (by decide) ?_
        refine VL.gskipD rfl rfl (by decide) (.inl (congrArg Value.bool e231)) rfl (by decide) ?_
        refine VL.stepD rfl rfl (by decide) (OE.pickV (t := true) (v := .bool true) (congrArg Value.bool e231) rfl ?_)
        refine VL.nil ?_
        exact ⟨rfl, true, rfl, rfl, rfl, rfl, rfl, rfl, H⟩
      · have H := H.2 e231
        refine VL.gstepD rfl rfl (by decide) (congrArg Value.bool e231) rfl (by decide) (OE.moveV (v := .slice secondA secondn secondc) rfl ?_)
        refine VL.gstepD rfl rfl (by decide) (congrArg Value.bool e231) rfl (by decide) (OE.lenSlice rfl Tryz.underlying22 ?_)
        refine VL.gstepD rfl rfl (by decide) (congrArg Value.bool e231) rfl (by decide) (OE.binI (v := .bool (decide (((secondn : Nat) : Int) > 200000))) rfl rfl rfl ?_)
        refine VL.stepD rfl rfl (by decide) (OE.pickV (t := false) (v := .bool (decide (((secondn : Nat) : Int) > 200000))) (congrArg Value.bool e231) rfl ?_)
        refine VL.nil ?_
        exact ⟨rfl, (decide (((secondn : Nat) : Int) > 200000)), rfl, rfl, rfl, rfl, rfl, rfl, H⟩


def D_treadlelaw3_ints.J1 (R : Value → Hp → Prop)    (h2 : Hp) : Prop :=
  R (.bool true) h2
def D_treadlelaw3_ints.L2 (R : Value → Hp → Prop)  (aA : Option Addr) (an : Nat) (bA : Option Addr) (bn : Nat) (C5 : Int → Hp → Prop) (j3 : Int) (h4 : Hp) : Prop :=
  (((decide (j3 < ((an : Nat) : Int))) = true → (∃ a7 : Addr, aA = some a7 ∧ (0 : Int) ≤ j3 ∧ j3 < (an : Int) ∧ (∃ x11 : Int, cell h4 (a7.add (Int.toNat j3 * 1)) = some (.int .i64 x11) ∧ (∃ a13 : Addr, bA = some a13 ∧ (0 : Int) ≤ j3 ∧ j3 < (bn : Int) ∧ (∃ x17 : Int, cell h4 (a13.add (Int.toNat j3 * 1)) = some (.int .i64 x17) ∧ (((x11 != x17) = true → R (.bool false) h4) ∧ ((x11 != x17) = false → C5 (IntKind.i64.wrap (j3 + 1)) h4))))))) ∧ ((decide (j3 < ((an : Nat) : Int))) = false → D_treadlelaw3_ints.J1 R    h4))
def D_treadlelaw3_ints (R : Value → Hp → Prop) (aA : Option Addr) (an : Nat) (ac : Nat) (bA : Option Addr) (bn : Nat) (bc : Nat) (h : Hp) : Prop :=
  (((((an : Nat) : Int) != ((bn : Nat) : Int)) = true → R (.bool false) h) ∧ ((((an : Nat) : Int) != ((bn : Nat) : Int)) = false → (∃ Inv : Int → Hp → Nat → Prop, (∃ m, Inv 0 h m) ∧ ∀ j3 h4 m, Inv j3 h4 m → D_treadlelaw3_ints.L2 R  aA an bA bn (fun j3 h4 => ∃ m1, m1 < m ∧ Inv j3 h4 m1) j3 h4)))
set_option maxRecDepth 10000 in
set_option maxHeartbeats 4000000 in
theorem D_treadlelaw3_ints.sound {R : Value → Hp → Prop} {aA : Option Addr} {an : Nat} {ac : Nat} {bA : Option Addr} {bn : Nat} {bc : Nat} {h : Hp} (H : D_treadlelaw3_ints R  aA an ac bA bn bc h) : CH Tryz.prog 75 #[.slice aA an ac, .slice bA bn bc] h R := by
  refine CHE.enter (n := 26) Tryz.func75 rfl rfl (Nat.le_of_ble_eq_true rfl) ?_
  unfold D_treadlelaw3_ints at H
  refine VC.seq ?_
  refine VC.region ?_
  refine VL.stepD rfl rfl (by decide) (OE.assignV (v := .bool false) rfl ?_)
  refine VL.nil ?_
  change VC _ _ _ _ _ _ _
  refine VC.seq ?_
  refine VC.seq ?_
  refine VC.region ?_
  refine VL.stepD rfl rfl (by decide) (OE.moveV (v := .slice aA an ac) rfl ?_)
  refine VL.stepD rfl rfl (by decide) (OE.lenSlice rfl Tryz.underlying44 ?_)
  refine VL.stepD rfl rfl (by decide) (OE.moveV (v := .slice bA bn bc) rfl ?_)
  refine VL.stepD rfl rfl (by decide) (OE.lenSlice rfl Tryz.underlying44 ?_)
  refine VL.stepD rfl rfl (by decide) (OE.binI (v := .bool (((an : Nat) : Int) != ((bn : Nat) : Int))) rfl rfl rfl ?_)
  refine VL.nil ?_
  change VC _ _ _ _ _ _ _
  refine VC.cond (t := (((an : Nat) : Int) != ((bn : Nat) : Int))) rfl (fun e1 => ?_) (fun e1 => ?_)
  · have H := H.1 e1
    refine VC.seq ?_
    refine VC.region ?_
    refine VL.stepD rfl rfl (by decide) (OE.assignV (v := .bool false) rfl ?_)
    refine VL.nil ?_
    change VC _ _ _ _ _ _ _
    refine VC.ret ?_
    exact ⟨rfl, _, ResOK.t1 rfl (v := .bool false) rfl, H⟩
  · have H := H.2 e1
    refine VC.skip ?_
    change VC _ _ _ _ _ _ _
    refine VC.seqJ (fun f h2 => D_treadlelaw3_ints.J1 R    h2) ?_ ?_
    · intro f h2 J
      have H := J
      skip
      unfold D_treadlelaw3_ints.J1 at H
      refine VC.seq ?_
      refine VC.region ?_
      refine VL.stepD rfl rfl (by decide) (OE.assignV (v := .bool true) rfl ?_)
      refine VL.nil ?_
      change VC _ _ _ _ _ _ _
      refine VC.ret ?_
      exact ⟨rfl, _, ResOK.t1 rfl (v := .bool true) rfl, H⟩
    · skip
      refine VC.seq ?_
      refine VC.region ?_
      refine VL.stepD rfl rfl (by decide) (OE.assignV (v := .int .i64 0) rfl ?_)
      refine VL.nil ?_
      change VC _ _ _ _ _ _ _
      refine VC.block ?_
      obtain ⟨Inv, ⟨m0, h0⟩, H⟩ := H
      refine VC.loop (fun ds f h4 m => ds = [] ∧ ∃ j3 : Int, f 0 = (.slice aA an ac : Value) ∧ f 1 = (.slice bA bn bc : Value) ∧ f 5 = (.int .i64 j3 : Value) ∧ Inv j3 h4 m) (m0 := m0) ⟨rfl, 0, rfl, rfl, rfl, h0⟩ ?_
      intro ds f h4 m I
      obtain ⟨rfl, j3, hk0, hk1, hk5, I⟩ := I
      rw [← fr_self f [(0, .slice aA an ac), (1, .slice bA bn bc), (5, .int .i64 j3)] (by simp only [List.mem_cons, List.not_mem_nil, or_false]; rintro p (rfl | rfl | rfl) <;> assumption)]
      obtain ⟨C5, eC5⟩ : ∃ C5 : Int → Hp → Prop, C5 = (fun j3 h4 => ∃ m1, m1 < m ∧ Inv j3 h4 m1) := ⟨_, rfl⟩
      have H : D_treadlelaw3_ints.L2 R  aA an bA bn C5 j3 h4 := by rw [eC5]; exact H j3 h4 m I
      unfold D_treadlelaw3_ints.L2 at H
      refine VC.seq ?_
      refine VC.seq ?_
      refine VC.region ?_
      refine VL.stepD rfl rfl (by decide) (OE.moveV (v := .int .i64 j3) rfl ?_)
      refine VL.stepD rfl rfl (by decide) (OE.moveV (v := .slice aA an ac) rfl ?_)
      refine VL.stepD rfl rfl (by decide) (OE.lenSlice rfl Tryz.underlying44 ?_)
      refine VL.stepD rfl rfl (by decide) (OE.binI (v := .bool (decide (j3 < ((an : Nat) : Int)))) rfl rfl rfl ?_)
      refine VL.nil ?_
      change VC _ _ _ _ _ _ _
      refine VC.cond (t := (decide (j3 < ((an : Nat) : Int)))) rfl (fun e6 => ?_) (fun e6 => ?_)
      · have H := H.1 e6
        refine VC.skip ?_
        change VC _ _ _ _ _ _ _
        refine VC.seq ?_
        refine VC.block ?_
        refine VC.seq ?_
        refine VC.drawsS Tryz.mixed (by kernel_rfl) (by kernel_rfl) (fun st hd => ?_)
        refine DW.still (i := 0) (v := .slice aA an ac) (by kernel_rfl) ?_
        refine DW.still (i := 1) (v := .int .i64 j3) (by kernel_rfl) ?_
        obtain ⟨a7, e8, z9, z10, H⟩ := H
        refine DW.still (i := 2) (v := .pointer (some (a7.add (Int.toNat j3 * 1)))) (by kernel_rfl) ?_
        obtain ⟨x11, hl12, H⟩ := H
        refine DW.still (i := 3) (v := .int .i64 x11) (by kernel_rfl) ?_
        refine DW.still (i := 4) (v := .slice bA bn bc) (by kernel_rfl) ?_
        refine DW.still (i := 5) (v := .int .i64 j3) (by kernel_rfl) ?_
        obtain ⟨a13, e14, z15, z16, H⟩ := H
        refine DW.still (i := 6) (v := .pointer (some (a13.add (Int.toNat j3 * 1)))) (by kernel_rfl) ?_
        obtain ⟨x17, hl18, H⟩ := H
        refine DW.still (i := 7) (v := .int .i64 x17) (by kernel_rfl) ?_
        refine DW.still (i := 8) (v := .bool (x11 != x17)) (by kernel_rfl) ?_
        refine DW.finL st hd [(17, (.slice aA an ac : Value)), (18, (.int .i64 j3 : Value)), (19, (.pointer (some (a7.add (Int.toNat j3 * 1))) : Value)), (20, (.int .i64 x11 : Value)), (21, (.slice bA bn bc : Value)), (22, (.int .i64 j3 : Value)), (23, (.pointer (some (a13.add (Int.toNat j3 * 1))) : Value)), (24, (.int .i64 x17 : Value)), (25, (.bool (x11 != x17) : Value))] (by kernel_rfl) (by kernel_rfl) ⟨.inr (YD.u (fr (fun _ => undef) [(20, (.int .i64 x11 : Value)), (24, (.int .i64 x17 : Value))]) st rfl rfl (by kernel_rfl) (OE.binI (v := .bool (x11 != x17)) rfl rfl rfl ⟨rfl, rfl⟩)), .inr (YD.u (fr (fun _ => undef) [(23, (.pointer (some (a13.add (Int.toNat j3 * 1))) : Value))]) st rfl rfl (by kernel_rfl) (OE.load (a := (a13.add (Int.toNat j3 * 1))) (v := .int .i64 x17) rfl (LdT.one Tryz.underlying3 rfl hl18) ⟨rfl, rfl⟩)), .inr (YD.u (fr (fun _ => undef) [(21, (.slice bA bn bc : Value)), (22, (.int .i64 j3 : Value))]) st rfl rfl (by kernel_rfl) (OE.indexAddrI (sz := 1) rfl rfl Tryz.underlying44 Tryz.i3 e14 z15 z16 ⟨rfl, rfl⟩)), .inr (YD.u (fr (fun _ => undef) [(5, (.int .i64 j3 : Value))]) st rfl rfl (by kernel_rfl) (OE.moveV (v := .int .i64 j3) rfl ⟨rfl, rfl⟩)), .inr (YD.u (fr (fun _ => undef) [(1, (.slice bA bn bc : Value))]) st rfl rfl (by kernel_rfl) (OE.moveV (v := .slice bA bn bc) rfl ⟨rfl, rfl⟩)), .inr (YD.u (fr (fun _ => undef) [(19, (.pointer (some (a7.add (Int.toNat j3 * 1))) : Value))]) st rfl rfl (by kernel_rfl) (OE.load (a := (a7.add (Int.toNat j3 * 1))) (v := .int .i64 x11) rfl (LdT.one Tryz.underlying3 rfl hl12) ⟨rfl, rfl⟩)), .inr (YD.u (fr (fun _ => undef) [(17, (.slice aA an ac : Value)), (18, (.int .i64 j3 : Value))]) st rfl rfl (by kernel_rfl) (OE.indexAddrI (sz := 1) rfl rfl Tryz.underlying44 Tryz.i3 e8 z9 z10 ⟨rfl, rfl⟩)), .inr (YD.u (fr (fun _ => undef) [(5, (.int .i64 j3 : Value))]) st rfl rfl (by kernel_rfl) (OE.moveV (v := .int .i64 j3) rfl ⟨rfl, rfl⟩)), .inr (YD.u (fr (fun _ => undef) [(0, (.slice aA an ac : Value))]) st rfl rfl (by kernel_rfl) (OE.moveV (v := .slice aA an ac) rfl ⟨rfl, rfl⟩)), trivial⟩ ?_
        change VC _ _ _ _ _ _ _
        refine VC.cond (t := (x11 != x17)) rfl (fun e19 => ?_) (fun e19 => ?_)
        · have H := H.1 e19
          refine VC.seq ?_
          refine VC.region ?_
          refine VL.stepD rfl rfl (by decide) (OE.assignV (v := .bool false) rfl ?_)
          refine VL.nil ?_
          change VC _ _ _ _ _ _ _
          refine VC.ret ?_
          exact ⟨rfl, _, ResOK.t1 rfl (v := .bool false) rfl, H⟩
        · have H := H.2 e19
          refine VC.skip ?_
          change VC _ _ _ _ _ _ _
          refine VC.region ?_
          refine VL.stepD rfl rfl (by decide) (OE.moveV (v := .int .i64 j3) rfl ?_)
          refine VL.stepD rfl rfl (by decide) (OE.binI (v := .int .i64 (IntKind.i64.wrap (j3 + 1))) rfl rfl rfl ?_)
          refine VL.stepD rfl rfl (by decide) (OE.assignV (v := .int .i64 (IntKind.i64.wrap (j3 + 1))) rfl ?_)
          refine VL.nil ?_
          rw [eC5] at H
          obtain ⟨m1, hm1, H⟩ := H
          exact ⟨m1, hm1, rfl, (IntKind.i64.wrap (j3 + 1)), rfl, rfl, rfl, H⟩
      · have H := H.2 e6
        refine VC.exit ?_
        exact ⟨rfl, H⟩

end Go.Proofs
