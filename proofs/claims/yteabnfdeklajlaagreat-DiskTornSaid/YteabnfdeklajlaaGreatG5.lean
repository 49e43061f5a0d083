/- Part of a proof, by program out of hand-written texts. -/
import Derived.Test.YteabnfdeklajlaaGreatF1
set_option linter.unusedVariables false
set_option linter.unusedSimpArgs false
set_option maxRecDepth 10000
namespace Go.Proofs
open Go Go.V
def D_treadlelaw3_DiskTorn.J7 (R : Value → Hp → Prop)    (h53 : Hp) : Prop :=
  CH Tryz.prog 9 #[] h53 (fun r54 h55 => ∃ y56 : Bool, r54 = .bool y56 ∧ R (.bool y56) h55)
def D_treadlelaw3_DiskTorn.J10 (R : Value → Hp → Prop) (C60 : Int → Hp → Prop) (j58 : Int) (j70 : Bool) (h71 : Hp) : Prop :=
  ((j70 = true → R (.bool false) h71) ∧ (j70 = false → C60 (IntKind.i64.wrap (j58 + 1)) h71))
def D_treadlelaw3_DiskTorn.J9 (R : Value → Hp → Prop) (C60 : Int → Hp → Prop) (y37A : Option Addr) (y37n : Nat) (y40_0A : Option Addr) (y40_0n : Nat) (x48A : Option Addr) (x48n : Nat) (j58 : Int) (j68 : Int) (h69 : Hp) : Prop :=
  (∃ a73 : Addr, y37A = some a73 ∧ (0 : Int) ≤ 0 ∧ 0 < (y37n : Int) ∧ (∃ x77A : Option Addr, ∃ x77n : Nat, ∃ x77c : Nat, cell h69 ((a73.add (Int.toNat 0 * 2)).add 1) = some (.slice x77A x77n x77c) ∧ (∃ a79 : Addr, x77A = some a79 ∧ (0 : Int) ≤ j58 ∧ j58 < (x77n : Int) ∧ (∃ x83 : Int, cell h69 (a79.add (Int.toNat j58 * 1)) = some (.int .u8 x83) ∧ (∃ a85 : Addr, x48A = some a85 ∧ (0 : Int) ≤ j58 ∧ j58 < (x48n : Int) ∧ (∃ x89 : Int, cell h69 (a85.add (Int.toNat j58 * 2)) = some (.int .u8 x89) ∧ (((x83 != x89) = true → D_treadlelaw3_DiskTorn.J10 R C60 j58 true h69) ∧ ((x83 != x89) = false → (∃ a92 : Addr, y40_0A = some a92 ∧ (0 : Int) ≤ j58 ∧ j58 < (y40_0n : Int) ∧ (∃ x96 : Int, cell h69 (a92.add (Int.toNat j58 * 1)) = some (.int .u8 x96) ∧ D_treadlelaw3_DiskTorn.J10 R C60 j58 (x96 != j68) h69))))))))))
def D_treadlelaw3_DiskTorn.J13 (R : Value → Hp → Prop) (C101 : Int → Int → Hp → Prop) (j99 : Int) (j105 : Int) (h106 : Hp) : Prop :=
  C101 j105 (IntKind.i64.wrap (j99 + 1)) h106
def D_treadlelaw3_DiskTorn.J12 (R : Value → Hp → Prop) (C60 : Int → Hp → Prop) (C101 : Int → Int → Hp → Prop) (lostA : Option Addr) (lostn : Nat) (y37A : Option Addr) (y37n : Nat) (y40_0A : Option Addr) (y40_0n : Nat) (x48A : Option Addr) (x48n : Nat) (j58 : Int) (j98 : Int) (j99 : Int) (j102 : Bool) (h103 : Hp) : Prop :=
  ((j102 = true → (∃ a107 : Addr, lostA = some a107 ∧ (0 : Int) ≤ j99 ∧ j99 < (lostn : Int) ∧ (∃ x111 : Int, cell h103 (a107.add (Int.toNat j99 * 1)) = some (.int .i64 x111) ∧ CH Tryz.prog 15 #[.int .i64 x111, .int .i64 (IntKind.i64.wrap (Int.tdiv (IntKind.i64.wrap (((x48n : Nat) : Int) + 15)) 16))] h103 (fun r113 h114 => ∃ y115 : Int, r113 = .int .i64 y115 ∧ (((y115 == (IntKind.i64.wrap (Int.tdiv j58 16))) = true → D_treadlelaw3_DiskTorn.J13 R C101 j99 0 h114) ∧ ((y115 == (IntKind.i64.wrap (Int.tdiv j58 16))) = false → D_treadlelaw3_DiskTorn.J13 R C101 j99 j98 h114)))))) ∧ (j102 = false → D_treadlelaw3_DiskTorn.J9 R C60 y37A y37n y40_0A y40_0n x48A x48n j58 j98 h103))
def D_treadlelaw3_DiskTorn.L11 (R : Value → Hp → Prop) (C60 : Int → Hp → Prop) (lostA : Option Addr) (lostn : Nat) (y37A : Option Addr) (y37n : Nat) (y40_0A : Option Addr) (y40_0n : Nat) (x48A : Option Addr) (x48n : Nat) (j58 : Int) (C101 : Int → Int → Hp → Prop) (j98 : Int) (j99 : Int) (h100 : Hp) : Prop :=
  (((decide (j99 < ((lostn : Nat) : Int))) = true → (∃ a119 : Addr, x48A = some a119 ∧ (0 : Int) ≤ j58 ∧ j58 < (x48n : Int) ∧ (∃ x123 : Bool, cell h100 ((a119.add (Int.toNat j58 * 2)).add 1) = some (.bool x123) ∧ D_treadlelaw3_DiskTorn.J12 R C60 C101 lostA lostn y37A y37n y40_0A y40_0n x48A x48n j58 j98 j99 x123 h100))) ∧ ((decide (j99 < ((lostn : Nat) : Int))) = false → D_treadlelaw3_DiskTorn.J12 R C60 C101 lostA lostn y37A y37n y40_0A y40_0n x48A x48n j58 j98 j99 false h100))
def D_treadlelaw3_DiskTorn.L8 (R : Value → Hp → Prop)  (lostA : Option Addr) (lostn : Nat) (y37A : Option Addr) (y37n : Nat) (y40_0A : Option Addr) (y40_0n : Nat) (x48A : Option Addr) (x48n : Nat) (C60 : Int → Hp → Prop) (j58 : Int) (h59 : Hp) : Prop :=
  (((decide (j58 < ((x48n : Nat) : Int))) = true → (∃ a62 : Addr, x48A = some a62 ∧ (0 : Int) ≤ j58 ∧ j58 < (x48n : Int) ∧ (∃ x66 : Int, cell h59 (a62.add (Int.toNat j58 * 2)) = some (.int .u8 x66) ∧ (∃ Inv : Int → Int → Hp → Nat → Prop, (∃ m, Inv x66 0 h59 m) ∧ ∀ j98 j99 h100 m, Inv j98 j99 h100 m → D_treadlelaw3_DiskTorn.L11 R C60 lostA lostn y37A y37n y40_0A y40_0n x48A x48n j58 (fun j98 j99 h100 => ∃ m1, m1 < m ∧ Inv j98 j99 h100 m1) j98 j99 h100)))) ∧ ((decide (j58 < ((x48n : Nat) : Int))) = false → D_treadlelaw3_DiskTorn.J7 R    h59))
def D_treadlelaw3_DiskTorn.J6 (R : Value → Hp → Prop)  (lostA : Option Addr) (lostn : Nat) (y37A : Option Addr) (y37n : Nat) (y40_0A : Option Addr) (y40_0n : Nat) (x48A : Option Addr) (x48n : Nat) (j50 : Bool) (h51 : Hp) : Prop :=
  ((j50 = true → R (.bool false) h51) ∧ (j50 = false → (∃ Inv : Int → Hp → Nat → Prop, (∃ m, Inv 0 h51 m) ∧ ∀ j58 h59 m, Inv j58 h59 m → D_treadlelaw3_DiskTorn.L8 R  lostA lostn y37A y37n y40_0A y40_0n x48A x48n (fun j58 h59 => ∃ m1, m1 < m ∧ Inv j58 h59 m1) j58 h59)))
def D_treadlelaw3_DiskTorn.J5 (R : Value → Hp → Prop)  (done : Int) (lostA : Option Addr) (lostn : Nat) (lostc : Nat) (y11 : Option Addr) (j28A : Option Addr) (j28n : Nat) (j28c : Nat) (h29 : Hp) : Prop :=
  CH Tryz.prog 21 #[.pointer y11] h29 (fun r30 h31 => ∃ y32_0 : Int, ∃ y32_1A : Option Addr, ∃ y32_1n : Nat, ∃ y32_1c : Nat, r30 = .tuple #[.int .i64 y32_0, .slice y32_1A y32_1n y32_1c] ∧ (∀ b34 h33, b34 = Array.size h31 → h33 = Array.push h31 (.cells #[.int .i64 done, .slice lostA lostn lostc] 59) → CH Tryz.prog 20 #[.pointer y11, .agg #[.int .i64 0, .slice none 0 0, .slice (some (Addr.mk b34 0 none)) 1 1]] h33 (fun r35 h36 => ∃ y37A : Option Addr, ∃ y37n : Nat, ∃ y37c : Nat, r35 = .slice y37A y37n y37c ∧ CH Tryz.prog 18 #[.pointer y11, .string (ByteArray.mk #[102])] h36 (fun r38 h39 => ∃ y40_0A : Option Addr, ∃ y40_0n : Nat, ∃ y40_0c : Nat, ∃ y40_1 : Int, r38 = .tuple #[.slice y40_0A y40_0n y40_0c, .int .i64 y40_1] ∧ CH Tryz.prog 15 #[.int .i64 done, .int .i64 ((j28n : Nat) : Int)] h39 (fun r41 h42 => ∃ y43 : Int, r41 = .int .i64 y43 ∧ (∃ a44 : Addr, j28A = some a44 ∧ (0 : Int) ≤ y43 ∧ y43 < (j28n : Int) ∧ (∃ x48A : Option Addr, ∃ x48n : Nat, ∃ x48c : Nat, cell h42 (a44.add (Int.toNat y43 * 1)) = some (.slice x48A x48n x48c) ∧ (((((y32_1n : Nat) : Int) != 1) = true → D_treadlelaw3_DiskTorn.J6 R  lostA lostn y37A y37n y40_0A y40_0n x48A x48n true h42) ∧ ((((y32_1n : Nat) : Int) != 1) = false → (∃ a126 : Addr, y32_1A = some a126 ∧ (0 : Int) ≤ 0 ∧ 0 < (y32_1n : Int) ∧ (∃ x130 : Int, cell h42 (a126.add (Int.toNat 0 * 1)) = some (.int .i64 x130) ∧ (((x130 != (IntKind.i64.wrap (((j28n : Nat) : Int) - 1))) = true → D_treadlelaw3_DiskTorn.J6 R  lostA lostn y37A y37n y40_0A y40_0n x48A x48n true h42) ∧ ((x130 != (IntKind.i64.wrap (((j28n : Nat) : Int) - 1))) = false → (((y40_1 != 0) = true → D_treadlelaw3_DiskTorn.J6 R  lostA lostn y37A y37n y40_0A y40_0n x48A x48n true h42) ∧ ((y40_1 != 0) = false → (((((y37n : Nat) : Int) != 1) = true → D_treadlelaw3_DiskTorn.J6 R  lostA lostn y37A y37n y40_0A y40_0n x48A x48n true h42) ∧ ((((y37n : Nat) : Int) != 1) = false → (∃ a135 : Addr, y37A = some a135 ∧ (0 : Int) ≤ 0 ∧ 0 < (y37n : Int) ∧ (∃ x139A : Option Addr, ∃ x139n : Nat, ∃ x139c : Nat, cell h42 ((a135.add (Int.toNat 0 * 2)).add 1) = some (.slice x139A x139n x139c) ∧ (((((x139n : Nat) : Int) != ((x48n : Nat) : Int)) = true → D_treadlelaw3_DiskTorn.J6 R  lostA lostn y37A y37n y40_0A y40_0n x48A x48n true h42) ∧ ((((x139n : Nat) : Int) != ((x48n : Nat) : Int)) = false → D_treadlelaw3_DiskTorn.J6 R  lostA lostn y37A y37n y40_0A y40_0n x48A x48n (((y40_0n : Nat) : Int) != ((x48n : Nat) : Int)) h42)))))))))))))))))))))
def D_treadlelaw3_DiskTorn.J15 (R : Value → Hp → Prop) (C151 : Option Addr → Nat → Nat → Int → Hp → Prop) (j149 : Int) (j153A : Option Addr) (j153n : Nat) (j153c : Nat) (h154 : Hp) : Prop :=
  C151 j153A j153n j153c (IntKind.i64.wrap (j149 + 1)) h154
def D_treadlelaw3_DiskTorn.J16 (R : Value → Hp → Prop) (C151 : Option Addr → Nat → Nat → Int → Hp → Prop) (j148A : Option Addr) (j148n : Nat) (j148c : Nat) (j149 : Int) (j171A : Option Addr) (j171n : Nat) (j171c : Nat) (h172 : Hp) : Prop :=
  (∀ b174 h173, b174 = Array.size h172 → h173 = Array.push h172 (.cells #[.slice j171A j171n j171c] 53) → (∃ vs175 : List Value, Src h173 (1 * 1) vs175 (some (Addr.mk b174 0 none)) ∧ (∀ v ∈ vs175, oneC v = true) ∧ (j148n + 1) * 24 ≤ 140737488355328 ∧ j148n + 1 ≤ 9223372036854775807 ∧ AppendV 53 (.slice none 0 0 : Value) 1 h173 j148A j148n j148c 1 vs175 (fun A180 n181 c182 h183 => D_treadlelaw3_DiskTorn.J15 R C151 j149 A180 n181 c182 h183)))
def D_treadlelaw3_DiskTorn.L17 (R : Value → Hp → Prop) (C151 : Option Addr → Nat → Nat → Int → Hp → Prop) (j148A : Option Addr) (j148n : Nat) (j148c : Nat) (j149 : Int) (b162 : Nat) (C233 : Option Addr → Nat → Nat → Int → Hp → Prop) (j230A : Option Addr) (j230n : Nat) (j230c : Nat) (j231 : Int) (h232 : Hp) : Prop :=
  (∃ x234A : Option Addr, ∃ x234n : Nat, ∃ x234c : Nat, cell h232 ((Addr.mk b162 0 none).add 2) = some (.slice x234A x234n x234c) ∧ (((decide (j231 < ((x234n : Nat) : Int))) = true → (∃ x237A : Option Addr, ∃ x237n : Nat, ∃ x237c : Nat, cell h232 ((Addr.mk b162 0 none).add 2) = some (.slice x237A x237n x237c) ∧ (∃ a239 : Addr, x237A = some a239 ∧ (0 : Int) ≤ j231 ∧ j231 < (x237n : Int) ∧ (∃ x243 : Int, cell h232 (a239.add (Int.toNat j231 * 1)) = some (.int .u8 x243) ∧ (∀ b246 h245, b246 = Array.size h232 → h245 = Array.push h232 (.cells #[.int .u8 x243, .bool true] 55) → (∃ vs247 : List Value, Src h245 (1 * 2) vs247 (some (Addr.mk b246 0 none)) ∧ (∀ v ∈ vs247, oneC v = true) ∧ (j230n + 1) * 2 ≤ 140737488355328 ∧ j230n + 1 ≤ 9223372036854775807 ∧ AppendV 55 (.agg #[.int .u8 0, .bool false] : Value) 2 h245 j230A j230n j230c 1 vs247 (fun A252 n253 c254 h255 => C233 A252 n253 c254 (IntKind.i64.wrap (j231 + 1)) h255))))))) ∧ ((decide (j231 < ((x234n : Nat) : Int))) = false → D_treadlelaw3_DiskTorn.J16 R C151 j148A j148n j148c j149 j230A j230n j230c h232)))
def D_treadlelaw3_DiskTorn.L14 (R : Value → Hp → Prop)  (changesA : Option Addr) (changesn : Nat) (done : Int) (lostA : Option Addr) (lostn : Nat) (lostc : Nat) (y11 : Option Addr) (C151 : Option Addr → Nat → Nat → Int → Hp → Prop) (j148A : Option Addr) (j148n : Nat) (j148c : Nat) (j149 : Int) (h150 : Hp) : Prop :=
  (((decide (j149 < ((changesn : Nat) : Int))) = true → (∃ a155 : Addr, changesA = some a155 ∧ (0 : Int) ≤ j149 ∧ j149 < (changesn : Int) ∧ (∃ x159_0 : Bool, ∃ x159_1 : Int, ∃ x159_2A : Option Addr, ∃ x159_2n : Nat, ∃ x159_2c : Nat, Row h150 (a155.add (Int.toNat j149 * 3)) [.bool x159_0, .int .i64 x159_1, .slice x159_2A x159_2n x159_2c] ∧ (∀ b162 h161, b162 = Array.size h150 → h161 = Array.push h150 (.cells #[.bool false, .int .i64 0, .slice none 0 0] 51) → ((∀ j, j < 3 → Wr h161 (Addr.add (Addr.mk b162 0 none) j)) ∧ ∀ h163, h163 = setRow h161 (Addr.mk b162 0 none) [.bool x159_0, .int .i64 x159_1, .slice x159_2A x159_2n x159_2c] 0 → (∃ a165 : Addr, j148A = some a165 ∧ (0 : Int) ≤ (IntKind.i64.wrap (((j148n : Nat) : Int) - 1)) ∧ (IntKind.i64.wrap (((j148n : Nat) : Int) - 1)) < (j148n : Int) ∧ (∃ x169A : Option Addr, ∃ x169n : Nat, ∃ x169c : Nat, cell h163 (a165.add (Int.toNat (IntKind.i64.wrap (((j148n : Nat) : Int) - 1)) * 1)) = some (.slice x169A x169n x169c) ∧ (∃ x186 : Bool, cell h163 (Addr.mk b162 0 none) = some (.bool x186) ∧ ((x186 = true → (∃ x189 : Int, cell h163 ((Addr.mk b162 0 none).add 1) = some (.int .i64 x189) ∧ CH Tryz.prog 15 #[.int .i64 x189, .int .i64 (IntKind.i64.wrap (((x169n : Nat) : Int) + 1))] h163 (fun r191 h192 => ∃ y193 : Int, r191 = .int .i64 y193 ∧ CH Tryz.prog 17 #[.pointer y11, .string (ByteArray.mk #[102]), .int .i64 y193] h192 (fun r194 h195 => ∃ y196 : Int, r194 = .int .i64 y196 ∧ (((y196 != 0) = true → R (.bool false) h195) ∧ ((y196 != 0) = false → (((y193 == ((x169n : Nat) : Int)) = true → D_treadlelaw3_DiskTorn.J15 R C151 j149 j148A j148n j148c h195) ∧ ((y193 == ((x169n : Nat) : Int)) = false → ((0 : Int) ≤ y193 ∧ y193 ≤ ((x169c : Nat) : Int) ∧ (∃ vs201 : List Value, Src h195 ((Int.toNat y193) * 2) vs201 x169A ∧ (∀ v ∈ vs201, oneC v = true) ∧ (0 + (Int.toNat y193)) * 2 ≤ 140737488355328 ∧ 0 + (Int.toNat y193) ≤ 9223372036854775807 ∧ AppendV 55 (.agg #[.int .u8 0, .bool false] : Value) 2 h195 none 0 0 (Int.toNat y193) vs201 (fun A206 n207 c208 h209 => D_treadlelaw3_DiskTorn.J16 R C151 j148A j148n j148c j149 A206 n207 c208 h209))))))))))) ∧ (x186 = false → (∃ x212A : Option Addr, ∃ x212n : Nat, ∃ x212c : Nat, cell h163 ((Addr.mk b162 0 none).add 2) = some (.slice x212A x212n x212c) ∧ CH Tryz.prog 12 #[.pointer y11, .string (ByteArray.mk #[102]), .slice x212A x212n x212c] h163 (fun r214 h215 => ∃ y216 : Int, r214 = .int .i64 y216 ∧ (((y216 != 0) = true → R (.bool false) h215) ∧ ((y216 != 0) = false → (∃ x218A : Option Addr, ∃ x218n : Nat, ∃ x218c : Nat, cell h215 ((Addr.mk b162 0 none).add 2) = some (.slice x218A x218n x218c) ∧ (((((x218n : Nat) : Int) == 0) = true → D_treadlelaw3_DiskTorn.J15 R C151 j149 j148A j148n j148c h215) ∧ ((((x218n : Nat) : Int) == 0) = false → (∃ vs221 : List Value, Src h215 (x169n * 2) vs221 x169A ∧ (∀ v ∈ vs221, oneC v = true) ∧ (0 + x169n) * 2 ≤ 140737488355328 ∧ 0 + x169n ≤ 9223372036854775807 ∧ AppendV 55 (.agg #[.int .u8 0, .bool false] : Value) 2 h215 none 0 0 x169n vs221 (fun A226 n227 c228 h229 => (∃ Inv : Option Addr → Nat → Nat → Int → Hp → Nat → Prop, (∃ m, Inv A226 n227 c228 0 h229 m) ∧ ∀ j230A j230n j230c j231 h232 m, Inv j230A j230n j230c j231 h232 m → D_treadlelaw3_DiskTorn.L17 R C151 j148A j148n j148c j149 b162 (fun j230A j230n j230c j231 h232 => ∃ m1, m1 < m ∧ Inv j230A j230n j230c j231 h232 m1) j230A j230n j230c j231 h232)))))))))))))))))))) ∧ ((decide (j149 < ((changesn : Nat) : Int))) = false → D_treadlelaw3_DiskTorn.J5 R  done lostA lostn lostc y11 j148A j148n j148c h150))
def D_treadlelaw3_DiskTorn.J4 (R : Value → Hp → Prop)  (changesA : Option Addr) (changesn : Nat) (done : Int) (lostA : Option Addr) (lostn : Nat) (lostc : Nat) (y11 : Option Addr) (j15A : Option Addr) (j15n : Nat) (j15c : Nat) (h16 : Hp) : Prop :=
  (∀ b18 h17, b18 = Array.size h16 → h17 = Array.push h16 (.cells #[.slice j15A j15n j15c] 53) → (∃ vs19 : List Value, Src h17 (1 * 1) vs19 (some (Addr.mk b18 0 none)) ∧ (∀ v ∈ vs19, oneC v = true) ∧ (0 + 1) * 24 ≤ 140737488355328 ∧ 0 + 1 ≤ 9223372036854775807 ∧ AppendV 53 (.slice none 0 0 : Value) 1 h17 none 0 0 1 vs19 (fun A24 n25 c26 h27 => (∃ Inv : Option Addr → Nat → Nat → Int → Hp → Nat → Prop, (∃ m, Inv A24 n25 c26 0 h27 m) ∧ ∀ j148A j148n j148c j149 h150 m, Inv j148A j148n j148c j149 h150 m → D_treadlelaw3_DiskTorn.L14 R  changesA changesn done lostA lostn lostc y11 (fun j148A j148n j148c j149 h150 => ∃ m1, m1 < m ∧ Inv j148A j148n j148c j149 h150 m1) j148A j148n j148c j149 h150))))
def D_treadlelaw3_DiskTorn.L18 (R : Value → Hp → Prop)  (baseA : Option Addr) (basen : Nat) (changesA : Option Addr) (changesn : Nat) (done : Int) (lostA : Option Addr) (lostn : Nat) (lostc : Nat) (y11 : Option Addr) (C267 : Option Addr → Nat → Nat → Int → Hp → Prop) (j264A : Option Addr) (j264n : Nat) (j264c : Nat) (j265 : Int) (h266 : Hp) : Prop :=
  (((decide (j265 < ((basen : Nat) : Int))) = true → (∃ a269 : Addr, baseA = some a269 ∧ (0 : Int) ≤ j265 ∧ j265 < (basen : Int) ∧ (∃ x273 : Int, cell h266 (a269.add (Int.toNat j265 * 1)) = some (.int .u8 x273) ∧ (∀ b276 h275, b276 = Array.size h266 → h275 = Array.push h266 (.cells #[.int .u8 x273, .bool false] 55) → (∃ vs277 : List Value, Src h275 (1 * 2) vs277 (some (Addr.mk b276 0 none)) ∧ (∀ v ∈ vs277, oneC v = true) ∧ (j264n + 1) * 2 ≤ 140737488355328 ∧ j264n + 1 ≤ 9223372036854775807 ∧ AppendV 55 (.agg #[.int .u8 0, .bool false] : Value) 2 h275 j264A j264n j264c 1 vs277 (fun A282 n283 c284 h285 => C267 A282 n283 c284 (IntKind.i64.wrap (j265 + 1)) h285)))))) ∧ ((decide (j265 < ((basen : Nat) : Int))) = false → D_treadlelaw3_DiskTorn.J4 R  changesA changesn done lostA lostn lostc y11 j264A j264n j264c h266))
def D_treadlelaw3_DiskTorn.J3 (R : Value → Hp → Prop)  (baseA : Option Addr) (basen : Nat) (changesA : Option Addr) (changesn : Nat) (done : Int) (lostA : Option Addr) (lostn : Nat) (lostc : Nat) (y11 : Option Addr) (j12 : Bool) (h13 : Hp) : Prop :=
  ((j12 = true → R (.bool false) h13) ∧ (j12 = false → (∃ Inv : Option Addr → Nat → Nat → Int → Hp → Nat → Prop, (∃ m, Inv none 0 0 0 h13 m) ∧ ∀ j264A j264n j264c j265 h266 m, Inv j264A j264n j264c j265 h266 m → D_treadlelaw3_DiskTorn.L18 R  baseA basen changesA changesn done lostA lostn lostc y11 (fun j264A j264n j264c j265 h266 => ∃ m1, m1 < m ∧ Inv j264A j264n j264c j265 h266 m1) j264A j264n j264c j265 h266)))
def D_treadlelaw3_DiskTorn.J2 (R : Value → Hp → Prop)  (baseA : Option Addr) (basen : Nat) (basec : Nat) (changesA : Option Addr) (changesn : Nat) (done : Int) (lostA : Option Addr) (lostn : Nat) (lostc : Nat)  (h8 : Hp) : Prop :=
  CH Tryz.prog 10 #[.int .i64 4194304, .int .i64 1] h8 (fun r9 h10 => ∃ y11 : Option Addr, r9 = .pointer y11 ∧ (((Option.isNone y11) = true → D_treadlelaw3_DiskTorn.J3 R  baseA basen changesA changesn done lostA lostn lostc y11 true h10) ∧ ((Option.isNone y11) = false → CH Tryz.prog 11 #[.pointer y11, .string (ByteArray.mk #[102])] h10 (fun r289 h290 => ∃ y291 : Int, r289 = .int .i64 y291 ∧ (((y291 != 0) = true → D_treadlelaw3_DiskTorn.J3 R  baseA basen changesA changesn done lostA lostn lostc y11 true h290) ∧ ((y291 != 0) = false → CH Tryz.prog 12 #[.pointer y11, .string (ByteArray.mk #[102]), .slice baseA basen basec] h290 (fun r293 h294 => ∃ y295 : Int, r293 = .int .i64 y295 ∧ (((y295 != 0) = true → D_treadlelaw3_DiskTorn.J3 R  baseA basen changesA changesn done lostA lostn lostc y11 true h294) ∧ ((y295 != 0) = false → CH Tryz.prog 13 #[.pointer y11, .string (ByteArray.mk #[102])] h294 (fun r297 h298 => ∃ y299 : Int, r297 = .int .i64 y299 ∧ (((y299 != 0) = true → D_treadlelaw3_DiskTorn.J3 R  baseA basen changesA changesn done lostA lostn lostc y11 true h298) ∧ ((y299 != 0) = false → CH Tryz.prog 14 #[.pointer y11] h298 (fun r301 h302 => ∃ y303 : Int, r301 = .int .i64 y303 ∧ D_treadlelaw3_DiskTorn.J3 R  baseA basen changesA changesn done lostA lostn lostc y11 (y303 != 0) h302)))))))))))))
def D_treadlelaw3_DiskTorn.L19 (R : Value → Hp → Prop)  (baseA : Option Addr) (basen : Nat) (basec : Nat) (changesA : Option Addr) (changesn : Nat) (done : Int) (lostA : Option Addr) (lostn : Nat) (lostc : Nat) (C312 : Int → Int → Hp → Prop) (j309 : Int) (j310 : Int) (h311 : Hp) : Prop :=
  (((decide (j310 < ((changesn : Nat) : Int))) = true → (∃ a314 : Addr, changesA = some a314 ∧ (0 : Int) ≤ j310 ∧ j310 < (changesn : Int) ∧ (∃ x318A : Option Addr, ∃ x318n : Nat, ∃ x318c : Nat, cell h311 ((a314.add (Int.toNat j310 * 3)).add 2) = some (.slice x318A x318n x318c) ∧ (((decide (((x318n : Nat) : Int) > 200000)) = true → CH Tryz.prog 9 #[] h311 (fun r321 h322 => ∃ y323 : Bool, r321 = .bool y323 ∧ R (.bool y323) h322)) ∧ ((decide (((x318n : Nat) : Int) > 200000)) = false → (∃ a325 : Addr, changesA = some a325 ∧ (0 : Int) ≤ j310 ∧ j310 < (changesn : Int) ∧ (∃ x329A : Option Addr, ∃ x329n : Nat, ∃ x329c : Nat, cell h311 ((a325.add (Int.toNat j310 * 3)).add 2) = some (.slice x329A x329n x329c) ∧ (((decide ((IntKind.i64.wrap (j309 + ((x329n : Nat) : Int))) > 200000)) = true → CH Tryz.prog 9 #[] h311 (fun r332 h333 => ∃ y334 : Bool, r332 = .bool y334 ∧ R (.bool y334) h333)) ∧ ((decide ((IntKind.i64.wrap (j309 + ((x329n : Nat) : Int))) > 200000)) = false → C312 (IntKind.i64.wrap (j309 + ((x329n : Nat) : Int))) (IntKind.i64.wrap (j310 + 1)) h311))))))))) ∧ ((decide (j310 < ((changesn : Nat) : Int))) = false → D_treadlelaw3_DiskTorn.J2 R  baseA basen basec changesA changesn done lostA lostn lostc  h311))
def D_treadlelaw3_DiskTorn.J1 (R : Value → Hp → Prop)  (baseA : Option Addr) (basen : Nat) (basec : Nat) (changesA : Option Addr) (changesn : Nat) (done : Int) (lostA : Option Addr) (lostn : Nat) (lostc : Nat) (j1 : Bool) (h2 : Hp) : Prop :=
  ((j1 = true → CH Tryz.prog 9 #[] h2 (fun r4 h5 => ∃ y6 : Bool, r4 = .bool y6 ∧ R (.bool y6) h5)) ∧ (j1 = false → (∃ Inv : Int → Int → Hp → Nat → Prop, (∃ m, Inv ((basen : Nat) : Int) 0 h2 m) ∧ ∀ j309 j310 h311 m, Inv j309 j310 h311 m → D_treadlelaw3_DiskTorn.L19 R  baseA basen basec changesA changesn done lostA lostn lostc (fun j309 j310 h311 => ∃ m1, m1 < m ∧ Inv j309 j310 h311 m1) j309 j310 h311)))
def D_treadlelaw3_DiskTorn (R : Value → Hp → Prop) (baseA : Option Addr) (basen : Nat) (basec : Nat) (changesA : Option Addr) (changesn : Nat) (changesc : Nat) (done : Int) (lostA : Option Addr) (lostn : Nat) (lostc : Nat) (h : Hp) : Prop :=
  (((decide (((basen : Nat) : Int) > 200000)) = true → D_treadlelaw3_DiskTorn.J1 R  baseA basen basec changesA changesn done lostA lostn lostc true h) ∧ ((decide (((basen : Nat) : Int) > 200000)) = false → (((decide (((changesn : Nat) : Int) > 60)) = true → D_treadlelaw3_DiskTorn.J1 R  baseA basen basec changesA changesn done lostA lostn lostc true h) ∧ ((decide (((changesn : Nat) : Int) > 60)) = false → D_treadlelaw3_DiskTorn.J1 R  baseA basen basec changesA changesn done lostA lostn lostc (decide (((lostn : Nat) : Int) > 300)) h))))
set_option maxRecDepth 10000 in
set_option maxHeartbeats 4000000 in
theorem D_treadlelaw3_DiskTorn.sound {R : Value → Hp → Prop} {baseA : Option Addr} {basen : Nat} {basec : Nat} {changesA : Option Addr} {changesn : Nat} {changesc : Nat} {done : Int} {lostA : Option Addr} {lostn : Nat} {lostc : Nat} {h : Hp} (H : D_treadlelaw3_DiskTorn R  baseA basen basec changesA changesn changesc done lostA lostn lostc h) : CH Tryz.prog 4 #[.slice baseA basen basec, .slice changesA changesn changesc, .int .i64 done, .slice lostA lostn lostc] h R := by
  refine CHE.enter (n := 302) Tryz.func4 rfl rfl (Nat.le_of_ble_eq_true rfl) ?_
  unfold D_treadlelaw3_DiskTorn at H
  refine VC.seq ?_
  refine VC.region ?_
  refine VL.stepD rfl rfl (by decide) (OE.assignV (v := .bool false) rfl ?_)
  refine VL.nil ?_
  change VC _ _ _ _ _ _ _
  refine VC.seq ?_
  refine VC.region ?_
  refine VL.stepD rfl rfl (by decide) (OE.moveV (v := .slice baseA basen basec) rfl ?_)
  refine VL.stepD rfl rfl (by decide) (OE.lenSlice rfl Tryz.underlying22 ?_)
  refine VL.stepD rfl rfl (by decide) (OE.assignV (v := .int .i64 ((basen : Nat) : Int)) rfl ?_)
  refine VL.nil ?_
  change VC _ _ _ _ _ _ _
  refine VC.seq ?_
  refine VC.seqJ (fun f h2 => ∃ j1 : Bool, f 0 = (.slice baseA basen basec : Value) ∧ f 1 = (.slice changesA changesn changesc : Value) ∧ f 2 = (.int .i64 done : Value) ∧ f 3 = (.slice lostA lostn lostc : Value) ∧ f 9 = (.int .i64 ((basen : Nat) : Int) : Value) ∧ f 43 = (.bool j1 : Value) ∧ D_treadlelaw3_DiskTorn.J1 R  baseA basen basec changesA changesn done lostA lostn lostc j1 h2) ?_ ?_
  · intro f h2 J
    obtain ⟨j1, hk0, hk1, hk2, hk3, hk9, hk43, H⟩ := J
    rw [← fr_self f [(0, .slice baseA basen basec), (1, .slice changesA changesn changesc), (2, .int .i64 done), (3, .slice lostA lostn lostc), (9, .int .i64 ((basen : Nat) : Int)), (43, .bool j1)] (by simp only [List.mem_cons, List.not_mem_nil, or_false]; rintro p (rfl | rfl | rfl | rfl | rfl | rfl) <;> assumption)]
    unfold D_treadlelaw3_DiskTorn.J1 at H
    refine VC.cond (t := j1) rfl (fun e3 => ?_) (fun e3 => ?_)
    · have H := H.1 e3
      refine VC.seq ?_
      refine VC.region ?_
      refine VL.stepD rfl rfl (by decide) (OE.callL (args := []) Tryz.func9 rfl Tryz.nn9 rfl rfl (CHE.mono H (fun r4 h5 H => ?_) (fun _ _ e => e.elim)))
      obtain ⟨y6, rfl, H⟩ := H
      refine VL.stepD rfl rfl (by decide) (OE.assignV (v := .bool y6) rfl ?_)
      refine VL.nil ?_
      change VC _ _ _ _ _ _ _
      refine VC.ret ?_
      exact ⟨rfl, _, ResOK.t1 rfl (v := .bool y6) rfl, H⟩
    · have H := H.2 e3
      refine VC.skip ?_
      change VC _ _ _ _ _ _ _
      refine VC.seqJ (fun f h8 => f 0 = (.slice baseA basen basec : Value) ∧ f 1 = (.slice changesA changesn changesc : Value) ∧ f 2 = (.int .i64 done : Value) ∧ f 3 = (.slice lostA lostn lostc : Value) ∧ D_treadlelaw3_DiskTorn.J2 R  baseA basen basec changesA changesn done lostA lostn lostc  h8) ?_ ?_
      · intro f h8 J
        obtain ⟨hk0, hk1, hk2, hk3, H⟩ := J
        rw [← fr_self f [(0, .slice baseA basen basec), (1, .slice changesA changesn changesc), (2, .int .i64 done), (3, .slice lostA lostn lostc)] (by simp only [List.mem_cons, List.not_mem_nil, or_false]; rintro p (rfl | rfl | rfl | rfl) <;> assumption)]
        unfold D_treadlelaw3_DiskTorn.J2 at H
        refine VC.seq ?_
        refine VC.region ?_
        refine VL.stepD rfl rfl (by decide) (OE.callL (args := [.int .i64 4194304, .int .i64 1]) Tryz.func10 rfl Tryz.nn10 rfl rfl (CHE.mono H (fun r9 h10 H => ?_) (fun _ _ e => e.elim)))
        obtain ⟨y11, rfl, H⟩ := H
        refine VL.stepD rfl rfl (by decide) (OE.assignV (v := .pointer y11) rfl ?_)
        refine VL.nil ?_
        change VC _ _ _ _ _ _ _
        refine VC.seq ?_
        refine VC.seqJ (fun f h13 => ∃ j12 : Bool, f 0 = (.slice baseA basen basec : Value) ∧ f 1 = (.slice changesA changesn changesc : Value) ∧ f 2 = (.int .i64 done : Value) ∧ f 3 = (.slice lostA lostn lostc : Value) ∧ f 11 = (.pointer y11 : Value) ∧ f 93 = (.bool j12 : Value) ∧ D_treadlelaw3_DiskTorn.J3 R  baseA basen changesA changesn done lostA lostn lostc y11 j12 h13) ?_ ?_
        · intro f h13 J
          obtain ⟨j12, hk0, hk1, hk2, hk3, hk11, hk93, H⟩ := J
          rw [← fr_self f [(0, .slice baseA basen basec), (1, .slice changesA changesn changesc), (2, .int .i64 done), (3, .slice lostA lostn lostc), (11, .pointer y11), (93, .bool j12)] (by simp only [List.mem_cons, List.not_mem_nil, or_false]; rintro p (rfl | rfl | rfl | rfl | rfl | rfl) <;> assumption)]
          unfold D_treadlelaw3_DiskTorn.J3 at H
          refine VC.cond (t := j12) rfl (fun e14 => ?_) (fun e14 => ?_)
          · have H := H.1 e14
            refine VC.seq ?_
            refine VC.region ?_
            refine VL.stepD rfl rfl (by decide) (OE.assignV (v := .bool false) rfl ?_)
            refine VL.nil ?_
            change VC _ _ _ _ _ _ _
            refine VC.ret ?_
            exact ⟨rfl, _, ResOK.t1 rfl (v := .bool false) rfl, H⟩
          · have H := H.2 e14
            refine VC.skip ?_
            change VC _ _ _ _ _ _ _
            refine VC.seq ?_
            refine VC.region ?_
            refine VL.stepD rfl rfl (by decide) (OE.assignV (v := .slice none 0 0) rfl ?_)
            refine VL.nil ?_
            change VC _ _ _ _ _ _ _
            refine VC.seq ?_
            refine VC.region ?_
            refine VL.stepD rfl rfl (by decide) (OE.assignV (v := .slice none 0 0) rfl ?_)
            refine VL.nil ?_
            change VC _ _ _ _ _ _ _
            refine VC.seqJ (fun f h16 => ∃ j15A : Option Addr, ∃ j15n : Nat, ∃ j15c : Nat, f 1 = (.slice changesA changesn changesc : Value) ∧ f 2 = (.int .i64 done : Value) ∧ f 3 = (.slice lostA lostn lostc : Value) ∧ f 11 = (.pointer y11 : Value) ∧ f 12 = (.slice none 0 0 : Value) ∧ f 13 = (.slice j15A j15n j15c : Value) ∧ D_treadlelaw3_DiskTorn.J4 R  changesA changesn done lostA lostn lostc y11 j15A j15n j15c h16) ?_ ?_
            · intro f h16 J
              obtain ⟨j15A, j15n, j15c, hk1, hk2, hk3, hk11, hk12, hk13, H⟩ := J
              rw [← fr_self f [(1, .slice changesA changesn changesc), (2, .int .i64 done), (3, .slice lostA lostn lostc), (11, .pointer y11), (12, .slice none 0 0), (13, .slice j15A j15n j15c)] (by simp only [List.mem_cons, List.not_mem_nil, or_false]; rintro p (rfl | rfl | rfl | rfl | rfl | rfl) <;> assumption)]
              unfold D_treadlelaw3_DiskTorn.J4 at H
              refine VC.seq ?_
              refine VC.region ?_
              refine VL.stepD rfl rfl (by decide) (OE.moveV (v := .slice none 0 0) rfl ?_)
              refine VL.stepD rfl rfl (by decide) (OE.moveV (v := .slice j15A j15n j15c) rfl ?_)
              obtain ⟨b18, eb262⟩ : ∃ b18, b18 = Array.size h16 := ⟨_, rfl⟩
              obtain ⟨h17, eh263⟩ : ∃ h17, h17 = Array.push h16 (.cells #[.slice j15A j15n j15c] 53) := ⟨_, rfl⟩
              have H := H b18 h17 eb262 eh263
              refine VL.stepD rfl rfl (by decide) (OE.buildSliceE (ps := [(0, (.slice j15A j15n j15c : Value))]) (cells := #[.slice j15A j15n j15c]) (e := 53) rfl (Tryz.bf36 _ _ _) eb262 eh263 ?_)
              obtain ⟨vs19, z20, z21, z22, z23, H⟩ := H
              refine VL.stepD rfl rfl (by decide) (OE.appendV (z := (.slice none 0 0 : Value)) (sz := 1) (bs := 24) rfl rfl Tryz.underlying52 Tryz.i53 z20 z21 z22 z23 (AppendV.mono H (fun A24 n25 c26 h27 H => ?_)))
              refine VL.stepD rfl rfl (by decide) (OE.assignV (v := .slice A24 n25 c26) rfl ?_)
              refine VL.nil ?_
              change VC _ _ _ _ _ _ _
              refine VC.seqJ (fun f h29 => ∃ j28A : Option Addr, ∃ j28n : Nat, ∃ j28c : Nat, f 2 = (.int .i64 done : Value) ∧ f 3 = (.slice lostA lostn lostc : Value) ∧ f 11 = (.pointer y11 : Value) ∧ f 12 = (.slice j28A j28n j28c : Value) ∧ D_treadlelaw3_DiskTorn.J5 R  done lostA lostn lostc y11 j28A j28n j28c h29) ?_ ?_
              · intro f h29 J
                obtain ⟨j28A, j28n, j28c, hk2, hk3, hk11, hk12, H⟩ := J
                rw [← fr_self f [(2, .int .i64 done), (3, .slice lostA lostn lostc), (11, .pointer y11), (12, .slice j28A j28n j28c)] (by simp only [List.mem_cons, List.not_mem_nil, or_false]; rintro p (rfl | rfl | rfl | rfl) <;> assumption)]
                unfold D_treadlelaw3_DiskTorn.J5 at H
                refine VC.seq ?_
                refine VC.region ?_
                refine VL.stepD rfl rfl (by decide) (OE.moveV (v := .pointer y11) rfl ?_)
                refine VL.stepD rfl rfl (by decide) (OE.callL (args := [.pointer y11]) Tryz.func21 rfl Tryz.nn21 rfl rfl (CHE.mono H (fun r30 h31 H => ?_) (fun _ _ e => e.elim)))
                obtain ⟨y32_0, y32_1A, y32_1n, y32_1c, rfl, H⟩ := H
                refine VL.stepD rfl rfl (by decide) (OE.moveV (v := .tuple #[.int .i64 y32_0, .slice y32_1A y32_1n y32_1c]) rfl ?_)
                refine VL.stepD rfl rfl (by decide) (OE.extract (v := .int .i64 y32_0) rfl rfl ?_)
                refine VL.stepD rfl rfl (by decide) (OE.extract (v := .slice y32_1A y32_1n y32_1c) rfl rfl ?_)
                refine VL.stepD rfl rfl (by decide) (OE.assignV (v := .int .i64 y32_0) rfl ?_)
                refine VL.stepD rfl rfl (by decide) (OE.assignV (v := .slice y32_1A y32_1n y32_1c) rfl ?_)
                refine VL.nil ?_
                change VC _ _ _ _ _ _ _
                refine VC.seq ?_
                refine VC.region ?_
                refine VL.stepD rfl rfl (by decide) (OE.moveV (v := .pointer y11) rfl ?_)
                refine VL.stepD rfl rfl (by decide) (OE.moveV (v := .int .i64 done) rfl ?_)
                refine VL.stepD rfl rfl (by decide) (OE.moveV (v := .slice lostA lostn lostc) rfl ?_)
                refine VL.stepD rfl rfl (by decide) (OE.buildV (ps := [(0, (.int .i64 done : Value)), (1, (.slice lostA lostn lostc : Value))]) rfl (Tryz.bf3 _ _ _ _) ?_)
                obtain ⟨b34, eb145⟩ : ∃ b34, b34 = Array.size h31 := ⟨_, rfl⟩
                obtain ⟨h33, eh146⟩ : ∃ h33, h33 = Array.push h31 (.cells #[.int .i64 done, .slice lostA lostn lostc] 59) := ⟨_, rfl⟩
                have H := H b34 h33 eb145 eh146
                refine VL.stepD rfl rfl (by decide) (OE.buildSliceE (ps := [(0, (.agg #[.int .i64 done, .slice lostA lostn lostc] : Value))]) (cells := #[.int .i64 done, .slice lostA lostn lostc]) (e := 59) rfl (Tryz.bf5 _ _ _ _) eb145 eh146 ?_)
                refine VL.stepD rfl rfl (by decide) (OE.buildV (ps := [(2, (.slice (some (Addr.mk b34 0 none)) 1 1 : Value))]) rfl (Tryz.bf4 _ _ _) ?_)
                refine VL.stepD rfl rfl (by decide) (OE.callL (args := [.pointer y11, .agg #[.int .i64 0, .slice none 0 0, .slice (some (Addr.mk b34 0 none)) 1 1]]) Tryz.func20 rfl Tryz.nn20 rfl rfl (CHE.mono H (fun r35 h36 H => ?_) (fun _ _ e => e.elim)))
                obtain ⟨y37A, y37n, y37c, rfl, H⟩ := H
                refine VL.stepD rfl rfl (by decide) (OE.assignV (v := .slice y37A y37n y37c) rfl ?_)
                refine VL.nil ?_
                change VC _ _ _ _ _ _ _
                refine VC.seq ?_
                refine VC.region ?_
                refine VL.stepD rfl rfl (by decide) (OE.moveV (v := .pointer y11) rfl ?_)
                refine VL.stepD rfl rfl (by decide) (OE.callL (args := [.pointer y11, .string (ByteArray.mk #[102])]) Tryz.func18 rfl Tryz.nn18 rfl rfl (CHE.mono H (fun r38 h39 H => ?_) (fun _ _ e => e.elim)))
                obtain ⟨y40_0A, y40_0n, y40_0c, y40_1, rfl, H⟩ := H
                refine VL.stepD rfl rfl (by decide) (OE.moveV (v := .tuple #[.slice y40_0A y40_0n y40_0c, .int .i64 y40_1]) rfl ?_)
                refine VL.stepD rfl rfl (by decide) (OE.extract (v := .slice y40_0A y40_0n y40_0c) rfl rfl ?_)
                refine VL.stepD rfl rfl (by decide) (OE.extract (v := .int .i64 y40_1) rfl rfl ?_)
                refine VL.stepD rfl rfl (by decide) (OE.assignV (v := .slice y40_0A y40_0n y40_0c) rfl ?_)
                refine VL.stepD rfl rfl (by decide) (OE.assignV (v := .int .i64 y40_1) rfl ?_)
                refine VL.nil ?_
                change VC _ _ _ _ _ _ _
                refine VC.seq ?_
                refine VC.region ?_
                refine VL.stepD rfl rfl (by decide) (OE.moveV (v := .slice j28A j28n j28c) rfl ?_)
                refine VL.stepD rfl rfl (by decide) (OE.moveV (v := .int .i64 done) rfl ?_)
                refine VL.stepD rfl rfl (by decide) (OE.moveV (v := .slice j28A j28n j28c) rfl ?_)
                refine VL.stepD rfl rfl (by decide) (OE.lenSlice rfl Tryz.underlying52 ?_)
                refine VL.stepD rfl rfl (by decide) (OE.callL (args := [.int .i64 done, .int .i64 ((j28n : Nat) : Int)]) Tryz.func15 rfl Tryz.nn15 rfl rfl (CHE.mono H (fun r41 h42 H => ?_) (fun _ _ e => e.elim)))
                obtain ⟨y43, rfl, H⟩ := H
                obtain ⟨a44, e45, z46, z47, H⟩ := H
                refine VL.stepD rfl rfl (by decide) (OE.indexAddrI (sz := 1) rfl rfl Tryz.underlying52 Tryz.i53 e45 z46 z47 ?_)
                obtain ⟨x48A, x48n, x48c, hl49, H⟩ := H
                refine VL.stepD rfl rfl (by decide) (OE.load (a := (a44.add (Int.toNat y43 * 1))) (v := .slice x48A x48n x48c) rfl (LdT.one Tryz.underlying53 rfl hl49) ?_)
                refine VL.stepD rfl rfl (by decide) (OE.assignV (v := .slice x48A x48n x48c) rfl ?_)
                refine VL.nil ?_
                change VC _ _ _ _ _ _ _
                refine VC.seq ?_
                refine VC.seqJ (fun f h51 => ∃ j50 : Bool, f 3 = (.slice lostA lostn lostc : Value) ∧ f 13 = (.slice x48A x48n x48c : Value) ∧ f 23 = (.slice y37A y37n y37c : Value) ∧ f 24 = (.slice y40_0A y40_0n y40_0c : Value) ∧ f 242 = (.bool j50 : Value) ∧ D_treadlelaw3_DiskTorn.J6 R  lostA lostn y37A y37n y40_0A y40_0n x48A x48n j50 h51) ?_ ?_
                · intro f h51 J
                  obtain ⟨j50, hk3, hk13, hk23, hk24, hk242, H⟩ := J
                  rw [← fr_self f [(3, .slice lostA lostn lostc), (13, .slice x48A x48n x48c), (23, .slice y37A y37n y37c), (24, .slice y40_0A y40_0n y40_0c), (242, .bool j50)] (by simp only [List.mem_cons, List.not_mem_nil, or_false]; rintro p (rfl | rfl | rfl | rfl | rfl) <;> assumption)]
                  unfold D_treadlelaw3_DiskTorn.J6 at H
                  refine VC.cond (t := j50) rfl (fun e52 => ?_) (fun e52 => ?_)
                  · have H := H.1 e52
                    refine VC.seq ?_
                    refine VC.region ?_
                    refine VL.stepD rfl rfl (by decide) (OE.assignV (v := .bool false) rfl ?_)
                    refine VL.nil ?_
                    change VC _ _ _ _ _ _ _
                    refine VC.ret ?_
                    exact ⟨rfl, _, ResOK.t1 rfl (v := .bool false) rfl, H⟩
                  · have H := H.2 e52
                    refine VC.skip ?_
                    change VC _ _ _ _ _ _ _
                    refine VC.seq ?_
                    refine VC.region ?_
                    refine VL.stepD rfl rfl (by decide) (OE.moveV (v := .slice x48A x48n x48c) rfl ?_)
                    refine VL.stepD rfl rfl (by decide) (OE.lenSlice rfl Tryz.underlying53 ?_)
                    refine VL.stepD rfl rfl (by decide) (OE.binI (v := .int .i64 (IntKind.i64.wrap (((x48n : Nat) : Int) + 15))) rfl rfl rfl ?_)
                    refine VL.stepD rfl rfl (by decide) (OE.binI (v := .int .i64 (IntKind.i64.wrap (Int.tdiv (IntKind.i64.wrap (((x48n : Nat) : Int) + 15)) 16))) rfl rfl rfl ?_)
                    refine VL.stepD rfl rfl (by decide) (OE.assignV (v := .int .i64 (IntKind.i64.wrap (Int.tdiv (IntKind.i64.wrap (((x48n : Nat) : Int) + 15)) 16))) rfl ?_)
                    refine VL.nil ?_
                    change VC _ _ _ _ _ _ _
                    refine VC.seqJ (fun f h53 => D_treadlelaw3_DiskTorn.J7 R    h53) ?_ ?_
                    · intro f h53 J
                      have H := J
                      skip
                      unfold D_treadlelaw3_DiskTorn.J7 at H
                      refine VC.seq ?_
                      refine VC.region ?_
                      refine VL.stepD rfl rfl (by decide) (OE.callL (args := []) Tryz.func9 rfl Tryz.nn9 rfl rfl (CHE.mono H (fun r54 h55 H => ?_) (fun _ _ e => e.elim)))
                      obtain ⟨y56, rfl, H⟩ := H
                      refine VL.stepD rfl rfl (by decide) (OE.assignV (v := .bool y56) rfl ?_)
                      refine VL.nil ?_
                      change VC _ _ _ _ _ _ _
                      refine VC.ret ?_
                      exact ⟨rfl, _, ResOK.t1 rfl (v := .bool y56) rfl, H⟩
                    · skip
                      refine VC.seq ?_
                      refine VC.region ?_
                      refine VL.stepD rfl rfl (by decide) (OE.assignV (v := .int .i64 0) rfl ?_)
                      refine VL.nil ?_
                      change VC _ _ _ _ _ _ _
                      refine VC.block ?_
                      obtain ⟨Inv, ⟨m0, h0⟩, H⟩ := H
                      refine VC.loop (fun ds f h59 m => ds = [] ∧ ∃ j58 : Int, f 3 = (.slice lostA lostn lostc : Value) ∧ f 13 = (.slice x48A x48n x48c : Value) ∧ f 23 = (.slice y37A y37n y37c : Value) ∧ f 24 = (.slice y40_0A y40_0n y40_0c : Value) ∧ f 26 = (.int .i64 (IntKind.i64.wrap (Int.tdiv (IntKind.i64.wrap (((x48n : Nat) : Int) + 15)) 16)) : Value) ∧ f 27 = (.int .i64 j58 : Value) ∧ Inv j58 h59 m) (m0 := m0) ⟨rfl, 0, rfl, rfl, rfl, rfl, rfl, rfl, h0⟩ ?_
                      intro ds f h59 m I
                      obtain ⟨rfl, j58, hk3, hk13, hk23, hk24, hk26, hk27, I⟩ := I
                      rw [← fr_self f [(3, .slice lostA lostn lostc), (13, .slice x48A x48n x48c), (23, .slice y37A y37n y37c), (24, .slice y40_0A y40_0n y40_0c), (26, .int .i64 (IntKind.i64.wrap (Int.tdiv (IntKind.i64.wrap (((x48n : Nat) : Int) + 15)) 16))), (27, .int .i64 j58)] (by simp only [List.mem_cons, List.not_mem_nil, or_false]; rintro p (rfl | rfl | rfl | rfl | rfl | rfl) <;> assumption)]
                      obtain ⟨C60, eC60⟩ : ∃ C60 : Int → Hp → Prop, C60 = (fun j58 h59 => ∃ m1, m1 < m ∧ Inv j58 h59 m1) := ⟨_, rfl⟩
                      have H : D_treadlelaw3_DiskTorn.L8 R  lostA lostn y37A y37n y40_0A y40_0n x48A x48n C60 j58 h59 := by rw [eC60]; exact H j58 h59 m I
                      unfold D_treadlelaw3_DiskTorn.L8 at H
                      refine VC.seq ?_
                      refine VC.seq ?_
                      refine VC.region ?_
                      refine VL.stepD rfl rfl (by decide) (OE.moveV (v := .int .i64 j58) rfl ?_)
                      refine VL.stepD rfl rfl (by decide) (OE.moveV (v := .slice x48A x48n x48c) rfl ?_)
                      refine VL.stepD rfl rfl (by decide) (OE.lenSlice rfl Tryz.underlying53 ?_)
                      refine VL.stepD rfl rfl (by decide) (OE.binI (v := .bool (decide (j58 < ((x48n : Nat) : Int)))) rfl rfl rfl ?_)
                      refine VL.nil ?_
                      change VC _ _ _ _ _ _ _
                      refine VC.cond (t := (decide (j58 < ((x48n : Nat) : Int)))) rfl (fun e61 => ?_) (fun e61 => ?_)
                      · have H := H.1 e61
                        refine VC.skip ?_
                        change VC _ _ _ _ _ _ _
                        refine VC.seq ?_
                        refine VC.block ?_
                        refine VC.seq ?_
                        refine VC.region ?_
                        refine VL.stepD rfl rfl (by decide) (OE.moveV (v := .slice x48A x48n x48c) rfl ?_)
                        refine VL.stepD rfl rfl (by decide) (OE.moveV (v := .int .i64 j58) rfl ?_)
                        obtain ⟨a62, e63, z64, z65, H⟩ := H
                        refine VL.stepD rfl rfl (by decide) (OE.indexAddrI (sz := 2) rfl rfl Tryz.underlying53 Tryz.i55 e63 z64 z65 ?_)
                        refine VL.stepD rfl rfl (by decide) (OE.fieldAddrI (a := (a62.add (Int.toNat j58 * 2))) (o := 0) rfl Tryz.underlying55 rfl Tryz.i5 (by decide) rfl ?_)
                        obtain ⟨x66, hl67, H⟩ := H
                        refine VL.stepD rfl rfl (by decide) (OE.load (a := (a62.add (Int.toNat j58 * 2))) (v := .int .u8 x66) rfl (LdT.one Tryz.underlying5 rfl hl67) ?_)
                        refine VL.stepD rfl rfl (by decide) (OE.assignV (v := .int .u8 x66) rfl ?_)
                        refine VL.nil ?_
                        change VC _ _ _ _ _ _ _
                        refine VC.seqJ (fun f h69 => ∃ j68 : Int, f 3 = (.slice lostA lostn lostc : Value) ∧ f 13 = (.slice x48A x48n x48c : Value) ∧ f 23 = (.slice y37A y37n y37c : Value) ∧ f 24 = (.slice y40_0A y40_0n y40_0c : Value) ∧ f 26 = (.int .i64 (IntKind.i64.wrap (Int.tdiv (IntKind.i64.wrap (((x48n : Nat) : Int) + 15)) 16)) : Value) ∧ f 27 = (.int .i64 j58 : Value) ∧ f 28 = (.int .u8 j68 : Value) ∧ D_treadlelaw3_DiskTorn.J9 R C60 y37A y37n y40_0A y40_0n x48A x48n j58 j68 h69) ?_ ?_
                        · intro f h69 J
                          obtain ⟨j68, hk3, hk13, hk23, hk24, hk26, hk27, hk28, H⟩ := J
                          rw [← fr_self f [(3, .slice lostA lostn lostc), (13, .slice x48A x48n x48c), (23, .slice y37A y37n y37c), (24, .slice y40_0A y40_0n y40_0c), (26, .int .i64 (IntKind.i64.wrap (Int.tdiv (IntKind.i64.wrap (((x48n : Nat) : Int) + 15)) 16))), (27, .int .i64 j58), (28, .int .u8 j68)] (by simp only [List.mem_cons, List.not_mem_nil, or_false]; rintro p (rfl | rfl | rfl | rfl | rfl | rfl | rfl) <;> assumption)]
                          unfold D_treadlelaw3_DiskTorn.J9 at H
                          refine VC.seqJ (fun f h71 => ∃ j70 : Bool, f 3 = (.slice lostA lostn lostc : Value) ∧ f 13 = (.slice x48A x48n x48c : Value) ∧ f 23 = (.slice y37A y37n y37c : Value) ∧ f 24 = (.slice y40_0A y40_0n y40_0c : Value) ∧ f 26 = (.int .i64 (IntKind.i64.wrap (Int.tdiv (IntKind.i64.wrap (((x48n : Nat) : Int) + 15)) 16)) : Value) ∧ f 27 = (.int .i64 j58 : Value) ∧ f 300 = (.bool j70 : Value) ∧ D_treadlelaw3_DiskTorn.J10 R C60 j58 j70 h71) ?_ ?_
                          · intro f h71 J
                            obtain ⟨j70, hk3, hk13, hk23, hk24, hk26, hk27, hk300, H⟩ := J
                            rw [← fr_self f [(3, .slice lostA lostn lostc), (13, .slice x48A x48n x48c), (23, .slice y37A y37n y37c), (24, .slice y40_0A y40_0n y40_0c), (26, .int .i64 (IntKind.i64.wrap (Int.tdiv (IntKind.i64.wrap (((x48n : Nat) : Int) + 15)) 16))), (27, .int .i64 j58), (300, .bool j70)] (by simp only [List.mem_cons, List.not_mem_nil, or_false]; rintro p (rfl | rfl | rfl | rfl | rfl | rfl | rfl) <;> assumption)]
                            unfold D_treadlelaw3_DiskTorn.J10 at H
                            refine VC.cond (t := j70) rfl (fun e72 => ?_) (fun e72 => ?_)
                            · have H := H.1 e72
                              refine VC.seq ?_
                              refine VC.region ?_
                              refine VL.stepD rfl rfl (by decide) (OE.assignV (v := .bool false) rfl ?_)
                              refine VL.nil ?_
                              change VC _ _ _ _ _ _ _
                              refine VC.ret ?_
                              exact ⟨rfl, _, ResOK.t1 rfl (v := .bool false) rfl, H⟩
                            · have H := H.2 e72
                              refine VC.skip ?_
                              change VC _ _ _ _ _ _ _
                              refine VC.region ?_
                              refine VL.stepD rfl rfl (by decide) (OE.moveV (v := .int .i64 j58) rfl ?_)
                              refine VL.stepD rfl rfl (by decide) (OE.binI (v := .int .i64 (IntKind.i64.wrap (j58 + 1))) rfl rfl rfl ?_)
                              refine VL.stepD rfl rfl (by decide) (OE.assignV (v := .int .i64 (IntKind.i64.wrap (j58 + 1))) rfl ?_)
                              refine VL.nil ?_
                              rw [eC60] at H
                              obtain ⟨m1, hm1, H⟩ := H
                              exact ⟨m1, hm1, rfl, (IntKind.i64.wrap (j58 + 1)), rfl, rfl, rfl, rfl, rfl, rfl, H⟩
                          · skip
                            refine VC.drawsS Tryz.mixed (by kernel_rfl) (by kernel_rfl) (fun st hd => ?_)
                            refine DW.still (i := 0) (v := .slice y37A y37n y37c) (by kernel_rfl) ?_
                            obtain ⟨a73, e74, z75, z76, H⟩ := H
                            refine DW.still (i := 1) (v := .pointer (some (a73.add (Int.toNat 0 * 2)))) (by kernel_rfl) ?_
                            refine DW.still (i := 2) (v := .pointer (some ((a73.add (Int.toNat 0 * 2)).add 1))) (by kernel_rfl) ?_
                            obtain ⟨x77A, x77n, x77c, hl78, H⟩ := H
                            refine DW.still (i := 3) (v := .slice x77A x77n x77c) (by kernel_rfl) ?_
                            refine DW.still (i := 4) (v := .int .i64 j58) (by kernel_rfl) ?_
                            obtain ⟨a79, e80, z81, z82, H⟩ := H
                            refine DW.still (i := 5) (v := .pointer (some (a79.add (Int.toNat j58 * 1)))) (by kernel_rfl) ?_
                            obtain ⟨x83, hl84, H⟩ := H
                            refine DW.still (i := 6) (v := .int .u8 x83) (by kernel_rfl) ?_
                            refine DW.still (i := 7) (v := .slice x48A x48n x48c) (by kernel_rfl) ?_
                            refine DW.still (i := 8) (v := .int .i64 j58) (by kernel_rfl) ?_
                            obtain ⟨a85, e86, z87, z88, H⟩ := H
                            refine DW.still (i := 9) (v := .pointer (some (a85.add (Int.toNat j58 * 2)))) (by kernel_rfl) ?_
                            refine DW.still (i := 10) (v := .pointer (some (a85.add (Int.toNat j58 * 2)))) (by kernel_rfl) ?_
                            obtain ⟨x89, hl90, H⟩ := H
                            refine DW.still (i := 11) (v := .int .u8 x89) (by kernel_rfl) ?_
                            refine DW.still (i := 12) (v := .bool (x83 != x89)) (by kernel_rfl) ?_
                            refine DW.still (i := 13) (v := .bool (x83 != x89)) (by kernel_rfl) ?_
                            refine boolSplit ((x83 != x89)) (fun e91 => ?_) (fun e91 => ?_)
                            · have H := H.1 e91
                              refine DW.still (i := 14) (v := undef) (by kernel_rfl) ?_
                              refine DW.still (i := 15) (v := undef) (by kernel_rfl) ?_
                              refine DW.still (i := 16) (v := undef) (by kernel_rfl) ?_
                              refine DW.still (i := 17) (v := undef) (by kernel_rfl) ?_
                              refine DW.still (i := 18) (v := undef) (by kernel_rfl) ?_
                              refine DW.still (i := 19) (v := undef) (by kernel_rfl) ?_
                              refine DW.still (i := 20) (v := .bool true) (by kernel_rfl) ?_
                              refine DW.finL st hd [(280, (.slice y37A y37n y37c : Value)), (281, (.pointer (some (a73.add (Int.toNat 0 * 2))) : Value)), (282, (.pointer (some ((a73.add (Int.toNat 0 * 2)).add 1)) : Value)), (283, (.slice x77A x77n x77c : Value)), (284, (.int .i64 j58 : Value)), (285, (.pointer (some (a79.add (Int.toNat j58 * 1))) : Value)), (286, (.int .u8 x83 : Value)), (287, (.slice x48A x48n x48c : Value)), (288, (.int .i64 j58 : Value)), (289, (.pointer (some (a85.add (Int.toNat j58 * 2))) : Value)), (290, (.pointer (some (a85.add (Int.toNat j58 * 2))) : Value)), (291, (.int .u8 x89 : Value)), (292, (.bool (x83 != x89) : Value)), (293, (.bool (x83 != x89) : Value)), (294, (undef : Value)), (295, (undef : Value)), (296, (undef : Value)), (297, (undef : Value)), (298, (undef : Value)), (299, (undef : Value)), (300, (.bool true : Value))] (by kernel_rfl) (by kernel_rfl) ⟨.inr (YD.u (fr (fun _ => undef) [(293, (.bool (x83 != x89) : Value)), (299, (undef : Value))]) st rfl rfl (by kernel_rfl) (OE.pickV (t := true) (v := .bool true) (congrArg Value.bool e91) rfl ⟨rfl, rfl⟩)), .inr (YD.s (fr (fun _ => undef) [(297, (undef : Value)), (298, (undef : Value)), (293, (.bool (x83 != x89) : Value))]) rfl rfl rfl (by kernel_rfl) (.inl (congrArg Value.bool e91))), .inr (YD.s (fr (fun _ => undef) [(28, (.int .u8 j68 : Value)), (293, (.bool (x83 != x89) : Value))]) rfl rfl rfl (by kernel_rfl) (.inl (congrArg Value.bool e91))), .inr (YD.s (fr (fun _ => undef) [(296, (undef : Value)), (293, (.bool (x83 != x89) : Value))]) rfl rfl rfl (by kernel_rfl) (.inl (congrArg Value.bool e91))), .inr (YD.s (fr (fun _ => undef) [(294, (undef : Value)), (295, (undef : Value)), (293, (.bool (x83 != x89) : Value))]) rfl rfl rfl (by kernel_rfl) (.inl (congrArg Value.bool e91))), .inr (YD.s (fr (fun _ => undef) [(27, (.int .i64 j58 : Value)), (293, (.bool (x83 != x89) : Value))]) rfl rfl rfl (by kernel_rfl) (.inl (congrArg Value.bool e91))), .inr (YD.s (fr (fun _ => undef) [(24, (.slice y40_0A y40_0n y40_0c : Value)), (293, (.bool (x83 != x89) : Value))]) rfl rfl rfl (by kernel_rfl) (.inl (congrArg Value.bool e91))), .inr (YD.u (fr (fun _ => undef) [(292, (.bool (x83 != x89) : Value))]) st rfl rfl (by kernel_rfl) (OE.moveV (v := .bool (x83 != x89)) rfl ⟨rfl, rfl⟩)), .inr (YD.u (fr (fun _ => undef) [(286, (.int .u8 x83 : Value)), (291, (.int .u8 x89 : Value))]) st rfl rfl (by kernel_rfl) (OE.binI (v := .bool (x83 != x89)) rfl rfl rfl ⟨rfl, rfl⟩)), .inr (YD.u (fr (fun _ => undef) [(290, (.pointer (some (a85.add (Int.toNat j58 * 2))) : Value))]) st rfl rfl (by kernel_rfl) (OE.load (a := (a85.add (Int.toNat j58 * 2))) (v := .int .u8 x89) rfl (LdT.one Tryz.underlying5 rfl hl90) ⟨rfl, rfl⟩)), .inr (YD.u (fr (fun _ => undef) [(289, (.pointer (some (a85.add (Int.toNat j58 * 2))) : Value))]) st rfl rfl (by kernel_rfl) (OE.fieldAddrI (a := (a85.add (Int.toNat j58 * 2))) (o := 0) rfl Tryz.underlying55 rfl Tryz.i5 (by decide) rfl ⟨rfl, rfl⟩)), .inr (YD.u (fr (fun _ => undef) [(287, (.slice x48A x48n x48c : Value)), (288, (.int .i64 j58 : Value))]) st rfl rfl (by kernel_rfl) (OE.indexAddrI (sz := 2) rfl rfl Tryz.underlying53 Tryz.i55 e86 z87 z88 ⟨rfl, rfl⟩)), .inr (YD.u (fr (fun _ => undef) [(27, (.int .i64 j58 : Value))]) st rfl rfl (by kernel_rfl) (OE.moveV (v := .int .i64 j58) rfl ⟨rfl, rfl⟩)), .inr (YD.u (fr (fun _ => undef) [(13, (.slice x48A x48n x48c : Value))]) st rfl rfl (by kernel_rfl) (OE.moveV (v := .slice x48A x48n x48c) rfl ⟨rfl, rfl⟩)), .inr (YD.u (fr (fun _ => undef) [(285, (.pointer (some (a79.add (Int.toNat j58 * 1))) : Value))]) st rfl rfl (by kernel_rfl) (OE.load (a := (a79.add (Int.toNat j58 * 1))) (v := .int .u8 x83) rfl (LdT.one Tryz.underlying5 rfl hl84) ⟨rfl, rfl⟩)), .inr (YD.u (fr (fun _ => undef) [(283, (.slice x77A x77n x77c : Value)), (284, (.int .i64 j58 : Value))]) st rfl rfl (by kernel_rfl) (OE.indexAddrI (sz := 1) rfl rfl Tryz.underlying22 Tryz.i5 e80 z81 z82 ⟨rfl, rfl⟩)), .inr (YD.u (fr (fun _ => undef) [(27, (.int .i64 j58 : Value))]) st rfl rfl (by kernel_rfl) (OE.moveV (v := .int .i64 j58) rfl ⟨rfl, rfl⟩)), .inr (YD.u (fr (fun _ => undef) [(282, (.pointer (some ((a73.add (Int.toNat 0 * 2)).add 1)) : Value))]) st rfl rfl (by kernel_rfl) (OE.load (a := ((a73.add (Int.toNat 0 * 2)).add 1)) (v := .slice x77A x77n x77c) rfl (LdT.one Tryz.underlying22 rfl hl78) ⟨rfl, rfl⟩)), .inr (YD.u (fr (fun _ => undef) [(281, (.pointer (some (a73.add (Int.toNat 0 * 2))) : Value))]) st rfl rfl (by kernel_rfl) (OE.fieldAddrI (a := (a73.add (Int.toNat 0 * 2))) (o := 1) rfl Tryz.underlying61 rfl Tryz.i22 (by decide) rfl ⟨rfl, rfl⟩)), .inr (YD.u (fr (fun _ => undef) [(280, (.slice y37A y37n y37c : Value))]) st rfl rfl (by kernel_rfl) (OE.indexAddrI (sz := 2) rfl rfl Tryz.underlying42 Tryz.i61 e74 z75 z76 ⟨rfl, rfl⟩)), .inr (YD.u (fr (fun _ => undef) [(23, (.slice y37A y37n y37c : Value))]) st rfl rfl (by kernel_rfl) (OE.moveV (v := .slice y37A y37n y37c) rfl ⟨rfl, rfl⟩)), trivial⟩ ?_
                              exact ⟨rfl, true, rfl, rfl, rfl, rfl, rfl, rfl, rfl, H⟩
                            · have H := H.2 e91
                              refine DW.still (i := 14) (v := .slice y40_0A y40_0n y40_0c) (by kernel_rfl) ?_
                              refine DW.still (i := 15) (v := .int .i64 j58) (by kernel_rfl) ?_
                              obtain ⟨a92, e93, z94, z95, H⟩ := H
                              refine DW.still (i := 16) (v := .pointer (some (a92.add (Int.toNat j58 * 1)))) (by kernel_rfl) ?_
                              obtain ⟨x96, hl97, H⟩ := H
                              refine DW.still (i := 17) (v := .int .u8 x96) (by kernel_rfl) ?_
                              refine DW.still (i := 18) (v := .int .u8 j68) (by kernel_rfl) ?_
                              refine DW.still (i := 19) (v := .bool (x96 != j68)) (by kernel_rfl) ?_
                              refine DW.still (i := 20) (v := .bool (x96 != j68)) (by kernel_rfl) ?_
                              refine DW.finL st hd [(280, (.slice y37A y37n y37c : Value)), (281, (.pointer (some (a73.add (Int.toNat 0 * 2))) : Value)), (282, (.pointer (some ((a73.add (Int.toNat 0 * 2)).add 1)) : Value)), (283, (.slice x77A x77n x77c : Value)), (284, (.int .i64 j58 : Value)), (285, (.pointer (some (a79.add (Int.toNat j58 * 1))) : Value)), (286, (.int .u8 x83 : Value)), (287, (.slice x48A x48n x48c : Value)), (288, (.int .i64 j58 : Value)), (289, (.pointer (some (a85.add (Int.toNat j58 * 2))) : Value)), (290, (.pointer (some (a85.add (Int.toNat j58 * 2))) : Value)), (291, (.int .u8 x89 : Value)), (292, (.bool (x83 != x89) : Value)), (293, (.bool (x83 != x89) : Value)), (294, (.slice y40_0A y40_0n y40_0c : Value)), (295, (.int .i64 j58 : Value)), (296, (.pointer (some (a92.add (Int.toNat j58 * 1))) : Value)), (297, (.int .u8 x96 : Value)), (298, (.int .u8 j68 : Value)), (299, (.bool (x96 != j68) : Value)), (300, (.bool (x96 != j68) : Value))] (by kernel_rfl) (by kernel_rfl) ⟨.inr (YD.u (fr (fun _ => undef) [(293, (.bool (x83 != x89) : Value)), (299, (.bool (x96 != j68) : Value))]) st rfl rfl (by kernel_rfl) (OE.pickV (t := false) (v := .bool (x96 != j68)) (congrArg Value.bool e91) rfl ⟨rfl, rfl⟩)), .inr (YD.r (fr (fun _ => undef) [(297, (.int .u8 x96 : Value)), (298, (.int .u8 j68 : Value)), (293, (.bool (x83 != x89) : Value))]) st rfl rfl rfl (by kernel_rfl) (congrArg Value.bool e91) (OE.binI (v := .bool (x96 != j68)) rfl rfl rfl ⟨rfl, rfl⟩)), .inr (YD.r (fr (fun _ => undef) [(28, (.int .u8 j68 : Value)), (293, (.bool (x83 != x89) : Value))]) st rfl rfl rfl (by kernel_rfl) (congrArg Value.bool e91) (OE.moveV (v := .int .u8 j68) rfl ⟨rfl, rfl⟩)), .inr (YD.r (fr (fun _ => undef) [(296, (.pointer (some (a92.add (Int.toNat j58 * 1))) : Value)), (293, (.bool (x83 != x89) : Value))]) st rfl rfl rfl (by kernel_rfl) (congrArg Value.bool e91) (OE.load (a := (a92.add (Int.toNat j58 * 1))) (v := .int .u8 x96) rfl (LdT.one Tryz.underlying5 rfl hl97) ⟨rfl, rfl⟩)), .inr (YD.r (fr (fun _ => undef) [(294, (.slice y40_0A y40_0n y40_0c : Value)), (295, (.int .i64 j58 : Value)), (293, (.bool (x83 != x89) : Value))]) st rfl rfl rfl (by kernel_rfl) (congrArg Value.bool e91) (OE.indexAddrI (sz := 1) rfl rfl Tryz.underlying22 Tryz.i5 e93 z94 z95 ⟨rfl, rfl⟩)), .inr (YD.r (fr (fun _ => undef) [(27, (.int .i64 j58 : Value)), (293, (.bool (x83 != x89) : Value))]) st rfl rfl rfl (by kernel_rfl) (congrArg Value.bool e91) (OE.moveV (v := .int .i64 j58) rfl ⟨rfl, rfl⟩)), .inr (YD.r (fr (fun _ => undef) [(24, (.slice y40_0A y40_0n y40_0c : Value)), (293, (.bool (x83 != x89) : Value))]) st rfl rfl rfl (by kernel_rfl) (congrArg Value.bool e91) (OE.moveV (v := .slice y40_0A y40_0n y40_0c) rfl ⟨rfl, rfl⟩)), .inr (YD.u (fr (fun _ => undef) [(292, (.bool (x83 != x89) : Value))]) st rfl rfl (by kernel_rfl) (OE.moveV (v := .bool (x83 != x89)) rfl ⟨rfl, rfl⟩)), .inr (YD.u (fr (fun _ => undef) [(286, (.int .u8 x83 : Value)), (291, (.int .u8 x89 : Value))]) st rfl rfl (by kernel_rfl) (OE.binI (v := .bool (x83 != x89)) rfl rfl rfl ⟨rfl, rfl⟩)), .inr (YD.u (fr (fun _ => undef) [(290, (.pointer (some (a85.add (Int.toNat j58 * 2))) : Value))]) st rfl rfl (by kernel_rfl) (OE.load (a := (a85.add (Int.toNat j58 * 2))) (v := .int .u8 x89) rfl (LdT.one Tryz.underlying5 rfl hl90) ⟨rfl, rfl⟩)), .inr (YD.u (fr (fun _ => undef) [(289, (.pointer (some (a85.add (Int.toNat j58 * 2))) : Value))]) st rfl rfl (by kernel_rfl) (OE.fieldAddrI (a := (a85.add (Int.toNat j58 * 2))) (o := 0) rfl Tryz.underlying55 rfl Tryz.i5 (by decide) rfl ⟨rfl, rfl⟩)), .inr (YD.u (fr (fun _ => undef) [(287, (.slice x48A x48n x48c : Value)), (288, (.int .i64 j58 : Value))]) st rfl rfl (by kernel_rfl) (OE.indexAddrI (sz := 2) rfl rfl Tryz.underlying53 Tryz.i55 e86 z87 z88 ⟨rfl, rfl⟩)), .inr (YD.u (fr (fun _ => undef) [(27, (.int .i64 j58 : Value))]) st rfl rfl (by kernel_rfl) (OE.moveV (v := .int .i64 j58) rfl ⟨rfl, rfl⟩)), .inr (YD.u (fr (fun _ => undef) [(13, (.slice x48A x48n x48c : Value))]) st rfl rfl (by kernel_rfl) (OE.moveV (v := .slice x48A x48n x48c) rfl ⟨rfl, rfl⟩)), .inr (YD.u (fr (fun _ => undef) [(285, (.pointer (some (a79.add (Int.toNat j58 * 1))) : Value))]) st rfl rfl (by kernel_rfl) (OE.load (a := (a79.add (Int.toNat j58 * 1))) (v := .int .u8 x83) rfl (LdT.one Tryz.underlying5 rfl hl84) ⟨rfl, rfl⟩)), .inr (YD.u (fr (fun _ => undef) [(283, (.slice x77A x77n x77c : Value)), (284, (.int .i64 j58 : Value))]) st rfl rfl (by kernel_rfl) (OE.indexAddrI (sz := 1) rfl rfl Tryz.underlying22 Tryz.i5 e80 z81 z82 ⟨rfl, rfl⟩)), .inr (YD.u (fr (fun _ => undef) [(27, (.int .i64 j58 : Value))]) st rfl rfl (by kernel_rfl) (OE.moveV (v := .int .i64 j58) rfl ⟨rfl, rfl⟩)), .inr (YD.u (fr (fun _ => undef) [(282, (.pointer (some ((a73.add (Int.toNat 0 * 2)).add 1)) : Value))]) st rfl rfl (by kernel_rfl) (OE.load (a := ((a73.add (Int.toNat 0 * 2)).add 1)) (v := .slice x77A x77n x77c) rfl (LdT.one Tryz.underlying22 rfl hl78) ⟨rfl, rfl⟩)), .inr (YD.u (fr (fun _ => undef) [(281, (.pointer (some (a73.add (Int.toNat 0 * 2))) : Value))]) st rfl rfl (by kernel_rfl) (OE.fieldAddrI (a := (a73.add (Int.toNat 0 * 2))) (o := 1) rfl Tryz.underlying61 rfl Tryz.i22 (by decide) rfl ⟨rfl, rfl⟩)), .inr (YD.u (fr (fun _ => undef) [(280, (.slice y37A y37n y37c : Value))]) st rfl rfl (by kernel_rfl) (OE.indexAddrI (sz := 2) rfl rfl Tryz.underlying42 Tryz.i61 e74 z75 z76 ⟨rfl, rfl⟩)), .inr (YD.u (fr (fun _ => undef) [(23, (.slice y37A y37n y37c : Value))]) st rfl rfl (by kernel_rfl) (OE.moveV (v := .slice y37A y37n y37c) rfl ⟨rfl, rfl⟩)), trivial⟩ ?_
                              exact ⟨rfl, (x96 != j68), rfl, rfl, rfl, rfl, rfl, rfl, rfl, H⟩
                        · skip
                          refine VC.seq ?_
                          refine VC.region ?_
                          refine VL.stepD rfl rfl (by decide) (OE.assignV (v := .int .i64 0) rfl ?_)
                          refine VL.nil ?_
                          change VC _ _ _ _ _ _ _
                          refine VC.block ?_
                          obtain ⟨Inv, ⟨m0, h0⟩, H⟩ := H
                          refine VC.loop (fun ds f h100 m => ds = [] ∧ ∃ j98 : Int, ∃ j99 : Int, f 3 = (.slice lostA lostn lostc : Value) ∧ f 13 = (.slice x48A x48n x48c : Value) ∧ f 23 = (.slice y37A y37n y37c : Value) ∧ f 24 = (.slice y40_0A y40_0n y40_0c : Value) ∧ f 26 = (.int .i64 (IntKind.i64.wrap (Int.tdiv (IntKind.i64.wrap (((x48n : Nat) : Int) + 15)) 16)) : Value) ∧ f 27 = (.int .i64 j58 : Value) ∧ f 28 = (.int .u8 j98 : Value) ∧ f 29 = (.int .i64 j99 : Value) ∧ Inv j98 j99 h100 m) (m0 := m0) ⟨rfl, x66, 0, rfl, rfl, rfl, rfl, rfl, rfl, rfl, rfl, h0⟩ ?_
                          intro ds f h100 m I
                          obtain ⟨rfl, j98, j99, hk3, hk13, hk23, hk24, hk26, hk27, hk28, hk29, I⟩ := I
                          rw [← fr_self f [(3, .slice lostA lostn lostc), (13, .slice x48A x48n x48c), (23, .slice y37A y37n y37c), (24, .slice y40_0A y40_0n y40_0c), (26, .int .i64 (IntKind.i64.wrap (Int.tdiv (IntKind.i64.wrap (((x48n : Nat) : Int) + 15)) 16))), (27, .int .i64 j58), (28, .int .u8 j98), (29, .int .i64 j99)] (by simp only [List.mem_cons, List.not_mem_nil, or_false]; rintro p (rfl | rfl | rfl | rfl | rfl | rfl | rfl | rfl) <;> assumption)]
                          obtain ⟨C101, eC101⟩ : ∃ C101 : Int → Int → Hp → Prop, C101 = (fun j98 j99 h100 => ∃ m1, m1 < m ∧ Inv j98 j99 h100 m1) := ⟨_, rfl⟩
                          have H : D_treadlelaw3_DiskTorn.L11 R C60 lostA lostn y37A y37n y40_0A y40_0n x48A x48n j58 C101 j98 j99 h100 := by rw [eC101]; exact H j98 j99 h100 m I
                          unfold D_treadlelaw3_DiskTorn.L11 at H
                          refine VC.seq ?_
                          refine VC.seqJ (fun f h103 => ∃ j102 : Bool, f 3 = (.slice lostA lostn lostc : Value) ∧ f 13 = (.slice x48A x48n x48c : Value) ∧ f 23 = (.slice y37A y37n y37c : Value) ∧ f 24 = (.slice y40_0A y40_0n y40_0c : Value) ∧ f 26 = (.int .i64 (IntKind.i64.wrap (Int.tdiv (IntKind.i64.wrap (((x48n : Nat) : Int) + 15)) 16)) : Value) ∧ f 27 = (.int .i64 j58 : Value) ∧ f 28 = (.int .u8 j98 : Value) ∧ f 29 = (.int .i64 j99 : Value) ∧ f 268 = (.bool j102 : Value) ∧ D_treadlelaw3_DiskTorn.J12 R C60 C101 lostA lostn y37A y37n y40_0A y40_0n x48A x48n j58 j98 j99 j102 h103) ?_ ?_
                          · intro f h103 J
                            obtain ⟨j102, hk3, hk13, hk23, hk24, hk26, hk27, hk28, hk29, hk268, H⟩ := J
                            rw [← fr_self f [(3, .slice lostA lostn lostc), (13, .slice x48A x48n x48c), (23, .slice y37A y37n y37c), (24, .slice y40_0A y40_0n y40_0c), (26, .int .i64 (IntKind.i64.wrap (Int.tdiv (IntKind.i64.wrap (((x48n : Nat) : Int) + 15)) 16))), (27, .int .i64 j58), (28, .int .u8 j98), (29, .int .i64 j99), (268, .bool j102)] (by simp only [List.mem_cons, List.not_mem_nil, or_false]; rintro p (rfl | rfl | rfl | rfl | rfl | rfl | rfl | rfl | rfl) <;> assumption)]
                            unfold D_treadlelaw3_DiskTorn.J12 at H
                            refine VC.cond (t := j102) rfl (fun e104 => ?_) (fun e104 => ?_)
                            · have H := H.1 e104
                              refine VC.skip ?_
                              change VC _ _ _ _ _ _ _
                              refine VC.seqJ (fun f h106 => ∃ j105 : Int, f 3 = (.slice lostA lostn lostc : Value) ∧ f 13 = (.slice x48A x48n x48c : Value) ∧ f 23 = (.slice y37A y37n y37c : Value) ∧ f 24 = (.slice y40_0A y40_0n y40_0c : Value) ∧ f 26 = (.int .i64 (IntKind.i64.wrap (Int.tdiv (IntKind.i64.wrap (((x48n : Nat) : Int) + 15)) 16)) : Value) ∧ f 27 = (.int .i64 j58 : Value) ∧ f 28 = (.int .u8 j105 : Value) ∧ f 29 = (.int .i64 j99 : Value) ∧ D_treadlelaw3_DiskTorn.J13 R C101 j99 j105 h106) ?_ ?_
                              · intro f h106 J
                                obtain ⟨j105, hk3, hk13, hk23, hk24, hk26, hk27, hk28, hk29, H⟩ := J
                                rw [← fr_self f [(3, .slice lostA lostn lostc), (13, .slice x48A x48n x48c), (23, .slice y37A y37n y37c), (24, .slice y40_0A y40_0n y40_0c), (26, .int .i64 (IntKind.i64.wrap (Int.tdiv (IntKind.i64.wrap (((x48n : Nat) : Int) + 15)) 16))), (27, .int .i64 j58), (28, .int .u8 j105), (29, .int .i64 j99)] (by simp only [List.mem_cons, List.not_mem_nil, or_false]; rintro p (rfl | rfl | rfl | rfl | rfl | rfl | rfl | rfl) <;> assumption)]
                                unfold D_treadlelaw3_DiskTorn.J13 at H
                                refine VC.region ?_
                                refine VL.stepD rfl rfl (by decide) (OE.moveV (v := .int .i64 j99) rfl ?_)
                                refine VL.stepD rfl rfl (by decide) (OE.binI (v := .int .i64 (IntKind.i64.wrap (j99 + 1))) rfl rfl rfl ?_)
                                refine VL.stepD rfl rfl (by decide) (OE.assignV (v := .int .i64 (IntKind.i64.wrap (j99 + 1))) rfl ?_)
                                refine VL.nil ?_
                                rw [eC101] at H
                                obtain ⟨m1, hm1, H⟩ := H
                                exact ⟨m1, hm1, rfl, j105, (IntKind.i64.wrap (j99 + 1)), rfl, rfl, rfl, rfl, rfl, rfl, rfl, rfl, H⟩
                              · skip
                                refine VC.block ?_
                                refine VC.seq ?_
                                refine VC.region ?_
                                refine VL.stepD rfl rfl (by decide) (OE.moveV (v := .slice lostA lostn lostc) rfl ?_)
                                refine VL.stepD rfl rfl (by decide) (OE.moveV (v := .int .i64 j99) rfl ?_)
                                obtain ⟨a107, e108, z109, z110, H⟩ := H
                                refine VL.stepD rfl rfl (by decide) (OE.indexAddrI (sz := 1) rfl rfl Tryz.underlying44 Tryz.i3 e108 z109 z110 ?_)
                                obtain ⟨x111, hl112, H⟩ := H
                                refine VL.stepD rfl rfl (by decide) (OE.load (a := (a107.add (Int.toNat j99 * 1))) (v := .int .i64 x111) rfl (LdT.one Tryz.underlying3 rfl hl112) ?_)
                                refine VL.stepD rfl rfl (by decide) (OE.moveV (v := .int .i64 (IntKind.i64.wrap (Int.tdiv (IntKind.i64.wrap (((x48n : Nat) : Int) + 15)) 16))) rfl ?_)
                                refine VL.stepD rfl rfl (by decide) (OE.callL (args := [.int .i64 x111, .int .i64 (IntKind.i64.wrap (Int.tdiv (IntKind.i64.wrap (((x48n : Nat) : Int) + 15)) 16))]) Tryz.func15 rfl Tryz.nn15 rfl rfl (CHE.mono H (fun r113 h114 H => ?_) (fun _ _ e => e.elim)))
                                obtain ⟨y115, rfl, H⟩ := H
                                refine VL.stepD rfl rfl (by decide) (OE.moveV (v := .int .i64 j58) rfl ?_)
                                refine VL.stepD rfl rfl (by decide) (OE.binI (v := .int .i64 (IntKind.i64.wrap (Int.tdiv j58 16))) rfl rfl rfl ?_)
                                refine VL.stepD rfl rfl (by decide) (OE.binI (v := .bool (y115 == (IntKind.i64.wrap (Int.tdiv j58 16)))) rfl rfl rfl ?_)
                                refine VL.nil ?_
                                change VC _ _ _ _ _ _ _
                                refine VC.cond (t := (y115 == (IntKind.i64.wrap (Int.tdiv j58 16)))) rfl (fun e116 => ?_) (fun e116 => ?_)
                                · have H := H.1 e116
                                  refine VC.region ?_
                                  refine VL.stepD rfl rfl (by decide) (OE.assignV (v := .int .u8 0) rfl ?_)
                                  refine VL.nil ?_
                                  exact ⟨rfl, 0, rfl, rfl, rfl, rfl, rfl, rfl, rfl, rfl, H⟩
                                · have H := H.2 e116
                                  refine VC.skip ?_
                                  exact ⟨rfl, j98, rfl, rfl, rfl, rfl, rfl, rfl, rfl, rfl, H⟩
                            · have H := H.2 e104
                              refine VC.exit ?_
                              exact ⟨rfl, j98, rfl, rfl, rfl, rfl, rfl, rfl, rfl, H⟩
                          · skip
                            refine VC.region ?_
                            refine VL.stepD rfl rfl (by decide) (OE.moveV (v := .int .i64 j99) rfl ?_)
                            refine VL.stepD rfl rfl (by decide) (OE.moveV (v := .slice lostA lostn lostc) rfl ?_)
                            refine VL.stepD rfl rfl (by decide) (OE.lenSlice rfl Tryz.underlying44 ?_)
                            refine VL.stepD rfl rfl (by decide) (OE.binI (v := .bool (decide (j99 < ((lostn : Nat) : Int)))) rfl rfl rfl ?_)
                            refine VL.stepD rfl rfl (by decide) (OE.moveV (v := .bool (decide (j99 < ((lostn : Nat) : Int)))) rfl ?_)
                            refine boolSplit ((decide (j99 < ((lostn : Nat) : Int)))) (fun e118 => ?_) (fun e118 => ?_)
                            · have H := H.1 e118
                              refine VL.gstepD rfl rfl (by decide) (congrArg Value.bool e118) rfl (by decide) (OE.moveV (v := .slice x48A x48n x48c) rfl ?_)
                              refine VL.gstepD rfl rfl (by decide) (congrArg Value.bool e118) rfl (by decide) (OE.moveV (v := .int .i64 j58) rfl ?_)
                              obtain ⟨a119, e120, z121, z122, H⟩ := H
                              refine VL.gstepD rfl rfl (by decide) (congrArg Value.bool e118) rfl (by decide) (OE.indexAddrI (sz := 2) rfl rfl Tryz.underlying53 Tryz.i55 e120 z121 z122 ?_)
                              refine VL.gstepD rfl rfl (by decide) (congrArg Value.bool e118) rfl (by decide) (OE.fieldAddrI (a := (a119.add (Int.toNat j58 * 2))) (o := 1) rfl Tryz.underlying55 rfl Tryz.i4 (by decide) rfl ?_)
                              obtain ⟨x123, hl124, H⟩ := H
                              refine VL.gstepD rfl rfl (by decide) (congrArg Value.bool e118) rfl (by decide) (OE.load (a := ((a119.add (Int.toNat j58 * 2)).add 1)) (v := .bool x123) rfl (LdT.one Tryz.underlying4 rfl hl124) ?_)
                              refine VL.stepD rfl rfl (by decide) (OE.pickV (t := true) (v := .bool x123) (congrArg Value.bool e118) rfl ?_)
                              refine VL.nil ?_
                              exact ⟨rfl, x123, rfl, rfl, rfl, rfl, rfl, rfl, rfl, rfl, rfl, H⟩
                            · have H := H.2 e118
                              refine VL.gskipD rfl rfl (by decide) (.inl (congrArg Value.bool e118)) rfl (by decide) ?_
                              refine VL.gskipD rfl rfl (by decide) (.inl (congrArg Value.bool e118)) rfl (by decide) ?_
                              refine VL.gskipD rfl rfl (by decide) (.inl (congrArg Value.bool e118)) rfl (by decide) ?_
                              refine VL.gskipD rfl rfl (by decide) (.inl (congrArg Value.bool e118)) rfl (by decide) ?_
                              refine VL.gskipD rfl rfl (by decide) (.inl (congrArg Value.bool e118)) rfl (by decide) ?_
                              refine VL.stepD rfl rfl (by decide) (OE.pickV (t := false) (v := .bool false) (congrArg Value.bool e118) rfl ?_)
                              refine VL.nil ?_
                              exact ⟨rfl, false, rfl, rfl, rfl, rfl, rfl, rfl, rfl, rfl, rfl, H⟩
                      · have H := H.2 e61
                        refine VC.exit ?_
                        exact ⟨rfl, H⟩
                · skip
                  refine VC.region ?_
                  refine VL.stepD rfl rfl (by decide) (OE.moveV (v := .slice y32_1A y32_1n y32_1c) rfl ?_)
                  refine VL.stepD rfl rfl (by decide) (OE.lenSlice rfl Tryz.underlying44 ?_)
                  refine VL.stepD rfl rfl (by decide) (OE.binI (v := .bool (((y32_1n : Nat) : Int) != 1)) rfl rfl rfl ?_)
                  refine VL.stepD rfl rfl (by decide) (OE.moveV (v := .bool (((y32_1n : Nat) : Int) != 1)) rfl ?_)
                  refine boolSplit ((((y32_1n : Nat) : Int) != 1)) (fun e125 => ?_) (fun e125 => ?_)
                  · have H := H.1 e125
                    refine VL.gskipD rfl rfl (by decide) (.inl (congrArg Value.bool e125)) rfl (by decide) ?_
                    refine VL.gskipD rfl rfl (by decide) (.inl (congrArg Value.bool e125)) rfl (by decide) ?_
                    refine VL.gskipD rfl rfl (by decide) (.inl (congrArg Value.bool e125)) rfl (by decide) ?_
                    refine VL.gskipD rfl rfl (by decide) (.inl (congrArg Value.bool e125)) rfl (by decide) ?_
                    refine VL.gskipD rfl rfl (by decide) (.inl (congrArg Value.bool e125)) rfl (by decide) ?_
                    refine VL.gskipD rfl rfl (by decide) (.inl (congrArg Value.bool e125)) rfl (by decide) ?_
                    refine VL.gskipD rfl rfl (by decide) (.inl (congrArg Value.bool e125)) rfl (by decide) ?_
                    refine VL.stepD rfl rfl (by decide) (OE.pickV (t := true) (v := .bool true) (congrArg Value.bool e125) rfl ?_)
                    refine VL.stepD rfl rfl (by decide) (OE.moveV (v := .bool true) rfl ?_)
                    refine VL.gskipD rfl rfl (by decide) (.inl rfl) rfl (by decide) ?_
                    refine VL.gskipD rfl rfl (by decide) (.inl rfl) rfl (by decide) ?_
                    refine VL.stepD rfl rfl (by decide) (OE.pickV (t := true) (v := .bool true) rfl rfl ?_)
                    refine VL.stepD rfl rfl (by decide) (OE.moveV (v := .bool true) rfl ?_)
                    refine VL.gskipD rfl rfl (by decide) (.inl rfl) rfl (by decide) ?_
                    refine VL.gskipD rfl rfl (by decide) (.inl rfl) rfl (by decide) ?_
                    refine VL.gskipD rfl rfl (by decide) (.inl rfl) rfl (by decide) ?_
                    refine VL.stepD rfl rfl (by decide) (OE.pickV (t := true) (v := .bool true) rfl rfl ?_)
                    refine VL.stepD rfl rfl (by decide) (OE.moveV (v := .bool true) rfl ?_)
                    refine VL.gskipD rfl rfl (by decide) (.inl rfl) rfl (by decide) ?_
                    refine VL.gskipD rfl rfl (by decide) (.inl rfl) rfl (by decide) ?_
                    refine VL.gskipD rfl rfl (by decide) (.inl rfl) rfl (by decide) ?_
                    refine VL.gskipD rfl rfl (by decide) (.inl rfl) rfl (by decide) ?_
                    refine VL.gskipD rfl rfl (by decide) (.inl rfl) rfl (by decide) ?_
                    refine VL.gskipD rfl rfl (by decide) (.inl rfl) rfl (by decide) ?_
                    refine VL.gskipD rfl rfl (by decide) (.inl rfl) rfl (by decide) ?_
                    refine VL.gskipD rfl rfl (by decide) (.inl rfl) rfl (by decide) ?_
                    refine VL.stepD rfl rfl (by decide) (OE.pickV (t := true) (v := .bool true) rfl rfl ?_)
                    refine VL.stepD rfl rfl (by decide) (OE.moveV (v := .bool true) rfl ?_)
                    refine VL.gskipD rfl rfl (by decide) (.inl rfl) rfl (by decide) ?_
                    refine VL.gskipD rfl rfl (by decide) (.inl rfl) rfl (by decide) ?_
                    refine VL.gskipD rfl rfl (by decide) (.inl rfl) rfl (by decide) ?_
                    refine VL.gskipD rfl rfl (by decide) (.inl rfl) rfl (by decide) ?_
                    refine VL.gskipD rfl rfl (by decide) (.inl rfl) rfl (by decide) ?_
                    refine VL.stepD rfl rfl (by decide) (OE.pickV (t := true) (v := .bool true) rfl rfl ?_)
                    refine VL.nil ?_
                    exact ⟨rfl, true, rfl, rfl, rfl, rfl, rfl, H⟩
                  · have H := H.2 e125
                    refine VL.gstepD rfl rfl (by decide) (congrArg Value.bool e125) rfl (by decide) (OE.moveV (v := .slice y32_1A y32_1n y32_1c) rfl ?_)
                    obtain ⟨a126, e127, z128, z129, H⟩ := H
                    refine VL.gstepD rfl rfl (by decide) (congrArg Value.bool e125) rfl (by decide) (OE.indexAddrI (sz := 1) rfl rfl Tryz.underlying44 Tryz.i3 e127 z128 z129 ?_)
                    obtain ⟨x130, hl131, H⟩ := H
                    refine VL.gstepD rfl rfl (by decide) (congrArg Value.bool e125) rfl (by decide) (OE.load (a := (a126.add (Int.toNat 0 * 1))) (v := .int .i64 x130) rfl (LdT.one Tryz.underlying3 rfl hl131) ?_)
                    refine VL.gstepD rfl rfl (by decide) (congrArg Value.bool e125) rfl (by decide) (OE.moveV (v := .slice j28A j28n j28c) rfl ?_)
                    refine VL.gstepD rfl rfl (by decide) (congrArg Value.bool e125) rfl (by decide) (OE.lenSlice rfl Tryz.underlying52 ?_)
                    refine VL.gstepD rfl rfl (by decide) (congrArg Value.bool e125) rfl (by decide) (OE.binI (v := .int .i64 (IntKind.i64.wrap (((j28n : Nat) : Int) - 1))) rfl rfl rfl ?_)
                    refine VL.gstepD rfl rfl (by decide) (congrArg Value.bool e125) rfl (by decide) (OE.binI (v := .bool (x130 != (IntKind.i64.wrap (((j28n : Nat) : Int) - 1)))) rfl rfl rfl ?_)
                    refine VL.stepD rfl rfl (by decide) (OE.pickV (t := false) (v := .bool (x130 != (IntKind.i64.wrap (((j28n : Nat) : Int) - 1)))) (congrArg Value.bool e125) rfl ?_)
                    refine VL.stepD rfl rfl (by decide) (OE.moveV (v := .bool (x130 != (IntKind.i64.wrap (((j28n : Nat) : Int) - 1)))) rfl ?_)
                    refine boolSplit ((x130 != (IntKind.i64.wrap (((j28n : Nat) : Int) - 1)))) (fun e132 => ?_) (fun e132 => ?_)
                    · have H := H.1 e132
                      refine VL.gskipD rfl rfl (by decide) (.inl (congrArg Value.bool e132)) rfl (by decide) ?_
                      refine VL.gskipD rfl rfl (by decide) (.inl (congrArg Value.bool e132)) rfl (by decide) ?_
                      refine VL.stepD rfl rfl (by decide) (OE.pickV (t := true) (v := .bool true) (congrArg Value.bool e132) rfl ?_)
                      refine VL.stepD rfl rfl (by decide) (OE.moveV (v := .bool true) rfl ?_)
                      refine VL.gskipD rfl rfl (by decide) (.inl rfl) rfl (by decide) ?_
                      refine VL.gskipD rfl rfl (by decide) (.inl rfl) rfl (by decide) ?_
                      refine VL.gskipD rfl rfl (by decide) (.inl rfl) rfl (by decide) ?_
                      refine VL.stepD rfl rfl (by decide) (OE.pickV (t := true) (v := .bool true) rfl rfl ?_)
                      refine VL.stepD rfl rfl (by decide) (OE.moveV (v := .bool true) rfl ?_)
                      refine VL.gskipD rfl rfl (by decide) (.inl rfl) rfl (by decide) ?_
                      refine VL.gskipD rfl rfl (by decide) (.inl rfl) rfl (by decide) ?_
                      refine VL.gskipD rfl rfl (by decide) (.inl rfl) rfl (by decide) ?_
                      refine VL.gskipD rfl rfl (by decide) (.inl rfl) rfl (by decide) ?_
                      refine VL.gskipD rfl rfl (by decide) (.inl rfl) rfl (by decide) ?_
                      refine VL.gskipD rfl rfl (by decide) (.inl rfl) rfl (by decide) ?_
                      refine VL.gskipD rfl rfl (by decide) (.inl rfl) rfl (by decide) ?_
                      refine VL.gskipD rfl rfl (by decide) (.inl rfl) rfl (by decide) ?_
                      refine VL.stepD rfl rfl (by decide) (OE.pickV (t := true) (v := .bool true) rfl rfl ?_)
                      refine VL.stepD rfl rfl (by decide) (OE.moveV (v := .bool true) rfl ?_)
                      refine VL.gskipD rfl rfl (by decide) (.inl rfl) rfl (by decide) ?_
                      refine VL.gskipD rfl rfl (by decide) (.inl rfl) rfl (by decide) ?_
                      refine VL.gskipD rfl rfl (by decide) (.inl rfl) rfl (by decide) ?_
                      refine VL.gskipD rfl rfl (by decide) (.inl rfl) rfl (by decide) ?_
                      refine VL.gskipD rfl rfl (by decide) (.inl rfl) rfl (by decide) ?_
                      refine VL.stepD rfl rfl (by decide) (OE.pickV (t := true) (v := .bool true) rfl rfl ?_)
                      refine VL.nil ?_
                      exact ⟨rfl, true, rfl, rfl, rfl, rfl, rfl, H⟩
                    · have H := H.2 e132
                      refine VL.gstepD rfl rfl (by decide) (congrArg Value.bool e132) rfl (by decide) (OE.moveV (v := .int .i64 y40_1) rfl ?_)
                      refine VL.gstepD rfl rfl (by decide) (congrArg Value.bool e132) rfl (by decide) (OE.binI (v := .bool (y40_1 != 0)) rfl rfl rfl ?_)
                      refine VL.stepD rfl rfl (by decide) (OE.pickV (t := false) (v := .bool (y40_1 != 0)) (congrArg Value.bool e132) rfl ?_)
                      refine VL.stepD rfl rfl (by decide) (OE.moveV (v := .bool (y40_1 != 0)) rfl ?_)
                      refine boolSplit ((y40_1 != 0)) (fun e133 => ?_) (fun e133 => ?_)
                      · have H := H.1 e133
                        refine VL.gskipD rfl rfl (by decide) (.inl (congrArg Value.bool e133)) rfl (by decide) ?_
                        refine VL.gskipD rfl rfl (by decide) (.inl (congrArg Value.bool e133)) rfl (by decide) ?_
                        refine VL.gskipD rfl rfl (by decide) (.inl (congrArg Value.bool e133)) rfl (by decide) ?_
                        refine VL.stepD rfl rfl (by decide) (OE.pickV (t := true) (v := .bool true) (congrArg Value.bool e133) rfl ?_)
                        refine VL.stepD rfl rfl (by decide) (OE.moveV (v := .bool true) rfl ?_)
                        refine VL.gskipD rfl rfl (by decide) (.inl rfl) rfl (by decide) ?_
                        refine VL.gskipD rfl rfl (by decide) (.inl rfl) rfl (by decide) ?_
                        refine VL.gskipD rfl rfl (by decide) (.inl rfl) rfl (by decide) ?_
                        refine VL.gskipD rfl rfl (by decide) (.inl rfl) rfl (by decide) ?_
                        refine VL.gskipD rfl rfl (by decide) (.inl rfl) rfl (by decide) ?_
                        refine VL.gskipD rfl rfl (by decide) (.inl rfl) rfl (by decide) ?_
                        refine VL.gskipD rfl rfl (by decide) (.inl rfl) rfl (by decide) ?_
                        refine VL.gskipD rfl rfl (by decide) (.inl rfl) rfl (by decide) ?_
                        refine VL.stepD rfl rfl (by decide) (OE.pickV (t := true) (v := .bool true) rfl rfl ?_)
                        refine VL.stepD rfl rfl (by decide) (OE.moveV (v := .bool true) rfl ?_)
                        refine VL.gskipD rfl rfl (by decide) (.inl rfl) rfl (by decide) ?_
                        refine VL.gskipD rfl rfl (by decide) (.inl rfl) rfl (by decide) ?_
                        refine VL.gskipD rfl rfl (by decide) (.inl rfl) rfl (by decide) ?_
                        refine VL.gskipD rfl rfl (by decide) (.inl rfl) rfl (by decide) ?_
                        refine VL.gskipD rfl rfl (by decide) (.inl rfl) rfl (by decide) ?_
                        refine VL.stepD rfl rfl (by decide) (OE.pickV (t := true) (v := .bool true) rfl rfl ?_)
                        refine VL.nil ?_
                        exact ⟨rfl, true, rfl, rfl, rfl, rfl, rfl, H⟩
                      · have H := H.2 e133
                        refine VL.gstepD rfl rfl (by decide) (congrArg Value.bool e133) rfl (by decide) (OE.moveV (v := .slice y37A y37n y37c) rfl ?_)
                        refine VL.gstepD rfl rfl (by decide) (congrArg Value.bool e133) rfl (by decide) (OE.lenSlice rfl Tryz.underlying42 ?_)
                        refine VL.gstepD rfl rfl (by decide) (congrArg Value.bool e133) rfl (by decide) (OE.binI (v := .bool (((y37n : Nat) : Int) != 1)) rfl rfl rfl ?_)
                        refine VL.stepD rfl rfl (by decide) (OE.pickV (t := false) (v := .bool (((y37n : Nat) : Int) != 1)) (congrArg Value.bool e133) rfl ?_)
                        refine VL.stepD rfl rfl (by decide) (OE.moveV (v := .bool (((y37n : Nat) : Int) != 1)) rfl ?_)
                        refine boolSplit ((((y37n : Nat) : Int) != 1)) (fun e134 => ?_) (fun e134 => ?_)
                        · have H := H.1 e134
                          refine VL.gskipD rfl rfl (by decide) (.inl (congrArg Value.bool e134)) rfl (by decide) ?_
                          refine VL.gskipD rfl rfl (by decide) (.inl (congrArg Value.bool e134)) rfl (by decide) ?_
                          refine VL.gskipD rfl rfl (by decide) (.inl (congrArg Value.bool e134)) rfl (by decide) ?_
                          refine VL.gskipD rfl rfl (by decide) (.inl (congrArg Value.bool e134)) rfl (by decide) ?_
                          refine VL.gskipD rfl rfl (by decide) (.inl (congrArg Value.bool e134)) rfl (by decide) ?_
                          refine VL.gskipD rfl rfl (by decide) (.inl (congrArg Value.bool e134)) rfl (by decide) ?_
                          refine VL.gskipD rfl rfl (by decide) (.inl (congrArg Value.bool e134)) rfl (by decide) ?_
                          refine VL.gskipD rfl rfl (by decide) (.inl (congrArg Value.bool e134)) rfl (by decide) ?_
                          refine VL.stepD rfl rfl (by decide) (OE.pickV (t := true) (v := .bool true) (congrArg Value.bool e134) rfl ?_)
                          refine VL.stepD rfl rfl (by decide) (OE.moveV (v := .bool true) rfl ?_)
                          refine VL.gskipD rfl rfl (by decide) (.inl rfl) rfl (by decide) ?_
                          refine VL.gskipD rfl rfl (by decide) (.inl rfl) rfl (by decide) ?_
                          refine VL.gskipD rfl rfl (by decide) (.inl rfl) rfl (by decide) ?_
                          refine VL.gskipD rfl rfl (by decide) (.inl rfl) rfl (by decide) ?_
                          refine VL.gskipD rfl rfl (by decide) (.inl rfl) rfl (by decide) ?_
                          refine VL.stepD rfl rfl (by decide) (OE.pickV (t := true) (v := .bool true) rfl rfl ?_)
                          refine VL.nil ?_
                          exact ⟨rfl, true, rfl, rfl, rfl, rfl, rfl, H⟩
                        · have H := H.2 e134
                          refine VL.gstepD rfl rfl (by decide) (congrArg Value.bool e134) rfl (by decide) (OE.moveV (v := .slice y37A y37n y37c) rfl ?_)
                          obtain ⟨a135, e136, z137, z138, H⟩ := H
                          refine VL.gstepD rfl rfl (by decide) (congrArg Value.bool e134) rfl (by decide) (OE.indexAddrI (sz := 2) rfl rfl Tryz.underlying42 Tryz.i61 e136 z137 z138 ?_)
                          refine VL.gstepD rfl rfl (by decide) (congrArg Value.bool e134) rfl (by decide) (OE.fieldAddrI (a := (a135.add (Int.toNat 0 * 2))) (o := 1) rfl Tryz.underlying61 rfl Tryz.i22 (by decide) rfl ?_)
                          obtain ⟨x139A, x139n, x139c, hl140, H⟩ := H
                          refine VL.gstepD rfl rfl (by decide) (congrArg Value.bool e134) rfl (by decide) (OE.load (a := ((a135.add (Int.toNat 0 * 2)).add 1)) (v := .slice x139A x139n x139c) rfl (LdT.one Tryz.underlying22 rfl hl140) ?_)
                          refine VL.gstepD rfl rfl (by decide) (congrArg Value.bool e134) rfl (by decide) (OE.lenSlice rfl Tryz.underlying22 ?_)
                          refine VL.gstepD rfl rfl (by decide) (congrArg Value.bool e134) rfl (by decide) (OE.moveV (v := .slice x48A x48n x48c) rfl ?_)
                          refine VL.gstepD rfl rfl (by decide) (congrArg Value.bool e134) rfl (by decide) (OE.lenSlice rfl Tryz.underlying53 ?_)
                          refine VL.gstepD rfl rfl (by decide) (congrArg Value.bool e134) rfl (by decide) (OE.binI (v := .bool (((x139n : Nat) : Int) != ((x48n : Nat) : Int))) rfl rfl rfl ?_)
                          refine VL.stepD rfl rfl (by decide) (OE.pickV (t := false) (v := .bool (((x139n : Nat) : Int) != ((x48n : Nat) : Int))) (congrArg Value.bool e134) rfl ?_)
                          refine VL.stepD rfl rfl (by decide) (OE.moveV (v := .bool (((x139n : Nat) : Int) != ((x48n : Nat) : Int))) rfl ?_)
                          refine boolSplit ((((x139n : Nat) : Int) != ((x48n : Nat) : Int))) (fun e141 => ?_) (fun e141 => ?_)
                          · have H := H.1 e141
                            refine VL.gskipD rfl rfl (by decide) (.inl (congrArg Value.bool e141)) rfl (by decide) ?_
                            refine VL.gskipD rfl rfl (by decide) (.inl (congrArg Value.bool e141)) rfl (by decide) ?_
                            refine VL.gskipD rfl rfl (by decide) (.inl (congrArg Value.bool e141)) rfl (by decide) ?_
                            refine VL.gskipD rfl rfl (by decide) (.inl (congrArg Value.bool e141)) rfl (by decide) ?_
                            refine VL.gskipD rfl rfl (by decide) (.inl (congrArg Value.bool e141)) rfl (by decide) ?_
                            refine VL.stepD rfl rfl (by decide) (OE.pickV (t := true) (v := .bool true) (congrArg Value.bool e141) rfl ?_)
                            refine VL.nil ?_
                            exact ⟨rfl, true, rfl, rfl, rfl, rfl, rfl, H⟩
                          · have H := H.2 e141
                            refine VL.gstepD rfl rfl (by decide) (congrArg Value.bool e141) rfl (by decide) (OE.moveV (v := .slice y40_0A y40_0n y40_0c) rfl ?_)
                            refine VL.gstepD rfl rfl (by decide) (congrArg Value.bool e141) rfl (by decide) (OE.lenSlice rfl Tryz.underlying22 ?_)
                            refine VL.gstepD rfl rfl (by decide) (congrArg Value.bool e141) rfl (by decide) (OE.moveV (v := .slice x48A x48n x48c) rfl ?_)
                            refine VL.gstepD rfl rfl (by decide) (congrArg Value.bool e141) rfl (by decide) (OE.lenSlice rfl Tryz.underlying53 ?_)
                            refine VL.gstepD rfl rfl (by decide) (congrArg Value.bool e141) rfl (by decide) (OE.binI (v := .bool (((y40_0n : Nat) : Int) != ((x48n : Nat) : Int))) rfl rfl rfl ?_)
                            refine VL.stepD rfl rfl (by decide) (OE.pickV (t := false) (v := .bool (((y40_0n : Nat) : Int) != ((x48n : Nat) : Int))) (congrArg Value.bool e141) rfl ?_)
                            refine VL.nil ?_
                            exact ⟨rfl, (((y40_0n : Nat) : Int) != ((x48n : Nat) : Int)), rfl, rfl, rfl, rfl, rfl, H⟩
              · skip
                refine VC.seq ?_
                refine VC.region ?_
                refine VL.stepD rfl rfl (by decide) (OE.assignV (v := .int .i64 0) rfl ?_)
                refine VL.nil ?_
                change VC _ _ _ _ _ _ _
                refine VC.block ?_
                obtain ⟨Inv, ⟨m0, h0⟩, H⟩ := H
                refine VC.loop (fun ds f h150 m => ds = [] ∧ ∃ j148A : Option Addr, ∃ j148n : Nat, ∃ j148c : Nat, ∃ j149 : Int, f 1 = (.slice changesA changesn changesc : Value) ∧ f 2 = (.int .i64 done : Value) ∧ f 3 = (.slice lostA lostn lostc : Value) ∧ f 11 = (.pointer y11 : Value) ∧ f 12 = (.slice j148A j148n j148c : Value) ∧ f 15 = (.int .i64 j149 : Value) ∧ Inv j148A j148n j148c j149 h150 m) (m0 := m0) ⟨rfl, A24, n25, c26, 0, rfl, rfl, rfl, rfl, rfl, rfl, h0⟩ ?_
                intro ds f h150 m I
                obtain ⟨rfl, j148A, j148n, j148c, j149, hk1, hk2, hk3, hk11, hk12, hk15, I⟩ := I
                rw [← fr_self f [(1, .slice changesA changesn changesc), (2, .int .i64 done), (3, .slice lostA lostn lostc), (11, .pointer y11), (12, .slice j148A j148n j148c), (15, .int .i64 j149)] (by simp only [List.mem_cons, List.not_mem_nil, or_false]; rintro p (rfl | rfl | rfl | rfl | rfl | rfl) <;> assumption)]
                obtain ⟨C151, eC151⟩ : ∃ C151 : Option Addr → Nat → Nat → Int → Hp → Prop, C151 = (fun j148A j148n j148c j149 h150 => ∃ m1, m1 < m ∧ Inv j148A j148n j148c j149 h150 m1) := ⟨_, rfl⟩
                have H : D_treadlelaw3_DiskTorn.L14 R  changesA changesn done lostA lostn lostc y11 C151 j148A j148n j148c j149 h150 := by rw [eC151]; exact H j148A j148n j148c j149 h150 m I
                unfold D_treadlelaw3_DiskTorn.L14 at H
                refine VC.seq ?_
                refine VC.seq ?_
                refine VC.region ?_
                refine VL.stepD rfl rfl (by decide) (OE.moveV (v := .int .i64 j149) rfl ?_)
                refine VL.stepD rfl rfl (by decide) (OE.moveV (v := .slice changesA changesn changesc) rfl ?_)
                refine VL.stepD rfl rfl (by decide) (OE.lenSlice rfl Tryz.underlying49 ?_)
                refine VL.stepD rfl rfl (by decide) (OE.binI (v := .bool (decide (j149 < ((changesn : Nat) : Int)))) rfl rfl rfl ?_)
                refine VL.nil ?_
                change VC _ _ _ _ _ _ _
                refine VC.cond (t := (decide (j149 < ((changesn : Nat) : Int)))) rfl (fun e152 => ?_) (fun e152 => ?_)
                · have H := H.1 e152
                  refine VC.skip ?_
                  change VC _ _ _ _ _ _ _
                  refine VC.seqJ (fun f h154 => ∃ j153A : Option Addr, ∃ j153n : Nat, ∃ j153c : Nat, f 1 = (.slice changesA changesn changesc : Value) ∧ f 2 = (.int .i64 done : Value) ∧ f 3 = (.slice lostA lostn lostc : Value) ∧ f 11 = (.pointer y11 : Value) ∧ f 12 = (.slice j153A j153n j153c : Value) ∧ f 15 = (.int .i64 j149 : Value) ∧ D_treadlelaw3_DiskTorn.J15 R C151 j149 j153A j153n j153c h154) ?_ ?_
                  · intro f h154 J
                    obtain ⟨j153A, j153n, j153c, hk1, hk2, hk3, hk11, hk12, hk15, H⟩ := J
                    rw [← fr_self f [(1, .slice changesA changesn changesc), (2, .int .i64 done), (3, .slice lostA lostn lostc), (11, .pointer y11), (12, .slice j153A j153n j153c), (15, .int .i64 j149)] (by simp only [List.mem_cons, List.not_mem_nil, or_false]; rintro p (rfl | rfl | rfl | rfl | rfl | rfl) <;> assumption)]
                    unfold D_treadlelaw3_DiskTorn.J15 at H
                    refine VC.region ?_
                    refine VL.stepD rfl rfl (by decide) (OE.moveV (v := .int .i64 j149) rfl ?_)
                    refine VL.stepD rfl rfl (by decide) (OE.binI (v := .int .i64 (IntKind.i64.wrap (j149 + 1))) rfl rfl rfl ?_)
                    refine VL.stepD rfl rfl (by decide) (OE.assignV (v := .int .i64 (IntKind.i64.wrap (j149 + 1))) rfl ?_)
                    refine VL.nil ?_
                    rw [eC151] at H
                    obtain ⟨m1, hm1, H⟩ := H
                    exact ⟨m1, hm1, rfl, j153A, j153n, j153c, (IntKind.i64.wrap (j149 + 1)), rfl, rfl, rfl, rfl, rfl, rfl, H⟩
                  · skip
                    refine VC.block ?_
                    refine VC.seq ?_
                    refine VC.region ?_
                    refine VL.stepD rfl rfl (by decide) (OE.moveV (v := .slice changesA changesn changesc) rfl ?_)
                    refine VL.stepD rfl rfl (by decide) (OE.moveV (v := .int .i64 j149) rfl ?_)
                    obtain ⟨a155, e156, z157, z158, H⟩ := H
                    refine VL.stepD rfl rfl (by decide) (OE.indexAddrI (sz := 3) rfl rfl Tryz.underlying49 Tryz.i51 e156 z157 z158 ?_)
                    obtain ⟨x159_0, x159_1, x159_2A, x159_2n, x159_2c, hl160, H⟩ := H
                    refine VL.stepD rfl rfl (by decide) (OE.load (a := (a155.add (Int.toNat j149 * 3))) (v := .agg #[.bool x159_0, .int .i64 x159_1, .slice x159_2A x159_2n x159_2c]) rfl (LdT.aggI Tryz.underlying51 rfl Tryz.i51 rfl hl160) ?_)
                    obtain ⟨b162, eb260⟩ : ∃ b162, b162 = Array.size h150 := ⟨_, rfl⟩
                    obtain ⟨h161, eh261⟩ : ∃ h161, h161 = Array.push h150 (.cells #[.bool false, .int .i64 0, .slice none 0 0] 51) := ⟨_, rfl⟩
                    have H := H b162 h161 eb260 eh261
                    refine VL.stepD rfl rfl (by decide) (OE.allocE (z := .agg #[.bool false, .int .i64 0, .slice none 0 0]) Tryz.i51 eb260 eh261 ?_)
                    obtain ⟨hw164, H⟩ := H
                    obtain ⟨h163, eh259⟩ : ∃ h163, h163 = setRow h161 (Addr.mk b162 0 none) [.bool x159_0, .int .i64 x159_1, .slice x159_2A x159_2n x159_2c] 0 := ⟨_, rfl⟩
                    have H := H h163 eh259
                    refine VL.stepN rfl rfl (OE.storeE (a := (Addr.mk b162 0 none)) (v := .agg #[.bool x159_0, .int .i64 x159_1, .slice x159_2A x159_2n x159_2c]) rfl rfl (StT.aggI (vs := [.bool x159_0, .int .i64 x159_1, .slice x159_2A x159_2n x159_2c]) Tryz.i51 rfl hw164 (by simp [oneC])) eh259 ?_)
                    refine VL.nil ?_
                    change VC _ _ _ _ _ _ _
                    refine VC.seq ?_
                    refine VC.region ?_
                    refine VL.stepD rfl rfl (by decide) (OE.moveV (v := .slice j148A j148n j148c) rfl ?_)
                    refine VL.stepD rfl rfl (by decide) (OE.moveV (v := .slice j148A j148n j148c) rfl ?_)
                    refine VL.stepD rfl rfl (by decide) (OE.lenSlice rfl Tryz.underlying52 ?_)
                    refine VL.stepD rfl rfl (by decide) (OE.binI (v := .int .i64 (IntKind.i64.wrap (((j148n : Nat) : Int) - 1))) rfl rfl rfl ?_)
                    obtain ⟨a165, e166, z167, z168, H⟩ := H
                    refine VL.stepD rfl rfl (by decide) (OE.indexAddrI (sz := 1) rfl rfl Tryz.underlying52 Tryz.i53 e166 z167 z168 ?_)
                    obtain ⟨x169A, x169n, x169c, hl170, H⟩ := H
                    refine VL.stepD rfl rfl (by decide) (OE.load (a := (a165.add (Int.toNat (IntKind.i64.wrap (((j148n : Nat) : Int) - 1)) * 1))) (v := .slice x169A x169n x169c) rfl (LdT.one Tryz.underlying53 rfl hl170) ?_)
                    refine VL.stepD rfl rfl (by decide) (OE.assignV (v := .slice x169A x169n x169c) rfl ?_)
                    refine VL.nil ?_
                    change VC _ _ _ _ _ _ _
                    refine VC.seq ?_
                    refine VC.region ?_
                    refine VL.stepD rfl rfl (by decide) (OE.assignV (v := .slice none 0 0) rfl ?_)
                    refine VL.nil ?_
                    change VC _ _ _ _ _ _ _
                    refine VC.seqJ (fun f h172 => ∃ j171A : Option Addr, ∃ j171n : Nat, ∃ j171c : Nat, f 1 = (.slice changesA changesn changesc : Value) ∧ f 2 = (.int .i64 done : Value) ∧ f 3 = (.slice lostA lostn lostc : Value) ∧ f 11 = (.pointer y11 : Value) ∧ f 12 = (.slice j148A j148n j148c : Value) ∧ f 15 = (.int .i64 j149 : Value) ∧ f 18 = (.slice j171A j171n j171c : Value) ∧ D_treadlelaw3_DiskTorn.J16 R C151 j148A j148n j148c j149 j171A j171n j171c h172) ?_ ?_
                    · intro f h172 J
                      obtain ⟨j171A, j171n, j171c, hk1, hk2, hk3, hk11, hk12, hk15, hk18, H⟩ := J
                      rw [← fr_self f [(1, .slice changesA changesn changesc), (2, .int .i64 done), (3, .slice lostA lostn lostc), (11, .pointer y11), (12, .slice j148A j148n j148c), (15, .int .i64 j149), (18, .slice j171A j171n j171c)] (by simp only [List.mem_cons, List.not_mem_nil, or_false]; rintro p (rfl | rfl | rfl | rfl | rfl | rfl | rfl) <;> assumption)]
                      unfold D_treadlelaw3_DiskTorn.J16 at H
                      refine VC.region ?_
                      refine VL.stepD rfl rfl (by decide) (OE.moveV (v := .slice j148A j148n j148c) rfl ?_)
                      refine VL.stepD rfl rfl (by decide) (OE.moveV (v := .slice j171A j171n j171c) rfl ?_)
                      obtain ⟨b174, eb184⟩ : ∃ b174, b174 = Array.size h172 := ⟨_, rfl⟩
                      obtain ⟨h173, eh185⟩ : ∃ h173, h173 = Array.push h172 (.cells #[.slice j171A j171n j171c] 53) := ⟨_, rfl⟩
                      have H := H b174 h173 eb184 eh185
                      refine VL.stepD rfl rfl (by decide) (OE.buildSliceE (ps := [(0, (.slice j171A j171n j171c : Value))]) (cells := #[.slice j171A j171n j171c]) (e := 53) rfl (Tryz.bf36 _ _ _) eb184 eh185 ?_)
                      obtain ⟨vs175, z176, z177, z178, z179, H⟩ := H
                      refine VL.stepD rfl rfl (by decide) (OE.appendV (z := (.slice none 0 0 : Value)) (sz := 1) (bs := 24) rfl rfl Tryz.underlying52 Tryz.i53 z176 z177 z178 z179 (AppendV.mono H (fun A180 n181 c182 h183 H => ?_)))
                      refine VL.stepD rfl rfl (by decide) (OE.assignV (v := .slice A180 n181 c182) rfl ?_)
                      refine VL.nil ?_
                      exact ⟨rfl, A180, n181, c182, rfl, rfl, rfl, rfl, rfl, rfl, H⟩
                    · skip
                      refine VC.seq ?_
                      refine VC.region ?_
                      refine VL.stepD rfl rfl (by decide) (OE.fieldAddrI (a := (Addr.mk b162 0 none)) (o := 0) rfl Tryz.underlying51 rfl Tryz.i4 (by decide) rfl ?_)
                      obtain ⟨x186, hl187, H⟩ := H
                      refine VL.stepD rfl rfl (by decide) (OE.load (a := (Addr.mk b162 0 none)) (v := .bool x186) rfl (LdT.one Tryz.underlying4 rfl hl187) ?_)
                      refine VL.nil ?_
                      change VC _ _ _ _ _ _ _
                      refine VC.cond (t := x186) rfl (fun e188 => ?_) (fun e188 => ?_)
                      · have H := H.1 e188
                        refine VC.seq ?_
                        refine VC.region ?_
                        refine VL.stepD rfl rfl (by decide) (OE.fieldAddrI (a := (Addr.mk b162 0 none)) (o := 1) rfl Tryz.underlying51 rfl Tryz.i3 (by decide) rfl ?_)
                        obtain ⟨x189, hl190, H⟩ := H
                        refine VL.stepD rfl rfl (by decide) (OE.load (a := ((Addr.mk b162 0 none).add 1)) (v := .int .i64 x189) rfl (LdT.one Tryz.underlying3 rfl hl190) ?_)
                        refine VL.stepD rfl rfl (by decide) (OE.moveV (v := .slice x169A x169n x169c) rfl ?_)
                        refine VL.stepD rfl rfl (by decide) (OE.lenSlice rfl Tryz.underlying53 ?_)
                        refine VL.stepD rfl rfl (by decide) (OE.binI (v := .int .i64 (IntKind.i64.wrap (((x169n : Nat) : Int) + 1))) rfl rfl rfl ?_)
                        refine VL.stepD rfl rfl (by decide) (OE.callL (args := [.int .i64 x189, .int .i64 (IntKind.i64.wrap (((x169n : Nat) : Int) + 1))]) Tryz.func15 rfl Tryz.nn15 rfl rfl (CHE.mono H (fun r191 h192 H => ?_) (fun _ _ e => e.elim)))
                        obtain ⟨y193, rfl, H⟩ := H
                        refine VL.stepD rfl rfl (by decide) (OE.assignV (v := .int .i64 y193) rfl ?_)
                        refine VL.nil ?_
                        change VC _ _ _ _ _ _ _
                        refine VC.seq ?_
                        refine VC.seq ?_
                        refine VC.region ?_
                        refine VL.stepD rfl rfl (by decide) (OE.moveV (v := .pointer y11) rfl ?_)
                        refine VL.stepD rfl rfl (by decide) (OE.moveV (v := .int .i64 y193) rfl ?_)
                        refine VL.stepD rfl rfl (by decide) (OE.callL (args := [.pointer y11, .string (ByteArray.mk #[102]), .int .i64 y193]) Tryz.func17 rfl Tryz.nn17 rfl rfl (CHE.mono H (fun r194 h195 H => ?_) (fun _ _ e => e.elim)))
                        obtain ⟨y196, rfl, H⟩ := H
                        refine VL.stepD rfl rfl (by decide) (OE.binI (v := .bool (y196 != 0)) rfl rfl rfl ?_)
                        refine VL.nil ?_
                        change VC _ _ _ _ _ _ _
                        refine VC.cond (t := (y196 != 0)) rfl (fun e197 => ?_) (fun e197 => ?_)
                        · have H := H.1 e197
                          refine VC.seq ?_
                          refine VC.region ?_
                          refine VL.stepD rfl rfl (by decide) (OE.assignV (v := .bool false) rfl ?_)
                          refine VL.nil ?_
                          change VC _ _ _ _ _ _ _
                          refine VC.ret ?_
                          exact ⟨rfl, _, ResOK.t1 rfl (v := .bool false) rfl, H⟩
                        · have H := H.2 e197
                          refine VC.skip ?_
                          change VC _ _ _ _ _ _ _
                          refine VC.seq ?_
                          refine VC.seq ?_
                          refine VC.region ?_
                          refine VL.stepD rfl rfl (by decide) (OE.moveV (v := .int .i64 y193) rfl ?_)
                          refine VL.stepD rfl rfl (by decide) (OE.moveV (v := .slice x169A x169n x169c) rfl ?_)
                          refine VL.stepD rfl rfl (by decide) (OE.lenSlice rfl Tryz.underlying53 ?_)
                          refine VL.stepD rfl rfl (by decide) (OE.binI (v := .bool (y193 == ((x169n : Nat) : Int))) rfl rfl rfl ?_)
                          refine VL.nil ?_
                          change VC _ _ _ _ _ _ _
                          refine VC.cond (t := (y193 == ((x169n : Nat) : Int))) rfl (fun e198 => ?_) (fun e198 => ?_)
                          · have H := H.1 e198
                            refine VC.exit ?_
                            exact ⟨rfl, j148A, j148n, j148c, rfl, rfl, rfl, rfl, rfl, rfl, H⟩
                          · have H := H.2 e198
                            refine VC.skip ?_
                            change VC _ _ _ _ _ _ _
                            refine VC.region ?_
                            refine VL.stepD rfl rfl (by decide) (OE.moveV (v := .slice none 0 0) rfl ?_)
                            refine VL.stepD rfl rfl (by decide) (OE.moveV (v := .slice x169A x169n x169c) rfl ?_)
                            refine VL.stepD rfl rfl (by decide) (OE.moveV (v := .int .i64 y193) rfl ?_)
                            obtain ⟨z199, z200, H⟩ := H
                            refine VL.stepD rfl rfl (by decide) (OE.sliceHiV (sz := 2) rfl rfl Tryz.underlying53 Tryz.i55 z199 z200 ?_)
                            obtain ⟨vs201, z202, z203, z204, z205, H⟩ := H
                            refine VL.stepD rfl rfl (by decide) (OE.appendV (z := (.agg #[.int .u8 0, .bool false] : Value)) (sz := 2) (bs := 2) rfl rfl Tryz.underlying53 Tryz.i55 z202 z203 z204 z205 (AppendV.mono H (fun A206 n207 c208 h209 H => ?_)))
                            refine VL.stepD rfl rfl (by decide) (OE.assignV (v := .slice A206 n207 c208) rfl ?_)
                            refine VL.nil ?_
                            exact ⟨rfl, A206, n207, c208, rfl, rfl, rfl, rfl, rfl, rfl, rfl, H⟩
                      · have H := H.2 e188
                        refine VC.seq ?_
                        refine VC.seq ?_
                        refine VC.region ?_
                        refine VL.stepD rfl rfl (by decide) (OE.moveV (v := .pointer y11) rfl ?_)
                        refine VL.stepD rfl rfl (by decide) (OE.fieldAddrI (a := (Addr.mk b162 0 none)) (o := 2) rfl Tryz.underlying51 rfl Tryz.i22 (by decide) rfl ?_)
                        obtain ⟨x212A, x212n, x212c, hl213, H⟩ := H
                        refine VL.stepD rfl rfl (by decide) (OE.load (a := ((Addr.mk b162 0 none).add 2)) (v := .slice x212A x212n x212c) rfl (LdT.one Tryz.underlying22 rfl hl213) ?_)
                        refine VL.stepD rfl rfl (by decide) (OE.callL (args := [.pointer y11, .string (ByteArray.mk #[102]), .slice x212A x212n x212c]) Tryz.func12 rfl Tryz.nn12 rfl rfl (CHE.mono H (fun r214 h215 H => ?_) (fun _ _ e => e.elim)))
                        obtain ⟨y216, rfl, H⟩ := H
                        refine VL.stepD rfl rfl (by decide) (OE.binI (v := .bool (y216 != 0)) rfl rfl rfl ?_)
                        refine VL.nil ?_
                        change VC _ _ _ _ _ _ _
                        refine VC.cond (t := (y216 != 0)) rfl (fun e217 => ?_) (fun e217 => ?_)
                        · have H := H.1 e217
                          refine VC.seq ?_
                          refine VC.region ?_
                          refine VL.stepD rfl rfl (by decide) (OE.assignV (v := .bool false) rfl ?_)
                          refine VL.nil ?_
                          change VC _ _ _ _ _ _ _
                          refine VC.ret ?_
                          exact ⟨rfl, _, ResOK.t1 rfl (v := .bool false) rfl, H⟩
                        · have H := H.2 e217
                          refine VC.skip ?_
                          change VC _ _ _ _ _ _ _
                          refine VC.seq ?_
                          refine VC.seq ?_
                          refine VC.region ?_
                          refine VL.stepD rfl rfl (by decide) (OE.fieldAddrI (a := (Addr.mk b162 0 none)) (o := 2) rfl Tryz.underlying51 rfl Tryz.i22 (by decide) rfl ?_)
                          obtain ⟨x218A, x218n, x218c, hl219, H⟩ := H
                          refine VL.stepD rfl rfl (by decide) (OE.load (a := ((Addr.mk b162 0 none).add 2)) (v := .slice x218A x218n x218c) rfl (LdT.one Tryz.underlying22 rfl hl219) ?_)
                          refine VL.stepD rfl rfl (by decide) (OE.lenSlice rfl Tryz.underlying22 ?_)
                          refine VL.stepD rfl rfl (by decide) (OE.binI (v := .bool (((x218n : Nat) : Int) == 0)) rfl rfl rfl ?_)
                          refine VL.nil ?_
                          change VC _ _ _ _ _ _ _
                          refine VC.cond (t := (((x218n : Nat) : Int) == 0)) rfl (fun e220 => ?_) (fun e220 => ?_)
                          · have H := H.1 e220
                            refine VC.exit ?_
                            exact ⟨rfl, j148A, j148n, j148c, rfl, rfl, rfl, rfl, rfl, rfl, H⟩
                          · have H := H.2 e220
                            refine VC.skip ?_
                            change VC _ _ _ _ _ _ _
                            refine VC.seq ?_
                            refine VC.region ?_
                            refine VL.stepD rfl rfl (by decide) (OE.moveV (v := .slice none 0 0) rfl ?_)
                            refine VL.stepD rfl rfl (by decide) (OE.moveV (v := .slice x169A x169n x169c) rfl ?_)
                            obtain ⟨vs221, z222, z223, z224, z225, H⟩ := H
                            refine VL.stepD rfl rfl (by decide) (OE.appendV (z := (.agg #[.int .u8 0, .bool false] : Value)) (sz := 2) (bs := 2) rfl rfl Tryz.underlying53 Tryz.i55 z222 z223 z224 z225 (AppendV.mono H (fun A226 n227 c228 h229 H => ?_)))
                            refine VL.stepD rfl rfl (by decide) (OE.assignV (v := .slice A226 n227 c228) rfl ?_)
                            refine VL.nil ?_
                            change VC _ _ _ _ _ _ _
                            refine VC.seq ?_
                            refine VC.region ?_
                            refine VL.stepD rfl rfl (by decide) (OE.assignV (v := .int .i64 0) rfl ?_)
                            refine VL.nil ?_
                            change VC _ _ _ _ _ _ _
                            refine VC.block ?_
                            obtain ⟨Inv, ⟨m0, h0⟩, H⟩ := H
                            refine VC.loop (fun ds f h232 m => ds = [] ∧ ∃ j230A : Option Addr, ∃ j230n : Nat, ∃ j230c : Nat, ∃ j231 : Int, f 1 = (.slice changesA changesn changesc : Value) ∧ f 2 = (.int .i64 done : Value) ∧ f 3 = (.slice lostA lostn lostc : Value) ∧ f 11 = (.pointer y11 : Value) ∧ f 12 = (.slice j148A j148n j148c : Value) ∧ f 15 = (.int .i64 j149 : Value) ∧ f 16 = (.pointer (some (Addr.mk b162 0 none)) : Value) ∧ f 18 = (.slice j230A j230n j230c : Value) ∧ f 20 = (.int .i64 j231 : Value) ∧ Inv j230A j230n j230c j231 h232 m) (m0 := m0) ⟨rfl, A226, n227, c228, 0, rfl, rfl, rfl, rfl, rfl, rfl, rfl, rfl, rfl, h0⟩ ?_
                            intro ds f h232 m I
                            obtain ⟨rfl, j230A, j230n, j230c, j231, hk1, hk2, hk3, hk11, hk12, hk15, hk16, hk18, hk20, I⟩ := I
                            rw [← fr_self f [(1, .slice changesA changesn changesc), (2, .int .i64 done), (3, .slice lostA lostn lostc), (11, .pointer y11), (12, .slice j148A j148n j148c), (15, .int .i64 j149), (16, .pointer (some (Addr.mk b162 0 none))), (18, .slice j230A j230n j230c), (20, .int .i64 j231)] (by simp only [List.mem_cons, List.not_mem_nil, or_false]; rintro p (rfl | rfl | rfl | rfl | rfl | rfl | rfl | rfl | rfl) <;> assumption)]
                            obtain ⟨C233, eC233⟩ : ∃ C233 : Option Addr → Nat → Nat → Int → Hp → Prop, C233 = (fun j230A j230n j230c j231 h232 => ∃ m1, m1 < m ∧ Inv j230A j230n j230c j231 h232 m1) := ⟨_, rfl⟩
                            have H : D_treadlelaw3_DiskTorn.L17 R C151 j148A j148n j148c j149 b162 C233 j230A j230n j230c j231 h232 := by rw [eC233]; exact H j230A j230n j230c j231 h232 m I
                            unfold D_treadlelaw3_DiskTorn.L17 at H
                            refine VC.seq ?_
                            refine VC.seq ?_
                            refine VC.region ?_
                            refine VL.stepD rfl rfl (by decide) (OE.moveV (v := .int .i64 j231) rfl ?_)
                            refine VL.stepD rfl rfl (by decide) (OE.fieldAddrI (a := (Addr.mk b162 0 none)) (o := 2) rfl Tryz.underlying51 rfl Tryz.i22 (by decide) rfl ?_)
                            obtain ⟨x234A, x234n, x234c, hl235, H⟩ := H
                            refine VL.stepD rfl rfl (by decide) (OE.load (a := ((Addr.mk b162 0 none).add 2)) (v := .slice x234A x234n x234c) rfl (LdT.one Tryz.underlying22 rfl hl235) ?_)
                            refine VL.stepD rfl rfl (by decide) (OE.lenSlice rfl Tryz.underlying22 ?_)
                            refine VL.stepD rfl rfl (by decide) (OE.binI (v := .bool (decide (j231 < ((x234n : Nat) : Int)))) rfl rfl rfl ?_)
                            refine VL.nil ?_
                            change VC _ _ _ _ _ _ _
                            refine VC.cond (t := (decide (j231 < ((x234n : Nat) : Int)))) rfl (fun e236 => ?_) (fun e236 => ?_)
                            · have H := H.1 e236
                              refine VC.skip ?_
                              change VC _ _ _ _ _ _ _
                              refine VC.seq ?_
                              refine VC.block ?_
                              refine VC.region ?_
                              refine VL.stepD rfl rfl (by decide) (OE.moveV (v := .slice j230A j230n j230c) rfl ?_)
                              refine VL.stepD rfl rfl (by decide) (OE.fieldAddrI (a := (Addr.mk b162 0 none)) (o := 2) rfl Tryz.underlying51 rfl Tryz.i22 (by decide) rfl ?_)
                              obtain ⟨x237A, x237n, x237c, hl238, H⟩ := H
                              refine VL.stepD rfl rfl (by decide) (OE.load (a := ((Addr.mk b162 0 none).add 2)) (v := .slice x237A x237n x237c) rfl (LdT.one Tryz.underlying22 rfl hl238) ?_)
                              refine VL.stepD rfl rfl (by decide) (OE.moveV (v := .int .i64 j231) rfl ?_)
                              obtain ⟨a239, e240, z241, z242, H⟩ := H
                              refine VL.stepD rfl rfl (by decide) (OE.indexAddrI (sz := 1) rfl rfl Tryz.underlying22 Tryz.i5 e240 z241 z242 ?_)
                              obtain ⟨x243, hl244, H⟩ := H
                              refine VL.stepD rfl rfl (by decide) (OE.load (a := (a239.add (Int.toNat j231 * 1))) (v := .int .u8 x243) rfl (LdT.one Tryz.underlying5 rfl hl244) ?_)
                              refine VL.stepD rfl rfl (by decide) (OE.buildV (ps := [(0, (.int .u8 x243 : Value)), (1, (.bool true : Value))]) rfl (Tryz.bf34 _ _) ?_)
                              obtain ⟨b246, eb256⟩ : ∃ b246, b246 = Array.size h232 := ⟨_, rfl⟩
                              obtain ⟨h245, eh257⟩ : ∃ h245, h245 = Array.push h232 (.cells #[.int .u8 x243, .bool true] 55) := ⟨_, rfl⟩
                              have H := H b246 h245 eb256 eh257
                              refine VL.stepD rfl rfl (by decide) (OE.buildSliceE (ps := [(0, (.agg #[.int .u8 x243, .bool true] : Value))]) (cells := #[.int .u8 x243, .bool true]) (e := 55) rfl (Tryz.bf35 _ _) eb256 eh257 ?_)
                              obtain ⟨vs247, z248, z249, z250, z251, H⟩ := H
                              refine VL.stepD rfl rfl (by decide) (OE.appendV (z := (.agg #[.int .u8 0, .bool false] : Value)) (sz := 2) (bs := 2) rfl rfl Tryz.underlying53 Tryz.i55 z248 z249 z250 z251 (AppendV.mono H (fun A252 n253 c254 h255 H => ?_)))
                              refine VL.stepD rfl rfl (by decide) (OE.assignV (v := .slice A252 n253 c254) rfl ?_)
                              refine VL.nil ?_
                              change VC _ _ _ _ _ _ _
                              refine VC.region ?_
                              refine VL.stepD rfl rfl (by decide) (OE.moveV (v := .int .i64 j231) rfl ?_)
                              refine VL.stepD rfl rfl (by decide) (OE.binI (v := .int .i64 (IntKind.i64.wrap (j231 + 1))) rfl rfl rfl ?_)
                              refine VL.stepD rfl rfl (by decide) (OE.assignV (v := .int .i64 (IntKind.i64.wrap (j231 + 1))) rfl ?_)
                              refine VL.nil ?_
                              rw [eC233] at H
                              obtain ⟨m1, hm1, H⟩ := H
                              exact ⟨m1, hm1, rfl, A252, n253, c254, (IntKind.i64.wrap (j231 + 1)), rfl, rfl, rfl, rfl, rfl, rfl, rfl, rfl, rfl, H⟩
                            · have H := H.2 e236
                              refine VC.exit ?_
                              exact ⟨rfl, j230A, j230n, j230c, rfl, rfl, rfl, rfl, rfl, rfl, rfl, H⟩
                · have H := H.2 e152
                  refine VC.exit ?_
                  exact ⟨rfl, j148A, j148n, j148c, rfl, rfl, rfl, rfl, H⟩
            · skip
              refine VC.seq ?_
              refine VC.region ?_
              refine VL.stepD rfl rfl (by decide) (OE.assignV (v := .int .i64 0) rfl ?_)
              refine VL.nil ?_
              change VC _ _ _ _ _ _ _
              refine VC.block ?_
              obtain ⟨Inv, ⟨m0, h0⟩, H⟩ := H
              refine VC.loop (fun ds f h266 m => ds = [] ∧ ∃ j264A : Option Addr, ∃ j264n : Nat, ∃ j264c : Nat, ∃ j265 : Int, f 0 = (.slice baseA basen basec : Value) ∧ f 1 = (.slice changesA changesn changesc : Value) ∧ f 2 = (.int .i64 done : Value) ∧ f 3 = (.slice lostA lostn lostc : Value) ∧ f 11 = (.pointer y11 : Value) ∧ f 12 = (.slice none 0 0 : Value) ∧ f 13 = (.slice j264A j264n j264c : Value) ∧ f 14 = (.int .i64 j265 : Value) ∧ Inv j264A j264n j264c j265 h266 m) (m0 := m0) ⟨rfl, none, 0, 0, 0, rfl, rfl, rfl, rfl, rfl, rfl, rfl, rfl, h0⟩ ?_
              intro ds f h266 m I
              obtain ⟨rfl, j264A, j264n, j264c, j265, hk0, hk1, hk2, hk3, hk11, hk12, hk13, hk14, I⟩ := I
              rw [← fr_self f [(0, .slice baseA basen basec), (1, .slice changesA changesn changesc), (2, .int .i64 done), (3, .slice lostA lostn lostc), (11, .pointer y11), (12, .slice none 0 0), (13, .slice j264A j264n j264c), (14, .int .i64 j265)] (by simp only [List.mem_cons, List.not_mem_nil, or_false]; rintro p (rfl | rfl | rfl | rfl | rfl | rfl | rfl | rfl) <;> assumption)]
              obtain ⟨C267, eC267⟩ : ∃ C267 : Option Addr → Nat → Nat → Int → Hp → Prop, C267 = (fun j264A j264n j264c j265 h266 => ∃ m1, m1 < m ∧ Inv j264A j264n j264c j265 h266 m1) := ⟨_, rfl⟩
              have H : D_treadlelaw3_DiskTorn.L18 R  baseA basen changesA changesn done lostA lostn lostc y11 C267 j264A j264n j264c j265 h266 := by rw [eC267]; exact H j264A j264n j264c j265 h266 m I
              unfold D_treadlelaw3_DiskTorn.L18 at H
              refine VC.seq ?_
              refine VC.seq ?_
              refine VC.region ?_
              refine VL.stepD rfl rfl (by decide) (OE.moveV (v := .int .i64 j265) rfl ?_)
              refine VL.stepD rfl rfl (by decide) (OE.moveV (v := .slice baseA basen basec) rfl ?_)
              refine VL.stepD rfl rfl (by decide) (OE.lenSlice rfl Tryz.underlying22 ?_)
              refine VL.stepD rfl rfl (by decide) (OE.binI (v := .bool (decide (j265 < ((basen : Nat) : Int)))) rfl rfl rfl ?_)
              refine VL.nil ?_
              change VC _ _ _ _ _ _ _
              refine VC.cond (t := (decide (j265 < ((basen : Nat) : Int)))) rfl (fun e268 => ?_) (fun e268 => ?_)
              · have H := H.1 e268
                refine VC.skip ?_
                change VC _ _ _ _ _ _ _
                refine VC.seq ?_
                refine VC.block ?_
                refine VC.region ?_
                refine VL.stepD rfl rfl (by decide) (OE.moveV (v := .slice j264A j264n j264c) rfl ?_)
                refine VL.stepD rfl rfl (by decide) (OE.moveV (v := .slice baseA basen basec) rfl ?_)
                refine VL.stepD rfl rfl (by decide) (OE.moveV (v := .int .i64 j265) rfl ?_)
                obtain ⟨a269, e270, z271, z272, H⟩ := H
                refine VL.stepD rfl rfl (by decide) (OE.indexAddrI (sz := 1) rfl rfl Tryz.underlying22 Tryz.i5 e270 z271 z272 ?_)
                obtain ⟨x273, hl274, H⟩ := H
                refine VL.stepD rfl rfl (by decide) (OE.load (a := (a269.add (Int.toNat j265 * 1))) (v := .int .u8 x273) rfl (LdT.one Tryz.underlying5 rfl hl274) ?_)
                refine VL.stepD rfl rfl (by decide) (OE.buildV (ps := [(0, (.int .u8 x273 : Value)), (1, (.bool false : Value))]) rfl (Tryz.bf34 _ _) ?_)
                obtain ⟨b276, eb286⟩ : ∃ b276, b276 = Array.size h266 := ⟨_, rfl⟩
                obtain ⟨h275, eh287⟩ : ∃ h275, h275 = Array.push h266 (.cells #[.int .u8 x273, .bool false] 55) := ⟨_, rfl⟩
                have H := H b276 h275 eb286 eh287
                refine VL.stepD rfl rfl (by decide) (OE.buildSliceE (ps := [(0, (.agg #[.int .u8 x273, .bool false] : Value))]) (cells := #[.int .u8 x273, .bool false]) (e := 55) rfl (Tryz.bf35 _ _) eb286 eh287 ?_)
                obtain ⟨vs277, z278, z279, z280, z281, H⟩ := H
                refine VL.stepD rfl rfl (by decide) (OE.appendV (z := (.agg #[.int .u8 0, .bool false] : Value)) (sz := 2) (bs := 2) rfl rfl Tryz.underlying53 Tryz.i55 z278 z279 z280 z281 (AppendV.mono H (fun A282 n283 c284 h285 H => ?_)))
                refine VL.stepD rfl rfl (by decide) (OE.assignV (v := .slice A282 n283 c284) rfl ?_)
                refine VL.nil ?_
                change VC _ _ _ _ _ _ _
                refine VC.region ?_
                refine VL.stepD rfl rfl (by decide) (OE.moveV (v := .int .i64 j265) rfl ?_)
                refine VL.stepD rfl rfl (by decide) (OE.binI (v := .int .i64 (IntKind.i64.wrap (j265 + 1))) rfl rfl rfl ?_)
                refine VL.stepD rfl rfl (by decide) (OE.assignV (v := .int .i64 (IntKind.i64.wrap (j265 + 1))) rfl ?_)
                refine VL.nil ?_
                rw [eC267] at H
                obtain ⟨m1, hm1, H⟩ := H
                exact ⟨m1, hm1, rfl, A282, n283, c284, (IntKind.i64.wrap (j265 + 1)), rfl, rfl, rfl, rfl, rfl, rfl, rfl, rfl, H⟩
              · have H := H.2 e268
                refine VC.exit ?_
                exact ⟨rfl, j264A, j264n, j264c, rfl, rfl, rfl, rfl, rfl, rfl, H⟩
        · skip
          refine VC.region ?_
          refine VL.stepD rfl rfl (by decide) (OE.moveV (v := .pointer y11) rfl ?_)
          refine VL.stepD rfl rfl (by decide) (OE.ptrNilV (b := (Option.isNone y11)) (p := y11) (q := none) rfl rfl Tryz.underlying24 (.inr rfl) (by simp) ?_)
          refine VL.stepD rfl rfl (by decide) (OE.moveV (v := .bool (Option.isNone y11)) rfl ?_)
          refine boolSplit ((Option.isNone y11)) (fun e288 => ?_) (fun e288 => ?_)
          · have H := H.1 e288
            refine VL.gskipD rfl rfl (by decide) (.inl (congrArg Value.bool e288)) rfl (by decide) ?_
            refine VL.gskipD rfl rfl (by decide) (.inl (congrArg Value.bool e288)) rfl (by decide) ?_
            refine VL.gskipD rfl rfl (by decide) (.inl (congrArg Value.bool e288)) rfl (by decide) ?_
            refine VL.stepD rfl rfl (by decide) (OE.pickV (t := true) (v := .bool true) (congrArg Value.bool e288) rfl ?_)
            refine VL.stepD rfl rfl (by decide) (OE.moveV (v := .bool true) rfl ?_)
            refine VL.gskipD rfl rfl (by decide) (.inl rfl) rfl (by decide) ?_
            refine VL.gskipD rfl rfl (by decide) (.inl rfl) rfl (by decide) ?_
            refine VL.gskipD rfl rfl (by decide) (.inl rfl) rfl (by decide) ?_
            refine VL.gskipD rfl rfl (by decide) (.inl rfl) rfl (by decide) ?_
            refine VL.stepD rfl rfl (by decide) (OE.pickV (t := true) (v := .bool true) rfl rfl ?_)
            refine VL.stepD rfl rfl (by decide) (OE.moveV (v := .bool true) rfl ?_)
            refine VL.gskipD rfl rfl (by decide) (.inl rfl) rfl (by decide) ?_
            refine VL.gskipD rfl rfl (by decide) (.inl rfl) rfl (by decide) ?_
            refine VL.gskipD rfl rfl (by decide) (.inl rfl) rfl (by decide) ?_
            refine VL.stepD rfl rfl (by decide) (OE.pickV (t := true) (v := .bool true) rfl rfl ?_)
            refine VL.stepD rfl rfl (by decide) (OE.moveV (v := .bool true) rfl ?_)
            refine VL.gskipD rfl rfl (by decide) (.inl rfl) rfl (by decide) ?_
            refine VL.gskipD rfl rfl (by decide) (.inl rfl) rfl (by decide) ?_
            refine VL.gskipD rfl rfl (by decide) (.inl rfl) rfl (by decide) ?_
            refine VL.stepD rfl rfl (by decide) (OE.pickV (t := true) (v := .bool true) rfl rfl ?_)
            refine VL.nil ?_
            exact ⟨rfl, true, rfl, rfl, rfl, rfl, rfl, rfl, H⟩
          · have H := H.2 e288
            refine VL.gstepD rfl rfl (by decide) (congrArg Value.bool e288) rfl (by decide) (OE.moveV (v := .pointer y11) rfl ?_)
            refine VL.gstepD rfl rfl (by decide) (congrArg Value.bool e288) rfl (by decide) (OE.callL (args := [.pointer y11, .string (ByteArray.mk #[102])]) Tryz.func11 rfl Tryz.nn11 rfl rfl (CHE.mono H (fun r289 h290 H => ?_) (fun _ _ e => e.elim)))
            obtain ⟨y291, rfl, H⟩ := H
            refine VL.gstepD rfl rfl (by decide) (congrArg Value.bool e288) rfl (by decide) (OE.binI (v := .bool (y291 != 0)) rfl rfl rfl ?_)
            refine VL.stepD rfl rfl (by decide) (OE.pickV (t := false) (v := .bool (y291 != 0)) (congrArg Value.bool e288) rfl ?_)
            refine VL.stepD rfl rfl (by decide) (OE.moveV (v := .bool (y291 != 0)) rfl ?_)
            refine boolSplit ((y291 != 0)) (fun e292 => ?_) (fun e292 => ?_)
            · have H := H.1 e292
              refine VL.gskipD rfl rfl (by decide) (.inl (congrArg Value.bool e292)) rfl (by decide) ?_
              refine VL.gskipD rfl rfl (by decide) (.inl (congrArg Value.bool e292)) rfl (by decide) ?_
              refine VL.gskipD rfl rfl (by decide) (.inl (congrArg Value.bool e292)) rfl (by decide) ?_
              refine VL.gskipD rfl rfl (by decide) (.inl (congrArg Value.bool e292)) rfl (by decide) ?_
              refine VL.stepD rfl rfl (by decide) (OE.pickV (t := true) (v := .bool true) (congrArg Value.bool e292) rfl ?_)
              refine VL.stepD rfl rfl (by decide) (OE.moveV (v := .bool true) rfl ?_)
              refine VL.gskipD rfl rfl (by decide) (.inl rfl) rfl (by decide) ?_
              refine VL.gskipD rfl rfl (by decide) (.inl rfl) rfl (by decide) ?_
              refine VL.gskipD rfl rfl (by decide) (.inl rfl) rfl (by decide) ?_
              refine VL.stepD rfl rfl (by decide) (OE.pickV (t := true) (v := .bool true) rfl rfl ?_)
              refine VL.stepD rfl rfl (by decide) (OE.moveV (v := .bool true) rfl ?_)
              refine VL.gskipD rfl rfl (by decide) (.inl rfl) rfl (by decide) ?_
              refine VL.gskipD rfl rfl (by decide) (.inl rfl) rfl (by decide) ?_
              refine VL.gskipD rfl rfl (by decide) (.inl rfl) rfl (by decide) ?_
              refine VL.stepD rfl rfl (by decide) (OE.pickV (t := true) (v := .bool true) rfl rfl ?_)
              refine VL.nil ?_
              exact ⟨rfl, true, rfl, rfl, rfl, rfl, rfl, rfl, H⟩
            · have H := H.2 e292
              refine VL.gstepD rfl rfl (by decide) (congrArg Value.bool e292) rfl (by decide) (OE.moveV (v := .pointer y11) rfl ?_)
              refine VL.gstepD rfl rfl (by decide) (congrArg Value.bool e292) rfl (by decide) (OE.moveV (v := .slice baseA basen basec) rfl ?_)
              refine VL.gstepD rfl rfl (by decide) (congrArg Value.bool e292) rfl (by decide) (OE.callL (args := [.pointer y11, .string (ByteArray.mk #[102]), .slice baseA basen basec]) Tryz.func12 rfl Tryz.nn12 rfl rfl (CHE.mono H (fun r293 h294 H => ?_) (fun _ _ e => e.elim)))
              obtain ⟨y295, rfl, H⟩ := H
              refine VL.gstepD rfl rfl (by decide) (congrArg Value.bool e292) rfl (by decide) (OE.binI (v := .bool (y295 != 0)) rfl rfl rfl ?_)
              refine VL.stepD rfl rfl (by decide) (OE.pickV (t := false) (v := .bool (y295 != 0)) (congrArg Value.bool e292) rfl ?_)
              refine VL.stepD rfl rfl (by decide) (OE.moveV (v := .bool (y295 != 0)) rfl ?_)
              refine boolSplit ((y295 != 0)) (fun e296 => ?_) (fun e296 => ?_)
              · have H := H.1 e296
                refine VL.gskipD rfl rfl (by decide) (.inl (congrArg Value.bool e296)) rfl (by decide) ?_
                refine VL.gskipD rfl rfl (by decide) (.inl (congrArg Value.bool e296)) rfl (by decide) ?_
                refine VL.gskipD rfl rfl (by decide) (.inl (congrArg Value.bool e296)) rfl (by decide) ?_
                refine VL.stepD rfl rfl (by decide) (OE.pickV (t := true) (v := .bool true) (congrArg Value.bool e296) rfl ?_)
                refine VL.stepD rfl rfl (by decide) (OE.moveV (v := .bool true) rfl ?_)
                refine VL.gskipD rfl rfl (by decide) (.inl rfl) rfl (by decide) ?_
                refine VL.gskipD rfl rfl (by decide) (.inl rfl) rfl (by decide) ?_
                refine VL.gskipD rfl rfl (by decide) (.inl rfl) rfl (by decide) ?_
                refine VL.stepD rfl rfl (by decide) (OE.pickV (t := true) (v := .bool true) rfl rfl ?_)
                refine VL.nil ?_
                exact ⟨rfl, true, rfl, rfl, rfl, rfl, rfl, rfl, H⟩
              · have H := H.2 e296
                refine VL.gstepD rfl rfl (by decide) (congrArg Value.bool e296) rfl (by decide) (OE.moveV (v := .pointer y11) rfl ?_)
                refine VL.gstepD rfl rfl (by decide) (congrArg Value.bool e296) rfl (by decide) (OE.callL (args := [.pointer y11, .string (ByteArray.mk #[102])]) Tryz.func13 rfl Tryz.nn13 rfl rfl (CHE.mono H (fun r297 h298 H => ?_) (fun _ _ e => e.elim)))
                obtain ⟨y299, rfl, H⟩ := H
                refine VL.gstepD rfl rfl (by decide) (congrArg Value.bool e296) rfl (by decide) (OE.binI (v := .bool (y299 != 0)) rfl rfl rfl ?_)
                refine VL.stepD rfl rfl (by decide) (OE.pickV (t := false) (v := .bool (y299 != 0)) (congrArg Value.bool e296) rfl ?_)
                refine VL.stepD rfl rfl (by decide) (OE.moveV (v := .bool (y299 != 0)) rfl ?_)
                refine boolSplit ((y299 != 0)) (fun e300 => ?_) (fun e300 => ?_)
                · have H := H.1 e300
                  refine VL.gskipD rfl rfl (by decide) (.inl (congrArg Value.bool e300)) rfl (by decide) ?_
                  refine VL.gskipD rfl rfl (by decide) (.inl (congrArg Value.bool e300)) rfl (by decide) ?_
                  refine VL.gskipD rfl rfl (by decide) (.inl (congrArg Value.bool e300)) rfl (by decide) ?_
                  refine VL.stepD rfl rfl (by decide) (OE.pickV (t := true) (v := .bool true) (congrArg Value.bool e300) rfl ?_)
                  refine VL.nil ?_
                  exact ⟨rfl, true, rfl, rfl, rfl, rfl, rfl, rfl, H⟩
                · have H := H.2 e300
                  refine VL.gstepD rfl rfl (by decide) (congrArg Value.bool e300) rfl (by decide) (OE.moveV (v := .pointer y11) rfl ?_)
                  refine VL.gstepD rfl rfl (by decide) (congrArg Value.bool e300) rfl (by decide) (OE.callL (args := [.pointer y11]) Tryz.func14 rfl Tryz.nn14 rfl rfl (CHE.mono H (fun r301 h302 H => ?_) (fun _ _ e => e.elim)))
                  obtain ⟨y303, rfl, H⟩ := H
                  refine VL.gstepD rfl rfl (by decide) (congrArg Value.bool e300) rfl (by decide) (OE.binI (v := .bool (y303 != 0)) rfl rfl rfl ?_)
                  refine VL.stepD rfl rfl (by decide) (OE.pickV (t := false) (v := .bool (y303 != 0)) (congrArg Value.bool e300) rfl ?_)
                  refine VL.nil ?_
                  exact ⟨rfl, (y303 != 0), rfl, rfl, rfl, rfl, rfl, rfl, H⟩
      · skip
        refine VC.seq ?_
        refine VC.region ?_
        refine VL.stepD rfl rfl (by decide) (OE.assignV (v := .int .i64 0) rfl ?_)
        refine VL.nil ?_
        change VC _ _ _ _ _ _ _
        refine VC.block ?_
        obtain ⟨Inv, ⟨m0, h0⟩, H⟩ := H
        refine VC.loop (fun ds f h311 m => ds = [] ∧ ∃ j309 : Int, ∃ j310 : Int, f 0 = (.slice baseA basen basec : Value) ∧ f 1 = (.slice changesA changesn changesc : Value) ∧ f 2 = (.int .i64 done : Value) ∧ f 3 = (.slice lostA lostn lostc : Value) ∧ f 9 = (.int .i64 j309 : Value) ∧ f 10 = (.int .i64 j310 : Value) ∧ Inv j309 j310 h311 m) (m0 := m0) ⟨rfl, ((basen : Nat) : Int), 0, rfl, rfl, rfl, rfl, rfl, rfl, h0⟩ ?_
        intro ds f h311 m I
        obtain ⟨rfl, j309, j310, hk0, hk1, hk2, hk3, hk9, hk10, I⟩ := I
        rw [← fr_self f [(0, .slice baseA basen basec), (1, .slice changesA changesn changesc), (2, .int .i64 done), (3, .slice lostA lostn lostc), (9, .int .i64 j309), (10, .int .i64 j310)] (by simp only [List.mem_cons, List.not_mem_nil, or_false]; rintro p (rfl | rfl | rfl | rfl | rfl | rfl) <;> assumption)]
        obtain ⟨C312, eC312⟩ : ∃ C312 : Int → Int → Hp → Prop, C312 = (fun j309 j310 h311 => ∃ m1, m1 < m ∧ Inv j309 j310 h311 m1) := ⟨_, rfl⟩
        have H : D_treadlelaw3_DiskTorn.L19 R  baseA basen basec changesA changesn done lostA lostn lostc C312 j309 j310 h311 := by rw [eC312]; exact H j309 j310 h311 m I
        unfold D_treadlelaw3_DiskTorn.L19 at H
        refine VC.seq ?_
        refine VC.seq ?_
        refine VC.region ?_
        refine VL.stepD rfl rfl (by decide) (OE.moveV (v := .int .i64 j310) rfl ?_)
        refine VL.stepD rfl rfl (by decide) (OE.moveV (v := .slice changesA changesn changesc) rfl ?_)
        refine VL.stepD rfl rfl (by decide) (OE.lenSlice rfl Tryz.underlying49 ?_)
        refine VL.stepD rfl rfl (by decide) (OE.binI (v := .bool (decide (j310 < ((changesn : Nat) : Int)))) rfl rfl rfl ?_)
        refine VL.nil ?_
        change VC _ _ _ _ _ _ _
        refine VC.cond (t := (decide (j310 < ((changesn : Nat) : Int)))) rfl (fun e313 => ?_) (fun e313 => ?_)
        · have H := H.1 e313
          refine VC.skip ?_
          change VC _ _ _ _ _ _ _
          refine VC.seq ?_
          refine VC.block ?_
          refine VC.seq ?_
          refine VC.seq ?_
          refine VC.region ?_
          refine VL.stepD rfl rfl (by decide) (OE.moveV (v := .slice changesA changesn changesc) rfl ?_)
          refine VL.stepD rfl rfl (by decide) (OE.moveV (v := .int .i64 j310) rfl ?_)
          obtain ⟨a314, e315, z316, z317, H⟩ := H
          refine VL.stepD rfl rfl (by decide) (OE.indexAddrI (sz := 3) rfl rfl Tryz.underlying49 Tryz.i51 e315 z316 z317 ?_)
          refine VL.stepD rfl rfl (by decide) (OE.fieldAddrI (a := (a314.add (Int.toNat j310 * 3))) (o := 2) rfl Tryz.underlying51 rfl Tryz.i22 (by decide) rfl ?_)
          obtain ⟨x318A, x318n, x318c, hl319, H⟩ := H
          refine VL.stepD rfl rfl (by decide) (OE.load (a := ((a314.add (Int.toNat j310 * 3)).add 2)) (v := .slice x318A x318n x318c) rfl (LdT.one Tryz.underlying22 rfl hl319) ?_)
          refine VL.stepD rfl rfl (by decide) (OE.lenSlice rfl Tryz.underlying22 ?_)
          refine VL.stepD rfl rfl (by decide) (OE.binI (v := .bool (decide (((x318n : Nat) : Int) > 200000))) rfl rfl rfl ?_)
          refine VL.nil ?_
          change VC _ _ _ _ _ _ _
          refine VC.cond (t := (decide (((x318n : Nat) : Int) > 200000))) rfl (fun e320 => ?_) (fun e320 => ?_)
          · have H := H.1 e320
            refine VC.seq ?_
            refine VC.region ?_
            refine VL.stepD rfl rfl (by decide) (OE.callL (args := []) Tryz.func9 rfl Tryz.nn9 rfl rfl (CHE.mono H (fun r321 h322 H => ?_) (fun _ _ e => e.elim)))
            obtain ⟨y323, rfl, H⟩ := H
            refine VL.stepD rfl rfl (by decide) (OE.assignV (v := .bool y323) rfl ?_)
            refine VL.nil ?_
            change VC _ _ _ _ _ _ _
            refine VC.ret ?_
            exact ⟨rfl, _, ResOK.t1 rfl (v := .bool y323) rfl, H⟩
          · have H := H.2 e320
            refine VC.skip ?_
            change VC _ _ _ _ _ _ _
            refine VC.seq ?_
            refine VC.region ?_
            refine VL.stepD rfl rfl (by decide) (OE.moveV (v := .int .i64 j309) rfl ?_)
            refine VL.stepD rfl rfl (by decide) (OE.moveV (v := .slice changesA changesn changesc) rfl ?_)
            refine VL.stepD rfl rfl (by decide) (OE.moveV (v := .int .i64 j310) rfl ?_)
            obtain ⟨a325, e326, z327, z328, H⟩ := H
            refine VL.stepD rfl rfl (by decide) (OE.indexAddrI (sz := 3) rfl rfl Tryz.underlying49 Tryz.i51 e326 z327 z328 ?_)
            refine VL.stepD rfl rfl (by decide) (OE.fieldAddrI (a := (a325.add (Int.toNat j310 * 3))) (o := 2) rfl Tryz.underlying51 rfl Tryz.i22 (by decide) rfl ?_)
            obtain ⟨x329A, x329n, x329c, hl330, H⟩ := H
            refine VL.stepD rfl rfl (by decide) (OE.load (a := ((a325.add (Int.toNat j310 * 3)).add 2)) (v := .slice x329A x329n x329c) rfl (LdT.one Tryz.underlying22 rfl hl330) ?_)
            refine VL.stepD rfl rfl (by decide) (OE.lenSlice rfl Tryz.underlying22 ?_)
            refine VL.stepD rfl rfl (by decide) (OE.binI (v := .int .i64 (IntKind.i64.wrap (j309 + ((x329n : Nat) : Int)))) rfl rfl rfl ?_)
            refine VL.stepD rfl rfl (by decide) (OE.assignV (v := .int .i64 (IntKind.i64.wrap (j309 + ((x329n : Nat) : Int)))) rfl ?_)
            refine VL.nil ?_
            change VC _ _ _ _ _ _ _
            refine VC.seq ?_
            refine VC.region ?_
            refine VL.stepD rfl rfl (by decide) (OE.moveV (v := .int .i64 (IntKind.i64.wrap (j309 + ((x329n : Nat) : Int)))) rfl ?_)
            refine VL.stepD rfl rfl (by decide) (OE.binI (v := .bool (decide ((IntKind.i64.wrap (j309 + ((x329n : Nat) : Int))) > 200000))) rfl rfl rfl ?_)
            refine VL.nil ?_
            change VC _ _ _ _ _ _ _
            refine VC.cond (t := (decide ((IntKind.i64.wrap (j309 + ((x329n : Nat) : Int))) > 200000))) rfl (fun e331 => ?_) (fun e331 => ?_)
            · have H := H.1 e331
              refine VC.seq ?_
              refine VC.region ?_
              refine VL.stepD rfl rfl (by decide) (OE.callL (args := []) Tryz.func9 rfl Tryz.nn9 rfl rfl (CHE.mono H (fun r332 h333 H => ?_) (fun _ _ e => e.elim)))
              obtain ⟨y334, rfl, H⟩ := H
              refine VL.stepD rfl rfl (by decide) (OE.assignV (v := .bool y334) rfl ?_)
              refine VL.nil ?_
              change VC _ _ _ _ _ _ _
              refine VC.ret ?_
              exact ⟨rfl, _, ResOK.t1 rfl (v := .bool y334) rfl, H⟩
            · have H := H.2 e331
              refine VC.skip ?_
              change VC _ _ _ _ _ _ _
              refine VC.region ?_
              refine VL.stepD rfl rfl (by decide) (OE.moveV (v := .int .i64 j310) rfl ?_)
              refine VL.stepD rfl rfl (by decide) (OE.binI (v := .int .i64 (IntKind.i64.wrap (j310 + 1))) rfl rfl rfl ?_)
              refine VL.stepD rfl rfl (by decide) (OE.assignV (v := .int .i64 (IntKind.i64.wrap (j310 + 1))) rfl ?_)
              refine VL.nil ?_
              rw [eC312] at H
              obtain ⟨m1, hm1, H⟩ := H
              exact ⟨m1, hm1, rfl, (IntKind.i64.wrap (j309 + ((x329n : Nat) : Int))), (IntKind.i64.wrap (j310 + 1)), rfl, rfl, rfl, rfl, rfl, rfl, H⟩
        · have H := H.2 e313
          refine VC.exit ?_
          exact ⟨rfl, rfl, rfl, rfl, rfl, H⟩
  · skip
    refine VC.region ?_
    refine VL.stepD rfl rfl (by decide) (OE.moveV (v := .int .i64 ((basen : Nat) : Int)) rfl ?_)
    refine VL.stepD rfl rfl (by decide) (OE.binI (v := .bool (decide (((basen : Nat) : Int) > 200000))) rfl rfl rfl ?_)
    refine VL.stepD rfl rfl (by decide) (OE.moveV (v := .bool (decide (((basen : Nat) : Int) > 200000))) rfl ?_)
    refine boolSplit ((decide (((basen : Nat) : Int) > 200000))) (fun e336 => ?_) (fun e336 => ?_)
    · have H := H.1 e336
      refine VL.gskipD rfl rfl (by decide) (.inl (congrArg Value.bool e336)) rfl (by decide) ?_
      refine VL.gskipD rfl rfl (by decide) (.inl (congrArg Value.bool e336)) rfl (by decide) ?_
      refine VL.gskipD rfl rfl (by decide) (.inl (congrArg Value.bool e336)) rfl (by decide) ?_
      refine VL.stepD rfl rfl (by decide) (OE.pickV (t := true) (v := .bool true) (congrArg Value.bool e336) rfl ?_)
      refine VL.stepD rfl rfl (by decide) (OE.moveV (v := .bool true) rfl ?_)
      refine VL.gskipD rfl rfl (by decide) (.inl rfl) rfl (by decide) ?_
      refine VL.gskipD rfl rfl (by decide) (.inl rfl) rfl (by decide) ?_
      refine VL.gskipD rfl rfl (by decide) (.inl rfl) rfl (by decide) ?_
      refine VL.stepD rfl rfl (by decide) (OE.pickV (t := true) (v := .bool true) rfl rfl ?_)
      refine VL.nil ?_
      exact ⟨rfl, true, rfl, rfl, rfl, rfl, rfl, rfl, H⟩
    · have H := H.2 e336
      refine VL.gstepD rfl rfl (by decide) (congrArg Value.bool e336) rfl (by decide) (OE.moveV (v := .slice changesA changesn changesc) rfl ?_)
      refine VL.gstepD rfl rfl (by decide) (congrArg Value.bool e336) rfl (by decide) (OE.lenSlice rfl Tryz.underlying49 ?_)
      refine VL.gstepD rfl rfl (by decide) (congrArg Value.bool e336) rfl (by decide) (OE.binI (v := .bool (decide (((changesn : Nat) : Int) > 60))) rfl rfl rfl ?_)
      refine VL.stepD rfl rfl (by decide) (OE.pickV (t := false) (v := .bool (decide (((changesn : Nat) : Int) > 60))) (congrArg Value.bool e336) rfl ?_)
      refine VL.stepD rfl rfl (by decide) (OE.moveV (v := .bool (decide (((changesn : Nat) : Int) > 60))) rfl ?_)
      refine boolSplit ((decide (((changesn : Nat) : Int) > 60))) (fun e337 => ?_) (fun e337 => ?_)
      · have H := H.1 e337
        refine VL.gskipD rfl rfl (by decide) (.inl (congrArg Value.bool e337)) rfl (by decide) ?_
        refine VL.gskipD rfl rfl (by decide) (.inl (congrArg Value.bool e337)) rfl (by decide) ?_
        refine VL.gskipD rfl rfl (by decide) (.inl (congrArg Value.bool e337)) rfl (by decide) ?_
        refine VL.stepD rfl rfl (by decide) (OE.pickV (t := true) (v := .bool true) (congrArg Value.bool e337) rfl ?_)
        refine VL.nil ?_
        exact ⟨rfl, true, rfl, rfl, rfl, rfl, rfl, rfl, H⟩
      · have H := H.2 e337
        refine VL.gstepD rfl rfl (by decide) (congrArg Value.bool e337) rfl (by decide) (OE.moveV (v := .slice lostA lostn lostc) rfl ?_)
        refine VL.gstepD rfl rfl (by decide) (congrArg Value.bool e337) rfl (by decide) (OE.lenSlice rfl Tryz.underlying44 ?_)
        refine VL.gstepD rfl rfl (by decide) (congrArg Value.bool e337) rfl (by decide) (OE.binI (v := .bool (decide (((lostn : Nat) : Int) > 300))) rfl rfl rfl ?_)
        refine VL.stepD rfl rfl (by decide) (OE.pickV (t := false) (v := .bool (decide (((lostn : Nat) : Int) > 300))) (congrArg Value.bool e337) rfl ?_)
        refine VL.nil ?_
        exact ⟨rfl, (decide (((lostn : Nat) : Int) > 300)), rfl, rfl, rfl, rfl, rfl, rfl, H⟩


end Go.Proofs
