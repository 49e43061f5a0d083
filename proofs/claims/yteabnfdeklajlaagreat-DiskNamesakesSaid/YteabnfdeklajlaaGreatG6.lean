/- Part of a proof, by program out of hand-written texts. -/
import Derived.Test.YteabnfdeklajlaaGreatF1
set_option linter.unusedVariables false
set_option linter.unusedSimpArgs false
set_option maxRecDepth 10000
namespace Go.Proofs
open Go Go.V
def D_treadlelaw3_DiskNamesakes.J6 (R : Value → Hp → Prop)  (y10 : Option Addr) (j69 : Bool) (h70 : Hp) : Prop :=
  ((j69 = true → R (.bool false) h70) ∧ (j69 = false → CH Tryz.prog 28 #[.pointer y10] h70 (fun r72 h73 => ∃ y74_0 : Int, ∃ y74_1 : Int, r72 = .tuple #[.int .i64 y74_0, .int .i64 y74_1] ∧ (((y74_0 == 0) = true → (((y74_1 == 0) = true → CH Tryz.prog 9 #[] h73 (fun r77 h78 => ∃ y79 : Bool, r77 = .bool y79 ∧ R (.bool y79) h78)) ∧ ((y74_1 == 0) = false → R (.bool false) h73))) ∧ ((y74_0 == 0) = false → R (.bool false) h73)))))
def D_treadlelaw3_DiskNamesakes.J5 (R : Value → Hp → Prop)  (y10 : Option Addr) (n42 : Nat) (j63 : Bool) (h64 : Hp) : Prop :=
  ((j63 = true → R (.bool false) h64) ∧ (j63 = false → CH Tryz.prog 28 #[.pointer y10] h64 (fun r66 h67 => ∃ y68_0 : Int, ∃ y68_1 : Int, r66 = .tuple #[.int .i64 y68_0, .int .i64 y68_1] ∧ (((y68_0 != ((n42 : Nat) : Int)) = true → D_treadlelaw3_DiskNamesakes.J6 R  y10 true h67) ∧ ((y68_0 != ((n42 : Nat) : Int)) = false → (((y68_1 != 1) = true → D_treadlelaw3_DiskNamesakes.J6 R  y10 true h67) ∧ ((y68_1 != 1) = false → CH Tryz.prog 14 #[.pointer y10] h67 (fun r84 h85 => ∃ y86 : Int, r84 = .int .i64 y86 ∧ D_treadlelaw3_DiskNamesakes.J6 R  y10 (y86 != 0) h85))))))))
def D_treadlelaw3_DiskNamesakes.J4 (R : Value → Hp → Prop)  (y10 : Option Addr) (A41 : Option Addr) (n42 : Nat) (c43 : Nat) (j54 : Bool) (h55 : Hp) : Prop :=
  ((j54 = true → R (.bool false) h55) ∧ (j54 = false → CH Tryz.prog 20 #[.pointer y10, .agg #[.int .i64 0, .slice none 0 0, .slice none 0 0]] h55 (fun r57 h58 => ∃ y59A : Option Addr, ∃ y59n : Nat, ∃ y59c : Nat, r57 = .slice y59A y59n y59c ∧ CH Tryz.prog 30 #[.pointer y10] h58 (fun r60 h61 => ∃ y62A : Option Addr, ∃ y62n : Nat, ∃ y62c : Nat, r60 = .slice y62A y62n y62c ∧ (((((y62n : Nat) : Int) != 1) = true → D_treadlelaw3_DiskNamesakes.J5 R  y10 n42 true h61) ∧ ((((y62n : Nat) : Int) != 1) = false → (∃ a90 : Addr, y62A = some a90 ∧ (0 : Int) ≤ 0 ∧ 0 < (y62n : Int) ∧ (∃ x94 : ByteArray, cell h61 (a90.add (Int.toNat 0 * 2)) = some (.string x94) ∧ (((!(x94.toList == (ByteArray.mk #[99]).toList)) = true → D_treadlelaw3_DiskNamesakes.J5 R  y10 n42 true h61) ∧ ((!(x94.toList == (ByteArray.mk #[99]).toList)) = false → (∃ a97 : Addr, y62A = some a97 ∧ (0 : Int) ≤ 0 ∧ 0 < (y62n : Int) ∧ (∃ x101A : Option Addr, ∃ x101n : Nat, ∃ x101c : Nat, cell h61 ((a97.add (Int.toNat 0 * 2)).add 1) = some (.slice x101A x101n x101c) ∧ CH Tryz.prog 19 #[.slice x101A x101n x101c, .slice A41 n42 c43] h61 (fun r103 h104 => ∃ y105 : Bool, r103 = .bool y105 ∧ (((!y105) = true → D_treadlelaw3_DiskNamesakes.J5 R  y10 n42 true h104) ∧ ((!y105) = false → CH Tryz.prog 29 #[.pointer y10, .string (ByteArray.mk #[99])] h104 (fun r107 h108 => ∃ y109 : Int, r107 = .int .i64 y109 ∧ D_treadlelaw3_DiskNamesakes.J5 R  y10 n42 (y109 != 0) h108))))))))))))))))
def D_treadlelaw3_DiskNamesakes.J3 (R : Value → Hp → Prop)  (baseA : Option Addr) (basen : Nat) (moreA : Option Addr) (moren : Nat) (y10 : Option Addr) (j22 : Bool) (h23 : Hp) : Prop :=
  ((j22 = true → R (.bool false) h23) ∧ (j22 = false → (∀ b26 h25, b26 = Array.size h23 → h25 = Array.push h23 (.cells #[] 5) → (∃ vs27 : List Value, Src h25 (basen * 1) vs27 baseA ∧ (∀ v ∈ vs27, oneC v = true) ∧ (0 + basen) * 1 ≤ 140737488355328 ∧ 0 + basen ≤ 9223372036854775807 ∧ AppendV 5 (.int .u8 0 : Value) 1 h25 (some (Addr.mk b26 0 none)) 0 0 basen vs27 (fun A32 n33 c34 h35 => (∃ vs36 : List Value, Src h35 (moren * 1) vs36 moreA ∧ (∀ v ∈ vs36, oneC v = true) ∧ (n33 + moren) * 1 ≤ 140737488355328 ∧ n33 + moren ≤ 9223372036854775807 ∧ AppendV 5 (.int .u8 0 : Value) 1 h35 A32 n33 c34 moren vs36 (fun A41 n42 c43 h44 => CH Tryz.prog 18 #[.pointer y10, .string (ByteArray.mk #[97])] h44 (fun r45 h46 => ∃ y47_0A : Option Addr, ∃ y47_0n : Nat, ∃ y47_0c : Nat, ∃ y47_1 : Int, r45 = .tuple #[.slice y47_0A y47_0n y47_0c, .int .i64 y47_1] ∧ CH Tryz.prog 18 #[.pointer y10, .string (ByteArray.mk #[99])] h46 (fun r48 h49 => ∃ y50_0A : Option Addr, ∃ y50_0n : Nat, ∃ y50_0c : Nat, ∃ y50_1 : Int, r48 = .tuple #[.slice y50_0A y50_0n y50_0c, .int .i64 y50_1] ∧ CH Tryz.prog 28 #[.pointer y10] h49 (fun r51 h52 => ∃ y53_0 : Int, ∃ y53_1 : Int, r51 = .tuple #[.int .i64 y53_0, .int .i64 y53_1] ∧ (((y47_1 != 0) = true → D_treadlelaw3_DiskNamesakes.J4 R  y10 A41 n42 c43 true h52) ∧ ((y47_1 != 0) = false → (((y50_1 != 0) = true → D_treadlelaw3_DiskNamesakes.J4 R  y10 A41 n42 c43 true h52) ∧ ((y50_1 != 0) = false → CH Tryz.prog 19 #[.slice y47_0A y47_0n y47_0c, .slice A41 n42 c43] h52 (fun r116 h117 => ∃ y118 : Bool, r116 = .bool y118 ∧ (((!y118) = true → D_treadlelaw3_DiskNamesakes.J4 R  y10 A41 n42 c43 true h117) ∧ ((!y118) = false → CH Tryz.prog 19 #[.slice y50_0A y50_0n y50_0c, .slice A41 n42 c43] h117 (fun r120 h121 => ∃ y122 : Bool, r120 = .bool y122 ∧ (((!y122) = true → D_treadlelaw3_DiskNamesakes.J4 R  y10 A41 n42 c43 true h121) ∧ ((!y122) = false → (((y53_0 != ((n42 : Nat) : Int)) = true → D_treadlelaw3_DiskNamesakes.J4 R  y10 A41 n42 c43 true h121) ∧ ((y53_0 != ((n42 : Nat) : Int)) = false → (((y53_1 != 1) = true → D_treadlelaw3_DiskNamesakes.J4 R  y10 A41 n42 c43 true h121) ∧ ((y53_1 != 1) = false → CH Tryz.prog 13 #[.pointer y10, .string (ByteArray.mk #[97])] h121 (fun r126 h127 => ∃ y128 : Int, r126 = .int .i64 y128 ∧ (((y128 != 0) = true → D_treadlelaw3_DiskNamesakes.J4 R  y10 A41 n42 c43 true h127) ∧ ((y128 != 0) = false → CH Tryz.prog 29 #[.pointer y10, .string (ByteArray.mk #[97])] h127 (fun r130 h131 => ∃ y132 : Int, r130 = .int .i64 y132 ∧ (((y132 != 0) = true → D_treadlelaw3_DiskNamesakes.J4 R  y10 A41 n42 c43 true h131) ∧ ((y132 != 0) = false → CH Tryz.prog 14 #[.pointer y10] h131 (fun r134 h135 => ∃ y136 : Int, r134 = .int .i64 y136 ∧ D_treadlelaw3_DiskNamesakes.J4 R  y10 A41 n42 c43 (y136 != 0) h135)))))))))))))))))))))))))))))))
def D_treadlelaw3_DiskNamesakes.J2 (R : Value → Hp → Prop)  (baseA : Option Addr) (basen : Nat) (moreA : Option Addr) (moren : Nat) (morec : Nat) (y10 : Option Addr) (j11 : Bool) (h12 : Hp) : Prop :=
  ((j11 = true → R (.bool false) h12) ∧ (j11 = false → (∀ b15 h14, b15 = Array.size h12 → h14 = Array.push h12 (.cells #[.int .i64 0] 3) → CH Tryz.prog 20 #[.pointer y10, .agg #[.int .i64 2, .slice (some (Addr.mk b15 0 none)) 1 1, .slice none 0 0]] h14 (fun r16 h17 => ∃ y18A : Option Addr, ∃ y18n : Nat, ∃ y18c : Nat, r16 = .slice y18A y18n y18c ∧ CH Tryz.prog 26 #[.pointer y10] h17 (fun r19 h20 => ∃ y21_0A : Option Addr, ∃ y21_0n : Nat, ∃ y21_0c : Nat, ∃ y21_1 : Int, r19 = .tuple #[.slice y21_0A y21_0n y21_0c, .int .i64 y21_1] ∧ (((y21_1 != 0) = true → D_treadlelaw3_DiskNamesakes.J3 R  baseA basen moreA moren y10 true h20) ∧ ((y21_1 != 0) = false → (∀ b149 h148, b149 = Array.size h20 → h148 = Array.push h20 (.cells #[.string (ByteArray.mk #[97]), .string (ByteArray.mk #[99])] 9) → CH Tryz.prog 27 #[.slice y21_0A y21_0n y21_0c, .slice (some (Addr.mk b149 0 none)) 2 2] h148 (fun r150 h151 => ∃ y152 : Bool, r150 = .bool y152 ∧ (((!y152) = true → D_treadlelaw3_DiskNamesakes.J3 R  baseA basen moreA moren y10 true h151) ∧ ((!y152) = false → CH Tryz.prog 12 #[.pointer y10, .string (ByteArray.mk #[99]), .slice moreA moren morec] h151 (fun r154 h155 => ∃ y156 : Int, r154 = .int .i64 y156 ∧ D_treadlelaw3_DiskNamesakes.J3 R  baseA basen moreA moren y10 (y156 != 0) h155))))))))))))
def D_treadlelaw3_DiskNamesakes.J1 (R : Value → Hp → Prop)  (baseA : Option Addr) (basen : Nat) (basec : Nat) (moreA : Option Addr) (moren : Nat) (morec : Nat) (j1 : Bool) (h2 : Hp) : Prop :=
  ((j1 = true → CH Tryz.prog 9 #[] h2 (fun r4 h5 => ∃ y6 : Bool, r4 = .bool y6 ∧ R (.bool y6) h5)) ∧ (j1 = false → CH Tryz.prog 10 #[.int .i64 4194304, .int .i64 2] h2 (fun r8 h9 => ∃ y10 : Option Addr, r8 = .pointer y10 ∧ (((Option.isNone y10) = true → D_treadlelaw3_DiskNamesakes.J2 R  baseA basen moreA moren morec y10 true h9) ∧ ((Option.isNone y10) = false → CH Tryz.prog 11 #[.pointer y10, .string (ByteArray.mk #[97])] h9 (fun r166 h167 => ∃ y168 : Int, r166 = .int .i64 y168 ∧ (((y168 != 0) = true → D_treadlelaw3_DiskNamesakes.J2 R  baseA basen moreA moren morec y10 true h167) ∧ ((y168 != 0) = false → CH Tryz.prog 12 #[.pointer y10, .string (ByteArray.mk #[97]), .slice baseA basen basec] h167 (fun r170 h171 => ∃ y172 : Int, r170 = .int .i64 y172 ∧ (((y172 != 0) = true → D_treadlelaw3_DiskNamesakes.J2 R  baseA basen moreA moren morec y10 true h171) ∧ ((y172 != 0) = false → CH Tryz.prog 13 #[.pointer y10, .string (ByteArray.mk #[97])] h171 (fun r174 h175 => ∃ y176 : Int, r174 = .int .i64 y176 ∧ (((y176 != 0) = true → D_treadlelaw3_DiskNamesakes.J2 R  baseA basen moreA moren morec y10 true h175) ∧ ((y176 != 0) = false → CH Tryz.prog 14 #[.pointer y10] h175 (fun r178 h179 => ∃ y180 : Int, r178 = .int .i64 y180 ∧ (((y180 != 0) = true → D_treadlelaw3_DiskNamesakes.J2 R  baseA basen moreA moren morec y10 true h179) ∧ ((y180 != 0) = false → CH Tryz.prog 25 #[.pointer y10, .string (ByteArray.mk #[97]), .string (ByteArray.mk #[98])] h179 (fun r182 h183 => ∃ y184 : Int, r182 = .int .i64 y184 ∧ (((y184 != 0) = true → D_treadlelaw3_DiskNamesakes.J2 R  baseA basen moreA moren morec y10 true h183) ∧ ((y184 != 0) = false → CH Tryz.prog 25 #[.pointer y10, .string (ByteArray.mk #[98]), .string (ByteArray.mk #[99])] h183 (fun r186 h187 => ∃ y188 : Int, r186 = .int .i64 y188 ∧ D_treadlelaw3_DiskNamesakes.J2 R  baseA basen moreA moren morec y10 (y188 != 0) h187)))))))))))))))))))))
def D_treadlelaw3_DiskNamesakes (R : Value → Hp → Prop) (baseA : Option Addr) (basen : Nat) (basec : Nat) (moreA : Option Addr) (moren : Nat) (morec : Nat) (h : Hp) : Prop :=
  (((decide (((basen : Nat) : Int) > 200000)) = true → D_treadlelaw3_DiskNamesakes.J1 R  baseA basen basec moreA moren morec true h) ∧ ((decide (((basen : Nat) : Int) > 200000)) = false → D_treadlelaw3_DiskNamesakes.J1 R  baseA basen basec moreA moren morec (decide (((moren : Nat) : Int) > 200000)) h))
set_option maxRecDepth 10000 in
set_option maxHeartbeats 4000000 in
theorem D_treadlelaw3_DiskNamesakes.sound {R : Value → Hp → Prop} {baseA : Option Addr} {basen : Nat} {basec : Nat} {moreA : Option Addr} {moren : Nat} {morec : Nat} {h : Hp} (H : D_treadlelaw3_DiskNamesakes R  baseA basen basec moreA moren morec h) : CH Tryz.prog 6 #[.slice baseA basen basec, .slice moreA moren morec] h R := by
  refine CHE.enter (n := 205) Tryz.func6 rfl rfl (Nat.le_of_ble_eq_true rfl) ?_
  unfold D_treadlelaw3_DiskNamesakes at H
  refine VC.seq ?_
  refine VC.region ?_
  refine VL.stepD rfl rfl (by decide) (OE.assignV (v := .bool false) rfl ?_)
  refine VL.nil ?_
  change VC _ _ _ _ _ _ _
  refine VC.seq ?_
  refine VC.seqJ (fun f h2 => ∃ j1 : Bool, f 0 = (.slice baseA basen basec : Value) ∧ f 1 = (.slice moreA moren morec : Value) ∧ f 22 = (.bool j1 : Value) ∧ D_treadlelaw3_DiskNamesakes.J1 R  baseA basen basec moreA moren morec j1 h2) ?_ ?_
  · intro f h2 J
    obtain ⟨j1, hk0, hk1, hk22, H⟩ := J
    rw [← fr_self f [(0, .slice baseA basen basec), (1, .slice moreA moren morec), (22, .bool j1)] (by simp only [List.mem_cons, List.not_mem_nil, or_false]; rintro p (rfl | rfl | rfl) <;> assumption)]
    unfold D_treadlelaw3_DiskNamesakes.J1 at H
    refine VC.cond (t := j1) rfl (fun e3 => ?_) (fun e3 => ?_)
    · have H := H.1 e3
      refine VC.seq ?_
      refine VC.region ?_
      refine VL.stepD rfl rfl (by decide) (OE.callL (args := []) Tryz.func9 rfl Tryz.nn9 rfl rfl (CHE.mono H (fun r4 h5 H => ?_) (fun _ _ e => e.elim)))
      obtain ⟨y6, rfl, H⟩ := H
      refine VL.stepD rfl rfl (by decide) (OE.assignV (v := .bool y6) rfl ?_)
      refine VL.nil ?_
      change VC _ _ _ _ _ _ _
      refine VC.ret ?_
      exact ⟨rfl, _, ResOK.t1 rfl (v := .bool y6) rfl, H⟩
    · have H := H.2 e3
      refine VC.skip ?_
      change VC _ _ _ _ _ _ _
      refine VC.seq ?_
      refine VC.region ?_
      refine VL.stepD rfl rfl (by decide) (OE.callL (args := [.int .i64 4194304, .int .i64 2]) Tryz.func10 rfl Tryz.nn10 rfl rfl (CHE.mono H (fun r8 h9 H => ?_) (fun _ _ e => e.elim)))
      obtain ⟨y10, rfl, H⟩ := H
      refine VL.stepD rfl rfl (by decide) (OE.assignV (v := .pointer y10) rfl ?_)
      refine VL.nil ?_
      change VC _ _ _ _ _ _ _
      refine VC.seq ?_
      refine VC.seqJ (fun f h12 => ∃ j11 : Bool, f 0 = (.slice baseA basen basec : Value) ∧ f 1 = (.slice moreA moren morec : Value) ∧ f 5 = (.pointer y10 : Value) ∧ f 57 = (.bool j11 : Value) ∧ D_treadlelaw3_DiskNamesakes.J2 R  baseA basen moreA moren morec y10 j11 h12) ?_ ?_
      · intro f h12 J
        obtain ⟨j11, hk0, hk1, hk5, hk57, H⟩ := J
        rw [← fr_self f [(0, .slice baseA basen basec), (1, .slice moreA moren morec), (5, .pointer y10), (57, .bool j11)] (by simp only [List.mem_cons, List.not_mem_nil, or_false]; rintro p (rfl | rfl | rfl | rfl) <;> assumption)]
        unfold D_treadlelaw3_DiskNamesakes.J2 at H
        refine VC.cond (t := j11) rfl (fun e13 => ?_) (fun e13 => ?_)
        · have H := H.1 e13
          refine VC.seq ?_
          refine VC.region ?_
          refine VL.stepD rfl rfl (by decide) (OE.assignV (v := .bool false) rfl ?_)
          refine VL.nil ?_
          change VC _ _ _ _ _ _ _
          refine VC.ret ?_
          exact ⟨rfl, _, ResOK.t1 rfl (v := .bool false) rfl, H⟩
        · have H := H.2 e13
          refine VC.skip ?_
          change VC _ _ _ _ _ _ _
          refine VC.seq ?_
          refine VC.region ?_
          refine VL.stepD rfl rfl (by decide) (OE.moveV (v := .pointer y10) rfl ?_)
          obtain ⟨b15, eb163⟩ : ∃ b15, b15 = Array.size h12 := ⟨_, rfl⟩
          obtain ⟨h14, eh164⟩ : ∃ h14, h14 = Array.push h12 (.cells #[.int .i64 0] 3) := ⟨_, rfl⟩
          have H := H b15 h14 eb163 eh164
          refine VL.stepD rfl rfl (by decide) (OE.buildSliceE (ps := [(0, (.int .i64 0 : Value))]) (cells := #[.int .i64 0]) (e := 3) rfl (Tryz.bf6 _) eb163 eh164 ?_)
          refine VL.stepD rfl rfl (by decide) (OE.buildV (ps := [(0, (.int .i64 2 : Value)), (1, (.slice (some (Addr.mk b15 0 none)) 1 1 : Value))]) rfl (Tryz.bf37 _ _ _ _) ?_)
          refine VL.stepD rfl rfl (by decide) (OE.callL (args := [.pointer y10, .agg #[.int .i64 2, .slice (some (Addr.mk b15 0 none)) 1 1, .slice none 0 0]]) Tryz.func20 rfl Tryz.nn20 rfl rfl (CHE.mono H (fun r16 h17 H => ?_) (fun _ _ e => e.elim)))
          obtain ⟨y18A, y18n, y18c, rfl, H⟩ := H
          refine VL.nil ?_
          change VC _ _ _ _ _ _ _
          refine VC.seq ?_
          refine VC.region ?_
          refine VL.stepD rfl rfl (by decide) (OE.moveV (v := .pointer y10) rfl ?_)
          refine VL.stepD rfl rfl (by decide) (OE.callL (args := [.pointer y10]) Tryz.func26 rfl Tryz.nn26 rfl rfl (CHE.mono H (fun r19 h20 H => ?_) (fun _ _ e => e.elim)))
          obtain ⟨y21_0A, y21_0n, y21_0c, y21_1, rfl, H⟩ := H
          refine VL.stepD rfl rfl (by decide) (OE.moveV (v := .tuple #[.slice y21_0A y21_0n y21_0c, .int .i64 y21_1]) rfl ?_)
          refine VL.stepD rfl rfl (by decide) (OE.extract (v := .slice y21_0A y21_0n y21_0c) rfl rfl ?_)
          refine VL.stepD rfl rfl (by decide) (OE.extract (v := .int .i64 y21_1) rfl rfl ?_)
          refine VL.stepD rfl rfl (by decide) (OE.assignV (v := .slice y21_0A y21_0n y21_0c) rfl ?_)
          refine VL.stepD rfl rfl (by decide) (OE.assignV (v := .int .i64 y21_1) rfl ?_)
          refine VL.nil ?_
          change VC _ _ _ _ _ _ _
          refine VC.seq ?_
          refine VC.seqJ (fun f h23 => ∃ j22 : Bool, f 0 = (.slice baseA basen basec : Value) ∧ f 1 = (.slice moreA moren morec : Value) ∧ f 5 = (.pointer y10 : Value) ∧ f 80 = (.bool j22 : Value) ∧ D_treadlelaw3_DiskNamesakes.J3 R  baseA basen moreA moren y10 j22 h23) ?_ ?_
          · intro f h23 J
            obtain ⟨j22, hk0, hk1, hk5, hk80, H⟩ := J
            rw [← fr_self f [(0, .slice baseA basen basec), (1, .slice moreA moren morec), (5, .pointer y10), (80, .bool j22)] (by simp only [List.mem_cons, List.not_mem_nil, or_false]; rintro p (rfl | rfl | rfl | rfl) <;> assumption)]
            unfold D_treadlelaw3_DiskNamesakes.J3 at H
            refine VC.cond (t := j22) rfl (fun e24 => ?_) (fun e24 => ?_)
            · have H := H.1 e24
              refine VC.seq ?_
              refine VC.region ?_
              refine VL.stepD rfl rfl (by decide) (OE.assignV (v := .bool false) rfl ?_)
              refine VL.nil ?_
              change VC _ _ _ _ _ _ _
              refine VC.ret ?_
              exact ⟨rfl, _, ResOK.t1 rfl (v := .bool false) rfl, H⟩
            · have H := H.2 e24
              refine VC.skip ?_
              change VC _ _ _ _ _ _ _
              refine VC.seq ?_
              refine VC.region ?_
              obtain ⟨b26, eb145⟩ : ∃ b26, b26 = Array.size h23 := ⟨_, rfl⟩
              obtain ⟨h25, eh146⟩ : ∃ h25, h25 = Array.push h23 (.cells #[] 5) := ⟨_, rfl⟩
              have H := H b26 h25 eb145 eh146
              refine VL.stepD rfl rfl (by decide) (OE.buildSliceE (ps := []) (cells := #[]) (e := 5) rfl (Tryz.bf16) eb145 eh146 ?_)
              refine VL.stepD rfl rfl (by decide) (OE.moveV (v := .slice baseA basen basec) rfl ?_)
              obtain ⟨vs27, z28, z29, z30, z31, H⟩ := H
              refine VL.stepD rfl rfl (by decide) (OE.appendV (z := (.int .u8 0 : Value)) (sz := 1) (bs := 1) rfl rfl Tryz.underlying22 Tryz.i5 z28 z29 z30 z31 (AppendV.mono H (fun A32 n33 c34 h35 H => ?_)))
              refine VL.stepD rfl rfl (by decide) (OE.moveV (v := .slice moreA moren morec) rfl ?_)
              obtain ⟨vs36, z37, z38, z39, z40, H⟩ := H
              refine VL.stepD rfl rfl (by decide) (OE.appendV (z := (.int .u8 0 : Value)) (sz := 1) (bs := 1) rfl rfl Tryz.underlying22 Tryz.i5 z37 z38 z39 z40 (AppendV.mono H (fun A41 n42 c43 h44 H => ?_)))
              refine VL.stepD rfl rfl (by decide) (OE.assignV (v := .slice A41 n42 c43) rfl ?_)
              refine VL.nil ?_
              change VC _ _ _ _ _ _ _
              refine VC.seq ?_
              refine VC.region ?_
              refine VL.stepD rfl rfl (by decide) (OE.moveV (v := .pointer y10) rfl ?_)
              refine VL.stepD rfl rfl (by decide) (OE.callL (args := [.pointer y10, .string (ByteArray.mk #[97])]) Tryz.func18 rfl Tryz.nn18 rfl rfl (CHE.mono H (fun r45 h46 H => ?_) (fun _ _ e => e.elim)))
              obtain ⟨y47_0A, y47_0n, y47_0c, y47_1, rfl, H⟩ := H
              refine VL.stepD rfl rfl (by decide) (OE.moveV (v := .tuple #[.slice y47_0A y47_0n y47_0c, .int .i64 y47_1]) rfl ?_)
              refine VL.stepD rfl rfl (by decide) (OE.extract (v := .slice y47_0A y47_0n y47_0c) rfl rfl ?_)
              refine VL.stepD rfl rfl (by decide) (OE.extract (v := .int .i64 y47_1) rfl rfl ?_)
              refine VL.stepD rfl rfl (by decide) (OE.assignV (v := .slice y47_0A y47_0n y47_0c) rfl ?_)
              refine VL.stepD rfl rfl (by decide) (OE.assignV (v := .int .i64 y47_1) rfl ?_)
              refine VL.nil ?_
              change VC _ _ _ _ _ _ _
              refine VC.seq ?_
              refine VC.region ?_
              refine VL.stepD rfl rfl (by decide) (OE.moveV (v := .pointer y10) rfl ?_)
              refine VL.stepD rfl rfl (by decide) (OE.callL (args := [.pointer y10, .string (ByteArray.mk #[99])]) Tryz.func18 rfl Tryz.nn18 rfl rfl (CHE.mono H (fun r48 h49 H => ?_) (fun _ _ e => e.elim)))
              obtain ⟨y50_0A, y50_0n, y50_0c, y50_1, rfl, H⟩ := H
              refine VL.stepD rfl rfl (by decide) (OE.moveV (v := .tuple #[.slice y50_0A y50_0n y50_0c, .int .i64 y50_1]) rfl ?_)
              refine VL.stepD rfl rfl (by decide) (OE.extract (v := .slice y50_0A y50_0n y50_0c) rfl rfl ?_)
              refine VL.stepD rfl rfl (by decide) (OE.extract (v := .int .i64 y50_1) rfl rfl ?_)
              refine VL.stepD rfl rfl (by decide) (OE.assignV (v := .slice y50_0A y50_0n y50_0c) rfl ?_)
              refine VL.stepD rfl rfl (by decide) (OE.assignV (v := .int .i64 y50_1) rfl ?_)
              refine VL.nil ?_
              change VC _ _ _ _ _ _ _
              refine VC.seq ?_
              refine VC.region ?_
              refine VL.stepD rfl rfl (by decide) (OE.moveV (v := .pointer y10) rfl ?_)
              refine VL.stepD rfl rfl (by decide) (OE.callL (args := [.pointer y10]) Tryz.func28 rfl Tryz.nn28 rfl rfl (CHE.mono H (fun r51 h52 H => ?_) (fun _ _ e => e.elim)))
              obtain ⟨y53_0, y53_1, rfl, H⟩ := H
              refine VL.stepD rfl rfl (by decide) (OE.moveV (v := .tuple #[.int .i64 y53_0, .int .i64 y53_1]) rfl ?_)
              refine VL.stepD rfl rfl (by decide) (OE.extract (v := .int .i64 y53_0) rfl rfl ?_)
              refine VL.stepD rfl rfl (by decide) (OE.extract (v := .int .i64 y53_1) rfl rfl ?_)
              refine VL.stepD rfl rfl (by decide) (OE.assignV (v := .int .i64 y53_0) rfl ?_)
              refine VL.stepD rfl rfl (by decide) (OE.assignV (v := .int .i64 y53_1) rfl ?_)
              refine VL.nil ?_
              change VC _ _ _ _ _ _ _
              refine VC.seq ?_
              refine VC.seqJ (fun f h55 => ∃ j54 : Bool, f 5 = (.pointer y10 : Value) ∧ f 8 = (.slice A41 n42 c43 : Value) ∧ f 143 = (.bool j54 : Value) ∧ D_treadlelaw3_DiskNamesakes.J4 R  y10 A41 n42 c43 j54 h55) ?_ ?_
              · intro f h55 J
                obtain ⟨j54, hk5, hk8, hk143, H⟩ := J
                rw [← fr_self f [(5, .pointer y10), (8, .slice A41 n42 c43), (143, .bool j54)] (by simp only [List.mem_cons, List.not_mem_nil, or_false]; rintro p (rfl | rfl | rfl) <;> assumption)]
                unfold D_treadlelaw3_DiskNamesakes.J4 at H
                refine VC.cond (t := j54) rfl (fun e56 => ?_) (fun e56 => ?_)
                · have H := H.1 e56
                  refine VC.seq ?_
                  refine VC.region ?_
                  refine VL.stepD rfl rfl (by decide) (OE.assignV (v := .bool false) rfl ?_)
                  refine VL.nil ?_
                  change VC _ _ _ _ _ _ _
                  refine VC.ret ?_
                  exact ⟨rfl, _, ResOK.t1 rfl (v := .bool false) rfl, H⟩
                · have H := H.2 e56
                  refine VC.skip ?_
                  change VC _ _ _ _ _ _ _
                  refine VC.seq ?_
                  refine VC.region ?_
                  refine VL.stepD rfl rfl (by decide) (OE.moveV (v := .pointer y10) rfl ?_)
                  refine VL.stepD rfl rfl (by decide) (OE.buildV (ps := []) rfl (Tryz.bf33) ?_)
                  refine VL.stepD rfl rfl (by decide) (OE.callL (args := [.pointer y10, .agg #[.int .i64 0, .slice none 0 0, .slice none 0 0]]) Tryz.func20 rfl Tryz.nn20 rfl rfl (CHE.mono H (fun r57 h58 H => ?_) (fun _ _ e => e.elim)))
                  obtain ⟨y59A, y59n, y59c, rfl, H⟩ := H
                  refine VL.nil ?_
                  change VC _ _ _ _ _ _ _
                  refine VC.seq ?_
                  refine VC.region ?_
                  refine VL.stepD rfl rfl (by decide) (OE.moveV (v := .pointer y10) rfl ?_)
                  refine VL.stepD rfl rfl (by decide) (OE.callL (args := [.pointer y10]) Tryz.func30 rfl Tryz.nn30 rfl rfl (CHE.mono H (fun r60 h61 H => ?_) (fun _ _ e => e.elim)))
                  obtain ⟨y62A, y62n, y62c, rfl, H⟩ := H
                  refine VL.stepD rfl rfl (by decide) (OE.assignV (v := .slice y62A y62n y62c) rfl ?_)
                  refine VL.nil ?_
                  change VC _ _ _ _ _ _ _
                  refine VC.seq ?_
                  refine VC.seqJ (fun f h64 => ∃ j63 : Bool, f 5 = (.pointer y10 : Value) ∧ f 8 = (.slice A41 n42 c43 : Value) ∧ f 172 = (.bool j63 : Value) ∧ D_treadlelaw3_DiskNamesakes.J5 R  y10 n42 j63 h64) ?_ ?_
                  · intro f h64 J
                    obtain ⟨j63, hk5, hk8, hk172, H⟩ := J
                    rw [← fr_self f [(5, .pointer y10), (8, .slice A41 n42 c43), (172, .bool j63)] (by simp only [List.mem_cons, List.not_mem_nil, or_false]; rintro p (rfl | rfl | rfl) <;> assumption)]
                    unfold D_treadlelaw3_DiskNamesakes.J5 at H
                    refine VC.cond (t := j63) rfl (fun e65 => ?_) (fun e65 => ?_)
                    · have H := H.1 e65
                      refine VC.seq ?_
                      refine VC.region ?_
                      refine VL.stepD rfl rfl (by decide) (OE.assignV (v := .bool false) rfl ?_)
                      refine VL.nil ?_
                      change VC _ _ _ _ _ _ _
                      refine VC.ret ?_
                      exact ⟨rfl, _, ResOK.t1 rfl (v := .bool false) rfl, H⟩
                    · have H := H.2 e65
                      refine VC.skip ?_
                      change VC _ _ _ _ _ _ _
                      refine VC.seq ?_
                      refine VC.region ?_
                      refine VL.stepD rfl rfl (by decide) (OE.moveV (v := .pointer y10) rfl ?_)
                      refine VL.stepD rfl rfl (by decide) (OE.callL (args := [.pointer y10]) Tryz.func28 rfl Tryz.nn28 rfl rfl (CHE.mono H (fun r66 h67 H => ?_) (fun _ _ e => e.elim)))
                      obtain ⟨y68_0, y68_1, rfl, H⟩ := H
                      refine VL.stepD rfl rfl (by decide) (OE.moveV (v := .tuple #[.int .i64 y68_0, .int .i64 y68_1]) rfl ?_)
                      refine VL.stepD rfl rfl (by decide) (OE.extract (v := .int .i64 y68_0) rfl rfl ?_)
                      refine VL.stepD rfl rfl (by decide) (OE.extract (v := .int .i64 y68_1) rfl rfl ?_)
                      refine VL.stepD rfl rfl (by decide) (OE.assignV (v := .int .i64 y68_0) rfl ?_)
                      refine VL.stepD rfl rfl (by decide) (OE.assignV (v := .int .i64 y68_1) rfl ?_)
                      refine VL.nil ?_
                      change VC _ _ _ _ _ _ _
                      refine VC.seq ?_
                      refine VC.seqJ (fun f h70 => ∃ j69 : Bool, f 5 = (.pointer y10 : Value) ∧ f 190 = (.bool j69 : Value) ∧ D_treadlelaw3_DiskNamesakes.J6 R  y10 j69 h70) ?_ ?_
                      · intro f h70 J
                        obtain ⟨j69, hk5, hk190, H⟩ := J
                        rw [← fr_self f [(5, .pointer y10), (190, .bool j69)] (by simp only [List.mem_cons, List.not_mem_nil, or_false]; rintro p (rfl | rfl) <;> assumption)]
                        unfold D_treadlelaw3_DiskNamesakes.J6 at H
                        refine VC.cond (t := j69) rfl (fun e71 => ?_) (fun e71 => ?_)
                        · have H := H.1 e71
                          refine VC.seq ?_
                          refine VC.region ?_
                          refine VL.stepD rfl rfl (by decide) (OE.assignV (v := .bool false) rfl ?_)
                          refine VL.nil ?_
                          change VC _ _ _ _ _ _ _
                          refine VC.ret ?_
                          exact ⟨rfl, _, ResOK.t1 rfl (v := .bool false) rfl, H⟩
                        · have H := H.2 e71
                          refine VC.skip ?_
                          change VC _ _ _ _ _ _ _
                          refine VC.seq ?_
                          refine VC.region ?_
                          refine VL.stepD rfl rfl (by decide) (OE.moveV (v := .pointer y10) rfl ?_)
                          refine VL.stepD rfl rfl (by decide) (OE.callL (args := [.pointer y10]) Tryz.func28 rfl Tryz.nn28 rfl rfl (CHE.mono H (fun r72 h73 H => ?_) (fun _ _ e => e.elim)))
                          obtain ⟨y74_0, y74_1, rfl, H⟩ := H
                          refine VL.stepD rfl rfl (by decide) (OE.moveV (v := .tuple #[.int .i64 y74_0, .int .i64 y74_1]) rfl ?_)
                          refine VL.stepD rfl rfl (by decide) (OE.extract (v := .int .i64 y74_0) rfl rfl ?_)
                          refine VL.stepD rfl rfl (by decide) (OE.extract (v := .int .i64 y74_1) rfl rfl ?_)
                          refine VL.stepD rfl rfl (by decide) (OE.assignV (v := .int .i64 y74_0) rfl ?_)
                          refine VL.stepD rfl rfl (by decide) (OE.assignV (v := .int .i64 y74_1) rfl ?_)
                          refine VL.nil ?_
                          change VC _ _ _ _ _ _ _
                          refine VC.seq ?_
                          refine VC.region ?_
                          refine VL.stepD rfl rfl (by decide) (OE.moveV (v := .int .i64 y74_0) rfl ?_)
                          refine VL.stepD rfl rfl (by decide) (OE.binI (v := .bool (y74_0 == 0)) rfl rfl rfl ?_)
                          refine VL.stepD rfl rfl (by decide) (OE.moveV (v := .bool (y74_0 == 0)) rfl ?_)
                          refine boolSplit ((y74_0 == 0)) (fun e75 => ?_) (fun e75 => ?_)
                          · have H := H.1 e75
                            refine VL.gstepD rfl rfl (by decide) (congrArg Value.bool e75) rfl (by decide) (OE.moveV (v := .int .i64 y74_1) rfl ?_)
                            refine VL.gstepD rfl rfl (by decide) (congrArg Value.bool e75) rfl (by decide) (OE.binI (v := .bool (y74_1 == 0)) rfl rfl rfl ?_)
                            refine VL.stepD rfl rfl (by decide) (OE.pickV (t := true) (v := .bool (y74_1 == 0)) (congrArg Value.bool e75) rfl ?_)
                            refine VL.stepD rfl rfl (by decide) (OE.moveV (v := .bool (y74_1 == 0)) rfl ?_)
                            refine boolSplit ((y74_1 == 0)) (fun e76 => ?_) (fun e76 => ?_)
                            · have H := H.1 e76
                              refine VL.gstepD rfl rfl (by decide) (congrArg Value.bool e76) rfl (by decide) (OE.callL (args := []) Tryz.func9 rfl Tryz.nn9 rfl rfl (CHE.mono H (fun r77 h78 H => ?_) (fun _ _ e => e.elim)))
                              obtain ⟨y79, rfl, H⟩ := H
                              refine VL.stepD rfl rfl (by decide) (OE.pickV (t := true) (v := .bool y79) (congrArg Value.bool e76) rfl ?_)
                              refine VL.stepD rfl rfl (by decide) (OE.assignV (v := .bool y79) rfl ?_)
                              refine VL.nil ?_
                              change VC _ _ _ _ _ _ _
                              refine VC.ret ?_
                              exact ⟨rfl, _, ResOK.t1 rfl (v := .bool y79) rfl, H⟩
                            · have H := H.2 e76
                              refine VL.gskipD rfl rfl (by decide) (.inl (congrArg Value.bool e76)) rfl (by decide) ?_
                              refine VL.stepD rfl rfl (by decide) (OE.pickV (t := false) (v := .bool false) (congrArg Value.bool e76) rfl ?_)
                              refine VL.stepD rfl rfl (by decide) (OE.assignV (v := .bool false) rfl ?_)
                              refine VL.nil ?_
                              change VC _ _ _ _ _ _ _
                              refine VC.ret ?_
                              exact ⟨rfl, _, ResOK.t1 rfl (v := .bool false) rfl, H⟩
                          · have H := H.2 e75
                            refine VL.gskipD rfl rfl (by decide) (.inl (congrArg Value.bool e75)) rfl (by decide) ?_
                            refine VL.gskipD rfl rfl (by decide) (.inl (congrArg Value.bool e75)) rfl (by decide) ?_
                            refine VL.stepD rfl rfl (by decide) (OE.pickV (t := false) (v := .bool false) (congrArg Value.bool e75) rfl ?_)
                            refine VL.stepD rfl rfl (by decide) (OE.moveV (v := .bool false) rfl ?_)
                            refine VL.gskipD rfl rfl (by decide) (.inl rfl) rfl (by decide) ?_
                            refine VL.stepD rfl rfl (by decide) (OE.pickV (t := false) (v := .bool false) rfl rfl ?_)
                            refine VL.stepD rfl rfl (by decide) (OE.assignV (v := .bool false) rfl ?_)
                            refine VL.nil ?_
                            change VC _ _ _ _ _ _ _
                            refine VC.ret ?_
                            exact ⟨rfl, _, ResOK.t1 rfl (v := .bool false) rfl, H⟩
                      · skip
                        refine VC.region ?_
                        refine VL.stepD rfl rfl (by decide) (OE.moveV (v := .int .i64 y68_0) rfl ?_)
                        refine VL.stepD rfl rfl (by decide) (OE.moveV (v := .slice A41 n42 c43) rfl ?_)
                        refine VL.stepD rfl rfl (by decide) (OE.lenSlice rfl Tryz.underlying22 ?_)
                        refine VL.stepD rfl rfl (by decide) (OE.binI (v := .bool (y68_0 != ((n42 : Nat) : Int))) rfl rfl rfl ?_)
                        refine VL.stepD rfl rfl (by decide) (OE.moveV (v := .bool (y68_0 != ((n42 : Nat) : Int))) rfl ?_)
                        refine boolSplit ((y68_0 != ((n42 : Nat) : Int))) (fun e82 => ?_) (fun e82 => ?_)
                        · have H := H.1 e82
                          refine VL.gskipD rfl rfl (by decide) (.inl (congrArg Value.bool e82)) rfl (by decide) ?_
                          refine VL.gskipD rfl rfl (by decide) (.inl (congrArg Value.bool e82)) rfl (by decide) ?_
                          refine VL.stepD rfl rfl (by decide) (OE.pickV (t := true) (v := .bool true) (congrArg Value.bool e82) rfl ?_)
                          refine VL.stepD rfl rfl (by decide) (OE.moveV (v := .bool true) rfl ?_)
                          refine VL.gskipD rfl rfl (by decide) (.inl rfl) rfl (by decide) ?_
                          refine VL.gskipD rfl rfl (by decide) (.inl rfl) rfl (by decide) ?_
                          refine VL.gskipD rfl rfl (by decide) (.inl rfl) rfl (by decide) ?_
                          refine VL.stepD rfl rfl (by decide) (OE.pickV (t := true) (v := .bool true) rfl rfl ?_)
                          refine VL.nil ?_
                          exact ⟨rfl, true, rfl, rfl, H⟩
                        · have H := H.2 e82
                          refine VL.gstepD rfl rfl (by decide) (congrArg Value.bool e82) rfl (by decide) (OE.moveV (v := .int .i64 y68_1) rfl ?_)
                          refine VL.gstepD rfl rfl (by decide) (congrArg Value.bool e82) rfl (by decide) (OE.binI (v := .bool (y68_1 != 1)) rfl rfl rfl ?_)
                          refine VL.stepD rfl rfl (by decide) (OE.pickV (t := false) (v := .bool (y68_1 != 1)) (congrArg Value.bool e82) rfl ?_)
                          refine VL.stepD rfl rfl (by decide) (OE.moveV (v := .bool (y68_1 != 1)) rfl ?_)
                          refine boolSplit ((y68_1 != 1)) (fun e83 => ?_) (fun e83 => ?_)
                          · have H := H.1 e83
                            refine VL.gskipD rfl rfl (by decide) (.inl (congrArg Value.bool e83)) rfl (by decide) ?_
                            refine VL.gskipD rfl rfl (by decide) (.inl (congrArg Value.bool e83)) rfl (by decide) ?_
                            refine VL.gskipD rfl rfl (by decide) (.inl (congrArg Value.bool e83)) rfl (by decide) ?_
                            refine VL.stepD rfl rfl (by decide) (OE.pickV (t := true) (v := .bool true) (congrArg Value.bool e83) rfl ?_)
                            refine VL.nil ?_
                            exact ⟨rfl, true, rfl, rfl, H⟩
                          · have H := H.2 e83
                            refine VL.gstepD rfl rfl (by decide) (congrArg Value.bool e83) rfl (by decide) (OE.moveV (v := .pointer y10) rfl ?_)
                            refine VL.gstepD rfl rfl (by decide) (congrArg Value.bool e83) rfl (by decide) (OE.callL (args := [.pointer y10]) Tryz.func14 rfl Tryz.nn14 rfl rfl (CHE.mono H (fun r84 h85 H => ?_) (fun _ _ e => e.elim)))
                            obtain ⟨y86, rfl, H⟩ := H
                            refine VL.gstepD rfl rfl (by decide) (congrArg Value.bool e83) rfl (by decide) (OE.binI (v := .bool (y86 != 0)) rfl rfl rfl ?_)
                            refine VL.stepD rfl rfl (by decide) (OE.pickV (t := false) (v := .bool (y86 != 0)) (congrArg Value.bool e83) rfl ?_)
                            refine VL.nil ?_
                            exact ⟨rfl, (y86 != 0), rfl, rfl, H⟩
                  · skip
                    refine VC.region ?_
                    refine VL.stepD rfl rfl (by decide) (OE.moveV (v := .slice y62A y62n y62c) rfl ?_)
                    refine VL.stepD rfl rfl (by decide) (OE.lenSlice rfl Tryz.underlying42 ?_)
                    refine VL.stepD rfl rfl (by decide) (OE.binI (v := .bool (((y62n : Nat) : Int) != 1)) rfl rfl rfl ?_)
                    refine VL.stepD rfl rfl (by decide) (OE.moveV (v := .bool (((y62n : Nat) : Int) != 1)) rfl ?_)
                    refine boolSplit ((((y62n : Nat) : Int) != 1)) (fun e89 => ?_) (fun e89 => ?_)
                    · have H := H.1 e89
                      refine VL.gskipD rfl rfl (by decide) (.inl (congrArg Value.bool e89)) rfl (by decide) ?_
                      refine VL.gskipD rfl rfl (by decide) (.inl (congrArg Value.bool e89)) rfl (by decide) ?_
                      refine VL.gskipD rfl rfl (by decide) (.inl (congrArg Value.bool e89)) rfl (by decide) ?_
                      refine VL.gskipD rfl rfl (by decide) (.inl (congrArg Value.bool e89)) rfl (by decide) ?_
                      refine VL.gskipD rfl rfl (by decide) (.inl (congrArg Value.bool e89)) rfl (by decide) ?_
                      refine VL.stepD rfl rfl (by decide) (OE.pickV (t := true) (v := .bool true) (congrArg Value.bool e89) rfl ?_)
                      refine VL.stepD rfl rfl (by decide) (OE.moveV (v := .bool true) rfl ?_)
                      refine VL.gskipD rfl rfl (by decide) (.inl rfl) rfl (by decide) ?_
                      refine VL.gskipD rfl rfl (by decide) (.inl rfl) rfl (by decide) ?_
                      refine VL.gskipD rfl rfl (by decide) (.inl rfl) rfl (by decide) ?_
                      refine VL.gskipD rfl rfl (by decide) (.inl rfl) rfl (by decide) ?_
                      refine VL.gskipD rfl rfl (by decide) (.inl rfl) rfl (by decide) ?_
                      refine VL.gskipD rfl rfl (by decide) (.inl rfl) rfl (by decide) ?_
                      refine VL.gskipD rfl rfl (by decide) (.inl rfl) rfl (by decide) ?_
                      refine VL.stepD rfl rfl (by decide) (OE.pickV (t := true) (v := .bool true) rfl rfl ?_)
                      refine VL.stepD rfl rfl (by decide) (OE.moveV (v := .bool true) rfl ?_)
                      refine VL.gskipD rfl rfl (by decide) (.inl rfl) rfl (by decide) ?_
                      refine VL.gskipD rfl rfl (by decide) (.inl rfl) rfl (by decide) ?_
                      refine VL.gskipD rfl rfl (by decide) (.inl rfl) rfl (by decide) ?_
                      refine VL.stepD rfl rfl (by decide) (OE.pickV (t := true) (v := .bool true) rfl rfl ?_)
                      refine VL.nil ?_
                      exact ⟨rfl, true, rfl, rfl, rfl, H⟩
                    · have H := H.2 e89
                      refine VL.gstepD rfl rfl (by decide) (congrArg Value.bool e89) rfl (by decide) (OE.moveV (v := .slice y62A y62n y62c) rfl ?_)
                      obtain ⟨a90, e91, z92, z93, H⟩ := H
                      refine VL.gstepD rfl rfl (by decide) (congrArg Value.bool e89) rfl (by decide) (OE.indexAddrI (sz := 2) rfl rfl Tryz.underlying42 Tryz.i61 e91 z92 z93 ?_)
                      refine VL.gstepD rfl rfl (by decide) (congrArg Value.bool e89) rfl (by decide) (OE.fieldAddrI (a := (a90.add (Int.toNat 0 * 2))) (o := 0) rfl Tryz.underlying61 rfl Tryz.i9 (by decide) rfl ?_)
                      obtain ⟨x94, hl95, H⟩ := H
                      refine VL.gstepD rfl rfl (by decide) (congrArg Value.bool e89) rfl (by decide) (OE.load (a := (a90.add (Int.toNat 0 * 2))) (v := .string x94) rfl (LdT.one Tryz.underlying9 rfl hl95) ?_)
                      refine VL.gstepD rfl rfl (by decide) (congrArg Value.bool e89) rfl (by decide) (OE.binS (v := .bool (!(x94.toList == (ByteArray.mk #[99]).toList))) rfl rfl rfl ?_)
                      refine VL.stepD rfl rfl (by decide) (OE.pickV (t := false) (v := .bool (!(x94.toList == (ByteArray.mk #[99]).toList))) (congrArg Value.bool e89) rfl ?_)
                      refine VL.stepD rfl rfl (by decide) (OE.moveV (v := .bool (!(x94.toList == (ByteArray.mk #[99]).toList))) rfl ?_)
                      refine boolSplit ((!(x94.toList == (ByteArray.mk #[99]).toList))) (fun e96 => ?_) (fun e96 => ?_)
                      · have H := H.1 e96
                        refine VL.gskipD rfl rfl (by decide) (.inl (congrArg Value.bool e96)) rfl (by decide) ?_
                        refine VL.gskipD rfl rfl (by decide) (.inl (congrArg Value.bool e96)) rfl (by decide) ?_
                        refine VL.gskipD rfl rfl (by decide) (.inl (congrArg Value.bool e96)) rfl (by decide) ?_
                        refine VL.gskipD rfl rfl (by decide) (.inl (congrArg Value.bool e96)) rfl (by decide) ?_
                        refine VL.gskipD rfl rfl (by decide) (.inl (congrArg Value.bool e96)) rfl (by decide) ?_
                        refine VL.gskipD rfl rfl (by decide) (.inl (congrArg Value.bool e96)) rfl (by decide) ?_
                        refine VL.gskipD rfl rfl (by decide) (.inl (congrArg Value.bool e96)) rfl (by decide) ?_
                        refine VL.stepD rfl rfl (by decide) (OE.pickV (t := true) (v := .bool true) (congrArg Value.bool e96) rfl ?_)
                        refine VL.stepD rfl rfl (by decide) (OE.moveV (v := .bool true) rfl ?_)
                        refine VL.gskipD rfl rfl (by decide) (.inl rfl) rfl (by decide) ?_
                        refine VL.gskipD rfl rfl (by decide) (.inl rfl) rfl (by decide) ?_
                        refine VL.gskipD rfl rfl (by decide) (.inl rfl) rfl (by decide) ?_
                        refine VL.stepD rfl rfl (by decide) (OE.pickV (t := true) (v := .bool true) rfl rfl ?_)
                        refine VL.nil ?_
                        exact ⟨rfl, true, rfl, rfl, rfl, H⟩
                      · have H := H.2 e96
                        refine VL.gstepD rfl rfl (by decide) (congrArg Value.bool e96) rfl (by decide) (OE.moveV (v := .slice y62A y62n y62c) rfl ?_)
                        obtain ⟨a97, e98, z99, z100, H⟩ := H
                        refine VL.gstepD rfl rfl (by decide) (congrArg Value.bool e96) rfl (by decide) (OE.indexAddrI (sz := 2) rfl rfl Tryz.underlying42 Tryz.i61 e98 z99 z100 ?_)
                        refine VL.gstepD rfl rfl (by decide) (congrArg Value.bool e96) rfl (by decide) (OE.fieldAddrI (a := (a97.add (Int.toNat 0 * 2))) (o := 1) rfl Tryz.underlying61 rfl Tryz.i22 (by decide) rfl ?_)
                        obtain ⟨x101A, x101n, x101c, hl102, H⟩ := H
                        refine VL.gstepD rfl rfl (by decide) (congrArg Value.bool e96) rfl (by decide) (OE.load (a := ((a97.add (Int.toNat 0 * 2)).add 1)) (v := .slice x101A x101n x101c) rfl (LdT.one Tryz.underlying22 rfl hl102) ?_)
                        refine VL.gstepD rfl rfl (by decide) (congrArg Value.bool e96) rfl (by decide) (OE.moveV (v := .slice A41 n42 c43) rfl ?_)
                        refine VL.gstepD rfl rfl (by decide) (congrArg Value.bool e96) rfl (by decide) (OE.callL (args := [.slice x101A x101n x101c, .slice A41 n42 c43]) Tryz.func19 rfl Tryz.nn19 rfl rfl (CHE.mono H (fun r103 h104 H => ?_) (fun _ _ e => e.elim)))
                        obtain ⟨y105, rfl, H⟩ := H
                        refine VL.gstepD rfl rfl (by decide) (congrArg Value.bool e96) rfl (by decide) (OE.not rfl ?_)
                        refine VL.stepD rfl rfl (by decide) (OE.pickV (t := false) (v := .bool (!y105)) (congrArg Value.bool e96) rfl ?_)
                        refine VL.stepD rfl rfl (by decide) (OE.moveV (v := .bool (!y105)) rfl ?_)
                        refine boolSplit ((!y105)) (fun e106 => ?_) (fun e106 => ?_)
                        · have H := H.1 e106
                          refine VL.gskipD rfl rfl (by decide) (.inl (congrArg Value.bool e106)) rfl (by decide) ?_
                          refine VL.gskipD rfl rfl (by decide) (.inl (congrArg Value.bool e106)) rfl (by decide) ?_
                          refine VL.gskipD rfl rfl (by decide) (.inl (congrArg Value.bool e106)) rfl (by decide) ?_
                          refine VL.stepD rfl rfl (by decide) (OE.pickV (t := true) (v := .bool true) (congrArg Value.bool e106) rfl ?_)
                          refine VL.nil ?_
                          exact ⟨rfl, true, rfl, rfl, rfl, H⟩
                        · have H := H.2 e106
                          refine VL.gstepD rfl rfl (by decide) (congrArg Value.bool e106) rfl (by decide) (OE.moveV (v := .pointer y10) rfl ?_)
                          refine VL.gstepD rfl rfl (by decide) (congrArg Value.bool e106) rfl (by decide) (OE.callL (args := [.pointer y10, .string (ByteArray.mk #[99])]) Tryz.func29 rfl Tryz.nn29 rfl rfl (CHE.mono H (fun r107 h108 H => ?_) (fun _ _ e => e.elim)))
                          obtain ⟨y109, rfl, H⟩ := H
                          refine VL.gstepD rfl rfl (by decide) (congrArg Value.bool e106) rfl (by decide) (OE.binI (v := .bool (y109 != 0)) rfl rfl rfl ?_)
                          refine VL.stepD rfl rfl (by decide) (OE.pickV (t := false) (v := .bool (y109 != 0)) (congrArg Value.bool e106) rfl ?_)
                          refine VL.nil ?_
                          exact ⟨rfl, (y109 != 0), rfl, rfl, rfl, H⟩
              · skip
                refine VC.region ?_
                refine VL.stepD rfl rfl (by decide) (OE.moveV (v := .int .i64 y47_1) rfl ?_)
                refine VL.stepD rfl rfl (by decide) (OE.binI (v := .bool (y47_1 != 0)) rfl rfl rfl ?_)
                refine VL.stepD rfl rfl (by decide) (OE.moveV (v := .bool (y47_1 != 0)) rfl ?_)
                refine boolSplit ((y47_1 != 0)) (fun e114 => ?_) (fun e114 => ?_)
                · have H := H.1 e114
                  refine VL.gskipD rfl rfl (by decide) (.inl (congrArg Value.bool e114)) rfl (by decide) ?_
                  refine VL.gskipD rfl rfl (by decide) (.inl (congrArg Value.bool e114)) rfl (by decide) ?_
                  refine VL.stepD rfl rfl (by decide) (OE.pickV (t := true) (v := .bool true) (congrArg Value.bool e114) rfl ?_)
                  refine VL.stepD rfl rfl (by decide) (OE.moveV (v := .bool true) rfl ?_)
                  refine VL.gskipD rfl rfl (by decide) (.inl rfl) rfl (by decide) ?_
                  refine VL.gskipD rfl rfl (by decide) (.inl rfl) rfl (by decide) ?_
                  refine VL.gskipD rfl rfl (by decide) (.inl rfl) rfl (by decide) ?_
                  refine VL.gskipD rfl rfl (by decide) (.inl rfl) rfl (by decide) ?_
                  refine VL.stepD rfl rfl (by decide) (OE.pickV (t := true) (v := .bool true) rfl rfl ?_)
                  refine VL.stepD rfl rfl (by decide) (OE.moveV (v := .bool true) rfl ?_)
                  refine VL.gskipD rfl rfl (by decide) (.inl rfl) rfl (by decide) ?_
                  refine VL.gskipD rfl rfl (by decide) (.inl rfl) rfl (by decide) ?_
                  refine VL.gskipD rfl rfl (by decide) (.inl rfl) rfl (by decide) ?_
                  refine VL.gskipD rfl rfl (by decide) (.inl rfl) rfl (by decide) ?_
                  refine VL.stepD rfl rfl (by decide) (OE.pickV (t := true) (v := .bool true) rfl rfl ?_)
                  refine VL.stepD rfl rfl (by decide) (OE.moveV (v := .bool true) rfl ?_)
                  refine VL.gskipD rfl rfl (by decide) (.inl rfl) rfl (by decide) ?_
                  refine VL.gskipD rfl rfl (by decide) (.inl rfl) rfl (by decide) ?_
                  refine VL.gskipD rfl rfl (by decide) (.inl rfl) rfl (by decide) ?_
                  refine VL.gskipD rfl rfl (by decide) (.inl rfl) rfl (by decide) ?_
                  refine VL.stepD rfl rfl (by decide) (OE.pickV (t := true) (v := .bool true) rfl rfl ?_)
                  refine VL.stepD rfl rfl (by decide) (OE.moveV (v := .bool true) rfl ?_)
                  refine VL.gskipD rfl rfl (by decide) (.inl rfl) rfl (by decide) ?_
                  refine VL.gskipD rfl rfl (by decide) (.inl rfl) rfl (by decide) ?_
                  refine VL.stepD rfl rfl (by decide) (OE.pickV (t := true) (v := .bool true) rfl rfl ?_)
                  refine VL.stepD rfl rfl (by decide) (OE.moveV (v := .bool true) rfl ?_)
                  refine VL.gskipD rfl rfl (by decide) (.inl rfl) rfl (by decide) ?_
                  refine VL.gskipD rfl rfl (by decide) (.inl rfl) rfl (by decide) ?_
                  refine VL.gskipD rfl rfl (by decide) (.inl rfl) rfl (by decide) ?_
                  refine VL.stepD rfl rfl (by decide) (OE.pickV (t := true) (v := .bool true) rfl rfl ?_)
                  refine VL.stepD rfl rfl (by decide) (OE.moveV (v := .bool true) rfl ?_)
                  refine VL.gskipD rfl rfl (by decide) (.inl rfl) rfl (by decide) ?_
                  refine VL.gskipD rfl rfl (by decide) (.inl rfl) rfl (by decide) ?_
                  refine VL.gskipD rfl rfl (by decide) (.inl rfl) rfl (by decide) ?_
                  refine VL.stepD rfl rfl (by decide) (OE.pickV (t := true) (v := .bool true) rfl rfl ?_)
                  refine VL.stepD rfl rfl (by decide) (OE.moveV (v := .bool true) rfl ?_)
                  refine VL.gskipD rfl rfl (by decide) (.inl rfl) rfl (by decide) ?_
                  refine VL.gskipD rfl rfl (by decide) (.inl rfl) rfl (by decide) ?_
                  refine VL.gskipD rfl rfl (by decide) (.inl rfl) rfl (by decide) ?_
                  refine VL.stepD rfl rfl (by decide) (OE.pickV (t := true) (v := .bool true) rfl rfl ?_)
                  refine VL.nil ?_
                  exact ⟨rfl, true, rfl, rfl, rfl, H⟩
                · have H := H.2 e114
                  refine VL.gstepD rfl rfl (by decide) (congrArg Value.bool e114) rfl (by decide) (OE.moveV (v := .int .i64 y50_1) rfl ?_)
                  refine VL.gstepD rfl rfl (by decide) (congrArg Value.bool e114) rfl (by decide) (OE.binI (v := .bool (y50_1 != 0)) rfl rfl rfl ?_)
                  refine VL.stepD rfl rfl (by decide) (OE.pickV (t := false) (v := .bool (y50_1 != 0)) (congrArg Value.bool e114) rfl ?_)
                  refine VL.stepD rfl rfl (by decide) (OE.moveV (v := .bool (y50_1 != 0)) rfl ?_)
                  refine boolSplit ((y50_1 != 0)) (fun e115 => ?_) (fun e115 => ?_)
                  · have H := H.1 e115
                    refine VL.gskipD rfl rfl (by decide) (.inl (congrArg Value.bool e115)) rfl (by decide) ?_
                    refine VL.gskipD rfl rfl (by decide) (.inl (congrArg Value.bool e115)) rfl (by decide) ?_
                    refine VL.gskipD rfl rfl (by decide) (.inl (congrArg Value.bool e115)) rfl (by decide) ?_
                    refine VL.gskipD rfl rfl (by decide) (.inl (congrArg Value.bool e115)) rfl (by decide) ?_
                    refine VL.stepD rfl rfl (by decide) (OE.pickV (t := true) (v := .bool true) (congrArg Value.bool e115) rfl ?_)
                    refine VL.stepD rfl rfl (by decide) (OE.moveV (v := .bool true) rfl ?_)
                    refine VL.gskipD rfl rfl (by decide) (.inl rfl) rfl (by decide) ?_
                    refine VL.gskipD rfl rfl (by decide) (.inl rfl) rfl (by decide) ?_
                    refine VL.gskipD rfl rfl (by decide) (.inl rfl) rfl (by decide) ?_
                    refine VL.gskipD rfl rfl (by decide) (.inl rfl) rfl (by decide) ?_
                    refine VL.stepD rfl rfl (by decide) (OE.pickV (t := true) (v := .bool true) rfl rfl ?_)
                    refine VL.stepD rfl rfl (by decide) (OE.moveV (v := .bool true) rfl ?_)
                    refine VL.gskipD rfl rfl (by decide) (.inl rfl) rfl (by decide) ?_
                    refine VL.gskipD rfl rfl (by decide) (.inl rfl) rfl (by decide) ?_
                    refine VL.gskipD rfl rfl (by decide) (.inl rfl) rfl (by decide) ?_
                    refine VL.gskipD rfl rfl (by decide) (.inl rfl) rfl (by decide) ?_
                    refine VL.stepD rfl rfl (by decide) (OE.pickV (t := true) (v := .bool true) rfl rfl ?_)
                    refine VL.stepD rfl rfl (by decide) (OE.moveV (v := .bool true) rfl ?_)
                    refine VL.gskipD rfl rfl (by decide) (.inl rfl) rfl (by decide) ?_
                    refine VL.gskipD rfl rfl (by decide) (.inl rfl) rfl (by decide) ?_
                    refine VL.stepD rfl rfl (by decide) (OE.pickV (t := true) (v := .bool true) rfl rfl ?_)
                    refine VL.stepD rfl rfl (by decide) (OE.moveV (v := .bool true) rfl ?_)
                    refine VL.gskipD rfl rfl (by decide) (.inl rfl) rfl (by decide) ?_
                    refine VL.gskipD rfl rfl (by decide) (.inl rfl) rfl (by decide) ?_
                    refine VL.gskipD rfl rfl (by decide) (.inl rfl) rfl (by decide) ?_
                    refine VL.stepD rfl rfl (by decide) (OE.pickV (t := true) (v := .bool true) rfl rfl ?_)
                    refine VL.stepD rfl rfl (by decide) (OE.moveV (v := .bool true) rfl ?_)
                    refine VL.gskipD rfl rfl (by decide) (.inl rfl) rfl (by decide) ?_
                    refine VL.gskipD rfl rfl (by decide) (.inl rfl) rfl (by decide) ?_
                    refine VL.gskipD rfl rfl (by decide) (.inl rfl) rfl (by decide) ?_
                    refine VL.stepD rfl rfl (by decide) (OE.pickV (t := true) (v := .bool true) rfl rfl ?_)
                    refine VL.stepD rfl rfl (by decide) (OE.moveV (v := .bool true) rfl ?_)
                    refine VL.gskipD rfl rfl (by decide) (.inl rfl) rfl (by decide) ?_
                    refine VL.gskipD rfl rfl (by decide) (.inl rfl) rfl (by decide) ?_
                    refine VL.gskipD rfl rfl (by decide) (.inl rfl) rfl (by decide) ?_
                    refine VL.stepD rfl rfl (by decide) (OE.pickV (t := true) (v := .bool true) rfl rfl ?_)
                    refine VL.nil ?_
                    exact ⟨rfl, true, rfl, rfl, rfl, H⟩
                  · have H := H.2 e115
                    refine VL.gstepD rfl rfl (by decide) (congrArg Value.bool e115) rfl (by decide) (OE.moveV (v := .slice y47_0A y47_0n y47_0c) rfl ?_)
                    refine VL.gstepD rfl rfl (by decide) (congrArg Value.bool e115) rfl (by decide) (OE.moveV (v := .slice A41 n42 c43) rfl ?_)
                    refine VL.gstepD rfl rfl (by decide) (congrArg Value.bool e115) rfl (by decide) (OE.callL (args := [.slice y47_0A y47_0n y47_0c, .slice A41 n42 c43]) Tryz.func19 rfl Tryz.nn19 rfl rfl (CHE.mono H (fun r116 h117 H => ?_) (fun _ _ e => e.elim)))
                    obtain ⟨y118, rfl, H⟩ := H
                    refine VL.gstepD rfl rfl (by decide) (congrArg Value.bool e115) rfl (by decide) (OE.not rfl ?_)
                    refine VL.stepD rfl rfl (by decide) (OE.pickV (t := false) (v := .bool (!y118)) (congrArg Value.bool e115) rfl ?_)
                    refine VL.stepD rfl rfl (by decide) (OE.moveV (v := .bool (!y118)) rfl ?_)
                    refine boolSplit ((!y118)) (fun e119 => ?_) (fun e119 => ?_)
                    · have H := H.1 e119
                      refine VL.gskipD rfl rfl (by decide) (.inl (congrArg Value.bool e119)) rfl (by decide) ?_
                      refine VL.gskipD rfl rfl (by decide) (.inl (congrArg Value.bool e119)) rfl (by decide) ?_
                      refine VL.gskipD rfl rfl (by decide) (.inl (congrArg Value.bool e119)) rfl (by decide) ?_
                      refine VL.gskipD rfl rfl (by decide) (.inl (congrArg Value.bool e119)) rfl (by decide) ?_
                      refine VL.stepD rfl rfl (by decide) (OE.pickV (t := true) (v := .bool true) (congrArg Value.bool e119) rfl ?_)
                      refine VL.stepD rfl rfl (by decide) (OE.moveV (v := .bool true) rfl ?_)
                      refine VL.gskipD rfl rfl (by decide) (.inl rfl) rfl (by decide) ?_
                      refine VL.gskipD rfl rfl (by decide) (.inl rfl) rfl (by decide) ?_
                      refine VL.gskipD rfl rfl (by decide) (.inl rfl) rfl (by decide) ?_
                      refine VL.gskipD rfl rfl (by decide) (.inl rfl) rfl (by decide) ?_
                      refine VL.stepD rfl rfl (by decide) (OE.pickV (t := true) (v := .bool true) rfl rfl ?_)
                      refine VL.stepD rfl rfl (by decide) (OE.moveV (v := .bool true) rfl ?_)
                      refine VL.gskipD rfl rfl (by decide) (.inl rfl) rfl (by decide) ?_
                      refine VL.gskipD rfl rfl (by decide) (.inl rfl) rfl (by decide) ?_
                      refine VL.stepD rfl rfl (by decide) (OE.pickV (t := true) (v := .bool true) rfl rfl ?_)
                      refine VL.stepD rfl rfl (by decide) (OE.moveV (v := .bool true) rfl ?_)
                      refine VL.gskipD rfl rfl (by decide) (.inl rfl) rfl (by decide) ?_
                      refine VL.gskipD rfl rfl (by decide) (.inl rfl) rfl (by decide) ?_
                      refine VL.gskipD rfl rfl (by decide) (.inl rfl) rfl (by decide) ?_
                      refine VL.stepD rfl rfl (by decide) (OE.pickV (t := true) (v := .bool true) rfl rfl ?_)
                      refine VL.stepD rfl rfl (by decide) (OE.moveV (v := .bool true) rfl ?_)
                      refine VL.gskipD rfl rfl (by decide) (.inl rfl) rfl (by decide) ?_
                      refine VL.gskipD rfl rfl (by decide) (.inl rfl) rfl (by decide) ?_
                      refine VL.gskipD rfl rfl (by decide) (.inl rfl) rfl (by decide) ?_
                      refine VL.stepD rfl rfl (by decide) (OE.pickV (t := true) (v := .bool true) rfl rfl ?_)
                      refine VL.stepD rfl rfl (by decide) (OE.moveV (v := .bool true) rfl ?_)
                      refine VL.gskipD rfl rfl (by decide) (.inl rfl) rfl (by decide) ?_
                      refine VL.gskipD rfl rfl (by decide) (.inl rfl) rfl (by decide) ?_
                      refine VL.gskipD rfl rfl (by decide) (.inl rfl) rfl (by decide) ?_
                      refine VL.stepD rfl rfl (by decide) (OE.pickV (t := true) (v := .bool true) rfl rfl ?_)
                      refine VL.nil ?_
                      exact ⟨rfl, true, rfl, rfl, rfl, H⟩
                    · have H := H.2 e119
                      refine VL.gstepD rfl rfl (by decide) (congrArg Value.bool e119) rfl (by decide) (OE.moveV (v := .slice y50_0A y50_0n y50_0c) rfl ?_)
                      refine VL.gstepD rfl rfl (by decide) (congrArg Value.bool e119) rfl (by decide) (OE.moveV (v := .slice A41 n42 c43) rfl ?_)
                      refine VL.gstepD rfl rfl (by decide) (congrArg Value.bool e119) rfl (by decide) (OE.callL (args := [.slice y50_0A y50_0n y50_0c, .slice A41 n42 c43]) Tryz.func19 rfl Tryz.nn19 rfl rfl (CHE.mono H (fun r120 h121 H => ?_) (fun _ _ e => e.elim)))
                      obtain ⟨y122, rfl, H⟩ := H
                      refine VL.gstepD rfl rfl (by decide) (congrArg Value.bool e119) rfl (by decide) (OE.not rfl ?_)
                      refine VL.stepD rfl rfl (by decide) (OE.pickV (t := false) (v := .bool (!y122)) (congrArg Value.bool e119) rfl ?_)
                      refine VL.stepD rfl rfl (by decide) (OE.moveV (v := .bool (!y122)) rfl ?_)
                      refine boolSplit ((!y122)) (fun e123 => ?_) (fun e123 => ?_)
                      · have H := H.1 e123
                        refine VL.gskipD rfl rfl (by decide) (.inl (congrArg Value.bool e123)) rfl (by decide) ?_
                        refine VL.gskipD rfl rfl (by decide) (.inl (congrArg Value.bool e123)) rfl (by decide) ?_
                        refine VL.gskipD rfl rfl (by decide) (.inl (congrArg Value.bool e123)) rfl (by decide) ?_
                        refine VL.gskipD rfl rfl (by decide) (.inl (congrArg Value.bool e123)) rfl (by decide) ?_
                        refine VL.stepD rfl rfl (by decide) (OE.pickV (t := true) (v := .bool true) (congrArg Value.bool e123) rfl ?_)
                        refine VL.stepD rfl rfl (by decide) (OE.moveV (v := .bool true) rfl ?_)
                        refine VL.gskipD rfl rfl (by decide) (.inl rfl) rfl (by decide) ?_
                        refine VL.gskipD rfl rfl (by decide) (.inl rfl) rfl (by decide) ?_
                        refine VL.stepD rfl rfl (by decide) (OE.pickV (t := true) (v := .bool true) rfl rfl ?_)
                        refine VL.stepD rfl rfl (by decide) (OE.moveV (v := .bool true) rfl ?_)
                        refine VL.gskipD rfl rfl (by decide) (.inl rfl) rfl (by decide) ?_
                        refine VL.gskipD rfl rfl (by decide) (.inl rfl) rfl (by decide) ?_
                        refine VL.gskipD rfl rfl (by decide) (.inl rfl) rfl (by decide) ?_
                        refine VL.stepD rfl rfl (by decide) (OE.pickV (t := true) (v := .bool true) rfl rfl ?_)
                        refine VL.stepD rfl rfl (by decide) (OE.moveV (v := .bool true) rfl ?_)
                        refine VL.gskipD rfl rfl (by decide) (.inl rfl) rfl (by decide) ?_
                        refine VL.gskipD rfl rfl (by decide) (.inl rfl) rfl (by decide) ?_
                        refine VL.gskipD rfl rfl (by decide) (.inl rfl) rfl (by decide) ?_
                        refine VL.stepD rfl rfl (by decide) (OE.pickV (t := true) (v := .bool true) rfl rfl ?_)
                        refine VL.stepD rfl rfl (by decide) (OE.moveV (v := .bool true) rfl ?_)
                        refine VL.gskipD rfl rfl (by decide) (.inl rfl) rfl (by decide) ?_
                        refine VL.gskipD rfl rfl (by decide) (.inl rfl) rfl (by decide) ?_
                        refine VL.gskipD rfl rfl (by decide) (.inl rfl) rfl (by decide) ?_
                        refine VL.stepD rfl rfl (by decide) (OE.pickV (t := true) (v := .bool true) rfl rfl ?_)
                        refine VL.nil ?_
                        exact ⟨rfl, true, rfl, rfl, rfl, H⟩
                      · have H := H.2 e123
                        refine VL.gstepD rfl rfl (by decide) (congrArg Value.bool e123) rfl (by decide) (OE.moveV (v := .int .i64 y53_0) rfl ?_)
                        refine VL.gstepD rfl rfl (by decide) (congrArg Value.bool e123) rfl (by decide) (OE.moveV (v := .slice A41 n42 c43) rfl ?_)
                        refine VL.gstepD rfl rfl (by decide) (congrArg Value.bool e123) rfl (by decide) (OE.lenSlice rfl Tryz.underlying22 ?_)
                        refine VL.gstepD rfl rfl (by decide) (congrArg Value.bool e123) rfl (by decide) (OE.binI (v := .bool (y53_0 != ((n42 : Nat) : Int))) rfl rfl rfl ?_)
                        refine VL.stepD rfl rfl (by decide) (OE.pickV (t := false) (v := .bool (y53_0 != ((n42 : Nat) : Int))) (congrArg Value.bool e123) rfl ?_)
                        refine VL.stepD rfl rfl (by decide) (OE.moveV (v := .bool (y53_0 != ((n42 : Nat) : Int))) rfl ?_)
                        refine boolSplit ((y53_0 != ((n42 : Nat) : Int))) (fun e124 => ?_) (fun e124 => ?_)
                        · have H := H.1 e124
                          refine VL.gskipD rfl rfl (by decide) (.inl (congrArg Value.bool e124)) rfl (by decide) ?_
                          refine VL.gskipD rfl rfl (by decide) (.inl (congrArg Value.bool e124)) rfl (by decide) ?_
                          refine VL.stepD rfl rfl (by decide) (OE.pickV (t := true) (v := .bool true) (congrArg Value.bool e124) rfl ?_)
                          refine VL.stepD rfl rfl (by decide) (OE.moveV (v := .bool true) rfl ?_)
                          refine VL.gskipD rfl rfl (by decide) (.inl rfl) rfl (by decide) ?_
                          refine VL.gskipD rfl rfl (by decide) (.inl rfl) rfl (by decide) ?_
                          refine VL.gskipD rfl rfl (by decide) (.inl rfl) rfl (by decide) ?_
                          refine VL.stepD rfl rfl (by decide) (OE.pickV (t := true) (v := .bool true) rfl rfl ?_)
                          refine VL.stepD rfl rfl (by decide) (OE.moveV (v := .bool true) rfl ?_)
                          refine VL.gskipD rfl rfl (by decide) (.inl rfl) rfl (by decide) ?_
                          refine VL.gskipD rfl rfl (by decide) (.inl rfl) rfl (by decide) ?_
                          refine VL.gskipD rfl rfl (by decide) (.inl rfl) rfl (by decide) ?_
                          refine VL.stepD rfl rfl (by decide) (OE.pickV (t := true) (v := .bool true) rfl rfl ?_)
                          refine VL.stepD rfl rfl (by decide) (OE.moveV (v := .bool true) rfl ?_)
                          refine VL.gskipD rfl rfl (by decide) (.inl rfl) rfl (by decide) ?_
                          refine VL.gskipD rfl rfl (by decide) (.inl rfl) rfl (by decide) ?_
                          refine VL.gskipD rfl rfl (by decide) (.inl rfl) rfl (by decide) ?_
                          refine VL.stepD rfl rfl (by decide) (OE.pickV (t := true) (v := .bool true) rfl rfl ?_)
                          refine VL.nil ?_
                          exact ⟨rfl, true, rfl, rfl, rfl, H⟩
                        · have H := H.2 e124
                          refine VL.gstepD rfl rfl (by decide) (congrArg Value.bool e124) rfl (by decide) (OE.moveV (v := .int .i64 y53_1) rfl ?_)
                          refine VL.gstepD rfl rfl (by decide) (congrArg Value.bool e124) rfl (by decide) (OE.binI (v := .bool (y53_1 != 1)) rfl rfl rfl ?_)
                          refine VL.stepD rfl rfl (by decide) (OE.pickV (t := false) (v := .bool (y53_1 != 1)) (congrArg Value.bool e124) rfl ?_)
                          refine VL.stepD rfl rfl (by decide) (OE.moveV (v := .bool (y53_1 != 1)) rfl ?_)
                          refine boolSplit ((y53_1 != 1)) (fun e125 => ?_) (fun e125 => ?_)
                          · have H := H.1 e125
                            refine VL.gskipD rfl rfl (by decide) (.inl (congrArg Value.bool e125)) rfl (by decide) ?_
                            refine VL.gskipD rfl rfl (by decide) (.inl (congrArg Value.bool e125)) rfl (by decide) ?_
                            refine VL.gskipD rfl rfl (by decide) (.inl (congrArg Value.bool e125)) rfl (by decide) ?_
                            refine VL.stepD rfl rfl (by decide) (OE.pickV (t := true) (v := .bool true) (congrArg Value.bool e125) rfl ?_)
                            refine VL.stepD rfl rfl (by decide) (OE.moveV (v := .bool true) rfl ?_)
                            refine VL.gskipD rfl rfl (by decide) (.inl rfl) rfl (by decide) ?_
                            refine VL.gskipD rfl rfl (by decide) (.inl rfl) rfl (by decide) ?_
                            refine VL.gskipD rfl rfl (by decide) (.inl rfl) rfl (by decide) ?_
                            refine VL.stepD rfl rfl (by decide) (OE.pickV (t := true) (v := .bool true) rfl rfl ?_)
                            refine VL.stepD rfl rfl (by decide) (OE.moveV (v := .bool true) rfl ?_)
                            refine VL.gskipD rfl rfl (by decide) (.inl rfl) rfl (by decide) ?_
                            refine VL.gskipD rfl rfl (by decide) (.inl rfl) rfl (by decide) ?_
                            refine VL.gskipD rfl rfl (by decide) (.inl rfl) rfl (by decide) ?_
                            refine VL.stepD rfl rfl (by decide) (OE.pickV (t := true) (v := .bool true) rfl rfl ?_)
                            refine VL.nil ?_
                            exact ⟨rfl, true, rfl, rfl, rfl, H⟩
                          · have H := H.2 e125
                            refine VL.gstepD rfl rfl (by decide) (congrArg Value.bool e125) rfl (by decide) (OE.moveV (v := .pointer y10) rfl ?_)
                            refine VL.gstepD rfl rfl (by decide) (congrArg Value.bool e125) rfl (by decide) (OE.callL (args := [.pointer y10, .string (ByteArray.mk #[97])]) Tryz.func13 rfl Tryz.nn13 rfl rfl (CHE.mono H (fun r126 h127 H => ?_) (fun _ _ e => e.elim)))
                            obtain ⟨y128, rfl, H⟩ := H
                            refine VL.gstepD rfl rfl (by decide) (congrArg Value.bool e125) rfl (by decide) (OE.binI (v := .bool (y128 != 0)) rfl rfl rfl ?_)
                            refine VL.stepD rfl rfl (by decide) (OE.pickV (t := false) (v := .bool (y128 != 0)) (congrArg Value.bool e125) rfl ?_)
                            refine VL.stepD rfl rfl (by decide) (OE.moveV (v := .bool (y128 != 0)) rfl ?_)
                            refine boolSplit ((y128 != 0)) (fun e129 => ?_) (fun e129 => ?_)
                            · have H := H.1 e129
                              refine VL.gskipD rfl rfl (by decide) (.inl (congrArg Value.bool e129)) rfl (by decide) ?_
                              refine VL.gskipD rfl rfl (by decide) (.inl (congrArg Value.bool e129)) rfl (by decide) ?_
                              refine VL.gskipD rfl rfl (by decide) (.inl (congrArg Value.bool e129)) rfl (by decide) ?_
                              refine VL.stepD rfl rfl (by decide) (OE.pickV (t := true) (v := .bool true) (congrArg Value.bool e129) rfl ?_)
                              refine VL.stepD rfl rfl (by decide) (OE.moveV (v := .bool true) rfl ?_)
                              refine VL.gskipD rfl rfl (by decide) (.inl rfl) rfl (by decide) ?_
                              refine VL.gskipD rfl rfl (by decide) (.inl rfl) rfl (by decide) ?_
                              refine VL.gskipD rfl rfl (by decide) (.inl rfl) rfl (by decide) ?_
                              refine VL.stepD rfl rfl (by decide) (OE.pickV (t := true) (v := .bool true) rfl rfl ?_)
                              refine VL.nil ?_
                              exact ⟨rfl, true, rfl, rfl, rfl, H⟩
                            · have H := H.2 e129
                              refine VL.gstepD rfl rfl (by decide) (congrArg Value.bool e129) rfl (by decide) (OE.moveV (v := .pointer y10) rfl ?_)
                              refine VL.gstepD rfl rfl (by decide) (congrArg Value.bool e129) rfl (by decide) (OE.callL (args := [.pointer y10, .string (ByteArray.mk #[97])]) Tryz.func29 rfl Tryz.nn29 rfl rfl (CHE.mono H (fun r130 h131 H => ?_) (fun _ _ e => e.elim)))
                              obtain ⟨y132, rfl, H⟩ := H
                              refine VL.gstepD rfl rfl (by decide) (congrArg Value.bool e129) rfl (by decide) (OE.binI (v := .bool (y132 != 0)) rfl rfl rfl ?_)
                              refine VL.stepD rfl rfl (by decide) (OE.pickV (t := false) (v := .bool (y132 != 0)) (congrArg Value.bool e129) rfl ?_)
                              refine VL.stepD rfl rfl (by decide) (OE.moveV (v := .bool (y132 != 0)) rfl ?_)
                              refine boolSplit ((y132 != 0)) (fun e133 => ?_) (fun e133 => ?_)
                              · have H := H.1 e133
                                refine VL.gskipD rfl rfl (by decide) (.inl (congrArg Value.bool e133)) rfl (by decide) ?_
                                refine VL.gskipD rfl rfl (by decide) (.inl (congrArg Value.bool e133)) rfl (by decide) ?_
                                refine VL.gskipD rfl rfl (by decide) (.inl (congrArg Value.bool e133)) rfl (by decide) ?_
                                refine VL.stepD rfl rfl (by decide) (OE.pickV (t := true) (v := .bool true) (congrArg Value.bool e133) rfl ?_)
                                refine VL.nil ?_
                                exact ⟨rfl, true, rfl, rfl, rfl, H⟩
                              · have H := H.2 e133
                                refine VL.gstepD rfl rfl (by decide) (congrArg Value.bool e133) rfl (by decide) (OE.moveV (v := .pointer y10) rfl ?_)
                                refine VL.gstepD rfl rfl (by decide) (congrArg Value.bool e133) rfl (by decide) (OE.callL (args := [.pointer y10]) Tryz.func14 rfl Tryz.nn14 rfl rfl (CHE.mono H (fun r134 h135 H => ?_) (fun _ _ e => e.elim)))
                                obtain ⟨y136, rfl, H⟩ := H
                                refine VL.gstepD rfl rfl (by decide) (congrArg Value.bool e133) rfl (by decide) (OE.binI (v := .bool (y136 != 0)) rfl rfl rfl ?_)
                                refine VL.stepD rfl rfl (by decide) (OE.pickV (t := false) (v := .bool (y136 != 0)) (congrArg Value.bool e133) rfl ?_)
                                refine VL.nil ?_
                                exact ⟨rfl, (y136 != 0), rfl, rfl, rfl, H⟩
          · skip
            refine VC.region ?_
            refine VL.stepD rfl rfl (by decide) (OE.moveV (v := .int .i64 y21_1) rfl ?_)
            refine VL.stepD rfl rfl (by decide) (OE.binI (v := .bool (y21_1 != 0)) rfl rfl rfl ?_)
            refine VL.stepD rfl rfl (by decide) (OE.moveV (v := .bool (y21_1 != 0)) rfl ?_)
            refine boolSplit ((y21_1 != 0)) (fun e147 => ?_) (fun e147 => ?_)
            · have H := H.1 e147
              refine VL.gskipD rfl rfl (by decide) (.inl (congrArg Value.bool e147)) rfl (by decide) ?_
              refine VL.gskipD rfl rfl (by decide) (.inl (congrArg Value.bool e147)) rfl (by decide) ?_
              refine VL.gskipD rfl rfl (by decide) (.inl (congrArg Value.bool e147)) rfl (by decide) ?_
              refine VL.gskipD rfl rfl (by decide) (.inl (congrArg Value.bool e147)) rfl (by decide) ?_
              refine VL.stepD rfl rfl (by decide) (OE.pickV (t := true) (v := .bool true) (congrArg Value.bool e147) rfl ?_)
              refine VL.stepD rfl rfl (by decide) (OE.moveV (v := .bool true) rfl ?_)
              refine VL.gskipD rfl rfl (by decide) (.inl rfl) rfl (by decide) ?_
              refine VL.gskipD rfl rfl (by decide) (.inl rfl) rfl (by decide) ?_
              refine VL.gskipD rfl rfl (by decide) (.inl rfl) rfl (by decide) ?_
              refine VL.gskipD rfl rfl (by decide) (.inl rfl) rfl (by decide) ?_
              refine VL.stepD rfl rfl (by decide) (OE.pickV (t := true) (v := .bool true) rfl rfl ?_)
              refine VL.nil ?_
              exact ⟨rfl, true, rfl, rfl, rfl, rfl, H⟩
            · have H := H.2 e147
              refine VL.gstepD rfl rfl (by decide) (congrArg Value.bool e147) rfl (by decide) (OE.moveV (v := .slice y21_0A y21_0n y21_0c) rfl ?_)
              obtain ⟨b149, eb159⟩ : ∃ b149, b149 = Array.size h20 := ⟨_, rfl⟩
              obtain ⟨h148, eh160⟩ : ∃ h148, h148 = Array.push h20 (.cells #[.string (ByteArray.mk #[97]), .string (ByteArray.mk #[99])] 9) := ⟨_, rfl⟩
              have H := H b149 h148 eb159 eh160
              refine VL.gstepD rfl rfl (by decide) (congrArg Value.bool e147) rfl (by decide) (OE.buildSliceE (ps := [(0, (.string (ByteArray.mk #[97]) : Value)), (1, (.string (ByteArray.mk #[99]) : Value))]) (cells := #[.string (ByteArray.mk #[97]), .string (ByteArray.mk #[99])]) (e := 9) rfl (Tryz.bf38 _ _) eb159 eh160 ?_)
              refine VL.gstepD rfl rfl (by decide) (congrArg Value.bool e147) rfl (by decide) (OE.callL (args := [.slice y21_0A y21_0n y21_0c, .slice (some (Addr.mk b149 0 none)) 2 2]) Tryz.func27 rfl Tryz.nn27 rfl rfl (CHE.mono H (fun r150 h151 H => ?_) (fun _ _ e => e.elim)))
              obtain ⟨y152, rfl, H⟩ := H
              refine VL.gstepD rfl rfl (by decide) (congrArg Value.bool e147) rfl (by decide) (OE.not rfl ?_)
              refine VL.stepD rfl rfl (by decide) (OE.pickV (t := false) (v := .bool (!y152)) (congrArg Value.bool e147) rfl ?_)
              refine VL.stepD rfl rfl (by decide) (OE.moveV (v := .bool (!y152)) rfl ?_)
              refine boolSplit ((!y152)) (fun e153 => ?_) (fun e153 => ?_)
              · have H := H.1 e153
                refine VL.gskipD rfl rfl (by decide) (.inl (congrArg Value.bool e153)) rfl (by decide) ?_
                refine VL.gskipD rfl rfl (by decide) (.inl (congrArg Value.bool e153)) rfl (by decide) ?_
                refine VL.gskipD rfl rfl (by decide) (.inl (congrArg Value.bool e153)) rfl (by decide) ?_
                refine VL.gskipD rfl rfl (by decide) (.inl (congrArg Value.bool e153)) rfl (by decide) ?_
                refine VL.stepD rfl rfl (by decide) (OE.pickV (t := true) (v := .bool true) (congrArg Value.bool e153) rfl ?_)
                refine VL.nil ?_
                exact ⟨rfl, true, rfl, rfl, rfl, rfl, H⟩
              · have H := H.2 e153
                refine VL.gstepD rfl rfl (by decide) (congrArg Value.bool e153) rfl (by decide) (OE.moveV (v := .pointer y10) rfl ?_)
                refine VL.gstepD rfl rfl (by decide) (congrArg Value.bool e153) rfl (by decide) (OE.moveV (v := .slice moreA moren morec) rfl ?_)
                refine VL.gstepD rfl rfl (by decide) (congrArg Value.bool e153) rfl (by decide) (OE.callL (args := [.pointer y10, .string (ByteArray.mk #[99]), .slice moreA moren morec]) Tryz.func12 rfl Tryz.nn12 rfl rfl (CHE.mono H (fun r154 h155 H => ?_) (fun _ _ e => e.elim)))
                obtain ⟨y156, rfl, H⟩ := H
                refine VL.gstepD rfl rfl (by decide) (congrArg Value.bool e153) rfl (by decide) (OE.binI (v := .bool (y156 != 0)) rfl rfl rfl ?_)
                refine VL.stepD rfl rfl (by decide) (OE.pickV (t := false) (v := .bool (y156 != 0)) (congrArg Value.bool e153) rfl ?_)
                refine VL.nil ?_
                exact ⟨rfl, (y156 != 0), rfl, rfl, rfl, rfl, H⟩
      · skip
        refine VC.region ?_
        refine VL.stepD rfl rfl (by decide) (OE.moveV (v := .pointer y10) rfl ?_)
        refine VL.stepD rfl rfl (by decide) (OE.ptrNilV (b := (Option.isNone y10)) (p := y10) (q := none) rfl rfl Tryz.underlying24 (.inr rfl) (by simp) ?_)
        refine VL.stepD rfl rfl (by decide) (OE.moveV (v := .bool (Option.isNone y10)) rfl ?_)
        refine boolSplit ((Option.isNone y10)) (fun e165 => ?_) (fun e165 => ?_)
        · have H := H.1 e165
          refine VL.gskipD rfl rfl (by decide) (.inl (congrArg Value.bool e165)) rfl (by decide) ?_
          refine VL.gskipD rfl rfl (by decide) (.inl (congrArg Value.bool e165)) rfl (by decide) ?_
          refine VL.gskipD rfl rfl (by decide) (.inl (congrArg Value.bool e165)) rfl (by decide) ?_
          refine VL.stepD rfl rfl (by decide) (OE.pickV (t := true) (v := .bool true) (congrArg Value.bool e165) rfl ?_)
          refine VL.stepD rfl rfl (by decide) (OE.moveV (v := .bool true) rfl ?_)
          refine VL.gskipD rfl rfl (by decide) (.inl rfl) rfl (by decide) ?_
          refine VL.gskipD rfl rfl (by decide) (.inl rfl) rfl (by decide) ?_
          refine VL.gskipD rfl rfl (by decide) (.inl rfl) rfl (by decide) ?_
          refine VL.gskipD rfl rfl (by decide) (.inl rfl) rfl (by decide) ?_
          refine VL.stepD rfl rfl (by decide) (OE.pickV (t := true) (v := .bool true) rfl rfl ?_)
          refine VL.stepD rfl rfl (by decide) (OE.moveV (v := .bool true) rfl ?_)
          refine VL.gskipD rfl rfl (by decide) (.inl rfl) rfl (by decide) ?_
          refine VL.gskipD rfl rfl (by decide) (.inl rfl) rfl (by decide) ?_
          refine VL.gskipD rfl rfl (by decide) (.inl rfl) rfl (by decide) ?_
          refine VL.stepD rfl rfl (by decide) (OE.pickV (t := true) (v := .bool true) rfl rfl ?_)
          refine VL.stepD rfl rfl (by decide) (OE.moveV (v := .bool true) rfl ?_)
          refine VL.gskipD rfl rfl (by decide) (.inl rfl) rfl (by decide) ?_
          refine VL.gskipD rfl rfl (by decide) (.inl rfl) rfl (by decide) ?_
          refine VL.gskipD rfl rfl (by decide) (.inl rfl) rfl (by decide) ?_
          refine VL.stepD rfl rfl (by decide) (OE.pickV (t := true) (v := .bool true) rfl rfl ?_)
          refine VL.stepD rfl rfl (by decide) (OE.moveV (v := .bool true) rfl ?_)
          refine VL.gskipD rfl rfl (by decide) (.inl rfl) rfl (by decide) ?_
          refine VL.gskipD rfl rfl (by decide) (.inl rfl) rfl (by decide) ?_
          refine VL.gskipD rfl rfl (by decide) (.inl rfl) rfl (by decide) ?_
          refine VL.stepD rfl rfl (by decide) (OE.pickV (t := true) (v := .bool true) rfl rfl ?_)
          refine VL.stepD rfl rfl (by decide) (OE.moveV (v := .bool true) rfl ?_)
          refine VL.gskipD rfl rfl (by decide) (.inl rfl) rfl (by decide) ?_
          refine VL.gskipD rfl rfl (by decide) (.inl rfl) rfl (by decide) ?_
          refine VL.gskipD rfl rfl (by decide) (.inl rfl) rfl (by decide) ?_
          refine VL.stepD rfl rfl (by decide) (OE.pickV (t := true) (v := .bool true) rfl rfl ?_)
          refine VL.nil ?_
          exact ⟨rfl, true, rfl, rfl, rfl, rfl, H⟩
        · have H := H.2 e165
          refine VL.gstepD rfl rfl (by decide) (congrArg Value.bool e165) rfl (by decide) (OE.moveV (v := .pointer y10) rfl ?_)
          refine VL.gstepD rfl rfl (by decide) (congrArg Value.bool e165) rfl (by decide) (OE.callL (args := [.pointer y10, .string (ByteArray.mk #[97])]) Tryz.func11 rfl Tryz.nn11 rfl rfl (CHE.mono H (fun r166 h167 H => ?_) (fun _ _ e => e.elim)))
          obtain ⟨y168, rfl, H⟩ := H
          refine VL.gstepD rfl rfl (by decide) (congrArg Value.bool e165) rfl (by decide) (OE.binI (v := .bool (y168 != 0)) rfl rfl rfl ?_)
          refine VL.stepD rfl rfl (by decide) (OE.pickV (t := false) (v := .bool (y168 != 0)) (congrArg Value.bool e165) rfl ?_)
          refine VL.stepD rfl rfl (by decide) (OE.moveV (v := .bool (y168 != 0)) rfl ?_)
          refine boolSplit ((y168 != 0)) (fun e169 => ?_) (fun e169 => ?_)
          · have H := H.1 e169
            refine VL.gskipD rfl rfl (by decide) (.inl (congrArg Value.bool e169)) rfl (by decide) ?_
            refine VL.gskipD rfl rfl (by decide) (.inl (congrArg Value.bool e169)) rfl (by decide) ?_
            refine VL.gskipD rfl rfl (by decide) (.inl (congrArg Value.bool e169)) rfl (by decide) ?_
            refine VL.gskipD rfl rfl (by decide) (.inl (congrArg Value.bool e169)) rfl (by decide) ?_
            refine VL.stepD rfl rfl (by decide) (OE.pickV (t := true) (v := .bool true) (congrArg Value.bool e169) rfl ?_)
            refine VL.stepD rfl rfl (by decide) (OE.moveV (v := .bool true) rfl ?_)
            refine VL.gskipD rfl rfl (by decide) (.inl rfl) rfl (by decide) ?_
            refine VL.gskipD rfl rfl (by decide) (.inl rfl) rfl (by decide) ?_
            refine VL.gskipD rfl rfl (by decide) (.inl rfl) rfl (by decide) ?_
            refine VL.stepD rfl rfl (by decide) (OE.pickV (t := true) (v := .bool true) rfl rfl ?_)
            refine VL.stepD rfl rfl (by decide) (OE.moveV (v := .bool true) rfl ?_)
            refine VL.gskipD rfl rfl (by decide) (.inl rfl) rfl (by decide) ?_
            refine VL.gskipD rfl rfl (by decide) (.inl rfl) rfl (by decide) ?_
            refine VL.gskipD rfl rfl (by decide) (.inl rfl) rfl (by decide) ?_
            refine VL.stepD rfl rfl (by decide) (OE.pickV (t := true) (v := .bool true) rfl rfl ?_)
            refine VL.stepD rfl rfl (by decide) (OE.moveV (v := .bool true) rfl ?_)
            refine VL.gskipD rfl rfl (by decide) (.inl rfl) rfl (by decide) ?_
            refine VL.gskipD rfl rfl (by decide) (.inl rfl) rfl (by decide) ?_
            refine VL.gskipD rfl rfl (by decide) (.inl rfl) rfl (by decide) ?_
            refine VL.stepD rfl rfl (by decide) (OE.pickV (t := true) (v := .bool true) rfl rfl ?_)
            refine VL.stepD rfl rfl (by decide) (OE.moveV (v := .bool true) rfl ?_)
            refine VL.gskipD rfl rfl (by decide) (.inl rfl) rfl (by decide) ?_
            refine VL.gskipD rfl rfl (by decide) (.inl rfl) rfl (by decide) ?_
            refine VL.gskipD rfl rfl (by decide) (.inl rfl) rfl (by decide) ?_
            refine VL.stepD rfl rfl (by decide) (OE.pickV (t := true) (v := .bool true) rfl rfl ?_)
            refine VL.nil ?_
            exact ⟨rfl, true, rfl, rfl, rfl, rfl, H⟩
          · have H := H.2 e169
            refine VL.gstepD rfl rfl (by decide) (congrArg Value.bool e169) rfl (by decide) (OE.moveV (v := .pointer y10) rfl ?_)
            refine VL.gstepD rfl rfl (by decide) (congrArg Value.bool e169) rfl (by decide) (OE.moveV (v := .slice baseA basen basec) rfl ?_)
            refine VL.gstepD rfl rfl (by decide) (congrArg Value.bool e169) rfl (by decide) (OE.callL (args := [.pointer y10, .string (ByteArray.mk #[97]), .slice baseA basen basec]) Tryz.func12 rfl Tryz.nn12 rfl rfl (CHE.mono H (fun r170 h171 H => ?_) (fun _ _ e => e.elim)))
            obtain ⟨y172, rfl, H⟩ := H
            refine VL.gstepD rfl rfl (by decide) (congrArg Value.bool e169) rfl (by decide) (OE.binI (v := .bool (y172 != 0)) rfl rfl rfl ?_)
            refine VL.stepD rfl rfl (by decide) (OE.pickV (t := false) (v := .bool (y172 != 0)) (congrArg Value.bool e169) rfl ?_)
            refine VL.stepD rfl rfl (by decide) (OE.moveV (v := .bool (y172 != 0)) rfl ?_)
            refine boolSplit ((y172 != 0)) (fun e173 => ?_) (fun e173 => ?_)
            · have H := H.1 e173
              refine VL.gskipD rfl rfl (by decide) (.inl (congrArg Value.bool e173)) rfl (by decide) ?_
              refine VL.gskipD rfl rfl (by decide) (.inl (congrArg Value.bool e173)) rfl (by decide) ?_
              refine VL.gskipD rfl rfl (by decide) (.inl (congrArg Value.bool e173)) rfl (by decide) ?_
              refine VL.stepD rfl rfl (by decide) (OE.pickV (t := true) (v := .bool true) (congrArg Value.bool e173) rfl ?_)
              refine VL.stepD rfl rfl (by decide) (OE.moveV (v := .bool true) rfl ?_)
              refine VL.gskipD rfl rfl (by decide) (.inl rfl) rfl (by decide) ?_
              refine VL.gskipD rfl rfl (by decide) (.inl rfl) rfl (by decide) ?_
              refine VL.gskipD rfl rfl (by decide) (.inl rfl) rfl (by decide) ?_
              refine VL.stepD rfl rfl (by decide) (OE.pickV (t := true) (v := .bool true) rfl rfl ?_)
              refine VL.stepD rfl rfl (by decide) (OE.moveV (v := .bool true) rfl ?_)
              refine VL.gskipD rfl rfl (by decide) (.inl rfl) rfl (by decide) ?_
              refine VL.gskipD rfl rfl (by decide) (.inl rfl) rfl (by decide) ?_
              refine VL.gskipD rfl rfl (by decide) (.inl rfl) rfl (by decide) ?_
              refine VL.stepD rfl rfl (by decide) (OE.pickV (t := true) (v := .bool true) rfl rfl ?_)
              refine VL.stepD rfl rfl (by decide) (OE.moveV (v := .bool true) rfl ?_)
              refine VL.gskipD rfl rfl (by decide) (.inl rfl) rfl (by decide) ?_
              refine VL.gskipD rfl rfl (by decide) (.inl rfl) rfl (by decide) ?_
              refine VL.gskipD rfl rfl (by decide) (.inl rfl) rfl (by decide) ?_
              refine VL.stepD rfl rfl (by decide) (OE.pickV (t := true) (v := .bool true) rfl rfl ?_)
              refine VL.nil ?_
              exact ⟨rfl, true, rfl, rfl, rfl, rfl, H⟩
            · have H := H.2 e173
              refine VL.gstepD rfl rfl (by decide) (congrArg Value.bool e173) rfl (by decide) (OE.moveV (v := .pointer y10) rfl ?_)
              refine VL.gstepD rfl rfl (by decide) (congrArg Value.bool e173) rfl (by decide) (OE.callL (args := [.pointer y10, .string (ByteArray.mk #[97])]) Tryz.func13 rfl Tryz.nn13 rfl rfl (CHE.mono H (fun r174 h175 H => ?_) (fun _ _ e => e.elim)))
              obtain ⟨y176, rfl, H⟩ := H
              refine VL.gstepD rfl rfl (by decide) (congrArg Value.bool e173) rfl (by decide) (OE.binI (v := .bool (y176 != 0)) rfl rfl rfl ?_)
              refine VL.stepD rfl rfl (by decide) (OE.pickV (t := false) (v := .bool (y176 != 0)) (congrArg Value.bool e173) rfl ?_)
              refine VL.stepD rfl rfl (by decide) (OE.moveV (v := .bool (y176 != 0)) rfl ?_)
              refine boolSplit ((y176 != 0)) (fun e177 => ?_) (fun e177 => ?_)
              · have H := H.1 e177
                refine VL.gskipD rfl rfl (by decide) (.inl (congrArg Value.bool e177)) rfl (by decide) ?_
                refine VL.gskipD rfl rfl (by decide) (.inl (congrArg Value.bool e177)) rfl (by decide) ?_
                refine VL.gskipD rfl rfl (by decide) (.inl (congrArg Value.bool e177)) rfl (by decide) ?_
                refine VL.stepD rfl rfl (by decide) (OE.pickV (t := true) (v := .bool true) (congrArg Value.bool e177) rfl ?_)
                refine VL.stepD rfl rfl (by decide) (OE.moveV (v := .bool true) rfl ?_)
                refine VL.gskipD rfl rfl (by decide) (.inl rfl) rfl (by decide) ?_
                refine VL.gskipD rfl rfl (by decide) (.inl rfl) rfl (by decide) ?_
                refine VL.gskipD rfl rfl (by decide) (.inl rfl) rfl (by decide) ?_
                refine VL.stepD rfl rfl (by decide) (OE.pickV (t := true) (v := .bool true) rfl rfl ?_)
                refine VL.stepD rfl rfl (by decide) (OE.moveV (v := .bool true) rfl ?_)
                refine VL.gskipD rfl rfl (by decide) (.inl rfl) rfl (by decide) ?_
                refine VL.gskipD rfl rfl (by decide) (.inl rfl) rfl (by decide) ?_
                refine VL.gskipD rfl rfl (by decide) (.inl rfl) rfl (by decide) ?_
                refine VL.stepD rfl rfl (by decide) (OE.pickV (t := true) (v := .bool true) rfl rfl ?_)
                refine VL.nil ?_
                exact ⟨rfl, true, rfl, rfl, rfl, rfl, H⟩
              · have H := H.2 e177
                refine VL.gstepD rfl rfl (by decide) (congrArg Value.bool e177) rfl (by decide) (OE.moveV (v := .pointer y10) rfl ?_)
                refine VL.gstepD rfl rfl (by decide) (congrArg Value.bool e177) rfl (by decide) (OE.callL (args := [.pointer y10]) Tryz.func14 rfl Tryz.nn14 rfl rfl (CHE.mono H (fun r178 h179 H => ?_) (fun _ _ e => e.elim)))
                obtain ⟨y180, rfl, H⟩ := H
                refine VL.gstepD rfl rfl (by decide) (congrArg Value.bool e177) rfl (by decide) (OE.binI (v := .bool (y180 != 0)) rfl rfl rfl ?_)
                refine VL.stepD rfl rfl (by decide) (OE.pickV (t := false) (v := .bool (y180 != 0)) (congrArg Value.bool e177) rfl ?_)
                refine VL.stepD rfl rfl (by decide) (OE.moveV (v := .bool (y180 != 0)) rfl ?_)
                refine boolSplit ((y180 != 0)) (fun e181 => ?_) (fun e181 => ?_)
                · have H := H.1 e181
                  refine VL.gskipD rfl rfl (by decide) (.inl (congrArg Value.bool e181)) rfl (by decide) ?_
                  refine VL.gskipD rfl rfl (by decide) (.inl (congrArg Value.bool e181)) rfl (by decide) ?_
                  refine VL.gskipD rfl rfl (by decide) (.inl (congrArg Value.bool e181)) rfl (by decide) ?_
                  refine VL.stepD rfl rfl (by decide) (OE.pickV (t := true) (v := .bool true) (congrArg Value.bool e181) rfl ?_)
                  refine VL.stepD rfl rfl (by decide) (OE.moveV (v := .bool true) rfl ?_)
                  refine VL.gskipD rfl rfl (by decide) (.inl rfl) rfl (by decide) ?_
                  refine VL.gskipD rfl rfl (by decide) (.inl rfl) rfl (by decide) ?_
                  refine VL.gskipD rfl rfl (by decide) (.inl rfl) rfl (by decide) ?_
                  refine VL.stepD rfl rfl (by decide) (OE.pickV (t := true) (v := .bool true) rfl rfl ?_)
                  refine VL.nil ?_
                  exact ⟨rfl, true, rfl, rfl, rfl, rfl, H⟩
                · have H := H.2 e181
                  refine VL.gstepD rfl rfl (by decide) (congrArg Value.bool e181) rfl (by decide) (OE.moveV (v := .pointer y10) rfl ?_)
                  refine VL.gstepD rfl rfl (by decide) (congrArg Value.bool e181) rfl (by decide) (OE.callL (args := [.pointer y10, .string (ByteArray.mk #[97]), .string (ByteArray.mk #[98])]) Tryz.func25 rfl Tryz.nn25 rfl rfl (CHE.mono H (fun r182 h183 H => ?_) (fun _ _ e => e.elim)))
                  obtain ⟨y184, rfl, H⟩ := H
                  refine VL.gstepD rfl rfl (by decide) (congrArg Value.bool e181) rfl (by decide) (OE.binI (v := .bool (y184 != 0)) rfl rfl rfl ?_)
                  refine VL.stepD rfl rfl (by decide) (OE.pickV (t := false) (v := .bool (y184 != 0)) (congrArg Value.bool e181) rfl ?_)
                  refine VL.stepD rfl rfl (by decide) (OE.moveV (v := .bool (y184 != 0)) rfl ?_)
                  refine boolSplit ((y184 != 0)) (fun e185 => ?_) (fun e185 => ?_)
                  · have H := H.1 e185
                    refine VL.gskipD rfl rfl (by decide) (.inl (congrArg Value.bool e185)) rfl (by decide) ?_
                    refine VL.gskipD rfl rfl (by decide) (.inl (congrArg Value.bool e185)) rfl (by decide) ?_
                    refine VL.gskipD rfl rfl (by decide) (.inl (congrArg Value.bool e185)) rfl (by decide) ?_
                    refine VL.stepD rfl rfl (by decide) (OE.pickV (t := true) (v := .bool true) (congrArg Value.bool e185) rfl ?_)
                    refine VL.nil ?_
                    exact ⟨rfl, true, rfl, rfl, rfl, rfl, H⟩
                  · have H := H.2 e185
                    refine VL.gstepD rfl rfl (by decide) (congrArg Value.bool e185) rfl (by decide) (OE.moveV (v := .pointer y10) rfl ?_)
                    refine VL.gstepD rfl rfl (by decide) (congrArg Value.bool e185) rfl (by decide) (OE.callL (args := [.pointer y10, .string (ByteArray.mk #[98]), .string (ByteArray.mk #[99])]) Tryz.func25 rfl Tryz.nn25 rfl rfl (CHE.mono H (fun r186 h187 H => ?_) (fun _ _ e => e.elim)))
                    obtain ⟨y188, rfl, H⟩ := H
                    refine VL.gstepD rfl rfl (by decide) (congrArg Value.bool e185) rfl (by decide) (OE.binI (v := .bool (y188 != 0)) rfl rfl rfl ?_)
                    refine VL.stepD rfl rfl (by decide) (OE.pickV (t := false) (v := .bool (y188 != 0)) (congrArg Value.bool e185) rfl ?_)
                    refine VL.nil ?_
                    exact ⟨rfl, (y188 != 0), rfl, rfl, rfl, rfl, H⟩
  · skip
    refine VC.region ?_
    refine VL.stepD rfl rfl (by decide) (OE.moveV (v := .slice baseA basen basec) rfl ?_)
    refine VL.stepD rfl rfl (by decide) (OE.lenSlice rfl Tryz.underlying22 ?_)
    refine VL.stepD rfl rfl (by decide) (OE.binI (v := .bool (decide (((basen : Nat) : Int) > 200000))) rfl rfl rfl ?_)
    refine VL.stepD rfl rfl (by decide) (OE.moveV (v := .bool (decide (((basen : Nat) : Int) > 200000))) rfl ?_)
    refine boolSplit ((decide (((basen : Nat) : Int) > 200000))) (fun e196 => ?_) (fun e196 => ?_)
    · have H := H.1 e196
      refine VL.gskipD rfl rfl (by decide) (.inl (congrArg Value.bool e196)) rfl (by decide) ?_
      refine VL.gskipD rfl rfl (by decide) (.inl (congrArg Value.bool e196)) rfl (by decide) ?_
      refine VL.gskipD rfl rfl (by decide) (.inl (congrArg Value.bool e196)) rfl (by decide) ?_
      refine VL.stepD rfl rfl (by decide) (OE.pickV (t := true) (v := .bool true) (congrArg Value.bool e196) rfl ?_)
      refine VL.nil ?_
      exact ⟨rfl, true, rfl, rfl, rfl, H⟩
    · have H := H.2 e196
      refine VL.gstepD rfl rfl (by decide) (congrArg Value.bool e196) rfl (by decide) (OE.moveV (v := .slice moreA moren morec) rfl ?_)
      refine VL.gstepD rfl rfl (by decide) (congrArg Value.bool e196) rfl (by decide) (OE.lenSlice rfl Tryz.underlying22 ?_)
      refine VL.gstepD rfl rfl (by decide) (congrArg Value.bool e196) rfl (by decide) (OE.binI (v := .bool (decide (((moren : Nat) : Int) > 200000))) rfl rfl rfl ?_)
      refine VL.stepD rfl rfl (by decide) (OE.pickV (t := false) (v := .bool (decide (((moren : Nat) : Int) > 200000))) (congrArg Value.bool e196) rfl ?_)
      refine VL.nil ?_
      exact ⟨rfl, (decide (((moren : Nat) : Int) > 200000)), rfl, rfl, rfl, H⟩


def D_treadlelaw3_ints.J1 (R : Value → Hp → Prop)    (h2 : Hp) : Prop :=
  R (.bool true) h2
def D_treadlelaw3_ints.L2 (R : Value → Hp → Prop)  (aA : Option Addr) (an : Nat) (bA : Option Addr) (bn : Nat) (C5 : Int → Hp → Prop) (j3 : Int) (h4 : Hp) : Prop :=
  (((decide (j3 < ((an : Nat) : Int))) = true → (∃ a7 : Addr, aA = some a7 ∧ (0 : Int) ≤ j3 ∧ j3 < (an : Int) ∧ (∃ x11 : Int, cell h4 (a7.add (Int.toNat j3 * 1)) = some (.int .i64 x11) ∧ (∃ a13 : Addr, bA = some a13 ∧ (0 : Int) ≤ j3 ∧ j3 < (bn : Int) ∧ (∃ x17 : Int, cell h4 (a13.add (Int.toNat j3 * 1)) = some (.int .i64 x17) ∧ (((x11 != x17) = true → R (.bool false) h4) ∧ ((x11 != x17) = false → C5 (IntKind.i64.wrap (j3 + 1)) h4))))))) ∧ ((decide (j3 < ((an : Nat) : Int))) = false → D_treadlelaw3_ints.J1 R    h4))
def D_treadlelaw3_ints (R : Value → Hp → Prop) (aA : Option Addr) (an : Nat) (ac : Nat) (bA : Option Addr) (bn : Nat) (bc : Nat) (h : Hp) : Prop :=
  (((((an : Nat) : Int) != ((bn : Nat) : Int)) = true → R (.bool false) h) ∧ ((((an : Nat) : Int) != ((bn : Nat) : Int)) = false → (∃ Inv : Int → Hp → Nat → Prop, (∃ m, Inv 0 h m) ∧ ∀ j3 h4 m, Inv j3 h4 m → D_treadlelaw3_ints.L2 R  aA an bA bn (fun j3 h4 => ∃ m1, m1 < m ∧ Inv j3 h4 m1) j3 h4)))
set_option maxRecDepth 10000 in
set_option maxHeartbeats 4000000 in
theorem D_treadlelaw3_ints.sound {R : Value → Hp → Prop} {aA : Option Addr} {an : Nat} {ac : Nat} {bA : Option Addr} {bn : Nat} {bc : Nat} {h : Hp} (H : D_treadlelaw3_ints R  aA an ac bA bn bc h) : CH Tryz.prog 75 #[.slice aA an ac, .slice bA bn bc] h R := by
  refine CHE.enter (n := 26) Tryz.func75 rfl rfl (Nat.le_of_ble_eq_true rfl) ?_
  unfold D_treadlelaw3_ints at H
  refine VC.seq ?_
  refine VC.region ?_
  refine VL.stepD rfl rfl (by decide) (OE.assignV (v := .bool false) rfl ?_)
  refine VL.nil ?_
  change VC _ _ _ _ _ _ _
  refine VC.seq ?_
  refine VC.seq ?_
  refine VC.region ?_
  refine VL.stepD rfl rfl (by decide) (OE.moveV (v := .slice aA an ac) rfl ?_)
  refine VL.stepD rfl rfl (by decide) (OE.lenSlice rfl Tryz.underlying44 ?_)
  refine VL.stepD rfl rfl (by decide) (OE.moveV (v := .slice bA bn bc) rfl ?_)
  refine VL.stepD rfl rfl (by decide) (OE.lenSlice rfl Tryz.underlying44 ?_)
  refine VL.stepD rfl rfl (by decide) (OE.binI (v := .bool (((an : Nat) : Int) != ((bn : Nat) : Int))) rfl rfl rfl ?_)
  refine VL.nil ?_
  change VC _ _ _ _ _ _ _
  refine VC.cond (t := (((an : Nat) : Int) != ((bn : Nat) : Int))) rfl (fun e1 => ?_) (fun e1 => ?_)
  · have H := H.1 e1
    refine VC.seq ?_
    refine VC.region ?_
    refine VL.stepD rfl rfl (by decide) (OE.assignV (v := .bool false) rfl ?_)
    refine VL.nil ?_
    change VC _ _ _ _ _ _ _
    refine VC.ret ?_
    exact ⟨rfl, _, ResOK.t1 rfl (v := .bool false) rfl, H⟩
  · have H := H.2 e1
    refine VC.skip ?_
    change VC _ _ _ _ _ _ _
    refine VC.seqJ (fun f h2 => D_treadlelaw3_ints.J1 R    h2) ?_ ?_
    · intro f h2 J
      have H := J
      skip
      unfold D_treadlelaw3_ints.J1 at H
      refine VC.seq ?_
      refine VC.region ?_
      refine VL.stepD rfl rfl (by decide) (OE.assignV (v := .bool true) rfl ?_)
      refine VL.nil ?_
      change VC _ _ _ _ _ _ _
      refine VC.ret ?_
      exact ⟨rfl, _, ResOK.t1 rfl (v := .bool true) rfl, H⟩
    · skip
      refine VC.seq ?_
      refine VC.region ?_
      refine VL.stepD rfl rfl (by decide) (OE.assignV (v := .int .i64 0) rfl ?_)
      refine VL.nil ?_
      change VC _ _ _ _ _ _ _
      refine VC.block ?_
      obtain ⟨Inv, ⟨m0, h0⟩, H⟩ := H
      refine VC.loop (fun ds f h4 m => ds = [] ∧ ∃ j3 : Int, f 0 = (.slice aA an ac : Value) ∧ f 1 = (.slice bA bn bc : Value) ∧ f 5 = (.int .i64 j3 : Value) ∧ Inv j3 h4 m) (m0 := m0) ⟨rfl, 0, rfl, rfl, rfl, h0⟩ ?_
      intro ds f h4 m I
      obtain ⟨rfl, j3, hk0, hk1, hk5, I⟩ := I
      rw [← fr_self f [(0, .slice aA an ac), (1, .slice bA bn bc), (5, .int .i64 j3)] (by simp only [List.mem_cons, List.not_mem_nil, or_false]; rintro p (rfl | rfl | rfl) <;> assumption)]
      obtain ⟨C5, eC5⟩ : ∃ C5 : Int → Hp → Prop, C5 = (fun j3 h4 => ∃ m1, m1 < m ∧ Inv j3 h4 m1) := ⟨_, rfl⟩
      have H : D_treadlelaw3_ints.L2 R  aA an bA bn C5 j3 h4 := by rw [eC5]; exact H j3 h4 m I
      unfold D_treadlelaw3_ints.L2 at H
      refine VC.seq ?_
      refine VC.seq ?_
      refine VC.region ?_
      refine VL.stepD rfl rfl (by decide) (OE.moveV (v := .int .i64 j3) rfl ?_)
      refine VL.stepD rfl rfl (by decide) (OE.moveV (v := .slice aA an ac) rfl ?_)
      refine VL.stepD rfl rfl (by decide) (OE.lenSlice rfl Tryz.underlying44 ?_)
      refine VL.stepD rfl rfl (by decide) (OE.binI (v := .bool (decide (j3 < ((an : Nat) : Int)))) rfl rfl rfl ?_)
      refine VL.nil ?_
      change VC _ _ _ _ _ _ _
      refine VC.cond (t := (decide (j3 < ((an : Nat) : Int)))) rfl (fun e6 => ?_) (fun e6 => ?_)
      · have H := H.1 e6
        refine VC.skip ?_
        change VC _ _ _ _ _ _ _
        refine VC.seq ?_
        refine VC.block ?_
        refine VC.seq ?_
        refine VC.drawsS Tryz.mixed (by kernel_rfl) (by kernel_rfl) (fun st hd => ?_)
        refine DW.still (i := 0) (v := .slice aA an ac) (by kernel_rfl) ?_
        refine DW.still (i := 1) (v := .int .i64 j3) (by kernel_rfl) ?_
        obtain ⟨a7, e8, z9, z10, H⟩ := H
        refine DW.still (i := 2) (v := .pointer (some (a7.add (Int.toNat j3 * 1)))) (by kernel_rfl) ?_
        obtain ⟨x11, hl12, H⟩ := H
        refine DW.still (i := 3) (v := .int .i64 x11) (by kernel_rfl) ?_
        refine DW.still (i := 4) (v := .slice bA bn bc) (by kernel_rfl) ?_
        refine DW.still (i := 5) (v := .int .i64 j3) (by kernel_rfl) ?_
        obtain ⟨a13, e14, z15, z16, H⟩ := H
        refine DW.still (i := 6) (v := .pointer (some (a13.add (Int.toNat j3 * 1)))) (by kernel_rfl) ?_
        obtain ⟨x17, hl18, H⟩ := H
        refine DW.still (i := 7) (v := .int .i64 x17) (by kernel_rfl) ?_
        refine DW.still (i := 8) (v := .bool (x11 != x17)) (by kernel_rfl) ?_
        refine DW.finL st hd [(17, (.slice aA an ac : Value)), (18, (.int .i64 j3 : Value)), (19, (.pointer (some (a7.add (Int.toNat j3 * 1))) : Value)), (20, (.int .i64 x11 : Value)), (21, (.slice bA bn bc : Value)), (22, (.int .i64 j3 : Value)), (23, (.pointer (some (a13.add (Int.toNat j3 * 1))) : Value)), (24, (.int .i64 x17 : Value)), (25, (.bool (x11 != x17) : Value))] (by kernel_rfl) (by kernel_rfl) ⟨.inr (YD.u (fr (fun _ => undef) [(20, (.int .i64 x11 : Value)), (24, (.int .i64 x17 : Value))]) st rfl rfl (by kernel_rfl) (OE.binI (v := .bool (x11 != x17)) rfl rfl rfl ⟨rfl, rfl⟩)), .inr (YD.u (fr (fun _ => undef) [(23, (.pointer (some (a13.add (Int.toNat j3 * 1))) : Value))]) st rfl rfl (by kernel_rfl) (OE.load (a := (a13.add (Int.toNat j3 * 1))) (v := .int .i64 x17) rfl (LdT.one Tryz.underlying3 rfl hl18) ⟨rfl, rfl⟩)), .inr (YD.u (fr (fun _ => undef) [(21, (.slice bA bn bc : Value)), (22, (.int .i64 j3 : Value))]) st rfl rfl (by kernel_rfl) (OE.indexAddrI (sz := 1) rfl rfl Tryz.underlying44 Tryz.i3 e14 z15 z16 ⟨rfl, rfl⟩)), .inr (YD.u (fr (fun _ => undef) [(5, (.int .i64 j3 : Value))]) st rfl rfl (by kernel_rfl) (OE.moveV (v := .int .i64 j3) rfl ⟨rfl, rfl⟩)), .inr (YD.u (fr (fun _ => undef) [(1, (.slice bA bn bc : Value))]) st rfl rfl (by kernel_rfl) (OE.moveV (v := .slice bA bn bc) rfl ⟨rfl, rfl⟩)), .inr (YD.u (fr (fun _ => undef) [(19, (.pointer (some (a7.add (Int.toNat j3 * 1))) : Value))]) st rfl rfl (by kernel_rfl) (OE.load (a := (a7.add (Int.toNat j3 * 1))) (v := .int .i64 x11) rfl (LdT.one Tryz.underlying3 rfl hl12) ⟨rfl, rfl⟩)), .inr (YD.u (fr (fun _ => undef) [(17, (.slice aA an ac : Value)), (18, (.int .i64 j3 : Value))]) st rfl rfl (by kernel_rfl) (OE.indexAddrI (sz := 1) rfl rfl Tryz.underlying44 Tryz.i3 e8 z9 z10 ⟨rfl, rfl⟩)), .inr (YD.u (fr (fun _ => undef) [(5, (.int .i64 j3 : Value))]) st rfl rfl (by kernel_rfl) (OE.moveV (v := .int .i64 j3) rfl ⟨rfl, rfl⟩)), .inr (YD.u (fr (fun _ => undef) [(0, (.slice aA an ac : Value))]) st rfl rfl (by kernel_rfl) (OE.moveV (v := .slice aA an ac) rfl ⟨rfl, rfl⟩)), trivial⟩ ?_
        change VC _ _ _ _ _ _ _
        refine VC.cond (t := (x11 != x17)) rfl (fun e19 => ?_) (fun e19 => ?_)
        · have H := H.1 e19
          refine VC.seq ?_
          refine VC.region ?_
          refine VL.stepD rfl rfl (by decide) (OE.assignV (v := .bool false) rfl ?_)
          refine VL.nil ?_
          change VC _ _ _ _ _ _ _
          refine VC.ret ?_
          exact ⟨rfl, _, ResOK.t1 rfl (v := .bool false) rfl, H⟩
        · have H := H.2 e19
          refine VC.skip ?_
          change VC _ _ _ _ _ _ _
          refine VC.region ?_
          refine VL.stepD rfl rfl (by decide) (OE.moveV (v := .int .i64 j3) rfl ?_)
          refine VL.stepD rfl rfl (by decide) (OE.binI (v := .int .i64 (IntKind.i64.wrap (j3 + 1))) rfl rfl rfl ?_)
          refine VL.stepD rfl rfl (by decide) (OE.assignV (v := .int .i64 (IntKind.i64.wrap (j3 + 1))) rfl ?_)
          refine VL.nil ?_
          rw [eC5] at H
          obtain ⟨m1, hm1, H⟩ := H
          exact ⟨m1, hm1, rfl, (IntKind.i64.wrap (j3 + 1)), rfl, rfl, rfl, H⟩
      · have H := H.2 e6
        refine VC.exit ?_
        exact ⟨rfl, H⟩

end Go.Proofs
