/- Part of a proof, by program out of hand-written texts. -/
import Derived.Test.YteabnfdeklajlaaGreatF1
set_option linter.unusedVariables false
set_option linter.unusedSimpArgs false
set_option maxRecDepth 10000
namespace Go.Proofs
open Go Go.V
def D_treadlelaw3_fresh (R : Value → Hp → Prop) (room : Int) (files : Int) (h : Hp) : Prop :=
  CH Tryz.prog 22 #[.int .i64 room, .int .i64 files] h (fun r1 h2 => ∃ y3_0 : Option Addr, ∃ y3_1 : Int, r1 = .tuple #[.pointer y3_0, .int .i64 y3_1] ∧ (((y3_1 != 0) = true → R (.pointer none) h2) ∧ ((y3_1 != 0) = false → R (.pointer y3_0) h2)))
set_option maxRecDepth 10000 in
set_option maxHeartbeats 4000000 in
theorem D_treadlelaw3_fresh.sound {R : Value → Hp → Prop} {room : Int} {files : Int} {h : Hp} (H : D_treadlelaw3_fresh R  room files h) : CH Tryz.prog 10 #[.int .i64 room, .int .i64 files] h R := by
  refine CHE.enter (n := 16) Tryz.func10 rfl rfl (Nat.le_of_ble_eq_true rfl) ?_
  unfold D_treadlelaw3_fresh at H
  refine VC.seq ?_
  refine VC.region ?_
  refine VL.stepD rfl rfl (by decide) (OE.assignV (v := .pointer none) rfl ?_)
  refine VL.nil ?_
  change VC _ _ _ _ _ _ _
  refine VC.seq ?_
  refine VC.region ?_
  refine VL.stepD rfl rfl (by decide) (OE.moveV (v := .int .i64 room) rfl ?_)
  refine VL.stepD rfl rfl (by decide) (OE.moveV (v := .int .i64 files) rfl ?_)
  refine VL.stepD rfl rfl (by decide) (OE.callL (args := [.int .i64 room, .int .i64 files]) Tryz.func22 rfl Tryz.nn22 rfl rfl (CHE.mono H (fun r1 h2 H => ?_) (fun _ _ e => e.elim)))
  obtain ⟨y3_0, y3_1, rfl, H⟩ := H
  refine VL.stepD rfl rfl (by decide) (OE.moveV (v := .tuple #[.pointer y3_0, .int .i64 y3_1]) rfl ?_)
  refine VL.stepD rfl rfl (by decide) (OE.extract (v := .pointer y3_0) rfl rfl ?_)
  refine VL.stepD rfl rfl (by decide) (OE.extract (v := .int .i64 y3_1) rfl rfl ?_)
  refine VL.stepD rfl rfl (by decide) (OE.assignV (v := .pointer y3_0) rfl ?_)
  refine VL.stepD rfl rfl (by decide) (OE.assignV (v := .int .i64 y3_1) rfl ?_)
  refine VL.nil ?_
  change VC _ _ _ _ _ _ _
  refine VC.seq ?_
  refine VC.seq ?_
  refine VC.region ?_
  refine VL.stepD rfl rfl (by decide) (OE.moveV (v := .int .i64 y3_1) rfl ?_)
  refine VL.stepD rfl rfl (by decide) (OE.binI (v := .bool (y3_1 != 0)) rfl rfl rfl ?_)
  refine VL.nil ?_
  change VC _ _ _ _ _ _ _
  refine VC.cond (t := (y3_1 != 0)) rfl (fun e4 => ?_) (fun e4 => ?_)
  · have H := H.1 e4
    refine VC.seq ?_
    refine VC.region ?_
    refine VL.stepD rfl rfl (by decide) (OE.assignV (v := .pointer none) rfl ?_)
    refine VL.nil ?_
    change VC _ _ _ _ _ _ _
    refine VC.ret ?_
    exact ⟨rfl, _, ResOK.t1 rfl (v := .pointer none) rfl, H⟩
  · have H := H.2 e4
    refine VC.skip ?_
    change VC _ _ _ _ _ _ _
    refine VC.seq ?_
    refine VC.region ?_
    refine VL.stepD rfl rfl (by decide) (OE.moveV (v := .pointer y3_0) rfl ?_)
    refine VL.stepD rfl rfl (by decide) (OE.assignV (v := .pointer y3_0) rfl ?_)
    refine VL.nil ?_
    change VC _ _ _ _ _ _ _
    refine VC.ret ?_
    exact ⟨rfl, _, ResOK.t1 rfl (v := .pointer y3_0) rfl, H⟩

def D_treadlelaw3_round.J1 (R : Value → Hp → Prop)   (j2 : Int) (h3 : Hp) : Prop :=
  R (.int .i64 j2) h3
def D_treadlelaw3_round (R : Value → Hp → Prop) (v : Int) (a_n : Int) (h : Hp) : Prop :=
  (a_n ≠ 0 ∧ (((decide ((Int.tmod v a_n) < 0)) = true → D_treadlelaw3_round.J1 R   (IntKind.i64.wrap ((Int.tmod v a_n) + a_n)) h) ∧ ((decide ((Int.tmod v a_n) < 0)) = false → D_treadlelaw3_round.J1 R   (Int.tmod v a_n) h)))
set_option maxRecDepth 10000 in
set_option maxHeartbeats 4000000 in
theorem D_treadlelaw3_round.sound {R : Value → Hp → Prop} {v : Int} {a_n : Int} {h : Hp} (H : D_treadlelaw3_round R  v a_n h) : CH Tryz.prog 15 #[.int .i64 v, .int .i64 a_n] h R := by
  refine CHE.enter (n := 14) Tryz.func15 rfl rfl (Nat.le_of_ble_eq_true rfl) ?_
  unfold D_treadlelaw3_round at H
  refine VC.seq ?_
  refine VC.region ?_
  refine VL.stepD rfl rfl (by decide) (OE.assignV (v := .int .i64 0) rfl ?_)
  refine VL.nil ?_
  change VC _ _ _ _ _ _ _
  refine VC.seq ?_
  refine VC.region ?_
  refine VL.stepD rfl rfl (by decide) (OE.moveV (v := .int .i64 v) rfl ?_)
  refine VL.stepD rfl rfl (by decide) (OE.moveV (v := .int .i64 a_n) rfl ?_)
  obtain ⟨hz1, H⟩ := H
  refine VL.stepD rfl rfl (by decide) (OE.binI (v := .int .i64 (Int.tmod v a_n)) rfl rfl (by simp only [V.binI, if_true]; rw [if_neg hz1]) ?_)
  refine VL.stepD rfl rfl (by decide) (OE.assignV (v := .int .i64 (Int.tmod v a_n)) rfl ?_)
  refine VL.nil ?_
  change VC _ _ _ _ _ _ _
  refine VC.seqJ (fun f h3 => ∃ j2 : Int, f 0 = (.int .i64 j2 : Value) ∧ D_treadlelaw3_round.J1 R   j2 h3) ?_ ?_
  · intro f h3 J
    obtain ⟨j2, hk0, H⟩ := J
    rw [← fr_self f [(0, .int .i64 j2)] (by simp only [List.mem_cons, List.not_mem_nil, or_false]; rintro p (rfl) <;> assumption)]
    unfold D_treadlelaw3_round.J1 at H
    refine VC.seq ?_
    refine VC.region ?_
    refine VL.stepD rfl rfl (by decide) (OE.moveV (v := .int .i64 j2) rfl ?_)
    refine VL.stepD rfl rfl (by decide) (OE.assignV (v := .int .i64 j2) rfl ?_)
    refine VL.nil ?_
    change VC _ _ _ _ _ _ _
    refine VC.ret ?_
    exact ⟨rfl, _, ResOK.t1 rfl (v := .int .i64 j2) rfl, H⟩
  · skip
    refine VC.seq ?_
    refine VC.region ?_
    refine VL.stepD rfl rfl (by decide) (OE.moveV (v := .int .i64 (Int.tmod v a_n)) rfl ?_)
    refine VL.stepD rfl rfl (by decide) (OE.binI (v := .bool (decide ((Int.tmod v a_n) < 0))) rfl rfl rfl ?_)
    refine VL.nil ?_
    change VC _ _ _ _ _ _ _
    refine VC.cond (t := (decide ((Int.tmod v a_n) < 0))) rfl (fun e4 => ?_) (fun e4 => ?_)
    · have H := H.1 e4
      refine VC.region ?_
      refine VL.stepD rfl rfl (by decide) (OE.moveV (v := .int .i64 (Int.tmod v a_n)) rfl ?_)
      refine VL.stepD rfl rfl (by decide) (OE.moveV (v := .int .i64 a_n) rfl ?_)
      refine VL.stepD rfl rfl (by decide) (OE.binI (v := .int .i64 (IntKind.i64.wrap ((Int.tmod v a_n) + a_n))) rfl rfl rfl ?_)
      refine VL.stepD rfl rfl (by decide) (OE.assignV (v := .int .i64 (IntKind.i64.wrap ((Int.tmod v a_n) + a_n))) rfl ?_)
      refine VL.nil ?_
      exact ⟨rfl, (IntKind.i64.wrap ((Int.tmod v a_n) + a_n)), rfl, H⟩
    · have H := H.2 e4
      refine VC.skip ?_
      exact ⟨rfl, (Int.tmod v a_n), rfl, H⟩

def D_treadlelaw3_known.J2 (R : Value → Hp → Prop)  (y3_0 : Option Addr) (j7 : Bool) (h8 : Hp) : Prop :=
  ((j7 = true → R (.bool false) h8) ∧ (j7 = false → (∀ b11 h10, b11 = Array.size h8 → h10 = Array.push h8 (.cells #[.int .i64 0] 3) → (∀ b13 h12, b13 = Array.size h10 → h12 = Array.push h10 (.cells #[.int .i64 1, .slice (some (Addr.mk b11 0 none)) 1 1] 59) → CH Tryz.prog 20 #[.pointer y3_0, .agg #[.int .i64 0, .slice none 0 0, .slice (some (Addr.mk b13 0 none)) 1 1]] h12 (fun r14 h15 => ∃ y16A : Option Addr, ∃ y16n : Nat, ∃ y16c : Nat, r14 = .slice y16A y16n y16c ∧ CH Tryz.prog 18 #[.pointer y3_0, .string (ByteArray.mk #[97])] h15 (fun r17 h18 => ∃ y19_0A : Option Addr, ∃ y19_0n : Nat, ∃ y19_0c : Nat, ∃ y19_1 : Int, r17 = .tuple #[.slice y19_0A y19_0n y19_0c, .int .i64 y19_1] ∧ (((((y16n : Nat) : Int) == 1) = true → (∃ a21 : Addr, y16A = some a21 ∧ (0 : Int) ≤ 0 ∧ 0 < (y16n : Int) ∧ (∃ x25A : Option Addr, ∃ x25n : Nat, ∃ x25c : Nat, cell h18 ((a21.add (Int.toNat 0 * 2)).add 1) = some (.slice x25A x25n x25c) ∧ (((((x25n : Nat) : Int) == 24) = true → (∃ a28 : Addr, y16A = some a28 ∧ (0 : Int) ≤ 0 ∧ 0 < (y16n : Int) ∧ (∃ x32A : Option Addr, ∃ x32n : Nat, ∃ x32c : Nat, cell h18 ((a28.add (Int.toNat 0 * 2)).add 1) = some (.slice x32A x32n x32c) ∧ (∃ a34 : Addr, x32A = some a34 ∧ (0 : Int) ≤ 4 ∧ 4 < (x32n : Int) ∧ (∃ x38 : Int, cell h18 (a34.add (Int.toNat 4 * 1)) = some (.int .u8 x38) ∧ (((x38 == 7) = true → (((y19_1 == 0) = true → (((((y19_0n : Nat) : Int) == 24) = true → (∃ a43 : Addr, y19_0A = some a43 ∧ (0 : Int) ≤ 3 ∧ 3 < (y19_0n : Int) ∧ (∃ x47 : Int, cell h18 (a43.add (Int.toNat 3 * 1)) = some (.int .u8 x47) ∧ (((x47 == 5) = true → (∃ a50 : Addr, y19_0A = some a50 ∧ (0 : Int) ≤ 4 ∧ 4 < (y19_0n : Int) ∧ (∃ x54 : Int, cell h18 (a50.add (Int.toNat 4 * 1)) = some (.int .u8 x54) ∧ (((x54 == 0) = true → (∃ a57 : Addr, y19_0A = some a57 ∧ (0 : Int) ≤ 15 ∧ 15 < (y19_0n : Int) ∧ (∃ x61 : Int, cell h18 (a57.add (Int.toNat 15 * 1)) = some (.int .u8 x61) ∧ (((x61 == 0) = true → (∃ a64 : Addr, y19_0A = some a64 ∧ (0 : Int) ≤ 16 ∧ 16 < (y19_0n : Int) ∧ (∃ x68 : Int, cell h18 (a64.add (Int.toNat 16 * 1)) = some (.int .u8 x68) ∧ (((x68 == 7) = true → CH Tryz.prog 38 #[.pointer y3_0] h18 (fun r71 h72 => ∃ y73 : Int, r71 = .int .i64 y73 ∧ R (.bool (y73 == 1)) h72)) ∧ ((x68 == 7) = false → R (.bool false) h18))))) ∧ ((x61 == 0) = false → R (.bool false) h18))))) ∧ ((x54 == 0) = false → R (.bool false) h18))))) ∧ ((x47 == 5) = false → R (.bool false) h18))))) ∧ ((((y19_0n : Nat) : Int) == 24) = false → R (.bool false) h18))) ∧ ((y19_1 == 0) = false → R (.bool false) h18))) ∧ ((x38 == 7) = false → R (.bool false) h18))))))) ∧ ((((x25n : Nat) : Int) == 24) = false → R (.bool false) h18))))) ∧ ((((y16n : Nat) : Int) == 1) = false → R (.bool false) h18))))))))
def D_treadlelaw3_known.J1 (R : Value → Hp → Prop)  (y3_0 : Option Addr) (j4 : Bool) (h5 : Hp) : Prop :=
  ((j4 = true → R (.bool false) h5) ∧ (j4 = false → (∀ b82 h81, b82 = Array.size h5 → h81 = Array.push h5 (.cells #[.int .u8 7, .int .u8 7, .int .u8 7, .int .u8 7, .int .u8 7, .int .u8 7, .int .u8 7, .int .u8 7, .int .u8 7, .int .u8 7, .int .u8 7, .int .u8 7, .int .u8 7, .int .u8 7, .int .u8 7, .int .u8 7, .int .u8 7, .int .u8 7, .int .u8 7, .int .u8 7] 5) → CH Tryz.prog 12 #[.pointer y3_0, .string (ByteArray.mk #[97]), .slice (some (Addr.mk b82 0 none)) 20 20] h81 (fun r83 h84 => ∃ y85 : Int, r83 = .int .i64 y85 ∧ (((y85 != 0) = true → D_treadlelaw3_known.J2 R  y3_0 true h84) ∧ ((y85 != 0) = false → CH Tryz.prog 14 #[.pointer y3_0] h84 (fun r87 h88 => ∃ y89 : Int, r87 = .int .i64 y89 ∧ (((y89 != 0) = true → D_treadlelaw3_known.J2 R  y3_0 true h88) ∧ ((y89 != 0) = false → CH Tryz.prog 37 #[.pointer y3_0] h88 (fun r91 h92 => ∃ y93 : Int, r91 = .int .i64 y93 ∧ D_treadlelaw3_known.J2 R  y3_0 (y93 != 5) h92))))))))))
def D_treadlelaw3_known (R : Value → Hp → Prop)  (h : Hp) : Prop :=
  CH Tryz.prog 22 #[.int .i64 100, .int .i64 3] h (fun r1 h2 => ∃ y3_0 : Option Addr, ∃ y3_1 : Int, r1 = .tuple #[.pointer y3_0, .int .i64 y3_1] ∧ (((y3_1 != 0) = true → D_treadlelaw3_known.J1 R  y3_0 true h2) ∧ ((y3_1 != 0) = false → (((Option.isNone y3_0) = true → D_treadlelaw3_known.J1 R  y3_0 true h2) ∧ ((Option.isNone y3_0) = false → CH Tryz.prog 11 #[.pointer y3_0, .string (ByteArray.mk #[97])] h2 (fun r101 h102 => ∃ y103 : Int, r101 = .int .i64 y103 ∧ (((y103 != 0) = true → D_treadlelaw3_known.J1 R  y3_0 true h102) ∧ ((y103 != 0) = false → CH Tryz.prog 11 #[.pointer y3_0, .string (ByteArray.mk #[97])] h102 (fun r105 h106 => ∃ y107 : Int, r105 = .int .i64 y107 ∧ (((y107 != 7) = true → D_treadlelaw3_known.J1 R  y3_0 true h106) ∧ ((y107 != 7) = false → (∀ b110 h109, b110 = Array.size h106 → h109 = Array.push h106 (.cells #[.int .u8 5, .int .u8 5, .int .u8 5, .int .u8 5] 5) → CH Tryz.prog 12 #[.pointer y3_0, .string (ByteArray.mk #[97]), .slice (some (Addr.mk b110 0 none)) 4 4] h109 (fun r111 h112 => ∃ y113 : Int, r111 = .int .i64 y113 ∧ (((y113 != 0) = true → D_treadlelaw3_known.J1 R  y3_0 true h112) ∧ ((y113 != 0) = false → CH Tryz.prog 13 #[.pointer y3_0, .string (ByteArray.mk #[97])] h112 (fun r115 h116 => ∃ y117 : Int, r115 = .int .i64 y117 ∧ D_treadlelaw3_known.J1 R  y3_0 (y117 != 0) h116))))))))))))))))
set_option maxRecDepth 10000 in
set_option maxHeartbeats 4000000 in
theorem D_treadlelaw3_known.sound {R : Value → Hp → Prop}  {h : Hp} (H : D_treadlelaw3_known R   h) : CH Tryz.prog 9 #[] h R := by
  refine CHE.enter (n := 119) Tryz.func9 rfl rfl (Nat.le_of_ble_eq_true rfl) ?_
  unfold D_treadlelaw3_known at H
  refine VC.seq ?_
  refine VC.region ?_
  refine VL.stepD rfl rfl (by decide) (OE.assignV (v := .bool false) rfl ?_)
  refine VL.nil ?_
  change VC _ _ _ _ _ _ _
  refine VC.seq ?_
  refine VC.region ?_
  refine VL.stepD rfl rfl (by decide) (OE.callL (args := [.int .i64 100, .int .i64 3]) Tryz.func22 rfl Tryz.nn22 rfl rfl (CHE.mono H (fun r1 h2 H => ?_) (fun _ _ e => e.elim)))
  obtain ⟨y3_0, y3_1, rfl, H⟩ := H
  refine VL.stepD rfl rfl (by decide) (OE.moveV (v := .tuple #[.pointer y3_0, .int .i64 y3_1]) rfl ?_)
  refine VL.stepD rfl rfl (by decide) (OE.extract (v := .pointer y3_0) rfl rfl ?_)
  refine VL.stepD rfl rfl (by decide) (OE.extract (v := .int .i64 y3_1) rfl rfl ?_)
  refine VL.stepD rfl rfl (by decide) (OE.assignV (v := .pointer y3_0) rfl ?_)
  refine VL.stepD rfl rfl (by decide) (OE.assignV (v := .int .i64 y3_1) rfl ?_)
  refine VL.nil ?_
  change VC _ _ _ _ _ _ _
  refine VC.seq ?_
  refine VC.seqJ (fun f h5 => ∃ j4 : Bool, f 1 = (.pointer y3_0 : Value) ∧ f 35 = (.bool j4 : Value) ∧ D_treadlelaw3_known.J1 R  y3_0 j4 h5) ?_ ?_
  · intro f h5 J
    obtain ⟨j4, hk1, hk35, H⟩ := J
    rw [← fr_self f [(1, .pointer y3_0), (35, .bool j4)] (by simp only [List.mem_cons, List.not_mem_nil, or_false]; rintro p (rfl | rfl) <;> assumption)]
    unfold D_treadlelaw3_known.J1 at H
    refine VC.cond (t := j4) rfl (fun e6 => ?_) (fun e6 => ?_)
    · have H := H.1 e6
      refine VC.seq ?_
      refine VC.region ?_
      refine VL.stepD rfl rfl (by decide) (OE.assignV (v := .bool false) rfl ?_)
      refine VL.nil ?_
      change VC _ _ _ _ _ _ _
      refine VC.ret ?_
      exact ⟨rfl, _, ResOK.t1 rfl (v := .bool false) rfl, H⟩
    · have H := H.2 e6
      refine VC.skip ?_
      change VC _ _ _ _ _ _ _
      refine VC.seq ?_
      refine VC.seqJ (fun f h8 => ∃ j7 : Bool, f 1 = (.pointer y3_0 : Value) ∧ f 49 = (.bool j7 : Value) ∧ D_treadlelaw3_known.J2 R  y3_0 j7 h8) ?_ ?_
      · intro f h8 J
        obtain ⟨j7, hk1, hk49, H⟩ := J
        rw [← fr_self f [(1, .pointer y3_0), (49, .bool j7)] (by simp only [List.mem_cons, List.not_mem_nil, or_false]; rintro p (rfl | rfl) <;> assumption)]
        unfold D_treadlelaw3_known.J2 at H
        refine VC.cond (t := j7) rfl (fun e9 => ?_) (fun e9 => ?_)
        · have H := H.1 e9
          refine VC.seq ?_
          refine VC.region ?_
          refine VL.stepD rfl rfl (by decide) (OE.assignV (v := .bool false) rfl ?_)
          refine VL.nil ?_
          change VC _ _ _ _ _ _ _
          refine VC.ret ?_
          exact ⟨rfl, _, ResOK.t1 rfl (v := .bool false) rfl, H⟩
        · have H := H.2 e9
          refine VC.skip ?_
          change VC _ _ _ _ _ _ _
          refine VC.seq ?_
          refine VC.region ?_
          refine VL.stepD rfl rfl (by decide) (OE.moveV (v := .pointer y3_0) rfl ?_)
          obtain ⟨b11, eb79⟩ : ∃ b11, b11 = Array.size h8 := ⟨_, rfl⟩
          obtain ⟨h10, eh80⟩ : ∃ h10, h10 = Array.push h8 (.cells #[.int .i64 0] 3) := ⟨_, rfl⟩
          have H := H b11 h10 eb79 eh80
          refine VL.stepD rfl rfl (by decide) (OE.buildSliceE (ps := [(0, (.int .i64 0 : Value))]) (cells := #[.int .i64 0]) (e := 3) rfl (Tryz.bf6 _) eb79 eh80 ?_)
          refine VL.stepD rfl rfl (by decide) (OE.buildV (ps := [(0, (.int .i64 1 : Value)), (1, (.slice (some (Addr.mk b11 0 none)) 1 1 : Value))]) rfl (Tryz.bf3 _ _ _ _) ?_)
          obtain ⟨b13, eb77⟩ : ∃ b13, b13 = Array.size h10 := ⟨_, rfl⟩
          obtain ⟨h12, eh78⟩ : ∃ h12, h12 = Array.push h10 (.cells #[.int .i64 1, .slice (some (Addr.mk b11 0 none)) 1 1] 59) := ⟨_, rfl⟩
          have H := H b13 h12 eb77 eh78
          refine VL.stepD rfl rfl (by decide) (OE.buildSliceE (ps := [(0, (.agg #[.int .i64 1, .slice (some (Addr.mk b11 0 none)) 1 1] : Value))]) (cells := #[.int .i64 1, .slice (some (Addr.mk b11 0 none)) 1 1]) (e := 59) rfl (Tryz.bf5 _ _ _ _) eb77 eh78 ?_)
          refine VL.stepD rfl rfl (by decide) (OE.buildV (ps := [(2, (.slice (some (Addr.mk b13 0 none)) 1 1 : Value))]) rfl (Tryz.bf4 _ _ _) ?_)
          refine VL.stepD rfl rfl (by decide) (OE.callL (args := [.pointer y3_0, .agg #[.int .i64 0, .slice none 0 0, .slice (some (Addr.mk b13 0 none)) 1 1]]) Tryz.func20 rfl Tryz.nn20 rfl rfl (CHE.mono H (fun r14 h15 H => ?_) (fun _ _ e => e.elim)))
          obtain ⟨y16A, y16n, y16c, rfl, H⟩ := H
          refine VL.stepD rfl rfl (by decide) (OE.assignV (v := .slice y16A y16n y16c) rfl ?_)
          refine VL.nil ?_
          change VC _ _ _ _ _ _ _
          refine VC.seq ?_
          refine VC.region ?_
          refine VL.stepD rfl rfl (by decide) (OE.moveV (v := .pointer y3_0) rfl ?_)
          refine VL.stepD rfl rfl (by decide) (OE.callL (args := [.pointer y3_0, .string (ByteArray.mk #[97])]) Tryz.func18 rfl Tryz.nn18 rfl rfl (CHE.mono H (fun r17 h18 H => ?_) (fun _ _ e => e.elim)))
          obtain ⟨y19_0A, y19_0n, y19_0c, y19_1, rfl, H⟩ := H
          refine VL.stepD rfl rfl (by decide) (OE.moveV (v := .tuple #[.slice y19_0A y19_0n y19_0c, .int .i64 y19_1]) rfl ?_)
          refine VL.stepD rfl rfl (by decide) (OE.extract (v := .slice y19_0A y19_0n y19_0c) rfl rfl ?_)
          refine VL.stepD rfl rfl (by decide) (OE.extract (v := .int .i64 y19_1) rfl rfl ?_)
          refine VL.stepD rfl rfl (by decide) (OE.assignV (v := .slice y19_0A y19_0n y19_0c) rfl ?_)
          refine VL.stepD rfl rfl (by decide) (OE.assignV (v := .int .i64 y19_1) rfl ?_)
          refine VL.nil ?_
          change VC _ _ _ _ _ _ _
          refine VC.seq ?_
          refine VC.region ?_
          refine VL.stepD rfl rfl (by decide) (OE.moveV (v := .slice y16A y16n y16c) rfl ?_)
          refine VL.stepD rfl rfl (by decide) (OE.lenSlice rfl Tryz.underlying42 ?_)
          refine VL.stepD rfl rfl (by decide) (OE.binI (v := .bool (((y16n : Nat) : Int) == 1)) rfl rfl rfl ?_)
          refine VL.stepD rfl rfl (by decide) (OE.moveV (v := .bool (((y16n : Nat) : Int) == 1)) rfl ?_)
          refine boolSplit ((((y16n : Nat) : Int) == 1)) (fun e20 => ?_) (fun e20 => ?_)
          · have H := H.1 e20
            refine VL.gstepD rfl rfl (by decide) (congrArg Value.bool e20) rfl (by decide) (OE.moveV (v := .slice y16A y16n y16c) rfl ?_)
            obtain ⟨a21, e22, z23, z24, H⟩ := H
            refine VL.gstepD rfl rfl (by decide) (congrArg Value.bool e20) rfl (by decide) (OE.indexAddrI (sz := 2) rfl rfl Tryz.underlying42 Tryz.i61 e22 z23 z24 ?_)
            refine VL.gstepD rfl rfl (by decide) (congrArg Value.bool e20) rfl (by decide) (OE.fieldAddrI (a := (a21.add (Int.toNat 0 * 2))) (o := 1) rfl Tryz.underlying61 rfl Tryz.i22 (by decide) rfl ?_)
            obtain ⟨x25A, x25n, x25c, hl26, H⟩ := H
            refine VL.gstepD rfl rfl (by decide) (congrArg Value.bool e20) rfl (by decide) (OE.load (a := ((a21.add (Int.toNat 0 * 2)).add 1)) (v := .slice x25A x25n x25c) rfl (LdT.one Tryz.underlying22 rfl hl26) ?_)
            refine VL.gstepD rfl rfl (by decide) (congrArg Value.bool e20) rfl (by decide) (OE.lenSlice rfl Tryz.underlying22 ?_)
            refine VL.gstepD rfl rfl (by decide) (congrArg Value.bool e20) rfl (by decide) (OE.binI (v := .bool (((x25n : Nat) : Int) == 24)) rfl rfl rfl ?_)
            refine VL.stepD rfl rfl (by decide) (OE.pickV (t := true) (v := .bool (((x25n : Nat) : Int) == 24)) (congrArg Value.bool e20) rfl ?_)
            refine VL.stepD rfl rfl (by decide) (OE.moveV (v := .bool (((x25n : Nat) : Int) == 24)) rfl ?_)
            refine boolSplit ((((x25n : Nat) : Int) == 24)) (fun e27 => ?_) (fun e27 => ?_)
            · have H := H.1 e27
              refine VL.gstepD rfl rfl (by decide) (congrArg Value.bool e27) rfl (by decide) (OE.moveV (v := .slice y16A y16n y16c) rfl ?_)
              obtain ⟨a28, e29, z30, z31, H⟩ := H
              refine VL.gstepD rfl rfl (by decide) (congrArg Value.bool e27) rfl (by decide) (OE.indexAddrI (sz := 2) rfl rfl Tryz.underlying42 Tryz.i61 e29 z30 z31 ?_)
              refine VL.gstepD rfl rfl (by decide) (congrArg Value.bool e27) rfl (by decide) (OE.fieldAddrI (a := (a28.add (Int.toNat 0 * 2))) (o := 1) rfl Tryz.underlying61 rfl Tryz.i22 (by decide) rfl ?_)
              obtain ⟨x32A, x32n, x32c, hl33, H⟩ := H
              refine VL.gstepD rfl rfl (by decide) (congrArg Value.bool e27) rfl (by decide) (OE.load (a := ((a28.add (Int.toNat 0 * 2)).add 1)) (v := .slice x32A x32n x32c) rfl (LdT.one Tryz.underlying22 rfl hl33) ?_)
              obtain ⟨a34, e35, z36, z37, H⟩ := H
              refine VL.gstepD rfl rfl (by decide) (congrArg Value.bool e27) rfl (by decide) (OE.indexAddrI (sz := 1) rfl rfl Tryz.underlying22 Tryz.i5 e35 z36 z37 ?_)
              obtain ⟨x38, hl39, H⟩ := H
              refine VL.gstepD rfl rfl (by decide) (congrArg Value.bool e27) rfl (by decide) (OE.load (a := (a34.add (Int.toNat 4 * 1))) (v := .int .u8 x38) rfl (LdT.one Tryz.underlying5 rfl hl39) ?_)
              refine VL.gstepD rfl rfl (by decide) (congrArg Value.bool e27) rfl (by decide) (OE.binI (v := .bool (x38 == 7)) rfl rfl rfl ?_)
              refine VL.stepD rfl rfl (by decide) (OE.pickV (t := true) (v := .bool (x38 == 7)) (congrArg Value.bool e27) rfl ?_)
              refine VL.stepD rfl rfl (by decide) (OE.moveV (v := .bool (x38 == 7)) rfl ?_)
              refine boolSplit ((x38 == 7)) (fun e40 => ?_) (fun e40 => ?_)
              · have H := H.1 e40
                refine VL.gstepD rfl rfl (by decide) (congrArg Value.bool e40) rfl (by decide) (OE.moveV (v := .int .i64 y19_1) rfl ?_)
                refine VL.gstepD rfl rfl (by decide) (congrArg Value.bool e40) rfl (by decide) (OE.binI (v := .bool (y19_1 == 0)) rfl rfl rfl ?_)
                refine VL.stepD rfl rfl (by decide) (OE.pickV (t := true) (v := .bool (y19_1 == 0)) (congrArg Value.bool e40) rfl ?_)
                refine VL.stepD rfl rfl (by decide) (OE.moveV (v := .bool (y19_1 == 0)) rfl ?_)
                refine boolSplit ((y19_1 == 0)) (fun e41 => ?_) (fun e41 => ?_)
                · have H := H.1 e41
                  refine VL.gstepD rfl rfl (by decide) (congrArg Value.bool e41) rfl (by decide) (OE.moveV (v := .slice y19_0A y19_0n y19_0c) rfl ?_)
                  refine VL.gstepD rfl rfl (by decide) (congrArg Value.bool e41) rfl (by decide) (OE.lenSlice rfl Tryz.underlying22 ?_)
                  refine VL.gstepD rfl rfl (by decide) (congrArg Value.bool e41) rfl (by decide) (OE.binI (v := .bool (((y19_0n : Nat) : Int) == 24)) rfl rfl rfl ?_)
                  refine VL.stepD rfl rfl (by decide) (OE.pickV (t := true) (v := .bool (((y19_0n : Nat) : Int) == 24)) (congrArg Value.bool e41) rfl ?_)
                  refine VL.stepD rfl rfl (by decide) (OE.moveV (v := .bool (((y19_0n : Nat) : Int) == 24)) rfl ?_)
                  refine boolSplit ((((y19_0n : Nat) : Int) == 24)) (fun e42 => ?_) (fun e42 => ?_)
                  · have H := H.1 e42
                    refine VL.gstepD rfl rfl (by decide) (congrArg Value.bool e42) rfl (by decide) (OE.moveV (v := .slice y19_0A y19_0n y19_0c) rfl ?_)
                    obtain ⟨a43, e44, z45, z46, H⟩ := H
                    refine VL.gstepD rfl rfl (by decide) (congrArg Value.bool e42) rfl (by decide) (OE.indexAddrI (sz := 1) rfl rfl Tryz.underlying22 Tryz.i5 e44 z45 z46 ?_)
                    obtain ⟨x47, hl48, H⟩ := H
                    refine VL.gstepD rfl rfl (by decide) (congrArg Value.bool e42) rfl (by decide) (OE.load (a := (a43.add (Int.toNat 3 * 1))) (v := .int .u8 x47) rfl (LdT.one Tryz.underlying5 rfl hl48) ?_)
                    refine VL.gstepD rfl rfl (by decide) (congrArg Value.bool e42) rfl (by decide) (OE.binI (v := .bool (x47 == 5)) rfl rfl rfl ?_)
                    refine VL.stepD rfl rfl (by decide) (OE.pickV (t := true) (v := .bool (x47 == 5)) (congrArg Value.bool e42) rfl ?_)
                    refine VL.stepD rfl rfl (by decide) (OE.moveV (v := .bool (x47 == 5)) rfl ?_)
                    refine boolSplit ((x47 == 5)) (fun e49 => ?_) (fun e49 => ?_)
                    · have H := H.1 e49
                      refine VL.gstepD rfl rfl (by decide) (congrArg Value.bool e49) rfl (by decide) (OE.moveV (v := .slice y19_0A y19_0n y19_0c) rfl ?_)
                      obtain ⟨a50, e51, z52, z53, H⟩ := H
                      refine VL.gstepD rfl rfl (by decide) (congrArg Value.bool e49) rfl (by decide) (OE.indexAddrI (sz := 1) rfl rfl Tryz.underlying22 Tryz.i5 e51 z52 z53 ?_)
                      obtain ⟨x54, hl55, H⟩ := H
                      refine VL.gstepD rfl rfl (by decide) (congrArg Value.bool e49) rfl (by decide) (OE.load (a := (a50.add (Int.toNat 4 * 1))) (v := .int .u8 x54) rfl (LdT.one Tryz.underlying5 rfl hl55) ?_)
                      refine VL.gstepD rfl rfl (by decide) (congrArg Value.bool e49) rfl (by decide) (OE.binI (v := .bool (x54 == 0)) rfl rfl rfl ?_)
                      refine VL.stepD rfl rfl (by decide) (OE.pickV (t := true) (v := .bool (x54 == 0)) (congrArg Value.bool e49) rfl ?_)
                      refine VL.stepD rfl rfl (by decide) (OE.moveV (v := .bool (x54 == 0)) rfl ?_)
                      refine boolSplit ((x54 == 0)) (fun e56 => ?_) (fun e56 => ?_)
                      · have H := H.1 e56
                        refine VL.gstepD rfl rfl (by decide) (congrArg Value.bool e56) rfl (by decide) (OE.moveV (v := .slice y19_0A y19_0n y19_0c) rfl ?_)
                        obtain ⟨a57, e58, z59, z60, H⟩ := H
                        refine VL.gstepD rfl rfl (by decide) (congrArg Value.bool e56) rfl (by decide) (OE.indexAddrI (sz := 1) rfl rfl Tryz.underlying22 Tryz.i5 e58 z59 z60 ?_)
                        obtain ⟨x61, hl62, H⟩ := H
                        refine VL.gstepD rfl rfl (by decide) (congrArg Value.bool e56) rfl (by decide) (OE.load (a := (a57.add (Int.toNat 15 * 1))) (v := .int .u8 x61) rfl (LdT.one Tryz.underlying5 rfl hl62) ?_)
                        refine VL.gstepD rfl rfl (by decide) (congrArg Value.bool e56) rfl (by decide) (OE.binI (v := .bool (x61 == 0)) rfl rfl rfl ?_)
                        refine VL.stepD rfl rfl (by decide) (OE.pickV (t := true) (v := .bool (x61 == 0)) (congrArg Value.bool e56) rfl ?_)
                        refine VL.stepD rfl rfl (by decide) (OE.moveV (v := .bool (x61 == 0)) rfl ?_)
                        refine boolSplit ((x61 == 0)) (fun e63 => ?_) (fun e63 => ?_)
                        · have H := H.1 e63
                          refine VL.gstepD rfl rfl (by decide) (congrArg Value.bool e63) rfl (by decide) (OE.moveV (v := .slice y19_0A y19_0n y19_0c) rfl ?_)
                          obtain ⟨a64, e65, z66, z67, H⟩ := H
                          refine VL.gstepD rfl rfl (by decide) (congrArg Value.bool e63) rfl (by decide) (OE.indexAddrI (sz := 1) rfl rfl Tryz.underlying22 Tryz.i5 e65 z66 z67 ?_)
                          obtain ⟨x68, hl69, H⟩ := H
                          refine VL.gstepD rfl rfl (by decide) (congrArg Value.bool e63) rfl (by decide) (OE.load (a := (a64.add (Int.toNat 16 * 1))) (v := .int .u8 x68) rfl (LdT.one Tryz.underlying5 rfl hl69) ?_)
                          refine VL.gstepD rfl rfl (by decide) (congrArg Value.bool e63) rfl (by decide) (OE.binI (v := .bool (x68 == 7)) rfl rfl rfl ?_)
                          refine VL.stepD rfl rfl (by decide) (OE.pickV (t := true) (v := .bool (x68 == 7)) (congrArg Value.bool e63) rfl ?_)
                          refine VL.stepD rfl rfl (by decide) (OE.moveV (v := .bool (x68 == 7)) rfl ?_)
                          refine boolSplit ((x68 == 7)) (fun e70 => ?_) (fun e70 => ?_)
                          · have H := H.1 e70
                            refine VL.gstepD rfl rfl (by decide) (congrArg Value.bool e70) rfl (by decide) (OE.moveV (v := .pointer y3_0) rfl ?_)
                            refine VL.gstepD rfl rfl (by decide) (congrArg Value.bool e70) rfl (by decide) (OE.callL (args := [.pointer y3_0]) Tryz.func38 rfl Tryz.nn38 rfl rfl (CHE.mono H (fun r71 h72 H => ?_) (fun _ _ e => e.elim)))
                            obtain ⟨y73, rfl, H⟩ := H
                            refine VL.gstepD rfl rfl (by decide) (congrArg Value.bool e70) rfl (by decide) (OE.binI (v := .bool (y73 == 1)) rfl rfl rfl ?_)
                            refine VL.stepD rfl rfl (by decide) (OE.pickV (t := true) (v := .bool (y73 == 1)) (congrArg Value.bool e70) rfl ?_)
                            refine VL.stepD rfl rfl (by decide) (OE.assignV (v := .bool (y73 == 1)) rfl ?_)
                            refine VL.nil ?_
                            change VC _ _ _ _ _ _ _
                            refine VC.ret ?_
                            exact ⟨rfl, _, ResOK.t1 rfl (v := .bool (y73 == 1)) rfl, H⟩
                          · have H := H.2 e70
                            refine VL.gskipD rfl rfl (by decide) (.inl (congrArg Value.bool e70)) rfl (by decide) ?_
                            refine VL.gskipD rfl rfl (by decide) (.inl (congrArg Value.bool e70)) rfl (by decide) ?_
                            refine VL.gskipD rfl rfl (by decide) (.inl (congrArg Value.bool e70)) rfl (by decide) ?_
                            refine VL.stepD rfl rfl (by decide) (OE.pickV (t := false) (v := .bool false) (congrArg Value.bool e70) rfl ?_)
                            refine VL.stepD rfl rfl (by decide) (OE.assignV (v := .bool false) rfl ?_)
                            refine VL.nil ?_
                            change VC _ _ _ _ _ _ _
                            refine VC.ret ?_
                            exact ⟨rfl, _, ResOK.t1 rfl (v := .bool false) rfl, H⟩
                        · have H := H.2 e63
                          refine VL.gskipD rfl rfl (by decide) (.inl (congrArg Value.bool e63)) rfl (by decide) ?_
                          refine VL.gskipD rfl rfl (by decide) (.inl (congrArg Value.bool e63)) rfl (by decide) ?_
                          refine VL.gskipD rfl rfl (by decide) (.inl (congrArg Value.bool e63)) rfl (by decide) ?_
                          refine VL.gskipD rfl rfl (by decide) (.inl (congrArg Value.bool e63)) rfl (by decide) ?_
                          refine VL.stepD rfl rfl (by decide) (OE.pickV (t := false) (v := .bool false) (congrArg Value.bool e63) rfl ?_)
                          refine VL.stepD rfl rfl (by decide) (OE.moveV (v := .bool false) rfl ?_)
                          refine VL.gskipD rfl rfl (by decide) (.inl rfl) rfl (by decide) ?_
                          refine VL.gskipD rfl rfl (by decide) (.inl rfl) rfl (by decide) ?_
                          refine VL.gskipD rfl rfl (by decide) (.inl rfl) rfl (by decide) ?_
                          refine VL.stepD rfl rfl (by decide) (OE.pickV (t := false) (v := .bool false) rfl rfl ?_)
                          refine VL.stepD rfl rfl (by decide) (OE.assignV (v := .bool false) rfl ?_)
                          refine VL.nil ?_
                          change VC _ _ _ _ _ _ _
                          refine VC.ret ?_
                          exact ⟨rfl, _, ResOK.t1 rfl (v := .bool false) rfl, H⟩
                      · have H := H.2 e56
                        refine VL.gskipD rfl rfl (by decide) (.inl (congrArg Value.bool e56)) rfl (by decide) ?_
                        refine VL.gskipD rfl rfl (by decide) (.inl (congrArg Value.bool e56)) rfl (by decide) ?_
                        refine VL.gskipD rfl rfl (by decide) (.inl (congrArg Value.bool e56)) rfl (by decide) ?_
                        refine VL.gskipD rfl rfl (by decide) (.inl (congrArg Value.bool e56)) rfl (by decide) ?_
                        refine VL.stepD rfl rfl (by decide) (OE.pickV (t := false) (v := .bool false) (congrArg Value.bool e56) rfl ?_)
                        refine VL.stepD rfl rfl (by decide) (OE.moveV (v := .bool false) rfl ?_)
                        refine VL.gskipD rfl rfl (by decide) (.inl rfl) rfl (by decide) ?_
                        refine VL.gskipD rfl rfl (by decide) (.inl rfl) rfl (by decide) ?_
                        refine VL.gskipD rfl rfl (by decide) (.inl rfl) rfl (by decide) ?_
                        refine VL.gskipD rfl rfl (by decide) (.inl rfl) rfl (by decide) ?_
                        refine VL.stepD rfl rfl (by decide) (OE.pickV (t := false) (v := .bool false) rfl rfl ?_)
                        refine VL.stepD rfl rfl (by decide) (OE.moveV (v := .bool false) rfl ?_)
                        refine VL.gskipD rfl rfl (by decide) (.inl rfl) rfl (by decide) ?_
                        refine VL.gskipD rfl rfl (by decide) (.inl rfl) rfl (by decide) ?_
                        refine VL.gskipD rfl rfl (by decide) (.inl rfl) rfl (by decide) ?_
                        refine VL.stepD rfl rfl (by decide) (OE.pickV (t := false) (v := .bool false) rfl rfl ?_)
                        refine VL.stepD rfl rfl (by decide) (OE.assignV (v := .bool false) rfl ?_)
                        refine VL.nil ?_
                        change VC _ _ _ _ _ _ _
                        refine VC.ret ?_
                        exact ⟨rfl, _, ResOK.t1 rfl (v := .bool false) rfl, H⟩
                    · have H := H.2 e49
                      refine VL.gskipD rfl rfl (by decide) (.inl (congrArg Value.bool e49)) rfl (by decide) ?_
                      refine VL.gskipD rfl rfl (by decide) (.inl (congrArg Value.bool e49)) rfl (by decide) ?_
                      refine VL.gskipD rfl rfl (by decide) (.inl (congrArg Value.bool e49)) rfl (by decide) ?_
                      refine VL.gskipD rfl rfl (by decide) (.inl (congrArg Value.bool e49)) rfl (by decide) ?_
                      refine VL.stepD rfl rfl (by decide) (OE.pickV (t := false) (v := .bool false) (congrArg Value.bool e49) rfl ?_)
                      refine VL.stepD rfl rfl (by decide) (OE.moveV (v := .bool false) rfl ?_)
                      refine VL.gskipD rfl rfl (by decide) (.inl rfl) rfl (by decide) ?_
                      refine VL.gskipD rfl rfl (by decide) (.inl rfl) rfl (by decide) ?_
                      refine VL.gskipD rfl rfl (by decide) (.inl rfl) rfl (by decide) ?_
                      refine VL.gskipD rfl rfl (by decide) (.inl rfl) rfl (by decide) ?_
                      refine VL.stepD rfl rfl (by decide) (OE.pickV (t := false) (v := .bool false) rfl rfl ?_)
                      refine VL.stepD rfl rfl (by decide) (OE.moveV (v := .bool false) rfl ?_)
                      refine VL.gskipD rfl rfl (by decide) (.inl rfl) rfl (by decide) ?_
                      refine VL.gskipD rfl rfl (by decide) (.inl rfl) rfl (by decide) ?_
                      refine VL.gskipD rfl rfl (by decide) (.inl rfl) rfl (by decide) ?_
                      refine VL.gskipD rfl rfl (by decide) (.inl rfl) rfl (by decide) ?_
                      refine VL.stepD rfl rfl (by decide) (OE.pickV (t := false) (v := .bool false) rfl rfl ?_)
                      refine VL.stepD rfl rfl (by decide) (OE.moveV (v := .bool false) rfl ?_)
                      refine VL.gskipD rfl rfl (by decide) (.inl rfl) rfl (by decide) ?_
                      refine VL.gskipD rfl rfl (by decide) (.inl rfl) rfl (by decide) ?_
                      refine VL.gskipD rfl rfl (by decide) (.inl rfl) rfl (by decide) ?_
                      refine VL.stepD rfl rfl (by decide) (OE.pickV (t := false) (v := .bool false) rfl rfl ?_)
                      refine VL.stepD rfl rfl (by decide) (OE.assignV (v := .bool false) rfl ?_)
                      refine VL.nil ?_
                      change VC _ _ _ _ _ _ _
                      refine VC.ret ?_
                      exact ⟨rfl, _, ResOK.t1 rfl (v := .bool false) rfl, H⟩
                  · have H := H.2 e42
                    refine VL.gskipD rfl rfl (by decide) (.inl (congrArg Value.bool e42)) rfl (by decide) ?_
                    refine VL.gskipD rfl rfl (by decide) (.inl (congrArg Value.bool e42)) rfl (by decide) ?_
                    refine VL.gskipD rfl rfl (by decide) (.inl (congrArg Value.bool e42)) rfl (by decide) ?_
                    refine VL.gskipD rfl rfl (by decide) (.inl (congrArg Value.bool e42)) rfl (by decide) ?_
                    refine VL.stepD rfl rfl (by decide) (OE.pickV (t := false) (v := .bool false) (congrArg Value.bool e42) rfl ?_)
                    refine VL.stepD rfl rfl (by decide) (OE.moveV (v := .bool false) rfl ?_)
                    refine VL.gskipD rfl rfl (by decide) (.inl rfl) rfl (by decide) ?_
                    refine VL.gskipD rfl rfl (by decide) (.inl rfl) rfl (by decide) ?_
                    refine VL.gskipD rfl rfl (by decide) (.inl rfl) rfl (by decide) ?_
                    refine VL.gskipD rfl rfl (by decide) (.inl rfl) rfl (by decide) ?_
                    refine VL.stepD rfl rfl (by decide) (OE.pickV (t := false) (v := .bool false) rfl rfl ?_)
                    refine VL.stepD rfl rfl (by decide) (OE.moveV (v := .bool false) rfl ?_)
                    refine VL.gskipD rfl rfl (by decide) (.inl rfl) rfl (by decide) ?_
                    refine VL.gskipD rfl rfl (by decide) (.inl rfl) rfl (by decide) ?_
                    refine VL.gskipD rfl rfl (by decide) (.inl rfl) rfl (by decide) ?_
                    refine VL.gskipD rfl rfl (by decide) (.inl rfl) rfl (by decide) ?_
                    refine VL.stepD rfl rfl (by decide) (OE.pickV (t := false) (v := .bool false) rfl rfl ?_)
                    refine VL.stepD rfl rfl (by decide) (OE.moveV (v := .bool false) rfl ?_)
                    refine VL.gskipD rfl rfl (by decide) (.inl rfl) rfl (by decide) ?_
                    refine VL.gskipD rfl rfl (by decide) (.inl rfl) rfl (by decide) ?_
                    refine VL.gskipD rfl rfl (by decide) (.inl rfl) rfl (by decide) ?_
                    refine VL.gskipD rfl rfl (by decide) (.inl rfl) rfl (by decide) ?_
                    refine VL.stepD rfl rfl (by decide) (OE.pickV (t := false) (v := .bool false) rfl rfl ?_)
                    refine VL.stepD rfl rfl (by decide) (OE.moveV (v := .bool false) rfl ?_)
                    refine VL.gskipD rfl rfl (by decide) (.inl rfl) rfl (by decide) ?_
                    refine VL.gskipD rfl rfl (by decide) (.inl rfl) rfl (by decide) ?_
                    refine VL.gskipD rfl rfl (by decide) (.inl rfl) rfl (by decide) ?_
                    refine VL.stepD rfl rfl (by decide) (OE.pickV (t := false) (v := .bool false) rfl rfl ?_)
                    refine VL.stepD rfl rfl (by decide) (OE.assignV (v := .bool false) rfl ?_)
                    refine VL.nil ?_
                    change VC _ _ _ _ _ _ _
                    refine VC.ret ?_
                    exact ⟨rfl, _, ResOK.t1 rfl (v := .bool false) rfl, H⟩
                · have H := H.2 e41
                  refine VL.gskipD rfl rfl (by decide) (.inl (congrArg Value.bool e41)) rfl (by decide) ?_
                  refine VL.gskipD rfl rfl (by decide) (.inl (congrArg Value.bool e41)) rfl (by decide) ?_
                  refine VL.gskipD rfl rfl (by decide) (.inl (congrArg Value.bool e41)) rfl (by decide) ?_
                  refine VL.stepD rfl rfl (by decide) (OE.pickV (t := false) (v := .bool false) (congrArg Value.bool e41) rfl ?_)
                  refine VL.stepD rfl rfl (by decide) (OE.moveV (v := .bool false) rfl ?_)
                  refine VL.gskipD rfl rfl (by decide) (.inl rfl) rfl (by decide) ?_
                  refine VL.gskipD rfl rfl (by decide) (.inl rfl) rfl (by decide) ?_
                  refine VL.gskipD rfl rfl (by decide) (.inl rfl) rfl (by decide) ?_
                  refine VL.gskipD rfl rfl (by decide) (.inl rfl) rfl (by decide) ?_
                  refine VL.stepD rfl rfl (by decide) (OE.pickV (t := false) (v := .bool false) rfl rfl ?_)
                  refine VL.stepD rfl rfl (by decide) (OE.moveV (v := .bool false) rfl ?_)
                  refine VL.gskipD rfl rfl (by decide) (.inl rfl) rfl (by decide) ?_
                  refine VL.gskipD rfl rfl (by decide) (.inl rfl) rfl (by decide) ?_
                  refine VL.gskipD rfl rfl (by decide) (.inl rfl) rfl (by decide) ?_
                  refine VL.gskipD rfl rfl (by decide) (.inl rfl) rfl (by decide) ?_
                  refine VL.stepD rfl rfl (by decide) (OE.pickV (t := false) (v := .bool false) rfl rfl ?_)
                  refine VL.stepD rfl rfl (by decide) (OE.moveV (v := .bool false) rfl ?_)
                  refine VL.gskipD rfl rfl (by decide) (.inl rfl) rfl (by decide) ?_
                  refine VL.gskipD rfl rfl (by decide) (.inl rfl) rfl (by decide) ?_
                  refine VL.gskipD rfl rfl (by decide) (.inl rfl) rfl (by decide) ?_
                  refine VL.gskipD rfl rfl (by decide) (.inl rfl) rfl (by decide) ?_
                  refine VL.stepD rfl rfl (by decide) (OE.pickV (t := false) (v := .bool false) rfl rfl ?_)
                  refine VL.stepD rfl rfl (by decide) (OE.moveV (v := .bool false) rfl ?_)
                  refine VL.gskipD rfl rfl (by decide) (.inl rfl) rfl (by decide) ?_
                  refine VL.gskipD rfl rfl (by decide) (.inl rfl) rfl (by decide) ?_
                  refine VL.gskipD rfl rfl (by decide) (.inl rfl) rfl (by decide) ?_
                  refine VL.gskipD rfl rfl (by decide) (.inl rfl) rfl (by decide) ?_
                  refine VL.stepD rfl rfl (by decide) (OE.pickV (t := false) (v := .bool false) rfl rfl ?_)
                  refine VL.stepD rfl rfl (by decide) (OE.moveV (v := .bool false) rfl ?_)
                  refine VL.gskipD rfl rfl (by decide) (.inl rfl) rfl (by decide) ?_
                  refine VL.gskipD rfl rfl (by decide) (.inl rfl) rfl (by decide) ?_
                  refine VL.gskipD rfl rfl (by decide) (.inl rfl) rfl (by decide) ?_
                  refine VL.stepD rfl rfl (by decide) (OE.pickV (t := false) (v := .bool false) rfl rfl ?_)
                  refine VL.stepD rfl rfl (by decide) (OE.assignV (v := .bool false) rfl ?_)
                  refine VL.nil ?_
                  change VC _ _ _ _ _ _ _
                  refine VC.ret ?_
                  exact ⟨rfl, _, ResOK.t1 rfl (v := .bool false) rfl, H⟩
              · have H := H.2 e40
                refine VL.gskipD rfl rfl (by decide) (.inl (congrArg Value.bool e40)) rfl (by decide) ?_
                refine VL.gskipD rfl rfl (by decide) (.inl (congrArg Value.bool e40)) rfl (by decide) ?_
                refine VL.stepD rfl rfl (by decide) (OE.pickV (t := false) (v := .bool false) (congrArg Value.bool e40) rfl ?_)
                refine VL.stepD rfl rfl (by decide) (OE.moveV (v := .bool false) rfl ?_)
                refine VL.gskipD rfl rfl (by decide) (.inl rfl) rfl (by decide) ?_
                refine VL.gskipD rfl rfl (by decide) (.inl rfl) rfl (by decide) ?_
                refine VL.gskipD rfl rfl (by decide) (.inl rfl) rfl (by decide) ?_
                refine VL.stepD rfl rfl (by decide) (OE.pickV (t := false) (v := .bool false) rfl rfl ?_)
                refine VL.stepD rfl rfl (by decide) (OE.moveV (v := .bool false) rfl ?_)
                refine VL.gskipD rfl rfl (by decide) (.inl rfl) rfl (by decide) ?_
                refine VL.gskipD rfl rfl (by decide) (.inl rfl) rfl (by decide) ?_
                refine VL.gskipD rfl rfl (by decide) (.inl rfl) rfl (by decide) ?_
                refine VL.gskipD rfl rfl (by decide) (.inl rfl) rfl (by decide) ?_
                refine VL.stepD rfl rfl (by decide) (OE.pickV (t := false) (v := .bool false) rfl rfl ?_)
                refine VL.stepD rfl rfl (by decide) (OE.moveV (v := .bool false) rfl ?_)
                refine VL.gskipD rfl rfl (by decide) (.inl rfl) rfl (by decide) ?_
                refine VL.gskipD rfl rfl (by decide) (.inl rfl) rfl (by decide) ?_
                refine VL.gskipD rfl rfl (by decide) (.inl rfl) rfl (by decide) ?_
                refine VL.gskipD rfl rfl (by decide) (.inl rfl) rfl (by decide) ?_
                refine VL.stepD rfl rfl (by decide) (OE.pickV (t := false) (v := .bool false) rfl rfl ?_)
                refine VL.stepD rfl rfl (by decide) (OE.moveV (v := .bool false) rfl ?_)
                refine VL.gskipD rfl rfl (by decide) (.inl rfl) rfl (by decide) ?_
                refine VL.gskipD rfl rfl (by decide) (.inl rfl) rfl (by decide) ?_
                refine VL.gskipD rfl rfl (by decide) (.inl rfl) rfl (by decide) ?_
                refine VL.gskipD rfl rfl (by decide) (.inl rfl) rfl (by decide) ?_
                refine VL.stepD rfl rfl (by decide) (OE.pickV (t := false) (v := .bool false) rfl rfl ?_)
                refine VL.stepD rfl rfl (by decide) (OE.moveV (v := .bool false) rfl ?_)
                refine VL.gskipD rfl rfl (by decide) (.inl rfl) rfl (by decide) ?_
                refine VL.gskipD rfl rfl (by decide) (.inl rfl) rfl (by decide) ?_
                refine VL.gskipD rfl rfl (by decide) (.inl rfl) rfl (by decide) ?_
                refine VL.gskipD rfl rfl (by decide) (.inl rfl) rfl (by decide) ?_
                refine VL.stepD rfl rfl (by decide) (OE.pickV (t := false) (v := .bool false) rfl rfl ?_)
                refine VL.stepD rfl rfl (by decide) (OE.moveV (v := .bool false) rfl ?_)
                refine VL.gskipD rfl rfl (by decide) (.inl rfl) rfl (by decide) ?_
                refine VL.gskipD rfl rfl (by decide) (.inl rfl) rfl (by decide) ?_
                refine VL.gskipD rfl rfl (by decide) (.inl rfl) rfl (by decide) ?_
                refine VL.stepD rfl rfl (by decide) (OE.pickV (t := false) (v := .bool false) rfl rfl ?_)
                refine VL.stepD rfl rfl (by decide) (OE.assignV (v := .bool false) rfl ?_)
                refine VL.nil ?_
                change VC _ _ _ _ _ _ _
                refine VC.ret ?_
                exact ⟨rfl, _, ResOK.t1 rfl (v := .bool false) rfl, H⟩
            · have H := H.2 e27
              refine VL.gskipD rfl rfl (by decide) (.inl (congrArg Value.bool e27)) rfl (by decide) ?_
              refine VL.gskipD rfl rfl (by decide) (.inl (congrArg Value.bool e27)) rfl (by decide) ?_
              refine VL.gskipD rfl rfl (by decide) (.inl (congrArg Value.bool e27)) rfl (by decide) ?_
              refine VL.gskipD rfl rfl (by decide) (.inl (congrArg Value.bool e27)) rfl (by decide) ?_
              refine VL.gskipD rfl rfl (by decide) (.inl (congrArg Value.bool e27)) rfl (by decide) ?_
              refine VL.gskipD rfl rfl (by decide) (.inl (congrArg Value.bool e27)) rfl (by decide) ?_
              refine VL.gskipD rfl rfl (by decide) (.inl (congrArg Value.bool e27)) rfl (by decide) ?_
              refine VL.stepD rfl rfl (by decide) (OE.pickV (t := false) (v := .bool false) (congrArg Value.bool e27) rfl ?_)
              refine VL.stepD rfl rfl (by decide) (OE.moveV (v := .bool false) rfl ?_)
              refine VL.gskipD rfl rfl (by decide) (.inl rfl) rfl (by decide) ?_
              refine VL.gskipD rfl rfl (by decide) (.inl rfl) rfl (by decide) ?_
              refine VL.stepD rfl rfl (by decide) (OE.pickV (t := false) (v := .bool false) rfl rfl ?_)
              refine VL.stepD rfl rfl (by decide) (OE.moveV (v := .bool false) rfl ?_)
              refine VL.gskipD rfl rfl (by decide) (.inl rfl) rfl (by decide) ?_
              refine VL.gskipD rfl rfl (by decide) (.inl rfl) rfl (by decide) ?_
              refine VL.gskipD rfl rfl (by decide) (.inl rfl) rfl (by decide) ?_
              refine VL.stepD rfl rfl (by decide) (OE.pickV (t := false) (v := .bool false) rfl rfl ?_)
              refine VL.stepD rfl rfl (by decide) (OE.moveV (v := .bool false) rfl ?_)
              refine VL.gskipD rfl rfl (by decide) (.inl rfl) rfl (by decide) ?_
              refine VL.gskipD rfl rfl (by decide) (.inl rfl) rfl (by decide) ?_
              refine VL.gskipD rfl rfl (by decide) (.inl rfl) rfl (by decide) ?_
              refine VL.gskipD rfl rfl (by decide) (.inl rfl) rfl (by decide) ?_
              refine VL.stepD rfl rfl (by decide) (OE.pickV (t := false) (v := .bool false) rfl rfl ?_)
              refine VL.stepD rfl rfl (by decide) (OE.moveV (v := .bool false) rfl ?_)
              refine VL.gskipD rfl rfl (by decide) (.inl rfl) rfl (by decide) ?_
              refine VL.gskipD rfl rfl (by decide) (.inl rfl) rfl (by decide) ?_
              refine VL.gskipD rfl rfl (by decide) (.inl rfl) rfl (by decide) ?_
              refine VL.gskipD rfl rfl (by decide) (.inl rfl) rfl (by decide) ?_
              refine VL.stepD rfl rfl (by decide) (OE.pickV (t := false) (v := .bool false) rfl rfl ?_)
              refine VL.stepD rfl rfl (by decide) (OE.moveV (v := .bool false) rfl ?_)
              refine VL.gskipD rfl rfl (by decide) (.inl rfl) rfl (by decide) ?_
              refine VL.gskipD rfl rfl (by decide) (.inl rfl) rfl (by decide) ?_
              refine VL.gskipD rfl rfl (by decide) (.inl rfl) rfl (by decide) ?_
              refine VL.gskipD rfl rfl (by decide) (.inl rfl) rfl (by decide) ?_
              refine VL.stepD rfl rfl (by decide) (OE.pickV (t := false) (v := .bool false) rfl rfl ?_)
              refine VL.stepD rfl rfl (by decide) (OE.moveV (v := .bool false) rfl ?_)
              refine VL.gskipD rfl rfl (by decide) (.inl rfl) rfl (by decide) ?_
              refine VL.gskipD rfl rfl (by decide) (.inl rfl) rfl (by decide) ?_
              refine VL.gskipD rfl rfl (by decide) (.inl rfl) rfl (by decide) ?_
              refine VL.gskipD rfl rfl (by decide) (.inl rfl) rfl (by decide) ?_
              refine VL.stepD rfl rfl (by decide) (OE.pickV (t := false) (v := .bool false) rfl rfl ?_)
              refine VL.stepD rfl rfl (by decide) (OE.moveV (v := .bool false) rfl ?_)
              refine VL.gskipD rfl rfl (by decide) (.inl rfl) rfl (by decide) ?_
              refine VL.gskipD rfl rfl (by decide) (.inl rfl) rfl (by decide) ?_
              refine VL.gskipD rfl rfl (by decide) (.inl rfl) rfl (by decide) ?_
              refine VL.stepD rfl rfl (by decide) (OE.pickV (t := false) (v := .bool false) rfl rfl ?_)
              refine VL.stepD rfl rfl (by decide) (OE.assignV (v := .bool false) rfl ?_)
              refine VL.nil ?_
              change VC _ _ _ _ _ _ _
              refine VC.ret ?_
              exact ⟨rfl, _, ResOK.t1 rfl (v := .bool false) rfl, H⟩
          · have H := H.2 e20
            refine VL.gskipD rfl rfl (by decide) (.inl (congrArg Value.bool e20)) rfl (by decide) ?_
            refine VL.gskipD rfl rfl (by decide) (.inl (congrArg Value.bool e20)) rfl (by decide) ?_
            refine VL.gskipD rfl rfl (by decide) (.inl (congrArg Value.bool e20)) rfl (by decide) ?_
            refine VL.gskipD rfl rfl (by decide) (.inl (congrArg Value.bool e20)) rfl (by decide) ?_
            refine VL.gskipD rfl rfl (by decide) (.inl (congrArg Value.bool e20)) rfl (by decide) ?_
            refine VL.gskipD rfl rfl (by decide) (.inl (congrArg Value.bool e20)) rfl (by decide) ?_
            refine VL.stepD rfl rfl (by decide) (OE.pickV (t := false) (v := .bool false) (congrArg Value.bool e20) rfl ?_)
            refine VL.stepD rfl rfl (by decide) (OE.moveV (v := .bool false) rfl ?_)
            refine VL.gskipD rfl rfl (by decide) (.inl rfl) rfl (by decide) ?_
            refine VL.gskipD rfl rfl (by decide) (.inl rfl) rfl (by decide) ?_
            refine VL.gskipD rfl rfl (by decide) (.inl rfl) rfl (by decide) ?_
            refine VL.gskipD rfl rfl (by decide) (.inl rfl) rfl (by decide) ?_
            refine VL.gskipD rfl rfl (by decide) (.inl rfl) rfl (by decide) ?_
            refine VL.gskipD rfl rfl (by decide) (.inl rfl) rfl (by decide) ?_
            refine VL.gskipD rfl rfl (by decide) (.inl rfl) rfl (by decide) ?_
            refine VL.stepD rfl rfl (by decide) (OE.pickV (t := false) (v := .bool false) rfl rfl ?_)
            refine VL.stepD rfl rfl (by decide) (OE.moveV (v := .bool false) rfl ?_)
            refine VL.gskipD rfl rfl (by decide) (.inl rfl) rfl (by decide) ?_
            refine VL.gskipD rfl rfl (by decide) (.inl rfl) rfl (by decide) ?_
            refine VL.stepD rfl rfl (by decide) (OE.pickV (t := false) (v := .bool false) rfl rfl ?_)
            refine VL.stepD rfl rfl (by decide) (OE.moveV (v := .bool false) rfl ?_)
            refine VL.gskipD rfl rfl (by decide) (.inl rfl) rfl (by decide) ?_
            refine VL.gskipD rfl rfl (by decide) (.inl rfl) rfl (by decide) ?_
            refine VL.gskipD rfl rfl (by decide) (.inl rfl) rfl (by decide) ?_
            refine VL.stepD rfl rfl (by decide) (OE.pickV (t := false) (v := .bool false) rfl rfl ?_)
            refine VL.stepD rfl rfl (by decide) (OE.moveV (v := .bool false) rfl ?_)
            refine VL.gskipD rfl rfl (by decide) (.inl rfl) rfl (by decide) ?_
            refine VL.gskipD rfl rfl (by decide) (.inl rfl) rfl (by decide) ?_
            refine VL.gskipD rfl rfl (by decide) (.inl rfl) rfl (by decide) ?_
            refine VL.gskipD rfl rfl (by decide) (.inl rfl) rfl (by decide) ?_
            refine VL.stepD rfl rfl (by decide) (OE.pickV (t := false) (v := .bool false) rfl rfl ?_)
            refine VL.stepD rfl rfl (by decide) (OE.moveV (v := .bool false) rfl ?_)
            refine VL.gskipD rfl rfl (by decide) (.inl rfl) rfl (by decide) ?_
            refine VL.gskipD rfl rfl (by decide) (.inl rfl) rfl (by decide) ?_
            refine VL.gskipD rfl rfl (by decide) (.inl rfl) rfl (by decide) ?_
            refine VL.gskipD rfl rfl (by decide) (.inl rfl) rfl (by decide) ?_
            refine VL.stepD rfl rfl (by decide) (OE.pickV (t := false) (v := .bool false) rfl rfl ?_)
            refine VL.stepD rfl rfl (by decide) (OE.moveV (v := .bool false) rfl ?_)
            refine VL.gskipD rfl rfl (by decide) (.inl rfl) rfl (by decide) ?_
            refine VL.gskipD rfl rfl (by decide) (.inl rfl) rfl (by decide) ?_
            refine VL.gskipD rfl rfl (by decide) (.inl rfl) rfl (by decide) ?_
            refine VL.gskipD rfl rfl (by decide) (.inl rfl) rfl (by decide) ?_
            refine VL.stepD rfl rfl (by decide) (OE.pickV (t := false) (v := .bool false) rfl rfl ?_)
            refine VL.stepD rfl rfl (by decide) (OE.moveV (v := .bool false) rfl ?_)
            refine VL.gskipD rfl rfl (by decide) (.inl rfl) rfl (by decide) ?_
            refine VL.gskipD rfl rfl (by decide) (.inl rfl) rfl (by decide) ?_
            refine VL.gskipD rfl rfl (by decide) (.inl rfl) rfl (by decide) ?_
            refine VL.gskipD rfl rfl (by decide) (.inl rfl) rfl (by decide) ?_
            refine VL.stepD rfl rfl (by decide) (OE.pickV (t := false) (v := .bool false) rfl rfl ?_)
            refine VL.stepD rfl rfl (by decide) (OE.moveV (v := .bool false) rfl ?_)
            refine VL.gskipD rfl rfl (by decide) (.inl rfl) rfl (by decide) ?_
            refine VL.gskipD rfl rfl (by decide) (.inl rfl) rfl (by decide) ?_
            refine VL.gskipD rfl rfl (by decide) (.inl rfl) rfl (by decide) ?_
            refine VL.stepD rfl rfl (by decide) (OE.pickV (t := false) (v := .bool false) rfl rfl ?_)
            refine VL.stepD rfl rfl (by decide) (OE.assignV (v := .bool false) rfl ?_)
            refine VL.nil ?_
            change VC _ _ _ _ _ _ _
            refine VC.ret ?_
            exact ⟨rfl, _, ResOK.t1 rfl (v := .bool false) rfl, H⟩
      · skip
        refine VC.region ?_
        refine VL.stepD rfl rfl (by decide) (OE.moveV (v := .pointer y3_0) rfl ?_)
        obtain ⟨b82, eb97⟩ : ∃ b82, b82 = Array.size h5 := ⟨_, rfl⟩
        obtain ⟨h81, eh98⟩ : ∃ h81, h81 = Array.push h5 (.cells #[.int .u8 7, .int .u8 7, .int .u8 7, .int .u8 7, .int .u8 7, .int .u8 7, .int .u8 7, .int .u8 7, .int .u8 7, .int .u8 7, .int .u8 7, .int .u8 7, .int .u8 7, .int .u8 7, .int .u8 7, .int .u8 7, .int .u8 7, .int .u8 7, .int .u8 7, .int .u8 7] 5) := ⟨_, rfl⟩
        have H := H b82 h81 eb97 eh98
        refine VL.stepD rfl rfl (by decide) (OE.buildSliceE (ps := [(0, (.int .u8 7 : Value)), (1, (.int .u8 7 : Value)), (2, (.int .u8 7 : Value)), (3, (.int .u8 7 : Value)), (4, (.int .u8 7 : Value)), (5, (.int .u8 7 : Value)), (6, (.int .u8 7 : Value)), (7, (.int .u8 7 : Value)), (8, (.int .u8 7 : Value)), (9, (.int .u8 7 : Value)), (10, (.int .u8 7 : Value)), (11, (.int .u8 7 : Value)), (12, (.int .u8 7 : Value)), (13, (.int .u8 7 : Value)), (14, (.int .u8 7 : Value)), (15, (.int .u8 7 : Value)), (16, (.int .u8 7 : Value)), (17, (.int .u8 7 : Value)), (18, (.int .u8 7 : Value)), (19, (.int .u8 7 : Value))]) (cells := #[.int .u8 7, .int .u8 7, .int .u8 7, .int .u8 7, .int .u8 7, .int .u8 7, .int .u8 7, .int .u8 7, .int .u8 7, .int .u8 7, .int .u8 7, .int .u8 7, .int .u8 7, .int .u8 7, .int .u8 7, .int .u8 7, .int .u8 7, .int .u8 7, .int .u8 7, .int .u8 7]) (e := 5) rfl (Tryz.bf2 _ _ _ _ _ _ _ _ _ _ _ _ _ _ _ _ _ _ _ _) eb97 eh98 ?_)
        refine VL.stepD rfl rfl (by decide) (OE.callL (args := [.pointer y3_0, .string (ByteArray.mk #[97]), .slice (some (Addr.mk b82 0 none)) 20 20]) Tryz.func12 rfl Tryz.nn12 rfl rfl (CHE.mono H (fun r83 h84 H => ?_) (fun _ _ e => e.elim)))
        obtain ⟨y85, rfl, H⟩ := H
        refine VL.stepD rfl rfl (by decide) (OE.binI (v := .bool (y85 != 0)) rfl rfl rfl ?_)
        refine VL.stepD rfl rfl (by decide) (OE.moveV (v := .bool (y85 != 0)) rfl ?_)
        refine boolSplit ((y85 != 0)) (fun e86 => ?_) (fun e86 => ?_)
        · have H := H.1 e86
          refine VL.gskipD rfl rfl (by decide) (.inl (congrArg Value.bool e86)) rfl (by decide) ?_
          refine VL.gskipD rfl rfl (by decide) (.inl (congrArg Value.bool e86)) rfl (by decide) ?_
          refine VL.gskipD rfl rfl (by decide) (.inl (congrArg Value.bool e86)) rfl (by decide) ?_
          refine VL.stepD rfl rfl (by decide) (OE.pickV (t := true) (v := .bool true) (congrArg Value.bool e86) rfl ?_)
          refine VL.stepD rfl rfl (by decide) (OE.moveV (v := .bool true) rfl ?_)
          refine VL.gskipD rfl rfl (by decide) (.inl rfl) rfl (by decide) ?_
          refine VL.gskipD rfl rfl (by decide) (.inl rfl) rfl (by decide) ?_
          refine VL.gskipD rfl rfl (by decide) (.inl rfl) rfl (by decide) ?_
          refine VL.stepD rfl rfl (by decide) (OE.pickV (t := true) (v := .bool true) rfl rfl ?_)
          refine VL.nil ?_
          exact ⟨rfl, true, rfl, rfl, H⟩
        · have H := H.2 e86
          refine VL.gstepD rfl rfl (by decide) (congrArg Value.bool e86) rfl (by decide) (OE.moveV (v := .pointer y3_0) rfl ?_)
          refine VL.gstepD rfl rfl (by decide) (congrArg Value.bool e86) rfl (by decide) (OE.callL (args := [.pointer y3_0]) Tryz.func14 rfl Tryz.nn14 rfl rfl (CHE.mono H (fun r87 h88 H => ?_) (fun _ _ e => e.elim)))
          obtain ⟨y89, rfl, H⟩ := H
          refine VL.gstepD rfl rfl (by decide) (congrArg Value.bool e86) rfl (by decide) (OE.binI (v := .bool (y89 != 0)) rfl rfl rfl ?_)
          refine VL.stepD rfl rfl (by decide) (OE.pickV (t := false) (v := .bool (y89 != 0)) (congrArg Value.bool e86) rfl ?_)
          refine VL.stepD rfl rfl (by decide) (OE.moveV (v := .bool (y89 != 0)) rfl ?_)
          refine boolSplit ((y89 != 0)) (fun e90 => ?_) (fun e90 => ?_)
          · have H := H.1 e90
            refine VL.gskipD rfl rfl (by decide) (.inl (congrArg Value.bool e90)) rfl (by decide) ?_
            refine VL.gskipD rfl rfl (by decide) (.inl (congrArg Value.bool e90)) rfl (by decide) ?_
            refine VL.gskipD rfl rfl (by decide) (.inl (congrArg Value.bool e90)) rfl (by decide) ?_
            refine VL.stepD rfl rfl (by decide) (OE.pickV (t := true) (v := .bool true) (congrArg Value.bool e90) rfl ?_)
            refine VL.nil ?_
            exact ⟨rfl, true, rfl, rfl, H⟩
          · have H := H.2 e90
            refine VL.gstepD rfl rfl (by decide) (congrArg Value.bool e90) rfl (by decide) (OE.moveV (v := .pointer y3_0) rfl ?_)
            refine VL.gstepD rfl rfl (by decide) (congrArg Value.bool e90) rfl (by decide) (OE.callL (args := [.pointer y3_0]) Tryz.func37 rfl Tryz.nn37 rfl rfl (CHE.mono H (fun r91 h92 H => ?_) (fun _ _ e => e.elim)))
            obtain ⟨y93, rfl, H⟩ := H
            refine VL.gstepD rfl rfl (by decide) (congrArg Value.bool e90) rfl (by decide) (OE.binI (v := .bool (y93 != 5)) rfl rfl rfl ?_)
            refine VL.stepD rfl rfl (by decide) (OE.pickV (t := false) (v := .bool (y93 != 5)) (congrArg Value.bool e90) rfl ?_)
            refine VL.nil ?_
            exact ⟨rfl, (y93 != 5), rfl, rfl, H⟩
  · skip
    refine VC.region ?_
    refine VL.stepD rfl rfl (by decide) (OE.moveV (v := .int .i64 y3_1) rfl ?_)
    refine VL.stepD rfl rfl (by decide) (OE.binI (v := .bool (y3_1 != 0)) rfl rfl rfl ?_)
    refine VL.stepD rfl rfl (by decide) (OE.moveV (v := .bool (y3_1 != 0)) rfl ?_)
    refine boolSplit ((y3_1 != 0)) (fun e99 => ?_) (fun e99 => ?_)
    · have H := H.1 e99
      refine VL.gskipD rfl rfl (by decide) (.inl (congrArg Value.bool e99)) rfl (by decide) ?_
      refine VL.gskipD rfl rfl (by decide) (.inl (congrArg Value.bool e99)) rfl (by decide) ?_
      refine VL.stepD rfl rfl (by decide) (OE.pickV (t := true) (v := .bool true) (congrArg Value.bool e99) rfl ?_)
      refine VL.stepD rfl rfl (by decide) (OE.moveV (v := .bool true) rfl ?_)
      refine VL.gskipD rfl rfl (by decide) (.inl rfl) rfl (by decide) ?_
      refine VL.gskipD rfl rfl (by decide) (.inl rfl) rfl (by decide) ?_
      refine VL.gskipD rfl rfl (by decide) (.inl rfl) rfl (by decide) ?_
      refine VL.stepD rfl rfl (by decide) (OE.pickV (t := true) (v := .bool true) rfl rfl ?_)
      refine VL.stepD rfl rfl (by decide) (OE.moveV (v := .bool true) rfl ?_)
      refine VL.gskipD rfl rfl (by decide) (.inl rfl) rfl (by decide) ?_
      refine VL.gskipD rfl rfl (by decide) (.inl rfl) rfl (by decide) ?_
      refine VL.gskipD rfl rfl (by decide) (.inl rfl) rfl (by decide) ?_
      refine VL.stepD rfl rfl (by decide) (OE.pickV (t := true) (v := .bool true) rfl rfl ?_)
      refine VL.stepD rfl rfl (by decide) (OE.moveV (v := .bool true) rfl ?_)
      refine VL.gskipD rfl rfl (by decide) (.inl rfl) rfl (by decide) ?_
      refine VL.gskipD rfl rfl (by decide) (.inl rfl) rfl (by decide) ?_
      refine VL.gskipD rfl rfl (by decide) (.inl rfl) rfl (by decide) ?_
      refine VL.gskipD rfl rfl (by decide) (.inl rfl) rfl (by decide) ?_
      refine VL.stepD rfl rfl (by decide) (OE.pickV (t := true) (v := .bool true) rfl rfl ?_)
      refine VL.stepD rfl rfl (by decide) (OE.moveV (v := .bool true) rfl ?_)
      refine VL.gskipD rfl rfl (by decide) (.inl rfl) rfl (by decide) ?_
      refine VL.gskipD rfl rfl (by decide) (.inl rfl) rfl (by decide) ?_
      refine VL.gskipD rfl rfl (by decide) (.inl rfl) rfl (by decide) ?_
      refine VL.stepD rfl rfl (by decide) (OE.pickV (t := true) (v := .bool true) rfl rfl ?_)
      refine VL.nil ?_
      exact ⟨rfl, true, rfl, rfl, H⟩
    · have H := H.2 e99
      refine VL.gstepD rfl rfl (by decide) (congrArg Value.bool e99) rfl (by decide) (OE.moveV (v := .pointer y3_0) rfl ?_)
      refine VL.gstepD rfl rfl (by decide) (congrArg Value.bool e99) rfl (by decide) (OE.ptrNilV (b := (Option.isNone y3_0)) (p := y3_0) (q := none) rfl rfl Tryz.underlying24 (.inr rfl) (by simp) ?_)
      refine VL.stepD rfl rfl (by decide) (OE.pickV (t := false) (v := .bool (Option.isNone y3_0)) (congrArg Value.bool e99) rfl ?_)
      refine VL.stepD rfl rfl (by decide) (OE.moveV (v := .bool (Option.isNone y3_0)) rfl ?_)
      refine boolSplit ((Option.isNone y3_0)) (fun e100 => ?_) (fun e100 => ?_)
      · have H := H.1 e100
        refine VL.gskipD rfl rfl (by decide) (.inl (congrArg Value.bool e100)) rfl (by decide) ?_
        refine VL.gskipD rfl rfl (by decide) (.inl (congrArg Value.bool e100)) rfl (by decide) ?_
        refine VL.gskipD rfl rfl (by decide) (.inl (congrArg Value.bool e100)) rfl (by decide) ?_
        refine VL.stepD rfl rfl (by decide) (OE.pickV (t := true) (v := .bool true) (congrArg Value.bool e100) rfl ?_)
        refine VL.stepD rfl rfl (by decide) (OE.moveV (v := .bool true) rfl ?_)
        refine VL.gskipD rfl rfl (by decide) (.inl rfl) rfl (by decide) ?_
        refine VL.gskipD rfl rfl (by decide) (.inl rfl) rfl (by decide) ?_
        refine VL.gskipD rfl rfl (by decide) (.inl rfl) rfl (by decide) ?_
        refine VL.stepD rfl rfl (by decide) (OE.pickV (t := true) (v := .bool true) rfl rfl ?_)
        refine VL.stepD rfl rfl (by decide) (OE.moveV (v := .bool true) rfl ?_)
        refine VL.gskipD rfl rfl (by decide) (.inl rfl) rfl (by decide) ?_
        refine VL.gskipD rfl rfl (by decide) (.inl rfl) rfl (by decide) ?_
        refine VL.gskipD rfl rfl (by decide) (.inl rfl) rfl (by decide) ?_
        refine VL.gskipD rfl rfl (by decide) (.inl rfl) rfl (by decide) ?_
        refine VL.stepD rfl rfl (by decide) (OE.pickV (t := true) (v := .bool true) rfl rfl ?_)
        refine VL.stepD rfl rfl (by decide) (OE.moveV (v := .bool true) rfl ?_)
        refine VL.gskipD rfl rfl (by decide) (.inl rfl) rfl (by decide) ?_
        refine VL.gskipD rfl rfl (by decide) (.inl rfl) rfl (by decide) ?_
        refine VL.gskipD rfl rfl (by decide) (.inl rfl) rfl (by decide) ?_
        refine VL.stepD rfl rfl (by decide) (OE.pickV (t := true) (v := .bool true) rfl rfl ?_)
        refine VL.nil ?_
        exact ⟨rfl, true, rfl, rfl, H⟩
      · have H := H.2 e100
        refine VL.gstepD rfl rfl (by decide) (congrArg Value.bool e100) rfl (by decide) (OE.moveV (v := .pointer y3_0) rfl ?_)
        refine VL.gstepD rfl rfl (by decide) (congrArg Value.bool e100) rfl (by decide) (OE.callL (args := [.pointer y3_0, .string (ByteArray.mk #[97])]) Tryz.func11 rfl Tryz.nn11 rfl rfl (CHE.mono H (fun r101 h102 H => ?_) (fun _ _ e => e.elim)))
        obtain ⟨y103, rfl, H⟩ := H
        refine VL.gstepD rfl rfl (by decide) (congrArg Value.bool e100) rfl (by decide) (OE.binI (v := .bool (y103 != 0)) rfl rfl rfl ?_)
        refine VL.stepD rfl rfl (by decide) (OE.pickV (t := false) (v := .bool (y103 != 0)) (congrArg Value.bool e100) rfl ?_)
        refine VL.stepD rfl rfl (by decide) (OE.moveV (v := .bool (y103 != 0)) rfl ?_)
        refine boolSplit ((y103 != 0)) (fun e104 => ?_) (fun e104 => ?_)
        · have H := H.1 e104
          refine VL.gskipD rfl rfl (by decide) (.inl (congrArg Value.bool e104)) rfl (by decide) ?_
          refine VL.gskipD rfl rfl (by decide) (.inl (congrArg Value.bool e104)) rfl (by decide) ?_
          refine VL.gskipD rfl rfl (by decide) (.inl (congrArg Value.bool e104)) rfl (by decide) ?_
          refine VL.stepD rfl rfl (by decide) (OE.pickV (t := true) (v := .bool true) (congrArg Value.bool e104) rfl ?_)
          refine VL.stepD rfl rfl (by decide) (OE.moveV (v := .bool true) rfl ?_)
          refine VL.gskipD rfl rfl (by decide) (.inl rfl) rfl (by decide) ?_
          refine VL.gskipD rfl rfl (by decide) (.inl rfl) rfl (by decide) ?_
          refine VL.gskipD rfl rfl (by decide) (.inl rfl) rfl (by decide) ?_
          refine VL.gskipD rfl rfl (by decide) (.inl rfl) rfl (by decide) ?_
          refine VL.stepD rfl rfl (by decide) (OE.pickV (t := true) (v := .bool true) rfl rfl ?_)
          refine VL.stepD rfl rfl (by decide) (OE.moveV (v := .bool true) rfl ?_)
          refine VL.gskipD rfl rfl (by decide) (.inl rfl) rfl (by decide) ?_
          refine VL.gskipD rfl rfl (by decide) (.inl rfl) rfl (by decide) ?_
          refine VL.gskipD rfl rfl (by decide) (.inl rfl) rfl (by decide) ?_
          refine VL.stepD rfl rfl (by decide) (OE.pickV (t := true) (v := .bool true) rfl rfl ?_)
          refine VL.nil ?_
          exact ⟨rfl, true, rfl, rfl, H⟩
        · have H := H.2 e104
          refine VL.gstepD rfl rfl (by decide) (congrArg Value.bool e104) rfl (by decide) (OE.moveV (v := .pointer y3_0) rfl ?_)
          refine VL.gstepD rfl rfl (by decide) (congrArg Value.bool e104) rfl (by decide) (OE.callL (args := [.pointer y3_0, .string (ByteArray.mk #[97])]) Tryz.func11 rfl Tryz.nn11 rfl rfl (CHE.mono H (fun r105 h106 H => ?_) (fun _ _ e => e.elim)))
          obtain ⟨y107, rfl, H⟩ := H
          refine VL.gstepD rfl rfl (by decide) (congrArg Value.bool e104) rfl (by decide) (OE.binI (v := .bool (y107 != 7)) rfl rfl rfl ?_)
          refine VL.stepD rfl rfl (by decide) (OE.pickV (t := false) (v := .bool (y107 != 7)) (congrArg Value.bool e104) rfl ?_)
          refine VL.stepD rfl rfl (by decide) (OE.moveV (v := .bool (y107 != 7)) rfl ?_)
          refine boolSplit ((y107 != 7)) (fun e108 => ?_) (fun e108 => ?_)
          · have H := H.1 e108
            refine VL.gskipD rfl rfl (by decide) (.inl (congrArg Value.bool e108)) rfl (by decide) ?_
            refine VL.gskipD rfl rfl (by decide) (.inl (congrArg Value.bool e108)) rfl (by decide) ?_
            refine VL.gskipD rfl rfl (by decide) (.inl (congrArg Value.bool e108)) rfl (by decide) ?_
            refine VL.gskipD rfl rfl (by decide) (.inl (congrArg Value.bool e108)) rfl (by decide) ?_
            refine VL.stepD rfl rfl (by decide) (OE.pickV (t := true) (v := .bool true) (congrArg Value.bool e108) rfl ?_)
            refine VL.stepD rfl rfl (by decide) (OE.moveV (v := .bool true) rfl ?_)
            refine VL.gskipD rfl rfl (by decide) (.inl rfl) rfl (by decide) ?_
            refine VL.gskipD rfl rfl (by decide) (.inl rfl) rfl (by decide) ?_
            refine VL.gskipD rfl rfl (by decide) (.inl rfl) rfl (by decide) ?_
            refine VL.stepD rfl rfl (by decide) (OE.pickV (t := true) (v := .bool true) rfl rfl ?_)
            refine VL.nil ?_
            exact ⟨rfl, true, rfl, rfl, H⟩
          · have H := H.2 e108
            refine VL.gstepD rfl rfl (by decide) (congrArg Value.bool e108) rfl (by decide) (OE.moveV (v := .pointer y3_0) rfl ?_)
            obtain ⟨b110, eb120⟩ : ∃ b110, b110 = Array.size h106 := ⟨_, rfl⟩
            obtain ⟨h109, eh121⟩ : ∃ h109, h109 = Array.push h106 (.cells #[.int .u8 5, .int .u8 5, .int .u8 5, .int .u8 5] 5) := ⟨_, rfl⟩
            have H := H b110 h109 eb120 eh121
            refine VL.gstepD rfl rfl (by decide) (congrArg Value.bool e108) rfl (by decide) (OE.buildSliceE (ps := [(0, (.int .u8 5 : Value)), (1, (.int .u8 5 : Value)), (2, (.int .u8 5 : Value)), (3, (.int .u8 5 : Value))]) (cells := #[.int .u8 5, .int .u8 5, .int .u8 5, .int .u8 5]) (e := 5) rfl (Tryz.bf1 _ _ _ _) eb120 eh121 ?_)
            refine VL.gstepD rfl rfl (by decide) (congrArg Value.bool e108) rfl (by decide) (OE.callL (args := [.pointer y3_0, .string (ByteArray.mk #[97]), .slice (some (Addr.mk b110 0 none)) 4 4]) Tryz.func12 rfl Tryz.nn12 rfl rfl (CHE.mono H (fun r111 h112 H => ?_) (fun _ _ e => e.elim)))
            obtain ⟨y113, rfl, H⟩ := H
            refine VL.gstepD rfl rfl (by decide) (congrArg Value.bool e108) rfl (by decide) (OE.binI (v := .bool (y113 != 0)) rfl rfl rfl ?_)
            refine VL.stepD rfl rfl (by decide) (OE.pickV (t := false) (v := .bool (y113 != 0)) (congrArg Value.bool e108) rfl ?_)
            refine VL.stepD rfl rfl (by decide) (OE.moveV (v := .bool (y113 != 0)) rfl ?_)
            refine boolSplit ((y113 != 0)) (fun e114 => ?_) (fun e114 => ?_)
            · have H := H.1 e114
              refine VL.gskipD rfl rfl (by decide) (.inl (congrArg Value.bool e114)) rfl (by decide) ?_
              refine VL.gskipD rfl rfl (by decide) (.inl (congrArg Value.bool e114)) rfl (by decide) ?_
              refine VL.gskipD rfl rfl (by decide) (.inl (congrArg Value.bool e114)) rfl (by decide) ?_
              refine VL.stepD rfl rfl (by decide) (OE.pickV (t := true) (v := .bool true) (congrArg Value.bool e114) rfl ?_)
              refine VL.nil ?_
              exact ⟨rfl, true, rfl, rfl, H⟩
            · have H := H.2 e114
              refine VL.gstepD rfl rfl (by decide) (congrArg Value.bool e114) rfl (by decide) (OE.moveV (v := .pointer y3_0) rfl ?_)
              refine VL.gstepD rfl rfl (by decide) (congrArg Value.bool e114) rfl (by decide) (OE.callL (args := [.pointer y3_0, .string (ByteArray.mk #[97])]) Tryz.func13 rfl Tryz.nn13 rfl rfl (CHE.mono H (fun r115 h116 H => ?_) (fun _ _ e => e.elim)))
              obtain ⟨y117, rfl, H⟩ := H
              refine VL.gstepD rfl rfl (by decide) (congrArg Value.bool e114) rfl (by decide) (OE.binI (v := .bool (y117 != 0)) rfl rfl rfl ?_)
              refine VL.stepD rfl rfl (by decide) (OE.pickV (t := false) (v := .bool (y117 != 0)) (congrArg Value.bool e114) rfl ?_)
              refine VL.nil ?_
              exact ⟨rfl, (y117 != 0), rfl, rfl, H⟩


def D_disk_Disk_Create (R : Value → Hp → Prop) (d : Option Addr) (name : ByteArray) (h : Hp) : Prop :=
  (∀ b2 h1, b2 = Array.size h → h1 = Array.push h (.cells #[.pointer d] 24) → (∀ b4 h3, b4 = Array.size h1 → h3 = Array.push h1 (.cells #[.string name] 9) → (∃ x5 : Option Addr, cell h3 (Addr.mk b2 0 none) = some (.pointer x5) ∧ CH Tryz.prog 39 #[.pointer x5, .func (.func 40) #[] #[.pointer (some (Addr.mk b2 0 none)), .pointer (some (Addr.mk b4 0 none))], .func (.func 42) #[] #[.pointer (some (Addr.mk b2 0 none)), .pointer (some (Addr.mk b4 0 none))], .slice none 0 0] h3 (fun r7 h8 => ∃ y9 : Int, r7 = .int .i64 y9 ∧ R (.int .i64 y9) h8))))
set_option maxRecDepth 10000 in
set_option maxHeartbeats 4000000 in
theorem D_disk_Disk_Create.sound {R : Value → Hp → Prop} {d : Option Addr} {name : ByteArray} {h : Hp} (H : D_disk_Disk_Create R  d name h) : CH Tryz.prog 11 #[.pointer d, .string name] h R := by
  refine CHE.enter (n := 9) Tryz.func11 rfl rfl (Nat.le_of_ble_eq_true rfl) ?_
  unfold D_disk_Disk_Create at H
  refine VC.seq ?_
  refine VC.region ?_
  obtain ⟨b2, eb13⟩ : ∃ b2, b2 = Array.size h := ⟨_, rfl⟩
  obtain ⟨h1, eh14⟩ : ∃ h1, h1 = Array.push h (.cells #[.pointer d] 24) := ⟨_, rfl⟩
  have H := H b2 h1 eb13 eh14
  refine VL.stepD rfl rfl (by decide) (OE.boxE (v := .pointer d) rfl eb13 eh14 ?_)
  obtain ⟨b4, eb11⟩ : ∃ b4, b4 = Array.size h1 := ⟨_, rfl⟩
  obtain ⟨h3, eh12⟩ : ∃ h3, h3 = Array.push h1 (.cells #[.string name] 9) := ⟨_, rfl⟩
  have H := H b4 h3 eb11 eh12
  refine VL.stepD rfl rfl (by decide) (OE.boxE (v := .string name) rfl eb11 eh12 ?_)
  refine VL.stepD rfl rfl (by decide) (OE.assignV (v := .int .i64 0) rfl ?_)
  refine VL.nil ?_
  change VC _ _ _ _ _ _ _
  refine VC.seq ?_
  refine VC.region ?_
  obtain ⟨x5, hl6, H⟩ := H
  refine VL.stepD rfl rfl (by decide) (OE.load (a := (Addr.mk b2 0 none)) (v := .pointer x5) rfl (LdT.one Tryz.underlying24 rfl hl6) ?_)
  refine VL.stepD rfl rfl (by decide) (OE.makeFuncL (l := [.pointer (some (Addr.mk b2 0 none)), .pointer (some (Addr.mk b4 0 none))]) rfl ?_)
  refine VL.stepD rfl rfl (by decide) (OE.makeFuncL (l := [.pointer (some (Addr.mk b2 0 none)), .pointer (some (Addr.mk b4 0 none))]) rfl ?_)
  refine VL.stepD rfl rfl (by decide) (OE.callL (args := [.pointer x5, .func (.func 40) #[] #[.pointer (some (Addr.mk b2 0 none)), .pointer (some (Addr.mk b4 0 none))], .func (.func 42) #[] #[.pointer (some (Addr.mk b2 0 none)), .pointer (some (Addr.mk b4 0 none))], .slice none 0 0]) Tryz.func39 rfl Tryz.nn39 rfl rfl (CHE.mono H (fun r7 h8 H => ?_) (fun _ _ e => e.elim)))
  obtain ⟨y9, rfl, H⟩ := H
  refine VL.stepD rfl rfl (by decide) (OE.assignV (v := .int .i64 y9) rfl ?_)
  refine VL.nil ?_
  change VC _ _ _ _ _ _ _
  refine VC.ret ?_
  exact ⟨rfl, _, ResOK.t1 rfl (v := .int .i64 y9) rfl, H⟩

def D_disk_Disk_Append (R : Value → Hp → Prop) (d : Option Addr) (name : ByteArray) (dataA : Option Addr) (datan : Nat) (datac : Nat) (h : Hp) : Prop :=
  (∀ b2 h1, b2 = Array.size h → h1 = Array.push h (.cells #[.pointer d] 24) → (∀ b4 h3, b4 = Array.size h1 → h3 = Array.push h1 (.cells #[.string name] 9) → (∀ b6 h5, b6 = Array.size h3 → h5 = Array.push h3 (.cells #[.slice dataA datan datac] 22) → (∀ b8 h7, b8 = Array.size h5 → h7 = Array.push h5 (.cells #[.pointer none] 96) → (∀ b10 h9, b10 = Array.size h7 → h9 = Array.push h7 (.cells #[.nilFunc] 115) → (Wr h9 (Addr.mk b10 0 none) ∧ ∀ h11, h11 = setc h9 (Addr.mk b10 0 none) (.func (.func 45) #[] #[.pointer (some (Addr.mk b8 0 none)), .pointer (some (Addr.mk b2 0 none))]) → (∃ x13 : Option Addr, cell h11 (Addr.mk b2 0 none) = some (.pointer x13) ∧ (∀ b16 h15, b16 = Array.size h11 → h15 = Array.push h11 (.cells #[.func (.func 51) #[] #[.pointer (some (Addr.mk b10 0 none)), .pointer (some (Addr.mk b6 0 none))]] 116) → CH Tryz.prog 39 #[.pointer x13, .func (.func 49) #[] #[.pointer (some (Addr.mk b2 0 none)), .pointer (some (Addr.mk b4 0 none)), .pointer (some (Addr.mk b8 0 none))], .func (.func 50) #[] #[.pointer (some (Addr.mk b10 0 none)), .pointer (some (Addr.mk b6 0 none))], .slice (some (Addr.mk b16 0 none)) 1 1] h15 (fun r17 h18 => ∃ y19 : Int, r17 = .int .i64 y19 ∧ R (.int .i64 y19) h18)))))))))
set_option maxRecDepth 10000 in
set_option maxHeartbeats 4000000 in
theorem D_disk_Disk_Append.sound {R : Value → Hp → Prop} {d : Option Addr} {name : ByteArray} {dataA : Option Addr} {datan : Nat} {datac : Nat} {h : Hp} (H : D_disk_Disk_Append R  d name dataA datan datac h) : CH Tryz.prog 12 #[.pointer d, .string name, .slice dataA datan datac] h R := by
  refine CHE.enter (n := 16) Tryz.func12 rfl rfl (Nat.le_of_ble_eq_true rfl) ?_
  unfold D_disk_Disk_Append at H
  refine VC.seq ?_
  refine VC.region ?_
  obtain ⟨b2, eb32⟩ : ∃ b2, b2 = Array.size h := ⟨_, rfl⟩
  obtain ⟨h1, eh33⟩ : ∃ h1, h1 = Array.push h (.cells #[.pointer d] 24) := ⟨_, rfl⟩
  have H := H b2 h1 eb32 eh33
  refine VL.stepD rfl rfl (by decide) (OE.boxE (v := .pointer d) rfl eb32 eh33 ?_)
  obtain ⟨b4, eb30⟩ : ∃ b4, b4 = Array.size h1 := ⟨_, rfl⟩
  obtain ⟨h3, eh31⟩ : ∃ h3, h3 = Array.push h1 (.cells #[.string name] 9) := ⟨_, rfl⟩
  have H := H b4 h3 eb30 eh31
  refine VL.stepD rfl rfl (by decide) (OE.boxE (v := .string name) rfl eb30 eh31 ?_)
  obtain ⟨b6, eb28⟩ : ∃ b6, b6 = Array.size h3 := ⟨_, rfl⟩
  obtain ⟨h5, eh29⟩ : ∃ h5, h5 = Array.push h3 (.cells #[.slice dataA datan datac] 22) := ⟨_, rfl⟩
  have H := H b6 h5 eb28 eh29
  refine VL.stepD rfl rfl (by decide) (OE.boxE (v := .slice dataA datan datac) rfl eb28 eh29 ?_)
  refine VL.stepD rfl rfl (by decide) (OE.assignV (v := .int .i64 0) rfl ?_)
  refine VL.nil ?_
  change VC _ _ _ _ _ _ _
  refine VC.seq ?_
  refine VC.region ?_
  obtain ⟨b8, eb26⟩ : ∃ b8, b8 = Array.size h5 := ⟨_, rfl⟩
  obtain ⟨h7, eh27⟩ : ∃ h7, h7 = Array.push h5 (.cells #[.pointer none] 96) := ⟨_, rfl⟩
  have H := H b8 h7 eb26 eh27
  refine VL.stepD rfl rfl (by decide) (OE.allocE (z := .pointer none) Tryz.i96 eb26 eh27 ?_)
  refine VL.nil ?_
  change VC _ _ _ _ _ _ _
  refine VC.seq ?_
  refine VC.region ?_
  refine VL.stepD rfl rfl (by decide) (OE.makeFuncL (l := [.pointer (some (Addr.mk b8 0 none)), .pointer (some (Addr.mk b2 0 none))]) rfl ?_)
  obtain ⟨b10, eb24⟩ : ∃ b10, b10 = Array.size h7 := ⟨_, rfl⟩
  obtain ⟨h9, eh25⟩ : ∃ h9, h9 = Array.push h7 (.cells #[.nilFunc] 115) := ⟨_, rfl⟩
  have H := H b10 h9 eb24 eh25
  refine VL.stepD rfl rfl (by decide) (OE.allocE (z := .nilFunc) Tryz.i115 eb24 eh25 ?_)
  obtain ⟨hw12, H⟩ := H
  obtain ⟨h11, eh23⟩ : ∃ h11, h11 = setc h9 (Addr.mk b10 0 none) (.func (.func 45) #[] #[.pointer (some (Addr.mk b8 0 none)), .pointer (some (Addr.mk b2 0 none))]) := ⟨_, rfl⟩
  have H := H h11 eh23
  refine VL.stepN rfl rfl (OE.storeE (a := (Addr.mk b10 0 none)) (v := .func (.func 45) #[] #[.pointer (some (Addr.mk b8 0 none)), .pointer (some (Addr.mk b2 0 none))]) rfl rfl (StT.oneI Tryz.i115 hw12 rfl) eh23 ?_)
  refine VL.nil ?_
  change VC _ _ _ _ _ _ _
  refine VC.seq ?_
  refine VC.region ?_
  obtain ⟨x13, hl14, H⟩ := H
  refine VL.stepD rfl rfl (by decide) (OE.load (a := (Addr.mk b2 0 none)) (v := .pointer x13) rfl (LdT.one Tryz.underlying24 rfl hl14) ?_)
  refine VL.stepD rfl rfl (by decide) (OE.makeFuncL (l := [.pointer (some (Addr.mk b2 0 none)), .pointer (some (Addr.mk b4 0 none)), .pointer (some (Addr.mk b8 0 none))]) rfl ?_)
  refine VL.stepD rfl rfl (by decide) (OE.makeFuncL (l := [.pointer (some (Addr.mk b10 0 none)), .pointer (some (Addr.mk b6 0 none))]) rfl ?_)
  refine VL.stepD rfl rfl (by decide) (OE.makeFuncL (l := [.pointer (some (Addr.mk b10 0 none)), .pointer (some (Addr.mk b6 0 none))]) rfl ?_)
  obtain ⟨b16, eb21⟩ : ∃ b16, b16 = Array.size h11 := ⟨_, rfl⟩
  obtain ⟨h15, eh22⟩ : ∃ h15, h15 = Array.push h11 (.cells #[.func (.func 51) #[] #[.pointer (some (Addr.mk b10 0 none)), .pointer (some (Addr.mk b6 0 none))]] 116) := ⟨_, rfl⟩
  have H := H b16 h15 eb21 eh22
  refine VL.stepD rfl rfl (by decide) (OE.buildSliceE (ps := [(0, (.func (.func 51) #[] #[.pointer (some (Addr.mk b10 0 none)), .pointer (some (Addr.mk b6 0 none))] : Value))]) (cells := #[.func (.func 51) #[] #[.pointer (some (Addr.mk b10 0 none)), .pointer (some (Addr.mk b6 0 none))]]) (e := 116) rfl (Tryz.bf7 _ _) eb21 eh22 ?_)
  refine VL.stepD rfl rfl (by decide) (OE.callL (args := [.pointer x13, .func (.func 49) #[] #[.pointer (some (Addr.mk b2 0 none)), .pointer (some (Addr.mk b4 0 none)), .pointer (some (Addr.mk b8 0 none))], .func (.func 50) #[] #[.pointer (some (Addr.mk b10 0 none)), .pointer (some (Addr.mk b6 0 none))], .slice (some (Addr.mk b16 0 none)) 1 1]) Tryz.func39 rfl Tryz.nn39 rfl rfl (CHE.mono H (fun r17 h18 H => ?_) (fun _ _ e => e.elim)))
  obtain ⟨y19, rfl, H⟩ := H
  refine VL.stepD rfl rfl (by decide) (OE.assignV (v := .int .i64 y19) rfl ?_)
  refine VL.nil ?_
  change VC _ _ _ _ _ _ _
  refine VC.ret ?_
  exact ⟨rfl, _, ResOK.t1 rfl (v := .int .i64 y19) rfl, H⟩

def D_disk_Disk_Sync (R : Value → Hp → Prop) (d : Option Addr) (name : ByteArray) (h : Hp) : Prop :=
  (∀ b2 h1, b2 = Array.size h → h1 = Array.push h (.cells #[.pointer d] 24) → (∀ b4 h3, b4 = Array.size h1 → h3 = Array.push h1 (.cells #[.string name] 9) → (∀ b6 h5, b6 = Array.size h3 → h5 = Array.push h3 (.cells #[.pointer none] 96) → (∃ x7 : Option Addr, cell h5 (Addr.mk b2 0 none) = some (.pointer x7) ∧ (∀ b10 h9, b10 = Array.size h5 → h9 = Array.push h5 (.cells #[.func (.func 55) #[] #[.pointer (some (Addr.mk b6 0 none))]] 116) → CH Tryz.prog 39 #[.pointer x7, .func (.func 52) #[] #[.pointer (some (Addr.mk b2 0 none)), .pointer (some (Addr.mk b4 0 none)), .pointer (some (Addr.mk b6 0 none))], .func (.func 53) #[] #[.pointer (some (Addr.mk b6 0 none))], .slice (some (Addr.mk b10 0 none)) 1 1] h9 (fun r11 h12 => ∃ y13 : Int, r11 = .int .i64 y13 ∧ R (.int .i64 y13) h12))))))
set_option maxRecDepth 10000 in
set_option maxHeartbeats 4000000 in
theorem D_disk_Disk_Sync.sound {R : Value → Hp → Prop} {d : Option Addr} {name : ByteArray} {h : Hp} (H : D_disk_Disk_Sync R  d name h) : CH Tryz.prog 13 #[.pointer d, .string name] h R := by
  refine CHE.enter (n := 12) Tryz.func13 rfl rfl (Nat.le_of_ble_eq_true rfl) ?_
  unfold D_disk_Disk_Sync at H
  refine VC.seq ?_
  refine VC.region ?_
  obtain ⟨b2, eb21⟩ : ∃ b2, b2 = Array.size h := ⟨_, rfl⟩
  obtain ⟨h1, eh22⟩ : ∃ h1, h1 = Array.push h (.cells #[.pointer d] 24) := ⟨_, rfl⟩
  have H := H b2 h1 eb21 eh22
  refine VL.stepD rfl rfl (by decide) (OE.boxE (v := .pointer d) rfl eb21 eh22 ?_)
  obtain ⟨b4, eb19⟩ : ∃ b4, b4 = Array.size h1 := ⟨_, rfl⟩
  obtain ⟨h3, eh20⟩ : ∃ h3, h3 = Array.push h1 (.cells #[.string name] 9) := ⟨_, rfl⟩
  have H := H b4 h3 eb19 eh20
  refine VL.stepD rfl rfl (by decide) (OE.boxE (v := .string name) rfl eb19 eh20 ?_)
  refine VL.stepD rfl rfl (by decide) (OE.assignV (v := .int .i64 0) rfl ?_)
  refine VL.nil ?_
  change VC _ _ _ _ _ _ _
  refine VC.seq ?_
  refine VC.region ?_
  obtain ⟨b6, eb17⟩ : ∃ b6, b6 = Array.size h3 := ⟨_, rfl⟩
  obtain ⟨h5, eh18⟩ : ∃ h5, h5 = Array.push h3 (.cells #[.pointer none] 96) := ⟨_, rfl⟩
  have H := H b6 h5 eb17 eh18
  refine VL.stepD rfl rfl (by decide) (OE.allocE (z := .pointer none) Tryz.i96 eb17 eh18 ?_)
  refine VL.nil ?_
  change VC _ _ _ _ _ _ _
  refine VC.seq ?_
  refine VC.region ?_
  obtain ⟨x7, hl8, H⟩ := H
  refine VL.stepD rfl rfl (by decide) (OE.load (a := (Addr.mk b2 0 none)) (v := .pointer x7) rfl (LdT.one Tryz.underlying24 rfl hl8) ?_)
  refine VL.stepD rfl rfl (by decide) (OE.makeFuncL (l := [.pointer (some (Addr.mk b2 0 none)), .pointer (some (Addr.mk b4 0 none)), .pointer (some (Addr.mk b6 0 none))]) rfl ?_)
  refine VL.stepD rfl rfl (by decide) (OE.makeFuncL (l := [.pointer (some (Addr.mk b6 0 none))]) rfl ?_)
  refine VL.stepD rfl rfl (by decide) (OE.makeFuncL (l := [.pointer (some (Addr.mk b6 0 none))]) rfl ?_)
  obtain ⟨b10, eb15⟩ : ∃ b10, b10 = Array.size h5 := ⟨_, rfl⟩
  obtain ⟨h9, eh16⟩ : ∃ h9, h9 = Array.push h5 (.cells #[.func (.func 55) #[] #[.pointer (some (Addr.mk b6 0 none))]] 116) := ⟨_, rfl⟩
  have H := H b10 h9 eb15 eh16
  refine VL.stepD rfl rfl (by decide) (OE.buildSliceE (ps := [(0, (.func (.func 55) #[] #[.pointer (some (Addr.mk b6 0 none))] : Value))]) (cells := #[.func (.func 55) #[] #[.pointer (some (Addr.mk b6 0 none))]]) (e := 116) rfl (Tryz.bf8 _) eb15 eh16 ?_)
  refine VL.stepD rfl rfl (by decide) (OE.callL (args := [.pointer x7, .func (.func 52) #[] #[.pointer (some (Addr.mk b2 0 none)), .pointer (some (Addr.mk b4 0 none)), .pointer (some (Addr.mk b6 0 none))], .func (.func 53) #[] #[.pointer (some (Addr.mk b6 0 none))], .slice (some (Addr.mk b10 0 none)) 1 1]) Tryz.func39 rfl Tryz.nn39 rfl rfl (CHE.mono H (fun r11 h12 H => ?_) (fun _ _ e => e.elim)))
  obtain ⟨y13, rfl, H⟩ := H
  refine VL.stepD rfl rfl (by decide) (OE.assignV (v := .int .i64 y13) rfl ?_)
  refine VL.nil ?_
  change VC _ _ _ _ _ _ _
  refine VC.ret ?_
  exact ⟨rfl, _, ResOK.t1 rfl (v := .int .i64 y13) rfl, H⟩

def D_disk_Disk_SyncNames (R : Value → Hp → Prop) (d : Option Addr) (h : Hp) : Prop :=
  (∀ b2 h1, b2 = Array.size h → h1 = Array.push h (.cells #[.pointer d] 24) → (∃ x3 : Option Addr, cell h1 (Addr.mk b2 0 none) = some (.pointer x3) ∧ CH Tryz.prog 39 #[.pointer x3, .func (.func 56) #[] #[], .func (.func 57) #[] #[.pointer (some (Addr.mk b2 0 none))], .slice none 0 0] h1 (fun r5 h6 => ∃ y7 : Int, r5 = .int .i64 y7 ∧ R (.int .i64 y7) h6)))
set_option maxRecDepth 10000 in
set_option maxHeartbeats 4000000 in
theorem D_disk_Disk_SyncNames.sound {R : Value → Hp → Prop} {d : Option Addr} {h : Hp} (H : D_disk_Disk_SyncNames R  d h) : CH Tryz.prog 14 #[.pointer d] h R := by
  refine CHE.enter (n := 6) Tryz.func14 rfl rfl (Nat.le_of_ble_eq_true rfl) ?_
  unfold D_disk_Disk_SyncNames at H
  refine VC.seq ?_
  refine VC.region ?_
  obtain ⟨b2, eb9⟩ : ∃ b2, b2 = Array.size h := ⟨_, rfl⟩
  obtain ⟨h1, eh10⟩ : ∃ h1, h1 = Array.push h (.cells #[.pointer d] 24) := ⟨_, rfl⟩
  have H := H b2 h1 eb9 eh10
  refine VL.stepD rfl rfl (by decide) (OE.boxE (v := .pointer d) rfl eb9 eh10 ?_)
  refine VL.stepD rfl rfl (by decide) (OE.assignV (v := .int .i64 0) rfl ?_)
  refine VL.nil ?_
  change VC _ _ _ _ _ _ _
  refine VC.seq ?_
  refine VC.region ?_
  obtain ⟨x3, hl4, H⟩ := H
  refine VL.stepD rfl rfl (by decide) (OE.load (a := (Addr.mk b2 0 none)) (v := .pointer x3) rfl (LdT.one Tryz.underlying24 rfl hl4) ?_)
  refine VL.stepD rfl rfl (by decide) (OE.makeFuncL (l := [.pointer (some (Addr.mk b2 0 none))]) rfl ?_)
  refine VL.stepD rfl rfl (by decide) (OE.callL (args := [.pointer x3, .func (.func 56) #[] #[], .func (.func 57) #[] #[.pointer (some (Addr.mk b2 0 none))], .slice none 0 0]) Tryz.func39 rfl Tryz.nn39 rfl rfl (CHE.mono H (fun r5 h6 H => ?_) (fun _ _ e => e.elim)))
  obtain ⟨y7, rfl, H⟩ := H
  refine VL.stepD rfl rfl (by decide) (OE.assignV (v := .int .i64 y7) rfl ?_)
  refine VL.nil ?_
  change VC _ _ _ _ _ _ _
  refine VC.ret ?_
  exact ⟨rfl, _, ResOK.t1 rfl (v := .int .i64 y7) rfl, H⟩

def D_disk_Disk_Plan (R : Value → Hp → Prop) (d : Option Addr) (p_0A : Option Addr) (p_0n : Nat) (p_0c : Nat) (p_1A : Option Addr) (p_1n : Nat) (p_1c : Nat) (h : Hp) : Prop :=
  (∀ b2 h1, b2 = Array.size h → h1 = Array.push h (.cells #[.slice p_0A p_0n p_0c, .slice p_1A p_1n p_1c] 36) → (((Option.isNone d) = true → R (.tuple #[]) h1) ∧ ((Option.isNone d) = false → (∃ x4A : Option Addr, ∃ x4n : Nat, ∃ x4c : Nat, cell h1 (Addr.mk b2 0 none) = some (.slice x4A x4n x4c) ∧ (∃ x6A : Option Addr, ∃ x6n : Nat, ∃ x6c : Nat, cell h1 ((Addr.mk b2 0 none).add 1) = some (.slice x6A x6n x6c) ∧ CH Tryz.prog 60 #[.slice x4A x4n x4c] h1 (fun r8 h9 => ∃ y10A : Option Addr, ∃ y10n : Nat, ∃ y10c : Nat, r8 = .slice y10A y10n y10c ∧ (cell h9 ((Addr.mk b2 0 none).add 1) = some (.slice x6A x6n x6c) ∧ CH Tryz.prog 60 #[.slice x6A x6n x6c] h9 (fun r12 h13 => ∃ y14A : Option Addr, ∃ y14n : Nat, ∃ y14c : Nat, r12 = .slice y14A y14n y14c ∧ (∃ a15 : Addr, d = some a15 ∧ ((∀ j, j < 2 → Wr h13 (Addr.add (a15.add 6) j)) ∧ ∀ h17, h17 = setRow h13 (a15.add 6) [.slice y10A y10n y10c, .slice y14A y14n y14c] 0 → (Wr h17 (a15.add 8) ∧ ∀ h19, h19 = setc h17 (a15.add 8) (.int .i64 0) → (Wr h19 (a15.add 9) ∧ ∀ h21, h21 = setc h19 (a15.add 9) (.int .i64 0) → R (.tuple #[]) h21))))))))))))
set_option maxRecDepth 10000 in
set_option maxHeartbeats 4000000 in
theorem D_disk_Disk_Plan.sound {R : Value → Hp → Prop} {d : Option Addr} {p_0A : Option Addr} {p_0n : Nat} {p_0c : Nat} {p_1A : Option Addr} {p_1n : Nat} {p_1c : Nat} {h : Hp} (H : D_disk_Disk_Plan R  d p_0A p_0n p_0c p_1A p_1n p_1c h) : CH Tryz.prog 16 #[.pointer d, .agg #[.slice p_0A p_0n p_0c, .slice p_1A p_1n p_1c]] h R := by
  refine CHE.enter (n := 22) Tryz.func16 rfl rfl (Nat.le_of_ble_eq_true rfl) ?_
  unfold D_disk_Disk_Plan at H
  refine VC.seq ?_
  refine VC.region ?_
  obtain ⟨b2, eb28⟩ : ∃ b2, b2 = Array.size h := ⟨_, rfl⟩
  obtain ⟨h1, eh29⟩ : ∃ h1, h1 = Array.push h (.cells #[.slice p_0A p_0n p_0c, .slice p_1A p_1n p_1c] 36) := ⟨_, rfl⟩
  have H := H b2 h1 eb28 eh29
  refine VL.stepD rfl rfl (by decide) (OE.boxE (v := .agg #[.slice p_0A p_0n p_0c, .slice p_1A p_1n p_1c]) rfl eb28 eh29 ?_)
  refine VL.nil ?_
  change VC _ _ _ _ _ _ _
  refine VC.seq ?_
  refine VC.seq ?_
  refine VC.region ?_
  refine VL.stepD rfl rfl (by decide) (OE.moveV (v := .pointer d) rfl ?_)
  refine VL.stepD rfl rfl (by decide) (OE.ptrNilV (b := (Option.isNone d)) (p := d) (q := none) rfl rfl Tryz.underlying24 (.inr rfl) (by simp) ?_)
  refine VL.nil ?_
  change VC _ _ _ _ _ _ _
  refine VC.cond (t := (Option.isNone d)) rfl (fun e3 => ?_) (fun e3 => ?_)
  · have H := H.1 e3
    refine VC.ret ?_
    exact ⟨rfl, _, ResOK.none rfl, H⟩
  · have H := H.2 e3
    refine VC.skip ?_
    change VC _ _ _ _ _ _ _
    refine VC.seq ?_
    refine VC.drawsS Tryz.mixed (by kernel_rfl) (by kernel_rfl) (fun st hd => ?_)
    refine DW.still (i := 0) (v := .pointer d) (by kernel_rfl) ?_
    refine DW.still (i := 1) (v := .pointer (some (Addr.mk b2 0 none))) (by kernel_rfl) ?_
    obtain ⟨x4A, x4n, x4c, hl5, H⟩ := H
    refine DW.still (i := 2) (v := .slice x4A x4n x4c) (by kernel_rfl) ?_
    refine DW.still (i := 4) (v := .pointer (some ((Addr.mk b2 0 none).add 1))) (by kernel_rfl) ?_
    obtain ⟨x6A, x6n, x6c, hl7, H⟩ := H
    refine DW.still (i := 5) (v := .slice x6A x6n x6c) (by kernel_rfl) ?_
    refine DW.loudF (fr (fun _ => undef) [(8, (.slice x4A x4n x4c : Value))]) st hd (i := 3) rfl (by kernel_rfl) (.inl rfl) (by kernel_rfl) ⟨.inr (YD.u (fr (fun _ => undef) [(10, (.pointer (some ((Addr.mk b2 0 none).add 1)) : Value))]) st rfl rfl (by kernel_rfl) (OE.load (a := ((Addr.mk b2 0 none).add 1)) (v := .slice x6A x6n x6c) rfl (LdT.one Tryz.underlying34 rfl hl7) ⟨rfl, rfl⟩)), .inr (YD.u (fr (fun _ => undef) [(3, (.pointer (some (Addr.mk b2 0 none)) : Value))]) st rfl rfl (by kernel_rfl) (OE.fieldAddrI (a := (Addr.mk b2 0 none)) (o := 1) rfl Tryz.underlying36 rfl Tryz.i34 (by decide) rfl ⟨rfl, rfl⟩)), .inr (YD.u (fr (fun _ => undef) [(7, (.pointer (some (Addr.mk b2 0 none)) : Value))]) st rfl rfl (by kernel_rfl) (OE.load (a := (Addr.mk b2 0 none)) (v := .slice x4A x4n x4c) rfl (LdT.one Tryz.underlying34 rfl hl5) ⟨rfl, rfl⟩)), .inr (YD.u (fr (fun _ => undef) [(3, (.pointer (some (Addr.mk b2 0 none)) : Value))]) st rfl rfl (by kernel_rfl) (OE.fieldAddrI (a := (Addr.mk b2 0 none)) (o := 0) rfl Tryz.underlying36 rfl Tryz.i34 (by decide) rfl ⟨rfl, rfl⟩)), .inr (YD.u (fr (fun _ => undef) [(0, (.pointer d : Value))]) st rfl rfl (by kernel_rfl) (OE.moveV (v := .pointer d) rfl ⟨rfl, rfl⟩)), trivial⟩ (OE.callL (args := [.slice x4A x4n x4c]) Tryz.func60 rfl Tryz.nn60 rfl rfl (CHE.mono H (fun r8 h9 H => ?_) (fun _ _ e => e.elim)))
    obtain ⟨y10A, y10n, y10c, rfl, H⟩ := H
    obtain ⟨hs11, H⟩ := H
    refine DW.loudF (fr (fun _ => undef) [(11, (.slice x6A x6n x6c : Value))]) st hd (i := 6) rfl (by kernel_rfl) (.inl rfl) (by kernel_rfl) ⟨.inl (by kernel_rfl), .inr (YD.u (fr (fun _ => undef) [(10, (.pointer (some ((Addr.mk b2 0 none).add 1)) : Value))]) st rfl rfl (by kernel_rfl) (OE.load (a := ((Addr.mk b2 0 none).add 1)) (v := .slice x6A x6n x6c) rfl (LdT.one Tryz.underlying34 rfl hs11) ⟨rfl, rfl⟩)), .inr (YD.u (fr (fun _ => undef) [(3, (.pointer (some (Addr.mk b2 0 none)) : Value))]) st rfl rfl (by kernel_rfl) (OE.fieldAddrI (a := (Addr.mk b2 0 none)) (o := 1) rfl Tryz.underlying36 rfl Tryz.i34 (by decide) rfl ⟨rfl, rfl⟩)), .inl (by kernel_rfl), .inl (by kernel_rfl), .inr (YD.u (fr (fun _ => undef) [(0, (.pointer d : Value))]) st rfl rfl (by kernel_rfl) (OE.moveV (v := .pointer d) rfl ⟨rfl, rfl⟩)), trivial⟩ (OE.callL (args := [.slice x6A x6n x6c]) Tryz.func60 rfl Tryz.nn60 rfl rfl (CHE.mono H (fun r12 h13 H => ?_) (fun _ _ e => e.elim)))
    obtain ⟨y14A, y14n, y14c, rfl, H⟩ := H
    refine DW.still (i := 7) (v := .agg #[.slice y10A y10n y10c, .slice y14A y14n y14c]) (by kernel_rfl) ?_
    obtain ⟨a15, e16, H⟩ := H
    refine DW.still (i := 8) (v := .pointer (some a15)) (by kernel_rfl) ?_
    refine DW.still (i := 9) (v := .pointer (some (a15.add 6))) (by kernel_rfl) ?_
    obtain ⟨hw18, H⟩ := H
    obtain ⟨h17, eh25⟩ : ∃ h17, h17 = setRow h13 (a15.add 6) [.slice y10A y10n y10c, .slice y14A y14n y14c] 0 := ⟨_, rfl⟩
    have H := H h17 eh25
    refine DW.loudF (fr (fun _ => undef) [(15, (.pointer (some (a15.add 6)) : Value)), (13, (.agg #[.slice y10A y10n y10c, .slice y14A y14n y14c] : Value))]) st hd (i := 10) rfl (by kernel_rfl) (.inl rfl) (by kernel_rfl) ⟨.inr (YD.u (fr (fun _ => undef) [(14, (.pointer (some a15) : Value))]) st rfl rfl (by kernel_rfl) (OE.fieldAddrI (a := a15) (o := 6) rfl Tryz.underlying104 rfl Tryz.i36 (by decide) rfl ⟨rfl, rfl⟩)), .inr (YD.u (fr (fun _ => undef) [(6, (.pointer d : Value))]) st rfl rfl (by kernel_rfl) (OE.nilCheck (a := a15) (congrArg Value.pointer e16) ⟨rfl, rfl⟩)), .inr (YD.u (fr (fun _ => undef) [(9, (.slice y10A y10n y10c : Value)), (12, (.slice y14A y14n y14c : Value))]) st rfl rfl (by kernel_rfl) (OE.buildV (ps := [(0, (.slice y10A y10n y10c : Value)), (1, (.slice y14A y14n y14c : Value))]) rfl (Tryz.bf9 _ _ _ _ _ _) ⟨rfl, rfl⟩)), .inl (by kernel_rfl), .inl (by kernel_rfl), .inl (by kernel_rfl), .inl (by kernel_rfl), .inl (by kernel_rfl), .inl (by kernel_rfl), .inr (YD.u (fr (fun _ => undef) [(0, (.pointer d : Value))]) st rfl rfl (by kernel_rfl) (OE.moveV (v := .pointer d) rfl ⟨rfl, rfl⟩)), trivial⟩ (OE.storeE (a := (a15.add 6)) (v := .agg #[.slice y10A y10n y10c, .slice y14A y14n y14c]) rfl rfl (StT.aggI (vs := [.slice y10A y10n y10c, .slice y14A y14n y14c]) Tryz.i36 rfl hw18 (by simp [oneC])) eh25 ?_)
    refine DW.finL st hd [(6, (.pointer d : Value)), (7, (.pointer (some (Addr.mk b2 0 none)) : Value)), (8, (.slice x4A x4n x4c : Value)), (10, (.pointer (some ((Addr.mk b2 0 none).add 1)) : Value)), (11, (.slice x6A x6n x6c : Value)), (9, (.slice y10A y10n y10c : Value)), (12, (.slice y14A y14n y14c : Value)), (13, (.agg #[.slice y10A y10n y10c, .slice y14A y14n y14c] : Value)), (14, (.pointer (some a15) : Value)), (15, (.pointer (some (a15.add 6)) : Value))] (by kernel_rfl) (by kernel_rfl) ⟨.inl (by kernel_rfl), .inl (by kernel_rfl), .inl (by kernel_rfl), .inl (by kernel_rfl), .inl (by kernel_rfl), .inl (by kernel_rfl), .inl (by kernel_rfl), .inl (by kernel_rfl), .inl (by kernel_rfl), .inl (by kernel_rfl), .inl (by kernel_rfl), trivial⟩ ?_
    change VC _ _ _ _ _ _ _
    refine VC.region ?_
    refine VL.stepD rfl rfl (by decide) (OE.moveV (v := .pointer d) rfl ?_)
    refine VL.stepD rfl rfl (by decide) (OE.moveV (v := .pointer d) rfl ?_)
    refine VL.stepD rfl rfl (by decide) (OE.nilCheck (a := a15) (congrArg Value.pointer e16) ?_)
    refine VL.stepD rfl rfl (by decide) (OE.fieldAddrI (a := a15) (o := 8) rfl Tryz.underlying104 rfl Tryz.i3 (by decide) rfl ?_)
    obtain ⟨hw20, H⟩ := H
    obtain ⟨h19, eh24⟩ : ∃ h19, h19 = setc h17 (a15.add 8) (.int .i64 0) := ⟨_, rfl⟩
    have H := H h19 eh24
    refine VL.stepN rfl rfl (OE.storeE (a := (a15.add 8)) (v := .int .i64 0) rfl rfl (StT.oneI Tryz.i3 hw20 rfl) eh24 ?_)
    refine VL.stepD rfl rfl (by decide) (OE.nilCheck (a := a15) (congrArg Value.pointer e16) ?_)
    refine VL.stepD rfl rfl (by decide) (OE.fieldAddrI (a := a15) (o := 9) rfl Tryz.underlying104 rfl Tryz.i3 (by decide) rfl ?_)
    obtain ⟨hw22, H⟩ := H
    obtain ⟨h21, eh23⟩ : ∃ h21, h21 = setc h19 (a15.add 9) (.int .i64 0) := ⟨_, rfl⟩
    have H := H h21 eh23
    refine VL.stepN rfl rfl (OE.storeE (a := (a15.add 9)) (v := .int .i64 0) rfl rfl (StT.oneI Tryz.i3 hw22 rfl) eh23 ?_)
    refine VL.nil ?_
    exact ⟨rfl, _, ResOK.none rfl, H⟩

def D_disk_Disk_Truncate (R : Value → Hp → Prop) (d : Option Addr) (name : ByteArray) (size : Int) (h : Hp) : Prop :=
  (∀ b2 h1, b2 = Array.size h → h1 = Array.push h (.cells #[.pointer d] 24) → (∀ b4 h3, b4 = Array.size h1 → h3 = Array.push h1 (.cells #[.string name] 9) → (∀ b6 h5, b6 = Array.size h3 → h5 = Array.push h3 (.cells #[.int .i64 size] 3) → (∀ b8 h7, b8 = Array.size h5 → h7 = Array.push h5 (.cells #[.pointer none] 96) → (∀ b10 h9, b10 = Array.size h7 → h9 = Array.push h7 (.cells #[.int .i64 0] 3) → (Wr h9 (Addr.mk b10 0 none) ∧ ∀ h11, h11 = setc h9 (Addr.mk b10 0 none) (.int .i64 0) → (∃ x13 : Option Addr, cell h11 (Addr.mk b2 0 none) = some (.pointer x13) ∧ CH Tryz.prog 39 #[.pointer x13, .func (.func 61) #[] #[.pointer (some (Addr.mk b2 0 none)), .pointer (some (Addr.mk b4 0 none)), .pointer (some (Addr.mk b8 0 none)), .pointer (some (Addr.mk b10 0 none)), .pointer (some (Addr.mk b6 0 none))], .func (.func 62) #[] #[.pointer (some (Addr.mk b6 0 none)), .pointer (some (Addr.mk b10 0 none)), .pointer (some (Addr.mk b8 0 none))], .slice none 0 0] h11 (fun r15 h16 => ∃ y17 : Int, r15 = .int .i64 y17 ∧ R (.int .i64 y17) h16))))))))
set_option maxRecDepth 10000 in
set_option maxHeartbeats 4000000 in
theorem D_disk_Disk_Truncate.sound {R : Value → Hp → Prop} {d : Option Addr} {name : ByteArray} {size : Int} {h : Hp} (H : D_disk_Disk_Truncate R  d name size h) : CH Tryz.prog 17 #[.pointer d, .string name, .int .i64 size] h R := by
  refine CHE.enter (n := 13) Tryz.func17 rfl rfl (Nat.le_of_ble_eq_true rfl) ?_
  unfold D_disk_Disk_Truncate at H
  refine VC.seq ?_
  refine VC.region ?_
  obtain ⟨b2, eb28⟩ : ∃ b2, b2 = Array.size h := ⟨_, rfl⟩
  obtain ⟨h1, eh29⟩ : ∃ h1, h1 = Array.push h (.cells #[.pointer d] 24) := ⟨_, rfl⟩
  have H := H b2 h1 eb28 eh29
  refine VL.stepD rfl rfl (by decide) (OE.boxE (v := .pointer d) rfl eb28 eh29 ?_)
  obtain ⟨b4, eb26⟩ : ∃ b4, b4 = Array.size h1 := ⟨_, rfl⟩
  obtain ⟨h3, eh27⟩ : ∃ h3, h3 = Array.push h1 (.cells #[.string name] 9) := ⟨_, rfl⟩
  have H := H b4 h3 eb26 eh27
  refine VL.stepD rfl rfl (by decide) (OE.boxE (v := .string name) rfl eb26 eh27 ?_)
  obtain ⟨b6, eb24⟩ : ∃ b6, b6 = Array.size h3 := ⟨_, rfl⟩
  obtain ⟨h5, eh25⟩ : ∃ h5, h5 = Array.push h3 (.cells #[.int .i64 size] 3) := ⟨_, rfl⟩
  have H := H b6 h5 eb24 eh25
  refine VL.stepD rfl rfl (by decide) (OE.boxE (v := .int .i64 size) rfl eb24 eh25 ?_)
  refine VL.stepD rfl rfl (by decide) (OE.assignV (v := .int .i64 0) rfl ?_)
  refine VL.nil ?_
  change VC _ _ _ _ _ _ _
  refine VC.seq ?_
  refine VC.region ?_
  obtain ⟨b8, eb22⟩ : ∃ b8, b8 = Array.size h5 := ⟨_, rfl⟩
  obtain ⟨h7, eh23⟩ : ∃ h7, h7 = Array.push h5 (.cells #[.pointer none] 96) := ⟨_, rfl⟩
  have H := H b8 h7 eb22 eh23
  refine VL.stepD rfl rfl (by decide) (OE.allocE (z := .pointer none) Tryz.i96 eb22 eh23 ?_)
  refine VL.nil ?_
  change VC _ _ _ _ _ _ _
  refine VC.seq ?_
  refine VC.region ?_
  obtain ⟨b10, eb20⟩ : ∃ b10, b10 = Array.size h7 := ⟨_, rfl⟩
  obtain ⟨h9, eh21⟩ : ∃ h9, h9 = Array.push h7 (.cells #[.int .i64 0] 3) := ⟨_, rfl⟩
  have H := H b10 h9 eb20 eh21
  refine VL.stepD rfl rfl (by decide) (OE.allocE (z := .int .i64 0) Tryz.i3 eb20 eh21 ?_)
  obtain ⟨hw12, H⟩ := H
  obtain ⟨h11, eh19⟩ : ∃ h11, h11 = setc h9 (Addr.mk b10 0 none) (.int .i64 0) := ⟨_, rfl⟩
  have H := H h11 eh19
  refine VL.stepN rfl rfl (OE.storeE (a := (Addr.mk b10 0 none)) (v := .int .i64 0) rfl rfl (StT.oneI Tryz.i3 hw12 rfl) eh19 ?_)
  refine VL.nil ?_
  change VC _ _ _ _ _ _ _
  refine VC.seq ?_
  refine VC.region ?_
  obtain ⟨x13, hl14, H⟩ := H
  refine VL.stepD rfl rfl (by decide) (OE.load (a := (Addr.mk b2 0 none)) (v := .pointer x13) rfl (LdT.one Tryz.underlying24 rfl hl14) ?_)
  refine VL.stepD rfl rfl (by decide) (OE.makeFuncL (l := [.pointer (some (Addr.mk b2 0 none)), .pointer (some (Addr.mk b4 0 none)), .pointer (some (Addr.mk b8 0 none)), .pointer (some (Addr.mk b10 0 none)), .pointer (some (Addr.mk b6 0 none))]) rfl ?_)
  refine VL.stepD rfl rfl (by decide) (OE.makeFuncL (l := [.pointer (some (Addr.mk b6 0 none)), .pointer (some (Addr.mk b10 0 none)), .pointer (some (Addr.mk b8 0 none))]) rfl ?_)
  refine VL.stepD rfl rfl (by decide) (OE.callL (args := [.pointer x13, .func (.func 61) #[] #[.pointer (some (Addr.mk b2 0 none)), .pointer (some (Addr.mk b4 0 none)), .pointer (some (Addr.mk b8 0 none)), .pointer (some (Addr.mk b10 0 none)), .pointer (some (Addr.mk b6 0 none))], .func (.func 62) #[] #[.pointer (some (Addr.mk b6 0 none)), .pointer (some (Addr.mk b10 0 none)), .pointer (some (Addr.mk b8 0 none))], .slice none 0 0]) Tryz.func39 rfl Tryz.nn39 rfl rfl (CHE.mono H (fun r15 h16 H => ?_) (fun _ _ e => e.elim)))
  obtain ⟨y17, rfl, H⟩ := H
  refine VL.stepD rfl rfl (by decide) (OE.assignV (v := .int .i64 y17) rfl ?_)
  refine VL.nil ?_
  change VC _ _ _ _ _ _ _
  refine VC.ret ?_
  exact ⟨rfl, _, ResOK.t1 rfl (v := .int .i64 y17) rfl, H⟩

def D_disk_Disk_Read (R : Value → Hp → Prop) (d : Option Addr) (name : ByteArray) (h : Hp) : Prop :=
  (((Option.isNone d) = true → R (.tuple #[.slice none 0 0, .int .i64 1]) h) ∧ ((Option.isNone d) = false → (∃ a2 : Addr, d = some a2 ∧ (∃ x4 : Bool, cell h (a2.add 10) = some (.bool x4) ∧ ((x4 = true → R (.tuple #[.slice none 0 0, .int .i64 11]) h) ∧ (x4 = false → CH Tryz.prog 41 #[.pointer d, .string name] h (fun r7 h8 => ∃ y9_0 : Option Addr, ∃ y9_1 : Int, r7 = .tuple #[.pointer y9_0, .int .i64 y9_1] ∧ (((y9_1 != 0) = true → R (.tuple #[.slice none 0 0, .int .i64 y9_1]) h8) ∧ ((y9_1 != 0) = false → (∃ x11 : Int, cell h8 (a2.add 9) = some (.int .i64 x11) ∧ (Wr h8 (a2.add 9) ∧ ∀ h13, h13 = setc h8 (a2.add 9) (.int .i64 (IntKind.i64.wrap (x11 + 1))) → (∃ x15A : Option Addr, ∃ x15n : Nat, ∃ x15c : Nat, cell h13 ((a2.add 6).add 1) = some (.slice x15A x15n x15c) ∧ (∃ x17 : Int, cell h13 (a2.add 9) = some (.int .i64 x17) ∧ CH Tryz.prog 64 #[.slice x15A x15n x15c, .int .i64 x17] h13 (fun r19 h20 => ∃ y21 : Int, r19 = .int .i64 y21 ∧ CH Tryz.prog 63 #[.pointer d, .int .i64 y21] h20 (fun r22 h23 => ∃ y24 : Int, r22 = .int .i64 y24 ∧ (((y24 != 0) = true → R (.tuple #[.slice none 0 0, .int .i64 y24]) h23) ∧ ((y24 != 0) = false → CH Tryz.prog 54 #[.pointer y9_0] h23 (fun r26 h27 => ∃ y28A : Option Addr, ∃ y28n : Nat, ∃ y28c : Nat, r26 = .slice y28A y28n y28c ∧ R (.tuple #[.slice y28A y28n y28c, .int .i64 0]) h27))))))))))))))))))
set_option maxRecDepth 10000 in
set_option maxHeartbeats 4000000 in
theorem D_disk_Disk_Read.sound {R : Value → Hp → Prop} {d : Option Addr} {name : ByteArray} {h : Hp} (H : D_disk_Disk_Read R  d name h) : CH Tryz.prog 18 #[.pointer d, .string name] h R := by
  refine CHE.enter (n := 48) Tryz.func18 rfl rfl (Nat.le_of_ble_eq_true rfl) ?_
  unfold D_disk_Disk_Read at H
  refine VC.seq ?_
  refine VC.region ?_
  refine VL.stepD rfl rfl (by decide) (OE.assignV (v := .slice none 0 0) rfl ?_)
  refine VL.stepD rfl rfl (by decide) (OE.assignV (v := .int .i64 0) rfl ?_)
  refine VL.nil ?_
  change VC _ _ _ _ _ _ _
  refine VC.seq ?_
  refine VC.seq ?_
  refine VC.region ?_
  refine VL.stepD rfl rfl (by decide) (OE.moveV (v := .pointer d) rfl ?_)
  refine VL.stepD rfl rfl (by decide) (OE.ptrNilV (b := (Option.isNone d)) (p := d) (q := none) rfl rfl Tryz.underlying24 (.inr rfl) (by simp) ?_)
  refine VL.nil ?_
  change VC _ _ _ _ _ _ _
  refine VC.cond (t := (Option.isNone d)) rfl (fun e1 => ?_) (fun e1 => ?_)
  · have H := H.1 e1
    refine VC.seq ?_
    refine VC.region ?_
    refine VL.stepD rfl rfl (by decide) (OE.assignV (v := .slice none 0 0) rfl ?_)
    refine VL.stepD rfl rfl (by decide) (OE.assignV (v := .int .i64 1) rfl ?_)
    refine VL.nil ?_
    change VC _ _ _ _ _ _ _
    refine VC.ret ?_
    exact ⟨rfl, _, ResOK.t2 rfl (v0 := .slice none 0 0) (v1 := .int .i64 1) rfl rfl, H⟩
  · have H := H.2 e1
    refine VC.skip ?_
    change VC _ _ _ _ _ _ _
    refine VC.seq ?_
    refine VC.seq ?_
    refine VC.region ?_
    refine VL.stepD rfl rfl (by decide) (OE.moveV (v := .pointer d) rfl ?_)
    obtain ⟨a2, e3, H⟩ := H
    refine VL.stepD rfl rfl (by decide) (OE.nilCheck (a := a2) (congrArg Value.pointer e3) ?_)
    refine VL.stepD rfl rfl (by decide) (OE.fieldAddrI (a := a2) (o := 10) rfl Tryz.underlying104 rfl Tryz.i4 (by decide) rfl ?_)
    obtain ⟨x4, hl5, H⟩ := H
    refine VL.stepD rfl rfl (by decide) (OE.load (a := (a2.add 10)) (v := .bool x4) rfl (LdT.one Tryz.underlying4 rfl hl5) ?_)
    refine VL.nil ?_
    change VC _ _ _ _ _ _ _
    refine VC.cond (t := x4) rfl (fun e6 => ?_) (fun e6 => ?_)
    · have H := H.1 e6
      refine VC.seq ?_
      refine VC.region ?_
      refine VL.stepD rfl rfl (by decide) (OE.assignV (v := .slice none 0 0) rfl ?_)
      refine VL.stepD rfl rfl (by decide) (OE.assignV (v := .int .i64 11) rfl ?_)
      refine VL.nil ?_
      change VC _ _ _ _ _ _ _
      refine VC.ret ?_
      exact ⟨rfl, _, ResOK.t2 rfl (v0 := .slice none 0 0) (v1 := .int .i64 11) rfl rfl, H⟩
    · have H := H.2 e6
      refine VC.skip ?_
      change VC _ _ _ _ _ _ _
      refine VC.seq ?_
      refine VC.region ?_
      refine VL.stepD rfl rfl (by decide) (OE.moveV (v := .pointer d) rfl ?_)
      refine VL.stepD rfl rfl (by decide) (OE.moveV (v := .string name) rfl ?_)
      refine VL.stepD rfl rfl (by decide) (OE.callL (args := [.pointer d, .string name]) Tryz.func41 rfl Tryz.nn41 rfl rfl (CHE.mono H (fun r7 h8 H => ?_) (fun _ _ e => e.elim)))
      obtain ⟨y9_0, y9_1, rfl, H⟩ := H
      refine VL.stepD rfl rfl (by decide) (OE.moveV (v := .tuple #[.pointer y9_0, .int .i64 y9_1]) rfl ?_)
      refine VL.stepD rfl rfl (by decide) (OE.extract (v := .pointer y9_0) rfl rfl ?_)
      refine VL.stepD rfl rfl (by decide) (OE.extract (v := .int .i64 y9_1) rfl rfl ?_)
      refine VL.stepD rfl rfl (by decide) (OE.assignV (v := .pointer y9_0) rfl ?_)
      refine VL.stepD rfl rfl (by decide) (OE.assignV (v := .int .i64 y9_1) rfl ?_)
      refine VL.nil ?_
      change VC _ _ _ _ _ _ _
      refine VC.seq ?_
      refine VC.seq ?_
      refine VC.region ?_
      refine VL.stepD rfl rfl (by decide) (OE.moveV (v := .int .i64 y9_1) rfl ?_)
      refine VL.stepD rfl rfl (by decide) (OE.binI (v := .bool (y9_1 != 0)) rfl rfl rfl ?_)
      refine VL.nil ?_
      change VC _ _ _ _ _ _ _
      refine VC.cond (t := (y9_1 != 0)) rfl (fun e10 => ?_) (fun e10 => ?_)
      · have H := H.1 e10
        refine VC.seq ?_
        refine VC.region ?_
        refine VL.stepD rfl rfl (by decide) (OE.moveV (v := .int .i64 y9_1) rfl ?_)
        refine VL.stepD rfl rfl (by decide) (OE.assignV (v := .slice none 0 0) rfl ?_)
        refine VL.stepD rfl rfl (by decide) (OE.assignV (v := .int .i64 y9_1) rfl ?_)
        refine VL.nil ?_
        change VC _ _ _ _ _ _ _
        refine VC.ret ?_
        exact ⟨rfl, _, ResOK.t2 rfl (v0 := .slice none 0 0) (v1 := .int .i64 y9_1) rfl rfl, H⟩
      · have H := H.2 e10
        refine VC.skip ?_
        change VC _ _ _ _ _ _ _
        refine VC.seq ?_
        refine VC.region ?_
        refine VL.stepD rfl rfl (by decide) (OE.moveV (v := .pointer d) rfl ?_)
        refine VL.stepD rfl rfl (by decide) (OE.nilCheck (a := a2) (congrArg Value.pointer e3) ?_)
        refine VL.stepD rfl rfl (by decide) (OE.fieldAddrI (a := a2) (o := 9) rfl Tryz.underlying104 rfl Tryz.i3 (by decide) rfl ?_)
        obtain ⟨x11, hl12, H⟩ := H
        refine VL.stepD rfl rfl (by decide) (OE.load (a := (a2.add 9)) (v := .int .i64 x11) rfl (LdT.one Tryz.underlying3 rfl hl12) ?_)
        refine VL.stepD rfl rfl (by decide) (OE.binI (v := .int .i64 (IntKind.i64.wrap (x11 + 1))) rfl rfl rfl ?_)
        refine VL.stepD rfl rfl (by decide) (OE.nilCheck (a := a2) (congrArg Value.pointer e3) ?_)
        refine VL.stepD rfl rfl (by decide) (OE.fieldAddrI (a := a2) (o := 9) rfl Tryz.underlying104 rfl Tryz.i3 (by decide) rfl ?_)
        obtain ⟨hw14, H⟩ := H
        obtain ⟨h13, eh32⟩ : ∃ h13, h13 = setc h8 (a2.add 9) (.int .i64 (IntKind.i64.wrap (x11 + 1))) := ⟨_, rfl⟩
        have H := H h13 eh32
        refine VL.stepN rfl rfl (OE.storeE (a := (a2.add 9)) (v := .int .i64 (IntKind.i64.wrap (x11 + 1))) rfl rfl (StT.oneI Tryz.i3 hw14 rfl) eh32 ?_)
        refine VL.nil ?_
        change VC _ _ _ _ _ _ _
        refine VC.seq ?_
        refine VC.seq ?_
        refine VC.drawsS Tryz.mixed (by kernel_rfl) (by kernel_rfl) (fun st hd => ?_)
        refine DW.still (i := 0) (v := .pointer d) (by kernel_rfl) ?_
        refine DW.still (i := 1) (v := .pointer d) (by kernel_rfl) ?_
        refine DW.still (i := 2) (v := .pointer (some a2)) (by kernel_rfl) ?_
        refine DW.still (i := 3) (v := .pointer (some (a2.add 6))) (by kernel_rfl) ?_
        refine DW.still (i := 4) (v := .pointer (some ((a2.add 6).add 1))) (by kernel_rfl) ?_
        obtain ⟨x15A, x15n, x15c, hl16, H⟩ := H
        refine DW.still (i := 5) (v := .slice x15A x15n x15c) (by kernel_rfl) ?_
        refine DW.still (i := 6) (v := .pointer d) (by kernel_rfl) ?_
        refine DW.still (i := 7) (v := .pointer (some a2)) (by kernel_rfl) ?_
        refine DW.still (i := 8) (v := .pointer (some (a2.add 9))) (by kernel_rfl) ?_
        obtain ⟨x17, hl18, H⟩ := H
        refine DW.still (i := 9) (v := .int .i64 x17) (by kernel_rfl) ?_
        refine DW.loudF (fr (fun _ => undef) [(36, (.slice x15A x15n x15c : Value)), (40, (.int .i64 x17 : Value))]) st hd (i := 10) rfl (by kernel_rfl) (.inl rfl) (by kernel_rfl) ⟨.inr (YD.u (fr (fun _ => undef) [(39, (.pointer (some (a2.add 9)) : Value))]) st rfl rfl (by kernel_rfl) (OE.load (a := (a2.add 9)) (v := .int .i64 x17) rfl (LdT.one Tryz.underlying3 rfl hl18) ⟨rfl, rfl⟩)), .inr (YD.u (fr (fun _ => undef) [(38, (.pointer (some a2) : Value))]) st rfl rfl (by kernel_rfl) (OE.fieldAddrI (a := a2) (o := 9) rfl Tryz.underlying104 rfl Tryz.i3 (by decide) rfl ⟨rfl, rfl⟩)), .inr (YD.u (fr (fun _ => undef) [(37, (.pointer d : Value))]) st rfl rfl (by kernel_rfl) (OE.nilCheck (a := a2) (congrArg Value.pointer e3) ⟨rfl, rfl⟩)), .inr (YD.u (fr (fun _ => undef) [(0, (.pointer d : Value))]) st rfl rfl (by kernel_rfl) (OE.moveV (v := .pointer d) rfl ⟨rfl, rfl⟩)), .inr (YD.u (fr (fun _ => undef) [(35, (.pointer (some ((a2.add 6).add 1)) : Value))]) st rfl rfl (by kernel_rfl) (OE.load (a := ((a2.add 6).add 1)) (v := .slice x15A x15n x15c) rfl (LdT.one Tryz.underlying34 rfl hl16) ⟨rfl, rfl⟩)), .inr (YD.u (fr (fun _ => undef) [(34, (.pointer (some (a2.add 6)) : Value))]) st rfl rfl (by kernel_rfl) (OE.fieldAddrI (a := (a2.add 6)) (o := 1) rfl Tryz.underlying36 rfl Tryz.i34 (by decide) rfl ⟨rfl, rfl⟩)), .inr (YD.u (fr (fun _ => undef) [(33, (.pointer (some a2) : Value))]) st rfl rfl (by kernel_rfl) (OE.fieldAddrI (a := a2) (o := 6) rfl Tryz.underlying104 rfl Tryz.i36 (by decide) rfl ⟨rfl, rfl⟩)), .inr (YD.u (fr (fun _ => undef) [(32, (.pointer d : Value))]) st rfl rfl (by kernel_rfl) (OE.nilCheck (a := a2) (congrArg Value.pointer e3) ⟨rfl, rfl⟩)), .inr (YD.u (fr (fun _ => undef) [(0, (.pointer d : Value))]) st rfl rfl (by kernel_rfl) (OE.moveV (v := .pointer d) rfl ⟨rfl, rfl⟩)), .inr (YD.u (fr (fun _ => undef) [(0, (.pointer d : Value))]) st rfl rfl (by kernel_rfl) (OE.moveV (v := .pointer d) rfl ⟨rfl, rfl⟩)), trivial⟩ (OE.callL (args := [.slice x15A x15n x15c, .int .i64 x17]) Tryz.func64 rfl Tryz.nn64 rfl rfl (CHE.mono H (fun r19 h20 H => ?_) (fun _ _ e => e.elim)))
        obtain ⟨y21, rfl, H⟩ := H
        refine DW.loudF (fr (fun _ => undef) [(31, (.pointer d : Value)), (41, (.int .i64 y21 : Value))]) st hd (i := 11) rfl (by kernel_rfl) (.inl rfl) (by kernel_rfl) ⟨.inl (by kernel_rfl), .inl (by kernel_rfl), .inl (by kernel_rfl), .inl (by kernel_rfl), .inl (by kernel_rfl), .inl (by kernel_rfl), .inl (by kernel_rfl), .inl (by kernel_rfl), .inl (by kernel_rfl), .inl (by kernel_rfl), .inr (YD.u (fr (fun _ => undef) [(0, (.pointer d : Value))]) st rfl rfl (by kernel_rfl) (OE.moveV (v := .pointer d) rfl ⟨rfl, rfl⟩)), trivial⟩ (OE.callL (args := [.pointer d, .int .i64 y21]) Tryz.func63 rfl Tryz.nn63 rfl rfl (CHE.mono H (fun r22 h23 H => ?_) (fun _ _ e => e.elim)))
        obtain ⟨y24, rfl, H⟩ := H
        refine DW.still (i := 12) (v := .int .i64 y24) (by kernel_rfl) ?_
        refine DW.finL st hd [(31, (.pointer d : Value)), (32, (.pointer d : Value)), (33, (.pointer (some a2) : Value)), (34, (.pointer (some (a2.add 6)) : Value)), (35, (.pointer (some ((a2.add 6).add 1)) : Value)), (36, (.slice x15A x15n x15c : Value)), (37, (.pointer d : Value)), (38, (.pointer (some a2) : Value)), (39, (.pointer (some (a2.add 9)) : Value)), (40, (.int .i64 x17 : Value)), (41, (.int .i64 y21 : Value)), (42, (.int .i64 y24 : Value)), (8, (.int .i64 y24 : Value))] (by kernel_rfl) (by kernel_rfl) ⟨.inr (YD.u (fr (fun _ => undef) [(42, (.int .i64 y24 : Value))]) st rfl rfl (by kernel_rfl) (OE.assignV (v := .int .i64 y24) rfl ⟨rfl, rfl⟩)), .inl (by kernel_rfl), .inl (by kernel_rfl), .inl (by kernel_rfl), .inl (by kernel_rfl), .inl (by kernel_rfl), .inl (by kernel_rfl), .inl (by kernel_rfl), .inl (by kernel_rfl), .inl (by kernel_rfl), .inl (by kernel_rfl), .inl (by kernel_rfl), .inl (by kernel_rfl), trivial⟩ ?_
        change VC _ _ _ _ _ _ _
        refine VC.seq ?_
        refine VC.region ?_
        refine VL.stepD rfl rfl (by decide) (OE.moveV (v := .int .i64 y24) rfl ?_)
        refine VL.stepD rfl rfl (by decide) (OE.binI (v := .bool (y24 != 0)) rfl rfl rfl ?_)
        refine VL.nil ?_
        change VC _ _ _ _ _ _ _
        refine VC.cond (t := (y24 != 0)) rfl (fun e25 => ?_) (fun e25 => ?_)
        · have H := H.1 e25
          refine VC.seq ?_
          refine VC.region ?_
          refine VL.stepD rfl rfl (by decide) (OE.moveV (v := .int .i64 y24) rfl ?_)
          refine VL.stepD rfl rfl (by decide) (OE.assignV (v := .slice none 0 0) rfl ?_)
          refine VL.stepD rfl rfl (by decide) (OE.assignV (v := .int .i64 y24) rfl ?_)
          refine VL.nil ?_
          change VC _ _ _ _ _ _ _
          refine VC.ret ?_
          exact ⟨rfl, _, ResOK.t2 rfl (v0 := .slice none 0 0) (v1 := .int .i64 y24) rfl rfl, H⟩
        · have H := H.2 e25
          refine VC.skip ?_
          change VC _ _ _ _ _ _ _
          refine VC.seq ?_
          refine VC.region ?_
          refine VL.stepD rfl rfl (by decide) (OE.moveV (v := .pointer y9_0) rfl ?_)
          refine VL.stepD rfl rfl (by decide) (OE.callL (args := [.pointer y9_0]) Tryz.func54 rfl Tryz.nn54 rfl rfl (CHE.mono H (fun r26 h27 H => ?_) (fun _ _ e => e.elim)))
          obtain ⟨y28A, y28n, y28c, rfl, H⟩ := H
          refine VL.stepD rfl rfl (by decide) (OE.assignV (v := .slice y28A y28n y28c) rfl ?_)
          refine VL.stepD rfl rfl (by decide) (OE.assignV (v := .int .i64 0) rfl ?_)
          refine VL.nil ?_
          change VC _ _ _ _ _ _ _
          refine VC.ret ?_
          exact ⟨rfl, _, ResOK.t2 rfl (v0 := .slice y28A y28n y28c) (v1 := .int .i64 0) rfl rfl, H⟩


def D_disk_Disk_Pending.J1 (R : Value → Hp → Prop)  (d : Option Addr) (j2A : Option Addr) (j2n : Nat) (j2c : Nat) (h3 : Hp) : Prop :=
  (∃ a4 : Addr, d = some a4 ∧ (∃ x6A : Option Addr, ∃ x6n : Nat, ∃ x6c : Nat, cell h3 (a4.add 5) = some (.slice x6A x6n x6c) ∧ R (.tuple #[.int .i64 ((x6n : Nat) : Int), .slice j2A j2n j2c]) h3))
def D_disk_Disk_Pending.L2 (R : Value → Hp → Prop)  (d : Option Addr) (y10A : Option Addr) (y10n : Nat) (C14 : Option Addr → Nat → Nat → Int → Hp → Prop) (j11A : Option Addr) (j11n : Nat) (j11c : Nat) (j12 : Int) (h13 : Hp) : Prop :=
  (((decide (j12 < ((y10n : Nat) : Int))) = true → (∃ a16 : Addr, y10A = some a16 ∧ (0 : Int) ≤ j12 ∧ j12 < (y10n : Int) ∧ (∃ x20 : Int, cell h13 (a16.add (Int.toNat j12 * 1)) = some (.int .i64 x20) ∧ (∃ a22 : Addr, d = some a22 ∧ (∃ x24 : Option Nat, cell h13 (a22.add 3) = some (.map x24) ∧ (∃ x26 : Option Addr, MLk Tryz.prog 100 h13 (.map x24) (.int .i64 x20) false (.pointer x26) ∧ (∃ a28 : Addr, x26 = some a28 ∧ (∃ x30A : Option Addr, ∃ x30n : Nat, ∃ x30c : Nat, cell h13 (a28.add 1) = some (.slice x30A x30n x30c) ∧ (∀ b33 h32, b33 = Array.size h13 → h32 = Array.push h13 (.cells #[.int .i64 ((x30n : Nat) : Int)] 3) → (∃ vs34 : List Value, Src h32 (1 * 1) vs34 (some (Addr.mk b33 0 none)) ∧ (∀ v ∈ vs34, oneC v = true) ∧ (j11n + 1) * 8 ≤ 140737488355328 ∧ j11n + 1 ≤ 9223372036854775807 ∧ AppendV 3 (.int .i64 0 : Value) 1 h32 j11A j11n j11c 1 vs34 (fun A39 n40 c41 h42 => C14 A39 n40 c41 (IntKind.i64.wrap (j12 + 1)) h42))))))))))) ∧ ((decide (j12 < ((y10n : Nat) : Int))) = false → D_disk_Disk_Pending.J1 R  d j11A j11n j11c h13))
def D_disk_Disk_Pending (R : Value → Hp → Prop) (d : Option Addr) (h : Hp) : Prop :=
  (((Option.isNone d) = true → R (.tuple #[.int .i64 0, .slice none 0 0]) h) ∧ ((Option.isNone d) = false → CH Tryz.prog 43 #[.pointer d] h (fun r8 h9 => ∃ y10A : Option Addr, ∃ y10n : Nat, ∃ y10c : Nat, r8 = .slice y10A y10n y10c ∧ (∃ Inv : Option Addr → Nat → Nat → Int → Hp → Nat → Prop, (∃ m, Inv none 0 0 0 h9 m) ∧ ∀ j11A j11n j11c j12 h13 m, Inv j11A j11n j11c j12 h13 m → D_disk_Disk_Pending.L2 R  d y10A y10n (fun j11A j11n j11c j12 h13 => ∃ m1, m1 < m ∧ Inv j11A j11n j11c j12 h13 m1) j11A j11n j11c j12 h13))))
set_option maxRecDepth 10000 in
set_option maxHeartbeats 4000000 in
theorem D_disk_Disk_Pending.sound {R : Value → Hp → Prop} {d : Option Addr} {h : Hp} (H : D_disk_Disk_Pending R  d h) : CH Tryz.prog 21 #[.pointer d] h R := by
  refine CHE.enter (n := 35) Tryz.func21 rfl rfl (Nat.le_of_ble_eq_true rfl) ?_
  unfold D_disk_Disk_Pending at H
  refine VC.seq ?_
  refine VC.region ?_
  refine VL.stepD rfl rfl (by decide) (OE.assignV (v := .int .i64 0) rfl ?_)
  refine VL.stepD rfl rfl (by decide) (OE.assignV (v := .slice none 0 0) rfl ?_)
  refine VL.nil ?_
  change VC _ _ _ _ _ _ _
  refine VC.seq ?_
  refine VC.seq ?_
  refine VC.region ?_
  refine VL.stepD rfl rfl (by decide) (OE.moveV (v := .pointer d) rfl ?_)
  refine VL.stepD rfl rfl (by decide) (OE.ptrNilV (b := (Option.isNone d)) (p := d) (q := none) rfl rfl Tryz.underlying24 (.inr rfl) (by simp) ?_)
  refine VL.nil ?_
  change VC _ _ _ _ _ _ _
  refine VC.cond (t := (Option.isNone d)) rfl (fun e1 => ?_) (fun e1 => ?_)
  · have H := H.1 e1
    refine VC.seq ?_
    refine VC.region ?_
    refine VL.stepD rfl rfl (by decide) (OE.assignV (v := .int .i64 0) rfl ?_)
    refine VL.stepD rfl rfl (by decide) (OE.assignV (v := .slice none 0 0) rfl ?_)
    refine VL.nil ?_
    change VC _ _ _ _ _ _ _
    refine VC.ret ?_
    exact ⟨rfl, _, ResOK.t2 rfl (v0 := .int .i64 0) (v1 := .slice none 0 0) rfl rfl, H⟩
  · have H := H.2 e1
    refine VC.skip ?_
    change VC _ _ _ _ _ _ _
    refine VC.seqJ (fun f h3 => ∃ j2A : Option Addr, ∃ j2n : Nat, ∃ j2c : Nat, f 0 = (.pointer d : Value) ∧ f 3 = (.slice j2A j2n j2c : Value) ∧ D_disk_Disk_Pending.J1 R  d j2A j2n j2c h3) ?_ ?_
    · intro f h3 J
      obtain ⟨j2A, j2n, j2c, hk0, hk3, H⟩ := J
      rw [← fr_self f [(0, .pointer d), (3, .slice j2A j2n j2c)] (by simp only [List.mem_cons, List.not_mem_nil, or_false]; rintro p (rfl | rfl) <;> assumption)]
      unfold D_disk_Disk_Pending.J1 at H
      refine VC.seq ?_
      refine VC.region ?_
      refine VL.stepD rfl rfl (by decide) (OE.moveV (v := .pointer d) rfl ?_)
      obtain ⟨a4, e5, H⟩ := H
      refine VL.stepD rfl rfl (by decide) (OE.nilCheck (a := a4) (congrArg Value.pointer e5) ?_)
      refine VL.stepD rfl rfl (by decide) (OE.fieldAddrI (a := a4) (o := 5) rfl Tryz.underlying104 rfl Tryz.i102 (by decide) rfl ?_)
      obtain ⟨x6A, x6n, x6c, hl7, H⟩ := H
      refine VL.stepD rfl rfl (by decide) (OE.load (a := (a4.add 5)) (v := .slice x6A x6n x6c) rfl (LdT.one Tryz.underlying102 rfl hl7) ?_)
      refine VL.stepD rfl rfl (by decide) (OE.lenSlice rfl Tryz.underlying102 ?_)
      refine VL.stepD rfl rfl (by decide) (OE.moveV (v := .slice j2A j2n j2c) rfl ?_)
      refine VL.stepD rfl rfl (by decide) (OE.assignV (v := .int .i64 ((x6n : Nat) : Int)) rfl ?_)
      refine VL.stepD rfl rfl (by decide) (OE.assignV (v := .slice j2A j2n j2c) rfl ?_)
      refine VL.nil ?_
      change VC _ _ _ _ _ _ _
      refine VC.ret ?_
      exact ⟨rfl, _, ResOK.t2 rfl (v0 := .int .i64 ((x6n : Nat) : Int)) (v1 := .slice j2A j2n j2c) rfl rfl, H⟩
    · skip
      refine VC.seq ?_
      refine VC.region ?_
      refine VL.stepD rfl rfl (by decide) (OE.moveV (v := .pointer d) rfl ?_)
      refine VL.stepD rfl rfl (by decide) (OE.callL (args := [.pointer d]) Tryz.func43 rfl Tryz.nn43 rfl rfl (CHE.mono H (fun r8 h9 H => ?_) (fun _ _ e => e.elim)))
      obtain ⟨y10A, y10n, y10c, rfl, H⟩ := H
      refine VL.stepD rfl rfl (by decide) (OE.lenSlice rfl Tryz.underlying44 ?_)
      refine VL.stepD rfl rfl (by decide) (OE.moveV (v := .int .i64 0) rfl ?_)
      refine VL.nil ?_
      change VC _ _ _ _ _ _ _
      refine VC.block ?_
      obtain ⟨Inv, ⟨m0, h0⟩, H⟩ := H
      refine VC.loop (fun ds f h13 m => ds = [] ∧ ∃ j11A : Option Addr, ∃ j11n : Nat, ∃ j11c : Nat, ∃ j12 : Int, f 0 = (.pointer d : Value) ∧ f 3 = (.slice j11A j11n j11c : Value) ∧ f 9 = (.slice y10A y10n y10c : Value) ∧ f 10 = (.int .i64 ((y10n : Nat) : Int) : Value) ∧ f 11 = (.int .i64 j12 : Value) ∧ Inv j11A j11n j11c j12 h13 m) (m0 := m0) ⟨rfl, none, 0, 0, 0, rfl, rfl, rfl, rfl, rfl, h0⟩ ?_
      intro ds f h13 m I
      obtain ⟨rfl, j11A, j11n, j11c, j12, hk0, hk3, hk9, hk10, hk11, I⟩ := I
      rw [← fr_self f [(0, .pointer d), (3, .slice j11A j11n j11c), (9, .slice y10A y10n y10c), (10, .int .i64 ((y10n : Nat) : Int)), (11, .int .i64 j12)] (by simp only [List.mem_cons, List.not_mem_nil, or_false]; rintro p (rfl | rfl | rfl | rfl | rfl) <;> assumption)]
      obtain ⟨C14, eC14⟩ : ∃ C14 : Option Addr → Nat → Nat → Int → Hp → Prop, C14 = (fun j11A j11n j11c j12 h13 => ∃ m1, m1 < m ∧ Inv j11A j11n j11c j12 h13 m1) := ⟨_, rfl⟩
      have H : D_disk_Disk_Pending.L2 R  d y10A y10n C14 j11A j11n j11c j12 h13 := by rw [eC14]; exact H j11A j11n j11c j12 h13 m I
      unfold D_disk_Disk_Pending.L2 at H
      refine VC.seq ?_
      refine VC.region ?_
      refine VL.stepD rfl rfl (by decide) (OE.binI (v := .bool (decide (j12 < ((y10n : Nat) : Int)))) rfl rfl rfl ?_)
      refine VL.nil ?_
      change VC _ _ _ _ _ _ _
      refine VC.seq ?_
      refine VC.cond (t := (decide (j12 < ((y10n : Nat) : Int)))) rfl (fun e15 => ?_) (fun e15 => ?_)
      · have H := H.1 e15
        refine VC.skip ?_
        change VC _ _ _ _ _ _ _
        refine VC.seq ?_
        refine VC.block ?_
        refine VC.seq ?_
        refine VC.region ?_
        obtain ⟨a16, e17, z18, z19, H⟩ := H
        refine VL.stepD rfl rfl (by decide) (OE.indexAddrI (sz := 1) rfl rfl Tryz.underlying44 Tryz.i3 e17 z18 z19 ?_)
        obtain ⟨x20, hl21, H⟩ := H
        refine VL.stepD rfl rfl (by decide) (OE.load (a := (a16.add (Int.toNat j12 * 1))) (v := .int .i64 x20) rfl (LdT.one Tryz.underlying3 rfl hl21) ?_)
        refine VL.stepD rfl rfl (by decide) (OE.assignV (v := .int .i64 x20) rfl ?_)
        refine VL.nil ?_
        change VC _ _ _ _ _ _ _
        refine VC.region ?_
        refine VL.stepD rfl rfl (by decide) (OE.moveV (v := .slice j11A j11n j11c) rfl ?_)
        refine VL.stepD rfl rfl (by decide) (OE.moveV (v := .pointer d) rfl ?_)
        obtain ⟨a22, e23, H⟩ := H
        refine VL.stepD rfl rfl (by decide) (OE.nilCheck (a := a22) (congrArg Value.pointer e23) ?_)
        refine VL.stepD rfl rfl (by decide) (OE.fieldAddrI (a := a22) (o := 3) rfl Tryz.underlying104 rfl Tryz.i100 (by decide) rfl ?_)
        obtain ⟨x24, hl25, H⟩ := H
        refine VL.stepD rfl rfl (by decide) (OE.load (a := (a22.add 3)) (v := .map x24) rfl (LdT.one Tryz.underlying100 rfl hl25) ?_)
        refine VL.stepD rfl rfl (by decide) (OE.moveV (v := .int .i64 x20) rfl ?_)
        obtain ⟨x26, hl27, H⟩ := H
        refine VL.stepD rfl rfl (by decide) (OE.lookup (m := .map x24) (k := .int .i64 x20) rfl rfl hl27 ?_)
        obtain ⟨a28, e29, H⟩ := H
        refine VL.stepD rfl rfl (by decide) (OE.nilCheck (a := a28) (congrArg Value.pointer e29) ?_)
        refine VL.stepD rfl rfl (by decide) (OE.fieldAddrI (a := a28) (o := 1) rfl Tryz.underlying111 rfl Tryz.i109 (by decide) rfl ?_)
        obtain ⟨x30A, x30n, x30c, hl31, H⟩ := H
        refine VL.stepD rfl rfl (by decide) (OE.load (a := (a28.add 1)) (v := .slice x30A x30n x30c) rfl (LdT.one Tryz.underlying109 rfl hl31) ?_)
        refine VL.stepD rfl rfl (by decide) (OE.lenSlice rfl Tryz.underlying109 ?_)
        obtain ⟨b33, eb43⟩ : ∃ b33, b33 = Array.size h13 := ⟨_, rfl⟩
        obtain ⟨h32, eh44⟩ : ∃ h32, h32 = Array.push h13 (.cells #[.int .i64 ((x30n : Nat) : Int)] 3) := ⟨_, rfl⟩
        have H := H b33 h32 eb43 eh44
        refine VL.stepD rfl rfl (by decide) (OE.buildSliceE (ps := [(0, (.int .i64 ((x30n : Nat) : Int) : Value))]) (cells := #[.int .i64 ((x30n : Nat) : Int)]) (e := 3) rfl (Tryz.bf6 _) eb43 eh44 ?_)
        obtain ⟨vs34, z35, z36, z37, z38, H⟩ := H
        refine VL.stepD rfl rfl (by decide) (OE.appendV (z := (.int .i64 0 : Value)) (sz := 1) (bs := 8) rfl rfl Tryz.underlying44 Tryz.i3 z35 z36 z37 z38 (AppendV.mono H (fun A39 n40 c41 h42 H => ?_)))
        refine VL.stepD rfl rfl (by decide) (OE.assignV (v := .slice A39 n40 c41) rfl ?_)
        refine VL.nil ?_
        change VC _ _ _ _ _ _ _
        refine VC.region ?_
        refine VL.stepD rfl rfl (by decide) (OE.binI (v := .int .i64 (IntKind.i64.wrap (j12 + 1))) rfl rfl rfl ?_)
        refine VL.stepD rfl rfl (by decide) (OE.moveV (v := .int .i64 (IntKind.i64.wrap (j12 + 1))) rfl ?_)
        refine VL.nil ?_
        rw [eC14] at H
        obtain ⟨m1, hm1, H⟩ := H
        exact ⟨m1, hm1, rfl, A39, n40, c41, (IntKind.i64.wrap (j12 + 1)), rfl, rfl, rfl, rfl, rfl, H⟩
      · have H := H.2 e15
        refine VC.exit ?_
        exact ⟨rfl, j11A, j11n, j11c, rfl, rfl, H⟩

def D_disk_New.J1 (R : Value → Hp → Prop)  (room : Int) (files : Int) (j1 : Bool) (h2 : Hp) : Prop :=
  ((j1 = true → R (.tuple #[.pointer none, .int .i64 1]) h2) ∧ (j1 = false → (∀ b5 h4, b5 = Array.size h2 → h4 = Array.push h2 (.cells #[.int .i64 room, .int .i64 files, .int .i64 0, .map none, .map none, .slice none 0 0, .slice none 0 0, .slice none 0 0, .int .i64 0, .int .i64 0, .bool false] 104) → R (.tuple #[.pointer (some (Addr.mk b5 0 none)), .int .i64 0]) h4)))
def D_disk_New (R : Value → Hp → Prop) (room : Int) (files : Int) (h : Hp) : Prop :=
  (((decide (room < 0)) = true → D_disk_New.J1 R  room files true h) ∧ ((decide (room < 0)) = false → (((decide (room > 4194304)) = true → D_disk_New.J1 R  room files true h) ∧ ((decide (room > 4194304)) = false → (((decide (files < 0)) = true → D_disk_New.J1 R  room files true h) ∧ ((decide (files < 0)) = false → D_disk_New.J1 R  room files (decide (files > 512)) h))))))
set_option maxRecDepth 10000 in
set_option maxHeartbeats 4000000 in
theorem D_disk_New.sound {R : Value → Hp → Prop} {room : Int} {files : Int} {h : Hp} (H : D_disk_New R  room files h) : CH Tryz.prog 22 #[.int .i64 room, .int .i64 files] h R := by
  refine CHE.enter (n := 24) Tryz.func22 rfl rfl (Nat.le_of_ble_eq_true rfl) ?_
  unfold D_disk_New at H
  refine VC.seq ?_
  refine VC.region ?_
  refine VL.stepD rfl rfl (by decide) (OE.assignV (v := .pointer none) rfl ?_)
  refine VL.stepD rfl rfl (by decide) (OE.assignV (v := .int .i64 0) rfl ?_)
  refine VL.nil ?_
  change VC _ _ _ _ _ _ _
  refine VC.seq ?_
  refine VC.seqJ (fun f h2 => ∃ j1 : Bool, f 0 = (.int .i64 room : Value) ∧ f 1 = (.int .i64 files : Value) ∧ f 19 = (.bool j1 : Value) ∧ D_disk_New.J1 R  room files j1 h2) ?_ ?_
  · intro f h2 J
    obtain ⟨j1, hk0, hk1, hk19, H⟩ := J
    rw [← fr_self f [(0, .int .i64 room), (1, .int .i64 files), (19, .bool j1)] (by simp only [List.mem_cons, List.not_mem_nil, or_false]; rintro p (rfl | rfl | rfl) <;> assumption)]
    unfold D_disk_New.J1 at H
    refine VC.cond (t := j1) rfl (fun e3 => ?_) (fun e3 => ?_)
    · have H := H.1 e3
      refine VC.seq ?_
      refine VC.region ?_
      refine VL.stepD rfl rfl (by decide) (OE.assignV (v := .pointer none) rfl ?_)
      refine VL.stepD rfl rfl (by decide) (OE.assignV (v := .int .i64 1) rfl ?_)
      refine VL.nil ?_
      change VC _ _ _ _ _ _ _
      refine VC.ret ?_
      exact ⟨rfl, _, ResOK.t2 rfl (v0 := .pointer none) (v1 := .int .i64 1) rfl rfl, H⟩
    · have H := H.2 e3
      refine VC.skip ?_
      change VC _ _ _ _ _ _ _
      refine VC.seq ?_
      refine VC.region ?_
      refine VL.stepD rfl rfl (by decide) (OE.moveV (v := .int .i64 room) rfl ?_)
      refine VL.stepD rfl rfl (by decide) (OE.moveV (v := .int .i64 files) rfl ?_)
      refine VL.stepD rfl rfl (by decide) (OE.buildV (ps := [(0, (.int .i64 room : Value)), (1, (.int .i64 files : Value))]) rfl (Tryz.bf10 _ _) ?_)
      obtain ⟨b5, eb6⟩ : ∃ b5, b5 = Array.size h2 := ⟨_, rfl⟩
      obtain ⟨h4, eh7⟩ : ∃ h4, h4 = Array.push h2 (.cells #[.int .i64 room, .int .i64 files, .int .i64 0, .map none, .map none, .slice none 0 0, .slice none 0 0, .slice none 0 0, .int .i64 0, .int .i64 0, .bool false] 104) := ⟨_, rfl⟩
      have H := H b5 h4 eb6 eh7
      refine VL.stepD rfl rfl (by decide) (OE.boxE (v := .agg #[.int .i64 room, .int .i64 files, .int .i64 0, .map none, .map none, .slice none 0 0, .slice none 0 0, .slice none 0 0, .int .i64 0, .int .i64 0, .bool false]) rfl eb6 eh7 ?_)
      refine VL.stepD rfl rfl (by decide) (OE.assignV (v := .pointer (some (Addr.mk b5 0 none))) rfl ?_)
      refine VL.stepD rfl rfl (by decide) (OE.assignV (v := .int .i64 0) rfl ?_)
      refine VL.nil ?_
      change VC _ _ _ _ _ _ _
      refine VC.ret ?_
      exact ⟨rfl, _, ResOK.t2 rfl (v0 := .pointer (some (Addr.mk b5 0 none))) (v1 := .int .i64 0) rfl rfl, H⟩
  · skip
    refine VC.region ?_
    refine VL.stepD rfl rfl (by decide) (OE.moveV (v := .int .i64 room) rfl ?_)
    refine VL.stepD rfl rfl (by decide) (OE.binI (v := .bool (decide (room < 0))) rfl rfl rfl ?_)
    refine VL.stepD rfl rfl (by decide) (OE.moveV (v := .bool (decide (room < 0))) rfl ?_)
    refine boolSplit ((decide (room < 0))) (fun e8 => ?_) (fun e8 => ?_)
    · have H := H.1 e8
      refine VL.gskipD rfl rfl (by decide) (.inl (congrArg Value.bool e8)) rfl (by decide) ?_
      refine VL.gskipD rfl rfl (by decide) (.inl (congrArg Value.bool e8)) rfl (by decide) ?_
      refine VL.stepD rfl rfl (by decide) (OE.pickV (t := true) (v := .bool true) (congrArg Value.bool e8) rfl ?_)
      refine VL.stepD rfl rfl (by decide) (OE.moveV (v := .bool true) rfl ?_)
      refine VL.gskipD rfl rfl (by decide) (.inl rfl) rfl (by decide) ?_
      refine VL.gskipD rfl rfl (by decide) (.inl rfl) rfl (by decide) ?_
      refine VL.stepD rfl rfl (by decide) (OE.pickV (t := true) (v := .bool true) rfl rfl ?_)
      refine VL.stepD rfl rfl (by decide) (OE.moveV (v := .bool true) rfl ?_)
      refine VL.gskipD rfl rfl (by decide) (.inl rfl) rfl (by decide) ?_
      refine VL.gskipD rfl rfl (by decide) (.inl rfl) rfl (by decide) ?_
      refine VL.stepD rfl rfl (by decide) (OE.pickV (t := true) (v := .bool true) rfl rfl ?_)
      refine VL.nil ?_
      exact ⟨rfl, true, rfl, rfl, rfl, H⟩
    · have H := H.2 e8
      refine VL.gstepD rfl rfl (by decide) (congrArg Value.bool e8) rfl (by decide) (OE.moveV (v := .int .i64 room) rfl ?_)
      refine VL.gstepD rfl rfl (by decide) (congrArg Value.bool e8) rfl (by decide) (OE.binI (v := .bool (decide (room > 4194304))) rfl rfl rfl ?_)
      refine VL.stepD rfl rfl (by decide) (OE.pickV (t := false) (v := .bool (decide (room > 4194304))) (congrArg Value.bool e8) rfl ?_)
      refine VL.stepD rfl rfl (by decide) (OE.moveV (v := .bool (decide (room > 4194304))) rfl ?_)
      refine boolSplit ((decide (room > 4194304))) (fun e9 => ?_) (fun e9 => ?_)
      · have H := H.1 e9
        refine VL.gskipD rfl rfl (by decide) (.inl (congrArg Value.bool e9)) rfl (by decide) ?_
        refine VL.gskipD rfl rfl (by decide) (.inl (congrArg Value.bool e9)) rfl (by decide) ?_
        refine VL.stepD rfl rfl (by decide) (OE.pickV (t := true) (v := .bool true) (congrArg Value.bool e9) rfl ?_)
        refine VL.stepD rfl rfl (by decide) (OE.moveV (v := .bool true) rfl ?_)
        refine VL.gskipD rfl rfl (by decide) (.inl rfl) rfl (by decide) ?_
        refine VL.gskipD rfl rfl (by decide) (.inl rfl) rfl (by decide) ?_
        refine VL.stepD rfl rfl (by decide) (OE.pickV (t := true) (v := .bool true) rfl rfl ?_)
        refine VL.nil ?_
        exact ⟨rfl, true, rfl, rfl, rfl, H⟩
      · have H := H.2 e9
        refine VL.gstepD rfl rfl (by decide) (congrArg Value.bool e9) rfl (by decide) (OE.moveV (v := .int .i64 files) rfl ?_)
        refine VL.gstepD rfl rfl (by decide) (congrArg Value.bool e9) rfl (by decide) (OE.binI (v := .bool (decide (files < 0))) rfl rfl rfl ?_)
        refine VL.stepD rfl rfl (by decide) (OE.pickV (t := false) (v := .bool (decide (files < 0))) (congrArg Value.bool e9) rfl ?_)
        refine VL.stepD rfl rfl (by decide) (OE.moveV (v := .bool (decide (files < 0))) rfl ?_)
        refine boolSplit ((decide (files < 0))) (fun e10 => ?_) (fun e10 => ?_)
        · have H := H.1 e10
          refine VL.gskipD rfl rfl (by decide) (.inl (congrArg Value.bool e10)) rfl (by decide) ?_
          refine VL.gskipD rfl rfl (by decide) (.inl (congrArg Value.bool e10)) rfl (by decide) ?_
          refine VL.stepD rfl rfl (by decide) (OE.pickV (t := true) (v := .bool true) (congrArg Value.bool e10) rfl ?_)
          refine VL.nil ?_
          exact ⟨rfl, true, rfl, rfl, rfl, H⟩
        · have H := H.2 e10
          refine VL.gstepD rfl rfl (by decide) (congrArg Value.bool e10) rfl (by decide) (OE.moveV (v := .int .i64 files) rfl ?_)
          refine VL.gstepD rfl rfl (by decide) (congrArg Value.bool e10) rfl (by decide) (OE.binI (v := .bool (decide (files > 512))) rfl rfl rfl ?_)
          refine VL.stepD rfl rfl (by decide) (OE.pickV (t := false) (v := .bool (decide (files > 512))) (congrArg Value.bool e10) rfl ?_)
          refine VL.nil ?_
          exact ⟨rfl, (decide (files > 512)), rfl, rfl, rfl, H⟩

def D_disk_Disk_List (R : Value → Hp → Prop) (d : Option Addr) (h : Hp) : Prop :=
  (((Option.isNone d) = true → R (.tuple #[.slice none 0 0, .int .i64 1]) h) ∧ ((Option.isNone d) = false → (∃ a2 : Addr, d = some a2 ∧ (∃ x4 : Bool, cell h (a2.add 10) = some (.bool x4) ∧ ((x4 = true → R (.tuple #[.slice none 0 0, .int .i64 11]) h) ∧ (x4 = false → CH Tryz.prog 59 #[.pointer d] h (fun r7 h8 => ∃ y9 : Option Nat, r7 = .map y9 ∧ CH Tryz.prog 85 #[.map y9] h8 (fun r10 h11 => CH Tryz.prog 84 #[r10] h11 (fun r13 h14 => ∃ y15A : Option Addr, ∃ y15n : Nat, ∃ y15c : Nat, r13 = .slice y15A y15n y15c ∧ R (.tuple #[.slice y15A y15n y15c, .int .i64 0]) h14)))))))))
set_option maxRecDepth 10000 in
set_option maxHeartbeats 4000000 in
theorem D_disk_Disk_List.sound {R : Value → Hp → Prop} {d : Option Addr} {h : Hp} (H : D_disk_Disk_List R  d h) : CH Tryz.prog 26 #[.pointer d] h R := by
  refine CHE.enter (n := 14) Tryz.func26 rfl rfl (Nat.le_of_ble_eq_true rfl) ?_
  unfold D_disk_Disk_List at H
  refine VC.seq ?_
  refine VC.region ?_
  refine VL.stepD rfl rfl (by decide) (OE.assignV (v := .slice none 0 0) rfl ?_)
  refine VL.stepD rfl rfl (by decide) (OE.assignV (v := .int .i64 0) rfl ?_)
  refine VL.nil ?_
  change VC _ _ _ _ _ _ _
  refine VC.seq ?_
  refine VC.seq ?_
  refine VC.region ?_
  refine VL.stepD rfl rfl (by decide) (OE.moveV (v := .pointer d) rfl ?_)
  refine VL.stepD rfl rfl (by decide) (OE.ptrNilV (b := (Option.isNone d)) (p := d) (q := none) rfl rfl Tryz.underlying24 (.inr rfl) (by simp) ?_)
  refine VL.nil ?_
  change VC _ _ _ _ _ _ _
  refine VC.cond (t := (Option.isNone d)) rfl (fun e1 => ?_) (fun e1 => ?_)
  · have H := H.1 e1
    refine VC.seq ?_
    refine VC.region ?_
    refine VL.stepD rfl rfl (by decide) (OE.assignV (v := .slice none 0 0) rfl ?_)
    refine VL.stepD rfl rfl (by decide) (OE.assignV (v := .int .i64 1) rfl ?_)
    refine VL.nil ?_
    change VC _ _ _ _ _ _ _
    refine VC.ret ?_
    exact ⟨rfl, _, ResOK.t2 rfl (v0 := .slice none 0 0) (v1 := .int .i64 1) rfl rfl, H⟩
  · have H := H.2 e1
    refine VC.skip ?_
    change VC _ _ _ _ _ _ _
    refine VC.seq ?_
    refine VC.seq ?_
    refine VC.region ?_
    refine VL.stepD rfl rfl (by decide) (OE.moveV (v := .pointer d) rfl ?_)
    obtain ⟨a2, e3, H⟩ := H
    refine VL.stepD rfl rfl (by decide) (OE.nilCheck (a := a2) (congrArg Value.pointer e3) ?_)
    refine VL.stepD rfl rfl (by decide) (OE.fieldAddrI (a := a2) (o := 10) rfl Tryz.underlying104 rfl Tryz.i4 (by decide) rfl ?_)
    obtain ⟨x4, hl5, H⟩ := H
    refine VL.stepD rfl rfl (by decide) (OE.load (a := (a2.add 10)) (v := .bool x4) rfl (LdT.one Tryz.underlying4 rfl hl5) ?_)
    refine VL.nil ?_
    change VC _ _ _ _ _ _ _
    refine VC.cond (t := x4) rfl (fun e6 => ?_) (fun e6 => ?_)
    · have H := H.1 e6
      refine VC.seq ?_
      refine VC.region ?_
      refine VL.stepD rfl rfl (by decide) (OE.assignV (v := .slice none 0 0) rfl ?_)
      refine VL.stepD rfl rfl (by decide) (OE.assignV (v := .int .i64 11) rfl ?_)
      refine VL.nil ?_
      change VC _ _ _ _ _ _ _
      refine VC.ret ?_
      exact ⟨rfl, _, ResOK.t2 rfl (v0 := .slice none 0 0) (v1 := .int .i64 11) rfl rfl, H⟩
    · have H := H.2 e6
      refine VC.skip ?_
      change VC _ _ _ _ _ _ _
      refine VC.seq ?_
      refine VC.region ?_
      refine VL.stepD rfl rfl (by decide) (OE.moveV (v := .pointer d) rfl ?_)
      refine VL.stepD rfl rfl (by decide) (OE.callL (args := [.pointer d]) Tryz.func59 rfl Tryz.nn59 rfl rfl (CHE.mono H (fun r7 h8 H => ?_) (fun _ _ e => e.elim)))
      obtain ⟨y9, rfl, H⟩ := H
      refine VL.stepD rfl rfl (by decide) (OE.callL (args := [.map y9]) Tryz.func85 rfl Tryz.nn85 rfl rfl (CHE.mono H (fun r10 h11 H => ?_) (fun _ _ e => e.elim)))
      refine VL.stepD rfl rfl (by decide) (OE.callL (args := [r10]) Tryz.func84 rfl Tryz.nn84 rfl rfl (CHE.mono H (fun r13 h14 H => ?_) (fun _ _ e => e.elim)))
      obtain ⟨y15A, y15n, y15c, rfl, H⟩ := H
      refine VL.stepD rfl rfl (by decide) (OE.assignV (v := .slice y15A y15n y15c) rfl ?_)
      refine VL.stepD rfl rfl (by decide) (OE.assignV (v := .int .i64 0) rfl ?_)
      refine VL.nil ?_
      change VC _ _ _ _ _ _ _
      refine VC.ret ?_
      exact ⟨rfl, _, ResOK.t2 rfl (v0 := .slice y15A y15n y15c) (v1 := .int .i64 0) rfl rfl, H⟩

def D_disk_Disk_Held (R : Value → Hp → Prop) (d : Option Addr) (h : Hp) : Prop :=
  (((Option.isNone d) = true → R (.tuple #[.int .i64 0, .int .i64 0]) h) ∧ ((Option.isNone d) = false → CH Tryz.prog 43 #[.pointer d] h (fun r2 h3 => ∃ y4A : Option Addr, ∃ y4n : Nat, ∃ y4c : Nat, r2 = .slice y4A y4n y4c ∧ CH Tryz.prog 47 #[.pointer d, .slice y4A y4n y4c] h3 (fun r5 h6 => ∃ y7 : Int, r5 = .int .i64 y7 ∧ R (.tuple #[.int .i64 y7, .int .i64 ((y4n : Nat) : Int)]) h6))))
set_option maxRecDepth 10000 in
set_option maxHeartbeats 4000000 in
theorem D_disk_Disk_Held.sound {R : Value → Hp → Prop} {d : Option Addr} {h : Hp} (H : D_disk_Disk_Held R  d h) : CH Tryz.prog 28 #[.pointer d] h R := by
  refine CHE.enter (n := 14) Tryz.func28 rfl rfl (Nat.le_of_ble_eq_true rfl) ?_
  unfold D_disk_Disk_Held at H
  refine VC.seq ?_
  refine VC.region ?_
  refine VL.stepD rfl rfl (by decide) (OE.assignV (v := .int .i64 0) rfl ?_)
  refine VL.stepD rfl rfl (by decide) (OE.assignV (v := .int .i64 0) rfl ?_)
  refine VL.nil ?_
  change VC _ _ _ _ _ _ _
  refine VC.seq ?_
  refine VC.seq ?_
  refine VC.region ?_
  refine VL.stepD rfl rfl (by decide) (OE.moveV (v := .pointer d) rfl ?_)
  refine VL.stepD rfl rfl (by decide) (OE.ptrNilV (b := (Option.isNone d)) (p := d) (q := none) rfl rfl Tryz.underlying24 (.inr rfl) (by simp) ?_)
  refine VL.nil ?_
  change VC _ _ _ _ _ _ _
  refine VC.cond (t := (Option.isNone d)) rfl (fun e1 => ?_) (fun e1 => ?_)
  · have H := H.1 e1
    refine VC.seq ?_
    refine VC.region ?_
    refine VL.stepD rfl rfl (by decide) (OE.assignV (v := .int .i64 0) rfl ?_)
    refine VL.stepD rfl rfl (by decide) (OE.assignV (v := .int .i64 0) rfl ?_)
    refine VL.nil ?_
    change VC _ _ _ _ _ _ _
    refine VC.ret ?_
    exact ⟨rfl, _, ResOK.t2 rfl (v0 := .int .i64 0) (v1 := .int .i64 0) rfl rfl, H⟩
  · have H := H.2 e1
    refine VC.skip ?_
    change VC _ _ _ _ _ _ _
    refine VC.seq ?_
    refine VC.region ?_
    refine VL.stepD rfl rfl (by decide) (OE.moveV (v := .pointer d) rfl ?_)
    refine VL.stepD rfl rfl (by decide) (OE.callL (args := [.pointer d]) Tryz.func43 rfl Tryz.nn43 rfl rfl (CHE.mono H (fun r2 h3 H => ?_) (fun _ _ e => e.elim)))
    obtain ⟨y4A, y4n, y4c, rfl, H⟩ := H
    refine VL.stepD rfl rfl (by decide) (OE.assignV (v := .slice y4A y4n y4c) rfl ?_)
    refine VL.nil ?_
    change VC _ _ _ _ _ _ _
    refine VC.seq ?_
    refine VC.region ?_
    refine VL.stepD rfl rfl (by decide) (OE.moveV (v := .pointer d) rfl ?_)
    refine VL.stepD rfl rfl (by decide) (OE.moveV (v := .slice y4A y4n y4c) rfl ?_)
    refine VL.stepD rfl rfl (by decide) (OE.callL (args := [.pointer d, .slice y4A y4n y4c]) Tryz.func47 rfl Tryz.nn47 rfl rfl (CHE.mono H (fun r5 h6 H => ?_) (fun _ _ e => e.elim)))
    obtain ⟨y7, rfl, H⟩ := H
    refine VL.stepD rfl rfl (by decide) (OE.moveV (v := .slice y4A y4n y4c) rfl ?_)
    refine VL.stepD rfl rfl (by decide) (OE.lenSlice rfl Tryz.underlying44 ?_)
    refine VL.stepD rfl rfl (by decide) (OE.assignV (v := .int .i64 y7) rfl ?_)
    refine VL.stepD rfl rfl (by decide) (OE.assignV (v := .int .i64 ((y4n : Nat) : Int)) rfl ?_)
    refine VL.nil ?_
    change VC _ _ _ _ _ _ _
    refine VC.ret ?_
    exact ⟨rfl, _, ResOK.t2 rfl (v0 := .int .i64 y7) (v1 := .int .i64 ((y4n : Nat) : Int)) rfl rfl, H⟩

def D_disk_Disk_Safe (R : Value → Hp → Prop) (d : Option Addr) (h : Hp) : Prop :=
  (∀ b2 h1, b2 = Array.size h → h1 = Array.push h (.cells #[.pointer d] 24) → (∃ x3 : Option Addr, cell h1 (Addr.mk b2 0 none) = some (.pointer x3) ∧ (((Option.isNone x3) = true → R (.slice none 0 0) h1) ∧ ((Option.isNone x3) = false → (∃ x6 : Option Addr, cell h1 (Addr.mk b2 0 none) = some (.pointer x6) ∧ (∃ a8 : Addr, x6 = some a8 ∧ (∃ x10 : Option Nat, cell h1 (a8.add 4) = some (.map x10) ∧ CH Tryz.prog 70 #[.map x10, .func (.func 88) #[] #[.pointer (some (Addr.mk b2 0 none))]] h1 (fun r12 h13 => ∃ y14A : Option Addr, ∃ y14n : Nat, ∃ y14c : Nat, r12 = .slice y14A y14n y14c ∧ R (.slice y14A y14n y14c) h13))))))))
set_option maxRecDepth 10000 in
set_option maxHeartbeats 4000000 in
theorem D_disk_Disk_Safe.sound {R : Value → Hp → Prop} {d : Option Addr} {h : Hp} (H : D_disk_Disk_Safe R  d h) : CH Tryz.prog 30 #[.pointer d] h R := by
  refine CHE.enter (n := 11) Tryz.func30 rfl rfl (Nat.le_of_ble_eq_true rfl) ?_
  unfold D_disk_Disk_Safe at H
  refine VC.seq ?_
  refine VC.region ?_
  obtain ⟨b2, eb16⟩ : ∃ b2, b2 = Array.size h := ⟨_, rfl⟩
  obtain ⟨h1, eh17⟩ : ∃ h1, h1 = Array.push h (.cells #[.pointer d] 24) := ⟨_, rfl⟩
  have H := H b2 h1 eb16 eh17
  refine VL.stepD rfl rfl (by decide) (OE.boxE (v := .pointer d) rfl eb16 eh17 ?_)
  refine VL.stepD rfl rfl (by decide) (OE.assignV (v := .slice none 0 0) rfl ?_)
  refine VL.nil ?_
  change VC _ _ _ _ _ _ _
  refine VC.seq ?_
  refine VC.seq ?_
  refine VC.region ?_
  obtain ⟨x3, hl4, H⟩ := H
  refine VL.stepD rfl rfl (by decide) (OE.load (a := (Addr.mk b2 0 none)) (v := .pointer x3) rfl (LdT.one Tryz.underlying24 rfl hl4) ?_)
  refine VL.stepD rfl rfl (by decide) (OE.ptrNilV (b := (Option.isNone x3)) (p := x3) (q := none) rfl rfl Tryz.underlying24 (.inr rfl) (by simp) ?_)
  refine VL.nil ?_
  change VC _ _ _ _ _ _ _
  refine VC.cond (t := (Option.isNone x3)) rfl (fun e5 => ?_) (fun e5 => ?_)
  · have H := H.1 e5
    refine VC.seq ?_
    refine VC.region ?_
    refine VL.stepD rfl rfl (by decide) (OE.assignV (v := .slice none 0 0) rfl ?_)
    refine VL.nil ?_
    change VC _ _ _ _ _ _ _
    refine VC.ret ?_
    exact ⟨rfl, _, ResOK.t1 rfl (v := .slice none 0 0) rfl, H⟩
  · have H := H.2 e5
    refine VC.skip ?_
    change VC _ _ _ _ _ _ _
    refine VC.seq ?_
    refine VC.region ?_
    obtain ⟨x6, hl7, H⟩ := H
    refine VL.stepD rfl rfl (by decide) (OE.load (a := (Addr.mk b2 0 none)) (v := .pointer x6) rfl (LdT.one Tryz.underlying24 rfl hl7) ?_)
    obtain ⟨a8, e9, H⟩ := H
    refine VL.stepD rfl rfl (by decide) (OE.nilCheck (a := a8) (congrArg Value.pointer e9) ?_)
    refine VL.stepD rfl rfl (by decide) (OE.fieldAddrI (a := a8) (o := 4) rfl Tryz.underlying104 rfl Tryz.i101 (by decide) rfl ?_)
    obtain ⟨x10, hl11, H⟩ := H
    refine VL.stepD rfl rfl (by decide) (OE.load (a := (a8.add 4)) (v := .map x10) rfl (LdT.one Tryz.underlying101 rfl hl11) ?_)
    refine VL.stepD rfl rfl (by decide) (OE.makeFuncL (l := [.pointer (some (Addr.mk b2 0 none))]) rfl ?_)
    refine VL.stepD rfl rfl (by decide) (OE.callL (args := [.map x10, .func (.func 88) #[] #[.pointer (some (Addr.mk b2 0 none))]]) Tryz.func70 rfl Tryz.nn70 rfl rfl (CHE.mono H (fun r12 h13 H => ?_) (fun _ _ e => e.elim)))
    obtain ⟨y14A, y14n, y14c, rfl, H⟩ := H
    refine VL.stepD rfl rfl (by decide) (OE.assignV (v := .slice y14A y14n y14c) rfl ?_)
    refine VL.nil ?_
    change VC _ _ _ _ _ _ _
    refine VC.ret ?_
    exact ⟨rfl, _, ResOK.t1 rfl (v := .slice y14A y14n y14c) rfl, H⟩


end Go.Proofs
