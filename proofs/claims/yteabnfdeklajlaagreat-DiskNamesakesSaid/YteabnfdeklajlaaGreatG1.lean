/- Part of a proof, by program out of hand-written texts. -/
import Derived.Test.YteabnfdeklajlaaGreatF1
set_option linter.unusedVariables false
set_option linter.unusedSimpArgs false
set_option maxRecDepth 10000
namespace Go.Proofs
open Go Go.V
def D_treadlelaw3_fresh (R : Value → Hp → Prop) (room : Int) (files : Int) (h : Hp) : Prop :=
  CH Tryz.prog 22 #[.int .i64 room, .int .i64 files] h (fun r1 h2 => ∃ y3_0 : Option Addr, ∃ y3_1 : Int, r1 = .tuple #[.pointer y3_0, .int .i64 y3_1] ∧ (((y3_1 != 0) = true → R (.pointer none) h2) ∧ ((y3_1 != 0) = false → R (.pointer y3_0) h2)))
set_option maxRecDepth 10000 in
set_option maxHeartbeats 4000000 in
theorem D_treadlelaw3_fresh.sound {R : Value → Hp → Prop} {room : Int} {files : Int} {h : Hp} (H : D_treadlelaw3_fresh R  room files h) : CH Tryz.prog 10 #[.int .i64 room, .int .i64 files] h R := by
  refine CHE.enter (n := 16) Tryz.func10 rfl rfl (Nat.le_of_ble_eq_true rfl) ?_
  unfold D_treadlelaw3_fresh at H
  refine VC.seq ?_
  refine VC.region ?_
  refine VL.stepD rfl rfl (by decide) (OE.assignV (v := .pointer none) rfl ?_)
  refine VL.nil ?_
  change VC _ _ _ _ _ _ _
  refine VC.seq ?_
  refine VC.region ?_
  refine VL.stepD rfl rfl (by decide) (OE.moveV (v := .int .i64 room) rfl ?_)
  refine VL.stepD rfl rfl (by decide) (OE.moveV (v := .int .i64 files) rfl ?_)
  refine VL.stepD rfl rfl (by decide) (OE.callL (args := [.int .i64 room, .int .i64 files]) Tryz.func22 rfl Tryz.nn22 rfl rfl (CHE.mono H (fun r1 h2 H => ?_) (fun _ _ e => e.elim)))
  obtain ⟨y3_0, y3_1, rfl, H⟩ := H
  refine VL.stepD rfl rfl (by decide) (OE.moveV (v := .tuple #[.pointer y3_0, .int .i64 y3_1]) rfl ?_)
  refine VL.stepD rfl rfl (by decide) (OE.extract (v := .pointer y3_0) rfl rfl ?_)
  refine VL.stepD rfl rfl (by decide) (OE.extract (v := .int .i64 y3_1) rfl rfl ?_)
  refine VL.stepD rfl rfl (by decide) (OE.assignV (v := .pointer y3_0) rfl ?_)
  refine VL.stepD rfl rfl (by decide) (OE.assignV (v := .int .i64 y3_1) rfl ?_)
  refine VL.nil ?_
  change VC _ _ _ _ _ _ _
  refine VC.seq ?_
  refine VC.seq ?_
  refine VC.region ?_
  refine VL.stepD rfl rfl (by decide) (OE.moveV (v := .int .i64 y3_1) rfl ?_)
  refine VL.stepD rfl rfl (by decide) (OE.binI (v := .bool (y3_1 != 0)) rfl rfl rfl ?_)
  refine VL.nil ?_
  change VC _ _ _ _ _ _ _
  refine VC.cond (t := (y3_1 != 0)) rfl (fun e4 => ?_) (fun e4 => ?_)
  · have H := H.1 e4
    refine VC.seq ?_
    refine VC.region ?_
    refine VL.stepD rfl rfl (by decide) (OE.assignV (v := .pointer none) rfl ?_)
    refine VL.nil ?_
    change VC _ _ _ _ _ _ _
    refine VC.ret ?_
    exact ⟨rfl, _, ResOK.t1 rfl (v := .pointer none) rfl, H⟩
  · have H := H.2 e4
    refine VC.skip ?_
    change VC _ _ _ _ _ _ _
    refine VC.seq ?_
    refine VC.region ?_
    refine VL.stepD rfl rfl (by decide) (OE.moveV (v := .pointer y3_0) rfl ?_)
    refine VL.stepD rfl rfl (by decide) (OE.assignV (v := .pointer y3_0) rfl ?_)
    refine VL.nil ?_
    change VC _ _ _ _ _ _ _
    refine VC.ret ?_
    exact ⟨rfl, _, ResOK.t1 rfl (v := .pointer y3_0) rfl, H⟩

def D_treadlelaw3_round.J1 (R : Value → Hp → Prop)   (j2 : Int) (h3 : Hp) : Prop :=
  R (.int .i64 j2) h3
def D_treadlelaw3_round (R : Value → Hp → Prop) (v : Int) (a_n : Int) (h : Hp) : Prop :=
  (a_n ≠ 0 ∧ (((decide ((Int.tmod v a_n) < 0)) = true → D_treadlelaw3_round.J1 R   (IntKind.i64.wrap ((Int.tmod v a_n) + a_n)) h) ∧ ((decide ((Int.tmod v a_n) < 0)) = false → D_treadlelaw3_round.J1 R   (Int.tmod v a_n) h)))
set_option maxRecDepth 10000 in
set_option maxHeartbeats 4000000 in
theorem D_treadlelaw3_round.sound {R : Value → Hp → Prop} {v : Int} {a_n : Int} {h : Hp} (H : D_treadlelaw3_round R  v a_n h) : CH Tryz.prog 15 #[.int .i64 v, .int .i64 a_n] h R := by
  refine CHE.enter (n := 14) Tryz.func15 rfl rfl (Nat.le_of_ble_eq_true rfl) ?_
  unfold D_treadlelaw3_round at H
  refine VC.seq ?_
  refine VC.region ?_
  refine VL.stepD rfl rfl (by decide) (OE.assignV (v := .int .i64 0) rfl ?_)
  refine VL.nil ?_
  change VC _ _ _ _ _ _ _
  refine VC.seq ?_
  refine VC.region ?_
  refine VL.stepD rfl rfl (by decide) (OE.moveV (v := .int .i64 v) rfl ?_)
  refine VL.stepD rfl rfl (by decide) (OE.moveV (v := .int .i64 a_n) rfl ?_)
  obtain ⟨hz1, H⟩ := H
  refine VL.stepD rfl rfl (by decide) (OE.binI (v := .int .i64 (Int.tmod v a_n)) rfl rfl (by simp only [V.binI, if_true]; rw [if_neg hz1]) ?_)
  refine VL.stepD rfl rfl (by decide) (OE.assignV (v := .int .i64 (Int.tmod v a_n)) rfl ?_)
  refine VL.nil ?_
  change VC _ _ _ _ _ _ _
  refine VC.seqJ (fun f h3 => ∃ j2 : Int, f 0 = (.int .i64 j2 : Value) ∧ D_treadlelaw3_round.J1 R   j2 h3) ?_ ?_
  · intro f h3 J
    obtain ⟨j2, hk0, H⟩ := J
    rw [← fr_self f [(0, .int .i64 j2)] (by simp only [List.mem_cons, List.not_mem_nil, or_false]; rintro p (rfl) <;> assumption)]
    unfold D_treadlelaw3_round.J1 at H
    refine VC.seq ?_
    refine VC.region ?_
    refine VL.stepD rfl rfl (by decide) (OE.moveV (v := .int .i64 j2) rfl ?_)
    refine VL.stepD rfl rfl (by decide) (OE.assignV (v := .int .i64 j2) rfl ?_)
    refine VL.nil ?_
    change VC _ _ _ _ _ _ _
    refine VC.ret ?_
    exact ⟨rfl, _, ResOK.t1 rfl (v := .int .i64 j2) rfl, H⟩
  · skip
    refine VC.seq ?_
    refine VC.region ?_
    refine VL.stepD rfl rfl (by decide) (OE.moveV (v := .int .i64 (Int.tmod v a_n)) rfl ?_)
    refine VL.stepD rfl rfl (by decide) (OE.binI (v := .bool (decide ((Int.tmod v a_n) < 0))) rfl rfl rfl ?_)
    refine VL.nil ?_
    change VC _ _ _ _ _ _ _
    refine VC.cond (t := (decide ((Int.tmod v a_n) < 0))) rfl (fun e4 => ?_) (fun e4 => ?_)
    · have H := H.1 e4
      refine VC.region ?_
      refine VL.stepD rfl rfl (by decide) (OE.moveV (v := .int .i64 (Int.tmod v a_n)) rfl ?_)
      refine VL.stepD rfl rfl (by decide) (OE.moveV (v := .int .i64 a_n) rfl ?_)
      refine VL.stepD rfl rfl (by decide) (OE.binI (v := .int .i64 (IntKind.i64.wrap ((Int.tmod v a_n) + a_n))) rfl rfl rfl ?_)
      refine VL.stepD rfl rfl (by decide) (OE.assignV (v := .int .i64 (IntKind.i64.wrap ((Int.tmod v a_n) + a_n))) rfl ?_)
      refine VL.nil ?_
      exact ⟨rfl, (IntKind.i64.wrap ((Int.tmod v a_n) + a_n)), rfl, H⟩
    · have H := H.2 e4
      refine VC.skip ?_
      exact ⟨rfl, (Int.tmod v a_n), rfl, H⟩

def D_treadlelaw3_bytes.J1 (R : Value → Hp → Prop)    (h2 : Hp) : Prop :=
  R (.bool true) h2
def D_treadlelaw3_bytes.L2 (R : Value → Hp → Prop)  (aA : Option Addr) (an : Nat) (bA : Option Addr) (bn : Nat) (C5 : Int → Hp → Prop) (j3 : Int) (h4 : Hp) : Prop :=
  (((decide (j3 < ((an : Nat) : Int))) = true → (∃ a7 : Addr, aA = some a7 ∧ (0 : Int) ≤ j3 ∧ j3 < (an : Int) ∧ (∃ x11 : Int, cell h4 (a7.add (Int.toNat j3 * 1)) = some (.int .u8 x11) ∧ (∃ a13 : Addr, bA = some a13 ∧ (0 : Int) ≤ j3 ∧ j3 < (bn : Int) ∧ (∃ x17 : Int, cell h4 (a13.add (Int.toNat j3 * 1)) = some (.int .u8 x17) ∧ (((x11 != x17) = true → R (.bool false) h4) ∧ ((x11 != x17) = false → C5 (IntKind.i64.wrap (j3 + 1)) h4))))))) ∧ ((decide (j3 < ((an : Nat) : Int))) = false → D_treadlelaw3_bytes.J1 R    h4))
def D_treadlelaw3_bytes (R : Value → Hp → Prop) (aA : Option Addr) (an : Nat) (ac : Nat) (bA : Option Addr) (bn : Nat) (bc : Nat) (h : Hp) : Prop :=
  (((((an : Nat) : Int) != ((bn : Nat) : Int)) = true → R (.bool false) h) ∧ ((((an : Nat) : Int) != ((bn : Nat) : Int)) = false → (∃ Inv : Int → Hp → Nat → Prop, (∃ m, Inv 0 h m) ∧ ∀ j3 h4 m, Inv j3 h4 m → D_treadlelaw3_bytes.L2 R  aA an bA bn (fun j3 h4 => ∃ m1, m1 < m ∧ Inv j3 h4 m1) j3 h4)))
set_option maxRecDepth 10000 in
set_option maxHeartbeats 4000000 in
theorem D_treadlelaw3_bytes.sound {R : Value → Hp → Prop} {aA : Option Addr} {an : Nat} {ac : Nat} {bA : Option Addr} {bn : Nat} {bc : Nat} {h : Hp} (H : D_treadlelaw3_bytes R  aA an ac bA bn bc h) : CH Tryz.prog 19 #[.slice aA an ac, .slice bA bn bc] h R := by
  refine CHE.enter (n := 26) Tryz.func19 rfl rfl (Nat.le_of_ble_eq_true rfl) ?_
  unfold D_treadlelaw3_bytes at H
  refine VC.seq ?_
  refine VC.region ?_
  refine VL.stepD rfl rfl (by decide) (OE.assignV (v := .bool false) rfl ?_)
  refine VL.nil ?_
  change VC _ _ _ _ _ _ _
  refine VC.seq ?_
  refine VC.seq ?_
  refine VC.region ?_
  refine VL.stepD rfl rfl (by decide) (OE.moveV (v := .slice aA an ac) rfl ?_)
  refine VL.stepD rfl rfl (by decide) (OE.lenSlice rfl Tryz.underlying22 ?_)
  refine VL.stepD rfl rfl (by decide) (OE.moveV (v := .slice bA bn bc) rfl ?_)
  refine VL.stepD rfl rfl (by decide) (OE.lenSlice rfl Tryz.underlying22 ?_)
  refine VL.stepD rfl rfl (by decide) (OE.binI (v := .bool (((an : Nat) : Int) != ((bn : Nat) : Int))) rfl rfl rfl ?_)
  refine VL.nil ?_
  change VC _ _ _ _ _ _ _
  refine VC.cond (t := (((an : Nat) : Int) != ((bn : Nat) : Int))) rfl (fun e1 => ?_) (fun e1 => ?_)
  · have H := H.1 e1
    refine VC.seq ?_
    refine VC.region ?_
    refine VL.stepD rfl rfl (by decide) (OE.assignV (v := .bool false) rfl ?_)
    refine VL.nil ?_
    change VC _ _ _ _ _ _ _
    refine VC.ret ?_
    exact ⟨rfl, _, ResOK.t1 rfl (v := .bool false) rfl, H⟩
  · have H := H.2 e1
    refine VC.skip ?_
    change VC _ _ _ _ _ _ _
    refine VC.seqJ (fun f h2 => D_treadlelaw3_bytes.J1 R    h2) ?_ ?_
    · intro f h2 J
      have H := J
      skip
      unfold D_treadlelaw3_bytes.J1 at H
      refine VC.seq ?_
      refine VC.region ?_
      refine VL.stepD rfl rfl (by decide) (OE.assignV (v := .bool true) rfl ?_)
      refine VL.nil ?_
      change VC _ _ _ _ _ _ _
      refine VC.ret ?_
      exact ⟨rfl, _, ResOK.t1 rfl (v := .bool true) rfl, H⟩
    · skip
      refine VC.seq ?_
      refine VC.region ?_
      refine VL.stepD rfl rfl (by decide) (OE.assignV (v := .int .i64 0) rfl ?_)
      refine VL.nil ?_
      change VC _ _ _ _ _ _ _
      refine VC.block ?_
      obtain ⟨Inv, ⟨m0, h0⟩, H⟩ := H
      refine VC.loop (fun ds f h4 m => ds = [] ∧ ∃ j3 : Int, f 0 = (.slice aA an ac : Value) ∧ f 1 = (.slice bA bn bc : Value) ∧ f 5 = (.int .i64 j3 : Value) ∧ Inv j3 h4 m) (m0 := m0) ⟨rfl, 0, rfl, rfl, rfl, h0⟩ ?_
      intro ds f h4 m I
      obtain ⟨rfl, j3, hk0, hk1, hk5, I⟩ := I
      rw [← fr_self f [(0, .slice aA an ac), (1, .slice bA bn bc), (5, .int .i64 j3)] (by simp only [List.mem_cons, List.not_mem_nil, or_false]; rintro p (rfl | rfl | rfl) <;> assumption)]
      obtain ⟨C5, eC5⟩ : ∃ C5 : Int → Hp → Prop, C5 = (fun j3 h4 => ∃ m1, m1 < m ∧ Inv j3 h4 m1) := ⟨_, rfl⟩
      have H : D_treadlelaw3_bytes.L2 R  aA an bA bn C5 j3 h4 := by rw [eC5]; exact H j3 h4 m I
      unfold D_treadlelaw3_bytes.L2 at H
      refine VC.seq ?_
      refine VC.seq ?_
      refine VC.region ?_
      refine VL.stepD rfl rfl (by decide) (OE.moveV (v := .int .i64 j3) rfl ?_)
      refine VL.stepD rfl rfl (by decide) (OE.moveV (v := .slice aA an ac) rfl ?_)
      refine VL.stepD rfl rfl (by decide) (OE.lenSlice rfl Tryz.underlying22 ?_)
      refine VL.stepD rfl rfl (by decide) (OE.binI (v := .bool (decide (j3 < ((an : Nat) : Int)))) rfl rfl rfl ?_)
      refine VL.nil ?_
      change VC _ _ _ _ _ _ _
      refine VC.cond (t := (decide (j3 < ((an : Nat) : Int)))) rfl (fun e6 => ?_) (fun e6 => ?_)
      · have H := H.1 e6
        refine VC.skip ?_
        change VC _ _ _ _ _ _ _
        refine VC.seq ?_
        refine VC.block ?_
        refine VC.seq ?_
        refine VC.drawsS Tryz.mixed (by kernel_rfl) (by kernel_rfl) (fun st hd => ?_)
        refine DW.still (i := 0) (v := .slice aA an ac) (by kernel_rfl) ?_
        refine DW.still (i := 1) (v := .int .i64 j3) (by kernel_rfl) ?_
        obtain ⟨a7, e8, z9, z10, H⟩ := H
        refine DW.still (i := 2) (v := .pointer (some (a7.add (Int.toNat j3 * 1)))) (by kernel_rfl) ?_
        obtain ⟨x11, hl12, H⟩ := H
        refine DW.still (i := 3) (v := .int .u8 x11) (by kernel_rfl) ?_
        refine DW.still (i := 4) (v := .slice bA bn bc) (by kernel_rfl) ?_
        refine DW.still (i := 5) (v := .int .i64 j3) (by kernel_rfl) ?_
        obtain ⟨a13, e14, z15, z16, H⟩ := H
        refine DW.still (i := 6) (v := .pointer (some (a13.add (Int.toNat j3 * 1)))) (by kernel_rfl) ?_
        obtain ⟨x17, hl18, H⟩ := H
        refine DW.still (i := 7) (v := .int .u8 x17) (by kernel_rfl) ?_
        refine DW.still (i := 8) (v := .bool (x11 != x17)) (by kernel_rfl) ?_
        refine DW.finL st hd [(17, (.slice aA an ac : Value)), (18, (.int .i64 j3 : Value)), (19, (.pointer (some (a7.add (Int.toNat j3 * 1))) : Value)), (20, (.int .u8 x11 : Value)), (21, (.slice bA bn bc : Value)), (22, (.int .i64 j3 : Value)), (23, (.pointer (some (a13.add (Int.toNat j3 * 1))) : Value)), (24, (.int .u8 x17 : Value)), (25, (.bool (x11 != x17) : Value))] (by kernel_rfl) (by kernel_rfl) ⟨.inr (YD.u (fr (fun _ => undef) [(20, (.int .u8 x11 : Value)), (24, (.int .u8 x17 : Value))]) st rfl rfl (by kernel_rfl) (OE.binI (v := .bool (x11 != x17)) rfl rfl rfl ⟨rfl, rfl⟩)), .inr (YD.u (fr (fun _ => undef) [(23, (.pointer (some (a13.add (Int.toNat j3 * 1))) : Value))]) st rfl rfl (by kernel_rfl) (OE.load (a := (a13.add (Int.toNat j3 * 1))) (v := .int .u8 x17) rfl (LdT.one Tryz.underlying5 rfl hl18) ⟨rfl, rfl⟩)), .inr (YD.u (fr (fun _ => undef) [(21, (.slice bA bn bc : Value)), (22, (.int .i64 j3 : Value))]) st rfl rfl (by kernel_rfl) (OE.indexAddrI (sz := 1) rfl rfl Tryz.underlying22 Tryz.i5 e14 z15 z16 ⟨rfl, rfl⟩)), .inr (YD.u (fr (fun _ => undef) [(5, (.int .i64 j3 : Value))]) st rfl rfl (by kernel_rfl) (OE.moveV (v := .int .i64 j3) rfl ⟨rfl, rfl⟩)), .inr (YD.u (fr (fun _ => undef) [(1, (.slice bA bn bc : Value))]) st rfl rfl (by kernel_rfl) (OE.moveV (v := .slice bA bn bc) rfl ⟨rfl, rfl⟩)), .inr (YD.u (fr (fun _ => undef) [(19, (.pointer (some (a7.add (Int.toNat j3 * 1))) : Value))]) st rfl rfl (by kernel_rfl) (OE.load (a := (a7.add (Int.toNat j3 * 1))) (v := .int .u8 x11) rfl (LdT.one Tryz.underlying5 rfl hl12) ⟨rfl, rfl⟩)), .inr (YD.u (fr (fun _ => undef) [(17, (.slice aA an ac : Value)), (18, (.int .i64 j3 : Value))]) st rfl rfl (by kernel_rfl) (OE.indexAddrI (sz := 1) rfl rfl Tryz.underlying22 Tryz.i5 e8 z9 z10 ⟨rfl, rfl⟩)), .inr (YD.u (fr (fun _ => undef) [(5, (.int .i64 j3 : Value))]) st rfl rfl (by kernel_rfl) (OE.moveV (v := .int .i64 j3) rfl ⟨rfl, rfl⟩)), .inr (YD.u (fr (fun _ => undef) [(0, (.slice aA an ac : Value))]) st rfl rfl (by kernel_rfl) (OE.moveV (v := .slice aA an ac) rfl ⟨rfl, rfl⟩)), trivial⟩ ?_
        change VC _ _ _ _ _ _ _
        refine VC.cond (t := (x11 != x17)) rfl (fun e19 => ?_) (fun e19 => ?_)
        · have H := H.1 e19
          refine VC.seq ?_
          refine VC.region ?_
          refine VL.stepD rfl rfl (by decide) (OE.assignV (v := .bool false) rfl ?_)
          refine VL.nil ?_
          change VC _ _ _ _ _ _ _
          refine VC.ret ?_
          exact ⟨rfl, _, ResOK.t1 rfl (v := .bool false) rfl, H⟩
        · have H := H.2 e19
          refine VC.skip ?_
          change VC _ _ _ _ _ _ _
          refine VC.region ?_
          refine VL.stepD rfl rfl (by decide) (OE.moveV (v := .int .i64 j3) rfl ?_)
          refine VL.stepD rfl rfl (by decide) (OE.binI (v := .int .i64 (IntKind.i64.wrap (j3 + 1))) rfl rfl rfl ?_)
          refine VL.stepD rfl rfl (by decide) (OE.assignV (v := .int .i64 (IntKind.i64.wrap (j3 + 1))) rfl ?_)
          refine VL.nil ?_
          rw [eC5] at H
          obtain ⟨m1, hm1, H⟩ := H
          exact ⟨m1, hm1, rfl, (IntKind.i64.wrap (j3 + 1)), rfl, rfl, rfl, H⟩
      · have H := H.2 e6
        refine VC.exit ?_
        exact ⟨rfl, H⟩

def D_treadlelaw3_texts.J1 (R : Value → Hp → Prop)    (h2 : Hp) : Prop :=
  R (.bool true) h2
def D_treadlelaw3_texts.L2 (R : Value → Hp → Prop)  (aA : Option Addr) (an : Nat) (bA : Option Addr) (bn : Nat) (C5 : Int → Hp → Prop) (j3 : Int) (h4 : Hp) : Prop :=
  (((decide (j3 < ((an : Nat) : Int))) = true → (∃ a7 : Addr, aA = some a7 ∧ (0 : Int) ≤ j3 ∧ j3 < (an : Int) ∧ (∃ x11 : ByteArray, cell h4 (a7.add (Int.toNat j3 * 1)) = some (.string x11) ∧ (∃ a13 : Addr, bA = some a13 ∧ (0 : Int) ≤ j3 ∧ j3 < (bn : Int) ∧ (∃ x17 : ByteArray, cell h4 (a13.add (Int.toNat j3 * 1)) = some (.string x17) ∧ (((!(x11.toList == x17.toList)) = true → R (.bool false) h4) ∧ ((!(x11.toList == x17.toList)) = false → C5 (IntKind.i64.wrap (j3 + 1)) h4))))))) ∧ ((decide (j3 < ((an : Nat) : Int))) = false → D_treadlelaw3_texts.J1 R    h4))
def D_treadlelaw3_texts (R : Value → Hp → Prop) (aA : Option Addr) (an : Nat) (ac : Nat) (bA : Option Addr) (bn : Nat) (bc : Nat) (h : Hp) : Prop :=
  (((((an : Nat) : Int) != ((bn : Nat) : Int)) = true → R (.bool false) h) ∧ ((((an : Nat) : Int) != ((bn : Nat) : Int)) = false → (∃ Inv : Int → Hp → Nat → Prop, (∃ m, Inv 0 h m) ∧ ∀ j3 h4 m, Inv j3 h4 m → D_treadlelaw3_texts.L2 R  aA an bA bn (fun j3 h4 => ∃ m1, m1 < m ∧ Inv j3 h4 m1) j3 h4)))
set_option maxRecDepth 10000 in
set_option maxHeartbeats 4000000 in
theorem D_treadlelaw3_texts.sound {R : Value → Hp → Prop} {aA : Option Addr} {an : Nat} {ac : Nat} {bA : Option Addr} {bn : Nat} {bc : Nat} {h : Hp} (H : D_treadlelaw3_texts R  aA an ac bA bn bc h) : CH Tryz.prog 27 #[.slice aA an ac, .slice bA bn bc] h R := by
  refine CHE.enter (n := 26) Tryz.func27 rfl rfl (Nat.le_of_ble_eq_true rfl) ?_
  unfold D_treadlelaw3_texts at H
  refine VC.seq ?_
  refine VC.region ?_
  refine VL.stepD rfl rfl (by decide) (OE.assignV (v := .bool false) rfl ?_)
  refine VL.nil ?_
  change VC _ _ _ _ _ _ _
  refine VC.seq ?_
  refine VC.seq ?_
  refine VC.region ?_
  refine VL.stepD rfl rfl (by decide) (OE.moveV (v := .slice aA an ac) rfl ?_)
  refine VL.stepD rfl rfl (by decide) (OE.lenSlice rfl Tryz.underlying71 ?_)
  refine VL.stepD rfl rfl (by decide) (OE.moveV (v := .slice bA bn bc) rfl ?_)
  refine VL.stepD rfl rfl (by decide) (OE.lenSlice rfl Tryz.underlying71 ?_)
  refine VL.stepD rfl rfl (by decide) (OE.binI (v := .bool (((an : Nat) : Int) != ((bn : Nat) : Int))) rfl rfl rfl ?_)
  refine VL.nil ?_
  change VC _ _ _ _ _ _ _
  refine VC.cond (t := (((an : Nat) : Int) != ((bn : Nat) : Int))) rfl (fun e1 => ?_) (fun e1 => ?_)
  · have H := H.1 e1
    refine VC.seq ?_
    refine VC.region ?_
    refine VL.stepD rfl rfl (by decide) (OE.assignV (v := .bool false) rfl ?_)
    refine VL.nil ?_
    change VC _ _ _ _ _ _ _
    refine VC.ret ?_
    exact ⟨rfl, _, ResOK.t1 rfl (v := .bool false) rfl, H⟩
  · have H := H.2 e1
    refine VC.skip ?_
    change VC _ _ _ _ _ _ _
    refine VC.seqJ (fun f h2 => D_treadlelaw3_texts.J1 R    h2) ?_ ?_
    · intro f h2 J
      have H := J
      skip
      unfold D_treadlelaw3_texts.J1 at H
      refine VC.seq ?_
      refine VC.region ?_
      refine VL.stepD rfl rfl (by decide) (OE.assignV (v := .bool true) rfl ?_)
      refine VL.nil ?_
      change VC _ _ _ _ _ _ _
      refine VC.ret ?_
      exact ⟨rfl, _, ResOK.t1 rfl (v := .bool true) rfl, H⟩
    · skip
      refine VC.seq ?_
      refine VC.region ?_
      refine VL.stepD rfl rfl (by decide) (OE.assignV (v := .int .i64 0) rfl ?_)
      refine VL.nil ?_
      change VC _ _ _ _ _ _ _
      refine VC.block ?_
      obtain ⟨Inv, ⟨m0, h0⟩, H⟩ := H
      refine VC.loop (fun ds f h4 m => ds = [] ∧ ∃ j3 : Int, f 0 = (.slice aA an ac : Value) ∧ f 1 = (.slice bA bn bc : Value) ∧ f 5 = (.int .i64 j3 : Value) ∧ Inv j3 h4 m) (m0 := m0) ⟨rfl, 0, rfl, rfl, rfl, h0⟩ ?_
      intro ds f h4 m I
      obtain ⟨rfl, j3, hk0, hk1, hk5, I⟩ := I
      rw [← fr_self f [(0, .slice aA an ac), (1, .slice bA bn bc), (5, .int .i64 j3)] (by simp only [List.mem_cons, List.not_mem_nil, or_false]; rintro p (rfl | rfl | rfl) <;> assumption)]
      obtain ⟨C5, eC5⟩ : ∃ C5 : Int → Hp → Prop, C5 = (fun j3 h4 => ∃ m1, m1 < m ∧ Inv j3 h4 m1) := ⟨_, rfl⟩
      have H : D_treadlelaw3_texts.L2 R  aA an bA bn C5 j3 h4 := by rw [eC5]; exact H j3 h4 m I
      unfold D_treadlelaw3_texts.L2 at H
      refine VC.seq ?_
      refine VC.seq ?_
      refine VC.region ?_
      refine VL.stepD rfl rfl (by decide) (OE.moveV (v := .int .i64 j3) rfl ?_)
      refine VL.stepD rfl rfl (by decide) (OE.moveV (v := .slice aA an ac) rfl ?_)
      refine VL.stepD rfl rfl (by decide) (OE.lenSlice rfl Tryz.underlying71 ?_)
      refine VL.stepD rfl rfl (by decide) (OE.binI (v := .bool (decide (j3 < ((an : Nat) : Int)))) rfl rfl rfl ?_)
      refine VL.nil ?_
      change VC _ _ _ _ _ _ _
      refine VC.cond (t := (decide (j3 < ((an : Nat) : Int)))) rfl (fun e6 => ?_) (fun e6 => ?_)
      · have H := H.1 e6
        refine VC.skip ?_
        change VC _ _ _ _ _ _ _
        refine VC.seq ?_
        refine VC.block ?_
        refine VC.seq ?_
        refine VC.drawsS Tryz.mixed (by kernel_rfl) (by kernel_rfl) (fun st hd => ?_)
        refine DW.still (i := 0) (v := .slice aA an ac) (by kernel_rfl) ?_
        refine DW.still (i := 1) (v := .int .i64 j3) (by kernel_rfl) ?_
        obtain ⟨a7, e8, z9, z10, H⟩ := H
        refine DW.still (i := 2) (v := .pointer (some (a7.add (Int.toNat j3 * 1)))) (by kernel_rfl) ?_
        obtain ⟨x11, hl12, H⟩ := H
        refine DW.still (i := 3) (v := .string x11) (by kernel_rfl) ?_
        refine DW.still (i := 4) (v := .slice bA bn bc) (by kernel_rfl) ?_
        refine DW.still (i := 5) (v := .int .i64 j3) (by kernel_rfl) ?_
        obtain ⟨a13, e14, z15, z16, H⟩ := H
        refine DW.still (i := 6) (v := .pointer (some (a13.add (Int.toNat j3 * 1)))) (by kernel_rfl) ?_
        obtain ⟨x17, hl18, H⟩ := H
        refine DW.still (i := 7) (v := .string x17) (by kernel_rfl) ?_
        refine DW.still (i := 8) (v := .bool (!(x11.toList == x17.toList))) (by kernel_rfl) ?_
        refine DW.finL st hd [(17, (.slice aA an ac : Value)), (18, (.int .i64 j3 : Value)), (19, (.pointer (some (a7.add (Int.toNat j3 * 1))) : Value)), (20, (.string x11 : Value)), (21, (.slice bA bn bc : Value)), (22, (.int .i64 j3 : Value)), (23, (.pointer (some (a13.add (Int.toNat j3 * 1))) : Value)), (24, (.string x17 : Value)), (25, (.bool (!(x11.toList == x17.toList)) : Value))] (by kernel_rfl) (by kernel_rfl) ⟨.inr (YD.u (fr (fun _ => undef) [(20, (.string x11 : Value)), (24, (.string x17 : Value))]) st rfl rfl (by kernel_rfl) (OE.binS (v := .bool (!(x11.toList == x17.toList))) rfl rfl rfl ⟨rfl, rfl⟩)), .inr (YD.u (fr (fun _ => undef) [(23, (.pointer (some (a13.add (Int.toNat j3 * 1))) : Value))]) st rfl rfl (by kernel_rfl) (OE.load (a := (a13.add (Int.toNat j3 * 1))) (v := .string x17) rfl (LdT.one Tryz.underlying9 rfl hl18) ⟨rfl, rfl⟩)), .inr (YD.u (fr (fun _ => undef) [(21, (.slice bA bn bc : Value)), (22, (.int .i64 j3 : Value))]) st rfl rfl (by kernel_rfl) (OE.indexAddrI (sz := 1) rfl rfl Tryz.underlying71 Tryz.i9 e14 z15 z16 ⟨rfl, rfl⟩)), .inr (YD.u (fr (fun _ => undef) [(5, (.int .i64 j3 : Value))]) st rfl rfl (by kernel_rfl) (OE.moveV (v := .int .i64 j3) rfl ⟨rfl, rfl⟩)), .inr (YD.u (fr (fun _ => undef) [(1, (.slice bA bn bc : Value))]) st rfl rfl (by kernel_rfl) (OE.moveV (v := .slice bA bn bc) rfl ⟨rfl, rfl⟩)), .inr (YD.u (fr (fun _ => undef) [(19, (.pointer (some (a7.add (Int.toNat j3 * 1))) : Value))]) st rfl rfl (by kernel_rfl) (OE.load (a := (a7.add (Int.toNat j3 * 1))) (v := .string x11) rfl (LdT.one Tryz.underlying9 rfl hl12) ⟨rfl, rfl⟩)), .inr (YD.u (fr (fun _ => undef) [(17, (.slice aA an ac : Value)), (18, (.int .i64 j3 : Value))]) st rfl rfl (by kernel_rfl) (OE.indexAddrI (sz := 1) rfl rfl Tryz.underlying71 Tryz.i9 e8 z9 z10 ⟨rfl, rfl⟩)), .inr (YD.u (fr (fun _ => undef) [(5, (.int .i64 j3 : Value))]) st rfl rfl (by kernel_rfl) (OE.moveV (v := .int .i64 j3) rfl ⟨rfl, rfl⟩)), .inr (YD.u (fr (fun _ => undef) [(0, (.slice aA an ac : Value))]) st rfl rfl (by kernel_rfl) (OE.moveV (v := .slice aA an ac) rfl ⟨rfl, rfl⟩)), trivial⟩ ?_
        change VC _ _ _ _ _ _ _
        refine VC.cond (t := (!(x11.toList == x17.toList))) rfl (fun e19 => ?_) (fun e19 => ?_)
        · have H := H.1 e19
          refine VC.seq ?_
          refine VC.region ?_
          refine VL.stepD rfl rfl (by decide) (OE.assignV (v := .bool false) rfl ?_)
          refine VL.nil ?_
          change VC _ _ _ _ _ _ _
          refine VC.ret ?_
          exact ⟨rfl, _, ResOK.t1 rfl (v := .bool false) rfl, H⟩
        · have H := H.2 e19
          refine VC.skip ?_
          change VC _ _ _ _ _ _ _
          refine VC.region ?_
          refine VL.stepD rfl rfl (by decide) (OE.moveV (v := .int .i64 j3) rfl ?_)
          refine VL.stepD rfl rfl (by decide) (OE.binI (v := .int .i64 (IntKind.i64.wrap (j3 + 1))) rfl rfl rfl ?_)
          refine VL.stepD rfl rfl (by decide) (OE.assignV (v := .int .i64 (IntKind.i64.wrap (j3 + 1))) rfl ?_)
          refine VL.nil ?_
          rw [eC5] at H
          obtain ⟨m1, hm1, H⟩ := H
          exact ⟨m1, hm1, rfl, (IntKind.i64.wrap (j3 + 1)), rfl, rfl, rfl, H⟩
      · have H := H.2 e6
        refine VC.exit ?_
        exact ⟨rfl, H⟩

def D_treadlelaw3_files.J1 (R : Value → Hp → Prop)    (h2 : Hp) : Prop :=
  R (.bool true) h2
def D_treadlelaw3_files.J3 (R : Value → Hp → Prop) (C5 : Int → Hp → Prop) (j3 : Int) (j7 : Bool) (h8 : Hp) : Prop :=
  ((j7 = true → R (.bool false) h8) ∧ (j7 = false → C5 (IntKind.i64.wrap (j3 + 1)) h8))
def D_treadlelaw3_files.L2 (R : Value → Hp → Prop)  (aA : Option Addr) (an : Nat) (bA : Option Addr) (bn : Nat) (C5 : Int → Hp → Prop) (j3 : Int) (h4 : Hp) : Prop :=
  (((decide (j3 < ((an : Nat) : Int))) = true → (∃ a10 : Addr, aA = some a10 ∧ (0 : Int) ≤ j3 ∧ j3 < (an : Int) ∧ (∃ x14 : ByteArray, cell h4 (a10.add (Int.toNat j3 * 2)) = some (.string x14) ∧ (∃ a16 : Addr, bA = some a16 ∧ (0 : Int) ≤ j3 ∧ j3 < (bn : Int) ∧ (∃ x20 : ByteArray, cell h4 (a16.add (Int.toNat j3 * 2)) = some (.string x20) ∧ (((!(x14.toList == x20.toList)) = true → D_treadlelaw3_files.J3 R C5 j3 true h4) ∧ ((!(x14.toList == x20.toList)) = false → (∃ a23 : Addr, aA = some a23 ∧ (0 : Int) ≤ j3 ∧ j3 < (an : Int) ∧ (∃ x27A : Option Addr, ∃ x27n : Nat, ∃ x27c : Nat, cell h4 ((a23.add (Int.toNat j3 * 2)).add 1) = some (.slice x27A x27n x27c) ∧ (∃ a29 : Addr, bA = some a29 ∧ (0 : Int) ≤ j3 ∧ j3 < (bn : Int) ∧ (∃ x33A : Option Addr, ∃ x33n : Nat, ∃ x33c : Nat, cell h4 ((a29.add (Int.toNat j3 * 2)).add 1) = some (.slice x33A x33n x33c) ∧ CH Tryz.prog 19 #[.slice x27A x27n x27c, .slice x33A x33n x33c] h4 (fun r35 h36 => ∃ y37 : Bool, r35 = .bool y37 ∧ D_treadlelaw3_files.J3 R C5 j3 (!y37) h36)))))))))))) ∧ ((decide (j3 < ((an : Nat) : Int))) = false → D_treadlelaw3_files.J1 R    h4))
def D_treadlelaw3_files (R : Value → Hp → Prop) (aA : Option Addr) (an : Nat) (ac : Nat) (bA : Option Addr) (bn : Nat) (bc : Nat) (h : Hp) : Prop :=
  (((((an : Nat) : Int) != ((bn : Nat) : Int)) = true → R (.bool false) h) ∧ ((((an : Nat) : Int) != ((bn : Nat) : Int)) = false → (∃ Inv : Int → Hp → Nat → Prop, (∃ m, Inv 0 h m) ∧ ∀ j3 h4 m, Inv j3 h4 m → D_treadlelaw3_files.L2 R  aA an bA bn (fun j3 h4 => ∃ m1, m1 < m ∧ Inv j3 h4 m1) j3 h4)))
set_option maxRecDepth 10000 in
set_option maxHeartbeats 4000000 in
theorem D_treadlelaw3_files.sound {R : Value → Hp → Prop} {aA : Option Addr} {an : Nat} {ac : Nat} {bA : Option Addr} {bn : Nat} {bc : Nat} {h : Hp} (H : D_treadlelaw3_files R  aA an ac bA bn bc h) : CH Tryz.prog 34 #[.slice aA an ac, .slice bA bn bc] h R := by
  refine CHE.enter (n := 42) Tryz.func34 rfl rfl (Nat.le_of_ble_eq_true rfl) ?_
  unfold D_treadlelaw3_files at H
  refine VC.seq ?_
  refine VC.region ?_
  refine VL.stepD rfl rfl (by decide) (OE.assignV (v := .bool false) rfl ?_)
  refine VL.nil ?_
  change VC _ _ _ _ _ _ _
  refine VC.seq ?_
  refine VC.seq ?_
  refine VC.region ?_
  refine VL.stepD rfl rfl (by decide) (OE.moveV (v := .slice aA an ac) rfl ?_)
  refine VL.stepD rfl rfl (by decide) (OE.lenSlice rfl Tryz.underlying42 ?_)
  refine VL.stepD rfl rfl (by decide) (OE.moveV (v := .slice bA bn bc) rfl ?_)
  refine VL.stepD rfl rfl (by decide) (OE.lenSlice rfl Tryz.underlying42 ?_)
  refine VL.stepD rfl rfl (by decide) (OE.binI (v := .bool (((an : Nat) : Int) != ((bn : Nat) : Int))) rfl rfl rfl ?_)
  refine VL.nil ?_
  change VC _ _ _ _ _ _ _
  refine VC.cond (t := (((an : Nat) : Int) != ((bn : Nat) : Int))) rfl (fun e1 => ?_) (fun e1 => ?_)
  · have H := H.1 e1
    refine VC.seq ?_
    refine VC.region ?_
    refine VL.stepD rfl rfl (by decide) (OE.assignV (v := .bool false) rfl ?_)
    refine VL.nil ?_
    change VC _ _ _ _ _ _ _
    refine VC.ret ?_
    exact ⟨rfl, _, ResOK.t1 rfl (v := .bool false) rfl, H⟩
  · have H := H.2 e1
    refine VC.skip ?_
    change VC _ _ _ _ _ _ _
    refine VC.seqJ (fun f h2 => D_treadlelaw3_files.J1 R    h2) ?_ ?_
    · intro f h2 J
      have H := J
      skip
      unfold D_treadlelaw3_files.J1 at H
      refine VC.seq ?_
      refine VC.region ?_
      refine VL.stepD rfl rfl (by decide) (OE.assignV (v := .bool true) rfl ?_)
      refine VL.nil ?_
      change VC _ _ _ _ _ _ _
      refine VC.ret ?_
      exact ⟨rfl, _, ResOK.t1 rfl (v := .bool true) rfl, H⟩
    · skip
      refine VC.seq ?_
      refine VC.region ?_
      refine VL.stepD rfl rfl (by decide) (OE.assignV (v := .int .i64 0) rfl ?_)
      refine VL.nil ?_
      change VC _ _ _ _ _ _ _
      refine VC.block ?_
      obtain ⟨Inv, ⟨m0, h0⟩, H⟩ := H
      refine VC.loop (fun ds f h4 m => ds = [] ∧ ∃ j3 : Int, f 0 = (.slice aA an ac : Value) ∧ f 1 = (.slice bA bn bc : Value) ∧ f 5 = (.int .i64 j3 : Value) ∧ Inv j3 h4 m) (m0 := m0) ⟨rfl, 0, rfl, rfl, rfl, h0⟩ ?_
      intro ds f h4 m I
      obtain ⟨rfl, j3, hk0, hk1, hk5, I⟩ := I
      rw [← fr_self f [(0, .slice aA an ac), (1, .slice bA bn bc), (5, .int .i64 j3)] (by simp only [List.mem_cons, List.not_mem_nil, or_false]; rintro p (rfl | rfl | rfl) <;> assumption)]
      obtain ⟨C5, eC5⟩ : ∃ C5 : Int → Hp → Prop, C5 = (fun j3 h4 => ∃ m1, m1 < m ∧ Inv j3 h4 m1) := ⟨_, rfl⟩
      have H : D_treadlelaw3_files.L2 R  aA an bA bn C5 j3 h4 := by rw [eC5]; exact H j3 h4 m I
      unfold D_treadlelaw3_files.L2 at H
      refine VC.seq ?_
      refine VC.seq ?_
      refine VC.region ?_
      refine VL.stepD rfl rfl (by decide) (OE.moveV (v := .int .i64 j3) rfl ?_)
      refine VL.stepD rfl rfl (by decide) (OE.moveV (v := .slice aA an ac) rfl ?_)
      refine VL.stepD rfl rfl (by decide) (OE.lenSlice rfl Tryz.underlying42 ?_)
      refine VL.stepD rfl rfl (by decide) (OE.binI (v := .bool (decide (j3 < ((an : Nat) : Int)))) rfl rfl rfl ?_)
      refine VL.nil ?_
      change VC _ _ _ _ _ _ _
      refine VC.cond (t := (decide (j3 < ((an : Nat) : Int)))) rfl (fun e6 => ?_) (fun e6 => ?_)
      · have H := H.1 e6
        refine VC.skip ?_
        change VC _ _ _ _ _ _ _
        refine VC.seq ?_
        refine VC.block ?_
        refine VC.seqJ (fun f h8 => ∃ j7 : Bool, f 0 = (.slice aA an ac : Value) ∧ f 1 = (.slice bA bn bc : Value) ∧ f 5 = (.int .i64 j3 : Value) ∧ f 41 = (.bool j7 : Value) ∧ D_treadlelaw3_files.J3 R C5 j3 j7 h8) ?_ ?_
        · intro f h8 J
          obtain ⟨j7, hk0, hk1, hk5, hk41, H⟩ := J
          rw [← fr_self f [(0, .slice aA an ac), (1, .slice bA bn bc), (5, .int .i64 j3), (41, .bool j7)] (by simp only [List.mem_cons, List.not_mem_nil, or_false]; rintro p (rfl | rfl | rfl | rfl) <;> assumption)]
          unfold D_treadlelaw3_files.J3 at H
          refine VC.cond (t := j7) rfl (fun e9 => ?_) (fun e9 => ?_)
          · have H := H.1 e9
            refine VC.seq ?_
            refine VC.region ?_
            refine VL.stepD rfl rfl (by decide) (OE.assignV (v := .bool false) rfl ?_)
            refine VL.nil ?_
            change VC _ _ _ _ _ _ _
            refine VC.ret ?_
            exact ⟨rfl, _, ResOK.t1 rfl (v := .bool false) rfl, H⟩
          · have H := H.2 e9
            refine VC.skip ?_
            change VC _ _ _ _ _ _ _
            refine VC.region ?_
            refine VL.stepD rfl rfl (by decide) (OE.moveV (v := .int .i64 j3) rfl ?_)
            refine VL.stepD rfl rfl (by decide) (OE.binI (v := .int .i64 (IntKind.i64.wrap (j3 + 1))) rfl rfl rfl ?_)
            refine VL.stepD rfl rfl (by decide) (OE.assignV (v := .int .i64 (IntKind.i64.wrap (j3 + 1))) rfl ?_)
            refine VL.nil ?_
            rw [eC5] at H
            obtain ⟨m1, hm1, H⟩ := H
            exact ⟨m1, hm1, rfl, (IntKind.i64.wrap (j3 + 1)), rfl, rfl, rfl, H⟩
        · skip
          refine VC.drawsS Tryz.mixed (by kernel_rfl) (by kernel_rfl) (fun st hd => ?_)
          refine DW.still (i := 0) (v := .slice aA an ac) (by kernel_rfl) ?_
          refine DW.still (i := 1) (v := .int .i64 j3) (by kernel_rfl) ?_
          obtain ⟨a10, e11, z12, z13, H⟩ := H
          refine DW.still (i := 2) (v := .pointer (some (a10.add (Int.toNat j3 * 2)))) (by kernel_rfl) ?_
          refine DW.still (i := 3) (v := .pointer (some (a10.add (Int.toNat j3 * 2)))) (by kernel_rfl) ?_
          obtain ⟨x14, hl15, H⟩ := H
          refine DW.still (i := 4) (v := .string x14) (by kernel_rfl) ?_
          refine DW.still (i := 5) (v := .slice bA bn bc) (by kernel_rfl) ?_
          refine DW.still (i := 6) (v := .int .i64 j3) (by kernel_rfl) ?_
          obtain ⟨a16, e17, z18, z19, H⟩ := H
          refine DW.still (i := 7) (v := .pointer (some (a16.add (Int.toNat j3 * 2)))) (by kernel_rfl) ?_
          refine DW.still (i := 8) (v := .pointer (some (a16.add (Int.toNat j3 * 2)))) (by kernel_rfl) ?_
          obtain ⟨x20, hl21, H⟩ := H
          refine DW.still (i := 9) (v := .string x20) (by kernel_rfl) ?_
          refine DW.still (i := 10) (v := .bool (!(x14.toList == x20.toList))) (by kernel_rfl) ?_
          refine DW.still (i := 11) (v := .bool (!(x14.toList == x20.toList))) (by kernel_rfl) ?_
          refine boolSplit ((!(x14.toList == x20.toList))) (fun e22 => ?_) (fun e22 => ?_)
          · have H := H.1 e22
            refine DW.still (i := 12) (v := undef) (by kernel_rfl) ?_
            refine DW.still (i := 13) (v := undef) (by kernel_rfl) ?_
            refine DW.still (i := 14) (v := undef) (by kernel_rfl) ?_
            refine DW.still (i := 15) (v := undef) (by kernel_rfl) ?_
            refine DW.still (i := 16) (v := undef) (by kernel_rfl) ?_
            refine DW.still (i := 17) (v := undef) (by kernel_rfl) ?_
            refine DW.still (i := 18) (v := undef) (by kernel_rfl) ?_
            refine DW.still (i := 19) (v := undef) (by kernel_rfl) ?_
            refine DW.still (i := 20) (v := undef) (by kernel_rfl) ?_
            refine DW.still (i := 21) (v := undef) (by kernel_rfl) ?_
            refine DW.still (i := 22) (v := undef) (by kernel_rfl) ?_
            refine DW.still (i := 23) (v := undef) (by kernel_rfl) ?_
            refine DW.still (i := 24) (v := .bool true) (by kernel_rfl) ?_
            refine DW.finL st hd [(17, (.slice aA an ac : Value)), (18, (.int .i64 j3 : Value)), (19, (.pointer (some (a10.add (Int.toNat j3 * 2))) : Value)), (20, (.pointer (some (a10.add (Int.toNat j3 * 2))) : Value)), (21, (.string x14 : Value)), (22, (.slice bA bn bc : Value)), (23, (.int .i64 j3 : Value)), (24, (.pointer (some (a16.add (Int.toNat j3 * 2))) : Value)), (25, (.pointer (some (a16.add (Int.toNat j3 * 2))) : Value)), (26, (.string x20 : Value)), (27, (.bool (!(x14.toList == x20.toList)) : Value)), (28, (.bool (!(x14.toList == x20.toList)) : Value)), (29, (undef : Value)), (30, (undef : Value)), (31, (undef : Value)), (32, (undef : Value)), (33, (undef : Value)), (34, (undef : Value)), (35, (undef : Value)), (36, (undef : Value)), (37, (undef : Value)), (38, (undef : Value)), (39, (undef : Value)), (40, (undef : Value)), (41, (.bool true : Value))] (by kernel_rfl) (by kernel_rfl) ⟨.inr (YD.u (fr (fun _ => undef) [(28, (.bool (!(x14.toList == x20.toList)) : Value)), (40, (undef : Value))]) st rfl rfl (by kernel_rfl) (OE.pickV (t := true) (v := .bool true) (congrArg Value.bool e22) rfl ⟨rfl, rfl⟩)), .inr (YD.s (fr (fun _ => undef) [(39, (undef : Value)), (28, (.bool (!(x14.toList == x20.toList)) : Value))]) rfl rfl rfl (by kernel_rfl) (.inl (congrArg Value.bool e22))), .inr (YD.s (fr (fun _ => undef) [(33, (undef : Value)), (38, (undef : Value)), (28, (.bool (!(x14.toList == x20.toList)) : Value))]) rfl rfl rfl (by kernel_rfl) (.inl (congrArg Value.bool e22))), .inr (YD.s (fr (fun _ => undef) [(37, (undef : Value)), (28, (.bool (!(x14.toList == x20.toList)) : Value))]) rfl rfl rfl (by kernel_rfl) (.inl (congrArg Value.bool e22))), .inr (YD.s (fr (fun _ => undef) [(36, (undef : Value)), (28, (.bool (!(x14.toList == x20.toList)) : Value))]) rfl rfl rfl (by kernel_rfl) (.inl (congrArg Value.bool e22))), .inr (YD.s (fr (fun _ => undef) [(34, (undef : Value)), (35, (undef : Value)), (28, (.bool (!(x14.toList == x20.toList)) : Value))]) rfl rfl rfl (by kernel_rfl) (.inl (congrArg Value.bool e22))), .inr (YD.s (fr (fun _ => undef) [(5, (.int .i64 j3 : Value)), (28, (.bool (!(x14.toList == x20.toList)) : Value))]) rfl rfl rfl (by kernel_rfl) (.inl (congrArg Value.bool e22))), .inr (YD.s (fr (fun _ => undef) [(1, (.slice bA bn bc : Value)), (28, (.bool (!(x14.toList == x20.toList)) : Value))]) rfl rfl rfl (by kernel_rfl) (.inl (congrArg Value.bool e22))), .inr (YD.s (fr (fun _ => undef) [(32, (undef : Value)), (28, (.bool (!(x14.toList == x20.toList)) : Value))]) rfl rfl rfl (by kernel_rfl) (.inl (congrArg Value.bool e22))), .inr (YD.s (fr (fun _ => undef) [(31, (undef : Value)), (28, (.bool (!(x14.toList == x20.toList)) : Value))]) rfl rfl rfl (by kernel_rfl) (.inl (congrArg Value.bool e22))), .inr (YD.s (fr (fun _ => undef) [(29, (undef : Value)), (30, (undef : Value)), (28, (.bool (!(x14.toList == x20.toList)) : Value))]) rfl rfl rfl (by kernel_rfl) (.inl (congrArg Value.bool e22))), .inr (YD.s (fr (fun _ => undef) [(5, (.int .i64 j3 : Value)), (28, (.bool (!(x14.toList == x20.toList)) : Value))]) rfl rfl rfl (by kernel_rfl) (.inl (congrArg Value.bool e22))), .inr (YD.s (fr (fun _ => undef) [(0, (.slice aA an ac : Value)), (28, (.bool (!(x14.toList == x20.toList)) : Value))]) rfl rfl rfl (by kernel_rfl) (.inl (congrArg Value.bool e22))), .inr (YD.u (fr (fun _ => undef) [(27, (.bool (!(x14.toList == x20.toList)) : Value))]) st rfl rfl (by kernel_rfl) (OE.moveV (v := .bool (!(x14.toList == x20.toList))) rfl ⟨rfl, rfl⟩)), .inr (YD.u (fr (fun _ => undef) [(21, (.string x14 : Value)), (26, (.string x20 : Value))]) st rfl rfl (by kernel_rfl) (OE.binS (v := .bool (!(x14.toList == x20.toList))) rfl rfl rfl ⟨rfl, rfl⟩)), .inr (YD.u (fr (fun _ => undef) [(25, (.pointer (some (a16.add (Int.toNat j3 * 2))) : Value))]) st rfl rfl (by kernel_rfl) (OE.load (a := (a16.add (Int.toNat j3 * 2))) (v := .string x20) rfl (LdT.one Tryz.underlying9 rfl hl21) ⟨rfl, rfl⟩)), .inr (YD.u (fr (fun _ => undef) [(24, (.pointer (some (a16.add (Int.toNat j3 * 2))) : Value))]) st rfl rfl (by kernel_rfl) (OE.fieldAddrI (a := (a16.add (Int.toNat j3 * 2))) (o := 0) rfl Tryz.underlying61 rfl Tryz.i9 (by decide) rfl ⟨rfl, rfl⟩)), .inr (YD.u (fr (fun _ => undef) [(22, (.slice bA bn bc : Value)), (23, (.int .i64 j3 : Value))]) st rfl rfl (by kernel_rfl) (OE.indexAddrI (sz := 2) rfl rfl Tryz.underlying42 Tryz.i61 e17 z18 z19 ⟨rfl, rfl⟩)), .inr (YD.u (fr (fun _ => undef) [(5, (.int .i64 j3 : Value))]) st rfl rfl (by kernel_rfl) (OE.moveV (v := .int .i64 j3) rfl ⟨rfl, rfl⟩)), .inr (YD.u (fr (fun _ => undef) [(1, (.slice bA bn bc : Value))]) st rfl rfl (by kernel_rfl) (OE.moveV (v := .slice bA bn bc) rfl ⟨rfl, rfl⟩)), .inr (YD.u (fr (fun _ => undef) [(20, (.pointer (some (a10.add (Int.toNat j3 * 2))) : Value))]) st rfl rfl (by kernel_rfl) (OE.load (a := (a10.add (Int.toNat j3 * 2))) (v := .string x14) rfl (LdT.one Tryz.underlying9 rfl hl15) ⟨rfl, rfl⟩)), .inr (YD.u (fr (fun _ => undef) [(19, (.pointer (some (a10.add (Int.toNat j3 * 2))) : Value))]) st rfl rfl (by kernel_rfl) (OE.fieldAddrI (a := (a10.add (Int.toNat j3 * 2))) (o := 0) rfl Tryz.underlying61 rfl Tryz.i9 (by decide) rfl ⟨rfl, rfl⟩)), .inr (YD.u (fr (fun _ => undef) [(17, (.slice aA an ac : Value)), (18, (.int .i64 j3 : Value))]) st rfl rfl (by kernel_rfl) (OE.indexAddrI (sz := 2) rfl rfl Tryz.underlying42 Tryz.i61 e11 z12 z13 ⟨rfl, rfl⟩)), .inr (YD.u (fr (fun _ => undef) [(5, (.int .i64 j3 : Value))]) st rfl rfl (by kernel_rfl) (OE.moveV (v := .int .i64 j3) rfl ⟨rfl, rfl⟩)), .inr (YD.u (fr (fun _ => undef) [(0, (.slice aA an ac : Value))]) st rfl rfl (by kernel_rfl) (OE.moveV (v := .slice aA an ac) rfl ⟨rfl, rfl⟩)), trivial⟩ ?_
            exact ⟨rfl, true, rfl, rfl, rfl, rfl, H⟩
          · have H := H.2 e22
            refine DW.still (i := 12) (v := .slice aA an ac) (by kernel_rfl) ?_
            refine DW.still (i := 13) (v := .int .i64 j3) (by kernel_rfl) ?_
            obtain ⟨a23, e24, z25, z26, H⟩ := H
            refine DW.still (i := 14) (v := .pointer (some (a23.add (Int.toNat j3 * 2)))) (by kernel_rfl) ?_
            refine DW.still (i := 15) (v := .pointer (some ((a23.add (Int.toNat j3 * 2)).add 1))) (by kernel_rfl) ?_
            obtain ⟨x27A, x27n, x27c, hl28, H⟩ := H
            refine DW.still (i := 16) (v := .slice x27A x27n x27c) (by kernel_rfl) ?_
            refine DW.still (i := 17) (v := .slice bA bn bc) (by kernel_rfl) ?_
            refine DW.still (i := 18) (v := .int .i64 j3) (by kernel_rfl) ?_
            obtain ⟨a29, e30, z31, z32, H⟩ := H
            refine DW.still (i := 19) (v := .pointer (some (a29.add (Int.toNat j3 * 2)))) (by kernel_rfl) ?_
            refine DW.still (i := 20) (v := .pointer (some ((a29.add (Int.toNat j3 * 2)).add 1))) (by kernel_rfl) ?_
            obtain ⟨x33A, x33n, x33c, hl34, H⟩ := H
            refine DW.still (i := 21) (v := .slice x33A x33n x33c) (by kernel_rfl) ?_
            refine DW.loudF (fr (fun _ => undef) [(33, (.slice x27A x27n x27c : Value)), (38, (.slice x33A x33n x33c : Value)), (28, (.bool (!(x14.toList == x20.toList)) : Value))]) st hd (i := 22) rfl (by kernel_rfl) (GuardOK.r (fr (fun _ => undef) [(33, (.slice x27A x27n x27c : Value)), (38, (.slice x33A x33n x33c : Value)), (28, (.bool (!(x14.toList == x20.toList)) : Value))]) rfl rfl rfl (by kernel_rfl) (congrArg Value.bool e22)) (by kernel_rfl) ⟨.inr (YD.r (fr (fun _ => undef) [(37, (.pointer (some ((a29.add (Int.toNat j3 * 2)).add 1)) : Value)), (28, (.bool (!(x14.toList == x20.toList)) : Value))]) st rfl rfl rfl (by kernel_rfl) (congrArg Value.bool e22) (OE.load (a := ((a29.add (Int.toNat j3 * 2)).add 1)) (v := .slice x33A x33n x33c) rfl (LdT.one Tryz.underlying22 rfl hl34) ⟨rfl, rfl⟩)), .inr (YD.r (fr (fun _ => undef) [(36, (.pointer (some (a29.add (Int.toNat j3 * 2))) : Value)), (28, (.bool (!(x14.toList == x20.toList)) : Value))]) st rfl rfl rfl (by kernel_rfl) (congrArg Value.bool e22) (OE.fieldAddrI (a := (a29.add (Int.toNat j3 * 2))) (o := 1) rfl Tryz.underlying61 rfl Tryz.i22 (by decide) rfl ⟨rfl, rfl⟩)), .inr (YD.r (fr (fun _ => undef) [(34, (.slice bA bn bc : Value)), (35, (.int .i64 j3 : Value)), (28, (.bool (!(x14.toList == x20.toList)) : Value))]) st rfl rfl rfl (by kernel_rfl) (congrArg Value.bool e22) (OE.indexAddrI (sz := 2) rfl rfl Tryz.underlying42 Tryz.i61 e30 z31 z32 ⟨rfl, rfl⟩)), .inr (YD.r (fr (fun _ => undef) [(5, (.int .i64 j3 : Value)), (28, (.bool (!(x14.toList == x20.toList)) : Value))]) st rfl rfl rfl (by kernel_rfl) (congrArg Value.bool e22) (OE.moveV (v := .int .i64 j3) rfl ⟨rfl, rfl⟩)), .inr (YD.r (fr (fun _ => undef) [(1, (.slice bA bn bc : Value)), (28, (.bool (!(x14.toList == x20.toList)) : Value))]) st rfl rfl rfl (by kernel_rfl) (congrArg Value.bool e22) (OE.moveV (v := .slice bA bn bc) rfl ⟨rfl, rfl⟩)), .inr (YD.r (fr (fun _ => undef) [(32, (.pointer (some ((a23.add (Int.toNat j3 * 2)).add 1)) : Value)), (28, (.bool (!(x14.toList == x20.toList)) : Value))]) st rfl rfl rfl (by kernel_rfl) (congrArg Value.bool e22) (OE.load (a := ((a23.add (Int.toNat j3 * 2)).add 1)) (v := .slice x27A x27n x27c) rfl (LdT.one Tryz.underlying22 rfl hl28) ⟨rfl, rfl⟩)), .inr (YD.r (fr (fun _ => undef) [(31, (.pointer (some (a23.add (Int.toNat j3 * 2))) : Value)), (28, (.bool (!(x14.toList == x20.toList)) : Value))]) st rfl rfl rfl (by kernel_rfl) (congrArg Value.bool e22) (OE.fieldAddrI (a := (a23.add (Int.toNat j3 * 2))) (o := 1) rfl Tryz.underlying61 rfl Tryz.i22 (by decide) rfl ⟨rfl, rfl⟩)), .inr (YD.r (fr (fun _ => undef) [(29, (.slice aA an ac : Value)), (30, (.int .i64 j3 : Value)), (28, (.bool (!(x14.toList == x20.toList)) : Value))]) st rfl rfl rfl (by kernel_rfl) (congrArg Value.bool e22) (OE.indexAddrI (sz := 2) rfl rfl Tryz.underlying42 Tryz.i61 e24 z25 z26 ⟨rfl, rfl⟩)), .inr (YD.r (fr (fun _ => undef) [(5, (.int .i64 j3 : Value)), (28, (.bool (!(x14.toList == x20.toList)) : Value))]) st rfl rfl rfl (by kernel_rfl) (congrArg Value.bool e22) (OE.moveV (v := .int .i64 j3) rfl ⟨rfl, rfl⟩)), .inr (YD.r (fr (fun _ => undef) [(0, (.slice aA an ac : Value)), (28, (.bool (!(x14.toList == x20.toList)) : Value))]) st rfl rfl rfl (by kernel_rfl) (congrArg Value.bool e22) (OE.moveV (v := .slice aA an ac) rfl ⟨rfl, rfl⟩)), .inr (YD.u (fr (fun _ => undef) [(27, (.bool (!(x14.toList == x20.toList)) : Value))]) st rfl rfl (by kernel_rfl) (OE.moveV (v := .bool (!(x14.toList == x20.toList))) rfl ⟨rfl, rfl⟩)), .inr (YD.u (fr (fun _ => undef) [(21, (.string x14 : Value)), (26, (.string x20 : Value))]) st rfl rfl (by kernel_rfl) (OE.binS (v := .bool (!(x14.toList == x20.toList))) rfl rfl rfl ⟨rfl, rfl⟩)), .inr (YD.u (fr (fun _ => undef) [(25, (.pointer (some (a16.add (Int.toNat j3 * 2))) : Value))]) st rfl rfl (by kernel_rfl) (OE.load (a := (a16.add (Int.toNat j3 * 2))) (v := .string x20) rfl (LdT.one Tryz.underlying9 rfl hl21) ⟨rfl, rfl⟩)), .inr (YD.u (fr (fun _ => undef) [(24, (.pointer (some (a16.add (Int.toNat j3 * 2))) : Value))]) st rfl rfl (by kernel_rfl) (OE.fieldAddrI (a := (a16.add (Int.toNat j3 * 2))) (o := 0) rfl Tryz.underlying61 rfl Tryz.i9 (by decide) rfl ⟨rfl, rfl⟩)), .inr (YD.u (fr (fun _ => undef) [(22, (.slice bA bn bc : Value)), (23, (.int .i64 j3 : Value))]) st rfl rfl (by kernel_rfl) (OE.indexAddrI (sz := 2) rfl rfl Tryz.underlying42 Tryz.i61 e17 z18 z19 ⟨rfl, rfl⟩)), .inr (YD.u (fr (fun _ => undef) [(5, (.int .i64 j3 : Value))]) st rfl rfl (by kernel_rfl) (OE.moveV (v := .int .i64 j3) rfl ⟨rfl, rfl⟩)), .inr (YD.u (fr (fun _ => undef) [(1, (.slice bA bn bc : Value))]) st rfl rfl (by kernel_rfl) (OE.moveV (v := .slice bA bn bc) rfl ⟨rfl, rfl⟩)), .inr (YD.u (fr (fun _ => undef) [(20, (.pointer (some (a10.add (Int.toNat j3 * 2))) : Value))]) st rfl rfl (by kernel_rfl) (OE.load (a := (a10.add (Int.toNat j3 * 2))) (v := .string x14) rfl (LdT.one Tryz.underlying9 rfl hl15) ⟨rfl, rfl⟩)), .inr (YD.u (fr (fun _ => undef) [(19, (.pointer (some (a10.add (Int.toNat j3 * 2))) : Value))]) st rfl rfl (by kernel_rfl) (OE.fieldAddrI (a := (a10.add (Int.toNat j3 * 2))) (o := 0) rfl Tryz.underlying61 rfl Tryz.i9 (by decide) rfl ⟨rfl, rfl⟩)), .inr (YD.u (fr (fun _ => undef) [(17, (.slice aA an ac : Value)), (18, (.int .i64 j3 : Value))]) st rfl rfl (by kernel_rfl) (OE.indexAddrI (sz := 2) rfl rfl Tryz.underlying42 Tryz.i61 e11 z12 z13 ⟨rfl, rfl⟩)), .inr (YD.u (fr (fun _ => undef) [(5, (.int .i64 j3 : Value))]) st rfl rfl (by kernel_rfl) (OE.moveV (v := .int .i64 j3) rfl ⟨rfl, rfl⟩)), .inr (YD.u (fr (fun _ => undef) [(0, (.slice aA an ac : Value))]) st rfl rfl (by kernel_rfl) (OE.moveV (v := .slice aA an ac) rfl ⟨rfl, rfl⟩)), trivial⟩ (OE.callL (args := [.slice x27A x27n x27c, .slice x33A x33n x33c]) Tryz.func19 rfl Tryz.nn19 rfl rfl (CHE.mono H (fun r35 h36 H => ?_) (fun _ _ e => e.elim)))
            obtain ⟨y37, rfl, H⟩ := H
            refine DW.still (i := 23) (v := .bool (!y37)) (by kernel_rfl) ?_
            refine DW.still (i := 24) (v := .bool (!y37)) (by kernel_rfl) ?_
            refine DW.finL st hd [(17, (.slice aA an ac : Value)), (18, (.int .i64 j3 : Value)), (19, (.pointer (some (a10.add (Int.toNat j3 * 2))) : Value)), (20, (.pointer (some (a10.add (Int.toNat j3 * 2))) : Value)), (21, (.string x14 : Value)), (22, (.slice bA bn bc : Value)), (23, (.int .i64 j3 : Value)), (24, (.pointer (some (a16.add (Int.toNat j3 * 2))) : Value)), (25, (.pointer (some (a16.add (Int.toNat j3 * 2))) : Value)), (26, (.string x20 : Value)), (27, (.bool (!(x14.toList == x20.toList)) : Value)), (28, (.bool (!(x14.toList == x20.toList)) : Value)), (29, (.slice aA an ac : Value)), (30, (.int .i64 j3 : Value)), (31, (.pointer (some (a23.add (Int.toNat j3 * 2))) : Value)), (32, (.pointer (some ((a23.add (Int.toNat j3 * 2)).add 1)) : Value)), (33, (.slice x27A x27n x27c : Value)), (34, (.slice bA bn bc : Value)), (35, (.int .i64 j3 : Value)), (36, (.pointer (some (a29.add (Int.toNat j3 * 2))) : Value)), (37, (.pointer (some ((a29.add (Int.toNat j3 * 2)).add 1)) : Value)), (38, (.slice x33A x33n x33c : Value)), (39, (.bool y37 : Value)), (40, (.bool (!y37) : Value)), (41, (.bool (!y37) : Value))] (by kernel_rfl) (by kernel_rfl) ⟨.inr (YD.u (fr (fun _ => undef) [(28, (.bool (!(x14.toList == x20.toList)) : Value)), (40, (.bool (!y37) : Value))]) st rfl rfl (by kernel_rfl) (OE.pickV (t := false) (v := .bool (!y37)) (congrArg Value.bool e22) rfl ⟨rfl, rfl⟩)), .inr (YD.r (fr (fun _ => undef) [(39, (.bool y37 : Value)), (28, (.bool (!(x14.toList == x20.toList)) : Value))]) st rfl rfl rfl (by kernel_rfl) (congrArg Value.bool e22) (OE.not rfl ⟨rfl, rfl⟩)), .inl (by kernel_rfl), .inl (by kernel_rfl), .inl (by kernel_rfl), .inl (by kernel_rfl), .inl (by kernel_rfl), .inl (by kernel_rfl), .inl (by kernel_rfl), .inl (by kernel_rfl), .inl (by kernel_rfl), .inl (by kernel_rfl), .inl (by kernel_rfl), .inl (by kernel_rfl), .inl (by kernel_rfl), .inl (by kernel_rfl), .inl (by kernel_rfl), .inl (by kernel_rfl), .inl (by kernel_rfl), .inl (by kernel_rfl), .inl (by kernel_rfl), .inl (by kernel_rfl), .inl (by kernel_rfl), .inl (by kernel_rfl), .inl (by kernel_rfl), trivial⟩ ?_
            exact ⟨rfl, (!y37), rfl, rfl, rfl, rfl, H⟩
      · have H := H.2 e6
        refine VC.exit ?_
        exact ⟨rfl, H⟩

def D_treadlelaw3_known.J2 (R : Value → Hp → Prop)  (y3_0 : Option Addr) (j7 : Bool) (h8 : Hp) : Prop :=
  ((j7 = true → R (.bool false) h8) ∧ (j7 = false → (∀ b11 h10, b11 = Array.size h8 → h10 = Array.push h8 (.cells #[.int .i64 0] 3) → (∀ b13 h12, b13 = Array.size h10 → h12 = Array.push h10 (.cells #[.int .i64 1, .slice (some (Addr.mk b11 0 none)) 1 1] 59) → CH Tryz.prog 20 #[.pointer y3_0, .agg #[.int .i64 0, .slice none 0 0, .slice (some (Addr.mk b13 0 none)) 1 1]] h12 (fun r14 h15 => ∃ y16A : Option Addr, ∃ y16n : Nat, ∃ y16c : Nat, r14 = .slice y16A y16n y16c ∧ CH Tryz.prog 18 #[.pointer y3_0, .string (ByteArray.mk #[97])] h15 (fun r17 h18 => ∃ y19_0A : Option Addr, ∃ y19_0n : Nat, ∃ y19_0c : Nat, ∃ y19_1 : Int, r17 = .tuple #[.slice y19_0A y19_0n y19_0c, .int .i64 y19_1] ∧ (((((y16n : Nat) : Int) == 1) = true → (∃ a21 : Addr, y16A = some a21 ∧ (0 : Int) ≤ 0 ∧ 0 < (y16n : Int) ∧ (∃ x25A : Option Addr, ∃ x25n : Nat, ∃ x25c : Nat, cell h18 ((a21.add (Int.toNat 0 * 2)).add 1) = some (.slice x25A x25n x25c) ∧ (((((x25n : Nat) : Int) == 24) = true → (∃ a28 : Addr, y16A = some a28 ∧ (0 : Int) ≤ 0 ∧ 0 < (y16n : Int) ∧ (∃ x32A : Option Addr, ∃ x32n : Nat, ∃ x32c : Nat, cell h18 ((a28.add (Int.toNat 0 * 2)).add 1) = some (.slice x32A x32n x32c) ∧ (∃ a34 : Addr, x32A = some a34 ∧ (0 : Int) ≤ 4 ∧ 4 < (x32n : Int) ∧ (∃ x38 : Int, cell h18 (a34.add (Int.toNat 4 * 1)) = some (.int .u8 x38) ∧ (((x38 == 7) = true → (((y19_1 == 0) = true → (((((y19_0n : Nat) : Int) == 24) = true → (∃ a43 : Addr, y19_0A = some a43 ∧ (0 : Int) ≤ 3 ∧ 3 < (y19_0n : Int) ∧ (∃ x47 : Int, cell h18 (a43.add (Int.toNat 3 * 1)) = some (.int .u8 x47) ∧ (((x47 == 5) = true → (∃ a50 : Addr, y19_0A = some a50 ∧ (0 : Int) ≤ 4 ∧ 4 < (y19_0n : Int) ∧ (∃ x54 : Int, cell h18 (a50.add (Int.toNat 4 * 1)) = some (.int .u8 x54) ∧ (((x54 == 0) = true → (∃ a57 : Addr, y19_0A = some a57 ∧ (0 : Int) ≤ 15 ∧ 15 < (y19_0n : Int) ∧ (∃ x61 : Int, cell h18 (a57.add (Int.toNat 15 * 1)) = some (.int .u8 x61) ∧ (((x61 == 0) = true → (∃ a64 : Addr, y19_0A = some a64 ∧ (0 : Int) ≤ 16 ∧ 16 < (y19_0n : Int) ∧ (∃ x68 : Int, cell h18 (a64.add (Int.toNat 16 * 1)) = some (.int .u8 x68) ∧ (((x68 == 7) = true → CH Tryz.prog 38 #[.pointer y3_0] h18 (fun r71 h72 => ∃ y73 : Int, r71 = .int .i64 y73 ∧ R (.bool (y73 == 1)) h72)) ∧ ((x68 == 7) = false → R (.bool false) h18))))) ∧ ((x61 == 0) = false → R (.bool false) h18))))) ∧ ((x54 == 0) = false → R (.bool false) h18))))) ∧ ((x47 == 5) = false → R (.bool false) h18))))) ∧ ((((y19_0n : Nat) : Int) == 24) = false → R (.bool false) h18))) ∧ ((y19_1 == 0) = false → R (.bool false) h18))) ∧ ((x38 == 7) = false → R (.bool false) h18))))))) ∧ ((((x25n : Nat) : Int) == 24) = false → R (.bool false) h18))))) ∧ ((((y16n : Nat) : Int) == 1) = false → R (.bool false) h18))))))))
def D_treadlelaw3_known.J1 (R : Value → Hp → Prop)  (y3_0 : Option Addr) (j4 : Bool) (h5 : Hp) : Prop :=
  ((j4 = true → R (.bool false) h5) ∧ (j4 = false → (∀ b82 h81, b82 = Array.size h5 → h81 = Array.push h5 (.cells #[.int .u8 7, .int .u8 7, .int .u8 7, .int .u8 7, .int .u8 7, .int .u8 7, .int .u8 7, .int .u8 7, .int .u8 7, .int .u8 7, .int .u8 7, .int .u8 7, .int .u8 7, .int .u8 7, .int .u8 7, .int .u8 7, .int .u8 7, .int .u8 7, .int .u8 7, .int .u8 7] 5) → CH Tryz.prog 12 #[.pointer y3_0, .string (ByteArray.mk #[97]), .slice (some (Addr.mk b82 0 none)) 20 20] h81 (fun r83 h84 => ∃ y85 : Int, r83 = .int .i64 y85 ∧ (((y85 != 0) = true → D_treadlelaw3_known.J2 R  y3_0 true h84) ∧ ((y85 != 0) = false → CH Tryz.prog 14 #[.pointer y3_0] h84 (fun r87 h88 => ∃ y89 : Int, r87 = .int .i64 y89 ∧ (((y89 != 0) = true → D_treadlelaw3_known.J2 R  y3_0 true h88) ∧ ((y89 != 0) = false → CH Tryz.prog 37 #[.pointer y3_0] h88 (fun r91 h92 => ∃ y93 : Int, r91 = .int .i64 y93 ∧ D_treadlelaw3_known.J2 R  y3_0 (y93 != 5) h92))))))))))
def D_treadlelaw3_known (R : Value → Hp → Prop)  (h : Hp) : Prop :=
  CH Tryz.prog 22 #[.int .i64 100, .int .i64 3] h (fun r1 h2 => ∃ y3_0 : Option Addr, ∃ y3_1 : Int, r1 = .tuple #[.pointer y3_0, .int .i64 y3_1] ∧ (((y3_1 != 0) = true → D_treadlelaw3_known.J1 R  y3_0 true h2) ∧ ((y3_1 != 0) = false → (((Option.isNone y3_0) = true → D_treadlelaw3_known.J1 R  y3_0 true h2) ∧ ((Option.isNone y3_0) = false → CH Tryz.prog 11 #[.pointer y3_0, .string (ByteArray.mk #[97])] h2 (fun r101 h102 => ∃ y103 : Int, r101 = .int .i64 y103 ∧ (((y103 != 0) = true → D_treadlelaw3_known.J1 R  y3_0 true h102) ∧ ((y103 != 0) = false → CH Tryz.prog 11 #[.pointer y3_0, .string (ByteArray.mk #[97])] h102 (fun r105 h106 => ∃ y107 : Int, r105 = .int .i64 y107 ∧ (((y107 != 7) = true → D_treadlelaw3_known.J1 R  y3_0 true h106) ∧ ((y107 != 7) = false → (∀ b110 h109, b110 = Array.size h106 → h109 = Array.push h106 (.cells #[.int .u8 5, .int .u8 5, .int .u8 5, .int .u8 5] 5) → CH Tryz.prog 12 #[.pointer y3_0, .string (ByteArray.mk #[97]), .slice (some (Addr.mk b110 0 none)) 4 4] h109 (fun r111 h112 => ∃ y113 : Int, r111 = .int .i64 y113 ∧ (((y113 != 0) = true → D_treadlelaw3_known.J1 R  y3_0 true h112) ∧ ((y113 != 0) = false → CH Tryz.prog 13 #[.pointer y3_0, .string (ByteArray.mk #[97])] h112 (fun r115 h116 => ∃ y117 : Int, r115 = .int .i64 y117 ∧ D_treadlelaw3_known.J1 R  y3_0 (y117 != 0) h116))))))))))))))))
set_option maxRecDepth 10000 in
set_option maxHeartbeats 4000000 in
theorem D_treadlelaw3_known.sound {R : Value → Hp → Prop}  {h : Hp} (H : D_treadlelaw3_known R   h) : CH Tryz.prog 9 #[] h R := by
  refine CHE.enter (n := 119) Tryz.func9 rfl rfl (Nat.le_of_ble_eq_true rfl) ?_
  unfold D_treadlelaw3_known at H
  refine VC.seq ?_
  refine VC.region ?_
  refine VL.stepD rfl rfl (by decide) (OE.assignV (v := .bool false) rfl ?_)
  refine VL.nil ?_
  change VC _ _ _ _ _ _ _
  refine VC.seq ?_
  refine VC.region ?_
  refine VL.stepD rfl rfl (by decide) (OE.callL (args := [.int .i64 100, .int .i64 3]) Tryz.func22 rfl Tryz.nn22 rfl rfl (CHE.mono H (fun r1 h2 H => ?_) (fun _ _ e => e.elim)))
  obtain ⟨y3_0, y3_1, rfl, H⟩ := H
  refine VL.stepD rfl rfl (by decide) (OE.moveV (v := .tuple #[.pointer y3_0, .int .i64 y3_1]) rfl ?_)
  refine VL.stepD rfl rfl (by decide) (OE.extract (v := .pointer y3_0) rfl rfl ?_)
  refine VL.stepD rfl rfl (by decide) (OE.extract (v := .int .i64 y3_1) rfl rfl ?_)
  refine VL.stepD rfl rfl (by decide) (OE.assignV (v := .pointer y3_0) rfl ?_)
  refine VL.stepD rfl rfl (by decide) (OE.assignV (v := .int .i64 y3_1) rfl ?_)
  refine VL.nil ?_
  change VC _ _ _ _ _ _ _
  refine VC.seq ?_
  refine VC.seqJ (fun f h5 => ∃ j4 : Bool, f 1 = (.pointer y3_0 : Value) ∧ f 35 = (.bool j4 : Value) ∧ D_treadlelaw3_known.J1 R  y3_0 j4 h5) ?_ ?_
  · intro f h5 J
    obtain ⟨j4, hk1, hk35, H⟩ := J
    rw [← fr_self f [(1, .pointer y3_0), (35, .bool j4)] (by simp only [List.mem_cons, List.not_mem_nil, or_false]; rintro p (rfl | rfl) <;> assumption)]
    unfold D_treadlelaw3_known.J1 at H
    refine VC.cond (t := j4) rfl (fun e6 => ?_) (fun e6 => ?_)
    · have H := H.1 e6
      refine VC.seq ?_
      refine VC.region ?_
      refine VL.stepD rfl rfl (by decide) (OE.assignV (v := .bool false) rfl ?_)
      refine VL.nil ?_
      change VC _ _ _ _ _ _ _
      refine VC.ret ?_
      exact ⟨rfl, _, ResOK.t1 rfl (v := .bool false) rfl, H⟩
    · have H := H.2 e6
      refine VC.skip ?_
      change VC _ _ _ _ _ _ _
      refine VC.seq ?_
      refine VC.seqJ (fun f h8 => ∃ j7 : Bool, f 1 = (.pointer y3_0 : Value) ∧ f 49 = (.bool j7 : Value) ∧ D_treadlelaw3_known.J2 R  y3_0 j7 h8) ?_ ?_
      · intro f h8 J
        obtain ⟨j7, hk1, hk49, H⟩ := J
        rw [← fr_self f [(1, .pointer y3_0), (49, .bool j7)] (by simp only [List.mem_cons, List.not_mem_nil, or_false]; rintro p (rfl | rfl) <;> assumption)]
        unfold D_treadlelaw3_known.J2 at H
        refine VC.cond (t := j7) rfl (fun e9 => ?_) (fun e9 => ?_)
        · have H := H.1 e9
          refine VC.seq ?_
          refine VC.region ?_
          refine VL.stepD rfl rfl (by decide) (OE.assignV (v := .bool false) rfl ?_)
          refine VL.nil ?_
          change VC _ _ _ _ _ _ _
          refine VC.ret ?_
          exact ⟨rfl, _, ResOK.t1 rfl (v := .bool false) rfl, H⟩
        · have H := H.2 e9
          refine VC.skip ?_
          change VC _ _ _ _ _ _ _
          refine VC.seq ?_
          refine VC.region ?_
          refine VL.stepD rfl rfl (by decide) (OE.moveV (v := .pointer y3_0) rfl ?_)
          obtain ⟨b11, eb79⟩ : ∃ b11, b11 = Array.size h8 := ⟨_, rfl⟩
          obtain ⟨h10, eh80⟩ : ∃ h10, h10 = Array.push h8 (.cells #[.int .i64 0] 3) := ⟨_, rfl⟩
          have H := H b11 h10 eb79 eh80
          refine VL.stepD rfl rfl (by decide) (OE.buildSliceE (ps := [(0, (.int .i64 0 : Value))]) (cells := #[.int .i64 0]) (e := 3) rfl (Tryz.bf6 _) eb79 eh80 ?_)
          refine VL.stepD rfl rfl (by decide) (OE.buildV (ps := [(0, (.int .i64 1 : Value)), (1, (.slice (some (Addr.mk b11 0 none)) 1 1 : Value))]) rfl (Tryz.bf3 _ _ _ _) ?_)
          obtain ⟨b13, eb77⟩ : ∃ b13, b13 = Array.size h10 := ⟨_, rfl⟩
          obtain ⟨h12, eh78⟩ : ∃ h12, h12 = Array.push h10 (.cells #[.int .i64 1, .slice (some (Addr.mk b11 0 none)) 1 1] 59) := ⟨_, rfl⟩
          have H := H b13 h12 eb77 eh78
          refine VL.stepD rfl rfl (by decide) (OE.buildSliceE (ps := [(0, (.agg #[.int .i64 1, .slice (some (Addr.mk b11 0 none)) 1 1] : Value))]) (cells := #[.int .i64 1, .slice (some (Addr.mk b11 0 none)) 1 1]) (e := 59) rfl (Tryz.bf5 _ _ _ _) eb77 eh78 ?_)
          refine VL.stepD rfl rfl (by decide) (OE.buildV (ps := [(2, (.slice (some (Addr.mk b13 0 none)) 1 1 : Value))]) rfl (Tryz.bf4 _ _ _) ?_)
          refine VL.stepD rfl rfl (by decide) (OE.callL (args := [.pointer y3_0, .agg #[.int .i64 0, .slice none 0 0, .slice (some (Addr.mk b13 0 none)) 1 1]]) Tryz.func20 rfl Tryz.nn20 rfl rfl (CHE.mono H (fun r14 h15 H => ?_) (fun _ _ e => e.elim)))
          obtain ⟨y16A, y16n, y16c, rfl, H⟩ := H
          refine VL.stepD rfl rfl (by decide) (OE.assignV (v := .slice y16A y16n y16c) rfl ?_)
          refine VL.nil ?_
          change VC _ _ _ _ _ _ _
          refine VC.seq ?_
          refine VC.region ?_
          refine VL.stepD rfl rfl (by decide) (OE.moveV (v := .pointer y3_0) rfl ?_)
          refine VL.stepD rfl rfl (by decide) (OE.callL (args := [.pointer y3_0, .string (ByteArray.mk #[97])]) Tryz.func18 rfl Tryz.nn18 rfl rfl (CHE.mono H (fun r17 h18 H => ?_) (fun _ _ e => e.elim)))
          obtain ⟨y19_0A, y19_0n, y19_0c, y19_1, rfl, H⟩ := H
          refine VL.stepD rfl rfl (by decide) (OE.moveV (v := .tuple #[.slice y19_0A y19_0n y19_0c, .int .i64 y19_1]) rfl ?_)
          refine VL.stepD rfl rfl (by decide) (OE.extract (v := .slice y19_0A y19_0n y19_0c) rfl rfl ?_)
          refine VL.stepD rfl rfl (by decide) (OE.extract (v := .int .i64 y19_1) rfl rfl ?_)
          refine VL.stepD rfl rfl (by decide) (OE.assignV (v := .slice y19_0A y19_0n y19_0c) rfl ?_)
          refine VL.stepD rfl rfl (by decide) (OE.assignV (v := .int .i64 y19_1) rfl ?_)
          refine VL.nil ?_
          change VC _ _ _ _ _ _ _
          refine VC.seq ?_
          refine VC.region ?_
          refine VL.stepD rfl rfl (by decide) (OE.moveV (v := .slice y16A y16n y16c) rfl ?_)
          refine VL.stepD rfl rfl (by decide) (OE.lenSlice rfl Tryz.underlying42 ?_)
          refine VL.stepD rfl rfl (by decide) (OE.binI (v := .bool (((y16n : Nat) : Int) == 1)) rfl rfl rfl ?_)
          refine VL.stepD rfl rfl (by decide) (OE.moveV (v := .bool (((y16n : Nat) : Int) == 1)) rfl ?_)
          refine boolSplit ((((y16n : Nat) : Int) == 1)) (fun e20 => ?_) (fun e20 => ?_)
          · have H := H.1 e20
            refine VL.gstepD rfl rfl (by decide) (congrArg Value.bool e20) rfl (by decide) (OE.moveV (v := .slice y16A y16n y16c) rfl ?_)
            obtain ⟨a21, e22, z23, z24, H⟩ := H
            refine VL.gstepD rfl rfl (by decide) (congrArg Value.bool e20) rfl (by decide) (OE.indexAddrI (sz := 2) rfl rfl Tryz.underlying42 Tryz.i61 e22 z23 z24 ?_)
            refine VL.gstepD rfl rfl (by decide) (congrArg Value.bool e20) rfl (by decide) (OE.fieldAddrI (a := (a21.add (Int.toNat 0 * 2))) (o := 1) rfl Tryz.underlying61 rfl Tryz.i22 (by decide) rfl ?_)
            obtain ⟨x25A, x25n, x25c, hl26, H⟩ := H
            refine VL.gstepD rfl rfl (by decide) (congrArg Value.bool e20) rfl (by decide) (OE.load (a := ((a21.add (Int.toNat 0 * 2)).add 1)) (v := .slice x25A x25n x25c) rfl (LdT.one Tryz.underlying22 rfl hl26) ?_)
            refine VL.gstepD rfl rfl (by decide) (congrArg Value.bool e20) rfl (by decide) (OE.lenSlice rfl Tryz.underlying22 ?_)
            refine VL.gstepD rfl rfl (by decide) (congrArg Value.bool e20) rfl (by decide) (OE.binI (v := .bool (((x25n : Nat) : Int) == 24)) rfl rfl rfl ?_)
            refine VL.stepD rfl rfl (by decide) (OE.pickV (t := true) (v := .bool (((x25n : Nat) : Int) == 24)) (congrArg Value.bool e20) rfl ?_)
            refine VL.stepD rfl rfl (by decide) (OE.moveV (v := .bool (((x25n : Nat) : Int) == 24)) rfl ?_)
            refine boolSplit ((((x25n : Nat) : Int) == 24)) (fun e27 => ?_) (fun e27 => ?_)
            · have H := H.1 e27
              refine VL.gstepD rfl rfl (by decide) (congrArg Value.bool e27) rfl (by decide) (OE.moveV (v := .slice y16A y16n y16c) rfl ?_)
              obtain ⟨a28, e29, z30, z31, H⟩ := H
              refine VL.gstepD rfl rfl (by decide) (congrArg Value.bool e27) rfl (by decide) (OE.indexAddrI (sz := 2) rfl rfl Tryz.underlying42 Tryz.i61 e29 z30 z31 ?_)
              refine VL.gstepD rfl rfl (by decide) (congrArg Value.bool e27) rfl (by decide) (OE.fieldAddrI (a := (a28.add (Int.toNat 0 * 2))) (o := 1) rfl Tryz.underlying61 rfl Tryz.i22 (by decide) rfl ?_)
              obtain ⟨x32A, x32n, x32c, hl33, H⟩ := H
              refine VL.gstepD rfl rfl (by decide) (congrArg Value.bool e27) rfl (by decide) (OE.load (a := ((a28.add (Int.toNat 0 * 2)).add 1)) (v := .slice x32A x32n x32c) rfl (LdT.one Tryz.underlying22 rfl hl33) ?_)
              obtain ⟨a34, e35, z36, z37, H⟩ := H
              refine VL.gstepD rfl rfl (by decide) (congrArg Value.bool e27) rfl (by decide) (OE.indexAddrI (sz := 1) rfl rfl Tryz.underlying22 Tryz.i5 e35 z36 z37 ?_)
              obtain ⟨x38, hl39, H⟩ := H
              refine VL.gstepD rfl rfl (by decide) (congrArg Value.bool e27) rfl (by decide) (OE.load (a := (a34.add (Int.toNat 4 * 1))) (v := .int .u8 x38) rfl (LdT.one Tryz.underlying5 rfl hl39) ?_)
              refine VL.gstepD rfl rfl (by decide) (congrArg Value.bool e27) rfl (by decide) (OE.binI (v := .bool (x38 == 7)) rfl rfl rfl ?_)
              refine VL.stepD rfl rfl (by decide) (OE.pickV (t := true) (v := .bool (x38 == 7)) (congrArg Value.bool e27) rfl ?_)
              refine VL.stepD rfl rfl (by decide) (OE.moveV (v := .bool (x38 == 7)) rfl ?_)
              refine boolSplit ((x38 == 7)) (fun e40 => ?_) (fun e40 => ?_)
              · have H := H.1 e40
                refine VL.gstepD rfl rfl (by decide) (congrArg Value.bool e40) rfl (by decide) (OE.moveV (v := .int .i64 y19_1) rfl ?_)
                refine VL.gstepD rfl rfl (by decide) (congrArg Value.bool e40) rfl (by decide) (OE.binI (v := .bool (y19_1 == 0)) rfl rfl rfl ?_)
                refine VL.stepD rfl rfl (by decide) (OE.pickV (t := true) (v := .bool (y19_1 == 0)) (congrArg Value.bool e40) rfl ?_)
                refine VL.stepD rfl rfl (by decide) (OE.moveV (v := .bool (y19_1 == 0)) rfl ?_)
                refine boolSplit ((y19_1 == 0)) (fun e41 => ?_) (fun e41 => ?_)
                · have H := H.1 e41
                  refine VL.gstepD rfl rfl (by decide) (congrArg Value.bool e41) rfl (by decide) (OE.moveV (v := .slice y19_0A y19_0n y19_0c) rfl ?_)
                  refine VL.gstepD rfl rfl (by decide) (congrArg Value.bool e41) rfl (by decide) (OE.lenSlice rfl Tryz.underlying22 ?_)
                  refine VL.gstepD rfl rfl (by decide) (congrArg Value.bool e41) rfl (by decide) (OE.binI (v := .bool (((y19_0n : Nat) : Int) == 24)) rfl rfl rfl ?_)
                  refine VL.stepD rfl rfl (by decide) (OE.pickV (t := true) (v := .bool (((y19_0n : Nat) : Int) == 24)) (congrArg Value.bool e41) rfl ?_)
                  refine VL.stepD rfl rfl (by decide) (OE.moveV (v := .bool (((y19_0n : Nat) : Int) == 24)) rfl ?_)
                  refine boolSplit ((((y19_0n : Nat) : Int) == 24)) (fun e42 => ?_) (fun e42 => ?_)
                  · have H := H.1 e42
                    refine VL.gstepD rfl rfl (by decide) (congrArg Value.bool e42) rfl (by decide) (OE.moveV (v := .slice y19_0A y19_0n y19_0c) rfl ?_)
                    obtain ⟨a43, e44, z45, z46, H⟩ := H
                    refine VL.gstepD rfl rfl (by decide) (congrArg Value.bool e42) rfl (by decide) (OE.indexAddrI (sz := 1) rfl rfl Tryz.underlying22 Tryz.i5 e44 z45 z46 ?_)
                    obtain ⟨x47, hl48, H⟩ := H
                    refine VL.gstepD rfl rfl (by decide) (congrArg Value.bool e42) rfl (by decide) (OE.load (a := (a43.add (Int.toNat 3 * 1))) (v := .int .u8 x47) rfl (LdT.one Tryz.underlying5 rfl hl48) ?_)
                    refine VL.gstepD rfl rfl (by decide) (congrArg Value.bool e42) rfl (by decide) (OE.binI (v := .bool (x47 == 5)) rfl rfl rfl ?_)
                    refine VL.stepD rfl rfl (by decide) (OE.pickV (t := true) (v := .bool (x47 == 5)) (congrArg Value.bool e42) rfl ?_)
                    refine VL.stepD rfl rfl (by decide) (OE.moveV (v := .bool (x47 == 5)) rfl ?_)
                    refine boolSplit ((x47 == 5)) (fun e49 => ?_) (fun e49 => ?_)
                    · have H := H.1 e49
                      refine VL.gstepD rfl rfl (by decide) (congrArg Value.bool e49) rfl (by decide) (OE.moveV (v := .slice y19_0A y19_0n y19_0c) rfl ?_)
                      obtain ⟨a50, e51, z52, z53, H⟩ := H
                      refine VL.gstepD rfl rfl (by decide) (congrArg Value.bool e49) rfl (by decide) (OE.indexAddrI (sz := 1) rfl rfl Tryz.underlying22 Tryz.i5 e51 z52 z53 ?_)
                      obtain ⟨x54, hl55, H⟩ := H
                      refine VL.gstepD rfl rfl (by decide) (congrArg Value.bool e49) rfl (by decide) (OE.load (a := (a50.add (Int.toNat 4 * 1))) (v := .int .u8 x54) rfl (LdT.one Tryz.underlying5 rfl hl55) ?_)
                      refine VL.gstepD rfl rfl (by decide) (congrArg Value.bool e49) rfl (by decide) (OE.binI (v := .bool (x54 == 0)) rfl rfl rfl ?_)
                      refine VL.stepD rfl rfl (by decide) (OE.pickV (t := true) (v := .bool (x54 == 0)) (congrArg Value.bool e49) rfl ?_)
                      refine VL.stepD rfl rfl (by decide) (OE.moveV (v := .bool (x54 == 0)) rfl ?_)
                      refine boolSplit ((x54 == 0)) (fun e56 => ?_) (fun e56 => ?_)
                      · have H := H.1 e56
                        refine VL.gstepD rfl rfl (by decide) (congrArg Value.bool e56) rfl (by decide) (OE.moveV (v := .slice y19_0A y19_0n y19_0c) rfl ?_)
                        obtain ⟨a57, e58, z59, z60, H⟩ := H
                        refine VL.gstepD rfl rfl (by decide) (congrArg Value.bool e56) rfl (by decide) (OE.indexAddrI (sz := 1) rfl rfl Tryz.underlying22 Tryz.i5 e58 z59 z60 ?_)
                        obtain ⟨x61, hl62, H⟩ := H
                        refine VL.gstepD rfl rfl (by decide) (congrArg Value.bool e56) rfl (by decide) (OE.load (a := (a57.add (Int.toNat 15 * 1))) (v := .int .u8 x61) rfl (LdT.one Tryz.underlying5 rfl hl62) ?_)
                        refine VL.gstepD rfl rfl (by decide) (congrArg Value.bool e56) rfl (by decide) (OE.binI (v := .bool (x61 == 0)) rfl rfl rfl ?_)
                        refine VL.stepD rfl rfl (by decide) (OE.pickV (t := true) (v := .bool (x61 == 0)) (congrArg Value.bool e56) rfl ?_)
                        refine VL.stepD rfl rfl (by decide) (OE.moveV (v := .bool (x61 == 0)) rfl ?_)
                        refine boolSplit ((x61 == 0)) (fun e63 => ?_) (fun e63 => ?_)
                        · have H := H.1 e63
                          refine VL.gstepD rfl rfl (by decide) (congrArg Value.bool e63) rfl (by decide) (OE.moveV (v := .slice y19_0A y19_0n y19_0c) rfl ?_)
                          obtain ⟨a64, e65, z66, z67, H⟩ := H
                          refine VL.gstepD rfl rfl (by decide) (congrArg Value.bool e63) rfl (by decide) (OE.indexAddrI (sz := 1) rfl rfl Tryz.underlying22 Tryz.i5 e65 z66 z67 ?_)
                          obtain ⟨x68, hl69, H⟩ := H
                          refine VL.gstepD rfl rfl (by decide) (congrArg Value.bool e63) rfl (by decide) (OE.load (a := (a64.add (Int.toNat 16 * 1))) (v := .int .u8 x68) rfl (LdT.one Tryz.underlying5 rfl hl69) ?_)
                          refine VL.gstepD rfl rfl (by decide) (congrArg Value.bool e63) rfl (by decide) (OE.binI (v := .bool (x68 == 7)) rfl rfl rfl ?_)
                          refine VL.stepD rfl rfl (by decide) (OE.pickV (t := true) (v := .bool (x68 == 7)) (congrArg Value.bool e63) rfl ?_)
                          refine VL.stepD rfl rfl (by decide) (OE.moveV (v := .bool (x68 == 7)) rfl ?_)
                          refine boolSplit ((x68 == 7)) (fun e70 => ?_) (fun e70 => ?_)
                          · have H := H.1 e70
                            refine VL.gstepD rfl rfl (by decide) (congrArg Value.bool e70) rfl (by decide) (OE.moveV (v := .pointer y3_0) rfl ?_)
                            refine VL.gstepD rfl rfl (by decide) (congrArg Value.bool e70) rfl (by decide) (OE.callL (args := [.pointer y3_0]) Tryz.func38 rfl Tryz.nn38 rfl rfl (CHE.mono H (fun r71 h72 H => ?_) (fun _ _ e => e.elim)))
                            obtain ⟨y73, rfl, H⟩ := H
                            refine VL.gstepD rfl rfl (by decide) (congrArg Value.bool e70) rfl (by decide) (OE.binI (v := .bool (y73 == 1)) rfl rfl rfl ?_)
                            refine VL.stepD rfl rfl (by decide) (OE.pickV (t := true) (v := .bool (y73 == 1)) (congrArg Value.bool e70) rfl ?_)
                            refine VL.stepD rfl rfl (by decide) (OE.assignV (v := .bool (y73 == 1)) rfl ?_)
                            refine VL.nil ?_
                            change VC _ _ _ _ _ _ _
                            refine VC.ret ?_
                            exact ⟨rfl, _, ResOK.t1 rfl (v := .bool (y73 == 1)) rfl, H⟩
                          · have H := H.2 e70
                            refine VL.gskipD rfl rfl (by decide) (.inl (congrArg Value.bool e70)) rfl (by decide) ?_
                            refine VL.gskipD rfl rfl (by decide) (.inl (congrArg Value.bool e70)) rfl (by decide) ?_
                            refine VL.gskipD rfl rfl (by decide) (.inl (congrArg Value.bool e70)) rfl (by decide) ?_
                            refine VL.stepD rfl rfl (by decide) (OE.pickV (t := false) (v := .bool false) (congrArg Value.bool e70) rfl ?_)
                            refine VL.stepD rfl rfl (by decide) (OE.assignV (v := .bool false) rfl ?_)
                            refine VL.nil ?_
                            change VC _ _ _ _ _ _ _
                            refine VC.ret ?_
                            exact ⟨rfl, _, ResOK.t1 rfl (v := .bool false) rfl, H⟩
                        · have H := H.2 e63
                          refine VL.gskipD rfl rfl (by decide) (.inl (congrArg Value.bool e63)) rfl (by decide) ?_
                          refine VL.gskipD rfl rfl (by decide) (.inl (congrArg Value.bool e63)) rfl (by decide) ?_
                          refine VL.gskipD rfl rfl (by decide) (.inl (congrArg Value.bool e63)) rfl (by decide) ?_
                          refine VL.gskipD rfl rfl (by decide) (.inl (congrArg Value.bool e63)) rfl (by decide) ?_
                          refine VL.stepD rfl rfl (by decide) (OE.pickV (t := false) (v := .bool false) (congrArg Value.bool e63) rfl ?_)
                          refine VL.stepD rfl rfl (by decide) (OE.moveV (v := .bool false) rfl ?_)
                          refine VL.gskipD rfl rfl (by decide) (.inl rfl) rfl (by decide) ?_
                          refine VL.gskipD rfl rfl (by decide) (.inl rfl) rfl (by decide) ?_
                          refine VL.gskipD rfl rfl (by decide) (.inl rfl) rfl (by decide) ?_
                          refine VL.stepD rfl rfl (by decide) (OE.pickV (t := false) (v := .bool false) rfl rfl ?_)
                          refine VL.stepD rfl rfl (by decide) (OE.assignV (v := .bool false) rfl ?_)
                          refine VL.nil ?_
                          change VC _ _ _ _ _ _ _
                          refine VC.ret ?_
                          exact ⟨rfl, _, ResOK.t1 rfl (v := .bool false) rfl, H⟩
                      · have H := H.2 e56
                        refine VL.gskipD rfl rfl (by decide) (.inl (congrArg Value.bool e56)) rfl (by decide) ?_
                        refine VL.gskipD rfl rfl (by decide) (.inl (congrArg Value.bool e56)) rfl (by decide) ?_
                        refine VL.gskipD rfl rfl (by decide) (.inl (congrArg Value.bool e56)) rfl (by decide) ?_
                        refine VL.gskipD rfl rfl (by decide) (.inl (congrArg Value.bool e56)) rfl (by decide) ?_
                        refine VL.stepD rfl rfl (by decide) (OE.pickV (t := false) (v := .bool false) (congrArg Value.bool e56) rfl ?_)
                        refine VL.stepD rfl rfl (by decide) (OE.moveV (v := .bool false) rfl ?_)
                        refine VL.gskipD rfl rfl (by decide) (.inl rfl) rfl (by decide) ?_
                        refine VL.gskipD rfl rfl (by decide) (.inl rfl) rfl (by decide) ?_
                        refine VL.gskipD rfl rfl (by decide) (.inl rfl) rfl (by decide) ?_
                        refine VL.gskipD rfl rfl (by decide) (.inl rfl) rfl (by decide) ?_
                        refine VL.stepD rfl rfl (by decide) (OE.pickV (t := false) (v := .bool false) rfl rfl ?_)
                        refine VL.stepD rfl rfl (by decide) (OE.moveV (v := .bool false) rfl ?_)
                        refine VL.gskipD rfl rfl (by decide) (.inl rfl) rfl (by decide) ?_
                        refine VL.gskipD rfl rfl (by decide) (.inl rfl) rfl (by decide) ?_
                        refine VL.gskipD rfl rfl (by decide) (.inl rfl) rfl (by decide) ?_
                        refine VL.stepD rfl rfl (by decide) (OE.pickV (t := false) (v := .bool false) rfl rfl ?_)
                        refine VL.stepD rfl rfl (by decide) (OE.assignV (v := .bool false) rfl ?_)
                        refine VL.nil ?_
                        change VC _ _ _ _ _ _ _
                        refine VC.ret ?_
                        exact ⟨rfl, _, ResOK.t1 rfl (v := .bool false) rfl, H⟩
                    · have H := H.2 e49
                      refine VL.gskipD rfl rfl (by decide) (.inl (congrArg Value.bool e49)) rfl (by decide) ?_
                      refine VL.gskipD rfl rfl (by decide) (.inl (congrArg Value.bool e49)) rfl (by decide) ?_
                      refine VL.gskipD rfl rfl (by decide) (.inl (congrArg Value.bool e49)) rfl (by decide) ?_
                      refine VL.gskipD rfl rfl (by decide) (.inl (congrArg Value.bool e49)) rfl (by decide) ?_
                      refine VL.stepD rfl rfl (by decide) (OE.pickV (t := false) (v := .bool false) (congrArg Value.bool e49) rfl ?_)
                      refine VL.stepD rfl rfl (by decide) (OE.moveV (v := .bool false) rfl ?_)
                      refine VL.gskipD rfl rfl (by decide) (.inl rfl) rfl (by decide) ?_
                      refine VL.gskipD rfl rfl (by decide) (.inl rfl) rfl (by decide) ?_
                      refine VL.gskipD rfl rfl (by decide) (.inl rfl) rfl (by decide) ?_
                      refine VL.gskipD rfl rfl (by decide) (.inl rfl) rfl (by decide) ?_
                      refine VL.stepD rfl rfl (by decide) (OE.pickV (t := false) (v := .bool false) rfl rfl ?_)
                      refine VL.stepD rfl rfl (by decide) (OE.moveV (v := .bool false) rfl ?_)
                      refine VL.gskipD rfl rfl (by decide) (.inl rfl) rfl (by decide) ?_
                      refine VL.gskipD rfl rfl (by decide) (.inl rfl) rfl (by decide) ?_
                      refine VL.gskipD rfl rfl (by decide) (.inl rfl) rfl (by decide) ?_
                      refine VL.gskipD rfl rfl (by decide) (.inl rfl) rfl (by decide) ?_
                      refine VL.stepD rfl rfl (by decide) (OE.pickV (t := false) (v := .bool false) rfl rfl ?_)
                      refine VL.stepD rfl rfl (by decide) (OE.moveV (v := .bool false) rfl ?_)
                      refine VL.gskipD rfl rfl (by decide) (.inl rfl) rfl (by decide) ?_
                      refine VL.gskipD rfl rfl (by decide) (.inl rfl) rfl (by decide) ?_
                      refine VL.gskipD rfl rfl (by decide) (.inl rfl) rfl (by decide) ?_
                      refine VL.stepD rfl rfl (by decide) (OE.pickV (t := false) (v := .bool false) rfl rfl ?_)
                      refine VL.stepD rfl rfl (by decide) (OE.assignV (v := .bool false) rfl ?_)
                      refine VL.nil ?_
                      change VC _ _ _ _ _ _ _
                      refine VC.ret ?_
                      exact ⟨rfl, _, ResOK.t1 rfl (v := .bool false) rfl, H⟩
                  · have H := H.2 e42
                    refine VL.gskipD rfl rfl (by decide) (.inl (congrArg Value.bool e42)) rfl (by decide) ?_
                    refine VL.gskipD rfl rfl (by decide) (.inl (congrArg Value.bool e42)) rfl (by decide) ?_
                    refine VL.gskipD rfl rfl (by decide) (.inl (congrArg Value.bool e42)) rfl (by decide) ?_
                    refine VL.gskipD rfl rfl (by decide) (.inl (congrArg Value.bool e42)) rfl (by decide) ?_
                    refine VL.stepD rfl rfl (by decide) (OE.pickV (t := false) (v := .bool false) (congrArg Value.bool e42) rfl ?_)
                    refine VL.stepD rfl rfl (by decide) (OE.moveV (v := .bool false) rfl ?_)
                    refine VL.gskipD rfl rfl (by decide) (.inl rfl) rfl (by decide) ?_
                    refine VL.gskipD rfl rfl (by decide) (.inl rfl) rfl (by decide) ?_
                    refine VL.gskipD rfl rfl (by decide) (.inl rfl) rfl (by decide) ?_
                    refine VL.gskipD rfl rfl (by decide) (.inl rfl) rfl (by decide) ?_
                    refine VL.stepD rfl rfl (by decide) (OE.pickV (t := false) (v := .bool false) rfl rfl ?_)
                    refine VL.stepD rfl rfl (by decide) (OE.moveV (v := .bool false) rfl ?_)
                    refine VL.gskipD rfl rfl (by decide) (.inl rfl) rfl (by decide) ?_
                    refine VL.gskipD rfl rfl (by decide) (.inl rfl) rfl (by decide) ?_
                    refine VL.gskipD rfl rfl (by decide) (.inl rfl) rfl (by decide) ?_
                    refine VL.gskipD rfl rfl (by decide) (.inl rfl) rfl (by decide) ?_
                    refine VL.stepD rfl rfl (by decide) (OE.pickV (t := false) (v := .bool false) rfl rfl ?_)
                    refine VL.stepD rfl rfl (by decide) (OE.moveV (v := .bool false) rfl ?_)
                    refine VL.gskipD rfl rfl (by decide) (.inl rfl) rfl (by decide) ?_
                    refine VL.gskipD rfl rfl (by decide) (.inl rfl) rfl (by decide) ?_
                    refine VL.gskipD rfl rfl (by decide) (.inl rfl) rfl (by decide) ?_
                    refine VL.gskipD rfl rfl (by decide) (.inl rfl) rfl (by decide) ?_
                    refine VL.stepD rfl rfl (by decide) (OE.pickV (t := false) (v := .bool false) rfl rfl ?_)
                    refine VL.stepD rfl rfl (by decide) (OE.moveV (v := .bool false) rfl ?_)
                    refine VL.gskipD rfl rfl (by decide) (.inl rfl) rfl (by decide) ?_
                    refine VL.gskipD rfl rfl (by decide) (.inl rfl) rfl (by decide) ?_
                    refine VL.gskipD rfl rfl (by decide) (.inl rfl) rfl (by decide) ?_
                    refine VL.stepD rfl rfl (by decide) (OE.pickV (t := false) (v := .bool false) rfl rfl ?_)
                    refine VL.stepD rfl rfl (by decide) (OE.assignV (v := .bool false) rfl ?_)
                    refine VL.nil ?_
                    change VC _ _ _ _ _ _ _
                    refine VC.ret ?_
                    exact ⟨rfl, _, ResOK.t1 rfl (v := .bool false) rfl, H⟩
                · have H := H.2 e41
                  refine VL.gskipD rfl rfl (by decide) (.inl (congrArg Value.bool e41)) rfl (by decide) ?_
                  refine VL.gskipD rfl rfl (by decide) (.inl (congrArg Value.bool e41)) rfl (by decide) ?_
                  refine VL.gskipD rfl rfl (by decide) (.inl (congrArg Value.bool e41)) rfl (by decide) ?_
                  refine VL.stepD rfl rfl (by decide) (OE.pickV (t := false) (v := .bool false) (congrArg Value.bool e41) rfl ?_)
                  refine VL.stepD rfl rfl (by decide) (OE.moveV (v := .bool false) rfl ?_)
                  refine VL.gskipD rfl rfl (by decide) (.inl rfl) rfl (by decide) ?_
                  refine VL.gskipD rfl rfl (by decide) (.inl rfl) rfl (by decide) ?_
                  refine VL.gskipD rfl rfl (by decide) (.inl rfl) rfl (by decide) ?_
                  refine VL.gskipD rfl rfl (by decide) (.inl rfl) rfl (by decide) ?_
                  refine VL.stepD rfl rfl (by decide) (OE.pickV (t := false) (v := .bool false) rfl rfl ?_)
                  refine VL.stepD rfl rfl (by decide) (OE.moveV (v := .bool false) rfl ?_)
                  refine VL.gskipD rfl rfl (by decide) (.inl rfl) rfl (by decide) ?_
                  refine VL.gskipD rfl rfl (by decide) (.inl rfl) rfl (by decide) ?_
                  refine VL.gskipD rfl rfl (by decide) (.inl rfl) rfl (by decide) ?_
                  refine VL.gskipD rfl rfl (by decide) (.inl rfl) rfl (by decide) ?_
                  refine VL.stepD rfl rfl (by decide) (OE.pickV (t := false) (v := .bool false) rfl rfl ?_)
                  refine VL.stepD rfl rfl (by decide) (OE.moveV (v := .bool false) rfl ?_)
                  refine VL.gskipD rfl rfl (by decide) (.inl rfl) rfl (by decide) ?_
                  refine VL.gskipD rfl rfl (by decide) (.inl rfl) rfl (by decide) ?_
                  refine VL.gskipD rfl rfl (by decide) (.inl rfl) rfl (by decide) ?_
                  refine VL.gskipD rfl rfl (by decide) (.inl rfl) rfl (by decide) ?_
                  refine VL.stepD rfl rfl (by decide) (OE.pickV (t := false) (v := .bool false) rfl rfl ?_)
                  refine VL.stepD rfl rfl (by decide) (OE.moveV (v := .bool false) rfl ?_)
                  refine VL.gskipD rfl rfl (by decide) (.inl rfl) rfl (by decide) ?_
                  refine VL.gskipD rfl rfl (by decide) (.inl rfl) rfl (by decide) ?_
                  refine VL.gskipD rfl rfl (by decide) (.inl rfl) rfl (by decide) ?_
                  refine VL.gskipD rfl rfl (by decide) (.inl rfl) rfl (by decide) ?_
                  refine VL.stepD rfl rfl (by decide) (OE.pickV (t := false) (v := .bool false) rfl rfl ?_)
                  refine VL.stepD rfl rfl (by decide) (OE.moveV (v := .bool false) rfl ?_)
                  refine VL.gskipD rfl rfl (by decide) (.inl rfl) rfl (by decide) ?_
                  refine VL.gskipD rfl rfl (by decide) (.inl rfl) rfl (by decide) ?_
                  refine VL.gskipD rfl rfl (by decide) (.inl rfl) rfl (by decide) ?_
                  refine VL.stepD rfl rfl (by decide) (OE.pickV (t := false) (v := .bool false) rfl rfl ?_)
                  refine VL.stepD rfl rfl (by decide) (OE.assignV (v := .bool false) rfl ?_)
                  refine VL.nil ?_
                  change VC _ _ _ _ _ _ _
                  refine VC.ret ?_
                  exact ⟨rfl, _, ResOK.t1 rfl (v := .bool false) rfl, H⟩
              · have H := H.2 e40
                refine VL.gskipD rfl rfl (by decide) (.inl (congrArg Value.bool e40)) rfl (by decide) ?_
                refine VL.gskipD rfl rfl (by decide) (.inl (congrArg Value.bool e40)) rfl (by decide) ?_
                refine VL.stepD rfl rfl (by decide) (OE.pickV (t := false) (v := .bool false) (congrArg Value.bool e40) rfl ?_)
                refine VL.stepD rfl rfl (by decide) (OE.moveV (v := .bool false) rfl ?_)
                refine VL.gskipD rfl rfl (by decide) (.inl rfl) rfl (by decide) ?_
                refine VL.gskipD rfl rfl (by decide) (.inl rfl) rfl (by decide) ?_
                refine VL.gskipD rfl rfl (by decide) (.inl rfl) rfl (by decide) ?_
                refine VL.stepD rfl rfl (by decide) (OE.pickV (t := false) (v := .bool false) rfl rfl ?_)
                refine VL.stepD rfl rfl (by decide) (OE.moveV (v := .bool false) rfl ?_)
                refine VL.gskipD rfl rfl (by decide) (.inl rfl) rfl (by decide) ?_
                refine VL.gskipD rfl rfl (by decide) (.inl rfl) rfl (by decide) ?_
                refine VL.gskipD rfl rfl (by decide) (.inl rfl) rfl (by decide) ?_
                refine VL.gskipD rfl rfl (by decide) (.inl rfl) rfl (by decide) ?_
                refine VL.stepD rfl rfl (by decide) (OE.pickV (t := false) (v := .bool false) rfl rfl ?_)
                refine VL.stepD rfl rfl (by decide) (OE.moveV (v := .bool false) rfl ?_)
                refine VL.gskipD rfl rfl (by decide) (.inl rfl) rfl (by decide) ?_
                refine VL.gskipD rfl rfl (by decide) (.inl rfl) rfl (by decide) ?_
                refine VL.gskipD rfl rfl (by decide) (.inl rfl) rfl (by decide) ?_
                refine VL.gskipD rfl rfl (by decide) (.inl rfl) rfl (by decide) ?_
                refine VL.stepD rfl rfl (by decide) (OE.pickV (t := false) (v := .bool false) rfl rfl ?_)
                refine VL.stepD rfl rfl (by decide) (OE.moveV (v := .bool false) rfl ?_)
                refine VL.gskipD rfl rfl (by decide) (.inl rfl) rfl (by decide) ?_
                refine VL.gskipD rfl rfl (by decide) (.inl rfl) rfl (by decide) ?_
                refine VL.gskipD rfl rfl (by decide) (.inl rfl) rfl (by decide) ?_
                refine VL.gskipD rfl rfl (by decide) (.inl rfl) rfl (by decide) ?_
                refine VL.stepD rfl rfl (by decide) (OE.pickV (t := false) (v := .bool false) rfl rfl ?_)
                refine VL.stepD rfl rfl (by decide) (OE.moveV (v := .bool false) rfl ?_)
                refine VL.gskipD rfl rfl (by decide) (.inl rfl) rfl (by decide) ?_
                refine VL.gskipD rfl rfl (by decide) (.inl rfl) rfl (by decide) ?_
                refine VL.gskipD rfl rfl (by decide) (.inl rfl) rfl (by decide) ?_
                refine VL.gskipD rfl rfl (by decide) (.inl rfl) rfl (by decide) ?_
                refine VL.stepD rfl rfl (by decide) (OE.pickV (t := false) (v := .bool false) rfl rfl ?_)
                refine VL.stepD rfl rfl (by decide) (OE.moveV (v := .bool false) rfl ?_)
                refine VL.gskipD rfl rfl (by decide) (.inl rfl) rfl (by decide) ?_
                refine VL.gskipD rfl rfl (by decide) (.inl rfl) rfl (by decide) ?_
                refine VL.gskipD rfl rfl (by decide) (.inl rfl) rfl (by decide) ?_
                refine VL.stepD rfl rfl (by decide) (OE.pickV (t := false) (v := .bool false) rfl rfl ?_)
                refine VL.stepD rfl rfl (by decide) (OE.assignV (v := .bool false) rfl ?_)
                refine VL.nil ?_
                change VC _ _ _ _ _ _ _
                refine VC.ret ?_
                exact ⟨rfl, _, ResOK.t1 rfl (v := .bool false) rfl, H⟩
            · have H := H.2 e27
              refine VL.gskipD rfl rfl (by decide) (.inl (congrArg Value.bool e27)) rfl (by decide) ?_
              refine VL.gskipD rfl rfl (by decide) (.inl (congrArg Value.bool e27)) rfl (by decide) ?_
              refine VL.gskipD rfl rfl (by decide) (.inl (congrArg Value.bool e27)) rfl (by decide) ?_
              refine VL.gskipD rfl rfl (by decide) (.inl (congrArg Value.bool e27)) rfl (by decide) ?_
              refine VL.gskipD rfl rfl (by decide) (.inl (congrArg Value.bool e27)) rfl (by decide) ?_
              refine VL.gskipD rfl rfl (by decide) (.inl (congrArg Value.bool e27)) rfl (by decide) ?_
              refine VL.gskipD rfl rfl (by decide) (.inl (congrArg Value.bool e27)) rfl (by decide) ?_
              refine VL.stepD rfl rfl (by decide) (OE.pickV (t := false) (v := .bool false) (congrArg Value.bool e27) rfl ?_)
              refine VL.stepD rfl rfl (by decide) (OE.moveV (v := .bool false) rfl ?_)
              refine VL.gskipD rfl rfl (by decide) (.inl rfl) rfl (by decide) ?_
              refine VL.gskipD rfl rfl (by decide) (.inl rfl) rfl (by decide) ?_
              refine VL.stepD rfl rfl (by decide) (OE.pickV (t := false) (v := .bool false) rfl rfl ?_)
              refine VL.stepD rfl rfl (by decide) (OE.moveV (v := .bool false) rfl ?_)
              refine VL.gskipD rfl rfl (by decide) (.inl rfl) rfl (by decide) ?_
              refine VL.gskipD rfl rfl (by decide) (.inl rfl) rfl (by decide) ?_
              refine VL.gskipD rfl rfl (by decide) (.inl rfl) rfl (by decide) ?_
              refine VL.stepD rfl rfl (by decide) (OE.pickV (t := false) (v := .bool false) rfl rfl ?_)
              refine VL.stepD rfl rfl (by decide) (OE.moveV (v := .bool false) rfl ?_)
              refine VL.gskipD rfl rfl (by decide) (.inl rfl) rfl (by decide) ?_
              refine VL.gskipD rfl rfl (by decide) (.inl rfl) rfl (by decide) ?_
              refine VL.gskipD rfl rfl (by decide) (.inl rfl) rfl (by decide) ?_
              refine VL.gskipD rfl rfl (by decide) (.inl rfl) rfl (by decide) ?_
              refine VL.stepD rfl rfl (by decide) (OE.pickV (t := false) (v := .bool false) rfl rfl ?_)
              refine VL.stepD rfl rfl (by decide) (OE.moveV (v := .bool false) rfl ?_)
              refine VL.gskipD rfl rfl (by decide) (.inl rfl) rfl (by decide) ?_
              refine VL.gskipD rfl rfl (by decide) (.inl rfl) rfl (by decide) ?_
              refine VL.gskipD rfl rfl (by decide) (.inl rfl) rfl (by decide) ?_
              refine VL.gskipD rfl rfl (by decide) (.inl rfl) rfl (by decide) ?_
              refine VL.stepD rfl rfl (by decide) (OE.pickV (t := false) (v := .bool false) rfl rfl ?_)
              refine VL.stepD rfl rfl (by decide) (OE.moveV (v := .bool false) rfl ?_)
              refine VL.gskipD rfl rfl (by decide) (.inl rfl) rfl (by decide) ?_
              refine VL.gskipD rfl rfl (by decide) (.inl rfl) rfl (by decide) ?_
              refine VL.gskipD rfl rfl (by decide) (.inl rfl) rfl (by decide) ?_
              refine VL.gskipD rfl rfl (by decide) (.inl rfl) rfl (by decide) ?_
              refine VL.stepD rfl rfl (by decide) (OE.pickV (t := false) (v := .bool false) rfl rfl ?_)
              refine VL.stepD rfl rfl (by decide) (OE.moveV (v := .bool false) rfl ?_)
              refine VL.gskipD rfl rfl (by decide) (.inl rfl) rfl (by decide) ?_
              refine VL.gskipD rfl rfl (by decide) (.inl rfl) rfl (by decide) ?_
              refine VL.gskipD rfl rfl (by decide) (.inl rfl) rfl (by decide) ?_
              refine VL.gskipD rfl rfl (by decide) (.inl rfl) rfl (by decide) ?_
              refine VL.stepD rfl rfl (by decide) (OE.pickV (t := false) (v := .bool false) rfl rfl ?_)
              refine VL.stepD rfl rfl (by decide) (OE.moveV (v := .bool false) rfl ?_)
              refine VL.gskipD rfl rfl (by decide) (.inl rfl) rfl (by decide) ?_
              refine VL.gskipD rfl rfl (by decide) (.inl rfl) rfl (by decide) ?_
              refine VL.gskipD rfl rfl (by decide) (.inl rfl) rfl (by decide) ?_
              refine VL.stepD rfl rfl (by decide) (OE.pickV (t := false) (v := .bool false) rfl rfl ?_)
              refine VL.stepD rfl rfl (by decide) (OE.assignV (v := .bool false) rfl ?_)
              refine VL.nil ?_
              change VC _ _ _ _ _ _ _
              refine VC.ret ?_
              exact ⟨rfl, _, ResOK.t1 rfl (v := .bool false) rfl, H⟩
          · have H := H.2 e20
            refine VL.gskipD rfl rfl (by decide) (.inl (congrArg Value.bool e20)) rfl (by decide) ?_
            refine VL.gskipD rfl rfl (by decide) (.inl (congrArg Value.bool e20)) rfl (by decide) ?_
            refine VL.gskipD rfl rfl (by decide) (.inl (congrArg Value.bool e20)) rfl (by decide) ?_
            refine VL.gskipD rfl rfl (by decide) (.inl (congrArg Value.bool e20)) rfl (by decide) ?_
            refine VL.gskipD rfl rfl (by decide) (.inl (congrArg Value.bool e20)) rfl (by decide) ?_
            refine VL.gskipD rfl rfl (by decide) (.inl (congrArg Value.bool e20)) rfl (by decide) ?_
            refine VL.stepD rfl rfl (by decide) (OE.pickV (t := false) (v := .bool false) (congrArg Value.bool e20) rfl ?_)
            refine VL.stepD rfl rfl (by decide) (OE.moveV (v := .bool false) rfl ?_)
            refine VL.gskipD rfl rfl (by decide) (.inl rfl) rfl (by decide) ?_
            refine VL.gskipD rfl rfl (by decide) (.inl rfl) rfl (by decide) ?_
            refine VL.gskipD rfl rfl (by decide) (.inl rfl) rfl (by decide) ?_
            refine VL.gskipD rfl rfl (by decide) (.inl rfl) rfl (by decide) ?_
            refine VL.gskipD rfl rfl (by decide) (.inl rfl) rfl (by decide) ?_
            refine VL.gskipD rfl rfl (by decide) (.inl rfl) rfl (by decide) ?_
            refine VL.gskipD rfl rfl (by decide) (.inl rfl) rfl (by decide) ?_
            refine VL.stepD rfl rfl (by decide) (OE.pickV (t := false) (v := .bool false) rfl rfl ?_)
            refine VL.stepD rfl rfl (by decide) (OE.moveV (v := .bool false) rfl ?_)
            refine VL.gskipD rfl rfl (by decide) (.inl rfl) rfl (by decide) ?_
            refine VL.gskipD rfl rfl (by decide) (.inl rfl) rfl (by decide) ?_
            refine VL.stepD rfl rfl (by decide) (OE.pickV (t := false) (v := .bool false) rfl rfl ?_)
            refine VL.stepD rfl rfl (by decide) (OE.moveV (v := .bool false) rfl ?_)
            refine VL.gskipD rfl rfl (by decide) (.inl rfl) rfl (by decide) ?_
            refine VL.gskipD rfl rfl (by decide) (.inl rfl) rfl (by decide) ?_
            refine VL.gskipD rfl rfl (by decide) (.inl rfl) rfl (by decide) ?_
            refine VL.stepD rfl rfl (by decide) (OE.pickV (t := false) (v := .bool false) rfl rfl ?_)
            refine VL.stepD rfl rfl (by decide) (OE.moveV (v := .bool false) rfl ?_)
            refine VL.gskipD rfl rfl (by decide) (.inl rfl) rfl (by decide) ?_
            refine VL.gskipD rfl rfl (by decide) (.inl rfl) rfl (by decide) ?_
            refine VL.gskipD rfl rfl (by decide) (.inl rfl) rfl (by decide) ?_
            refine VL.gskipD rfl rfl (by decide) (.inl rfl) rfl (by decide) ?_
            refine VL.stepD rfl rfl (by decide) (OE.pickV (t := false) (v := .bool false) rfl rfl ?_)
            refine VL.stepD rfl rfl (by decide) (OE.moveV (v := .bool false) rfl ?_)
            refine VL.gskipD rfl rfl (by decide) (.inl rfl) rfl (by decide) ?_
            refine VL.gskipD rfl rfl (by decide) (.inl rfl) rfl (by decide) ?_
            refine VL.gskipD rfl rfl (by decide) (.inl rfl) rfl (by decide) ?_
            refine VL.gskipD rfl rfl (by decide) (.inl rfl) rfl (by decide) ?_
            refine VL.stepD rfl rfl (by decide) (OE.pickV (t := false) (v := .bool false) rfl rfl ?_)
            refine VL.stepD rfl rfl (by decide) (OE.moveV (v := .bool false) rfl ?_)
            refine VL.gskipD rfl rfl (by decide) (.inl rfl) rfl (by decide) ?_
            refine VL.gskipD rfl rfl (by decide) (.inl rfl) rfl (by decide) ?_
            refine VL.gskipD rfl rfl (by decide) (.inl rfl) rfl (by decide) ?_
            refine VL.gskipD rfl rfl (by decide) (.inl rfl) rfl (by decide) ?_
            refine VL.stepD rfl rfl (by decide) (OE.pickV (t := false) (v := .bool false) rfl rfl ?_)
            refine VL.stepD rfl rfl (by decide) (OE.moveV (v := .bool false) rfl ?_)
            refine VL.gskipD rfl rfl (by decide) (.inl rfl) rfl (by decide) ?_
            refine VL.gskipD rfl rfl (by decide) (.inl rfl) rfl (by decide) ?_
            refine VL.gskipD rfl rfl (by decide) (.inl rfl) rfl (by decide) ?_
            refine VL.gskipD rfl rfl (by decide) (.inl rfl) rfl (by decide) ?_
            refine VL.stepD rfl rfl (by decide) (OE.pickV (t := false) (v := .bool false) rfl rfl ?_)
            refine VL.stepD rfl rfl (by decide) (OE.moveV (v := .bool false) rfl ?_)
            refine VL.gskipD rfl rfl (by decide) (.inl rfl) rfl (by decide) ?_
            refine VL.gskipD rfl rfl (by decide) (.inl rfl) rfl (by decide) ?_
            refine VL.gskipD rfl rfl (by decide) (.inl rfl) rfl (by decide) ?_
            refine VL.stepD rfl rfl (by decide) (OE.pickV (t := false) (v := .bool false) rfl rfl ?_)
            refine VL.stepD rfl rfl (by decide) (OE.assignV (v := .bool false) rfl ?_)
            refine VL.nil ?_
            change VC _ _ _ _ _ _ _
            refine VC.ret ?_
            exact ⟨rfl, _, ResOK.t1 rfl (v := .bool false) rfl, H⟩
      · skip
        refine VC.region ?_
        refine VL.stepD rfl rfl (by decide) (OE.moveV (v := .pointer y3_0) rfl ?_)
        obtain ⟨b82, eb97⟩ : ∃ b82, b82 = Array.size h5 := ⟨_, rfl⟩
        obtain ⟨h81, eh98⟩ : ∃ h81, h81 = Array.push h5 (.cells #[.int .u8 7, .int .u8 7, .int .u8 7, .int .u8 7, .int .u8 7, .int .u8 7, .int .u8 7, .int .u8 7, .int .u8 7, .int .u8 7, .int .u8 7, .int .u8 7, .int .u8 7, .int .u8 7, .int .u8 7, .int .u8 7, .int .u8 7, .int .u8 7, .int .u8 7, .int .u8 7] 5) := ⟨_, rfl⟩
        have H := H b82 h81 eb97 eh98
        refine VL.stepD rfl rfl (by decide) (OE.buildSliceE (ps := [(0, (.int .u8 7 : Value)), (1, (.int .u8 7 : Value)), (2, (.int .u8 7 : Value)), (3, (.int .u8 7 : Value)), (4, (.int .u8 7 : Value)), (5, (.int .u8 7 : Value)), (6, (.int .u8 7 : Value)), (7, (.int .u8 7 : Value)), (8, (.int .u8 7 : Value)), (9, (.int .u8 7 : Value)), (10, (.int .u8 7 : Value)), (11, (.int .u8 7 : Value)), (12, (.int .u8 7 : Value)), (13, (.int .u8 7 : Value)), (14, (.int .u8 7 : Value)), (15, (.int .u8 7 : Value)), (16, (.int .u8 7 : Value)), (17, (.int .u8 7 : Value)), (18, (.int .u8 7 : Value)), (19, (.int .u8 7 : Value))]) (cells := #[.int .u8 7, .int .u8 7, .int .u8 7, .int .u8 7, .int .u8 7, .int .u8 7, .int .u8 7, .int .u8 7, .int .u8 7, .int .u8 7, .int .u8 7, .int .u8 7, .int .u8 7, .int .u8 7, .int .u8 7, .int .u8 7, .int .u8 7, .int .u8 7, .int .u8 7, .int .u8 7]) (e := 5) rfl (Tryz.bf2 _ _ _ _ _ _ _ _ _ _ _ _ _ _ _ _ _ _ _ _) eb97 eh98 ?_)
        refine VL.stepD rfl rfl (by decide) (OE.callL (args := [.pointer y3_0, .string (ByteArray.mk #[97]), .slice (some (Addr.mk b82 0 none)) 20 20]) Tryz.func12 rfl Tryz.nn12 rfl rfl (CHE.mono H (fun r83 h84 H => ?_) (fun _ _ e => e.elim)))
        obtain ⟨y85, rfl, H⟩ := H
        refine VL.stepD rfl rfl (by decide) (OE.binI (v := .bool (y85 != 0)) rfl rfl rfl ?_)
        refine VL.stepD rfl rfl (by decide) (OE.moveV (v := .bool (y85 != 0)) rfl ?_)
        refine boolSplit ((y85 != 0)) (fun e86 => ?_) (fun e86 => ?_)
        · have H := H.1 e86
          refine VL.gskipD rfl rfl (by decide) (.inl (congrArg Value.bool e86)) rfl (by decide) ?_
          refine VL.gskipD rfl rfl (by decide) (.inl (congrArg Value.bool e86)) rfl (by decide) ?_
          refine VL.gskipD rfl rfl (by decide) (.inl (congrArg Value.bool e86)) rfl (by decide) ?_
          refine VL.stepD rfl rfl (by decide) (OE.pickV (t := true) (v := .bool true) (congrArg Value.bool e86) rfl ?_)
          refine VL.stepD rfl rfl (by decide) (OE.moveV (v := .bool true) rfl ?_)
          refine VL.gskipD rfl rfl (by decide) (.inl rfl) rfl (by decide) ?_
          refine VL.gskipD rfl rfl (by decide) (.inl rfl) rfl (by decide) ?_
          refine VL.gskipD rfl rfl (by decide) (.inl rfl) rfl (by decide) ?_
          refine VL.stepD rfl rfl (by decide) (OE.pickV (t := true) (v := .bool true) rfl rfl ?_)
          refine VL.nil ?_
          exact ⟨rfl, true, rfl, rfl, H⟩
        · have H := H.2 e86
          refine VL.gstepD rfl rfl (by decide) (congrArg Value.bool e86) rfl (by decide) (OE.moveV (v := .pointer y3_0) rfl ?_)
          refine VL.gstepD rfl rfl (by decide) (congrArg Value.bool e86) rfl (by decide) (OE.callL (args := [.pointer y3_0]) Tryz.func14 rfl Tryz.nn14 rfl rfl (CHE.mono H (fun r87 h88 H => ?_) (fun _ _ e => e.elim)))
          obtain ⟨y89, rfl, H⟩ := H
          refine VL.gstepD rfl rfl (by decide) (congrArg Value.bool e86) rfl (by decide) (OE.binI (v := .bool (y89 != 0)) rfl rfl rfl ?_)
          refine VL.stepD rfl rfl (by decide) (OE.pickV (t := false) (v := .bool (y89 != 0)) (congrArg Value.bool e86) rfl ?_)
          refine VL.stepD rfl rfl (by decide) (OE.moveV (v := .bool (y89 != 0)) rfl ?_)
          refine boolSplit ((y89 != 0)) (fun e90 => ?_) (fun e90 => ?_)
          · have H := H.1 e90
            refine VL.gskipD rfl rfl (by decide) (.inl (congrArg Value.bool e90)) rfl (by decide) ?_
            refine VL.gskipD rfl rfl (by decide) (.inl (congrArg Value.bool e90)) rfl (by decide) ?_
            refine VL.gskipD rfl rfl (by decide) (.inl (congrArg Value.bool e90)) rfl (by decide) ?_
            refine VL.stepD rfl rfl (by decide) (OE.pickV (t := true) (v := .bool true) (congrArg Value.bool e90) rfl ?_)
            refine VL.nil ?_
            exact ⟨rfl, true, rfl, rfl, H⟩
          · have H := H.2 e90
            refine VL.gstepD rfl rfl (by decide) (congrArg Value.bool e90) rfl (by decide) (OE.moveV (v := .pointer y3_0) rfl ?_)
            refine VL.gstepD rfl rfl (by decide) (congrArg Value.bool e90) rfl (by decide) (OE.callL (args := [.pointer y3_0]) Tryz.func37 rfl Tryz.nn37 rfl rfl (CHE.mono H (fun r91 h92 H => ?_) (fun _ _ e => e.elim)))
            obtain ⟨y93, rfl, H⟩ := H
            refine VL.gstepD rfl rfl (by decide) (congrArg Value.bool e90) rfl (by decide) (OE.binI (v := .bool (y93 != 5)) rfl rfl rfl ?_)
            refine VL.stepD rfl rfl (by decide) (OE.pickV (t := false) (v := .bool (y93 != 5)) (congrArg Value.bool e90) rfl ?_)
            refine VL.nil ?_
            exact ⟨rfl, (y93 != 5), rfl, rfl, H⟩
  · skip
    refine VC.region ?_
    refine VL.stepD rfl rfl (by decide) (OE.moveV (v := .int .i64 y3_1) rfl ?_)
    refine VL.stepD rfl rfl (by decide) (OE.binI (v := .bool (y3_1 != 0)) rfl rfl rfl ?_)
    refine VL.stepD rfl rfl (by decide) (OE.moveV (v := .bool (y3_1 != 0)) rfl ?_)
    refine boolSplit ((y3_1 != 0)) (fun e99 => ?_) (fun e99 => ?_)
    · have H := H.1 e99
      refine VL.gskipD rfl rfl (by decide) (.inl (congrArg Value.bool e99)) rfl (by decide) ?_
      refine VL.gskipD rfl rfl (by decide) (.inl (congrArg Value.bool e99)) rfl (by decide) ?_
      refine VL.stepD rfl rfl (by decide) (OE.pickV (t := true) (v := .bool true) (congrArg Value.bool e99) rfl ?_)
      refine VL.stepD rfl rfl (by decide) (OE.moveV (v := .bool true) rfl ?_)
      refine VL.gskipD rfl rfl (by decide) (.inl rfl) rfl (by decide) ?_
      refine VL.gskipD rfl rfl (by decide) (.inl rfl) rfl (by decide) ?_
      refine VL.gskipD rfl rfl (by decide) (.inl rfl) rfl (by decide) ?_
      refine VL.stepD rfl rfl (by decide) (OE.pickV (t := true) (v := .bool true) rfl rfl ?_)
      refine VL.stepD rfl rfl (by decide) (OE.moveV (v := .bool true) rfl ?_)
      refine VL.gskipD rfl rfl (by decide) (.inl rfl) rfl (by decide) ?_
      refine VL.gskipD rfl rfl (by decide) (.inl rfl) rfl (by decide) ?_
      refine VL.gskipD rfl rfl (by decide) (.inl rfl) rfl (by decide) ?_
      refine VL.stepD rfl rfl (by decide) (OE.pickV (t := true) (v := .bool true) rfl rfl ?_)
      refine VL.stepD rfl rfl (by decide) (OE.moveV (v := .bool true) rfl ?_)
      refine VL.gskipD rfl rfl (by decide) (.inl rfl) rfl (by decide) ?_
      refine VL.gskipD rfl rfl (by decide) (.inl rfl) rfl (by decide) ?_
      refine VL.gskipD rfl rfl (by decide) (.inl rfl) rfl (by decide) ?_
      refine VL.gskipD rfl rfl (by decide) (.inl rfl) rfl (by decide) ?_
      refine VL.stepD rfl rfl (by decide) (OE.pickV (t := true) (v := .bool true) rfl rfl ?_)
      refine VL.stepD rfl rfl (by decide) (OE.moveV (v := .bool true) rfl ?_)
      refine VL.gskipD rfl rfl (by decide) (.inl rfl) rfl (by decide) ?_
      refine VL.gskipD rfl rfl (by decide) (.inl rfl) rfl (by decide) ?_
      refine VL.gskipD rfl rfl (by decide) (.inl rfl) rfl (by decide) ?_
      refine VL.stepD rfl rfl (by decide) (OE.pickV (t := true) (v := .bool true) rfl rfl ?_)
      refine VL.nil ?_
      exact ⟨rfl, true, rfl, rfl, H⟩
    · have H := H.2 e99
      refine VL.gstepD rfl rfl (by decide) (congrArg Value.bool e99) rfl (by decide) (OE.moveV (v := .pointer y3_0) rfl ?_)
      refine VL.gstepD rfl rfl (by decide) (congrArg Value.bool e99) rfl (by decide) (OE.ptrNilV (b := (Option.isNone y3_0)) (p := y3_0) (q := none) rfl rfl Tryz.underlying24 (.inr rfl) (by simp) ?_)
      refine VL.stepD rfl rfl (by decide) (OE.pickV (t := false) (v := .bool (Option.isNone y3_0)) (congrArg Value.bool e99) rfl ?_)
      refine VL.stepD rfl rfl (by decide) (OE.moveV (v := .bool (Option.isNone y3_0)) rfl ?_)
      refine boolSplit ((Option.isNone y3_0)) (fun e100 => ?_) (fun e100 => ?_)
      · have H := H.1 e100
        refine VL.gskipD rfl rfl (by decide) (.inl (congrArg Value.bool e100)) rfl (by decide) ?_
        refine VL.gskipD rfl rfl (by decide) (.inl (congrArg Value.bool e100)) rfl (by decide) ?_
        refine VL.gskipD rfl rfl (by decide) (.inl (congrArg Value.bool e100)) rfl (by decide) ?_
        refine VL.stepD rfl rfl (by decide) (OE.pickV (t := true) (v := .bool true) (congrArg Value.bool e100) rfl ?_)
        refine VL.stepD rfl rfl (by decide) (OE.moveV (v := .bool true) rfl ?_)
        refine VL.gskipD rfl rfl (by decide) (.inl rfl) rfl (by decide) ?_
        refine VL.gskipD rfl rfl (by decide) (.inl rfl) rfl (by decide) ?_
        refine VL.gskipD rfl rfl (by decide) (.inl rfl) rfl (by decide) ?_
        refine VL.stepD rfl rfl (by decide) (OE.pickV (t := true) (v := .bool true) rfl rfl ?_)
        refine VL.stepD rfl rfl (by decide) (OE.moveV (v := .bool true) rfl ?_)
        refine VL.gskipD rfl rfl (by decide) (.inl rfl) rfl (by decide) ?_
        refine VL.gskipD rfl rfl (by decide) (.inl rfl) rfl (by decide) ?_
        refine VL.gskipD rfl rfl (by decide) (.inl rfl) rfl (by decide) ?_
        refine VL.gskipD rfl rfl (by decide) (.inl rfl) rfl (by decide) ?_
        refine VL.stepD rfl rfl (by decide) (OE.pickV (t := true) (v := .bool true) rfl rfl ?_)
        refine VL.stepD rfl rfl (by decide) (OE.moveV (v := .bool true) rfl ?_)
        refine VL.gskipD rfl rfl (by decide) (.inl rfl) rfl (by decide) ?_
        refine VL.gskipD rfl rfl (by decide) (.inl rfl) rfl (by decide) ?_
        refine VL.gskipD rfl rfl (by decide) (.inl rfl) rfl (by decide) ?_
        refine VL.stepD rfl rfl (by decide) (OE.pickV (t := true) (v := .bool true) rfl rfl ?_)
        refine VL.nil ?_
        exact ⟨rfl, true, rfl, rfl, H⟩
      · have H := H.2 e100
        refine VL.gstepD rfl rfl (by decide) (congrArg Value.bool e100) rfl (by decide) (OE.moveV (v := .pointer y3_0) rfl ?_)
        refine VL.gstepD rfl rfl (by decide) (congrArg Value.bool e100) rfl (by decide) (OE.callL (args := [.pointer y3_0, .string (ByteArray.mk #[97])]) Tryz.func11 rfl Tryz.nn11 rfl rfl (CHE.mono H (fun r101 h102 H => ?_) (fun _ _ e => e.elim)))
        obtain ⟨y103, rfl, H⟩ := H
        refine VL.gstepD rfl rfl (by decide) (congrArg Value.bool e100) rfl (by decide) (OE.binI (v := .bool (y103 != 0)) rfl rfl rfl ?_)
        refine VL.stepD rfl rfl (by decide) (OE.pickV (t := false) (v := .bool (y103 != 0)) (congrArg Value.bool e100) rfl ?_)
        refine VL.stepD rfl rfl (by decide) (OE.moveV (v := .bool (y103 != 0)) rfl ?_)
        refine boolSplit ((y103 != 0)) (fun e104 => ?_) (fun e104 => ?_)
        · have H := H.1 e104
          refine VL.gskipD rfl rfl (by decide) (.inl (congrArg Value.bool e104)) rfl (by decide) ?_
          refine VL.gskipD rfl rfl (by decide) (.inl (congrArg Value.bool e104)) rfl (by decide) ?_
          refine VL.gskipD rfl rfl (by decide) (.inl (congrArg Value.bool e104)) rfl (by decide) ?_
          refine VL.stepD rfl rfl (by decide) (OE.pickV (t := true) (v := .bool true) (congrArg Value.bool e104) rfl ?_)
          refine VL.stepD rfl rfl (by decide) (OE.moveV (v := .bool true) rfl ?_)
          refine VL.gskipD rfl rfl (by decide) (.inl rfl) rfl (by decide) ?_
          refine VL.gskipD rfl rfl (by decide) (.inl rfl) rfl (by decide) ?_
          refine VL.gskipD rfl rfl (by decide) (.inl rfl) rfl (by decide) ?_
          refine VL.gskipD rfl rfl (by decide) (.inl rfl) rfl (by decide) ?_
          refine VL.stepD rfl rfl (by decide) (OE.pickV (t := true) (v := .bool true) rfl rfl ?_)
          refine VL.stepD rfl rfl (by decide) (OE.moveV (v := .bool true) rfl ?_)
          refine VL.gskipD rfl rfl (by decide) (.inl rfl) rfl (by decide) ?_
          refine VL.gskipD rfl rfl (by decide) (.inl rfl) rfl (by decide) ?_
          refine VL.gskipD rfl rfl (by decide) (.inl rfl) rfl (by decide) ?_
          refine VL.stepD rfl rfl (by decide) (OE.pickV (t := true) (v := .bool true) rfl rfl ?_)
          refine VL.nil ?_
          exact ⟨rfl, true, rfl, rfl, H⟩
        · have H := H.2 e104
          refine VL.gstepD rfl rfl (by decide) (congrArg Value.bool e104) rfl (by decide) (OE.moveV (v := .pointer y3_0) rfl ?_)
          refine VL.gstepD rfl rfl (by decide) (congrArg Value.bool e104) rfl (by decide) (OE.callL (args := [.pointer y3_0, .string (ByteArray.mk #[97])]) Tryz.func11 rfl Tryz.nn11 rfl rfl (CHE.mono H (fun r105 h106 H => ?_) (fun _ _ e => e.elim)))
          obtain ⟨y107, rfl, H⟩ := H
          refine VL.gstepD rfl rfl (by decide) (congrArg Value.bool e104) rfl (by decide) (OE.binI (v := .bool (y107 != 7)) rfl rfl rfl ?_)
          refine VL.stepD rfl rfl (by decide) (OE.pickV (t := false) (v := .bool (y107 != 7)) (congrArg Value.bool e104) rfl ?_)
          refine VL.stepD rfl rfl (by decide) (OE.moveV (v := .bool (y107 != 7)) rfl ?_)
          refine boolSplit ((y107 != 7)) (fun e108 => ?_) (fun e108 => ?_)
          · have H := H.1 e108
            refine VL.gskipD rfl rfl (by decide) (.inl (congrArg Value.bool e108)) rfl (by decide) ?_
            refine VL.gskipD rfl rfl (by decide) (.inl (congrArg Value.bool e108)) rfl (by decide) ?_
            refine VL.gskipD rfl rfl (by decide) (.inl (congrArg Value.bool e108)) rfl (by decide) ?_
            refine VL.gskipD rfl rfl (by decide) (.inl (congrArg Value.bool e108)) rfl (by decide) ?_
            refine VL.stepD rfl rfl (by decide) (OE.pickV (t := true) (v := .bool true) (congrArg Value.bool e108) rfl ?_)
            refine VL.stepD rfl rfl (by decide) (OE.moveV (v := .bool true) rfl ?_)
            refine VL.gskipD rfl rfl (by decide) (.inl rfl) rfl (by decide) ?_
            refine VL.gskipD rfl rfl (by decide) (.inl rfl) rfl (by decide) ?_
            refine VL.gskipD rfl rfl (by decide) (.inl rfl) rfl (by decide) ?_
            refine VL.stepD rfl rfl (by decide) (OE.pickV (t := true) (v := .bool true) rfl rfl ?_)
            refine VL.nil ?_
            exact ⟨rfl, true, rfl, rfl, H⟩
          · have H := H.2 e108
            refine VL.gstepD rfl rfl (by decide) (congrArg Value.bool e108) rfl (by decide) (OE.moveV (v := .pointer y3_0) rfl ?_)
            obtain ⟨b110, eb120⟩ : ∃ b110, b110 = Array.size h106 := ⟨_, rfl⟩
            obtain ⟨h109, eh121⟩ : ∃ h109, h109 = Array.push h106 (.cells #[.int .u8 5, .int .u8 5, .int .u8 5, .int .u8 5] 5) := ⟨_, rfl⟩
            have H := H b110 h109 eb120 eh121
            refine VL.gstepD rfl rfl (by decide) (congrArg Value.bool e108) rfl (by decide) (OE.buildSliceE (ps := [(0, (.int .u8 5 : Value)), (1, (.int .u8 5 : Value)), (2, (.int .u8 5 : Value)), (3, (.int .u8 5 : Value))]) (cells := #[.int .u8 5, .int .u8 5, .int .u8 5, .int .u8 5]) (e := 5) rfl (Tryz.bf1 _ _ _ _) eb120 eh121 ?_)
            refine VL.gstepD rfl rfl (by decide) (congrArg Value.bool e108) rfl (by decide) (OE.callL (args := [.pointer y3_0, .string (ByteArray.mk #[97]), .slice (some (Addr.mk b110 0 none)) 4 4]) Tryz.func12 rfl Tryz.nn12 rfl rfl (CHE.mono H (fun r111 h112 H => ?_) (fun _ _ e => e.elim)))
            obtain ⟨y113, rfl, H⟩ := H
            refine VL.gstepD rfl rfl (by decide) (congrArg Value.bool e108) rfl (by decide) (OE.binI (v := .bool (y113 != 0)) rfl rfl rfl ?_)
            refine VL.stepD rfl rfl (by decide) (OE.pickV (t := false) (v := .bool (y113 != 0)) (congrArg Value.bool e108) rfl ?_)
            refine VL.stepD rfl rfl (by decide) (OE.moveV (v := .bool (y113 != 0)) rfl ?_)
            refine boolSplit ((y113 != 0)) (fun e114 => ?_) (fun e114 => ?_)
            · have H := H.1 e114
              refine VL.gskipD rfl rfl (by decide) (.inl (congrArg Value.bool e114)) rfl (by decide) ?_
              refine VL.gskipD rfl rfl (by decide) (.inl (congrArg Value.bool e114)) rfl (by decide) ?_
              refine VL.gskipD rfl rfl (by decide) (.inl (congrArg Value.bool e114)) rfl (by decide) ?_
              refine VL.stepD rfl rfl (by decide) (OE.pickV (t := true) (v := .bool true) (congrArg Value.bool e114) rfl ?_)
              refine VL.nil ?_
              exact ⟨rfl, true, rfl, rfl, H⟩
            · have H := H.2 e114
              refine VL.gstepD rfl rfl (by decide) (congrArg Value.bool e114) rfl (by decide) (OE.moveV (v := .pointer y3_0) rfl ?_)
              refine VL.gstepD rfl rfl (by decide) (congrArg Value.bool e114) rfl (by decide) (OE.callL (args := [.pointer y3_0, .string (ByteArray.mk #[97])]) Tryz.func13 rfl Tryz.nn13 rfl rfl (CHE.mono H (fun r115 h116 H => ?_) (fun _ _ e => e.elim)))
              obtain ⟨y117, rfl, H⟩ := H
              refine VL.gstepD rfl rfl (by decide) (congrArg Value.bool e114) rfl (by decide) (OE.binI (v := .bool (y117 != 0)) rfl rfl rfl ?_)
              refine VL.stepD rfl rfl (by decide) (OE.pickV (t := false) (v := .bool (y117 != 0)) (congrArg Value.bool e114) rfl ?_)
              refine VL.nil ?_
              exact ⟨rfl, (y117 != 0), rfl, rfl, H⟩


def D_disk_Disk_Create (R : Value → Hp → Prop) (d : Option Addr) (name : ByteArray) (h : Hp) : Prop :=
  (∀ b2 h1, b2 = Array.size h → h1 = Array.push h (.cells #[.pointer d] 24) → (∀ b4 h3, b4 = Array.size h1 → h3 = Array.push h1 (.cells #[.string name] 9) → (∃ x5 : Option Addr, cell h3 (Addr.mk b2 0 none) = some (.pointer x5) ∧ CH Tryz.prog 39 #[.pointer x5, .func (.func 40) #[] #[.pointer (some (Addr.mk b2 0 none)), .pointer (some (Addr.mk b4 0 none))], .func (.func 42) #[] #[.pointer (some (Addr.mk b2 0 none)), .pointer (some (Addr.mk b4 0 none))], .slice none 0 0] h3 (fun r7 h8 => ∃ y9 : Int, r7 = .int .i64 y9 ∧ R (.int .i64 y9) h8))))
set_option maxRecDepth 10000 in
set_option maxHeartbeats 4000000 in
theorem D_disk_Disk_Create.sound {R : Value → Hp → Prop} {d : Option Addr} {name : ByteArray} {h : Hp} (H : D_disk_Disk_Create R  d name h) : CH Tryz.prog 11 #[.pointer d, .string name] h R := by
  refine CHE.enter (n := 9) Tryz.func11 rfl rfl (Nat.le_of_ble_eq_true rfl) ?_
  unfold D_disk_Disk_Create at H
  refine VC.seq ?_
  refine VC.region ?_
  obtain ⟨b2, eb13⟩ : ∃ b2, b2 = Array.size h := ⟨_, rfl⟩
  obtain ⟨h1, eh14⟩ : ∃ h1, h1 = Array.push h (.cells #[.pointer d] 24) := ⟨_, rfl⟩
  have H := H b2 h1 eb13 eh14
  refine VL.stepD rfl rfl (by decide) (OE.boxE (v := .pointer d) rfl eb13 eh14 ?_)
  obtain ⟨b4, eb11⟩ : ∃ b4, b4 = Array.size h1 := ⟨_, rfl⟩
  obtain ⟨h3, eh12⟩ : ∃ h3, h3 = Array.push h1 (.cells #[.string name] 9) := ⟨_, rfl⟩
  have H := H b4 h3 eb11 eh12
  refine VL.stepD rfl rfl (by decide) (OE.boxE (v := .string name) rfl eb11 eh12 ?_)
  refine VL.stepD rfl rfl (by decide) (OE.assignV (v := .int .i64 0) rfl ?_)
  refine VL.nil ?_
  change VC _ _ _ _ _ _ _
  refine VC.seq ?_
  refine VC.region ?_
  obtain ⟨x5, hl6, H⟩ := H
  refine VL.stepD rfl rfl (by decide) (OE.load (a := (Addr.mk b2 0 none)) (v := .pointer x5) rfl (LdT.one Tryz.underlying24 rfl hl6) ?_)
  refine VL.stepD rfl rfl (by decide) (OE.makeFuncL (l := [.pointer (some (Addr.mk b2 0 none)), .pointer (some (Addr.mk b4 0 none))]) rfl ?_)
  refine VL.stepD rfl rfl (by decide) (OE.makeFuncL (l := [.pointer (some (Addr.mk b2 0 none)), .pointer (some (Addr.mk b4 0 none))]) rfl ?_)
  refine VL.stepD rfl rfl (by decide) (OE.callL (args := [.pointer x5, .func (.func 40) #[] #[.pointer (some (Addr.mk b2 0 none)), .pointer (some (Addr.mk b4 0 none))], .func (.func 42) #[] #[.pointer (some (Addr.mk b2 0 none)), .pointer (some (Addr.mk b4 0 none))], .slice none 0 0]) Tryz.func39 rfl Tryz.nn39 rfl rfl (CHE.mono H (fun r7 h8 H => ?_) (fun _ _ e => e.elim)))
  obtain ⟨y9, rfl, H⟩ := H
  refine VL.stepD rfl rfl (by decide) (OE.assignV (v := .int .i64 y9) rfl ?_)
  refine VL.nil ?_
  change VC _ _ _ _ _ _ _
  refine VC.ret ?_
  exact ⟨rfl, _, ResOK.t1 rfl (v := .int .i64 y9) rfl, H⟩

def D_disk_Disk_Append (R : Value → Hp → Prop) (d : Option Addr) (name : ByteArray) (dataA : Option Addr) (datan : Nat) (datac : Nat) (h : Hp) : Prop :=
  (∀ b2 h1, b2 = Array.size h → h1 = Array.push h (.cells #[.pointer d] 24) → (∀ b4 h3, b4 = Array.size h1 → h3 = Array.push h1 (.cells #[.string name] 9) → (∀ b6 h5, b6 = Array.size h3 → h5 = Array.push h3 (.cells #[.slice dataA datan datac] 22) → (∀ b8 h7, b8 = Array.size h5 → h7 = Array.push h5 (.cells #[.pointer none] 96) → (∀ b10 h9, b10 = Array.size h7 → h9 = Array.push h7 (.cells #[.nilFunc] 115) → (Wr h9 (Addr.mk b10 0 none) ∧ ∀ h11, h11 = setc h9 (Addr.mk b10 0 none) (.func (.func 45) #[] #[.pointer (some (Addr.mk b8 0 none)), .pointer (some (Addr.mk b2 0 none))]) → (∃ x13 : Option Addr, cell h11 (Addr.mk b2 0 none) = some (.pointer x13) ∧ (∀ b16 h15, b16 = Array.size h11 → h15 = Array.push h11 (.cells #[.func (.func 51) #[] #[.pointer (some (Addr.mk b10 0 none)), .pointer (some (Addr.mk b6 0 none))]] 116) → CH Tryz.prog 39 #[.pointer x13, .func (.func 49) #[] #[.pointer (some (Addr.mk b2 0 none)), .pointer (some (Addr.mk b4 0 none)), .pointer (some (Addr.mk b8 0 none))], .func (.func 50) #[] #[.pointer (some (Addr.mk b10 0 none)), .pointer (some (Addr.mk b6 0 none))], .slice (some (Addr.mk b16 0 none)) 1 1] h15 (fun r17 h18 => ∃ y19 : Int, r17 = .int .i64 y19 ∧ R (.int .i64 y19) h18)))))))))
set_option maxRecDepth 10000 in
set_option maxHeartbeats 4000000 in
theorem D_disk_Disk_Append.sound {R : Value → Hp → Prop} {d : Option Addr} {name : ByteArray} {dataA : Option Addr} {datan : Nat} {datac : Nat} {h : Hp} (H : D_disk_Disk_Append R  d name dataA datan datac h) : CH Tryz.prog 12 #[.pointer d, .string name, .slice dataA datan datac] h R := by
  refine CHE.enter (n := 16) Tryz.func12 rfl rfl (Nat.le_of_ble_eq_true rfl) ?_
  unfold D_disk_Disk_Append at H
  refine VC.seq ?_
  refine VC.region ?_
  obtain ⟨b2, eb32⟩ : ∃ b2, b2 = Array.size h := ⟨_, rfl⟩
  obtain ⟨h1, eh33⟩ : ∃ h1, h1 = Array.push h (.cells #[.pointer d] 24) := ⟨_, rfl⟩
  have H := H b2 h1 eb32 eh33
  refine VL.stepD rfl rfl (by decide) (OE.boxE (v := .pointer d) rfl eb32 eh33 ?_)
  obtain ⟨b4, eb30⟩ : ∃ b4, b4 = Array.size h1 := ⟨_, rfl⟩
  obtain ⟨h3, eh31⟩ : ∃ h3, h3 = Array.push h1 (.cells #[.string name] 9) := ⟨_, rfl⟩
  have H := H b4 h3 eb30 eh31
  refine VL.stepD rfl rfl (by decide) (OE.boxE (v := .string name) rfl eb30 eh31 ?_)
  obtain ⟨b6, eb28⟩ : ∃ b6, b6 = Array.size h3 := ⟨_, rfl⟩
  obtain ⟨h5, eh29⟩ : ∃ h5, h5 = Array.push h3 (.cells #[.slice dataA datan datac] 22) := ⟨_, rfl⟩
  have H := H b6 h5 eb28 eh29
  refine VL.stepD rfl rfl (by decide) (OE.boxE (v := .slice dataA datan datac) rfl eb28 eh29 ?_)
  refine VL.stepD rfl rfl (by decide) (OE.assignV (v := .int .i64 0) rfl ?_)
  refine VL.nil ?_
  change VC _ _ _ _ _ _ _
  refine VC.seq ?_
  refine VC.region ?_
  obtain ⟨b8, eb26⟩ : ∃ b8, b8 = Array.size h5 := ⟨_, rfl⟩
  obtain ⟨h7, eh27⟩ : ∃ h7, h7 = Array.push h5 (.cells #[.pointer none] 96) := ⟨_, rfl⟩
  have H := H b8 h7 eb26 eh27
  refine VL.stepD rfl rfl (by decide) (OE.allocE (z := .pointer none) Tryz.i96 eb26 eh27 ?_)
  refine VL.nil ?_
  change VC _ _ _ _ _ _ _
  refine VC.seq ?_
  refine VC.region ?_
  refine VL.stepD rfl rfl (by decide) (OE.makeFuncL (l := [.pointer (some (Addr.mk b8 0 none)), .pointer (some (Addr.mk b2 0 none))]) rfl ?_)
  obtain ⟨b10, eb24⟩ : ∃ b10, b10 = Array.size h7 := ⟨_, rfl⟩
  obtain ⟨h9, eh25⟩ : ∃ h9, h9 = Array.push h7 (.cells #[.nilFunc] 115) := ⟨_, rfl⟩
  have H := H b10 h9 eb24 eh25
  refine VL.stepD rfl rfl (by decide) (OE.allocE (z := .nilFunc) Tryz.i115 eb24 eh25 ?_)
  obtain ⟨hw12, H⟩ := H
  obtain ⟨h11, eh23⟩ : ∃ h11, h11 = setc h9 (Addr.mk b10 0 none) (.func (.func 45) #[] #[.pointer (some (Addr.mk b8 0 none)), .pointer (some (Addr.mk b2 0 none))]) := ⟨_, rfl⟩
  have H := H h11 eh23
  refine VL.stepN rfl rfl (OE.storeE (a := (Addr.mk b10 0 none)) (v := .func (.func 45) #[] #[.pointer (some (Addr.mk b8 0 none)), .pointer (some (Addr.mk b2 0 none))]) rfl rfl (StT.oneI Tryz.i115 hw12 rfl) eh23 ?_)
  refine VL.nil ?_
  change VC _ _ _ _ _ _ _
  refine VC.seq ?_
  refine VC.region ?_
  obtain ⟨x13, hl14, H⟩ := H
  refine VL.stepD rfl rfl (by decide) (OE.load (a := (Addr.mk b2 0 none)) (v := .pointer x13) rfl (LdT.one Tryz.underlying24 rfl hl14) ?_)
  refine VL.stepD rfl rfl (by decide) (OE.makeFuncL (l := [.pointer (some (Addr.mk b2 0 none)), .pointer (some (Addr.mk b4 0 none)), .pointer (some (Addr.mk b8 0 none))]) rfl ?_)
  refine VL.stepD rfl rfl (by decide) (OE.makeFuncL (l := [.pointer (some (Addr.mk b10 0 none)), .pointer (some (Addr.mk b6 0 none))]) rfl ?_)
  refine VL.stepD rfl rfl (by decide) (OE.makeFuncL (l := [.pointer (some (Addr.mk b10 0 none)), .pointer (some (Addr.mk b6 0 none))]) rfl ?_)
  obtain ⟨b16, eb21⟩ : ∃ b16, b16 = Array.size h11 := ⟨_, rfl⟩
  obtain ⟨h15, eh22⟩ : ∃ h15, h15 = Array.push h11 (.cells #[.func (.func 51) #[] #[.pointer (some (Addr.mk b10 0 none)), .pointer (some (Addr.mk b6 0 none))]] 116) := ⟨_, rfl⟩
  have H := H b16 h15 eb21 eh22
  refine VL.stepD rfl rfl (by decide) (OE.buildSliceE (ps := [(0, (.func (.func 51) #[] #[.pointer (some (Addr.mk b10 0 none)), .pointer (some (Addr.mk b6 0 none))] : Value))]) (cells := #[.func (.func 51) #[] #[.pointer (some (Addr.mk b10 0 none)), .pointer (some (Addr.mk b6 0 none))]]) (e := 116) rfl (Tryz.bf7 _ _) eb21 eh22 ?_)
  refine VL.stepD rfl rfl (by decide) (OE.callL (args := [.pointer x13, .func (.func 49) #[] #[.pointer (some (Addr.mk b2 0 none)), .pointer (some (Addr.mk b4 0 none)), .pointer (some (Addr.mk b8 0 none))], .func (.func 50) #[] #[.pointer (some (Addr.mk b10 0 none)), .pointer (some (Addr.mk b6 0 none))], .slice (some (Addr.mk b16 0 none)) 1 1]) Tryz.func39 rfl Tryz.nn39 rfl rfl (CHE.mono H (fun r17 h18 H => ?_) (fun _ _ e => e.elim)))
  obtain ⟨y19, rfl, H⟩ := H
  refine VL.stepD rfl rfl (by decide) (OE.assignV (v := .int .i64 y19) rfl ?_)
  refine VL.nil ?_
  change VC _ _ _ _ _ _ _
  refine VC.ret ?_
  exact ⟨rfl, _, ResOK.t1 rfl (v := .int .i64 y19) rfl, H⟩

def D_disk_Disk_Sync (R : Value → Hp → Prop) (d : Option Addr) (name : ByteArray) (h : Hp) : Prop :=
  (∀ b2 h1, b2 = Array.size h → h1 = Array.push h (.cells #[.pointer d] 24) → (∀ b4 h3, b4 = Array.size h1 → h3 = Array.push h1 (.cells #[.string name] 9) → (∀ b6 h5, b6 = Array.size h3 → h5 = Array.push h3 (.cells #[.pointer none] 96) → (∃ x7 : Option Addr, cell h5 (Addr.mk b2 0 none) = some (.pointer x7) ∧ (∀ b10 h9, b10 = Array.size h5 → h9 = Array.push h5 (.cells #[.func (.func 55) #[] #[.pointer (some (Addr.mk b6 0 none))]] 116) → CH Tryz.prog 39 #[.pointer x7, .func (.func 52) #[] #[.pointer (some (Addr.mk b2 0 none)), .pointer (some (Addr.mk b4 0 none)), .pointer (some (Addr.mk b6 0 none))], .func (.func 53) #[] #[.pointer (some (Addr.mk b6 0 none))], .slice (some (Addr.mk b10 0 none)) 1 1] h9 (fun r11 h12 => ∃ y13 : Int, r11 = .int .i64 y13 ∧ R (.int .i64 y13) h12))))))
set_option maxRecDepth 10000 in
set_option maxHeartbeats 4000000 in
theorem D_disk_Disk_Sync.sound {R : Value → Hp → Prop} {d : Option Addr} {name : ByteArray} {h : Hp} (H : D_disk_Disk_Sync R  d name h) : CH Tryz.prog 13 #[.pointer d, .string name] h R := by
  refine CHE.enter (n := 12) Tryz.func13 rfl rfl (Nat.le_of_ble_eq_true rfl) ?_
  unfold D_disk_Disk_Sync at H
  refine VC.seq ?_
  refine VC.region ?_
  obtain ⟨b2, eb21⟩ : ∃ b2, b2 = Array.size h := ⟨_, rfl⟩
  obtain ⟨h1, eh22⟩ : ∃ h1, h1 = Array.push h (.cells #[.pointer d] 24) := ⟨_, rfl⟩
  have H := H b2 h1 eb21 eh22
  refine VL.stepD rfl rfl (by decide) (OE.boxE (v := .pointer d) rfl eb21 eh22 ?_)
  obtain ⟨b4, eb19⟩ : ∃ b4, b4 = Array.size h1 := ⟨_, rfl⟩
  obtain ⟨h3, eh20⟩ : ∃ h3, h3 = Array.push h1 (.cells #[.string name] 9) := ⟨_, rfl⟩
  have H := H b4 h3 eb19 eh20
  refine VL.stepD rfl rfl (by decide) (OE.boxE (v := .string name) rfl eb19 eh20 ?_)
  refine VL.stepD rfl rfl (by decide) (OE.assignV (v := .int .i64 0) rfl ?_)
  refine VL.nil ?_
  change VC _ _ _ _ _ _ _
  refine VC.seq ?_
  refine VC.region ?_
  obtain ⟨b6, eb17⟩ : ∃ b6, b6 = Array.size h3 := ⟨_, rfl⟩
  obtain ⟨h5, eh18⟩ : ∃ h5, h5 = Array.push h3 (.cells #[.pointer none] 96) := ⟨_, rfl⟩
  have H := H b6 h5 eb17 eh18
  refine VL.stepD rfl rfl (by decide) (OE.allocE (z := .pointer none) Tryz.i96 eb17 eh18 ?_)
  refine VL.nil ?_
  change VC _ _ _ _ _ _ _
  refine VC.seq ?_
  refine VC.region ?_
  obtain ⟨x7, hl8, H⟩ := H
  refine VL.stepD rfl rfl (by decide) (OE.load (a := (Addr.mk b2 0 none)) (v := .pointer x7) rfl (LdT.one Tryz.underlying24 rfl hl8) ?_)
  refine VL.stepD rfl rfl (by decide) (OE.makeFuncL (l := [.pointer (some (Addr.mk b2 0 none)), .pointer (some (Addr.mk b4 0 none)), .pointer (some (Addr.mk b6 0 none))]) rfl ?_)
  refine VL.stepD rfl rfl (by decide) (OE.makeFuncL (l := [.pointer (some (Addr.mk b6 0 none))]) rfl ?_)
  refine VL.stepD rfl rfl (by decide) (OE.makeFuncL (l := [.pointer (some (Addr.mk b6 0 none))]) rfl ?_)
  obtain ⟨b10, eb15⟩ : ∃ b10, b10 = Array.size h5 := ⟨_, rfl⟩
  obtain ⟨h9, eh16⟩ : ∃ h9, h9 = Array.push h5 (.cells #[.func (.func 55) #[] #[.pointer (some (Addr.mk b6 0 none))]] 116) := ⟨_, rfl⟩
  have H := H b10 h9 eb15 eh16
  refine VL.stepD rfl rfl (by decide) (OE.buildSliceE (ps := [(0, (.func (.func 55) #[] #[.pointer (some (Addr.mk b6 0 none))] : Value))]) (cells := #[.func (.func 55) #[] #[.pointer (some (Addr.mk b6 0 none))]]) (e := 116) rfl (Tryz.bf8 _) eb15 eh16 ?_)
  refine VL.stepD rfl rfl (by decide) (OE.callL (args := [.pointer x7, .func (.func 52) #[] #[.pointer (some (Addr.mk b2 0 none)), .pointer (some (Addr.mk b4 0 none)), .pointer (some (Addr.mk b6 0 none))], .func (.func 53) #[] #[.pointer (some (Addr.mk b6 0 none))], .slice (some (Addr.mk b10 0 none)) 1 1]) Tryz.func39 rfl Tryz.nn39 rfl rfl (CHE.mono H (fun r11 h12 H => ?_) (fun _ _ e => e.elim)))
  obtain ⟨y13, rfl, H⟩ := H
  refine VL.stepD rfl rfl (by decide) (OE.assignV (v := .int .i64 y13) rfl ?_)
  refine VL.nil ?_
  change VC _ _ _ _ _ _ _
  refine VC.ret ?_
  exact ⟨rfl, _, ResOK.t1 rfl (v := .int .i64 y13) rfl, H⟩

def D_disk_Disk_SyncNames (R : Value → Hp → Prop) (d : Option Addr) (h : Hp) : Prop :=
  (∀ b2 h1, b2 = Array.size h → h1 = Array.push h (.cells #[.pointer d] 24) → (∃ x3 : Option Addr, cell h1 (Addr.mk b2 0 none) = some (.pointer x3) ∧ CH Tryz.prog 39 #[.pointer x3, .func (.func 56) #[] #[], .func (.func 57) #[] #[.pointer (some (Addr.mk b2 0 none))], .slice none 0 0] h1 (fun r5 h6 => ∃ y7 : Int, r5 = .int .i64 y7 ∧ R (.int .i64 y7) h6)))
set_option maxRecDepth 10000 in
set_option maxHeartbeats 4000000 in
theorem D_disk_Disk_SyncNames.sound {R : Value → Hp → Prop} {d : Option Addr} {h : Hp} (H : D_disk_Disk_SyncNames R  d h) : CH Tryz.prog 14 #[.pointer d] h R := by
  refine CHE.enter (n := 6) Tryz.func14 rfl rfl (Nat.le_of_ble_eq_true rfl) ?_
  unfold D_disk_Disk_SyncNames at H
  refine VC.seq ?_
  refine VC.region ?_
  obtain ⟨b2, eb9⟩ : ∃ b2, b2 = Array.size h := ⟨_, rfl⟩
  obtain ⟨h1, eh10⟩ : ∃ h1, h1 = Array.push h (.cells #[.pointer d] 24) := ⟨_, rfl⟩
  have H := H b2 h1 eb9 eh10
  refine VL.stepD rfl rfl (by decide) (OE.boxE (v := .pointer d) rfl eb9 eh10 ?_)
  refine VL.stepD rfl rfl (by decide) (OE.assignV (v := .int .i64 0) rfl ?_)
  refine VL.nil ?_
  change VC _ _ _ _ _ _ _
  refine VC.seq ?_
  refine VC.region ?_
  obtain ⟨x3, hl4, H⟩ := H
  refine VL.stepD rfl rfl (by decide) (OE.load (a := (Addr.mk b2 0 none)) (v := .pointer x3) rfl (LdT.one Tryz.underlying24 rfl hl4) ?_)
  refine VL.stepD rfl rfl (by decide) (OE.makeFuncL (l := [.pointer (some (Addr.mk b2 0 none))]) rfl ?_)
  refine VL.stepD rfl rfl (by decide) (OE.callL (args := [.pointer x3, .func (.func 56) #[] #[], .func (.func 57) #[] #[.pointer (some (Addr.mk b2 0 none))], .slice none 0 0]) Tryz.func39 rfl Tryz.nn39 rfl rfl (CHE.mono H (fun r5 h6 H => ?_) (fun _ _ e => e.elim)))
  obtain ⟨y7, rfl, H⟩ := H
  refine VL.stepD rfl rfl (by decide) (OE.assignV (v := .int .i64 y7) rfl ?_)
  refine VL.nil ?_
  change VC _ _ _ _ _ _ _
  refine VC.ret ?_
  exact ⟨rfl, _, ResOK.t1 rfl (v := .int .i64 y7) rfl, H⟩

def D_disk_Disk_Plan (R : Value → Hp → Prop) (d : Option Addr) (p_0A : Option Addr) (p_0n : Nat) (p_0c : Nat) (p_1A : Option Addr) (p_1n : Nat) (p_1c : Nat) (h : Hp) : Prop :=
  (∀ b2 h1, b2 = Array.size h → h1 = Array.push h (.cells #[.slice p_0A p_0n p_0c, .slice p_1A p_1n p_1c] 36) → (((Option.isNone d) = true → R (.tuple #[]) h1) ∧ ((Option.isNone d) = false → (∃ x4A : Option Addr, ∃ x4n : Nat, ∃ x4c : Nat, cell h1 (Addr.mk b2 0 none) = some (.slice x4A x4n x4c) ∧ (∃ x6A : Option Addr, ∃ x6n : Nat, ∃ x6c : Nat, cell h1 ((Addr.mk b2 0 none).add 1) = some (.slice x6A x6n x6c) ∧ CH Tryz.prog 60 #[.slice x4A x4n x4c] h1 (fun r8 h9 => ∃ y10A : Option Addr, ∃ y10n : Nat, ∃ y10c : Nat, r8 = .slice y10A y10n y10c ∧ (cell h9 ((Addr.mk b2 0 none).add 1) = some (.slice x6A x6n x6c) ∧ CH Tryz.prog 60 #[.slice x6A x6n x6c] h9 (fun r12 h13 => ∃ y14A : Option Addr, ∃ y14n : Nat, ∃ y14c : Nat, r12 = .slice y14A y14n y14c ∧ (∃ a15 : Addr, d = some a15 ∧ ((∀ j, j < 2 → Wr h13 (Addr.add (a15.add 6) j)) ∧ ∀ h17, h17 = setRow h13 (a15.add 6) [.slice y10A y10n y10c, .slice y14A y14n y14c] 0 → (Wr h17 (a15.add 8) ∧ ∀ h19, h19 = setc h17 (a15.add 8) (.int .i64 0) → (Wr h19 (a15.add 9) ∧ ∀ h21, h21 = setc h19 (a15.add 9) (.int .i64 0) → R (.tuple #[]) h21))))))))))))
set_option maxRecDepth 10000 in
set_option maxHeartbeats 4000000 in
theorem D_disk_Disk_Plan.sound {R : Value → Hp → Prop} {d : Option Addr} {p_0A : Option Addr} {p_0n : Nat} {p_0c : Nat} {p_1A : Option Addr} {p_1n : Nat} {p_1c : Nat} {h : Hp} (H : D_disk_Disk_Plan R  d p_0A p_0n p_0c p_1A p_1n p_1c h) : CH Tryz.prog 16 #[.pointer d, .agg #[.slice p_0A p_0n p_0c, .slice p_1A p_1n p_1c]] h R := by
  refine CHE.enter (n := 22) Tryz.func16 rfl rfl (Nat.le_of_ble_eq_true rfl) ?_
  unfold D_disk_Disk_Plan at H
  refine VC.seq ?_
  refine VC.region ?_
  obtain ⟨b2, eb28⟩ : ∃ b2, b2 = Array.size h := ⟨_, rfl⟩
  obtain ⟨h1, eh29⟩ : ∃ h1, h1 = Array.push h (.cells #[.slice p_0A p_0n p_0c, .slice p_1A p_1n p_1c] 36) := ⟨_, rfl⟩
  have H := H b2 h1 eb28 eh29
  refine VL.stepD rfl rfl (by decide) (OE.boxE (v := .agg #[.slice p_0A p_0n p_0c, .slice p_1A p_1n p_1c]) rfl eb28 eh29 ?_)
  refine VL.nil ?_
  change VC _ _ _ _ _ _ _
  refine VC.seq ?_
  refine VC.seq ?_
  refine VC.region ?_
  refine VL.stepD rfl rfl (by decide) (OE.moveV (v := .pointer d) rfl ?_)
  refine VL.stepD rfl rfl (by decide) (OE.ptrNilV (b := (Option.isNone d)) (p := d) (q := none) rfl rfl Tryz.underlying24 (.inr rfl) (by simp) ?_)
  refine VL.nil ?_
  change VC _ _ _ _ _ _ _
  refine VC.cond (t := (Option.isNone d)) rfl (fun e3 => ?_) (fun e3 => ?_)
  · have H := H.1 e3
    refine VC.ret ?_
    exact ⟨rfl, _, ResOK.none rfl, H⟩
  · have H := H.2 e3
    refine VC.skip ?_
    change VC _ _ _ _ _ _ _
    refine VC.seq ?_
    refine VC.drawsS Tryz.mixed (by kernel_rfl) (by kernel_rfl) (fun st hd => ?_)
    refine DW.still (i := 0) (v := .pointer d) (by kernel_rfl) ?_
    refine DW.still (i := 1) (v := .pointer (some (Addr.mk b2 0 none))) (by kernel_rfl) ?_
    obtain ⟨x4A, x4n, x4c, hl5, H⟩ := H
    refine DW.still (i := 2) (v := .slice x4A x4n x4c) (by kernel_rfl) ?_
    refine DW.still (i := 4) (v := .pointer (some ((Addr.mk b2 0 none).add 1))) (by kernel_rfl) ?_
    obtain ⟨x6A, x6n, x6c, hl7, H⟩ := H
    refine DW.still (i := 5) (v := .slice x6A x6n x6c) (by kernel_rfl) ?_
    refine DW.loudF (fr (fun _ => undef) [(8, (.slice x4A x4n x4c : Value))]) st hd (i := 3) rfl (by kernel_rfl) (.inl rfl) (by kernel_rfl) ⟨.inr (YD.u (fr (fun _ => undef) [(10, (.pointer (some ((Addr.mk b2 0 none).add 1)) : Value))]) st rfl rfl (by kernel_rfl) (OE.load (a := ((Addr.mk b2 0 none).add 1)) (v := .slice x6A x6n x6c) rfl (LdT.one Tryz.underlying34 rfl hl7) ⟨rfl, rfl⟩)), .inr (YD.u (fr (fun _ => undef) [(3, (.pointer (some (Addr.mk b2 0 none)) : Value))]) st rfl rfl (by kernel_rfl) (OE.fieldAddrI (a := (Addr.mk b2 0 none)) (o := 1) rfl Tryz.underlying36 rfl Tryz.i34 (by decide) rfl ⟨rfl, rfl⟩)), .inr (YD.u (fr (fun _ => undef) [(7, (.pointer (some (Addr.mk b2 0 none)) : Value))]) st rfl rfl (by kernel_rfl) (OE.load (a := (Addr.mk b2 0 none)) (v := .slice x4A x4n x4c) rfl (LdT.one Tryz.underlying34 rfl hl5) ⟨rfl, rfl⟩)), .inr (YD.u (fr (fun _ => undef) [(3, (.pointer (some (Addr.mk b2 0 none)) : Value))]) st rfl rfl (by kernel_rfl) (OE.fieldAddrI (a := (Addr.mk b2 0 none)) (o := 0) rfl Tryz.underlying36 rfl Tryz.i34 (by decide) rfl ⟨rfl, rfl⟩)), .inr (YD.u (fr (fun _ => undef) [(0, (.pointer d : Value))]) st rfl rfl (by kernel_rfl) (OE.moveV (v := .pointer d) rfl ⟨rfl, rfl⟩)), trivial⟩ (OE.callL (args := [.slice x4A x4n x4c]) Tryz.func60 rfl Tryz.nn60 rfl rfl (CHE.mono H (fun r8 h9 H => ?_) (fun _ _ e => e.elim)))
    obtain ⟨y10A, y10n, y10c, rfl, H⟩ := H
    obtain ⟨hs11, H⟩ := H
    refine DW.loudF (fr (fun _ => undef) [(11, (.slice x6A x6n x6c : Value))]) st hd (i := 6) rfl (by kernel_rfl) (.inl rfl) (by kernel_rfl) ⟨.inl (by kernel_rfl), .inr (YD.u (fr (fun _ => undef) [(10, (.pointer (some ((Addr.mk b2 0 none).add 1)) : Value))]) st rfl rfl (by kernel_rfl) (OE.load (a := ((Addr.mk b2 0 none).add 1)) (v := .slice x6A x6n x6c) rfl (LdT.one Tryz.underlying34 rfl hs11) ⟨rfl, rfl⟩)), .inr (YD.u (fr (fun _ => undef) [(3, (.pointer (some (Addr.mk b2 0 none)) : Value))]) st rfl rfl (by kernel_rfl) (OE.fieldAddrI (a := (Addr.mk b2 0 none)) (o := 1) rfl Tryz.underlying36 rfl Tryz.i34 (by decide) rfl ⟨rfl, rfl⟩)), .inl (by kernel_rfl), .inl (by kernel_rfl), .inr (YD.u (fr (fun _ => undef) [(0, (.pointer d : Value))]) st rfl rfl (by kernel_rfl) (OE.moveV (v := .pointer d) rfl ⟨rfl, rfl⟩)), trivial⟩ (OE.callL (args := [.slice x6A x6n x6c]) Tryz.func60 rfl Tryz.nn60 rfl rfl (CHE.mono H (fun r12 h13 H => ?_) (fun _ _ e => e.elim)))
    obtain ⟨y14A, y14n, y14c, rfl, H⟩ := H
    refine DW.still (i := 7) (v := .agg #[.slice y10A y10n y10c, .slice y14A y14n y14c]) (by kernel_rfl) ?_
    obtain ⟨a15, e16, H⟩ := H
    refine DW.still (i := 8) (v := .pointer (some a15)) (by kernel_rfl) ?_
    refine DW.still (i := 9) (v := .pointer (some (a15.add 6))) (by kernel_rfl) ?_
    obtain ⟨hw18, H⟩ := H
    obtain ⟨h17, eh25⟩ : ∃ h17, h17 = setRow h13 (a15.add 6) [.slice y10A y10n y10c, .slice y14A y14n y14c] 0 := ⟨_, rfl⟩
    have H := H h17 eh25
    refine DW.loudF (fr (fun _ => undef) [(15, (.pointer (some (a15.add 6)) : Value)), (13, (.agg #[.slice y10A y10n y10c, .slice y14A y14n y14c] : Value))]) st hd (i := 10) rfl (by kernel_rfl) (.inl rfl) (by kernel_rfl) ⟨.inr (YD.u (fr (fun _ => undef) [(14, (.pointer (some a15) : Value))]) st rfl rfl (by kernel_rfl) (OE.fieldAddrI (a := a15) (o := 6) rfl Tryz.underlying104 rfl Tryz.i36 (by decide) rfl ⟨rfl, rfl⟩)), .inr (YD.u (fr (fun _ => undef) [(6, (.pointer d : Value))]) st rfl rfl (by kernel_rfl) (OE.nilCheck (a := a15) (congrArg Value.pointer e16) ⟨rfl, rfl⟩)), .inr (YD.u (fr (fun _ => undef) [(9, (.slice y10A y10n y10c : Value)), (12, (.slice y14A y14n y14c : Value))]) st rfl rfl (by kernel_rfl) (OE.buildV (ps := [(0, (.slice y10A y10n y10c : Value)), (1, (.slice y14A y14n y14c : Value))]) rfl (Tryz.bf9 _ _ _ _ _ _) ⟨rfl, rfl⟩)), .inl (by kernel_rfl), .inl (by kernel_rfl), .inl (by kernel_rfl), .inl (by kernel_rfl), .inl (by kernel_rfl), .inl (by kernel_rfl), .inr (YD.u (fr (fun _ => undef) [(0, (.pointer d : Value))]) st rfl rfl (by kernel_rfl) (OE.moveV (v := .pointer d) rfl ⟨rfl, rfl⟩)), trivial⟩ (OE.storeE (a := (a15.add 6)) (v := .agg #[.slice y10A y10n y10c, .slice y14A y14n y14c]) rfl rfl (StT.aggI (vs := [.slice y10A y10n y10c, .slice y14A y14n y14c]) Tryz.i36 rfl hw18 (by simp [oneC])) eh25 ?_)
    refine DW.finL st hd [(6, (.pointer d : Value)), (7, (.pointer (some (Addr.mk b2 0 none)) : Value)), (8, (.slice x4A x4n x4c : Value)), (10, (.pointer (some ((Addr.mk b2 0 none).add 1)) : Value)), (11, (.slice x6A x6n x6c : Value)), (9, (.slice y10A y10n y10c : Value)), (12, (.slice y14A y14n y14c : Value)), (13, (.agg #[.slice y10A y10n y10c, .slice y14A y14n y14c] : Value)), (14, (.pointer (some a15) : Value)), (15, (.pointer (some (a15.add 6)) : Value))] (by kernel_rfl) (by kernel_rfl) ⟨.inl (by kernel_rfl), .inl (by kernel_rfl), .inl (by kernel_rfl), .inl (by kernel_rfl), .inl (by kernel_rfl), .inl (by kernel_rfl), .inl (by kernel_rfl), .inl (by kernel_rfl), .inl (by kernel_rfl), .inl (by kernel_rfl), .inl (by kernel_rfl), trivial⟩ ?_
    change VC _ _ _ _ _ _ _
    refine VC.region ?_
    refine VL.stepD rfl rfl (by decide) (OE.moveV (v := .pointer d) rfl ?_)
    refine VL.stepD rfl rfl (by decide) (OE.moveV (v := .pointer d) rfl ?_)
    refine VL.stepD rfl rfl (by decide) (OE.nilCheck (a := a15) (congrArg Value.pointer e16) ?_)
    refine VL.stepD rfl rfl (by decide) (OE.fieldAddrI (a := a15) (o := 8) rfl Tryz.underlying104 rfl Tryz.i3 (by decide) rfl ?_)
    obtain ⟨hw20, H⟩ := H
    obtain ⟨h19, eh24⟩ : ∃ h19, h19 = setc h17 (a15.add 8) (.int .i64 0) := ⟨_, rfl⟩
    have H := H h19 eh24
    refine VL.stepN rfl rfl (OE.storeE (a := (a15.add 8)) (v := .int .i64 0) rfl rfl (StT.oneI Tryz.i3 hw20 rfl) eh24 ?_)
    refine VL.stepD rfl rfl (by decide) (OE.nilCheck (a := a15) (congrArg Value.pointer e16) ?_)
    refine VL.stepD rfl rfl (by decide) (OE.fieldAddrI (a := a15) (o := 9) rfl Tryz.underlying104 rfl Tryz.i3 (by decide) rfl ?_)
    obtain ⟨hw22, H⟩ := H
    obtain ⟨h21, eh23⟩ : ∃ h21, h21 = setc h19 (a15.add 9) (.int .i64 0) := ⟨_, rfl⟩
    have H := H h21 eh23
    refine VL.stepN rfl rfl (OE.storeE (a := (a15.add 9)) (v := .int .i64 0) rfl rfl (StT.oneI Tryz.i3 hw22 rfl) eh23 ?_)
    refine VL.nil ?_
    exact ⟨rfl, _, ResOK.none rfl, H⟩

def D_disk_Disk_Truncate (R : Value → Hp → Prop) (d : Option Addr) (name : ByteArray) (size : Int) (h : Hp) : Prop :=
  (∀ b2 h1, b2 = Array.size h → h1 = Array.push h (.cells #[.pointer d] 24) → (∀ b4 h3, b4 = Array.size h1 → h3 = Array.push h1 (.cells #[.string name] 9) → (∀ b6 h5, b6 = Array.size h3 → h5 = Array.push h3 (.cells #[.int .i64 size] 3) → (∀ b8 h7, b8 = Array.size h5 → h7 = Array.push h5 (.cells #[.pointer none] 96) → (∀ b10 h9, b10 = Array.size h7 → h9 = Array.push h7 (.cells #[.int .i64 0] 3) → (Wr h9 (Addr.mk b10 0 none) ∧ ∀ h11, h11 = setc h9 (Addr.mk b10 0 none) (.int .i64 0) → (∃ x13 : Option Addr, cell h11 (Addr.mk b2 0 none) = some (.pointer x13) ∧ CH Tryz.prog 39 #[.pointer x13, .func (.func 61) #[] #[.pointer (some (Addr.mk b2 0 none)), .pointer (some (Addr.mk b4 0 none)), .pointer (some (Addr.mk b8 0 none)), .pointer (some (Addr.mk b10 0 none)), .pointer (some (Addr.mk b6 0 none))], .func (.func 62) #[] #[.pointer (some (Addr.mk b6 0 none)), .pointer (some (Addr.mk b10 0 none)), .pointer (some (Addr.mk b8 0 none))], .slice none 0 0] h11 (fun r15 h16 => ∃ y17 : Int, r15 = .int .i64 y17 ∧ R (.int .i64 y17) h16))))))))
set_option maxRecDepth 10000 in
set_option maxHeartbeats 4000000 in
theorem D_disk_Disk_Truncate.sound {R : Value → Hp → Prop} {d : Option Addr} {name : ByteArray} {size : Int} {h : Hp} (H : D_disk_Disk_Truncate R  d name size h) : CH Tryz.prog 17 #[.pointer d, .string name, .int .i64 size] h R := by
  refine CHE.enter (n := 13) Tryz.func17 rfl rfl (Nat.le_of_ble_eq_true rfl) ?_
  unfold D_disk_Disk_Truncate at H
  refine VC.seq ?_
  refine VC.region ?_
  obtain ⟨b2, eb28⟩ : ∃ b2, b2 = Array.size h := ⟨_, rfl⟩
  obtain ⟨h1, eh29⟩ : ∃ h1, h1 = Array.push h (.cells #[.pointer d] 24) := ⟨_, rfl⟩
  have H := H b2 h1 eb28 eh29
  refine VL.stepD rfl rfl (by decide) (OE.boxE (v := .pointer d) rfl eb28 eh29 ?_)
  obtain ⟨b4, eb26⟩ : ∃ b4, b4 = Array.size h1 := ⟨_, rfl⟩
  obtain ⟨h3, eh27⟩ : ∃ h3, h3 = Array.push h1 (.cells #[.string name] 9) := ⟨_, rfl⟩
  have H := H b4 h3 eb26 eh27
  refine VL.stepD rfl rfl (by decide) (OE.boxE (v := .string name) rfl eb26 eh27 ?_)
  obtain ⟨b6, eb24⟩ : ∃ b6, b6 = Array.size h3 := ⟨_, rfl⟩
  obtain ⟨h5, eh25⟩ : ∃ h5, h5 = Array.push h3 (.cells #[.int .i64 size] 3) := ⟨_, rfl⟩
  have H := H b6 h5 eb24 eh25
  refine VL.stepD rfl rfl (by decide) (OE.boxE (v := .int .i64 size) rfl eb24 eh25 ?_)
  refine VL.stepD rfl rfl (by decide) (OE.assignV (v := .int .i64 0) rfl ?_)
  refine VL.nil ?_
  change VC _ _ _ _ _ _ _
  refine VC.seq ?_
  refine VC.region ?_
  obtain ⟨b8, eb22⟩ : ∃ b8, b8 = Array.size h5 := ⟨_, rfl⟩
  obtain ⟨h7, eh23⟩ : ∃ h7, h7 = Array.push h5 (.cells #[.pointer none] 96) := ⟨_, rfl⟩
  have H := H b8 h7 eb22 eh23
  refine VL.stepD rfl rfl (by decide) (OE.allocE (z := .pointer none) Tryz.i96 eb22 eh23 ?_)
  refine VL.nil ?_
  change VC _ _ _ _ _ _ _
  refine VC.seq ?_
  refine VC.region ?_
  obtain ⟨b10, eb20⟩ : ∃ b10, b10 = Array.size h7 := ⟨_, rfl⟩
  obtain ⟨h9, eh21⟩ : ∃ h9, h9 = Array.push h7 (.cells #[.int .i64 0] 3) := ⟨_, rfl⟩
  have H := H b10 h9 eb20 eh21
  refine VL.stepD rfl rfl (by decide) (OE.allocE (z := .int .i64 0) Tryz.i3 eb20 eh21 ?_)
  obtain ⟨hw12, H⟩ := H
  obtain ⟨h11, eh19⟩ : ∃ h11, h11 = setc h9 (Addr.mk b10 0 none) (.int .i64 0) := ⟨_, rfl⟩
  have H := H h11 eh19
  refine VL.stepN rfl rfl (OE.storeE (a := (Addr.mk b10 0 none)) (v := .int .i64 0) rfl rfl (StT.oneI Tryz.i3 hw12 rfl) eh19 ?_)
  refine VL.nil ?_
  change VC _ _ _ _ _ _ _
  refine VC.seq ?_
  refine VC.region ?_
  obtain ⟨x13, hl14, H⟩ := H
  refine VL.stepD rfl rfl (by decide) (OE.load (a := (Addr.mk b2 0 none)) (v := .pointer x13) rfl (LdT.one Tryz.underlying24 rfl hl14) ?_)
  refine VL.stepD rfl rfl (by decide) (OE.makeFuncL (l := [.pointer (some (Addr.mk b2 0 none)), .pointer (some (Addr.mk b4 0 none)), .pointer (some (Addr.mk b8 0 none)), .pointer (some (Addr.mk b10 0 none)), .pointer (some (Addr.mk b6 0 none))]) rfl ?_)
  refine VL.stepD rfl rfl (by decide) (OE.makeFuncL (l := [.pointer (some (Addr.mk b6 0 none)), .pointer (some (Addr.mk b10 0 none)), .pointer (some (Addr.mk b8 0 none))]) rfl ?_)
  refine VL.stepD rfl rfl (by decide) (OE.callL (args := [.pointer x13, .func (.func 61) #[] #[.pointer (some (Addr.mk b2 0 none)), .pointer (some (Addr.mk b4 0 none)), .pointer (some (Addr.mk b8 0 none)), .pointer (some (Addr.mk b10 0 none)), .pointer (some (Addr.mk b6 0 none))], .func (.func 62) #[] #[.pointer (some (Addr.mk b6 0 none)), .pointer (some (Addr.mk b10 0 none)), .pointer (some (Addr.mk b8 0 none))], .slice none 0 0]) Tryz.func39 rfl Tryz.nn39 rfl rfl (CHE.mono H (fun r15 h16 H => ?_) (fun _ _ e => e.elim)))
  obtain ⟨y17, rfl, H⟩ := H
  refine VL.stepD rfl rfl (by decide) (OE.assignV (v := .int .i64 y17) rfl ?_)
  refine VL.nil ?_
  change VC _ _ _ _ _ _ _
  refine VC.ret ?_
  exact ⟨rfl, _, ResOK.t1 rfl (v := .int .i64 y17) rfl, H⟩

end Go.Proofs
