/- Part of a proof, by program out of hand-written texts. -/
import Derived.Test.YteabnfdeklajlaaGreatF1
set_option linter.unusedVariables false
set_option linter.unusedSimpArgs false
set_option maxRecDepth 10000
namespace Go.Proofs
open Go Go.V
def D_disk_file_lengths.J1 (R : Value → Hp → Prop)   (j5 : Int) (j6 : Int) (h7 : Hp) : Prop :=
  R (.tuple #[.int .i64 j5, .int .i64 j6]) h7
def D_disk_file_lengths.L2 (R : Value → Hp → Prop)  (x8A : Option Addr) (x8n : Nat) (C14 : Int → Int → Int → Hp → Prop) (j10 : Int) (j11 : Int) (j12 : Int) (h13 : Hp) : Prop :=
  (((decide (j12 < ((x8n : Nat) : Int))) = true → (∃ a16 : Addr, x8A = some a16 ∧ (0 : Int) ≤ j12 ∧ j12 < (x8n : Int) ∧ (∃ x20 : Value, cell h13 (a16.add (Int.toNat j12 * 1)) = some (x20) ∧ CHI Tryz.prog x20 "treadle/disk.length" [.int .i64 j10] h13 (fun r22 h23 => ∃ y24 : Int, r22 = .int .i64 y24 ∧ C14 y24 (optMx j11 y24) (IntKind.i64.wrap (j12 + 1)) h23)))) ∧ ((decide (j12 < ((x8n : Nat) : Int))) = false → D_disk_file_lengths.J1 R   j10 j11 h13))
def D_disk_file_lengths (R : Value → Hp → Prop) (f' : Option Addr) (h : Hp) : Prop :=
  (∃ a1 : Addr, f' = some a1 ∧ (∃ x3A : Option Addr, ∃ x3n : Nat, ∃ x3c : Nat, cell h a1 = some (.slice x3A x3n x3c) ∧ (∃ x8A : Option Addr, ∃ x8n : Nat, ∃ x8c : Nat, cell h (a1.add 1) = some (.slice x8A x8n x8c) ∧ (∃ Inv : Int → Int → Int → Hp → Nat → Prop, (∃ m, Inv ((x3n : Nat) : Int) ((x3n : Nat) : Int) 0 h m) ∧ ∀ j10 j11 j12 h13 m, Inv j10 j11 j12 h13 m → D_disk_file_lengths.L2 R  x8A x8n (fun j10 j11 j12 h13 => ∃ m1, m1 < m ∧ Inv j10 j11 j12 h13 m1) j10 j11 j12 h13))))
set_option maxRecDepth 10000 in
set_option maxHeartbeats 4000000 in
theorem D_disk_file_lengths.sound {R : Value → Hp → Prop} {f' : Option Addr} {h : Hp} (H : D_disk_file_lengths R  f' h) : CH Tryz.prog 46 #[.pointer f'] h R := by
  refine CHE.enter (n := 30) Tryz.func46 rfl rfl (Nat.le_of_ble_eq_true rfl) ?_
  unfold D_disk_file_lengths at H
  refine VC.seq ?_
  refine VC.region ?_
  refine VL.stepD rfl rfl (by decide) (OE.assignV (v := .int .i64 0) rfl ?_)
  refine VL.stepD rfl rfl (by decide) (OE.assignV (v := .int .i64 0) rfl ?_)
  refine VL.nil ?_
  change VC _ _ _ _ _ _ _
  refine VC.seq ?_
  refine VC.region ?_
  refine VL.stepD rfl rfl (by decide) (OE.moveV (v := .pointer f') rfl ?_)
  obtain ⟨a1, e2, H⟩ := H
  refine VL.stepD rfl rfl (by decide) (OE.nilCheck (a := a1) (congrArg Value.pointer e2) ?_)
  refine VL.stepD rfl rfl (by decide) (OE.fieldAddrI (a := a1) (o := 0) rfl Tryz.underlying111 rfl Tryz.i22 (by decide) rfl ?_)
  obtain ⟨x3A, x3n, x3c, hl4, H⟩ := H
  refine VL.stepD rfl rfl (by decide) (OE.load (a := a1) (v := .slice x3A x3n x3c) rfl (LdT.one Tryz.underlying22 rfl hl4) ?_)
  refine VL.stepD rfl rfl (by decide) (OE.lenSlice rfl Tryz.underlying22 ?_)
  refine VL.stepD rfl rfl (by decide) (OE.assignV (v := .int .i64 ((x3n : Nat) : Int)) rfl ?_)
  refine VL.nil ?_
  change VC _ _ _ _ _ _ _
  refine VC.seq ?_
  refine VC.region ?_
  refine VL.stepD rfl rfl (by decide) (OE.moveV (v := .int .i64 ((x3n : Nat) : Int)) rfl ?_)
  refine VL.stepD rfl rfl (by decide) (OE.assignV (v := .int .i64 ((x3n : Nat) : Int)) rfl ?_)
  refine VL.nil ?_
  change VC _ _ _ _ _ _ _
  refine VC.seqJ (fun f h7 => ∃ j5 : Int, ∃ j6 : Int, f 2 = (.int .i64 j5 : Value) ∧ f 3 = (.int .i64 j6 : Value) ∧ D_disk_file_lengths.J1 R   j5 j6 h7) ?_ ?_
  · intro f h7 J
    obtain ⟨j5, j6, hk2, hk3, H⟩ := J
    rw [← fr_self f [(2, .int .i64 j5), (3, .int .i64 j6)] (by simp only [List.mem_cons, List.not_mem_nil, or_false]; rintro p (rfl | rfl) <;> assumption)]
    unfold D_disk_file_lengths.J1 at H
    refine VC.seq ?_
    refine VC.region ?_
    refine VL.stepD rfl rfl (by decide) (OE.moveV (v := .int .i64 j5) rfl ?_)
    refine VL.stepD rfl rfl (by decide) (OE.moveV (v := .int .i64 j6) rfl ?_)
    refine VL.stepD rfl rfl (by decide) (OE.assignV (v := .int .i64 j5) rfl ?_)
    refine VL.stepD rfl rfl (by decide) (OE.assignV (v := .int .i64 j6) rfl ?_)
    refine VL.nil ?_
    change VC _ _ _ _ _ _ _
    refine VC.ret ?_
    exact ⟨rfl, _, ResOK.t2 rfl (v0 := .int .i64 j5) (v1 := .int .i64 j6) rfl rfl, H⟩
  · skip
    refine VC.seq ?_
    refine VC.region ?_
    refine VL.stepD rfl rfl (by decide) (OE.moveV (v := .pointer f') rfl ?_)
    refine VL.stepD rfl rfl (by decide) (OE.nilCheck (a := a1) (congrArg Value.pointer e2) ?_)
    refine VL.stepD rfl rfl (by decide) (OE.fieldAddrI (a := a1) (o := 1) rfl Tryz.underlying111 rfl Tryz.i109 (by decide) rfl ?_)
    obtain ⟨x8A, x8n, x8c, hl9, H⟩ := H
    refine VL.stepD rfl rfl (by decide) (OE.load (a := (a1.add 1)) (v := .slice x8A x8n x8c) rfl (LdT.one Tryz.underlying109 rfl hl9) ?_)
    refine VL.stepD rfl rfl (by decide) (OE.lenSlice rfl Tryz.underlying109 ?_)
    refine VL.stepD rfl rfl (by decide) (OE.moveV (v := .int .i64 0) rfl ?_)
    refine VL.nil ?_
    change VC _ _ _ _ _ _ _
    refine VC.block ?_
    obtain ⟨Inv, ⟨m0, h0⟩, H⟩ := H
    refine VC.loop (fun ds f h13 m => ds = [] ∧ ∃ j10 : Int, ∃ j11 : Int, ∃ j12 : Int, f 2 = (.int .i64 j10 : Value) ∧ f 3 = (.int .i64 j11 : Value) ∧ f 15 = (.slice x8A x8n x8c : Value) ∧ f 16 = (.int .i64 ((x8n : Nat) : Int) : Value) ∧ f 17 = (.int .i64 j12 : Value) ∧ Inv j10 j11 j12 h13 m) (m0 := m0) ⟨rfl, ((x3n : Nat) : Int), ((x3n : Nat) : Int), 0, rfl, rfl, rfl, rfl, rfl, h0⟩ ?_
    intro ds f h13 m I
    obtain ⟨rfl, j10, j11, j12, hk2, hk3, hk15, hk16, hk17, I⟩ := I
    rw [← fr_self f [(2, .int .i64 j10), (3, .int .i64 j11), (15, .slice x8A x8n x8c), (16, .int .i64 ((x8n : Nat) : Int)), (17, .int .i64 j12)] (by simp only [List.mem_cons, List.not_mem_nil, or_false]; rintro p (rfl | rfl | rfl | rfl | rfl) <;> assumption)]
    obtain ⟨C14, eC14⟩ : ∃ C14 : Int → Int → Int → Hp → Prop, C14 = (fun j10 j11 j12 h13 => ∃ m1, m1 < m ∧ Inv j10 j11 j12 h13 m1) := ⟨_, rfl⟩
    have H : D_disk_file_lengths.L2 R  x8A x8n C14 j10 j11 j12 h13 := by rw [eC14]; exact H j10 j11 j12 h13 m I
    unfold D_disk_file_lengths.L2 at H
    refine VC.seq ?_
    refine VC.region ?_
    refine VL.stepD rfl rfl (by decide) (OE.binI (v := .bool (decide (j12 < ((x8n : Nat) : Int)))) rfl rfl rfl ?_)
    refine VL.nil ?_
    change VC _ _ _ _ _ _ _
    refine VC.seq ?_
    refine VC.cond (t := (decide (j12 < ((x8n : Nat) : Int)))) rfl (fun e15 => ?_) (fun e15 => ?_)
    · have H := H.1 e15
      refine VC.skip ?_
      change VC _ _ _ _ _ _ _
      refine VC.seq ?_
      refine VC.block ?_
      refine VC.seq ?_
      refine VC.region ?_
      obtain ⟨a16, e17, z18, z19, H⟩ := H
      refine VL.stepD rfl rfl (by decide) (OE.indexAddrI (sz := 1) rfl rfl Tryz.underlying109 Tryz.i150 e17 z18 z19 ?_)
      obtain ⟨x20, hl21, H⟩ := H
      refine VL.stepD rfl rfl (by decide) (OE.load (a := (a16.add (Int.toNat j12 * 1))) (v := x20) rfl (LdT.one Tryz.underlying150 rfl hl21) ?_)
      refine VL.stepD rfl rfl (by decide) (OE.assignV (v := x20) rfl ?_)
      refine VL.nil ?_
      change VC _ _ _ _ _ _ _
      refine VC.seq ?_
      refine VC.region ?_
      refine VL.stepD rfl rfl (by decide) (OE.moveV (v := x20) rfl ?_)
      refine VL.stepD rfl rfl (by decide) (OE.moveV (v := .int .i64 j10) rfl ?_)
      refine VL.stepD rfl rfl (by decide) (OE.callI (l := [.int .i64 j10]) rfl rfl (CHI.mono H (fun r22 h23 H => ?_)))
      obtain ⟨y24, rfl, H⟩ := H
      refine VL.stepD rfl rfl (by decide) (OE.assignV (v := .int .i64 y24) rfl ?_)
      refine VL.nil ?_
      change VC _ _ _ _ _ _ _
      refine VC.region ?_
      refine VL.stepD rfl rfl (by decide) (OE.moveV (v := .int .i64 j11) rfl ?_)
      refine VL.stepD rfl rfl (by decide) (OE.moveV (v := .int .i64 y24) rfl ?_)
      refine VL.stepD rfl rfl (by decide) (OE.max rfl rfl ?_)
      refine VL.stepD rfl rfl (by decide) (OE.assignV (v := .int .i64 (optMx j11 y24)) rfl ?_)
      refine VL.nil ?_
      change VC _ _ _ _ _ _ _
      refine VC.region ?_
      refine VL.stepD rfl rfl (by decide) (OE.binI (v := .int .i64 (IntKind.i64.wrap (j12 + 1))) rfl rfl rfl ?_)
      refine VL.stepD rfl rfl (by decide) (OE.moveV (v := .int .i64 (IntKind.i64.wrap (j12 + 1))) rfl ?_)
      refine VL.nil ?_
      rw [eC14] at H
      obtain ⟨m1, hm1, H⟩ := H
      exact ⟨m1, hm1, rfl, y24, (optMx j11 y24), (IntKind.i64.wrap (j12 + 1)), rfl, rfl, rfl, rfl, rfl, H⟩
    · have H := H.2 e15
      refine VC.exit ?_
      exact ⟨rfl, j10, j11, rfl, rfl, H⟩

def D_disk_Disk_held.J1 (R : Value → Hp → Prop)   (j1 : Int) (h2 : Hp) : Prop :=
  R (.int .i64 j1) h2
def D_disk_Disk_held.L2 (R : Value → Hp → Prop)  (d : Option Addr) (idsA : Option Addr) (idsn : Nat) (C6 : Int → Int → Hp → Prop) (j3 : Int) (j4 : Int) (h5 : Hp) : Prop :=
  (((decide (j4 < ((idsn : Nat) : Int))) = true → (∃ a8 : Addr, idsA = some a8 ∧ (0 : Int) ≤ j4 ∧ j4 < (idsn : Int) ∧ (∃ x12 : Int, cell h5 (a8.add (Int.toNat j4 * 1)) = some (.int .i64 x12) ∧ (∃ a14 : Addr, d = some a14 ∧ (∃ x16 : Option Nat, cell h5 (a14.add 3) = some (.map x16) ∧ (∃ x18 : Option Addr, MLk Tryz.prog 100 h5 (.map x16) (.int .i64 x12) false (.pointer x18) ∧ CH Tryz.prog 46 #[.pointer x18] h5 (fun r20 h21 => ∃ y22_0 : Int, ∃ y22_1 : Int, r20 = .tuple #[.int .i64 y22_0, .int .i64 y22_1] ∧ C6 (IntKind.i64.wrap (j3 + y22_1)) (IntKind.i64.wrap (j4 + 1)) h21))))))) ∧ ((decide (j4 < ((idsn : Nat) : Int))) = false → D_disk_Disk_held.J1 R   j3 h5))
def D_disk_Disk_held (R : Value → Hp → Prop) (d : Option Addr) (idsA : Option Addr) (idsn : Nat) (idsc : Nat) (h : Hp) : Prop :=
  (∃ Inv : Int → Int → Hp → Nat → Prop, (∃ m, Inv 0 0 h m) ∧ ∀ j3 j4 h5 m, Inv j3 j4 h5 m → D_disk_Disk_held.L2 R  d idsA idsn (fun j3 j4 h5 => ∃ m1, m1 < m ∧ Inv j3 j4 h5 m1) j3 j4 h5)
set_option maxRecDepth 10000 in
set_option maxHeartbeats 4000000 in
theorem D_disk_Disk_held.sound {R : Value → Hp → Prop} {d : Option Addr} {idsA : Option Addr} {idsn : Nat} {idsc : Nat} {h : Hp} (H : D_disk_Disk_held R  d idsA idsn idsc h) : CH Tryz.prog 47 #[.pointer d, .slice idsA idsn idsc] h R := by
  refine CHE.enter (n := 31) Tryz.func47 rfl rfl (Nat.le_of_ble_eq_true rfl) ?_
  unfold D_disk_Disk_held at H
  refine VC.seq ?_
  refine VC.region ?_
  refine VL.stepD rfl rfl (by decide) (OE.assignV (v := .int .i64 0) rfl ?_)
  refine VL.nil ?_
  change VC _ _ _ _ _ _ _
  refine VC.seq ?_
  refine VC.region ?_
  refine VL.stepD rfl rfl (by decide) (OE.assignV (v := .int .i64 0) rfl ?_)
  refine VL.nil ?_
  change VC _ _ _ _ _ _ _
  refine VC.seqJ (fun f h2 => ∃ j1 : Int, f 5 = (.int .i64 j1 : Value) ∧ D_disk_Disk_held.J1 R   j1 h2) ?_ ?_
  · intro f h2 J
    obtain ⟨j1, hk5, H⟩ := J
    rw [← fr_self f [(5, .int .i64 j1)] (by simp only [List.mem_cons, List.not_mem_nil, or_false]; rintro p (rfl) <;> assumption)]
    unfold D_disk_Disk_held.J1 at H
    refine VC.seq ?_
    refine VC.region ?_
    refine VL.stepD rfl rfl (by decide) (OE.moveV (v := .int .i64 j1) rfl ?_)
    refine VL.stepD rfl rfl (by decide) (OE.assignV (v := .int .i64 j1) rfl ?_)
    refine VL.nil ?_
    change VC _ _ _ _ _ _ _
    refine VC.ret ?_
    exact ⟨rfl, _, ResOK.t1 rfl (v := .int .i64 j1) rfl, H⟩
  · skip
    refine VC.seq ?_
    refine VC.region ?_
    refine VL.stepD rfl rfl (by decide) (OE.moveV (v := .slice idsA idsn idsc) rfl ?_)
    refine VL.stepD rfl rfl (by decide) (OE.lenSlice rfl Tryz.underlying44 ?_)
    refine VL.stepD rfl rfl (by decide) (OE.moveV (v := .int .i64 0) rfl ?_)
    refine VL.nil ?_
    change VC _ _ _ _ _ _ _
    refine VC.block ?_
    obtain ⟨Inv, ⟨m0, h0⟩, H⟩ := H
    refine VC.loop (fun ds f h5 m => ds = [] ∧ ∃ j3 : Int, ∃ j4 : Int, f 0 = (.pointer d : Value) ∧ f 5 = (.int .i64 j3 : Value) ∧ f 10 = (.slice idsA idsn idsc : Value) ∧ f 11 = (.int .i64 ((idsn : Nat) : Int) : Value) ∧ f 12 = (.int .i64 j4 : Value) ∧ Inv j3 j4 h5 m) (m0 := m0) ⟨rfl, 0, 0, rfl, rfl, rfl, rfl, rfl, h0⟩ ?_
    intro ds f h5 m I
    obtain ⟨rfl, j3, j4, hk0, hk5, hk10, hk11, hk12, I⟩ := I
    rw [← fr_self f [(0, .pointer d), (5, .int .i64 j3), (10, .slice idsA idsn idsc), (11, .int .i64 ((idsn : Nat) : Int)), (12, .int .i64 j4)] (by simp only [List.mem_cons, List.not_mem_nil, or_false]; rintro p (rfl | rfl | rfl | rfl | rfl) <;> assumption)]
    obtain ⟨C6, eC6⟩ : ∃ C6 : Int → Int → Hp → Prop, C6 = (fun j3 j4 h5 => ∃ m1, m1 < m ∧ Inv j3 j4 h5 m1) := ⟨_, rfl⟩
    have H : D_disk_Disk_held.L2 R  d idsA idsn C6 j3 j4 h5 := by rw [eC6]; exact H j3 j4 h5 m I
    unfold D_disk_Disk_held.L2 at H
    refine VC.seq ?_
    refine VC.region ?_
    refine VL.stepD rfl rfl (by decide) (OE.binI (v := .bool (decide (j4 < ((idsn : Nat) : Int)))) rfl rfl rfl ?_)
    refine VL.nil ?_
    change VC _ _ _ _ _ _ _
    refine VC.seq ?_
    refine VC.cond (t := (decide (j4 < ((idsn : Nat) : Int)))) rfl (fun e7 => ?_) (fun e7 => ?_)
    · have H := H.1 e7
      refine VC.skip ?_
      change VC _ _ _ _ _ _ _
      refine VC.seq ?_
      refine VC.block ?_
      refine VC.seq ?_
      refine VC.region ?_
      obtain ⟨a8, e9, z10, z11, H⟩ := H
      refine VL.stepD rfl rfl (by decide) (OE.indexAddrI (sz := 1) rfl rfl Tryz.underlying44 Tryz.i3 e9 z10 z11 ?_)
      obtain ⟨x12, hl13, H⟩ := H
      refine VL.stepD rfl rfl (by decide) (OE.load (a := (a8.add (Int.toNat j4 * 1))) (v := .int .i64 x12) rfl (LdT.one Tryz.underlying3 rfl hl13) ?_)
      refine VL.stepD rfl rfl (by decide) (OE.assignV (v := .int .i64 x12) rfl ?_)
      refine VL.nil ?_
      change VC _ _ _ _ _ _ _
      refine VC.seq ?_
      refine VC.region ?_
      refine VL.stepD rfl rfl (by decide) (OE.moveV (v := .pointer d) rfl ?_)
      obtain ⟨a14, e15, H⟩ := H
      refine VL.stepD rfl rfl (by decide) (OE.nilCheck (a := a14) (congrArg Value.pointer e15) ?_)
      refine VL.stepD rfl rfl (by decide) (OE.fieldAddrI (a := a14) (o := 3) rfl Tryz.underlying104 rfl Tryz.i100 (by decide) rfl ?_)
      obtain ⟨x16, hl17, H⟩ := H
      refine VL.stepD rfl rfl (by decide) (OE.load (a := (a14.add 3)) (v := .map x16) rfl (LdT.one Tryz.underlying100 rfl hl17) ?_)
      refine VL.stepD rfl rfl (by decide) (OE.moveV (v := .int .i64 x12) rfl ?_)
      obtain ⟨x18, hl19, H⟩ := H
      refine VL.stepD rfl rfl (by decide) (OE.lookup (m := .map x16) (k := .int .i64 x12) rfl rfl hl19 ?_)
      refine VL.stepD rfl rfl (by decide) (OE.callL (args := [.pointer x18]) Tryz.func46 rfl Tryz.nn46 rfl rfl (CHE.mono H (fun r20 h21 H => ?_) (fun _ _ e => e.elim)))
      obtain ⟨y22_0, y22_1, rfl, H⟩ := H
      refine VL.stepD rfl rfl (by decide) (OE.moveV (v := .tuple #[.int .i64 y22_0, .int .i64 y22_1]) rfl ?_)
      refine VL.stepD rfl rfl (by decide) (OE.extract (v := .int .i64 y22_0) rfl rfl ?_)
      refine VL.stepD rfl rfl (by decide) (OE.extract (v := .int .i64 y22_1) rfl rfl ?_)
      refine VL.stepD rfl rfl (by decide) (OE.assignV (v := .int .i64 y22_0) rfl ?_)
      refine VL.stepD rfl rfl (by decide) (OE.assignV (v := .int .i64 y22_1) rfl ?_)
      refine VL.nil ?_
      change VC _ _ _ _ _ _ _
      refine VC.region ?_
      refine VL.stepD rfl rfl (by decide) (OE.moveV (v := .int .i64 j3) rfl ?_)
      refine VL.stepD rfl rfl (by decide) (OE.moveV (v := .int .i64 y22_1) rfl ?_)
      refine VL.stepD rfl rfl (by decide) (OE.binI (v := .int .i64 (IntKind.i64.wrap (j3 + y22_1))) rfl rfl rfl ?_)
      refine VL.stepD rfl rfl (by decide) (OE.assignV (v := .int .i64 (IntKind.i64.wrap (j3 + y22_1))) rfl ?_)
      refine VL.nil ?_
      change VC _ _ _ _ _ _ _
      refine VC.region ?_
      refine VL.stepD rfl rfl (by decide) (OE.binI (v := .int .i64 (IntKind.i64.wrap (j4 + 1))) rfl rfl rfl ?_)
      refine VL.stepD rfl rfl (by decide) (OE.moveV (v := .int .i64 (IntKind.i64.wrap (j4 + 1))) rfl ?_)
      refine VL.nil ?_
      rw [eC6] at H
      obtain ⟨m1, hm1, H⟩ := H
      exact ⟨m1, hm1, rfl, (IntKind.i64.wrap (j3 + y22_1)), (IntKind.i64.wrap (j4 + 1)), rfl, rfl, rfl, rfl, rfl, H⟩
    · have H := H.2 e7
      refine VC.exit ?_
      exact ⟨rfl, j3, rfl, H⟩

def D_slices_Clone_byte (R : Value → Hp → Prop) (sA : Option Addr) (sn : Nat) (sc : Nat) (h : Hp) : Prop :=
  (((Option.isNone sA) = true → R (.slice none 0 0) h) ∧ ((Option.isNone sA) = false → (∀ b3 h2, b3 = Array.size h → h2 = Array.push h (.cells #[] 5) → (∃ vs4 : List Value, Src h2 (sn * 1) vs4 sA ∧ (∀ v ∈ vs4, oneC v = true) ∧ (0 + sn) * 1 ≤ 140737488355328 ∧ 0 + sn ≤ 9223372036854775807 ∧ AppendV 5 (.int .u8 0 : Value) 1 h2 (some (Addr.mk b3 0 none)) 0 0 sn vs4 (fun A9 n10 c11 h12 => R (.slice A9 n10 c11) h12)))))
set_option maxRecDepth 10000 in
set_option maxHeartbeats 4000000 in
theorem D_slices_Clone_byte.sound {R : Value → Hp → Prop} {sA : Option Addr} {sn : Nat} {sc : Nat} {h : Hp} (H : D_slices_Clone_byte R  sA sn sc h) : CH Tryz.prog 48 #[.slice sA sn sc] h R := by
  refine CHE.enter (n := 8) Tryz.func48 rfl rfl (Nat.le_of_ble_eq_true rfl) ?_
  unfold D_slices_Clone_byte at H
  refine VC.seq ?_
  refine VC.region ?_
  refine VL.stepD rfl rfl (by decide) (OE.assignV (v := .slice none 0 0) rfl ?_)
  refine VL.nil ?_
  change VC _ _ _ _ _ _ _
  refine VC.seq ?_
  refine VC.seq ?_
  refine VC.region ?_
  refine VL.stepD rfl rfl (by decide) (OE.moveV (v := .slice sA sn sc) rfl ?_)
  refine VL.stepD rfl rfl (by decide) (OE.sliceNil (b := (Option.isNone sA)) (A := sA) (n := sn) (c := sc) rfl rfl Tryz.underlying22 (.inl ⟨rfl, rfl⟩) ?_)
  refine VL.nil ?_
  change VC _ _ _ _ _ _ _
  refine VC.cond (t := (Option.isNone sA)) rfl (fun e1 => ?_) (fun e1 => ?_)
  · have H := H.1 e1
    refine VC.seq ?_
    refine VC.region ?_
    refine VL.stepD rfl rfl (by decide) (OE.assignV (v := .slice none 0 0) rfl ?_)
    refine VL.nil ?_
    change VC _ _ _ _ _ _ _
    refine VC.ret ?_
    exact ⟨rfl, _, ResOK.t1 rfl (v := .slice none 0 0) rfl, H⟩
  · have H := H.2 e1
    refine VC.skip ?_
    change VC _ _ _ _ _ _ _
    refine VC.seq ?_
    refine VC.region ?_
    obtain ⟨b3, eb13⟩ : ∃ b3, b3 = Array.size h := ⟨_, rfl⟩
    obtain ⟨h2, eh14⟩ : ∃ h2, h2 = Array.push h (.cells #[] 5) := ⟨_, rfl⟩
    have H := H b3 h2 eb13 eh14
    refine VL.stepD rfl rfl (by decide) (OE.buildSliceE (ps := []) (cells := #[]) (e := 5) rfl (Tryz.bf16) eb13 eh14 ?_)
    refine VL.stepD rfl rfl (by decide) (OE.moveV (v := .slice sA sn sc) rfl ?_)
    obtain ⟨vs4, z5, z6, z7, z8, H⟩ := H
    refine VL.stepD rfl rfl (by decide) (OE.appendV (z := (.int .u8 0 : Value)) (sz := 1) (bs := 1) rfl rfl Tryz.underlying22 Tryz.i5 z5 z6 z7 z8 (AppendV.mono H (fun A9 n10 c11 h12 H => ?_)))
    refine VL.stepD rfl rfl (by decide) (OE.assignV (v := .slice A9 n10 c11) rfl ?_)
    refine VL.nil ?_
    change VC _ _ _ _ _ _ _
    refine VC.ret ?_
    exact ⟨rfl, _, ResOK.t1 rfl (v := .slice A9 n10 c11) rfl, H⟩


def D_disk_Disk_Append_2 (R : Value → Hp → Prop) (c0 : Addr) (c1 : Addr) (c2 : Addr) (h : Hp) : Prop :=
  (∃ x1 : Option Addr, cell h c0 = some (.pointer x1) ∧ (∃ x3 : ByteArray, cell h c1 = some (.string x3) ∧ CH Tryz.prog 41 #[.pointer x1, .string x3] h (fun r5 h6 => ∃ y7_0 : Option Addr, ∃ y7_1 : Int, r5 = .tuple #[.pointer y7_0, .int .i64 y7_1] ∧ (Wr h6 c2 ∧ ∀ h8, h8 = setc h6 c2 (.pointer y7_0) → R (.int .i64 y7_1) h8))))
set_option maxRecDepth 10000 in
set_option maxHeartbeats 4000000 in
theorem D_disk_Disk_Append_2.sound {R : Value → Hp → Prop} {c0 : Addr} {c1 : Addr} {c2 : Addr} {h : Hp} (H : D_disk_Disk_Append_2 R  c0 c1 c2 h) : CH Tryz.prog 49 #[.pointer (some c0), .pointer (some c1), .pointer (some c2)] h R := by
  refine CHE.enter (n := 11) Tryz.func49 rfl rfl (Nat.le_of_ble_eq_true rfl) ?_
  unfold D_disk_Disk_Append_2 at H
  refine VC.seq ?_
  refine VC.region ?_
  refine VL.stepD rfl rfl (by decide) (OE.assignV (v := .int .i64 0) rfl ?_)
  refine VL.nil ?_
  change VC _ _ _ _ _ _ _
  refine VC.seq ?_
  refine VC.region ?_
  obtain ⟨x1, hl2, H⟩ := H
  refine VL.stepD rfl rfl (by decide) (OE.load (a := c0) (v := .pointer x1) rfl (LdT.one Tryz.underlying24 rfl hl2) ?_)
  obtain ⟨x3, hl4, H⟩ := H
  refine VL.stepD rfl rfl (by decide) (OE.load (a := c1) (v := .string x3) rfl (LdT.one Tryz.underlying9 rfl hl4) ?_)
  refine VL.stepD rfl rfl (by decide) (OE.callL (args := [.pointer x1, .string x3]) Tryz.func41 rfl Tryz.nn41 rfl rfl (CHE.mono H (fun r5 h6 H => ?_) (fun _ _ e => e.elim)))
  obtain ⟨y7_0, y7_1, rfl, H⟩ := H
  refine VL.stepD rfl rfl (by decide) (OE.moveV (v := .tuple #[.pointer y7_0, .int .i64 y7_1]) rfl ?_)
  refine VL.stepD rfl rfl (by decide) (OE.extract (v := .pointer y7_0) rfl rfl ?_)
  refine VL.stepD rfl rfl (by decide) (OE.extract (v := .int .i64 y7_1) rfl rfl ?_)
  obtain ⟨hw9, H⟩ := H
  obtain ⟨h8, eh10⟩ : ∃ h8, h8 = setc h6 c2 (.pointer y7_0) := ⟨_, rfl⟩
  have H := H h8 eh10
  refine VL.stepN rfl rfl (OE.storeE (a := c2) (v := .pointer y7_0) rfl rfl (StT.oneI Tryz.i96 hw9 rfl) eh10 ?_)
  refine VL.stepD rfl rfl (by decide) (OE.assignV (v := .int .i64 y7_1) rfl ?_)
  refine VL.nil ?_
  change VC _ _ _ _ _ _ _
  refine VC.seq ?_
  refine VC.region ?_
  refine VL.stepD rfl rfl (by decide) (OE.moveV (v := .int .i64 y7_1) rfl ?_)
  refine VL.stepD rfl rfl (by decide) (OE.assignV (v := .int .i64 y7_1) rfl ?_)
  refine VL.nil ?_
  change VC _ _ _ _ _ _ _
  refine VC.ret ?_
  exact ⟨rfl, _, ResOK.t1 rfl (v := .int .i64 y7_1) rfl, H⟩

def D_disk_Disk_Append_3 (R : Value → Hp → Prop) (c0 : Addr) (c1 : Addr) (h : Hp) : Prop :=
  (∃ x1 : Value, cell h c0 = some (x1) ∧ (∃ x3A : Option Addr, ∃ x3n : Nat, ∃ x3c : Nat, cell h c1 = some (.slice x3A x3n x3c) ∧ CHV Tryz.prog x1 [.slice x3A x3n x3c] h (fun r5 h6 => ∃ y7 : Int, r5 = .int .i64 y7 ∧ R (.int .i64 y7) h6)))
set_option maxRecDepth 10000 in
set_option maxHeartbeats 4000000 in
theorem D_disk_Disk_Append_3.sound {R : Value → Hp → Prop} {c0 : Addr} {c1 : Addr} {h : Hp} (H : D_disk_Disk_Append_3 R  c0 c1 h) : CH Tryz.prog 50 #[.pointer (some c0), .pointer (some c1)] h R := by
  refine CHE.enter (n := 6) Tryz.func50 rfl rfl (Nat.le_of_ble_eq_true rfl) ?_
  unfold D_disk_Disk_Append_3 at H
  refine VC.seq ?_
  refine VC.region ?_
  refine VL.stepD rfl rfl (by decide) (OE.assignV (v := .int .i64 0) rfl ?_)
  refine VL.nil ?_
  change VC _ _ _ _ _ _ _
  refine VC.seq ?_
  refine VC.region ?_
  obtain ⟨x1, hl2, H⟩ := H
  refine VL.stepD rfl rfl (by decide) (OE.load (a := c0) (v := x1) rfl (LdT.one Tryz.underlying115 rfl hl2) ?_)
  obtain ⟨x3A, x3n, x3c, hl4, H⟩ := H
  refine VL.stepD rfl rfl (by decide) (OE.load (a := c1) (v := .slice x3A x3n x3c) rfl (LdT.one Tryz.underlying22 rfl hl4) ?_)
  refine VL.stepD rfl rfl (by decide) (OE.callV (l := [.slice x3A x3n x3c]) rfl rfl (CHV.mono H (fun r5 h6 H => ?_)))
  obtain ⟨y7, rfl, H⟩ := H
  refine VL.stepD rfl rfl (by decide) (OE.assignV (v := .int .i64 y7) rfl ?_)
  refine VL.nil ?_
  change VC _ _ _ _ _ _ _
  refine VC.ret ?_
  exact ⟨rfl, _, ResOK.t1 rfl (v := .int .i64 y7) rfl, H⟩

def D_disk_Disk_Append_4 (R : Value → Hp → Prop) (kind : Int) (c0 : Addr) (c1 : Addr) (h : Hp) : Prop :=
  (((kind == 5) = true → (∃ x2 : Value, cell h c0 = some (x2) ∧ (∃ x4A : Option Addr, ∃ x4n : Nat, ∃ x4c : Nat, cell h c1 = some (.slice x4A x4n x4c) ∧ (∃ x6A : Option Addr, ∃ x6n : Nat, ∃ x6c : Nat, cell h c1 = some (.slice x6A x6n x6c) ∧ ((0 : Int) ≤ (IntKind.i64.wrap (Int.tdiv ((x6n : Nat) : Int) 2)) ∧ (IntKind.i64.wrap (Int.tdiv ((x6n : Nat) : Int) 2)) ≤ ((x4c : Nat) : Int) ∧ CHV Tryz.prog x2 [.slice x4A (Int.toNat (IntKind.i64.wrap (Int.tdiv ((x6n : Nat) : Int) 2))) x4c] h (fun r10 h11 => ∃ y12 : Int, r10 = .int .i64 y12 ∧ R (.tuple #[]) h11)))))) ∧ ((kind == 5) = false → R (.tuple #[]) h))
set_option maxRecDepth 10000 in
set_option maxHeartbeats 4000000 in
theorem D_disk_Disk_Append_4.sound {R : Value → Hp → Prop} {kind : Int} {c0 : Addr} {c1 : Addr} {h : Hp} (H : D_disk_Disk_Append_4 R  kind c0 c1 h) : CH Tryz.prog 51 #[.int .i64 kind, .pointer (some c0), .pointer (some c1)] h R := by
  refine CHE.enter (n := 13) Tryz.func51 rfl rfl (Nat.le_of_ble_eq_true rfl) ?_
  unfold D_disk_Disk_Append_4 at H
  refine VC.seq ?_
  refine VC.region ?_
  refine VL.stepD rfl rfl (by decide) (OE.moveV (v := .int .i64 kind) rfl ?_)
  refine VL.stepD rfl rfl (by decide) (OE.binI (v := .bool (kind == 5)) rfl rfl rfl ?_)
  refine VL.nil ?_
  change VC _ _ _ _ _ _ _
  refine VC.cond (t := (kind == 5)) rfl (fun e1 => ?_) (fun e1 => ?_)
  · have H := H.1 e1
    refine VC.drawsS Tryz.mixed (by kernel_rfl) (by kernel_rfl) (fun st hd => ?_)
    obtain ⟨x2, hl3, H⟩ := H
    refine DW.still (i := 0) (v := x2) (by kernel_rfl) ?_
    obtain ⟨x4A, x4n, x4c, hl5, H⟩ := H
    refine DW.still (i := 1) (v := .slice x4A x4n x4c) (by kernel_rfl) ?_
    obtain ⟨x6A, x6n, x6c, hl7, H⟩ := H
    refine DW.still (i := 2) (v := .slice x6A x6n x6c) (by kernel_rfl) ?_
    refine DW.still (i := 3) (v := .int .i64 ((x6n : Nat) : Int)) (by kernel_rfl) ?_
    refine DW.still (i := 4) (v := .int .i64 (IntKind.i64.wrap (Int.tdiv ((x6n : Nat) : Int) 2))) (by kernel_rfl) ?_
    obtain ⟨z8, z9, H⟩ := H
    refine DW.still (i := 5) (v := .slice x4A (Int.toNat (IntKind.i64.wrap (Int.tdiv ((x6n : Nat) : Int) 2))) x4c) (by kernel_rfl) ?_
    refine DW.loudF (fr (fun _ => undef) [(6, (x2 : Value)), (11, (.slice x4A (Int.toNat (IntKind.i64.wrap (Int.tdiv ((x6n : Nat) : Int) 2))) x4c : Value))]) st hd (i := 6) rfl (by kernel_rfl) (.inl rfl) (by kernel_rfl) ⟨.inr (YD.u (fr (fun _ => undef) [(7, (.slice x4A x4n x4c : Value)), (10, (.int .i64 (IntKind.i64.wrap (Int.tdiv ((x6n : Nat) : Int) 2)) : Value))]) st rfl rfl (by kernel_rfl) (OE.sliceHiV (sz := 1) rfl rfl Tryz.underlying22 Tryz.i5 z8 z9 ⟨rfl, rfl⟩)), .inr (YD.u (fr (fun _ => undef) [(9, (.int .i64 ((x6n : Nat) : Int) : Value))]) st rfl rfl (by kernel_rfl) (OE.binI (v := .int .i64 (IntKind.i64.wrap (Int.tdiv ((x6n : Nat) : Int) 2))) rfl rfl rfl ⟨rfl, rfl⟩)), .inr (YD.u (fr (fun _ => undef) [(8, (.slice x6A x6n x6c : Value))]) st rfl rfl (by kernel_rfl) (OE.lenSlice rfl Tryz.underlying22 ⟨rfl, rfl⟩)), .inr (YD.u (fr (fun _ => undef) [(2, (.pointer (some c1) : Value))]) st rfl rfl (by kernel_rfl) (OE.load (a := c1) (v := .slice x6A x6n x6c) rfl (LdT.one Tryz.underlying22 rfl hl7) ⟨rfl, rfl⟩)), .inr (YD.u (fr (fun _ => undef) [(2, (.pointer (some c1) : Value))]) st rfl rfl (by kernel_rfl) (OE.load (a := c1) (v := .slice x4A x4n x4c) rfl (LdT.one Tryz.underlying22 rfl hl5) ⟨rfl, rfl⟩)), .inr (YD.u (fr (fun _ => undef) [(1, (.pointer (some c0) : Value))]) st rfl rfl (by kernel_rfl) (OE.load (a := c0) (v := x2) rfl (LdT.one Tryz.underlying115 rfl hl3) ⟨rfl, rfl⟩)), trivial⟩ (OE.callV (l := [.slice x4A (Int.toNat (IntKind.i64.wrap (Int.tdiv ((x6n : Nat) : Int) 2))) x4c]) rfl rfl (CHV.mono H (fun r10 h11 H => ?_)))
    obtain ⟨y12, rfl, H⟩ := H
    refine DW.finL st hd [(6, (x2 : Value)), (7, (.slice x4A x4n x4c : Value)), (8, (.slice x6A x6n x6c : Value)), (9, (.int .i64 ((x6n : Nat) : Int) : Value)), (10, (.int .i64 (IntKind.i64.wrap (Int.tdiv ((x6n : Nat) : Int) 2)) : Value)), (11, (.slice x4A (Int.toNat (IntKind.i64.wrap (Int.tdiv ((x6n : Nat) : Int) 2))) x4c : Value)), (12, (.int .i64 y12 : Value))] (by kernel_rfl) (by kernel_rfl) ⟨.inl (by kernel_rfl), .inl (by kernel_rfl), .inl (by kernel_rfl), .inl (by kernel_rfl), .inl (by kernel_rfl), .inl (by kernel_rfl), .inl (by kernel_rfl), trivial⟩ ?_
    exact ⟨rfl, _, ResOK.none rfl, H⟩
  · have H := H.2 e1
    refine VC.skip ?_
    exact ⟨rfl, _, ResOK.none rfl, H⟩

def D_disk_Disk_Sync_1 (R : Value → Hp → Prop) (c0 : Addr) (c1 : Addr) (c2 : Addr) (h : Hp) : Prop :=
  (∃ x1 : Option Addr, cell h c0 = some (.pointer x1) ∧ (∃ x3 : ByteArray, cell h c1 = some (.string x3) ∧ CH Tryz.prog 41 #[.pointer x1, .string x3] h (fun r5 h6 => ∃ y7_0 : Option Addr, ∃ y7_1 : Int, r5 = .tuple #[.pointer y7_0, .int .i64 y7_1] ∧ (Wr h6 c2 ∧ ∀ h8, h8 = setc h6 c2 (.pointer y7_0) → R (.int .i64 y7_1) h8))))
set_option maxRecDepth 10000 in
set_option maxHeartbeats 4000000 in
theorem D_disk_Disk_Sync_1.sound {R : Value → Hp → Prop} {c0 : Addr} {c1 : Addr} {c2 : Addr} {h : Hp} (H : D_disk_Disk_Sync_1 R  c0 c1 c2 h) : CH Tryz.prog 52 #[.pointer (some c0), .pointer (some c1), .pointer (some c2)] h R := by
  refine CHE.enter (n := 11) Tryz.func52 rfl rfl (Nat.le_of_ble_eq_true rfl) ?_
  unfold D_disk_Disk_Sync_1 at H
  refine VC.seq ?_
  refine VC.region ?_
  refine VL.stepD rfl rfl (by decide) (OE.assignV (v := .int .i64 0) rfl ?_)
  refine VL.nil ?_
  change VC _ _ _ _ _ _ _
  refine VC.seq ?_
  refine VC.region ?_
  obtain ⟨x1, hl2, H⟩ := H
  refine VL.stepD rfl rfl (by decide) (OE.load (a := c0) (v := .pointer x1) rfl (LdT.one Tryz.underlying24 rfl hl2) ?_)
  obtain ⟨x3, hl4, H⟩ := H
  refine VL.stepD rfl rfl (by decide) (OE.load (a := c1) (v := .string x3) rfl (LdT.one Tryz.underlying9 rfl hl4) ?_)
  refine VL.stepD rfl rfl (by decide) (OE.callL (args := [.pointer x1, .string x3]) Tryz.func41 rfl Tryz.nn41 rfl rfl (CHE.mono H (fun r5 h6 H => ?_) (fun _ _ e => e.elim)))
  obtain ⟨y7_0, y7_1, rfl, H⟩ := H
  refine VL.stepD rfl rfl (by decide) (OE.moveV (v := .tuple #[.pointer y7_0, .int .i64 y7_1]) rfl ?_)
  refine VL.stepD rfl rfl (by decide) (OE.extract (v := .pointer y7_0) rfl rfl ?_)
  refine VL.stepD rfl rfl (by decide) (OE.extract (v := .int .i64 y7_1) rfl rfl ?_)
  obtain ⟨hw9, H⟩ := H
  obtain ⟨h8, eh10⟩ : ∃ h8, h8 = setc h6 c2 (.pointer y7_0) := ⟨_, rfl⟩
  have H := H h8 eh10
  refine VL.stepN rfl rfl (OE.storeE (a := c2) (v := .pointer y7_0) rfl rfl (StT.oneI Tryz.i96 hw9 rfl) eh10 ?_)
  refine VL.stepD rfl rfl (by decide) (OE.assignV (v := .int .i64 y7_1) rfl ?_)
  refine VL.nil ?_
  change VC _ _ _ _ _ _ _
  refine VC.seq ?_
  refine VC.region ?_
  refine VL.stepD rfl rfl (by decide) (OE.moveV (v := .int .i64 y7_1) rfl ?_)
  refine VL.stepD rfl rfl (by decide) (OE.assignV (v := .int .i64 y7_1) rfl ?_)
  refine VL.nil ?_
  change VC _ _ _ _ _ _ _
  refine VC.ret ?_
  exact ⟨rfl, _, ResOK.t1 rfl (v := .int .i64 y7_1) rfl, H⟩

def D_disk_Disk_Sync_2 (R : Value → Hp → Prop) (c0 : Addr) (h : Hp) : Prop :=
  (∃ x1 : Option Addr, cell h c0 = some (.pointer x1) ∧ (∃ x3 : Option Addr, cell h c0 = some (.pointer x3) ∧ (∃ x5 : Option Addr, cell h c0 = some (.pointer x5) ∧ CH Tryz.prog 54 #[.pointer x5] h (fun r7 h8 => ∃ y9A : Option Addr, ∃ y9n : Nat, ∃ y9c : Nat, r7 = .slice y9A y9n y9c ∧ (cell h8 c0 = some (.pointer x1) ∧ (cell h8 c0 = some (.pointer x3) ∧ (∃ a12 : Addr, x1 = some a12 ∧ (Wr h8 a12 ∧ ∀ h14, h14 = setc h8 a12 (.slice y9A y9n y9c) → (cell h14 c0 = some (.pointer x3) ∧ (∃ a17 : Addr, x3 = some a17 ∧ (Wr h14 (a17.add 1) ∧ ∀ h19, h19 = setc h14 (a17.add 1) (.slice none 0 0) → R (.int .i64 0) h19)))))))))))
set_option maxRecDepth 10000 in
set_option maxHeartbeats 4000000 in
theorem D_disk_Disk_Sync_2.sound {R : Value → Hp → Prop} {c0 : Addr} {h : Hp} (H : D_disk_Disk_Sync_2 R  c0 h) : CH Tryz.prog 53 #[.pointer (some c0)] h R := by
  refine CHE.enter (n := 10) Tryz.func53 rfl rfl (Nat.le_of_ble_eq_true rfl) ?_
  unfold D_disk_Disk_Sync_2 at H
  refine VC.seq ?_
  refine VC.region ?_
  refine VL.stepD rfl rfl (by decide) (OE.assignV (v := .int .i64 0) rfl ?_)
  refine VL.nil ?_
  change VC _ _ _ _ _ _ _
  refine VC.seq ?_
  refine VC.drawsS Tryz.mixed (by kernel_rfl) (by kernel_rfl) (fun st hd => ?_)
  obtain ⟨x1, hl2, H⟩ := H
  refine DW.still (i := 0) (v := .pointer x1) (by kernel_rfl) ?_
  obtain ⟨x3, hl4, H⟩ := H
  refine DW.still (i := 1) (v := .pointer x3) (by kernel_rfl) ?_
  obtain ⟨x5, hl6, H⟩ := H
  refine DW.still (i := 2) (v := .pointer x5) (by kernel_rfl) ?_
  refine DW.loudF (fr (fun _ => undef) [(4, (.pointer x5 : Value))]) st hd (i := 3) rfl (by kernel_rfl) (.inl rfl) (by kernel_rfl) ⟨.inr (YD.u (fr (fun _ => undef) [(0, (.pointer (some c0) : Value))]) st rfl rfl (by kernel_rfl) (OE.load (a := c0) (v := .pointer x5) rfl (LdT.one Tryz.underlying96 rfl hl6) ⟨rfl, rfl⟩)), .inr (YD.u (fr (fun _ => undef) [(0, (.pointer (some c0) : Value))]) st rfl rfl (by kernel_rfl) (OE.load (a := c0) (v := .pointer x3) rfl (LdT.one Tryz.underlying96 rfl hl4) ⟨rfl, rfl⟩)), .inr (YD.u (fr (fun _ => undef) [(0, (.pointer (some c0) : Value))]) st rfl rfl (by kernel_rfl) (OE.load (a := c0) (v := .pointer x1) rfl (LdT.one Tryz.underlying96 rfl hl2) ⟨rfl, rfl⟩)), trivial⟩ (OE.callL (args := [.pointer x5]) Tryz.func54 rfl Tryz.nn54 rfl rfl (CHE.mono H (fun r7 h8 H => ?_) (fun _ _ e => e.elim)))
  obtain ⟨y9A, y9n, y9c, rfl, H⟩ := H
  obtain ⟨hs10, hs11, H⟩ := H
  obtain ⟨a12, e13, H⟩ := H
  refine DW.still (i := 4) (v := .pointer (some a12)) (by kernel_rfl) ?_
  refine DW.still (i := 5) (v := .pointer (some a12)) (by kernel_rfl) ?_
  obtain ⟨hw15, H⟩ := H
  obtain ⟨h14, eh22⟩ : ∃ h14, h14 = setc h8 a12 (.slice y9A y9n y9c) := ⟨_, rfl⟩
  have H := H h14 eh22
  refine DW.loudF (fr (fun _ => undef) [(7, (.pointer (some a12) : Value)), (5, (.slice y9A y9n y9c : Value))]) st hd (i := 6) rfl (by kernel_rfl) (.inl rfl) (by kernel_rfl) ⟨.inr (YD.u (fr (fun _ => undef) [(6, (.pointer (some a12) : Value))]) st rfl rfl (by kernel_rfl) (OE.fieldAddrI (a := a12) (o := 0) rfl Tryz.underlying111 rfl Tryz.i22 (by decide) rfl ⟨rfl, rfl⟩)), .inr (YD.u (fr (fun _ => undef) [(2, (.pointer x1 : Value))]) st rfl rfl (by kernel_rfl) (OE.nilCheck (a := a12) (congrArg Value.pointer e13) ⟨rfl, rfl⟩)), .inl (by kernel_rfl), .inl (by kernel_rfl), .inr (YD.u (fr (fun _ => undef) [(0, (.pointer (some c0) : Value))]) st rfl rfl (by kernel_rfl) (OE.load (a := c0) (v := .pointer x3) rfl (LdT.one Tryz.underlying96 rfl hs11) ⟨rfl, rfl⟩)), .inr (YD.u (fr (fun _ => undef) [(0, (.pointer (some c0) : Value))]) st rfl rfl (by kernel_rfl) (OE.load (a := c0) (v := .pointer x1) rfl (LdT.one Tryz.underlying96 rfl hs10) ⟨rfl, rfl⟩)), trivial⟩ (OE.storeE (a := a12) (v := .slice y9A y9n y9c) rfl rfl (StT.oneI Tryz.i22 hw15 rfl) eh22 ?_)
  obtain ⟨hs16, H⟩ := H
  obtain ⟨a17, e18, H⟩ := H
  refine DW.still (i := 7) (v := .pointer (some a17)) (by kernel_rfl) ?_
  refine DW.still (i := 8) (v := .pointer (some (a17.add 1))) (by kernel_rfl) ?_
  obtain ⟨hw20, H⟩ := H
  obtain ⟨h19, eh21⟩ : ∃ h19, h19 = setc h14 (a17.add 1) (.slice none 0 0) := ⟨_, rfl⟩
  have H := H h19 eh21
  refine DW.loudF (fr (fun _ => undef) [(9, (.pointer (some (a17.add 1)) : Value))]) st hd (i := 9) rfl (by kernel_rfl) (.inl rfl) (by kernel_rfl) ⟨.inr (YD.u (fr (fun _ => undef) [(8, (.pointer (some a17) : Value))]) st rfl rfl (by kernel_rfl) (OE.fieldAddrI (a := a17) (o := 1) rfl Tryz.underlying111 rfl Tryz.i109 (by decide) rfl ⟨rfl, rfl⟩)), .inr (YD.u (fr (fun _ => undef) [(3, (.pointer x3 : Value))]) st rfl rfl (by kernel_rfl) (OE.nilCheck (a := a17) (congrArg Value.pointer e18) ⟨rfl, rfl⟩)), .inl (by kernel_rfl), .inl (by kernel_rfl), .inl (by kernel_rfl), .inl (by kernel_rfl), .inl (by kernel_rfl), .inr (YD.u (fr (fun _ => undef) [(0, (.pointer (some c0) : Value))]) st rfl rfl (by kernel_rfl) (OE.load (a := c0) (v := .pointer x3) rfl (LdT.one Tryz.underlying96 rfl hs16) ⟨rfl, rfl⟩)), .inl (by kernel_rfl), trivial⟩ (OE.storeE (a := (a17.add 1)) (v := .slice none 0 0) rfl rfl (StT.oneI Tryz.i109 hw20 rfl) eh21 ?_)
  refine DW.finL st hd [(2, (.pointer x1 : Value)), (3, (.pointer x3 : Value)), (4, (.pointer x5 : Value)), (5, (.slice y9A y9n y9c : Value)), (6, (.pointer (some a12) : Value)), (7, (.pointer (some a12) : Value)), (8, (.pointer (some a17) : Value)), (9, (.pointer (some (a17.add 1)) : Value))] (by kernel_rfl) (by kernel_rfl) ⟨.inl (by kernel_rfl), .inl (by kernel_rfl), .inl (by kernel_rfl), .inl (by kernel_rfl), .inl (by kernel_rfl), .inl (by kernel_rfl), .inl (by kernel_rfl), .inl (by kernel_rfl), .inl (by kernel_rfl), .inl (by kernel_rfl), trivial⟩ ?_
  change VC _ _ _ _ _ _ _
  refine VC.seq ?_
  refine VC.region ?_
  refine VL.stepD rfl rfl (by decide) (OE.assignV (v := .int .i64 0) rfl ?_)
  refine VL.nil ?_
  change VC _ _ _ _ _ _ _
  refine VC.ret ?_
  exact ⟨rfl, _, ResOK.t1 rfl (v := .int .i64 0) rfl, H⟩

def D_disk_file_bytes (R : Value → Hp → Prop) (f' : Option Addr) (h : Hp) : Prop :=
  (∃ a1 : Addr, f' = some a1 ∧ (∃ x3A : Option Addr, ∃ x3n : Nat, ∃ x3c : Nat, cell h (a1.add 1) = some (.slice x3A x3n x3c) ∧ CH Tryz.prog 66 #[.pointer f', .int .i64 ((x3n : Nat) : Int)] h (fun r5 h6 => ∃ y7_0A : Option Addr, ∃ y7_0n : Nat, ∃ y7_0c : Nat, ∃ y7_1A : Option Addr, ∃ y7_1n : Nat, ∃ y7_1c : Nat, r5 = .agg #[.slice y7_0A y7_0n y7_0c, .slice y7_1A y7_1n y7_1c] ∧ R (.slice y7_0A y7_0n y7_0c) h6)))
set_option maxRecDepth 10000 in
set_option maxHeartbeats 4000000 in
theorem D_disk_file_bytes.sound {R : Value → Hp → Prop} {f' : Option Addr} {h : Hp} (H : D_disk_file_bytes R  f' h) : CH Tryz.prog 54 #[.pointer f'] h R := by
  refine CHE.enter (n := 11) Tryz.func54 rfl rfl (Nat.le_of_ble_eq_true rfl) ?_
  unfold D_disk_file_bytes at H
  refine VC.seq ?_
  refine VC.region ?_
  refine VL.stepD rfl rfl (by decide) (OE.assignV (v := .slice none 0 0) rfl ?_)
  refine VL.nil ?_
  change VC _ _ _ _ _ _ _
  refine VC.seq ?_
  refine VC.region ?_
  refine VL.stepD rfl rfl (by decide) (OE.moveV (v := .pointer f') rfl ?_)
  refine VL.stepD rfl rfl (by decide) (OE.moveV (v := .pointer f') rfl ?_)
  obtain ⟨a1, e2, H⟩ := H
  refine VL.stepD rfl rfl (by decide) (OE.nilCheck (a := a1) (congrArg Value.pointer e2) ?_)
  refine VL.stepD rfl rfl (by decide) (OE.fieldAddrI (a := a1) (o := 1) rfl Tryz.underlying111 rfl Tryz.i109 (by decide) rfl ?_)
  obtain ⟨x3A, x3n, x3c, hl4, H⟩ := H
  refine VL.stepD rfl rfl (by decide) (OE.load (a := (a1.add 1)) (v := .slice x3A x3n x3c) rfl (LdT.one Tryz.underlying109 rfl hl4) ?_)
  refine VL.stepD rfl rfl (by decide) (OE.lenSlice rfl Tryz.underlying109 ?_)
  refine VL.stepD rfl rfl (by decide) (OE.callL (args := [.pointer f', .int .i64 ((x3n : Nat) : Int)]) Tryz.func66 rfl Tryz.nn66 rfl rfl (CHE.mono H (fun r5 h6 H => ?_) (fun _ _ e => e.elim)))
  obtain ⟨y7_0A, y7_0n, y7_0c, y7_1A, y7_1n, y7_1c, rfl, H⟩ := H
  refine VL.stepD rfl rfl (by decide) (OE.field (v := .slice y7_0A y7_0n y7_0c) rfl Tryz.underlying128 rfl Tryz.underlying22 rfl rfl ?_)
  refine VL.stepD rfl rfl (by decide) (OE.assignV (v := .slice y7_0A y7_0n y7_0c) rfl ?_)
  refine VL.nil ?_
  change VC _ _ _ _ _ _ _
  refine VC.ret ?_
  exact ⟨rfl, _, ResOK.t1 rfl (v := .slice y7_0A y7_0n y7_0c) rfl, H⟩

def D_disk_Disk_Sync_3 (R : Value → Hp → Prop) (kind : Int) (c0 : Addr) (h : Hp) : Prop :=
  (((kind == 4) = true → (∃ x2 : Option Addr, cell h c0 = some (.pointer x2) ∧ (∃ a4 : Addr, x2 = some a4 ∧ (Wr h (a4.add 1) ∧ ∀ h6, h6 = setc h (a4.add 1) (.slice none 0 0) → R (.tuple #[]) h6)))) ∧ ((kind == 4) = false → R (.tuple #[]) h))
set_option maxRecDepth 10000 in
set_option maxHeartbeats 4000000 in
theorem D_disk_Disk_Sync_3.sound {R : Value → Hp → Prop} {kind : Int} {c0 : Addr} {h : Hp} (H : D_disk_Disk_Sync_3 R  kind c0 h) : CH Tryz.prog 55 #[.int .i64 kind, .pointer (some c0)] h R := by
  refine CHE.enter (n := 8) Tryz.func55 rfl rfl (Nat.le_of_ble_eq_true rfl) ?_
  unfold D_disk_Disk_Sync_3 at H
  refine VC.seq ?_
  refine VC.region ?_
  refine VL.stepD rfl rfl (by decide) (OE.moveV (v := .int .i64 kind) rfl ?_)
  refine VL.stepD rfl rfl (by decide) (OE.binI (v := .bool (kind == 4)) rfl rfl rfl ?_)
  refine VL.nil ?_
  change VC _ _ _ _ _ _ _
  refine VC.cond (t := (kind == 4)) rfl (fun e1 => ?_) (fun e1 => ?_)
  · have H := H.1 e1
    refine VC.region ?_
    obtain ⟨x2, hl3, H⟩ := H
    refine VL.stepD rfl rfl (by decide) (OE.load (a := c0) (v := .pointer x2) rfl (LdT.one Tryz.underlying96 rfl hl3) ?_)
    obtain ⟨a4, e5, H⟩ := H
    refine VL.stepD rfl rfl (by decide) (OE.nilCheck (a := a4) (congrArg Value.pointer e5) ?_)
    refine VL.stepD rfl rfl (by decide) (OE.fieldAddrI (a := a4) (o := 1) rfl Tryz.underlying111 rfl Tryz.i109 (by decide) rfl ?_)
    obtain ⟨hw7, H⟩ := H
    obtain ⟨h6, eh8⟩ : ∃ h6, h6 = setc h (a4.add 1) (.slice none 0 0) := ⟨_, rfl⟩
    have H := H h6 eh8
    refine VL.stepN rfl rfl (OE.storeE (a := (a4.add 1)) (v := .slice none 0 0) rfl rfl (StT.oneI Tryz.i109 hw7 rfl) eh8 ?_)
    refine VL.nil ?_
    exact ⟨rfl, _, ResOK.none rfl, H⟩
  · have H := H.2 e1
    refine VC.skip ?_
    exact ⟨rfl, _, ResOK.none rfl, H⟩

def D_disk_Disk_SyncNames_1 (R : Value → Hp → Prop)  (h : Hp) : Prop :=
  R (.int .i64 0) h
set_option maxRecDepth 10000 in
set_option maxHeartbeats 4000000 in
theorem D_disk_Disk_SyncNames_1.sound {R : Value → Hp → Prop}  {h : Hp} (H : D_disk_Disk_SyncNames_1 R   h) : CH Tryz.prog 56 #[] h R := by
  refine CHE.enter (n := 1) Tryz.func56 rfl rfl (Nat.le_of_ble_eq_true rfl) ?_
  unfold D_disk_Disk_SyncNames_1 at H
  refine VC.seq ?_
  refine VC.region ?_
  refine VL.stepD rfl rfl (by decide) (OE.assignV (v := .int .i64 0) rfl ?_)
  refine VL.nil ?_
  change VC _ _ _ _ _ _ _
  refine VC.seq ?_
  refine VC.region ?_
  refine VL.stepD rfl rfl (by decide) (OE.assignV (v := .int .i64 0) rfl ?_)
  refine VL.nil ?_
  change VC _ _ _ _ _ _ _
  refine VC.ret ?_
  exact ⟨rfl, _, ResOK.t1 rfl (v := .int .i64 0) rfl, H⟩

def D_disk_Disk_SyncNames_2 (R : Value → Hp → Prop) (c0 : Addr) (h : Hp) : Prop :=
  (∃ x1 : Option Addr, cell h c0 = some (.pointer x1) ∧ (∃ x3 : Option Addr, cell h c0 = some (.pointer x3) ∧ CH Tryz.prog 59 #[.pointer x3] h (fun r5 h6 => ∃ y7 : Option Nat, r5 = .map y7 ∧ (cell h6 c0 = some (.pointer x1) ∧ CH Tryz.prog 58 #[.pointer x1, .map y7] h6 (fun r9 h10 => R (.int .i64 0) h10)))))
set_option maxRecDepth 10000 in
set_option maxHeartbeats 4000000 in
theorem D_disk_Disk_SyncNames_2.sound {R : Value → Hp → Prop} {c0 : Addr} {h : Hp} (H : D_disk_Disk_SyncNames_2 R  c0 h) : CH Tryz.prog 57 #[.pointer (some c0)] h R := by
  refine CHE.enter (n := 6) Tryz.func57 rfl rfl (Nat.le_of_ble_eq_true rfl) ?_
  unfold D_disk_Disk_SyncNames_2 at H
  refine VC.seq ?_
  refine VC.region ?_
  refine VL.stepD rfl rfl (by decide) (OE.assignV (v := .int .i64 0) rfl ?_)
  refine VL.nil ?_
  change VC _ _ _ _ _ _ _
  refine VC.seq ?_
  refine VC.drawsS Tryz.mixed (by kernel_rfl) (by kernel_rfl) (fun st hd => ?_)
  obtain ⟨x1, hl2, H⟩ := H
  refine DW.still (i := 0) (v := .pointer x1) (by kernel_rfl) ?_
  obtain ⟨x3, hl4, H⟩ := H
  refine DW.still (i := 1) (v := .pointer x3) (by kernel_rfl) ?_
  refine DW.loudF (fr (fun _ => undef) [(3, (.pointer x3 : Value))]) st hd (i := 2) rfl (by kernel_rfl) (.inl rfl) (by kernel_rfl) ⟨.inr (YD.u (fr (fun _ => undef) [(0, (.pointer (some c0) : Value))]) st rfl rfl (by kernel_rfl) (OE.load (a := c0) (v := .pointer x3) rfl (LdT.one Tryz.underlying24 rfl hl4) ⟨rfl, rfl⟩)), .inr (YD.u (fr (fun _ => undef) [(0, (.pointer (some c0) : Value))]) st rfl rfl (by kernel_rfl) (OE.load (a := c0) (v := .pointer x1) rfl (LdT.one Tryz.underlying24 rfl hl2) ⟨rfl, rfl⟩)), trivial⟩ (OE.callL (args := [.pointer x3]) Tryz.func59 rfl Tryz.nn59 rfl rfl (CHE.mono H (fun r5 h6 H => ?_) (fun _ _ e => e.elim)))
  obtain ⟨y7, rfl, H⟩ := H
  obtain ⟨hs8, H⟩ := H
  refine DW.loudF (fr (fun _ => undef) [(2, (.pointer x1 : Value)), (4, (.map y7 : Value))]) st hd (i := 3) rfl (by kernel_rfl) (.inl rfl) (by kernel_rfl) ⟨.inl (by kernel_rfl), .inl (by kernel_rfl), .inr (YD.u (fr (fun _ => undef) [(0, (.pointer (some c0) : Value))]) st rfl rfl (by kernel_rfl) (OE.load (a := c0) (v := .pointer x1) rfl (LdT.one Tryz.underlying24 rfl hs8) ⟨rfl, rfl⟩)), trivial⟩ (OE.callL (args := [.pointer x1, .map y7]) Tryz.func58 rfl Tryz.nn58 rfl rfl (CHE.mono H (fun r9 h10 H => ?_) (fun _ _ e => e.elim)))
  refine DW.finL st hd [(2, (.pointer x1 : Value)), (3, (.pointer x3 : Value)), (4, (.map y7 : Value)), (5, (r9 : Value))] (by kernel_rfl) (by kernel_rfl) ⟨.inl (by kernel_rfl), .inl (by kernel_rfl), .inl (by kernel_rfl), .inl (by kernel_rfl), trivial⟩ ?_
  change VC _ _ _ _ _ _ _
  refine VC.seq ?_
  refine VC.region ?_
  refine VL.stepD rfl rfl (by decide) (OE.assignV (v := .int .i64 0) rfl ?_)
  refine VL.nil ?_
  change VC _ _ _ _ _ _ _
  refine VC.ret ?_
  exact ⟨rfl, _, ResOK.t1 rfl (v := .int .i64 0) rfl, H⟩

def D_disk_Disk_settle (R : Value → Hp → Prop) (d : Option Addr) (names : Option Nat) (h : Hp) : Prop :=
  (∃ a1 : Addr, d = some a1 ∧ (Wr h (a1.add 4) ∧ ∀ h3, h3 = setc h (a1.add 4) (.map names) → (Wr h3 (a1.add 5) ∧ ∀ h5, h5 = setc h3 (a1.add 5) (.slice none 0 0) → CH Tryz.prog 92 #[.pointer d] h5 (fun r7 h8 => R (.tuple #[]) h8))))
set_option maxRecDepth 10000 in
set_option maxHeartbeats 4000000 in
theorem D_disk_Disk_settle.sound {R : Value → Hp → Prop} {d : Option Addr} {names : Option Nat} {h : Hp} (H : D_disk_Disk_settle R  d names h) : CH Tryz.prog 58 #[.pointer d, .map names] h R := by
  refine CHE.enter (n := 13) Tryz.func58 rfl rfl (Nat.le_of_ble_eq_true rfl) ?_
  unfold D_disk_Disk_settle at H
  refine VC.seq ?_
  refine VC.region ?_
  refine VL.stepD rfl rfl (by decide) (OE.moveV (v := .pointer d) rfl ?_)
  refine VL.stepD rfl rfl (by decide) (OE.moveV (v := .pointer d) rfl ?_)
  refine VL.stepD rfl rfl (by decide) (OE.moveV (v := .map names) rfl ?_)
  obtain ⟨a1, e2, H⟩ := H
  refine VL.stepD rfl rfl (by decide) (OE.nilCheck (a := a1) (congrArg Value.pointer e2) ?_)
  refine VL.stepD rfl rfl (by decide) (OE.fieldAddrI (a := a1) (o := 4) rfl Tryz.underlying104 rfl Tryz.i101 (by decide) rfl ?_)
  obtain ⟨hw4, H⟩ := H
  obtain ⟨h3, eh10⟩ : ∃ h3, h3 = setc h (a1.add 4) (.map names) := ⟨_, rfl⟩
  have H := H h3 eh10
  refine VL.stepN rfl rfl (OE.storeE (a := (a1.add 4)) (v := .map names) rfl rfl (StT.oneI Tryz.i101 hw4 rfl) eh10 ?_)
  refine VL.stepD rfl rfl (by decide) (OE.nilCheck (a := a1) (congrArg Value.pointer e2) ?_)
  refine VL.stepD rfl rfl (by decide) (OE.fieldAddrI (a := a1) (o := 5) rfl Tryz.underlying104 rfl Tryz.i102 (by decide) rfl ?_)
  obtain ⟨hw6, H⟩ := H
  obtain ⟨h5, eh9⟩ : ∃ h5, h5 = setc h3 (a1.add 5) (.slice none 0 0) := ⟨_, rfl⟩
  have H := H h5 eh9
  refine VL.stepN rfl rfl (OE.storeE (a := (a1.add 5)) (v := .slice none 0 0) rfl rfl (StT.oneI Tryz.i102 hw6 rfl) eh9 ?_)
  refine VL.nil ?_
  change VC _ _ _ _ _ _ _
  refine VC.region ?_
  refine VL.stepD rfl rfl (by decide) (OE.moveV (v := .pointer d) rfl ?_)
  refine VL.stepD rfl rfl (by decide) (OE.callL (args := [.pointer d]) Tryz.func92 rfl Tryz.nn92 rfl rfl (CHE.mono H (fun r7 h8 H => ?_) (fun _ _ e => e.elim)))
  refine VL.nil ?_
  exact ⟨rfl, _, ResOK.none rfl, H⟩


def D_disk_Disk_now (R : Value → Hp → Prop) (d : Option Addr) (h : Hp) : Prop :=
  (∃ a1 : Addr, d = some a1 ∧ (∃ x3A : Option Addr, ∃ x3n : Nat, ∃ x3c : Nat, cell h (a1.add 5) = some (.slice x3A x3n x3c) ∧ CH Tryz.prog 68 #[.pointer d, .slice x3A x3n x3c] h (fun r5 h6 => ∃ y7 : Option Nat, r5 = .map y7 ∧ R (.map y7) h6)))
set_option maxRecDepth 10000 in
set_option maxHeartbeats 4000000 in
theorem D_disk_Disk_now.sound {R : Value → Hp → Prop} {d : Option Addr} {h : Hp} (H : D_disk_Disk_now R  d h) : CH Tryz.prog 59 #[.pointer d] h R := by
  refine CHE.enter (n := 9) Tryz.func59 rfl rfl (Nat.le_of_ble_eq_true rfl) ?_
  unfold D_disk_Disk_now at H
  refine VC.seq ?_
  refine VC.region ?_
  refine VL.stepD rfl rfl (by decide) (OE.assignV (v := .map none) rfl ?_)
  refine VL.nil ?_
  change VC _ _ _ _ _ _ _
  refine VC.seq ?_
  refine VC.region ?_
  refine VL.stepD rfl rfl (by decide) (OE.moveV (v := .pointer d) rfl ?_)
  refine VL.stepD rfl rfl (by decide) (OE.moveV (v := .pointer d) rfl ?_)
  obtain ⟨a1, e2, H⟩ := H
  refine VL.stepD rfl rfl (by decide) (OE.nilCheck (a := a1) (congrArg Value.pointer e2) ?_)
  refine VL.stepD rfl rfl (by decide) (OE.fieldAddrI (a := a1) (o := 5) rfl Tryz.underlying104 rfl Tryz.i102 (by decide) rfl ?_)
  obtain ⟨x3A, x3n, x3c, hl4, H⟩ := H
  refine VL.stepD rfl rfl (by decide) (OE.load (a := (a1.add 5)) (v := .slice x3A x3n x3c) rfl (LdT.one Tryz.underlying102 rfl hl4) ?_)
  refine VL.stepD rfl rfl (by decide) (OE.callL (args := [.pointer d, .slice x3A x3n x3c]) Tryz.func68 rfl Tryz.nn68 rfl rfl (CHE.mono H (fun r5 h6 H => ?_) (fun _ _ e => e.elim)))
  obtain ⟨y7, rfl, H⟩ := H
  refine VL.stepD rfl rfl (by decide) (OE.assignV (v := .map y7) rfl ?_)
  refine VL.nil ?_
  change VC _ _ _ _ _ _ _
  refine VC.ret ?_
  exact ⟨rfl, _, ResOK.t1 rfl (v := .map y7) rfl, H⟩

def D_slices_Clone_api_Fault (R : Value → Hp → Prop) (sA : Option Addr) (sn : Nat) (sc : Nat) (h : Hp) : Prop :=
  (((Option.isNone sA) = true → R (.slice none 0 0) h) ∧ ((Option.isNone sA) = false → (∀ b3 h2, b3 = Array.size h → h2 = Array.push h (.cells #[] 33) → (∃ vs4 : List Value, Src h2 (sn * 2) vs4 sA ∧ (∀ v ∈ vs4, oneC v = true) ∧ (0 + sn) * 16 ≤ 140737488355328 ∧ 0 + sn ≤ 9223372036854775807 ∧ AppendV 33 (.agg #[.int .i64 0, .int .i64 0] : Value) 2 h2 (some (Addr.mk b3 0 none)) 0 0 sn vs4 (fun A9 n10 c11 h12 => R (.slice A9 n10 c11) h12)))))
set_option maxRecDepth 10000 in
set_option maxHeartbeats 4000000 in
theorem D_slices_Clone_api_Fault.sound {R : Value → Hp → Prop} {sA : Option Addr} {sn : Nat} {sc : Nat} {h : Hp} (H : D_slices_Clone_api_Fault R  sA sn sc h) : CH Tryz.prog 60 #[.slice sA sn sc] h R := by
  refine CHE.enter (n := 8) Tryz.func60 rfl rfl (Nat.le_of_ble_eq_true rfl) ?_
  unfold D_slices_Clone_api_Fault at H
  refine VC.seq ?_
  refine VC.region ?_
  refine VL.stepD rfl rfl (by decide) (OE.assignV (v := .slice none 0 0) rfl ?_)
  refine VL.nil ?_
  change VC _ _ _ _ _ _ _
  refine VC.seq ?_
  refine VC.seq ?_
  refine VC.region ?_
  refine VL.stepD rfl rfl (by decide) (OE.moveV (v := .slice sA sn sc) rfl ?_)
  refine VL.stepD rfl rfl (by decide) (OE.sliceNil (b := (Option.isNone sA)) (A := sA) (n := sn) (c := sc) rfl rfl Tryz.underlying34 (.inl ⟨rfl, rfl⟩) ?_)
  refine VL.nil ?_
  change VC _ _ _ _ _ _ _
  refine VC.cond (t := (Option.isNone sA)) rfl (fun e1 => ?_) (fun e1 => ?_)
  · have H := H.1 e1
    refine VC.seq ?_
    refine VC.region ?_
    refine VL.stepD rfl rfl (by decide) (OE.assignV (v := .slice none 0 0) rfl ?_)
    refine VL.nil ?_
    change VC _ _ _ _ _ _ _
    refine VC.ret ?_
    exact ⟨rfl, _, ResOK.t1 rfl (v := .slice none 0 0) rfl, H⟩
  · have H := H.2 e1
    refine VC.skip ?_
    change VC _ _ _ _ _ _ _
    refine VC.seq ?_
    refine VC.region ?_
    obtain ⟨b3, eb13⟩ : ∃ b3, b3 = Array.size h := ⟨_, rfl⟩
    obtain ⟨h2, eh14⟩ : ∃ h2, h2 = Array.push h (.cells #[] 33) := ⟨_, rfl⟩
    have H := H b3 h2 eb13 eh14
    refine VL.stepD rfl rfl (by decide) (OE.buildSliceE (ps := []) (cells := #[]) (e := 33) rfl (Tryz.bf17) eb13 eh14 ?_)
    refine VL.stepD rfl rfl (by decide) (OE.moveV (v := .slice sA sn sc) rfl ?_)
    obtain ⟨vs4, z5, z6, z7, z8, H⟩ := H
    refine VL.stepD rfl rfl (by decide) (OE.appendV (z := (.agg #[.int .i64 0, .int .i64 0] : Value)) (sz := 2) (bs := 16) rfl rfl Tryz.underlying34 Tryz.i33 z5 z6 z7 z8 (AppendV.mono H (fun A9 n10 c11 h12 H => ?_)))
    refine VL.stepD rfl rfl (by decide) (OE.assignV (v := .slice A9 n10 c11) rfl ?_)
    refine VL.nil ?_
    change VC _ _ _ _ _ _ _
    refine VC.ret ?_
    exact ⟨rfl, _, ResOK.t1 rfl (v := .slice A9 n10 c11) rfl, H⟩

def D_disk_Disk_Truncate_1.J1 (R : Value → Hp → Prop)   (j18 : Bool) (h19 : Hp) : Prop :=
  ((j18 = true → R (.int .i64 1) h19) ∧ (j18 = false → R (.int .i64 0) h19))
def D_disk_Disk_Truncate_1 (R : Value → Hp → Prop) (c0 : Addr) (c1 : Addr) (c2 : Addr) (c3 : Addr) (c4 : Addr) (h : Hp) : Prop :=
  (∃ x1 : Option Addr, cell h c0 = some (.pointer x1) ∧ (∃ x3 : ByteArray, cell h c1 = some (.string x3) ∧ CH Tryz.prog 41 #[.pointer x1, .string x3] h (fun r5 h6 => ∃ y7_0 : Option Addr, ∃ y7_1 : Int, r5 = .tuple #[.pointer y7_0, .int .i64 y7_1] ∧ (Wr h6 c2 ∧ ∀ h8, h8 = setc h6 c2 (.pointer y7_0) → (((y7_1 != 0) = true → R (.int .i64 y7_1) h8) ∧ ((y7_1 != 0) = false → (∃ x11 : Option Addr, cell h8 c2 = some (.pointer x11) ∧ CH Tryz.prog 46 #[.pointer x11] h8 (fun r13 h14 => ∃ y15_0 : Int, ∃ y15_1 : Int, r13 = .tuple #[.int .i64 y15_0, .int .i64 y15_1] ∧ (Wr h14 c3 ∧ ∀ h16, h16 = setc h14 c3 (.int .i64 y15_0) → (∃ x21 : Int, cell h16 c4 = some (.int .i64 x21) ∧ (((decide (x21 < 0)) = true → D_disk_Disk_Truncate_1.J1 R   true h16) ∧ ((decide (x21 < 0)) = false → (∃ x24 : Int, cell h16 c4 = some (.int .i64 x24) ∧ (∃ x26 : Int, cell h16 c3 = some (.int .i64 x26) ∧ D_disk_Disk_Truncate_1.J1 R   (decide (x24 > x26)) h16))))))))))))))
set_option maxRecDepth 10000 in
set_option maxHeartbeats 4000000 in
theorem D_disk_Disk_Truncate_1.sound {R : Value → Hp → Prop} {c0 : Addr} {c1 : Addr} {c2 : Addr} {c3 : Addr} {c4 : Addr} {h : Hp} (H : D_disk_Disk_Truncate_1 R  c0 c1 c2 c3 c4 h) : CH Tryz.prog 61 #[.pointer (some c0), .pointer (some c1), .pointer (some c2), .pointer (some c3), .pointer (some c4)] h R := by
  refine CHE.enter (n := 27) Tryz.func61 rfl rfl (Nat.le_of_ble_eq_true rfl) ?_
  unfold D_disk_Disk_Truncate_1 at H
  refine VC.seq ?_
  refine VC.region ?_
  refine VL.stepD rfl rfl (by decide) (OE.assignV (v := .int .i64 0) rfl ?_)
  refine VL.nil ?_
  change VC _ _ _ _ _ _ _
  refine VC.seq ?_
  refine VC.seq ?_
  refine VC.region ?_
  obtain ⟨x1, hl2, H⟩ := H
  refine VL.stepD rfl rfl (by decide) (OE.load (a := c0) (v := .pointer x1) rfl (LdT.one Tryz.underlying24 rfl hl2) ?_)
  obtain ⟨x3, hl4, H⟩ := H
  refine VL.stepD rfl rfl (by decide) (OE.load (a := c1) (v := .string x3) rfl (LdT.one Tryz.underlying9 rfl hl4) ?_)
  refine VL.stepD rfl rfl (by decide) (OE.callL (args := [.pointer x1, .string x3]) Tryz.func41 rfl Tryz.nn41 rfl rfl (CHE.mono H (fun r5 h6 H => ?_) (fun _ _ e => e.elim)))
  obtain ⟨y7_0, y7_1, rfl, H⟩ := H
  refine VL.stepD rfl rfl (by decide) (OE.moveV (v := .tuple #[.pointer y7_0, .int .i64 y7_1]) rfl ?_)
  refine VL.stepD rfl rfl (by decide) (OE.extract (v := .pointer y7_0) rfl rfl ?_)
  refine VL.stepD rfl rfl (by decide) (OE.extract (v := .int .i64 y7_1) rfl rfl ?_)
  obtain ⟨hw9, H⟩ := H
  obtain ⟨h8, eh30⟩ : ∃ h8, h8 = setc h6 c2 (.pointer y7_0) := ⟨_, rfl⟩
  have H := H h8 eh30
  refine VL.stepN rfl rfl (OE.storeE (a := c2) (v := .pointer y7_0) rfl rfl (StT.oneI Tryz.i96 hw9 rfl) eh30 ?_)
  refine VL.stepD rfl rfl (by decide) (OE.assignV (v := .int .i64 y7_1) rfl ?_)
  refine VL.nil ?_
  change VC _ _ _ _ _ _ _
  refine VC.seq ?_
  refine VC.region ?_
  refine VL.stepD rfl rfl (by decide) (OE.moveV (v := .int .i64 y7_1) rfl ?_)
  refine VL.stepD rfl rfl (by decide) (OE.binI (v := .bool (y7_1 != 0)) rfl rfl rfl ?_)
  refine VL.nil ?_
  change VC _ _ _ _ _ _ _
  refine VC.cond (t := (y7_1 != 0)) rfl (fun e10 => ?_) (fun e10 => ?_)
  · have H := H.1 e10
    refine VC.seq ?_
    refine VC.region ?_
    refine VL.stepD rfl rfl (by decide) (OE.moveV (v := .int .i64 y7_1) rfl ?_)
    refine VL.stepD rfl rfl (by decide) (OE.assignV (v := .int .i64 y7_1) rfl ?_)
    refine VL.nil ?_
    change VC _ _ _ _ _ _ _
    refine VC.ret ?_
    exact ⟨rfl, _, ResOK.t1 rfl (v := .int .i64 y7_1) rfl, H⟩
  · have H := H.2 e10
    refine VC.skip ?_
    change VC _ _ _ _ _ _ _
    refine VC.seq ?_
    refine VC.seq ?_
    refine VC.region ?_
    obtain ⟨x11, hl12, H⟩ := H
    refine VL.stepD rfl rfl (by decide) (OE.load (a := c2) (v := .pointer x11) rfl (LdT.one Tryz.underlying96 rfl hl12) ?_)
    refine VL.stepD rfl rfl (by decide) (OE.callL (args := [.pointer x11]) Tryz.func46 rfl Tryz.nn46 rfl rfl (CHE.mono H (fun r13 h14 H => ?_) (fun _ _ e => e.elim)))
    obtain ⟨y15_0, y15_1, rfl, H⟩ := H
    refine VL.stepD rfl rfl (by decide) (OE.moveV (v := .tuple #[.int .i64 y15_0, .int .i64 y15_1]) rfl ?_)
    refine VL.stepD rfl rfl (by decide) (OE.extract (v := .int .i64 y15_0) rfl rfl ?_)
    refine VL.stepD rfl rfl (by decide) (OE.extract (v := .int .i64 y15_1) rfl rfl ?_)
    obtain ⟨hw17, H⟩ := H
    obtain ⟨h16, eh28⟩ : ∃ h16, h16 = setc h14 c3 (.int .i64 y15_0) := ⟨_, rfl⟩
    have H := H h16 eh28
    refine VL.stepN rfl rfl (OE.storeE (a := c3) (v := .int .i64 y15_0) rfl rfl (StT.oneI Tryz.i3 hw17 rfl) eh28 ?_)
    refine VL.nil ?_
    change VC _ _ _ _ _ _ _
    refine VC.seqJ (fun f h19 => ∃ j18 : Bool, f 26 = (.bool j18 : Value) ∧ D_disk_Disk_Truncate_1.J1 R   j18 h19) ?_ ?_
    · intro f h19 J
      obtain ⟨j18, hk26, H⟩ := J
      rw [← fr_self f [(26, .bool j18)] (by simp only [List.mem_cons, List.not_mem_nil, or_false]; rintro p (rfl) <;> assumption)]
      unfold D_disk_Disk_Truncate_1.J1 at H
      refine VC.cond (t := j18) rfl (fun e20 => ?_) (fun e20 => ?_)
      · have H := H.1 e20
        refine VC.seq ?_
        refine VC.region ?_
        refine VL.stepD rfl rfl (by decide) (OE.assignV (v := .int .i64 1) rfl ?_)
        refine VL.nil ?_
        change VC _ _ _ _ _ _ _
        refine VC.ret ?_
        exact ⟨rfl, _, ResOK.t1 rfl (v := .int .i64 1) rfl, H⟩
      · have H := H.2 e20
        refine VC.skip ?_
        change VC _ _ _ _ _ _ _
        refine VC.seq ?_
        refine VC.region ?_
        refine VL.stepD rfl rfl (by decide) (OE.assignV (v := .int .i64 0) rfl ?_)
        refine VL.nil ?_
        change VC _ _ _ _ _ _ _
        refine VC.ret ?_
        exact ⟨rfl, _, ResOK.t1 rfl (v := .int .i64 0) rfl, H⟩
    · skip
      refine VC.region ?_
      obtain ⟨x21, hl22, H⟩ := H
      refine VL.stepD rfl rfl (by decide) (OE.load (a := c4) (v := .int .i64 x21) rfl (LdT.one Tryz.underlying3 rfl hl22) ?_)
      refine VL.stepD rfl rfl (by decide) (OE.binI (v := .bool (decide (x21 < 0))) rfl rfl rfl ?_)
      refine VL.stepD rfl rfl (by decide) (OE.moveV (v := .bool (decide (x21 < 0))) rfl ?_)
      refine boolSplit ((decide (x21 < 0))) (fun e23 => ?_) (fun e23 => ?_)
      · have H := H.1 e23
        refine VL.gskipD rfl rfl (by decide) (.inl (congrArg Value.bool e23)) rfl (by decide) ?_
        refine VL.gskipD rfl rfl (by decide) (.inl (congrArg Value.bool e23)) rfl (by decide) ?_
        refine VL.gskipD rfl rfl (by decide) (.inl (congrArg Value.bool e23)) rfl (by decide) ?_
        refine VL.stepD rfl rfl (by decide) (OE.pickV (t := true) (v := .bool true) (congrArg Value.bool e23) rfl ?_)
        refine VL.nil ?_
        exact ⟨rfl, true, rfl, H⟩
      · have H := H.2 e23
        obtain ⟨x24, hl25, H⟩ := H
        refine VL.gstepD rfl rfl (by decide) (congrArg Value.bool e23) rfl (by decide) (OE.load (a := c4) (v := .int .i64 x24) rfl (LdT.one Tryz.underlying3 rfl hl25) ?_)
        obtain ⟨x26, hl27, H⟩ := H
        refine VL.gstepD rfl rfl (by decide) (congrArg Value.bool e23) rfl (by decide) (OE.load (a := c3) (v := .int .i64 x26) rfl (LdT.one Tryz.underlying3 rfl hl27) ?_)
        refine VL.gstepD rfl rfl (by decide) (congrArg Value.bool e23) rfl (by decide) (OE.binI (v := .bool (decide (x24 > x26))) rfl rfl rfl ?_)
        refine VL.stepD rfl rfl (by decide) (OE.pickV (t := false) (v := .bool (decide (x24 > x26))) (congrArg Value.bool e23) rfl ?_)
        refine VL.nil ?_
        exact ⟨rfl, (decide (x24 > x26)), rfl, H⟩

def D_disk_Disk_Truncate_2.J1 (R : Value → Hp → Prop)    (h1 : Hp) : Prop :=
  R (.int .i64 0) h1
def D_disk_Disk_Truncate_2 (R : Value → Hp → Prop) (c0 : Addr) (c1 : Addr) (c2 : Addr) (h : Hp) : Prop :=
  (∃ x2 : Int, cell h c0 = some (.int .i64 x2) ∧ (∃ x4 : Int, cell h c1 = some (.int .i64 x4) ∧ (((x2 != x4) = true → (∃ x7 : Option Addr, cell h c2 = some (.pointer x7) ∧ (∃ x9 : Option Addr, cell h c2 = some (.pointer x9) ∧ (∃ a11 : Addr, x9 = some a11 ∧ (∃ x13A : Option Addr, ∃ x13n : Nat, ∃ x13c : Nat, cell h (a11.add 1) = some (.slice x13A x13n x13c) ∧ (∃ x15 : Int, cell h c0 = some (.int .i64 x15) ∧ (∀ b18 h17, b18 = Array.size h → h17 = Array.push h (.cells #[.iface 122 (.agg #[.int .i64 x15])] 150) → (cell h17 c2 = some (.pointer x7) ∧ (cell h17 c2 = some (.pointer x9) ∧ (cell h17 (a11.add 1) = some (.slice x13A x13n x13c) ∧ (∃ vs22 : List Value, Src h17 (1 * 1) vs22 (some (Addr.mk b18 0 none)) ∧ (∀ v ∈ vs22, oneC v = true) ∧ (x13n + 1) * 16 ≤ 140737488355328 ∧ x13n + 1 ≤ 9223372036854775807 ∧ AppendV 150 (.nilIface : Value) 1 h17 x13A x13n x13c 1 vs22 (fun A27 n28 c29 h30 => (cell h30 c2 = some (.pointer x7) ∧ (∃ a32 : Addr, x7 = some a32 ∧ (Wr h30 (a32.add 1) ∧ ∀ h34, h34 = setc h30 (a32.add 1) (.slice A27 n28 c29) → D_disk_Disk_Truncate_2.J1 R    h34))))))))))))))) ∧ ((x2 != x4) = false → D_disk_Disk_Truncate_2.J1 R    h))))
set_option maxRecDepth 10000 in
set_option maxHeartbeats 4000000 in
theorem D_disk_Disk_Truncate_2.sound {R : Value → Hp → Prop} {c0 : Addr} {c1 : Addr} {c2 : Addr} {h : Hp} (H : D_disk_Disk_Truncate_2 R  c0 c1 c2 h) : CH Tryz.prog 62 #[.pointer (some c0), .pointer (some c1), .pointer (some c2)] h R := by
  refine CHE.enter (n := 19) Tryz.func62 rfl rfl (Nat.le_of_ble_eq_true rfl) ?_
  unfold D_disk_Disk_Truncate_2 at H
  refine VC.seq ?_
  refine VC.region ?_
  refine VL.stepD rfl rfl (by decide) (OE.assignV (v := .int .i64 0) rfl ?_)
  refine VL.nil ?_
  change VC _ _ _ _ _ _ _
  refine VC.seqJ (fun f h1 => D_disk_Disk_Truncate_2.J1 R    h1) ?_ ?_
  · intro f h1 J
    have H := J
    skip
    unfold D_disk_Disk_Truncate_2.J1 at H
    refine VC.seq ?_
    refine VC.region ?_
    refine VL.stepD rfl rfl (by decide) (OE.assignV (v := .int .i64 0) rfl ?_)
    refine VL.nil ?_
    change VC _ _ _ _ _ _ _
    refine VC.ret ?_
    exact ⟨rfl, _, ResOK.t1 rfl (v := .int .i64 0) rfl, H⟩
  · skip
    refine VC.seq ?_
    refine VC.region ?_
    obtain ⟨x2, hl3, H⟩ := H
    refine VL.stepD rfl rfl (by decide) (OE.load (a := c0) (v := .int .i64 x2) rfl (LdT.one Tryz.underlying3 rfl hl3) ?_)
    obtain ⟨x4, hl5, H⟩ := H
    refine VL.stepD rfl rfl (by decide) (OE.load (a := c1) (v := .int .i64 x4) rfl (LdT.one Tryz.underlying3 rfl hl5) ?_)
    refine VL.stepD rfl rfl (by decide) (OE.binI (v := .bool (x2 != x4)) rfl rfl rfl ?_)
    refine VL.nil ?_
    change VC _ _ _ _ _ _ _
    refine VC.cond (t := (x2 != x4)) rfl (fun e6 => ?_) (fun e6 => ?_)
    · have H := H.1 e6
      refine VC.drawsS Tryz.mixed (by kernel_rfl) (by kernel_rfl) (fun st hd => ?_)
      obtain ⟨x7, hl8, H⟩ := H
      refine DW.still (i := 0) (v := .pointer x7) (by kernel_rfl) ?_
      obtain ⟨x9, hl10, H⟩ := H
      refine DW.still (i := 1) (v := .pointer x9) (by kernel_rfl) ?_
      obtain ⟨a11, e12, H⟩ := H
      refine DW.still (i := 2) (v := .pointer (some a11)) (by kernel_rfl) ?_
      refine DW.still (i := 3) (v := .pointer (some (a11.add 1))) (by kernel_rfl) ?_
      obtain ⟨x13A, x13n, x13c, hl14, H⟩ := H
      refine DW.still (i := 4) (v := .slice x13A x13n x13c) (by kernel_rfl) ?_
      obtain ⟨x15, hl16, H⟩ := H
      refine DW.still (i := 5) (v := .int .i64 x15) (by kernel_rfl) ?_
      refine DW.still (i := 6) (v := .agg #[.int .i64 x15]) (by kernel_rfl) ?_
      refine DW.still (i := 7) (v := .iface 122 (.agg #[.int .i64 x15])) (by kernel_rfl) ?_
      obtain ⟨b18, eb37⟩ : ∃ b18, b18 = Array.size h := ⟨_, rfl⟩
      obtain ⟨h17, eh38⟩ : ∃ h17, h17 = Array.push h (.cells #[.iface 122 (.agg #[.int .i64 x15])] 150) := ⟨_, rfl⟩
      have H := H b18 h17 eb37 eh38
      refine DW.loudF (fr (fun _ => undef) [(14, (.iface 122 (.agg #[.int .i64 x15]) : Value))]) st hd (i := 8) rfl (by kernel_rfl) (.inl rfl) (by kernel_rfl) ⟨.inr (YD.u (fr (fun _ => undef) [(13, (.agg #[.int .i64 x15] : Value))]) st rfl rfl (by kernel_rfl) (OE.makeInterfaceV (v := .agg #[.int .i64 x15]) rfl Tryz.underlying122 rfl ⟨rfl, rfl⟩)), .inr (YD.u (fr (fun _ => undef) [(12, (.int .i64 x15 : Value))]) st rfl rfl (by kernel_rfl) (OE.buildV (ps := [(0, (.int .i64 x15 : Value))]) rfl (Tryz.bf18 _) ⟨rfl, rfl⟩)), .inr (YD.u (fr (fun _ => undef) [(0, (.pointer (some c0) : Value))]) st rfl rfl (by kernel_rfl) (OE.load (a := c0) (v := .int .i64 x15) rfl (LdT.one Tryz.underlying3 rfl hl16) ⟨rfl, rfl⟩)), .inr (YD.u (fr (fun _ => undef) [(10, (.pointer (some (a11.add 1)) : Value))]) st rfl rfl (by kernel_rfl) (OE.load (a := (a11.add 1)) (v := .slice x13A x13n x13c) rfl (LdT.one Tryz.underlying109 rfl hl14) ⟨rfl, rfl⟩)), .inr (YD.u (fr (fun _ => undef) [(9, (.pointer (some a11) : Value))]) st rfl rfl (by kernel_rfl) (OE.fieldAddrI (a := a11) (o := 1) rfl Tryz.underlying111 rfl Tryz.i109 (by decide) rfl ⟨rfl, rfl⟩)), .inr (YD.u (fr (fun _ => undef) [(8, (.pointer x9 : Value))]) st rfl rfl (by kernel_rfl) (OE.nilCheck (a := a11) (congrArg Value.pointer e12) ⟨rfl, rfl⟩)), .inr (YD.u (fr (fun _ => undef) [(2, (.pointer (some c2) : Value))]) st rfl rfl (by kernel_rfl) (OE.load (a := c2) (v := .pointer x9) rfl (LdT.one Tryz.underlying96 rfl hl10) ⟨rfl, rfl⟩)), .inr (YD.u (fr (fun _ => undef) [(2, (.pointer (some c2) : Value))]) st rfl rfl (by kernel_rfl) (OE.load (a := c2) (v := .pointer x7) rfl (LdT.one Tryz.underlying96 rfl hl8) ⟨rfl, rfl⟩)), trivial⟩ (OE.buildSliceE (ps := [(0, (.iface 122 (.agg #[.int .i64 x15]) : Value))]) (cells := #[.iface 122 (.agg #[.int .i64 x15])]) (e := 150) rfl (Tryz.bf19 _) eb37 eh38 ?_)
      obtain ⟨hs19, hs20, hs21, H⟩ := H
      obtain ⟨vs22, z23, z24, z25, z26, H⟩ := H
      refine DW.loudF (fr (fun _ => undef) [(11, (.slice x13A x13n x13c : Value)), (15, (.slice (some (Addr.mk b18 0 none)) 1 1 : Value))]) st hd (i := 9) rfl (by kernel_rfl) (.inl rfl) (by kernel_rfl) ⟨.inl (by kernel_rfl), .inl (by kernel_rfl), .inl (by kernel_rfl), .inl (by kernel_rfl), .inr (YD.u (fr (fun _ => undef) [(10, (.pointer (some (a11.add 1)) : Value))]) st rfl rfl (by kernel_rfl) (OE.load (a := (a11.add 1)) (v := .slice x13A x13n x13c) rfl (LdT.one Tryz.underlying109 rfl hs21) ⟨rfl, rfl⟩)), .inr (YD.u (fr (fun _ => undef) [(9, (.pointer (some a11) : Value))]) st rfl rfl (by kernel_rfl) (OE.fieldAddrI (a := a11) (o := 1) rfl Tryz.underlying111 rfl Tryz.i109 (by decide) rfl ⟨rfl, rfl⟩)), .inr (YD.u (fr (fun _ => undef) [(8, (.pointer x9 : Value))]) st rfl rfl (by kernel_rfl) (OE.nilCheck (a := a11) (congrArg Value.pointer e12) ⟨rfl, rfl⟩)), .inr (YD.u (fr (fun _ => undef) [(2, (.pointer (some c2) : Value))]) st rfl rfl (by kernel_rfl) (OE.load (a := c2) (v := .pointer x9) rfl (LdT.one Tryz.underlying96 rfl hs20) ⟨rfl, rfl⟩)), .inr (YD.u (fr (fun _ => undef) [(2, (.pointer (some c2) : Value))]) st rfl rfl (by kernel_rfl) (OE.load (a := c2) (v := .pointer x7) rfl (LdT.one Tryz.underlying96 rfl hs19) ⟨rfl, rfl⟩)), trivial⟩ (OE.appendV (z := (.nilIface : Value)) (sz := 1) (bs := 16) rfl rfl Tryz.underlying109 Tryz.i150 z23 z24 z25 z26 (AppendV.mono H (fun A27 n28 c29 h30 H => ?_)))
      obtain ⟨hs31, H⟩ := H
      obtain ⟨a32, e33, H⟩ := H
      refine DW.still (i := 10) (v := .pointer (some a32)) (by kernel_rfl) ?_
      refine DW.still (i := 11) (v := .pointer (some (a32.add 1))) (by kernel_rfl) ?_
      obtain ⟨hw35, H⟩ := H
      obtain ⟨h34, eh36⟩ : ∃ h34, h34 = setc h30 (a32.add 1) (.slice A27 n28 c29) := ⟨_, rfl⟩
      have H := H h34 eh36
      refine DW.loudF (fr (fun _ => undef) [(18, (.pointer (some (a32.add 1)) : Value)), (16, (.slice A27 n28 c29 : Value))]) st hd (i := 12) rfl (by kernel_rfl) (.inl rfl) (by kernel_rfl) ⟨.inr (YD.u (fr (fun _ => undef) [(17, (.pointer (some a32) : Value))]) st rfl rfl (by kernel_rfl) (OE.fieldAddrI (a := a32) (o := 1) rfl Tryz.underlying111 rfl Tryz.i109 (by decide) rfl ⟨rfl, rfl⟩)), .inr (YD.u (fr (fun _ => undef) [(7, (.pointer x7 : Value))]) st rfl rfl (by kernel_rfl) (OE.nilCheck (a := a32) (congrArg Value.pointer e33) ⟨rfl, rfl⟩)), .inl (by kernel_rfl), .inl (by kernel_rfl), .inl (by kernel_rfl), .inl (by kernel_rfl), .inl (by kernel_rfl), .inl (by kernel_rfl), .inl (by kernel_rfl), .inl (by kernel_rfl), .inl (by kernel_rfl), .inr (YD.u (fr (fun _ => undef) [(2, (.pointer (some c2) : Value))]) st rfl rfl (by kernel_rfl) (OE.load (a := c2) (v := .pointer x7) rfl (LdT.one Tryz.underlying96 rfl hs31) ⟨rfl, rfl⟩)), trivial⟩ (OE.storeE (a := (a32.add 1)) (v := .slice A27 n28 c29) rfl rfl (StT.oneI Tryz.i109 hw35 rfl) eh36 ?_)
      refine DW.finL st hd [(7, (.pointer x7 : Value)), (8, (.pointer x9 : Value)), (9, (.pointer (some a11) : Value)), (10, (.pointer (some (a11.add 1)) : Value)), (11, (.slice x13A x13n x13c : Value)), (12, (.int .i64 x15 : Value)), (13, (.agg #[.int .i64 x15] : Value)), (14, (.iface 122 (.agg #[.int .i64 x15]) : Value)), (15, (.slice (some (Addr.mk b18 0 none)) 1 1 : Value)), (16, (.slice A27 n28 c29 : Value)), (17, (.pointer (some a32) : Value)), (18, (.pointer (some (a32.add 1)) : Value))] (by kernel_rfl) (by kernel_rfl) ⟨.inl (by kernel_rfl), .inl (by kernel_rfl), .inl (by kernel_rfl), .inl (by kernel_rfl), .inl (by kernel_rfl), .inl (by kernel_rfl), .inl (by kernel_rfl), .inl (by kernel_rfl), .inl (by kernel_rfl), .inl (by kernel_rfl), .inl (by kernel_rfl), .inl (by kernel_rfl), .inl (by kernel_rfl), trivial⟩ ?_
      exact ⟨rfl, H⟩
    · have H := H.2 e6
      refine VC.skip ?_
      exact ⟨rfl, H⟩

def D_disk_Disk_fails.J1 (R : Value → Hp → Prop)  (kind : Int) (j7 : Bool) (h8 : Hp) : Prop :=
  ((j7 = true → R (.int .i64 10) h8) ∧ (j7 = false → (((kind == 3) = true → R (.int .i64 8) h8) ∧ ((kind == 3) = false → R (.int .i64 0) h8))))
def D_disk_Disk_fails (R : Value → Hp → Prop) (d : Option Addr) (kind : Int) (h : Hp) : Prop :=
  (((kind == 1) = true → (∃ a2 : Addr, d = some a2 ∧ (Wr h (a2.add 10) ∧ ∀ h4, h4 = setc h (a2.add 10) (.bool true) → R (.int .i64 11) h4))) ∧ ((kind == 1) = false → (((kind == 2) = true → D_disk_Disk_fails.J1 R  kind (kind == 2) h) ∧ ((kind == 2) = false → (((kind == 4) = true → D_disk_Disk_fails.J1 R  kind (kind == 4) h) ∧ ((kind == 4) = false → D_disk_Disk_fails.J1 R  kind (kind == 5) h))))))
set_option maxRecDepth 10000 in
set_option maxHeartbeats 4000000 in
theorem D_disk_Disk_fails.sound {R : Value → Hp → Prop} {d : Option Addr} {kind : Int} {h : Hp} (H : D_disk_Disk_fails R  d kind h) : CH Tryz.prog 63 #[.pointer d, .int .i64 kind] h R := by
  refine CHE.enter (n := 17) Tryz.func63 rfl rfl (Nat.le_of_ble_eq_true rfl) ?_
  unfold D_disk_Disk_fails at H
  refine VC.seq ?_
  refine VC.region ?_
  refine VL.stepD rfl rfl (by decide) (OE.assignV (v := .int .i64 0) rfl ?_)
  refine VL.nil ?_
  change VC _ _ _ _ _ _ _
  refine VC.seq ?_
  refine VC.seq ?_
  refine VC.region ?_
  refine VL.stepD rfl rfl (by decide) (OE.moveV (v := .int .i64 kind) rfl ?_)
  refine VL.nil ?_
  change VC _ _ _ _ _ _ _
  refine VC.block ?_
  refine VC.seq ?_
  refine VC.region ?_
  refine VL.stepD rfl rfl (by decide) (OE.binI (v := .bool (kind == 1)) rfl rfl rfl ?_)
  refine VL.stepD rfl rfl (by decide) (OE.assignV (v := .bool (kind == 1)) rfl ?_)
  refine VL.nil ?_
  change VC _ _ _ _ _ _ _
  refine VC.cond (t := (kind == 1)) rfl (fun e1 => ?_) (fun e1 => ?_)
  · have H := H.1 e1
    refine VC.seq ?_
    refine VC.region ?_
    refine VL.stepD rfl rfl (by decide) (OE.moveV (v := .pointer d) rfl ?_)
    obtain ⟨a2, e3, H⟩ := H
    refine VL.stepD rfl rfl (by decide) (OE.nilCheck (a := a2) (congrArg Value.pointer e3) ?_)
    refine VL.stepD rfl rfl (by decide) (OE.fieldAddrI (a := a2) (o := 10) rfl Tryz.underlying104 rfl Tryz.i4 (by decide) rfl ?_)
    obtain ⟨hw5, H⟩ := H
    obtain ⟨h4, eh6⟩ : ∃ h4, h4 = setc h (a2.add 10) (.bool true) := ⟨_, rfl⟩
    have H := H h4 eh6
    refine VL.stepN rfl rfl (OE.storeE (a := (a2.add 10)) (v := .bool true) rfl rfl (StT.oneI Tryz.i4 hw5 rfl) eh6 ?_)
    refine VL.nil ?_
    change VC _ _ _ _ _ _ _
    refine VC.seq ?_
    refine VC.region ?_
    refine VL.stepD rfl rfl (by decide) (OE.assignV (v := .int .i64 11) rfl ?_)
    refine VL.nil ?_
    change VC _ _ _ _ _ _ _
    refine VC.ret ?_
    exact ⟨rfl, _, ResOK.t1 rfl (v := .int .i64 11) rfl, H⟩
  · have H := H.2 e1
    refine VC.seqJ (fun f h8 => ∃ j7 : Bool, f 5 = (.int .i64 kind : Value) ∧ f 11 = (.bool j7 : Value) ∧ D_disk_Disk_fails.J1 R  kind j7 h8) ?_ ?_
    · intro f h8 J
      obtain ⟨j7, hk5, hk11, H⟩ := J
      rw [← fr_self f [(5, .int .i64 kind), (11, .bool j7)] (by simp only [List.mem_cons, List.not_mem_nil, or_false]; rintro p (rfl | rfl) <;> assumption)]
      unfold D_disk_Disk_fails.J1 at H
      refine VC.cond (t := j7) rfl (fun e9 => ?_) (fun e9 => ?_)
      · have H := H.1 e9
        refine VC.seq ?_
        refine VC.region ?_
        refine VL.stepD rfl rfl (by decide) (OE.assignV (v := .int .i64 10) rfl ?_)
        refine VL.nil ?_
        change VC _ _ _ _ _ _ _
        refine VC.ret ?_
        exact ⟨rfl, _, ResOK.t1 rfl (v := .int .i64 10) rfl, H⟩
      · have H := H.2 e9
        refine VC.seq ?_
        refine VC.region ?_
        refine VL.stepD rfl rfl (by decide) (OE.binI (v := .bool (kind == 3)) rfl rfl rfl ?_)
        refine VL.stepD rfl rfl (by decide) (OE.assignV (v := .bool (kind == 3)) rfl ?_)
        refine VL.nil ?_
        change VC _ _ _ _ _ _ _
        refine VC.cond (t := (kind == 3)) rfl (fun e10 => ?_) (fun e10 => ?_)
        · have H := H.1 e10
          refine VC.seq ?_
          refine VC.region ?_
          refine VL.stepD rfl rfl (by decide) (OE.assignV (v := .int .i64 8) rfl ?_)
          refine VL.nil ?_
          change VC _ _ _ _ _ _ _
          refine VC.ret ?_
          exact ⟨rfl, _, ResOK.t1 rfl (v := .int .i64 8) rfl, H⟩
        · have H := H.2 e10
          refine VC.skip ?_
          change VC _ _ _ _ _ _ _
          refine VC.seq ?_
          refine VC.region ?_
          refine VL.stepD rfl rfl (by decide) (OE.assignV (v := .int .i64 0) rfl ?_)
          refine VL.nil ?_
          change VC _ _ _ _ _ _ _
          refine VC.ret ?_
          exact ⟨rfl, _, ResOK.t1 rfl (v := .int .i64 0) rfl, H⟩
    · skip
      refine VC.seq ?_
      refine VC.region ?_
      refine VL.stepD rfl rfl (by decide) (OE.binI (v := .bool (kind == 2)) rfl rfl rfl ?_)
      refine VL.stepD rfl rfl (by decide) (OE.assignV (v := .bool (kind == 2)) rfl ?_)
      refine VL.nil ?_
      change VC _ _ _ _ _ _ _
      refine VC.cond (t := (kind == 2)) rfl (fun e11 => ?_) (fun e11 => ?_)
      · have H := H.1 e11
        refine VC.skip ?_
        exact ⟨rfl, (kind == 2), rfl, rfl, H⟩
      · have H := H.2 e11
        refine VC.seq ?_
        refine VC.region ?_
        refine VL.stepD rfl rfl (by decide) (OE.binI (v := .bool (kind == 4)) rfl rfl rfl ?_)
        refine VL.stepD rfl rfl (by decide) (OE.assignV (v := .bool (kind == 4)) rfl ?_)
        refine VL.nil ?_
        change VC _ _ _ _ _ _ _
        refine VC.cond (t := (kind == 4)) rfl (fun e12 => ?_) (fun e12 => ?_)
        · have H := H.1 e12
          refine VC.skip ?_
          exact ⟨rfl, (kind == 4), rfl, rfl, H⟩
        · have H := H.2 e12
          refine VC.region ?_
          refine VL.stepD rfl rfl (by decide) (OE.binI (v := .bool (kind == 5)) rfl rfl rfl ?_)
          refine VL.stepD rfl rfl (by decide) (OE.assignV (v := .bool (kind == 5)) rfl ?_)
          refine VL.nil ?_
          exact ⟨rfl, (kind == 5), rfl, rfl, H⟩

def D_disk_fault.J1 (R : Value → Hp → Prop)    (h1 : Hp) : Prop :=
  R (.int .i64 0) h1
def D_disk_fault.J3 (R : Value → Hp → Prop) (C4 : Int → Hp → Prop) (j2 : Int) (b13 : Nat) (j16 : Bool) (h17 : Hp) : Prop :=
  ((j16 = true → (∃ x19 : Int, cell h17 ((Addr.mk b13 0 none).add 1) = some (.int .i64 x19) ∧ R (.int .i64 x19) h17)) ∧ (j16 = false → C4 (IntKind.i64.wrap (j2 + 1)) h17))
def D_disk_fault.L2 (R : Value → Hp → Prop)  (lA : Option Addr) (ln : Nat) (a_at : Int) (C4 : Int → Hp → Prop) (j2 : Int) (h3 : Hp) : Prop :=
  (((decide (j2 < ((ln : Nat) : Int))) = true → (∃ a6 : Addr, lA = some a6 ∧ (0 : Int) ≤ j2 ∧ j2 < (ln : Int) ∧ (∃ x10_0 : Int, ∃ x10_1 : Int, Row h3 (a6.add (Int.toNat j2 * 2)) [.int .i64 x10_0, .int .i64 x10_1] ∧ (∀ b13 h12, b13 = Array.size h3 → h12 = Array.push h3 (.cells #[.int .i64 0, .int .i64 0] 33) → ((∀ j, j < 2 → Wr h12 (Addr.add (Addr.mk b13 0 none) j)) ∧ ∀ h14, h14 = setRow h12 (Addr.mk b13 0 none) [.int .i64 x10_0, .int .i64 x10_1] 0 → (∃ x21 : Int, cell h14 (Addr.mk b13 0 none) = some (.int .i64 x21) ∧ (((x21 == a_at) = true → (∃ x24 : Int, cell h14 ((Addr.mk b13 0 none).add 1) = some (.int .i64 x24) ∧ (((decide (x24 ≥ 1)) = true → (∃ x27 : Int, cell h14 ((Addr.mk b13 0 none).add 1) = some (.int .i64 x27) ∧ D_disk_fault.J3 R C4 j2 b13 (decide (x27 ≤ 5)) h14)) ∧ ((decide (x24 ≥ 1)) = false → D_disk_fault.J3 R C4 j2 b13 false h14)))) ∧ ((x21 == a_at) = false → D_disk_fault.J3 R C4 j2 b13 false h14)))))))) ∧ ((decide (j2 < ((ln : Nat) : Int))) = false → D_disk_fault.J1 R    h3))
def D_disk_fault (R : Value → Hp → Prop) (lA : Option Addr) (ln : Nat) (lc : Nat) (a_at : Int) (h : Hp) : Prop :=
  (∃ Inv : Int → Hp → Nat → Prop, (∃ m, Inv 0 h m) ∧ ∀ j2 h3 m, Inv j2 h3 m → D_disk_fault.L2 R  lA ln a_at (fun j2 h3 => ∃ m1, m1 < m ∧ Inv j2 h3 m1) j2 h3)
set_option maxRecDepth 10000 in
set_option maxHeartbeats 4000000 in
theorem D_disk_fault.sound {R : Value → Hp → Prop} {lA : Option Addr} {ln : Nat} {lc : Nat} {a_at : Int} {h : Hp} (H : D_disk_fault R  lA ln lc a_at h) : CH Tryz.prog 64 #[.slice lA ln lc, .int .i64 a_at] h R := by
  refine CHE.enter (n := 30) Tryz.func64 rfl rfl (Nat.le_of_ble_eq_true rfl) ?_
  unfold D_disk_fault at H
  refine VC.seq ?_
  refine VC.region ?_
  refine VL.stepD rfl rfl (by decide) (OE.assignV (v := .int .i64 0) rfl ?_)
  refine VL.nil ?_
  change VC _ _ _ _ _ _ _
  refine VC.seqJ (fun f h1 => D_disk_fault.J1 R    h1) ?_ ?_
  · intro f h1 J
    have H := J
    skip
    unfold D_disk_fault.J1 at H
    refine VC.seq ?_
    refine VC.region ?_
    refine VL.stepD rfl rfl (by decide) (OE.assignV (v := .int .i64 0) rfl ?_)
    refine VL.nil ?_
    change VC _ _ _ _ _ _ _
    refine VC.ret ?_
    exact ⟨rfl, _, ResOK.t1 rfl (v := .int .i64 0) rfl, H⟩
  · skip
    refine VC.seq ?_
    refine VC.region ?_
    refine VL.stepD rfl rfl (by decide) (OE.moveV (v := .slice lA ln lc) rfl ?_)
    refine VL.stepD rfl rfl (by decide) (OE.lenSlice rfl Tryz.underlying34 ?_)
    refine VL.stepD rfl rfl (by decide) (OE.moveV (v := .int .i64 0) rfl ?_)
    refine VL.nil ?_
    change VC _ _ _ _ _ _ _
    refine VC.block ?_
    obtain ⟨Inv, ⟨m0, h0⟩, H⟩ := H
    refine VC.loop (fun ds f h3 m => ds = [] ∧ ∃ j2 : Int, f 1 = (.int .i64 a_at : Value) ∧ f 7 = (.slice lA ln lc : Value) ∧ f 8 = (.int .i64 ((ln : Nat) : Int) : Value) ∧ f 9 = (.int .i64 j2 : Value) ∧ Inv j2 h3 m) (m0 := m0) ⟨rfl, 0, rfl, rfl, rfl, rfl, h0⟩ ?_
    intro ds f h3 m I
    obtain ⟨rfl, j2, hk1, hk7, hk8, hk9, I⟩ := I
    rw [← fr_self f [(1, .int .i64 a_at), (7, .slice lA ln lc), (8, .int .i64 ((ln : Nat) : Int)), (9, .int .i64 j2)] (by simp only [List.mem_cons, List.not_mem_nil, or_false]; rintro p (rfl | rfl | rfl | rfl) <;> assumption)]
    obtain ⟨C4, eC4⟩ : ∃ C4 : Int → Hp → Prop, C4 = (fun j2 h3 => ∃ m1, m1 < m ∧ Inv j2 h3 m1) := ⟨_, rfl⟩
    have H : D_disk_fault.L2 R  lA ln a_at C4 j2 h3 := by rw [eC4]; exact H j2 h3 m I
    unfold D_disk_fault.L2 at H
    refine VC.seq ?_
    refine VC.region ?_
    refine VL.stepD rfl rfl (by decide) (OE.binI (v := .bool (decide (j2 < ((ln : Nat) : Int)))) rfl rfl rfl ?_)
    refine VL.nil ?_
    change VC _ _ _ _ _ _ _
    refine VC.seq ?_
    refine VC.cond (t := (decide (j2 < ((ln : Nat) : Int)))) rfl (fun e5 => ?_) (fun e5 => ?_)
    · have H := H.1 e5
      refine VC.skip ?_
      change VC _ _ _ _ _ _ _
      refine VC.seq ?_
      refine VC.block ?_
      refine VC.seq ?_
      refine VC.region ?_
      obtain ⟨a6, e7, z8, z9, H⟩ := H
      refine VL.stepD rfl rfl (by decide) (OE.indexAddrI (sz := 2) rfl rfl Tryz.underlying34 Tryz.i33 e7 z8 z9 ?_)
      obtain ⟨x10_0, x10_1, hl11, H⟩ := H
      refine VL.stepD rfl rfl (by decide) (OE.load (a := (a6.add (Int.toNat j2 * 2))) (v := .agg #[.int .i64 x10_0, .int .i64 x10_1]) rfl (LdT.aggI Tryz.underlying33 rfl Tryz.i33 rfl hl11) ?_)
      obtain ⟨b13, eb30⟩ : ∃ b13, b13 = Array.size h3 := ⟨_, rfl⟩
      obtain ⟨h12, eh31⟩ : ∃ h12, h12 = Array.push h3 (.cells #[.int .i64 0, .int .i64 0] 33) := ⟨_, rfl⟩
      have H := H b13 h12 eb30 eh31
      refine VL.stepD rfl rfl (by decide) (OE.allocE (z := .agg #[.int .i64 0, .int .i64 0]) Tryz.i33 eb30 eh31 ?_)
      obtain ⟨hw15, H⟩ := H
      obtain ⟨h14, eh29⟩ : ∃ h14, h14 = setRow h12 (Addr.mk b13 0 none) [.int .i64 x10_0, .int .i64 x10_1] 0 := ⟨_, rfl⟩
      have H := H h14 eh29
      refine VL.stepN rfl rfl (OE.storeE (a := (Addr.mk b13 0 none)) (v := .agg #[.int .i64 x10_0, .int .i64 x10_1]) rfl rfl (StT.aggI (vs := [.int .i64 x10_0, .int .i64 x10_1]) Tryz.i33 rfl hw15 (by simp [oneC])) eh29 ?_)
      refine VL.nil ?_
      change VC _ _ _ _ _ _ _
      refine VC.seqJ (fun f h17 => ∃ j16 : Bool, f 1 = (.int .i64 a_at : Value) ∧ f 6 = (.pointer (some (Addr.mk b13 0 none)) : Value) ∧ f 7 = (.slice lA ln lc : Value) ∧ f 8 = (.int .i64 ((ln : Nat) : Int) : Value) ∧ f 9 = (.int .i64 j2 : Value) ∧ f 26 = (.bool j16 : Value) ∧ D_disk_fault.J3 R C4 j2 b13 j16 h17) ?_ ?_
      · intro f h17 J
        obtain ⟨j16, hk1, hk6, hk7, hk8, hk9, hk26, H⟩ := J
        rw [← fr_self f [(1, .int .i64 a_at), (6, .pointer (some (Addr.mk b13 0 none))), (7, .slice lA ln lc), (8, .int .i64 ((ln : Nat) : Int)), (9, .int .i64 j2), (26, .bool j16)] (by simp only [List.mem_cons, List.not_mem_nil, or_false]; rintro p (rfl | rfl | rfl | rfl | rfl | rfl) <;> assumption)]
        unfold D_disk_fault.J3 at H
        refine VC.cond (t := j16) rfl (fun e18 => ?_) (fun e18 => ?_)
        · have H := H.1 e18
          refine VC.seq ?_
          refine VC.region ?_
          refine VL.stepD rfl rfl (by decide) (OE.fieldAddrI (a := (Addr.mk b13 0 none)) (o := 1) rfl Tryz.underlying33 rfl Tryz.i3 (by decide) rfl ?_)
          obtain ⟨x19, hl20, H⟩ := H
          refine VL.stepD rfl rfl (by decide) (OE.load (a := ((Addr.mk b13 0 none).add 1)) (v := .int .i64 x19) rfl (LdT.one Tryz.underlying3 rfl hl20) ?_)
          refine VL.stepD rfl rfl (by decide) (OE.assignV (v := .int .i64 x19) rfl ?_)
          refine VL.nil ?_
          change VC _ _ _ _ _ _ _
          refine VC.ret ?_
          exact ⟨rfl, _, ResOK.t1 rfl (v := .int .i64 x19) rfl, H⟩
        · have H := H.2 e18
          refine VC.skip ?_
          change VC _ _ _ _ _ _ _
          refine VC.region ?_
          refine VL.stepD rfl rfl (by decide) (OE.binI (v := .int .i64 (IntKind.i64.wrap (j2 + 1))) rfl rfl rfl ?_)
          refine VL.stepD rfl rfl (by decide) (OE.moveV (v := .int .i64 (IntKind.i64.wrap (j2 + 1))) rfl ?_)
          refine VL.nil ?_
          rw [eC4] at H
          obtain ⟨m1, hm1, H⟩ := H
          exact ⟨m1, hm1, rfl, (IntKind.i64.wrap (j2 + 1)), rfl, rfl, rfl, rfl, H⟩
      · skip
        refine VC.region ?_
        refine VL.stepD rfl rfl (by decide) (OE.fieldAddrI (a := (Addr.mk b13 0 none)) (o := 0) rfl Tryz.underlying33 rfl Tryz.i3 (by decide) rfl ?_)
        obtain ⟨x21, hl22, H⟩ := H
        refine VL.stepD rfl rfl (by decide) (OE.load (a := (Addr.mk b13 0 none)) (v := .int .i64 x21) rfl (LdT.one Tryz.underlying3 rfl hl22) ?_)
        refine VL.stepD rfl rfl (by decide) (OE.moveV (v := .int .i64 a_at) rfl ?_)
        refine VL.stepD rfl rfl (by decide) (OE.binI (v := .bool (x21 == a_at)) rfl rfl rfl ?_)
        refine VL.stepD rfl rfl (by decide) (OE.moveV (v := .bool (x21 == a_at)) rfl ?_)
        refine boolSplit ((x21 == a_at)) (fun e23 => ?_) (fun e23 => ?_)
        · have H := H.1 e23
          refine VL.gstepD rfl rfl (by decide) (congrArg Value.bool e23) rfl (by decide) (OE.fieldAddrI (a := (Addr.mk b13 0 none)) (o := 1) rfl Tryz.underlying33 rfl Tryz.i3 (by decide) rfl ?_)
          obtain ⟨x24, hl25, H⟩ := H
          refine VL.gstepD rfl rfl (by decide) (congrArg Value.bool e23) rfl (by decide) (OE.load (a := ((Addr.mk b13 0 none).add 1)) (v := .int .i64 x24) rfl (LdT.one Tryz.underlying3 rfl hl25) ?_)
          refine VL.gstepD rfl rfl (by decide) (congrArg Value.bool e23) rfl (by decide) (OE.binI (v := .bool (decide (x24 ≥ 1))) rfl rfl rfl ?_)
          refine VL.stepD rfl rfl (by decide) (OE.pickV (t := true) (v := .bool (decide (x24 ≥ 1))) (congrArg Value.bool e23) rfl ?_)
          refine VL.stepD rfl rfl (by decide) (OE.moveV (v := .bool (decide (x24 ≥ 1))) rfl ?_)
          refine boolSplit ((decide (x24 ≥ 1))) (fun e26 => ?_) (fun e26 => ?_)
          · have H := H.1 e26
            refine VL.gstepD rfl rfl (by decide) (congrArg Value.bool e26) rfl (by decide) (OE.fieldAddrI (a := (Addr.mk b13 0 none)) (o := 1) rfl Tryz.underlying33 rfl Tryz.i3 (by decide) rfl ?_)
            obtain ⟨x27, hl28, H⟩ := H
            refine VL.gstepD rfl rfl (by decide) (congrArg Value.bool e26) rfl (by decide) (OE.load (a := ((Addr.mk b13 0 none).add 1)) (v := .int .i64 x27) rfl (LdT.one Tryz.underlying3 rfl hl28) ?_)
            refine VL.gstepD rfl rfl (by decide) (congrArg Value.bool e26) rfl (by decide) (OE.binI (v := .bool (decide (x27 ≤ 5))) rfl rfl rfl ?_)
            refine VL.stepD rfl rfl (by decide) (OE.pickV (t := true) (v := .bool (decide (x27 ≤ 5))) (congrArg Value.bool e26) rfl ?_)
            refine VL.nil ?_
            exact ⟨rfl, (decide (x27 ≤ 5)), rfl, rfl, rfl, rfl, rfl, rfl, H⟩
          · have H := H.2 e26
            refine VL.gskipD rfl rfl (by decide) (.inl (congrArg Value.bool e26)) rfl (by decide) ?_
            refine VL.gskipD rfl rfl (by decide) (.inl (congrArg Value.bool e26)) rfl (by decide) ?_
            refine VL.gskipD rfl rfl (by decide) (.inl (congrArg Value.bool e26)) rfl (by decide) ?_
            refine VL.stepD rfl rfl (by decide) (OE.pickV (t := false) (v := .bool false) (congrArg Value.bool e26) rfl ?_)
            refine VL.nil ?_
            exact ⟨rfl, false, rfl, rfl, rfl, rfl, rfl, rfl, H⟩
        · have H := H.2 e23
          refine VL.gskipD rfl rfl (by decide) (.inl (congrArg Value.bool e23)) rfl (by decide) ?_
          refine VL.gskipD rfl rfl (by decide) (.inl (congrArg Value.bool e23)) rfl (by decide) ?_
          refine VL.gskipD rfl rfl (by decide) (.inl (congrArg Value.bool e23)) rfl (by decide) ?_
          refine VL.stepD rfl rfl (by decide) (OE.pickV (t := false) (v := .bool false) (congrArg Value.bool e23) rfl ?_)
          refine VL.stepD rfl rfl (by decide) (OE.moveV (v := .bool false) rfl ?_)
          refine VL.gskipD rfl rfl (by decide) (.inl rfl) rfl (by decide) ?_
          refine VL.gskipD rfl rfl (by decide) (.inl rfl) rfl (by decide) ?_
          refine VL.gskipD rfl rfl (by decide) (.inl rfl) rfl (by decide) ?_
          refine VL.stepD rfl rfl (by decide) (OE.pickV (t := false) (v := .bool false) rfl rfl ?_)
          refine VL.nil ?_
          exact ⟨rfl, false, rfl, rfl, rfl, rfl, rfl, rfl, H⟩
    · have H := H.2 e5
      refine VC.exit ?_
      exact ⟨rfl, H⟩

def D_disk_round (R : Value → Hp → Prop) (v : Int) (a_n : Int) (h : Hp) : Prop :=
  (a_n ≠ 0 ∧ (a_n ≠ 0 ∧ R (.int .i64 (Int.tmod (IntKind.i64.wrap ((Int.tmod v a_n) + a_n)) a_n)) h))
set_option maxRecDepth 10000 in
set_option maxHeartbeats 4000000 in
theorem D_disk_round.sound {R : Value → Hp → Prop} {v : Int} {a_n : Int} {h : Hp} (H : D_disk_round R  v a_n h) : CH Tryz.prog 65 #[.int .i64 v, .int .i64 a_n] h R := by
  refine CHE.enter (n := 12) Tryz.func65 rfl rfl (Nat.le_of_ble_eq_true rfl) ?_
  unfold D_disk_round at H
  refine VC.seq ?_
  refine VC.region ?_
  refine VL.stepD rfl rfl (by decide) (OE.assignV (v := .int .i64 0) rfl ?_)
  refine VL.nil ?_
  change VC _ _ _ _ _ _ _
  refine VC.seq ?_
  refine VC.region ?_
  refine VL.stepD rfl rfl (by decide) (OE.moveV (v := .int .i64 v) rfl ?_)
  refine VL.stepD rfl rfl (by decide) (OE.moveV (v := .int .i64 a_n) rfl ?_)
  obtain ⟨hz1, H⟩ := H
  refine VL.stepD rfl rfl (by decide) (OE.binI (v := .int .i64 (Int.tmod v a_n)) rfl rfl (by simp only [V.binI, if_true]; rw [if_neg hz1]) ?_)
  refine VL.stepD rfl rfl (by decide) (OE.moveV (v := .int .i64 a_n) rfl ?_)
  refine VL.stepD rfl rfl (by decide) (OE.binI (v := .int .i64 (IntKind.i64.wrap ((Int.tmod v a_n) + a_n))) rfl rfl rfl ?_)
  refine VL.stepD rfl rfl (by decide) (OE.moveV (v := .int .i64 a_n) rfl ?_)
  obtain ⟨hz2, H⟩ := H
  refine VL.stepD rfl rfl (by decide) (OE.binI (v := .int .i64 (Int.tmod (IntKind.i64.wrap ((Int.tmod v a_n) + a_n)) a_n)) rfl rfl (by simp only [V.binI, if_true]; rw [if_neg hz2]) ?_)
  refine VL.stepD rfl rfl (by decide) (OE.assignV (v := .int .i64 (Int.tmod (IntKind.i64.wrap ((Int.tmod v a_n) + a_n)) a_n)) rfl ?_)
  refine VL.nil ?_
  change VC _ _ _ _ _ _ _
  refine VC.ret ?_
  exact ⟨rfl, _, ResOK.t1 rfl (v := .int .i64 (Int.tmod (IntKind.i64.wrap ((Int.tmod v a_n) + a_n)) a_n)) rfl, H⟩


def D_disk_file_row.J2 (R : Value → Hp → Prop)  (b2 : Nat) (j3 : Addr)  (h5 : Hp) : Prop :=
  (∃ x6_0A : Option Addr, ∃ x6_0n : Nat, ∃ x6_0c : Nat, ∃ x6_1A : Option Addr, ∃ x6_1n : Nat, ∃ x6_1c : Nat, Row h5 j3 [.slice x6_0A x6_0n x6_0c, .slice x6_1A x6_1n x6_1c] ∧ ((∀ j, j < 2 → Wr h5 (Addr.add (Addr.mk b2 0 none) j)) ∧ ∀ h8, h8 = setRow h5 (Addr.mk b2 0 none) [.slice x6_0A x6_0n x6_0c, .slice x6_1A x6_1n x6_1c] 0 → ∃ r10_0A : Option Addr, ∃ r10_0n : Nat, ∃ r10_0c : Nat, ∃ r10_1A : Option Addr, ∃ r10_1n : Nat, ∃ r10_1c : Nat, Row h8 (Addr.mk b2 0 none) [.slice r10_0A r10_0n r10_0c, .slice r10_1A r10_1n r10_1c] ∧ R (.agg #[.slice r10_0A r10_0n r10_0c, .slice r10_1A r10_1n r10_1c]) h8))
def D_disk_file_row.L3 (R : Value → Hp → Prop)  (done : Int) (b2 : Nat) (j3 : Addr) (x14A : Option Addr) (C20 : Int → Hp → Prop) (j18 : Int) (h19 : Hp) : Prop :=
  (((decide (j18 < (((Int.toNat done) : Nat) : Int))) = true → (∃ a22 : Addr, x14A = some a22 ∧ (0 : Int) ≤ j18 ∧ j18 < ((Int.toNat done) : Int) ∧ (∃ x26 : Value, cell h19 (a22.add (Int.toNat j18 * 1)) = some (x26) ∧ (∃ x28_0A : Option Addr, ∃ x28_0n : Nat, ∃ x28_0c : Nat, ∃ x28_1A : Option Addr, ∃ x28_1n : Nat, ∃ x28_1c : Nat, Row h19 j3 [.slice x28_0A x28_0n x28_0c, .slice x28_1A x28_1n x28_1c] ∧ CHI Tryz.prog x26 "treadle/disk.do" [.agg #[.slice x28_0A x28_0n x28_0c, .slice x28_1A x28_1n x28_1c]] h19 (fun r30 h31 => ∃ y32_0A : Option Addr, ∃ y32_0n : Nat, ∃ y32_0c : Nat, ∃ y32_1A : Option Addr, ∃ y32_1n : Nat, ∃ y32_1c : Nat, r30 = .agg #[.slice y32_0A y32_0n y32_0c, .slice y32_1A y32_1n y32_1c] ∧ ((∀ j, j < 2 → Wr h31 (Addr.add j3 j)) ∧ ∀ h33, h33 = setRow h31 j3 [.slice y32_0A y32_0n y32_0c, .slice y32_1A y32_1n y32_1c] 0 → C20 (IntKind.i64.wrap (j18 + 1)) h33)))))) ∧ ((decide (j18 < (((Int.toNat done) : Nat) : Int))) = false → D_disk_file_row.J2 R  b2 j3  h19))
def D_disk_file_row.J1 (R : Value → Hp → Prop)  (f' : Option Addr) (done : Int) (b2 : Nat) (j3 : Addr) (h4 : Hp) : Prop :=
  (∃ a12 : Addr, f' = some a12 ∧ (∃ x14A : Option Addr, ∃ x14n : Nat, ∃ x14c : Nat, cell h4 (a12.add 1) = some (.slice x14A x14n x14c) ∧ ((0 : Int) ≤ done ∧ done ≤ ((x14c : Nat) : Int) ∧ (∃ Inv : Int → Hp → Nat → Prop, (∃ m, Inv 0 h4 m) ∧ ∀ j18 h19 m, Inv j18 h19 m → D_disk_file_row.L3 R  done b2 j3 x14A (fun j18 h19 => ∃ m1, m1 < m ∧ Inv j18 h19 m1) j18 h19))))
def D_disk_file_row (R : Value → Hp → Prop) (f' : Option Addr) (done : Int) (h : Hp) : Prop :=
  (∀ b2 h1, b2 = Array.size h → h1 = Array.push h (.cells #[.slice none 0 0, .slice none 0 0] 128) → (∃ a37 : Addr, f' = some a37 ∧ (∃ x39A : Option Addr, ∃ x39n : Nat, ∃ x39c : Nat, cell h1 a37 = some (.slice x39A x39n x39c) ∧ (∃ x41A : Option Addr, ∃ x41n : Nat, ∃ x41c : Nat, cell h1 a37 = some (.slice x41A x41n x41c) ∧ ((CH Tryz.prog 48 #[.slice x39A x39n x39c] h1 (fun r43 h44 => ∃ y45A : Option Addr, ∃ y45n : Nat, ∃ y45c : Nat, r43 = .slice y45A y45n y45c ∧ (cell h44 a37 = some (.slice x41A x41n x41c) ∧ ((((0 : Int) ≤ ((x41n : Nat) : Int) ∧ ((x41n : Nat) : Int) ≤ ((x41n : Nat) : Int) ∧ (1 : Int) * ((x41n : Nat) : Int) ≤ 281474976710656 ∧ ∀ b48 h47, b48 = Array.size h44 → h47 = Array.push h44 (.cells (made (.bool false) ((Int.toNat ((x41n : Nat) : Int)) * 1)).toArray 4) → (∀ b53 h52, b53 = Array.size h47 → h52 = Array.push h47 (.cells #[.slice none 0 0, .slice none 0 0] 128) → ((∀ j, j < 2 → Wr h52 (Addr.add (Addr.mk b53 0 none) j)) ∧ ∀ h54, h54 = setRow h52 (Addr.mk b53 0 none) [.slice y45A y45n y45c, .slice (some (Addr.mk b48 0 none)) (Int.toNat ((x41n : Nat) : Int)) (Int.toNat ((x41n : Nat) : Int))] 0 → D_disk_file_row.J1 R  f' done b2 (Addr.mk b53 0 none) h54)))) ∧ ((∀ b62 h61, b62 = Array.size h44 → h61 = Array.push h44 (.cells #[.slice none 0 0, .slice none 0 0] 128) → (cell h61 a37 = some (.slice x41A x41n x41c) ∧ ((0 : Int) ≤ ((x41n : Nat) : Int) ∧ ((x41n : Nat) : Int) ≤ ((x41n : Nat) : Int) ∧ (1 : Int) * ((x41n : Nat) : Int) ≤ 281474976710656 ∧ ∀ b65 h64, b65 = Array.size h61 → h64 = Array.push h61 (.cells (made (.bool false) ((Int.toNat ((x41n : Nat) : Int)) * 1)).toArray 4) → ((∀ j, j < 2 → Wr h64 (Addr.add (Addr.mk b62 0 none) j)) ∧ ∀ h69, h69 = setRow h64 (Addr.mk b62 0 none) [.slice y45A y45n y45c, .slice (some (Addr.mk b65 0 none)) (Int.toNat ((x41n : Nat) : Int)) (Int.toNat ((x41n : Nat) : Int))] 0 → D_disk_file_row.J1 R  f' done b2 (Addr.mk b62 0 none) h69))))))))) ∧ (((0 : Int) ≤ ((x41n : Nat) : Int) ∧ ((x41n : Nat) : Int) ≤ ((x41n : Nat) : Int) ∧ (1 : Int) * ((x41n : Nat) : Int) ≤ 281474976710656 ∧ ∀ b78 h77, b78 = Array.size h1 → h77 = Array.push h1 (.cells (made (.bool false) ((Int.toNat ((x41n : Nat) : Int)) * 1)).toArray 4) → (cell h77 a37 = some (.slice x39A x39n x39c) ∧ ((CH Tryz.prog 48 #[.slice x39A x39n x39c] h77 (fun r83 h84 => ∃ y85A : Option Addr, ∃ y85n : Nat, ∃ y85c : Nat, r83 = .slice y85A y85n y85c ∧ (∀ b87 h86, b87 = Array.size h84 → h86 = Array.push h84 (.cells #[.slice none 0 0, .slice none 0 0] 128) → ((∀ j, j < 2 → Wr h86 (Addr.add (Addr.mk b87 0 none) j)) ∧ ∀ h88, h88 = setRow h86 (Addr.mk b87 0 none) [.slice y85A y85n y85c, .slice (some (Addr.mk b78 0 none)) (Int.toNat ((x41n : Nat) : Int)) (Int.toNat ((x41n : Nat) : Int))] 0 → D_disk_file_row.J1 R  f' done b2 (Addr.mk b87 0 none) h88)))) ∧ ((∀ b95 h94, b95 = Array.size h77 → h94 = Array.push h77 (.cells #[.slice none 0 0, .slice none 0 0] 128) → (cell h94 a37 = some (.slice x39A x39n x39c) ∧ CH Tryz.prog 48 #[.slice x39A x39n x39c] h94 (fun r97 h98 => ∃ y99A : Option Addr, ∃ y99n : Nat, ∃ y99c : Nat, r97 = .slice y99A y99n y99c ∧ ((∀ j, j < 2 → Wr h98 (Addr.add (Addr.mk b95 0 none) j)) ∧ ∀ h100, h100 = setRow h98 (Addr.mk b95 0 none) [.slice y99A y99n y99c, .slice (some (Addr.mk b78 0 none)) (Int.toNat ((x41n : Nat) : Int)) (Int.toNat ((x41n : Nat) : Int))] 0 → D_disk_file_row.J1 R  f' done b2 (Addr.mk b95 0 none) h100))))))))) ∧ ((∀ b109 h108, b109 = Array.size h1 → h108 = Array.push h1 (.cells #[.slice none 0 0, .slice none 0 0] 128) → (cell h108 a37 = some (.slice x39A x39n x39c) ∧ (cell h108 a37 = some (.slice x41A x41n x41c) ∧ ((CH Tryz.prog 48 #[.slice x39A x39n x39c] h108 (fun r112 h113 => ∃ y114A : Option Addr, ∃ y114n : Nat, ∃ y114c : Nat, r112 = .slice y114A y114n y114c ∧ (cell h113 a37 = some (.slice x41A x41n x41c) ∧ ((0 : Int) ≤ ((x41n : Nat) : Int) ∧ ((x41n : Nat) : Int) ≤ ((x41n : Nat) : Int) ∧ (1 : Int) * ((x41n : Nat) : Int) ≤ 281474976710656 ∧ ∀ b117 h116, b117 = Array.size h113 → h116 = Array.push h113 (.cells (made (.bool false) ((Int.toNat ((x41n : Nat) : Int)) * 1)).toArray 4) → ((∀ j, j < 2 → Wr h116 (Addr.add (Addr.mk b109 0 none) j)) ∧ ∀ h121, h121 = setRow h116 (Addr.mk b109 0 none) [.slice y114A y114n y114c, .slice (some (Addr.mk b117 0 none)) (Int.toNat ((x41n : Nat) : Int)) (Int.toNat ((x41n : Nat) : Int))] 0 → D_disk_file_row.J1 R  f' done b2 (Addr.mk b109 0 none) h121))))) ∧ (((0 : Int) ≤ ((x41n : Nat) : Int) ∧ ((x41n : Nat) : Int) ≤ ((x41n : Nat) : Int) ∧ (1 : Int) * ((x41n : Nat) : Int) ≤ 281474976710656 ∧ ∀ b128 h127, b128 = Array.size h108 → h127 = Array.push h108 (.cells (made (.bool false) ((Int.toNat ((x41n : Nat) : Int)) * 1)).toArray 4) → (cell h127 a37 = some (.slice x39A x39n x39c) ∧ CH Tryz.prog 48 #[.slice x39A x39n x39c] h127 (fun r133 h134 => ∃ y135A : Option Addr, ∃ y135n : Nat, ∃ y135c : Nat, r133 = .slice y135A y135n y135c ∧ ((∀ j, j < 2 → Wr h134 (Addr.add (Addr.mk b109 0 none) j)) ∧ ∀ h136, h136 = setRow h134 (Addr.mk b109 0 none) [.slice y135A y135n y135c, .slice (some (Addr.mk b128 0 none)) (Int.toNat ((x41n : Nat) : Int)) (Int.toNat ((x41n : Nat) : Int))] 0 → D_disk_file_row.J1 R  f' done b2 (Addr.mk b109 0 none) h136)))))))))))))))
set_option maxRecDepth 10000 in
set_option maxHeartbeats 4000000 in
theorem D_disk_file_row.sound {R : Value → Hp → Prop} {f' : Option Addr} {done : Int} {h : Hp} (H : D_disk_file_row R  f' done h) : CH Tryz.prog 66 #[.pointer f', .int .i64 done] h R := by
  refine CHE.enter (n := 36) Tryz.func66 rfl rfl (Nat.le_of_ble_eq_true rfl) ?_
  unfold D_disk_file_row at H
  refine VC.seq ?_
  refine VC.region ?_
  obtain ⟨b2, eb144⟩ : ∃ b2, b2 = Array.size h := ⟨_, rfl⟩
  obtain ⟨h1, eh145⟩ : ∃ h1, h1 = Array.push h (.cells #[.slice none 0 0, .slice none 0 0] 128) := ⟨_, rfl⟩
  have H := H b2 h1 eb144 eh145
  refine VL.stepD rfl rfl (by decide) (OE.allocE (z := .agg #[.slice none 0 0, .slice none 0 0]) Tryz.i128 eb144 eh145 ?_)
  refine VL.nil ?_
  change VC _ _ _ _ _ _ _
  refine VC.seqJ (fun f h4 => ∃ j3 : Addr, f 0 = (.pointer f' : Value) ∧ f 1 = (.int .i64 done : Value) ∧ f 4 = (.pointer (some (Addr.mk b2 0 none)) : Value) ∧ f 5 = (.pointer (some j3) : Value) ∧ D_disk_file_row.J1 R  f' done b2 j3 h4) ?_ ?_
  · intro f h4 J
    obtain ⟨j3, hk0, hk1, hk4, hk5, H⟩ := J
    rw [← fr_self f [(0, .pointer f'), (1, .int .i64 done), (4, .pointer (some (Addr.mk b2 0 none))), (5, .pointer (some j3))] (by simp only [List.mem_cons, List.not_mem_nil, or_false]; rintro p (rfl | rfl | rfl | rfl) <;> assumption)]
    unfold D_disk_file_row.J1 at H
    refine VC.seqJ (fun f h5 => f 4 = (.pointer (some (Addr.mk b2 0 none)) : Value) ∧ f 5 = (.pointer (some j3) : Value) ∧ D_disk_file_row.J2 R  b2 j3  h5) ?_ ?_
    · intro f h5 J
      obtain ⟨hk4, hk5, H⟩ := J
      rw [← fr_self f [(4, .pointer (some (Addr.mk b2 0 none))), (5, .pointer (some j3))] (by simp only [List.mem_cons, List.not_mem_nil, or_false]; rintro p (rfl | rfl) <;> assumption)]
      unfold D_disk_file_row.J2 at H
      refine VC.seq ?_
      refine VC.region ?_
      obtain ⟨x6_0A, x6_0n, x6_0c, x6_1A, x6_1n, x6_1c, hl7, H⟩ := H
      refine VL.stepD rfl rfl (by decide) (OE.load (a := j3) (v := .agg #[.slice x6_0A x6_0n x6_0c, .slice x6_1A x6_1n x6_1c]) rfl (LdT.aggI Tryz.underlying128 rfl Tryz.i128 rfl hl7) ?_)
      obtain ⟨hw9, H⟩ := H
      obtain ⟨h8, eh11⟩ : ∃ h8, h8 = setRow h5 (Addr.mk b2 0 none) [.slice x6_0A x6_0n x6_0c, .slice x6_1A x6_1n x6_1c] 0 := ⟨_, rfl⟩
      have H := H h8 eh11
      refine VL.stepN rfl rfl (OE.storeE (a := (Addr.mk b2 0 none)) (v := .agg #[.slice x6_0A x6_0n x6_0c, .slice x6_1A x6_1n x6_1c]) rfl rfl (StT.aggI (vs := [.slice x6_0A x6_0n x6_0c, .slice x6_1A x6_1n x6_1c]) Tryz.i128 rfl hw9 (by simp [oneC])) eh11 ?_)
      refine VL.nil ?_
      change VC _ _ _ _ _ _ _
      refine VC.ret ?_
      obtain ⟨r10_0A, r10_0n, r10_0c, r10_1A, r10_1n, r10_1c, hl, H⟩ := H
      exact ⟨rfl, _, ResOK.c1 rfl (v := .agg #[.slice r10_0A r10_0n r10_0c, .slice r10_1A r10_1n r10_1c]) rfl (LdT.aggI Tryz.underlying128 rfl Tryz.i128 rfl hl), H⟩
    · skip
      refine VC.seq ?_
      refine VC.region ?_
      refine VL.stepD rfl rfl (by decide) (OE.moveV (v := .pointer f') rfl ?_)
      obtain ⟨a12, e13, H⟩ := H
      refine VL.stepD rfl rfl (by decide) (OE.nilCheck (a := a12) (congrArg Value.pointer e13) ?_)
      refine VL.stepD rfl rfl (by decide) (OE.fieldAddrI (a := a12) (o := 1) rfl Tryz.underlying111 rfl Tryz.i109 (by decide) rfl ?_)
      obtain ⟨x14A, x14n, x14c, hl15, H⟩ := H
      refine VL.stepD rfl rfl (by decide) (OE.load (a := (a12.add 1)) (v := .slice x14A x14n x14c) rfl (LdT.one Tryz.underlying109 rfl hl15) ?_)
      refine VL.stepD rfl rfl (by decide) (OE.moveV (v := .int .i64 done) rfl ?_)
      obtain ⟨z16, z17, H⟩ := H
      refine VL.stepD rfl rfl (by decide) (OE.sliceHiV (sz := 1) rfl rfl Tryz.underlying109 Tryz.i150 z16 z17 ?_)
      refine VL.stepD rfl rfl (by decide) (OE.lenSlice rfl Tryz.underlying109 ?_)
      refine VL.stepD rfl rfl (by decide) (OE.moveV (v := .int .i64 0) rfl ?_)
      refine VL.nil ?_
      change VC _ _ _ _ _ _ _
      refine VC.block ?_
      obtain ⟨Inv, ⟨m0, h0⟩, H⟩ := H
      refine VC.loop (fun ds f h19 m => ds = [] ∧ ∃ j18 : Int, f 4 = (.pointer (some (Addr.mk b2 0 none)) : Value) ∧ f 5 = (.pointer (some j3) : Value) ∧ f 25 = (.slice x14A (Int.toNat done) x14c : Value) ∧ f 26 = (.int .i64 (((Int.toNat done) : Nat) : Int) : Value) ∧ f 27 = (.int .i64 j18 : Value) ∧ Inv j18 h19 m) (m0 := m0) ⟨rfl, 0, rfl, rfl, rfl, rfl, rfl, h0⟩ ?_
      intro ds f h19 m I
      obtain ⟨rfl, j18, hk4, hk5, hk25, hk26, hk27, I⟩ := I
      rw [← fr_self f [(4, .pointer (some (Addr.mk b2 0 none))), (5, .pointer (some j3)), (25, .slice x14A (Int.toNat done) x14c), (26, .int .i64 (((Int.toNat done) : Nat) : Int)), (27, .int .i64 j18)] (by simp only [List.mem_cons, List.not_mem_nil, or_false]; rintro p (rfl | rfl | rfl | rfl | rfl) <;> assumption)]
      obtain ⟨C20, eC20⟩ : ∃ C20 : Int → Hp → Prop, C20 = (fun j18 h19 => ∃ m1, m1 < m ∧ Inv j18 h19 m1) := ⟨_, rfl⟩
      have H : D_disk_file_row.L3 R  done b2 j3 x14A C20 j18 h19 := by rw [eC20]; exact H j18 h19 m I
      unfold D_disk_file_row.L3 at H
      refine VC.seq ?_
      refine VC.region ?_
      refine VL.stepD rfl rfl (by decide) (OE.binI (v := .bool (decide (j18 < (((Int.toNat done) : Nat) : Int)))) rfl rfl rfl ?_)
      refine VL.nil ?_
      change VC _ _ _ _ _ _ _
      refine VC.seq ?_
      refine VC.cond (t := (decide (j18 < (((Int.toNat done) : Nat) : Int)))) rfl (fun e21 => ?_) (fun e21 => ?_)
      · have H := H.1 e21
        refine VC.skip ?_
        change VC _ _ _ _ _ _ _
        refine VC.seq ?_
        refine VC.block ?_
        refine VC.seq ?_
        refine VC.region ?_
        obtain ⟨a22, e23, z24, z25, H⟩ := H
        refine VL.stepD rfl rfl (by decide) (OE.indexAddrI (sz := 1) rfl rfl Tryz.underlying109 Tryz.i150 e23 z24 z25 ?_)
        obtain ⟨x26, hl27, H⟩ := H
        refine VL.stepD rfl rfl (by decide) (OE.load (a := (a22.add (Int.toNat j18 * 1))) (v := x26) rfl (LdT.one Tryz.underlying150 rfl hl27) ?_)
        refine VL.stepD rfl rfl (by decide) (OE.assignV (v := x26) rfl ?_)
        refine VL.nil ?_
        change VC _ _ _ _ _ _ _
        refine VC.region ?_
        refine VL.stepD rfl rfl (by decide) (OE.moveV (v := x26) rfl ?_)
        obtain ⟨x28_0A, x28_0n, x28_0c, x28_1A, x28_1n, x28_1c, hl29, H⟩ := H
        refine VL.stepD rfl rfl (by decide) (OE.load (a := j3) (v := .agg #[.slice x28_0A x28_0n x28_0c, .slice x28_1A x28_1n x28_1c]) rfl (LdT.aggI Tryz.underlying128 rfl Tryz.i128 rfl hl29) ?_)
        refine VL.stepD rfl rfl (by decide) (OE.callI (l := [.agg #[.slice x28_0A x28_0n x28_0c, .slice x28_1A x28_1n x28_1c]]) rfl rfl (CHI.mono H (fun r30 h31 H => ?_)))
        obtain ⟨y32_0A, y32_0n, y32_0c, y32_1A, y32_1n, y32_1c, rfl, H⟩ := H
        obtain ⟨hw34, H⟩ := H
        obtain ⟨h33, eh35⟩ : ∃ h33, h33 = setRow h31 j3 [.slice y32_0A y32_0n y32_0c, .slice y32_1A y32_1n y32_1c] 0 := ⟨_, rfl⟩
        have H := H h33 eh35
        refine VL.stepN rfl rfl (OE.storeE (a := j3) (v := .agg #[.slice y32_0A y32_0n y32_0c, .slice y32_1A y32_1n y32_1c]) rfl rfl (StT.aggI (vs := [.slice y32_0A y32_0n y32_0c, .slice y32_1A y32_1n y32_1c]) Tryz.i128 rfl hw34 (by simp [oneC])) eh35 ?_)
        refine VL.nil ?_
        change VC _ _ _ _ _ _ _
        refine VC.region ?_
        refine VL.stepD rfl rfl (by decide) (OE.binI (v := .int .i64 (IntKind.i64.wrap (j18 + 1))) rfl rfl rfl ?_)
        refine VL.stepD rfl rfl (by decide) (OE.moveV (v := .int .i64 (IntKind.i64.wrap (j18 + 1))) rfl ?_)
        refine VL.nil ?_
        rw [eC20] at H
        obtain ⟨m1, hm1, H⟩ := H
        exact ⟨m1, hm1, rfl, (IntKind.i64.wrap (j18 + 1)), rfl, rfl, rfl, rfl, rfl, H⟩
      · have H := H.2 e21
        refine VC.exit ?_
        exact ⟨rfl, rfl, rfl, H⟩
  · skip
    refine VC.drawsS Tryz.mixed (by kernel_rfl) (by kernel_rfl) (fun st hd => ?_)
    refine DW.still (i := 0) (v := .pointer f') (by kernel_rfl) ?_
    obtain ⟨a37, e38, H⟩ := H
    refine DW.still (i := 1) (v := .pointer (some a37)) (by kernel_rfl) ?_
    refine DW.still (i := 2) (v := .pointer (some a37)) (by kernel_rfl) ?_
    obtain ⟨x39A, x39n, x39c, hl40, H⟩ := H
    refine DW.still (i := 3) (v := .slice x39A x39n x39c) (by kernel_rfl) ?_
    refine DW.still (i := 5) (v := .pointer f') (by kernel_rfl) ?_
    refine DW.still (i := 6) (v := .pointer (some a37)) (by kernel_rfl) ?_
    refine DW.still (i := 7) (v := .pointer (some a37)) (by kernel_rfl) ?_
    obtain ⟨x41A, x41n, x41c, hl42, H⟩ := H
    refine DW.still (i := 8) (v := .slice x41A x41n x41c) (by kernel_rfl) ?_
    refine DW.still (i := 9) (v := .int .i64 ((x41n : Nat) : Int)) (by kernel_rfl) ?_
    refine DW.louds st hd 4 [10, 12] (by kernel_rfl) ⟨.inr (YD.u (fr (fun _ => undef) [(16, (.slice x41A x41n x41c : Value))]) st rfl rfl (by kernel_rfl) (OE.lenSlice rfl Tryz.underlying22 ⟨rfl, rfl⟩)), .inr (YD.u (fr (fun _ => undef) [(15, (.pointer (some a37) : Value))]) st rfl rfl (by kernel_rfl) (OE.load (a := a37) (v := .slice x41A x41n x41c) rfl (LdT.one Tryz.underlying22 rfl hl42) ⟨rfl, rfl⟩)), .inr (YD.u (fr (fun _ => undef) [(14, (.pointer (some a37) : Value))]) st rfl rfl (by kernel_rfl) (OE.fieldAddrI (a := a37) (o := 0) rfl Tryz.underlying111 rfl Tryz.i22 (by decide) rfl ⟨rfl, rfl⟩)), .inr (YD.u (fr (fun _ => undef) [(13, (.pointer f' : Value))]) st rfl rfl (by kernel_rfl) (OE.nilCheck (a := a37) (congrArg Value.pointer e38) ⟨rfl, rfl⟩)), .inr (YD.u (fr (fun _ => undef) [(0, (.pointer f' : Value))]) st rfl rfl (by kernel_rfl) (OE.moveV (v := .pointer f') rfl ⟨rfl, rfl⟩)), .inr (YD.u (fr (fun _ => undef) [(10, (.pointer (some a37) : Value))]) st rfl rfl (by kernel_rfl) (OE.load (a := a37) (v := .slice x39A x39n x39c) rfl (LdT.one Tryz.underlying22 rfl hl40) ⟨rfl, rfl⟩)), .inr (YD.u (fr (fun _ => undef) [(9, (.pointer (some a37) : Value))]) st rfl rfl (by kernel_rfl) (OE.fieldAddrI (a := a37) (o := 0) rfl Tryz.underlying111 rfl Tryz.i22 (by decide) rfl ⟨rfl, rfl⟩)), .inr (YD.u (fr (fun _ => undef) [(8, (.pointer f' : Value))]) st rfl rfl (by kernel_rfl) (OE.nilCheck (a := a37) (congrArg Value.pointer e38) ⟨rfl, rfl⟩)), .inr (YD.u (fr (fun _ => undef) [(0, (.pointer f' : Value))]) st rfl rfl (by kernel_rfl) (OE.moveV (v := .pointer f') rfl ⟨rfl, rfl⟩)), trivial⟩ ⟨?_, ?_, ?_, trivial⟩
    · have H := H.1
      refine LD1.of (i := 4) (fr (fun _ => undef) [(11, (.slice x39A x39n x39c : Value))]) st rfl (by kernel_rfl) (.inl rfl) (OE.callL (args := [.slice x39A x39n x39c]) Tryz.func48 rfl Tryz.nn48 rfl rfl (CHE.mono H (fun r43 h44 H => ?_) (fun _ _ e => e.elim)))
      obtain ⟨y45A, y45n, y45c, rfl, H⟩ := H
      obtain ⟨hs46, H⟩ := H
      refine DW.louds st hd 10 [12] (by kernel_rfl) ⟨.inl (by kernel_rfl), .inr (YD.u (fr (fun _ => undef) [(16, (.slice x41A x41n x41c : Value))]) st rfl rfl (by kernel_rfl) (OE.lenSlice rfl Tryz.underlying22 ⟨rfl, rfl⟩)), .inr (YD.u (fr (fun _ => undef) [(15, (.pointer (some a37) : Value))]) st rfl rfl (by kernel_rfl) (OE.load (a := a37) (v := .slice x41A x41n x41c) rfl (LdT.one Tryz.underlying22 rfl hs46) ⟨rfl, rfl⟩)), .inr (YD.u (fr (fun _ => undef) [(14, (.pointer (some a37) : Value))]) st rfl rfl (by kernel_rfl) (OE.fieldAddrI (a := a37) (o := 0) rfl Tryz.underlying111 rfl Tryz.i22 (by decide) rfl ⟨rfl, rfl⟩)), .inr (YD.u (fr (fun _ => undef) [(13, (.pointer f' : Value))]) st rfl rfl (by kernel_rfl) (OE.nilCheck (a := a37) (congrArg Value.pointer e38) ⟨rfl, rfl⟩)), .inr (YD.u (fr (fun _ => undef) [(0, (.pointer f' : Value))]) st rfl rfl (by kernel_rfl) (OE.moveV (v := .pointer f') rfl ⟨rfl, rfl⟩)), .inl (by kernel_rfl), .inl (by kernel_rfl), .inl (by kernel_rfl), .inl (by kernel_rfl), trivial⟩ ⟨?_, ?_, trivial⟩
      · have H := H.1
        obtain ⟨z49, z50, z51, H⟩ := H
        obtain ⟨b48, eb59⟩ : ∃ b48, b48 = Array.size h44 := ⟨_, rfl⟩
        obtain ⟨h47, eh60⟩ : ∃ h47, h47 = Array.push h44 (.cells (made (.bool false) ((Int.toNat ((x41n : Nat) : Int)) * 1)).toArray 4) := ⟨_, rfl⟩
        have H := H b48 h47 eb59 eh60
        refine LD1.of (i := 10) (fr (fun _ => undef) [(17, (.int .i64 ((x41n : Nat) : Int) : Value))]) st rfl (by kernel_rfl) (.inl rfl) (OE.makeSliceE (z := .bool false) (sz := 1) (bs := 1) rfl rfl Tryz.underlying126 Tryz.i4 z49 z50 z51 (by decide) eb59 eh60 ?_)
        refine DW.still (i := 11) (v := .agg #[.slice y45A y45n y45c, .slice (some (Addr.mk b48 0 none)) (Int.toNat ((x41n : Nat) : Int)) (Int.toNat ((x41n : Nat) : Int))]) (by kernel_rfl) ?_
        obtain ⟨b53, eb57⟩ : ∃ b53, b53 = Array.size h47 := ⟨_, rfl⟩
        obtain ⟨h52, eh58⟩ : ∃ h52, h52 = Array.push h47 (.cells #[.slice none 0 0, .slice none 0 0] 128) := ⟨_, rfl⟩
        have H := H b53 h52 eb57 eh58
        refine DW.loudF (fr (fun _ => undef) []) st hd (i := 12) rfl (by kernel_rfl) (.inl rfl) (by kernel_rfl) ⟨.inr (YD.u (fr (fun _ => undef) [(12, (.slice y45A y45n y45c : Value)), (18, (.slice (some (Addr.mk b48 0 none)) (Int.toNat ((x41n : Nat) : Int)) (Int.toNat ((x41n : Nat) : Int)) : Value))]) st rfl rfl (by kernel_rfl) (OE.buildV (ps := [(0, (.slice y45A y45n y45c : Value)), (1, (.slice (some (Addr.mk b48 0 none)) (Int.toNat ((x41n : Nat) : Int)) (Int.toNat ((x41n : Nat) : Int)) : Value))]) rfl (Tryz.bf20 _ _ _ _ _ _) ⟨rfl, rfl⟩)), .inl (by kernel_rfl), .inl (by kernel_rfl), .inl (by kernel_rfl), .inl (by kernel_rfl), .inl (by kernel_rfl), .inl (by kernel_rfl), .inl (by kernel_rfl), .inl (by kernel_rfl), .inl (by kernel_rfl), .inl (by kernel_rfl), .inl (by kernel_rfl), trivial⟩ (OE.allocE (z := .agg #[.slice none 0 0, .slice none 0 0]) Tryz.i128 eb57 eh58 ?_)
        obtain ⟨hw55, H⟩ := H
        obtain ⟨h54, eh56⟩ : ∃ h54, h54 = setRow h52 (Addr.mk b53 0 none) [.slice y45A y45n y45c, .slice (some (Addr.mk b48 0 none)) (Int.toNat ((x41n : Nat) : Int)) (Int.toNat ((x41n : Nat) : Int))] 0 := ⟨_, rfl⟩
        have H := H h54 eh56
        refine DW.loudF (fr (fun _ => undef) [(5, (.pointer (some (Addr.mk b53 0 none)) : Value)), (19, (.agg #[.slice y45A y45n y45c, .slice (some (Addr.mk b48 0 none)) (Int.toNat ((x41n : Nat) : Int)) (Int.toNat ((x41n : Nat) : Int))] : Value))]) st hd (i := 13) rfl (by kernel_rfl) (.inl rfl) (by kernel_rfl) ⟨.inl (by kernel_rfl), .inr (YD.u (fr (fun _ => undef) [(12, (.slice y45A y45n y45c : Value)), (18, (.slice (some (Addr.mk b48 0 none)) (Int.toNat ((x41n : Nat) : Int)) (Int.toNat ((x41n : Nat) : Int)) : Value))]) st rfl rfl (by kernel_rfl) (OE.buildV (ps := [(0, (.slice y45A y45n y45c : Value)), (1, (.slice (some (Addr.mk b48 0 none)) (Int.toNat ((x41n : Nat) : Int)) (Int.toNat ((x41n : Nat) : Int)) : Value))]) rfl (Tryz.bf20 _ _ _ _ _ _) ⟨rfl, rfl⟩)), .inl (by kernel_rfl), .inl (by kernel_rfl), .inl (by kernel_rfl), .inl (by kernel_rfl), .inl (by kernel_rfl), .inl (by kernel_rfl), .inl (by kernel_rfl), .inl (by kernel_rfl), .inl (by kernel_rfl), .inl (by kernel_rfl), .inl (by kernel_rfl), trivial⟩ (OE.storeE (a := (Addr.mk b53 0 none)) (v := .agg #[.slice y45A y45n y45c, .slice (some (Addr.mk b48 0 none)) (Int.toNat ((x41n : Nat) : Int)) (Int.toNat ((x41n : Nat) : Int))]) rfl rfl (StT.aggI (vs := [.slice y45A y45n y45c, .slice (some (Addr.mk b48 0 none)) (Int.toNat ((x41n : Nat) : Int)) (Int.toNat ((x41n : Nat) : Int))]) Tryz.i128 rfl hw55 (by simp [oneC])) eh56 ?_)
        refine DW.finL st hd [(8, (.pointer f' : Value)), (9, (.pointer (some a37) : Value)), (10, (.pointer (some a37) : Value)), (11, (.slice x39A x39n x39c : Value)), (13, (.pointer f' : Value)), (14, (.pointer (some a37) : Value)), (15, (.pointer (some a37) : Value)), (16, (.slice x41A x41n x41c : Value)), (17, (.int .i64 ((x41n : Nat) : Int) : Value)), (12, (.slice y45A y45n y45c : Value)), (18, (.slice (some (Addr.mk b48 0 none)) (Int.toNat ((x41n : Nat) : Int)) (Int.toNat ((x41n : Nat) : Int)) : Value)), (19, (.agg #[.slice y45A y45n y45c, .slice (some (Addr.mk b48 0 none)) (Int.toNat ((x41n : Nat) : Int)) (Int.toNat ((x41n : Nat) : Int))] : Value)), (5, (.pointer (some (Addr.mk b53 0 none)) : Value))] (by kernel_rfl) (by kernel_rfl) ⟨.inl (by kernel_rfl), .inl (by kernel_rfl), .inl (by kernel_rfl), .inl (by kernel_rfl), .inl (by kernel_rfl), .inl (by kernel_rfl), .inl (by kernel_rfl), .inl (by kernel_rfl), .inl (by kernel_rfl), .inl (by kernel_rfl), .inl (by kernel_rfl), .inl (by kernel_rfl), .inl (by kernel_rfl), .inl (by kernel_rfl), trivial⟩ ?_
        exact ⟨rfl, (Addr.mk b53 0 none), rfl, rfl, rfl, rfl, H⟩
      · have H := H.2
        obtain ⟨b62, eb74⟩ : ∃ b62, b62 = Array.size h44 := ⟨_, rfl⟩
        obtain ⟨h61, eh75⟩ : ∃ h61, h61 = Array.push h44 (.cells #[.slice none 0 0, .slice none 0 0] 128) := ⟨_, rfl⟩
        have H := H b62 h61 eb74 eh75
        refine LD1.of (i := 12) (fr (fun _ => undef) []) st rfl (by kernel_rfl) (.inl rfl) (OE.allocE (z := .agg #[.slice none 0 0, .slice none 0 0]) Tryz.i128 eb74 eh75 ?_)
        obtain ⟨hs63, H⟩ := H
        obtain ⟨z66, z67, z68, H⟩ := H
        obtain ⟨b65, eb72⟩ : ∃ b65, b65 = Array.size h61 := ⟨_, rfl⟩
        obtain ⟨h64, eh73⟩ : ∃ h64, h64 = Array.push h61 (.cells (made (.bool false) ((Int.toNat ((x41n : Nat) : Int)) * 1)).toArray 4) := ⟨_, rfl⟩
        have H := H b65 h64 eb72 eh73
        refine DW.loudF (fr (fun _ => undef) [(17, (.int .i64 ((x41n : Nat) : Int) : Value))]) st hd (i := 10) rfl (by kernel_rfl) (.inl rfl) (by kernel_rfl) ⟨.inl (by kernel_rfl), .inl (by kernel_rfl), .inr (YD.u (fr (fun _ => undef) [(16, (.slice x41A x41n x41c : Value))]) st rfl rfl (by kernel_rfl) (OE.lenSlice rfl Tryz.underlying22 ⟨rfl, rfl⟩)), .inr (YD.u (fr (fun _ => undef) [(15, (.pointer (some a37) : Value))]) st rfl rfl (by kernel_rfl) (OE.load (a := a37) (v := .slice x41A x41n x41c) rfl (LdT.one Tryz.underlying22 rfl hs63) ⟨rfl, rfl⟩)), .inr (YD.u (fr (fun _ => undef) [(14, (.pointer (some a37) : Value))]) st rfl rfl (by kernel_rfl) (OE.fieldAddrI (a := a37) (o := 0) rfl Tryz.underlying111 rfl Tryz.i22 (by decide) rfl ⟨rfl, rfl⟩)), .inr (YD.u (fr (fun _ => undef) [(13, (.pointer f' : Value))]) st rfl rfl (by kernel_rfl) (OE.nilCheck (a := a37) (congrArg Value.pointer e38) ⟨rfl, rfl⟩)), .inr (YD.u (fr (fun _ => undef) [(0, (.pointer f' : Value))]) st rfl rfl (by kernel_rfl) (OE.moveV (v := .pointer f') rfl ⟨rfl, rfl⟩)), .inl (by kernel_rfl), .inl (by kernel_rfl), .inl (by kernel_rfl), .inl (by kernel_rfl), trivial⟩ (OE.makeSliceE (z := .bool false) (sz := 1) (bs := 1) rfl rfl Tryz.underlying126 Tryz.i4 z66 z67 z68 (by decide) eb72 eh73 ?_)
        refine DW.still (i := 11) (v := .agg #[.slice y45A y45n y45c, .slice (some (Addr.mk b65 0 none)) (Int.toNat ((x41n : Nat) : Int)) (Int.toNat ((x41n : Nat) : Int))]) (by kernel_rfl) ?_
        obtain ⟨hw70, H⟩ := H
        obtain ⟨h69, eh71⟩ : ∃ h69, h69 = setRow h64 (Addr.mk b62 0 none) [.slice y45A y45n y45c, .slice (some (Addr.mk b65 0 none)) (Int.toNat ((x41n : Nat) : Int)) (Int.toNat ((x41n : Nat) : Int))] 0 := ⟨_, rfl⟩
        have H := H h69 eh71
        refine DW.loudF (fr (fun _ => undef) [(5, (.pointer (some (Addr.mk b62 0 none)) : Value)), (19, (.agg #[.slice y45A y45n y45c, .slice (some (Addr.mk b65 0 none)) (Int.toNat ((x41n : Nat) : Int)) (Int.toNat ((x41n : Nat) : Int))] : Value))]) st hd (i := 13) rfl (by kernel_rfl) (.inl rfl) (by kernel_rfl) ⟨.inr (YD.u (fr (fun _ => undef) [(12, (.slice y45A y45n y45c : Value)), (18, (.slice (some (Addr.mk b65 0 none)) (Int.toNat ((x41n : Nat) : Int)) (Int.toNat ((x41n : Nat) : Int)) : Value))]) st rfl rfl (by kernel_rfl) (OE.buildV (ps := [(0, (.slice y45A y45n y45c : Value)), (1, (.slice (some (Addr.mk b65 0 none)) (Int.toNat ((x41n : Nat) : Int)) (Int.toNat ((x41n : Nat) : Int)) : Value))]) rfl (Tryz.bf20 _ _ _ _ _ _) ⟨rfl, rfl⟩)), .inl (by kernel_rfl), .inl (by kernel_rfl), .inl (by kernel_rfl), .inl (by kernel_rfl), .inl (by kernel_rfl), .inl (by kernel_rfl), .inl (by kernel_rfl), .inl (by kernel_rfl), .inl (by kernel_rfl), .inl (by kernel_rfl), .inl (by kernel_rfl), .inl (by kernel_rfl), trivial⟩ (OE.storeE (a := (Addr.mk b62 0 none)) (v := .agg #[.slice y45A y45n y45c, .slice (some (Addr.mk b65 0 none)) (Int.toNat ((x41n : Nat) : Int)) (Int.toNat ((x41n : Nat) : Int))]) rfl rfl (StT.aggI (vs := [.slice y45A y45n y45c, .slice (some (Addr.mk b65 0 none)) (Int.toNat ((x41n : Nat) : Int)) (Int.toNat ((x41n : Nat) : Int))]) Tryz.i128 rfl hw70 (by simp [oneC])) eh71 ?_)
        refine DW.finL st hd [(8, (.pointer f' : Value)), (9, (.pointer (some a37) : Value)), (10, (.pointer (some a37) : Value)), (11, (.slice x39A x39n x39c : Value)), (13, (.pointer f' : Value)), (14, (.pointer (some a37) : Value)), (15, (.pointer (some a37) : Value)), (16, (.slice x41A x41n x41c : Value)), (17, (.int .i64 ((x41n : Nat) : Int) : Value)), (12, (.slice y45A y45n y45c : Value)), (5, (.pointer (some (Addr.mk b62 0 none)) : Value)), (18, (.slice (some (Addr.mk b65 0 none)) (Int.toNat ((x41n : Nat) : Int)) (Int.toNat ((x41n : Nat) : Int)) : Value)), (19, (.agg #[.slice y45A y45n y45c, .slice (some (Addr.mk b65 0 none)) (Int.toNat ((x41n : Nat) : Int)) (Int.toNat ((x41n : Nat) : Int))] : Value))] (by kernel_rfl) (by kernel_rfl) ⟨.inl (by kernel_rfl), .inl (by kernel_rfl), .inl (by kernel_rfl), .inl (by kernel_rfl), .inl (by kernel_rfl), .inl (by kernel_rfl), .inl (by kernel_rfl), .inl (by kernel_rfl), .inl (by kernel_rfl), .inl (by kernel_rfl), .inl (by kernel_rfl), .inl (by kernel_rfl), .inl (by kernel_rfl), .inl (by kernel_rfl), trivial⟩ ?_
        exact ⟨rfl, (Addr.mk b62 0 none), rfl, rfl, rfl, rfl, H⟩
    · have H := H.2.1
      obtain ⟨z79, z80, z81, H⟩ := H
      obtain ⟨b78, eb106⟩ : ∃ b78, b78 = Array.size h1 := ⟨_, rfl⟩
      obtain ⟨h77, eh107⟩ : ∃ h77, h77 = Array.push h1 (.cells (made (.bool false) ((Int.toNat ((x41n : Nat) : Int)) * 1)).toArray 4) := ⟨_, rfl⟩
      have H := H b78 h77 eb106 eh107
      refine LD1.of (i := 10) (fr (fun _ => undef) [(17, (.int .i64 ((x41n : Nat) : Int) : Value))]) st rfl (by kernel_rfl) (.inl rfl) (OE.makeSliceE (z := .bool false) (sz := 1) (bs := 1) rfl rfl Tryz.underlying126 Tryz.i4 z79 z80 z81 (by decide) eb106 eh107 ?_)
      obtain ⟨hs82, H⟩ := H
      refine DW.louds st hd 4 [12] (by kernel_rfl) ⟨.inl (by kernel_rfl), .inl (by kernel_rfl), .inl (by kernel_rfl), .inl (by kernel_rfl), .inl (by kernel_rfl), .inl (by kernel_rfl), .inr (YD.u (fr (fun _ => undef) [(10, (.pointer (some a37) : Value))]) st rfl rfl (by kernel_rfl) (OE.load (a := a37) (v := .slice x39A x39n x39c) rfl (LdT.one Tryz.underlying22 rfl hs82) ⟨rfl, rfl⟩)), .inr (YD.u (fr (fun _ => undef) [(9, (.pointer (some a37) : Value))]) st rfl rfl (by kernel_rfl) (OE.fieldAddrI (a := a37) (o := 0) rfl Tryz.underlying111 rfl Tryz.i22 (by decide) rfl ⟨rfl, rfl⟩)), .inr (YD.u (fr (fun _ => undef) [(8, (.pointer f' : Value))]) st rfl rfl (by kernel_rfl) (OE.nilCheck (a := a37) (congrArg Value.pointer e38) ⟨rfl, rfl⟩)), .inr (YD.u (fr (fun _ => undef) [(0, (.pointer f' : Value))]) st rfl rfl (by kernel_rfl) (OE.moveV (v := .pointer f') rfl ⟨rfl, rfl⟩)), trivial⟩ ⟨?_, ?_, trivial⟩
      · have H := H.1
        refine LD1.of (i := 4) (fr (fun _ => undef) [(11, (.slice x39A x39n x39c : Value))]) st rfl (by kernel_rfl) (.inl rfl) (OE.callL (args := [.slice x39A x39n x39c]) Tryz.func48 rfl Tryz.nn48 rfl rfl (CHE.mono H (fun r83 h84 H => ?_) (fun _ _ e => e.elim)))
        obtain ⟨y85A, y85n, y85c, rfl, H⟩ := H
        refine DW.still (i := 11) (v := .agg #[.slice y85A y85n y85c, .slice (some (Addr.mk b78 0 none)) (Int.toNat ((x41n : Nat) : Int)) (Int.toNat ((x41n : Nat) : Int))]) (by kernel_rfl) ?_
        obtain ⟨b87, eb91⟩ : ∃ b87, b87 = Array.size h84 := ⟨_, rfl⟩
        obtain ⟨h86, eh92⟩ : ∃ h86, h86 = Array.push h84 (.cells #[.slice none 0 0, .slice none 0 0] 128) := ⟨_, rfl⟩
        have H := H b87 h86 eb91 eh92
        refine DW.loudF (fr (fun _ => undef) []) st hd (i := 12) rfl (by kernel_rfl) (.inl rfl) (by kernel_rfl) ⟨.inr (YD.u (fr (fun _ => undef) [(12, (.slice y85A y85n y85c : Value)), (18, (.slice (some (Addr.mk b78 0 none)) (Int.toNat ((x41n : Nat) : Int)) (Int.toNat ((x41n : Nat) : Int)) : Value))]) st rfl rfl (by kernel_rfl) (OE.buildV (ps := [(0, (.slice y85A y85n y85c : Value)), (1, (.slice (some (Addr.mk b78 0 none)) (Int.toNat ((x41n : Nat) : Int)) (Int.toNat ((x41n : Nat) : Int)) : Value))]) rfl (Tryz.bf20 _ _ _ _ _ _) ⟨rfl, rfl⟩)), .inl (by kernel_rfl), .inl (by kernel_rfl), .inl (by kernel_rfl), .inl (by kernel_rfl), .inl (by kernel_rfl), .inl (by kernel_rfl), .inl (by kernel_rfl), .inl (by kernel_rfl), .inl (by kernel_rfl), .inl (by kernel_rfl), .inl (by kernel_rfl), trivial⟩ (OE.allocE (z := .agg #[.slice none 0 0, .slice none 0 0]) Tryz.i128 eb91 eh92 ?_)
        obtain ⟨hw89, H⟩ := H
        obtain ⟨h88, eh90⟩ : ∃ h88, h88 = setRow h86 (Addr.mk b87 0 none) [.slice y85A y85n y85c, .slice (some (Addr.mk b78 0 none)) (Int.toNat ((x41n : Nat) : Int)) (Int.toNat ((x41n : Nat) : Int))] 0 := ⟨_, rfl⟩
        have H := H h88 eh90
        refine DW.loudF (fr (fun _ => undef) [(5, (.pointer (some (Addr.mk b87 0 none)) : Value)), (19, (.agg #[.slice y85A y85n y85c, .slice (some (Addr.mk b78 0 none)) (Int.toNat ((x41n : Nat) : Int)) (Int.toNat ((x41n : Nat) : Int))] : Value))]) st hd (i := 13) rfl (by kernel_rfl) (.inl rfl) (by kernel_rfl) ⟨.inl (by kernel_rfl), .inr (YD.u (fr (fun _ => undef) [(12, (.slice y85A y85n y85c : Value)), (18, (.slice (some (Addr.mk b78 0 none)) (Int.toNat ((x41n : Nat) : Int)) (Int.toNat ((x41n : Nat) : Int)) : Value))]) st rfl rfl (by kernel_rfl) (OE.buildV (ps := [(0, (.slice y85A y85n y85c : Value)), (1, (.slice (some (Addr.mk b78 0 none)) (Int.toNat ((x41n : Nat) : Int)) (Int.toNat ((x41n : Nat) : Int)) : Value))]) rfl (Tryz.bf20 _ _ _ _ _ _) ⟨rfl, rfl⟩)), .inl (by kernel_rfl), .inl (by kernel_rfl), .inl (by kernel_rfl), .inl (by kernel_rfl), .inl (by kernel_rfl), .inl (by kernel_rfl), .inl (by kernel_rfl), .inl (by kernel_rfl), .inl (by kernel_rfl), .inl (by kernel_rfl), .inl (by kernel_rfl), trivial⟩ (OE.storeE (a := (Addr.mk b87 0 none)) (v := .agg #[.slice y85A y85n y85c, .slice (some (Addr.mk b78 0 none)) (Int.toNat ((x41n : Nat) : Int)) (Int.toNat ((x41n : Nat) : Int))]) rfl rfl (StT.aggI (vs := [.slice y85A y85n y85c, .slice (some (Addr.mk b78 0 none)) (Int.toNat ((x41n : Nat) : Int)) (Int.toNat ((x41n : Nat) : Int))]) Tryz.i128 rfl hw89 (by simp [oneC])) eh90 ?_)
        refine DW.finL st hd [(8, (.pointer f' : Value)), (9, (.pointer (some a37) : Value)), (10, (.pointer (some a37) : Value)), (11, (.slice x39A x39n x39c : Value)), (13, (.pointer f' : Value)), (14, (.pointer (some a37) : Value)), (15, (.pointer (some a37) : Value)), (16, (.slice x41A x41n x41c : Value)), (17, (.int .i64 ((x41n : Nat) : Int) : Value)), (18, (.slice (some (Addr.mk b78 0 none)) (Int.toNat ((x41n : Nat) : Int)) (Int.toNat ((x41n : Nat) : Int)) : Value)), (12, (.slice y85A y85n y85c : Value)), (19, (.agg #[.slice y85A y85n y85c, .slice (some (Addr.mk b78 0 none)) (Int.toNat ((x41n : Nat) : Int)) (Int.toNat ((x41n : Nat) : Int))] : Value)), (5, (.pointer (some (Addr.mk b87 0 none)) : Value))] (by kernel_rfl) (by kernel_rfl) ⟨.inl (by kernel_rfl), .inl (by kernel_rfl), .inl (by kernel_rfl), .inl (by kernel_rfl), .inl (by kernel_rfl), .inl (by kernel_rfl), .inl (by kernel_rfl), .inl (by kernel_rfl), .inl (by kernel_rfl), .inl (by kernel_rfl), .inl (by kernel_rfl), .inl (by kernel_rfl), .inl (by kernel_rfl), .inl (by kernel_rfl), trivial⟩ ?_
        exact ⟨rfl, (Addr.mk b87 0 none), rfl, rfl, rfl, rfl, H⟩
      · have H := H.2
        obtain ⟨b95, eb104⟩ : ∃ b95, b95 = Array.size h77 := ⟨_, rfl⟩
        obtain ⟨h94, eh105⟩ : ∃ h94, h94 = Array.push h77 (.cells #[.slice none 0 0, .slice none 0 0] 128) := ⟨_, rfl⟩
        have H := H b95 h94 eb104 eh105
        refine LD1.of (i := 12) (fr (fun _ => undef) []) st rfl (by kernel_rfl) (.inl rfl) (OE.allocE (z := .agg #[.slice none 0 0, .slice none 0 0]) Tryz.i128 eb104 eh105 ?_)
        obtain ⟨hs96, H⟩ := H
        refine DW.loudF (fr (fun _ => undef) [(11, (.slice x39A x39n x39c : Value))]) st hd (i := 4) rfl (by kernel_rfl) (.inl rfl) (by kernel_rfl) ⟨.inl (by kernel_rfl), .inl (by kernel_rfl), .inl (by kernel_rfl), .inl (by kernel_rfl), .inl (by kernel_rfl), .inl (by kernel_rfl), .inl (by kernel_rfl), .inr (YD.u (fr (fun _ => undef) [(10, (.pointer (some a37) : Value))]) st rfl rfl (by kernel_rfl) (OE.load (a := a37) (v := .slice x39A x39n x39c) rfl (LdT.one Tryz.underlying22 rfl hs96) ⟨rfl, rfl⟩)), .inr (YD.u (fr (fun _ => undef) [(9, (.pointer (some a37) : Value))]) st rfl rfl (by kernel_rfl) (OE.fieldAddrI (a := a37) (o := 0) rfl Tryz.underlying111 rfl Tryz.i22 (by decide) rfl ⟨rfl, rfl⟩)), .inr (YD.u (fr (fun _ => undef) [(8, (.pointer f' : Value))]) st rfl rfl (by kernel_rfl) (OE.nilCheck (a := a37) (congrArg Value.pointer e38) ⟨rfl, rfl⟩)), .inr (YD.u (fr (fun _ => undef) [(0, (.pointer f' : Value))]) st rfl rfl (by kernel_rfl) (OE.moveV (v := .pointer f') rfl ⟨rfl, rfl⟩)), trivial⟩ (OE.callL (args := [.slice x39A x39n x39c]) Tryz.func48 rfl Tryz.nn48 rfl rfl (CHE.mono H (fun r97 h98 H => ?_) (fun _ _ e => e.elim)))
        obtain ⟨y99A, y99n, y99c, rfl, H⟩ := H
        refine DW.still (i := 11) (v := .agg #[.slice y99A y99n y99c, .slice (some (Addr.mk b78 0 none)) (Int.toNat ((x41n : Nat) : Int)) (Int.toNat ((x41n : Nat) : Int))]) (by kernel_rfl) ?_
        obtain ⟨hw101, H⟩ := H
        obtain ⟨h100, eh102⟩ : ∃ h100, h100 = setRow h98 (Addr.mk b95 0 none) [.slice y99A y99n y99c, .slice (some (Addr.mk b78 0 none)) (Int.toNat ((x41n : Nat) : Int)) (Int.toNat ((x41n : Nat) : Int))] 0 := ⟨_, rfl⟩
        have H := H h100 eh102
        refine DW.loudF (fr (fun _ => undef) [(5, (.pointer (some (Addr.mk b95 0 none)) : Value)), (19, (.agg #[.slice y99A y99n y99c, .slice (some (Addr.mk b78 0 none)) (Int.toNat ((x41n : Nat) : Int)) (Int.toNat ((x41n : Nat) : Int))] : Value))]) st hd (i := 13) rfl (by kernel_rfl) (.inl rfl) (by kernel_rfl) ⟨.inr (YD.u (fr (fun _ => undef) [(12, (.slice y99A y99n y99c : Value)), (18, (.slice (some (Addr.mk b78 0 none)) (Int.toNat ((x41n : Nat) : Int)) (Int.toNat ((x41n : Nat) : Int)) : Value))]) st rfl rfl (by kernel_rfl) (OE.buildV (ps := [(0, (.slice y99A y99n y99c : Value)), (1, (.slice (some (Addr.mk b78 0 none)) (Int.toNat ((x41n : Nat) : Int)) (Int.toNat ((x41n : Nat) : Int)) : Value))]) rfl (Tryz.bf20 _ _ _ _ _ _) ⟨rfl, rfl⟩)), .inl (by kernel_rfl), .inl (by kernel_rfl), .inl (by kernel_rfl), .inl (by kernel_rfl), .inl (by kernel_rfl), .inl (by kernel_rfl), .inl (by kernel_rfl), .inl (by kernel_rfl), .inl (by kernel_rfl), .inl (by kernel_rfl), .inl (by kernel_rfl), .inl (by kernel_rfl), trivial⟩ (OE.storeE (a := (Addr.mk b95 0 none)) (v := .agg #[.slice y99A y99n y99c, .slice (some (Addr.mk b78 0 none)) (Int.toNat ((x41n : Nat) : Int)) (Int.toNat ((x41n : Nat) : Int))]) rfl rfl (StT.aggI (vs := [.slice y99A y99n y99c, .slice (some (Addr.mk b78 0 none)) (Int.toNat ((x41n : Nat) : Int)) (Int.toNat ((x41n : Nat) : Int))]) Tryz.i128 rfl hw101 (by simp [oneC])) eh102 ?_)
        refine DW.finL st hd [(8, (.pointer f' : Value)), (9, (.pointer (some a37) : Value)), (10, (.pointer (some a37) : Value)), (11, (.slice x39A x39n x39c : Value)), (13, (.pointer f' : Value)), (14, (.pointer (some a37) : Value)), (15, (.pointer (some a37) : Value)), (16, (.slice x41A x41n x41c : Value)), (17, (.int .i64 ((x41n : Nat) : Int) : Value)), (18, (.slice (some (Addr.mk b78 0 none)) (Int.toNat ((x41n : Nat) : Int)) (Int.toNat ((x41n : Nat) : Int)) : Value)), (5, (.pointer (some (Addr.mk b95 0 none)) : Value)), (12, (.slice y99A y99n y99c : Value)), (19, (.agg #[.slice y99A y99n y99c, .slice (some (Addr.mk b78 0 none)) (Int.toNat ((x41n : Nat) : Int)) (Int.toNat ((x41n : Nat) : Int))] : Value))] (by kernel_rfl) (by kernel_rfl) ⟨.inl (by kernel_rfl), .inl (by kernel_rfl), .inl (by kernel_rfl), .inl (by kernel_rfl), .inl (by kernel_rfl), .inl (by kernel_rfl), .inl (by kernel_rfl), .inl (by kernel_rfl), .inl (by kernel_rfl), .inl (by kernel_rfl), .inl (by kernel_rfl), .inl (by kernel_rfl), .inl (by kernel_rfl), .inl (by kernel_rfl), trivial⟩ ?_
        exact ⟨rfl, (Addr.mk b95 0 none), rfl, rfl, rfl, rfl, H⟩
    · have H := H.2.2
      obtain ⟨b109, eb142⟩ : ∃ b109, b109 = Array.size h1 := ⟨_, rfl⟩
      obtain ⟨h108, eh143⟩ : ∃ h108, h108 = Array.push h1 (.cells #[.slice none 0 0, .slice none 0 0] 128) := ⟨_, rfl⟩
      have H := H b109 h108 eb142 eh143
      refine LD1.of (i := 12) (fr (fun _ => undef) []) st rfl (by kernel_rfl) (.inl rfl) (OE.allocE (z := .agg #[.slice none 0 0, .slice none 0 0]) Tryz.i128 eb142 eh143 ?_)
      obtain ⟨hs110, hs111, H⟩ := H
      refine DW.louds st hd 4 [10] (by kernel_rfl) ⟨.inl (by kernel_rfl), .inr (YD.u (fr (fun _ => undef) [(16, (.slice x41A x41n x41c : Value))]) st rfl rfl (by kernel_rfl) (OE.lenSlice rfl Tryz.underlying22 ⟨rfl, rfl⟩)), .inr (YD.u (fr (fun _ => undef) [(15, (.pointer (some a37) : Value))]) st rfl rfl (by kernel_rfl) (OE.load (a := a37) (v := .slice x41A x41n x41c) rfl (LdT.one Tryz.underlying22 rfl hs111) ⟨rfl, rfl⟩)), .inr (YD.u (fr (fun _ => undef) [(14, (.pointer (some a37) : Value))]) st rfl rfl (by kernel_rfl) (OE.fieldAddrI (a := a37) (o := 0) rfl Tryz.underlying111 rfl Tryz.i22 (by decide) rfl ⟨rfl, rfl⟩)), .inr (YD.u (fr (fun _ => undef) [(13, (.pointer f' : Value))]) st rfl rfl (by kernel_rfl) (OE.nilCheck (a := a37) (congrArg Value.pointer e38) ⟨rfl, rfl⟩)), .inr (YD.u (fr (fun _ => undef) [(0, (.pointer f' : Value))]) st rfl rfl (by kernel_rfl) (OE.moveV (v := .pointer f') rfl ⟨rfl, rfl⟩)), .inr (YD.u (fr (fun _ => undef) [(10, (.pointer (some a37) : Value))]) st rfl rfl (by kernel_rfl) (OE.load (a := a37) (v := .slice x39A x39n x39c) rfl (LdT.one Tryz.underlying22 rfl hs110) ⟨rfl, rfl⟩)), .inr (YD.u (fr (fun _ => undef) [(9, (.pointer (some a37) : Value))]) st rfl rfl (by kernel_rfl) (OE.fieldAddrI (a := a37) (o := 0) rfl Tryz.underlying111 rfl Tryz.i22 (by decide) rfl ⟨rfl, rfl⟩)), .inr (YD.u (fr (fun _ => undef) [(8, (.pointer f' : Value))]) st rfl rfl (by kernel_rfl) (OE.nilCheck (a := a37) (congrArg Value.pointer e38) ⟨rfl, rfl⟩)), .inr (YD.u (fr (fun _ => undef) [(0, (.pointer f' : Value))]) st rfl rfl (by kernel_rfl) (OE.moveV (v := .pointer f') rfl ⟨rfl, rfl⟩)), trivial⟩ ⟨?_, ?_, trivial⟩
      · have H := H.1
        refine LD1.of (i := 4) (fr (fun _ => undef) [(11, (.slice x39A x39n x39c : Value))]) st rfl (by kernel_rfl) (.inl rfl) (OE.callL (args := [.slice x39A x39n x39c]) Tryz.func48 rfl Tryz.nn48 rfl rfl (CHE.mono H (fun r112 h113 H => ?_) (fun _ _ e => e.elim)))
        obtain ⟨y114A, y114n, y114c, rfl, H⟩ := H
        obtain ⟨hs115, H⟩ := H
        obtain ⟨z118, z119, z120, H⟩ := H
        obtain ⟨b117, eb124⟩ : ∃ b117, b117 = Array.size h113 := ⟨_, rfl⟩
        obtain ⟨h116, eh125⟩ : ∃ h116, h116 = Array.push h113 (.cells (made (.bool false) ((Int.toNat ((x41n : Nat) : Int)) * 1)).toArray 4) := ⟨_, rfl⟩
        have H := H b117 h116 eb124 eh125
        refine DW.loudF (fr (fun _ => undef) [(17, (.int .i64 ((x41n : Nat) : Int) : Value))]) st hd (i := 10) rfl (by kernel_rfl) (.inl rfl) (by kernel_rfl) ⟨.inl (by kernel_rfl), .inl (by kernel_rfl), .inr (YD.u (fr (fun _ => undef) [(16, (.slice x41A x41n x41c : Value))]) st rfl rfl (by kernel_rfl) (OE.lenSlice rfl Tryz.underlying22 ⟨rfl, rfl⟩)), .inr (YD.u (fr (fun _ => undef) [(15, (.pointer (some a37) : Value))]) st rfl rfl (by kernel_rfl) (OE.load (a := a37) (v := .slice x41A x41n x41c) rfl (LdT.one Tryz.underlying22 rfl hs115) ⟨rfl, rfl⟩)), .inr (YD.u (fr (fun _ => undef) [(14, (.pointer (some a37) : Value))]) st rfl rfl (by kernel_rfl) (OE.fieldAddrI (a := a37) (o := 0) rfl Tryz.underlying111 rfl Tryz.i22 (by decide) rfl ⟨rfl, rfl⟩)), .inr (YD.u (fr (fun _ => undef) [(13, (.pointer f' : Value))]) st rfl rfl (by kernel_rfl) (OE.nilCheck (a := a37) (congrArg Value.pointer e38) ⟨rfl, rfl⟩)), .inr (YD.u (fr (fun _ => undef) [(0, (.pointer f' : Value))]) st rfl rfl (by kernel_rfl) (OE.moveV (v := .pointer f') rfl ⟨rfl, rfl⟩)), .inl (by kernel_rfl), .inl (by kernel_rfl), .inl (by kernel_rfl), .inl (by kernel_rfl), trivial⟩ (OE.makeSliceE (z := .bool false) (sz := 1) (bs := 1) rfl rfl Tryz.underlying126 Tryz.i4 z118 z119 z120 (by decide) eb124 eh125 ?_)
        refine DW.still (i := 11) (v := .agg #[.slice y114A y114n y114c, .slice (some (Addr.mk b117 0 none)) (Int.toNat ((x41n : Nat) : Int)) (Int.toNat ((x41n : Nat) : Int))]) (by kernel_rfl) ?_
        obtain ⟨hw122, H⟩ := H
        obtain ⟨h121, eh123⟩ : ∃ h121, h121 = setRow h116 (Addr.mk b109 0 none) [.slice y114A y114n y114c, .slice (some (Addr.mk b117 0 none)) (Int.toNat ((x41n : Nat) : Int)) (Int.toNat ((x41n : Nat) : Int))] 0 := ⟨_, rfl⟩
        have H := H h121 eh123
        refine DW.loudF (fr (fun _ => undef) [(5, (.pointer (some (Addr.mk b109 0 none)) : Value)), (19, (.agg #[.slice y114A y114n y114c, .slice (some (Addr.mk b117 0 none)) (Int.toNat ((x41n : Nat) : Int)) (Int.toNat ((x41n : Nat) : Int))] : Value))]) st hd (i := 13) rfl (by kernel_rfl) (.inl rfl) (by kernel_rfl) ⟨.inr (YD.u (fr (fun _ => undef) [(12, (.slice y114A y114n y114c : Value)), (18, (.slice (some (Addr.mk b117 0 none)) (Int.toNat ((x41n : Nat) : Int)) (Int.toNat ((x41n : Nat) : Int)) : Value))]) st rfl rfl (by kernel_rfl) (OE.buildV (ps := [(0, (.slice y114A y114n y114c : Value)), (1, (.slice (some (Addr.mk b117 0 none)) (Int.toNat ((x41n : Nat) : Int)) (Int.toNat ((x41n : Nat) : Int)) : Value))]) rfl (Tryz.bf20 _ _ _ _ _ _) ⟨rfl, rfl⟩)), .inl (by kernel_rfl), .inl (by kernel_rfl), .inl (by kernel_rfl), .inl (by kernel_rfl), .inl (by kernel_rfl), .inl (by kernel_rfl), .inl (by kernel_rfl), .inl (by kernel_rfl), .inl (by kernel_rfl), .inl (by kernel_rfl), .inl (by kernel_rfl), .inl (by kernel_rfl), trivial⟩ (OE.storeE (a := (Addr.mk b109 0 none)) (v := .agg #[.slice y114A y114n y114c, .slice (some (Addr.mk b117 0 none)) (Int.toNat ((x41n : Nat) : Int)) (Int.toNat ((x41n : Nat) : Int))]) rfl rfl (StT.aggI (vs := [.slice y114A y114n y114c, .slice (some (Addr.mk b117 0 none)) (Int.toNat ((x41n : Nat) : Int)) (Int.toNat ((x41n : Nat) : Int))]) Tryz.i128 rfl hw122 (by simp [oneC])) eh123 ?_)
        refine DW.finL st hd [(8, (.pointer f' : Value)), (9, (.pointer (some a37) : Value)), (10, (.pointer (some a37) : Value)), (11, (.slice x39A x39n x39c : Value)), (13, (.pointer f' : Value)), (14, (.pointer (some a37) : Value)), (15, (.pointer (some a37) : Value)), (16, (.slice x41A x41n x41c : Value)), (17, (.int .i64 ((x41n : Nat) : Int) : Value)), (5, (.pointer (some (Addr.mk b109 0 none)) : Value)), (12, (.slice y114A y114n y114c : Value)), (18, (.slice (some (Addr.mk b117 0 none)) (Int.toNat ((x41n : Nat) : Int)) (Int.toNat ((x41n : Nat) : Int)) : Value)), (19, (.agg #[.slice y114A y114n y114c, .slice (some (Addr.mk b117 0 none)) (Int.toNat ((x41n : Nat) : Int)) (Int.toNat ((x41n : Nat) : Int))] : Value))] (by kernel_rfl) (by kernel_rfl) ⟨.inl (by kernel_rfl), .inl (by kernel_rfl), .inl (by kernel_rfl), .inl (by kernel_rfl), .inl (by kernel_rfl), .inl (by kernel_rfl), .inl (by kernel_rfl), .inl (by kernel_rfl), .inl (by kernel_rfl), .inl (by kernel_rfl), .inl (by kernel_rfl), .inl (by kernel_rfl), .inl (by kernel_rfl), .inl (by kernel_rfl), trivial⟩ ?_
        exact ⟨rfl, (Addr.mk b109 0 none), rfl, rfl, rfl, rfl, H⟩
      · have H := H.2
        obtain ⟨z129, z130, z131, H⟩ := H
        obtain ⟨b128, eb140⟩ : ∃ b128, b128 = Array.size h108 := ⟨_, rfl⟩
        obtain ⟨h127, eh141⟩ : ∃ h127, h127 = Array.push h108 (.cells (made (.bool false) ((Int.toNat ((x41n : Nat) : Int)) * 1)).toArray 4) := ⟨_, rfl⟩
        have H := H b128 h127 eb140 eh141
        refine LD1.of (i := 10) (fr (fun _ => undef) [(17, (.int .i64 ((x41n : Nat) : Int) : Value))]) st rfl (by kernel_rfl) (.inl rfl) (OE.makeSliceE (z := .bool false) (sz := 1) (bs := 1) rfl rfl Tryz.underlying126 Tryz.i4 z129 z130 z131 (by decide) eb140 eh141 ?_)
        obtain ⟨hs132, H⟩ := H
        refine DW.loudF (fr (fun _ => undef) [(11, (.slice x39A x39n x39c : Value))]) st hd (i := 4) rfl (by kernel_rfl) (.inl rfl) (by kernel_rfl) ⟨.inl (by kernel_rfl), .inl (by kernel_rfl), .inl (by kernel_rfl), .inl (by kernel_rfl), .inl (by kernel_rfl), .inl (by kernel_rfl), .inl (by kernel_rfl), .inr (YD.u (fr (fun _ => undef) [(10, (.pointer (some a37) : Value))]) st rfl rfl (by kernel_rfl) (OE.load (a := a37) (v := .slice x39A x39n x39c) rfl (LdT.one Tryz.underlying22 rfl hs132) ⟨rfl, rfl⟩)), .inr (YD.u (fr (fun _ => undef) [(9, (.pointer (some a37) : Value))]) st rfl rfl (by kernel_rfl) (OE.fieldAddrI (a := a37) (o := 0) rfl Tryz.underlying111 rfl Tryz.i22 (by decide) rfl ⟨rfl, rfl⟩)), .inr (YD.u (fr (fun _ => undef) [(8, (.pointer f' : Value))]) st rfl rfl (by kernel_rfl) (OE.nilCheck (a := a37) (congrArg Value.pointer e38) ⟨rfl, rfl⟩)), .inr (YD.u (fr (fun _ => undef) [(0, (.pointer f' : Value))]) st rfl rfl (by kernel_rfl) (OE.moveV (v := .pointer f') rfl ⟨rfl, rfl⟩)), trivial⟩ (OE.callL (args := [.slice x39A x39n x39c]) Tryz.func48 rfl Tryz.nn48 rfl rfl (CHE.mono H (fun r133 h134 H => ?_) (fun _ _ e => e.elim)))
        obtain ⟨y135A, y135n, y135c, rfl, H⟩ := H
        refine DW.still (i := 11) (v := .agg #[.slice y135A y135n y135c, .slice (some (Addr.mk b128 0 none)) (Int.toNat ((x41n : Nat) : Int)) (Int.toNat ((x41n : Nat) : Int))]) (by kernel_rfl) ?_
        obtain ⟨hw137, H⟩ := H
        obtain ⟨h136, eh138⟩ : ∃ h136, h136 = setRow h134 (Addr.mk b109 0 none) [.slice y135A y135n y135c, .slice (some (Addr.mk b128 0 none)) (Int.toNat ((x41n : Nat) : Int)) (Int.toNat ((x41n : Nat) : Int))] 0 := ⟨_, rfl⟩
        have H := H h136 eh138
        refine DW.loudF (fr (fun _ => undef) [(5, (.pointer (some (Addr.mk b109 0 none)) : Value)), (19, (.agg #[.slice y135A y135n y135c, .slice (some (Addr.mk b128 0 none)) (Int.toNat ((x41n : Nat) : Int)) (Int.toNat ((x41n : Nat) : Int))] : Value))]) st hd (i := 13) rfl (by kernel_rfl) (.inl rfl) (by kernel_rfl) ⟨.inr (YD.u (fr (fun _ => undef) [(12, (.slice y135A y135n y135c : Value)), (18, (.slice (some (Addr.mk b128 0 none)) (Int.toNat ((x41n : Nat) : Int)) (Int.toNat ((x41n : Nat) : Int)) : Value))]) st rfl rfl (by kernel_rfl) (OE.buildV (ps := [(0, (.slice y135A y135n y135c : Value)), (1, (.slice (some (Addr.mk b128 0 none)) (Int.toNat ((x41n : Nat) : Int)) (Int.toNat ((x41n : Nat) : Int)) : Value))]) rfl (Tryz.bf20 _ _ _ _ _ _) ⟨rfl, rfl⟩)), .inl (by kernel_rfl), .inl (by kernel_rfl), .inl (by kernel_rfl), .inl (by kernel_rfl), .inl (by kernel_rfl), .inl (by kernel_rfl), .inl (by kernel_rfl), .inl (by kernel_rfl), .inl (by kernel_rfl), .inl (by kernel_rfl), .inl (by kernel_rfl), .inl (by kernel_rfl), trivial⟩ (OE.storeE (a := (Addr.mk b109 0 none)) (v := .agg #[.slice y135A y135n y135c, .slice (some (Addr.mk b128 0 none)) (Int.toNat ((x41n : Nat) : Int)) (Int.toNat ((x41n : Nat) : Int))]) rfl rfl (StT.aggI (vs := [.slice y135A y135n y135c, .slice (some (Addr.mk b128 0 none)) (Int.toNat ((x41n : Nat) : Int)) (Int.toNat ((x41n : Nat) : Int))]) Tryz.i128 rfl hw137 (by simp [oneC])) eh138 ?_)
        refine DW.finL st hd [(8, (.pointer f' : Value)), (9, (.pointer (some a37) : Value)), (10, (.pointer (some a37) : Value)), (11, (.slice x39A x39n x39c : Value)), (13, (.pointer f' : Value)), (14, (.pointer (some a37) : Value)), (15, (.pointer (some a37) : Value)), (16, (.slice x41A x41n x41c : Value)), (17, (.int .i64 ((x41n : Nat) : Int) : Value)), (5, (.pointer (some (Addr.mk b109 0 none)) : Value)), (18, (.slice (some (Addr.mk b128 0 none)) (Int.toNat ((x41n : Nat) : Int)) (Int.toNat ((x41n : Nat) : Int)) : Value)), (12, (.slice y135A y135n y135c : Value)), (19, (.agg #[.slice y135A y135n y135c, .slice (some (Addr.mk b128 0 none)) (Int.toNat ((x41n : Nat) : Int)) (Int.toNat ((x41n : Nat) : Int))] : Value))] (by kernel_rfl) (by kernel_rfl) ⟨.inl (by kernel_rfl), .inl (by kernel_rfl), .inl (by kernel_rfl), .inl (by kernel_rfl), .inl (by kernel_rfl), .inl (by kernel_rfl), .inl (by kernel_rfl), .inl (by kernel_rfl), .inl (by kernel_rfl), .inl (by kernel_rfl), .inl (by kernel_rfl), .inl (by kernel_rfl), .inl (by kernel_rfl), .inl (by kernel_rfl), trivial⟩ ?_
        exact ⟨rfl, (Addr.mk b109 0 none), rfl, rfl, rfl, rfl, H⟩

end Go.Proofs
