/- Part of a proof, by program out of hand-written texts. -/
import Derived.Test.YteabnfdeklajlaaGreatF1
set_option linter.unusedVariables false
set_option linter.unusedSimpArgs false
set_option maxRecDepth 10000
namespace Go.Proofs
open Go Go.V
def D_treadleref3_Disk_List.J1 (R : Value → Hp → Prop)   (j10A : Option Addr) (j10n : Nat) (j10c : Nat) (h11 : Hp) : Prop :=
  R (.tuple #[.slice j10A j10n j10c, .int .i64 0]) h11
def D_treadleref3_Disk_List.L2 (R : Value → Hp → Prop)  (y9A : Option Addr) (y9n : Nat) (C15 : Option Addr → Nat → Nat → Int → Hp → Prop) (j12A : Option Addr) (j12n : Nat) (j12c : Nat) (j13 : Int) (h14 : Hp) : Prop :=
  (((decide (j13 < ((y9n : Nat) : Int))) = true → (∃ a17 : Addr, y9A = some a17 ∧ (0 : Int) ≤ j13 ∧ j13 < (y9n : Int) ∧ (∃ x21 : ByteArray, cell h14 (a17.add (Int.toNat j13 * 2)) = some (.string x21) ∧ (∀ b24 h23, b24 = Array.size h14 → h23 = Array.push h14 (.cells #[.string x21] 9) → (∃ vs25 : List Value, Src h23 (1 * 1) vs25 (some (Addr.mk b24 0 none)) ∧ (∀ v ∈ vs25, oneC v = true) ∧ (j12n + 1) * 16 ≤ 140737488355328 ∧ j12n + 1 ≤ 9223372036854775807 ∧ AppendV 9 (.string ByteArray.empty : Value) 1 h23 j12A j12n j12c 1 vs25 (fun A30 n31 c32 h33 => C15 A30 n31 c32 (IntKind.i64.wrap (j13 + 1)) h33)))))) ∧ ((decide (j13 < ((y9n : Nat) : Int))) = false → D_treadleref3_Disk_List.J1 R   j12A j12n j12c h14))
def D_treadleref3_Disk_List (R : Value → Hp → Prop) (d : Option Addr) (h : Hp) : Prop :=
  (((Option.isNone d) = true → R (.tuple #[.slice none 0 0, .int .i64 1]) h) ∧ ((Option.isNone d) = false → (∃ a2 : Addr, d = some a2 ∧ (∃ x4 : Bool, cell h (a2.add 10) = some (.bool x4) ∧ ((x4 = true → R (.tuple #[.slice none 0 0, .int .i64 11]) h) ∧ (x4 = false → CH Tryz.prog 96 #[.pointer d] h (fun r7 h8 => ∃ y9A : Option Addr, ∃ y9n : Nat, ∃ y9c : Nat, r7 = .slice y9A y9n y9c ∧ (∃ Inv : Option Addr → Nat → Nat → Int → Hp → Nat → Prop, (∃ m, Inv none 0 0 0 h8 m) ∧ ∀ j12A j12n j12c j13 h14 m, Inv j12A j12n j12c j13 h14 m → D_treadleref3_Disk_List.L2 R  y9A y9n (fun j12A j12n j12c j13 h14 => ∃ m1, m1 < m ∧ Inv j12A j12n j12c j13 h14 m1) j12A j12n j12c j13 h14))))))))
set_option maxRecDepth 10000 in
set_option maxHeartbeats 4000000 in
theorem D_treadleref3_Disk_List.sound {R : Value → Hp → Prop} {d : Option Addr} {h : Hp} (H : D_treadleref3_Disk_List R  d h) : CH Tryz.prog 72 #[.pointer d] h R := by
  refine CHE.enter (n := 30) Tryz.func72 rfl rfl (Nat.le_of_ble_eq_true rfl) ?_
  unfold D_treadleref3_Disk_List at H
  refine VC.seq ?_
  refine VC.region ?_
  refine VL.stepD rfl rfl (by decide) (OE.assignV (v := .slice none 0 0) rfl ?_)
  refine VL.stepD rfl rfl (by decide) (OE.assignV (v := .int .i64 0) rfl ?_)
  refine VL.nil ?_
  change VC _ _ _ _ _ _ _
  refine VC.seq ?_
  refine VC.seq ?_
  refine VC.region ?_
  refine VL.stepD rfl rfl (by decide) (OE.moveV (v := .pointer d) rfl ?_)
  refine VL.stepD rfl rfl (by decide) (OE.ptrNilV (b := (Option.isNone d)) (p := d) (q := none) rfl rfl Tryz.underlying65 (.inr rfl) (by simp) ?_)
  refine VL.nil ?_
  change VC _ _ _ _ _ _ _
  refine VC.cond (t := (Option.isNone d)) rfl (fun e1 => ?_) (fun e1 => ?_)
  · have H := H.1 e1
    refine VC.seq ?_
    refine VC.region ?_
    refine VL.stepD rfl rfl (by decide) (OE.assignV (v := .slice none 0 0) rfl ?_)
    refine VL.stepD rfl rfl (by decide) (OE.assignV (v := .int .i64 1) rfl ?_)
    refine VL.nil ?_
    change VC _ _ _ _ _ _ _
    refine VC.ret ?_
    exact ⟨rfl, _, ResOK.t2 rfl (v0 := .slice none 0 0) (v1 := .int .i64 1) rfl rfl, H⟩
  · have H := H.2 e1
    refine VC.skip ?_
    change VC _ _ _ _ _ _ _
    refine VC.seq ?_
    refine VC.seq ?_
    refine VC.region ?_
    refine VL.stepD rfl rfl (by decide) (OE.moveV (v := .pointer d) rfl ?_)
    obtain ⟨a2, e3, H⟩ := H
    refine VL.stepD rfl rfl (by decide) (OE.nilCheck (a := a2) (congrArg Value.pointer e3) ?_)
    refine VL.stepD rfl rfl (by decide) (OE.fieldAddrI (a := a2) (o := 10) rfl Tryz.underlying139 rfl Tryz.i4 (by decide) rfl ?_)
    obtain ⟨x4, hl5, H⟩ := H
    refine VL.stepD rfl rfl (by decide) (OE.load (a := (a2.add 10)) (v := .bool x4) rfl (LdT.one Tryz.underlying4 rfl hl5) ?_)
    refine VL.nil ?_
    change VC _ _ _ _ _ _ _
    refine VC.cond (t := x4) rfl (fun e6 => ?_) (fun e6 => ?_)
    · have H := H.1 e6
      refine VC.seq ?_
      refine VC.region ?_
      refine VL.stepD rfl rfl (by decide) (OE.assignV (v := .slice none 0 0) rfl ?_)
      refine VL.stepD rfl rfl (by decide) (OE.assignV (v := .int .i64 11) rfl ?_)
      refine VL.nil ?_
      change VC _ _ _ _ _ _ _
      refine VC.ret ?_
      exact ⟨rfl, _, ResOK.t2 rfl (v0 := .slice none 0 0) (v1 := .int .i64 11) rfl rfl, H⟩
    · have H := H.2 e6
      refine VC.skip ?_
      change VC _ _ _ _ _ _ _
      refine VC.seq ?_
      refine VC.region ?_
      refine VL.stepD rfl rfl (by decide) (OE.assignV (v := .slice none 0 0) rfl ?_)
      refine VL.nil ?_
      change VC _ _ _ _ _ _ _
      refine VC.seq ?_
      refine VC.region ?_
      refine VL.stepD rfl rfl (by decide) (OE.moveV (v := .pointer d) rfl ?_)
      refine VL.stepD rfl rfl (by decide) (OE.callL (args := [.pointer d]) Tryz.func96 rfl Tryz.nn96 rfl rfl (CHE.mono H (fun r7 h8 H => ?_) (fun _ _ e => e.elim)))
      obtain ⟨y9A, y9n, y9c, rfl, H⟩ := H
      refine VL.stepD rfl rfl (by decide) (OE.assignV (v := .slice y9A y9n y9c) rfl ?_)
      refine VL.nil ?_
      change VC _ _ _ _ _ _ _
      refine VC.seqJ (fun f h11 => ∃ j10A : Option Addr, ∃ j10n : Nat, ∃ j10c : Nat, f 4 = (.slice j10A j10n j10c : Value) ∧ D_treadleref3_Disk_List.J1 R   j10A j10n j10c h11) ?_ ?_
      · intro f h11 J
        obtain ⟨j10A, j10n, j10c, hk4, H⟩ := J
        rw [← fr_self f [(4, .slice j10A j10n j10c)] (by simp only [List.mem_cons, List.not_mem_nil, or_false]; rintro p (rfl) <;> assumption)]
        unfold D_treadleref3_Disk_List.J1 at H
        refine VC.seq ?_
        refine VC.region ?_
        refine VL.stepD rfl rfl (by decide) (OE.moveV (v := .slice j10A j10n j10c) rfl ?_)
        refine VL.stepD rfl rfl (by decide) (OE.assignV (v := .slice j10A j10n j10c) rfl ?_)
        refine VL.stepD rfl rfl (by decide) (OE.assignV (v := .int .i64 0) rfl ?_)
        refine VL.nil ?_
        change VC _ _ _ _ _ _ _
        refine VC.ret ?_
        exact ⟨rfl, _, ResOK.t2 rfl (v0 := .slice j10A j10n j10c) (v1 := .int .i64 0) rfl rfl, H⟩
      · skip
        refine VC.seq ?_
        refine VC.region ?_
        refine VL.stepD rfl rfl (by decide) (OE.assignV (v := .int .i64 0) rfl ?_)
        refine VL.nil ?_
        change VC _ _ _ _ _ _ _
        refine VC.block ?_
        obtain ⟨Inv, ⟨m0, h0⟩, H⟩ := H
        refine VC.loop (fun ds f h14 m => ds = [] ∧ ∃ j12A : Option Addr, ∃ j12n : Nat, ∃ j12c : Nat, ∃ j13 : Int, f 4 = (.slice j12A j12n j12c : Value) ∧ f 5 = (.slice y9A y9n y9c : Value) ∧ f 6 = (.int .i64 j13 : Value) ∧ Inv j12A j12n j12c j13 h14 m) (m0 := m0) ⟨rfl, none, 0, 0, 0, rfl, rfl, rfl, h0⟩ ?_
        intro ds f h14 m I
        obtain ⟨rfl, j12A, j12n, j12c, j13, hk4, hk5, hk6, I⟩ := I
        rw [← fr_self f [(4, .slice j12A j12n j12c), (5, .slice y9A y9n y9c), (6, .int .i64 j13)] (by simp only [List.mem_cons, List.not_mem_nil, or_false]; rintro p (rfl | rfl | rfl) <;> assumption)]
        obtain ⟨C15, eC15⟩ : ∃ C15 : Option Addr → Nat → Nat → Int → Hp → Prop, C15 = (fun j12A j12n j12c j13 h14 => ∃ m1, m1 < m ∧ Inv j12A j12n j12c j13 h14 m1) := ⟨_, rfl⟩
        have H : D_treadleref3_Disk_List.L2 R  y9A y9n C15 j12A j12n j12c j13 h14 := by rw [eC15]; exact H j12A j12n j12c j13 h14 m I
        unfold D_treadleref3_Disk_List.L2 at H
        refine VC.seq ?_
        refine VC.seq ?_
        refine VC.region ?_
        refine VL.stepD rfl rfl (by decide) (OE.moveV (v := .int .i64 j13) rfl ?_)
        refine VL.stepD rfl rfl (by decide) (OE.moveV (v := .slice y9A y9n y9c) rfl ?_)
        refine VL.stepD rfl rfl (by decide) (OE.lenSlice rfl Tryz.underlying136 ?_)
        refine VL.stepD rfl rfl (by decide) (OE.binI (v := .bool (decide (j13 < ((y9n : Nat) : Int)))) rfl rfl rfl ?_)
        refine VL.nil ?_
        change VC _ _ _ _ _ _ _
        refine VC.cond (t := (decide (j13 < ((y9n : Nat) : Int)))) rfl (fun e16 => ?_) (fun e16 => ?_)
        · have H := H.1 e16
          refine VC.skip ?_
          change VC _ _ _ _ _ _ _
          refine VC.seq ?_
          refine VC.block ?_
          refine VC.region ?_
          refine VL.stepD rfl rfl (by decide) (OE.moveV (v := .slice j12A j12n j12c) rfl ?_)
          refine VL.stepD rfl rfl (by decide) (OE.moveV (v := .slice y9A y9n y9c) rfl ?_)
          refine VL.stepD rfl rfl (by decide) (OE.moveV (v := .int .i64 j13) rfl ?_)
          obtain ⟨a17, e18, z19, z20, H⟩ := H
          refine VL.stepD rfl rfl (by decide) (OE.indexAddrI (sz := 2) rfl rfl Tryz.underlying136 Tryz.i157 e18 z19 z20 ?_)
          refine VL.stepD rfl rfl (by decide) (OE.fieldAddrI (a := (a17.add (Int.toNat j13 * 2))) (o := 0) rfl Tryz.underlying157 rfl Tryz.i9 (by decide) rfl ?_)
          obtain ⟨x21, hl22, H⟩ := H
          refine VL.stepD rfl rfl (by decide) (OE.load (a := (a17.add (Int.toNat j13 * 2))) (v := .string x21) rfl (LdT.one Tryz.underlying9 rfl hl22) ?_)
          obtain ⟨b24, eb34⟩ : ∃ b24, b24 = Array.size h14 := ⟨_, rfl⟩
          obtain ⟨h23, eh35⟩ : ∃ h23, h23 = Array.push h14 (.cells #[.string x21] 9) := ⟨_, rfl⟩
          have H := H b24 h23 eb34 eh35
          refine VL.stepD rfl rfl (by decide) (OE.buildSliceE (ps := [(0, (.string x21 : Value))]) (cells := #[.string x21]) (e := 9) rfl (Tryz.bf46 _) eb34 eh35 ?_)
          obtain ⟨vs25, z26, z27, z28, z29, H⟩ := H
          refine VL.stepD rfl rfl (by decide) (OE.appendV (z := (.string ByteArray.empty : Value)) (sz := 1) (bs := 16) rfl rfl Tryz.underlying71 Tryz.i9 z26 z27 z28 z29 (AppendV.mono H (fun A30 n31 c32 h33 H => ?_)))
          refine VL.stepD rfl rfl (by decide) (OE.assignV (v := .slice A30 n31 c32) rfl ?_)
          refine VL.nil ?_
          change VC _ _ _ _ _ _ _
          refine VC.region ?_
          refine VL.stepD rfl rfl (by decide) (OE.moveV (v := .int .i64 j13) rfl ?_)
          refine VL.stepD rfl rfl (by decide) (OE.binI (v := .int .i64 (IntKind.i64.wrap (j13 + 1))) rfl rfl rfl ?_)
          refine VL.stepD rfl rfl (by decide) (OE.assignV (v := .int .i64 (IntKind.i64.wrap (j13 + 1))) rfl ?_)
          refine VL.nil ?_
          rw [eC15] at H
          obtain ⟨m1, hm1, H⟩ := H
          exact ⟨m1, hm1, rfl, A30, n31, c32, (IntKind.i64.wrap (j13 + 1)), rfl, rfl, rfl, H⟩
        · have H := H.2 e16
          refine VC.exit ?_
          exact ⟨rfl, j12A, j12n, j12c, rfl, H⟩

def D_treadleref3_Disk_Pending.J1 (R : Value → Hp → Prop)  (d : Option Addr) (j2A : Option Addr) (j2n : Nat) (j2c : Nat) (h3 : Hp) : Prop :=
  (∃ a4 : Addr, d = some a4 ∧ (∃ x6A : Option Addr, ∃ x6n : Nat, ∃ x6c : Nat, cell h3 (a4.add 5) = some (.slice x6A x6n x6c) ∧ R (.tuple #[.int .i64 ((x6n : Nat) : Int), .slice j2A j2n j2c]) h3))
def D_treadleref3_Disk_Pending.L2 (R : Value → Hp → Prop)  (d : Option Addr) (C11 : Option Addr → Nat → Nat → Int → Hp → Prop) (j8A : Option Addr) (j8n : Nat) (j8c : Nat) (j9 : Int) (h10 : Hp) : Prop :=
  (∃ a12 : Addr, d = some a12 ∧ (∃ x14A : Option Addr, ∃ x14n : Nat, ∃ x14c : Nat, cell h10 (a12.add 3) = some (.slice x14A x14n x14c) ∧ (((decide (j9 < ((x14n : Nat) : Int))) = true → (∃ x17A : Option Addr, ∃ x17n : Nat, ∃ x17c : Nat, cell h10 (a12.add 3) = some (.slice x17A x17n x17c) ∧ (∃ a19 : Addr, x17A = some a19 ∧ (0 : Int) ≤ j9 ∧ j9 < (x17n : Int) ∧ (∃ x23A : Option Addr, ∃ x23n : Nat, ∃ x23c : Nat, cell h10 ((a19.add (Int.toNat j9 * 3)).add 2) = some (.slice x23A x23n x23c) ∧ (∀ b26 h25, b26 = Array.size h10 → h25 = Array.push h10 (.cells #[.int .i64 ((x23n : Nat) : Int)] 3) → (∃ vs27 : List Value, Src h25 (1 * 1) vs27 (some (Addr.mk b26 0 none)) ∧ (∀ v ∈ vs27, oneC v = true) ∧ (j8n + 1) * 8 ≤ 140737488355328 ∧ j8n + 1 ≤ 9223372036854775807 ∧ AppendV 3 (.int .i64 0 : Value) 1 h25 j8A j8n j8c 1 vs27 (fun A32 n33 c34 h35 => C11 A32 n33 c34 (IntKind.i64.wrap (j9 + 1)) h35))))))) ∧ ((decide (j9 < ((x14n : Nat) : Int))) = false → D_treadleref3_Disk_Pending.J1 R  d j8A j8n j8c h10))))
def D_treadleref3_Disk_Pending (R : Value → Hp → Prop) (d : Option Addr) (h : Hp) : Prop :=
  (((Option.isNone d) = true → R (.tuple #[.int .i64 0, .slice none 0 0]) h) ∧ ((Option.isNone d) = false → (∃ Inv : Option Addr → Nat → Nat → Int → Hp → Nat → Prop, (∃ m, Inv none 0 0 0 h m) ∧ ∀ j8A j8n j8c j9 h10 m, Inv j8A j8n j8c j9 h10 m → D_treadleref3_Disk_Pending.L2 R  d (fun j8A j8n j8c j9 h10 => ∃ m1, m1 < m ∧ Inv j8A j8n j8c j9 h10 m1) j8A j8n j8c j9 h10)))
set_option maxRecDepth 10000 in
set_option maxHeartbeats 4000000 in
theorem D_treadleref3_Disk_Pending.sound {R : Value → Hp → Prop} {d : Option Addr} {h : Hp} (H : D_treadleref3_Disk_Pending R  d h) : CH Tryz.prog 73 #[.pointer d] h R := by
  refine CHE.enter (n := 35) Tryz.func73 rfl rfl (Nat.le_of_ble_eq_true rfl) ?_
  unfold D_treadleref3_Disk_Pending at H
  refine VC.seq ?_
  refine VC.region ?_
  refine VL.stepD rfl rfl (by decide) (OE.assignV (v := .int .i64 0) rfl ?_)
  refine VL.stepD rfl rfl (by decide) (OE.assignV (v := .slice none 0 0) rfl ?_)
  refine VL.nil ?_
  change VC _ _ _ _ _ _ _
  refine VC.seq ?_
  refine VC.seq ?_
  refine VC.region ?_
  refine VL.stepD rfl rfl (by decide) (OE.moveV (v := .pointer d) rfl ?_)
  refine VL.stepD rfl rfl (by decide) (OE.ptrNilV (b := (Option.isNone d)) (p := d) (q := none) rfl rfl Tryz.underlying65 (.inr rfl) (by simp) ?_)
  refine VL.nil ?_
  change VC _ _ _ _ _ _ _
  refine VC.cond (t := (Option.isNone d)) rfl (fun e1 => ?_) (fun e1 => ?_)
  · have H := H.1 e1
    refine VC.seq ?_
    refine VC.region ?_
    refine VL.stepD rfl rfl (by decide) (OE.assignV (v := .int .i64 0) rfl ?_)
    refine VL.stepD rfl rfl (by decide) (OE.assignV (v := .slice none 0 0) rfl ?_)
    refine VL.nil ?_
    change VC _ _ _ _ _ _ _
    refine VC.ret ?_
    exact ⟨rfl, _, ResOK.t2 rfl (v0 := .int .i64 0) (v1 := .slice none 0 0) rfl rfl, H⟩
  · have H := H.2 e1
    refine VC.skip ?_
    change VC _ _ _ _ _ _ _
    refine VC.seq ?_
    refine VC.region ?_
    refine VL.stepD rfl rfl (by decide) (OE.assignV (v := .slice none 0 0) rfl ?_)
    refine VL.nil ?_
    change VC _ _ _ _ _ _ _
    refine VC.seqJ (fun f h3 => ∃ j2A : Option Addr, ∃ j2n : Nat, ∃ j2c : Nat, f 0 = (.pointer d : Value) ∧ f 4 = (.slice j2A j2n j2c : Value) ∧ D_treadleref3_Disk_Pending.J1 R  d j2A j2n j2c h3) ?_ ?_
    · intro f h3 J
      obtain ⟨j2A, j2n, j2c, hk0, hk4, H⟩ := J
      rw [← fr_self f [(0, .pointer d), (4, .slice j2A j2n j2c)] (by simp only [List.mem_cons, List.not_mem_nil, or_false]; rintro p (rfl | rfl) <;> assumption)]
      unfold D_treadleref3_Disk_Pending.J1 at H
      refine VC.seq ?_
      refine VC.region ?_
      refine VL.stepD rfl rfl (by decide) (OE.moveV (v := .pointer d) rfl ?_)
      obtain ⟨a4, e5, H⟩ := H
      refine VL.stepD rfl rfl (by decide) (OE.nilCheck (a := a4) (congrArg Value.pointer e5) ?_)
      refine VL.stepD rfl rfl (by decide) (OE.fieldAddrI (a := a4) (o := 5) rfl Tryz.underlying139 rfl Tryz.i137 (by decide) rfl ?_)
      obtain ⟨x6A, x6n, x6c, hl7, H⟩ := H
      refine VL.stepD rfl rfl (by decide) (OE.load (a := (a4.add 5)) (v := .slice x6A x6n x6c) rfl (LdT.one Tryz.underlying137 rfl hl7) ?_)
      refine VL.stepD rfl rfl (by decide) (OE.lenSlice rfl Tryz.underlying137 ?_)
      refine VL.stepD rfl rfl (by decide) (OE.moveV (v := .slice j2A j2n j2c) rfl ?_)
      refine VL.stepD rfl rfl (by decide) (OE.assignV (v := .int .i64 ((x6n : Nat) : Int)) rfl ?_)
      refine VL.stepD rfl rfl (by decide) (OE.assignV (v := .slice j2A j2n j2c) rfl ?_)
      refine VL.nil ?_
      change VC _ _ _ _ _ _ _
      refine VC.ret ?_
      exact ⟨rfl, _, ResOK.t2 rfl (v0 := .int .i64 ((x6n : Nat) : Int)) (v1 := .slice j2A j2n j2c) rfl rfl, H⟩
    · skip
      refine VC.seq ?_
      refine VC.region ?_
      refine VL.stepD rfl rfl (by decide) (OE.assignV (v := .int .i64 0) rfl ?_)
      refine VL.nil ?_
      change VC _ _ _ _ _ _ _
      refine VC.block ?_
      obtain ⟨Inv, ⟨m0, h0⟩, H⟩ := H
      refine VC.loop (fun ds f h10 m => ds = [] ∧ ∃ j8A : Option Addr, ∃ j8n : Nat, ∃ j8c : Nat, ∃ j9 : Int, f 0 = (.pointer d : Value) ∧ f 4 = (.slice j8A j8n j8c : Value) ∧ f 5 = (.int .i64 j9 : Value) ∧ Inv j8A j8n j8c j9 h10 m) (m0 := m0) ⟨rfl, none, 0, 0, 0, rfl, rfl, rfl, h0⟩ ?_
      intro ds f h10 m I
      obtain ⟨rfl, j8A, j8n, j8c, j9, hk0, hk4, hk5, I⟩ := I
      rw [← fr_self f [(0, .pointer d), (4, .slice j8A j8n j8c), (5, .int .i64 j9)] (by simp only [List.mem_cons, List.not_mem_nil, or_false]; rintro p (rfl | rfl | rfl) <;> assumption)]
      obtain ⟨C11, eC11⟩ : ∃ C11 : Option Addr → Nat → Nat → Int → Hp → Prop, C11 = (fun j8A j8n j8c j9 h10 => ∃ m1, m1 < m ∧ Inv j8A j8n j8c j9 h10 m1) := ⟨_, rfl⟩
      have H : D_treadleref3_Disk_Pending.L2 R  d C11 j8A j8n j8c j9 h10 := by rw [eC11]; exact H j8A j8n j8c j9 h10 m I
      unfold D_treadleref3_Disk_Pending.L2 at H
      refine VC.seq ?_
      refine VC.seq ?_
      refine VC.region ?_
      refine VL.stepD rfl rfl (by decide) (OE.moveV (v := .int .i64 j9) rfl ?_)
      refine VL.stepD rfl rfl (by decide) (OE.moveV (v := .pointer d) rfl ?_)
      obtain ⟨a12, e13, H⟩ := H
      refine VL.stepD rfl rfl (by decide) (OE.nilCheck (a := a12) (congrArg Value.pointer e13) ?_)
      refine VL.stepD rfl rfl (by decide) (OE.fieldAddrI (a := a12) (o := 3) rfl Tryz.underlying139 rfl Tryz.i135 (by decide) rfl ?_)
      obtain ⟨x14A, x14n, x14c, hl15, H⟩ := H
      refine VL.stepD rfl rfl (by decide) (OE.load (a := (a12.add 3)) (v := .slice x14A x14n x14c) rfl (LdT.one Tryz.underlying135 rfl hl15) ?_)
      refine VL.stepD rfl rfl (by decide) (OE.lenSlice rfl Tryz.underlying135 ?_)
      refine VL.stepD rfl rfl (by decide) (OE.binI (v := .bool (decide (j9 < ((x14n : Nat) : Int)))) rfl rfl rfl ?_)
      refine VL.nil ?_
      change VC _ _ _ _ _ _ _
      refine VC.cond (t := (decide (j9 < ((x14n : Nat) : Int)))) rfl (fun e16 => ?_) (fun e16 => ?_)
      · have H := H.1 e16
        refine VC.skip ?_
        change VC _ _ _ _ _ _ _
        refine VC.seq ?_
        refine VC.block ?_
        refine VC.region ?_
        refine VL.stepD rfl rfl (by decide) (OE.moveV (v := .slice j8A j8n j8c) rfl ?_)
        refine VL.stepD rfl rfl (by decide) (OE.moveV (v := .pointer d) rfl ?_)
        refine VL.stepD rfl rfl (by decide) (OE.nilCheck (a := a12) (congrArg Value.pointer e13) ?_)
        refine VL.stepD rfl rfl (by decide) (OE.fieldAddrI (a := a12) (o := 3) rfl Tryz.underlying139 rfl Tryz.i135 (by decide) rfl ?_)
        obtain ⟨x17A, x17n, x17c, hl18, H⟩ := H
        refine VL.stepD rfl rfl (by decide) (OE.load (a := (a12.add 3)) (v := .slice x17A x17n x17c) rfl (LdT.one Tryz.underlying135 rfl hl18) ?_)
        refine VL.stepD rfl rfl (by decide) (OE.moveV (v := .int .i64 j9) rfl ?_)
        obtain ⟨a19, e20, z21, z22, H⟩ := H
        refine VL.stepD rfl rfl (by decide) (OE.indexAddrI (sz := 3) rfl rfl Tryz.underlying135 Tryz.i160 e20 z21 z22 ?_)
        refine VL.stepD rfl rfl (by decide) (OE.fieldAddrI (a := (a19.add (Int.toNat j9 * 3))) (o := 2) rfl Tryz.underlying160 rfl Tryz.i158 (by decide) rfl ?_)
        obtain ⟨x23A, x23n, x23c, hl24, H⟩ := H
        refine VL.stepD rfl rfl (by decide) (OE.load (a := ((a19.add (Int.toNat j9 * 3)).add 2)) (v := .slice x23A x23n x23c) rfl (LdT.one Tryz.underlying158 rfl hl24) ?_)
        refine VL.stepD rfl rfl (by decide) (OE.lenSlice rfl Tryz.underlying158 ?_)
        obtain ⟨b26, eb36⟩ : ∃ b26, b26 = Array.size h10 := ⟨_, rfl⟩
        obtain ⟨h25, eh37⟩ : ∃ h25, h25 = Array.push h10 (.cells #[.int .i64 ((x23n : Nat) : Int)] 3) := ⟨_, rfl⟩
        have H := H b26 h25 eb36 eh37
        refine VL.stepD rfl rfl (by decide) (OE.buildSliceE (ps := [(0, (.int .i64 ((x23n : Nat) : Int) : Value))]) (cells := #[.int .i64 ((x23n : Nat) : Int)]) (e := 3) rfl (Tryz.bf6 _) eb36 eh37 ?_)
        obtain ⟨vs27, z28, z29, z30, z31, H⟩ := H
        refine VL.stepD rfl rfl (by decide) (OE.appendV (z := (.int .i64 0 : Value)) (sz := 1) (bs := 8) rfl rfl Tryz.underlying44 Tryz.i3 z28 z29 z30 z31 (AppendV.mono H (fun A32 n33 c34 h35 H => ?_)))
        refine VL.stepD rfl rfl (by decide) (OE.assignV (v := .slice A32 n33 c34) rfl ?_)
        refine VL.nil ?_
        change VC _ _ _ _ _ _ _
        refine VC.region ?_
        refine VL.stepD rfl rfl (by decide) (OE.moveV (v := .int .i64 j9) rfl ?_)
        refine VL.stepD rfl rfl (by decide) (OE.binI (v := .int .i64 (IntKind.i64.wrap (j9 + 1))) rfl rfl rfl ?_)
        refine VL.stepD rfl rfl (by decide) (OE.assignV (v := .int .i64 (IntKind.i64.wrap (j9 + 1))) rfl ?_)
        refine VL.nil ?_
        rw [eC11] at H
        obtain ⟨m1, hm1, H⟩ := H
        exact ⟨m1, hm1, rfl, A32, n33, c34, (IntKind.i64.wrap (j9 + 1)), rfl, rfl, rfl, H⟩
      · have H := H.2 e16
        refine VC.exit ?_
        exact ⟨rfl, j8A, j8n, j8c, rfl, rfl, H⟩

def D_treadleref3_Disk_Held.J1 (R : Value → Hp → Prop)  (d : Option Addr) (j2 : Int) (h3 : Hp) : Prop :=
  (∃ a4 : Addr, d = some a4 ∧ (∃ x6A : Option Addr, ∃ x6n : Nat, ∃ x6c : Nat, cell h3 (a4.add 3) = some (.slice x6A x6n x6c) ∧ R (.tuple #[.int .i64 j2, .int .i64 ((x6n : Nat) : Int)]) h3))
def D_treadleref3_Disk_Held.L2 (R : Value → Hp → Prop)  (d : Option Addr) (C11 : Int → Int → Hp → Prop) (j8 : Int) (j9 : Int) (h10 : Hp) : Prop :=
  (∃ a12 : Addr, d = some a12 ∧ (∃ x14A : Option Addr, ∃ x14n : Nat, ∃ x14c : Nat, cell h10 (a12.add 3) = some (.slice x14A x14n x14c) ∧ (((decide (j9 < ((x14n : Nat) : Int))) = true → (∃ x17A : Option Addr, ∃ x17n : Nat, ∃ x17c : Nat, cell h10 (a12.add 3) = some (.slice x17A x17n x17c) ∧ (∃ a19 : Addr, x17A = some a19 ∧ (0 : Int) ≤ j9 ∧ j9 < (x17n : Int) ∧ (∃ x23_0 : Int, ∃ x23_1A : Option Addr, ∃ x23_1n : Nat, ∃ x23_1c : Nat, ∃ x23_2A : Option Addr, ∃ x23_2n : Nat, ∃ x23_2c : Nat, Row h10 (a19.add (Int.toNat j9 * 3)) [.int .i64 x23_0, .slice x23_1A x23_1n x23_1c, .slice x23_2A x23_2n x23_2c] ∧ CH Tryz.prog 97 #[.agg #[.int .i64 x23_0, .slice x23_1A x23_1n x23_1c, .slice x23_2A x23_2n x23_2c]] h10 (fun r25 h26 => ∃ y27_0 : Int, ∃ y27_1 : Int, r25 = .tuple #[.int .i64 y27_0, .int .i64 y27_1] ∧ C11 (IntKind.i64.wrap (j8 + y27_1)) (IntKind.i64.wrap (j9 + 1)) h26))))) ∧ ((decide (j9 < ((x14n : Nat) : Int))) = false → D_treadleref3_Disk_Held.J1 R  d j8 h10))))
def D_treadleref3_Disk_Held (R : Value → Hp → Prop) (d : Option Addr) (h : Hp) : Prop :=
  (((Option.isNone d) = true → R (.tuple #[.int .i64 0, .int .i64 0]) h) ∧ ((Option.isNone d) = false → (∃ Inv : Int → Int → Hp → Nat → Prop, (∃ m, Inv 0 0 h m) ∧ ∀ j8 j9 h10 m, Inv j8 j9 h10 m → D_treadleref3_Disk_Held.L2 R  d (fun j8 j9 h10 => ∃ m1, m1 < m ∧ Inv j8 j9 h10 m1) j8 j9 h10)))
set_option maxRecDepth 10000 in
set_option maxHeartbeats 4000000 in
theorem D_treadleref3_Disk_Held.sound {R : Value → Hp → Prop} {d : Option Addr} {h : Hp} (H : D_treadleref3_Disk_Held R  d h) : CH Tryz.prog 74 #[.pointer d] h R := by
  refine CHE.enter (n := 39) Tryz.func74 rfl rfl (Nat.le_of_ble_eq_true rfl) ?_
  unfold D_treadleref3_Disk_Held at H
  refine VC.seq ?_
  refine VC.region ?_
  refine VL.stepD rfl rfl (by decide) (OE.assignV (v := .int .i64 0) rfl ?_)
  refine VL.stepD rfl rfl (by decide) (OE.assignV (v := .int .i64 0) rfl ?_)
  refine VL.nil ?_
  change VC _ _ _ _ _ _ _
  refine VC.seq ?_
  refine VC.seq ?_
  refine VC.region ?_
  refine VL.stepD rfl rfl (by decide) (OE.moveV (v := .pointer d) rfl ?_)
  refine VL.stepD rfl rfl (by decide) (OE.ptrNilV (b := (Option.isNone d)) (p := d) (q := none) rfl rfl Tryz.underlying65 (.inr rfl) (by simp) ?_)
  refine VL.nil ?_
  change VC _ _ _ _ _ _ _
  refine VC.cond (t := (Option.isNone d)) rfl (fun e1 => ?_) (fun e1 => ?_)
  · have H := H.1 e1
    refine VC.seq ?_
    refine VC.region ?_
    refine VL.stepD rfl rfl (by decide) (OE.assignV (v := .int .i64 0) rfl ?_)
    refine VL.stepD rfl rfl (by decide) (OE.assignV (v := .int .i64 0) rfl ?_)
    refine VL.nil ?_
    change VC _ _ _ _ _ _ _
    refine VC.ret ?_
    exact ⟨rfl, _, ResOK.t2 rfl (v0 := .int .i64 0) (v1 := .int .i64 0) rfl rfl, H⟩
  · have H := H.2 e1
    refine VC.skip ?_
    change VC _ _ _ _ _ _ _
    refine VC.seq ?_
    refine VC.region ?_
    refine VL.stepD rfl rfl (by decide) (OE.assignV (v := .int .i64 0) rfl ?_)
    refine VL.nil ?_
    change VC _ _ _ _ _ _ _
    refine VC.seqJ (fun f h3 => ∃ j2 : Int, f 0 = (.pointer d : Value) ∧ f 4 = (.int .i64 j2 : Value) ∧ D_treadleref3_Disk_Held.J1 R  d j2 h3) ?_ ?_
    · intro f h3 J
      obtain ⟨j2, hk0, hk4, H⟩ := J
      rw [← fr_self f [(0, .pointer d), (4, .int .i64 j2)] (by simp only [List.mem_cons, List.not_mem_nil, or_false]; rintro p (rfl | rfl) <;> assumption)]
      unfold D_treadleref3_Disk_Held.J1 at H
      refine VC.seq ?_
      refine VC.drawsS Tryz.mixed (by kernel_rfl) (by kernel_rfl) (fun st hd => ?_)
      refine DW.still (i := 0) (v := .int .i64 j2) (by kernel_rfl) ?_
      refine DW.still (i := 1) (v := .pointer d) (by kernel_rfl) ?_
      obtain ⟨a4, e5, H⟩ := H
      refine DW.still (i := 2) (v := .pointer (some a4)) (by kernel_rfl) ?_
      refine DW.still (i := 3) (v := .pointer (some (a4.add 3))) (by kernel_rfl) ?_
      obtain ⟨x6A, x6n, x6c, hl7, H⟩ := H
      refine DW.still (i := 4) (v := .slice x6A x6n x6c) (by kernel_rfl) ?_
      refine DW.still (i := 5) (v := .int .i64 ((x6n : Nat) : Int)) (by kernel_rfl) ?_
      refine DW.still (i := 6) (v := .int .i64 j2) (by kernel_rfl) ?_
      refine DW.still (i := 7) (v := .int .i64 ((x6n : Nat) : Int)) (by kernel_rfl) ?_
      refine DW.finL st hd [(33, (.int .i64 j2 : Value)), (34, (.pointer d : Value)), (35, (.pointer (some a4) : Value)), (36, (.pointer (some (a4.add 3)) : Value)), (37, (.slice x6A x6n x6c : Value)), (38, (.int .i64 ((x6n : Nat) : Int) : Value)), (2, (.int .i64 j2 : Value)), (3, (.int .i64 ((x6n : Nat) : Int) : Value))] (by kernel_rfl) (by kernel_rfl) ⟨.inr (YD.u (fr (fun _ => undef) [(38, (.int .i64 ((x6n : Nat) : Int) : Value))]) st rfl rfl (by kernel_rfl) (OE.assignV (v := .int .i64 ((x6n : Nat) : Int)) rfl ⟨rfl, rfl⟩)), .inr (YD.u (fr (fun _ => undef) [(33, (.int .i64 j2 : Value))]) st rfl rfl (by kernel_rfl) (OE.assignV (v := .int .i64 j2) rfl ⟨rfl, rfl⟩)), .inr (YD.u (fr (fun _ => undef) [(37, (.slice x6A x6n x6c : Value))]) st rfl rfl (by kernel_rfl) (OE.lenSlice rfl Tryz.underlying135 ⟨rfl, rfl⟩)), .inr (YD.u (fr (fun _ => undef) [(36, (.pointer (some (a4.add 3)) : Value))]) st rfl rfl (by kernel_rfl) (OE.load (a := (a4.add 3)) (v := .slice x6A x6n x6c) rfl (LdT.one Tryz.underlying135 rfl hl7) ⟨rfl, rfl⟩)), .inr (YD.u (fr (fun _ => undef) [(35, (.pointer (some a4) : Value))]) st rfl rfl (by kernel_rfl) (OE.fieldAddrI (a := a4) (o := 3) rfl Tryz.underlying139 rfl Tryz.i135 (by decide) rfl ⟨rfl, rfl⟩)), .inr (YD.u (fr (fun _ => undef) [(34, (.pointer d : Value))]) st rfl rfl (by kernel_rfl) (OE.nilCheck (a := a4) (congrArg Value.pointer e5) ⟨rfl, rfl⟩)), .inr (YD.u (fr (fun _ => undef) [(0, (.pointer d : Value))]) st rfl rfl (by kernel_rfl) (OE.moveV (v := .pointer d) rfl ⟨rfl, rfl⟩)), .inr (YD.u (fr (fun _ => undef) [(4, (.int .i64 j2 : Value))]) st rfl rfl (by kernel_rfl) (OE.moveV (v := .int .i64 j2) rfl ⟨rfl, rfl⟩)), trivial⟩ ?_
      change VC _ _ _ _ _ _ _
      refine VC.ret ?_
      exact ⟨rfl, _, ResOK.t2 rfl (v0 := .int .i64 j2) (v1 := .int .i64 ((x6n : Nat) : Int)) rfl rfl, H⟩
    · skip
      refine VC.seq ?_
      refine VC.region ?_
      refine VL.stepD rfl rfl (by decide) (OE.assignV (v := .int .i64 0) rfl ?_)
      refine VL.nil ?_
      change VC _ _ _ _ _ _ _
      refine VC.block ?_
      obtain ⟨Inv, ⟨m0, h0⟩, H⟩ := H
      refine VC.loop (fun ds f h10 m => ds = [] ∧ ∃ j8 : Int, ∃ j9 : Int, f 0 = (.pointer d : Value) ∧ f 4 = (.int .i64 j8 : Value) ∧ f 5 = (.int .i64 j9 : Value) ∧ Inv j8 j9 h10 m) (m0 := m0) ⟨rfl, 0, 0, rfl, rfl, rfl, h0⟩ ?_
      intro ds f h10 m I
      obtain ⟨rfl, j8, j9, hk0, hk4, hk5, I⟩ := I
      rw [← fr_self f [(0, .pointer d), (4, .int .i64 j8), (5, .int .i64 j9)] (by simp only [List.mem_cons, List.not_mem_nil, or_false]; rintro p (rfl | rfl | rfl) <;> assumption)]
      obtain ⟨C11, eC11⟩ : ∃ C11 : Int → Int → Hp → Prop, C11 = (fun j8 j9 h10 => ∃ m1, m1 < m ∧ Inv j8 j9 h10 m1) := ⟨_, rfl⟩
      have H : D_treadleref3_Disk_Held.L2 R  d C11 j8 j9 h10 := by rw [eC11]; exact H j8 j9 h10 m I
      unfold D_treadleref3_Disk_Held.L2 at H
      refine VC.seq ?_
      refine VC.seq ?_
      refine VC.region ?_
      refine VL.stepD rfl rfl (by decide) (OE.moveV (v := .int .i64 j9) rfl ?_)
      refine VL.stepD rfl rfl (by decide) (OE.moveV (v := .pointer d) rfl ?_)
      obtain ⟨a12, e13, H⟩ := H
      refine VL.stepD rfl rfl (by decide) (OE.nilCheck (a := a12) (congrArg Value.pointer e13) ?_)
      refine VL.stepD rfl rfl (by decide) (OE.fieldAddrI (a := a12) (o := 3) rfl Tryz.underlying139 rfl Tryz.i135 (by decide) rfl ?_)
      obtain ⟨x14A, x14n, x14c, hl15, H⟩ := H
      refine VL.stepD rfl rfl (by decide) (OE.load (a := (a12.add 3)) (v := .slice x14A x14n x14c) rfl (LdT.one Tryz.underlying135 rfl hl15) ?_)
      refine VL.stepD rfl rfl (by decide) (OE.lenSlice rfl Tryz.underlying135 ?_)
      refine VL.stepD rfl rfl (by decide) (OE.binI (v := .bool (decide (j9 < ((x14n : Nat) : Int)))) rfl rfl rfl ?_)
      refine VL.nil ?_
      change VC _ _ _ _ _ _ _
      refine VC.cond (t := (decide (j9 < ((x14n : Nat) : Int)))) rfl (fun e16 => ?_) (fun e16 => ?_)
      · have H := H.1 e16
        refine VC.skip ?_
        change VC _ _ _ _ _ _ _
        refine VC.seq ?_
        refine VC.block ?_
        refine VC.seq ?_
        refine VC.region ?_
        refine VL.stepD rfl rfl (by decide) (OE.moveV (v := .pointer d) rfl ?_)
        refine VL.stepD rfl rfl (by decide) (OE.nilCheck (a := a12) (congrArg Value.pointer e13) ?_)
        refine VL.stepD rfl rfl (by decide) (OE.fieldAddrI (a := a12) (o := 3) rfl Tryz.underlying139 rfl Tryz.i135 (by decide) rfl ?_)
        obtain ⟨x17A, x17n, x17c, hl18, H⟩ := H
        refine VL.stepD rfl rfl (by decide) (OE.load (a := (a12.add 3)) (v := .slice x17A x17n x17c) rfl (LdT.one Tryz.underlying135 rfl hl18) ?_)
        refine VL.stepD rfl rfl (by decide) (OE.moveV (v := .int .i64 j9) rfl ?_)
        obtain ⟨a19, e20, z21, z22, H⟩ := H
        refine VL.stepD rfl rfl (by decide) (OE.indexAddrI (sz := 3) rfl rfl Tryz.underlying135 Tryz.i160 e20 z21 z22 ?_)
        obtain ⟨x23_0, x23_1A, x23_1n, x23_1c, x23_2A, x23_2n, x23_2c, hl24, H⟩ := H
        refine VL.stepD rfl rfl (by decide) (OE.load (a := (a19.add (Int.toNat j9 * 3))) (v := .agg #[.int .i64 x23_0, .slice x23_1A x23_1n x23_1c, .slice x23_2A x23_2n x23_2c]) rfl (LdT.aggI Tryz.underlying160 rfl Tryz.i160 rfl hl24) ?_)
        refine VL.stepD rfl rfl (by decide) (OE.callL (args := [.agg #[.int .i64 x23_0, .slice x23_1A x23_1n x23_1c, .slice x23_2A x23_2n x23_2c]]) Tryz.func97 rfl Tryz.nn97 rfl rfl (CHE.mono H (fun r25 h26 H => ?_) (fun _ _ e => e.elim)))
        obtain ⟨y27_0, y27_1, rfl, H⟩ := H
        refine VL.stepD rfl rfl (by decide) (OE.moveV (v := .tuple #[.int .i64 y27_0, .int .i64 y27_1]) rfl ?_)
        refine VL.stepD rfl rfl (by decide) (OE.extract (v := .int .i64 y27_0) rfl rfl ?_)
        refine VL.stepD rfl rfl (by decide) (OE.extract (v := .int .i64 y27_1) rfl rfl ?_)
        refine VL.stepD rfl rfl (by decide) (OE.assignV (v := .int .i64 y27_0) rfl ?_)
        refine VL.stepD rfl rfl (by decide) (OE.assignV (v := .int .i64 y27_1) rfl ?_)
        refine VL.nil ?_
        change VC _ _ _ _ _ _ _
        refine VC.region ?_
        refine VL.stepD rfl rfl (by decide) (OE.moveV (v := .int .i64 j8) rfl ?_)
        refine VL.stepD rfl rfl (by decide) (OE.moveV (v := .int .i64 y27_1) rfl ?_)
        refine VL.stepD rfl rfl (by decide) (OE.binI (v := .int .i64 (IntKind.i64.wrap (j8 + y27_1))) rfl rfl rfl ?_)
        refine VL.stepD rfl rfl (by decide) (OE.assignV (v := .int .i64 (IntKind.i64.wrap (j8 + y27_1))) rfl ?_)
        refine VL.nil ?_
        change VC _ _ _ _ _ _ _
        refine VC.region ?_
        refine VL.stepD rfl rfl (by decide) (OE.moveV (v := .int .i64 j9) rfl ?_)
        refine VL.stepD rfl rfl (by decide) (OE.binI (v := .int .i64 (IntKind.i64.wrap (j9 + 1))) rfl rfl rfl ?_)
        refine VL.stepD rfl rfl (by decide) (OE.assignV (v := .int .i64 (IntKind.i64.wrap (j9 + 1))) rfl ?_)
        refine VL.nil ?_
        rw [eC11] at H
        obtain ⟨m1, hm1, H⟩ := H
        exact ⟨m1, hm1, rfl, (IntKind.i64.wrap (j8 + y27_1)), (IntKind.i64.wrap (j9 + 1)), rfl, rfl, rfl, H⟩
      · have H := H.2 e16
        refine VC.exit ?_
        exact ⟨rfl, j8, rfl, rfl, H⟩

def D_treadlelaw3_ints.J1 (R : Value → Hp → Prop)    (h2 : Hp) : Prop :=
  R (.bool true) h2
def D_treadlelaw3_ints.L2 (R : Value → Hp → Prop)  (aA : Option Addr) (an : Nat) (bA : Option Addr) (bn : Nat) (C5 : Int → Hp → Prop) (j3 : Int) (h4 : Hp) : Prop :=
  (((decide (j3 < ((an : Nat) : Int))) = true → (∃ a7 : Addr, aA = some a7 ∧ (0 : Int) ≤ j3 ∧ j3 < (an : Int) ∧ (∃ x11 : Int, cell h4 (a7.add (Int.toNat j3 * 1)) = some (.int .i64 x11) ∧ (∃ a13 : Addr, bA = some a13 ∧ (0 : Int) ≤ j3 ∧ j3 < (bn : Int) ∧ (∃ x17 : Int, cell h4 (a13.add (Int.toNat j3 * 1)) = some (.int .i64 x17) ∧ (((x11 != x17) = true → R (.bool false) h4) ∧ ((x11 != x17) = false → C5 (IntKind.i64.wrap (j3 + 1)) h4))))))) ∧ ((decide (j3 < ((an : Nat) : Int))) = false → D_treadlelaw3_ints.J1 R    h4))
def D_treadlelaw3_ints (R : Value → Hp → Prop) (aA : Option Addr) (an : Nat) (ac : Nat) (bA : Option Addr) (bn : Nat) (bc : Nat) (h : Hp) : Prop :=
  (((((an : Nat) : Int) != ((bn : Nat) : Int)) = true → R (.bool false) h) ∧ ((((an : Nat) : Int) != ((bn : Nat) : Int)) = false → (∃ Inv : Int → Hp → Nat → Prop, (∃ m, Inv 0 h m) ∧ ∀ j3 h4 m, Inv j3 h4 m → D_treadlelaw3_ints.L2 R  aA an bA bn (fun j3 h4 => ∃ m1, m1 < m ∧ Inv j3 h4 m1) j3 h4)))
set_option maxRecDepth 10000 in
set_option maxHeartbeats 4000000 in
theorem D_treadlelaw3_ints.sound {R : Value → Hp → Prop} {aA : Option Addr} {an : Nat} {ac : Nat} {bA : Option Addr} {bn : Nat} {bc : Nat} {h : Hp} (H : D_treadlelaw3_ints R  aA an ac bA bn bc h) : CH Tryz.prog 75 #[.slice aA an ac, .slice bA bn bc] h R := by
  refine CHE.enter (n := 26) Tryz.func75 rfl rfl (Nat.le_of_ble_eq_true rfl) ?_
  unfold D_treadlelaw3_ints at H
  refine VC.seq ?_
  refine VC.region ?_
  refine VL.stepD rfl rfl (by decide) (OE.assignV (v := .bool false) rfl ?_)
  refine VL.nil ?_
  change VC _ _ _ _ _ _ _
  refine VC.seq ?_
  refine VC.seq ?_
  refine VC.region ?_
  refine VL.stepD rfl rfl (by decide) (OE.moveV (v := .slice aA an ac) rfl ?_)
  refine VL.stepD rfl rfl (by decide) (OE.lenSlice rfl Tryz.underlying44 ?_)
  refine VL.stepD rfl rfl (by decide) (OE.moveV (v := .slice bA bn bc) rfl ?_)
  refine VL.stepD rfl rfl (by decide) (OE.lenSlice rfl Tryz.underlying44 ?_)
  refine VL.stepD rfl rfl (by decide) (OE.binI (v := .bool (((an : Nat) : Int) != ((bn : Nat) : Int))) rfl rfl rfl ?_)
  refine VL.nil ?_
  change VC _ _ _ _ _ _ _
  refine VC.cond (t := (((an : Nat) : Int) != ((bn : Nat) : Int))) rfl (fun e1 => ?_) (fun e1 => ?_)
  · have H := H.1 e1
    refine VC.seq ?_
    refine VC.region ?_
    refine VL.stepD rfl rfl (by decide) (OE.assignV (v := .bool false) rfl ?_)
    refine VL.nil ?_
    change VC _ _ _ _ _ _ _
    refine VC.ret ?_
    exact ⟨rfl, _, ResOK.t1 rfl (v := .bool false) rfl, H⟩
  · have H := H.2 e1
    refine VC.skip ?_
    change VC _ _ _ _ _ _ _
    refine VC.seqJ (fun f h2 => D_treadlelaw3_ints.J1 R    h2) ?_ ?_
    · intro f h2 J
      have H := J
      skip
      unfold D_treadlelaw3_ints.J1 at H
      refine VC.seq ?_
      refine VC.region ?_
      refine VL.stepD rfl rfl (by decide) (OE.assignV (v := .bool true) rfl ?_)
      refine VL.nil ?_
      change VC _ _ _ _ _ _ _
      refine VC.ret ?_
      exact ⟨rfl, _, ResOK.t1 rfl (v := .bool true) rfl, H⟩
    · skip
      refine VC.seq ?_
      refine VC.region ?_
      refine VL.stepD rfl rfl (by decide) (OE.assignV (v := .int .i64 0) rfl ?_)
      refine VL.nil ?_
      change VC _ _ _ _ _ _ _
      refine VC.block ?_
      obtain ⟨Inv, ⟨m0, h0⟩, H⟩ := H
      refine VC.loop (fun ds f h4 m => ds = [] ∧ ∃ j3 : Int, f 0 = (.slice aA an ac : Value) ∧ f 1 = (.slice bA bn bc : Value) ∧ f 5 = (.int .i64 j3 : Value) ∧ Inv j3 h4 m) (m0 := m0) ⟨rfl, 0, rfl, rfl, rfl, h0⟩ ?_
      intro ds f h4 m I
      obtain ⟨rfl, j3, hk0, hk1, hk5, I⟩ := I
      rw [← fr_self f [(0, .slice aA an ac), (1, .slice bA bn bc), (5, .int .i64 j3)] (by simp only [List.mem_cons, List.not_mem_nil, or_false]; rintro p (rfl | rfl | rfl) <;> assumption)]
      obtain ⟨C5, eC5⟩ : ∃ C5 : Int → Hp → Prop, C5 = (fun j3 h4 => ∃ m1, m1 < m ∧ Inv j3 h4 m1) := ⟨_, rfl⟩
      have H : D_treadlelaw3_ints.L2 R  aA an bA bn C5 j3 h4 := by rw [eC5]; exact H j3 h4 m I
      unfold D_treadlelaw3_ints.L2 at H
      refine VC.seq ?_
      refine VC.seq ?_
      refine VC.region ?_
      refine VL.stepD rfl rfl (by decide) (OE.moveV (v := .int .i64 j3) rfl ?_)
      refine VL.stepD rfl rfl (by decide) (OE.moveV (v := .slice aA an ac) rfl ?_)
      refine VL.stepD rfl rfl (by decide) (OE.lenSlice rfl Tryz.underlying44 ?_)
      refine VL.stepD rfl rfl (by decide) (OE.binI (v := .bool (decide (j3 < ((an : Nat) : Int)))) rfl rfl rfl ?_)
      refine VL.nil ?_
      change VC _ _ _ _ _ _ _
      refine VC.cond (t := (decide (j3 < ((an : Nat) : Int)))) rfl (fun e6 => ?_) (fun e6 => ?_)
      · have H := H.1 e6
        refine VC.skip ?_
        change VC _ _ _ _ _ _ _
        refine VC.seq ?_
        refine VC.block ?_
        refine VC.seq ?_
        refine VC.drawsS Tryz.mixed (by kernel_rfl) (by kernel_rfl) (fun st hd => ?_)
        refine DW.still (i := 0) (v := .slice aA an ac) (by kernel_rfl) ?_
        refine DW.still (i := 1) (v := .int .i64 j3) (by kernel_rfl) ?_
        obtain ⟨a7, e8, z9, z10, H⟩ := H
        refine DW.still (i := 2) (v := .pointer (some (a7.add (Int.toNat j3 * 1)))) (by kernel_rfl) ?_
        obtain ⟨x11, hl12, H⟩ := H
        refine DW.still (i := 3) (v := .int .i64 x11) (by kernel_rfl) ?_
        refine DW.still (i := 4) (v := .slice bA bn bc) (by kernel_rfl) ?_
        refine DW.still (i := 5) (v := .int .i64 j3) (by kernel_rfl) ?_
        obtain ⟨a13, e14, z15, z16, H⟩ := H
        refine DW.still (i := 6) (v := .pointer (some (a13.add (Int.toNat j3 * 1)))) (by kernel_rfl) ?_
        obtain ⟨x17, hl18, H⟩ := H
        refine DW.still (i := 7) (v := .int .i64 x17) (by kernel_rfl) ?_
        refine DW.still (i := 8) (v := .bool (x11 != x17)) (by kernel_rfl) ?_
        refine DW.finL st hd [(17, (.slice aA an ac : Value)), (18, (.int .i64 j3 : Value)), (19, (.pointer (some (a7.add (Int.toNat j3 * 1))) : Value)), (20, (.int .i64 x11 : Value)), (21, (.slice bA bn bc : Value)), (22, (.int .i64 j3 : Value)), (23, (.pointer (some (a13.add (Int.toNat j3 * 1))) : Value)), (24, (.int .i64 x17 : Value)), (25, (.bool (x11 != x17) : Value))] (by kernel_rfl) (by kernel_rfl) ⟨.inr (YD.u (fr (fun _ => undef) [(20, (.int .i64 x11 : Value)), (24, (.int .i64 x17 : Value))]) st rfl rfl (by kernel_rfl) (OE.binI (v := .bool (x11 != x17)) rfl rfl rfl ⟨rfl, rfl⟩)), .inr (YD.u (fr (fun _ => undef) [(23, (.pointer (some (a13.add (Int.toNat j3 * 1))) : Value))]) st rfl rfl (by kernel_rfl) (OE.load (a := (a13.add (Int.toNat j3 * 1))) (v := .int .i64 x17) rfl (LdT.one Tryz.underlying3 rfl hl18) ⟨rfl, rfl⟩)), .inr (YD.u (fr (fun _ => undef) [(21, (.slice bA bn bc : Value)), (22, (.int .i64 j3 : Value))]) st rfl rfl (by kernel_rfl) (OE.indexAddrI (sz := 1) rfl rfl Tryz.underlying44 Tryz.i3 e14 z15 z16 ⟨rfl, rfl⟩)), .inr (YD.u (fr (fun _ => undef) [(5, (.int .i64 j3 : Value))]) st rfl rfl (by kernel_rfl) (OE.moveV (v := .int .i64 j3) rfl ⟨rfl, rfl⟩)), .inr (YD.u (fr (fun _ => undef) [(1, (.slice bA bn bc : Value))]) st rfl rfl (by kernel_rfl) (OE.moveV (v := .slice bA bn bc) rfl ⟨rfl, rfl⟩)), .inr (YD.u (fr (fun _ => undef) [(19, (.pointer (some (a7.add (Int.toNat j3 * 1))) : Value))]) st rfl rfl (by kernel_rfl) (OE.load (a := (a7.add (Int.toNat j3 * 1))) (v := .int .i64 x11) rfl (LdT.one Tryz.underlying3 rfl hl12) ⟨rfl, rfl⟩)), .inr (YD.u (fr (fun _ => undef) [(17, (.slice aA an ac : Value)), (18, (.int .i64 j3 : Value))]) st rfl rfl (by kernel_rfl) (OE.indexAddrI (sz := 1) rfl rfl Tryz.underlying44 Tryz.i3 e8 z9 z10 ⟨rfl, rfl⟩)), .inr (YD.u (fr (fun _ => undef) [(5, (.int .i64 j3 : Value))]) st rfl rfl (by kernel_rfl) (OE.moveV (v := .int .i64 j3) rfl ⟨rfl, rfl⟩)), .inr (YD.u (fr (fun _ => undef) [(0, (.slice aA an ac : Value))]) st rfl rfl (by kernel_rfl) (OE.moveV (v := .slice aA an ac) rfl ⟨rfl, rfl⟩)), trivial⟩ ?_
        change VC _ _ _ _ _ _ _
        refine VC.cond (t := (x11 != x17)) rfl (fun e19 => ?_) (fun e19 => ?_)
        · have H := H.1 e19
          refine VC.seq ?_
          refine VC.region ?_
          refine VL.stepD rfl rfl (by decide) (OE.assignV (v := .bool false) rfl ?_)
          refine VL.nil ?_
          change VC _ _ _ _ _ _ _
          refine VC.ret ?_
          exact ⟨rfl, _, ResOK.t1 rfl (v := .bool false) rfl, H⟩
        · have H := H.2 e19
          refine VC.skip ?_
          change VC _ _ _ _ _ _ _
          refine VC.region ?_
          refine VL.stepD rfl rfl (by decide) (OE.moveV (v := .int .i64 j3) rfl ?_)
          refine VL.stepD rfl rfl (by decide) (OE.binI (v := .int .i64 (IntKind.i64.wrap (j3 + 1))) rfl rfl rfl ?_)
          refine VL.stepD rfl rfl (by decide) (OE.assignV (v := .int .i64 (IntKind.i64.wrap (j3 + 1))) rfl ?_)
          refine VL.nil ?_
          rw [eC5] at H
          obtain ⟨m1, hm1, H⟩ := H
          exact ⟨m1, hm1, rfl, (IntKind.i64.wrap (j3 + 1)), rfl, rfl, rfl, H⟩
      · have H := H.2 e6
        refine VC.exit ?_
        exact ⟨rfl, H⟩

def D_treadleref3_Disk_Files (R : Value → Hp → Prop) (d : Option Addr) (h : Hp) : Prop :=
  (((Option.isNone d) = true → R (.slice none 0 0) h) ∧ ((Option.isNone d) = false → CH Tryz.prog 96 #[.pointer d] h (fun r2 h3 => ∃ y4A : Option Addr, ∃ y4n : Nat, ∃ y4c : Nat, r2 = .slice y4A y4n y4c ∧ CH Tryz.prog 98 #[.pointer d, .slice y4A y4n y4c, .bool false] h3 (fun r5 h6 => ∃ y7A : Option Addr, ∃ y7n : Nat, ∃ y7c : Nat, r5 = .slice y7A y7n y7c ∧ R (.slice y7A y7n y7c) h6))))
set_option maxRecDepth 10000 in
set_option maxHeartbeats 4000000 in
theorem D_treadleref3_Disk_Files.sound {R : Value → Hp → Prop} {d : Option Addr} {h : Hp} (H : D_treadleref3_Disk_Files R  d h) : CH Tryz.prog 76 #[.pointer d] h R := by
  refine CHE.enter (n := 9) Tryz.func76 rfl rfl (Nat.le_of_ble_eq_true rfl) ?_
  unfold D_treadleref3_Disk_Files at H
  refine VC.seq ?_
  refine VC.region ?_
  refine VL.stepD rfl rfl (by decide) (OE.assignV (v := .slice none 0 0) rfl ?_)
  refine VL.nil ?_
  change VC _ _ _ _ _ _ _
  refine VC.seq ?_
  refine VC.seq ?_
  refine VC.region ?_
  refine VL.stepD rfl rfl (by decide) (OE.moveV (v := .pointer d) rfl ?_)
  refine VL.stepD rfl rfl (by decide) (OE.ptrNilV (b := (Option.isNone d)) (p := d) (q := none) rfl rfl Tryz.underlying65 (.inr rfl) (by simp) ?_)
  refine VL.nil ?_
  change VC _ _ _ _ _ _ _
  refine VC.cond (t := (Option.isNone d)) rfl (fun e1 => ?_) (fun e1 => ?_)
  · have H := H.1 e1
    refine VC.seq ?_
    refine VC.region ?_
    refine VL.stepD rfl rfl (by decide) (OE.assignV (v := .slice none 0 0) rfl ?_)
    refine VL.nil ?_
    change VC _ _ _ _ _ _ _
    refine VC.ret ?_
    exact ⟨rfl, _, ResOK.t1 rfl (v := .slice none 0 0) rfl, H⟩
  · have H := H.2 e1
    refine VC.skip ?_
    change VC _ _ _ _ _ _ _
    refine VC.seq ?_
    refine VC.region ?_
    refine VL.stepD rfl rfl (by decide) (OE.moveV (v := .pointer d) rfl ?_)
    refine VL.stepD rfl rfl (by decide) (OE.moveV (v := .pointer d) rfl ?_)
    refine VL.stepD rfl rfl (by decide) (OE.callL (args := [.pointer d]) Tryz.func96 rfl Tryz.nn96 rfl rfl (CHE.mono H (fun r2 h3 H => ?_) (fun _ _ e => e.elim)))
    obtain ⟨y4A, y4n, y4c, rfl, H⟩ := H
    refine VL.stepD rfl rfl (by decide) (OE.callL (args := [.pointer d, .slice y4A y4n y4c, .bool false]) Tryz.func98 rfl Tryz.nn98 rfl rfl (CHE.mono H (fun r5 h6 H => ?_) (fun _ _ e => e.elim)))
    obtain ⟨y7A, y7n, y7c, rfl, H⟩ := H
    refine VL.stepD rfl rfl (by decide) (OE.assignV (v := .slice y7A y7n y7c) rfl ?_)
    refine VL.nil ?_
    change VC _ _ _ _ _ _ _
    refine VC.ret ?_
    exact ⟨rfl, _, ResOK.t1 rfl (v := .slice y7A y7n y7c) rfl, H⟩

def D_treadleref3_Disk_Safe (R : Value → Hp → Prop) (d : Option Addr) (h : Hp) : Prop :=
  (((Option.isNone d) = true → R (.slice none 0 0) h) ∧ ((Option.isNone d) = false → (∃ a2 : Addr, d = some a2 ∧ (∃ x4A : Option Addr, ∃ x4n : Nat, ∃ x4c : Nat, cell h (a2.add 4) = some (.slice x4A x4n x4c) ∧ CH Tryz.prog 98 #[.pointer d, .slice x4A x4n x4c, .bool true] h (fun r6 h7 => ∃ y8A : Option Addr, ∃ y8n : Nat, ∃ y8c : Nat, r6 = .slice y8A y8n y8c ∧ R (.slice y8A y8n y8c) h7)))))
set_option maxRecDepth 10000 in
set_option maxHeartbeats 4000000 in
theorem D_treadleref3_Disk_Safe.sound {R : Value → Hp → Prop} {d : Option Addr} {h : Hp} (H : D_treadleref3_Disk_Safe R  d h) : CH Tryz.prog 77 #[.pointer d] h R := by
  refine CHE.enter (n := 11) Tryz.func77 rfl rfl (Nat.le_of_ble_eq_true rfl) ?_
  unfold D_treadleref3_Disk_Safe at H
  refine VC.seq ?_
  refine VC.region ?_
  refine VL.stepD rfl rfl (by decide) (OE.assignV (v := .slice none 0 0) rfl ?_)
  refine VL.nil ?_
  change VC _ _ _ _ _ _ _
  refine VC.seq ?_
  refine VC.seq ?_
  refine VC.region ?_
  refine VL.stepD rfl rfl (by decide) (OE.moveV (v := .pointer d) rfl ?_)
  refine VL.stepD rfl rfl (by decide) (OE.ptrNilV (b := (Option.isNone d)) (p := d) (q := none) rfl rfl Tryz.underlying65 (.inr rfl) (by simp) ?_)
  refine VL.nil ?_
  change VC _ _ _ _ _ _ _
  refine VC.cond (t := (Option.isNone d)) rfl (fun e1 => ?_) (fun e1 => ?_)
  · have H := H.1 e1
    refine VC.seq ?_
    refine VC.region ?_
    refine VL.stepD rfl rfl (by decide) (OE.assignV (v := .slice none 0 0) rfl ?_)
    refine VL.nil ?_
    change VC _ _ _ _ _ _ _
    refine VC.ret ?_
    exact ⟨rfl, _, ResOK.t1 rfl (v := .slice none 0 0) rfl, H⟩
  · have H := H.2 e1
    refine VC.skip ?_
    change VC _ _ _ _ _ _ _
    refine VC.seq ?_
    refine VC.region ?_
    refine VL.stepD rfl rfl (by decide) (OE.moveV (v := .pointer d) rfl ?_)
    refine VL.stepD rfl rfl (by decide) (OE.moveV (v := .pointer d) rfl ?_)
    obtain ⟨a2, e3, H⟩ := H
    refine VL.stepD rfl rfl (by decide) (OE.nilCheck (a := a2) (congrArg Value.pointer e3) ?_)
    refine VL.stepD rfl rfl (by decide) (OE.fieldAddrI (a := a2) (o := 4) rfl Tryz.underlying139 rfl Tryz.i136 (by decide) rfl ?_)
    obtain ⟨x4A, x4n, x4c, hl5, H⟩ := H
    refine VL.stepD rfl rfl (by decide) (OE.load (a := (a2.add 4)) (v := .slice x4A x4n x4c) rfl (LdT.one Tryz.underlying136 rfl hl5) ?_)
    refine VL.stepD rfl rfl (by decide) (OE.callL (args := [.pointer d, .slice x4A x4n x4c, .bool true]) Tryz.func98 rfl Tryz.nn98 rfl rfl (CHE.mono H (fun r6 h7 H => ?_) (fun _ _ e => e.elim)))
    obtain ⟨y8A, y8n, y8c, rfl, H⟩ := H
    refine VL.stepD rfl rfl (by decide) (OE.assignV (v := .slice y8A y8n y8c) rfl ?_)
    refine VL.nil ?_
    change VC _ _ _ _ _ _ _
    refine VC.ret ?_
    exact ⟨rfl, _, ResOK.t1 rfl (v := .slice y8A y8n y8c) rfl, H⟩

def D_treadleref3_Disk_Off (R : Value → Hp → Prop) (d : Option Addr) (h : Hp) : Prop :=
  (((!(Option.isNone d)) = true → (∃ a2 : Addr, d = some a2 ∧ (∃ x4 : Bool, cell h (a2.add 10) = some (.bool x4) ∧ R (.bool x4) h))) ∧ ((!(Option.isNone d)) = false → R (.bool false) h))
set_option maxRecDepth 10000 in
set_option maxHeartbeats 4000000 in
theorem D_treadleref3_Disk_Off.sound {R : Value → Hp → Prop} {d : Option Addr} {h : Hp} (H : D_treadleref3_Disk_Off R  d h) : CH Tryz.prog 78 #[.pointer d] h R := by
  refine CHE.enter (n := 11) Tryz.func78 rfl rfl (Nat.le_of_ble_eq_true rfl) ?_
  unfold D_treadleref3_Disk_Off at H
  refine VC.seq ?_
  refine VC.region ?_
  refine VL.stepD rfl rfl (by decide) (OE.assignV (v := .bool false) rfl ?_)
  refine VL.nil ?_
  change VC _ _ _ _ _ _ _
  refine VC.seq ?_
  refine VC.region ?_
  refine VL.stepD rfl rfl (by decide) (OE.moveV (v := .pointer d) rfl ?_)
  refine VL.stepD rfl rfl (by decide) (OE.ptrNilV (b := (!(Option.isNone d))) (p := d) (q := none) rfl rfl Tryz.underlying65 (.inr rfl) (by simp) ?_)
  refine VL.stepD rfl rfl (by decide) (OE.moveV (v := .bool (!(Option.isNone d))) rfl ?_)
  refine boolSplit ((!(Option.isNone d))) (fun e1 => ?_) (fun e1 => ?_)
  · have H := H.1 e1
    refine VL.gstepD rfl rfl (by decide) (congrArg Value.bool e1) rfl (by decide) (OE.moveV (v := .pointer d) rfl ?_)
    obtain ⟨a2, e3, H⟩ := H
    refine VL.gstepD rfl rfl (by decide) (congrArg Value.bool e1) rfl (by decide) (OE.nilCheck (a := a2) (congrArg Value.pointer e3) ?_)
    refine VL.gstepD rfl rfl (by decide) (congrArg Value.bool e1) rfl (by decide) (OE.fieldAddrI (a := a2) (o := 10) rfl Tryz.underlying139 rfl Tryz.i4 (by decide) rfl ?_)
    obtain ⟨x4, hl5, H⟩ := H
    refine VL.gstepD rfl rfl (by decide) (congrArg Value.bool e1) rfl (by decide) (OE.load (a := (a2.add 10)) (v := .bool x4) rfl (LdT.one Tryz.underlying4 rfl hl5) ?_)
    refine VL.stepD rfl rfl (by decide) (OE.pickV (t := true) (v := .bool x4) (congrArg Value.bool e1) rfl ?_)
    refine VL.stepD rfl rfl (by decide) (OE.assignV (v := .bool x4) rfl ?_)
    refine VL.nil ?_
    change VC _ _ _ _ _ _ _
    refine VC.ret ?_
    exact ⟨rfl, _, ResOK.t1 rfl (v := .bool x4) rfl, H⟩
  · have H := H.2 e1
    refine VL.gskipD rfl rfl (by decide) (.inl (congrArg Value.bool e1)) rfl (by decide) ?_
    refine VL.gskipD rfl rfl (by decide) (.inl (congrArg Value.bool e1)) rfl (by decide) ?_
    refine VL.gskipD rfl rfl (by decide) (.inl (congrArg Value.bool e1)) rfl (by decide) ?_
    refine VL.gskipD rfl rfl (by decide) (.inl (congrArg Value.bool e1)) rfl (by decide) ?_
    refine VL.stepD rfl rfl (by decide) (OE.pickV (t := false) (v := .bool false) (congrArg Value.bool e1) rfl ?_)
    refine VL.stepD rfl rfl (by decide) (OE.assignV (v := .bool false) rfl ?_)
    refine VL.nil ?_
    change VC _ _ _ _ _ _ _
    refine VC.ret ?_
    exact ⟨rfl, _, ResOK.t1 rfl (v := .bool false) rfl, H⟩

def D_treadleref3_Disk_Strokes (R : Value → Hp → Prop) (d : Option Addr) (h : Hp) : Prop :=
  (((Option.isNone d) = true → R (.int .i64 0) h) ∧ ((Option.isNone d) = false → (∃ a2 : Addr, d = some a2 ∧ (∃ x4 : Int, cell h (a2.add 8) = some (.int .i64 x4) ∧ R (.int .i64 x4) h))))
set_option maxRecDepth 10000 in
set_option maxHeartbeats 4000000 in
theorem D_treadleref3_Disk_Strokes.sound {R : Value → Hp → Prop} {d : Option Addr} {h : Hp} (H : D_treadleref3_Disk_Strokes R  d h) : CH Tryz.prog 79 #[.pointer d] h R := by
  refine CHE.enter (n := 9) Tryz.func79 rfl rfl (Nat.le_of_ble_eq_true rfl) ?_
  unfold D_treadleref3_Disk_Strokes at H
  refine VC.seq ?_
  refine VC.region ?_
  refine VL.stepD rfl rfl (by decide) (OE.assignV (v := .int .i64 0) rfl ?_)
  refine VL.nil ?_
  change VC _ _ _ _ _ _ _
  refine VC.seq ?_
  refine VC.seq ?_
  refine VC.region ?_
  refine VL.stepD rfl rfl (by decide) (OE.moveV (v := .pointer d) rfl ?_)
  refine VL.stepD rfl rfl (by decide) (OE.ptrNilV (b := (Option.isNone d)) (p := d) (q := none) rfl rfl Tryz.underlying65 (.inr rfl) (by simp) ?_)
  refine VL.nil ?_
  change VC _ _ _ _ _ _ _
  refine VC.cond (t := (Option.isNone d)) rfl (fun e1 => ?_) (fun e1 => ?_)
  · have H := H.1 e1
    refine VC.seq ?_
    refine VC.region ?_
    refine VL.stepD rfl rfl (by decide) (OE.assignV (v := .int .i64 0) rfl ?_)
    refine VL.nil ?_
    change VC _ _ _ _ _ _ _
    refine VC.ret ?_
    exact ⟨rfl, _, ResOK.t1 rfl (v := .int .i64 0) rfl, H⟩
  · have H := H.2 e1
    refine VC.skip ?_
    change VC _ _ _ _ _ _ _
    refine VC.seq ?_
    refine VC.region ?_
    refine VL.stepD rfl rfl (by decide) (OE.moveV (v := .pointer d) rfl ?_)
    obtain ⟨a2, e3, H⟩ := H
    refine VL.stepD rfl rfl (by decide) (OE.nilCheck (a := a2) (congrArg Value.pointer e3) ?_)
    refine VL.stepD rfl rfl (by decide) (OE.fieldAddrI (a := a2) (o := 8) rfl Tryz.underlying139 rfl Tryz.i3 (by decide) rfl ?_)
    obtain ⟨x4, hl5, H⟩ := H
    refine VL.stepD rfl rfl (by decide) (OE.load (a := (a2.add 8)) (v := .int .i64 x4) rfl (LdT.one Tryz.underlying3 rfl hl5) ?_)
    refine VL.stepD rfl rfl (by decide) (OE.assignV (v := .int .i64 x4) rfl ?_)
    refine VL.nil ?_
    change VC _ _ _ _ _ _ _
    refine VC.ret ?_
    exact ⟨rfl, _, ResOK.t1 rfl (v := .int .i64 x4) rfl, H⟩

def D_treadleref3_Disk_Reads (R : Value → Hp → Prop) (d : Option Addr) (h : Hp) : Prop :=
  (((Option.isNone d) = true → R (.int .i64 0) h) ∧ ((Option.isNone d) = false → (∃ a2 : Addr, d = some a2 ∧ (∃ x4 : Int, cell h (a2.add 9) = some (.int .i64 x4) ∧ R (.int .i64 x4) h))))
set_option maxRecDepth 10000 in
set_option maxHeartbeats 4000000 in
theorem D_treadleref3_Disk_Reads.sound {R : Value → Hp → Prop} {d : Option Addr} {h : Hp} (H : D_treadleref3_Disk_Reads R  d h) : CH Tryz.prog 80 #[.pointer d] h R := by
  refine CHE.enter (n := 9) Tryz.func80 rfl rfl (Nat.le_of_ble_eq_true rfl) ?_
  unfold D_treadleref3_Disk_Reads at H
  refine VC.seq ?_
  refine VC.region ?_
  refine VL.stepD rfl rfl (by decide) (OE.assignV (v := .int .i64 0) rfl ?_)
  refine VL.nil ?_
  change VC _ _ _ _ _ _ _
  refine VC.seq ?_
  refine VC.seq ?_
  refine VC.region ?_
  refine VL.stepD rfl rfl (by decide) (OE.moveV (v := .pointer d) rfl ?_)
  refine VL.stepD rfl rfl (by decide) (OE.ptrNilV (b := (Option.isNone d)) (p := d) (q := none) rfl rfl Tryz.underlying65 (.inr rfl) (by simp) ?_)
  refine VL.nil ?_
  change VC _ _ _ _ _ _ _
  refine VC.cond (t := (Option.isNone d)) rfl (fun e1 => ?_) (fun e1 => ?_)
  · have H := H.1 e1
    refine VC.seq ?_
    refine VC.region ?_
    refine VL.stepD rfl rfl (by decide) (OE.assignV (v := .int .i64 0) rfl ?_)
    refine VL.nil ?_
    change VC _ _ _ _ _ _ _
    refine VC.ret ?_
    exact ⟨rfl, _, ResOK.t1 rfl (v := .int .i64 0) rfl, H⟩
  · have H := H.2 e1
    refine VC.skip ?_
    change VC _ _ _ _ _ _ _
    refine VC.seq ?_
    refine VC.region ?_
    refine VL.stepD rfl rfl (by decide) (OE.moveV (v := .pointer d) rfl ?_)
    obtain ⟨a2, e3, H⟩ := H
    refine VL.stepD rfl rfl (by decide) (OE.nilCheck (a := a2) (congrArg Value.pointer e3) ?_)
    refine VL.stepD rfl rfl (by decide) (OE.fieldAddrI (a := a2) (o := 9) rfl Tryz.underlying139 rfl Tryz.i3 (by decide) rfl ?_)
    obtain ⟨x4, hl5, H⟩ := H
    refine VL.stepD rfl rfl (by decide) (OE.load (a := (a2.add 9)) (v := .int .i64 x4) rfl (LdT.one Tryz.underlying3 rfl hl5) ?_)
    refine VL.stepD rfl rfl (by decide) (OE.assignV (v := .int .i64 x4) rfl ?_)
    refine VL.nil ?_
    change VC _ _ _ _ _ _ _
    refine VC.ret ?_
    exact ⟨rfl, _, ResOK.t1 rfl (v := .int .i64 x4) rfl, H⟩

def D_treadleref3_Disk_now (R : Value → Hp → Prop) (d : Option Addr) (h : Hp) : Prop :=
  (∃ a1 : Addr, d = some a1 ∧ (∃ x3A : Option Addr, ∃ x3n : Nat, ∃ x3c : Nat, cell h (a1.add 5) = some (.slice x3A x3n x3c) ∧ CH Tryz.prog 110 #[.pointer d, .int .i64 ((x3n : Nat) : Int)] h (fun r5 h6 => ∃ y7A : Option Addr, ∃ y7n : Nat, ∃ y7c : Nat, r5 = .slice y7A y7n y7c ∧ R (.slice y7A y7n y7c) h6)))
set_option maxRecDepth 10000 in
set_option maxHeartbeats 4000000 in
theorem D_treadleref3_Disk_now.sound {R : Value → Hp → Prop} {d : Option Addr} {h : Hp} (H : D_treadleref3_Disk_now R  d h) : CH Tryz.prog 96 #[.pointer d] h R := by
  refine CHE.enter (n := 10) Tryz.func96 rfl rfl (Nat.le_of_ble_eq_true rfl) ?_
  unfold D_treadleref3_Disk_now at H
  refine VC.seq ?_
  refine VC.region ?_
  refine VL.stepD rfl rfl (by decide) (OE.assignV (v := .slice none 0 0) rfl ?_)
  refine VL.nil ?_
  change VC _ _ _ _ _ _ _
  refine VC.seq ?_
  refine VC.region ?_
  refine VL.stepD rfl rfl (by decide) (OE.moveV (v := .pointer d) rfl ?_)
  refine VL.stepD rfl rfl (by decide) (OE.moveV (v := .pointer d) rfl ?_)
  obtain ⟨a1, e2, H⟩ := H
  refine VL.stepD rfl rfl (by decide) (OE.nilCheck (a := a1) (congrArg Value.pointer e2) ?_)
  refine VL.stepD rfl rfl (by decide) (OE.fieldAddrI (a := a1) (o := 5) rfl Tryz.underlying139 rfl Tryz.i137 (by decide) rfl ?_)
  obtain ⟨x3A, x3n, x3c, hl4, H⟩ := H
  refine VL.stepD rfl rfl (by decide) (OE.load (a := (a1.add 5)) (v := .slice x3A x3n x3c) rfl (LdT.one Tryz.underlying137 rfl hl4) ?_)
  refine VL.stepD rfl rfl (by decide) (OE.lenSlice rfl Tryz.underlying137 ?_)
  refine VL.stepD rfl rfl (by decide) (OE.callL (args := [.pointer d, .int .i64 ((x3n : Nat) : Int)]) Tryz.func110 rfl Tryz.nn110 rfl rfl (CHE.mono H (fun r5 h6 H => ?_) (fun _ _ e => e.elim)))
  obtain ⟨y7A, y7n, y7c, rfl, H⟩ := H
  refine VL.stepD rfl rfl (by decide) (OE.assignV (v := .slice y7A y7n y7c) rfl ?_)
  refine VL.nil ?_
  change VC _ _ _ _ _ _ _
  refine VC.ret ?_
  exact ⟨rfl, _, ResOK.t1 rfl (v := .slice y7A y7n y7c) rfl, H⟩

def D_treadleref3_Disk_files.J1 (R : Value → Hp → Prop)   (j1A : Option Addr) (j1n : Nat) (j1c : Nat) (h2 : Hp) : Prop :=
  R (.slice j1A j1n j1c) h2
def D_treadleref3_Disk_files.J4 (R : Value → Hp → Prop) (C6 : Option Addr → Nat → Nat → Int → Hp → Prop) (lA : Option Addr) (ln : Nat) (j3A : Option Addr) (j3n : Nat) (j3c : Nat) (j4 : Int) (j8 : Addr) (j12 : Int) (h13 : Hp) : Prop :=
  (∃ x14_0 : Int, ∃ x14_1A : Option Addr, ∃ x14_1n : Nat, ∃ x14_1c : Nat, ∃ x14_2A : Option Addr, ∃ x14_2n : Nat, ∃ x14_2c : Nat, Row h13 j8 [.int .i64 x14_0, .slice x14_1A x14_1n x14_1c, .slice x14_2A x14_2n x14_2c] ∧ CH Tryz.prog 112 #[.agg #[.int .i64 x14_0, .slice x14_1A x14_1n x14_1c, .slice x14_2A x14_2n x14_2c], .int .i64 j12] h13 (fun r16 h17 => ∃ y18_0A : Option Addr, ∃ y18_0n : Nat, ∃ y18_0c : Nat, ∃ y18_1A : Option Addr, ∃ y18_1n : Nat, ∃ y18_1c : Nat, r16 = .tuple #[.slice y18_0A y18_0n y18_0c, .slice y18_1A y18_1n y18_1c] ∧ (∃ a19 : Addr, lA = some a19 ∧ (0 : Int) ≤ j4 ∧ j4 < (ln : Int) ∧ (∃ x23 : ByteArray, cell h17 (a19.add (Int.toNat j4 * 2)) = some (.string x23) ∧ (∀ b26 h25, b26 = Array.size h17 → h25 = Array.push h17 (.cells #[.string x23, .slice y18_0A y18_0n y18_0c] 61) → (∃ vs27 : List Value, Src h25 (1 * 2) vs27 (some (Addr.mk b26 0 none)) ∧ (∀ v ∈ vs27, oneC v = true) ∧ (j3n + 1) * 40 ≤ 140737488355328 ∧ j3n + 1 ≤ 9223372036854775807 ∧ AppendV 61 (.agg #[.string ByteArray.empty, .slice none 0 0] : Value) 2 h25 j3A j3n j3c 1 vs27 (fun A32 n33 c34 h35 => C6 A32 n33 c34 (IntKind.i64.wrap (j4 + 1)) h35)))))))
def D_treadleref3_Disk_files.J3 (R : Value → Hp → Prop) (C6 : Option Addr → Nat → Nat → Int → Hp → Prop) (lA : Option Addr) (ln : Nat) (a_none : Bool) (j3A : Option Addr) (j3n : Nat) (j3c : Nat) (j4 : Int) (j8 : Addr) (h9 : Hp) : Prop :=
  (∃ x10A : Option Addr, ∃ x10n : Nat, ∃ x10c : Nat, cell h9 (j8.add 2) = some (.slice x10A x10n x10c) ∧ ((a_none = true → D_treadleref3_Disk_files.J4 R C6 lA ln j3A j3n j3c j4 j8 0 h9) ∧ (a_none = false → D_treadleref3_Disk_files.J4 R C6 lA ln j3A j3n j3c j4 j8 ((x10n : Nat) : Int) h9)))
def D_treadleref3_Disk_files.L2 (R : Value → Hp → Prop)  (d : Option Addr) (lA : Option Addr) (ln : Nat) (a_none : Bool) (C6 : Option Addr → Nat → Nat → Int → Hp → Prop) (j3A : Option Addr) (j3n : Nat) (j3c : Nat) (j4 : Int) (h5 : Hp) : Prop :=
  (((decide (j4 < ((ln : Nat) : Int))) = true → (∃ a40 : Addr, d = some a40 ∧ (∃ x42A : Option Addr, ∃ x42n : Nat, ∃ x42c : Nat, cell h5 (a40.add 3) = some (.slice x42A x42n x42c) ∧ (∃ a44 : Addr, lA = some a44 ∧ (0 : Int) ≤ j4 ∧ j4 < (ln : Int) ∧ (∃ x48 : Int, cell h5 ((a44.add (Int.toNat j4 * 2)).add 1) = some (.int .i64 x48) ∧ ((CH Tryz.prog 111 #[.pointer d, .int .i64 x48] h5 (fun r50 h51 => ∃ y52 : Int, r50 = .int .i64 y52 ∧ (cell h51 (a40.add 3) = some (.slice x42A x42n x42c) ∧ (∃ a54 : Addr, x42A = some a54 ∧ (0 : Int) ≤ y52 ∧ y52 < (x42n : Int) ∧ (∃ x58_0 : Int, ∃ x58_1A : Option Addr, ∃ x58_1n : Nat, ∃ x58_1c : Nat, ∃ x58_2A : Option Addr, ∃ x58_2n : Nat, ∃ x58_2c : Nat, Row h51 (a54.add (Int.toNat y52 * 3)) [.int .i64 x58_0, .slice x58_1A x58_1n x58_1c, .slice x58_2A x58_2n x58_2c] ∧ (∀ b61 h60, b61 = Array.size h51 → h60 = Array.push h51 (.cells #[.int .i64 0, .slice none 0 0, .slice none 0 0] 160) → (cell h60 (a40.add 3) = some (.slice x42A x42n x42c) ∧ (Row h60 (a54.add (Int.toNat y52 * 3)) [.int .i64 x58_0, .slice x58_1A x58_1n x58_1c, .slice x58_2A x58_2n x58_2c] ∧ ((∀ j, j < 3 → Wr h60 (Addr.add (Addr.mk b61 0 none) j)) ∧ ∀ h64, h64 = setRow h60 (Addr.mk b61 0 none) [.int .i64 x58_0, .slice x58_1A x58_1n x58_1c, .slice x58_2A x58_2n x58_2c] 0 → D_treadleref3_Disk_files.J3 R C6 lA ln a_none j3A j3n j3c j4 (Addr.mk b61 0 none) h64))))))))) ∧ ((∀ b71 h70, b71 = Array.size h5 → h70 = Array.push h5 (.cells #[.int .i64 0, .slice none 0 0, .slice none 0 0] 160) → (cell h70 (a40.add 3) = some (.slice x42A x42n x42c) ∧ (cell h70 ((a44.add (Int.toNat j4 * 2)).add 1) = some (.int .i64 x48) ∧ CH Tryz.prog 111 #[.pointer d, .int .i64 x48] h70 (fun r74 h75 => ∃ y76 : Int, r74 = .int .i64 y76 ∧ (cell h75 (a40.add 3) = some (.slice x42A x42n x42c) ∧ (∃ a78 : Addr, x42A = some a78 ∧ (0 : Int) ≤ y76 ∧ y76 < (x42n : Int) ∧ (∃ x82_0 : Int, ∃ x82_1A : Option Addr, ∃ x82_1n : Nat, ∃ x82_1c : Nat, ∃ x82_2A : Option Addr, ∃ x82_2n : Nat, ∃ x82_2c : Nat, Row h75 (a78.add (Int.toNat y76 * 3)) [.int .i64 x82_0, .slice x82_1A x82_1n x82_1c, .slice x82_2A x82_2n x82_2c] ∧ ((∀ j, j < 3 → Wr h75 (Addr.add (Addr.mk b71 0 none) j)) ∧ ∀ h84, h84 = setRow h75 (Addr.mk b71 0 none) [.int .i64 x82_0, .slice x82_1A x82_1n x82_1c, .slice x82_2A x82_2n x82_2c] 0 → D_treadleref3_Disk_files.J3 R C6 lA ln a_none j3A j3n j3c j4 (Addr.mk b71 0 none) h84))))))))))))))) ∧ ((decide (j4 < ((ln : Nat) : Int))) = false → D_treadleref3_Disk_files.J1 R   j3A j3n j3c h5))
def D_treadleref3_Disk_files (R : Value → Hp → Prop) (d : Option Addr) (lA : Option Addr) (ln : Nat) (lc : Nat) (a_none : Bool) (h : Hp) : Prop :=
  (∃ Inv : Option Addr → Nat → Nat → Int → Hp → Nat → Prop, (∃ m, Inv none 0 0 0 h m) ∧ ∀ j3A j3n j3c j4 h5 m, Inv j3A j3n j3c j4 h5 m → D_treadleref3_Disk_files.L2 R  d lA ln a_none (fun j3A j3n j3c j4 h5 => ∃ m1, m1 < m ∧ Inv j3A j3n j3c j4 h5 m1) j3A j3n j3c j4 h5)
set_option maxRecDepth 10000 in
set_option maxHeartbeats 4000000 in
theorem D_treadleref3_Disk_files.sound {R : Value → Hp → Prop} {d : Option Addr} {lA : Option Addr} {ln : Nat} {lc : Nat} {a_none : Bool} {h : Hp} (H : D_treadleref3_Disk_files R  d lA ln lc a_none h) : CH Tryz.prog 98 #[.pointer d, .slice lA ln lc, .bool a_none] h R := by
  refine CHE.enter (n := 53) Tryz.func98 rfl rfl (Nat.le_of_ble_eq_true rfl) ?_
  unfold D_treadleref3_Disk_files at H
  refine VC.seq ?_
  refine VC.region ?_
  refine VL.stepD rfl rfl (by decide) (OE.assignV (v := .slice none 0 0) rfl ?_)
  refine VL.nil ?_
  change VC _ _ _ _ _ _ _
  refine VC.seq ?_
  refine VC.region ?_
  refine VL.stepD rfl rfl (by decide) (OE.assignV (v := .slice none 0 0) rfl ?_)
  refine VL.nil ?_
  change VC _ _ _ _ _ _ _
  refine VC.seqJ (fun f h2 => ∃ j1A : Option Addr, ∃ j1n : Nat, ∃ j1c : Nat, f 7 = (.slice j1A j1n j1c : Value) ∧ D_treadleref3_Disk_files.J1 R   j1A j1n j1c h2) ?_ ?_
  · intro f h2 J
    obtain ⟨j1A, j1n, j1c, hk7, H⟩ := J
    rw [← fr_self f [(7, .slice j1A j1n j1c)] (by simp only [List.mem_cons, List.not_mem_nil, or_false]; rintro p (rfl) <;> assumption)]
    unfold D_treadleref3_Disk_files.J1 at H
    refine VC.seq ?_
    refine VC.region ?_
    refine VL.stepD rfl rfl (by decide) (OE.moveV (v := .slice j1A j1n j1c) rfl ?_)
    refine VL.stepD rfl rfl (by decide) (OE.assignV (v := .slice j1A j1n j1c) rfl ?_)
    refine VL.nil ?_
    change VC _ _ _ _ _ _ _
    refine VC.ret ?_
    exact ⟨rfl, _, ResOK.t1 rfl (v := .slice j1A j1n j1c) rfl, H⟩
  · skip
    refine VC.seq ?_
    refine VC.region ?_
    refine VL.stepD rfl rfl (by decide) (OE.assignV (v := .int .i64 0) rfl ?_)
    refine VL.nil ?_
    change VC _ _ _ _ _ _ _
    refine VC.block ?_
    obtain ⟨Inv, ⟨m0, h0⟩, H⟩ := H
    refine VC.loop (fun ds f h5 m => ds = [] ∧ ∃ j3A : Option Addr, ∃ j3n : Nat, ∃ j3c : Nat, ∃ j4 : Int, f 0 = (.pointer d : Value) ∧ f 1 = (.slice lA ln lc : Value) ∧ f 2 = (.bool a_none : Value) ∧ f 7 = (.slice j3A j3n j3c : Value) ∧ f 8 = (.int .i64 j4 : Value) ∧ Inv j3A j3n j3c j4 h5 m) (m0 := m0) ⟨rfl, none, 0, 0, 0, rfl, rfl, rfl, rfl, rfl, h0⟩ ?_
    intro ds f h5 m I
    obtain ⟨rfl, j3A, j3n, j3c, j4, hk0, hk1, hk2, hk7, hk8, I⟩ := I
    rw [← fr_self f [(0, .pointer d), (1, .slice lA ln lc), (2, .bool a_none), (7, .slice j3A j3n j3c), (8, .int .i64 j4)] (by simp only [List.mem_cons, List.not_mem_nil, or_false]; rintro p (rfl | rfl | rfl | rfl | rfl) <;> assumption)]
    obtain ⟨C6, eC6⟩ : ∃ C6 : Option Addr → Nat → Nat → Int → Hp → Prop, C6 = (fun j3A j3n j3c j4 h5 => ∃ m1, m1 < m ∧ Inv j3A j3n j3c j4 h5 m1) := ⟨_, rfl⟩
    have H : D_treadleref3_Disk_files.L2 R  d lA ln a_none C6 j3A j3n j3c j4 h5 := by rw [eC6]; exact H j3A j3n j3c j4 h5 m I
    unfold D_treadleref3_Disk_files.L2 at H
    refine VC.seq ?_
    refine VC.seq ?_
    refine VC.region ?_
    refine VL.stepD rfl rfl (by decide) (OE.moveV (v := .int .i64 j4) rfl ?_)
    refine VL.stepD rfl rfl (by decide) (OE.moveV (v := .slice lA ln lc) rfl ?_)
    refine VL.stepD rfl rfl (by decide) (OE.lenSlice rfl Tryz.underlying136 ?_)
    refine VL.stepD rfl rfl (by decide) (OE.binI (v := .bool (decide (j4 < ((ln : Nat) : Int)))) rfl rfl rfl ?_)
    refine VL.nil ?_
    change VC _ _ _ _ _ _ _
    refine VC.cond (t := (decide (j4 < ((ln : Nat) : Int)))) rfl (fun e7 => ?_) (fun e7 => ?_)
    · have H := H.1 e7
      refine VC.skip ?_
      change VC _ _ _ _ _ _ _
      refine VC.seq ?_
      refine VC.block ?_
      refine VC.seqJ (fun f h9 => ∃ j8 : Addr, f 0 = (.pointer d : Value) ∧ f 1 = (.slice lA ln lc : Value) ∧ f 2 = (.bool a_none : Value) ∧ f 7 = (.slice j3A j3n j3c : Value) ∧ f 8 = (.int .i64 j4 : Value) ∧ f 9 = (.pointer (some j8) : Value) ∧ D_treadleref3_Disk_files.J3 R C6 lA ln a_none j3A j3n j3c j4 j8 h9) ?_ ?_
      · intro f h9 J
        obtain ⟨j8, hk0, hk1, hk2, hk7, hk8, hk9, H⟩ := J
        rw [← fr_self f [(0, .pointer d), (1, .slice lA ln lc), (2, .bool a_none), (7, .slice j3A j3n j3c), (8, .int .i64 j4), (9, .pointer (some j8))] (by simp only [List.mem_cons, List.not_mem_nil, or_false]; rintro p (rfl | rfl | rfl | rfl | rfl | rfl) <;> assumption)]
        unfold D_treadleref3_Disk_files.J3 at H
        refine VC.seq ?_
        refine VC.region ?_
        refine VL.stepD rfl rfl (by decide) (OE.fieldAddrI (a := j8) (o := 2) rfl Tryz.underlying160 rfl Tryz.i158 (by decide) rfl ?_)
        obtain ⟨x10A, x10n, x10c, hl11, H⟩ := H
        refine VL.stepD rfl rfl (by decide) (OE.load (a := (j8.add 2)) (v := .slice x10A x10n x10c) rfl (LdT.one Tryz.underlying158 rfl hl11) ?_)
        refine VL.stepD rfl rfl (by decide) (OE.lenSlice rfl Tryz.underlying158 ?_)
        refine VL.stepD rfl rfl (by decide) (OE.assignV (v := .int .i64 ((x10n : Nat) : Int)) rfl ?_)
        refine VL.nil ?_
        change VC _ _ _ _ _ _ _
        refine VC.seqJ (fun f h13 => ∃ j12 : Int, f 0 = (.pointer d : Value) ∧ f 1 = (.slice lA ln lc : Value) ∧ f 2 = (.bool a_none : Value) ∧ f 7 = (.slice j3A j3n j3c : Value) ∧ f 8 = (.int .i64 j4 : Value) ∧ f 9 = (.pointer (some j8) : Value) ∧ f 10 = (.int .i64 j12 : Value) ∧ D_treadleref3_Disk_files.J4 R C6 lA ln j3A j3n j3c j4 j8 j12 h13) ?_ ?_
        · intro f h13 J
          obtain ⟨j12, hk0, hk1, hk2, hk7, hk8, hk9, hk10, H⟩ := J
          rw [← fr_self f [(0, .pointer d), (1, .slice lA ln lc), (2, .bool a_none), (7, .slice j3A j3n j3c), (8, .int .i64 j4), (9, .pointer (some j8)), (10, .int .i64 j12)] (by simp only [List.mem_cons, List.not_mem_nil, or_false]; rintro p (rfl | rfl | rfl | rfl | rfl | rfl | rfl) <;> assumption)]
          unfold D_treadleref3_Disk_files.J4 at H
          refine VC.seq ?_
          refine VC.region ?_
          obtain ⟨x14_0, x14_1A, x14_1n, x14_1c, x14_2A, x14_2n, x14_2c, hl15, H⟩ := H
          refine VL.stepD rfl rfl (by decide) (OE.load (a := j8) (v := .agg #[.int .i64 x14_0, .slice x14_1A x14_1n x14_1c, .slice x14_2A x14_2n x14_2c]) rfl (LdT.aggI Tryz.underlying160 rfl Tryz.i160 rfl hl15) ?_)
          refine VL.stepD rfl rfl (by decide) (OE.moveV (v := .int .i64 j12) rfl ?_)
          refine VL.stepD rfl rfl (by decide) (OE.callL (args := [.agg #[.int .i64 x14_0, .slice x14_1A x14_1n x14_1c, .slice x14_2A x14_2n x14_2c], .int .i64 j12]) Tryz.func112 rfl Tryz.nn112 rfl rfl (CHE.mono H (fun r16 h17 H => ?_) (fun _ _ e => e.elim)))
          obtain ⟨y18_0A, y18_0n, y18_0c, y18_1A, y18_1n, y18_1c, rfl, H⟩ := H
          refine VL.stepD rfl rfl (by decide) (OE.moveV (v := .tuple #[.slice y18_0A y18_0n y18_0c, .slice y18_1A y18_1n y18_1c]) rfl ?_)
          refine VL.stepD rfl rfl (by decide) (OE.extract (v := .slice y18_0A y18_0n y18_0c) rfl rfl ?_)
          refine VL.stepD rfl rfl (by decide) (OE.extract (v := .slice y18_1A y18_1n y18_1c) rfl rfl ?_)
          refine VL.stepD rfl rfl (by decide) (OE.assignV (v := .slice y18_0A y18_0n y18_0c) rfl ?_)
          refine VL.stepD rfl rfl (by decide) (OE.assignV (v := .slice y18_1A y18_1n y18_1c) rfl ?_)
          refine VL.nil ?_
          change VC _ _ _ _ _ _ _
          refine VC.region ?_
          refine VL.stepD rfl rfl (by decide) (OE.moveV (v := .slice j3A j3n j3c) rfl ?_)
          refine VL.stepD rfl rfl (by decide) (OE.moveV (v := .slice lA ln lc) rfl ?_)
          refine VL.stepD rfl rfl (by decide) (OE.moveV (v := .int .i64 j4) rfl ?_)
          obtain ⟨a19, e20, z21, z22, H⟩ := H
          refine VL.stepD rfl rfl (by decide) (OE.indexAddrI (sz := 2) rfl rfl Tryz.underlying136 Tryz.i157 e20 z21 z22 ?_)
          refine VL.stepD rfl rfl (by decide) (OE.fieldAddrI (a := (a19.add (Int.toNat j4 * 2))) (o := 0) rfl Tryz.underlying157 rfl Tryz.i9 (by decide) rfl ?_)
          obtain ⟨x23, hl24, H⟩ := H
          refine VL.stepD rfl rfl (by decide) (OE.load (a := (a19.add (Int.toNat j4 * 2))) (v := .string x23) rfl (LdT.one Tryz.underlying9 rfl hl24) ?_)
          refine VL.stepD rfl rfl (by decide) (OE.moveV (v := .slice y18_0A y18_0n y18_0c) rfl ?_)
          refine VL.stepD rfl rfl (by decide) (OE.buildV (ps := [(0, (.string x23 : Value)), (1, (.slice y18_0A y18_0n y18_0c : Value))]) rfl (Tryz.bf22 _ _ _ _) ?_)
          obtain ⟨b26, eb36⟩ : ∃ b26, b26 = Array.size h17 := ⟨_, rfl⟩
          obtain ⟨h25, eh37⟩ : ∃ h25, h25 = Array.push h17 (.cells #[.string x23, .slice y18_0A y18_0n y18_0c] 61) := ⟨_, rfl⟩
          have H := H b26 h25 eb36 eh37
          refine VL.stepD rfl rfl (by decide) (OE.buildSliceE (ps := [(0, (.agg #[.string x23, .slice y18_0A y18_0n y18_0c] : Value))]) (cells := #[.string x23, .slice y18_0A y18_0n y18_0c]) (e := 61) rfl (Tryz.bf23 _ _ _ _) eb36 eh37 ?_)
          obtain ⟨vs27, z28, z29, z30, z31, H⟩ := H
          refine VL.stepD rfl rfl (by decide) (OE.appendV (z := (.agg #[.string ByteArray.empty, .slice none 0 0] : Value)) (sz := 2) (bs := 40) rfl rfl Tryz.underlying42 Tryz.i61 z28 z29 z30 z31 (AppendV.mono H (fun A32 n33 c34 h35 H => ?_)))
          refine VL.stepD rfl rfl (by decide) (OE.assignV (v := .slice A32 n33 c34) rfl ?_)
          refine VL.nil ?_
          change VC _ _ _ _ _ _ _
          refine VC.region ?_
          refine VL.stepD rfl rfl (by decide) (OE.moveV (v := .int .i64 j4) rfl ?_)
          refine VL.stepD rfl rfl (by decide) (OE.binI (v := .int .i64 (IntKind.i64.wrap (j4 + 1))) rfl rfl rfl ?_)
          refine VL.stepD rfl rfl (by decide) (OE.assignV (v := .int .i64 (IntKind.i64.wrap (j4 + 1))) rfl ?_)
          refine VL.nil ?_
          rw [eC6] at H
          obtain ⟨m1, hm1, H⟩ := H
          exact ⟨m1, hm1, rfl, A32, n33, c34, (IntKind.i64.wrap (j4 + 1)), rfl, rfl, rfl, rfl, rfl, H⟩
        · skip
          refine VC.seq ?_
          refine VC.region ?_
          refine VL.stepD rfl rfl (by decide) (OE.moveV (v := .bool a_none) rfl ?_)
          refine VL.nil ?_
          change VC _ _ _ _ _ _ _
          refine VC.cond (t := a_none) rfl (fun e39 => ?_) (fun e39 => ?_)
          · have H := H.1 e39
            refine VC.region ?_
            refine VL.stepD rfl rfl (by decide) (OE.assignV (v := .int .i64 0) rfl ?_)
            refine VL.nil ?_
            exact ⟨rfl, 0, rfl, rfl, rfl, rfl, rfl, rfl, rfl, H⟩
          · have H := H.2 e39
            refine VC.skip ?_
            exact ⟨rfl, ((x10n : Nat) : Int), rfl, rfl, rfl, rfl, rfl, rfl, rfl, H⟩
      · skip
        refine VC.drawsS Tryz.mixed (by kernel_rfl) (by kernel_rfl) (fun st hd => ?_)
        refine DW.still (i := 0) (v := .pointer d) (by kernel_rfl) ?_
        obtain ⟨a40, e41, H⟩ := H
        refine DW.still (i := 1) (v := .pointer (some a40)) (by kernel_rfl) ?_
        refine DW.still (i := 2) (v := .pointer (some (a40.add 3))) (by kernel_rfl) ?_
        obtain ⟨x42A, x42n, x42c, hl43, H⟩ := H
        refine DW.still (i := 3) (v := .slice x42A x42n x42c) (by kernel_rfl) ?_
        refine DW.still (i := 4) (v := .pointer d) (by kernel_rfl) ?_
        refine DW.still (i := 5) (v := .slice lA ln lc) (by kernel_rfl) ?_
        refine DW.still (i := 6) (v := .int .i64 j4) (by kernel_rfl) ?_
        obtain ⟨a44, e45, z46, z47, H⟩ := H
        refine DW.still (i := 7) (v := .pointer (some (a44.add (Int.toNat j4 * 2)))) (by kernel_rfl) ?_
        refine DW.still (i := 8) (v := .pointer (some ((a44.add (Int.toNat j4 * 2)).add 1))) (by kernel_rfl) ?_
        obtain ⟨x48, hl49, H⟩ := H
        refine DW.still (i := 9) (v := .int .i64 x48) (by kernel_rfl) ?_
        refine DW.louds st hd 10 [13] (by kernel_rfl) ⟨.inr (YD.u (fr (fun _ => undef) [(27, (.pointer (some ((a44.add (Int.toNat j4 * 2)).add 1)) : Value))]) st rfl rfl (by kernel_rfl) (OE.load (a := ((a44.add (Int.toNat j4 * 2)).add 1)) (v := .int .i64 x48) rfl (LdT.one Tryz.underlying3 rfl hl49) ⟨rfl, rfl⟩)), .inr (YD.u (fr (fun _ => undef) [(26, (.pointer (some (a44.add (Int.toNat j4 * 2))) : Value))]) st rfl rfl (by kernel_rfl) (OE.fieldAddrI (a := (a44.add (Int.toNat j4 * 2))) (o := 1) rfl Tryz.underlying157 rfl Tryz.i3 (by decide) rfl ⟨rfl, rfl⟩)), .inr (YD.u (fr (fun _ => undef) [(24, (.slice lA ln lc : Value)), (25, (.int .i64 j4 : Value))]) st rfl rfl (by kernel_rfl) (OE.indexAddrI (sz := 2) rfl rfl Tryz.underlying136 Tryz.i157 e45 z46 z47 ⟨rfl, rfl⟩)), .inr (YD.u (fr (fun _ => undef) [(8, (.int .i64 j4 : Value))]) st rfl rfl (by kernel_rfl) (OE.moveV (v := .int .i64 j4) rfl ⟨rfl, rfl⟩)), .inr (YD.u (fr (fun _ => undef) [(1, (.slice lA ln lc : Value))]) st rfl rfl (by kernel_rfl) (OE.moveV (v := .slice lA ln lc) rfl ⟨rfl, rfl⟩)), .inr (YD.u (fr (fun _ => undef) [(0, (.pointer d : Value))]) st rfl rfl (by kernel_rfl) (OE.moveV (v := .pointer d) rfl ⟨rfl, rfl⟩)), .inr (YD.u (fr (fun _ => undef) [(21, (.pointer (some (a40.add 3)) : Value))]) st rfl rfl (by kernel_rfl) (OE.load (a := (a40.add 3)) (v := .slice x42A x42n x42c) rfl (LdT.one Tryz.underlying135 rfl hl43) ⟨rfl, rfl⟩)), .inr (YD.u (fr (fun _ => undef) [(20, (.pointer (some a40) : Value))]) st rfl rfl (by kernel_rfl) (OE.fieldAddrI (a := a40) (o := 3) rfl Tryz.underlying139 rfl Tryz.i135 (by decide) rfl ⟨rfl, rfl⟩)), .inr (YD.u (fr (fun _ => undef) [(19, (.pointer d : Value))]) st rfl rfl (by kernel_rfl) (OE.nilCheck (a := a40) (congrArg Value.pointer e41) ⟨rfl, rfl⟩)), .inr (YD.u (fr (fun _ => undef) [(0, (.pointer d : Value))]) st rfl rfl (by kernel_rfl) (OE.moveV (v := .pointer d) rfl ⟨rfl, rfl⟩)), trivial⟩ ⟨?_, ?_, trivial⟩
        · have H := H.1
          refine LD1.of (i := 10) (fr (fun _ => undef) [(23, (.pointer d : Value)), (28, (.int .i64 x48 : Value))]) st rfl (by kernel_rfl) (.inl rfl) (OE.callL (args := [.pointer d, .int .i64 x48]) Tryz.func111 rfl Tryz.nn111 rfl rfl (CHE.mono H (fun r50 h51 H => ?_) (fun _ _ e => e.elim)))
          obtain ⟨y52, rfl, H⟩ := H
          obtain ⟨hs53, H⟩ := H
          obtain ⟨a54, e55, z56, z57, H⟩ := H
          refine DW.still (i := 11) (v := .pointer (some (a54.add (Int.toNat y52 * 3)))) (by kernel_rfl) ?_
          obtain ⟨x58_0, x58_1A, x58_1n, x58_1c, x58_2A, x58_2n, x58_2c, hl59, H⟩ := H
          refine DW.still (i := 12) (v := .agg #[.int .i64 x58_0, .slice x58_1A x58_1n x58_1c, .slice x58_2A x58_2n x58_2c]) (by kernel_rfl) ?_
          obtain ⟨b61, eb67⟩ : ∃ b61, b61 = Array.size h51 := ⟨_, rfl⟩
          obtain ⟨h60, eh68⟩ : ∃ h60, h60 = Array.push h51 (.cells #[.int .i64 0, .slice none 0 0, .slice none 0 0] 160) := ⟨_, rfl⟩
          have H := H b61 h60 eb67 eh68
          refine DW.loudF (fr (fun _ => undef) []) st hd (i := 13) rfl (by kernel_rfl) (.inl rfl) (by kernel_rfl) ⟨.inr (YD.u (fr (fun _ => undef) [(30, (.pointer (some (a54.add (Int.toNat y52 * 3))) : Value))]) st rfl rfl (by kernel_rfl) (OE.load (a := (a54.add (Int.toNat y52 * 3))) (v := .agg #[.int .i64 x58_0, .slice x58_1A x58_1n x58_1c, .slice x58_2A x58_2n x58_2c]) rfl (LdT.aggI Tryz.underlying160 rfl Tryz.i160 rfl hl59) ⟨rfl, rfl⟩)), .inr (YD.u (fr (fun _ => undef) [(22, (.slice x42A x42n x42c : Value)), (29, (.int .i64 y52 : Value))]) st rfl rfl (by kernel_rfl) (OE.indexAddrI (sz := 3) rfl rfl Tryz.underlying135 Tryz.i160 e55 z56 z57 ⟨rfl, rfl⟩)), .inl (by kernel_rfl), .inl (by kernel_rfl), .inl (by kernel_rfl), .inl (by kernel_rfl), .inl (by kernel_rfl), .inl (by kernel_rfl), .inl (by kernel_rfl), .inr (YD.u (fr (fun _ => undef) [(21, (.pointer (some (a40.add 3)) : Value))]) st rfl rfl (by kernel_rfl) (OE.load (a := (a40.add 3)) (v := .slice x42A x42n x42c) rfl (LdT.one Tryz.underlying135 rfl hs53) ⟨rfl, rfl⟩)), .inr (YD.u (fr (fun _ => undef) [(20, (.pointer (some a40) : Value))]) st rfl rfl (by kernel_rfl) (OE.fieldAddrI (a := a40) (o := 3) rfl Tryz.underlying139 rfl Tryz.i135 (by decide) rfl ⟨rfl, rfl⟩)), .inr (YD.u (fr (fun _ => undef) [(19, (.pointer d : Value))]) st rfl rfl (by kernel_rfl) (OE.nilCheck (a := a40) (congrArg Value.pointer e41) ⟨rfl, rfl⟩)), .inr (YD.u (fr (fun _ => undef) [(0, (.pointer d : Value))]) st rfl rfl (by kernel_rfl) (OE.moveV (v := .pointer d) rfl ⟨rfl, rfl⟩)), trivial⟩ (OE.allocE (z := .agg #[.int .i64 0, .slice none 0 0, .slice none 0 0]) Tryz.i160 eb67 eh68 ?_)
          obtain ⟨hs62, hs63, H⟩ := H
          obtain ⟨hw65, H⟩ := H
          obtain ⟨h64, eh66⟩ : ∃ h64, h64 = setRow h60 (Addr.mk b61 0 none) [.int .i64 x58_0, .slice x58_1A x58_1n x58_1c, .slice x58_2A x58_2n x58_2c] 0 := ⟨_, rfl⟩
          have H := H h64 eh66
          refine DW.loudF (fr (fun _ => undef) [(9, (.pointer (some (Addr.mk b61 0 none)) : Value)), (31, (.agg #[.int .i64 x58_0, .slice x58_1A x58_1n x58_1c, .slice x58_2A x58_2n x58_2c] : Value))]) st hd (i := 14) rfl (by kernel_rfl) (.inl rfl) (by kernel_rfl) ⟨.inl (by kernel_rfl), .inr (YD.u (fr (fun _ => undef) [(30, (.pointer (some (a54.add (Int.toNat y52 * 3))) : Value))]) st rfl rfl (by kernel_rfl) (OE.load (a := (a54.add (Int.toNat y52 * 3))) (v := .agg #[.int .i64 x58_0, .slice x58_1A x58_1n x58_1c, .slice x58_2A x58_2n x58_2c]) rfl (LdT.aggI Tryz.underlying160 rfl Tryz.i160 rfl hs63) ⟨rfl, rfl⟩)), .inr (YD.u (fr (fun _ => undef) [(22, (.slice x42A x42n x42c : Value)), (29, (.int .i64 y52 : Value))]) st rfl rfl (by kernel_rfl) (OE.indexAddrI (sz := 3) rfl rfl Tryz.underlying135 Tryz.i160 e55 z56 z57 ⟨rfl, rfl⟩)), .inl (by kernel_rfl), .inl (by kernel_rfl), .inl (by kernel_rfl), .inl (by kernel_rfl), .inl (by kernel_rfl), .inl (by kernel_rfl), .inl (by kernel_rfl), .inr (YD.u (fr (fun _ => undef) [(21, (.pointer (some (a40.add 3)) : Value))]) st rfl rfl (by kernel_rfl) (OE.load (a := (a40.add 3)) (v := .slice x42A x42n x42c) rfl (LdT.one Tryz.underlying135 rfl hs62) ⟨rfl, rfl⟩)), .inr (YD.u (fr (fun _ => undef) [(20, (.pointer (some a40) : Value))]) st rfl rfl (by kernel_rfl) (OE.fieldAddrI (a := a40) (o := 3) rfl Tryz.underlying139 rfl Tryz.i135 (by decide) rfl ⟨rfl, rfl⟩)), .inr (YD.u (fr (fun _ => undef) [(19, (.pointer d : Value))]) st rfl rfl (by kernel_rfl) (OE.nilCheck (a := a40) (congrArg Value.pointer e41) ⟨rfl, rfl⟩)), .inr (YD.u (fr (fun _ => undef) [(0, (.pointer d : Value))]) st rfl rfl (by kernel_rfl) (OE.moveV (v := .pointer d) rfl ⟨rfl, rfl⟩)), trivial⟩ (OE.storeE (a := (Addr.mk b61 0 none)) (v := .agg #[.int .i64 x58_0, .slice x58_1A x58_1n x58_1c, .slice x58_2A x58_2n x58_2c]) rfl rfl (StT.aggI (vs := [.int .i64 x58_0, .slice x58_1A x58_1n x58_1c, .slice x58_2A x58_2n x58_2c]) Tryz.i160 rfl hw65 (by simp [oneC])) eh66 ?_)
          refine DW.finL st hd [(19, (.pointer d : Value)), (20, (.pointer (some a40) : Value)), (21, (.pointer (some (a40.add 3)) : Value)), (22, (.slice x42A x42n x42c : Value)), (23, (.pointer d : Value)), (24, (.slice lA ln lc : Value)), (25, (.int .i64 j4 : Value)), (26, (.pointer (some (a44.add (Int.toNat j4 * 2))) : Value)), (27, (.pointer (some ((a44.add (Int.toNat j4 * 2)).add 1)) : Value)), (28, (.int .i64 x48 : Value)), (29, (.int .i64 y52 : Value)), (30, (.pointer (some (a54.add (Int.toNat y52 * 3))) : Value)), (31, (.agg #[.int .i64 x58_0, .slice x58_1A x58_1n x58_1c, .slice x58_2A x58_2n x58_2c] : Value)), (9, (.pointer (some (Addr.mk b61 0 none)) : Value))] (by kernel_rfl) (by kernel_rfl) ⟨.inl (by kernel_rfl), .inl (by kernel_rfl), .inl (by kernel_rfl), .inl (by kernel_rfl), .inl (by kernel_rfl), .inl (by kernel_rfl), .inl (by kernel_rfl), .inl (by kernel_rfl), .inl (by kernel_rfl), .inl (by kernel_rfl), .inl (by kernel_rfl), .inl (by kernel_rfl), .inl (by kernel_rfl), .inl (by kernel_rfl), .inl (by kernel_rfl), trivial⟩ ?_
          exact ⟨rfl, (Addr.mk b61 0 none), rfl, rfl, rfl, rfl, rfl, rfl, H⟩
        · have H := H.2
          obtain ⟨b71, eb88⟩ : ∃ b71, b71 = Array.size h5 := ⟨_, rfl⟩
          obtain ⟨h70, eh89⟩ : ∃ h70, h70 = Array.push h5 (.cells #[.int .i64 0, .slice none 0 0, .slice none 0 0] 160) := ⟨_, rfl⟩
          have H := H b71 h70 eb88 eh89
          refine LD1.of (i := 13) (fr (fun _ => undef) []) st rfl (by kernel_rfl) (.inl rfl) (OE.allocE (z := .agg #[.int .i64 0, .slice none 0 0, .slice none 0 0]) Tryz.i160 eb88 eh89 ?_)
          obtain ⟨hs72, hs73, H⟩ := H
          refine DW.loudF (fr (fun _ => undef) [(23, (.pointer d : Value)), (28, (.int .i64 x48 : Value))]) st hd (i := 10) rfl (by kernel_rfl) (.inl rfl) (by kernel_rfl) ⟨.inl (by kernel_rfl), .inr (YD.u (fr (fun _ => undef) [(27, (.pointer (some ((a44.add (Int.toNat j4 * 2)).add 1)) : Value))]) st rfl rfl (by kernel_rfl) (OE.load (a := ((a44.add (Int.toNat j4 * 2)).add 1)) (v := .int .i64 x48) rfl (LdT.one Tryz.underlying3 rfl hs73) ⟨rfl, rfl⟩)), .inr (YD.u (fr (fun _ => undef) [(26, (.pointer (some (a44.add (Int.toNat j4 * 2))) : Value))]) st rfl rfl (by kernel_rfl) (OE.fieldAddrI (a := (a44.add (Int.toNat j4 * 2))) (o := 1) rfl Tryz.underlying157 rfl Tryz.i3 (by decide) rfl ⟨rfl, rfl⟩)), .inr (YD.u (fr (fun _ => undef) [(24, (.slice lA ln lc : Value)), (25, (.int .i64 j4 : Value))]) st rfl rfl (by kernel_rfl) (OE.indexAddrI (sz := 2) rfl rfl Tryz.underlying136 Tryz.i157 e45 z46 z47 ⟨rfl, rfl⟩)), .inr (YD.u (fr (fun _ => undef) [(8, (.int .i64 j4 : Value))]) st rfl rfl (by kernel_rfl) (OE.moveV (v := .int .i64 j4) rfl ⟨rfl, rfl⟩)), .inr (YD.u (fr (fun _ => undef) [(1, (.slice lA ln lc : Value))]) st rfl rfl (by kernel_rfl) (OE.moveV (v := .slice lA ln lc) rfl ⟨rfl, rfl⟩)), .inr (YD.u (fr (fun _ => undef) [(0, (.pointer d : Value))]) st rfl rfl (by kernel_rfl) (OE.moveV (v := .pointer d) rfl ⟨rfl, rfl⟩)), .inr (YD.u (fr (fun _ => undef) [(21, (.pointer (some (a40.add 3)) : Value))]) st rfl rfl (by kernel_rfl) (OE.load (a := (a40.add 3)) (v := .slice x42A x42n x42c) rfl (LdT.one Tryz.underlying135 rfl hs72) ⟨rfl, rfl⟩)), .inr (YD.u (fr (fun _ => undef) [(20, (.pointer (some a40) : Value))]) st rfl rfl (by kernel_rfl) (OE.fieldAddrI (a := a40) (o := 3) rfl Tryz.underlying139 rfl Tryz.i135 (by decide) rfl ⟨rfl, rfl⟩)), .inr (YD.u (fr (fun _ => undef) [(19, (.pointer d : Value))]) st rfl rfl (by kernel_rfl) (OE.nilCheck (a := a40) (congrArg Value.pointer e41) ⟨rfl, rfl⟩)), .inr (YD.u (fr (fun _ => undef) [(0, (.pointer d : Value))]) st rfl rfl (by kernel_rfl) (OE.moveV (v := .pointer d) rfl ⟨rfl, rfl⟩)), trivial⟩ (OE.callL (args := [.pointer d, .int .i64 x48]) Tryz.func111 rfl Tryz.nn111 rfl rfl (CHE.mono H (fun r74 h75 H => ?_) (fun _ _ e => e.elim)))
          obtain ⟨y76, rfl, H⟩ := H
          obtain ⟨hs77, H⟩ := H
          obtain ⟨a78, e79, z80, z81, H⟩ := H
          refine DW.still (i := 11) (v := .pointer (some (a78.add (Int.toNat y76 * 3)))) (by kernel_rfl) ?_
          obtain ⟨x82_0, x82_1A, x82_1n, x82_1c, x82_2A, x82_2n, x82_2c, hl83, H⟩ := H
          refine DW.still (i := 12) (v := .agg #[.int .i64 x82_0, .slice x82_1A x82_1n x82_1c, .slice x82_2A x82_2n x82_2c]) (by kernel_rfl) ?_
          obtain ⟨hw85, H⟩ := H
          obtain ⟨h84, eh86⟩ : ∃ h84, h84 = setRow h75 (Addr.mk b71 0 none) [.int .i64 x82_0, .slice x82_1A x82_1n x82_1c, .slice x82_2A x82_2n x82_2c] 0 := ⟨_, rfl⟩
          have H := H h84 eh86
          refine DW.loudF (fr (fun _ => undef) [(9, (.pointer (some (Addr.mk b71 0 none)) : Value)), (31, (.agg #[.int .i64 x82_0, .slice x82_1A x82_1n x82_1c, .slice x82_2A x82_2n x82_2c] : Value))]) st hd (i := 14) rfl (by kernel_rfl) (.inl rfl) (by kernel_rfl) ⟨.inr (YD.u (fr (fun _ => undef) [(30, (.pointer (some (a78.add (Int.toNat y76 * 3))) : Value))]) st rfl rfl (by kernel_rfl) (OE.load (a := (a78.add (Int.toNat y76 * 3))) (v := .agg #[.int .i64 x82_0, .slice x82_1A x82_1n x82_1c, .slice x82_2A x82_2n x82_2c]) rfl (LdT.aggI Tryz.underlying160 rfl Tryz.i160 rfl hl83) ⟨rfl, rfl⟩)), .inr (YD.u (fr (fun _ => undef) [(22, (.slice x42A x42n x42c : Value)), (29, (.int .i64 y76 : Value))]) st rfl rfl (by kernel_rfl) (OE.indexAddrI (sz := 3) rfl rfl Tryz.underlying135 Tryz.i160 e79 z80 z81 ⟨rfl, rfl⟩)), .inl (by kernel_rfl), .inl (by kernel_rfl), .inl (by kernel_rfl), .inl (by kernel_rfl), .inl (by kernel_rfl), .inl (by kernel_rfl), .inl (by kernel_rfl), .inl (by kernel_rfl), .inr (YD.u (fr (fun _ => undef) [(21, (.pointer (some (a40.add 3)) : Value))]) st rfl rfl (by kernel_rfl) (OE.load (a := (a40.add 3)) (v := .slice x42A x42n x42c) rfl (LdT.one Tryz.underlying135 rfl hs77) ⟨rfl, rfl⟩)), .inr (YD.u (fr (fun _ => undef) [(20, (.pointer (some a40) : Value))]) st rfl rfl (by kernel_rfl) (OE.fieldAddrI (a := a40) (o := 3) rfl Tryz.underlying139 rfl Tryz.i135 (by decide) rfl ⟨rfl, rfl⟩)), .inr (YD.u (fr (fun _ => undef) [(19, (.pointer d : Value))]) st rfl rfl (by kernel_rfl) (OE.nilCheck (a := a40) (congrArg Value.pointer e41) ⟨rfl, rfl⟩)), .inr (YD.u (fr (fun _ => undef) [(0, (.pointer d : Value))]) st rfl rfl (by kernel_rfl) (OE.moveV (v := .pointer d) rfl ⟨rfl, rfl⟩)), trivial⟩ (OE.storeE (a := (Addr.mk b71 0 none)) (v := .agg #[.int .i64 x82_0, .slice x82_1A x82_1n x82_1c, .slice x82_2A x82_2n x82_2c]) rfl rfl (StT.aggI (vs := [.int .i64 x82_0, .slice x82_1A x82_1n x82_1c, .slice x82_2A x82_2n x82_2c]) Tryz.i160 rfl hw85 (by simp [oneC])) eh86 ?_)
          refine DW.finL st hd [(19, (.pointer d : Value)), (20, (.pointer (some a40) : Value)), (21, (.pointer (some (a40.add 3)) : Value)), (22, (.slice x42A x42n x42c : Value)), (23, (.pointer d : Value)), (24, (.slice lA ln lc : Value)), (25, (.int .i64 j4 : Value)), (26, (.pointer (some (a44.add (Int.toNat j4 * 2))) : Value)), (27, (.pointer (some ((a44.add (Int.toNat j4 * 2)).add 1)) : Value)), (28, (.int .i64 x48 : Value)), (9, (.pointer (some (Addr.mk b71 0 none)) : Value)), (29, (.int .i64 y76 : Value)), (30, (.pointer (some (a78.add (Int.toNat y76 * 3))) : Value)), (31, (.agg #[.int .i64 x82_0, .slice x82_1A x82_1n x82_1c, .slice x82_2A x82_2n x82_2c] : Value))] (by kernel_rfl) (by kernel_rfl) ⟨.inl (by kernel_rfl), .inl (by kernel_rfl), .inl (by kernel_rfl), .inl (by kernel_rfl), .inl (by kernel_rfl), .inl (by kernel_rfl), .inl (by kernel_rfl), .inl (by kernel_rfl), .inl (by kernel_rfl), .inl (by kernel_rfl), .inl (by kernel_rfl), .inl (by kernel_rfl), .inl (by kernel_rfl), .inl (by kernel_rfl), .inl (by kernel_rfl), trivial⟩ ?_
          exact ⟨rfl, (Addr.mk b71 0 none), rfl, rfl, rfl, rfl, rfl, rfl, H⟩
    · have H := H.2 e7
      refine VC.exit ?_
      exact ⟨rfl, j3A, j3n, j3c, rfl, H⟩

def D_treadleref3_Disk_names.J1 (R : Value → Hp → Prop)   (j5A : Option Addr) (j5n : Nat) (j5c : Nat) (h6 : Hp) : Prop :=
  R (.slice j5A j5n j5c) h6
def D_treadleref3_Disk_names.L2 (R : Value → Hp → Prop)  (a_n : Int) (a1 : Addr) (C10 : Option Addr → Nat → Nat → Int → Hp → Prop) (j7A : Option Addr) (j7n : Nat) (j7c : Nat) (j8 : Int) (h9 : Hp) : Prop :=
  (((decide (j8 < a_n)) = true → (∃ x12A : Option Addr, ∃ x12n : Nat, ∃ x12c : Nat, cell h9 (a1.add 5) = some (.slice x12A x12n x12c) ∧ (∃ a14 : Addr, x12A = some a14 ∧ (0 : Int) ≤ j8 ∧ j8 < (x12n : Int) ∧ (∃ x18_0 : ByteArray, ∃ x18_1 : ByteArray, ∃ x18_2 : Int, Row h9 (a14.add (Int.toNat j8 * 3)) [.string x18_0, .string x18_1, .int .i64 x18_2] ∧ CH Tryz.prog 120 #[.slice j7A j7n j7c, .agg #[.string x18_0, .string x18_1, .int .i64 x18_2]] h9 (fun r20 h21 => ∃ y22A : Option Addr, ∃ y22n : Nat, ∃ y22c : Nat, r20 = .slice y22A y22n y22c ∧ C10 y22A y22n y22c (IntKind.i64.wrap (j8 + 1)) h21))))) ∧ ((decide (j8 < a_n)) = false → D_treadleref3_Disk_names.J1 R   j7A j7n j7c h9))
def D_treadleref3_Disk_names (R : Value → Hp → Prop) (d : Option Addr) (a_n : Int) (h : Hp) : Prop :=
  (∃ a1 : Addr, d = some a1 ∧ (∃ x3A : Option Addr, ∃ x3n : Nat, ∃ x3c : Nat, cell h (a1.add 4) = some (.slice x3A x3n x3c) ∧ (∃ Inv : Option Addr → Nat → Nat → Int → Hp → Nat → Prop, (∃ m, Inv x3A x3n x3c 0 h m) ∧ ∀ j7A j7n j7c j8 h9 m, Inv j7A j7n j7c j8 h9 m → D_treadleref3_Disk_names.L2 R  a_n a1 (fun j7A j7n j7c j8 h9 => ∃ m1, m1 < m ∧ Inv j7A j7n j7c j8 h9 m1) j7A j7n j7c j8 h9)))
set_option maxRecDepth 10000 in
set_option maxHeartbeats 4000000 in
theorem D_treadleref3_Disk_names.sound {R : Value → Hp → Prop} {d : Option Addr} {a_n : Int} {h : Hp} (H : D_treadleref3_Disk_names R  d a_n h) : CH Tryz.prog 110 #[.pointer d, .int .i64 a_n] h R := by
  refine CHE.enter (n := 26) Tryz.func110 rfl rfl (Nat.le_of_ble_eq_true rfl) ?_
  unfold D_treadleref3_Disk_names at H
  refine VC.seq ?_
  refine VC.region ?_
  refine VL.stepD rfl rfl (by decide) (OE.assignV (v := .slice none 0 0) rfl ?_)
  refine VL.nil ?_
  change VC _ _ _ _ _ _ _
  refine VC.seq ?_
  refine VC.region ?_
  refine VL.stepD rfl rfl (by decide) (OE.moveV (v := .pointer d) rfl ?_)
  obtain ⟨a1, e2, H⟩ := H
  refine VL.stepD rfl rfl (by decide) (OE.nilCheck (a := a1) (congrArg Value.pointer e2) ?_)
  refine VL.stepD rfl rfl (by decide) (OE.fieldAddrI (a := a1) (o := 4) rfl Tryz.underlying139 rfl Tryz.i136 (by decide) rfl ?_)
  obtain ⟨x3A, x3n, x3c, hl4, H⟩ := H
  refine VL.stepD rfl rfl (by decide) (OE.load (a := (a1.add 4)) (v := .slice x3A x3n x3c) rfl (LdT.one Tryz.underlying136 rfl hl4) ?_)
  refine VL.stepD rfl rfl (by decide) (OE.assignV (v := .slice x3A x3n x3c) rfl ?_)
  refine VL.nil ?_
  change VC _ _ _ _ _ _ _
  refine VC.seqJ (fun f h6 => ∃ j5A : Option Addr, ∃ j5n : Nat, ∃ j5c : Nat, f 5 = (.slice j5A j5n j5c : Value) ∧ D_treadleref3_Disk_names.J1 R   j5A j5n j5c h6) ?_ ?_
  · intro f h6 J
    obtain ⟨j5A, j5n, j5c, hk5, H⟩ := J
    rw [← fr_self f [(5, .slice j5A j5n j5c)] (by simp only [List.mem_cons, List.not_mem_nil, or_false]; rintro p (rfl) <;> assumption)]
    unfold D_treadleref3_Disk_names.J1 at H
    refine VC.seq ?_
    refine VC.region ?_
    refine VL.stepD rfl rfl (by decide) (OE.moveV (v := .slice j5A j5n j5c) rfl ?_)
    refine VL.stepD rfl rfl (by decide) (OE.assignV (v := .slice j5A j5n j5c) rfl ?_)
    refine VL.nil ?_
    change VC _ _ _ _ _ _ _
    refine VC.ret ?_
    exact ⟨rfl, _, ResOK.t1 rfl (v := .slice j5A j5n j5c) rfl, H⟩
  · skip
    refine VC.seq ?_
    refine VC.region ?_
    refine VL.stepD rfl rfl (by decide) (OE.assignV (v := .int .i64 0) rfl ?_)
    refine VL.nil ?_
    change VC _ _ _ _ _ _ _
    refine VC.block ?_
    obtain ⟨Inv, ⟨m0, h0⟩, H⟩ := H
    refine VC.loop (fun ds f h9 m => ds = [] ∧ ∃ j7A : Option Addr, ∃ j7n : Nat, ∃ j7c : Nat, ∃ j8 : Int, f 0 = (.pointer d : Value) ∧ f 1 = (.int .i64 a_n : Value) ∧ f 5 = (.slice j7A j7n j7c : Value) ∧ f 6 = (.int .i64 j8 : Value) ∧ Inv j7A j7n j7c j8 h9 m) (m0 := m0) ⟨rfl, x3A, x3n, x3c, 0, rfl, rfl, rfl, rfl, h0⟩ ?_
    intro ds f h9 m I
    obtain ⟨rfl, j7A, j7n, j7c, j8, hk0, hk1, hk5, hk6, I⟩ := I
    rw [← fr_self f [(0, .pointer d), (1, .int .i64 a_n), (5, .slice j7A j7n j7c), (6, .int .i64 j8)] (by simp only [List.mem_cons, List.not_mem_nil, or_false]; rintro p (rfl | rfl | rfl | rfl) <;> assumption)]
    obtain ⟨C10, eC10⟩ : ∃ C10 : Option Addr → Nat → Nat → Int → Hp → Prop, C10 = (fun j7A j7n j7c j8 h9 => ∃ m1, m1 < m ∧ Inv j7A j7n j7c j8 h9 m1) := ⟨_, rfl⟩
    have H : D_treadleref3_Disk_names.L2 R  a_n a1 C10 j7A j7n j7c j8 h9 := by rw [eC10]; exact H j7A j7n j7c j8 h9 m I
    unfold D_treadleref3_Disk_names.L2 at H
    refine VC.seq ?_
    refine VC.seq ?_
    refine VC.region ?_
    refine VL.stepD rfl rfl (by decide) (OE.moveV (v := .int .i64 j8) rfl ?_)
    refine VL.stepD rfl rfl (by decide) (OE.moveV (v := .int .i64 a_n) rfl ?_)
    refine VL.stepD rfl rfl (by decide) (OE.binI (v := .bool (decide (j8 < a_n))) rfl rfl rfl ?_)
    refine VL.nil ?_
    change VC _ _ _ _ _ _ _
    refine VC.cond (t := (decide (j8 < a_n))) rfl (fun e11 => ?_) (fun e11 => ?_)
    · have H := H.1 e11
      refine VC.skip ?_
      change VC _ _ _ _ _ _ _
      refine VC.seq ?_
      refine VC.block ?_
      refine VC.region ?_
      refine VL.stepD rfl rfl (by decide) (OE.moveV (v := .slice j7A j7n j7c) rfl ?_)
      refine VL.stepD rfl rfl (by decide) (OE.moveV (v := .pointer d) rfl ?_)
      refine VL.stepD rfl rfl (by decide) (OE.nilCheck (a := a1) (congrArg Value.pointer e2) ?_)
      refine VL.stepD rfl rfl (by decide) (OE.fieldAddrI (a := a1) (o := 5) rfl Tryz.underlying139 rfl Tryz.i137 (by decide) rfl ?_)
      obtain ⟨x12A, x12n, x12c, hl13, H⟩ := H
      refine VL.stepD rfl rfl (by decide) (OE.load (a := (a1.add 5)) (v := .slice x12A x12n x12c) rfl (LdT.one Tryz.underlying137 rfl hl13) ?_)
      refine VL.stepD rfl rfl (by decide) (OE.moveV (v := .int .i64 j8) rfl ?_)
      obtain ⟨a14, e15, z16, z17, H⟩ := H
      refine VL.stepD rfl rfl (by decide) (OE.indexAddrI (sz := 3) rfl rfl Tryz.underlying137 Tryz.i187 e15 z16 z17 ?_)
      obtain ⟨x18_0, x18_1, x18_2, hl19, H⟩ := H
      refine VL.stepD rfl rfl (by decide) (OE.load (a := (a14.add (Int.toNat j8 * 3))) (v := .agg #[.string x18_0, .string x18_1, .int .i64 x18_2]) rfl (LdT.aggI Tryz.underlying187 rfl Tryz.i187 rfl hl19) ?_)
      refine VL.stepD rfl rfl (by decide) (OE.callL (args := [.slice j7A j7n j7c, .agg #[.string x18_0, .string x18_1, .int .i64 x18_2]]) Tryz.func120 rfl Tryz.nn120 rfl rfl (CHE.mono H (fun r20 h21 H => ?_) (fun _ _ e => e.elim)))
      obtain ⟨y22A, y22n, y22c, rfl, H⟩ := H
      refine VL.stepD rfl rfl (by decide) (OE.assignV (v := .slice y22A y22n y22c) rfl ?_)
      refine VL.nil ?_
      change VC _ _ _ _ _ _ _
      refine VC.region ?_
      refine VL.stepD rfl rfl (by decide) (OE.moveV (v := .int .i64 j8) rfl ?_)
      refine VL.stepD rfl rfl (by decide) (OE.binI (v := .int .i64 (IntKind.i64.wrap (j8 + 1))) rfl rfl rfl ?_)
      refine VL.stepD rfl rfl (by decide) (OE.assignV (v := .int .i64 (IntKind.i64.wrap (j8 + 1))) rfl ?_)
      refine VL.nil ?_
      rw [eC10] at H
      obtain ⟨m1, hm1, H⟩ := H
      exact ⟨m1, hm1, rfl, y22A, y22n, y22c, (IntKind.i64.wrap (j8 + 1)), rfl, rfl, rfl, rfl, H⟩
    · have H := H.2 e11
      refine VC.exit ?_
      exact ⟨rfl, j7A, j7n, j7c, rfl, H⟩

end Go.Proofs
