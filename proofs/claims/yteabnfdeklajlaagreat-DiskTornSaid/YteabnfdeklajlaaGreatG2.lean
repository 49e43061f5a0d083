/- Part of a proof, by program out of hand-written texts. -/
import Derived.Test.YteabnfdeklajlaaGreatF1
set_option linter.unusedVariables false
set_option linter.unusedSimpArgs false
set_option maxRecDepth 10000
namespace Go.Proofs
open Go Go.V
def D_disk_Disk_Files (R : Value → Hp → Prop) (d : Option Addr) (h : Hp) : Prop :=
  (∀ b2 h1, b2 = Array.size h → h1 = Array.push h (.cells #[.pointer d] 24) → (∃ x3 : Option Addr, cell h1 (Addr.mk b2 0 none) = some (.pointer x3) ∧ (((Option.isNone x3) = true → R (.slice none 0 0) h1) ∧ ((Option.isNone x3) = false → (∃ x6 : Option Addr, cell h1 (Addr.mk b2 0 none) = some (.pointer x6) ∧ CH Tryz.prog 59 #[.pointer x6] h1 (fun r8 h9 => ∃ y10 : Option Nat, r8 = .map y10 ∧ CH Tryz.prog 70 #[.map y10, .func (.func 90) #[] #[.pointer (some (Addr.mk b2 0 none))]] h9 (fun r11 h12 => ∃ y13A : Option Addr, ∃ y13n : Nat, ∃ y13c : Nat, r11 = .slice y13A y13n y13c ∧ R (.slice y13A y13n y13c) h12)))))))
set_option maxRecDepth 10000 in
set_option maxHeartbeats 4000000 in
theorem D_disk_Disk_Files.sound {R : Value → Hp → Prop} {d : Option Addr} {h : Hp} (H : D_disk_Disk_Files R  d h) : CH Tryz.prog 35 #[.pointer d] h R := by
  refine CHE.enter (n := 9) Tryz.func35 rfl rfl (Nat.le_of_ble_eq_true rfl) ?_
  unfold D_disk_Disk_Files at H
  refine VC.seq ?_
  refine VC.region ?_
  obtain ⟨b2, eb16⟩ : ∃ b2, b2 = Array.size h := ⟨_, rfl⟩
  obtain ⟨h1, eh17⟩ : ∃ h1, h1 = Array.push h (.cells #[.pointer d] 24) := ⟨_, rfl⟩
  have H := H b2 h1 eb16 eh17
  refine VL.stepD rfl rfl (by decide) (OE.boxE (v := .pointer d) rfl eb16 eh17 ?_)
  refine VL.stepD rfl rfl (by decide) (OE.assignV (v := .slice none 0 0) rfl ?_)
  refine VL.nil ?_
  change VC _ _ _ _ _ _ _
  refine VC.seq ?_
  refine VC.seq ?_
  refine VC.region ?_
  obtain ⟨x3, hl4, H⟩ := H
  refine VL.stepD rfl rfl (by decide) (OE.load (a := (Addr.mk b2 0 none)) (v := .pointer x3) rfl (LdT.one Tryz.underlying24 rfl hl4) ?_)
  refine VL.stepD rfl rfl (by decide) (OE.ptrNilV (b := (Option.isNone x3)) (p := x3) (q := none) rfl rfl Tryz.underlying24 (.inr rfl) (by simp) ?_)
  refine VL.nil ?_
  change VC _ _ _ _ _ _ _
  refine VC.cond (t := (Option.isNone x3)) rfl (fun e5 => ?_) (fun e5 => ?_)
  · have H := H.1 e5
    refine VC.seq ?_
    refine VC.region ?_
    refine VL.stepD rfl rfl (by decide) (OE.assignV (v := .slice none 0 0) rfl ?_)
    refine VL.nil ?_
    change VC _ _ _ _ _ _ _
    refine VC.ret ?_
    exact ⟨rfl, _, ResOK.t1 rfl (v := .slice none 0 0) rfl, H⟩
  · have H := H.2 e5
    refine VC.skip ?_
    change VC _ _ _ _ _ _ _
    refine VC.seq ?_
    refine VC.region ?_
    obtain ⟨x6, hl7, H⟩ := H
    refine VL.stepD rfl rfl (by decide) (OE.load (a := (Addr.mk b2 0 none)) (v := .pointer x6) rfl (LdT.one Tryz.underlying24 rfl hl7) ?_)
    refine VL.stepD rfl rfl (by decide) (OE.callL (args := [.pointer x6]) Tryz.func59 rfl Tryz.nn59 rfl rfl (CHE.mono H (fun r8 h9 H => ?_) (fun _ _ e => e.elim)))
    obtain ⟨y10, rfl, H⟩ := H
    refine VL.stepD rfl rfl (by decide) (OE.makeFuncL (l := [.pointer (some (Addr.mk b2 0 none))]) rfl ?_)
    refine VL.stepD rfl rfl (by decide) (OE.callL (args := [.map y10, .func (.func 90) #[] #[.pointer (some (Addr.mk b2 0 none))]]) Tryz.func70 rfl Tryz.nn70 rfl rfl (CHE.mono H (fun r11 h12 H => ?_) (fun _ _ e => e.elim)))
    obtain ⟨y13A, y13n, y13c, rfl, H⟩ := H
    refine VL.stepD rfl rfl (by decide) (OE.assignV (v := .slice y13A y13n y13c) rfl ?_)
    refine VL.nil ?_
    change VC _ _ _ _ _ _ _
    refine VC.ret ?_
    exact ⟨rfl, _, ResOK.t1 rfl (v := .slice y13A y13n y13c) rfl, H⟩

def D_disk_Disk_Off (R : Value → Hp → Prop) (d : Option Addr) (h : Hp) : Prop :=
  (((!(Option.isNone d)) = true → (∃ a2 : Addr, d = some a2 ∧ (∃ x4 : Bool, cell h (a2.add 10) = some (.bool x4) ∧ R (.bool x4) h))) ∧ ((!(Option.isNone d)) = false → R (.bool false) h))
set_option maxRecDepth 10000 in
set_option maxHeartbeats 4000000 in
theorem D_disk_Disk_Off.sound {R : Value → Hp → Prop} {d : Option Addr} {h : Hp} (H : D_disk_Disk_Off R  d h) : CH Tryz.prog 36 #[.pointer d] h R := by
  refine CHE.enter (n := 11) Tryz.func36 rfl rfl (Nat.le_of_ble_eq_true rfl) ?_
  unfold D_disk_Disk_Off at H
  refine VC.seq ?_
  refine VC.region ?_
  refine VL.stepD rfl rfl (by decide) (OE.assignV (v := .bool false) rfl ?_)
  refine VL.nil ?_
  change VC _ _ _ _ _ _ _
  refine VC.seq ?_
  refine VC.region ?_
  refine VL.stepD rfl rfl (by decide) (OE.moveV (v := .pointer d) rfl ?_)
  refine VL.stepD rfl rfl (by decide) (OE.ptrNilV (b := (!(Option.isNone d))) (p := d) (q := none) rfl rfl Tryz.underlying24 (.inr rfl) (by simp) ?_)
  refine VL.stepD rfl rfl (by decide) (OE.moveV (v := .bool (!(Option.isNone d))) rfl ?_)
  refine boolSplit ((!(Option.isNone d))) (fun e1 => ?_) (fun e1 => ?_)
  · have H := H.1 e1
    refine VL.gstepD rfl rfl (by decide) (congrArg Value.bool e1) rfl (by decide) (OE.moveV (v := .pointer d) rfl ?_)
    obtain ⟨a2, e3, H⟩ := H
    refine VL.gstepD rfl rfl (by decide) (congrArg Value.bool e1) rfl (by decide) (OE.nilCheck (a := a2) (congrArg Value.pointer e3) ?_)
    refine VL.gstepD rfl rfl (by decide) (congrArg Value.bool e1) rfl (by decide) (OE.fieldAddrI (a := a2) (o := 10) rfl Tryz.underlying104 rfl Tryz.i4 (by decide) rfl ?_)
    obtain ⟨x4, hl5, H⟩ := H
    refine VL.gstepD rfl rfl (by decide) (congrArg Value.bool e1) rfl (by decide) (OE.load (a := (a2.add 10)) (v := .bool x4) rfl (LdT.one Tryz.underlying4 rfl hl5) ?_)
    refine VL.stepD rfl rfl (by decide) (OE.pickV (t := true) (v := .bool x4) (congrArg Value.bool e1) rfl ?_)
    refine VL.stepD rfl rfl (by decide) (OE.assignV (v := .bool x4) rfl ?_)
    refine VL.nil ?_
    change VC _ _ _ _ _ _ _
    refine VC.ret ?_
    exact ⟨rfl, _, ResOK.t1 rfl (v := .bool x4) rfl, H⟩
  · have H := H.2 e1
    refine VL.gskipD rfl rfl (by decide) (.inl (congrArg Value.bool e1)) rfl (by decide) ?_
    refine VL.gskipD rfl rfl (by decide) (.inl (congrArg Value.bool e1)) rfl (by decide) ?_
    refine VL.gskipD rfl rfl (by decide) (.inl (congrArg Value.bool e1)) rfl (by decide) ?_
    refine VL.gskipD rfl rfl (by decide) (.inl (congrArg Value.bool e1)) rfl (by decide) ?_
    refine VL.stepD rfl rfl (by decide) (OE.pickV (t := false) (v := .bool false) (congrArg Value.bool e1) rfl ?_)
    refine VL.stepD rfl rfl (by decide) (OE.assignV (v := .bool false) rfl ?_)
    refine VL.nil ?_
    change VC _ _ _ _ _ _ _
    refine VC.ret ?_
    exact ⟨rfl, _, ResOK.t1 rfl (v := .bool false) rfl, H⟩

def D_disk_Disk_Strokes (R : Value → Hp → Prop) (d : Option Addr) (h : Hp) : Prop :=
  (((Option.isNone d) = true → R (.int .i64 0) h) ∧ ((Option.isNone d) = false → (∃ a2 : Addr, d = some a2 ∧ (∃ x4 : Int, cell h (a2.add 8) = some (.int .i64 x4) ∧ R (.int .i64 x4) h))))
set_option maxRecDepth 10000 in
set_option maxHeartbeats 4000000 in
theorem D_disk_Disk_Strokes.sound {R : Value → Hp → Prop} {d : Option Addr} {h : Hp} (H : D_disk_Disk_Strokes R  d h) : CH Tryz.prog 37 #[.pointer d] h R := by
  refine CHE.enter (n := 9) Tryz.func37 rfl rfl (Nat.le_of_ble_eq_true rfl) ?_
  unfold D_disk_Disk_Strokes at H
  refine VC.seq ?_
  refine VC.region ?_
  refine VL.stepD rfl rfl (by decide) (OE.assignV (v := .int .i64 0) rfl ?_)
  refine VL.nil ?_
  change VC _ _ _ _ _ _ _
  refine VC.seq ?_
  refine VC.seq ?_
  refine VC.region ?_
  refine VL.stepD rfl rfl (by decide) (OE.moveV (v := .pointer d) rfl ?_)
  refine VL.stepD rfl rfl (by decide) (OE.ptrNilV (b := (Option.isNone d)) (p := d) (q := none) rfl rfl Tryz.underlying24 (.inr rfl) (by simp) ?_)
  refine VL.nil ?_
  change VC _ _ _ _ _ _ _
  refine VC.cond (t := (Option.isNone d)) rfl (fun e1 => ?_) (fun e1 => ?_)
  · have H := H.1 e1
    refine VC.seq ?_
    refine VC.region ?_
    refine VL.stepD rfl rfl (by decide) (OE.assignV (v := .int .i64 0) rfl ?_)
    refine VL.nil ?_
    change VC _ _ _ _ _ _ _
    refine VC.ret ?_
    exact ⟨rfl, _, ResOK.t1 rfl (v := .int .i64 0) rfl, H⟩
  · have H := H.2 e1
    refine VC.skip ?_
    change VC _ _ _ _ _ _ _
    refine VC.seq ?_
    refine VC.region ?_
    refine VL.stepD rfl rfl (by decide) (OE.moveV (v := .pointer d) rfl ?_)
    obtain ⟨a2, e3, H⟩ := H
    refine VL.stepD rfl rfl (by decide) (OE.nilCheck (a := a2) (congrArg Value.pointer e3) ?_)
    refine VL.stepD rfl rfl (by decide) (OE.fieldAddrI (a := a2) (o := 8) rfl Tryz.underlying104 rfl Tryz.i3 (by decide) rfl ?_)
    obtain ⟨x4, hl5, H⟩ := H
    refine VL.stepD rfl rfl (by decide) (OE.load (a := (a2.add 8)) (v := .int .i64 x4) rfl (LdT.one Tryz.underlying3 rfl hl5) ?_)
    refine VL.stepD rfl rfl (by decide) (OE.assignV (v := .int .i64 x4) rfl ?_)
    refine VL.nil ?_
    change VC _ _ _ _ _ _ _
    refine VC.ret ?_
    exact ⟨rfl, _, ResOK.t1 rfl (v := .int .i64 x4) rfl, H⟩

def D_disk_Disk_Reads (R : Value → Hp → Prop) (d : Option Addr) (h : Hp) : Prop :=
  (((Option.isNone d) = true → R (.int .i64 0) h) ∧ ((Option.isNone d) = false → (∃ a2 : Addr, d = some a2 ∧ (∃ x4 : Int, cell h (a2.add 9) = some (.int .i64 x4) ∧ R (.int .i64 x4) h))))
set_option maxRecDepth 10000 in
set_option maxHeartbeats 4000000 in
theorem D_disk_Disk_Reads.sound {R : Value → Hp → Prop} {d : Option Addr} {h : Hp} (H : D_disk_Disk_Reads R  d h) : CH Tryz.prog 38 #[.pointer d] h R := by
  refine CHE.enter (n := 9) Tryz.func38 rfl rfl (Nat.le_of_ble_eq_true rfl) ?_
  unfold D_disk_Disk_Reads at H
  refine VC.seq ?_
  refine VC.region ?_
  refine VL.stepD rfl rfl (by decide) (OE.assignV (v := .int .i64 0) rfl ?_)
  refine VL.nil ?_
  change VC _ _ _ _ _ _ _
  refine VC.seq ?_
  refine VC.seq ?_
  refine VC.region ?_
  refine VL.stepD rfl rfl (by decide) (OE.moveV (v := .pointer d) rfl ?_)
  refine VL.stepD rfl rfl (by decide) (OE.ptrNilV (b := (Option.isNone d)) (p := d) (q := none) rfl rfl Tryz.underlying24 (.inr rfl) (by simp) ?_)
  refine VL.nil ?_
  change VC _ _ _ _ _ _ _
  refine VC.cond (t := (Option.isNone d)) rfl (fun e1 => ?_) (fun e1 => ?_)
  · have H := H.1 e1
    refine VC.seq ?_
    refine VC.region ?_
    refine VL.stepD rfl rfl (by decide) (OE.assignV (v := .int .i64 0) rfl ?_)
    refine VL.nil ?_
    change VC _ _ _ _ _ _ _
    refine VC.ret ?_
    exact ⟨rfl, _, ResOK.t1 rfl (v := .int .i64 0) rfl, H⟩
  · have H := H.2 e1
    refine VC.skip ?_
    change VC _ _ _ _ _ _ _
    refine VC.seq ?_
    refine VC.region ?_
    refine VL.stepD rfl rfl (by decide) (OE.moveV (v := .pointer d) rfl ?_)
    obtain ⟨a2, e3, H⟩ := H
    refine VL.stepD rfl rfl (by decide) (OE.nilCheck (a := a2) (congrArg Value.pointer e3) ?_)
    refine VL.stepD rfl rfl (by decide) (OE.fieldAddrI (a := a2) (o := 9) rfl Tryz.underlying104 rfl Tryz.i3 (by decide) rfl ?_)
    obtain ⟨x4, hl5, H⟩ := H
    refine VL.stepD rfl rfl (by decide) (OE.load (a := (a2.add 9)) (v := .int .i64 x4) rfl (LdT.one Tryz.underlying3 rfl hl5) ?_)
    refine VL.stepD rfl rfl (by decide) (OE.assignV (v := .int .i64 x4) rfl ?_)
    refine VL.nil ?_
    change VC _ _ _ _ _ _ _
    refine VC.ret ?_
    exact ⟨rfl, _, ResOK.t1 rfl (v := .int .i64 x4) rfl, H⟩

def D_disk_Disk_stroke.J1 (R : Value → Hp → Prop)  (y24 : Int)  (h26 : Hp) : Prop :=
  R (.int .i64 y24) h26
def D_disk_Disk_stroke.L2 (R : Value → Hp → Prop)  (halvesA : Option Addr) (halvesn : Nat) (y21 : Int) (y24 : Int) (C29 : Int → Hp → Prop) (j27 : Int) (h28 : Hp) : Prop :=
  (((decide (j27 < ((halvesn : Nat) : Int))) = true → (∃ a31 : Addr, halvesA = some a31 ∧ (0 : Int) ≤ j27 ∧ j27 < (halvesn : Int) ∧ (∃ x35 : Value, cell h28 (a31.add (Int.toNat j27 * 1)) = some (x35) ∧ CHV Tryz.prog x35 [.int .i64 y21] h28 (fun r37 h38 => C29 (IntKind.i64.wrap (j27 + 1)) h38)))) ∧ ((decide (j27 < ((halvesn : Nat) : Int))) = false → D_disk_Disk_stroke.J1 R  y24  h28))
def D_disk_Disk_stroke (R : Value → Hp → Prop) (d : Option Addr) (ahead : Value) (does : Value) (halvesA : Option Addr) (halvesn : Nat) (halvesc : Nat) (h : Hp) : Prop :=
  (((Option.isNone d) = true → R (.int .i64 1) h) ∧ ((Option.isNone d) = false → (∃ a2 : Addr, d = some a2 ∧ (∃ x4 : Bool, cell h (a2.add 10) = some (.bool x4) ∧ ((x4 = true → R (.int .i64 11) h) ∧ (x4 = false → CHV Tryz.prog ahead [] h (fun r7 h8 => ∃ y9 : Int, r7 = .int .i64 y9 ∧ (((y9 != 0) = true → R (.int .i64 y9) h8) ∧ ((y9 != 0) = false → (∃ x11 : Int, cell h8 (a2.add 8) = some (.int .i64 x11) ∧ (Wr h8 (a2.add 8) ∧ ∀ h13, h13 = setc h8 (a2.add 8) (.int .i64 (IntKind.i64.wrap (x11 + 1))) → (∃ x15A : Option Addr, ∃ x15n : Nat, ∃ x15c : Nat, cell h13 (a2.add 6) = some (.slice x15A x15n x15c) ∧ (∃ x17 : Int, cell h13 (a2.add 8) = some (.int .i64 x17) ∧ CH Tryz.prog 64 #[.slice x15A x15n x15c, .int .i64 x17] h13 (fun r19 h20 => ∃ y21 : Int, r19 = .int .i64 y21 ∧ CH Tryz.prog 63 #[.pointer d, .int .i64 y21] h20 (fun r22 h23 => ∃ y24 : Int, r22 = .int .i64 y24 ∧ (((y24 != 0) = true → (∃ Inv : Int → Hp → Nat → Prop, (∃ m, Inv 0 h23 m) ∧ ∀ j27 h28 m, Inv j27 h28 m → D_disk_Disk_stroke.L2 R  halvesA halvesn y21 y24 (fun j27 h28 => ∃ m1, m1 < m ∧ Inv j27 h28 m1) j27 h28)) ∧ ((y24 != 0) = false → CHV Tryz.prog does [] h23 (fun r39 h40 => ∃ y41 : Int, r39 = .int .i64 y41 ∧ R (.int .i64 y41) h40))))))))))))))))))
set_option maxRecDepth 10000 in
set_option maxHeartbeats 4000000 in
theorem D_disk_Disk_stroke.sound {R : Value → Hp → Prop} {d : Option Addr} {ahead : Value} {does : Value} {halvesA : Option Addr} {halvesn : Nat} {halvesc : Nat} {h : Hp} (H : D_disk_Disk_stroke R  d ahead does halvesA halvesn halvesc h) : CH Tryz.prog 39 #[.pointer d, ahead, does, .slice halvesA halvesn halvesc] h R := by
  refine CHE.enter (n := 60) Tryz.func39 rfl rfl (Nat.le_of_ble_eq_true rfl) ?_
  unfold D_disk_Disk_stroke at H
  refine VC.seq ?_
  refine VC.region ?_
  refine VL.stepD rfl rfl (by decide) (OE.assignV (v := .int .i64 0) rfl ?_)
  refine VL.nil ?_
  change VC _ _ _ _ _ _ _
  refine VC.seq ?_
  refine VC.seq ?_
  refine VC.region ?_
  refine VL.stepD rfl rfl (by decide) (OE.moveV (v := .pointer d) rfl ?_)
  refine VL.stepD rfl rfl (by decide) (OE.ptrNilV (b := (Option.isNone d)) (p := d) (q := none) rfl rfl Tryz.underlying24 (.inr rfl) (by simp) ?_)
  refine VL.nil ?_
  change VC _ _ _ _ _ _ _
  refine VC.cond (t := (Option.isNone d)) rfl (fun e1 => ?_) (fun e1 => ?_)
  · have H := H.1 e1
    refine VC.seq ?_
    refine VC.region ?_
    refine VL.stepD rfl rfl (by decide) (OE.assignV (v := .int .i64 1) rfl ?_)
    refine VL.nil ?_
    change VC _ _ _ _ _ _ _
    refine VC.ret ?_
    exact ⟨rfl, _, ResOK.t1 rfl (v := .int .i64 1) rfl, H⟩
  · have H := H.2 e1
    refine VC.skip ?_
    change VC _ _ _ _ _ _ _
    refine VC.seq ?_
    refine VC.seq ?_
    refine VC.region ?_
    refine VL.stepD rfl rfl (by decide) (OE.moveV (v := .pointer d) rfl ?_)
    obtain ⟨a2, e3, H⟩ := H
    refine VL.stepD rfl rfl (by decide) (OE.nilCheck (a := a2) (congrArg Value.pointer e3) ?_)
    refine VL.stepD rfl rfl (by decide) (OE.fieldAddrI (a := a2) (o := 10) rfl Tryz.underlying104 rfl Tryz.i4 (by decide) rfl ?_)
    obtain ⟨x4, hl5, H⟩ := H
    refine VL.stepD rfl rfl (by decide) (OE.load (a := (a2.add 10)) (v := .bool x4) rfl (LdT.one Tryz.underlying4 rfl hl5) ?_)
    refine VL.nil ?_
    change VC _ _ _ _ _ _ _
    refine VC.cond (t := x4) rfl (fun e6 => ?_) (fun e6 => ?_)
    · have H := H.1 e6
      refine VC.seq ?_
      refine VC.region ?_
      refine VL.stepD rfl rfl (by decide) (OE.assignV (v := .int .i64 11) rfl ?_)
      refine VL.nil ?_
      change VC _ _ _ _ _ _ _
      refine VC.ret ?_
      exact ⟨rfl, _, ResOK.t1 rfl (v := .int .i64 11) rfl, H⟩
    · have H := H.2 e6
      refine VC.skip ?_
      change VC _ _ _ _ _ _ _
      refine VC.seq ?_
      refine VC.seq ?_
      refine VC.region ?_
      refine VL.stepD rfl rfl (by decide) (OE.moveV (v := ahead) rfl ?_)
      refine VL.stepD rfl rfl (by decide) (OE.callV (l := []) rfl rfl (CHV.mono H (fun r7 h8 H => ?_)))
      obtain ⟨y9, rfl, H⟩ := H
      refine VL.stepD rfl rfl (by decide) (OE.assignV (v := .int .i64 y9) rfl ?_)
      refine VL.nil ?_
      change VC _ _ _ _ _ _ _
      refine VC.seq ?_
      refine VC.region ?_
      refine VL.stepD rfl rfl (by decide) (OE.moveV (v := .int .i64 y9) rfl ?_)
      refine VL.stepD rfl rfl (by decide) (OE.binI (v := .bool (y9 != 0)) rfl rfl rfl ?_)
      refine VL.nil ?_
      change VC _ _ _ _ _ _ _
      refine VC.cond (t := (y9 != 0)) rfl (fun e10 => ?_) (fun e10 => ?_)
      · have H := H.1 e10
        refine VC.seq ?_
        refine VC.region ?_
        refine VL.stepD rfl rfl (by decide) (OE.moveV (v := .int .i64 y9) rfl ?_)
        refine VL.stepD rfl rfl (by decide) (OE.assignV (v := .int .i64 y9) rfl ?_)
        refine VL.nil ?_
        change VC _ _ _ _ _ _ _
        refine VC.ret ?_
        exact ⟨rfl, _, ResOK.t1 rfl (v := .int .i64 y9) rfl, H⟩
      · have H := H.2 e10
        refine VC.skip ?_
        change VC _ _ _ _ _ _ _
        refine VC.seq ?_
        refine VC.region ?_
        refine VL.stepD rfl rfl (by decide) (OE.moveV (v := .pointer d) rfl ?_)
        refine VL.stepD rfl rfl (by decide) (OE.nilCheck (a := a2) (congrArg Value.pointer e3) ?_)
        refine VL.stepD rfl rfl (by decide) (OE.fieldAddrI (a := a2) (o := 8) rfl Tryz.underlying104 rfl Tryz.i3 (by decide) rfl ?_)
        obtain ⟨x11, hl12, H⟩ := H
        refine VL.stepD rfl rfl (by decide) (OE.load (a := (a2.add 8)) (v := .int .i64 x11) rfl (LdT.one Tryz.underlying3 rfl hl12) ?_)
        refine VL.stepD rfl rfl (by decide) (OE.binI (v := .int .i64 (IntKind.i64.wrap (x11 + 1))) rfl rfl rfl ?_)
        refine VL.stepD rfl rfl (by decide) (OE.nilCheck (a := a2) (congrArg Value.pointer e3) ?_)
        refine VL.stepD rfl rfl (by decide) (OE.fieldAddrI (a := a2) (o := 8) rfl Tryz.underlying104 rfl Tryz.i3 (by decide) rfl ?_)
        obtain ⟨hw14, H⟩ := H
        obtain ⟨h13, eh45⟩ : ∃ h13, h13 = setc h8 (a2.add 8) (.int .i64 (IntKind.i64.wrap (x11 + 1))) := ⟨_, rfl⟩
        have H := H h13 eh45
        refine VL.stepN rfl rfl (OE.storeE (a := (a2.add 8)) (v := .int .i64 (IntKind.i64.wrap (x11 + 1))) rfl rfl (StT.oneI Tryz.i3 hw14 rfl) eh45 ?_)
        refine VL.nil ?_
        change VC _ _ _ _ _ _ _
        refine VC.seq ?_
        refine VC.drawsS Tryz.mixed (by kernel_rfl) (by kernel_rfl) (fun st hd => ?_)
        refine DW.still (i := 0) (v := .pointer d) (by kernel_rfl) ?_
        refine DW.still (i := 1) (v := .pointer (some a2)) (by kernel_rfl) ?_
        refine DW.still (i := 2) (v := .pointer (some (a2.add 6))) (by kernel_rfl) ?_
        refine DW.still (i := 3) (v := .pointer (some (a2.add 6))) (by kernel_rfl) ?_
        obtain ⟨x15A, x15n, x15c, hl16, H⟩ := H
        refine DW.still (i := 4) (v := .slice x15A x15n x15c) (by kernel_rfl) ?_
        refine DW.still (i := 5) (v := .pointer d) (by kernel_rfl) ?_
        refine DW.still (i := 6) (v := .pointer (some a2)) (by kernel_rfl) ?_
        refine DW.still (i := 7) (v := .pointer (some (a2.add 8))) (by kernel_rfl) ?_
        obtain ⟨x17, hl18, H⟩ := H
        refine DW.still (i := 8) (v := .int .i64 x17) (by kernel_rfl) ?_
        refine DW.loudF (fr (fun _ => undef) [(36, (.slice x15A x15n x15c : Value)), (40, (.int .i64 x17 : Value))]) st hd (i := 9) rfl (by kernel_rfl) (.inl rfl) (by kernel_rfl) ⟨.inr (YD.u (fr (fun _ => undef) [(39, (.pointer (some (a2.add 8)) : Value))]) st rfl rfl (by kernel_rfl) (OE.load (a := (a2.add 8)) (v := .int .i64 x17) rfl (LdT.one Tryz.underlying3 rfl hl18) ⟨rfl, rfl⟩)), .inr (YD.u (fr (fun _ => undef) [(38, (.pointer (some a2) : Value))]) st rfl rfl (by kernel_rfl) (OE.fieldAddrI (a := a2) (o := 8) rfl Tryz.underlying104 rfl Tryz.i3 (by decide) rfl ⟨rfl, rfl⟩)), .inr (YD.u (fr (fun _ => undef) [(37, (.pointer d : Value))]) st rfl rfl (by kernel_rfl) (OE.nilCheck (a := a2) (congrArg Value.pointer e3) ⟨rfl, rfl⟩)), .inr (YD.u (fr (fun _ => undef) [(0, (.pointer d : Value))]) st rfl rfl (by kernel_rfl) (OE.moveV (v := .pointer d) rfl ⟨rfl, rfl⟩)), .inr (YD.u (fr (fun _ => undef) [(35, (.pointer (some (a2.add 6)) : Value))]) st rfl rfl (by kernel_rfl) (OE.load (a := (a2.add 6)) (v := .slice x15A x15n x15c) rfl (LdT.one Tryz.underlying34 rfl hl16) ⟨rfl, rfl⟩)), .inr (YD.u (fr (fun _ => undef) [(34, (.pointer (some (a2.add 6)) : Value))]) st rfl rfl (by kernel_rfl) (OE.fieldAddrI (a := (a2.add 6)) (o := 0) rfl Tryz.underlying36 rfl Tryz.i34 (by decide) rfl ⟨rfl, rfl⟩)), .inr (YD.u (fr (fun _ => undef) [(33, (.pointer (some a2) : Value))]) st rfl rfl (by kernel_rfl) (OE.fieldAddrI (a := a2) (o := 6) rfl Tryz.underlying104 rfl Tryz.i36 (by decide) rfl ⟨rfl, rfl⟩)), .inr (YD.u (fr (fun _ => undef) [(32, (.pointer d : Value))]) st rfl rfl (by kernel_rfl) (OE.nilCheck (a := a2) (congrArg Value.pointer e3) ⟨rfl, rfl⟩)), .inr (YD.u (fr (fun _ => undef) [(0, (.pointer d : Value))]) st rfl rfl (by kernel_rfl) (OE.moveV (v := .pointer d) rfl ⟨rfl, rfl⟩)), trivial⟩ (OE.callL (args := [.slice x15A x15n x15c, .int .i64 x17]) Tryz.func64 rfl Tryz.nn64 rfl rfl (CHE.mono H (fun r19 h20 H => ?_) (fun _ _ e => e.elim)))
        obtain ⟨y21, rfl, H⟩ := H
        refine DW.still (i := 10) (v := .int .i64 y21) (by kernel_rfl) ?_
        refine DW.finL st hd [(32, (.pointer d : Value)), (33, (.pointer (some a2) : Value)), (34, (.pointer (some (a2.add 6)) : Value)), (35, (.pointer (some (a2.add 6)) : Value)), (36, (.slice x15A x15n x15c : Value)), (37, (.pointer d : Value)), (38, (.pointer (some a2) : Value)), (39, (.pointer (some (a2.add 8)) : Value)), (40, (.int .i64 x17 : Value)), (41, (.int .i64 y21 : Value)), (10, (.int .i64 y21 : Value))] (by kernel_rfl) (by kernel_rfl) ⟨.inr (YD.u (fr (fun _ => undef) [(41, (.int .i64 y21 : Value))]) st rfl rfl (by kernel_rfl) (OE.assignV (v := .int .i64 y21) rfl ⟨rfl, rfl⟩)), .inl (by kernel_rfl), .inl (by kernel_rfl), .inl (by kernel_rfl), .inl (by kernel_rfl), .inl (by kernel_rfl), .inl (by kernel_rfl), .inl (by kernel_rfl), .inl (by kernel_rfl), .inl (by kernel_rfl), .inl (by kernel_rfl), trivial⟩ ?_
        change VC _ _ _ _ _ _ _
        refine VC.seq ?_
        refine VC.seq ?_
        refine VC.region ?_
        refine VL.stepD rfl rfl (by decide) (OE.moveV (v := .pointer d) rfl ?_)
        refine VL.stepD rfl rfl (by decide) (OE.moveV (v := .int .i64 y21) rfl ?_)
        refine VL.stepD rfl rfl (by decide) (OE.callL (args := [.pointer d, .int .i64 y21]) Tryz.func63 rfl Tryz.nn63 rfl rfl (CHE.mono H (fun r22 h23 H => ?_) (fun _ _ e => e.elim)))
        obtain ⟨y24, rfl, H⟩ := H
        refine VL.stepD rfl rfl (by decide) (OE.assignV (v := .int .i64 y24) rfl ?_)
        refine VL.nil ?_
        change VC _ _ _ _ _ _ _
        refine VC.seq ?_
        refine VC.region ?_
        refine VL.stepD rfl rfl (by decide) (OE.moveV (v := .int .i64 y24) rfl ?_)
        refine VL.stepD rfl rfl (by decide) (OE.binI (v := .bool (y24 != 0)) rfl rfl rfl ?_)
        refine VL.nil ?_
        change VC _ _ _ _ _ _ _
        refine VC.cond (t := (y24 != 0)) rfl (fun e25 => ?_) (fun e25 => ?_)
        · have H := H.1 e25
          refine VC.seqJ (fun f h26 => f 11 = (.int .i64 y24 : Value) ∧ D_disk_Disk_stroke.J1 R  y24  h26) ?_ ?_
          · intro f h26 J
            obtain ⟨hk11, H⟩ := J
            rw [← fr_self f [(11, .int .i64 y24)] (by simp only [List.mem_cons, List.not_mem_nil, or_false]; rintro p (rfl) <;> assumption)]
            unfold D_disk_Disk_stroke.J1 at H
            refine VC.seq ?_
            refine VC.region ?_
            refine VL.stepD rfl rfl (by decide) (OE.moveV (v := .int .i64 y24) rfl ?_)
            refine VL.stepD rfl rfl (by decide) (OE.assignV (v := .int .i64 y24) rfl ?_)
            refine VL.nil ?_
            change VC _ _ _ _ _ _ _
            refine VC.ret ?_
            exact ⟨rfl, _, ResOK.t1 rfl (v := .int .i64 y24) rfl, H⟩
          · skip
            refine VC.seq ?_
            refine VC.region ?_
            refine VL.stepD rfl rfl (by decide) (OE.moveV (v := .slice halvesA halvesn halvesc) rfl ?_)
            refine VL.stepD rfl rfl (by decide) (OE.lenSlice rfl Tryz.underlying146 ?_)
            refine VL.stepD rfl rfl (by decide) (OE.moveV (v := .int .i64 0) rfl ?_)
            refine VL.nil ?_
            change VC _ _ _ _ _ _ _
            refine VC.block ?_
            obtain ⟨Inv, ⟨m0, h0⟩, H⟩ := H
            refine VC.loop (fun ds f h28 m => ds = [] ∧ ∃ j27 : Int, f 10 = (.int .i64 y21 : Value) ∧ f 11 = (.int .i64 y24 : Value) ∧ f 47 = (.slice halvesA halvesn halvesc : Value) ∧ f 48 = (.int .i64 ((halvesn : Nat) : Int) : Value) ∧ f 49 = (.int .i64 j27 : Value) ∧ Inv j27 h28 m) (m0 := m0) ⟨rfl, 0, rfl, rfl, rfl, rfl, rfl, h0⟩ ?_
            intro ds f h28 m I
            obtain ⟨rfl, j27, hk10, hk11, hk47, hk48, hk49, I⟩ := I
            rw [← fr_self f [(10, .int .i64 y21), (11, .int .i64 y24), (47, .slice halvesA halvesn halvesc), (48, .int .i64 ((halvesn : Nat) : Int)), (49, .int .i64 j27)] (by simp only [List.mem_cons, List.not_mem_nil, or_false]; rintro p (rfl | rfl | rfl | rfl | rfl) <;> assumption)]
            obtain ⟨C29, eC29⟩ : ∃ C29 : Int → Hp → Prop, C29 = (fun j27 h28 => ∃ m1, m1 < m ∧ Inv j27 h28 m1) := ⟨_, rfl⟩
            have H : D_disk_Disk_stroke.L2 R  halvesA halvesn y21 y24 C29 j27 h28 := by rw [eC29]; exact H j27 h28 m I
            unfold D_disk_Disk_stroke.L2 at H
            refine VC.seq ?_
            refine VC.region ?_
            refine VL.stepD rfl rfl (by decide) (OE.binI (v := .bool (decide (j27 < ((halvesn : Nat) : Int)))) rfl rfl rfl ?_)
            refine VL.nil ?_
            change VC _ _ _ _ _ _ _
            refine VC.seq ?_
            refine VC.cond (t := (decide (j27 < ((halvesn : Nat) : Int)))) rfl (fun e30 => ?_) (fun e30 => ?_)
            · have H := H.1 e30
              refine VC.skip ?_
              change VC _ _ _ _ _ _ _
              refine VC.seq ?_
              refine VC.block ?_
              refine VC.seq ?_
              refine VC.region ?_
              obtain ⟨a31, e32, z33, z34, H⟩ := H
              refine VL.stepD rfl rfl (by decide) (OE.indexAddrI (sz := 1) rfl rfl Tryz.underlying146 Tryz.i116 e32 z33 z34 ?_)
              obtain ⟨x35, hl36, H⟩ := H
              refine VL.stepD rfl rfl (by decide) (OE.load (a := (a31.add (Int.toNat j27 * 1))) (v := x35) rfl (LdT.one Tryz.underlying116 rfl hl36) ?_)
              refine VL.stepD rfl rfl (by decide) (OE.assignV (v := x35) rfl ?_)
              refine VL.nil ?_
              change VC _ _ _ _ _ _ _
              refine VC.region ?_
              refine VL.stepD rfl rfl (by decide) (OE.moveV (v := x35) rfl ?_)
              refine VL.stepD rfl rfl (by decide) (OE.moveV (v := .int .i64 y21) rfl ?_)
              refine VL.stepD rfl rfl (by decide) (OE.callV (l := [.int .i64 y21]) rfl rfl (CHV.mono H (fun r37 h38 H => ?_)))
              refine VL.nil ?_
              change VC _ _ _ _ _ _ _
              refine VC.region ?_
              refine VL.stepD rfl rfl (by decide) (OE.binI (v := .int .i64 (IntKind.i64.wrap (j27 + 1))) rfl rfl rfl ?_)
              refine VL.stepD rfl rfl (by decide) (OE.moveV (v := .int .i64 (IntKind.i64.wrap (j27 + 1))) rfl ?_)
              refine VL.nil ?_
              rw [eC29] at H
              obtain ⟨m1, hm1, H⟩ := H
              exact ⟨m1, hm1, rfl, (IntKind.i64.wrap (j27 + 1)), rfl, rfl, rfl, rfl, rfl, H⟩
            · have H := H.2 e30
              refine VC.exit ?_
              exact ⟨rfl, rfl, H⟩
        · have H := H.2 e25
          refine VC.skip ?_
          change VC _ _ _ _ _ _ _
          refine VC.seq ?_
          refine VC.region ?_
          refine VL.stepD rfl rfl (by decide) (OE.moveV (v := does) rfl ?_)
          refine VL.stepD rfl rfl (by decide) (OE.callV (l := []) rfl rfl (CHV.mono H (fun r39 h40 H => ?_)))
          obtain ⟨y41, rfl, H⟩ := H
          refine VL.stepD rfl rfl (by decide) (OE.assignV (v := .int .i64 y41) rfl ?_)
          refine VL.nil ?_
          change VC _ _ _ _ _ _ _
          refine VC.ret ?_
          exact ⟨rfl, _, ResOK.t1 rfl (v := .int .i64 y41) rfl, H⟩

def D_disk_Disk_Create_1 (R : Value → Hp → Prop) (c0 : Addr) (c1 : Addr) (h : Hp) : Prop :=
  (∃ x1 : Option Addr, cell h c0 = some (.pointer x1) ∧ (∃ x3 : ByteArray, cell h c1 = some (.string x3) ∧ CH Tryz.prog 41 #[.pointer x1, .string x3] h (fun r5 h6 => ∃ y7_0 : Option Addr, ∃ y7_1 : Int, r5 = .tuple #[.pointer y7_0, .int .i64 y7_1] ∧ (((y7_1 == 0) = true → R (.int .i64 7) h6) ∧ ((y7_1 == 0) = false → (((y7_1 == 6) = true → R (.int .i64 0) h6) ∧ ((y7_1 == 6) = false → R (.int .i64 y7_1) h6)))))))
set_option maxRecDepth 10000 in
set_option maxHeartbeats 4000000 in
theorem D_disk_Disk_Create_1.sound {R : Value → Hp → Prop} {c0 : Addr} {c1 : Addr} {h : Hp} (H : D_disk_Disk_Create_1 R  c0 c1 h) : CH Tryz.prog 40 #[.pointer (some c0), .pointer (some c1)] h R := by
  refine CHE.enter (n := 17) Tryz.func40 rfl rfl (Nat.le_of_ble_eq_true rfl) ?_
  unfold D_disk_Disk_Create_1 at H
  refine VC.seq ?_
  refine VC.region ?_
  refine VL.stepD rfl rfl (by decide) (OE.assignV (v := .int .i64 0) rfl ?_)
  refine VL.nil ?_
  change VC _ _ _ _ _ _ _
  refine VC.seq ?_
  refine VC.region ?_
  obtain ⟨x1, hl2, H⟩ := H
  refine VL.stepD rfl rfl (by decide) (OE.load (a := c0) (v := .pointer x1) rfl (LdT.one Tryz.underlying24 rfl hl2) ?_)
  obtain ⟨x3, hl4, H⟩ := H
  refine VL.stepD rfl rfl (by decide) (OE.load (a := c1) (v := .string x3) rfl (LdT.one Tryz.underlying9 rfl hl4) ?_)
  refine VL.stepD rfl rfl (by decide) (OE.callL (args := [.pointer x1, .string x3]) Tryz.func41 rfl Tryz.nn41 rfl rfl (CHE.mono H (fun r5 h6 H => ?_) (fun _ _ e => e.elim)))
  obtain ⟨y7_0, y7_1, rfl, H⟩ := H
  refine VL.stepD rfl rfl (by decide) (OE.moveV (v := .tuple #[.pointer y7_0, .int .i64 y7_1]) rfl ?_)
  refine VL.stepD rfl rfl (by decide) (OE.extract (v := .pointer y7_0) rfl rfl ?_)
  refine VL.stepD rfl rfl (by decide) (OE.extract (v := .int .i64 y7_1) rfl rfl ?_)
  refine VL.stepD rfl rfl (by decide) (OE.assignV (v := .pointer y7_0) rfl ?_)
  refine VL.stepD rfl rfl (by decide) (OE.assignV (v := .int .i64 y7_1) rfl ?_)
  refine VL.nil ?_
  change VC _ _ _ _ _ _ _
  refine VC.seq ?_
  refine VC.region ?_
  refine VL.stepD rfl rfl (by decide) (OE.moveV (v := .int .i64 y7_1) rfl ?_)
  refine VL.nil ?_
  change VC _ _ _ _ _ _ _
  refine VC.block ?_
  refine VC.seq ?_
  refine VC.region ?_
  refine VL.stepD rfl rfl (by decide) (OE.binI (v := .bool (y7_1 == 0)) rfl rfl rfl ?_)
  refine VL.stepD rfl rfl (by decide) (OE.assignV (v := .bool (y7_1 == 0)) rfl ?_)
  refine VL.nil ?_
  change VC _ _ _ _ _ _ _
  refine VC.cond (t := (y7_1 == 0)) rfl (fun e8 => ?_) (fun e8 => ?_)
  · have H := H.1 e8
    refine VC.seq ?_
    refine VC.region ?_
    refine VL.stepD rfl rfl (by decide) (OE.assignV (v := .int .i64 7) rfl ?_)
    refine VL.nil ?_
    change VC _ _ _ _ _ _ _
    refine VC.ret ?_
    exact ⟨rfl, _, ResOK.t1 rfl (v := .int .i64 7) rfl, H⟩
  · have H := H.2 e8
    refine VC.seq ?_
    refine VC.region ?_
    refine VL.stepD rfl rfl (by decide) (OE.binI (v := .bool (y7_1 == 6)) rfl rfl rfl ?_)
    refine VL.stepD rfl rfl (by decide) (OE.assignV (v := .bool (y7_1 == 6)) rfl ?_)
    refine VL.nil ?_
    change VC _ _ _ _ _ _ _
    refine VC.cond (t := (y7_1 == 6)) rfl (fun e9 => ?_) (fun e9 => ?_)
    · have H := H.1 e9
      refine VC.seq ?_
      refine VC.region ?_
      refine VL.stepD rfl rfl (by decide) (OE.assignV (v := .int .i64 0) rfl ?_)
      refine VL.nil ?_
      change VC _ _ _ _ _ _ _
      refine VC.ret ?_
      exact ⟨rfl, _, ResOK.t1 rfl (v := .int .i64 0) rfl, H⟩
    · have H := H.2 e9
      refine VC.seq ?_
      refine VC.region ?_
      refine VL.stepD rfl rfl (by decide) (OE.moveV (v := .int .i64 y7_1) rfl ?_)
      refine VL.stepD rfl rfl (by decide) (OE.assignV (v := .int .i64 y7_1) rfl ?_)
      refine VL.nil ?_
      change VC _ _ _ _ _ _ _
      refine VC.ret ?_
      exact ⟨rfl, _, ResOK.t1 rfl (v := .int .i64 y7_1) rfl, H⟩

def D_disk_Disk_there (R : Value → Hp → Prop) (d : Option Addr) (name : ByteArray) (h : Hp) : Prop :=
  CH Tryz.prog 82 #[.string name] h (fun r1 h2 => ∃ y3 : Bool, r1 = .bool y3 ∧ (((!y3) = true → R (.tuple #[.pointer none, .int .i64 5]) h2) ∧ ((!y3) = false → CH Tryz.prog 59 #[.pointer d] h2 (fun r5 h6 => ∃ y7 : Option Nat, r5 = .map y7 ∧ (∃ x8 : Int, ∃ ok9 : Bool, MLk Tryz.prog 101 h6 (.map y7) (.string name) true (.tuple #[.int .i64 x8, .bool ok9]) ∧ (((!ok9) = true → R (.tuple #[.pointer none, .int .i64 6]) h6) ∧ ((!ok9) = false → (∃ a12 : Addr, d = some a12 ∧ (∃ x14 : Option Nat, cell h6 (a12.add 3) = some (.map x14) ∧ (∃ x16 : Option Addr, MLk Tryz.prog 100 h6 (.map x14) (.int .i64 x8) false (.pointer x16) ∧ R (.tuple #[.pointer x16, .int .i64 0]) h6))))))))))
set_option maxRecDepth 10000 in
set_option maxHeartbeats 4000000 in
theorem D_disk_Disk_there.sound {R : Value → Hp → Prop} {d : Option Addr} {name : ByteArray} {h : Hp} (H : D_disk_Disk_there R  d name h) : CH Tryz.prog 41 #[.pointer d, .string name] h R := by
  refine CHE.enter (n := 26) Tryz.func41 rfl rfl (Nat.le_of_ble_eq_true rfl) ?_
  unfold D_disk_Disk_there at H
  refine VC.seq ?_
  refine VC.region ?_
  refine VL.stepD rfl rfl (by decide) (OE.assignV (v := .pointer none) rfl ?_)
  refine VL.stepD rfl rfl (by decide) (OE.assignV (v := .int .i64 0) rfl ?_)
  refine VL.nil ?_
  change VC _ _ _ _ _ _ _
  refine VC.seq ?_
  refine VC.seq ?_
  refine VC.region ?_
  refine VL.stepD rfl rfl (by decide) (OE.moveV (v := .string name) rfl ?_)
  refine VL.stepD rfl rfl (by decide) (OE.callL (args := [.string name]) Tryz.func82 rfl Tryz.nn82 rfl rfl (CHE.mono H (fun r1 h2 H => ?_) (fun _ _ e => e.elim)))
  obtain ⟨y3, rfl, H⟩ := H
  refine VL.stepD rfl rfl (by decide) (OE.not rfl ?_)
  refine VL.nil ?_
  change VC _ _ _ _ _ _ _
  refine VC.cond (t := (!y3)) rfl (fun e4 => ?_) (fun e4 => ?_)
  · have H := H.1 e4
    refine VC.seq ?_
    refine VC.region ?_
    refine VL.stepD rfl rfl (by decide) (OE.assignV (v := .pointer none) rfl ?_)
    refine VL.stepD rfl rfl (by decide) (OE.assignV (v := .int .i64 5) rfl ?_)
    refine VL.nil ?_
    change VC _ _ _ _ _ _ _
    refine VC.ret ?_
    exact ⟨rfl, _, ResOK.t2 rfl (v0 := .pointer none) (v1 := .int .i64 5) rfl rfl, H⟩
  · have H := H.2 e4
    refine VC.skip ?_
    change VC _ _ _ _ _ _ _
    refine VC.seq ?_
    refine VC.region ?_
    refine VL.stepD rfl rfl (by decide) (OE.moveV (v := .pointer d) rfl ?_)
    refine VL.stepD rfl rfl (by decide) (OE.callL (args := [.pointer d]) Tryz.func59 rfl Tryz.nn59 rfl rfl (CHE.mono H (fun r5 h6 H => ?_) (fun _ _ e => e.elim)))
    obtain ⟨y7, rfl, H⟩ := H
    refine VL.stepD rfl rfl (by decide) (OE.moveV (v := .string name) rfl ?_)
    obtain ⟨x8, ok9, hl10, H⟩ := H
    refine VL.stepD rfl rfl (by decide) (OE.lookup (m := .map y7) (k := .string name) rfl rfl hl10 ?_)
    refine VL.stepD rfl rfl (by decide) (OE.moveV (v := .tuple #[.int .i64 x8, .bool ok9]) rfl ?_)
    refine VL.stepD rfl rfl (by decide) (OE.extract (v := .int .i64 x8) rfl rfl ?_)
    refine VL.stepD rfl rfl (by decide) (OE.extract (v := .bool ok9) rfl rfl ?_)
    refine VL.stepD rfl rfl (by decide) (OE.assignV (v := .int .i64 x8) rfl ?_)
    refine VL.stepD rfl rfl (by decide) (OE.assignV (v := .bool ok9) rfl ?_)
    refine VL.nil ?_
    change VC _ _ _ _ _ _ _
    refine VC.seq ?_
    refine VC.seq ?_
    refine VC.region ?_
    refine VL.stepD rfl rfl (by decide) (OE.moveV (v := .bool ok9) rfl ?_)
    refine VL.stepD rfl rfl (by decide) (OE.not rfl ?_)
    refine VL.nil ?_
    change VC _ _ _ _ _ _ _
    refine VC.cond (t := (!ok9)) rfl (fun e11 => ?_) (fun e11 => ?_)
    · have H := H.1 e11
      refine VC.seq ?_
      refine VC.region ?_
      refine VL.stepD rfl rfl (by decide) (OE.assignV (v := .pointer none) rfl ?_)
      refine VL.stepD rfl rfl (by decide) (OE.assignV (v := .int .i64 6) rfl ?_)
      refine VL.nil ?_
      change VC _ _ _ _ _ _ _
      refine VC.ret ?_
      exact ⟨rfl, _, ResOK.t2 rfl (v0 := .pointer none) (v1 := .int .i64 6) rfl rfl, H⟩
    · have H := H.2 e11
      refine VC.skip ?_
      change VC _ _ _ _ _ _ _
      refine VC.seq ?_
      refine VC.region ?_
      refine VL.stepD rfl rfl (by decide) (OE.moveV (v := .pointer d) rfl ?_)
      obtain ⟨a12, e13, H⟩ := H
      refine VL.stepD rfl rfl (by decide) (OE.nilCheck (a := a12) (congrArg Value.pointer e13) ?_)
      refine VL.stepD rfl rfl (by decide) (OE.fieldAddrI (a := a12) (o := 3) rfl Tryz.underlying104 rfl Tryz.i100 (by decide) rfl ?_)
      obtain ⟨x14, hl15, H⟩ := H
      refine VL.stepD rfl rfl (by decide) (OE.load (a := (a12.add 3)) (v := .map x14) rfl (LdT.one Tryz.underlying100 rfl hl15) ?_)
      refine VL.stepD rfl rfl (by decide) (OE.moveV (v := .int .i64 x8) rfl ?_)
      obtain ⟨x16, hl17, H⟩ := H
      refine VL.stepD rfl rfl (by decide) (OE.lookup (m := .map x14) (k := .int .i64 x8) rfl rfl hl17 ?_)
      refine VL.stepD rfl rfl (by decide) (OE.assignV (v := .pointer x16) rfl ?_)
      refine VL.stepD rfl rfl (by decide) (OE.assignV (v := .int .i64 0) rfl ?_)
      refine VL.nil ?_
      change VC _ _ _ _ _ _ _
      refine VC.ret ?_
      exact ⟨rfl, _, ResOK.t2 rfl (v0 := .pointer x16) (v1 := .int .i64 0) rfl rfl, H⟩

def D_disk_Disk_Create_2 (R : Value → Hp → Prop) (c0 : Addr) (c1 : Addr) (h : Hp) : Prop :=
  (∃ x1 : Option Addr, cell h c0 = some (.pointer x1) ∧ (∃ x3 : Option Addr, cell h c0 = some (.pointer x3) ∧ (∃ a5 : Addr, x3 = some a5 ∧ (∃ x7 : Int, cell h (a5.add 1) = some (.int .i64 x7) ∧ CH Tryz.prog 43 #[.pointer x1] h (fun r9 h10 => ∃ y11A : Option Addr, ∃ y11n : Nat, ∃ y11c : Nat, r9 = .slice y11A y11n y11c ∧ (cell h10 c0 = some (.pointer x3) ∧ (cell h10 (a5.add 1) = some (.int .i64 x7) ∧ (((decide ((IntKind.i64.wrap (((y11n : Nat) : Int) + 1)) > x7)) = true → R (.int .i64 9) h10) ∧ ((decide ((IntKind.i64.wrap (((y11n : Nat) : Int) + 1)) > x7)) = false → (∃ x15 : Option Addr, cell h10 c0 = some (.pointer x15) ∧ (∃ x17 : Option Addr, cell h10 c0 = some (.pointer x17) ∧ (∃ a19 : Addr, x17 = some a19 ∧ (∃ x21A : Option Addr, ∃ x21n : Nat, ∃ x21c : Nat, cell h10 (a19.add 5) = some (.slice x21A x21n x21c) ∧ (∃ x23 : ByteArray, cell h10 c1 = some (.string x23) ∧ (∃ x25 : Option Addr, cell h10 c0 = some (.pointer x25) ∧ CH Tryz.prog 44 #[.pointer x25, .slice none 0 0] h10 (fun r27 h28 => ∃ y29 : Int, r27 = .int .i64 y29 ∧ (cell h28 c0 = some (.pointer x15) ∧ (cell h28 c0 = some (.pointer x17) ∧ (cell h28 (a19.add 5) = some (.slice x21A x21n x21c) ∧ (cell h28 c1 = some (.string x23) ∧ (∀ b35 h34, b35 = Array.size h28 → h34 = Array.push h28 (.cells #[.string ByteArray.empty, .string x23, .int .i64 y29] 107) → (cell h34 c0 = some (.pointer x15) ∧ (cell h34 c0 = some (.pointer x17) ∧ (cell h34 (a19.add 5) = some (.slice x21A x21n x21c) ∧ (∃ vs39 : List Value, Src h34 (1 * 3) vs39 (some (Addr.mk b35 0 none)) ∧ (∀ v ∈ vs39, oneC v = true) ∧ (x21n + 1) * 40 ≤ 140737488355328 ∧ x21n + 1 ≤ 9223372036854775807 ∧ AppendV 107 (.agg #[.string ByteArray.empty, .string ByteArray.empty, .int .i64 0] : Value) 3 h34 x21A x21n x21c 1 vs39 (fun A44 n45 c46 h47 => (cell h47 c0 = some (.pointer x15) ∧ (∃ a49 : Addr, x15 = some a49 ∧ (Wr h47 (a49.add 5) ∧ ∀ h51, h51 = setc h47 (a49.add 5) (.slice A44 n45 c46) → R (.int .i64 0) h51)))))))))))))))))))))))))))))
set_option maxRecDepth 10000 in
set_option maxHeartbeats 4000000 in
theorem D_disk_Disk_Create_2.sound {R : Value → Hp → Prop} {c0 : Addr} {c1 : Addr} {h : Hp} (H : D_disk_Disk_Create_2 R  c0 c1 h) : CH Tryz.prog 42 #[.pointer (some c0), .pointer (some c1)] h R := by
  refine CHE.enter (n := 25) Tryz.func42 rfl rfl (Nat.le_of_ble_eq_true rfl) ?_
  unfold D_disk_Disk_Create_2 at H
  refine VC.seq ?_
  refine VC.region ?_
  refine VL.stepD rfl rfl (by decide) (OE.assignV (v := .int .i64 0) rfl ?_)
  refine VL.nil ?_
  change VC _ _ _ _ _ _ _
  refine VC.seq ?_
  refine VC.seq ?_
  refine VC.drawsS Tryz.mixed (by kernel_rfl) (by kernel_rfl) (fun st hd => ?_)
  obtain ⟨x1, hl2, H⟩ := H
  refine DW.still (i := 0) (v := .pointer x1) (by kernel_rfl) ?_
  obtain ⟨x3, hl4, H⟩ := H
  refine DW.still (i := 4) (v := .pointer x3) (by kernel_rfl) ?_
  obtain ⟨a5, e6, H⟩ := H
  refine DW.still (i := 5) (v := .pointer (some a5)) (by kernel_rfl) ?_
  refine DW.still (i := 6) (v := .pointer (some (a5.add 1))) (by kernel_rfl) ?_
  obtain ⟨x7, hl8, H⟩ := H
  refine DW.still (i := 7) (v := .int .i64 x7) (by kernel_rfl) ?_
  refine DW.loudF (fr (fun _ => undef) [(3, (.pointer x1 : Value))]) st hd (i := 1) rfl (by kernel_rfl) (.inl rfl) (by kernel_rfl) ⟨.inr (YD.u (fr (fun _ => undef) [(9, (.pointer (some (a5.add 1)) : Value))]) st rfl rfl (by kernel_rfl) (OE.load (a := (a5.add 1)) (v := .int .i64 x7) rfl (LdT.one Tryz.underlying3 rfl hl8) ⟨rfl, rfl⟩)), .inr (YD.u (fr (fun _ => undef) [(8, (.pointer (some a5) : Value))]) st rfl rfl (by kernel_rfl) (OE.fieldAddrI (a := a5) (o := 1) rfl Tryz.underlying104 rfl Tryz.i3 (by decide) rfl ⟨rfl, rfl⟩)), .inr (YD.u (fr (fun _ => undef) [(7, (.pointer x3 : Value))]) st rfl rfl (by kernel_rfl) (OE.nilCheck (a := a5) (congrArg Value.pointer e6) ⟨rfl, rfl⟩)), .inr (YD.u (fr (fun _ => undef) [(0, (.pointer (some c0) : Value))]) st rfl rfl (by kernel_rfl) (OE.load (a := c0) (v := .pointer x3) rfl (LdT.one Tryz.underlying24 rfl hl4) ⟨rfl, rfl⟩)), .inr (YD.u (fr (fun _ => undef) [(0, (.pointer (some c0) : Value))]) st rfl rfl (by kernel_rfl) (OE.load (a := c0) (v := .pointer x1) rfl (LdT.one Tryz.underlying24 rfl hl2) ⟨rfl, rfl⟩)), trivial⟩ (OE.callL (args := [.pointer x1]) Tryz.func43 rfl Tryz.nn43 rfl rfl (CHE.mono H (fun r9 h10 H => ?_) (fun _ _ e => e.elim)))
  obtain ⟨y11A, y11n, y11c, rfl, H⟩ := H
  obtain ⟨hs12, hs13, H⟩ := H
  refine DW.still (i := 2) (v := .int .i64 ((y11n : Nat) : Int)) (by kernel_rfl) ?_
  refine DW.still (i := 3) (v := .int .i64 (IntKind.i64.wrap (((y11n : Nat) : Int) + 1))) (by kernel_rfl) ?_
  refine DW.still (i := 8) (v := .bool (decide ((IntKind.i64.wrap (((y11n : Nat) : Int) + 1)) > x7))) (by kernel_rfl) ?_
  refine DW.finL st hd [(3, (.pointer x1 : Value)), (7, (.pointer x3 : Value)), (8, (.pointer (some a5) : Value)), (9, (.pointer (some (a5.add 1)) : Value)), (10, (.int .i64 x7 : Value)), (4, (.slice y11A y11n y11c : Value)), (5, (.int .i64 ((y11n : Nat) : Int) : Value)), (6, (.int .i64 (IntKind.i64.wrap (((y11n : Nat) : Int) + 1)) : Value)), (11, (.bool (decide ((IntKind.i64.wrap (((y11n : Nat) : Int) + 1)) > x7)) : Value))] (by kernel_rfl) (by kernel_rfl) ⟨.inr (YD.u (fr (fun _ => undef) [(6, (.int .i64 (IntKind.i64.wrap (((y11n : Nat) : Int) + 1)) : Value)), (10, (.int .i64 x7 : Value))]) st rfl rfl (by kernel_rfl) (OE.binI (v := .bool (decide ((IntKind.i64.wrap (((y11n : Nat) : Int) + 1)) > x7))) rfl rfl rfl ⟨rfl, rfl⟩)), .inr (YD.u (fr (fun _ => undef) [(5, (.int .i64 ((y11n : Nat) : Int) : Value))]) st rfl rfl (by kernel_rfl) (OE.binI (v := .int .i64 (IntKind.i64.wrap (((y11n : Nat) : Int) + 1))) rfl rfl rfl ⟨rfl, rfl⟩)), .inr (YD.u (fr (fun _ => undef) [(4, (.slice y11A y11n y11c : Value))]) st rfl rfl (by kernel_rfl) (OE.lenSlice rfl Tryz.underlying44 ⟨rfl, rfl⟩)), .inl (by kernel_rfl), .inr (YD.u (fr (fun _ => undef) [(9, (.pointer (some (a5.add 1)) : Value))]) st rfl rfl (by kernel_rfl) (OE.load (a := (a5.add 1)) (v := .int .i64 x7) rfl (LdT.one Tryz.underlying3 rfl hs13) ⟨rfl, rfl⟩)), .inr (YD.u (fr (fun _ => undef) [(8, (.pointer (some a5) : Value))]) st rfl rfl (by kernel_rfl) (OE.fieldAddrI (a := a5) (o := 1) rfl Tryz.underlying104 rfl Tryz.i3 (by decide) rfl ⟨rfl, rfl⟩)), .inr (YD.u (fr (fun _ => undef) [(7, (.pointer x3 : Value))]) st rfl rfl (by kernel_rfl) (OE.nilCheck (a := a5) (congrArg Value.pointer e6) ⟨rfl, rfl⟩)), .inr (YD.u (fr (fun _ => undef) [(0, (.pointer (some c0) : Value))]) st rfl rfl (by kernel_rfl) (OE.load (a := c0) (v := .pointer x3) rfl (LdT.one Tryz.underlying24 rfl hs12) ⟨rfl, rfl⟩)), .inl (by kernel_rfl), trivial⟩ ?_
  change VC _ _ _ _ _ _ _
  refine VC.cond (t := (decide ((IntKind.i64.wrap (((y11n : Nat) : Int) + 1)) > x7))) rfl (fun e14 => ?_) (fun e14 => ?_)
  · have H := H.1 e14
    refine VC.seq ?_
    refine VC.region ?_
    refine VL.stepD rfl rfl (by decide) (OE.assignV (v := .int .i64 9) rfl ?_)
    refine VL.nil ?_
    change VC _ _ _ _ _ _ _
    refine VC.ret ?_
    exact ⟨rfl, _, ResOK.t1 rfl (v := .int .i64 9) rfl, H⟩
  · have H := H.2 e14
    refine VC.skip ?_
    change VC _ _ _ _ _ _ _
    refine VC.seq ?_
    refine VC.drawsS Tryz.mixed (by kernel_rfl) (by kernel_rfl) (fun st hd => ?_)
    obtain ⟨x15, hl16, H⟩ := H
    refine DW.still (i := 0) (v := .pointer x15) (by kernel_rfl) ?_
    obtain ⟨x17, hl18, H⟩ := H
    refine DW.still (i := 1) (v := .pointer x17) (by kernel_rfl) ?_
    obtain ⟨a19, e20, H⟩ := H
    refine DW.still (i := 2) (v := .pointer (some a19)) (by kernel_rfl) ?_
    refine DW.still (i := 3) (v := .pointer (some (a19.add 5))) (by kernel_rfl) ?_
    obtain ⟨x21A, x21n, x21c, hl22, H⟩ := H
    refine DW.still (i := 4) (v := .slice x21A x21n x21c) (by kernel_rfl) ?_
    obtain ⟨x23, hl24, H⟩ := H
    refine DW.still (i := 5) (v := .string x23) (by kernel_rfl) ?_
    obtain ⟨x25, hl26, H⟩ := H
    refine DW.still (i := 6) (v := .pointer x25) (by kernel_rfl) ?_
    refine DW.loudF (fr (fun _ => undef) [(18, (.pointer x25 : Value))]) st hd (i := 7) rfl (by kernel_rfl) (.inl rfl) (by kernel_rfl) ⟨.inr (YD.u (fr (fun _ => undef) [(0, (.pointer (some c0) : Value))]) st rfl rfl (by kernel_rfl) (OE.load (a := c0) (v := .pointer x25) rfl (LdT.one Tryz.underlying24 rfl hl26) ⟨rfl, rfl⟩)), .inr (YD.u (fr (fun _ => undef) [(1, (.pointer (some c1) : Value))]) st rfl rfl (by kernel_rfl) (OE.load (a := c1) (v := .string x23) rfl (LdT.one Tryz.underlying9 rfl hl24) ⟨rfl, rfl⟩)), .inr (YD.u (fr (fun _ => undef) [(15, (.pointer (some (a19.add 5)) : Value))]) st rfl rfl (by kernel_rfl) (OE.load (a := (a19.add 5)) (v := .slice x21A x21n x21c) rfl (LdT.one Tryz.underlying102 rfl hl22) ⟨rfl, rfl⟩)), .inr (YD.u (fr (fun _ => undef) [(14, (.pointer (some a19) : Value))]) st rfl rfl (by kernel_rfl) (OE.fieldAddrI (a := a19) (o := 5) rfl Tryz.underlying104 rfl Tryz.i102 (by decide) rfl ⟨rfl, rfl⟩)), .inr (YD.u (fr (fun _ => undef) [(13, (.pointer x17 : Value))]) st rfl rfl (by kernel_rfl) (OE.nilCheck (a := a19) (congrArg Value.pointer e20) ⟨rfl, rfl⟩)), .inr (YD.u (fr (fun _ => undef) [(0, (.pointer (some c0) : Value))]) st rfl rfl (by kernel_rfl) (OE.load (a := c0) (v := .pointer x17) rfl (LdT.one Tryz.underlying24 rfl hl18) ⟨rfl, rfl⟩)), .inr (YD.u (fr (fun _ => undef) [(0, (.pointer (some c0) : Value))]) st rfl rfl (by kernel_rfl) (OE.load (a := c0) (v := .pointer x15) rfl (LdT.one Tryz.underlying24 rfl hl16) ⟨rfl, rfl⟩)), trivial⟩ (OE.callL (args := [.pointer x25, .slice none 0 0]) Tryz.func44 rfl Tryz.nn44 rfl rfl (CHE.mono H (fun r27 h28 H => ?_) (fun _ _ e => e.elim)))
    obtain ⟨y29, rfl, H⟩ := H
    obtain ⟨hs30, hs31, hs32, hs33, H⟩ := H
    refine DW.still (i := 8) (v := .agg #[.string ByteArray.empty, .string x23, .int .i64 y29]) (by kernel_rfl) ?_
    obtain ⟨b35, eb54⟩ : ∃ b35, b35 = Array.size h28 := ⟨_, rfl⟩
    obtain ⟨h34, eh55⟩ : ∃ h34, h34 = Array.push h28 (.cells #[.string ByteArray.empty, .string x23, .int .i64 y29] 107) := ⟨_, rfl⟩
    have H := H b35 h34 eb54 eh55
    refine DW.loudF (fr (fun _ => undef) [(20, (.agg #[.string ByteArray.empty, .string x23, .int .i64 y29] : Value))]) st hd (i := 9) rfl (by kernel_rfl) (.inl rfl) (by kernel_rfl) ⟨.inr (YD.u (fr (fun _ => undef) [(17, (.string x23 : Value)), (19, (.int .i64 y29 : Value))]) st rfl rfl (by kernel_rfl) (OE.buildV (ps := [(1, (.string x23 : Value)), (2, (.int .i64 y29 : Value))]) rfl (Tryz.bf11 _ _) ⟨rfl, rfl⟩)), .inl (by kernel_rfl), .inl (by kernel_rfl), .inr (YD.u (fr (fun _ => undef) [(1, (.pointer (some c1) : Value))]) st rfl rfl (by kernel_rfl) (OE.load (a := c1) (v := .string x23) rfl (LdT.one Tryz.underlying9 rfl hs33) ⟨rfl, rfl⟩)), .inr (YD.u (fr (fun _ => undef) [(15, (.pointer (some (a19.add 5)) : Value))]) st rfl rfl (by kernel_rfl) (OE.load (a := (a19.add 5)) (v := .slice x21A x21n x21c) rfl (LdT.one Tryz.underlying102 rfl hs32) ⟨rfl, rfl⟩)), .inr (YD.u (fr (fun _ => undef) [(14, (.pointer (some a19) : Value))]) st rfl rfl (by kernel_rfl) (OE.fieldAddrI (a := a19) (o := 5) rfl Tryz.underlying104 rfl Tryz.i102 (by decide) rfl ⟨rfl, rfl⟩)), .inr (YD.u (fr (fun _ => undef) [(13, (.pointer x17 : Value))]) st rfl rfl (by kernel_rfl) (OE.nilCheck (a := a19) (congrArg Value.pointer e20) ⟨rfl, rfl⟩)), .inr (YD.u (fr (fun _ => undef) [(0, (.pointer (some c0) : Value))]) st rfl rfl (by kernel_rfl) (OE.load (a := c0) (v := .pointer x17) rfl (LdT.one Tryz.underlying24 rfl hs31) ⟨rfl, rfl⟩)), .inr (YD.u (fr (fun _ => undef) [(0, (.pointer (some c0) : Value))]) st rfl rfl (by kernel_rfl) (OE.load (a := c0) (v := .pointer x15) rfl (LdT.one Tryz.underlying24 rfl hs30) ⟨rfl, rfl⟩)), trivial⟩ (OE.buildSliceE (ps := [(0, (.agg #[.string ByteArray.empty, .string x23, .int .i64 y29] : Value))]) (cells := #[.string ByteArray.empty, .string x23, .int .i64 y29]) (e := 107) rfl (Tryz.bf12 _ _ _) eb54 eh55 ?_)
    obtain ⟨hs36, hs37, hs38, H⟩ := H
    obtain ⟨vs39, z40, z41, z42, z43, H⟩ := H
    refine DW.loudF (fr (fun _ => undef) [(16, (.slice x21A x21n x21c : Value)), (21, (.slice (some (Addr.mk b35 0 none)) 1 1 : Value))]) st hd (i := 10) rfl (by kernel_rfl) (.inl rfl) (by kernel_rfl) ⟨.inl (by kernel_rfl), .inl (by kernel_rfl), .inl (by kernel_rfl), .inl (by kernel_rfl), .inl (by kernel_rfl), .inr (YD.u (fr (fun _ => undef) [(15, (.pointer (some (a19.add 5)) : Value))]) st rfl rfl (by kernel_rfl) (OE.load (a := (a19.add 5)) (v := .slice x21A x21n x21c) rfl (LdT.one Tryz.underlying102 rfl hs38) ⟨rfl, rfl⟩)), .inr (YD.u (fr (fun _ => undef) [(14, (.pointer (some a19) : Value))]) st rfl rfl (by kernel_rfl) (OE.fieldAddrI (a := a19) (o := 5) rfl Tryz.underlying104 rfl Tryz.i102 (by decide) rfl ⟨rfl, rfl⟩)), .inr (YD.u (fr (fun _ => undef) [(13, (.pointer x17 : Value))]) st rfl rfl (by kernel_rfl) (OE.nilCheck (a := a19) (congrArg Value.pointer e20) ⟨rfl, rfl⟩)), .inr (YD.u (fr (fun _ => undef) [(0, (.pointer (some c0) : Value))]) st rfl rfl (by kernel_rfl) (OE.load (a := c0) (v := .pointer x17) rfl (LdT.one Tryz.underlying24 rfl hs37) ⟨rfl, rfl⟩)), .inr (YD.u (fr (fun _ => undef) [(0, (.pointer (some c0) : Value))]) st rfl rfl (by kernel_rfl) (OE.load (a := c0) (v := .pointer x15) rfl (LdT.one Tryz.underlying24 rfl hs36) ⟨rfl, rfl⟩)), trivial⟩ (OE.appendV (z := (.agg #[.string ByteArray.empty, .string ByteArray.empty, .int .i64 0] : Value)) (sz := 3) (bs := 40) rfl rfl Tryz.underlying102 Tryz.i107 z40 z41 z42 z43 (AppendV.mono H (fun A44 n45 c46 h47 H => ?_)))
    obtain ⟨hs48, H⟩ := H
    obtain ⟨a49, e50, H⟩ := H
    refine DW.still (i := 11) (v := .pointer (some a49)) (by kernel_rfl) ?_
    refine DW.still (i := 12) (v := .pointer (some (a49.add 5))) (by kernel_rfl) ?_
    obtain ⟨hw52, H⟩ := H
    obtain ⟨h51, eh53⟩ : ∃ h51, h51 = setc h47 (a49.add 5) (.slice A44 n45 c46) := ⟨_, rfl⟩
    have H := H h51 eh53
    refine DW.loudF (fr (fun _ => undef) [(24, (.pointer (some (a49.add 5)) : Value)), (22, (.slice A44 n45 c46 : Value))]) st hd (i := 13) rfl (by kernel_rfl) (.inl rfl) (by kernel_rfl) ⟨.inr (YD.u (fr (fun _ => undef) [(23, (.pointer (some a49) : Value))]) st rfl rfl (by kernel_rfl) (OE.fieldAddrI (a := a49) (o := 5) rfl Tryz.underlying104 rfl Tryz.i102 (by decide) rfl ⟨rfl, rfl⟩)), .inr (YD.u (fr (fun _ => undef) [(12, (.pointer x15 : Value))]) st rfl rfl (by kernel_rfl) (OE.nilCheck (a := a49) (congrArg Value.pointer e50) ⟨rfl, rfl⟩)), .inl (by kernel_rfl), .inl (by kernel_rfl), .inl (by kernel_rfl), .inl (by kernel_rfl), .inl (by kernel_rfl), .inl (by kernel_rfl), .inl (by kernel_rfl), .inl (by kernel_rfl), .inl (by kernel_rfl), .inl (by kernel_rfl), .inr (YD.u (fr (fun _ => undef) [(0, (.pointer (some c0) : Value))]) st rfl rfl (by kernel_rfl) (OE.load (a := c0) (v := .pointer x15) rfl (LdT.one Tryz.underlying24 rfl hs48) ⟨rfl, rfl⟩)), trivial⟩ (OE.storeE (a := (a49.add 5)) (v := .slice A44 n45 c46) rfl rfl (StT.oneI Tryz.i102 hw52 rfl) eh53 ?_)
    refine DW.finL st hd [(12, (.pointer x15 : Value)), (13, (.pointer x17 : Value)), (14, (.pointer (some a19) : Value)), (15, (.pointer (some (a19.add 5)) : Value)), (16, (.slice x21A x21n x21c : Value)), (17, (.string x23 : Value)), (18, (.pointer x25 : Value)), (19, (.int .i64 y29 : Value)), (20, (.agg #[.string ByteArray.empty, .string x23, .int .i64 y29] : Value)), (21, (.slice (some (Addr.mk b35 0 none)) 1 1 : Value)), (22, (.slice A44 n45 c46 : Value)), (23, (.pointer (some a49) : Value)), (24, (.pointer (some (a49.add 5)) : Value))] (by kernel_rfl) (by kernel_rfl) ⟨.inl (by kernel_rfl), .inl (by kernel_rfl), .inl (by kernel_rfl), .inl (by kernel_rfl), .inl (by kernel_rfl), .inl (by kernel_rfl), .inl (by kernel_rfl), .inl (by kernel_rfl), .inl (by kernel_rfl), .inl (by kernel_rfl), .inl (by kernel_rfl), .inl (by kernel_rfl), .inl (by kernel_rfl), .inl (by kernel_rfl), trivial⟩ ?_
    change VC _ _ _ _ _ _ _
    refine VC.seq ?_
    refine VC.region ?_
    refine VL.stepD rfl rfl (by decide) (OE.assignV (v := .int .i64 0) rfl ?_)
    refine VL.nil ?_
    change VC _ _ _ _ _ _ _
    refine VC.ret ?_
    exact ⟨rfl, _, ResOK.t1 rfl (v := .int .i64 0) rfl, H⟩


def D_disk_Disk_lives (R : Value → Hp → Prop) (d : Option Addr) (h : Hp) : Prop :=
  (∃ a1 : Addr, d = some a1 ∧ (∃ x3 : Option Nat, cell h (a1.add 4) = some (.map x3) ∧ (∃ x5A : Option Addr, ∃ x5n : Nat, ∃ x5c : Nat, cell h (a1.add 5) = some (.slice x5A x5n x5c) ∧ CH Tryz.prog 91 #[.map x3, .slice x5A x5n x5c] h (fun r7 h8 => ∃ y9A : Option Addr, ∃ y9n : Nat, ∃ y9c : Nat, r7 = .slice y9A y9n y9c ∧ R (.slice y9A y9n y9c) h8))))
set_option maxRecDepth 10000 in
set_option maxHeartbeats 4000000 in
theorem D_disk_Disk_lives.sound {R : Value → Hp → Prop} {d : Option Addr} {h : Hp} (H : D_disk_Disk_lives R  d h) : CH Tryz.prog 43 #[.pointer d] h R := by
  refine CHE.enter (n := 12) Tryz.func43 rfl rfl (Nat.le_of_ble_eq_true rfl) ?_
  unfold D_disk_Disk_lives at H
  refine VC.seq ?_
  refine VC.region ?_
  refine VL.stepD rfl rfl (by decide) (OE.assignV (v := .slice none 0 0) rfl ?_)
  refine VL.nil ?_
  change VC _ _ _ _ _ _ _
  refine VC.seq ?_
  refine VC.drawsS Tryz.mixed (by kernel_rfl) (by kernel_rfl) (fun st hd => ?_)
  refine DW.still (i := 0) (v := .pointer d) (by kernel_rfl) ?_
  obtain ⟨a1, e2, H⟩ := H
  refine DW.still (i := 1) (v := .pointer (some a1)) (by kernel_rfl) ?_
  refine DW.still (i := 2) (v := .pointer (some (a1.add 4))) (by kernel_rfl) ?_
  obtain ⟨x3, hl4, H⟩ := H
  refine DW.still (i := 3) (v := .map x3) (by kernel_rfl) ?_
  refine DW.still (i := 4) (v := .pointer d) (by kernel_rfl) ?_
  refine DW.still (i := 5) (v := .pointer (some a1)) (by kernel_rfl) ?_
  refine DW.still (i := 6) (v := .pointer (some (a1.add 5))) (by kernel_rfl) ?_
  obtain ⟨x5A, x5n, x5c, hl6, H⟩ := H
  refine DW.still (i := 7) (v := .slice x5A x5n x5c) (by kernel_rfl) ?_
  refine DW.loudF (fr (fun _ => undef) [(6, (.map x3 : Value)), (10, (.slice x5A x5n x5c : Value))]) st hd (i := 8) rfl (by kernel_rfl) (.inl rfl) (by kernel_rfl) ⟨.inr (YD.u (fr (fun _ => undef) [(9, (.pointer (some (a1.add 5)) : Value))]) st rfl rfl (by kernel_rfl) (OE.load (a := (a1.add 5)) (v := .slice x5A x5n x5c) rfl (LdT.one Tryz.underlying102 rfl hl6) ⟨rfl, rfl⟩)), .inr (YD.u (fr (fun _ => undef) [(8, (.pointer (some a1) : Value))]) st rfl rfl (by kernel_rfl) (OE.fieldAddrI (a := a1) (o := 5) rfl Tryz.underlying104 rfl Tryz.i102 (by decide) rfl ⟨rfl, rfl⟩)), .inr (YD.u (fr (fun _ => undef) [(7, (.pointer d : Value))]) st rfl rfl (by kernel_rfl) (OE.nilCheck (a := a1) (congrArg Value.pointer e2) ⟨rfl, rfl⟩)), .inr (YD.u (fr (fun _ => undef) [(0, (.pointer d : Value))]) st rfl rfl (by kernel_rfl) (OE.moveV (v := .pointer d) rfl ⟨rfl, rfl⟩)), .inr (YD.u (fr (fun _ => undef) [(5, (.pointer (some (a1.add 4)) : Value))]) st rfl rfl (by kernel_rfl) (OE.load (a := (a1.add 4)) (v := .map x3) rfl (LdT.one Tryz.underlying101 rfl hl4) ⟨rfl, rfl⟩)), .inr (YD.u (fr (fun _ => undef) [(4, (.pointer (some a1) : Value))]) st rfl rfl (by kernel_rfl) (OE.fieldAddrI (a := a1) (o := 4) rfl Tryz.underlying104 rfl Tryz.i101 (by decide) rfl ⟨rfl, rfl⟩)), .inr (YD.u (fr (fun _ => undef) [(3, (.pointer d : Value))]) st rfl rfl (by kernel_rfl) (OE.nilCheck (a := a1) (congrArg Value.pointer e2) ⟨rfl, rfl⟩)), .inr (YD.u (fr (fun _ => undef) [(0, (.pointer d : Value))]) st rfl rfl (by kernel_rfl) (OE.moveV (v := .pointer d) rfl ⟨rfl, rfl⟩)), trivial⟩ (OE.callL (args := [.map x3, .slice x5A x5n x5c]) Tryz.func91 rfl Tryz.nn91 rfl rfl (CHE.mono H (fun r7 h8 H => ?_) (fun _ _ e => e.elim)))
  obtain ⟨y9A, y9n, y9c, rfl, H⟩ := H
  refine DW.still (i := 9) (v := .slice y9A y9n y9c) (by kernel_rfl) ?_
  refine DW.finL st hd [(3, (.pointer d : Value)), (4, (.pointer (some a1) : Value)), (5, (.pointer (some (a1.add 4)) : Value)), (6, (.map x3 : Value)), (7, (.pointer d : Value)), (8, (.pointer (some a1) : Value)), (9, (.pointer (some (a1.add 5)) : Value)), (10, (.slice x5A x5n x5c : Value)), (11, (.slice y9A y9n y9c : Value)), (2, (.slice y9A y9n y9c : Value))] (by kernel_rfl) (by kernel_rfl) ⟨.inr (YD.u (fr (fun _ => undef) [(11, (.slice y9A y9n y9c : Value))]) st rfl rfl (by kernel_rfl) (OE.assignV (v := .slice y9A y9n y9c) rfl ⟨rfl, rfl⟩)), .inl (by kernel_rfl), .inl (by kernel_rfl), .inl (by kernel_rfl), .inl (by kernel_rfl), .inl (by kernel_rfl), .inl (by kernel_rfl), .inl (by kernel_rfl), .inl (by kernel_rfl), .inl (by kernel_rfl), trivial⟩ ?_
  change VC _ _ _ _ _ _ _
  refine VC.ret ?_
  exact ⟨rfl, _, ResOK.t1 rfl (v := .slice y9A y9n y9c) rfl, H⟩

def D_disk_Disk_add.J1 (R : Value → Hp → Prop)  (d : Option Addr) (dataA : Option Addr) (datan : Nat) (datac : Nat)  (h1 : Hp) : Prop :=
  (∃ a2 : Addr, d = some a2 ∧ (∃ x4 : Int, cell h1 (a2.add 2) = some (.int .i64 x4) ∧ (Wr h1 (a2.add 2) ∧ ∀ h6, h6 = setc h1 (a2.add 2) (.int .i64 (IntKind.i64.wrap (x4 + 1))) → (∃ x8 : Option Nat, cell h6 (a2.add 3) = some (.map x8) ∧ (∃ x10 : Int, cell h6 (a2.add 2) = some (.int .i64 x10) ∧ CH Tryz.prog 48 #[.slice dataA datan datac] h6 (fun r12 h13 => ∃ y14A : Option Addr, ∃ y14n : Nat, ∃ y14c : Nat, r12 = .slice y14A y14n y14c ∧ (cell h13 (a2.add 3) = some (.map x8) ∧ (cell h13 (a2.add 2) = some (.int .i64 x10) ∧ (∀ b18 h17, b18 = Array.size h13 → h17 = Array.push h13 (.cells #[.slice y14A y14n y14c, .slice none 0 0] 111) → (cell h17 (a2.add 3) = some (.map x8) ∧ (cell h17 (a2.add 2) = some (.int .i64 x10) ∧ (∃ Q25 : Hp → Prop, MUp Tryz.prog 100 h17 (.map x8) (.int .i64 x10) (.pointer (some (Addr.mk b18 0 none))) Q25 ∧ ∀ h21, Q25 h21 → (∃ x23 : Int, cell h21 (a2.add 2) = some (.int .i64 x23) ∧ R (.int .i64 x23) h21)))))))))))))
def D_disk_Disk_add (R : Value → Hp → Prop) (d : Option Addr) (dataA : Option Addr) (datan : Nat) (datac : Nat) (h : Hp) : Prop :=
  (∃ a31 : Addr, d = some a31 ∧ (∃ x33 : Option Nat, cell h (a31.add 3) = some (.map x33) ∧ (((Option.isNone x33) = true → (∀ b37 h36, b37 = Array.size h → h36 = Array.push h (.map #[] 0) → (Wr h36 (a31.add 3) ∧ ∀ h38, h38 = setc h36 (a31.add 3) (.map (some b37)) → D_disk_Disk_add.J1 R  d dataA datan datac  h38))) ∧ ((Option.isNone x33) = false → D_disk_Disk_add.J1 R  d dataA datan datac  h))))
set_option maxRecDepth 10000 in
set_option maxHeartbeats 4000000 in
theorem D_disk_Disk_add.sound {R : Value → Hp → Prop} {d : Option Addr} {dataA : Option Addr} {datan : Nat} {datac : Nat} {h : Hp} (H : D_disk_Disk_add R  d dataA datan datac h) : CH Tryz.prog 44 #[.pointer d, .slice dataA datan datac] h R := by
  refine CHE.enter (n := 37) Tryz.func44 rfl rfl (Nat.le_of_ble_eq_true rfl) ?_
  unfold D_disk_Disk_add at H
  refine VC.seq ?_
  refine VC.region ?_
  refine VL.stepD rfl rfl (by decide) (OE.assignV (v := .int .i64 0) rfl ?_)
  refine VL.nil ?_
  change VC _ _ _ _ _ _ _
  refine VC.seqJ (fun f h1 => f 0 = (.pointer d : Value) ∧ f 1 = (.slice dataA datan datac : Value) ∧ D_disk_Disk_add.J1 R  d dataA datan datac  h1) ?_ ?_
  · intro f h1 J
    obtain ⟨hk0, hk1, H⟩ := J
    rw [← fr_self f [(0, .pointer d), (1, .slice dataA datan datac)] (by simp only [List.mem_cons, List.not_mem_nil, or_false]; rintro p (rfl | rfl) <;> assumption)]
    unfold D_disk_Disk_add.J1 at H
    refine VC.seq ?_
    refine VC.region ?_
    refine VL.stepD rfl rfl (by decide) (OE.moveV (v := .pointer d) rfl ?_)
    obtain ⟨a2, e3, H⟩ := H
    refine VL.stepD rfl rfl (by decide) (OE.nilCheck (a := a2) (congrArg Value.pointer e3) ?_)
    refine VL.stepD rfl rfl (by decide) (OE.fieldAddrI (a := a2) (o := 2) rfl Tryz.underlying104 rfl Tryz.i3 (by decide) rfl ?_)
    obtain ⟨x4, hl5, H⟩ := H
    refine VL.stepD rfl rfl (by decide) (OE.load (a := (a2.add 2)) (v := .int .i64 x4) rfl (LdT.one Tryz.underlying3 rfl hl5) ?_)
    refine VL.stepD rfl rfl (by decide) (OE.binI (v := .int .i64 (IntKind.i64.wrap (x4 + 1))) rfl rfl rfl ?_)
    refine VL.stepD rfl rfl (by decide) (OE.nilCheck (a := a2) (congrArg Value.pointer e3) ?_)
    refine VL.stepD rfl rfl (by decide) (OE.fieldAddrI (a := a2) (o := 2) rfl Tryz.underlying104 rfl Tryz.i3 (by decide) rfl ?_)
    obtain ⟨hw7, H⟩ := H
    obtain ⟨h6, eh30⟩ : ∃ h6, h6 = setc h1 (a2.add 2) (.int .i64 (IntKind.i64.wrap (x4 + 1))) := ⟨_, rfl⟩
    have H := H h6 eh30
    refine VL.stepN rfl rfl (OE.storeE (a := (a2.add 2)) (v := .int .i64 (IntKind.i64.wrap (x4 + 1))) rfl rfl (StT.oneI Tryz.i3 hw7 rfl) eh30 ?_)
    refine VL.nil ?_
    change VC _ _ _ _ _ _ _
    refine VC.seq ?_
    refine VC.drawsS Tryz.mixed (by kernel_rfl) (by kernel_rfl) (fun st hd => ?_)
    refine DW.still (i := 0) (v := .pointer d) (by kernel_rfl) ?_
    refine DW.still (i := 1) (v := .pointer (some a2)) (by kernel_rfl) ?_
    refine DW.still (i := 2) (v := .pointer (some (a2.add 3))) (by kernel_rfl) ?_
    obtain ⟨x8, hl9, H⟩ := H
    refine DW.still (i := 3) (v := .map x8) (by kernel_rfl) ?_
    refine DW.still (i := 4) (v := .pointer d) (by kernel_rfl) ?_
    refine DW.still (i := 5) (v := .pointer (some a2)) (by kernel_rfl) ?_
    refine DW.still (i := 6) (v := .pointer (some (a2.add 2))) (by kernel_rfl) ?_
    obtain ⟨x10, hl11, H⟩ := H
    refine DW.still (i := 7) (v := .int .i64 x10) (by kernel_rfl) ?_
    refine DW.still (i := 8) (v := .slice dataA datan datac) (by kernel_rfl) ?_
    refine DW.loudF (fr (fun _ => undef) [(29, (.slice dataA datan datac : Value))]) st hd (i := 9) rfl (by kernel_rfl) (.inl rfl) (by kernel_rfl) ⟨.inr (YD.u (fr (fun _ => undef) [(1, (.slice dataA datan datac : Value))]) st rfl rfl (by kernel_rfl) (OE.moveV (v := .slice dataA datan datac) rfl ⟨rfl, rfl⟩)), .inr (YD.u (fr (fun _ => undef) [(27, (.pointer (some (a2.add 2)) : Value))]) st rfl rfl (by kernel_rfl) (OE.load (a := (a2.add 2)) (v := .int .i64 x10) rfl (LdT.one Tryz.underlying3 rfl hl11) ⟨rfl, rfl⟩)), .inr (YD.u (fr (fun _ => undef) [(26, (.pointer (some a2) : Value))]) st rfl rfl (by kernel_rfl) (OE.fieldAddrI (a := a2) (o := 2) rfl Tryz.underlying104 rfl Tryz.i3 (by decide) rfl ⟨rfl, rfl⟩)), .inr (YD.u (fr (fun _ => undef) [(25, (.pointer d : Value))]) st rfl rfl (by kernel_rfl) (OE.nilCheck (a := a2) (congrArg Value.pointer e3) ⟨rfl, rfl⟩)), .inr (YD.u (fr (fun _ => undef) [(0, (.pointer d : Value))]) st rfl rfl (by kernel_rfl) (OE.moveV (v := .pointer d) rfl ⟨rfl, rfl⟩)), .inr (YD.u (fr (fun _ => undef) [(23, (.pointer (some (a2.add 3)) : Value))]) st rfl rfl (by kernel_rfl) (OE.load (a := (a2.add 3)) (v := .map x8) rfl (LdT.one Tryz.underlying100 rfl hl9) ⟨rfl, rfl⟩)), .inr (YD.u (fr (fun _ => undef) [(22, (.pointer (some a2) : Value))]) st rfl rfl (by kernel_rfl) (OE.fieldAddrI (a := a2) (o := 3) rfl Tryz.underlying104 rfl Tryz.i100 (by decide) rfl ⟨rfl, rfl⟩)), .inr (YD.u (fr (fun _ => undef) [(21, (.pointer d : Value))]) st rfl rfl (by kernel_rfl) (OE.nilCheck (a := a2) (congrArg Value.pointer e3) ⟨rfl, rfl⟩)), .inr (YD.u (fr (fun _ => undef) [(0, (.pointer d : Value))]) st rfl rfl (by kernel_rfl) (OE.moveV (v := .pointer d) rfl ⟨rfl, rfl⟩)), trivial⟩ (OE.callL (args := [.slice dataA datan datac]) Tryz.func48 rfl Tryz.nn48 rfl rfl (CHE.mono H (fun r12 h13 H => ?_) (fun _ _ e => e.elim)))
    obtain ⟨y14A, y14n, y14c, rfl, H⟩ := H
    obtain ⟨hs15, hs16, H⟩ := H
    refine DW.still (i := 10) (v := .agg #[.slice y14A y14n y14c, .slice none 0 0]) (by kernel_rfl) ?_
    obtain ⟨b18, eb27⟩ : ∃ b18, b18 = Array.size h13 := ⟨_, rfl⟩
    obtain ⟨h17, eh28⟩ : ∃ h17, h17 = Array.push h13 (.cells #[.slice y14A y14n y14c, .slice none 0 0] 111) := ⟨_, rfl⟩
    have H := H b18 h17 eb27 eh28
    refine DW.loudF (fr (fun _ => undef) [(31, (.agg #[.slice y14A y14n y14c, .slice none 0 0] : Value))]) st hd (i := 11) rfl (by kernel_rfl) (.inl rfl) (by kernel_rfl) ⟨.inr (YD.u (fr (fun _ => undef) [(30, (.slice y14A y14n y14c : Value))]) st rfl rfl (by kernel_rfl) (OE.buildV (ps := [(0, (.slice y14A y14n y14c : Value))]) rfl (Tryz.bf13 _ _ _) ⟨rfl, rfl⟩)), .inl (by kernel_rfl), .inl (by kernel_rfl), .inr (YD.u (fr (fun _ => undef) [(27, (.pointer (some (a2.add 2)) : Value))]) st rfl rfl (by kernel_rfl) (OE.load (a := (a2.add 2)) (v := .int .i64 x10) rfl (LdT.one Tryz.underlying3 rfl hs16) ⟨rfl, rfl⟩)), .inr (YD.u (fr (fun _ => undef) [(26, (.pointer (some a2) : Value))]) st rfl rfl (by kernel_rfl) (OE.fieldAddrI (a := a2) (o := 2) rfl Tryz.underlying104 rfl Tryz.i3 (by decide) rfl ⟨rfl, rfl⟩)), .inr (YD.u (fr (fun _ => undef) [(25, (.pointer d : Value))]) st rfl rfl (by kernel_rfl) (OE.nilCheck (a := a2) (congrArg Value.pointer e3) ⟨rfl, rfl⟩)), .inr (YD.u (fr (fun _ => undef) [(0, (.pointer d : Value))]) st rfl rfl (by kernel_rfl) (OE.moveV (v := .pointer d) rfl ⟨rfl, rfl⟩)), .inr (YD.u (fr (fun _ => undef) [(23, (.pointer (some (a2.add 3)) : Value))]) st rfl rfl (by kernel_rfl) (OE.load (a := (a2.add 3)) (v := .map x8) rfl (LdT.one Tryz.underlying100 rfl hs15) ⟨rfl, rfl⟩)), .inr (YD.u (fr (fun _ => undef) [(22, (.pointer (some a2) : Value))]) st rfl rfl (by kernel_rfl) (OE.fieldAddrI (a := a2) (o := 3) rfl Tryz.underlying104 rfl Tryz.i100 (by decide) rfl ⟨rfl, rfl⟩)), .inr (YD.u (fr (fun _ => undef) [(21, (.pointer d : Value))]) st rfl rfl (by kernel_rfl) (OE.nilCheck (a := a2) (congrArg Value.pointer e3) ⟨rfl, rfl⟩)), .inr (YD.u (fr (fun _ => undef) [(0, (.pointer d : Value))]) st rfl rfl (by kernel_rfl) (OE.moveV (v := .pointer d) rfl ⟨rfl, rfl⟩)), trivial⟩ (OE.boxE (v := .agg #[.slice y14A y14n y14c, .slice none 0 0]) rfl eb27 eh28 ?_)
    obtain ⟨hs19, hs20, H⟩ := H
    obtain ⟨Q25, hl22, H⟩ := H
    refine DW.loudF (fr (fun _ => undef) [(24, (.map x8 : Value)), (28, (.int .i64 x10 : Value)), (32, (.pointer (some (Addr.mk b18 0 none)) : Value))]) st hd (i := 12) rfl (by kernel_rfl) (.inl rfl) (by kernel_rfl) ⟨.inl (by kernel_rfl), .inl (by kernel_rfl), .inl (by kernel_rfl), .inl (by kernel_rfl), .inr (YD.u (fr (fun _ => undef) [(27, (.pointer (some (a2.add 2)) : Value))]) st rfl rfl (by kernel_rfl) (OE.load (a := (a2.add 2)) (v := .int .i64 x10) rfl (LdT.one Tryz.underlying3 rfl hs20) ⟨rfl, rfl⟩)), .inr (YD.u (fr (fun _ => undef) [(26, (.pointer (some a2) : Value))]) st rfl rfl (by kernel_rfl) (OE.fieldAddrI (a := a2) (o := 2) rfl Tryz.underlying104 rfl Tryz.i3 (by decide) rfl ⟨rfl, rfl⟩)), .inr (YD.u (fr (fun _ => undef) [(25, (.pointer d : Value))]) st rfl rfl (by kernel_rfl) (OE.nilCheck (a := a2) (congrArg Value.pointer e3) ⟨rfl, rfl⟩)), .inr (YD.u (fr (fun _ => undef) [(0, (.pointer d : Value))]) st rfl rfl (by kernel_rfl) (OE.moveV (v := .pointer d) rfl ⟨rfl, rfl⟩)), .inr (YD.u (fr (fun _ => undef) [(23, (.pointer (some (a2.add 3)) : Value))]) st rfl rfl (by kernel_rfl) (OE.load (a := (a2.add 3)) (v := .map x8) rfl (LdT.one Tryz.underlying100 rfl hs19) ⟨rfl, rfl⟩)), .inr (YD.u (fr (fun _ => undef) [(22, (.pointer (some a2) : Value))]) st rfl rfl (by kernel_rfl) (OE.fieldAddrI (a := a2) (o := 3) rfl Tryz.underlying104 rfl Tryz.i100 (by decide) rfl ⟨rfl, rfl⟩)), .inr (YD.u (fr (fun _ => undef) [(21, (.pointer d : Value))]) st rfl rfl (by kernel_rfl) (OE.nilCheck (a := a2) (congrArg Value.pointer e3) ⟨rfl, rfl⟩)), .inr (YD.u (fr (fun _ => undef) [(0, (.pointer d : Value))]) st rfl rfl (by kernel_rfl) (OE.moveV (v := .pointer d) rfl ⟨rfl, rfl⟩)), trivial⟩ (OE.mapUpdate (m := .map x8) (k := .int .i64 x10) (v := .pointer (some (Addr.mk b18 0 none))) rfl rfl rfl hl22 (fun h21 q26 => ?_))
    have H := H h21 q26
    refine DW.finL st hd [(21, (.pointer d : Value)), (22, (.pointer (some a2) : Value)), (23, (.pointer (some (a2.add 3)) : Value)), (24, (.map x8 : Value)), (25, (.pointer d : Value)), (26, (.pointer (some a2) : Value)), (27, (.pointer (some (a2.add 2)) : Value)), (28, (.int .i64 x10 : Value)), (29, (.slice dataA datan datac : Value)), (30, (.slice y14A y14n y14c : Value)), (31, (.agg #[.slice y14A y14n y14c, .slice none 0 0] : Value)), (32, (.pointer (some (Addr.mk b18 0 none)) : Value))] (by kernel_rfl) (by kernel_rfl) ⟨.inl (by kernel_rfl), .inl (by kernel_rfl), .inl (by kernel_rfl), .inl (by kernel_rfl), .inl (by kernel_rfl), .inl (by kernel_rfl), .inl (by kernel_rfl), .inl (by kernel_rfl), .inl (by kernel_rfl), .inl (by kernel_rfl), .inl (by kernel_rfl), .inl (by kernel_rfl), .inl (by kernel_rfl), trivial⟩ ?_
    change VC _ _ _ _ _ _ _
    refine VC.seq ?_
    refine VC.region ?_
    refine VL.stepD rfl rfl (by decide) (OE.moveV (v := .pointer d) rfl ?_)
    refine VL.stepD rfl rfl (by decide) (OE.nilCheck (a := a2) (congrArg Value.pointer e3) ?_)
    refine VL.stepD rfl rfl (by decide) (OE.fieldAddrI (a := a2) (o := 2) rfl Tryz.underlying104 rfl Tryz.i3 (by decide) rfl ?_)
    obtain ⟨x23, hl24, H⟩ := H
    refine VL.stepD rfl rfl (by decide) (OE.load (a := (a2.add 2)) (v := .int .i64 x23) rfl (LdT.one Tryz.underlying3 rfl hl24) ?_)
    refine VL.stepD rfl rfl (by decide) (OE.assignV (v := .int .i64 x23) rfl ?_)
    refine VL.nil ?_
    change VC _ _ _ _ _ _ _
    refine VC.ret ?_
    exact ⟨rfl, _, ResOK.t1 rfl (v := .int .i64 x23) rfl, H⟩
  · skip
    refine VC.seq ?_
    refine VC.region ?_
    refine VL.stepD rfl rfl (by decide) (OE.moveV (v := .pointer d) rfl ?_)
    obtain ⟨a31, e32, H⟩ := H
    refine VL.stepD rfl rfl (by decide) (OE.nilCheck (a := a31) (congrArg Value.pointer e32) ?_)
    refine VL.stepD rfl rfl (by decide) (OE.fieldAddrI (a := a31) (o := 3) rfl Tryz.underlying104 rfl Tryz.i100 (by decide) rfl ?_)
    obtain ⟨x33, hl34, H⟩ := H
    refine VL.stepD rfl rfl (by decide) (OE.load (a := (a31.add 3)) (v := .map x33) rfl (LdT.one Tryz.underlying100 rfl hl34) ?_)
    refine VL.stepD rfl rfl (by decide) (OE.mapNil (p := x33) rfl rfl Tryz.underlying100 ?_)
    refine VL.nil ?_
    change VC _ _ _ _ _ _ _
    refine VC.cond (t := (Option.isNone x33)) rfl (fun e35 => ?_) (fun e35 => ?_)
    · have H := H.1 e35
      refine VC.region ?_
      refine VL.stepD rfl rfl (by decide) (OE.moveV (v := .pointer d) rfl ?_)
      obtain ⟨b37, eb41⟩ : ∃ b37, b37 = Array.size h := ⟨_, rfl⟩
      obtain ⟨h36, eh42⟩ : ∃ h36, h36 = Array.push h (.map #[] 0) := ⟨_, rfl⟩
      have H := H b37 h36 eb41 eh42
      refine VL.stepD rfl rfl (by decide) (OE.makeMapE eb41 eh42 ?_)
      refine VL.stepD rfl rfl (by decide) (OE.nilCheck (a := a31) (congrArg Value.pointer e32) ?_)
      refine VL.stepD rfl rfl (by decide) (OE.fieldAddrI (a := a31) (o := 3) rfl Tryz.underlying104 rfl Tryz.i100 (by decide) rfl ?_)
      obtain ⟨hw39, H⟩ := H
      obtain ⟨h38, eh40⟩ : ∃ h38, h38 = setc h36 (a31.add 3) (.map (some b37)) := ⟨_, rfl⟩
      have H := H h38 eh40
      refine VL.stepN rfl rfl (OE.storeE (a := (a31.add 3)) (v := .map (some b37)) rfl rfl (StT.oneI Tryz.i100 hw39 rfl) eh40 ?_)
      refine VL.nil ?_
      exact ⟨rfl, rfl, rfl, H⟩
    · have H := H.2 e35
      refine VC.skip ?_
      exact ⟨rfl, rfl, rfl, H⟩

def D_disk_Disk_Append_1 (R : Value → Hp → Prop) (dataA : Option Addr) (datan : Nat) (datac : Nat) (c0 : Addr) (c1 : Addr) (h : Hp) : Prop :=
  (((((datan : Nat) : Int) == 0) = true → R (.int .i64 0) h) ∧ ((((datan : Nat) : Int) == 0) = false → (∃ x2 : Option Addr, cell h c0 = some (.pointer x2) ∧ CH Tryz.prog 46 #[.pointer x2] h (fun r4 h5 => ∃ y6_0 : Int, ∃ y6_1 : Int, r4 = .tuple #[.int .i64 y6_0, .int .i64 y6_1] ∧ (∃ x7 : Option Addr, cell h5 c1 = some (.pointer x7) ∧ (∃ x9 : Option Addr, cell h5 c1 = some (.pointer x9) ∧ (∃ x11 : Option Addr, cell h5 c1 = some (.pointer x11) ∧ (∃ a13 : Addr, x11 = some a13 ∧ (∃ x15 : Int, cell h5 a13 = some (.int .i64 x15) ∧ CH Tryz.prog 43 #[.pointer x9] h5 (fun r17 h18 => ∃ y19A : Option Addr, ∃ y19n : Nat, ∃ y19c : Nat, r17 = .slice y19A y19n y19c ∧ (cell h18 c1 = some (.pointer x7) ∧ (cell h18 c1 = some (.pointer x11) ∧ (cell h18 a13 = some (.int .i64 x15) ∧ CH Tryz.prog 47 #[.pointer x7, .slice y19A y19n y19c] h18 (fun r23 h24 => ∃ y25 : Int, r23 = .int .i64 y25 ∧ (cell h24 c1 = some (.pointer x11) ∧ (cell h24 a13 = some (.int .i64 x15) ∧ (((decide ((IntKind.i64.wrap (y25 + (optMx 0 (IntKind.i64.wrap ((IntKind.i64.wrap (y6_0 + ((datan : Nat) : Int))) - y6_1))))) > x15)) = true → R (.int .i64 8) h24) ∧ ((decide ((IntKind.i64.wrap (y25 + (optMx 0 (IntKind.i64.wrap ((IntKind.i64.wrap (y6_0 + ((datan : Nat) : Int))) - y6_1))))) > x15)) = false → (∃ x29 : Option Addr, cell h24 c0 = some (.pointer x29) ∧ (∃ x31 : Option Addr, cell h24 c0 = some (.pointer x31) ∧ (∃ a33 : Addr, x31 = some a33 ∧ (∃ x35A : Option Addr, ∃ x35n : Nat, ∃ x35c : Nat, cell h24 (a33.add 1) = some (.slice x35A x35n x35c) ∧ CH Tryz.prog 48 #[.slice dataA datan datac] h24 (fun r37 h38 => ∃ y39A : Option Addr, ∃ y39n : Nat, ∃ y39c : Nat, r37 = .slice y39A y39n y39c ∧ (cell h38 c0 = some (.pointer x29) ∧ (cell h38 c0 = some (.pointer x31) ∧ (cell h38 (a33.add 1) = some (.slice x35A x35n x35c) ∧ (∀ b44 h43, b44 = Array.size h38 → h43 = Array.push h38 (.cells #[.iface 114 (.agg #[.slice y39A y39n y39c])] 150) → (cell h43 c0 = some (.pointer x29) ∧ (cell h43 c0 = some (.pointer x31) ∧ (cell h43 (a33.add 1) = some (.slice x35A x35n x35c) ∧ (∃ vs48 : List Value, Src h43 (1 * 1) vs48 (some (Addr.mk b44 0 none)) ∧ (∀ v ∈ vs48, oneC v = true) ∧ (x35n + 1) * 16 ≤ 140737488355328 ∧ x35n + 1 ≤ 9223372036854775807 ∧ AppendV 150 (.nilIface : Value) 1 h43 x35A x35n x35c 1 vs48 (fun A53 n54 c55 h56 => (cell h56 c0 = some (.pointer x29) ∧ (∃ a58 : Addr, x29 = some a58 ∧ (Wr h56 (a58.add 1) ∧ ∀ h60, h60 = setc h56 (a58.add 1) (.slice A53 n54 c55) → R (.int .i64 0) h60)))))))))))))))))))))))))))))))))))
set_option maxRecDepth 10000 in
set_option maxHeartbeats 4000000 in
theorem D_disk_Disk_Append_1.sound {R : Value → Hp → Prop} {dataA : Option Addr} {datan : Nat} {datac : Nat} {c0 : Addr} {c1 : Addr} {h : Hp} (H : D_disk_Disk_Append_1 R  dataA datan datac c0 c1 h) : CH Tryz.prog 45 #[.slice dataA datan datac, .pointer (some c0), .pointer (some c1)] h R := by
  refine CHE.enter (n := 45) Tryz.func45 rfl rfl (Nat.le_of_ble_eq_true rfl) ?_
  unfold D_disk_Disk_Append_1 at H
  refine VC.seq ?_
  refine VC.region ?_
  refine VL.stepD rfl rfl (by decide) (OE.assignV (v := .int .i64 0) rfl ?_)
  refine VL.nil ?_
  change VC _ _ _ _ _ _ _
  refine VC.seq ?_
  refine VC.seq ?_
  refine VC.region ?_
  refine VL.stepD rfl rfl (by decide) (OE.moveV (v := .slice dataA datan datac) rfl ?_)
  refine VL.stepD rfl rfl (by decide) (OE.lenSlice rfl Tryz.underlying22 ?_)
  refine VL.stepD rfl rfl (by decide) (OE.binI (v := .bool (((datan : Nat) : Int) == 0)) rfl rfl rfl ?_)
  refine VL.nil ?_
  change VC _ _ _ _ _ _ _
  refine VC.cond (t := (((datan : Nat) : Int) == 0)) rfl (fun e1 => ?_) (fun e1 => ?_)
  · have H := H.1 e1
    refine VC.seq ?_
    refine VC.region ?_
    refine VL.stepD rfl rfl (by decide) (OE.assignV (v := .int .i64 0) rfl ?_)
    refine VL.nil ?_
    change VC _ _ _ _ _ _ _
    refine VC.ret ?_
    exact ⟨rfl, _, ResOK.t1 rfl (v := .int .i64 0) rfl, H⟩
  · have H := H.2 e1
    refine VC.skip ?_
    change VC _ _ _ _ _ _ _
    refine VC.seq ?_
    refine VC.region ?_
    obtain ⟨x2, hl3, H⟩ := H
    refine VL.stepD rfl rfl (by decide) (OE.load (a := c0) (v := .pointer x2) rfl (LdT.one Tryz.underlying96 rfl hl3) ?_)
    refine VL.stepD rfl rfl (by decide) (OE.callL (args := [.pointer x2]) Tryz.func46 rfl Tryz.nn46 rfl rfl (CHE.mono H (fun r4 h5 H => ?_) (fun _ _ e => e.elim)))
    obtain ⟨y6_0, y6_1, rfl, H⟩ := H
    refine VL.stepD rfl rfl (by decide) (OE.moveV (v := .tuple #[.int .i64 y6_0, .int .i64 y6_1]) rfl ?_)
    refine VL.stepD rfl rfl (by decide) (OE.extract (v := .int .i64 y6_0) rfl rfl ?_)
    refine VL.stepD rfl rfl (by decide) (OE.extract (v := .int .i64 y6_1) rfl rfl ?_)
    refine VL.stepD rfl rfl (by decide) (OE.assignV (v := .int .i64 y6_0) rfl ?_)
    refine VL.stepD rfl rfl (by decide) (OE.assignV (v := .int .i64 y6_1) rfl ?_)
    refine VL.nil ?_
    change VC _ _ _ _ _ _ _
    refine VC.seq ?_
    refine VC.seq ?_
    refine VC.drawsS Tryz.mixed (by kernel_rfl) (by kernel_rfl) (fun st hd => ?_)
    obtain ⟨x7, hl8, H⟩ := H
    refine DW.still (i := 0) (v := .pointer x7) (by kernel_rfl) ?_
    obtain ⟨x9, hl10, H⟩ := H
    refine DW.still (i := 1) (v := .pointer x9) (by kernel_rfl) ?_
    refine DW.still (i := 4) (v := .int .i64 y6_0) (by kernel_rfl) ?_
    refine DW.still (i := 5) (v := .slice dataA datan datac) (by kernel_rfl) ?_
    refine DW.still (i := 6) (v := .int .i64 ((datan : Nat) : Int)) (by kernel_rfl) ?_
    refine DW.still (i := 7) (v := .int .i64 (IntKind.i64.wrap (y6_0 + ((datan : Nat) : Int)))) (by kernel_rfl) ?_
    refine DW.still (i := 8) (v := .int .i64 y6_1) (by kernel_rfl) ?_
    refine DW.still (i := 9) (v := .int .i64 (IntKind.i64.wrap ((IntKind.i64.wrap (y6_0 + ((datan : Nat) : Int))) - y6_1))) (by kernel_rfl) ?_
    refine DW.still (i := 10) (v := .int .i64 (optMx 0 (IntKind.i64.wrap ((IntKind.i64.wrap (y6_0 + ((datan : Nat) : Int))) - y6_1)))) (by kernel_rfl) ?_
    obtain ⟨x11, hl12, H⟩ := H
    refine DW.still (i := 12) (v := .pointer x11) (by kernel_rfl) ?_
    obtain ⟨a13, e14, H⟩ := H
    refine DW.still (i := 13) (v := .pointer (some a13)) (by kernel_rfl) ?_
    refine DW.still (i := 14) (v := .pointer (some a13)) (by kernel_rfl) ?_
    obtain ⟨x15, hl16, H⟩ := H
    refine DW.still (i := 15) (v := .int .i64 x15) (by kernel_rfl) ?_
    refine DW.loudF (fr (fun _ => undef) [(16, (.pointer x9 : Value))]) st hd (i := 2) rfl (by kernel_rfl) (.inl rfl) (by kernel_rfl) ⟨.inr (YD.u (fr (fun _ => undef) [(29, (.pointer (some a13) : Value))]) st rfl rfl (by kernel_rfl) (OE.load (a := a13) (v := .int .i64 x15) rfl (LdT.one Tryz.underlying3 rfl hl16) ⟨rfl, rfl⟩)), .inr (YD.u (fr (fun _ => undef) [(28, (.pointer (some a13) : Value))]) st rfl rfl (by kernel_rfl) (OE.fieldAddrI (a := a13) (o := 0) rfl Tryz.underlying104 rfl Tryz.i3 (by decide) rfl ⟨rfl, rfl⟩)), .inr (YD.u (fr (fun _ => undef) [(27, (.pointer x11 : Value))]) st rfl rfl (by kernel_rfl) (OE.nilCheck (a := a13) (congrArg Value.pointer e14) ⟨rfl, rfl⟩)), .inr (YD.u (fr (fun _ => undef) [(2, (.pointer (some c1) : Value))]) st rfl rfl (by kernel_rfl) (OE.load (a := c1) (v := .pointer x11) rfl (LdT.one Tryz.underlying24 rfl hl12) ⟨rfl, rfl⟩)), .inr (YD.u (fr (fun _ => undef) [(24, (.int .i64 (IntKind.i64.wrap ((IntKind.i64.wrap (y6_0 + ((datan : Nat) : Int))) - y6_1)) : Value))]) st rfl rfl (by kernel_rfl) (OE.max rfl rfl ⟨rfl, rfl⟩)), .inr (YD.u (fr (fun _ => undef) [(22, (.int .i64 (IntKind.i64.wrap (y6_0 + ((datan : Nat) : Int))) : Value)), (23, (.int .i64 y6_1 : Value))]) st rfl rfl (by kernel_rfl) (OE.binI (v := .int .i64 (IntKind.i64.wrap ((IntKind.i64.wrap (y6_0 + ((datan : Nat) : Int))) - y6_1))) rfl rfl rfl ⟨rfl, rfl⟩)), .inr (YD.u (fr (fun _ => undef) [(6, (.int .i64 y6_1 : Value))]) st rfl rfl (by kernel_rfl) (OE.moveV (v := .int .i64 y6_1) rfl ⟨rfl, rfl⟩)), .inr (YD.u (fr (fun _ => undef) [(19, (.int .i64 y6_0 : Value)), (21, (.int .i64 ((datan : Nat) : Int) : Value))]) st rfl rfl (by kernel_rfl) (OE.binI (v := .int .i64 (IntKind.i64.wrap (y6_0 + ((datan : Nat) : Int)))) rfl rfl rfl ⟨rfl, rfl⟩)), .inr (YD.u (fr (fun _ => undef) [(20, (.slice dataA datan datac : Value))]) st rfl rfl (by kernel_rfl) (OE.lenSlice rfl Tryz.underlying22 ⟨rfl, rfl⟩)), .inr (YD.u (fr (fun _ => undef) [(0, (.slice dataA datan datac : Value))]) st rfl rfl (by kernel_rfl) (OE.moveV (v := .slice dataA datan datac) rfl ⟨rfl, rfl⟩)), .inr (YD.u (fr (fun _ => undef) [(5, (.int .i64 y6_0 : Value))]) st rfl rfl (by kernel_rfl) (OE.moveV (v := .int .i64 y6_0) rfl ⟨rfl, rfl⟩)), .inr (YD.u (fr (fun _ => undef) [(2, (.pointer (some c1) : Value))]) st rfl rfl (by kernel_rfl) (OE.load (a := c1) (v := .pointer x9) rfl (LdT.one Tryz.underlying24 rfl hl10) ⟨rfl, rfl⟩)), .inr (YD.u (fr (fun _ => undef) [(2, (.pointer (some c1) : Value))]) st rfl rfl (by kernel_rfl) (OE.load (a := c1) (v := .pointer x7) rfl (LdT.one Tryz.underlying24 rfl hl8) ⟨rfl, rfl⟩)), trivial⟩ (OE.callL (args := [.pointer x9]) Tryz.func43 rfl Tryz.nn43 rfl rfl (CHE.mono H (fun r17 h18 H => ?_) (fun _ _ e => e.elim)))
    obtain ⟨y19A, y19n, y19c, rfl, H⟩ := H
    obtain ⟨hs20, hs21, hs22, H⟩ := H
    refine DW.loudF (fr (fun _ => undef) [(15, (.pointer x7 : Value)), (17, (.slice y19A y19n y19c : Value))]) st hd (i := 3) rfl (by kernel_rfl) (.inl rfl) (by kernel_rfl) ⟨.inl (by kernel_rfl), .inr (YD.u (fr (fun _ => undef) [(29, (.pointer (some a13) : Value))]) st rfl rfl (by kernel_rfl) (OE.load (a := a13) (v := .int .i64 x15) rfl (LdT.one Tryz.underlying3 rfl hs22) ⟨rfl, rfl⟩)), .inr (YD.u (fr (fun _ => undef) [(28, (.pointer (some a13) : Value))]) st rfl rfl (by kernel_rfl) (OE.fieldAddrI (a := a13) (o := 0) rfl Tryz.underlying104 rfl Tryz.i3 (by decide) rfl ⟨rfl, rfl⟩)), .inr (YD.u (fr (fun _ => undef) [(27, (.pointer x11 : Value))]) st rfl rfl (by kernel_rfl) (OE.nilCheck (a := a13) (congrArg Value.pointer e14) ⟨rfl, rfl⟩)), .inr (YD.u (fr (fun _ => undef) [(2, (.pointer (some c1) : Value))]) st rfl rfl (by kernel_rfl) (OE.load (a := c1) (v := .pointer x11) rfl (LdT.one Tryz.underlying24 rfl hs21) ⟨rfl, rfl⟩)), .inr (YD.u (fr (fun _ => undef) [(24, (.int .i64 (IntKind.i64.wrap ((IntKind.i64.wrap (y6_0 + ((datan : Nat) : Int))) - y6_1)) : Value))]) st rfl rfl (by kernel_rfl) (OE.max rfl rfl ⟨rfl, rfl⟩)), .inr (YD.u (fr (fun _ => undef) [(22, (.int .i64 (IntKind.i64.wrap (y6_0 + ((datan : Nat) : Int))) : Value)), (23, (.int .i64 y6_1 : Value))]) st rfl rfl (by kernel_rfl) (OE.binI (v := .int .i64 (IntKind.i64.wrap ((IntKind.i64.wrap (y6_0 + ((datan : Nat) : Int))) - y6_1))) rfl rfl rfl ⟨rfl, rfl⟩)), .inr (YD.u (fr (fun _ => undef) [(6, (.int .i64 y6_1 : Value))]) st rfl rfl (by kernel_rfl) (OE.moveV (v := .int .i64 y6_1) rfl ⟨rfl, rfl⟩)), .inr (YD.u (fr (fun _ => undef) [(19, (.int .i64 y6_0 : Value)), (21, (.int .i64 ((datan : Nat) : Int) : Value))]) st rfl rfl (by kernel_rfl) (OE.binI (v := .int .i64 (IntKind.i64.wrap (y6_0 + ((datan : Nat) : Int)))) rfl rfl rfl ⟨rfl, rfl⟩)), .inr (YD.u (fr (fun _ => undef) [(20, (.slice dataA datan datac : Value))]) st rfl rfl (by kernel_rfl) (OE.lenSlice rfl Tryz.underlying22 ⟨rfl, rfl⟩)), .inr (YD.u (fr (fun _ => undef) [(0, (.slice dataA datan datac : Value))]) st rfl rfl (by kernel_rfl) (OE.moveV (v := .slice dataA datan datac) rfl ⟨rfl, rfl⟩)), .inr (YD.u (fr (fun _ => undef) [(5, (.int .i64 y6_0 : Value))]) st rfl rfl (by kernel_rfl) (OE.moveV (v := .int .i64 y6_0) rfl ⟨rfl, rfl⟩)), .inl (by kernel_rfl), .inr (YD.u (fr (fun _ => undef) [(2, (.pointer (some c1) : Value))]) st rfl rfl (by kernel_rfl) (OE.load (a := c1) (v := .pointer x7) rfl (LdT.one Tryz.underlying24 rfl hs20) ⟨rfl, rfl⟩)), trivial⟩ (OE.callL (args := [.pointer x7, .slice y19A y19n y19c]) Tryz.func47 rfl Tryz.nn47 rfl rfl (CHE.mono H (fun r23 h24 H => ?_) (fun _ _ e => e.elim)))
    obtain ⟨y25, rfl, H⟩ := H
    obtain ⟨hs26, hs27, H⟩ := H
    refine DW.still (i := 11) (v := .int .i64 (IntKind.i64.wrap (y25 + (optMx 0 (IntKind.i64.wrap ((IntKind.i64.wrap (y6_0 + ((datan : Nat) : Int))) - y6_1)))))) (by kernel_rfl) ?_
    refine DW.still (i := 16) (v := .bool (decide ((IntKind.i64.wrap (y25 + (optMx 0 (IntKind.i64.wrap ((IntKind.i64.wrap (y6_0 + ((datan : Nat) : Int))) - y6_1))))) > x15))) (by kernel_rfl) ?_
    refine DW.finL st hd [(15, (.pointer x7 : Value)), (16, (.pointer x9 : Value)), (19, (.int .i64 y6_0 : Value)), (20, (.slice dataA datan datac : Value)), (21, (.int .i64 ((datan : Nat) : Int) : Value)), (22, (.int .i64 (IntKind.i64.wrap (y6_0 + ((datan : Nat) : Int))) : Value)), (23, (.int .i64 y6_1 : Value)), (24, (.int .i64 (IntKind.i64.wrap ((IntKind.i64.wrap (y6_0 + ((datan : Nat) : Int))) - y6_1)) : Value)), (25, (.int .i64 (optMx 0 (IntKind.i64.wrap ((IntKind.i64.wrap (y6_0 + ((datan : Nat) : Int))) - y6_1))) : Value)), (27, (.pointer x11 : Value)), (28, (.pointer (some a13) : Value)), (29, (.pointer (some a13) : Value)), (30, (.int .i64 x15 : Value)), (17, (.slice y19A y19n y19c : Value)), (18, (.int .i64 y25 : Value)), (26, (.int .i64 (IntKind.i64.wrap (y25 + (optMx 0 (IntKind.i64.wrap ((IntKind.i64.wrap (y6_0 + ((datan : Nat) : Int))) - y6_1))))) : Value)), (31, (.bool (decide ((IntKind.i64.wrap (y25 + (optMx 0 (IntKind.i64.wrap ((IntKind.i64.wrap (y6_0 + ((datan : Nat) : Int))) - y6_1))))) > x15)) : Value))] (by kernel_rfl) (by kernel_rfl) ⟨.inr (YD.u (fr (fun _ => undef) [(26, (.int .i64 (IntKind.i64.wrap (y25 + (optMx 0 (IntKind.i64.wrap ((IntKind.i64.wrap (y6_0 + ((datan : Nat) : Int))) - y6_1))))) : Value)), (30, (.int .i64 x15 : Value))]) st rfl rfl (by kernel_rfl) (OE.binI (v := .bool (decide ((IntKind.i64.wrap (y25 + (optMx 0 (IntKind.i64.wrap ((IntKind.i64.wrap (y6_0 + ((datan : Nat) : Int))) - y6_1))))) > x15))) rfl rfl rfl ⟨rfl, rfl⟩)), .inr (YD.u (fr (fun _ => undef) [(18, (.int .i64 y25 : Value)), (25, (.int .i64 (optMx 0 (IntKind.i64.wrap ((IntKind.i64.wrap (y6_0 + ((datan : Nat) : Int))) - y6_1))) : Value))]) st rfl rfl (by kernel_rfl) (OE.binI (v := .int .i64 (IntKind.i64.wrap (y25 + (optMx 0 (IntKind.i64.wrap ((IntKind.i64.wrap (y6_0 + ((datan : Nat) : Int))) - y6_1)))))) rfl rfl rfl ⟨rfl, rfl⟩)), .inl (by kernel_rfl), .inl (by kernel_rfl), .inr (YD.u (fr (fun _ => undef) [(29, (.pointer (some a13) : Value))]) st rfl rfl (by kernel_rfl) (OE.load (a := a13) (v := .int .i64 x15) rfl (LdT.one Tryz.underlying3 rfl hs27) ⟨rfl, rfl⟩)), .inr (YD.u (fr (fun _ => undef) [(28, (.pointer (some a13) : Value))]) st rfl rfl (by kernel_rfl) (OE.fieldAddrI (a := a13) (o := 0) rfl Tryz.underlying104 rfl Tryz.i3 (by decide) rfl ⟨rfl, rfl⟩)), .inr (YD.u (fr (fun _ => undef) [(27, (.pointer x11 : Value))]) st rfl rfl (by kernel_rfl) (OE.nilCheck (a := a13) (congrArg Value.pointer e14) ⟨rfl, rfl⟩)), .inr (YD.u (fr (fun _ => undef) [(2, (.pointer (some c1) : Value))]) st rfl rfl (by kernel_rfl) (OE.load (a := c1) (v := .pointer x11) rfl (LdT.one Tryz.underlying24 rfl hs26) ⟨rfl, rfl⟩)), .inr (YD.u (fr (fun _ => undef) [(24, (.int .i64 (IntKind.i64.wrap ((IntKind.i64.wrap (y6_0 + ((datan : Nat) : Int))) - y6_1)) : Value))]) st rfl rfl (by kernel_rfl) (OE.max rfl rfl ⟨rfl, rfl⟩)), .inr (YD.u (fr (fun _ => undef) [(22, (.int .i64 (IntKind.i64.wrap (y6_0 + ((datan : Nat) : Int))) : Value)), (23, (.int .i64 y6_1 : Value))]) st rfl rfl (by kernel_rfl) (OE.binI (v := .int .i64 (IntKind.i64.wrap ((IntKind.i64.wrap (y6_0 + ((datan : Nat) : Int))) - y6_1))) rfl rfl rfl ⟨rfl, rfl⟩)), .inr (YD.u (fr (fun _ => undef) [(6, (.int .i64 y6_1 : Value))]) st rfl rfl (by kernel_rfl) (OE.moveV (v := .int .i64 y6_1) rfl ⟨rfl, rfl⟩)), .inr (YD.u (fr (fun _ => undef) [(19, (.int .i64 y6_0 : Value)), (21, (.int .i64 ((datan : Nat) : Int) : Value))]) st rfl rfl (by kernel_rfl) (OE.binI (v := .int .i64 (IntKind.i64.wrap (y6_0 + ((datan : Nat) : Int)))) rfl rfl rfl ⟨rfl, rfl⟩)), .inr (YD.u (fr (fun _ => undef) [(20, (.slice dataA datan datac : Value))]) st rfl rfl (by kernel_rfl) (OE.lenSlice rfl Tryz.underlying22 ⟨rfl, rfl⟩)), .inr (YD.u (fr (fun _ => undef) [(0, (.slice dataA datan datac : Value))]) st rfl rfl (by kernel_rfl) (OE.moveV (v := .slice dataA datan datac) rfl ⟨rfl, rfl⟩)), .inr (YD.u (fr (fun _ => undef) [(5, (.int .i64 y6_0 : Value))]) st rfl rfl (by kernel_rfl) (OE.moveV (v := .int .i64 y6_0) rfl ⟨rfl, rfl⟩)), .inl (by kernel_rfl), .inl (by kernel_rfl), trivial⟩ ?_
    change VC _ _ _ _ _ _ _
    refine VC.cond (t := (decide ((IntKind.i64.wrap (y25 + (optMx 0 (IntKind.i64.wrap ((IntKind.i64.wrap (y6_0 + ((datan : Nat) : Int))) - y6_1))))) > x15))) rfl (fun e28 => ?_) (fun e28 => ?_)
    · have H := H.1 e28
      refine VC.seq ?_
      refine VC.region ?_
      refine VL.stepD rfl rfl (by decide) (OE.assignV (v := .int .i64 8) rfl ?_)
      refine VL.nil ?_
      change VC _ _ _ _ _ _ _
      refine VC.ret ?_
      exact ⟨rfl, _, ResOK.t1 rfl (v := .int .i64 8) rfl, H⟩
    · have H := H.2 e28
      refine VC.skip ?_
      change VC _ _ _ _ _ _ _
      refine VC.seq ?_
      refine VC.drawsS Tryz.mixed (by kernel_rfl) (by kernel_rfl) (fun st hd => ?_)
      obtain ⟨x29, hl30, H⟩ := H
      refine DW.still (i := 0) (v := .pointer x29) (by kernel_rfl) ?_
      obtain ⟨x31, hl32, H⟩ := H
      refine DW.still (i := 1) (v := .pointer x31) (by kernel_rfl) ?_
      obtain ⟨a33, e34, H⟩ := H
      refine DW.still (i := 2) (v := .pointer (some a33)) (by kernel_rfl) ?_
      refine DW.still (i := 3) (v := .pointer (some (a33.add 1))) (by kernel_rfl) ?_
      obtain ⟨x35A, x35n, x35c, hl36, H⟩ := H
      refine DW.still (i := 4) (v := .slice x35A x35n x35c) (by kernel_rfl) ?_
      refine DW.still (i := 5) (v := .slice dataA datan datac) (by kernel_rfl) ?_
      refine DW.loudF (fr (fun _ => undef) [(37, (.slice dataA datan datac : Value))]) st hd (i := 6) rfl (by kernel_rfl) (.inl rfl) (by kernel_rfl) ⟨.inr (YD.u (fr (fun _ => undef) [(0, (.slice dataA datan datac : Value))]) st rfl rfl (by kernel_rfl) (OE.moveV (v := .slice dataA datan datac) rfl ⟨rfl, rfl⟩)), .inr (YD.u (fr (fun _ => undef) [(35, (.pointer (some (a33.add 1)) : Value))]) st rfl rfl (by kernel_rfl) (OE.load (a := (a33.add 1)) (v := .slice x35A x35n x35c) rfl (LdT.one Tryz.underlying109 rfl hl36) ⟨rfl, rfl⟩)), .inr (YD.u (fr (fun _ => undef) [(34, (.pointer (some a33) : Value))]) st rfl rfl (by kernel_rfl) (OE.fieldAddrI (a := a33) (o := 1) rfl Tryz.underlying111 rfl Tryz.i109 (by decide) rfl ⟨rfl, rfl⟩)), .inr (YD.u (fr (fun _ => undef) [(33, (.pointer x31 : Value))]) st rfl rfl (by kernel_rfl) (OE.nilCheck (a := a33) (congrArg Value.pointer e34) ⟨rfl, rfl⟩)), .inr (YD.u (fr (fun _ => undef) [(1, (.pointer (some c0) : Value))]) st rfl rfl (by kernel_rfl) (OE.load (a := c0) (v := .pointer x31) rfl (LdT.one Tryz.underlying96 rfl hl32) ⟨rfl, rfl⟩)), .inr (YD.u (fr (fun _ => undef) [(1, (.pointer (some c0) : Value))]) st rfl rfl (by kernel_rfl) (OE.load (a := c0) (v := .pointer x29) rfl (LdT.one Tryz.underlying96 rfl hl30) ⟨rfl, rfl⟩)), trivial⟩ (OE.callL (args := [.slice dataA datan datac]) Tryz.func48 rfl Tryz.nn48 rfl rfl (CHE.mono H (fun r37 h38 H => ?_) (fun _ _ e => e.elim)))
      obtain ⟨y39A, y39n, y39c, rfl, H⟩ := H
      obtain ⟨hs40, hs41, hs42, H⟩ := H
      refine DW.still (i := 7) (v := .agg #[.slice y39A y39n y39c]) (by kernel_rfl) ?_
      refine DW.still (i := 8) (v := .iface 114 (.agg #[.slice y39A y39n y39c])) (by kernel_rfl) ?_
      obtain ⟨b44, eb63⟩ : ∃ b44, b44 = Array.size h38 := ⟨_, rfl⟩
      obtain ⟨h43, eh64⟩ : ∃ h43, h43 = Array.push h38 (.cells #[.iface 114 (.agg #[.slice y39A y39n y39c])] 150) := ⟨_, rfl⟩
      have H := H b44 h43 eb63 eh64
      refine DW.loudF (fr (fun _ => undef) [(40, (.iface 114 (.agg #[.slice y39A y39n y39c]) : Value))]) st hd (i := 9) rfl (by kernel_rfl) (.inl rfl) (by kernel_rfl) ⟨.inr (YD.u (fr (fun _ => undef) [(39, (.agg #[.slice y39A y39n y39c] : Value))]) st rfl rfl (by kernel_rfl) (OE.makeInterfaceV (v := .agg #[.slice y39A y39n y39c]) rfl Tryz.underlying114 rfl ⟨rfl, rfl⟩)), .inr (YD.u (fr (fun _ => undef) [(38, (.slice y39A y39n y39c : Value))]) st rfl rfl (by kernel_rfl) (OE.buildV (ps := [(0, (.slice y39A y39n y39c : Value))]) rfl (Tryz.bf14 _ _ _) ⟨rfl, rfl⟩)), .inl (by kernel_rfl), .inl (by kernel_rfl), .inr (YD.u (fr (fun _ => undef) [(35, (.pointer (some (a33.add 1)) : Value))]) st rfl rfl (by kernel_rfl) (OE.load (a := (a33.add 1)) (v := .slice x35A x35n x35c) rfl (LdT.one Tryz.underlying109 rfl hs42) ⟨rfl, rfl⟩)), .inr (YD.u (fr (fun _ => undef) [(34, (.pointer (some a33) : Value))]) st rfl rfl (by kernel_rfl) (OE.fieldAddrI (a := a33) (o := 1) rfl Tryz.underlying111 rfl Tryz.i109 (by decide) rfl ⟨rfl, rfl⟩)), .inr (YD.u (fr (fun _ => undef) [(33, (.pointer x31 : Value))]) st rfl rfl (by kernel_rfl) (OE.nilCheck (a := a33) (congrArg Value.pointer e34) ⟨rfl, rfl⟩)), .inr (YD.u (fr (fun _ => undef) [(1, (.pointer (some c0) : Value))]) st rfl rfl (by kernel_rfl) (OE.load (a := c0) (v := .pointer x31) rfl (LdT.one Tryz.underlying96 rfl hs41) ⟨rfl, rfl⟩)), .inr (YD.u (fr (fun _ => undef) [(1, (.pointer (some c0) : Value))]) st rfl rfl (by kernel_rfl) (OE.load (a := c0) (v := .pointer x29) rfl (LdT.one Tryz.underlying96 rfl hs40) ⟨rfl, rfl⟩)), trivial⟩ (OE.buildSliceE (ps := [(0, (.iface 114 (.agg #[.slice y39A y39n y39c]) : Value))]) (cells := #[.iface 114 (.agg #[.slice y39A y39n y39c])]) (e := 150) rfl (Tryz.bf15 _ _ _) eb63 eh64 ?_)
      obtain ⟨hs45, hs46, hs47, H⟩ := H
      obtain ⟨vs48, z49, z50, z51, z52, H⟩ := H
      refine DW.loudF (fr (fun _ => undef) [(36, (.slice x35A x35n x35c : Value)), (41, (.slice (some (Addr.mk b44 0 none)) 1 1 : Value))]) st hd (i := 10) rfl (by kernel_rfl) (.inl rfl) (by kernel_rfl) ⟨.inl (by kernel_rfl), .inl (by kernel_rfl), .inl (by kernel_rfl), .inl (by kernel_rfl), .inl (by kernel_rfl), .inr (YD.u (fr (fun _ => undef) [(35, (.pointer (some (a33.add 1)) : Value))]) st rfl rfl (by kernel_rfl) (OE.load (a := (a33.add 1)) (v := .slice x35A x35n x35c) rfl (LdT.one Tryz.underlying109 rfl hs47) ⟨rfl, rfl⟩)), .inr (YD.u (fr (fun _ => undef) [(34, (.pointer (some a33) : Value))]) st rfl rfl (by kernel_rfl) (OE.fieldAddrI (a := a33) (o := 1) rfl Tryz.underlying111 rfl Tryz.i109 (by decide) rfl ⟨rfl, rfl⟩)), .inr (YD.u (fr (fun _ => undef) [(33, (.pointer x31 : Value))]) st rfl rfl (by kernel_rfl) (OE.nilCheck (a := a33) (congrArg Value.pointer e34) ⟨rfl, rfl⟩)), .inr (YD.u (fr (fun _ => undef) [(1, (.pointer (some c0) : Value))]) st rfl rfl (by kernel_rfl) (OE.load (a := c0) (v := .pointer x31) rfl (LdT.one Tryz.underlying96 rfl hs46) ⟨rfl, rfl⟩)), .inr (YD.u (fr (fun _ => undef) [(1, (.pointer (some c0) : Value))]) st rfl rfl (by kernel_rfl) (OE.load (a := c0) (v := .pointer x29) rfl (LdT.one Tryz.underlying96 rfl hs45) ⟨rfl, rfl⟩)), trivial⟩ (OE.appendV (z := (.nilIface : Value)) (sz := 1) (bs := 16) rfl rfl Tryz.underlying109 Tryz.i150 z49 z50 z51 z52 (AppendV.mono H (fun A53 n54 c55 h56 H => ?_)))
      obtain ⟨hs57, H⟩ := H
      obtain ⟨a58, e59, H⟩ := H
      refine DW.still (i := 11) (v := .pointer (some a58)) (by kernel_rfl) ?_
      refine DW.still (i := 12) (v := .pointer (some (a58.add 1))) (by kernel_rfl) ?_
      obtain ⟨hw61, H⟩ := H
      obtain ⟨h60, eh62⟩ : ∃ h60, h60 = setc h56 (a58.add 1) (.slice A53 n54 c55) := ⟨_, rfl⟩
      have H := H h60 eh62
      refine DW.loudF (fr (fun _ => undef) [(44, (.pointer (some (a58.add 1)) : Value)), (42, (.slice A53 n54 c55 : Value))]) st hd (i := 13) rfl (by kernel_rfl) (.inl rfl) (by kernel_rfl) ⟨.inr (YD.u (fr (fun _ => undef) [(43, (.pointer (some a58) : Value))]) st rfl rfl (by kernel_rfl) (OE.fieldAddrI (a := a58) (o := 1) rfl Tryz.underlying111 rfl Tryz.i109 (by decide) rfl ⟨rfl, rfl⟩)), .inr (YD.u (fr (fun _ => undef) [(32, (.pointer x29 : Value))]) st rfl rfl (by kernel_rfl) (OE.nilCheck (a := a58) (congrArg Value.pointer e59) ⟨rfl, rfl⟩)), .inl (by kernel_rfl), .inl (by kernel_rfl), .inl (by kernel_rfl), .inl (by kernel_rfl), .inl (by kernel_rfl), .inl (by kernel_rfl), .inl (by kernel_rfl), .inl (by kernel_rfl), .inl (by kernel_rfl), .inl (by kernel_rfl), .inr (YD.u (fr (fun _ => undef) [(1, (.pointer (some c0) : Value))]) st rfl rfl (by kernel_rfl) (OE.load (a := c0) (v := .pointer x29) rfl (LdT.one Tryz.underlying96 rfl hs57) ⟨rfl, rfl⟩)), trivial⟩ (OE.storeE (a := (a58.add 1)) (v := .slice A53 n54 c55) rfl rfl (StT.oneI Tryz.i109 hw61 rfl) eh62 ?_)
      refine DW.finL st hd [(32, (.pointer x29 : Value)), (33, (.pointer x31 : Value)), (34, (.pointer (some a33) : Value)), (35, (.pointer (some (a33.add 1)) : Value)), (36, (.slice x35A x35n x35c : Value)), (37, (.slice dataA datan datac : Value)), (38, (.slice y39A y39n y39c : Value)), (39, (.agg #[.slice y39A y39n y39c] : Value)), (40, (.iface 114 (.agg #[.slice y39A y39n y39c]) : Value)), (41, (.slice (some (Addr.mk b44 0 none)) 1 1 : Value)), (42, (.slice A53 n54 c55 : Value)), (43, (.pointer (some a58) : Value)), (44, (.pointer (some (a58.add 1)) : Value))] (by kernel_rfl) (by kernel_rfl) ⟨.inl (by kernel_rfl), .inl (by kernel_rfl), .inl (by kernel_rfl), .inl (by kernel_rfl), .inl (by kernel_rfl), .inl (by kernel_rfl), .inl (by kernel_rfl), .inl (by kernel_rfl), .inl (by kernel_rfl), .inl (by kernel_rfl), .inl (by kernel_rfl), .inl (by kernel_rfl), .inl (by kernel_rfl), .inl (by kernel_rfl), trivial⟩ ?_
      change VC _ _ _ _ _ _ _
      refine VC.seq ?_
      refine VC.region ?_
      refine VL.stepD rfl rfl (by decide) (OE.assignV (v := .int .i64 0) rfl ?_)
      refine VL.nil ?_
      change VC _ _ _ _ _ _ _
      refine VC.ret ?_
      exact ⟨rfl, _, ResOK.t1 rfl (v := .int .i64 0) rfl, H⟩

def D_disk_file_lengths.J1 (R : Value → Hp → Prop)   (j5 : Int) (j6 : Int) (h7 : Hp) : Prop :=
  R (.tuple #[.int .i64 j5, .int .i64 j6]) h7
def D_disk_file_lengths.L2 (R : Value → Hp → Prop)  (x8A : Option Addr) (x8n : Nat) (C14 : Int → Int → Int → Hp → Prop) (j10 : Int) (j11 : Int) (j12 : Int) (h13 : Hp) : Prop :=
  (((decide (j12 < ((x8n : Nat) : Int))) = true → (∃ a16 : Addr, x8A = some a16 ∧ (0 : Int) ≤ j12 ∧ j12 < (x8n : Int) ∧ (∃ x20 : Value, cell h13 (a16.add (Int.toNat j12 * 1)) = some (x20) ∧ CHI Tryz.prog x20 "treadle/disk.length" [.int .i64 j10] h13 (fun r22 h23 => ∃ y24 : Int, r22 = .int .i64 y24 ∧ C14 y24 (optMx j11 y24) (IntKind.i64.wrap (j12 + 1)) h23)))) ∧ ((decide (j12 < ((x8n : Nat) : Int))) = false → D_disk_file_lengths.J1 R   j10 j11 h13))
def D_disk_file_lengths (R : Value → Hp → Prop) (f' : Option Addr) (h : Hp) : Prop :=
  (∃ a1 : Addr, f' = some a1 ∧ (∃ x3A : Option Addr, ∃ x3n : Nat, ∃ x3c : Nat, cell h a1 = some (.slice x3A x3n x3c) ∧ (∃ x8A : Option Addr, ∃ x8n : Nat, ∃ x8c : Nat, cell h (a1.add 1) = some (.slice x8A x8n x8c) ∧ (∃ Inv : Int → Int → Int → Hp → Nat → Prop, (∃ m, Inv ((x3n : Nat) : Int) ((x3n : Nat) : Int) 0 h m) ∧ ∀ j10 j11 j12 h13 m, Inv j10 j11 j12 h13 m → D_disk_file_lengths.L2 R  x8A x8n (fun j10 j11 j12 h13 => ∃ m1, m1 < m ∧ Inv j10 j11 j12 h13 m1) j10 j11 j12 h13))))
set_option maxRecDepth 10000 in
set_option maxHeartbeats 4000000 in
theorem D_disk_file_lengths.sound {R : Value → Hp → Prop} {f' : Option Addr} {h : Hp} (H : D_disk_file_lengths R  f' h) : CH Tryz.prog 46 #[.pointer f'] h R := by
  refine CHE.enter (n := 30) Tryz.func46 rfl rfl (Nat.le_of_ble_eq_true rfl) ?_
  unfold D_disk_file_lengths at H
  refine VC.seq ?_
  refine VC.region ?_
  refine VL.stepD rfl rfl (by decide) (OE.assignV (v := .int .i64 0) rfl ?_)
  refine VL.stepD rfl rfl (by decide) (OE.assignV (v := .int .i64 0) rfl ?_)
  refine VL.nil ?_
  change VC _ _ _ _ _ _ _
  refine VC.seq ?_
  refine VC.region ?_
  refine VL.stepD rfl rfl (by decide) (OE.moveV (v := .pointer f') rfl ?_)
  obtain ⟨a1, e2, H⟩ := H
  refine VL.stepD rfl rfl (by decide) (OE.nilCheck (a := a1) (congrArg Value.pointer e2) ?_)
  refine VL.stepD rfl rfl (by decide) (OE.fieldAddrI (a := a1) (o := 0) rfl Tryz.underlying111 rfl Tryz.i22 (by decide) rfl ?_)
  obtain ⟨x3A, x3n, x3c, hl4, H⟩ := H
  refine VL.stepD rfl rfl (by decide) (OE.load (a := a1) (v := .slice x3A x3n x3c) rfl (LdT.one Tryz.underlying22 rfl hl4) ?_)
  refine VL.stepD rfl rfl (by decide) (OE.lenSlice rfl Tryz.underlying22 ?_)
  refine VL.stepD rfl rfl (by decide) (OE.assignV (v := .int .i64 ((x3n : Nat) : Int)) rfl ?_)
  refine VL.nil ?_
  change VC _ _ _ _ _ _ _
  refine VC.seq ?_
  refine VC.region ?_
  refine VL.stepD rfl rfl (by decide) (OE.moveV (v := .int .i64 ((x3n : Nat) : Int)) rfl ?_)
  refine VL.stepD rfl rfl (by decide) (OE.assignV (v := .int .i64 ((x3n : Nat) : Int)) rfl ?_)
  refine VL.nil ?_
  change VC _ _ _ _ _ _ _
  refine VC.seqJ (fun f h7 => ∃ j5 : Int, ∃ j6 : Int, f 2 = (.int .i64 j5 : Value) ∧ f 3 = (.int .i64 j6 : Value) ∧ D_disk_file_lengths.J1 R   j5 j6 h7) ?_ ?_
  · intro f h7 J
    obtain ⟨j5, j6, hk2, hk3, H⟩ := J
    rw [← fr_self f [(2, .int .i64 j5), (3, .int .i64 j6)] (by simp only [List.mem_cons, List.not_mem_nil, or_false]; rintro p (rfl | rfl) <;> assumption)]
    unfold D_disk_file_lengths.J1 at H
    refine VC.seq ?_
    refine VC.region ?_
    refine VL.stepD rfl rfl (by decide) (OE.moveV (v := .int .i64 j5) rfl ?_)
    refine VL.stepD rfl rfl (by decide) (OE.moveV (v := .int .i64 j6) rfl ?_)
    refine VL.stepD rfl rfl (by decide) (OE.assignV (v := .int .i64 j5) rfl ?_)
    refine VL.stepD rfl rfl (by decide) (OE.assignV (v := .int .i64 j6) rfl ?_)
    refine VL.nil ?_
    change VC _ _ _ _ _ _ _
    refine VC.ret ?_
    exact ⟨rfl, _, ResOK.t2 rfl (v0 := .int .i64 j5) (v1 := .int .i64 j6) rfl rfl, H⟩
  · skip
    refine VC.seq ?_
    refine VC.region ?_
    refine VL.stepD rfl rfl (by decide) (OE.moveV (v := .pointer f') rfl ?_)
    refine VL.stepD rfl rfl (by decide) (OE.nilCheck (a := a1) (congrArg Value.pointer e2) ?_)
    refine VL.stepD rfl rfl (by decide) (OE.fieldAddrI (a := a1) (o := 1) rfl Tryz.underlying111 rfl Tryz.i109 (by decide) rfl ?_)
    obtain ⟨x8A, x8n, x8c, hl9, H⟩ := H
    refine VL.stepD rfl rfl (by decide) (OE.load (a := (a1.add 1)) (v := .slice x8A x8n x8c) rfl (LdT.one Tryz.underlying109 rfl hl9) ?_)
    refine VL.stepD rfl rfl (by decide) (OE.lenSlice rfl Tryz.underlying109 ?_)
    refine VL.stepD rfl rfl (by decide) (OE.moveV (v := .int .i64 0) rfl ?_)
    refine VL.nil ?_
    change VC _ _ _ _ _ _ _
    refine VC.block ?_
    obtain ⟨Inv, ⟨m0, h0⟩, H⟩ := H
    refine VC.loop (fun ds f h13 m => ds = [] ∧ ∃ j10 : Int, ∃ j11 : Int, ∃ j12 : Int, f 2 = (.int .i64 j10 : Value) ∧ f 3 = (.int .i64 j11 : Value) ∧ f 15 = (.slice x8A x8n x8c : Value) ∧ f 16 = (.int .i64 ((x8n : Nat) : Int) : Value) ∧ f 17 = (.int .i64 j12 : Value) ∧ Inv j10 j11 j12 h13 m) (m0 := m0) ⟨rfl, ((x3n : Nat) : Int), ((x3n : Nat) : Int), 0, rfl, rfl, rfl, rfl, rfl, h0⟩ ?_
    intro ds f h13 m I
    obtain ⟨rfl, j10, j11, j12, hk2, hk3, hk15, hk16, hk17, I⟩ := I
    rw [← fr_self f [(2, .int .i64 j10), (3, .int .i64 j11), (15, .slice x8A x8n x8c), (16, .int .i64 ((x8n : Nat) : Int)), (17, .int .i64 j12)] (by simp only [List.mem_cons, List.not_mem_nil, or_false]; rintro p (rfl | rfl | rfl | rfl | rfl) <;> assumption)]
    obtain ⟨C14, eC14⟩ : ∃ C14 : Int → Int → Int → Hp → Prop, C14 = (fun j10 j11 j12 h13 => ∃ m1, m1 < m ∧ Inv j10 j11 j12 h13 m1) := ⟨_, rfl⟩
    have H : D_disk_file_lengths.L2 R  x8A x8n C14 j10 j11 j12 h13 := by rw [eC14]; exact H j10 j11 j12 h13 m I
    unfold D_disk_file_lengths.L2 at H
    refine VC.seq ?_
    refine VC.region ?_
    refine VL.stepD rfl rfl (by decide) (OE.binI (v := .bool (decide (j12 < ((x8n : Nat) : Int)))) rfl rfl rfl ?_)
    refine VL.nil ?_
    change VC _ _ _ _ _ _ _
    refine VC.seq ?_
    refine VC.cond (t := (decide (j12 < ((x8n : Nat) : Int)))) rfl (fun e15 => ?_) (fun e15 => ?_)
    · have H := H.1 e15
      refine VC.skip ?_
      change VC _ _ _ _ _ _ _
      refine VC.seq ?_
      refine VC.block ?_
      refine VC.seq ?_
      refine VC.region ?_
      obtain ⟨a16, e17, z18, z19, H⟩ := H
      refine VL.stepD rfl rfl (by decide) (OE.indexAddrI (sz := 1) rfl rfl Tryz.underlying109 Tryz.i150 e17 z18 z19 ?_)
      obtain ⟨x20, hl21, H⟩ := H
      refine VL.stepD rfl rfl (by decide) (OE.load (a := (a16.add (Int.toNat j12 * 1))) (v := x20) rfl (LdT.one Tryz.underlying150 rfl hl21) ?_)
      refine VL.stepD rfl rfl (by decide) (OE.assignV (v := x20) rfl ?_)
      refine VL.nil ?_
      change VC _ _ _ _ _ _ _
      refine VC.seq ?_
      refine VC.region ?_
      refine VL.stepD rfl rfl (by decide) (OE.moveV (v := x20) rfl ?_)
      refine VL.stepD rfl rfl (by decide) (OE.moveV (v := .int .i64 j10) rfl ?_)
      refine VL.stepD rfl rfl (by decide) (OE.callI (l := [.int .i64 j10]) rfl rfl (CHI.mono H (fun r22 h23 H => ?_)))
      obtain ⟨y24, rfl, H⟩ := H
      refine VL.stepD rfl rfl (by decide) (OE.assignV (v := .int .i64 y24) rfl ?_)
      refine VL.nil ?_
      change VC _ _ _ _ _ _ _
      refine VC.region ?_
      refine VL.stepD rfl rfl (by decide) (OE.moveV (v := .int .i64 j11) rfl ?_)
      refine VL.stepD rfl rfl (by decide) (OE.moveV (v := .int .i64 y24) rfl ?_)
      refine VL.stepD rfl rfl (by decide) (OE.max rfl rfl ?_)
      refine VL.stepD rfl rfl (by decide) (OE.assignV (v := .int .i64 (optMx j11 y24)) rfl ?_)
      refine VL.nil ?_
      change VC _ _ _ _ _ _ _
      refine VC.region ?_
      refine VL.stepD rfl rfl (by decide) (OE.binI (v := .int .i64 (IntKind.i64.wrap (j12 + 1))) rfl rfl rfl ?_)
      refine VL.stepD rfl rfl (by decide) (OE.moveV (v := .int .i64 (IntKind.i64.wrap (j12 + 1))) rfl ?_)
      refine VL.nil ?_
      rw [eC14] at H
      obtain ⟨m1, hm1, H⟩ := H
      exact ⟨m1, hm1, rfl, y24, (optMx j11 y24), (IntKind.i64.wrap (j12 + 1)), rfl, rfl, rfl, rfl, rfl, H⟩
    · have H := H.2 e15
      refine VC.exit ?_
      exact ⟨rfl, j10, j11, rfl, rfl, H⟩

def D_disk_Disk_held.J1 (R : Value → Hp → Prop)   (j1 : Int) (h2 : Hp) : Prop :=
  R (.int .i64 j1) h2
def D_disk_Disk_held.L2 (R : Value → Hp → Prop)  (d : Option Addr) (idsA : Option Addr) (idsn : Nat) (C6 : Int → Int → Hp → Prop) (j3 : Int) (j4 : Int) (h5 : Hp) : Prop :=
  (((decide (j4 < ((idsn : Nat) : Int))) = true → (∃ a8 : Addr, idsA = some a8 ∧ (0 : Int) ≤ j4 ∧ j4 < (idsn : Int) ∧ (∃ x12 : Int, cell h5 (a8.add (Int.toNat j4 * 1)) = some (.int .i64 x12) ∧ (∃ a14 : Addr, d = some a14 ∧ (∃ x16 : Option Nat, cell h5 (a14.add 3) = some (.map x16) ∧ (∃ x18 : Option Addr, MLk Tryz.prog 100 h5 (.map x16) (.int .i64 x12) false (.pointer x18) ∧ CH Tryz.prog 46 #[.pointer x18] h5 (fun r20 h21 => ∃ y22_0 : Int, ∃ y22_1 : Int, r20 = .tuple #[.int .i64 y22_0, .int .i64 y22_1] ∧ C6 (IntKind.i64.wrap (j3 + y22_1)) (IntKind.i64.wrap (j4 + 1)) h21))))))) ∧ ((decide (j4 < ((idsn : Nat) : Int))) = false → D_disk_Disk_held.J1 R   j3 h5))
def D_disk_Disk_held (R : Value → Hp → Prop) (d : Option Addr) (idsA : Option Addr) (idsn : Nat) (idsc : Nat) (h : Hp) : Prop :=
  (∃ Inv : Int → Int → Hp → Nat → Prop, (∃ m, Inv 0 0 h m) ∧ ∀ j3 j4 h5 m, Inv j3 j4 h5 m → D_disk_Disk_held.L2 R  d idsA idsn (fun j3 j4 h5 => ∃ m1, m1 < m ∧ Inv j3 j4 h5 m1) j3 j4 h5)
set_option maxRecDepth 10000 in
set_option maxHeartbeats 4000000 in
theorem D_disk_Disk_held.sound {R : Value → Hp → Prop} {d : Option Addr} {idsA : Option Addr} {idsn : Nat} {idsc : Nat} {h : Hp} (H : D_disk_Disk_held R  d idsA idsn idsc h) : CH Tryz.prog 47 #[.pointer d, .slice idsA idsn idsc] h R := by
  refine CHE.enter (n := 31) Tryz.func47 rfl rfl (Nat.le_of_ble_eq_true rfl) ?_
  unfold D_disk_Disk_held at H
  refine VC.seq ?_
  refine VC.region ?_
  refine VL.stepD rfl rfl (by decide) (OE.assignV (v := .int .i64 0) rfl ?_)
  refine VL.nil ?_
  change VC _ _ _ _ _ _ _
  refine VC.seq ?_
  refine VC.region ?_
  refine VL.stepD rfl rfl (by decide) (OE.assignV (v := .int .i64 0) rfl ?_)
  refine VL.nil ?_
  change VC _ _ _ _ _ _ _
  refine VC.seqJ (fun f h2 => ∃ j1 : Int, f 5 = (.int .i64 j1 : Value) ∧ D_disk_Disk_held.J1 R   j1 h2) ?_ ?_
  · intro f h2 J
    obtain ⟨j1, hk5, H⟩ := J
    rw [← fr_self f [(5, .int .i64 j1)] (by simp only [List.mem_cons, List.not_mem_nil, or_false]; rintro p (rfl) <;> assumption)]
    unfold D_disk_Disk_held.J1 at H
    refine VC.seq ?_
    refine VC.region ?_
    refine VL.stepD rfl rfl (by decide) (OE.moveV (v := .int .i64 j1) rfl ?_)
    refine VL.stepD rfl rfl (by decide) (OE.assignV (v := .int .i64 j1) rfl ?_)
    refine VL.nil ?_
    change VC _ _ _ _ _ _ _
    refine VC.ret ?_
    exact ⟨rfl, _, ResOK.t1 rfl (v := .int .i64 j1) rfl, H⟩
  · skip
    refine VC.seq ?_
    refine VC.region ?_
    refine VL.stepD rfl rfl (by decide) (OE.moveV (v := .slice idsA idsn idsc) rfl ?_)
    refine VL.stepD rfl rfl (by decide) (OE.lenSlice rfl Tryz.underlying44 ?_)
    refine VL.stepD rfl rfl (by decide) (OE.moveV (v := .int .i64 0) rfl ?_)
    refine VL.nil ?_
    change VC _ _ _ _ _ _ _
    refine VC.block ?_
    obtain ⟨Inv, ⟨m0, h0⟩, H⟩ := H
    refine VC.loop (fun ds f h5 m => ds = [] ∧ ∃ j3 : Int, ∃ j4 : Int, f 0 = (.pointer d : Value) ∧ f 5 = (.int .i64 j3 : Value) ∧ f 10 = (.slice idsA idsn idsc : Value) ∧ f 11 = (.int .i64 ((idsn : Nat) : Int) : Value) ∧ f 12 = (.int .i64 j4 : Value) ∧ Inv j3 j4 h5 m) (m0 := m0) ⟨rfl, 0, 0, rfl, rfl, rfl, rfl, rfl, h0⟩ ?_
    intro ds f h5 m I
    obtain ⟨rfl, j3, j4, hk0, hk5, hk10, hk11, hk12, I⟩ := I
    rw [← fr_self f [(0, .pointer d), (5, .int .i64 j3), (10, .slice idsA idsn idsc), (11, .int .i64 ((idsn : Nat) : Int)), (12, .int .i64 j4)] (by simp only [List.mem_cons, List.not_mem_nil, or_false]; rintro p (rfl | rfl | rfl | rfl | rfl) <;> assumption)]
    obtain ⟨C6, eC6⟩ : ∃ C6 : Int → Int → Hp → Prop, C6 = (fun j3 j4 h5 => ∃ m1, m1 < m ∧ Inv j3 j4 h5 m1) := ⟨_, rfl⟩
    have H : D_disk_Disk_held.L2 R  d idsA idsn C6 j3 j4 h5 := by rw [eC6]; exact H j3 j4 h5 m I
    unfold D_disk_Disk_held.L2 at H
    refine VC.seq ?_
    refine VC.region ?_
    refine VL.stepD rfl rfl (by decide) (OE.binI (v := .bool (decide (j4 < ((idsn : Nat) : Int)))) rfl rfl rfl ?_)
    refine VL.nil ?_
    change VC _ _ _ _ _ _ _
    refine VC.seq ?_
    refine VC.cond (t := (decide (j4 < ((idsn : Nat) : Int)))) rfl (fun e7 => ?_) (fun e7 => ?_)
    · have H := H.1 e7
      refine VC.skip ?_
      change VC _ _ _ _ _ _ _
      refine VC.seq ?_
      refine VC.block ?_
      refine VC.seq ?_
      refine VC.region ?_
      obtain ⟨a8, e9, z10, z11, H⟩ := H
      refine VL.stepD rfl rfl (by decide) (OE.indexAddrI (sz := 1) rfl rfl Tryz.underlying44 Tryz.i3 e9 z10 z11 ?_)
      obtain ⟨x12, hl13, H⟩ := H
      refine VL.stepD rfl rfl (by decide) (OE.load (a := (a8.add (Int.toNat j4 * 1))) (v := .int .i64 x12) rfl (LdT.one Tryz.underlying3 rfl hl13) ?_)
      refine VL.stepD rfl rfl (by decide) (OE.assignV (v := .int .i64 x12) rfl ?_)
      refine VL.nil ?_
      change VC _ _ _ _ _ _ _
      refine VC.seq ?_
      refine VC.region ?_
      refine VL.stepD rfl rfl (by decide) (OE.moveV (v := .pointer d) rfl ?_)
      obtain ⟨a14, e15, H⟩ := H
      refine VL.stepD rfl rfl (by decide) (OE.nilCheck (a := a14) (congrArg Value.pointer e15) ?_)
      refine VL.stepD rfl rfl (by decide) (OE.fieldAddrI (a := a14) (o := 3) rfl Tryz.underlying104 rfl Tryz.i100 (by decide) rfl ?_)
      obtain ⟨x16, hl17, H⟩ := H
      refine VL.stepD rfl rfl (by decide) (OE.load (a := (a14.add 3)) (v := .map x16) rfl (LdT.one Tryz.underlying100 rfl hl17) ?_)
      refine VL.stepD rfl rfl (by decide) (OE.moveV (v := .int .i64 x12) rfl ?_)
      obtain ⟨x18, hl19, H⟩ := H
      refine VL.stepD rfl rfl (by decide) (OE.lookup (m := .map x16) (k := .int .i64 x12) rfl rfl hl19 ?_)
      refine VL.stepD rfl rfl (by decide) (OE.callL (args := [.pointer x18]) Tryz.func46 rfl Tryz.nn46 rfl rfl (CHE.mono H (fun r20 h21 H => ?_) (fun _ _ e => e.elim)))
      obtain ⟨y22_0, y22_1, rfl, H⟩ := H
      refine VL.stepD rfl rfl (by decide) (OE.moveV (v := .tuple #[.int .i64 y22_0, .int .i64 y22_1]) rfl ?_)
      refine VL.stepD rfl rfl (by decide) (OE.extract (v := .int .i64 y22_0) rfl rfl ?_)
      refine VL.stepD rfl rfl (by decide) (OE.extract (v := .int .i64 y22_1) rfl rfl ?_)
      refine VL.stepD rfl rfl (by decide) (OE.assignV (v := .int .i64 y22_0) rfl ?_)
      refine VL.stepD rfl rfl (by decide) (OE.assignV (v := .int .i64 y22_1) rfl ?_)
      refine VL.nil ?_
      change VC _ _ _ _ _ _ _
      refine VC.region ?_
      refine VL.stepD rfl rfl (by decide) (OE.moveV (v := .int .i64 j3) rfl ?_)
      refine VL.stepD rfl rfl (by decide) (OE.moveV (v := .int .i64 y22_1) rfl ?_)
      refine VL.stepD rfl rfl (by decide) (OE.binI (v := .int .i64 (IntKind.i64.wrap (j3 + y22_1))) rfl rfl rfl ?_)
      refine VL.stepD rfl rfl (by decide) (OE.assignV (v := .int .i64 (IntKind.i64.wrap (j3 + y22_1))) rfl ?_)
      refine VL.nil ?_
      change VC _ _ _ _ _ _ _
      refine VC.region ?_
      refine VL.stepD rfl rfl (by decide) (OE.binI (v := .int .i64 (IntKind.i64.wrap (j4 + 1))) rfl rfl rfl ?_)
      refine VL.stepD rfl rfl (by decide) (OE.moveV (v := .int .i64 (IntKind.i64.wrap (j4 + 1))) rfl ?_)
      refine VL.nil ?_
      rw [eC6] at H
      obtain ⟨m1, hm1, H⟩ := H
      exact ⟨m1, hm1, rfl, (IntKind.i64.wrap (j3 + y22_1)), (IntKind.i64.wrap (j4 + 1)), rfl, rfl, rfl, rfl, rfl, H⟩
    · have H := H.2 e7
      refine VC.exit ?_
      exact ⟨rfl, j3, rfl, H⟩

def D_slices_Clone_byte (R : Value → Hp → Prop) (sA : Option Addr) (sn : Nat) (sc : Nat) (h : Hp) : Prop :=
  (((Option.isNone sA) = true → R (.slice none 0 0) h) ∧ ((Option.isNone sA) = false → (∀ b3 h2, b3 = Array.size h → h2 = Array.push h (.cells #[] 5) → (∃ vs4 : List Value, Src h2 (sn * 1) vs4 sA ∧ (∀ v ∈ vs4, oneC v = true) ∧ (0 + sn) * 1 ≤ 140737488355328 ∧ 0 + sn ≤ 9223372036854775807 ∧ AppendV 5 (.int .u8 0 : Value) 1 h2 (some (Addr.mk b3 0 none)) 0 0 sn vs4 (fun A9 n10 c11 h12 => R (.slice A9 n10 c11) h12)))))
set_option maxRecDepth 10000 in
set_option maxHeartbeats 4000000 in
theorem D_slices_Clone_byte.sound {R : Value → Hp → Prop} {sA : Option Addr} {sn : Nat} {sc : Nat} {h : Hp} (H : D_slices_Clone_byte R  sA sn sc h) : CH Tryz.prog 48 #[.slice sA sn sc] h R := by
  refine CHE.enter (n := 8) Tryz.func48 rfl rfl (Nat.le_of_ble_eq_true rfl) ?_
  unfold D_slices_Clone_byte at H
  refine VC.seq ?_
  refine VC.region ?_
  refine VL.stepD rfl rfl (by decide) (OE.assignV (v := .slice none 0 0) rfl ?_)
  refine VL.nil ?_
  change VC _ _ _ _ _ _ _
  refine VC.seq ?_
  refine VC.seq ?_
  refine VC.region ?_
  refine VL.stepD rfl rfl (by decide) (OE.moveV (v := .slice sA sn sc) rfl ?_)
  refine VL.stepD rfl rfl (by decide) (OE.sliceNil (b := (Option.isNone sA)) (A := sA) (n := sn) (c := sc) rfl rfl Tryz.underlying22 (.inl ⟨rfl, rfl⟩) ?_)
  refine VL.nil ?_
  change VC _ _ _ _ _ _ _
  refine VC.cond (t := (Option.isNone sA)) rfl (fun e1 => ?_) (fun e1 => ?_)
  · have H := H.1 e1
    refine VC.seq ?_
    refine VC.region ?_
    refine VL.stepD rfl rfl (by decide) (OE.assignV (v := .slice none 0 0) rfl ?_)
    refine VL.nil ?_
    change VC _ _ _ _ _ _ _
    refine VC.ret ?_
    exact ⟨rfl, _, ResOK.t1 rfl (v := .slice none 0 0) rfl, H⟩
  · have H := H.2 e1
    refine VC.skip ?_
    change VC _ _ _ _ _ _ _
    refine VC.seq ?_
    refine VC.region ?_
    obtain ⟨b3, eb13⟩ : ∃ b3, b3 = Array.size h := ⟨_, rfl⟩
    obtain ⟨h2, eh14⟩ : ∃ h2, h2 = Array.push h (.cells #[] 5) := ⟨_, rfl⟩
    have H := H b3 h2 eb13 eh14
    refine VL.stepD rfl rfl (by decide) (OE.buildSliceE (ps := []) (cells := #[]) (e := 5) rfl (Tryz.bf16) eb13 eh14 ?_)
    refine VL.stepD rfl rfl (by decide) (OE.moveV (v := .slice sA sn sc) rfl ?_)
    obtain ⟨vs4, z5, z6, z7, z8, H⟩ := H
    refine VL.stepD rfl rfl (by decide) (OE.appendV (z := (.int .u8 0 : Value)) (sz := 1) (bs := 1) rfl rfl Tryz.underlying22 Tryz.i5 z5 z6 z7 z8 (AppendV.mono H (fun A9 n10 c11 h12 H => ?_)))
    refine VL.stepD rfl rfl (by decide) (OE.assignV (v := .slice A9 n10 c11) rfl ?_)
    refine VL.nil ?_
    change VC _ _ _ _ _ _ _
    refine VC.ret ?_
    exact ⟨rfl, _, ResOK.t1 rfl (v := .slice A9 n10 c11) rfl, H⟩


def D_disk_Disk_Append_2 (R : Value → Hp → Prop) (c0 : Addr) (c1 : Addr) (c2 : Addr) (h : Hp) : Prop :=
  (∃ x1 : Option Addr, cell h c0 = some (.pointer x1) ∧ (∃ x3 : ByteArray, cell h c1 = some (.string x3) ∧ CH Tryz.prog 41 #[.pointer x1, .string x3] h (fun r5 h6 => ∃ y7_0 : Option Addr, ∃ y7_1 : Int, r5 = .tuple #[.pointer y7_0, .int .i64 y7_1] ∧ (Wr h6 c2 ∧ ∀ h8, h8 = setc h6 c2 (.pointer y7_0) → R (.int .i64 y7_1) h8))))
set_option maxRecDepth 10000 in
set_option maxHeartbeats 4000000 in
theorem D_disk_Disk_Append_2.sound {R : Value → Hp → Prop} {c0 : Addr} {c1 : Addr} {c2 : Addr} {h : Hp} (H : D_disk_Disk_Append_2 R  c0 c1 c2 h) : CH Tryz.prog 49 #[.pointer (some c0), .pointer (some c1), .pointer (some c2)] h R := by
  refine CHE.enter (n := 11) Tryz.func49 rfl rfl (Nat.le_of_ble_eq_true rfl) ?_
  unfold D_disk_Disk_Append_2 at H
  refine VC.seq ?_
  refine VC.region ?_
  refine VL.stepD rfl rfl (by decide) (OE.assignV (v := .int .i64 0) rfl ?_)
  refine VL.nil ?_
  change VC _ _ _ _ _ _ _
  refine VC.seq ?_
  refine VC.region ?_
  obtain ⟨x1, hl2, H⟩ := H
  refine VL.stepD rfl rfl (by decide) (OE.load (a := c0) (v := .pointer x1) rfl (LdT.one Tryz.underlying24 rfl hl2) ?_)
  obtain ⟨x3, hl4, H⟩ := H
  refine VL.stepD rfl rfl (by decide) (OE.load (a := c1) (v := .string x3) rfl (LdT.one Tryz.underlying9 rfl hl4) ?_)
  refine VL.stepD rfl rfl (by decide) (OE.callL (args := [.pointer x1, .string x3]) Tryz.func41 rfl Tryz.nn41 rfl rfl (CHE.mono H (fun r5 h6 H => ?_) (fun _ _ e => e.elim)))
  obtain ⟨y7_0, y7_1, rfl, H⟩ := H
  refine VL.stepD rfl rfl (by decide) (OE.moveV (v := .tuple #[.pointer y7_0, .int .i64 y7_1]) rfl ?_)
  refine VL.stepD rfl rfl (by decide) (OE.extract (v := .pointer y7_0) rfl rfl ?_)
  refine VL.stepD rfl rfl (by decide) (OE.extract (v := .int .i64 y7_1) rfl rfl ?_)
  obtain ⟨hw9, H⟩ := H
  obtain ⟨h8, eh10⟩ : ∃ h8, h8 = setc h6 c2 (.pointer y7_0) := ⟨_, rfl⟩
  have H := H h8 eh10
  refine VL.stepN rfl rfl (OE.storeE (a := c2) (v := .pointer y7_0) rfl rfl (StT.oneI Tryz.i96 hw9 rfl) eh10 ?_)
  refine VL.stepD rfl rfl (by decide) (OE.assignV (v := .int .i64 y7_1) rfl ?_)
  refine VL.nil ?_
  change VC _ _ _ _ _ _ _
  refine VC.seq ?_
  refine VC.region ?_
  refine VL.stepD rfl rfl (by decide) (OE.moveV (v := .int .i64 y7_1) rfl ?_)
  refine VL.stepD rfl rfl (by decide) (OE.assignV (v := .int .i64 y7_1) rfl ?_)
  refine VL.nil ?_
  change VC _ _ _ _ _ _ _
  refine VC.ret ?_
  exact ⟨rfl, _, ResOK.t1 rfl (v := .int .i64 y7_1) rfl, H⟩

def D_disk_Disk_Append_3 (R : Value → Hp → Prop) (c0 : Addr) (c1 : Addr) (h : Hp) : Prop :=
  (∃ x1 : Value, cell h c0 = some (x1) ∧ (∃ x3A : Option Addr, ∃ x3n : Nat, ∃ x3c : Nat, cell h c1 = some (.slice x3A x3n x3c) ∧ CHV Tryz.prog x1 [.slice x3A x3n x3c] h (fun r5 h6 => ∃ y7 : Int, r5 = .int .i64 y7 ∧ R (.int .i64 y7) h6)))
set_option maxRecDepth 10000 in
set_option maxHeartbeats 4000000 in
theorem D_disk_Disk_Append_3.sound {R : Value → Hp → Prop} {c0 : Addr} {c1 : Addr} {h : Hp} (H : D_disk_Disk_Append_3 R  c0 c1 h) : CH Tryz.prog 50 #[.pointer (some c0), .pointer (some c1)] h R := by
  refine CHE.enter (n := 6) Tryz.func50 rfl rfl (Nat.le_of_ble_eq_true rfl) ?_
  unfold D_disk_Disk_Append_3 at H
  refine VC.seq ?_
  refine VC.region ?_
  refine VL.stepD rfl rfl (by decide) (OE.assignV (v := .int .i64 0) rfl ?_)
  refine VL.nil ?_
  change VC _ _ _ _ _ _ _
  refine VC.seq ?_
  refine VC.region ?_
  obtain ⟨x1, hl2, H⟩ := H
  refine VL.stepD rfl rfl (by decide) (OE.load (a := c0) (v := x1) rfl (LdT.one Tryz.underlying115 rfl hl2) ?_)
  obtain ⟨x3A, x3n, x3c, hl4, H⟩ := H
  refine VL.stepD rfl rfl (by decide) (OE.load (a := c1) (v := .slice x3A x3n x3c) rfl (LdT.one Tryz.underlying22 rfl hl4) ?_)
  refine VL.stepD rfl rfl (by decide) (OE.callV (l := [.slice x3A x3n x3c]) rfl rfl (CHV.mono H (fun r5 h6 H => ?_)))
  obtain ⟨y7, rfl, H⟩ := H
  refine VL.stepD rfl rfl (by decide) (OE.assignV (v := .int .i64 y7) rfl ?_)
  refine VL.nil ?_
  change VC _ _ _ _ _ _ _
  refine VC.ret ?_
  exact ⟨rfl, _, ResOK.t1 rfl (v := .int .i64 y7) rfl, H⟩

def D_disk_Disk_Append_4 (R : Value → Hp → Prop) (kind : Int) (c0 : Addr) (c1 : Addr) (h : Hp) : Prop :=
  (((kind == 5) = true → (∃ x2 : Value, cell h c0 = some (x2) ∧ (∃ x4A : Option Addr, ∃ x4n : Nat, ∃ x4c : Nat, cell h c1 = some (.slice x4A x4n x4c) ∧ (∃ x6A : Option Addr, ∃ x6n : Nat, ∃ x6c : Nat, cell h c1 = some (.slice x6A x6n x6c) ∧ ((0 : Int) ≤ (IntKind.i64.wrap (Int.tdiv ((x6n : Nat) : Int) 2)) ∧ (IntKind.i64.wrap (Int.tdiv ((x6n : Nat) : Int) 2)) ≤ ((x4c : Nat) : Int) ∧ CHV Tryz.prog x2 [.slice x4A (Int.toNat (IntKind.i64.wrap (Int.tdiv ((x6n : Nat) : Int) 2))) x4c] h (fun r10 h11 => ∃ y12 : Int, r10 = .int .i64 y12 ∧ R (.tuple #[]) h11)))))) ∧ ((kind == 5) = false → R (.tuple #[]) h))
set_option maxRecDepth 10000 in
set_option maxHeartbeats 4000000 in
theorem D_disk_Disk_Append_4.sound {R : Value → Hp → Prop} {kind : Int} {c0 : Addr} {c1 : Addr} {h : Hp} (H : D_disk_Disk_Append_4 R  kind c0 c1 h) : CH Tryz.prog 51 #[.int .i64 kind, .pointer (some c0), .pointer (some c1)] h R := by
  refine CHE.enter (n := 13) Tryz.func51 rfl rfl (Nat.le_of_ble_eq_true rfl) ?_
  unfold D_disk_Disk_Append_4 at H
  refine VC.seq ?_
  refine VC.region ?_
  refine VL.stepD rfl rfl (by decide) (OE.moveV (v := .int .i64 kind) rfl ?_)
  refine VL.stepD rfl rfl (by decide) (OE.binI (v := .bool (kind == 5)) rfl rfl rfl ?_)
  refine VL.nil ?_
  change VC _ _ _ _ _ _ _
  refine VC.cond (t := (kind == 5)) rfl (fun e1 => ?_) (fun e1 => ?_)
  · have H := H.1 e1
    refine VC.drawsS Tryz.mixed (by kernel_rfl) (by kernel_rfl) (fun st hd => ?_)
    obtain ⟨x2, hl3, H⟩ := H
    refine DW.still (i := 0) (v := x2) (by kernel_rfl) ?_
    obtain ⟨x4A, x4n, x4c, hl5, H⟩ := H
    refine DW.still (i := 1) (v := .slice x4A x4n x4c) (by kernel_rfl) ?_
    obtain ⟨x6A, x6n, x6c, hl7, H⟩ := H
    refine DW.still (i := 2) (v := .slice x6A x6n x6c) (by kernel_rfl) ?_
    refine DW.still (i := 3) (v := .int .i64 ((x6n : Nat) : Int)) (by kernel_rfl) ?_
    refine DW.still (i := 4) (v := .int .i64 (IntKind.i64.wrap (Int.tdiv ((x6n : Nat) : Int) 2))) (by kernel_rfl) ?_
    obtain ⟨z8, z9, H⟩ := H
    refine DW.still (i := 5) (v := .slice x4A (Int.toNat (IntKind.i64.wrap (Int.tdiv ((x6n : Nat) : Int) 2))) x4c) (by kernel_rfl) ?_
    refine DW.loudF (fr (fun _ => undef) [(6, (x2 : Value)), (11, (.slice x4A (Int.toNat (IntKind.i64.wrap (Int.tdiv ((x6n : Nat) : Int) 2))) x4c : Value))]) st hd (i := 6) rfl (by kernel_rfl) (.inl rfl) (by kernel_rfl) ⟨.inr (YD.u (fr (fun _ => undef) [(7, (.slice x4A x4n x4c : Value)), (10, (.int .i64 (IntKind.i64.wrap (Int.tdiv ((x6n : Nat) : Int) 2)) : Value))]) st rfl rfl (by kernel_rfl) (OE.sliceHiV (sz := 1) rfl rfl Tryz.underlying22 Tryz.i5 z8 z9 ⟨rfl, rfl⟩)), .inr (YD.u (fr (fun _ => undef) [(9, (.int .i64 ((x6n : Nat) : Int) : Value))]) st rfl rfl (by kernel_rfl) (OE.binI (v := .int .i64 (IntKind.i64.wrap (Int.tdiv ((x6n : Nat) : Int) 2))) rfl rfl rfl ⟨rfl, rfl⟩)), .inr (YD.u (fr (fun _ => undef) [(8, (.slice x6A x6n x6c : Value))]) st rfl rfl (by kernel_rfl) (OE.lenSlice rfl Tryz.underlying22 ⟨rfl, rfl⟩)), .inr (YD.u (fr (fun _ => undef) [(2, (.pointer (some c1) : Value))]) st rfl rfl (by kernel_rfl) (OE.load (a := c1) (v := .slice x6A x6n x6c) rfl (LdT.one Tryz.underlying22 rfl hl7) ⟨rfl, rfl⟩)), .inr (YD.u (fr (fun _ => undef) [(2, (.pointer (some c1) : Value))]) st rfl rfl (by kernel_rfl) (OE.load (a := c1) (v := .slice x4A x4n x4c) rfl (LdT.one Tryz.underlying22 rfl hl5) ⟨rfl, rfl⟩)), .inr (YD.u (fr (fun _ => undef) [(1, (.pointer (some c0) : Value))]) st rfl rfl (by kernel_rfl) (OE.load (a := c0) (v := x2) rfl (LdT.one Tryz.underlying115 rfl hl3) ⟨rfl, rfl⟩)), trivial⟩ (OE.callV (l := [.slice x4A (Int.toNat (IntKind.i64.wrap (Int.tdiv ((x6n : Nat) : Int) 2))) x4c]) rfl rfl (CHV.mono H (fun r10 h11 H => ?_)))
    obtain ⟨y12, rfl, H⟩ := H
    refine DW.finL st hd [(6, (x2 : Value)), (7, (.slice x4A x4n x4c : Value)), (8, (.slice x6A x6n x6c : Value)), (9, (.int .i64 ((x6n : Nat) : Int) : Value)), (10, (.int .i64 (IntKind.i64.wrap (Int.tdiv ((x6n : Nat) : Int) 2)) : Value)), (11, (.slice x4A (Int.toNat (IntKind.i64.wrap (Int.tdiv ((x6n : Nat) : Int) 2))) x4c : Value)), (12, (.int .i64 y12 : Value))] (by kernel_rfl) (by kernel_rfl) ⟨.inl (by kernel_rfl), .inl (by kernel_rfl), .inl (by kernel_rfl), .inl (by kernel_rfl), .inl (by kernel_rfl), .inl (by kernel_rfl), .inl (by kernel_rfl), trivial⟩ ?_
    exact ⟨rfl, _, ResOK.none rfl, H⟩
  · have H := H.2 e1
    refine VC.skip ?_
    exact ⟨rfl, _, ResOK.none rfl, H⟩

def D_disk_Disk_Sync_1 (R : Value → Hp → Prop) (c0 : Addr) (c1 : Addr) (c2 : Addr) (h : Hp) : Prop :=
  (∃ x1 : Option Addr, cell h c0 = some (.pointer x1) ∧ (∃ x3 : ByteArray, cell h c1 = some (.string x3) ∧ CH Tryz.prog 41 #[.pointer x1, .string x3] h (fun r5 h6 => ∃ y7_0 : Option Addr, ∃ y7_1 : Int, r5 = .tuple #[.pointer y7_0, .int .i64 y7_1] ∧ (Wr h6 c2 ∧ ∀ h8, h8 = setc h6 c2 (.pointer y7_0) → R (.int .i64 y7_1) h8))))
set_option maxRecDepth 10000 in
set_option maxHeartbeats 4000000 in
theorem D_disk_Disk_Sync_1.sound {R : Value → Hp → Prop} {c0 : Addr} {c1 : Addr} {c2 : Addr} {h : Hp} (H : D_disk_Disk_Sync_1 R  c0 c1 c2 h) : CH Tryz.prog 52 #[.pointer (some c0), .pointer (some c1), .pointer (some c2)] h R := by
  refine CHE.enter (n := 11) Tryz.func52 rfl rfl (Nat.le_of_ble_eq_true rfl) ?_
  unfold D_disk_Disk_Sync_1 at H
  refine VC.seq ?_
  refine VC.region ?_
  refine VL.stepD rfl rfl (by decide) (OE.assignV (v := .int .i64 0) rfl ?_)
  refine VL.nil ?_
  change VC _ _ _ _ _ _ _
  refine VC.seq ?_
  refine VC.region ?_
  obtain ⟨x1, hl2, H⟩ := H
  refine VL.stepD rfl rfl (by decide) (OE.load (a := c0) (v := .pointer x1) rfl (LdT.one Tryz.underlying24 rfl hl2) ?_)
  obtain ⟨x3, hl4, H⟩ := H
  refine VL.stepD rfl rfl (by decide) (OE.load (a := c1) (v := .string x3) rfl (LdT.one Tryz.underlying9 rfl hl4) ?_)
  refine VL.stepD rfl rfl (by decide) (OE.callL (args := [.pointer x1, .string x3]) Tryz.func41 rfl Tryz.nn41 rfl rfl (CHE.mono H (fun r5 h6 H => ?_) (fun _ _ e => e.elim)))
  obtain ⟨y7_0, y7_1, rfl, H⟩ := H
  refine VL.stepD rfl rfl (by decide) (OE.moveV (v := .tuple #[.pointer y7_0, .int .i64 y7_1]) rfl ?_)
  refine VL.stepD rfl rfl (by decide) (OE.extract (v := .pointer y7_0) rfl rfl ?_)
  refine VL.stepD rfl rfl (by decide) (OE.extract (v := .int .i64 y7_1) rfl rfl ?_)
  obtain ⟨hw9, H⟩ := H
  obtain ⟨h8, eh10⟩ : ∃ h8, h8 = setc h6 c2 (.pointer y7_0) := ⟨_, rfl⟩
  have H := H h8 eh10
  refine VL.stepN rfl rfl (OE.storeE (a := c2) (v := .pointer y7_0) rfl rfl (StT.oneI Tryz.i96 hw9 rfl) eh10 ?_)
  refine VL.stepD rfl rfl (by decide) (OE.assignV (v := .int .i64 y7_1) rfl ?_)
  refine VL.nil ?_
  change VC _ _ _ _ _ _ _
  refine VC.seq ?_
  refine VC.region ?_
  refine VL.stepD rfl rfl (by decide) (OE.moveV (v := .int .i64 y7_1) rfl ?_)
  refine VL.stepD rfl rfl (by decide) (OE.assignV (v := .int .i64 y7_1) rfl ?_)
  refine VL.nil ?_
  change VC _ _ _ _ _ _ _
  refine VC.ret ?_
  exact ⟨rfl, _, ResOK.t1 rfl (v := .int .i64 y7_1) rfl, H⟩

def D_disk_Disk_Sync_2 (R : Value → Hp → Prop) (c0 : Addr) (h : Hp) : Prop :=
  (∃ x1 : Option Addr, cell h c0 = some (.pointer x1) ∧ (∃ x3 : Option Addr, cell h c0 = some (.pointer x3) ∧ (∃ x5 : Option Addr, cell h c0 = some (.pointer x5) ∧ CH Tryz.prog 54 #[.pointer x5] h (fun r7 h8 => ∃ y9A : Option Addr, ∃ y9n : Nat, ∃ y9c : Nat, r7 = .slice y9A y9n y9c ∧ (cell h8 c0 = some (.pointer x1) ∧ (cell h8 c0 = some (.pointer x3) ∧ (∃ a12 : Addr, x1 = some a12 ∧ (Wr h8 a12 ∧ ∀ h14, h14 = setc h8 a12 (.slice y9A y9n y9c) → (cell h14 c0 = some (.pointer x3) ∧ (∃ a17 : Addr, x3 = some a17 ∧ (Wr h14 (a17.add 1) ∧ ∀ h19, h19 = setc h14 (a17.add 1) (.slice none 0 0) → R (.int .i64 0) h19)))))))))))
set_option maxRecDepth 10000 in
set_option maxHeartbeats 4000000 in
theorem D_disk_Disk_Sync_2.sound {R : Value → Hp → Prop} {c0 : Addr} {h : Hp} (H : D_disk_Disk_Sync_2 R  c0 h) : CH Tryz.prog 53 #[.pointer (some c0)] h R := by
  refine CHE.enter (n := 10) Tryz.func53 rfl rfl (Nat.le_of_ble_eq_true rfl) ?_
  unfold D_disk_Disk_Sync_2 at H
  refine VC.seq ?_
  refine VC.region ?_
  refine VL.stepD rfl rfl (by decide) (OE.assignV (v := .int .i64 0) rfl ?_)
  refine VL.nil ?_
  change VC _ _ _ _ _ _ _
  refine VC.seq ?_
  refine VC.drawsS Tryz.mixed (by kernel_rfl) (by kernel_rfl) (fun st hd => ?_)
  obtain ⟨x1, hl2, H⟩ := H
  refine DW.still (i := 0) (v := .pointer x1) (by kernel_rfl) ?_
  obtain ⟨x3, hl4, H⟩ := H
  refine DW.still (i := 1) (v := .pointer x3) (by kernel_rfl) ?_
  obtain ⟨x5, hl6, H⟩ := H
  refine DW.still (i := 2) (v := .pointer x5) (by kernel_rfl) ?_
  refine DW.loudF (fr (fun _ => undef) [(4, (.pointer x5 : Value))]) st hd (i := 3) rfl (by kernel_rfl) (.inl rfl) (by kernel_rfl) ⟨.inr (YD.u (fr (fun _ => undef) [(0, (.pointer (some c0) : Value))]) st rfl rfl (by kernel_rfl) (OE.load (a := c0) (v := .pointer x5) rfl (LdT.one Tryz.underlying96 rfl hl6) ⟨rfl, rfl⟩)), .inr (YD.u (fr (fun _ => undef) [(0, (.pointer (some c0) : Value))]) st rfl rfl (by kernel_rfl) (OE.load (a := c0) (v := .pointer x3) rfl (LdT.one Tryz.underlying96 rfl hl4) ⟨rfl, rfl⟩)), .inr (YD.u (fr (fun _ => undef) [(0, (.pointer (some c0) : Value))]) st rfl rfl (by kernel_rfl) (OE.load (a := c0) (v := .pointer x1) rfl (LdT.one Tryz.underlying96 rfl hl2) ⟨rfl, rfl⟩)), trivial⟩ (OE.callL (args := [.pointer x5]) Tryz.func54 rfl Tryz.nn54 rfl rfl (CHE.mono H (fun r7 h8 H => ?_) (fun _ _ e => e.elim)))
  obtain ⟨y9A, y9n, y9c, rfl, H⟩ := H
  obtain ⟨hs10, hs11, H⟩ := H
  obtain ⟨a12, e13, H⟩ := H
  refine DW.still (i := 4) (v := .pointer (some a12)) (by kernel_rfl) ?_
  refine DW.still (i := 5) (v := .pointer (some a12)) (by kernel_rfl) ?_
  obtain ⟨hw15, H⟩ := H
  obtain ⟨h14, eh22⟩ : ∃ h14, h14 = setc h8 a12 (.slice y9A y9n y9c) := ⟨_, rfl⟩
  have H := H h14 eh22
  refine DW.loudF (fr (fun _ => undef) [(7, (.pointer (some a12) : Value)), (5, (.slice y9A y9n y9c : Value))]) st hd (i := 6) rfl (by kernel_rfl) (.inl rfl) (by kernel_rfl) ⟨.inr (YD.u (fr (fun _ => undef) [(6, (.pointer (some a12) : Value))]) st rfl rfl (by kernel_rfl) (OE.fieldAddrI (a := a12) (o := 0) rfl Tryz.underlying111 rfl Tryz.i22 (by decide) rfl ⟨rfl, rfl⟩)), .inr (YD.u (fr (fun _ => undef) [(2, (.pointer x1 : Value))]) st rfl rfl (by kernel_rfl) (OE.nilCheck (a := a12) (congrArg Value.pointer e13) ⟨rfl, rfl⟩)), .inl (by kernel_rfl), .inl (by kernel_rfl), .inr (YD.u (fr (fun _ => undef) [(0, (.pointer (some c0) : Value))]) st rfl rfl (by kernel_rfl) (OE.load (a := c0) (v := .pointer x3) rfl (LdT.one Tryz.underlying96 rfl hs11) ⟨rfl, rfl⟩)), .inr (YD.u (fr (fun _ => undef) [(0, (.pointer (some c0) : Value))]) st rfl rfl (by kernel_rfl) (OE.load (a := c0) (v := .pointer x1) rfl (LdT.one Tryz.underlying96 rfl hs10) ⟨rfl, rfl⟩)), trivial⟩ (OE.storeE (a := a12) (v := .slice y9A y9n y9c) rfl rfl (StT.oneI Tryz.i22 hw15 rfl) eh22 ?_)
  obtain ⟨hs16, H⟩ := H
  obtain ⟨a17, e18, H⟩ := H
  refine DW.still (i := 7) (v := .pointer (some a17)) (by kernel_rfl) ?_
  refine DW.still (i := 8) (v := .pointer (some (a17.add 1))) (by kernel_rfl) ?_
  obtain ⟨hw20, H⟩ := H
  obtain ⟨h19, eh21⟩ : ∃ h19, h19 = setc h14 (a17.add 1) (.slice none 0 0) := ⟨_, rfl⟩
  have H := H h19 eh21
  refine DW.loudF (fr (fun _ => undef) [(9, (.pointer (some (a17.add 1)) : Value))]) st hd (i := 9) rfl (by kernel_rfl) (.inl rfl) (by kernel_rfl) ⟨.inr (YD.u (fr (fun _ => undef) [(8, (.pointer (some a17) : Value))]) st rfl rfl (by kernel_rfl) (OE.fieldAddrI (a := a17) (o := 1) rfl Tryz.underlying111 rfl Tryz.i109 (by decide) rfl ⟨rfl, rfl⟩)), .inr (YD.u (fr (fun _ => undef) [(3, (.pointer x3 : Value))]) st rfl rfl (by kernel_rfl) (OE.nilCheck (a := a17) (congrArg Value.pointer e18) ⟨rfl, rfl⟩)), .inl (by kernel_rfl), .inl (by kernel_rfl), .inl (by kernel_rfl), .inl (by kernel_rfl), .inl (by kernel_rfl), .inr (YD.u (fr (fun _ => undef) [(0, (.pointer (some c0) : Value))]) st rfl rfl (by kernel_rfl) (OE.load (a := c0) (v := .pointer x3) rfl (LdT.one Tryz.underlying96 rfl hs16) ⟨rfl, rfl⟩)), .inl (by kernel_rfl), trivial⟩ (OE.storeE (a := (a17.add 1)) (v := .slice none 0 0) rfl rfl (StT.oneI Tryz.i109 hw20 rfl) eh21 ?_)
  refine DW.finL st hd [(2, (.pointer x1 : Value)), (3, (.pointer x3 : Value)), (4, (.pointer x5 : Value)), (5, (.slice y9A y9n y9c : Value)), (6, (.pointer (some a12) : Value)), (7, (.pointer (some a12) : Value)), (8, (.pointer (some a17) : Value)), (9, (.pointer (some (a17.add 1)) : Value))] (by kernel_rfl) (by kernel_rfl) ⟨.inl (by kernel_rfl), .inl (by kernel_rfl), .inl (by kernel_rfl), .inl (by kernel_rfl), .inl (by kernel_rfl), .inl (by kernel_rfl), .inl (by kernel_rfl), .inl (by kernel_rfl), .inl (by kernel_rfl), .inl (by kernel_rfl), trivial⟩ ?_
  change VC _ _ _ _ _ _ _
  refine VC.seq ?_
  refine VC.region ?_
  refine VL.stepD rfl rfl (by decide) (OE.assignV (v := .int .i64 0) rfl ?_)
  refine VL.nil ?_
  change VC _ _ _ _ _ _ _
  refine VC.ret ?_
  exact ⟨rfl, _, ResOK.t1 rfl (v := .int .i64 0) rfl, H⟩

def D_disk_file_bytes (R : Value → Hp → Prop) (f' : Option Addr) (h : Hp) : Prop :=
  (∃ a1 : Addr, f' = some a1 ∧ (∃ x3A : Option Addr, ∃ x3n : Nat, ∃ x3c : Nat, cell h (a1.add 1) = some (.slice x3A x3n x3c) ∧ CH Tryz.prog 66 #[.pointer f', .int .i64 ((x3n : Nat) : Int)] h (fun r5 h6 => ∃ y7_0A : Option Addr, ∃ y7_0n : Nat, ∃ y7_0c : Nat, ∃ y7_1A : Option Addr, ∃ y7_1n : Nat, ∃ y7_1c : Nat, r5 = .agg #[.slice y7_0A y7_0n y7_0c, .slice y7_1A y7_1n y7_1c] ∧ R (.slice y7_0A y7_0n y7_0c) h6)))
set_option maxRecDepth 10000 in
set_option maxHeartbeats 4000000 in
theorem D_disk_file_bytes.sound {R : Value → Hp → Prop} {f' : Option Addr} {h : Hp} (H : D_disk_file_bytes R  f' h) : CH Tryz.prog 54 #[.pointer f'] h R := by
  refine CHE.enter (n := 11) Tryz.func54 rfl rfl (Nat.le_of_ble_eq_true rfl) ?_
  unfold D_disk_file_bytes at H
  refine VC.seq ?_
  refine VC.region ?_
  refine VL.stepD rfl rfl (by decide) (OE.assignV (v := .slice none 0 0) rfl ?_)
  refine VL.nil ?_
  change VC _ _ _ _ _ _ _
  refine VC.seq ?_
  refine VC.region ?_
  refine VL.stepD rfl rfl (by decide) (OE.moveV (v := .pointer f') rfl ?_)
  refine VL.stepD rfl rfl (by decide) (OE.moveV (v := .pointer f') rfl ?_)
  obtain ⟨a1, e2, H⟩ := H
  refine VL.stepD rfl rfl (by decide) (OE.nilCheck (a := a1) (congrArg Value.pointer e2) ?_)
  refine VL.stepD rfl rfl (by decide) (OE.fieldAddrI (a := a1) (o := 1) rfl Tryz.underlying111 rfl Tryz.i109 (by decide) rfl ?_)
  obtain ⟨x3A, x3n, x3c, hl4, H⟩ := H
  refine VL.stepD rfl rfl (by decide) (OE.load (a := (a1.add 1)) (v := .slice x3A x3n x3c) rfl (LdT.one Tryz.underlying109 rfl hl4) ?_)
  refine VL.stepD rfl rfl (by decide) (OE.lenSlice rfl Tryz.underlying109 ?_)
  refine VL.stepD rfl rfl (by decide) (OE.callL (args := [.pointer f', .int .i64 ((x3n : Nat) : Int)]) Tryz.func66 rfl Tryz.nn66 rfl rfl (CHE.mono H (fun r5 h6 H => ?_) (fun _ _ e => e.elim)))
  obtain ⟨y7_0A, y7_0n, y7_0c, y7_1A, y7_1n, y7_1c, rfl, H⟩ := H
  refine VL.stepD rfl rfl (by decide) (OE.field (v := .slice y7_0A y7_0n y7_0c) rfl Tryz.underlying128 rfl Tryz.underlying22 rfl rfl ?_)
  refine VL.stepD rfl rfl (by decide) (OE.assignV (v := .slice y7_0A y7_0n y7_0c) rfl ?_)
  refine VL.nil ?_
  change VC _ _ _ _ _ _ _
  refine VC.ret ?_
  exact ⟨rfl, _, ResOK.t1 rfl (v := .slice y7_0A y7_0n y7_0c) rfl, H⟩

def D_disk_Disk_Sync_3 (R : Value → Hp → Prop) (kind : Int) (c0 : Addr) (h : Hp) : Prop :=
  (((kind == 4) = true → (∃ x2 : Option Addr, cell h c0 = some (.pointer x2) ∧ (∃ a4 : Addr, x2 = some a4 ∧ (Wr h (a4.add 1) ∧ ∀ h6, h6 = setc h (a4.add 1) (.slice none 0 0) → R (.tuple #[]) h6)))) ∧ ((kind == 4) = false → R (.tuple #[]) h))
set_option maxRecDepth 10000 in
set_option maxHeartbeats 4000000 in
theorem D_disk_Disk_Sync_3.sound {R : Value → Hp → Prop} {kind : Int} {c0 : Addr} {h : Hp} (H : D_disk_Disk_Sync_3 R  kind c0 h) : CH Tryz.prog 55 #[.int .i64 kind, .pointer (some c0)] h R := by
  refine CHE.enter (n := 8) Tryz.func55 rfl rfl (Nat.le_of_ble_eq_true rfl) ?_
  unfold D_disk_Disk_Sync_3 at H
  refine VC.seq ?_
  refine VC.region ?_
  refine VL.stepD rfl rfl (by decide) (OE.moveV (v := .int .i64 kind) rfl ?_)
  refine VL.stepD rfl rfl (by decide) (OE.binI (v := .bool (kind == 4)) rfl rfl rfl ?_)
  refine VL.nil ?_
  change VC _ _ _ _ _ _ _
  refine VC.cond (t := (kind == 4)) rfl (fun e1 => ?_) (fun e1 => ?_)
  · have H := H.1 e1
    refine VC.region ?_
    obtain ⟨x2, hl3, H⟩ := H
    refine VL.stepD rfl rfl (by decide) (OE.load (a := c0) (v := .pointer x2) rfl (LdT.one Tryz.underlying96 rfl hl3) ?_)
    obtain ⟨a4, e5, H⟩ := H
    refine VL.stepD rfl rfl (by decide) (OE.nilCheck (a := a4) (congrArg Value.pointer e5) ?_)
    refine VL.stepD rfl rfl (by decide) (OE.fieldAddrI (a := a4) (o := 1) rfl Tryz.underlying111 rfl Tryz.i109 (by decide) rfl ?_)
    obtain ⟨hw7, H⟩ := H
    obtain ⟨h6, eh8⟩ : ∃ h6, h6 = setc h (a4.add 1) (.slice none 0 0) := ⟨_, rfl⟩
    have H := H h6 eh8
    refine VL.stepN rfl rfl (OE.storeE (a := (a4.add 1)) (v := .slice none 0 0) rfl rfl (StT.oneI Tryz.i109 hw7 rfl) eh8 ?_)
    refine VL.nil ?_
    exact ⟨rfl, _, ResOK.none rfl, H⟩
  · have H := H.2 e1
    refine VC.skip ?_
    exact ⟨rfl, _, ResOK.none rfl, H⟩

def D_disk_Disk_SyncNames_1 (R : Value → Hp → Prop)  (h : Hp) : Prop :=
  R (.int .i64 0) h
set_option maxRecDepth 10000 in
set_option maxHeartbeats 4000000 in
theorem D_disk_Disk_SyncNames_1.sound {R : Value → Hp → Prop}  {h : Hp} (H : D_disk_Disk_SyncNames_1 R   h) : CH Tryz.prog 56 #[] h R := by
  refine CHE.enter (n := 1) Tryz.func56 rfl rfl (Nat.le_of_ble_eq_true rfl) ?_
  unfold D_disk_Disk_SyncNames_1 at H
  refine VC.seq ?_
  refine VC.region ?_
  refine VL.stepD rfl rfl (by decide) (OE.assignV (v := .int .i64 0) rfl ?_)
  refine VL.nil ?_
  change VC _ _ _ _ _ _ _
  refine VC.seq ?_
  refine VC.region ?_
  refine VL.stepD rfl rfl (by decide) (OE.assignV (v := .int .i64 0) rfl ?_)
  refine VL.nil ?_
  change VC _ _ _ _ _ _ _
  refine VC.ret ?_
  exact ⟨rfl, _, ResOK.t1 rfl (v := .int .i64 0) rfl, H⟩

def D_disk_Disk_SyncNames_2 (R : Value → Hp → Prop) (c0 : Addr) (h : Hp) : Prop :=
  (∃ x1 : Option Addr, cell h c0 = some (.pointer x1) ∧ (∃ x3 : Option Addr, cell h c0 = some (.pointer x3) ∧ CH Tryz.prog 59 #[.pointer x3] h (fun r5 h6 => ∃ y7 : Option Nat, r5 = .map y7 ∧ (cell h6 c0 = some (.pointer x1) ∧ CH Tryz.prog 58 #[.pointer x1, .map y7] h6 (fun r9 h10 => R (.int .i64 0) h10)))))
set_option maxRecDepth 10000 in
set_option maxHeartbeats 4000000 in
theorem D_disk_Disk_SyncNames_2.sound {R : Value → Hp → Prop} {c0 : Addr} {h : Hp} (H : D_disk_Disk_SyncNames_2 R  c0 h) : CH Tryz.prog 57 #[.pointer (some c0)] h R := by
  refine CHE.enter (n := 6) Tryz.func57 rfl rfl (Nat.le_of_ble_eq_true rfl) ?_
  unfold D_disk_Disk_SyncNames_2 at H
  refine VC.seq ?_
  refine VC.region ?_
  refine VL.stepD rfl rfl (by decide) (OE.assignV (v := .int .i64 0) rfl ?_)
  refine VL.nil ?_
  change VC _ _ _ _ _ _ _
  refine VC.seq ?_
  refine VC.drawsS Tryz.mixed (by kernel_rfl) (by kernel_rfl) (fun st hd => ?_)
  obtain ⟨x1, hl2, H⟩ := H
  refine DW.still (i := 0) (v := .pointer x1) (by kernel_rfl) ?_
  obtain ⟨x3, hl4, H⟩ := H
  refine DW.still (i := 1) (v := .pointer x3) (by kernel_rfl) ?_
  refine DW.loudF (fr (fun _ => undef) [(3, (.pointer x3 : Value))]) st hd (i := 2) rfl (by kernel_rfl) (.inl rfl) (by kernel_rfl) ⟨.inr (YD.u (fr (fun _ => undef) [(0, (.pointer (some c0) : Value))]) st rfl rfl (by kernel_rfl) (OE.load (a := c0) (v := .pointer x3) rfl (LdT.one Tryz.underlying24 rfl hl4) ⟨rfl, rfl⟩)), .inr (YD.u (fr (fun _ => undef) [(0, (.pointer (some c0) : Value))]) st rfl rfl (by kernel_rfl) (OE.load (a := c0) (v := .pointer x1) rfl (LdT.one Tryz.underlying24 rfl hl2) ⟨rfl, rfl⟩)), trivial⟩ (OE.callL (args := [.pointer x3]) Tryz.func59 rfl Tryz.nn59 rfl rfl (CHE.mono H (fun r5 h6 H => ?_) (fun _ _ e => e.elim)))
  obtain ⟨y7, rfl, H⟩ := H
  obtain ⟨hs8, H⟩ := H
  refine DW.loudF (fr (fun _ => undef) [(2, (.pointer x1 : Value)), (4, (.map y7 : Value))]) st hd (i := 3) rfl (by kernel_rfl) (.inl rfl) (by kernel_rfl) ⟨.inl (by kernel_rfl), .inl (by kernel_rfl), .inr (YD.u (fr (fun _ => undef) [(0, (.pointer (some c0) : Value))]) st rfl rfl (by kernel_rfl) (OE.load (a := c0) (v := .pointer x1) rfl (LdT.one Tryz.underlying24 rfl hs8) ⟨rfl, rfl⟩)), trivial⟩ (OE.callL (args := [.pointer x1, .map y7]) Tryz.func58 rfl Tryz.nn58 rfl rfl (CHE.mono H (fun r9 h10 H => ?_) (fun _ _ e => e.elim)))
  refine DW.finL st hd [(2, (.pointer x1 : Value)), (3, (.pointer x3 : Value)), (4, (.map y7 : Value)), (5, (r9 : Value))] (by kernel_rfl) (by kernel_rfl) ⟨.inl (by kernel_rfl), .inl (by kernel_rfl), .inl (by kernel_rfl), .inl (by kernel_rfl), trivial⟩ ?_
  change VC _ _ _ _ _ _ _
  refine VC.seq ?_
  refine VC.region ?_
  refine VL.stepD rfl rfl (by decide) (OE.assignV (v := .int .i64 0) rfl ?_)
  refine VL.nil ?_
  change VC _ _ _ _ _ _ _
  refine VC.ret ?_
  exact ⟨rfl, _, ResOK.t1 rfl (v := .int .i64 0) rfl, H⟩

def D_disk_Disk_settle (R : Value → Hp → Prop) (d : Option Addr) (names : Option Nat) (h : Hp) : Prop :=
  (∃ a1 : Addr, d = some a1 ∧ (Wr h (a1.add 4) ∧ ∀ h3, h3 = setc h (a1.add 4) (.map names) → (Wr h3 (a1.add 5) ∧ ∀ h5, h5 = setc h3 (a1.add 5) (.slice none 0 0) → CH Tryz.prog 92 #[.pointer d] h5 (fun r7 h8 => R (.tuple #[]) h8))))
set_option maxRecDepth 10000 in
set_option maxHeartbeats 4000000 in
theorem D_disk_Disk_settle.sound {R : Value → Hp → Prop} {d : Option Addr} {names : Option Nat} {h : Hp} (H : D_disk_Disk_settle R  d names h) : CH Tryz.prog 58 #[.pointer d, .map names] h R := by
  refine CHE.enter (n := 13) Tryz.func58 rfl rfl (Nat.le_of_ble_eq_true rfl) ?_
  unfold D_disk_Disk_settle at H
  refine VC.seq ?_
  refine VC.region ?_
  refine VL.stepD rfl rfl (by decide) (OE.moveV (v := .pointer d) rfl ?_)
  refine VL.stepD rfl rfl (by decide) (OE.moveV (v := .pointer d) rfl ?_)
  refine VL.stepD rfl rfl (by decide) (OE.moveV (v := .map names) rfl ?_)
  obtain ⟨a1, e2, H⟩ := H
  refine VL.stepD rfl rfl (by decide) (OE.nilCheck (a := a1) (congrArg Value.pointer e2) ?_)
  refine VL.stepD rfl rfl (by decide) (OE.fieldAddrI (a := a1) (o := 4) rfl Tryz.underlying104 rfl Tryz.i101 (by decide) rfl ?_)
  obtain ⟨hw4, H⟩ := H
  obtain ⟨h3, eh10⟩ : ∃ h3, h3 = setc h (a1.add 4) (.map names) := ⟨_, rfl⟩
  have H := H h3 eh10
  refine VL.stepN rfl rfl (OE.storeE (a := (a1.add 4)) (v := .map names) rfl rfl (StT.oneI Tryz.i101 hw4 rfl) eh10 ?_)
  refine VL.stepD rfl rfl (by decide) (OE.nilCheck (a := a1) (congrArg Value.pointer e2) ?_)
  refine VL.stepD rfl rfl (by decide) (OE.fieldAddrI (a := a1) (o := 5) rfl Tryz.underlying104 rfl Tryz.i102 (by decide) rfl ?_)
  obtain ⟨hw6, H⟩ := H
  obtain ⟨h5, eh9⟩ : ∃ h5, h5 = setc h3 (a1.add 5) (.slice none 0 0) := ⟨_, rfl⟩
  have H := H h5 eh9
  refine VL.stepN rfl rfl (OE.storeE (a := (a1.add 5)) (v := .slice none 0 0) rfl rfl (StT.oneI Tryz.i102 hw6 rfl) eh9 ?_)
  refine VL.nil ?_
  change VC _ _ _ _ _ _ _
  refine VC.region ?_
  refine VL.stepD rfl rfl (by decide) (OE.moveV (v := .pointer d) rfl ?_)
  refine VL.stepD rfl rfl (by decide) (OE.callL (args := [.pointer d]) Tryz.func92 rfl Tryz.nn92 rfl rfl (CHE.mono H (fun r7 h8 H => ?_) (fun _ _ e => e.elim)))
  refine VL.nil ?_
  exact ⟨rfl, _, ResOK.none rfl, H⟩


def D_disk_Disk_now (R : Value → Hp → Prop) (d : Option Addr) (h : Hp) : Prop :=
  (∃ a1 : Addr, d = some a1 ∧ (∃ x3A : Option Addr, ∃ x3n : Nat, ∃ x3c : Nat, cell h (a1.add 5) = some (.slice x3A x3n x3c) ∧ CH Tryz.prog 68 #[.pointer d, .slice x3A x3n x3c] h (fun r5 h6 => ∃ y7 : Option Nat, r5 = .map y7 ∧ R (.map y7) h6)))
set_option maxRecDepth 10000 in
set_option maxHeartbeats 4000000 in
theorem D_disk_Disk_now.sound {R : Value → Hp → Prop} {d : Option Addr} {h : Hp} (H : D_disk_Disk_now R  d h) : CH Tryz.prog 59 #[.pointer d] h R := by
  refine CHE.enter (n := 9) Tryz.func59 rfl rfl (Nat.le_of_ble_eq_true rfl) ?_
  unfold D_disk_Disk_now at H
  refine VC.seq ?_
  refine VC.region ?_
  refine VL.stepD rfl rfl (by decide) (OE.assignV (v := .map none) rfl ?_)
  refine VL.nil ?_
  change VC _ _ _ _ _ _ _
  refine VC.seq ?_
  refine VC.region ?_
  refine VL.stepD rfl rfl (by decide) (OE.moveV (v := .pointer d) rfl ?_)
  refine VL.stepD rfl rfl (by decide) (OE.moveV (v := .pointer d) rfl ?_)
  obtain ⟨a1, e2, H⟩ := H
  refine VL.stepD rfl rfl (by decide) (OE.nilCheck (a := a1) (congrArg Value.pointer e2) ?_)
  refine VL.stepD rfl rfl (by decide) (OE.fieldAddrI (a := a1) (o := 5) rfl Tryz.underlying104 rfl Tryz.i102 (by decide) rfl ?_)
  obtain ⟨x3A, x3n, x3c, hl4, H⟩ := H
  refine VL.stepD rfl rfl (by decide) (OE.load (a := (a1.add 5)) (v := .slice x3A x3n x3c) rfl (LdT.one Tryz.underlying102 rfl hl4) ?_)
  refine VL.stepD rfl rfl (by decide) (OE.callL (args := [.pointer d, .slice x3A x3n x3c]) Tryz.func68 rfl Tryz.nn68 rfl rfl (CHE.mono H (fun r5 h6 H => ?_) (fun _ _ e => e.elim)))
  obtain ⟨y7, rfl, H⟩ := H
  refine VL.stepD rfl rfl (by decide) (OE.assignV (v := .map y7) rfl ?_)
  refine VL.nil ?_
  change VC _ _ _ _ _ _ _
  refine VC.ret ?_
  exact ⟨rfl, _, ResOK.t1 rfl (v := .map y7) rfl, H⟩

def D_slices_Clone_api_Fault (R : Value → Hp → Prop) (sA : Option Addr) (sn : Nat) (sc : Nat) (h : Hp) : Prop :=
  (((Option.isNone sA) = true → R (.slice none 0 0) h) ∧ ((Option.isNone sA) = false → (∀ b3 h2, b3 = Array.size h → h2 = Array.push h (.cells #[] 33) → (∃ vs4 : List Value, Src h2 (sn * 2) vs4 sA ∧ (∀ v ∈ vs4, oneC v = true) ∧ (0 + sn) * 16 ≤ 140737488355328 ∧ 0 + sn ≤ 9223372036854775807 ∧ AppendV 33 (.agg #[.int .i64 0, .int .i64 0] : Value) 2 h2 (some (Addr.mk b3 0 none)) 0 0 sn vs4 (fun A9 n10 c11 h12 => R (.slice A9 n10 c11) h12)))))
set_option maxRecDepth 10000 in
set_option maxHeartbeats 4000000 in
theorem D_slices_Clone_api_Fault.sound {R : Value → Hp → Prop} {sA : Option Addr} {sn : Nat} {sc : Nat} {h : Hp} (H : D_slices_Clone_api_Fault R  sA sn sc h) : CH Tryz.prog 60 #[.slice sA sn sc] h R := by
  refine CHE.enter (n := 8) Tryz.func60 rfl rfl (Nat.le_of_ble_eq_true rfl) ?_
  unfold D_slices_Clone_api_Fault at H
  refine VC.seq ?_
  refine VC.region ?_
  refine VL.stepD rfl rfl (by decide) (OE.assignV (v := .slice none 0 0) rfl ?_)
  refine VL.nil ?_
  change VC _ _ _ _ _ _ _
  refine VC.seq ?_
  refine VC.seq ?_
  refine VC.region ?_
  refine VL.stepD rfl rfl (by decide) (OE.moveV (v := .slice sA sn sc) rfl ?_)
  refine VL.stepD rfl rfl (by decide) (OE.sliceNil (b := (Option.isNone sA)) (A := sA) (n := sn) (c := sc) rfl rfl Tryz.underlying34 (.inl ⟨rfl, rfl⟩) ?_)
  refine VL.nil ?_
  change VC _ _ _ _ _ _ _
  refine VC.cond (t := (Option.isNone sA)) rfl (fun e1 => ?_) (fun e1 => ?_)
  · have H := H.1 e1
    refine VC.seq ?_
    refine VC.region ?_
    refine VL.stepD rfl rfl (by decide) (OE.assignV (v := .slice none 0 0) rfl ?_)
    refine VL.nil ?_
    change VC _ _ _ _ _ _ _
    refine VC.ret ?_
    exact ⟨rfl, _, ResOK.t1 rfl (v := .slice none 0 0) rfl, H⟩
  · have H := H.2 e1
    refine VC.skip ?_
    change VC _ _ _ _ _ _ _
    refine VC.seq ?_
    refine VC.region ?_
    obtain ⟨b3, eb13⟩ : ∃ b3, b3 = Array.size h := ⟨_, rfl⟩
    obtain ⟨h2, eh14⟩ : ∃ h2, h2 = Array.push h (.cells #[] 33) := ⟨_, rfl⟩
    have H := H b3 h2 eb13 eh14
    refine VL.stepD rfl rfl (by decide) (OE.buildSliceE (ps := []) (cells := #[]) (e := 33) rfl (Tryz.bf17) eb13 eh14 ?_)
    refine VL.stepD rfl rfl (by decide) (OE.moveV (v := .slice sA sn sc) rfl ?_)
    obtain ⟨vs4, z5, z6, z7, z8, H⟩ := H
    refine VL.stepD rfl rfl (by decide) (OE.appendV (z := (.agg #[.int .i64 0, .int .i64 0] : Value)) (sz := 2) (bs := 16) rfl rfl Tryz.underlying34 Tryz.i33 z5 z6 z7 z8 (AppendV.mono H (fun A9 n10 c11 h12 H => ?_)))
    refine VL.stepD rfl rfl (by decide) (OE.assignV (v := .slice A9 n10 c11) rfl ?_)
    refine VL.nil ?_
    change VC _ _ _ _ _ _ _
    refine VC.ret ?_
    exact ⟨rfl, _, ResOK.t1 rfl (v := .slice A9 n10 c11) rfl, H⟩

end Go.Proofs
