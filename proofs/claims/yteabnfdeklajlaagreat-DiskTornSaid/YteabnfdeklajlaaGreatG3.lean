/- Part of a proof, by program out of hand-written texts. -/
import Derived.Test.YteabnfdeklajlaaGreatF1
set_option linter.unusedVariables false
set_option linter.unusedSimpArgs false
set_option maxRecDepth 10000
namespace Go.Proofs
open Go Go.V
def D_disk_Disk_Truncate_1.J1 (R : Value → Hp → Prop)   (j18 : Bool) (h19 : Hp) : Prop :=
  ((j18 = true → R (.int .i64 1) h19) ∧ (j18 = false → R (.int .i64 0) h19))
def D_disk_Disk_Truncate_1 (R : Value → Hp → Prop) (c0 : Addr) (c1 : Addr) (c2 : Addr) (c3 : Addr) (c4 : Addr) (h : Hp) : Prop :=
  (∃ x1 : Option Addr, cell h c0 = some (.pointer x1) ∧ (∃ x3 : ByteArray, cell h c1 = some (.string x3) ∧ CH Tryz.prog 41 #[.pointer x1, .string x3] h (fun r5 h6 => ∃ y7_0 : Option Addr, ∃ y7_1 : Int, r5 = .tuple #[.pointer y7_0, .int .i64 y7_1] ∧ (Wr h6 c2 ∧ ∀ h8, h8 = setc h6 c2 (.pointer y7_0) → (((y7_1 != 0) = true → R (.int .i64 y7_1) h8) ∧ ((y7_1 != 0) = false → (∃ x11 : Option Addr, cell h8 c2 = some (.pointer x11) ∧ CH Tryz.prog 46 #[.pointer x11] h8 (fun r13 h14 => ∃ y15_0 : Int, ∃ y15_1 : Int, r13 = .tuple #[.int .i64 y15_0, .int .i64 y15_1] ∧ (Wr h14 c3 ∧ ∀ h16, h16 = setc h14 c3 (.int .i64 y15_0) → (∃ x21 : Int, cell h16 c4 = some (.int .i64 x21) ∧ (((decide (x21 < 0)) = true → D_disk_Disk_Truncate_1.J1 R   true h16) ∧ ((decide (x21 < 0)) = false → (∃ x24 : Int, cell h16 c4 = some (.int .i64 x24) ∧ (∃ x26 : Int, cell h16 c3 = some (.int .i64 x26) ∧ D_disk_Disk_Truncate_1.J1 R   (decide (x24 > x26)) h16))))))))))))))
set_option maxRecDepth 10000 in
set_option maxHeartbeats 4000000 in
theorem D_disk_Disk_Truncate_1.sound {R : Value → Hp → Prop} {c0 : Addr} {c1 : Addr} {c2 : Addr} {c3 : Addr} {c4 : Addr} {h : Hp} (H : D_disk_Disk_Truncate_1 R  c0 c1 c2 c3 c4 h) : CH Tryz.prog 61 #[.pointer (some c0), .pointer (some c1), .pointer (some c2), .pointer (some c3), .pointer (some c4)] h R := by
  refine CHE.enter (n := 27) Tryz.func61 rfl rfl (Nat.le_of_ble_eq_true rfl) ?_
  unfold D_disk_Disk_Truncate_1 at H
  refine VC.seq ?_
  refine VC.region ?_
  refine VL.stepD rfl rfl (by decide) (OE.assignV (v := .int .i64 0) rfl ?_)
  refine VL.nil ?_
  change VC _ _ _ _ _ _ _
  refine VC.seq ?_
  refine VC.seq ?_
  refine VC.region ?_
  obtain ⟨x1, hl2, H⟩ := H
  refine VL.stepD rfl rfl (by decide) (OE.load (a := c0) (v := .pointer x1) rfl (LdT.one Tryz.underlying24 rfl hl2) ?_)
  obtain ⟨x3, hl4, H⟩ := H
  refine VL.stepD rfl rfl (by decide) (OE.load (a := c1) (v := .string x3) rfl (LdT.one Tryz.underlying9 rfl hl4) ?_)
  refine VL.stepD rfl rfl (by decide) (OE.callL (args := [.pointer x1, .string x3]) Tryz.func41 rfl Tryz.nn41 rfl rfl (CHE.mono H (fun r5 h6 H => ?_) (fun _ _ e => e.elim)))
  obtain ⟨y7_0, y7_1, rfl, H⟩ := H
  refine VL.stepD rfl rfl (by decide) (OE.moveV (v := .tuple #[.pointer y7_0, .int .i64 y7_1]) rfl ?_)
  refine VL.stepD rfl rfl (by decide) (OE.extract (v := .pointer y7_0) rfl rfl ?_)
  refine VL.stepD rfl rfl (by decide) (OE.extract (v := .int .i64 y7_1) rfl rfl ?_)
  obtain ⟨hw9, H⟩ := H
  obtain ⟨h8, eh30⟩ : ∃ h8, h8 = setc h6 c2 (.pointer y7_0) := ⟨_, rfl⟩
  have H := H h8 eh30
  refine VL.stepN rfl rfl (OE.storeE (a := c2) (v := .pointer y7_0) rfl rfl (StT.oneI Tryz.i96 hw9 rfl) eh30 ?_)
  refine VL.stepD rfl rfl (by decide) (OE.assignV (v := .int .i64 y7_1) rfl ?_)
  refine VL.nil ?_
  change VC _ _ _ _ _ _ _
  refine VC.seq ?_
  refine VC.region ?_
  refine VL.stepD rfl rfl (by decide) (OE.moveV (v := .int .i64 y7_1) rfl ?_)
  refine VL.stepD rfl rfl (by decide) (OE.binI (v := .bool (y7_1 != 0)) rfl rfl rfl ?_)
  refine VL.nil ?_
  change VC _ _ _ _ _ _ _
  refine VC.cond (t := (y7_1 != 0)) rfl (fun e10 => ?_) (fun e10 => ?_)
  · have H := H.1 e10
    refine VC.seq ?_
    refine VC.region ?_
    refine VL.stepD rfl rfl (by decide) (OE.moveV (v := .int .i64 y7_1) rfl ?_)
    refine VL.stepD rfl rfl (by decide) (OE.assignV (v := .int .i64 y7_1) rfl ?_)
    refine VL.nil ?_
    change VC _ _ _ _ _ _ _
    refine VC.ret ?_
    exact ⟨rfl, _, ResOK.t1 rfl (v := .int .i64 y7_1) rfl, H⟩
  · have H := H.2 e10
    refine VC.skip ?_
    change VC _ _ _ _ _ _ _
    refine VC.seq ?_
    refine VC.seq ?_
    refine VC.region ?_
    obtain ⟨x11, hl12, H⟩ := H
    refine VL.stepD rfl rfl (by decide) (OE.load (a := c2) (v := .pointer x11) rfl (LdT.one Tryz.underlying96 rfl hl12) ?_)
    refine VL.stepD rfl rfl (by decide) (OE.callL (args := [.pointer x11]) Tryz.func46 rfl Tryz.nn46 rfl rfl (CHE.mono H (fun r13 h14 H => ?_) (fun _ _ e => e.elim)))
    obtain ⟨y15_0, y15_1, rfl, H⟩ := H
    refine VL.stepD rfl rfl (by decide) (OE.moveV (v := .tuple #[.int .i64 y15_0, .int .i64 y15_1]) rfl ?_)
    refine VL.stepD rfl rfl (by decide) (OE.extract (v := .int .i64 y15_0) rfl rfl ?_)
    refine VL.stepD rfl rfl (by decide) (OE.extract (v := .int .i64 y15_1) rfl rfl ?_)
    obtain ⟨hw17, H⟩ := H
    obtain ⟨h16, eh28⟩ : ∃ h16, h16 = setc h14 c3 (.int .i64 y15_0) := ⟨_, rfl⟩
    have H := H h16 eh28
    refine VL.stepN rfl rfl (OE.storeE (a := c3) (v := .int .i64 y15_0) rfl rfl (StT.oneI Tryz.i3 hw17 rfl) eh28 ?_)
    refine VL.nil ?_
    change VC _ _ _ _ _ _ _
    refine VC.seqJ (fun f h19 => ∃ j18 : Bool, f 26 = (.bool j18 : Value) ∧ D_disk_Disk_Truncate_1.J1 R   j18 h19) ?_ ?_
    · intro f h19 J
      obtain ⟨j18, hk26, H⟩ := J
      rw [← fr_self f [(26, .bool j18)] (by simp only [List.mem_cons, List.not_mem_nil, or_false]; rintro p (rfl) <;> assumption)]
      unfold D_disk_Disk_Truncate_1.J1 at H
      refine VC.cond (t := j18) rfl (fun e20 => ?_) (fun e20 => ?_)
      · have H := H.1 e20
        refine VC.seq ?_
        refine VC.region ?_
        refine VL.stepD rfl rfl (by decide) (OE.assignV (v := .int .i64 1) rfl ?_)
        refine VL.nil ?_
        change VC _ _ _ _ _ _ _
        refine VC.ret ?_
        exact ⟨rfl, _, ResOK.t1 rfl (v := .int .i64 1) rfl, H⟩
      · have H := H.2 e20
        refine VC.skip ?_
        change VC _ _ _ _ _ _ _
        refine VC.seq ?_
        refine VC.region ?_
        refine VL.stepD rfl rfl (by decide) (OE.assignV (v := .int .i64 0) rfl ?_)
        refine VL.nil ?_
        change VC _ _ _ _ _ _ _
        refine VC.ret ?_
        exact ⟨rfl, _, ResOK.t1 rfl (v := .int .i64 0) rfl, H⟩
    · skip
      refine VC.region ?_
      obtain ⟨x21, hl22, H⟩ := H
      refine VL.stepD rfl rfl (by decide) (OE.load (a := c4) (v := .int .i64 x21) rfl (LdT.one Tryz.underlying3 rfl hl22) ?_)
      refine VL.stepD rfl rfl (by decide) (OE.binI (v := .bool (decide (x21 < 0))) rfl rfl rfl ?_)
      refine VL.stepD rfl rfl (by decide) (OE.moveV (v := .bool (decide (x21 < 0))) rfl ?_)
      refine boolSplit ((decide (x21 < 0))) (fun e23 => ?_) (fun e23 => ?_)
      · have H := H.1 e23
        refine VL.gskipD rfl rfl (by decide) (.inl (congrArg Value.bool e23)) rfl (by decide) ?_
        refine VL.gskipD rfl rfl (by decide) (.inl (congrArg Value.bool e23)) rfl (by decide) ?_
        refine VL.gskipD rfl rfl (by decide) (.inl (congrArg Value.bool e23)) rfl (by decide) ?_
        refine VL.stepD rfl rfl (by decide) (OE.pickV (t := true) (v := .bool true) (congrArg Value.bool e23) rfl ?_)
        refine VL.nil ?_
        exact ⟨rfl, true, rfl, H⟩
      · have H := H.2 e23
        obtain ⟨x24, hl25, H⟩ := H
        refine VL.gstepD rfl rfl (by decide) (congrArg Value.bool e23) rfl (by decide) (OE.load (a := c4) (v := .int .i64 x24) rfl (LdT.one Tryz.underlying3 rfl hl25) ?_)
        obtain ⟨x26, hl27, H⟩ := H
        refine VL.gstepD rfl rfl (by decide) (congrArg Value.bool e23) rfl (by decide) (OE.load (a := c3) (v := .int .i64 x26) rfl (LdT.one Tryz.underlying3 rfl hl27) ?_)
        refine VL.gstepD rfl rfl (by decide) (congrArg Value.bool e23) rfl (by decide) (OE.binI (v := .bool (decide (x24 > x26))) rfl rfl rfl ?_)
        refine VL.stepD rfl rfl (by decide) (OE.pickV (t := false) (v := .bool (decide (x24 > x26))) (congrArg Value.bool e23) rfl ?_)
        refine VL.nil ?_
        exact ⟨rfl, (decide (x24 > x26)), rfl, H⟩

def D_disk_Disk_Truncate_2.J1 (R : Value → Hp → Prop)    (h1 : Hp) : Prop :=
  R (.int .i64 0) h1
def D_disk_Disk_Truncate_2 (R : Value → Hp → Prop) (c0 : Addr) (c1 : Addr) (c2 : Addr) (h : Hp) : Prop :=
  (∃ x2 : Int, cell h c0 = some (.int .i64 x2) ∧ (∃ x4 : Int, cell h c1 = some (.int .i64 x4) ∧ (((x2 != x4) = true → (∃ x7 : Option Addr, cell h c2 = some (.pointer x7) ∧ (∃ x9 : Option Addr, cell h c2 = some (.pointer x9) ∧ (∃ a11 : Addr, x9 = some a11 ∧ (∃ x13A : Option Addr, ∃ x13n : Nat, ∃ x13c : Nat, cell h (a11.add 1) = some (.slice x13A x13n x13c) ∧ (∃ x15 : Int, cell h c0 = some (.int .i64 x15) ∧ (∀ b18 h17, b18 = Array.size h → h17 = Array.push h (.cells #[.iface 122 (.agg #[.int .i64 x15])] 150) → (cell h17 c2 = some (.pointer x7) ∧ (cell h17 c2 = some (.pointer x9) ∧ (cell h17 (a11.add 1) = some (.slice x13A x13n x13c) ∧ (∃ vs22 : List Value, Src h17 (1 * 1) vs22 (some (Addr.mk b18 0 none)) ∧ (∀ v ∈ vs22, oneC v = true) ∧ (x13n + 1) * 16 ≤ 140737488355328 ∧ x13n + 1 ≤ 9223372036854775807 ∧ AppendV 150 (.nilIface : Value) 1 h17 x13A x13n x13c 1 vs22 (fun A27 n28 c29 h30 => (cell h30 c2 = some (.pointer x7) ∧ (∃ a32 : Addr, x7 = some a32 ∧ (Wr h30 (a32.add 1) ∧ ∀ h34, h34 = setc h30 (a32.add 1) (.slice A27 n28 c29) → D_disk_Disk_Truncate_2.J1 R    h34))))))))))))))) ∧ ((x2 != x4) = false → D_disk_Disk_Truncate_2.J1 R    h))))
set_option maxRecDepth 10000 in
set_option maxHeartbeats 4000000 in
theorem D_disk_Disk_Truncate_2.sound {R : Value → Hp → Prop} {c0 : Addr} {c1 : Addr} {c2 : Addr} {h : Hp} (H : D_disk_Disk_Truncate_2 R  c0 c1 c2 h) : CH Tryz.prog 62 #[.pointer (some c0), .pointer (some c1), .pointer (some c2)] h R := by
  refine CHE.enter (n := 19) Tryz.func62 rfl rfl (Nat.le_of_ble_eq_true rfl) ?_
  unfold D_disk_Disk_Truncate_2 at H
  refine VC.seq ?_
  refine VC.region ?_
  refine VL.stepD rfl rfl (by decide) (OE.assignV (v := .int .i64 0) rfl ?_)
  refine VL.nil ?_
  change VC _ _ _ _ _ _ _
  refine VC.seqJ (fun f h1 => D_disk_Disk_Truncate_2.J1 R    h1) ?_ ?_
  · intro f h1 J
    have H := J
    skip
    unfold D_disk_Disk_Truncate_2.J1 at H
    refine VC.seq ?_
    refine VC.region ?_
    refine VL.stepD rfl rfl (by decide) (OE.assignV (v := .int .i64 0) rfl ?_)
    refine VL.nil ?_
    change VC _ _ _ _ _ _ _
    refine VC.ret ?_
    exact ⟨rfl, _, ResOK.t1 rfl (v := .int .i64 0) rfl, H⟩
  · skip
    refine VC.seq ?_
    refine VC.region ?_
    obtain ⟨x2, hl3, H⟩ := H
    refine VL.stepD rfl rfl (by decide) (OE.load (a := c0) (v := .int .i64 x2) rfl (LdT.one Tryz.underlying3 rfl hl3) ?_)
    obtain ⟨x4, hl5, H⟩ := H
    refine VL.stepD rfl rfl (by decide) (OE.load (a := c1) (v := .int .i64 x4) rfl (LdT.one Tryz.underlying3 rfl hl5) ?_)
    refine VL.stepD rfl rfl (by decide) (OE.binI (v := .bool (x2 != x4)) rfl rfl rfl ?_)
    refine VL.nil ?_
    change VC _ _ _ _ _ _ _
    refine VC.cond (t := (x2 != x4)) rfl (fun e6 => ?_) (fun e6 => ?_)
    · have H := H.1 e6
      refine VC.drawsS Tryz.mixed (by kernel_rfl) (by kernel_rfl) (fun st hd => ?_)
      obtain ⟨x7, hl8, H⟩ := H
      refine DW.still (i := 0) (v := .pointer x7) (by kernel_rfl) ?_
      obtain ⟨x9, hl10, H⟩ := H
      refine DW.still (i := 1) (v := .pointer x9) (by kernel_rfl) ?_
      obtain ⟨a11, e12, H⟩ := H
      refine DW.still (i := 2) (v := .pointer (some a11)) (by kernel_rfl) ?_
      refine DW.still (i := 3) (v := .pointer (some (a11.add 1))) (by kernel_rfl) ?_
      obtain ⟨x13A, x13n, x13c, hl14, H⟩ := H
      refine DW.still (i := 4) (v := .slice x13A x13n x13c) (by kernel_rfl) ?_
      obtain ⟨x15, hl16, H⟩ := H
      refine DW.still (i := 5) (v := .int .i64 x15) (by kernel_rfl) ?_
      refine DW.still (i := 6) (v := .agg #[.int .i64 x15]) (by kernel_rfl) ?_
      refine DW.still (i := 7) (v := .iface 122 (.agg #[.int .i64 x15])) (by kernel_rfl) ?_
      obtain ⟨b18, eb37⟩ : ∃ b18, b18 = Array.size h := ⟨_, rfl⟩
      obtain ⟨h17, eh38⟩ : ∃ h17, h17 = Array.push h (.cells #[.iface 122 (.agg #[.int .i64 x15])] 150) := ⟨_, rfl⟩
      have H := H b18 h17 eb37 eh38
      refine DW.loudF (fr (fun _ => undef) [(14, (.iface 122 (.agg #[.int .i64 x15]) : Value))]) st hd (i := 8) rfl (by kernel_rfl) (.inl rfl) (by kernel_rfl) ⟨.inr (YD.u (fr (fun _ => undef) [(13, (.agg #[.int .i64 x15] : Value))]) st rfl rfl (by kernel_rfl) (OE.makeInterfaceV (v := .agg #[.int .i64 x15]) rfl Tryz.underlying122 rfl ⟨rfl, rfl⟩)), .inr (YD.u (fr (fun _ => undef) [(12, (.int .i64 x15 : Value))]) st rfl rfl (by kernel_rfl) (OE.buildV (ps := [(0, (.int .i64 x15 : Value))]) rfl (Tryz.bf18 _) ⟨rfl, rfl⟩)), .inr (YD.u (fr (fun _ => undef) [(0, (.pointer (some c0) : Value))]) st rfl rfl (by kernel_rfl) (OE.load (a := c0) (v := .int .i64 x15) rfl (LdT.one Tryz.underlying3 rfl hl16) ⟨rfl, rfl⟩)), .inr (YD.u (fr (fun _ => undef) [(10, (.pointer (some (a11.add 1)) : Value))]) st rfl rfl (by kernel_rfl) (OE.load (a := (a11.add 1)) (v := .slice x13A x13n x13c) rfl (LdT.one Tryz.underlying109 rfl hl14) ⟨rfl, rfl⟩)), .inr (YD.u (fr (fun _ => undef) [(9, (.pointer (some a11) : Value))]) st rfl rfl (by kernel_rfl) (OE.fieldAddrI (a := a11) (o := 1) rfl Tryz.underlying111 rfl Tryz.i109 (by decide) rfl ⟨rfl, rfl⟩)), .inr (YD.u (fr (fun _ => undef) [(8, (.pointer x9 : Value))]) st rfl rfl (by kernel_rfl) (OE.nilCheck (a := a11) (congrArg Value.pointer e12) ⟨rfl, rfl⟩)), .inr (YD.u (fr (fun _ => undef) [(2, (.pointer (some c2) : Value))]) st rfl rfl (by kernel_rfl) (OE.load (a := c2) (v := .pointer x9) rfl (LdT.one Tryz.underlying96 rfl hl10) ⟨rfl, rfl⟩)), .inr (YD.u (fr (fun _ => undef) [(2, (.pointer (some c2) : Value))]) st rfl rfl (by kernel_rfl) (OE.load (a := c2) (v := .pointer x7) rfl (LdT.one Tryz.underlying96 rfl hl8) ⟨rfl, rfl⟩)), trivial⟩ (OE.buildSliceE (ps := [(0, (.iface 122 (.agg #[.int .i64 x15]) : Value))]) (cells := #[.iface 122 (.agg #[.int .i64 x15])]) (e := 150) rfl (Tryz.bf19 _) eb37 eh38 ?_)
      obtain ⟨hs19, hs20, hs21, H⟩ := H
      obtain ⟨vs22, z23, z24, z25, z26, H⟩ := H
      refine DW.loudF (fr (fun _ => undef) [(11, (.slice x13A x13n x13c : Value)), (15, (.slice (some (Addr.mk b18 0 none)) 1 1 : Value))]) st hd (i := 9) rfl (by kernel_rfl) (.inl rfl) (by kernel_rfl) ⟨.inl (by kernel_rfl), .inl (by kernel_rfl), .inl (by kernel_rfl), .inl (by kernel_rfl), .inr (YD.u (fr (fun _ => undef) [(10, (.pointer (some (a11.add 1)) : Value))]) st rfl rfl (by kernel_rfl) (OE.load (a := (a11.add 1)) (v := .slice x13A x13n x13c) rfl (LdT.one Tryz.underlying109 rfl hs21) ⟨rfl, rfl⟩)), .inr (YD.u (fr (fun _ => undef) [(9, (.pointer (some a11) : Value))]) st rfl rfl (by kernel_rfl) (OE.fieldAddrI (a := a11) (o := 1) rfl Tryz.underlying111 rfl Tryz.i109 (by decide) rfl ⟨rfl, rfl⟩)), .inr (YD.u (fr (fun _ => undef) [(8, (.pointer x9 : Value))]) st rfl rfl (by kernel_rfl) (OE.nilCheck (a := a11) (congrArg Value.pointer e12) ⟨rfl, rfl⟩)), .inr (YD.u (fr (fun _ => undef) [(2, (.pointer (some c2) : Value))]) st rfl rfl (by kernel_rfl) (OE.load (a := c2) (v := .pointer x9) rfl (LdT.one Tryz.underlying96 rfl hs20) ⟨rfl, rfl⟩)), .inr (YD.u (fr (fun _ => undef) [(2, (.pointer (some c2) : Value))]) st rfl rfl (by kernel_rfl) (OE.load (a := c2) (v := .pointer x7) rfl (LdT.one Tryz.underlying96 rfl hs19) ⟨rfl, rfl⟩)), trivial⟩ (OE.appendV (z := (.nilIface : Value)) (sz := 1) (bs := 16) rfl rfl Tryz.underlying109 Tryz.i150 z23 z24 z25 z26 (AppendV.mono H (fun A27 n28 c29 h30 H => ?_)))
      obtain ⟨hs31, H⟩ := H
      obtain ⟨a32, e33, H⟩ := H
      refine DW.still (i := 10) (v := .pointer (some a32)) (by kernel_rfl) ?_
      refine DW.still (i := 11) (v := .pointer (some (a32.add 1))) (by kernel_rfl) ?_
      obtain ⟨hw35, H⟩ := H
      obtain ⟨h34, eh36⟩ : ∃ h34, h34 = setc h30 (a32.add 1) (.slice A27 n28 c29) := ⟨_, rfl⟩
      have H := H h34 eh36
      refine DW.loudF (fr (fun _ => undef) [(18, (.pointer (some (a32.add 1)) : Value)), (16, (.slice A27 n28 c29 : Value))]) st hd (i := 12) rfl (by kernel_rfl) (.inl rfl) (by kernel_rfl) ⟨.inr (YD.u (fr (fun _ => undef) [(17, (.pointer (some a32) : Value))]) st rfl rfl (by kernel_rfl) (OE.fieldAddrI (a := a32) (o := 1) rfl Tryz.underlying111 rfl Tryz.i109 (by decide) rfl ⟨rfl, rfl⟩)), .inr (YD.u (fr (fun _ => undef) [(7, (.pointer x7 : Value))]) st rfl rfl (by kernel_rfl) (OE.nilCheck (a := a32) (congrArg Value.pointer e33) ⟨rfl, rfl⟩)), .inl (by kernel_rfl), .inl (by kernel_rfl), .inl (by kernel_rfl), .inl (by kernel_rfl), .inl (by kernel_rfl), .inl (by kernel_rfl), .inl (by kernel_rfl), .inl (by kernel_rfl), .inl (by kernel_rfl), .inr (YD.u (fr (fun _ => undef) [(2, (.pointer (some c2) : Value))]) st rfl rfl (by kernel_rfl) (OE.load (a := c2) (v := .pointer x7) rfl (LdT.one Tryz.underlying96 rfl hs31) ⟨rfl, rfl⟩)), trivial⟩ (OE.storeE (a := (a32.add 1)) (v := .slice A27 n28 c29) rfl rfl (StT.oneI Tryz.i109 hw35 rfl) eh36 ?_)
      refine DW.finL st hd [(7, (.pointer x7 : Value)), (8, (.pointer x9 : Value)), (9, (.pointer (some a11) : Value)), (10, (.pointer (some (a11.add 1)) : Value)), (11, (.slice x13A x13n x13c : Value)), (12, (.int .i64 x15 : Value)), (13, (.agg #[.int .i64 x15] : Value)), (14, (.iface 122 (.agg #[.int .i64 x15]) : Value)), (15, (.slice (some (Addr.mk b18 0 none)) 1 1 : Value)), (16, (.slice A27 n28 c29 : Value)), (17, (.pointer (some a32) : Value)), (18, (.pointer (some (a32.add 1)) : Value))] (by kernel_rfl) (by kernel_rfl) ⟨.inl (by kernel_rfl), .inl (by kernel_rfl), .inl (by kernel_rfl), .inl (by kernel_rfl), .inl (by kernel_rfl), .inl (by kernel_rfl), .inl (by kernel_rfl), .inl (by kernel_rfl), .inl (by kernel_rfl), .inl (by kernel_rfl), .inl (by kernel_rfl), .inl (by kernel_rfl), .inl (by kernel_rfl), trivial⟩ ?_
      exact ⟨rfl, H⟩
    · have H := H.2 e6
      refine VC.skip ?_
      exact ⟨rfl, H⟩

def D_disk_Disk_fails.J1 (R : Value → Hp → Prop)  (kind : Int) (j7 : Bool) (h8 : Hp) : Prop :=
  ((j7 = true → R (.int .i64 10) h8) ∧ (j7 = false → (((kind == 3) = true → R (.int .i64 8) h8) ∧ ((kind == 3) = false → R (.int .i64 0) h8))))
def D_disk_Disk_fails (R : Value → Hp → Prop) (d : Option Addr) (kind : Int) (h : Hp) : Prop :=
  (((kind == 1) = true → (∃ a2 : Addr, d = some a2 ∧ (Wr h (a2.add 10) ∧ ∀ h4, h4 = setc h (a2.add 10) (.bool true) → R (.int .i64 11) h4))) ∧ ((kind == 1) = false → (((kind == 2) = true → D_disk_Disk_fails.J1 R  kind (kind == 2) h) ∧ ((kind == 2) = false → (((kind == 4) = true → D_disk_Disk_fails.J1 R  kind (kind == 4) h) ∧ ((kind == 4) = false → D_disk_Disk_fails.J1 R  kind (kind == 5) h))))))
set_option maxRecDepth 10000 in
set_option maxHeartbeats 4000000 in
theorem D_disk_Disk_fails.sound {R : Value → Hp → Prop} {d : Option Addr} {kind : Int} {h : Hp} (H : D_disk_Disk_fails R  d kind h) : CH Tryz.prog 63 #[.pointer d, .int .i64 kind] h R := by
  refine CHE.enter (n := 17) Tryz.func63 rfl rfl (Nat.le_of_ble_eq_true rfl) ?_
  unfold D_disk_Disk_fails at H
  refine VC.seq ?_
  refine VC.region ?_
  refine VL.stepD rfl rfl (by decide) (OE.assignV (v := .int .i64 0) rfl ?_)
  refine VL.nil ?_
  change VC _ _ _ _ _ _ _
  refine VC.seq ?_
  refine VC.seq ?_
  refine VC.region ?_
  refine VL.stepD rfl rfl (by decide) (OE.moveV (v := .int .i64 kind) rfl ?_)
  refine VL.nil ?_
  change VC _ _ _ _ _ _ _
  refine VC.block ?_
  refine VC.seq ?_
  refine VC.region ?_
  refine VL.stepD rfl rfl (by decide) (OE.binI (v := .bool (kind == 1)) rfl rfl rfl ?_)
  refine VL.stepD rfl rfl (by decide) (OE.assignV (v := .bool (kind == 1)) rfl ?_)
  refine VL.nil ?_
  change VC _ _ _ _ _ _ _
  refine VC.cond (t := (kind == 1)) rfl (fun e1 => ?_) (fun e1 => ?_)
  · have H := H.1 e1
    refine VC.seq ?_
    refine VC.region ?_
    refine VL.stepD rfl rfl (by decide) (OE.moveV (v := .pointer d) rfl ?_)
    obtain ⟨a2, e3, H⟩ := H
    refine VL.stepD rfl rfl (by decide) (OE.nilCheck (a := a2) (congrArg Value.pointer e3) ?_)
    refine VL.stepD rfl rfl (by decide) (OE.fieldAddrI (a := a2) (o := 10) rfl Tryz.underlying104 rfl Tryz.i4 (by decide) rfl ?_)
    obtain ⟨hw5, H⟩ := H
    obtain ⟨h4, eh6⟩ : ∃ h4, h4 = setc h (a2.add 10) (.bool true) := ⟨_, rfl⟩
    have H := H h4 eh6
    refine VL.stepN rfl rfl (OE.storeE (a := (a2.add 10)) (v := .bool true) rfl rfl (StT.oneI Tryz.i4 hw5 rfl) eh6 ?_)
    refine VL.nil ?_
    change VC _ _ _ _ _ _ _
    refine VC.seq ?_
    refine VC.region ?_
    refine VL.stepD rfl rfl (by decide) (OE.assignV (v := .int .i64 11) rfl ?_)
    refine VL.nil ?_
    change VC _ _ _ _ _ _ _
    refine VC.ret ?_
    exact ⟨rfl, _, ResOK.t1 rfl (v := .int .i64 11) rfl, H⟩
  · have H := H.2 e1
    refine VC.seqJ (fun f h8 => ∃ j7 : Bool, f 5 = (.int .i64 kind : Value) ∧ f 11 = (.bool j7 : Value) ∧ D_disk_Disk_fails.J1 R  kind j7 h8) ?_ ?_
    · intro f h8 J
      obtain ⟨j7, hk5, hk11, H⟩ := J
      rw [← fr_self f [(5, .int .i64 kind), (11, .bool j7)] (by simp only [List.mem_cons, List.not_mem_nil, or_false]; rintro p (rfl | rfl) <;> assumption)]
      unfold D_disk_Disk_fails.J1 at H
      refine VC.cond (t := j7) rfl (fun e9 => ?_) (fun e9 => ?_)
      · have H := H.1 e9
        refine VC.seq ?_
        refine VC.region ?_
        refine VL.stepD rfl rfl (by decide) (OE.assignV (v := .int .i64 10) rfl ?_)
        refine VL.nil ?_
        change VC _ _ _ _ _ _ _
        refine VC.ret ?_
        exact ⟨rfl, _, ResOK.t1 rfl (v := .int .i64 10) rfl, H⟩
      · have H := H.2 e9
        refine VC.seq ?_
        refine VC.region ?_
        refine VL.stepD rfl rfl (by decide) (OE.binI (v := .bool (kind == 3)) rfl rfl rfl ?_)
        refine VL.stepD rfl rfl (by decide) (OE.assignV (v := .bool (kind == 3)) rfl ?_)
        refine VL.nil ?_
        change VC _ _ _ _ _ _ _
        refine VC.cond (t := (kind == 3)) rfl (fun e10 => ?_) (fun e10 => ?_)
        · have H := H.1 e10
          refine VC.seq ?_
          refine VC.region ?_
          refine VL.stepD rfl rfl (by decide) (OE.assignV (v := .int .i64 8) rfl ?_)
          refine VL.nil ?_
          change VC _ _ _ _ _ _ _
          refine VC.ret ?_
          exact ⟨rfl, _, ResOK.t1 rfl (v := .int .i64 8) rfl, H⟩
        · have H := H.2 e10
          refine VC.skip ?_
          change VC _ _ _ _ _ _ _
          refine VC.seq ?_
          refine VC.region ?_
          refine VL.stepD rfl rfl (by decide) (OE.assignV (v := .int .i64 0) rfl ?_)
          refine VL.nil ?_
          change VC _ _ _ _ _ _ _
          refine VC.ret ?_
          exact ⟨rfl, _, ResOK.t1 rfl (v := .int .i64 0) rfl, H⟩
    · skip
      refine VC.seq ?_
      refine VC.region ?_
      refine VL.stepD rfl rfl (by decide) (OE.binI (v := .bool (kind == 2)) rfl rfl rfl ?_)
      refine VL.stepD rfl rfl (by decide) (OE.assignV (v := .bool (kind == 2)) rfl ?_)
      refine VL.nil ?_
      change VC _ _ _ _ _ _ _
      refine VC.cond (t := (kind == 2)) rfl (fun e11 => ?_) (fun e11 => ?_)
      · have H := H.1 e11
        refine VC.skip ?_
        exact ⟨rfl, (kind == 2), rfl, rfl, H⟩
      · have H := H.2 e11
        refine VC.seq ?_
        refine VC.region ?_
        refine VL.stepD rfl rfl (by decide) (OE.binI (v := .bool (kind == 4)) rfl rfl rfl ?_)
        refine VL.stepD rfl rfl (by decide) (OE.assignV (v := .bool (kind == 4)) rfl ?_)
        refine VL.nil ?_
        change VC _ _ _ _ _ _ _
        refine VC.cond (t := (kind == 4)) rfl (fun e12 => ?_) (fun e12 => ?_)
        · have H := H.1 e12
          refine VC.skip ?_
          exact ⟨rfl, (kind == 4), rfl, rfl, H⟩
        · have H := H.2 e12
          refine VC.region ?_
          refine VL.stepD rfl rfl (by decide) (OE.binI (v := .bool (kind == 5)) rfl rfl rfl ?_)
          refine VL.stepD rfl rfl (by decide) (OE.assignV (v := .bool (kind == 5)) rfl ?_)
          refine VL.nil ?_
          exact ⟨rfl, (kind == 5), rfl, rfl, H⟩

def D_disk_fault.J1 (R : Value → Hp → Prop)    (h1 : Hp) : Prop :=
  R (.int .i64 0) h1
def D_disk_fault.J3 (R : Value → Hp → Prop) (C4 : Int → Hp → Prop) (j2 : Int) (b13 : Nat) (j16 : Bool) (h17 : Hp) : Prop :=
  ((j16 = true → (∃ x19 : Int, cell h17 ((Addr.mk b13 0 none).add 1) = some (.int .i64 x19) ∧ R (.int .i64 x19) h17)) ∧ (j16 = false → C4 (IntKind.i64.wrap (j2 + 1)) h17))
def D_disk_fault.L2 (R : Value → Hp → Prop)  (lA : Option Addr) (ln : Nat) (a_at : Int) (C4 : Int → Hp → Prop) (j2 : Int) (h3 : Hp) : Prop :=
  (((decide (j2 < ((ln : Nat) : Int))) = true → (∃ a6 : Addr, lA = some a6 ∧ (0 : Int) ≤ j2 ∧ j2 < (ln : Int) ∧ (∃ x10_0 : Int, ∃ x10_1 : Int, Row h3 (a6.add (Int.toNat j2 * 2)) [.int .i64 x10_0, .int .i64 x10_1] ∧ (∀ b13 h12, b13 = Array.size h3 → h12 = Array.push h3 (.cells #[.int .i64 0, .int .i64 0] 33) → ((∀ j, j < 2 → Wr h12 (Addr.add (Addr.mk b13 0 none) j)) ∧ ∀ h14, h14 = setRow h12 (Addr.mk b13 0 none) [.int .i64 x10_0, .int .i64 x10_1] 0 → (∃ x21 : Int, cell h14 (Addr.mk b13 0 none) = some (.int .i64 x21) ∧ (((x21 == a_at) = true → (∃ x24 : Int, cell h14 ((Addr.mk b13 0 none).add 1) = some (.int .i64 x24) ∧ (((decide (x24 ≥ 1)) = true → (∃ x27 : Int, cell h14 ((Addr.mk b13 0 none).add 1) = some (.int .i64 x27) ∧ D_disk_fault.J3 R C4 j2 b13 (decide (x27 ≤ 5)) h14)) ∧ ((decide (x24 ≥ 1)) = false → D_disk_fault.J3 R C4 j2 b13 false h14)))) ∧ ((x21 == a_at) = false → D_disk_fault.J3 R C4 j2 b13 false h14)))))))) ∧ ((decide (j2 < ((ln : Nat) : Int))) = false → D_disk_fault.J1 R    h3))
def D_disk_fault (R : Value → Hp → Prop) (lA : Option Addr) (ln : Nat) (lc : Nat) (a_at : Int) (h : Hp) : Prop :=
  (∃ Inv : Int → Hp → Nat → Prop, (∃ m, Inv 0 h m) ∧ ∀ j2 h3 m, Inv j2 h3 m → D_disk_fault.L2 R  lA ln a_at (fun j2 h3 => ∃ m1, m1 < m ∧ Inv j2 h3 m1) j2 h3)
set_option maxRecDepth 10000 in
set_option maxHeartbeats 4000000 in
theorem D_disk_fault.sound {R : Value → Hp → Prop} {lA : Option Addr} {ln : Nat} {lc : Nat} {a_at : Int} {h : Hp} (H : D_disk_fault R  lA ln lc a_at h) : CH Tryz.prog 64 #[.slice lA ln lc, .int .i64 a_at] h R := by
  refine CHE.enter (n := 30) Tryz.func64 rfl rfl (Nat.le_of_ble_eq_true rfl) ?_
  unfold D_disk_fault at H
  refine VC.seq ?_
  refine VC.region ?_
  refine VL.stepD rfl rfl (by decide) (OE.assignV (v := .int .i64 0) rfl ?_)
  refine VL.nil ?_
  change VC _ _ _ _ _ _ _
  refine VC.seqJ (fun f h1 => D_disk_fault.J1 R    h1) ?_ ?_
  · intro f h1 J
    have H := J
    skip
    unfold D_disk_fault.J1 at H
    refine VC.seq ?_
    refine VC.region ?_
    refine VL.stepD rfl rfl (by decide) (OE.assignV (v := .int .i64 0) rfl ?_)
    refine VL.nil ?_
    change VC _ _ _ _ _ _ _
    refine VC.ret ?_
    exact ⟨rfl, _, ResOK.t1 rfl (v := .int .i64 0) rfl, H⟩
  · skip
    refine VC.seq ?_
    refine VC.region ?_
    refine VL.stepD rfl rfl (by decide) (OE.moveV (v := .slice lA ln lc) rfl ?_)
    refine VL.stepD rfl rfl (by decide) (OE.lenSlice rfl Tryz.underlying34 ?_)
    refine VL.stepD rfl rfl (by decide) (OE.moveV (v := .int .i64 0) rfl ?_)
    refine VL.nil ?_
    change VC _ _ _ _ _ _ _
    refine VC.block ?_
    obtain ⟨Inv, ⟨m0, h0⟩, H⟩ := H
    refine VC.loop (fun ds f h3 m => ds = [] ∧ ∃ j2 : Int, f 1 = (.int .i64 a_at : Value) ∧ f 7 = (.slice lA ln lc : Value) ∧ f 8 = (.int .i64 ((ln : Nat) : Int) : Value) ∧ f 9 = (.int .i64 j2 : Value) ∧ Inv j2 h3 m) (m0 := m0) ⟨rfl, 0, rfl, rfl, rfl, rfl, h0⟩ ?_
    intro ds f h3 m I
    obtain ⟨rfl, j2, hk1, hk7, hk8, hk9, I⟩ := I
    rw [← fr_self f [(1, .int .i64 a_at), (7, .slice lA ln lc), (8, .int .i64 ((ln : Nat) : Int)), (9, .int .i64 j2)] (by simp only [List.mem_cons, List.not_mem_nil, or_false]; rintro p (rfl | rfl | rfl | rfl) <;> assumption)]
    obtain ⟨C4, eC4⟩ : ∃ C4 : Int → Hp → Prop, C4 = (fun j2 h3 => ∃ m1, m1 < m ∧ Inv j2 h3 m1) := ⟨_, rfl⟩
    have H : D_disk_fault.L2 R  lA ln a_at C4 j2 h3 := by rw [eC4]; exact H j2 h3 m I
    unfold D_disk_fault.L2 at H
    refine VC.seq ?_
    refine VC.region ?_
    refine VL.stepD rfl rfl (by decide) (OE.binI (v := .bool (decide (j2 < ((ln : Nat) : Int)))) rfl rfl rfl ?_)
    refine VL.nil ?_
    change VC _ _ _ _ _ _ _
    refine VC.seq ?_
    refine VC.cond (t := (decide (j2 < ((ln : Nat) : Int)))) rfl (fun e5 => ?_) (fun e5 => ?_)
    · have H := H.1 e5
      refine VC.skip ?_
      change VC _ _ _ _ _ _ _
      refine VC.seq ?_
      refine VC.block ?_
      refine VC.seq ?_
      refine VC.region ?_
      obtain ⟨a6, e7, z8, z9, H⟩ := H
      refine VL.stepD rfl rfl (by decide) (OE.indexAddrI (sz := 2) rfl rfl Tryz.underlying34 Tryz.i33 e7 z8 z9 ?_)
      obtain ⟨x10_0, x10_1, hl11, H⟩ := H
      refine VL.stepD rfl rfl (by decide) (OE.load (a := (a6.add (Int.toNat j2 * 2))) (v := .agg #[.int .i64 x10_0, .int .i64 x10_1]) rfl (LdT.aggI Tryz.underlying33 rfl Tryz.i33 rfl hl11) ?_)
      obtain ⟨b13, eb30⟩ : ∃ b13, b13 = Array.size h3 := ⟨_, rfl⟩
      obtain ⟨h12, eh31⟩ : ∃ h12, h12 = Array.push h3 (.cells #[.int .i64 0, .int .i64 0] 33) := ⟨_, rfl⟩
      have H := H b13 h12 eb30 eh31
      refine VL.stepD rfl rfl (by decide) (OE.allocE (z := .agg #[.int .i64 0, .int .i64 0]) Tryz.i33 eb30 eh31 ?_)
      obtain ⟨hw15, H⟩ := H
      obtain ⟨h14, eh29⟩ : ∃ h14, h14 = setRow h12 (Addr.mk b13 0 none) [.int .i64 x10_0, .int .i64 x10_1] 0 := ⟨_, rfl⟩
      have H := H h14 eh29
      refine VL.stepN rfl rfl (OE.storeE (a := (Addr.mk b13 0 none)) (v := .agg #[.int .i64 x10_0, .int .i64 x10_1]) rfl rfl (StT.aggI (vs := [.int .i64 x10_0, .int .i64 x10_1]) Tryz.i33 rfl hw15 (by simp [oneC])) eh29 ?_)
      refine VL.nil ?_
      change VC _ _ _ _ _ _ _
      refine VC.seqJ (fun f h17 => ∃ j16 : Bool, f 1 = (.int .i64 a_at : Value) ∧ f 6 = (.pointer (some (Addr.mk b13 0 none)) : Value) ∧ f 7 = (.slice lA ln lc : Value) ∧ f 8 = (.int .i64 ((ln : Nat) : Int) : Value) ∧ f 9 = (.int .i64 j2 : Value) ∧ f 26 = (.bool j16 : Value) ∧ D_disk_fault.J3 R C4 j2 b13 j16 h17) ?_ ?_
      · intro f h17 J
        obtain ⟨j16, hk1, hk6, hk7, hk8, hk9, hk26, H⟩ := J
        rw [← fr_self f [(1, .int .i64 a_at), (6, .pointer (some (Addr.mk b13 0 none))), (7, .slice lA ln lc), (8, .int .i64 ((ln : Nat) : Int)), (9, .int .i64 j2), (26, .bool j16)] (by simp only [List.mem_cons, List.not_mem_nil, or_false]; rintro p (rfl | rfl | rfl | rfl | rfl | rfl) <;> assumption)]
        unfold D_disk_fault.J3 at H
        refine VC.cond (t := j16) rfl (fun e18 => ?_) (fun e18 => ?_)
        · have H := H.1 e18
          refine VC.seq ?_
          refine VC.region ?_
          refine VL.stepD rfl rfl (by decide) (OE.fieldAddrI (a := (Addr.mk b13 0 none)) (o := 1) rfl Tryz.underlying33 rfl Tryz.i3 (by decide) rfl ?_)
          obtain ⟨x19, hl20, H⟩ := H
          refine VL.stepD rfl rfl (by decide) (OE.load (a := ((Addr.mk b13 0 none).add 1)) (v := .int .i64 x19) rfl (LdT.one Tryz.underlying3 rfl hl20) ?_)
          refine VL.stepD rfl rfl (by decide) (OE.assignV (v := .int .i64 x19) rfl ?_)
          refine VL.nil ?_
          change VC _ _ _ _ _ _ _
          refine VC.ret ?_
          exact ⟨rfl, _, ResOK.t1 rfl (v := .int .i64 x19) rfl, H⟩
        · have H := H.2 e18
          refine VC.skip ?_
          change VC _ _ _ _ _ _ _
          refine VC.region ?_
          refine VL.stepD rfl rfl (by decide) (OE.binI (v := .int .i64 (IntKind.i64.wrap (j2 + 1))) rfl rfl rfl ?_)
          refine VL.stepD rfl rfl (by decide) (OE.moveV (v := .int .i64 (IntKind.i64.wrap (j2 + 1))) rfl ?_)
          refine VL.nil ?_
          rw [eC4] at H
          obtain ⟨m1, hm1, H⟩ := H
          exact ⟨m1, hm1, rfl, (IntKind.i64.wrap (j2 + 1)), rfl, rfl, rfl, rfl, H⟩
      · skip
        refine VC.region ?_
        refine VL.stepD rfl rfl (by decide) (OE.fieldAddrI (a := (Addr.mk b13 0 none)) (o := 0) rfl Tryz.underlying33 rfl Tryz.i3 (by decide) rfl ?_)
        obtain ⟨x21, hl22, H⟩ := H
        refine VL.stepD rfl rfl (by decide) (OE.load (a := (Addr.mk b13 0 none)) (v := .int .i64 x21) rfl (LdT.one Tryz.underlying3 rfl hl22) ?_)
        refine VL.stepD rfl rfl (by decide) (OE.moveV (v := .int .i64 a_at) rfl ?_)
        refine VL.stepD rfl rfl (by decide) (OE.binI (v := .bool (x21 == a_at)) rfl rfl rfl ?_)
        refine VL.stepD rfl rfl (by decide) (OE.moveV (v := .bool (x21 == a_at)) rfl ?_)
        refine boolSplit ((x21 == a_at)) (fun e23 => ?_) (fun e23 => ?_)
        · have H := H.1 e23
          refine VL.gstepD rfl rfl (by decide) (congrArg Value.bool e23) rfl (by decide) (OE.fieldAddrI (a := (Addr.mk b13 0 none)) (o := 1) rfl Tryz.underlying33 rfl Tryz.i3 (by decide) rfl ?_)
          obtain ⟨x24, hl25, H⟩ := H
          refine VL.gstepD rfl rfl (by decide) (congrArg Value.bool e23) rfl (by decide) (OE.load (a := ((Addr.mk b13 0 none).add 1)) (v := .int .i64 x24) rfl (LdT.one Tryz.underlying3 rfl hl25) ?_)
          refine VL.gstepD rfl rfl (by decide) (congrArg Value.bool e23) rfl (by decide) (OE.binI (v := .bool (decide (x24 ≥ 1))) rfl rfl rfl ?_)
          refine VL.stepD rfl rfl (by decide) (OE.pickV (t := true) (v := .bool (decide (x24 ≥ 1))) (congrArg Value.bool e23) rfl ?_)
          refine VL.stepD rfl rfl (by decide) (OE.moveV (v := .bool (decide (x24 ≥ 1))) rfl ?_)
          refine boolSplit ((decide (x24 ≥ 1))) (fun e26 => ?_) (fun e26 => ?_)
          · have H := H.1 e26
            refine VL.gstepD rfl rfl (by decide) (congrArg Value.bool e26) rfl (by decide) (OE.fieldAddrI (a := (Addr.mk b13 0 none)) (o := 1) rfl Tryz.underlying33 rfl Tryz.i3 (by decide) rfl ?_)
            obtain ⟨x27, hl28, H⟩ := H
            refine VL.gstepD rfl rfl (by decide) (congrArg Value.bool e26) rfl (by decide) (OE.load (a := ((Addr.mk b13 0 none).add 1)) (v := .int .i64 x27) rfl (LdT.one Tryz.underlying3 rfl hl28) ?_)
            refine VL.gstepD rfl rfl (by decide) (congrArg Value.bool e26) rfl (by decide) (OE.binI (v := .bool (decide (x27 ≤ 5))) rfl rfl rfl ?_)
            refine VL.stepD rfl rfl (by decide) (OE.pickV (t := true) (v := .bool (decide (x27 ≤ 5))) (congrArg Value.bool e26) rfl ?_)
            refine VL.nil ?_
            exact ⟨rfl, (decide (x27 ≤ 5)), rfl, rfl, rfl, rfl, rfl, rfl, H⟩
          · have H := H.2 e26
            refine VL.gskipD rfl rfl (by decide) (.inl (congrArg Value.bool e26)) rfl (by decide) ?_
            refine VL.gskipD rfl rfl (by decide) (.inl (congrArg Value.bool e26)) rfl (by decide) ?_
            refine VL.gskipD rfl rfl (by decide) (.inl (congrArg Value.bool e26)) rfl (by decide) ?_
            refine VL.stepD rfl rfl (by decide) (OE.pickV (t := false) (v := .bool false) (congrArg Value.bool e26) rfl ?_)
            refine VL.nil ?_
            exact ⟨rfl, false, rfl, rfl, rfl, rfl, rfl, rfl, H⟩
        · have H := H.2 e23
          refine VL.gskipD rfl rfl (by decide) (.inl (congrArg Value.bool e23)) rfl (by decide) ?_
          refine VL.gskipD rfl rfl (by decide) (.inl (congrArg Value.bool e23)) rfl (by decide) ?_
          refine VL.gskipD rfl rfl (by decide) (.inl (congrArg Value.bool e23)) rfl (by decide) ?_
          refine VL.stepD rfl rfl (by decide) (OE.pickV (t := false) (v := .bool false) (congrArg Value.bool e23) rfl ?_)
          refine VL.stepD rfl rfl (by decide) (OE.moveV (v := .bool false) rfl ?_)
          refine VL.gskipD rfl rfl (by decide) (.inl rfl) rfl (by decide) ?_
          refine VL.gskipD rfl rfl (by decide) (.inl rfl) rfl (by decide) ?_
          refine VL.gskipD rfl rfl (by decide) (.inl rfl) rfl (by decide) ?_
          refine VL.stepD rfl rfl (by decide) (OE.pickV (t := false) (v := .bool false) rfl rfl ?_)
          refine VL.nil ?_
          exact ⟨rfl, false, rfl, rfl, rfl, rfl, rfl, rfl, H⟩
    · have H := H.2 e5
      refine VC.exit ?_
      exact ⟨rfl, H⟩

def D_disk_round (R : Value → Hp → Prop) (v : Int) (a_n : Int) (h : Hp) : Prop :=
  (a_n ≠ 0 ∧ (a_n ≠ 0 ∧ R (.int .i64 (Int.tmod (IntKind.i64.wrap ((Int.tmod v a_n) + a_n)) a_n)) h))
set_option maxRecDepth 10000 in
set_option maxHeartbeats 4000000 in
theorem D_disk_round.sound {R : Value → Hp → Prop} {v : Int} {a_n : Int} {h : Hp} (H : D_disk_round R  v a_n h) : CH Tryz.prog 65 #[.int .i64 v, .int .i64 a_n] h R := by
  refine CHE.enter (n := 12) Tryz.func65 rfl rfl (Nat.le_of_ble_eq_true rfl) ?_
  unfold D_disk_round at H
  refine VC.seq ?_
  refine VC.region ?_
  refine VL.stepD rfl rfl (by decide) (OE.assignV (v := .int .i64 0) rfl ?_)
  refine VL.nil ?_
  change VC _ _ _ _ _ _ _
  refine VC.seq ?_
  refine VC.region ?_
  refine VL.stepD rfl rfl (by decide) (OE.moveV (v := .int .i64 v) rfl ?_)
  refine VL.stepD rfl rfl (by decide) (OE.moveV (v := .int .i64 a_n) rfl ?_)
  obtain ⟨hz1, H⟩ := H
  refine VL.stepD rfl rfl (by decide) (OE.binI (v := .int .i64 (Int.tmod v a_n)) rfl rfl (by simp only [V.binI, if_true]; rw [if_neg hz1]) ?_)
  refine VL.stepD rfl rfl (by decide) (OE.moveV (v := .int .i64 a_n) rfl ?_)
  refine VL.stepD rfl rfl (by decide) (OE.binI (v := .int .i64 (IntKind.i64.wrap ((Int.tmod v a_n) + a_n))) rfl rfl rfl ?_)
  refine VL.stepD rfl rfl (by decide) (OE.moveV (v := .int .i64 a_n) rfl ?_)
  obtain ⟨hz2, H⟩ := H
  refine VL.stepD rfl rfl (by decide) (OE.binI (v := .int .i64 (Int.tmod (IntKind.i64.wrap ((Int.tmod v a_n) + a_n)) a_n)) rfl rfl (by simp only [V.binI, if_true]; rw [if_neg hz2]) ?_)
  refine VL.stepD rfl rfl (by decide) (OE.assignV (v := .int .i64 (Int.tmod (IntKind.i64.wrap ((Int.tmod v a_n) + a_n)) a_n)) rfl ?_)
  refine VL.nil ?_
  change VC _ _ _ _ _ _ _
  refine VC.ret ?_
  exact ⟨rfl, _, ResOK.t1 rfl (v := .int .i64 (Int.tmod (IntKind.i64.wrap ((Int.tmod v a_n) + a_n)) a_n)) rfl, H⟩


def D_disk_file_row.J2 (R : Value → Hp → Prop)  (b2 : Nat) (j3 : Addr)  (h5 : Hp) : Prop :=
  (∃ x6_0A : Option Addr, ∃ x6_0n : Nat, ∃ x6_0c : Nat, ∃ x6_1A : Option Addr, ∃ x6_1n : Nat, ∃ x6_1c : Nat, Row h5 j3 [.slice x6_0A x6_0n x6_0c, .slice x6_1A x6_1n x6_1c] ∧ ((∀ j, j < 2 → Wr h5 (Addr.add (Addr.mk b2 0 none) j)) ∧ ∀ h8, h8 = setRow h5 (Addr.mk b2 0 none) [.slice x6_0A x6_0n x6_0c, .slice x6_1A x6_1n x6_1c] 0 → ∃ r10_0A : Option Addr, ∃ r10_0n : Nat, ∃ r10_0c : Nat, ∃ r10_1A : Option Addr, ∃ r10_1n : Nat, ∃ r10_1c : Nat, Row h8 (Addr.mk b2 0 none) [.slice r10_0A r10_0n r10_0c, .slice r10_1A r10_1n r10_1c] ∧ R (.agg #[.slice r10_0A r10_0n r10_0c, .slice r10_1A r10_1n r10_1c]) h8))
def D_disk_file_row.L3 (R : Value → Hp → Prop)  (done : Int) (b2 : Nat) (j3 : Addr) (x14A : Option Addr) (C20 : Int → Hp → Prop) (j18 : Int) (h19 : Hp) : Prop :=
  (((decide (j18 < (((Int.toNat done) : Nat) : Int))) = true → (∃ a22 : Addr, x14A = some a22 ∧ (0 : Int) ≤ j18 ∧ j18 < ((Int.toNat done) : Int) ∧ (∃ x26 : Value, cell h19 (a22.add (Int.toNat j18 * 1)) = some (x26) ∧ (∃ x28_0A : Option Addr, ∃ x28_0n : Nat, ∃ x28_0c : Nat, ∃ x28_1A : Option Addr, ∃ x28_1n : Nat, ∃ x28_1c : Nat, Row h19 j3 [.slice x28_0A x28_0n x28_0c, .slice x28_1A x28_1n x28_1c] ∧ CHI Tryz.prog x26 "treadle/disk.do" [.agg #[.slice x28_0A x28_0n x28_0c, .slice x28_1A x28_1n x28_1c]] h19 (fun r30 h31 => ∃ y32_0A : Option Addr, ∃ y32_0n : Nat, ∃ y32_0c : Nat, ∃ y32_1A : Option Addr, ∃ y32_1n : Nat, ∃ y32_1c : Nat, r30 = .agg #[.slice y32_0A y32_0n y32_0c, .slice y32_1A y32_1n y32_1c] ∧ ((∀ j, j < 2 → Wr h31 (Addr.add j3 j)) ∧ ∀ h33, h33 = setRow h31 j3 [.slice y32_0A y32_0n y32_0c, .slice y32_1A y32_1n y32_1c] 0 → C20 (IntKind.i64.wrap (j18 + 1)) h33)))))) ∧ ((decide (j18 < (((Int.toNat done) : Nat) : Int))) = false → D_disk_file_row.J2 R  b2 j3  h19))
def D_disk_file_row.J1 (R : Value → Hp → Prop)  (f' : Option Addr) (done : Int) (b2 : Nat) (j3 : Addr) (h4 : Hp) : Prop :=
  (∃ a12 : Addr, f' = some a12 ∧ (∃ x14A : Option Addr, ∃ x14n : Nat, ∃ x14c : Nat, cell h4 (a12.add 1) = some (.slice x14A x14n x14c) ∧ ((0 : Int) ≤ done ∧ done ≤ ((x14c : Nat) : Int) ∧ (∃ Inv : Int → Hp → Nat → Prop, (∃ m, Inv 0 h4 m) ∧ ∀ j18 h19 m, Inv j18 h19 m → D_disk_file_row.L3 R  done b2 j3 x14A (fun j18 h19 => ∃ m1, m1 < m ∧ Inv j18 h19 m1) j18 h19))))
def D_disk_file_row (R : Value → Hp → Prop) (f' : Option Addr) (done : Int) (h : Hp) : Prop :=
  (∀ b2 h1, b2 = Array.size h → h1 = Array.push h (.cells #[.slice none 0 0, .slice none 0 0] 128) → (∃ a37 : Addr, f' = some a37 ∧ (∃ x39A : Option Addr, ∃ x39n : Nat, ∃ x39c : Nat, cell h1 a37 = some (.slice x39A x39n x39c) ∧ (∃ x41A : Option Addr, ∃ x41n : Nat, ∃ x41c : Nat, cell h1 a37 = some (.slice x41A x41n x41c) ∧ ((CH Tryz.prog 48 #[.slice x39A x39n x39c] h1 (fun r43 h44 => ∃ y45A : Option Addr, ∃ y45n : Nat, ∃ y45c : Nat, r43 = .slice y45A y45n y45c ∧ (cell h44 a37 = some (.slice x41A x41n x41c) ∧ ((((0 : Int) ≤ ((x41n : Nat) : Int) ∧ ((x41n : Nat) : Int) ≤ ((x41n : Nat) : Int) ∧ (1 : Int) * ((x41n : Nat) : Int) ≤ 281474976710656 ∧ ∀ b48 h47, b48 = Array.size h44 → h47 = Array.push h44 (.cells (made (.bool false) ((Int.toNat ((x41n : Nat) : Int)) * 1)).toArray 4) → (∀ b53 h52, b53 = Array.size h47 → h52 = Array.push h47 (.cells #[.slice none 0 0, .slice none 0 0] 128) → ((∀ j, j < 2 → Wr h52 (Addr.add (Addr.mk b53 0 none) j)) ∧ ∀ h54, h54 = setRow h52 (Addr.mk b53 0 none) [.slice y45A y45n y45c, .slice (some (Addr.mk b48 0 none)) (Int.toNat ((x41n : Nat) : Int)) (Int.toNat ((x41n : Nat) : Int))] 0 → D_disk_file_row.J1 R  f' done b2 (Addr.mk b53 0 none) h54)))) ∧ ((∀ b62 h61, b62 = Array.size h44 → h61 = Array.push h44 (.cells #[.slice none 0 0, .slice none 0 0] 128) → (cell h61 a37 = some (.slice x41A x41n x41c) ∧ ((0 : Int) ≤ ((x41n : Nat) : Int) ∧ ((x41n : Nat) : Int) ≤ ((x41n : Nat) : Int) ∧ (1 : Int) * ((x41n : Nat) : Int) ≤ 281474976710656 ∧ ∀ b65 h64, b65 = Array.size h61 → h64 = Array.push h61 (.cells (made (.bool false) ((Int.toNat ((x41n : Nat) : Int)) * 1)).toArray 4) → ((∀ j, j < 2 → Wr h64 (Addr.add (Addr.mk b62 0 none) j)) ∧ ∀ h69, h69 = setRow h64 (Addr.mk b62 0 none) [.slice y45A y45n y45c, .slice (some (Addr.mk b65 0 none)) (Int.toNat ((x41n : Nat) : Int)) (Int.toNat ((x41n : Nat) : Int))] 0 → D_disk_file_row.J1 R  f' done b2 (Addr.mk b62 0 none) h69))))))))) ∧ (((0 : Int) ≤ ((x41n : Nat) : Int) ∧ ((x41n : Nat) : Int) ≤ ((x41n : Nat) : Int) ∧ (1 : Int) * ((x41n : Nat) : Int) ≤ 281474976710656 ∧ ∀ b78 h77, b78 = Array.size h1 → h77 = Array.push h1 (.cells (made (.bool false) ((Int.toNat ((x41n : Nat) : Int)) * 1)).toArray 4) → (cell h77 a37 = some (.slice x39A x39n x39c) ∧ ((CH Tryz.prog 48 #[.slice x39A x39n x39c] h77 (fun r83 h84 => ∃ y85A : Option Addr, ∃ y85n : Nat, ∃ y85c : Nat, r83 = .slice y85A y85n y85c ∧ (∀ b87 h86, b87 = Array.size h84 → h86 = Array.push h84 (.cells #[.slice none 0 0, .slice none 0 0] 128) → ((∀ j, j < 2 → Wr h86 (Addr.add (Addr.mk b87 0 none) j)) ∧ ∀ h88, h88 = setRow h86 (Addr.mk b87 0 none) [.slice y85A y85n y85c, .slice (some (Addr.mk b78 0 none)) (Int.toNat ((x41n : Nat) : Int)) (Int.toNat ((x41n : Nat) : Int))] 0 → D_disk_file_row.J1 R  f' done b2 (Addr.mk b87 0 none) h88)))) ∧ ((∀ b95 h94, b95 = Array.size h77 → h94 = Array.push h77 (.cells #[.slice none 0 0, .slice none 0 0] 128) → (cell h94 a37 = some (.slice x39A x39n x39c) ∧ CH Tryz.prog 48 #[.slice x39A x39n x39c] h94 (fun r97 h98 => ∃ y99A : Option Addr, ∃ y99n : Nat, ∃ y99c : Nat, r97 = .slice y99A y99n y99c ∧ ((∀ j, j < 2 → Wr h98 (Addr.add (Addr.mk b95 0 none) j)) ∧ ∀ h100, h100 = setRow h98 (Addr.mk b95 0 none) [.slice y99A y99n y99c, .slice (some (Addr.mk b78 0 none)) (Int.toNat ((x41n : Nat) : Int)) (Int.toNat ((x41n : Nat) : Int))] 0 → D_disk_file_row.J1 R  f' done b2 (Addr.mk b95 0 none) h100))))))))) ∧ ((∀ b109 h108, b109 = Array.size h1 → h108 = Array.push h1 (.cells #[.slice none 0 0, .slice none 0 0] 128) → (cell h108 a37 = some (.slice x39A x39n x39c) ∧ (cell h108 a37 = some (.slice x41A x41n x41c) ∧ ((CH Tryz.prog 48 #[.slice x39A x39n x39c] h108 (fun r112 h113 => ∃ y114A : Option Addr, ∃ y114n : Nat, ∃ y114c : Nat, r112 = .slice y114A y114n y114c ∧ (cell h113 a37 = some (.slice x41A x41n x41c) ∧ ((0 : Int) ≤ ((x41n : Nat) : Int) ∧ ((x41n : Nat) : Int) ≤ ((x41n : Nat) : Int) ∧ (1 : Int) * ((x41n : Nat) : Int) ≤ 281474976710656 ∧ ∀ b117 h116, b117 = Array.size h113 → h116 = Array.push h113 (.cells (made (.bool false) ((Int.toNat ((x41n : Nat) : Int)) * 1)).toArray 4) → ((∀ j, j < 2 → Wr h116 (Addr.add (Addr.mk b109 0 none) j)) ∧ ∀ h121, h121 = setRow h116 (Addr.mk b109 0 none) [.slice y114A y114n y114c, .slice (some (Addr.mk b117 0 none)) (Int.toNat ((x41n : Nat) : Int)) (Int.toNat ((x41n : Nat) : Int))] 0 → D_disk_file_row.J1 R  f' done b2 (Addr.mk b109 0 none) h121))))) ∧ (((0 : Int) ≤ ((x41n : Nat) : Int) ∧ ((x41n : Nat) : Int) ≤ ((x41n : Nat) : Int) ∧ (1 : Int) * ((x41n : Nat) : Int) ≤ 281474976710656 ∧ ∀ b128 h127, b128 = Array.size h108 → h127 = Array.push h108 (.cells (made (.bool false) ((Int.toNat ((x41n : Nat) : Int)) * 1)).toArray 4) → (cell h127 a37 = some (.slice x39A x39n x39c) ∧ CH Tryz.prog 48 #[.slice x39A x39n x39c] h127 (fun r133 h134 => ∃ y135A : Option Addr, ∃ y135n : Nat, ∃ y135c : Nat, r133 = .slice y135A y135n y135c ∧ ((∀ j, j < 2 → Wr h134 (Addr.add (Addr.mk b109 0 none) j)) ∧ ∀ h136, h136 = setRow h134 (Addr.mk b109 0 none) [.slice y135A y135n y135c, .slice (some (Addr.mk b128 0 none)) (Int.toNat ((x41n : Nat) : Int)) (Int.toNat ((x41n : Nat) : Int))] 0 → D_disk_file_row.J1 R  f' done b2 (Addr.mk b109 0 none) h136)))))))))))))))
set_option maxRecDepth 10000 in
set_option maxHeartbeats 4000000 in
theorem D_disk_file_row.sound {R : Value → Hp → Prop} {f' : Option Addr} {done : Int} {h : Hp} (H : D_disk_file_row R  f' done h) : CH Tryz.prog 66 #[.pointer f', .int .i64 done] h R := by
  refine CHE.enter (n := 36) Tryz.func66 rfl rfl (Nat.le_of_ble_eq_true rfl) ?_
  unfold D_disk_file_row at H
  refine VC.seq ?_
  refine VC.region ?_
  obtain ⟨b2, eb144⟩ : ∃ b2, b2 = Array.size h := ⟨_, rfl⟩
  obtain ⟨h1, eh145⟩ : ∃ h1, h1 = Array.push h (.cells #[.slice none 0 0, .slice none 0 0] 128) := ⟨_, rfl⟩
  have H := H b2 h1 eb144 eh145
  refine VL.stepD rfl rfl (by decide) (OE.allocE (z := .agg #[.slice none 0 0, .slice none 0 0]) Tryz.i128 eb144 eh145 ?_)
  refine VL.nil ?_
  change VC _ _ _ _ _ _ _
  refine VC.seqJ (fun f h4 => ∃ j3 : Addr, f 0 = (.pointer f' : Value) ∧ f 1 = (.int .i64 done : Value) ∧ f 4 = (.pointer (some (Addr.mk b2 0 none)) : Value) ∧ f 5 = (.pointer (some j3) : Value) ∧ D_disk_file_row.J1 R  f' done b2 j3 h4) ?_ ?_
  · intro f h4 J
    obtain ⟨j3, hk0, hk1, hk4, hk5, H⟩ := J
    rw [← fr_self f [(0, .pointer f'), (1, .int .i64 done), (4, .pointer (some (Addr.mk b2 0 none))), (5, .pointer (some j3))] (by simp only [List.mem_cons, List.not_mem_nil, or_false]; rintro p (rfl | rfl | rfl | rfl) <;> assumption)]
    unfold D_disk_file_row.J1 at H
    refine VC.seqJ (fun f h5 => f 4 = (.pointer (some (Addr.mk b2 0 none)) : Value) ∧ f 5 = (.pointer (some j3) : Value) ∧ D_disk_file_row.J2 R  b2 j3  h5) ?_ ?_
    · intro f h5 J
      obtain ⟨hk4, hk5, H⟩ := J
      rw [← fr_self f [(4, .pointer (some (Addr.mk b2 0 none))), (5, .pointer (some j3))] (by simp only [List.mem_cons, List.not_mem_nil, or_false]; rintro p (rfl | rfl) <;> assumption)]
      unfold D_disk_file_row.J2 at H
      refine VC.seq ?_
      refine VC.region ?_
      obtain ⟨x6_0A, x6_0n, x6_0c, x6_1A, x6_1n, x6_1c, hl7, H⟩ := H
      refine VL.stepD rfl rfl (by decide) (OE.load (a := j3) (v := .agg #[.slice x6_0A x6_0n x6_0c, .slice x6_1A x6_1n x6_1c]) rfl (LdT.aggI Tryz.underlying128 rfl Tryz.i128 rfl hl7) ?_)
      obtain ⟨hw9, H⟩ := H
      obtain ⟨h8, eh11⟩ : ∃ h8, h8 = setRow h5 (Addr.mk b2 0 none) [.slice x6_0A x6_0n x6_0c, .slice x6_1A x6_1n x6_1c] 0 := ⟨_, rfl⟩
      have H := H h8 eh11
      refine VL.stepN rfl rfl (OE.storeE (a := (Addr.mk b2 0 none)) (v := .agg #[.slice x6_0A x6_0n x6_0c, .slice x6_1A x6_1n x6_1c]) rfl rfl (StT.aggI (vs := [.slice x6_0A x6_0n x6_0c, .slice x6_1A x6_1n x6_1c]) Tryz.i128 rfl hw9 (by simp [oneC])) eh11 ?_)
      refine VL.nil ?_
      change VC _ _ _ _ _ _ _
      refine VC.ret ?_
      obtain ⟨r10_0A, r10_0n, r10_0c, r10_1A, r10_1n, r10_1c, hl, H⟩ := H
      exact ⟨rfl, _, ResOK.c1 rfl (v := .agg #[.slice r10_0A r10_0n r10_0c, .slice r10_1A r10_1n r10_1c]) rfl (LdT.aggI Tryz.underlying128 rfl Tryz.i128 rfl hl), H⟩
    · skip
      refine VC.seq ?_
      refine VC.region ?_
      refine VL.stepD rfl rfl (by decide) (OE.moveV (v := .pointer f') rfl ?_)
      obtain ⟨a12, e13, H⟩ := H
      refine VL.stepD rfl rfl (by decide) (OE.nilCheck (a := a12) (congrArg Value.pointer e13) ?_)
      refine VL.stepD rfl rfl (by decide) (OE.fieldAddrI (a := a12) (o := 1) rfl Tryz.underlying111 rfl Tryz.i109 (by decide) rfl ?_)
      obtain ⟨x14A, x14n, x14c, hl15, H⟩ := H
      refine VL.stepD rfl rfl (by decide) (OE.load (a := (a12.add 1)) (v := .slice x14A x14n x14c) rfl (LdT.one Tryz.underlying109 rfl hl15) ?_)
      refine VL.stepD rfl rfl (by decide) (OE.moveV (v := .int .i64 done) rfl ?_)
      obtain ⟨z16, z17, H⟩ := H
      refine VL.stepD rfl rfl (by decide) (OE.sliceHiV (sz := 1) rfl rfl Tryz.underlying109 Tryz.i150 z16 z17 ?_)
      refine VL.stepD rfl rfl (by decide) (OE.lenSlice rfl Tryz.underlying109 ?_)
      refine VL.stepD rfl rfl (by decide) (OE.moveV (v := .int .i64 0) rfl ?_)
      refine VL.nil ?_
      change VC _ _ _ _ _ _ _
      refine VC.block ?_
      obtain ⟨Inv, ⟨m0, h0⟩, H⟩ := H
      refine VC.loop (fun ds f h19 m => ds = [] ∧ ∃ j18 : Int, f 4 = (.pointer (some (Addr.mk b2 0 none)) : Value) ∧ f 5 = (.pointer (some j3) : Value) ∧ f 25 = (.slice x14A (Int.toNat done) x14c : Value) ∧ f 26 = (.int .i64 (((Int.toNat done) : Nat) : Int) : Value) ∧ f 27 = (.int .i64 j18 : Value) ∧ Inv j18 h19 m) (m0 := m0) ⟨rfl, 0, rfl, rfl, rfl, rfl, rfl, h0⟩ ?_
      intro ds f h19 m I
      obtain ⟨rfl, j18, hk4, hk5, hk25, hk26, hk27, I⟩ := I
      rw [← fr_self f [(4, .pointer (some (Addr.mk b2 0 none))), (5, .pointer (some j3)), (25, .slice x14A (Int.toNat done) x14c), (26, .int .i64 (((Int.toNat done) : Nat) : Int)), (27, .int .i64 j18)] (by simp only [List.mem_cons, List.not_mem_nil, or_false]; rintro p (rfl | rfl | rfl | rfl | rfl) <;> assumption)]
      obtain ⟨C20, eC20⟩ : ∃ C20 : Int → Hp → Prop, C20 = (fun j18 h19 => ∃ m1, m1 < m ∧ Inv j18 h19 m1) := ⟨_, rfl⟩
      have H : D_disk_file_row.L3 R  done b2 j3 x14A C20 j18 h19 := by rw [eC20]; exact H j18 h19 m I
      unfold D_disk_file_row.L3 at H
      refine VC.seq ?_
      refine VC.region ?_
      refine VL.stepD rfl rfl (by decide) (OE.binI (v := .bool (decide (j18 < (((Int.toNat done) : Nat) : Int)))) rfl rfl rfl ?_)
      refine VL.nil ?_
      change VC _ _ _ _ _ _ _
      refine VC.seq ?_
      refine VC.cond (t := (decide (j18 < (((Int.toNat done) : Nat) : Int)))) rfl (fun e21 => ?_) (fun e21 => ?_)
      · have H := H.1 e21
        refine VC.skip ?_
        change VC _ _ _ _ _ _ _
        refine VC.seq ?_
        refine VC.block ?_
        refine VC.seq ?_
        refine VC.region ?_
        obtain ⟨a22, e23, z24, z25, H⟩ := H
        refine VL.stepD rfl rfl (by decide) (OE.indexAddrI (sz := 1) rfl rfl Tryz.underlying109 Tryz.i150 e23 z24 z25 ?_)
        obtain ⟨x26, hl27, H⟩ := H
        refine VL.stepD rfl rfl (by decide) (OE.load (a := (a22.add (Int.toNat j18 * 1))) (v := x26) rfl (LdT.one Tryz.underlying150 rfl hl27) ?_)
        refine VL.stepD rfl rfl (by decide) (OE.assignV (v := x26) rfl ?_)
        refine VL.nil ?_
        change VC _ _ _ _ _ _ _
        refine VC.region ?_
        refine VL.stepD rfl rfl (by decide) (OE.moveV (v := x26) rfl ?_)
        obtain ⟨x28_0A, x28_0n, x28_0c, x28_1A, x28_1n, x28_1c, hl29, H⟩ := H
        refine VL.stepD rfl rfl (by decide) (OE.load (a := j3) (v := .agg #[.slice x28_0A x28_0n x28_0c, .slice x28_1A x28_1n x28_1c]) rfl (LdT.aggI Tryz.underlying128 rfl Tryz.i128 rfl hl29) ?_)
        refine VL.stepD rfl rfl (by decide) (OE.callI (l := [.agg #[.slice x28_0A x28_0n x28_0c, .slice x28_1A x28_1n x28_1c]]) rfl rfl (CHI.mono H (fun r30 h31 H => ?_)))
        obtain ⟨y32_0A, y32_0n, y32_0c, y32_1A, y32_1n, y32_1c, rfl, H⟩ := H
        obtain ⟨hw34, H⟩ := H
        obtain ⟨h33, eh35⟩ : ∃ h33, h33 = setRow h31 j3 [.slice y32_0A y32_0n y32_0c, .slice y32_1A y32_1n y32_1c] 0 := ⟨_, rfl⟩
        have H := H h33 eh35
        refine VL.stepN rfl rfl (OE.storeE (a := j3) (v := .agg #[.slice y32_0A y32_0n y32_0c, .slice y32_1A y32_1n y32_1c]) rfl rfl (StT.aggI (vs := [.slice y32_0A y32_0n y32_0c, .slice y32_1A y32_1n y32_1c]) Tryz.i128 rfl hw34 (by simp [oneC])) eh35 ?_)
        refine VL.nil ?_
        change VC _ _ _ _ _ _ _
        refine VC.region ?_
        refine VL.stepD rfl rfl (by decide) (OE.binI (v := .int .i64 (IntKind.i64.wrap (j18 + 1))) rfl rfl rfl ?_)
        refine VL.stepD rfl rfl (by decide) (OE.moveV (v := .int .i64 (IntKind.i64.wrap (j18 + 1))) rfl ?_)
        refine VL.nil ?_
        rw [eC20] at H
        obtain ⟨m1, hm1, H⟩ := H
        exact ⟨m1, hm1, rfl, (IntKind.i64.wrap (j18 + 1)), rfl, rfl, rfl, rfl, rfl, H⟩
      · have H := H.2 e21
        refine VC.exit ?_
        exact ⟨rfl, rfl, rfl, H⟩
  · skip
    refine VC.drawsS Tryz.mixed (by kernel_rfl) (by kernel_rfl) (fun st hd => ?_)
    refine DW.still (i := 0) (v := .pointer f') (by kernel_rfl) ?_
    obtain ⟨a37, e38, H⟩ := H
    refine DW.still (i := 1) (v := .pointer (some a37)) (by kernel_rfl) ?_
    refine DW.still (i := 2) (v := .pointer (some a37)) (by kernel_rfl) ?_
    obtain ⟨x39A, x39n, x39c, hl40, H⟩ := H
    refine DW.still (i := 3) (v := .slice x39A x39n x39c) (by kernel_rfl) ?_
    refine DW.still (i := 5) (v := .pointer f') (by kernel_rfl) ?_
    refine DW.still (i := 6) (v := .pointer (some a37)) (by kernel_rfl) ?_
    refine DW.still (i := 7) (v := .pointer (some a37)) (by kernel_rfl) ?_
    obtain ⟨x41A, x41n, x41c, hl42, H⟩ := H
    refine DW.still (i := 8) (v := .slice x41A x41n x41c) (by kernel_rfl) ?_
    refine DW.still (i := 9) (v := .int .i64 ((x41n : Nat) : Int)) (by kernel_rfl) ?_
    refine DW.louds st hd 4 [10, 12] (by kernel_rfl) ⟨.inr (YD.u (fr (fun _ => undef) [(16, (.slice x41A x41n x41c : Value))]) st rfl rfl (by kernel_rfl) (OE.lenSlice rfl Tryz.underlying22 ⟨rfl, rfl⟩)), .inr (YD.u (fr (fun _ => undef) [(15, (.pointer (some a37) : Value))]) st rfl rfl (by kernel_rfl) (OE.load (a := a37) (v := .slice x41A x41n x41c) rfl (LdT.one Tryz.underlying22 rfl hl42) ⟨rfl, rfl⟩)), .inr (YD.u (fr (fun _ => undef) [(14, (.pointer (some a37) : Value))]) st rfl rfl (by kernel_rfl) (OE.fieldAddrI (a := a37) (o := 0) rfl Tryz.underlying111 rfl Tryz.i22 (by decide) rfl ⟨rfl, rfl⟩)), .inr (YD.u (fr (fun _ => undef) [(13, (.pointer f' : Value))]) st rfl rfl (by kernel_rfl) (OE.nilCheck (a := a37) (congrArg Value.pointer e38) ⟨rfl, rfl⟩)), .inr (YD.u (fr (fun _ => undef) [(0, (.pointer f' : Value))]) st rfl rfl (by kernel_rfl) (OE.moveV (v := .pointer f') rfl ⟨rfl, rfl⟩)), .inr (YD.u (fr (fun _ => undef) [(10, (.pointer (some a37) : Value))]) st rfl rfl (by kernel_rfl) (OE.load (a := a37) (v := .slice x39A x39n x39c) rfl (LdT.one Tryz.underlying22 rfl hl40) ⟨rfl, rfl⟩)), .inr (YD.u (fr (fun _ => undef) [(9, (.pointer (some a37) : Value))]) st rfl rfl (by kernel_rfl) (OE.fieldAddrI (a := a37) (o := 0) rfl Tryz.underlying111 rfl Tryz.i22 (by decide) rfl ⟨rfl, rfl⟩)), .inr (YD.u (fr (fun _ => undef) [(8, (.pointer f' : Value))]) st rfl rfl (by kernel_rfl) (OE.nilCheck (a := a37) (congrArg Value.pointer e38) ⟨rfl, rfl⟩)), .inr (YD.u (fr (fun _ => undef) [(0, (.pointer f' : Value))]) st rfl rfl (by kernel_rfl) (OE.moveV (v := .pointer f') rfl ⟨rfl, rfl⟩)), trivial⟩ ⟨?_, ?_, ?_, trivial⟩
    · have H := H.1
      refine LD1.of (i := 4) (fr (fun _ => undef) [(11, (.slice x39A x39n x39c : Value))]) st rfl (by kernel_rfl) (.inl rfl) (OE.callL (args := [.slice x39A x39n x39c]) Tryz.func48 rfl Tryz.nn48 rfl rfl (CHE.mono H (fun r43 h44 H => ?_) (fun _ _ e => e.elim)))
      obtain ⟨y45A, y45n, y45c, rfl, H⟩ := H
      obtain ⟨hs46, H⟩ := H
      refine DW.louds st hd 10 [12] (by kernel_rfl) ⟨.inl (by kernel_rfl), .inr (YD.u (fr (fun _ => undef) [(16, (.slice x41A x41n x41c : Value))]) st rfl rfl (by kernel_rfl) (OE.lenSlice rfl Tryz.underlying22 ⟨rfl, rfl⟩)), .inr (YD.u (fr (fun _ => undef) [(15, (.pointer (some a37) : Value))]) st rfl rfl (by kernel_rfl) (OE.load (a := a37) (v := .slice x41A x41n x41c) rfl (LdT.one Tryz.underlying22 rfl hs46) ⟨rfl, rfl⟩)), .inr (YD.u (fr (fun _ => undef) [(14, (.pointer (some a37) : Value))]) st rfl rfl (by kernel_rfl) (OE.fieldAddrI (a := a37) (o := 0) rfl Tryz.underlying111 rfl Tryz.i22 (by decide) rfl ⟨rfl, rfl⟩)), .inr (YD.u (fr (fun _ => undef) [(13, (.pointer f' : Value))]) st rfl rfl (by kernel_rfl) (OE.nilCheck (a := a37) (congrArg Value.pointer e38) ⟨rfl, rfl⟩)), .inr (YD.u (fr (fun _ => undef) [(0, (.pointer f' : Value))]) st rfl rfl (by kernel_rfl) (OE.moveV (v := .pointer f') rfl ⟨rfl, rfl⟩)), .inl (by kernel_rfl), .inl (by kernel_rfl), .inl (by kernel_rfl), .inl (by kernel_rfl), trivial⟩ ⟨?_, ?_, trivial⟩
      · have H := H.1
        obtain ⟨z49, z50, z51, H⟩ := H
        obtain ⟨b48, eb59⟩ : ∃ b48, b48 = Array.size h44 := ⟨_, rfl⟩
        obtain ⟨h47, eh60⟩ : ∃ h47, h47 = Array.push h44 (.cells (made (.bool false) ((Int.toNat ((x41n : Nat) : Int)) * 1)).toArray 4) := ⟨_, rfl⟩
        have H := H b48 h47 eb59 eh60
        refine LD1.of (i := 10) (fr (fun _ => undef) [(17, (.int .i64 ((x41n : Nat) : Int) : Value))]) st rfl (by kernel_rfl) (.inl rfl) (OE.makeSliceE (z := .bool false) (sz := 1) (bs := 1) rfl rfl Tryz.underlying126 Tryz.i4 z49 z50 z51 (by decide) eb59 eh60 ?_)
        refine DW.still (i := 11) (v := .agg #[.slice y45A y45n y45c, .slice (some (Addr.mk b48 0 none)) (Int.toNat ((x41n : Nat) : Int)) (Int.toNat ((x41n : Nat) : Int))]) (by kernel_rfl) ?_
        obtain ⟨b53, eb57⟩ : ∃ b53, b53 = Array.size h47 := ⟨_, rfl⟩
        obtain ⟨h52, eh58⟩ : ∃ h52, h52 = Array.push h47 (.cells #[.slice none 0 0, .slice none 0 0] 128) := ⟨_, rfl⟩
        have H := H b53 h52 eb57 eh58
        refine DW.loudF (fr (fun _ => undef) []) st hd (i := 12) rfl (by kernel_rfl) (.inl rfl) (by kernel_rfl) ⟨.inr (YD.u (fr (fun _ => undef) [(12, (.slice y45A y45n y45c : Value)), (18, (.slice (some (Addr.mk b48 0 none)) (Int.toNat ((x41n : Nat) : Int)) (Int.toNat ((x41n : Nat) : Int)) : Value))]) st rfl rfl (by kernel_rfl) (OE.buildV (ps := [(0, (.slice y45A y45n y45c : Value)), (1, (.slice (some (Addr.mk b48 0 none)) (Int.toNat ((x41n : Nat) : Int)) (Int.toNat ((x41n : Nat) : Int)) : Value))]) rfl (Tryz.bf20 _ _ _ _ _ _) ⟨rfl, rfl⟩)), .inl (by kernel_rfl), .inl (by kernel_rfl), .inl (by kernel_rfl), .inl (by kernel_rfl), .inl (by kernel_rfl), .inl (by kernel_rfl), .inl (by kernel_rfl), .inl (by kernel_rfl), .inl (by kernel_rfl), .inl (by kernel_rfl), .inl (by kernel_rfl), trivial⟩ (OE.allocE (z := .agg #[.slice none 0 0, .slice none 0 0]) Tryz.i128 eb57 eh58 ?_)
        obtain ⟨hw55, H⟩ := H
        obtain ⟨h54, eh56⟩ : ∃ h54, h54 = setRow h52 (Addr.mk b53 0 none) [.slice y45A y45n y45c, .slice (some (Addr.mk b48 0 none)) (Int.toNat ((x41n : Nat) : Int)) (Int.toNat ((x41n : Nat) : Int))] 0 := ⟨_, rfl⟩
        have H := H h54 eh56
        refine DW.loudF (fr (fun _ => undef) [(5, (.pointer (some (Addr.mk b53 0 none)) : Value)), (19, (.agg #[.slice y45A y45n y45c, .slice (some (Addr.mk b48 0 none)) (Int.toNat ((x41n : Nat) : Int)) (Int.toNat ((x41n : Nat) : Int))] : Value))]) st hd (i := 13) rfl (by kernel_rfl) (.inl rfl) (by kernel_rfl) ⟨.inl (by kernel_rfl), .inr (YD.u (fr (fun _ => undef) [(12, (.slice y45A y45n y45c : Value)), (18, (.slice (some (Addr.mk b48 0 none)) (Int.toNat ((x41n : Nat) : Int)) (Int.toNat ((x41n : Nat) : Int)) : Value))]) st rfl rfl (by kernel_rfl) (OE.buildV (ps := [(0, (.slice y45A y45n y45c : Value)), (1, (.slice (some (Addr.mk b48 0 none)) (Int.toNat ((x41n : Nat) : Int)) (Int.toNat ((x41n : Nat) : Int)) : Value))]) rfl (Tryz.bf20 _ _ _ _ _ _) ⟨rfl, rfl⟩)), .inl (by kernel_rfl), .inl (by kernel_rfl), .inl (by kernel_rfl), .inl (by kernel_rfl), .inl (by kernel_rfl), .inl (by kernel_rfl), .inl (by kernel_rfl), .inl (by kernel_rfl), .inl (by kernel_rfl), .inl (by kernel_rfl), .inl (by kernel_rfl), trivial⟩ (OE.storeE (a := (Addr.mk b53 0 none)) (v := .agg #[.slice y45A y45n y45c, .slice (some (Addr.mk b48 0 none)) (Int.toNat ((x41n : Nat) : Int)) (Int.toNat ((x41n : Nat) : Int))]) rfl rfl (StT.aggI (vs := [.slice y45A y45n y45c, .slice (some (Addr.mk b48 0 none)) (Int.toNat ((x41n : Nat) : Int)) (Int.toNat ((x41n : Nat) : Int))]) Tryz.i128 rfl hw55 (by simp [oneC])) eh56 ?_)
        refine DW.finL st hd [(8, (.pointer f' : Value)), (9, (.pointer (some a37) : Value)), (10, (.pointer (some a37) : Value)), (11, (.slice x39A x39n x39c : Value)), (13, (.pointer f' : Value)), (14, (.pointer (some a37) : Value)), (15, (.pointer (some a37) : Value)), (16, (.slice x41A x41n x41c : Value)), (17, (.int .i64 ((x41n : Nat) : Int) : Value)), (12, (.slice y45A y45n y45c : Value)), (18, (.slice (some (Addr.mk b48 0 none)) (Int.toNat ((x41n : Nat) : Int)) (Int.toNat ((x41n : Nat) : Int)) : Value)), (19, (.agg #[.slice y45A y45n y45c, .slice (some (Addr.mk b48 0 none)) (Int.toNat ((x41n : Nat) : Int)) (Int.toNat ((x41n : Nat) : Int))] : Value)), (5, (.pointer (some (Addr.mk b53 0 none)) : Value))] (by kernel_rfl) (by kernel_rfl) ⟨.inl (by kernel_rfl), .inl (by kernel_rfl), .inl (by kernel_rfl), .inl (by kernel_rfl), .inl (by kernel_rfl), .inl (by kernel_rfl), .inl (by kernel_rfl), .inl (by kernel_rfl), .inl (by kernel_rfl), .inl (by kernel_rfl), .inl (by kernel_rfl), .inl (by kernel_rfl), .inl (by kernel_rfl), .inl (by kernel_rfl), trivial⟩ ?_
        exact ⟨rfl, (Addr.mk b53 0 none), rfl, rfl, rfl, rfl, H⟩
      · have H := H.2
        obtain ⟨b62, eb74⟩ : ∃ b62, b62 = Array.size h44 := ⟨_, rfl⟩
        obtain ⟨h61, eh75⟩ : ∃ h61, h61 = Array.push h44 (.cells #[.slice none 0 0, .slice none 0 0] 128) := ⟨_, rfl⟩
        have H := H b62 h61 eb74 eh75
        refine LD1.of (i := 12) (fr (fun _ => undef) []) st rfl (by kernel_rfl) (.inl rfl) (OE.allocE (z := .agg #[.slice none 0 0, .slice none 0 0]) Tryz.i128 eb74 eh75 ?_)
        obtain ⟨hs63, H⟩ := H
        obtain ⟨z66, z67, z68, H⟩ := H
        obtain ⟨b65, eb72⟩ : ∃ b65, b65 = Array.size h61 := ⟨_, rfl⟩
        obtain ⟨h64, eh73⟩ : ∃ h64, h64 = Array.push h61 (.cells (made (.bool false) ((Int.toNat ((x41n : Nat) : Int)) * 1)).toArray 4) := ⟨_, rfl⟩
        have H := H b65 h64 eb72 eh73
        refine DW.loudF (fr (fun _ => undef) [(17, (.int .i64 ((x41n : Nat) : Int) : Value))]) st hd (i := 10) rfl (by kernel_rfl) (.inl rfl) (by kernel_rfl) ⟨.inl (by kernel_rfl), .inl (by kernel_rfl), .inr (YD.u (fr (fun _ => undef) [(16, (.slice x41A x41n x41c : Value))]) st rfl rfl (by kernel_rfl) (OE.lenSlice rfl Tryz.underlying22 ⟨rfl, rfl⟩)), .inr (YD.u (fr (fun _ => undef) [(15, (.pointer (some a37) : Value))]) st rfl rfl (by kernel_rfl) (OE.load (a := a37) (v := .slice x41A x41n x41c) rfl (LdT.one Tryz.underlying22 rfl hs63) ⟨rfl, rfl⟩)), .inr (YD.u (fr (fun _ => undef) [(14, (.pointer (some a37) : Value))]) st rfl rfl (by kernel_rfl) (OE.fieldAddrI (a := a37) (o := 0) rfl Tryz.underlying111 rfl Tryz.i22 (by decide) rfl ⟨rfl, rfl⟩)), .inr (YD.u (fr (fun _ => undef) [(13, (.pointer f' : Value))]) st rfl rfl (by kernel_rfl) (OE.nilCheck (a := a37) (congrArg Value.pointer e38) ⟨rfl, rfl⟩)), .inr (YD.u (fr (fun _ => undef) [(0, (.pointer f' : Value))]) st rfl rfl (by kernel_rfl) (OE.moveV (v := .pointer f') rfl ⟨rfl, rfl⟩)), .inl (by kernel_rfl), .inl (by kernel_rfl), .inl (by kernel_rfl), .inl (by kernel_rfl), trivial⟩ (OE.makeSliceE (z := .bool false) (sz := 1) (bs := 1) rfl rfl Tryz.underlying126 Tryz.i4 z66 z67 z68 (by decide) eb72 eh73 ?_)
        refine DW.still (i := 11) (v := .agg #[.slice y45A y45n y45c, .slice (some (Addr.mk b65 0 none)) (Int.toNat ((x41n : Nat) : Int)) (Int.toNat ((x41n : Nat) : Int))]) (by kernel_rfl) ?_
        obtain ⟨hw70, H⟩ := H
        obtain ⟨h69, eh71⟩ : ∃ h69, h69 = setRow h64 (Addr.mk b62 0 none) [.slice y45A y45n y45c, .slice (some (Addr.mk b65 0 none)) (Int.toNat ((x41n : Nat) : Int)) (Int.toNat ((x41n : Nat) : Int))] 0 := ⟨_, rfl⟩
        have H := H h69 eh71
        refine DW.loudF (fr (fun _ => undef) [(5, (.pointer (some (Addr.mk b62 0 none)) : Value)), (19, (.agg #[.slice y45A y45n y45c, .slice (some (Addr.mk b65 0 none)) (Int.toNat ((x41n : Nat) : Int)) (Int.toNat ((x41n : Nat) : Int))] : Value))]) st hd (i := 13) rfl (by kernel_rfl) (.inl rfl) (by kernel_rfl) ⟨.inr (YD.u (fr (fun _ => undef) [(12, (.slice y45A y45n y45c : Value)), (18, (.slice (some (Addr.mk b65 0 none)) (Int.toNat ((x41n : Nat) : Int)) (Int.toNat ((x41n : Nat) : Int)) : Value))]) st rfl rfl (by kernel_rfl) (OE.buildV (ps := [(0, (.slice y45A y45n y45c : Value)), (1, (.slice (some (Addr.mk b65 0 none)) (Int.toNat ((x41n : Nat) : Int)) (Int.toNat ((x41n : Nat) : Int)) : Value))]) rfl (Tryz.bf20 _ _ _ _ _ _) ⟨rfl, rfl⟩)), .inl (by kernel_rfl), .inl (by kernel_rfl), .inl (by kernel_rfl), .inl (by kernel_rfl), .inl (by kernel_rfl), .inl (by kernel_rfl), .inl (by kernel_rfl), .inl (by kernel_rfl), .inl (by kernel_rfl), .inl (by kernel_rfl), .inl (by kernel_rfl), .inl (by kernel_rfl), trivial⟩ (OE.storeE (a := (Addr.mk b62 0 none)) (v := .agg #[.slice y45A y45n y45c, .slice (some (Addr.mk b65 0 none)) (Int.toNat ((x41n : Nat) : Int)) (Int.toNat ((x41n : Nat) : Int))]) rfl rfl (StT.aggI (vs := [.slice y45A y45n y45c, .slice (some (Addr.mk b65 0 none)) (Int.toNat ((x41n : Nat) : Int)) (Int.toNat ((x41n : Nat) : Int))]) Tryz.i128 rfl hw70 (by simp [oneC])) eh71 ?_)
        refine DW.finL st hd [(8, (.pointer f' : Value)), (9, (.pointer (some a37) : Value)), (10, (.pointer (some a37) : Value)), (11, (.slice x39A x39n x39c : Value)), (13, (.pointer f' : Value)), (14, (.pointer (some a37) : Value)), (15, (.pointer (some a37) : Value)), (16, (.slice x41A x41n x41c : Value)), (17, (.int .i64 ((x41n : Nat) : Int) : Value)), (12, (.slice y45A y45n y45c : Value)), (5, (.pointer (some (Addr.mk b62 0 none)) : Value)), (18, (.slice (some (Addr.mk b65 0 none)) (Int.toNat ((x41n : Nat) : Int)) (Int.toNat ((x41n : Nat) : Int)) : Value)), (19, (.agg #[.slice y45A y45n y45c, .slice (some (Addr.mk b65 0 none)) (Int.toNat ((x41n : Nat) : Int)) (Int.toNat ((x41n : Nat) : Int))] : Value))] (by kernel_rfl) (by kernel_rfl) ⟨.inl (by kernel_rfl), .inl (by kernel_rfl), .inl (by kernel_rfl), .inl (by kernel_rfl), .inl (by kernel_rfl), .inl (by kernel_rfl), .inl (by kernel_rfl), .inl (by kernel_rfl), .inl (by kernel_rfl), .inl (by kernel_rfl), .inl (by kernel_rfl), .inl (by kernel_rfl), .inl (by kernel_rfl), .inl (by kernel_rfl), trivial⟩ ?_
        exact ⟨rfl, (Addr.mk b62 0 none), rfl, rfl, rfl, rfl, H⟩
    · have H := H.2.1
      obtain ⟨z79, z80, z81, H⟩ := H
      obtain ⟨b78, eb106⟩ : ∃ b78, b78 = Array.size h1 := ⟨_, rfl⟩
      obtain ⟨h77, eh107⟩ : ∃ h77, h77 = Array.push h1 (.cells (made (.bool false) ((Int.toNat ((x41n : Nat) : Int)) * 1)).toArray 4) := ⟨_, rfl⟩
      have H := H b78 h77 eb106 eh107
      refine LD1.of (i := 10) (fr (fun _ => undef) [(17, (.int .i64 ((x41n : Nat) : Int) : Value))]) st rfl (by kernel_rfl) (.inl rfl) (OE.makeSliceE (z := .bool false) (sz := 1) (bs := 1) rfl rfl Tryz.underlying126 Tryz.i4 z79 z80 z81 (by decide) eb106 eh107 ?_)
      obtain ⟨hs82, H⟩ := H
      refine DW.louds st hd 4 [12] (by kernel_rfl) ⟨.inl (by kernel_rfl), .inl (by kernel_rfl), .inl (by kernel_rfl), .inl (by kernel_rfl), .inl (by kernel_rfl), .inl (by kernel_rfl), .inr (YD.u (fr (fun _ => undef) [(10, (.pointer (some a37) : Value))]) st rfl rfl (by kernel_rfl) (OE.load (a := a37) (v := .slice x39A x39n x39c) rfl (LdT.one Tryz.underlying22 rfl hs82) ⟨rfl, rfl⟩)), .inr (YD.u (fr (fun _ => undef) [(9, (.pointer (some a37) : Value))]) st rfl rfl (by kernel_rfl) (OE.fieldAddrI (a := a37) (o := 0) rfl Tryz.underlying111 rfl Tryz.i22 (by decide) rfl ⟨rfl, rfl⟩)), .inr (YD.u (fr (fun _ => undef) [(8, (.pointer f' : Value))]) st rfl rfl (by kernel_rfl) (OE.nilCheck (a := a37) (congrArg Value.pointer e38) ⟨rfl, rfl⟩)), .inr (YD.u (fr (fun _ => undef) [(0, (.pointer f' : Value))]) st rfl rfl (by kernel_rfl) (OE.moveV (v := .pointer f') rfl ⟨rfl, rfl⟩)), trivial⟩ ⟨?_, ?_, trivial⟩
      · have H := H.1
        refine LD1.of (i := 4) (fr (fun _ => undef) [(11, (.slice x39A x39n x39c : Value))]) st rfl (by kernel_rfl) (.inl rfl) (OE.callL (args := [.slice x39A x39n x39c]) Tryz.func48 rfl Tryz.nn48 rfl rfl (CHE.mono H (fun r83 h84 H => ?_) (fun _ _ e => e.elim)))
        obtain ⟨y85A, y85n, y85c, rfl, H⟩ := H
        refine DW.still (i := 11) (v := .agg #[.slice y85A y85n y85c, .slice (some (Addr.mk b78 0 none)) (Int.toNat ((x41n : Nat) : Int)) (Int.toNat ((x41n : Nat) : Int))]) (by kernel_rfl) ?_
        obtain ⟨b87, eb91⟩ : ∃ b87, b87 = Array.size h84 := ⟨_, rfl⟩
        obtain ⟨h86, eh92⟩ : ∃ h86, h86 = Array.push h84 (.cells #[.slice none 0 0, .slice none 0 0] 128) := ⟨_, rfl⟩
        have H := H b87 h86 eb91 eh92
        refine DW.loudF (fr (fun _ => undef) []) st hd (i := 12) rfl (by kernel_rfl) (.inl rfl) (by kernel_rfl) ⟨.inr (YD.u (fr (fun _ => undef) [(12, (.slice y85A y85n y85c : Value)), (18, (.slice (some (Addr.mk b78 0 none)) (Int.toNat ((x41n : Nat) : Int)) (Int.toNat ((x41n : Nat) : Int)) : Value))]) st rfl rfl (by kernel_rfl) (OE.buildV (ps := [(0, (.slice y85A y85n y85c : Value)), (1, (.slice (some (Addr.mk b78 0 none)) (Int.toNat ((x41n : Nat) : Int)) (Int.toNat ((x41n : Nat) : Int)) : Value))]) rfl (Tryz.bf20 _ _ _ _ _ _) ⟨rfl, rfl⟩)), .inl (by kernel_rfl), .inl (by kernel_rfl), .inl (by kernel_rfl), .inl (by kernel_rfl), .inl (by kernel_rfl), .inl (by kernel_rfl), .inl (by kernel_rfl), .inl (by kernel_rfl), .inl (by kernel_rfl), .inl (by kernel_rfl), .inl (by kernel_rfl), trivial⟩ (OE.allocE (z := .agg #[.slice none 0 0, .slice none 0 0]) Tryz.i128 eb91 eh92 ?_)
        obtain ⟨hw89, H⟩ := H
        obtain ⟨h88, eh90⟩ : ∃ h88, h88 = setRow h86 (Addr.mk b87 0 none) [.slice y85A y85n y85c, .slice (some (Addr.mk b78 0 none)) (Int.toNat ((x41n : Nat) : Int)) (Int.toNat ((x41n : Nat) : Int))] 0 := ⟨_, rfl⟩
        have H := H h88 eh90
        refine DW.loudF (fr (fun _ => undef) [(5, (.pointer (some (Addr.mk b87 0 none)) : Value)), (19, (.agg #[.slice y85A y85n y85c, .slice (some (Addr.mk b78 0 none)) (Int.toNat ((x41n : Nat) : Int)) (Int.toNat ((x41n : Nat) : Int))] : Value))]) st hd (i := 13) rfl (by kernel_rfl) (.inl rfl) (by kernel_rfl) ⟨.inl (by kernel_rfl), .inr (YD.u (fr (fun _ => undef) [(12, (.slice y85A y85n y85c : Value)), (18, (.slice (some (Addr.mk b78 0 none)) (Int.toNat ((x41n : Nat) : Int)) (Int.toNat ((x41n : Nat) : Int)) : Value))]) st rfl rfl (by kernel_rfl) (OE.buildV (ps := [(0, (.slice y85A y85n y85c : Value)), (1, (.slice (some (Addr.mk b78 0 none)) (Int.toNat ((x41n : Nat) : Int)) (Int.toNat ((x41n : Nat) : Int)) : Value))]) rfl (Tryz.bf20 _ _ _ _ _ _) ⟨rfl, rfl⟩)), .inl (by kernel_rfl), .inl (by kernel_rfl), .inl (by kernel_rfl), .inl (by kernel_rfl), .inl (by kernel_rfl), .inl (by kernel_rfl), .inl (by kernel_rfl), .inl (by kernel_rfl), .inl (by kernel_rfl), .inl (by kernel_rfl), .inl (by kernel_rfl), trivial⟩ (OE.storeE (a := (Addr.mk b87 0 none)) (v := .agg #[.slice y85A y85n y85c, .slice (some (Addr.mk b78 0 none)) (Int.toNat ((x41n : Nat) : Int)) (Int.toNat ((x41n : Nat) : Int))]) rfl rfl (StT.aggI (vs := [.slice y85A y85n y85c, .slice (some (Addr.mk b78 0 none)) (Int.toNat ((x41n : Nat) : Int)) (Int.toNat ((x41n : Nat) : Int))]) Tryz.i128 rfl hw89 (by simp [oneC])) eh90 ?_)
        refine DW.finL st hd [(8, (.pointer f' : Value)), (9, (.pointer (some a37) : Value)), (10, (.pointer (some a37) : Value)), (11, (.slice x39A x39n x39c : Value)), (13, (.pointer f' : Value)), (14, (.pointer (some a37) : Value)), (15, (.pointer (some a37) : Value)), (16, (.slice x41A x41n x41c : Value)), (17, (.int .i64 ((x41n : Nat) : Int) : Value)), (18, (.slice (some (Addr.mk b78 0 none)) (Int.toNat ((x41n : Nat) : Int)) (Int.toNat ((x41n : Nat) : Int)) : Value)), (12, (.slice y85A y85n y85c : Value)), (19, (.agg #[.slice y85A y85n y85c, .slice (some (Addr.mk b78 0 none)) (Int.toNat ((x41n : Nat) : Int)) (Int.toNat ((x41n : Nat) : Int))] : Value)), (5, (.pointer (some (Addr.mk b87 0 none)) : Value))] (by kernel_rfl) (by kernel_rfl) ⟨.inl (by kernel_rfl), .inl (by kernel_rfl), .inl (by kernel_rfl), .inl (by kernel_rfl), .inl (by kernel_rfl), .inl (by kernel_rfl), .inl (by kernel_rfl), .inl (by kernel_rfl), .inl (by kernel_rfl), .inl (by kernel_rfl), .inl (by kernel_rfl), .inl (by kernel_rfl), .inl (by kernel_rfl), .inl (by kernel_rfl), trivial⟩ ?_
        exact ⟨rfl, (Addr.mk b87 0 none), rfl, rfl, rfl, rfl, H⟩
      · have H := H.2
        obtain ⟨b95, eb104⟩ : ∃ b95, b95 = Array.size h77 := ⟨_, rfl⟩
        obtain ⟨h94, eh105⟩ : ∃ h94, h94 = Array.push h77 (.cells #[.slice none 0 0, .slice none 0 0] 128) := ⟨_, rfl⟩
        have H := H b95 h94 eb104 eh105
        refine LD1.of (i := 12) (fr (fun _ => undef) []) st rfl (by kernel_rfl) (.inl rfl) (OE.allocE (z := .agg #[.slice none 0 0, .slice none 0 0]) Tryz.i128 eb104 eh105 ?_)
        obtain ⟨hs96, H⟩ := H
        refine DW.loudF (fr (fun _ => undef) [(11, (.slice x39A x39n x39c : Value))]) st hd (i := 4) rfl (by kernel_rfl) (.inl rfl) (by kernel_rfl) ⟨.inl (by kernel_rfl), .inl (by kernel_rfl), .inl (by kernel_rfl), .inl (by kernel_rfl), .inl (by kernel_rfl), .inl (by kernel_rfl), .inl (by kernel_rfl), .inr (YD.u (fr (fun _ => undef) [(10, (.pointer (some a37) : Value))]) st rfl rfl (by kernel_rfl) (OE.load (a := a37) (v := .slice x39A x39n x39c) rfl (LdT.one Tryz.underlying22 rfl hs96) ⟨rfl, rfl⟩)), .inr (YD.u (fr (fun _ => undef) [(9, (.pointer (some a37) : Value))]) st rfl rfl (by kernel_rfl) (OE.fieldAddrI (a := a37) (o := 0) rfl Tryz.underlying111 rfl Tryz.i22 (by decide) rfl ⟨rfl, rfl⟩)), .inr (YD.u (fr (fun _ => undef) [(8, (.pointer f' : Value))]) st rfl rfl (by kernel_rfl) (OE.nilCheck (a := a37) (congrArg Value.pointer e38) ⟨rfl, rfl⟩)), .inr (YD.u (fr (fun _ => undef) [(0, (.pointer f' : Value))]) st rfl rfl (by kernel_rfl) (OE.moveV (v := .pointer f') rfl ⟨rfl, rfl⟩)), trivial⟩ (OE.callL (args := [.slice x39A x39n x39c]) Tryz.func48 rfl Tryz.nn48 rfl rfl (CHE.mono H (fun r97 h98 H => ?_) (fun _ _ e => e.elim)))
        obtain ⟨y99A, y99n, y99c, rfl, H⟩ := H
        refine DW.still (i := 11) (v := .agg #[.slice y99A y99n y99c, .slice (some (Addr.mk b78 0 none)) (Int.toNat ((x41n : Nat) : Int)) (Int.toNat ((x41n : Nat) : Int))]) (by kernel_rfl) ?_
        obtain ⟨hw101, H⟩ := H
        obtain ⟨h100, eh102⟩ : ∃ h100, h100 = setRow h98 (Addr.mk b95 0 none) [.slice y99A y99n y99c, .slice (some (Addr.mk b78 0 none)) (Int.toNat ((x41n : Nat) : Int)) (Int.toNat ((x41n : Nat) : Int))] 0 := ⟨_, rfl⟩
        have H := H h100 eh102
        refine DW.loudF (fr (fun _ => undef) [(5, (.pointer (some (Addr.mk b95 0 none)) : Value)), (19, (.agg #[.slice y99A y99n y99c, .slice (some (Addr.mk b78 0 none)) (Int.toNat ((x41n : Nat) : Int)) (Int.toNat ((x41n : Nat) : Int))] : Value))]) st hd (i := 13) rfl (by kernel_rfl) (.inl rfl) (by kernel_rfl) ⟨.inr (YD.u (fr (fun _ => undef) [(12, (.slice y99A y99n y99c : Value)), (18, (.slice (some (Addr.mk b78 0 none)) (Int.toNat ((x41n : Nat) : Int)) (Int.toNat ((x41n : Nat) : Int)) : Value))]) st rfl rfl (by kernel_rfl) (OE.buildV (ps := [(0, (.slice y99A y99n y99c : Value)), (1, (.slice (some (Addr.mk b78 0 none)) (Int.toNat ((x41n : Nat) : Int)) (Int.toNat ((x41n : Nat) : Int)) : Value))]) rfl (Tryz.bf20 _ _ _ _ _ _) ⟨rfl, rfl⟩)), .inl (by kernel_rfl), .inl (by kernel_rfl), .inl (by kernel_rfl), .inl (by kernel_rfl), .inl (by kernel_rfl), .inl (by kernel_rfl), .inl (by kernel_rfl), .inl (by kernel_rfl), .inl (by kernel_rfl), .inl (by kernel_rfl), .inl (by kernel_rfl), .inl (by kernel_rfl), trivial⟩ (OE.storeE (a := (Addr.mk b95 0 none)) (v := .agg #[.slice y99A y99n y99c, .slice (some (Addr.mk b78 0 none)) (Int.toNat ((x41n : Nat) : Int)) (Int.toNat ((x41n : Nat) : Int))]) rfl rfl (StT.aggI (vs := [.slice y99A y99n y99c, .slice (some (Addr.mk b78 0 none)) (Int.toNat ((x41n : Nat) : Int)) (Int.toNat ((x41n : Nat) : Int))]) Tryz.i128 rfl hw101 (by simp [oneC])) eh102 ?_)
        refine DW.finL st hd [(8, (.pointer f' : Value)), (9, (.pointer (some a37) : Value)), (10, (.pointer (some a37) : Value)), (11, (.slice x39A x39n x39c : Value)), (13, (.pointer f' : Value)), (14, (.pointer (some a37) : Value)), (15, (.pointer (some a37) : Value)), (16, (.slice x41A x41n x41c : Value)), (17, (.int .i64 ((x41n : Nat) : Int) : Value)), (18, (.slice (some (Addr.mk b78 0 none)) (Int.toNat ((x41n : Nat) : Int)) (Int.toNat ((x41n : Nat) : Int)) : Value)), (5, (.pointer (some (Addr.mk b95 0 none)) : Value)), (12, (.slice y99A y99n y99c : Value)), (19, (.agg #[.slice y99A y99n y99c, .slice (some (Addr.mk b78 0 none)) (Int.toNat ((x41n : Nat) : Int)) (Int.toNat ((x41n : Nat) : Int))] : Value))] (by kernel_rfl) (by kernel_rfl) ⟨.inl (by kernel_rfl), .inl (by kernel_rfl), .inl (by kernel_rfl), .inl (by kernel_rfl), .inl (by kernel_rfl), .inl (by kernel_rfl), .inl (by kernel_rfl), .inl (by kernel_rfl), .inl (by kernel_rfl), .inl (by kernel_rfl), .inl (by kernel_rfl), .inl (by kernel_rfl), .inl (by kernel_rfl), .inl (by kernel_rfl), trivial⟩ ?_
        exact ⟨rfl, (Addr.mk b95 0 none), rfl, rfl, rfl, rfl, H⟩
    · have H := H.2.2
      obtain ⟨b109, eb142⟩ : ∃ b109, b109 = Array.size h1 := ⟨_, rfl⟩
      obtain ⟨h108, eh143⟩ : ∃ h108, h108 = Array.push h1 (.cells #[.slice none 0 0, .slice none 0 0] 128) := ⟨_, rfl⟩
      have H := H b109 h108 eb142 eh143
      refine LD1.of (i := 12) (fr (fun _ => undef) []) st rfl (by kernel_rfl) (.inl rfl) (OE.allocE (z := .agg #[.slice none 0 0, .slice none 0 0]) Tryz.i128 eb142 eh143 ?_)
      obtain ⟨hs110, hs111, H⟩ := H
      refine DW.louds st hd 4 [10] (by kernel_rfl) ⟨.inl (by kernel_rfl), .inr (YD.u (fr (fun _ => undef) [(16, (.slice x41A x41n x41c : Value))]) st rfl rfl (by kernel_rfl) (OE.lenSlice rfl Tryz.underlying22 ⟨rfl, rfl⟩)), .inr (YD.u (fr (fun _ => undef) [(15, (.pointer (some a37) : Value))]) st rfl rfl (by kernel_rfl) (OE.load (a := a37) (v := .slice x41A x41n x41c) rfl (LdT.one Tryz.underlying22 rfl hs111) ⟨rfl, rfl⟩)), .inr (YD.u (fr (fun _ => undef) [(14, (.pointer (some a37) : Value))]) st rfl rfl (by kernel_rfl) (OE.fieldAddrI (a := a37) (o := 0) rfl Tryz.underlying111 rfl Tryz.i22 (by decide) rfl ⟨rfl, rfl⟩)), .inr (YD.u (fr (fun _ => undef) [(13, (.pointer f' : Value))]) st rfl rfl (by kernel_rfl) (OE.nilCheck (a := a37) (congrArg Value.pointer e38) ⟨rfl, rfl⟩)), .inr (YD.u (fr (fun _ => undef) [(0, (.pointer f' : Value))]) st rfl rfl (by kernel_rfl) (OE.moveV (v := .pointer f') rfl ⟨rfl, rfl⟩)), .inr (YD.u (fr (fun _ => undef) [(10, (.pointer (some a37) : Value))]) st rfl rfl (by kernel_rfl) (OE.load (a := a37) (v := .slice x39A x39n x39c) rfl (LdT.one Tryz.underlying22 rfl hs110) ⟨rfl, rfl⟩)), .inr (YD.u (fr (fun _ => undef) [(9, (.pointer (some a37) : Value))]) st rfl rfl (by kernel_rfl) (OE.fieldAddrI (a := a37) (o := 0) rfl Tryz.underlying111 rfl Tryz.i22 (by decide) rfl ⟨rfl, rfl⟩)), .inr (YD.u (fr (fun _ => undef) [(8, (.pointer f' : Value))]) st rfl rfl (by kernel_rfl) (OE.nilCheck (a := a37) (congrArg Value.pointer e38) ⟨rfl, rfl⟩)), .inr (YD.u (fr (fun _ => undef) [(0, (.pointer f' : Value))]) st rfl rfl (by kernel_rfl) (OE.moveV (v := .pointer f') rfl ⟨rfl, rfl⟩)), trivial⟩ ⟨?_, ?_, trivial⟩
      · have H := H.1
        refine LD1.of (i := 4) (fr (fun _ => undef) [(11, (.slice x39A x39n x39c : Value))]) st rfl (by kernel_rfl) (.inl rfl) (OE.callL (args := [.slice x39A x39n x39c]) Tryz.func48 rfl Tryz.nn48 rfl rfl (CHE.mono H (fun r112 h113 H => ?_) (fun _ _ e => e.elim)))
        obtain ⟨y114A, y114n, y114c, rfl, H⟩ := H
        obtain ⟨hs115, H⟩ := H
        obtain ⟨z118, z119, z120, H⟩ := H
        obtain ⟨b117, eb124⟩ : ∃ b117, b117 = Array.size h113 := ⟨_, rfl⟩
        obtain ⟨h116, eh125⟩ : ∃ h116, h116 = Array.push h113 (.cells (made (.bool false) ((Int.toNat ((x41n : Nat) : Int)) * 1)).toArray 4) := ⟨_, rfl⟩
        have H := H b117 h116 eb124 eh125
        refine DW.loudF (fr (fun _ => undef) [(17, (.int .i64 ((x41n : Nat) : Int) : Value))]) st hd (i := 10) rfl (by kernel_rfl) (.inl rfl) (by kernel_rfl) ⟨.inl (by kernel_rfl), .inl (by kernel_rfl), .inr (YD.u (fr (fun _ => undef) [(16, (.slice x41A x41n x41c : Value))]) st rfl rfl (by kernel_rfl) (OE.lenSlice rfl Tryz.underlying22 ⟨rfl, rfl⟩)), .inr (YD.u (fr (fun _ => undef) [(15, (.pointer (some a37) : Value))]) st rfl rfl (by kernel_rfl) (OE.load (a := a37) (v := .slice x41A x41n x41c) rfl (LdT.one Tryz.underlying22 rfl hs115) ⟨rfl, rfl⟩)), .inr (YD.u (fr (fun _ => undef) [(14, (.pointer (some a37) : Value))]) st rfl rfl (by kernel_rfl) (OE.fieldAddrI (a := a37) (o := 0) rfl Tryz.underlying111 rfl Tryz.i22 (by decide) rfl ⟨rfl, rfl⟩)), .inr (YD.u (fr (fun _ => undef) [(13, (.pointer f' : Value))]) st rfl rfl (by kernel_rfl) (OE.nilCheck (a := a37) (congrArg Value.pointer e38) ⟨rfl, rfl⟩)), .inr (YD.u (fr (fun _ => undef) [(0, (.pointer f' : Value))]) st rfl rfl (by kernel_rfl) (OE.moveV (v := .pointer f') rfl ⟨rfl, rfl⟩)), .inl (by kernel_rfl), .inl (by kernel_rfl), .inl (by kernel_rfl), .inl (by kernel_rfl), trivial⟩ (OE.makeSliceE (z := .bool false) (sz := 1) (bs := 1) rfl rfl Tryz.underlying126 Tryz.i4 z118 z119 z120 (by decide) eb124 eh125 ?_)
        refine DW.still (i := 11) (v := .agg #[.slice y114A y114n y114c, .slice (some (Addr.mk b117 0 none)) (Int.toNat ((x41n : Nat) : Int)) (Int.toNat ((x41n : Nat) : Int))]) (by kernel_rfl) ?_
        obtain ⟨hw122, H⟩ := H
        obtain ⟨h121, eh123⟩ : ∃ h121, h121 = setRow h116 (Addr.mk b109 0 none) [.slice y114A y114n y114c, .slice (some (Addr.mk b117 0 none)) (Int.toNat ((x41n : Nat) : Int)) (Int.toNat ((x41n : Nat) : Int))] 0 := ⟨_, rfl⟩
        have H := H h121 eh123
        refine DW.loudF (fr (fun _ => undef) [(5, (.pointer (some (Addr.mk b109 0 none)) : Value)), (19, (.agg #[.slice y114A y114n y114c, .slice (some (Addr.mk b117 0 none)) (Int.toNat ((x41n : Nat) : Int)) (Int.toNat ((x41n : Nat) : Int))] : Value))]) st hd (i := 13) rfl (by kernel_rfl) (.inl rfl) (by kernel_rfl) ⟨.inr (YD.u (fr (fun _ => undef) [(12, (.slice y114A y114n y114c : Value)), (18, (.slice (some (Addr.mk b117 0 none)) (Int.toNat ((x41n : Nat) : Int)) (Int.toNat ((x41n : Nat) : Int)) : Value))]) st rfl rfl (by kernel_rfl) (OE.buildV (ps := [(0, (.slice y114A y114n y114c : Value)), (1, (.slice (some (Addr.mk b117 0 none)) (Int.toNat ((x41n : Nat) : Int)) (Int.toNat ((x41n : Nat) : Int)) : Value))]) rfl (Tryz.bf20 _ _ _ _ _ _) ⟨rfl, rfl⟩)), .inl (by kernel_rfl), .inl (by kernel_rfl), .inl (by kernel_rfl), .inl (by kernel_rfl), .inl (by kernel_rfl), .inl (by kernel_rfl), .inl (by kernel_rfl), .inl (by kernel_rfl), .inl (by kernel_rfl), .inl (by kernel_rfl), .inl (by kernel_rfl), .inl (by kernel_rfl), trivial⟩ (OE.storeE (a := (Addr.mk b109 0 none)) (v := .agg #[.slice y114A y114n y114c, .slice (some (Addr.mk b117 0 none)) (Int.toNat ((x41n : Nat) : Int)) (Int.toNat ((x41n : Nat) : Int))]) rfl rfl (StT.aggI (vs := [.slice y114A y114n y114c, .slice (some (Addr.mk b117 0 none)) (Int.toNat ((x41n : Nat) : Int)) (Int.toNat ((x41n : Nat) : Int))]) Tryz.i128 rfl hw122 (by simp [oneC])) eh123 ?_)
        refine DW.finL st hd [(8, (.pointer f' : Value)), (9, (.pointer (some a37) : Value)), (10, (.pointer (some a37) : Value)), (11, (.slice x39A x39n x39c : Value)), (13, (.pointer f' : Value)), (14, (.pointer (some a37) : Value)), (15, (.pointer (some a37) : Value)), (16, (.slice x41A x41n x41c : Value)), (17, (.int .i64 ((x41n : Nat) : Int) : Value)), (5, (.pointer (some (Addr.mk b109 0 none)) : Value)), (12, (.slice y114A y114n y114c : Value)), (18, (.slice (some (Addr.mk b117 0 none)) (Int.toNat ((x41n : Nat) : Int)) (Int.toNat ((x41n : Nat) : Int)) : Value)), (19, (.agg #[.slice y114A y114n y114c, .slice (some (Addr.mk b117 0 none)) (Int.toNat ((x41n : Nat) : Int)) (Int.toNat ((x41n : Nat) : Int))] : Value))] (by kernel_rfl) (by kernel_rfl) ⟨.inl (by kernel_rfl), .inl (by kernel_rfl), .inl (by kernel_rfl), .inl (by kernel_rfl), .inl (by kernel_rfl), .inl (by kernel_rfl), .inl (by kernel_rfl), .inl (by kernel_rfl), .inl (by kernel_rfl), .inl (by kernel_rfl), .inl (by kernel_rfl), .inl (by kernel_rfl), .inl (by kernel_rfl), .inl (by kernel_rfl), trivial⟩ ?_
        exact ⟨rfl, (Addr.mk b109 0 none), rfl, rfl, rfl, rfl, H⟩
      · have H := H.2
        obtain ⟨z129, z130, z131, H⟩ := H
        obtain ⟨b128, eb140⟩ : ∃ b128, b128 = Array.size h108 := ⟨_, rfl⟩
        obtain ⟨h127, eh141⟩ : ∃ h127, h127 = Array.push h108 (.cells (made (.bool false) ((Int.toNat ((x41n : Nat) : Int)) * 1)).toArray 4) := ⟨_, rfl⟩
        have H := H b128 h127 eb140 eh141
        refine LD1.of (i := 10) (fr (fun _ => undef) [(17, (.int .i64 ((x41n : Nat) : Int) : Value))]) st rfl (by kernel_rfl) (.inl rfl) (OE.makeSliceE (z := .bool false) (sz := 1) (bs := 1) rfl rfl Tryz.underlying126 Tryz.i4 z129 z130 z131 (by decide) eb140 eh141 ?_)
        obtain ⟨hs132, H⟩ := H
        refine DW.loudF (fr (fun _ => undef) [(11, (.slice x39A x39n x39c : Value))]) st hd (i := 4) rfl (by kernel_rfl) (.inl rfl) (by kernel_rfl) ⟨.inl (by kernel_rfl), .inl (by kernel_rfl), .inl (by kernel_rfl), .inl (by kernel_rfl), .inl (by kernel_rfl), .inl (by kernel_rfl), .inl (by kernel_rfl), .inr (YD.u (fr (fun _ => undef) [(10, (.pointer (some a37) : Value))]) st rfl rfl (by kernel_rfl) (OE.load (a := a37) (v := .slice x39A x39n x39c) rfl (LdT.one Tryz.underlying22 rfl hs132) ⟨rfl, rfl⟩)), .inr (YD.u (fr (fun _ => undef) [(9, (.pointer (some a37) : Value))]) st rfl rfl (by kernel_rfl) (OE.fieldAddrI (a := a37) (o := 0) rfl Tryz.underlying111 rfl Tryz.i22 (by decide) rfl ⟨rfl, rfl⟩)), .inr (YD.u (fr (fun _ => undef) [(8, (.pointer f' : Value))]) st rfl rfl (by kernel_rfl) (OE.nilCheck (a := a37) (congrArg Value.pointer e38) ⟨rfl, rfl⟩)), .inr (YD.u (fr (fun _ => undef) [(0, (.pointer f' : Value))]) st rfl rfl (by kernel_rfl) (OE.moveV (v := .pointer f') rfl ⟨rfl, rfl⟩)), trivial⟩ (OE.callL (args := [.slice x39A x39n x39c]) Tryz.func48 rfl Tryz.nn48 rfl rfl (CHE.mono H (fun r133 h134 H => ?_) (fun _ _ e => e.elim)))
        obtain ⟨y135A, y135n, y135c, rfl, H⟩ := H
        refine DW.still (i := 11) (v := .agg #[.slice y135A y135n y135c, .slice (some (Addr.mk b128 0 none)) (Int.toNat ((x41n : Nat) : Int)) (Int.toNat ((x41n : Nat) : Int))]) (by kernel_rfl) ?_
        obtain ⟨hw137, H⟩ := H
        obtain ⟨h136, eh138⟩ : ∃ h136, h136 = setRow h134 (Addr.mk b109 0 none) [.slice y135A y135n y135c, .slice (some (Addr.mk b128 0 none)) (Int.toNat ((x41n : Nat) : Int)) (Int.toNat ((x41n : Nat) : Int))] 0 := ⟨_, rfl⟩
        have H := H h136 eh138
        refine DW.loudF (fr (fun _ => undef) [(5, (.pointer (some (Addr.mk b109 0 none)) : Value)), (19, (.agg #[.slice y135A y135n y135c, .slice (some (Addr.mk b128 0 none)) (Int.toNat ((x41n : Nat) : Int)) (Int.toNat ((x41n : Nat) : Int))] : Value))]) st hd (i := 13) rfl (by kernel_rfl) (.inl rfl) (by kernel_rfl) ⟨.inr (YD.u (fr (fun _ => undef) [(12, (.slice y135A y135n y135c : Value)), (18, (.slice (some (Addr.mk b128 0 none)) (Int.toNat ((x41n : Nat) : Int)) (Int.toNat ((x41n : Nat) : Int)) : Value))]) st rfl rfl (by kernel_rfl) (OE.buildV (ps := [(0, (.slice y135A y135n y135c : Value)), (1, (.slice (some (Addr.mk b128 0 none)) (Int.toNat ((x41n : Nat) : Int)) (Int.toNat ((x41n : Nat) : Int)) : Value))]) rfl (Tryz.bf20 _ _ _ _ _ _) ⟨rfl, rfl⟩)), .inl (by kernel_rfl), .inl (by kernel_rfl), .inl (by kernel_rfl), .inl (by kernel_rfl), .inl (by kernel_rfl), .inl (by kernel_rfl), .inl (by kernel_rfl), .inl (by kernel_rfl), .inl (by kernel_rfl), .inl (by kernel_rfl), .inl (by kernel_rfl), .inl (by kernel_rfl), trivial⟩ (OE.storeE (a := (Addr.mk b109 0 none)) (v := .agg #[.slice y135A y135n y135c, .slice (some (Addr.mk b128 0 none)) (Int.toNat ((x41n : Nat) : Int)) (Int.toNat ((x41n : Nat) : Int))]) rfl rfl (StT.aggI (vs := [.slice y135A y135n y135c, .slice (some (Addr.mk b128 0 none)) (Int.toNat ((x41n : Nat) : Int)) (Int.toNat ((x41n : Nat) : Int))]) Tryz.i128 rfl hw137 (by simp [oneC])) eh138 ?_)
        refine DW.finL st hd [(8, (.pointer f' : Value)), (9, (.pointer (some a37) : Value)), (10, (.pointer (some a37) : Value)), (11, (.slice x39A x39n x39c : Value)), (13, (.pointer f' : Value)), (14, (.pointer (some a37) : Value)), (15, (.pointer (some a37) : Value)), (16, (.slice x41A x41n x41c : Value)), (17, (.int .i64 ((x41n : Nat) : Int) : Value)), (5, (.pointer (some (Addr.mk b109 0 none)) : Value)), (18, (.slice (some (Addr.mk b128 0 none)) (Int.toNat ((x41n : Nat) : Int)) (Int.toNat ((x41n : Nat) : Int)) : Value)), (12, (.slice y135A y135n y135c : Value)), (19, (.agg #[.slice y135A y135n y135c, .slice (some (Addr.mk b128 0 none)) (Int.toNat ((x41n : Nat) : Int)) (Int.toNat ((x41n : Nat) : Int))] : Value))] (by kernel_rfl) (by kernel_rfl) ⟨.inl (by kernel_rfl), .inl (by kernel_rfl), .inl (by kernel_rfl), .inl (by kernel_rfl), .inl (by kernel_rfl), .inl (by kernel_rfl), .inl (by kernel_rfl), .inl (by kernel_rfl), .inl (by kernel_rfl), .inl (by kernel_rfl), .inl (by kernel_rfl), .inl (by kernel_rfl), .inl (by kernel_rfl), .inl (by kernel_rfl), trivial⟩ ?_
        exact ⟨rfl, (Addr.mk b109 0 none), rfl, rfl, rfl, rfl, H⟩

def D_disk_row_lose.J1 (R : Value → Hp → Prop)  (b2 : Nat) (b4 : Nat)  (h14 : Hp) : Prop :=
  (∃ x15_0A : Option Addr, ∃ x15_0n : Nat, ∃ x15_0c : Nat, ∃ x15_1A : Option Addr, ∃ x15_1n : Nat, ∃ x15_1c : Nat, Row h14 (Addr.mk b2 0 none) [.slice x15_0A x15_0n x15_0c, .slice x15_1A x15_1n x15_1c] ∧ ((∀ j, j < 2 → Wr h14 (Addr.add (Addr.mk b4 0 none) j)) ∧ ∀ h17, h17 = setRow h14 (Addr.mk b4 0 none) [.slice x15_0A x15_0n x15_0c, .slice x15_1A x15_1n x15_1c] 0 → ∃ r19_0A : Option Addr, ∃ r19_0n : Nat, ∃ r19_0c : Nat, ∃ r19_1A : Option Addr, ∃ r19_1n : Nat, ∃ r19_1c : Nat, Row h17 (Addr.mk b4 0 none) [.slice r19_0A r19_0n r19_0c, .slice r19_1A r19_1n r19_1c] ∧ R (.agg #[.slice r19_0A r19_0n r19_0c, .slice r19_1A r19_1n r19_1c]) h17))
def D_disk_row_lose.J3 (R : Value → Hp → Prop) (C23 : Int → Hp → Prop) (j21 : Int)  (h25 : Hp) : Prop :=
  C23 (IntKind.i64.wrap (j21 + 1)) h25
def D_disk_row_lose.J5 (R : Value → Hp → Prop) (C37 : Int → Hp → Prop) (j35 : Int)  (h41 : Hp) : Prop :=
  C37 (IntKind.i64.wrap (j35 + 1)) h41
def D_disk_row_lose.L4 (R : Value → Hp → Prop) (C23 : Int → Hp → Prop) (b2 : Nat) (j21 : Int) (y34 : Int) (C37 : Int → Hp → Prop) (j35 : Int) (h36 : Hp) : Prop :=
  (∃ x38A : Option Addr, ∃ x38n : Nat, ∃ x38c : Nat, cell h36 (Addr.mk b2 0 none) = some (.slice x38A x38n x38c) ∧ (((decide (j35 < (optMn (IntKind.i64.wrap ((IntKind.i64.wrap (16 * y34)) + 16)) ((x38n : Nat) : Int)))) = true → (∃ x42A : Option Addr, ∃ x42n : Nat, ∃ x42c : Nat, cell h36 ((Addr.mk b2 0 none).add 1) = some (.slice x42A x42n x42c) ∧ (∃ a44 : Addr, x42A = some a44 ∧ (0 : Int) ≤ j35 ∧ j35 < (x42n : Int) ∧ (∃ x48 : Bool, cell h36 (a44.add (Int.toNat j35 * 1)) = some (.bool x48) ∧ ((x48 = true → (∃ x51A : Option Addr, ∃ x51n : Nat, ∃ x51c : Nat, cell h36 (Addr.mk b2 0 none) = some (.slice x51A x51n x51c) ∧ (∃ a53 : Addr, x51A = some a53 ∧ (0 : Int) ≤ j35 ∧ j35 < (x51n : Int) ∧ (Wr h36 (a53.add (Int.toNat j35 * 1)) ∧ ∀ h57, h57 = setc h36 (a53.add (Int.toNat j35 * 1)) (.int .u8 0) → D_disk_row_lose.J5 R C37 j35  h57)))) ∧ (x48 = false → D_disk_row_lose.J5 R C37 j35  h36)))))) ∧ ((decide (j35 < (optMn (IntKind.i64.wrap ((IntKind.i64.wrap (16 * y34)) + 16)) ((x38n : Nat) : Int)))) = false → D_disk_row_lose.J3 R C23 j21  h36)))
def D_disk_row_lose.L2 (R : Value → Hp → Prop)  (lostA : Option Addr) (lostn : Nat) (b2 : Nat) (b4 : Nat) (x5n : Nat) (C23 : Int → Hp → Prop) (j21 : Int) (h22 : Hp) : Prop :=
  (((decide (j21 < ((lostn : Nat) : Int))) = true → (∃ a26 : Addr, lostA = some a26 ∧ (0 : Int) ≤ j21 ∧ j21 < (lostn : Int) ∧ (∃ x30 : Int, cell h22 (a26.add (Int.toNat j21 * 1)) = some (.int .i64 x30) ∧ CH Tryz.prog 65 #[.int .i64 x30, .int .i64 (IntKind.i64.wrap (Int.tdiv (IntKind.i64.wrap ((IntKind.i64.wrap (((x5n : Nat) : Int) + 16)) - 1)) 16))] h22 (fun r32 h33 => ∃ y34 : Int, r32 = .int .i64 y34 ∧ (∃ Inv : Int → Hp → Nat → Prop, (∃ m, Inv (IntKind.i64.wrap (16 * y34)) h33 m) ∧ ∀ j35 h36 m, Inv j35 h36 m → D_disk_row_lose.L4 R C23 b2 j21 y34 (fun j35 h36 => ∃ m1, m1 < m ∧ Inv j35 h36 m1) j35 h36))))) ∧ ((decide (j21 < ((lostn : Nat) : Int))) = false → D_disk_row_lose.J1 R  b2 b4  h22))
def D_disk_row_lose (R : Value → Hp → Prop) (r_0A : Option Addr) (r_0n : Nat) (r_0c : Nat) (r_1A : Option Addr) (r_1n : Nat) (r_1c : Nat) (lostA : Option Addr) (lostn : Nat) (lostc : Nat) (h : Hp) : Prop :=
  (∀ b2 h1, b2 = Array.size h → h1 = Array.push h (.cells #[.slice r_0A r_0n r_0c, .slice r_1A r_1n r_1c] 128) → (∀ b4 h3, b4 = Array.size h1 → h3 = Array.push h1 (.cells #[.slice none 0 0, .slice none 0 0] 128) → (∃ x5A : Option Addr, ∃ x5n : Nat, ∃ x5c : Nat, cell h3 (Addr.mk b2 0 none) = some (.slice x5A x5n x5c) ∧ ((((IntKind.i64.wrap (Int.tdiv (IntKind.i64.wrap ((IntKind.i64.wrap (((x5n : Nat) : Int) + 16)) - 1)) 16)) == 0) = true → (∃ x8_0A : Option Addr, ∃ x8_0n : Nat, ∃ x8_0c : Nat, ∃ x8_1A : Option Addr, ∃ x8_1n : Nat, ∃ x8_1c : Nat, Row h3 (Addr.mk b2 0 none) [.slice x8_0A x8_0n x8_0c, .slice x8_1A x8_1n x8_1c] ∧ ((∀ j, j < 2 → Wr h3 (Addr.add (Addr.mk b4 0 none) j)) ∧ ∀ h10, h10 = setRow h3 (Addr.mk b4 0 none) [.slice x8_0A x8_0n x8_0c, .slice x8_1A x8_1n x8_1c] 0 → ∃ r12_0A : Option Addr, ∃ r12_0n : Nat, ∃ r12_0c : Nat, ∃ r12_1A : Option Addr, ∃ r12_1n : Nat, ∃ r12_1c : Nat, Row h10 (Addr.mk b4 0 none) [.slice r12_0A r12_0n r12_0c, .slice r12_1A r12_1n r12_1c] ∧ R (.agg #[.slice r12_0A r12_0n r12_0c, .slice r12_1A r12_1n r12_1c]) h10))) ∧ (((IntKind.i64.wrap (Int.tdiv (IntKind.i64.wrap ((IntKind.i64.wrap (((x5n : Nat) : Int) + 16)) - 1)) 16)) == 0) = false → (∃ Inv : Int → Hp → Nat → Prop, (∃ m, Inv 0 h3 m) ∧ ∀ j21 h22 m, Inv j21 h22 m → D_disk_row_lose.L2 R  lostA lostn b2 b4 x5n (fun j21 h22 => ∃ m1, m1 < m ∧ Inv j21 h22 m1) j21 h22))))))
set_option maxRecDepth 10000 in
set_option maxHeartbeats 4000000 in
theorem D_disk_row_lose.sound {R : Value → Hp → Prop} {r_0A : Option Addr} {r_0n : Nat} {r_0c : Nat} {r_1A : Option Addr} {r_1n : Nat} {r_1c : Nat} {lostA : Option Addr} {lostn : Nat} {lostc : Nat} {h : Hp} (H : D_disk_row_lose R  r_0A r_0n r_0c r_1A r_1n r_1c lostA lostn lostc h) : CH Tryz.prog 67 #[.agg #[.slice r_0A r_0n r_0c, .slice r_1A r_1n r_1c], .slice lostA lostn lostc] h R := by
  refine CHE.enter (n := 51) Tryz.func67 rfl rfl (Nat.le_of_ble_eq_true rfl) ?_
  unfold D_disk_row_lose at H
  refine VC.seq ?_
  refine VC.region ?_
  obtain ⟨b2, eb63⟩ : ∃ b2, b2 = Array.size h := ⟨_, rfl⟩
  obtain ⟨h1, eh64⟩ : ∃ h1, h1 = Array.push h (.cells #[.slice r_0A r_0n r_0c, .slice r_1A r_1n r_1c] 128) := ⟨_, rfl⟩
  have H := H b2 h1 eb63 eh64
  refine VL.stepD rfl rfl (by decide) (OE.boxE (v := .agg #[.slice r_0A r_0n r_0c, .slice r_1A r_1n r_1c]) rfl eb63 eh64 ?_)
  obtain ⟨b4, eb61⟩ : ∃ b4, b4 = Array.size h1 := ⟨_, rfl⟩
  obtain ⟨h3, eh62⟩ : ∃ h3, h3 = Array.push h1 (.cells #[.slice none 0 0, .slice none 0 0] 128) := ⟨_, rfl⟩
  have H := H b4 h3 eb61 eh62
  refine VL.stepD rfl rfl (by decide) (OE.allocE (z := .agg #[.slice none 0 0, .slice none 0 0]) Tryz.i128 eb61 eh62 ?_)
  refine VL.nil ?_
  change VC _ _ _ _ _ _ _
  refine VC.seq ?_
  refine VC.region ?_
  refine VL.stepD rfl rfl (by decide) (OE.fieldAddrI (a := (Addr.mk b2 0 none)) (o := 0) rfl Tryz.underlying128 rfl Tryz.i22 (by decide) rfl ?_)
  obtain ⟨x5A, x5n, x5c, hl6, H⟩ := H
  refine VL.stepD rfl rfl (by decide) (OE.load (a := (Addr.mk b2 0 none)) (v := .slice x5A x5n x5c) rfl (LdT.one Tryz.underlying22 rfl hl6) ?_)
  refine VL.stepD rfl rfl (by decide) (OE.lenSlice rfl Tryz.underlying22 ?_)
  refine VL.stepD rfl rfl (by decide) (OE.binI (v := .int .i64 (IntKind.i64.wrap (((x5n : Nat) : Int) + 16))) rfl rfl rfl ?_)
  refine VL.stepD rfl rfl (by decide) (OE.binI (v := .int .i64 (IntKind.i64.wrap ((IntKind.i64.wrap (((x5n : Nat) : Int) + 16)) - 1))) rfl rfl rfl ?_)
  refine VL.stepD rfl rfl (by decide) (OE.binI (v := .int .i64 (IntKind.i64.wrap (Int.tdiv (IntKind.i64.wrap ((IntKind.i64.wrap (((x5n : Nat) : Int) + 16)) - 1)) 16))) rfl rfl rfl ?_)
  refine VL.stepD rfl rfl (by decide) (OE.assignV (v := .int .i64 (IntKind.i64.wrap (Int.tdiv (IntKind.i64.wrap ((IntKind.i64.wrap (((x5n : Nat) : Int) + 16)) - 1)) 16))) rfl ?_)
  refine VL.nil ?_
  change VC _ _ _ _ _ _ _
  refine VC.seq ?_
  refine VC.seq ?_
  refine VC.region ?_
  refine VL.stepD rfl rfl (by decide) (OE.moveV (v := .int .i64 (IntKind.i64.wrap (Int.tdiv (IntKind.i64.wrap ((IntKind.i64.wrap (((x5n : Nat) : Int) + 16)) - 1)) 16))) rfl ?_)
  refine VL.stepD rfl rfl (by decide) (OE.binI (v := .bool ((IntKind.i64.wrap (Int.tdiv (IntKind.i64.wrap ((IntKind.i64.wrap (((x5n : Nat) : Int) + 16)) - 1)) 16)) == 0)) rfl rfl rfl ?_)
  refine VL.nil ?_
  change VC _ _ _ _ _ _ _
  refine VC.cond (t := ((IntKind.i64.wrap (Int.tdiv (IntKind.i64.wrap ((IntKind.i64.wrap (((x5n : Nat) : Int) + 16)) - 1)) 16)) == 0)) rfl (fun e7 => ?_) (fun e7 => ?_)
  · have H := H.1 e7
    refine VC.seq ?_
    refine VC.region ?_
    obtain ⟨x8_0A, x8_0n, x8_0c, x8_1A, x8_1n, x8_1c, hl9, H⟩ := H
    refine VL.stepD rfl rfl (by decide) (OE.load (a := (Addr.mk b2 0 none)) (v := .agg #[.slice x8_0A x8_0n x8_0c, .slice x8_1A x8_1n x8_1c]) rfl (LdT.aggI Tryz.underlying128 rfl Tryz.i128 rfl hl9) ?_)
    obtain ⟨hw11, H⟩ := H
    obtain ⟨h10, eh13⟩ : ∃ h10, h10 = setRow h3 (Addr.mk b4 0 none) [.slice x8_0A x8_0n x8_0c, .slice x8_1A x8_1n x8_1c] 0 := ⟨_, rfl⟩
    have H := H h10 eh13
    refine VL.stepN rfl rfl (OE.storeE (a := (Addr.mk b4 0 none)) (v := .agg #[.slice x8_0A x8_0n x8_0c, .slice x8_1A x8_1n x8_1c]) rfl rfl (StT.aggI (vs := [.slice x8_0A x8_0n x8_0c, .slice x8_1A x8_1n x8_1c]) Tryz.i128 rfl hw11 (by simp [oneC])) eh13 ?_)
    refine VL.nil ?_
    change VC _ _ _ _ _ _ _
    refine VC.ret ?_
    obtain ⟨r12_0A, r12_0n, r12_0c, r12_1A, r12_1n, r12_1c, hl, H⟩ := H
    exact ⟨rfl, _, ResOK.c1 rfl (v := .agg #[.slice r12_0A r12_0n r12_0c, .slice r12_1A r12_1n r12_1c]) rfl (LdT.aggI Tryz.underlying128 rfl Tryz.i128 rfl hl), H⟩
  · have H := H.2 e7
    refine VC.skip ?_
    change VC _ _ _ _ _ _ _
    refine VC.seqJ (fun f h14 => f 2 = (.pointer (some (Addr.mk b2 0 none)) : Value) ∧ f 4 = (.pointer (some (Addr.mk b4 0 none)) : Value) ∧ D_disk_row_lose.J1 R  b2 b4  h14) ?_ ?_
    · intro f h14 J
      obtain ⟨hk2, hk4, H⟩ := J
      rw [← fr_self f [(2, .pointer (some (Addr.mk b2 0 none))), (4, .pointer (some (Addr.mk b4 0 none)))] (by simp only [List.mem_cons, List.not_mem_nil, or_false]; rintro p (rfl | rfl) <;> assumption)]
      unfold D_disk_row_lose.J1 at H
      refine VC.seq ?_
      refine VC.region ?_
      obtain ⟨x15_0A, x15_0n, x15_0c, x15_1A, x15_1n, x15_1c, hl16, H⟩ := H
      refine VL.stepD rfl rfl (by decide) (OE.load (a := (Addr.mk b2 0 none)) (v := .agg #[.slice x15_0A x15_0n x15_0c, .slice x15_1A x15_1n x15_1c]) rfl (LdT.aggI Tryz.underlying128 rfl Tryz.i128 rfl hl16) ?_)
      obtain ⟨hw18, H⟩ := H
      obtain ⟨h17, eh20⟩ : ∃ h17, h17 = setRow h14 (Addr.mk b4 0 none) [.slice x15_0A x15_0n x15_0c, .slice x15_1A x15_1n x15_1c] 0 := ⟨_, rfl⟩
      have H := H h17 eh20
      refine VL.stepN rfl rfl (OE.storeE (a := (Addr.mk b4 0 none)) (v := .agg #[.slice x15_0A x15_0n x15_0c, .slice x15_1A x15_1n x15_1c]) rfl rfl (StT.aggI (vs := [.slice x15_0A x15_0n x15_0c, .slice x15_1A x15_1n x15_1c]) Tryz.i128 rfl hw18 (by simp [oneC])) eh20 ?_)
      refine VL.nil ?_
      change VC _ _ _ _ _ _ _
      refine VC.ret ?_
      obtain ⟨r19_0A, r19_0n, r19_0c, r19_1A, r19_1n, r19_1c, hl, H⟩ := H
      exact ⟨rfl, _, ResOK.c1 rfl (v := .agg #[.slice r19_0A r19_0n r19_0c, .slice r19_1A r19_1n r19_1c]) rfl (LdT.aggI Tryz.underlying128 rfl Tryz.i128 rfl hl), H⟩
    · skip
      refine VC.seq ?_
      refine VC.region ?_
      refine VL.stepD rfl rfl (by decide) (OE.moveV (v := .slice lostA lostn lostc) rfl ?_)
      refine VL.stepD rfl rfl (by decide) (OE.lenSlice rfl Tryz.underlying44 ?_)
      refine VL.stepD rfl rfl (by decide) (OE.moveV (v := .int .i64 0) rfl ?_)
      refine VL.nil ?_
      change VC _ _ _ _ _ _ _
      refine VC.block ?_
      obtain ⟨Inv, ⟨m0, h0⟩, H⟩ := H
      refine VC.loop (fun ds f h22 m => ds = [] ∧ ∃ j21 : Int, f 2 = (.pointer (some (Addr.mk b2 0 none)) : Value) ∧ f 4 = (.pointer (some (Addr.mk b4 0 none)) : Value) ∧ f 5 = (.int .i64 (IntKind.i64.wrap (Int.tdiv (IntKind.i64.wrap ((IntKind.i64.wrap (((x5n : Nat) : Int) + 16)) - 1)) 16)) : Value) ∧ f 19 = (.slice lostA lostn lostc : Value) ∧ f 20 = (.int .i64 ((lostn : Nat) : Int) : Value) ∧ f 21 = (.int .i64 j21 : Value) ∧ Inv j21 h22 m) (m0 := m0) ⟨rfl, 0, rfl, rfl, rfl, rfl, rfl, rfl, h0⟩ ?_
      intro ds f h22 m I
      obtain ⟨rfl, j21, hk2, hk4, hk5, hk19, hk20, hk21, I⟩ := I
      rw [← fr_self f [(2, .pointer (some (Addr.mk b2 0 none))), (4, .pointer (some (Addr.mk b4 0 none))), (5, .int .i64 (IntKind.i64.wrap (Int.tdiv (IntKind.i64.wrap ((IntKind.i64.wrap (((x5n : Nat) : Int) + 16)) - 1)) 16))), (19, .slice lostA lostn lostc), (20, .int .i64 ((lostn : Nat) : Int)), (21, .int .i64 j21)] (by simp only [List.mem_cons, List.not_mem_nil, or_false]; rintro p (rfl | rfl | rfl | rfl | rfl | rfl) <;> assumption)]
      obtain ⟨C23, eC23⟩ : ∃ C23 : Int → Hp → Prop, C23 = (fun j21 h22 => ∃ m1, m1 < m ∧ Inv j21 h22 m1) := ⟨_, rfl⟩
      have H : D_disk_row_lose.L2 R  lostA lostn b2 b4 x5n C23 j21 h22 := by rw [eC23]; exact H j21 h22 m I
      unfold D_disk_row_lose.L2 at H
      refine VC.seq ?_
      refine VC.region ?_
      refine VL.stepD rfl rfl (by decide) (OE.binI (v := .bool (decide (j21 < ((lostn : Nat) : Int)))) rfl rfl rfl ?_)
      refine VL.nil ?_
      change VC _ _ _ _ _ _ _
      refine VC.seq ?_
      refine VC.cond (t := (decide (j21 < ((lostn : Nat) : Int)))) rfl (fun e24 => ?_) (fun e24 => ?_)
      · have H := H.1 e24
        refine VC.skip ?_
        change VC _ _ _ _ _ _ _
        refine VC.seqJ (fun f h25 => f 2 = (.pointer (some (Addr.mk b2 0 none)) : Value) ∧ f 4 = (.pointer (some (Addr.mk b4 0 none)) : Value) ∧ f 5 = (.int .i64 (IntKind.i64.wrap (Int.tdiv (IntKind.i64.wrap ((IntKind.i64.wrap (((x5n : Nat) : Int) + 16)) - 1)) 16)) : Value) ∧ f 19 = (.slice lostA lostn lostc : Value) ∧ f 20 = (.int .i64 ((lostn : Nat) : Int) : Value) ∧ f 21 = (.int .i64 j21 : Value) ∧ D_disk_row_lose.J3 R C23 j21  h25) ?_ ?_
        · intro f h25 J
          obtain ⟨hk2, hk4, hk5, hk19, hk20, hk21, H⟩ := J
          rw [← fr_self f [(2, .pointer (some (Addr.mk b2 0 none))), (4, .pointer (some (Addr.mk b4 0 none))), (5, .int .i64 (IntKind.i64.wrap (Int.tdiv (IntKind.i64.wrap ((IntKind.i64.wrap (((x5n : Nat) : Int) + 16)) - 1)) 16))), (19, .slice lostA lostn lostc), (20, .int .i64 ((lostn : Nat) : Int)), (21, .int .i64 j21)] (by simp only [List.mem_cons, List.not_mem_nil, or_false]; rintro p (rfl | rfl | rfl | rfl | rfl | rfl) <;> assumption)]
          unfold D_disk_row_lose.J3 at H
          refine VC.region ?_
          refine VL.stepD rfl rfl (by decide) (OE.binI (v := .int .i64 (IntKind.i64.wrap (j21 + 1))) rfl rfl rfl ?_)
          refine VL.stepD rfl rfl (by decide) (OE.moveV (v := .int .i64 (IntKind.i64.wrap (j21 + 1))) rfl ?_)
          refine VL.nil ?_
          rw [eC23] at H
          obtain ⟨m1, hm1, H⟩ := H
          exact ⟨m1, hm1, rfl, (IntKind.i64.wrap (j21 + 1)), rfl, rfl, rfl, rfl, rfl, rfl, H⟩
        · skip
          refine VC.block ?_
          refine VC.seq ?_
          refine VC.region ?_
          obtain ⟨a26, e27, z28, z29, H⟩ := H
          refine VL.stepD rfl rfl (by decide) (OE.indexAddrI (sz := 1) rfl rfl Tryz.underlying44 Tryz.i3 e27 z28 z29 ?_)
          obtain ⟨x30, hl31, H⟩ := H
          refine VL.stepD rfl rfl (by decide) (OE.load (a := (a26.add (Int.toNat j21 * 1))) (v := .int .i64 x30) rfl (LdT.one Tryz.underlying3 rfl hl31) ?_)
          refine VL.stepD rfl rfl (by decide) (OE.assignV (v := .int .i64 x30) rfl ?_)
          refine VL.nil ?_
          change VC _ _ _ _ _ _ _
          refine VC.seq ?_
          refine VC.region ?_
          refine VL.stepD rfl rfl (by decide) (OE.moveV (v := .int .i64 x30) rfl ?_)
          refine VL.stepD rfl rfl (by decide) (OE.moveV (v := .int .i64 (IntKind.i64.wrap (Int.tdiv (IntKind.i64.wrap ((IntKind.i64.wrap (((x5n : Nat) : Int) + 16)) - 1)) 16))) rfl ?_)
          refine VL.stepD rfl rfl (by decide) (OE.callL (args := [.int .i64 x30, .int .i64 (IntKind.i64.wrap (Int.tdiv (IntKind.i64.wrap ((IntKind.i64.wrap (((x5n : Nat) : Int) + 16)) - 1)) 16))]) Tryz.func65 rfl Tryz.nn65 rfl rfl (CHE.mono H (fun r32 h33 H => ?_) (fun _ _ e => e.elim)))
          obtain ⟨y34, rfl, H⟩ := H
          refine VL.stepD rfl rfl (by decide) (OE.binI (v := .int .i64 (IntKind.i64.wrap (16 * y34))) rfl rfl rfl ?_)
          refine VL.stepD rfl rfl (by decide) (OE.assignV (v := .int .i64 (IntKind.i64.wrap (16 * y34))) rfl ?_)
          refine VL.nil ?_
          change VC _ _ _ _ _ _ _
          refine VC.seq ?_
          refine VC.region ?_
          refine VL.stepD rfl rfl (by decide) (OE.moveV (v := .int .i64 (IntKind.i64.wrap (16 * y34))) rfl ?_)
          refine VL.stepD rfl rfl (by decide) (OE.assignV (v := .int .i64 (IntKind.i64.wrap (16 * y34))) rfl ?_)
          refine VL.nil ?_
          change VC _ _ _ _ _ _ _
          refine VC.block ?_
          obtain ⟨Inv, ⟨m0, h0⟩, H⟩ := H
          refine VC.loop (fun ds f h36 m => ds = [] ∧ ∃ j35 : Int, f 2 = (.pointer (some (Addr.mk b2 0 none)) : Value) ∧ f 4 = (.pointer (some (Addr.mk b4 0 none)) : Value) ∧ f 5 = (.int .i64 (IntKind.i64.wrap (Int.tdiv (IntKind.i64.wrap ((IntKind.i64.wrap (((x5n : Nat) : Int) + 16)) - 1)) 16)) : Value) ∧ f 8 = (.int .i64 (IntKind.i64.wrap (16 * y34)) : Value) ∧ f 9 = (.int .i64 j35 : Value) ∧ f 19 = (.slice lostA lostn lostc : Value) ∧ f 20 = (.int .i64 ((lostn : Nat) : Int) : Value) ∧ f 21 = (.int .i64 j21 : Value) ∧ Inv j35 h36 m) (m0 := m0) ⟨rfl, (IntKind.i64.wrap (16 * y34)), rfl, rfl, rfl, rfl, rfl, rfl, rfl, rfl, h0⟩ ?_
          intro ds f h36 m I
          obtain ⟨rfl, j35, hk2, hk4, hk5, hk8, hk9, hk19, hk20, hk21, I⟩ := I
          rw [← fr_self f [(2, .pointer (some (Addr.mk b2 0 none))), (4, .pointer (some (Addr.mk b4 0 none))), (5, .int .i64 (IntKind.i64.wrap (Int.tdiv (IntKind.i64.wrap ((IntKind.i64.wrap (((x5n : Nat) : Int) + 16)) - 1)) 16))), (8, .int .i64 (IntKind.i64.wrap (16 * y34))), (9, .int .i64 j35), (19, .slice lostA lostn lostc), (20, .int .i64 ((lostn : Nat) : Int)), (21, .int .i64 j21)] (by simp only [List.mem_cons, List.not_mem_nil, or_false]; rintro p (rfl | rfl | rfl | rfl | rfl | rfl | rfl | rfl) <;> assumption)]
          obtain ⟨C37, eC37⟩ : ∃ C37 : Int → Hp → Prop, C37 = (fun j35 h36 => ∃ m1, m1 < m ∧ Inv j35 h36 m1) := ⟨_, rfl⟩
          have H : D_disk_row_lose.L4 R C23 b2 j21 y34 C37 j35 h36 := by rw [eC37]; exact H j35 h36 m I
          unfold D_disk_row_lose.L4 at H
          refine VC.seq ?_
          refine VC.seq ?_
          refine VC.region ?_
          refine VL.stepD rfl rfl (by decide) (OE.moveV (v := .int .i64 j35) rfl ?_)
          refine VL.stepD rfl rfl (by decide) (OE.moveV (v := .int .i64 (IntKind.i64.wrap (16 * y34))) rfl ?_)
          refine VL.stepD rfl rfl (by decide) (OE.binI (v := .int .i64 (IntKind.i64.wrap ((IntKind.i64.wrap (16 * y34)) + 16))) rfl rfl rfl ?_)
          refine VL.stepD rfl rfl (by decide) (OE.fieldAddrI (a := (Addr.mk b2 0 none)) (o := 0) rfl Tryz.underlying128 rfl Tryz.i22 (by decide) rfl ?_)
          obtain ⟨x38A, x38n, x38c, hl39, H⟩ := H
          refine VL.stepD rfl rfl (by decide) (OE.load (a := (Addr.mk b2 0 none)) (v := .slice x38A x38n x38c) rfl (LdT.one Tryz.underlying22 rfl hl39) ?_)
          refine VL.stepD rfl rfl (by decide) (OE.lenSlice rfl Tryz.underlying22 ?_)
          refine VL.stepD rfl rfl (by decide) (OE.min rfl rfl ?_)
          refine VL.stepD rfl rfl (by decide) (OE.binI (v := .bool (decide (j35 < (optMn (IntKind.i64.wrap ((IntKind.i64.wrap (16 * y34)) + 16)) ((x38n : Nat) : Int))))) rfl rfl rfl ?_)
          refine VL.nil ?_
          change VC _ _ _ _ _ _ _
          refine VC.cond (t := (decide (j35 < (optMn (IntKind.i64.wrap ((IntKind.i64.wrap (16 * y34)) + 16)) ((x38n : Nat) : Int))))) rfl (fun e40 => ?_) (fun e40 => ?_)
          · have H := H.1 e40
            refine VC.skip ?_
            change VC _ _ _ _ _ _ _
            refine VC.seqJ (fun f h41 => f 2 = (.pointer (some (Addr.mk b2 0 none)) : Value) ∧ f 4 = (.pointer (some (Addr.mk b4 0 none)) : Value) ∧ f 5 = (.int .i64 (IntKind.i64.wrap (Int.tdiv (IntKind.i64.wrap ((IntKind.i64.wrap (((x5n : Nat) : Int) + 16)) - 1)) 16)) : Value) ∧ f 8 = (.int .i64 (IntKind.i64.wrap (16 * y34)) : Value) ∧ f 9 = (.int .i64 j35 : Value) ∧ f 19 = (.slice lostA lostn lostc : Value) ∧ f 20 = (.int .i64 ((lostn : Nat) : Int) : Value) ∧ f 21 = (.int .i64 j21 : Value) ∧ D_disk_row_lose.J5 R C37 j35  h41) ?_ ?_
            · intro f h41 J
              obtain ⟨hk2, hk4, hk5, hk8, hk9, hk19, hk20, hk21, H⟩ := J
              rw [← fr_self f [(2, .pointer (some (Addr.mk b2 0 none))), (4, .pointer (some (Addr.mk b4 0 none))), (5, .int .i64 (IntKind.i64.wrap (Int.tdiv (IntKind.i64.wrap ((IntKind.i64.wrap (((x5n : Nat) : Int) + 16)) - 1)) 16))), (8, .int .i64 (IntKind.i64.wrap (16 * y34))), (9, .int .i64 j35), (19, .slice lostA lostn lostc), (20, .int .i64 ((lostn : Nat) : Int)), (21, .int .i64 j21)] (by simp only [List.mem_cons, List.not_mem_nil, or_false]; rintro p (rfl | rfl | rfl | rfl | rfl | rfl | rfl | rfl) <;> assumption)]
              unfold D_disk_row_lose.J5 at H
              refine VC.region ?_
              refine VL.stepD rfl rfl (by decide) (OE.moveV (v := .int .i64 j35) rfl ?_)
              refine VL.stepD rfl rfl (by decide) (OE.binI (v := .int .i64 (IntKind.i64.wrap (j35 + 1))) rfl rfl rfl ?_)
              refine VL.stepD rfl rfl (by decide) (OE.assignV (v := .int .i64 (IntKind.i64.wrap (j35 + 1))) rfl ?_)
              refine VL.nil ?_
              rw [eC37] at H
              obtain ⟨m1, hm1, H⟩ := H
              exact ⟨m1, hm1, rfl, (IntKind.i64.wrap (j35 + 1)), rfl, rfl, rfl, rfl, rfl, rfl, rfl, rfl, H⟩
            · skip
              refine VC.block ?_
              refine VC.seq ?_
              refine VC.region ?_
              refine VL.stepD rfl rfl (by decide) (OE.fieldAddrI (a := (Addr.mk b2 0 none)) (o := 1) rfl Tryz.underlying128 rfl Tryz.i126 (by decide) rfl ?_)
              obtain ⟨x42A, x42n, x42c, hl43, H⟩ := H
              refine VL.stepD rfl rfl (by decide) (OE.load (a := ((Addr.mk b2 0 none).add 1)) (v := .slice x42A x42n x42c) rfl (LdT.one Tryz.underlying126 rfl hl43) ?_)
              refine VL.stepD rfl rfl (by decide) (OE.moveV (v := .int .i64 j35) rfl ?_)
              obtain ⟨a44, e45, z46, z47, H⟩ := H
              refine VL.stepD rfl rfl (by decide) (OE.indexAddrI (sz := 1) rfl rfl Tryz.underlying126 Tryz.i4 e45 z46 z47 ?_)
              obtain ⟨x48, hl49, H⟩ := H
              refine VL.stepD rfl rfl (by decide) (OE.load (a := (a44.add (Int.toNat j35 * 1))) (v := .bool x48) rfl (LdT.one Tryz.underlying4 rfl hl49) ?_)
              refine VL.nil ?_
              change VC _ _ _ _ _ _ _
              refine VC.cond (t := x48) rfl (fun e50 => ?_) (fun e50 => ?_)
              · have H := H.1 e50
                refine VC.region ?_
                refine VL.stepD rfl rfl (by decide) (OE.fieldAddrI (a := (Addr.mk b2 0 none)) (o := 0) rfl Tryz.underlying128 rfl Tryz.i22 (by decide) rfl ?_)
                obtain ⟨x51A, x51n, x51c, hl52, H⟩ := H
                refine VL.stepD rfl rfl (by decide) (OE.load (a := (Addr.mk b2 0 none)) (v := .slice x51A x51n x51c) rfl (LdT.one Tryz.underlying22 rfl hl52) ?_)
                refine VL.stepD rfl rfl (by decide) (OE.moveV (v := .int .i64 j35) rfl ?_)
                obtain ⟨a53, e54, z55, z56, H⟩ := H
                refine VL.stepD rfl rfl (by decide) (OE.indexAddrI (sz := 1) rfl rfl Tryz.underlying22 Tryz.i5 e54 z55 z56 ?_)
                obtain ⟨hw58, H⟩ := H
                obtain ⟨h57, eh59⟩ : ∃ h57, h57 = setc h36 (a53.add (Int.toNat j35 * 1)) (.int .u8 0) := ⟨_, rfl⟩
                have H := H h57 eh59
                refine VL.stepN rfl rfl (OE.storeE (a := (a53.add (Int.toNat j35 * 1))) (v := .int .u8 0) rfl rfl (StT.oneI Tryz.i5 hw58 rfl) eh59 ?_)
                refine VL.nil ?_
                exact ⟨rfl, rfl, rfl, rfl, rfl, rfl, rfl, rfl, rfl, H⟩
              · have H := H.2 e50
                refine VC.skip ?_
                exact ⟨rfl, rfl, rfl, rfl, rfl, rfl, rfl, rfl, rfl, H⟩
          · have H := H.2 e40
            refine VC.exit ?_
            exact ⟨rfl, rfl, rfl, rfl, rfl, rfl, rfl, H⟩
      · have H := H.2 e24
        refine VC.exit ?_
        exact ⟨rfl, rfl, rfl, H⟩

def D_disk_Disk_names.J2 (R : Value → Hp → Prop)  (j8 : Option Nat)  (h10 : Hp) : Prop :=
  R (.map j8) h10
def D_disk_Disk_names.L3 (R : Value → Hp → Prop)  (turnsA : Option Addr) (turnsn : Nat) (j8 : Option Nat) (C13 : Int → Hp → Prop) (j11 : Int) (h12 : Hp) : Prop :=
  (((decide (j11 < ((turnsn : Nat) : Int))) = true → (∃ a15 : Addr, turnsA = some a15 ∧ (0 : Int) ≤ j11 ∧ j11 < (turnsn : Int) ∧ (∃ x19_0 : ByteArray, ∃ x19_1 : ByteArray, ∃ x19_2 : Int, Row h12 (a15.add (Int.toNat j11 * 3)) [.string x19_0, .string x19_1, .int .i64 x19_2] ∧ (∀ b22 h21, b22 = Array.size h12 → h21 = Array.push h12 (.cells #[.string ByteArray.empty, .string ByteArray.empty, .int .i64 0] 107) → ((∀ j, j < 3 → Wr h21 (Addr.add (Addr.mk b22 0 none) j)) ∧ ∀ h23, h23 = setRow h21 (Addr.mk b22 0 none) [.string x19_0, .string x19_1, .int .i64 x19_2] 0 → (∃ x25_0 : ByteArray, ∃ x25_1 : ByteArray, ∃ x25_2 : Int, Row h23 (Addr.mk b22 0 none) [.string x25_0, .string x25_1, .int .i64 x25_2] ∧ CH Tryz.prog 94 #[.agg #[.string x25_0, .string x25_1, .int .i64 x25_2], .map j8] h23 (fun r27 h28 => C13 (IntKind.i64.wrap (j11 + 1)) h28))))))) ∧ ((decide (j11 < ((turnsn : Nat) : Int))) = false → D_disk_Disk_names.J2 R  j8  h12))
def D_disk_Disk_names.J1 (R : Value → Hp → Prop)  (turnsA : Option Addr) (turnsn : Nat) (j8 : Option Nat) (h9 : Hp) : Prop :=
  (∃ Inv : Int → Hp → Nat → Prop, (∃ m, Inv 0 h9 m) ∧ ∀ j11 h12 m, Inv j11 h12 m → D_disk_Disk_names.L3 R  turnsA turnsn j8 (fun j11 h12 => ∃ m1, m1 < m ∧ Inv j11 h12 m1) j11 h12)
def D_disk_Disk_names (R : Value → Hp → Prop) (d : Option Addr) (turnsA : Option Addr) (turnsn : Nat) (turnsc : Nat) (h : Hp) : Prop :=
  (∃ a1 : Addr, d = some a1 ∧ (∃ x3 : Option Nat, cell h (a1.add 4) = some (.map x3) ∧ CH Tryz.prog 93 #[.map x3] h (fun r5 h6 => ∃ y7 : Option Nat, r5 = .map y7 ∧ (((Option.isNone y7) = true → (∀ b34 h33, b34 = Array.size h6 → h33 = Array.push h6 (.map #[] 0) → D_disk_Disk_names.J1 R  turnsA turnsn (some b34) h33)) ∧ ((Option.isNone y7) = false → D_disk_Disk_names.J1 R  turnsA turnsn y7 h6)))))
set_option maxRecDepth 10000 in
set_option maxHeartbeats 4000000 in
theorem D_disk_Disk_names.sound {R : Value → Hp → Prop} {d : Option Addr} {turnsA : Option Addr} {turnsn : Nat} {turnsc : Nat} {h : Hp} (H : D_disk_Disk_names R  d turnsA turnsn turnsc h) : CH Tryz.prog 68 #[.pointer d, .slice turnsA turnsn turnsc] h R := by
  refine CHE.enter (n := 27) Tryz.func68 rfl rfl (Nat.le_of_ble_eq_true rfl) ?_
  unfold D_disk_Disk_names at H
  refine VC.seq ?_
  refine VC.region ?_
  refine VL.stepD rfl rfl (by decide) (OE.assignV (v := .map none) rfl ?_)
  refine VL.nil ?_
  change VC _ _ _ _ _ _ _
  refine VC.seq ?_
  refine VC.region ?_
  refine VL.stepD rfl rfl (by decide) (OE.moveV (v := .pointer d) rfl ?_)
  obtain ⟨a1, e2, H⟩ := H
  refine VL.stepD rfl rfl (by decide) (OE.nilCheck (a := a1) (congrArg Value.pointer e2) ?_)
  refine VL.stepD rfl rfl (by decide) (OE.fieldAddrI (a := a1) (o := 4) rfl Tryz.underlying104 rfl Tryz.i101 (by decide) rfl ?_)
  obtain ⟨x3, hl4, H⟩ := H
  refine VL.stepD rfl rfl (by decide) (OE.load (a := (a1.add 4)) (v := .map x3) rfl (LdT.one Tryz.underlying101 rfl hl4) ?_)
  refine VL.stepD rfl rfl (by decide) (OE.callL (args := [.map x3]) Tryz.func93 rfl Tryz.nn93 rfl rfl (CHE.mono H (fun r5 h6 H => ?_) (fun _ _ e => e.elim)))
  obtain ⟨y7, rfl, H⟩ := H
  refine VL.stepD rfl rfl (by decide) (OE.assignV (v := .map y7) rfl ?_)
  refine VL.nil ?_
  change VC _ _ _ _ _ _ _
  refine VC.seqJ (fun f h9 => ∃ j8 : Option Nat, f 1 = (.slice turnsA turnsn turnsc : Value) ∧ f 5 = (.map j8 : Value) ∧ D_disk_Disk_names.J1 R  turnsA turnsn j8 h9) ?_ ?_
  · intro f h9 J
    obtain ⟨j8, hk1, hk5, H⟩ := J
    rw [← fr_self f [(1, .slice turnsA turnsn turnsc), (5, .map j8)] (by simp only [List.mem_cons, List.not_mem_nil, or_false]; rintro p (rfl | rfl) <;> assumption)]
    unfold D_disk_Disk_names.J1 at H
    refine VC.seqJ (fun f h10 => f 5 = (.map j8 : Value) ∧ D_disk_Disk_names.J2 R  j8  h10) ?_ ?_
    · intro f h10 J
      obtain ⟨hk5, H⟩ := J
      rw [← fr_self f [(5, .map j8)] (by simp only [List.mem_cons, List.not_mem_nil, or_false]; rintro p (rfl) <;> assumption)]
      unfold D_disk_Disk_names.J2 at H
      refine VC.seq ?_
      refine VC.region ?_
      refine VL.stepD rfl rfl (by decide) (OE.moveV (v := .map j8) rfl ?_)
      refine VL.stepD rfl rfl (by decide) (OE.assignV (v := .map j8) rfl ?_)
      refine VL.nil ?_
      change VC _ _ _ _ _ _ _
      refine VC.ret ?_
      exact ⟨rfl, _, ResOK.t1 rfl (v := .map j8) rfl, H⟩
    · skip
      refine VC.seq ?_
      refine VC.region ?_
      refine VL.stepD rfl rfl (by decide) (OE.moveV (v := .slice turnsA turnsn turnsc) rfl ?_)
      refine VL.stepD rfl rfl (by decide) (OE.lenSlice rfl Tryz.underlying102 ?_)
      refine VL.stepD rfl rfl (by decide) (OE.moveV (v := .int .i64 0) rfl ?_)
      refine VL.nil ?_
      change VC _ _ _ _ _ _ _
      refine VC.block ?_
      obtain ⟨Inv, ⟨m0, h0⟩, H⟩ := H
      refine VC.loop (fun ds f h12 m => ds = [] ∧ ∃ j11 : Int, f 5 = (.map j8 : Value) ∧ f 16 = (.slice turnsA turnsn turnsc : Value) ∧ f 17 = (.int .i64 ((turnsn : Nat) : Int) : Value) ∧ f 18 = (.int .i64 j11 : Value) ∧ Inv j11 h12 m) (m0 := m0) ⟨rfl, 0, rfl, rfl, rfl, rfl, h0⟩ ?_
      intro ds f h12 m I
      obtain ⟨rfl, j11, hk5, hk16, hk17, hk18, I⟩ := I
      rw [← fr_self f [(5, .map j8), (16, .slice turnsA turnsn turnsc), (17, .int .i64 ((turnsn : Nat) : Int)), (18, .int .i64 j11)] (by simp only [List.mem_cons, List.not_mem_nil, or_false]; rintro p (rfl | rfl | rfl | rfl) <;> assumption)]
      obtain ⟨C13, eC13⟩ : ∃ C13 : Int → Hp → Prop, C13 = (fun j11 h12 => ∃ m1, m1 < m ∧ Inv j11 h12 m1) := ⟨_, rfl⟩
      have H : D_disk_Disk_names.L3 R  turnsA turnsn j8 C13 j11 h12 := by rw [eC13]; exact H j11 h12 m I
      unfold D_disk_Disk_names.L3 at H
      refine VC.seq ?_
      refine VC.region ?_
      refine VL.stepD rfl rfl (by decide) (OE.binI (v := .bool (decide (j11 < ((turnsn : Nat) : Int)))) rfl rfl rfl ?_)
      refine VL.nil ?_
      change VC _ _ _ _ _ _ _
      refine VC.seq ?_
      refine VC.cond (t := (decide (j11 < ((turnsn : Nat) : Int)))) rfl (fun e14 => ?_) (fun e14 => ?_)
      · have H := H.1 e14
        refine VC.skip ?_
        change VC _ _ _ _ _ _ _
        refine VC.seq ?_
        refine VC.block ?_
        refine VC.seq ?_
        refine VC.region ?_
        obtain ⟨a15, e16, z17, z18, H⟩ := H
        refine VL.stepD rfl rfl (by decide) (OE.indexAddrI (sz := 3) rfl rfl Tryz.underlying102 Tryz.i107 e16 z17 z18 ?_)
        obtain ⟨x19_0, x19_1, x19_2, hl20, H⟩ := H
        refine VL.stepD rfl rfl (by decide) (OE.load (a := (a15.add (Int.toNat j11 * 3))) (v := .agg #[.string x19_0, .string x19_1, .int .i64 x19_2]) rfl (LdT.aggI Tryz.underlying107 rfl Tryz.i107 rfl hl20) ?_)
        obtain ⟨b22, eb30⟩ : ∃ b22, b22 = Array.size h12 := ⟨_, rfl⟩
        obtain ⟨h21, eh31⟩ : ∃ h21, h21 = Array.push h12 (.cells #[.string ByteArray.empty, .string ByteArray.empty, .int .i64 0] 107) := ⟨_, rfl⟩
        have H := H b22 h21 eb30 eh31
        refine VL.stepD rfl rfl (by decide) (OE.allocE (z := .agg #[.string ByteArray.empty, .string ByteArray.empty, .int .i64 0]) Tryz.i107 eb30 eh31 ?_)
        obtain ⟨hw24, H⟩ := H
        obtain ⟨h23, eh29⟩ : ∃ h23, h23 = setRow h21 (Addr.mk b22 0 none) [.string x19_0, .string x19_1, .int .i64 x19_2] 0 := ⟨_, rfl⟩
        have H := H h23 eh29
        refine VL.stepN rfl rfl (OE.storeE (a := (Addr.mk b22 0 none)) (v := .agg #[.string x19_0, .string x19_1, .int .i64 x19_2]) rfl rfl (StT.aggI (vs := [.string x19_0, .string x19_1, .int .i64 x19_2]) Tryz.i107 rfl hw24 (by simp [oneC])) eh29 ?_)
        refine VL.nil ?_
        change VC _ _ _ _ _ _ _
        refine VC.region ?_
        obtain ⟨x25_0, x25_1, x25_2, hl26, H⟩ := H
        refine VL.stepD rfl rfl (by decide) (OE.load (a := (Addr.mk b22 0 none)) (v := .agg #[.string x25_0, .string x25_1, .int .i64 x25_2]) rfl (LdT.aggI Tryz.underlying107 rfl Tryz.i107 rfl hl26) ?_)
        refine VL.stepD rfl rfl (by decide) (OE.moveV (v := .map j8) rfl ?_)
        refine VL.stepD rfl rfl (by decide) (OE.callL (args := [.agg #[.string x25_0, .string x25_1, .int .i64 x25_2], .map j8]) Tryz.func94 rfl Tryz.nn94 rfl rfl (CHE.mono H (fun r27 h28 H => ?_) (fun _ _ e => e.elim)))
        refine VL.nil ?_
        change VC _ _ _ _ _ _ _
        refine VC.region ?_
        refine VL.stepD rfl rfl (by decide) (OE.binI (v := .int .i64 (IntKind.i64.wrap (j11 + 1))) rfl rfl rfl ?_)
        refine VL.stepD rfl rfl (by decide) (OE.moveV (v := .int .i64 (IntKind.i64.wrap (j11 + 1))) rfl ?_)
        refine VL.nil ?_
        rw [eC13] at H
        obtain ⟨m1, hm1, H⟩ := H
        exact ⟨m1, hm1, rfl, (IntKind.i64.wrap (j11 + 1)), rfl, rfl, rfl, rfl, H⟩
      · have H := H.2 e14
        refine VC.exit ?_
        exact ⟨rfl, rfl, H⟩
  · skip
    refine VC.seq ?_
    refine VC.region ?_
    refine VL.stepD rfl rfl (by decide) (OE.moveV (v := .map y7) rfl ?_)
    refine VL.stepD rfl rfl (by decide) (OE.mapNil (p := y7) rfl rfl Tryz.underlying101 ?_)
    refine VL.nil ?_
    change VC _ _ _ _ _ _ _
    refine VC.cond (t := (Option.isNone y7)) rfl (fun e32 => ?_) (fun e32 => ?_)
    · have H := H.1 e32
      refine VC.region ?_
      obtain ⟨b34, eb35⟩ : ∃ b34, b34 = Array.size h6 := ⟨_, rfl⟩
      obtain ⟨h33, eh36⟩ : ∃ h33, h33 = Array.push h6 (.map #[] 0) := ⟨_, rfl⟩
      have H := H b34 h33 eb35 eh36
      refine VL.stepD rfl rfl (by decide) (OE.makeMapE eb35 eh36 ?_)
      refine VL.stepD rfl rfl (by decide) (OE.assignV (v := .map (some b34)) rfl ?_)
      refine VL.nil ?_
      exact ⟨rfl, (some b34), rfl, rfl, H⟩
    · have H := H.2 e32
      refine VC.skip ?_
      exact ⟨rfl, y7, rfl, rfl, H⟩


def D_disk_Disk_left.J1 (R : Value → Hp → Prop)  (y18A : Option Addr) (y18n : Nat) (y18c : Nat)  (h19 : Hp) : Prop :=
  R (.slice y18A y18n y18c) h19
def D_disk_Disk_left.J3 (R : Value → Hp → Prop) (C24 : Int → Hp → Prop) (j22 : Int)  (h26 : Hp) : Prop :=
  C24 (IntKind.i64.wrap (j22 + 1)) h26
def D_disk_Disk_left.L2 (R : Value → Hp → Prop)  (y11 : Int) (y18A : Option Addr) (y18n : Nat) (y18c : Nat) (x20A : Option Addr) (x20n : Nat) (C24 : Int → Hp → Prop) (j22 : Int) (h23 : Hp) : Prop :=
  (((decide (j22 < ((x20n : Nat) : Int))) = true → (∃ a27 : Addr, x20A = some a27 ∧ (0 : Int) ≤ j22 ∧ j22 < (x20n : Int) ∧ (∃ x31 : Int, cell h23 (a27.add (Int.toNat j22 * 1)) = some (.int .i64 x31) ∧ (((decide (y11 > 0)) = true → CH Tryz.prog 65 #[.int .i64 x31, .int .i64 y11] h23 (fun r34 h35 => ∃ y36 : Int, r34 = .int .i64 y36 ∧ (∃ a37 : Addr, y18A = some a37 ∧ (0 : Int) ≤ y36 ∧ y36 < (y18n : Int) ∧ ((∀ j, j < 3 → Wr h35 (Addr.add (a37.add (Int.toNat y36 * 3)) j)) ∧ ∀ h41, h41 = setRow h35 (a37.add (Int.toNat y36 * 3)) [.string ByteArray.empty, .string ByteArray.empty, .int .i64 0] 0 → D_disk_Disk_left.J3 R C24 j22  h41)))) ∧ ((decide (y11 > 0)) = false → D_disk_Disk_left.J3 R C24 j22  h23))))) ∧ ((decide (j22 < ((x20n : Nat) : Int))) = false → D_disk_Disk_left.J1 R  y18A y18n y18c  h23))
def D_disk_Disk_left (R : Value → Hp → Prop) (d : Option Addr) (p_0 : Int) (p_1A : Option Addr) (p_1n : Nat) (p_1c : Nat) (p_2A : Option Addr) (p_2n : Nat) (p_2c : Nat) (h : Hp) : Prop :=
  (∀ b2 h1, b2 = Array.size h → h1 = Array.push h (.cells #[.int .i64 p_0, .slice p_1A p_1n p_1c, .slice p_2A p_2n p_2c] 47) → (∃ x3 : Int, cell h1 (Addr.mk b2 0 none) = some (.int .i64 x3) ∧ (∃ a5 : Addr, d = some a5 ∧ (∃ x7A : Option Addr, ∃ x7n : Nat, ∃ x7c : Nat, cell h1 (a5.add 5) = some (.slice x7A x7n x7c) ∧ CH Tryz.prog 65 #[.int .i64 x3, .int .i64 (IntKind.i64.wrap (((x7n : Nat) : Int) + 1))] h1 (fun r9 h10 => ∃ y11 : Int, r9 = .int .i64 y11 ∧ (∃ x12A : Option Addr, ∃ x12n : Nat, ∃ x12c : Nat, cell h10 (a5.add 5) = some (.slice x12A x12n x12c) ∧ ((0 : Int) ≤ y11 ∧ y11 ≤ ((x12c : Nat) : Int) ∧ CH Tryz.prog 95 #[.slice x12A (Int.toNat y11) x12c] h10 (fun r16 h17 => ∃ y18A : Option Addr, ∃ y18n : Nat, ∃ y18c : Nat, r16 = .slice y18A y18n y18c ∧ (∃ x20A : Option Addr, ∃ x20n : Nat, ∃ x20c : Nat, cell h17 ((Addr.mk b2 0 none).add 1) = some (.slice x20A x20n x20c) ∧ (∃ Inv : Int → Hp → Nat → Prop, (∃ m, Inv 0 h17 m) ∧ ∀ j22 h23 m, Inv j22 h23 m → D_disk_Disk_left.L2 R  y11 y18A y18n y18c x20A x20n (fun j22 h23 => ∃ m1, m1 < m ∧ Inv j22 h23 m1) j22 h23))))))))))
set_option maxRecDepth 10000 in
set_option maxHeartbeats 4000000 in
theorem D_disk_Disk_left.sound {R : Value → Hp → Prop} {d : Option Addr} {p_0 : Int} {p_1A : Option Addr} {p_1n : Nat} {p_1c : Nat} {p_2A : Option Addr} {p_2n : Nat} {p_2c : Nat} {h : Hp} (H : D_disk_Disk_left R  d p_0 p_1A p_1n p_1c p_2A p_2n p_2c h) : CH Tryz.prog 69 #[.pointer d, .agg #[.int .i64 p_0, .slice p_1A p_1n p_1c, .slice p_2A p_2n p_2c]] h R := by
  refine CHE.enter (n := 42) Tryz.func69 rfl rfl (Nat.le_of_ble_eq_true rfl) ?_
  unfold D_disk_Disk_left at H
  refine VC.seq ?_
  refine VC.region ?_
  obtain ⟨b2, eb47⟩ : ∃ b2, b2 = Array.size h := ⟨_, rfl⟩
  obtain ⟨h1, eh48⟩ : ∃ h1, h1 = Array.push h (.cells #[.int .i64 p_0, .slice p_1A p_1n p_1c, .slice p_2A p_2n p_2c] 47) := ⟨_, rfl⟩
  have H := H b2 h1 eb47 eh48
  refine VL.stepD rfl rfl (by decide) (OE.boxE (v := .agg #[.int .i64 p_0, .slice p_1A p_1n p_1c, .slice p_2A p_2n p_2c]) rfl eb47 eh48 ?_)
  refine VL.stepD rfl rfl (by decide) (OE.assignV (v := .slice none 0 0) rfl ?_)
  refine VL.nil ?_
  change VC _ _ _ _ _ _ _
  refine VC.seq ?_
  refine VC.drawsS Tryz.mixed (by kernel_rfl) (by kernel_rfl) (fun st hd => ?_)
  refine DW.still (i := 0) (v := .pointer (some (Addr.mk b2 0 none))) (by kernel_rfl) ?_
  obtain ⟨x3, hl4, H⟩ := H
  refine DW.still (i := 1) (v := .int .i64 x3) (by kernel_rfl) ?_
  refine DW.still (i := 2) (v := .pointer d) (by kernel_rfl) ?_
  obtain ⟨a5, e6, H⟩ := H
  refine DW.still (i := 3) (v := .pointer (some a5)) (by kernel_rfl) ?_
  refine DW.still (i := 4) (v := .pointer (some (a5.add 5))) (by kernel_rfl) ?_
  obtain ⟨x7A, x7n, x7c, hl8, H⟩ := H
  refine DW.still (i := 5) (v := .slice x7A x7n x7c) (by kernel_rfl) ?_
  refine DW.still (i := 6) (v := .int .i64 ((x7n : Nat) : Int)) (by kernel_rfl) ?_
  refine DW.still (i := 7) (v := .int .i64 (IntKind.i64.wrap (((x7n : Nat) : Int) + 1))) (by kernel_rfl) ?_
  refine DW.loudF (fr (fun _ => undef) [(10, (.int .i64 x3 : Value)), (16, (.int .i64 (IntKind.i64.wrap (((x7n : Nat) : Int) + 1)) : Value))]) st hd (i := 8) rfl (by kernel_rfl) (.inl rfl) (by kernel_rfl) ⟨.inr (YD.u (fr (fun _ => undef) [(15, (.int .i64 ((x7n : Nat) : Int) : Value))]) st rfl rfl (by kernel_rfl) (OE.binI (v := .int .i64 (IntKind.i64.wrap (((x7n : Nat) : Int) + 1))) rfl rfl rfl ⟨rfl, rfl⟩)), .inr (YD.u (fr (fun _ => undef) [(14, (.slice x7A x7n x7c : Value))]) st rfl rfl (by kernel_rfl) (OE.lenSlice rfl Tryz.underlying102 ⟨rfl, rfl⟩)), .inr (YD.u (fr (fun _ => undef) [(13, (.pointer (some (a5.add 5)) : Value))]) st rfl rfl (by kernel_rfl) (OE.load (a := (a5.add 5)) (v := .slice x7A x7n x7c) rfl (LdT.one Tryz.underlying102 rfl hl8) ⟨rfl, rfl⟩)), .inr (YD.u (fr (fun _ => undef) [(12, (.pointer (some a5) : Value))]) st rfl rfl (by kernel_rfl) (OE.fieldAddrI (a := a5) (o := 5) rfl Tryz.underlying104 rfl Tryz.i102 (by decide) rfl ⟨rfl, rfl⟩)), .inr (YD.u (fr (fun _ => undef) [(11, (.pointer d : Value))]) st rfl rfl (by kernel_rfl) (OE.nilCheck (a := a5) (congrArg Value.pointer e6) ⟨rfl, rfl⟩)), .inr (YD.u (fr (fun _ => undef) [(0, (.pointer d : Value))]) st rfl rfl (by kernel_rfl) (OE.moveV (v := .pointer d) rfl ⟨rfl, rfl⟩)), .inr (YD.u (fr (fun _ => undef) [(9, (.pointer (some (Addr.mk b2 0 none)) : Value))]) st rfl rfl (by kernel_rfl) (OE.load (a := (Addr.mk b2 0 none)) (v := .int .i64 x3) rfl (LdT.one Tryz.underlying3 rfl hl4) ⟨rfl, rfl⟩)), .inr (YD.u (fr (fun _ => undef) [(3, (.pointer (some (Addr.mk b2 0 none)) : Value))]) st rfl rfl (by kernel_rfl) (OE.fieldAddrI (a := (Addr.mk b2 0 none)) (o := 0) rfl Tryz.underlying47 rfl Tryz.i3 (by decide) rfl ⟨rfl, rfl⟩)), trivial⟩ (OE.callL (args := [.int .i64 x3, .int .i64 (IntKind.i64.wrap (((x7n : Nat) : Int) + 1))]) Tryz.func65 rfl Tryz.nn65 rfl rfl (CHE.mono H (fun r9 h10 H => ?_) (fun _ _ e => e.elim)))
  obtain ⟨y11, rfl, H⟩ := H
  refine DW.still (i := 9) (v := .int .i64 y11) (by kernel_rfl) ?_
  refine DW.finL st hd [(9, (.pointer (some (Addr.mk b2 0 none)) : Value)), (10, (.int .i64 x3 : Value)), (11, (.pointer d : Value)), (12, (.pointer (some a5) : Value)), (13, (.pointer (some (a5.add 5)) : Value)), (14, (.slice x7A x7n x7c : Value)), (15, (.int .i64 ((x7n : Nat) : Int) : Value)), (16, (.int .i64 (IntKind.i64.wrap (((x7n : Nat) : Int) + 1)) : Value)), (17, (.int .i64 y11 : Value)), (5, (.int .i64 y11 : Value))] (by kernel_rfl) (by kernel_rfl) ⟨.inr (YD.u (fr (fun _ => undef) [(17, (.int .i64 y11 : Value))]) st rfl rfl (by kernel_rfl) (OE.assignV (v := .int .i64 y11) rfl ⟨rfl, rfl⟩)), .inl (by kernel_rfl), .inl (by kernel_rfl), .inl (by kernel_rfl), .inl (by kernel_rfl), .inl (by kernel_rfl), .inl (by kernel_rfl), .inl (by kernel_rfl), .inl (by kernel_rfl), .inl (by kernel_rfl), trivial⟩ ?_
  change VC _ _ _ _ _ _ _
  refine VC.seq ?_
  refine VC.region ?_
  refine VL.stepD rfl rfl (by decide) (OE.moveV (v := .pointer d) rfl ?_)
  refine VL.stepD rfl rfl (by decide) (OE.nilCheck (a := a5) (congrArg Value.pointer e6) ?_)
  refine VL.stepD rfl rfl (by decide) (OE.fieldAddrI (a := a5) (o := 5) rfl Tryz.underlying104 rfl Tryz.i102 (by decide) rfl ?_)
  obtain ⟨x12A, x12n, x12c, hl13, H⟩ := H
  refine VL.stepD rfl rfl (by decide) (OE.load (a := (a5.add 5)) (v := .slice x12A x12n x12c) rfl (LdT.one Tryz.underlying102 rfl hl13) ?_)
  refine VL.stepD rfl rfl (by decide) (OE.moveV (v := .int .i64 y11) rfl ?_)
  obtain ⟨z14, z15, H⟩ := H
  refine VL.stepD rfl rfl (by decide) (OE.sliceHiV (sz := 3) rfl rfl Tryz.underlying102 Tryz.i107 z14 z15 ?_)
  refine VL.stepD rfl rfl (by decide) (OE.callL (args := [.slice x12A (Int.toNat y11) x12c]) Tryz.func95 rfl Tryz.nn95 rfl rfl (CHE.mono H (fun r16 h17 H => ?_) (fun _ _ e => e.elim)))
  obtain ⟨y18A, y18n, y18c, rfl, H⟩ := H
  refine VL.stepD rfl rfl (by decide) (OE.assignV (v := .slice y18A y18n y18c) rfl ?_)
  refine VL.nil ?_
  change VC _ _ _ _ _ _ _
  refine VC.seqJ (fun f h19 => f 6 = (.slice y18A y18n y18c : Value) ∧ D_disk_Disk_left.J1 R  y18A y18n y18c  h19) ?_ ?_
  · intro f h19 J
    obtain ⟨hk6, H⟩ := J
    rw [← fr_self f [(6, .slice y18A y18n y18c)] (by simp only [List.mem_cons, List.not_mem_nil, or_false]; rintro p (rfl) <;> assumption)]
    unfold D_disk_Disk_left.J1 at H
    refine VC.seq ?_
    refine VC.region ?_
    refine VL.stepD rfl rfl (by decide) (OE.moveV (v := .slice y18A y18n y18c) rfl ?_)
    refine VL.stepD rfl rfl (by decide) (OE.assignV (v := .slice y18A y18n y18c) rfl ?_)
    refine VL.nil ?_
    change VC _ _ _ _ _ _ _
    refine VC.ret ?_
    exact ⟨rfl, _, ResOK.t1 rfl (v := .slice y18A y18n y18c) rfl, H⟩
  · skip
    refine VC.seq ?_
    refine VC.region ?_
    refine VL.stepD rfl rfl (by decide) (OE.fieldAddrI (a := (Addr.mk b2 0 none)) (o := 1) rfl Tryz.underlying47 rfl Tryz.i44 (by decide) rfl ?_)
    obtain ⟨x20A, x20n, x20c, hl21, H⟩ := H
    refine VL.stepD rfl rfl (by decide) (OE.load (a := ((Addr.mk b2 0 none).add 1)) (v := .slice x20A x20n x20c) rfl (LdT.one Tryz.underlying44 rfl hl21) ?_)
    refine VL.stepD rfl rfl (by decide) (OE.lenSlice rfl Tryz.underlying44 ?_)
    refine VL.stepD rfl rfl (by decide) (OE.moveV (v := .int .i64 0) rfl ?_)
    refine VL.nil ?_
    change VC _ _ _ _ _ _ _
    refine VC.block ?_
    obtain ⟨Inv, ⟨m0, h0⟩, H⟩ := H
    refine VC.loop (fun ds f h23 m => ds = [] ∧ ∃ j22 : Int, f 5 = (.int .i64 y11 : Value) ∧ f 6 = (.slice y18A y18n y18c : Value) ∧ f 26 = (.slice x20A x20n x20c : Value) ∧ f 27 = (.int .i64 ((x20n : Nat) : Int) : Value) ∧ f 28 = (.int .i64 j22 : Value) ∧ Inv j22 h23 m) (m0 := m0) ⟨rfl, 0, rfl, rfl, rfl, rfl, rfl, h0⟩ ?_
    intro ds f h23 m I
    obtain ⟨rfl, j22, hk5, hk6, hk26, hk27, hk28, I⟩ := I
    rw [← fr_self f [(5, .int .i64 y11), (6, .slice y18A y18n y18c), (26, .slice x20A x20n x20c), (27, .int .i64 ((x20n : Nat) : Int)), (28, .int .i64 j22)] (by simp only [List.mem_cons, List.not_mem_nil, or_false]; rintro p (rfl | rfl | rfl | rfl | rfl) <;> assumption)]
    obtain ⟨C24, eC24⟩ : ∃ C24 : Int → Hp → Prop, C24 = (fun j22 h23 => ∃ m1, m1 < m ∧ Inv j22 h23 m1) := ⟨_, rfl⟩
    have H : D_disk_Disk_left.L2 R  y11 y18A y18n y18c x20A x20n C24 j22 h23 := by rw [eC24]; exact H j22 h23 m I
    unfold D_disk_Disk_left.L2 at H
    refine VC.seq ?_
    refine VC.region ?_
    refine VL.stepD rfl rfl (by decide) (OE.binI (v := .bool (decide (j22 < ((x20n : Nat) : Int)))) rfl rfl rfl ?_)
    refine VL.nil ?_
    change VC _ _ _ _ _ _ _
    refine VC.seq ?_
    refine VC.cond (t := (decide (j22 < ((x20n : Nat) : Int)))) rfl (fun e25 => ?_) (fun e25 => ?_)
    · have H := H.1 e25
      refine VC.skip ?_
      change VC _ _ _ _ _ _ _
      refine VC.seqJ (fun f h26 => f 5 = (.int .i64 y11 : Value) ∧ f 6 = (.slice y18A y18n y18c : Value) ∧ f 26 = (.slice x20A x20n x20c : Value) ∧ f 27 = (.int .i64 ((x20n : Nat) : Int) : Value) ∧ f 28 = (.int .i64 j22 : Value) ∧ D_disk_Disk_left.J3 R C24 j22  h26) ?_ ?_
      · intro f h26 J
        obtain ⟨hk5, hk6, hk26, hk27, hk28, H⟩ := J
        rw [← fr_self f [(5, .int .i64 y11), (6, .slice y18A y18n y18c), (26, .slice x20A x20n x20c), (27, .int .i64 ((x20n : Nat) : Int)), (28, .int .i64 j22)] (by simp only [List.mem_cons, List.not_mem_nil, or_false]; rintro p (rfl | rfl | rfl | rfl | rfl) <;> assumption)]
        unfold D_disk_Disk_left.J3 at H
        refine VC.region ?_
        refine VL.stepD rfl rfl (by decide) (OE.binI (v := .int .i64 (IntKind.i64.wrap (j22 + 1))) rfl rfl rfl ?_)
        refine VL.stepD rfl rfl (by decide) (OE.moveV (v := .int .i64 (IntKind.i64.wrap (j22 + 1))) rfl ?_)
        refine VL.nil ?_
        rw [eC24] at H
        obtain ⟨m1, hm1, H⟩ := H
        exact ⟨m1, hm1, rfl, (IntKind.i64.wrap (j22 + 1)), rfl, rfl, rfl, rfl, rfl, H⟩
      · skip
        refine VC.block ?_
        refine VC.seq ?_
        refine VC.region ?_
        obtain ⟨a27, e28, z29, z30, H⟩ := H
        refine VL.stepD rfl rfl (by decide) (OE.indexAddrI (sz := 1) rfl rfl Tryz.underlying44 Tryz.i3 e28 z29 z30 ?_)
        obtain ⟨x31, hl32, H⟩ := H
        refine VL.stepD rfl rfl (by decide) (OE.load (a := (a27.add (Int.toNat j22 * 1))) (v := .int .i64 x31) rfl (LdT.one Tryz.underlying3 rfl hl32) ?_)
        refine VL.stepD rfl rfl (by decide) (OE.assignV (v := .int .i64 x31) rfl ?_)
        refine VL.nil ?_
        change VC _ _ _ _ _ _ _
        refine VC.seq ?_
        refine VC.region ?_
        refine VL.stepD rfl rfl (by decide) (OE.moveV (v := .int .i64 y11) rfl ?_)
        refine VL.stepD rfl rfl (by decide) (OE.binI (v := .bool (decide (y11 > 0))) rfl rfl rfl ?_)
        refine VL.nil ?_
        change VC _ _ _ _ _ _ _
        refine VC.cond (t := (decide (y11 > 0))) rfl (fun e33 => ?_) (fun e33 => ?_)
        · have H := H.1 e33
          refine VC.region ?_
          refine VL.stepD rfl rfl (by decide) (OE.moveV (v := .slice y18A y18n y18c) rfl ?_)
          refine VL.stepD rfl rfl (by decide) (OE.moveV (v := .int .i64 x31) rfl ?_)
          refine VL.stepD rfl rfl (by decide) (OE.moveV (v := .int .i64 y11) rfl ?_)
          refine VL.stepD rfl rfl (by decide) (OE.callL (args := [.int .i64 x31, .int .i64 y11]) Tryz.func65 rfl Tryz.nn65 rfl rfl (CHE.mono H (fun r34 h35 H => ?_) (fun _ _ e => e.elim)))
          obtain ⟨y36, rfl, H⟩ := H
          refine VL.stepD rfl rfl (by decide) (OE.buildV (ps := []) rfl (Tryz.bf21) ?_)
          obtain ⟨a37, e38, z39, z40, H⟩ := H
          refine VL.stepD rfl rfl (by decide) (OE.indexAddrI (sz := 3) rfl rfl Tryz.underlying102 Tryz.i107 e38 z39 z40 ?_)
          obtain ⟨hw42, H⟩ := H
          obtain ⟨h41, eh43⟩ : ∃ h41, h41 = setRow h35 (a37.add (Int.toNat y36 * 3)) [.string ByteArray.empty, .string ByteArray.empty, .int .i64 0] 0 := ⟨_, rfl⟩
          have H := H h41 eh43
          refine VL.stepN rfl rfl (OE.storeE (a := (a37.add (Int.toNat y36 * 3))) (v := .agg #[.string ByteArray.empty, .string ByteArray.empty, .int .i64 0]) rfl rfl (StT.aggI (vs := [.string ByteArray.empty, .string ByteArray.empty, .int .i64 0]) Tryz.i107 rfl hw42 (by simp [oneC])) eh43 ?_)
          refine VL.nil ?_
          exact ⟨rfl, rfl, rfl, rfl, rfl, rfl, H⟩
        · have H := H.2 e33
          refine VC.skip ?_
          exact ⟨rfl, rfl, rfl, rfl, rfl, rfl, H⟩
    · have H := H.2 e25
      refine VC.exit ?_
      exact ⟨rfl, rfl, H⟩

def D_disk_told.J1 (R : Value → Hp → Prop)   (j1A : Option Addr) (j1n : Nat) (j1c : Nat) (h2 : Hp) : Prop :=
  R (.slice j1A j1n j1c) h2
def D_disk_told.L2 (R : Value → Hp → Prop)  (names : Option Nat) (bytes : Value) (y8A : Option Addr) (y8n : Nat) (C12 : Option Addr → Nat → Nat → Int → Hp → Prop) (j9A : Option Addr) (j9n : Nat) (j9c : Nat) (j10 : Int) (h11 : Hp) : Prop :=
  (((decide (j10 < ((y8n : Nat) : Int))) = true → (∃ a14 : Addr, y8A = some a14 ∧ (0 : Int) ≤ j10 ∧ j10 < (y8n : Int) ∧ (∃ x18 : ByteArray, cell h11 (a14.add (Int.toNat j10 * 1)) = some (.string x18) ∧ (∃ x20 : Int, MLk Tryz.prog 101 h11 (.map names) (.string x18) false (.int .i64 x20) ∧ CHV Tryz.prog bytes [.int .i64 x20] h11 (fun r22 h23 => ∃ y24A : Option Addr, ∃ y24n : Nat, ∃ y24c : Nat, r22 = .slice y24A y24n y24c ∧ (∀ b26 h25, b26 = Array.size h23 → h25 = Array.push h23 (.cells #[.string x18, .slice y24A y24n y24c] 61) → (∃ vs27 : List Value, Src h25 (1 * 2) vs27 (some (Addr.mk b26 0 none)) ∧ (∀ v ∈ vs27, oneC v = true) ∧ (j9n + 1) * 40 ≤ 140737488355328 ∧ j9n + 1 ≤ 9223372036854775807 ∧ AppendV 61 (.agg #[.string ByteArray.empty, .slice none 0 0] : Value) 2 h25 j9A j9n j9c 1 vs27 (fun A32 n33 c34 h35 => C12 A32 n33 c34 (IntKind.i64.wrap (j10 + 1)) h35)))))))) ∧ ((decide (j10 < ((y8n : Nat) : Int))) = false → D_disk_told.J1 R   j9A j9n j9c h11))
def D_disk_told (R : Value → Hp → Prop) (names : Option Nat) (bytes : Value) (h : Hp) : Prop :=
  CH Tryz.prog 85 #[.map names] h (fun r3 h4 => CH Tryz.prog 84 #[r3] h4 (fun r6 h7 => ∃ y8A : Option Addr, ∃ y8n : Nat, ∃ y8c : Nat, r6 = .slice y8A y8n y8c ∧ (∃ Inv : Option Addr → Nat → Nat → Int → Hp → Nat → Prop, (∃ m, Inv none 0 0 0 h7 m) ∧ ∀ j9A j9n j9c j10 h11 m, Inv j9A j9n j9c j10 h11 m → D_disk_told.L2 R  names bytes y8A y8n (fun j9A j9n j9c j10 h11 => ∃ m1, m1 < m ∧ Inv j9A j9n j9c j10 h11 m1) j9A j9n j9c j10 h11)))
set_option maxRecDepth 10000 in
set_option maxHeartbeats 4000000 in
theorem D_disk_told.sound {R : Value → Hp → Prop} {names : Option Nat} {bytes : Value} {h : Hp} (H : D_disk_told R  names bytes h) : CH Tryz.prog 70 #[.map names, bytes] h R := by
  refine CHE.enter (n := 28) Tryz.func70 rfl rfl (Nat.le_of_ble_eq_true rfl) ?_
  unfold D_disk_told at H
  refine VC.seq ?_
  refine VC.region ?_
  refine VL.stepD rfl rfl (by decide) (OE.assignV (v := .slice none 0 0) rfl ?_)
  refine VL.nil ?_
  change VC _ _ _ _ _ _ _
  refine VC.seq ?_
  refine VC.region ?_
  refine VL.stepD rfl rfl (by decide) (OE.assignV (v := .slice none 0 0) rfl ?_)
  refine VL.nil ?_
  change VC _ _ _ _ _ _ _
  refine VC.seqJ (fun f h2 => ∃ j1A : Option Addr, ∃ j1n : Nat, ∃ j1c : Nat, f 5 = (.slice j1A j1n j1c : Value) ∧ D_disk_told.J1 R   j1A j1n j1c h2) ?_ ?_
  · intro f h2 J
    obtain ⟨j1A, j1n, j1c, hk5, H⟩ := J
    rw [← fr_self f [(5, .slice j1A j1n j1c)] (by simp only [List.mem_cons, List.not_mem_nil, or_false]; rintro p (rfl) <;> assumption)]
    unfold D_disk_told.J1 at H
    refine VC.seq ?_
    refine VC.region ?_
    refine VL.stepD rfl rfl (by decide) (OE.moveV (v := .slice j1A j1n j1c) rfl ?_)
    refine VL.stepD rfl rfl (by decide) (OE.assignV (v := .slice j1A j1n j1c) rfl ?_)
    refine VL.nil ?_
    change VC _ _ _ _ _ _ _
    refine VC.ret ?_
    exact ⟨rfl, _, ResOK.t1 rfl (v := .slice j1A j1n j1c) rfl, H⟩
  · skip
    refine VC.seq ?_
    refine VC.region ?_
    refine VL.stepD rfl rfl (by decide) (OE.moveV (v := .map names) rfl ?_)
    refine VL.stepD rfl rfl (by decide) (OE.callL (args := [.map names]) Tryz.func85 rfl Tryz.nn85 rfl rfl (CHE.mono H (fun r3 h4 H => ?_) (fun _ _ e => e.elim)))
    refine VL.stepD rfl rfl (by decide) (OE.callL (args := [r3]) Tryz.func84 rfl Tryz.nn84 rfl rfl (CHE.mono H (fun r6 h7 H => ?_) (fun _ _ e => e.elim)))
    obtain ⟨y8A, y8n, y8c, rfl, H⟩ := H
    refine VL.stepD rfl rfl (by decide) (OE.lenSlice rfl Tryz.underlying71 ?_)
    refine VL.stepD rfl rfl (by decide) (OE.moveV (v := .int .i64 0) rfl ?_)
    refine VL.nil ?_
    change VC _ _ _ _ _ _ _
    refine VC.block ?_
    obtain ⟨Inv, ⟨m0, h0⟩, H⟩ := H
    refine VC.loop (fun ds f h11 m => ds = [] ∧ ∃ j9A : Option Addr, ∃ j9n : Nat, ∃ j9c : Nat, ∃ j10 : Int, f 0 = (.map names : Value) ∧ f 1 = (bytes : Value) ∧ f 5 = (.slice j9A j9n j9c : Value) ∧ f 10 = (.slice y8A y8n y8c : Value) ∧ f 11 = (.int .i64 ((y8n : Nat) : Int) : Value) ∧ f 12 = (.int .i64 j10 : Value) ∧ Inv j9A j9n j9c j10 h11 m) (m0 := m0) ⟨rfl, none, 0, 0, 0, rfl, rfl, rfl, rfl, rfl, rfl, h0⟩ ?_
    intro ds f h11 m I
    obtain ⟨rfl, j9A, j9n, j9c, j10, hk0, hk1, hk5, hk10, hk11, hk12, I⟩ := I
    rw [← fr_self f [(0, .map names), (1, bytes), (5, .slice j9A j9n j9c), (10, .slice y8A y8n y8c), (11, .int .i64 ((y8n : Nat) : Int)), (12, .int .i64 j10)] (by simp only [List.mem_cons, List.not_mem_nil, or_false]; rintro p (rfl | rfl | rfl | rfl | rfl | rfl) <;> assumption)]
    obtain ⟨C12, eC12⟩ : ∃ C12 : Option Addr → Nat → Nat → Int → Hp → Prop, C12 = (fun j9A j9n j9c j10 h11 => ∃ m1, m1 < m ∧ Inv j9A j9n j9c j10 h11 m1) := ⟨_, rfl⟩
    have H : D_disk_told.L2 R  names bytes y8A y8n C12 j9A j9n j9c j10 h11 := by rw [eC12]; exact H j9A j9n j9c j10 h11 m I
    unfold D_disk_told.L2 at H
    refine VC.seq ?_
    refine VC.region ?_
    refine VL.stepD rfl rfl (by decide) (OE.binI (v := .bool (decide (j10 < ((y8n : Nat) : Int)))) rfl rfl rfl ?_)
    refine VL.nil ?_
    change VC _ _ _ _ _ _ _
    refine VC.seq ?_
    refine VC.cond (t := (decide (j10 < ((y8n : Nat) : Int)))) rfl (fun e13 => ?_) (fun e13 => ?_)
    · have H := H.1 e13
      refine VC.skip ?_
      change VC _ _ _ _ _ _ _
      refine VC.seq ?_
      refine VC.block ?_
      refine VC.seq ?_
      refine VC.region ?_
      obtain ⟨a14, e15, z16, z17, H⟩ := H
      refine VL.stepD rfl rfl (by decide) (OE.indexAddrI (sz := 1) rfl rfl Tryz.underlying71 Tryz.i9 e15 z16 z17 ?_)
      obtain ⟨x18, hl19, H⟩ := H
      refine VL.stepD rfl rfl (by decide) (OE.load (a := (a14.add (Int.toNat j10 * 1))) (v := .string x18) rfl (LdT.one Tryz.underlying9 rfl hl19) ?_)
      refine VL.stepD rfl rfl (by decide) (OE.assignV (v := .string x18) rfl ?_)
      refine VL.nil ?_
      change VC _ _ _ _ _ _ _
      refine VC.region ?_
      refine VL.stepD rfl rfl (by decide) (OE.moveV (v := .slice j9A j9n j9c) rfl ?_)
      refine VL.stepD rfl rfl (by decide) (OE.moveV (v := .string x18) rfl ?_)
      refine VL.stepD rfl rfl (by decide) (OE.moveV (v := bytes) rfl ?_)
      refine VL.stepD rfl rfl (by decide) (OE.moveV (v := .map names) rfl ?_)
      refine VL.stepD rfl rfl (by decide) (OE.moveV (v := .string x18) rfl ?_)
      obtain ⟨x20, hl21, H⟩ := H
      refine VL.stepD rfl rfl (by decide) (OE.lookup (m := .map names) (k := .string x18) rfl rfl hl21 ?_)
      refine VL.stepD rfl rfl (by decide) (OE.callV (l := [.int .i64 x20]) rfl rfl (CHV.mono H (fun r22 h23 H => ?_)))
      obtain ⟨y24A, y24n, y24c, rfl, H⟩ := H
      refine VL.stepD rfl rfl (by decide) (OE.buildV (ps := [(0, (.string x18 : Value)), (1, (.slice y24A y24n y24c : Value))]) rfl (Tryz.bf22 _ _ _ _) ?_)
      obtain ⟨b26, eb36⟩ : ∃ b26, b26 = Array.size h23 := ⟨_, rfl⟩
      obtain ⟨h25, eh37⟩ : ∃ h25, h25 = Array.push h23 (.cells #[.string x18, .slice y24A y24n y24c] 61) := ⟨_, rfl⟩
      have H := H b26 h25 eb36 eh37
      refine VL.stepD rfl rfl (by decide) (OE.buildSliceE (ps := [(0, (.agg #[.string x18, .slice y24A y24n y24c] : Value))]) (cells := #[.string x18, .slice y24A y24n y24c]) (e := 61) rfl (Tryz.bf23 _ _ _ _) eb36 eh37 ?_)
      obtain ⟨vs27, z28, z29, z30, z31, H⟩ := H
      refine VL.stepD rfl rfl (by decide) (OE.appendV (z := (.agg #[.string ByteArray.empty, .slice none 0 0] : Value)) (sz := 2) (bs := 40) rfl rfl Tryz.underlying42 Tryz.i61 z28 z29 z30 z31 (AppendV.mono H (fun A32 n33 c34 h35 H => ?_)))
      refine VL.stepD rfl rfl (by decide) (OE.assignV (v := .slice A32 n33 c34) rfl ?_)
      refine VL.nil ?_
      change VC _ _ _ _ _ _ _
      refine VC.region ?_
      refine VL.stepD rfl rfl (by decide) (OE.binI (v := .int .i64 (IntKind.i64.wrap (j10 + 1))) rfl rfl rfl ?_)
      refine VL.stepD rfl rfl (by decide) (OE.moveV (v := .int .i64 (IntKind.i64.wrap (j10 + 1))) rfl ?_)
      refine VL.nil ?_
      rw [eC12] at H
      obtain ⟨m1, hm1, H⟩ := H
      exact ⟨m1, hm1, rfl, A32, n33, c34, (IntKind.i64.wrap (j10 + 1)), rfl, rfl, rfl, rfl, rfl, rfl, H⟩
    · have H := H.2 e13
      refine VC.exit ?_
      exact ⟨rfl, j9A, j9n, j9c, rfl, H⟩

def D_disk_Disk_Crash_1 (R : Value → Hp → Prop) (id : Int) (c0 : Addr) (h : Hp) : Prop :=
  (∃ x1 : Option Nat, cell h c0 = some (.map x1) ∧ (∃ x3A : Option Addr, ∃ x3n : Nat, ∃ x3c : Nat, MLk Tryz.prog 125 h (.map x1) (.int .i64 id) false (.slice x3A x3n x3c) ∧ R (.slice x3A x3n x3c) h))
set_option maxRecDepth 10000 in
set_option maxHeartbeats 4000000 in
theorem D_disk_Disk_Crash_1.sound {R : Value → Hp → Prop} {id : Int} {c0 : Addr} {h : Hp} (H : D_disk_Disk_Crash_1 R  id c0 h) : CH Tryz.prog 71 #[.int .i64 id, .pointer (some c0)] h R := by
  refine CHE.enter (n := 7) Tryz.func71 rfl rfl (Nat.le_of_ble_eq_true rfl) ?_
  unfold D_disk_Disk_Crash_1 at H
  refine VC.seq ?_
  refine VC.region ?_
  refine VL.stepD rfl rfl (by decide) (OE.assignV (v := .slice none 0 0) rfl ?_)
  refine VL.nil ?_
  change VC _ _ _ _ _ _ _
  refine VC.seq ?_
  refine VC.region ?_
  obtain ⟨x1, hl2, H⟩ := H
  refine VL.stepD rfl rfl (by decide) (OE.load (a := c0) (v := .map x1) rfl (LdT.one Tryz.underlying125 rfl hl2) ?_)
  refine VL.stepD rfl rfl (by decide) (OE.moveV (v := .int .i64 id) rfl ?_)
  obtain ⟨x3A, x3n, x3c, hl4, H⟩ := H
  refine VL.stepD rfl rfl (by decide) (OE.lookup (m := .map x1) (k := .int .i64 id) rfl rfl hl4 ?_)
  refine VL.stepD rfl rfl (by decide) (OE.assignV (v := .slice x3A x3n x3c) rfl ?_)
  refine VL.nil ?_
  change VC _ _ _ _ _ _ _
  refine VC.ret ?_
  exact ⟨rfl, _, ResOK.t1 rfl (v := .slice x3A x3n x3c) rfl, H⟩


end Go.Proofs
