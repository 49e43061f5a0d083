/- Part of a proof, by program out of hand-written texts. -/
import Derived.Test.YteabnfdeklajlaaGreatF1
set_option linter.unusedVariables false
set_option linter.unusedSimpArgs false
set_option maxRecDepth 10000
namespace Go.Proofs
open Go Go.V
def D_disk_named.J2 (R : Value → Hp → Prop)    (h4 : Hp) : Prop :=
  R (.bool true) h4
def D_disk_named.J4 (R : Value → Hp → Prop) (C7 : Int → Hp → Prop) (j5 : Int) (j9 : Bool) (h10 : Hp) : Prop :=
  ((j9 = true → R (.bool false) h10) ∧ (j9 = false → C7 (IntKind.i64.wrap (j5 + 1)) h10))
def D_disk_named.L3 (R : Value → Hp → Prop)  (s : ByteArray) (C7 : Int → Hp → Prop) (j5 : Int) (h6 : Hp) : Prop :=
  (((decide (j5 < ((ByteArray.size s : Nat) : Int))) = true → ((0 : Int) ≤ j5 ∧ ∃ x12 : UInt8, s[Int.toNat j5]? = some x12 ∧ (((decide ((x12.toNat : Int) < 33)) = true → D_disk_named.J4 R C7 j5 true h6) ∧ ((decide ((x12.toNat : Int) < 33)) = false → ((0 : Int) ≤ j5 ∧ ∃ x16 : UInt8, s[Int.toNat j5]? = some x16 ∧ D_disk_named.J4 R C7 j5 (decide ((x16.toNat : Int) > 126)) h6))))) ∧ ((decide (j5 < ((ByteArray.size s : Nat) : Int))) = false → D_disk_named.J2 R    h6))
def D_disk_named.J1 (R : Value → Hp → Prop)  (s : ByteArray) (j1 : Bool) (h2 : Hp) : Prop :=
  ((j1 = true → R (.bool false) h2) ∧ (j1 = false → (∃ Inv : Int → Hp → Nat → Prop, (∃ m, Inv 0 h2 m) ∧ ∀ j5 h6 m, Inv j5 h6 m → D_disk_named.L3 R  s (fun j5 h6 => ∃ m1, m1 < m ∧ Inv j5 h6 m1) j5 h6)))
def D_disk_named (R : Value → Hp → Prop) (s : ByteArray) (h : Hp) : Prop :=
  (((((ByteArray.size s : Nat) : Int) == 0) = true → D_disk_named.J1 R  s true h) ∧ ((((ByteArray.size s : Nat) : Int) == 0) = false → D_disk_named.J1 R  s (decide (((ByteArray.size s : Nat) : Int) > 40)) h))
set_option maxRecDepth 10000 in
set_option maxHeartbeats 4000000 in
theorem D_disk_named.sound {R : Value → Hp → Prop} {s : ByteArray} {h : Hp} (H : D_disk_named R  s h) : CH Tryz.prog 82 #[.string s] h R := by
  refine CHE.enter (n := 28) Tryz.func82 rfl rfl (Nat.le_of_ble_eq_true rfl) ?_
  unfold D_disk_named at H
  refine VC.seq ?_
  refine VC.region ?_
  refine VL.stepD rfl rfl (by decide) (OE.assignV (v := .bool false) rfl ?_)
  refine VL.nil ?_
  change VC _ _ _ _ _ _ _
  refine VC.seq ?_
  refine VC.seqJ (fun f h2 => ∃ j1 : Bool, f 0 = (.string s : Value) ∧ f 11 = (.bool j1 : Value) ∧ D_disk_named.J1 R  s j1 h2) ?_ ?_
  · intro f h2 J
    obtain ⟨j1, hk0, hk11, H⟩ := J
    rw [← fr_self f [(0, .string s), (11, .bool j1)] (by simp only [List.mem_cons, List.not_mem_nil, or_false]; rintro p (rfl | rfl) <;> assumption)]
    unfold D_disk_named.J1 at H
    refine VC.cond (t := j1) rfl (fun e3 => ?_) (fun e3 => ?_)
    · have H := H.1 e3
      refine VC.seq ?_
      refine VC.region ?_
      refine VL.stepD rfl rfl (by decide) (OE.assignV (v := .bool false) rfl ?_)
      refine VL.nil ?_
      change VC _ _ _ _ _ _ _
      refine VC.ret ?_
      exact ⟨rfl, _, ResOK.t1 rfl (v := .bool false) rfl, H⟩
    · have H := H.2 e3
      refine VC.skip ?_
      change VC _ _ _ _ _ _ _
      refine VC.seqJ (fun f h4 => D_disk_named.J2 R    h4) ?_ ?_
      · intro f h4 J
        have H := J
        skip
        unfold D_disk_named.J2 at H
        refine VC.seq ?_
        refine VC.region ?_
        refine VL.stepD rfl rfl (by decide) (OE.assignV (v := .bool true) rfl ?_)
        refine VL.nil ?_
        change VC _ _ _ _ _ _ _
        refine VC.ret ?_
        exact ⟨rfl, _, ResOK.t1 rfl (v := .bool true) rfl, H⟩
      · skip
        refine VC.seq ?_
        refine VC.region ?_
        refine VL.stepD rfl rfl (by decide) (OE.moveV (v := .string s) rfl ?_)
        refine VL.stepD rfl rfl (by decide) (OE.lenString rfl Tryz.underlying9 ?_)
        refine VL.stepD rfl rfl (by decide) (OE.moveV (v := .int .i64 0) rfl ?_)
        refine VL.nil ?_
        change VC _ _ _ _ _ _ _
        refine VC.block ?_
        obtain ⟨Inv, ⟨m0, h0⟩, H⟩ := H
        refine VC.loop (fun ds f h6 m => ds = [] ∧ ∃ j5 : Int, f 0 = (.string s : Value) ∧ f 13 = (.int .i64 ((ByteArray.size s : Nat) : Int) : Value) ∧ f 14 = (.int .i64 j5 : Value) ∧ Inv j5 h6 m) (m0 := m0) ⟨rfl, 0, rfl, rfl, rfl, h0⟩ ?_
        intro ds f h6 m I
        obtain ⟨rfl, j5, hk0, hk13, hk14, I⟩ := I
        rw [← fr_self f [(0, .string s), (13, .int .i64 ((ByteArray.size s : Nat) : Int)), (14, .int .i64 j5)] (by simp only [List.mem_cons, List.not_mem_nil, or_false]; rintro p (rfl | rfl | rfl) <;> assumption)]
        obtain ⟨C7, eC7⟩ : ∃ C7 : Int → Hp → Prop, C7 = (fun j5 h6 => ∃ m1, m1 < m ∧ Inv j5 h6 m1) := ⟨_, rfl⟩
        have H : D_disk_named.L3 R  s C7 j5 h6 := by rw [eC7]; exact H j5 h6 m I
        unfold D_disk_named.L3 at H
        refine VC.seq ?_
        refine VC.region ?_
        refine VL.stepD rfl rfl (by decide) (OE.binI (v := .bool (decide (j5 < ((ByteArray.size s : Nat) : Int)))) rfl rfl rfl ?_)
        refine VL.nil ?_
        change VC _ _ _ _ _ _ _
        refine VC.seq ?_
        refine VC.cond (t := (decide (j5 < ((ByteArray.size s : Nat) : Int)))) rfl (fun e8 => ?_) (fun e8 => ?_)
        · have H := H.1 e8
          refine VC.skip ?_
          change VC _ _ _ _ _ _ _
          refine VC.seq ?_
          refine VC.block ?_
          refine VC.seq ?_
          refine VC.region ?_
          refine VL.stepD rfl rfl (by decide) (OE.moveV (v := .int .i64 j5) rfl ?_)
          refine VL.stepD rfl rfl (by decide) (OE.assignV (v := .int .i64 j5) rfl ?_)
          refine VL.nil ?_
          change VC _ _ _ _ _ _ _
          refine VC.seqJ (fun f h10 => ∃ j9 : Bool, f 0 = (.string s : Value) ∧ f 13 = (.int .i64 ((ByteArray.size s : Nat) : Int) : Value) ∧ f 14 = (.int .i64 j5 : Value) ∧ f 26 = (.bool j9 : Value) ∧ D_disk_named.J4 R C7 j5 j9 h10) ?_ ?_
          · intro f h10 J
            obtain ⟨j9, hk0, hk13, hk14, hk26, H⟩ := J
            rw [← fr_self f [(0, .string s), (13, .int .i64 ((ByteArray.size s : Nat) : Int)), (14, .int .i64 j5), (26, .bool j9)] (by simp only [List.mem_cons, List.not_mem_nil, or_false]; rintro p (rfl | rfl | rfl | rfl) <;> assumption)]
            unfold D_disk_named.J4 at H
            refine VC.cond (t := j9) rfl (fun e11 => ?_) (fun e11 => ?_)
            · have H := H.1 e11
              refine VC.seq ?_
              refine VC.region ?_
              refine VL.stepD rfl rfl (by decide) (OE.assignV (v := .bool false) rfl ?_)
              refine VL.nil ?_
              change VC _ _ _ _ _ _ _
              refine VC.ret ?_
              exact ⟨rfl, _, ResOK.t1 rfl (v := .bool false) rfl, H⟩
            · have H := H.2 e11
              refine VC.skip ?_
              change VC _ _ _ _ _ _ _
              refine VC.region ?_
              refine VL.stepD rfl rfl (by decide) (OE.binI (v := .int .i64 (IntKind.i64.wrap (j5 + 1))) rfl rfl rfl ?_)
              refine VL.stepD rfl rfl (by decide) (OE.moveV (v := .int .i64 (IntKind.i64.wrap (j5 + 1))) rfl ?_)
              refine VL.nil ?_
              rw [eC7] at H
              obtain ⟨m1, hm1, H⟩ := H
              exact ⟨m1, hm1, rfl, (IntKind.i64.wrap (j5 + 1)), rfl, rfl, rfl, H⟩
          · skip
            refine VC.region ?_
            refine VL.stepD rfl rfl (by decide) (OE.moveV (v := .string s) rfl ?_)
            refine VL.stepD rfl rfl (by decide) (OE.moveV (v := .int .i64 j5) rfl ?_)
            obtain ⟨z14, x12, e13, H⟩ := H
            refine VL.stepD rfl rfl (by decide) (OE.indexStr rfl rfl Tryz.underlying9 z14 e13 ?_)
            refine VL.stepD rfl rfl (by decide) (OE.binI (v := .bool (decide ((x12.toNat : Int) < 33))) rfl rfl rfl ?_)
            refine VL.stepD rfl rfl (by decide) (OE.moveV (v := .bool (decide ((x12.toNat : Int) < 33))) rfl ?_)
            refine boolSplit ((decide ((x12.toNat : Int) < 33))) (fun e15 => ?_) (fun e15 => ?_)
            · have H := H.1 e15
              refine VL.gskipD rfl rfl (by decide) (.inl (congrArg Value.bool e15)) rfl (by decide) ?_
              refine VL.gskipD rfl rfl (by decide) (.inl (congrArg Value.bool e15)) rfl (by decide) ?_
              refine VL.gskipD rfl rfl (by decide) (.inl (congrArg Value.bool e15)) rfl (by decide) ?_
              refine VL.gskipD rfl rfl (by decide) (.inl (congrArg Value.bool e15)) rfl (by decide) ?_
              refine VL.stepD rfl rfl (by decide) (OE.pickV (t := true) (v := .bool true) (congrArg Value.bool e15) rfl ?_)
              refine VL.nil ?_
              exact ⟨rfl, true, rfl, rfl, rfl, rfl, H⟩
            · have H := H.2 e15
              refine VL.gstepD rfl rfl (by decide) (congrArg Value.bool e15) rfl (by decide) (OE.moveV (v := .string s) rfl ?_)
              refine VL.gstepD rfl rfl (by decide) (congrArg Value.bool e15) rfl (by decide) (OE.moveV (v := .int .i64 j5) rfl ?_)
              obtain ⟨z18, x16, e17, H⟩ := H
              refine VL.gstepD rfl rfl (by decide) (congrArg Value.bool e15) rfl (by decide) (OE.indexStr rfl rfl Tryz.underlying9 z18 e17 ?_)
              refine VL.gstepD rfl rfl (by decide) (congrArg Value.bool e15) rfl (by decide) (OE.binI (v := .bool (decide ((x16.toNat : Int) > 126))) rfl rfl rfl ?_)
              refine VL.stepD rfl rfl (by decide) (OE.pickV (t := false) (v := .bool (decide ((x16.toNat : Int) > 126))) (congrArg Value.bool e15) rfl ?_)
              refine VL.nil ?_
              exact ⟨rfl, (decide ((x16.toNat : Int) > 126)), rfl, rfl, rfl, rfl, H⟩
        · have H := H.2 e8
          refine VC.exit ?_
          exact ⟨rfl, H⟩
  · skip
    refine VC.region ?_
    refine VL.stepD rfl rfl (by decide) (OE.moveV (v := .string s) rfl ?_)
    refine VL.stepD rfl rfl (by decide) (OE.lenString rfl Tryz.underlying9 ?_)
    refine VL.stepD rfl rfl (by decide) (OE.binI (v := .bool (((ByteArray.size s : Nat) : Int) == 0)) rfl rfl rfl ?_)
    refine VL.stepD rfl rfl (by decide) (OE.moveV (v := .bool (((ByteArray.size s : Nat) : Int) == 0)) rfl ?_)
    refine boolSplit ((((ByteArray.size s : Nat) : Int) == 0)) (fun e19 => ?_) (fun e19 => ?_)
    · have H := H.1 e19
      refine VL.gskipD rfl rfl (by decide) (.inl (congrArg Value.bool e19)) rfl (by decide) ?_
      refine VL.gskipD rfl rfl (by decide) (.inl (congrArg Value.bool e19)) rfl (by decide) ?_
      refine VL.gskipD rfl rfl (by decide) (.inl (congrArg Value.bool e19)) rfl (by decide) ?_
      refine VL.stepD rfl rfl (by decide) (OE.pickV (t := true) (v := .bool true) (congrArg Value.bool e19) rfl ?_)
      refine VL.nil ?_
      exact ⟨rfl, true, rfl, rfl, H⟩
    · have H := H.2 e19
      refine VL.gstepD rfl rfl (by decide) (congrArg Value.bool e19) rfl (by decide) (OE.moveV (v := .string s) rfl ?_)
      refine VL.gstepD rfl rfl (by decide) (congrArg Value.bool e19) rfl (by decide) (OE.lenString rfl Tryz.underlying9 ?_)
      refine VL.gstepD rfl rfl (by decide) (congrArg Value.bool e19) rfl (by decide) (OE.binI (v := .bool (decide (((ByteArray.size s : Nat) : Int) > 40))) rfl rfl rfl ?_)
      refine VL.stepD rfl rfl (by decide) (OE.pickV (t := false) (v := .bool (decide (((ByteArray.size s : Nat) : Int) > 40))) (congrArg Value.bool e19) rfl ?_)
      refine VL.nil ?_
      exact ⟨rfl, (decide (((ByteArray.size s : Nat) : Int) > 40)), rfl, rfl, H⟩

def D_disk_Disk_Safe_1 (R : Value → Hp → Prop) (id : Int) (c0 : Addr) (h : Hp) : Prop :=
  (∃ x1 : Option Addr, cell h c0 = some (.pointer x1) ∧ (∃ a3 : Addr, x1 = some a3 ∧ (∃ x5 : Option Nat, cell h (a3.add 3) = some (.map x5) ∧ (∃ x7 : Option Addr, MLk Tryz.prog 100 h (.map x5) (.int .i64 id) false (.pointer x7) ∧ (∃ a9 : Addr, x7 = some a9 ∧ (∃ x11A : Option Addr, ∃ x11n : Nat, ∃ x11c : Nat, cell h a9 = some (.slice x11A x11n x11c) ∧ CH Tryz.prog 48 #[.slice x11A x11n x11c] h (fun r13 h14 => ∃ y15A : Option Addr, ∃ y15n : Nat, ∃ y15c : Nat, r13 = .slice y15A y15n y15c ∧ R (.slice y15A y15n y15c) h14)))))))
set_option maxRecDepth 10000 in
set_option maxHeartbeats 4000000 in
theorem D_disk_Disk_Safe_1.sound {R : Value → Hp → Prop} {id : Int} {c0 : Addr} {h : Hp} (H : D_disk_Disk_Safe_1 R  id c0 h) : CH Tryz.prog 88 #[.int .i64 id, .pointer (some c0)] h R := by
  refine CHE.enter (n := 14) Tryz.func88 rfl rfl (Nat.le_of_ble_eq_true rfl) ?_
  unfold D_disk_Disk_Safe_1 at H
  refine VC.seq ?_
  refine VC.region ?_
  refine VL.stepD rfl rfl (by decide) (OE.assignV (v := .slice none 0 0) rfl ?_)
  refine VL.nil ?_
  change VC _ _ _ _ _ _ _
  refine VC.seq ?_
  refine VC.region ?_
  obtain ⟨x1, hl2, H⟩ := H
  refine VL.stepD rfl rfl (by decide) (OE.load (a := c0) (v := .pointer x1) rfl (LdT.one Tryz.underlying24 rfl hl2) ?_)
  obtain ⟨a3, e4, H⟩ := H
  refine VL.stepD rfl rfl (by decide) (OE.nilCheck (a := a3) (congrArg Value.pointer e4) ?_)
  refine VL.stepD rfl rfl (by decide) (OE.fieldAddrI (a := a3) (o := 3) rfl Tryz.underlying104 rfl Tryz.i100 (by decide) rfl ?_)
  obtain ⟨x5, hl6, H⟩ := H
  refine VL.stepD rfl rfl (by decide) (OE.load (a := (a3.add 3)) (v := .map x5) rfl (LdT.one Tryz.underlying100 rfl hl6) ?_)
  refine VL.stepD rfl rfl (by decide) (OE.moveV (v := .int .i64 id) rfl ?_)
  obtain ⟨x7, hl8, H⟩ := H
  refine VL.stepD rfl rfl (by decide) (OE.lookup (m := .map x5) (k := .int .i64 id) rfl rfl hl8 ?_)
  obtain ⟨a9, e10, H⟩ := H
  refine VL.stepD rfl rfl (by decide) (OE.nilCheck (a := a9) (congrArg Value.pointer e10) ?_)
  refine VL.stepD rfl rfl (by decide) (OE.fieldAddrI (a := a9) (o := 0) rfl Tryz.underlying111 rfl Tryz.i22 (by decide) rfl ?_)
  obtain ⟨x11A, x11n, x11c, hl12, H⟩ := H
  refine VL.stepD rfl rfl (by decide) (OE.load (a := a9) (v := .slice x11A x11n x11c) rfl (LdT.one Tryz.underlying22 rfl hl12) ?_)
  refine VL.stepD rfl rfl (by decide) (OE.callL (args := [.slice x11A x11n x11c]) Tryz.func48 rfl Tryz.nn48 rfl rfl (CHE.mono H (fun r13 h14 H => ?_) (fun _ _ e => e.elim)))
  obtain ⟨y15A, y15n, y15c, rfl, H⟩ := H
  refine VL.stepD rfl rfl (by decide) (OE.assignV (v := .slice y15A y15n y15c) rfl ?_)
  refine VL.nil ?_
  change VC _ _ _ _ _ _ _
  refine VC.ret ?_
  exact ⟨rfl, _, ResOK.t1 rfl (v := .slice y15A y15n y15c) rfl, H⟩

def D_disk_Disk_Files_1 (R : Value → Hp → Prop) (id : Int) (c0 : Addr) (h : Hp) : Prop :=
  (∃ x1 : Option Addr, cell h c0 = some (.pointer x1) ∧ (∃ a3 : Addr, x1 = some a3 ∧ (∃ x5 : Option Nat, cell h (a3.add 3) = some (.map x5) ∧ (∃ x7 : Option Addr, MLk Tryz.prog 100 h (.map x5) (.int .i64 id) false (.pointer x7) ∧ CH Tryz.prog 54 #[.pointer x7] h (fun r9 h10 => ∃ y11A : Option Addr, ∃ y11n : Nat, ∃ y11c : Nat, r9 = .slice y11A y11n y11c ∧ R (.slice y11A y11n y11c) h10)))))
set_option maxRecDepth 10000 in
set_option maxHeartbeats 4000000 in
theorem D_disk_Disk_Files_1.sound {R : Value → Hp → Prop} {id : Int} {c0 : Addr} {h : Hp} (H : D_disk_Disk_Files_1 R  id c0 h) : CH Tryz.prog 90 #[.int .i64 id, .pointer (some c0)] h R := by
  refine CHE.enter (n := 11) Tryz.func90 rfl rfl (Nat.le_of_ble_eq_true rfl) ?_
  unfold D_disk_Disk_Files_1 at H
  refine VC.seq ?_
  refine VC.region ?_
  refine VL.stepD rfl rfl (by decide) (OE.assignV (v := .slice none 0 0) rfl ?_)
  refine VL.nil ?_
  change VC _ _ _ _ _ _ _
  refine VC.seq ?_
  refine VC.region ?_
  obtain ⟨x1, hl2, H⟩ := H
  refine VL.stepD rfl rfl (by decide) (OE.load (a := c0) (v := .pointer x1) rfl (LdT.one Tryz.underlying24 rfl hl2) ?_)
  obtain ⟨a3, e4, H⟩ := H
  refine VL.stepD rfl rfl (by decide) (OE.nilCheck (a := a3) (congrArg Value.pointer e4) ?_)
  refine VL.stepD rfl rfl (by decide) (OE.fieldAddrI (a := a3) (o := 3) rfl Tryz.underlying104 rfl Tryz.i100 (by decide) rfl ?_)
  obtain ⟨x5, hl6, H⟩ := H
  refine VL.stepD rfl rfl (by decide) (OE.load (a := (a3.add 3)) (v := .map x5) rfl (LdT.one Tryz.underlying100 rfl hl6) ?_)
  refine VL.stepD rfl rfl (by decide) (OE.moveV (v := .int .i64 id) rfl ?_)
  obtain ⟨x7, hl8, H⟩ := H
  refine VL.stepD rfl rfl (by decide) (OE.lookup (m := .map x5) (k := .int .i64 id) rfl rfl hl8 ?_)
  refine VL.stepD rfl rfl (by decide) (OE.callL (args := [.pointer x7]) Tryz.func54 rfl Tryz.nn54 rfl rfl (CHE.mono H (fun r9 h10 H => ?_) (fun _ _ e => e.elim)))
  obtain ⟨y11A, y11n, y11c, rfl, H⟩ := H
  refine VL.stepD rfl rfl (by decide) (OE.assignV (v := .slice y11A y11n y11c) rfl ?_)
  refine VL.nil ?_
  change VC _ _ _ _ _ _ _
  refine VC.ret ?_
  exact ⟨rfl, _, ResOK.t1 rfl (v := .slice y11A y11n y11c) rfl, H⟩

def D_disk_alive.J1 (R : Value → Hp → Prop)   (j7A : Option Addr) (j7n : Nat) (j7c : Nat) (h8 : Hp) : Prop :=
  CH Tryz.prog 104 #[.slice j7A j7n j7c] h8 (fun r9 h10 => CH Tryz.prog 105 #[.slice j7A j7n j7c] h10 (fun r11 h12 => ∃ y13A : Option Addr, ∃ y13n : Nat, ∃ y13c : Nat, r11 = .slice y13A y13n y13c ∧ R (.slice y13A y13n y13c) h12))
def D_disk_alive.J3 (R : Value → Hp → Prop) (C18 : Option Addr → Nat → Nat → Int → Hp → Prop) (j16 : Int) (j20A : Option Addr) (j20n : Nat) (j20c : Nat) (h21 : Hp) : Prop :=
  C18 j20A j20n j20c (IntKind.i64.wrap (j16 + 1)) h21
def D_disk_alive.L2 (R : Value → Hp → Prop)  (turnsA : Option Addr) (turnsn : Nat) (C18 : Option Addr → Nat → Nat → Int → Hp → Prop) (j15A : Option Addr) (j15n : Nat) (j15c : Nat) (j16 : Int) (h17 : Hp) : Prop :=
  (((decide (j16 < ((turnsn : Nat) : Int))) = true → (∃ a22 : Addr, turnsA = some a22 ∧ (0 : Int) ≤ j16 ∧ j16 < (turnsn : Int) ∧ (∃ x26_0 : ByteArray, ∃ x26_1 : ByteArray, ∃ x26_2 : Int, Row h17 (a22.add (Int.toNat j16 * 3)) [.string x26_0, .string x26_1, .int .i64 x26_2] ∧ (∀ b29 h28, b29 = Array.size h17 → h28 = Array.push h17 (.cells #[.string ByteArray.empty, .string ByteArray.empty, .int .i64 0] 107) → ((∀ j, j < 3 → Wr h28 (Addr.add (Addr.mk b29 0 none) j)) ∧ ∀ h30, h30 = setRow h28 (Addr.mk b29 0 none) [.string x26_0, .string x26_1, .int .i64 x26_2] 0 → (∃ x32 : ByteArray, cell h30 ((Addr.mk b29 0 none).add 1) = some (.string x32) ∧ (((!(x32.toList == (ByteArray.mk #[]).toList)) = true → (∃ x35 : Int, cell h30 ((Addr.mk b29 0 none).add 2) = some (.int .i64 x35) ∧ (∀ b38 h37, b38 = Array.size h30 → h37 = Array.push h30 (.cells #[.int .i64 x35] 3) → (∃ vs39 : List Value, Src h37 (1 * 1) vs39 (some (Addr.mk b38 0 none)) ∧ (∀ v ∈ vs39, oneC v = true) ∧ (j15n + 1) * 8 ≤ 140737488355328 ∧ j15n + 1 ≤ 9223372036854775807 ∧ AppendV 3 (.int .i64 0 : Value) 1 h37 j15A j15n j15c 1 vs39 (fun A44 n45 c46 h47 => D_disk_alive.J3 R C18 j16 A44 n45 c46 h47))))) ∧ ((!(x32.toList == (ByteArray.mk #[]).toList)) = false → D_disk_alive.J3 R C18 j16 j15A j15n j15c h30)))))))) ∧ ((decide (j16 < ((turnsn : Nat) : Int))) = false → D_disk_alive.J1 R   j15A j15n j15c h17))
def D_disk_alive (R : Value → Hp → Prop) (names : Option Nat) (turnsA : Option Addr) (turnsn : Nat) (turnsc : Nat) (h : Hp) : Prop :=
  CH Tryz.prog 103 #[.map names] h (fun r1 h2 => CH Tryz.prog 102 #[r1] h2 (fun r4 h5 => ∃ y6A : Option Addr, ∃ y6n : Nat, ∃ y6c : Nat, r4 = .slice y6A y6n y6c ∧ (∃ Inv : Option Addr → Nat → Nat → Int → Hp → Nat → Prop, (∃ m, Inv y6A y6n y6c 0 h5 m) ∧ ∀ j15A j15n j15c j16 h17 m, Inv j15A j15n j15c j16 h17 m → D_disk_alive.L2 R  turnsA turnsn (fun j15A j15n j15c j16 h17 => ∃ m1, m1 < m ∧ Inv j15A j15n j15c j16 h17 m1) j15A j15n j15c j16 h17)))
set_option maxRecDepth 10000 in
set_option maxHeartbeats 4000000 in
theorem D_disk_alive.sound {R : Value → Hp → Prop} {names : Option Nat} {turnsA : Option Addr} {turnsn : Nat} {turnsc : Nat} {h : Hp} (H : D_disk_alive R  names turnsA turnsn turnsc h) : CH Tryz.prog 91 #[.map names, .slice turnsA turnsn turnsc] h R := by
  refine CHE.enter (n := 30) Tryz.func91 rfl rfl (Nat.le_of_ble_eq_true rfl) ?_
  unfold D_disk_alive at H
  refine VC.seq ?_
  refine VC.region ?_
  refine VL.stepD rfl rfl (by decide) (OE.assignV (v := .slice none 0 0) rfl ?_)
  refine VL.nil ?_
  change VC _ _ _ _ _ _ _
  refine VC.seq ?_
  refine VC.region ?_
  refine VL.stepD rfl rfl (by decide) (OE.moveV (v := .map names) rfl ?_)
  refine VL.stepD rfl rfl (by decide) (OE.callL (args := [.map names]) Tryz.func103 rfl Tryz.nn103 rfl rfl (CHE.mono H (fun r1 h2 H => ?_) (fun _ _ e => e.elim)))
  refine VL.stepD rfl rfl (by decide) (OE.callL (args := [r1]) Tryz.func102 rfl Tryz.nn102 rfl rfl (CHE.mono H (fun r4 h5 H => ?_) (fun _ _ e => e.elim)))
  obtain ⟨y6A, y6n, y6c, rfl, H⟩ := H
  refine VL.stepD rfl rfl (by decide) (OE.assignV (v := .slice y6A y6n y6c) rfl ?_)
  refine VL.nil ?_
  change VC _ _ _ _ _ _ _
  refine VC.seqJ (fun f h8 => ∃ j7A : Option Addr, ∃ j7n : Nat, ∃ j7c : Nat, f 5 = (.slice j7A j7n j7c : Value) ∧ D_disk_alive.J1 R   j7A j7n j7c h8) ?_ ?_
  · intro f h8 J
    obtain ⟨j7A, j7n, j7c, hk5, H⟩ := J
    rw [← fr_self f [(5, .slice j7A j7n j7c)] (by simp only [List.mem_cons, List.not_mem_nil, or_false]; rintro p (rfl) <;> assumption)]
    unfold D_disk_alive.J1 at H
    refine VC.seq ?_
    refine VC.region ?_
    refine VL.stepD rfl rfl (by decide) (OE.moveV (v := .slice j7A j7n j7c) rfl ?_)
    refine VL.stepD rfl rfl (by decide) (OE.callL (args := [.slice j7A j7n j7c]) Tryz.func104 rfl Tryz.nn104 rfl rfl (CHE.mono H (fun r9 h10 H => ?_) (fun _ _ e => e.elim)))
    refine VL.nil ?_
    change VC _ _ _ _ _ _ _
    refine VC.seq ?_
    refine VC.region ?_
    refine VL.stepD rfl rfl (by decide) (OE.moveV (v := .slice j7A j7n j7c) rfl ?_)
    refine VL.stepD rfl rfl (by decide) (OE.callL (args := [.slice j7A j7n j7c]) Tryz.func105 rfl Tryz.nn105 rfl rfl (CHE.mono H (fun r11 h12 H => ?_) (fun _ _ e => e.elim)))
    obtain ⟨y13A, y13n, y13c, rfl, H⟩ := H
    refine VL.stepD rfl rfl (by decide) (OE.assignV (v := .slice y13A y13n y13c) rfl ?_)
    refine VL.nil ?_
    change VC _ _ _ _ _ _ _
    refine VC.ret ?_
    exact ⟨rfl, _, ResOK.t1 rfl (v := .slice y13A y13n y13c) rfl, H⟩
  · skip
    refine VC.seq ?_
    refine VC.region ?_
    refine VL.stepD rfl rfl (by decide) (OE.moveV (v := .slice turnsA turnsn turnsc) rfl ?_)
    refine VL.stepD rfl rfl (by decide) (OE.lenSlice rfl Tryz.underlying102 ?_)
    refine VL.stepD rfl rfl (by decide) (OE.moveV (v := .int .i64 0) rfl ?_)
    refine VL.nil ?_
    change VC _ _ _ _ _ _ _
    refine VC.block ?_
    obtain ⟨Inv, ⟨m0, h0⟩, H⟩ := H
    refine VC.loop (fun ds f h17 m => ds = [] ∧ ∃ j15A : Option Addr, ∃ j15n : Nat, ∃ j15c : Nat, ∃ j16 : Int, f 5 = (.slice j15A j15n j15c : Value) ∧ f 11 = (.slice turnsA turnsn turnsc : Value) ∧ f 12 = (.int .i64 ((turnsn : Nat) : Int) : Value) ∧ f 13 = (.int .i64 j16 : Value) ∧ Inv j15A j15n j15c j16 h17 m) (m0 := m0) ⟨rfl, y6A, y6n, y6c, 0, rfl, rfl, rfl, rfl, h0⟩ ?_
    intro ds f h17 m I
    obtain ⟨rfl, j15A, j15n, j15c, j16, hk5, hk11, hk12, hk13, I⟩ := I
    rw [← fr_self f [(5, .slice j15A j15n j15c), (11, .slice turnsA turnsn turnsc), (12, .int .i64 ((turnsn : Nat) : Int)), (13, .int .i64 j16)] (by simp only [List.mem_cons, List.not_mem_nil, or_false]; rintro p (rfl | rfl | rfl | rfl) <;> assumption)]
    obtain ⟨C18, eC18⟩ : ∃ C18 : Option Addr → Nat → Nat → Int → Hp → Prop, C18 = (fun j15A j15n j15c j16 h17 => ∃ m1, m1 < m ∧ Inv j15A j15n j15c j16 h17 m1) := ⟨_, rfl⟩
    have H : D_disk_alive.L2 R  turnsA turnsn C18 j15A j15n j15c j16 h17 := by rw [eC18]; exact H j15A j15n j15c j16 h17 m I
    unfold D_disk_alive.L2 at H
    refine VC.seq ?_
    refine VC.region ?_
    refine VL.stepD rfl rfl (by decide) (OE.binI (v := .bool (decide (j16 < ((turnsn : Nat) : Int)))) rfl rfl rfl ?_)
    refine VL.nil ?_
    change VC _ _ _ _ _ _ _
    refine VC.seq ?_
    refine VC.cond (t := (decide (j16 < ((turnsn : Nat) : Int)))) rfl (fun e19 => ?_) (fun e19 => ?_)
    · have H := H.1 e19
      refine VC.skip ?_
      change VC _ _ _ _ _ _ _
      refine VC.seqJ (fun f h21 => ∃ j20A : Option Addr, ∃ j20n : Nat, ∃ j20c : Nat, f 5 = (.slice j20A j20n j20c : Value) ∧ f 11 = (.slice turnsA turnsn turnsc : Value) ∧ f 12 = (.int .i64 ((turnsn : Nat) : Int) : Value) ∧ f 13 = (.int .i64 j16 : Value) ∧ D_disk_alive.J3 R C18 j16 j20A j20n j20c h21) ?_ ?_
      · intro f h21 J
        obtain ⟨j20A, j20n, j20c, hk5, hk11, hk12, hk13, H⟩ := J
        rw [← fr_self f [(5, .slice j20A j20n j20c), (11, .slice turnsA turnsn turnsc), (12, .int .i64 ((turnsn : Nat) : Int)), (13, .int .i64 j16)] (by simp only [List.mem_cons, List.not_mem_nil, or_false]; rintro p (rfl | rfl | rfl | rfl) <;> assumption)]
        unfold D_disk_alive.J3 at H
        refine VC.region ?_
        refine VL.stepD rfl rfl (by decide) (OE.binI (v := .int .i64 (IntKind.i64.wrap (j16 + 1))) rfl rfl rfl ?_)
        refine VL.stepD rfl rfl (by decide) (OE.moveV (v := .int .i64 (IntKind.i64.wrap (j16 + 1))) rfl ?_)
        refine VL.nil ?_
        rw [eC18] at H
        obtain ⟨m1, hm1, H⟩ := H
        exact ⟨m1, hm1, rfl, j20A, j20n, j20c, (IntKind.i64.wrap (j16 + 1)), rfl, rfl, rfl, rfl, H⟩
      · skip
        refine VC.block ?_
        refine VC.seq ?_
        refine VC.region ?_
        obtain ⟨a22, e23, z24, z25, H⟩ := H
        refine VL.stepD rfl rfl (by decide) (OE.indexAddrI (sz := 3) rfl rfl Tryz.underlying102 Tryz.i107 e23 z24 z25 ?_)
        obtain ⟨x26_0, x26_1, x26_2, hl27, H⟩ := H
        refine VL.stepD rfl rfl (by decide) (OE.load (a := (a22.add (Int.toNat j16 * 3))) (v := .agg #[.string x26_0, .string x26_1, .int .i64 x26_2]) rfl (LdT.aggI Tryz.underlying107 rfl Tryz.i107 rfl hl27) ?_)
        obtain ⟨b29, eb51⟩ : ∃ b29, b29 = Array.size h17 := ⟨_, rfl⟩
        obtain ⟨h28, eh52⟩ : ∃ h28, h28 = Array.push h17 (.cells #[.string ByteArray.empty, .string ByteArray.empty, .int .i64 0] 107) := ⟨_, rfl⟩
        have H := H b29 h28 eb51 eh52
        refine VL.stepD rfl rfl (by decide) (OE.allocE (z := .agg #[.string ByteArray.empty, .string ByteArray.empty, .int .i64 0]) Tryz.i107 eb51 eh52 ?_)
        obtain ⟨hw31, H⟩ := H
        obtain ⟨h30, eh50⟩ : ∃ h30, h30 = setRow h28 (Addr.mk b29 0 none) [.string x26_0, .string x26_1, .int .i64 x26_2] 0 := ⟨_, rfl⟩
        have H := H h30 eh50
        refine VL.stepN rfl rfl (OE.storeE (a := (Addr.mk b29 0 none)) (v := .agg #[.string x26_0, .string x26_1, .int .i64 x26_2]) rfl rfl (StT.aggI (vs := [.string x26_0, .string x26_1, .int .i64 x26_2]) Tryz.i107 rfl hw31 (by simp [oneC])) eh50 ?_)
        refine VL.nil ?_
        change VC _ _ _ _ _ _ _
        refine VC.seq ?_
        refine VC.region ?_
        refine VL.stepD rfl rfl (by decide) (OE.fieldAddrI (a := (Addr.mk b29 0 none)) (o := 1) rfl Tryz.underlying107 rfl Tryz.i9 (by decide) rfl ?_)
        obtain ⟨x32, hl33, H⟩ := H
        refine VL.stepD rfl rfl (by decide) (OE.load (a := ((Addr.mk b29 0 none).add 1)) (v := .string x32) rfl (LdT.one Tryz.underlying9 rfl hl33) ?_)
        refine VL.stepD rfl rfl (by decide) (OE.binS (v := .bool (!(x32.toList == (ByteArray.mk #[]).toList))) rfl rfl rfl ?_)
        refine VL.nil ?_
        change VC _ _ _ _ _ _ _
        refine VC.cond (t := (!(x32.toList == (ByteArray.mk #[]).toList))) rfl (fun e34 => ?_) (fun e34 => ?_)
        · have H := H.1 e34
          refine VC.region ?_
          refine VL.stepD rfl rfl (by decide) (OE.moveV (v := .slice j15A j15n j15c) rfl ?_)
          refine VL.stepD rfl rfl (by decide) (OE.fieldAddrI (a := (Addr.mk b29 0 none)) (o := 2) rfl Tryz.underlying107 rfl Tryz.i3 (by decide) rfl ?_)
          obtain ⟨x35, hl36, H⟩ := H
          refine VL.stepD rfl rfl (by decide) (OE.load (a := ((Addr.mk b29 0 none).add 2)) (v := .int .i64 x35) rfl (LdT.one Tryz.underlying3 rfl hl36) ?_)
          obtain ⟨b38, eb48⟩ : ∃ b38, b38 = Array.size h30 := ⟨_, rfl⟩
          obtain ⟨h37, eh49⟩ : ∃ h37, h37 = Array.push h30 (.cells #[.int .i64 x35] 3) := ⟨_, rfl⟩
          have H := H b38 h37 eb48 eh49
          refine VL.stepD rfl rfl (by decide) (OE.buildSliceE (ps := [(0, (.int .i64 x35 : Value))]) (cells := #[.int .i64 x35]) (e := 3) rfl (Tryz.bf6 _) eb48 eh49 ?_)
          obtain ⟨vs39, z40, z41, z42, z43, H⟩ := H
          refine VL.stepD rfl rfl (by decide) (OE.appendV (z := (.int .i64 0 : Value)) (sz := 1) (bs := 8) rfl rfl Tryz.underlying44 Tryz.i3 z40 z41 z42 z43 (AppendV.mono H (fun A44 n45 c46 h47 H => ?_)))
          refine VL.stepD rfl rfl (by decide) (OE.assignV (v := .slice A44 n45 c46) rfl ?_)
          refine VL.nil ?_
          exact ⟨rfl, A44, n45, c46, rfl, rfl, rfl, rfl, H⟩
        · have H := H.2 e34
          refine VC.skip ?_
          exact ⟨rfl, j15A, j15n, j15c, rfl, rfl, rfl, rfl, H⟩
    · have H := H.2 e19
      refine VC.exit ?_
      exact ⟨rfl, j15A, j15n, j15c, rfl, H⟩

def D_disk_Disk_bury (R : Value → Hp → Prop) (d : Option Addr) (h : Hp) : Prop :=
  CH Tryz.prog 43 #[.pointer d] h (fun r1 h2 => ∃ y3A : Option Addr, ∃ y3n : Nat, ∃ y3c : Nat, r1 = .slice y3A y3n y3c ∧ (∀ b5 h4, b5 = Array.size h2 → h4 = Array.push h2 (.cells #[.slice none 0 0] 44) → (Wr h4 (Addr.mk b5 0 none) ∧ ∀ h6, h6 = setc h4 (Addr.mk b5 0 none) (.slice y3A y3n y3c) → (∃ a8 : Addr, d = some a8 ∧ (∃ x10 : Option Nat, cell h6 (a8.add 3) = some (.map x10) ∧ CH Tryz.prog 106 #[.map x10, .func (.func 107) #[] #[.pointer (some (Addr.mk b5 0 none))]] h6 (fun r12 h13 => R (.tuple #[]) h13))))))
set_option maxRecDepth 10000 in
set_option maxHeartbeats 4000000 in
theorem D_disk_Disk_bury.sound {R : Value → Hp → Prop} {d : Option Addr} {h : Hp} (H : D_disk_Disk_bury R  d h) : CH Tryz.prog 92 #[.pointer d] h R := by
  refine CHE.enter (n := 11) Tryz.func92 rfl rfl (Nat.le_of_ble_eq_true rfl) ?_
  unfold D_disk_Disk_bury at H
  refine VC.seq ?_
  refine VC.region ?_
  refine VL.stepD rfl rfl (by decide) (OE.moveV (v := .pointer d) rfl ?_)
  refine VL.stepD rfl rfl (by decide) (OE.callL (args := [.pointer d]) Tryz.func43 rfl Tryz.nn43 rfl rfl (CHE.mono H (fun r1 h2 H => ?_) (fun _ _ e => e.elim)))
  obtain ⟨y3A, y3n, y3c, rfl, H⟩ := H
  obtain ⟨b5, eb15⟩ : ∃ b5, b5 = Array.size h2 := ⟨_, rfl⟩
  obtain ⟨h4, eh16⟩ : ∃ h4, h4 = Array.push h2 (.cells #[.slice none 0 0] 44) := ⟨_, rfl⟩
  have H := H b5 h4 eb15 eh16
  refine VL.stepD rfl rfl (by decide) (OE.allocE (z := .slice none 0 0) Tryz.i44 eb15 eh16 ?_)
  obtain ⟨hw7, H⟩ := H
  obtain ⟨h6, eh14⟩ : ∃ h6, h6 = setc h4 (Addr.mk b5 0 none) (.slice y3A y3n y3c) := ⟨_, rfl⟩
  have H := H h6 eh14
  refine VL.stepN rfl rfl (OE.storeE (a := (Addr.mk b5 0 none)) (v := .slice y3A y3n y3c) rfl rfl (StT.oneI Tryz.i44 hw7 rfl) eh14 ?_)
  refine VL.nil ?_
  change VC _ _ _ _ _ _ _
  refine VC.region ?_
  refine VL.stepD rfl rfl (by decide) (OE.moveV (v := .pointer d) rfl ?_)
  obtain ⟨a8, e9, H⟩ := H
  refine VL.stepD rfl rfl (by decide) (OE.nilCheck (a := a8) (congrArg Value.pointer e9) ?_)
  refine VL.stepD rfl rfl (by decide) (OE.fieldAddrI (a := a8) (o := 3) rfl Tryz.underlying104 rfl Tryz.i100 (by decide) rfl ?_)
  obtain ⟨x10, hl11, H⟩ := H
  refine VL.stepD rfl rfl (by decide) (OE.load (a := (a8.add 3)) (v := .map x10) rfl (LdT.one Tryz.underlying100 rfl hl11) ?_)
  refine VL.stepD rfl rfl (by decide) (OE.makeFuncL (l := [.pointer (some (Addr.mk b5 0 none))]) rfl ?_)
  refine VL.stepD rfl rfl (by decide) (OE.callL (args := [.map x10, .func (.func 107) #[] #[.pointer (some (Addr.mk b5 0 none))]]) Tryz.func106 rfl Tryz.nn106 rfl rfl (CHE.mono H (fun r12 h13 H => ?_) (fun _ _ e => e.elim)))
  refine VL.nil ?_
  exact ⟨rfl, _, ResOK.none rfl, H⟩


def D_disk_turn_do (R : Value → Hp → Prop) (t_0 : ByteArray) (t_1 : ByteArray) (t_2 : Int) (m' : Option Nat) (h : Hp) : Prop :=
  (∀ b2 h1, b2 = Array.size h → h1 = Array.push h (.cells #[.string t_0, .string t_1, .int .i64 t_2] 107) → (∃ x3 : ByteArray, cell h1 (Addr.mk b2 0 none) = some (.string x3) ∧ (∃ Q18 : Hp → Prop, MDl Tryz.prog 101 9 h1 (.map m') (.string x3) Q18 ∧ ∀ h5, Q18 h5 → (∃ x7 : ByteArray, cell h5 ((Addr.mk b2 0 none).add 1) = some (.string x7) ∧ (((!(x7.toList == (ByteArray.mk #[]).toList)) = true → (∃ x10 : ByteArray, cell h5 ((Addr.mk b2 0 none).add 1) = some (.string x10) ∧ (∃ x12 : Int, cell h5 ((Addr.mk b2 0 none).add 2) = some (.int .i64 x12) ∧ (∃ Q16 : Hp → Prop, MUp Tryz.prog 101 h5 (.map m') (.string x10) (.int .i64 x12) Q16 ∧ ∀ h14, Q16 h14 → R (.tuple #[]) h14)))) ∧ ((!(x7.toList == (ByteArray.mk #[]).toList)) = false → R (.tuple #[]) h5))))))
set_option maxRecDepth 10000 in
set_option maxHeartbeats 4000000 in
theorem D_disk_turn_do.sound {R : Value → Hp → Prop} {t_0 : ByteArray} {t_1 : ByteArray} {t_2 : Int} {m' : Option Nat} {h : Hp} (H : D_disk_turn_do R  t_0 t_1 t_2 m' h) : CH Tryz.prog 94 #[.agg #[.string t_0, .string t_1, .int .i64 t_2], .map m'] h R := by
  refine CHE.enter (n := 15) Tryz.func94 rfl rfl (Nat.le_of_ble_eq_true rfl) ?_
  unfold D_disk_turn_do at H
  refine VC.seq ?_
  refine VC.region ?_
  obtain ⟨b2, eb20⟩ : ∃ b2, b2 = Array.size h := ⟨_, rfl⟩
  obtain ⟨h1, eh21⟩ : ∃ h1, h1 = Array.push h (.cells #[.string t_0, .string t_1, .int .i64 t_2] 107) := ⟨_, rfl⟩
  have H := H b2 h1 eb20 eh21
  refine VL.stepD rfl rfl (by decide) (OE.boxE (v := .agg #[.string t_0, .string t_1, .int .i64 t_2]) rfl eb20 eh21 ?_)
  refine VL.nil ?_
  change VC _ _ _ _ _ _ _
  refine VC.seq ?_
  refine VC.region ?_
  refine VL.stepD rfl rfl (by decide) (OE.moveV (v := .map m') rfl ?_)
  refine VL.stepD rfl rfl (by decide) (OE.fieldAddrI (a := (Addr.mk b2 0 none)) (o := 0) rfl Tryz.underlying107 rfl Tryz.i9 (by decide) rfl ?_)
  obtain ⟨x3, hl4, H⟩ := H
  refine VL.stepD rfl rfl (by decide) (OE.load (a := (Addr.mk b2 0 none)) (v := .string x3) rfl (LdT.one Tryz.underlying9 rfl hl4) ?_)
  obtain ⟨Q18, hl6, H⟩ := H
  refine VL.stepN rfl rfl (OE.delete (m := .map m') (k := .string x3) rfl rfl hl6 (fun h5 q19 => ?_))
  have H := H h5 q19
  refine VL.nil ?_
  change VC _ _ _ _ _ _ _
  refine VC.seq ?_
  refine VC.region ?_
  refine VL.stepD rfl rfl (by decide) (OE.fieldAddrI (a := (Addr.mk b2 0 none)) (o := 1) rfl Tryz.underlying107 rfl Tryz.i9 (by decide) rfl ?_)
  obtain ⟨x7, hl8, H⟩ := H
  refine VL.stepD rfl rfl (by decide) (OE.load (a := ((Addr.mk b2 0 none).add 1)) (v := .string x7) rfl (LdT.one Tryz.underlying9 rfl hl8) ?_)
  refine VL.stepD rfl rfl (by decide) (OE.binS (v := .bool (!(x7.toList == (ByteArray.mk #[]).toList))) rfl rfl rfl ?_)
  refine VL.nil ?_
  change VC _ _ _ _ _ _ _
  refine VC.cond (t := (!(x7.toList == (ByteArray.mk #[]).toList))) rfl (fun e9 => ?_) (fun e9 => ?_)
  · have H := H.1 e9
    refine VC.region ?_
    refine VL.stepD rfl rfl (by decide) (OE.moveV (v := .map m') rfl ?_)
    refine VL.stepD rfl rfl (by decide) (OE.fieldAddrI (a := (Addr.mk b2 0 none)) (o := 1) rfl Tryz.underlying107 rfl Tryz.i9 (by decide) rfl ?_)
    obtain ⟨x10, hl11, H⟩ := H
    refine VL.stepD rfl rfl (by decide) (OE.load (a := ((Addr.mk b2 0 none).add 1)) (v := .string x10) rfl (LdT.one Tryz.underlying9 rfl hl11) ?_)
    refine VL.stepD rfl rfl (by decide) (OE.fieldAddrI (a := (Addr.mk b2 0 none)) (o := 2) rfl Tryz.underlying107 rfl Tryz.i3 (by decide) rfl ?_)
    obtain ⟨x12, hl13, H⟩ := H
    refine VL.stepD rfl rfl (by decide) (OE.load (a := ((Addr.mk b2 0 none).add 2)) (v := .int .i64 x12) rfl (LdT.one Tryz.underlying3 rfl hl13) ?_)
    obtain ⟨Q16, hl15, H⟩ := H
    refine VL.stepN rfl rfl (OE.mapUpdate (m := .map m') (k := .string x10) (v := .int .i64 x12) rfl rfl rfl hl15 (fun h14 q17 => ?_))
    have H := H h14 q17
    refine VL.nil ?_
    exact ⟨rfl, _, ResOK.none rfl, H⟩
  · have H := H.2 e9
    refine VC.skip ?_
    exact ⟨rfl, _, ResOK.none rfl, H⟩

def D_slices_Clone_disk_turn (R : Value → Hp → Prop) (sA : Option Addr) (sn : Nat) (sc : Nat) (h : Hp) : Prop :=
  (((Option.isNone sA) = true → R (.slice none 0 0) h) ∧ ((Option.isNone sA) = false → (∀ b3 h2, b3 = Array.size h → h2 = Array.push h (.cells #[] 107) → (∃ vs4 : List Value, Src h2 (sn * 3) vs4 sA ∧ (∀ v ∈ vs4, oneC v = true) ∧ (0 + sn) * 40 ≤ 140737488355328 ∧ 0 + sn ≤ 9223372036854775807 ∧ AppendV 107 (.agg #[.string ByteArray.empty, .string ByteArray.empty, .int .i64 0] : Value) 3 h2 (some (Addr.mk b3 0 none)) 0 0 sn vs4 (fun A9 n10 c11 h12 => R (.slice A9 n10 c11) h12)))))
set_option maxRecDepth 10000 in
set_option maxHeartbeats 4000000 in
theorem D_slices_Clone_disk_turn.sound {R : Value → Hp → Prop} {sA : Option Addr} {sn : Nat} {sc : Nat} {h : Hp} (H : D_slices_Clone_disk_turn R  sA sn sc h) : CH Tryz.prog 95 #[.slice sA sn sc] h R := by
  refine CHE.enter (n := 8) Tryz.func95 rfl rfl (Nat.le_of_ble_eq_true rfl) ?_
  unfold D_slices_Clone_disk_turn at H
  refine VC.seq ?_
  refine VC.region ?_
  refine VL.stepD rfl rfl (by decide) (OE.assignV (v := .slice none 0 0) rfl ?_)
  refine VL.nil ?_
  change VC _ _ _ _ _ _ _
  refine VC.seq ?_
  refine VC.seq ?_
  refine VC.region ?_
  refine VL.stepD rfl rfl (by decide) (OE.moveV (v := .slice sA sn sc) rfl ?_)
  refine VL.stepD rfl rfl (by decide) (OE.sliceNil (b := (Option.isNone sA)) (A := sA) (n := sn) (c := sc) rfl rfl Tryz.underlying102 (.inl ⟨rfl, rfl⟩) ?_)
  refine VL.nil ?_
  change VC _ _ _ _ _ _ _
  refine VC.cond (t := (Option.isNone sA)) rfl (fun e1 => ?_) (fun e1 => ?_)
  · have H := H.1 e1
    refine VC.seq ?_
    refine VC.region ?_
    refine VL.stepD rfl rfl (by decide) (OE.assignV (v := .slice none 0 0) rfl ?_)
    refine VL.nil ?_
    change VC _ _ _ _ _ _ _
    refine VC.ret ?_
    exact ⟨rfl, _, ResOK.t1 rfl (v := .slice none 0 0) rfl, H⟩
  · have H := H.2 e1
    refine VC.skip ?_
    change VC _ _ _ _ _ _ _
    refine VC.seq ?_
    refine VC.region ?_
    obtain ⟨b3, eb13⟩ : ∃ b3, b3 = Array.size h := ⟨_, rfl⟩
    obtain ⟨h2, eh14⟩ : ∃ h2, h2 = Array.push h (.cells #[] 107) := ⟨_, rfl⟩
    have H := H b3 h2 eb13 eh14
    refine VL.stepD rfl rfl (by decide) (OE.buildSliceE (ps := []) (cells := #[]) (e := 107) rfl (Tryz.bf26) eb13 eh14 ?_)
    refine VL.stepD rfl rfl (by decide) (OE.moveV (v := .slice sA sn sc) rfl ?_)
    obtain ⟨vs4, z5, z6, z7, z8, H⟩ := H
    refine VL.stepD rfl rfl (by decide) (OE.appendV (z := (.agg #[.string ByteArray.empty, .string ByteArray.empty, .int .i64 0] : Value)) (sz := 3) (bs := 40) rfl rfl Tryz.underlying102 Tryz.i107 z5 z6 z7 z8 (AppendV.mono H (fun A9 n10 c11 h12 H => ?_)))
    refine VL.stepD rfl rfl (by decide) (OE.assignV (v := .slice A9 n10 c11) rfl ?_)
    refine VL.nil ?_
    change VC _ _ _ _ _ _ _
    refine VC.ret ?_
    exact ⟨rfl, _, ResOK.t1 rfl (v := .slice A9 n10 c11) rfl, H⟩

def D_disk_Disk_bury_1 (R : Value → Hp → Prop) (id : Int) (a__ : Option Addr) (c0 : Addr) (h : Hp) : Prop :=
  (∃ x1A : Option Addr, ∃ x1n : Nat, ∃ x1c : Nat, cell h c0 = some (.slice x1A x1n x1c) ∧ CH Tryz.prog 108 #[.slice x1A x1n x1c, .int .i64 id] h (fun r3 h4 => ∃ y5 : Bool, r3 = .bool y5 ∧ R (.bool (!y5)) h4))
set_option maxRecDepth 10000 in
set_option maxHeartbeats 4000000 in
theorem D_disk_Disk_bury_1.sound {R : Value → Hp → Prop} {id : Int} {a__ : Option Addr} {c0 : Addr} {h : Hp} (H : D_disk_Disk_bury_1 R  id a__ c0 h) : CH Tryz.prog 107 #[.int .i64 id, .pointer a__, .pointer (some c0)] h R := by
  refine CHE.enter (n := 10) Tryz.func107 rfl rfl (Nat.le_of_ble_eq_true rfl) ?_
  unfold D_disk_Disk_bury_1 at H
  refine VC.seq ?_
  refine VC.region ?_
  refine VL.stepD rfl rfl (by decide) (OE.assignV (v := .bool false) rfl ?_)
  refine VL.nil ?_
  change VC _ _ _ _ _ _ _
  refine VC.seq ?_
  refine VC.region ?_
  obtain ⟨x1A, x1n, x1c, hl2, H⟩ := H
  refine VL.stepD rfl rfl (by decide) (OE.load (a := c0) (v := .slice x1A x1n x1c) rfl (LdT.one Tryz.underlying44 rfl hl2) ?_)
  refine VL.stepD rfl rfl (by decide) (OE.moveV (v := .int .i64 id) rfl ?_)
  refine VL.stepD rfl rfl (by decide) (OE.callL (args := [.slice x1A x1n x1c, .int .i64 id]) Tryz.func108 rfl Tryz.nn108 rfl rfl (CHE.mono H (fun r3 h4 H => ?_) (fun _ _ e => e.elim)))
  obtain ⟨y5, rfl, H⟩ := H
  refine VL.stepD rfl rfl (by decide) (OE.not rfl ?_)
  refine VL.stepD rfl rfl (by decide) (OE.assignV (v := .bool (!y5)) rfl ?_)
  refine VL.nil ?_
  change VC _ _ _ _ _ _ _
  refine VC.ret ?_
  exact ⟨rfl, _, ResOK.t1 rfl (v := .bool (!y5)) rfl, H⟩

def D_disk_appended_do.J1 (R : Value → Hp → Prop)  (b4 : Nat) (b6 : Nat)  (h7 : Hp) : Prop :=
  (∃ x8_0A : Option Addr, ∃ x8_0n : Nat, ∃ x8_0c : Nat, ∃ x8_1A : Option Addr, ∃ x8_1n : Nat, ∃ x8_1c : Nat, Row h7 (Addr.mk b4 0 none) [.slice x8_0A x8_0n x8_0c, .slice x8_1A x8_1n x8_1c] ∧ ((∀ j, j < 2 → Wr h7 (Addr.add (Addr.mk b6 0 none) j)) ∧ ∀ h10, h10 = setRow h7 (Addr.mk b6 0 none) [.slice x8_0A x8_0n x8_0c, .slice x8_1A x8_1n x8_1c] 0 → ∃ r12_0A : Option Addr, ∃ r12_0n : Nat, ∃ r12_0c : Nat, ∃ r12_1A : Option Addr, ∃ r12_1n : Nat, ∃ r12_1c : Nat, Row h10 (Addr.mk b6 0 none) [.slice r12_0A r12_0n r12_0c, .slice r12_1A r12_1n r12_1c] ∧ R (.agg #[.slice r12_0A r12_0n r12_0c, .slice r12_1A r12_1n r12_1c]) h10))
def D_disk_appended_do.J3 (R : Value → Hp → Prop) (C18 : Int → Hp → Prop) (j16 : Int)  (h20 : Hp) : Prop :=
  C18 (IntKind.i64.wrap (j16 + 1)) h20
def D_disk_appended_do.L2 (R : Value → Hp → Prop)  (b4 : Nat) (b6 : Nat) (x14A : Option Addr) (x14n : Nat) (C18 : Int → Hp → Prop) (j16 : Int) (h17 : Hp) : Prop :=
  (((decide (j16 < ((x14n : Nat) : Int))) = true → (∃ a21 : Addr, x14A = some a21 ∧ (0 : Int) ≤ j16 ∧ j16 < (x14n : Int) ∧ (∃ x25 : Int, cell h17 (a21.add (Int.toNat j16 * 1)) = some (.int .u8 x25) ∧ (∃ x27A : Option Addr, ∃ x27n : Nat, ∃ x27c : Nat, cell h17 (Addr.mk b4 0 none) = some (.slice x27A x27n x27c) ∧ (∃ x29A : Option Addr, ∃ x29n : Nat, ∃ x29c : Nat, cell h17 ((Addr.mk b4 0 none).add 1) = some (.slice x29A x29n x29c) ∧ (((∀ b32 h31, b32 = Array.size h17 → h31 = Array.push h17 (.cells #[.int .u8 x25] 5) → (cell h31 (Addr.mk b4 0 none) = some (.slice x27A x27n x27c) ∧ (cell h31 ((Addr.mk b4 0 none).add 1) = some (.slice x29A x29n x29c) ∧ (((∃ vs35 : List Value, Src h31 (1 * 1) vs35 (some (Addr.mk b32 0 none)) ∧ (∀ v ∈ vs35, oneC v = true) ∧ (x27n + 1) * 1 ≤ 140737488355328 ∧ x27n + 1 ≤ 9223372036854775807 ∧ AppendV 5 (.int .u8 0 : Value) 1 h31 x27A x27n x27c 1 vs35 (fun A40 n41 c42 h43 => (cell h43 ((Addr.mk b4 0 none).add 1) = some (.slice x29A x29n x29c) ∧ (∀ b46 h45, b46 = Array.size h43 → h45 = Array.push h43 (.cells #[.bool true] 4) → (cell h45 ((Addr.mk b4 0 none).add 1) = some (.slice x29A x29n x29c) ∧ (∃ vs48 : List Value, Src h45 (1 * 1) vs48 (some (Addr.mk b46 0 none)) ∧ (∀ v ∈ vs48, oneC v = true) ∧ (x29n + 1) * 1 ≤ 140737488355328 ∧ x29n + 1 ≤ 9223372036854775807 ∧ AppendV 4 (.bool false : Value) 1 h45 x29A x29n x29c 1 vs48 (fun A53 n54 c55 h56 => (Wr h56 (Addr.mk b4 0 none) ∧ ∀ h57, h57 = setc h56 (Addr.mk b4 0 none) (.slice A40 n41 c42) → (Wr h57 ((Addr.mk b4 0 none).add 1) ∧ ∀ h59, h59 = setc h57 ((Addr.mk b4 0 none).add 1) (.slice A53 n54 c55) → D_disk_appended_do.J3 R C18 j16  h59)))))))))) ∧ ((∀ b66 h65, b66 = Array.size h31 → h65 = Array.push h31 (.cells #[.bool true] 4) → (cell h65 (Addr.mk b4 0 none) = some (.slice x27A x27n x27c) ∧ (cell h65 ((Addr.mk b4 0 none).add 1) = some (.slice x29A x29n x29c) ∧ (∃ vs69 : List Value, Src h65 (1 * 1) vs69 (some (Addr.mk b32 0 none)) ∧ (∀ v ∈ vs69, oneC v = true) ∧ (x27n + 1) * 1 ≤ 140737488355328 ∧ x27n + 1 ≤ 9223372036854775807 ∧ AppendV 5 (.int .u8 0 : Value) 1 h65 x27A x27n x27c 1 vs69 (fun A74 n75 c76 h77 => (cell h77 ((Addr.mk b4 0 none).add 1) = some (.slice x29A x29n x29c) ∧ (∃ vs79 : List Value, Src h77 (1 * 1) vs79 (some (Addr.mk b66 0 none)) ∧ (∀ v ∈ vs79, oneC v = true) ∧ (x29n + 1) * 1 ≤ 140737488355328 ∧ x29n + 1 ≤ 9223372036854775807 ∧ AppendV 4 (.bool false : Value) 1 h77 x29A x29n x29c 1 vs79 (fun A84 n85 c86 h87 => (Wr h87 (Addr.mk b4 0 none) ∧ ∀ h88, h88 = setc h87 (Addr.mk b4 0 none) (.slice A74 n75 c76) → (Wr h88 ((Addr.mk b4 0 none).add 1) ∧ ∀ h90, h90 = setc h88 ((Addr.mk b4 0 none).add 1) (.slice A84 n85 c86) → D_disk_appended_do.J3 R C18 j16  h90)))))))))))))))) ∧ ((∀ b99 h98, b99 = Array.size h17 → h98 = Array.push h17 (.cells #[.bool true] 4) → (cell h98 (Addr.mk b4 0 none) = some (.slice x27A x27n x27c) ∧ (cell h98 ((Addr.mk b4 0 none).add 1) = some (.slice x29A x29n x29c) ∧ (∀ b103 h102, b103 = Array.size h98 → h102 = Array.push h98 (.cells #[.int .u8 x25] 5) → (cell h102 (Addr.mk b4 0 none) = some (.slice x27A x27n x27c) ∧ (cell h102 ((Addr.mk b4 0 none).add 1) = some (.slice x29A x29n x29c) ∧ (∃ vs106 : List Value, Src h102 (1 * 1) vs106 (some (Addr.mk b103 0 none)) ∧ (∀ v ∈ vs106, oneC v = true) ∧ (x27n + 1) * 1 ≤ 140737488355328 ∧ x27n + 1 ≤ 9223372036854775807 ∧ AppendV 5 (.int .u8 0 : Value) 1 h102 x27A x27n x27c 1 vs106 (fun A111 n112 c113 h114 => (cell h114 ((Addr.mk b4 0 none).add 1) = some (.slice x29A x29n x29c) ∧ (∃ vs116 : List Value, Src h114 (1 * 1) vs116 (some (Addr.mk b99 0 none)) ∧ (∀ v ∈ vs116, oneC v = true) ∧ (x29n + 1) * 1 ≤ 140737488355328 ∧ x29n + 1 ≤ 9223372036854775807 ∧ AppendV 4 (.bool false : Value) 1 h114 x29A x29n x29c 1 vs116 (fun A121 n122 c123 h124 => (Wr h124 (Addr.mk b4 0 none) ∧ ∀ h125, h125 = setc h124 (Addr.mk b4 0 none) (.slice A111 n112 c113) → (Wr h125 ((Addr.mk b4 0 none).add 1) ∧ ∀ h127, h127 = setc h125 ((Addr.mk b4 0 none).add 1) (.slice A121 n122 c123) → D_disk_appended_do.J3 R C18 j16  h127)))))))))))))))))))) ∧ ((decide (j16 < ((x14n : Nat) : Int))) = false → D_disk_appended_do.J1 R  b4 b6  h17))
def D_disk_appended_do (R : Value → Hp → Prop) (a_0A : Option Addr) (a_0n : Nat) (a_0c : Nat) (r_0A : Option Addr) (r_0n : Nat) (r_0c : Nat) (r_1A : Option Addr) (r_1n : Nat) (r_1c : Nat) (h : Hp) : Prop :=
  (∀ b2 h1, b2 = Array.size h → h1 = Array.push h (.cells #[.slice a_0A a_0n a_0c] 114) → (∀ b4 h3, b4 = Array.size h1 → h3 = Array.push h1 (.cells #[.slice r_0A r_0n r_0c, .slice r_1A r_1n r_1c] 128) → (∀ b6 h5, b6 = Array.size h3 → h5 = Array.push h3 (.cells #[.slice none 0 0, .slice none 0 0] 128) → (∃ x14A : Option Addr, ∃ x14n : Nat, ∃ x14c : Nat, cell h5 (Addr.mk b2 0 none) = some (.slice x14A x14n x14c) ∧ (∃ Inv : Int → Hp → Nat → Prop, (∃ m, Inv 0 h5 m) ∧ ∀ j16 h17 m, Inv j16 h17 m → D_disk_appended_do.L2 R  b4 b6 x14A x14n (fun j16 h17 => ∃ m1, m1 < m ∧ Inv j16 h17 m1) j16 h17)))))
set_option maxRecDepth 10000 in
set_option maxHeartbeats 4000000 in
theorem D_disk_appended_do.sound {R : Value → Hp → Prop} {a_0A : Option Addr} {a_0n : Nat} {a_0c : Nat} {r_0A : Option Addr} {r_0n : Nat} {r_0c : Nat} {r_1A : Option Addr} {r_1n : Nat} {r_1c : Nat} {h : Hp} (H : D_disk_appended_do R  a_0A a_0n a_0c r_0A r_0n r_0c r_1A r_1n r_1c h) : CH Tryz.prog 172 #[.agg #[.slice a_0A a_0n a_0c], .agg #[.slice r_0A r_0n r_0c, .slice r_1A r_1n r_1c]] h R := by
  refine CHE.enter (n := 27) Tryz.func172 rfl rfl (Nat.le_of_ble_eq_true rfl) ?_
  unfold D_disk_appended_do at H
  refine VC.seq ?_
  refine VC.region ?_
  obtain ⟨b2, eb139⟩ : ∃ b2, b2 = Array.size h := ⟨_, rfl⟩
  obtain ⟨h1, eh140⟩ : ∃ h1, h1 = Array.push h (.cells #[.slice a_0A a_0n a_0c] 114) := ⟨_, rfl⟩
  have H := H b2 h1 eb139 eh140
  refine VL.stepD rfl rfl (by decide) (OE.boxE (v := .agg #[.slice a_0A a_0n a_0c]) rfl eb139 eh140 ?_)
  obtain ⟨b4, eb137⟩ : ∃ b4, b4 = Array.size h1 := ⟨_, rfl⟩
  obtain ⟨h3, eh138⟩ : ∃ h3, h3 = Array.push h1 (.cells #[.slice r_0A r_0n r_0c, .slice r_1A r_1n r_1c] 128) := ⟨_, rfl⟩
  have H := H b4 h3 eb137 eh138
  refine VL.stepD rfl rfl (by decide) (OE.boxE (v := .agg #[.slice r_0A r_0n r_0c, .slice r_1A r_1n r_1c]) rfl eb137 eh138 ?_)
  obtain ⟨b6, eb135⟩ : ∃ b6, b6 = Array.size h3 := ⟨_, rfl⟩
  obtain ⟨h5, eh136⟩ : ∃ h5, h5 = Array.push h3 (.cells #[.slice none 0 0, .slice none 0 0] 128) := ⟨_, rfl⟩
  have H := H b6 h5 eb135 eh136
  refine VL.stepD rfl rfl (by decide) (OE.allocE (z := .agg #[.slice none 0 0, .slice none 0 0]) Tryz.i128 eb135 eh136 ?_)
  refine VL.nil ?_
  change VC _ _ _ _ _ _ _
  refine VC.seqJ (fun f h7 => f 3 = (.pointer (some (Addr.mk b4 0 none)) : Value) ∧ f 4 = (.pointer (some (Addr.mk b6 0 none)) : Value) ∧ D_disk_appended_do.J1 R  b4 b6  h7) ?_ ?_
  · intro f h7 J
    obtain ⟨hk3, hk4, H⟩ := J
    rw [← fr_self f [(3, .pointer (some (Addr.mk b4 0 none))), (4, .pointer (some (Addr.mk b6 0 none)))] (by simp only [List.mem_cons, List.not_mem_nil, or_false]; rintro p (rfl | rfl) <;> assumption)]
    unfold D_disk_appended_do.J1 at H
    refine VC.seq ?_
    refine VC.region ?_
    obtain ⟨x8_0A, x8_0n, x8_0c, x8_1A, x8_1n, x8_1c, hl9, H⟩ := H
    refine VL.stepD rfl rfl (by decide) (OE.load (a := (Addr.mk b4 0 none)) (v := .agg #[.slice x8_0A x8_0n x8_0c, .slice x8_1A x8_1n x8_1c]) rfl (LdT.aggI Tryz.underlying128 rfl Tryz.i128 rfl hl9) ?_)
    obtain ⟨hw11, H⟩ := H
    obtain ⟨h10, eh13⟩ : ∃ h10, h10 = setRow h7 (Addr.mk b6 0 none) [.slice x8_0A x8_0n x8_0c, .slice x8_1A x8_1n x8_1c] 0 := ⟨_, rfl⟩
    have H := H h10 eh13
    refine VL.stepN rfl rfl (OE.storeE (a := (Addr.mk b6 0 none)) (v := .agg #[.slice x8_0A x8_0n x8_0c, .slice x8_1A x8_1n x8_1c]) rfl rfl (StT.aggI (vs := [.slice x8_0A x8_0n x8_0c, .slice x8_1A x8_1n x8_1c]) Tryz.i128 rfl hw11 (by simp [oneC])) eh13 ?_)
    refine VL.nil ?_
    change VC _ _ _ _ _ _ _
    refine VC.ret ?_
    obtain ⟨r12_0A, r12_0n, r12_0c, r12_1A, r12_1n, r12_1c, hl, H⟩ := H
    exact ⟨rfl, _, ResOK.c1 rfl (v := .agg #[.slice r12_0A r12_0n r12_0c, .slice r12_1A r12_1n r12_1c]) rfl (LdT.aggI Tryz.underlying128 rfl Tryz.i128 rfl hl), H⟩
  · skip
    refine VC.seq ?_
    refine VC.region ?_
    refine VL.stepD rfl rfl (by decide) (OE.fieldAddrI (a := (Addr.mk b2 0 none)) (o := 0) rfl Tryz.underlying114 rfl Tryz.i22 (by decide) rfl ?_)
    obtain ⟨x14A, x14n, x14c, hl15, H⟩ := H
    refine VL.stepD rfl rfl (by decide) (OE.load (a := (Addr.mk b2 0 none)) (v := .slice x14A x14n x14c) rfl (LdT.one Tryz.underlying22 rfl hl15) ?_)
    refine VL.stepD rfl rfl (by decide) (OE.lenSlice rfl Tryz.underlying22 ?_)
    refine VL.stepD rfl rfl (by decide) (OE.moveV (v := .int .i64 0) rfl ?_)
    refine VL.nil ?_
    change VC _ _ _ _ _ _ _
    refine VC.block ?_
    obtain ⟨Inv, ⟨m0, h0⟩, H⟩ := H
    refine VC.loop (fun ds f h17 m => ds = [] ∧ ∃ j16 : Int, f 3 = (.pointer (some (Addr.mk b4 0 none)) : Value) ∧ f 4 = (.pointer (some (Addr.mk b6 0 none)) : Value) ∧ f 8 = (.slice x14A x14n x14c : Value) ∧ f 9 = (.int .i64 ((x14n : Nat) : Int) : Value) ∧ f 10 = (.int .i64 j16 : Value) ∧ Inv j16 h17 m) (m0 := m0) ⟨rfl, 0, rfl, rfl, rfl, rfl, rfl, h0⟩ ?_
    intro ds f h17 m I
    obtain ⟨rfl, j16, hk3, hk4, hk8, hk9, hk10, I⟩ := I
    rw [← fr_self f [(3, .pointer (some (Addr.mk b4 0 none))), (4, .pointer (some (Addr.mk b6 0 none))), (8, .slice x14A x14n x14c), (9, .int .i64 ((x14n : Nat) : Int)), (10, .int .i64 j16)] (by simp only [List.mem_cons, List.not_mem_nil, or_false]; rintro p (rfl | rfl | rfl | rfl | rfl) <;> assumption)]
    obtain ⟨C18, eC18⟩ : ∃ C18 : Int → Hp → Prop, C18 = (fun j16 h17 => ∃ m1, m1 < m ∧ Inv j16 h17 m1) := ⟨_, rfl⟩
    have H : D_disk_appended_do.L2 R  b4 b6 x14A x14n C18 j16 h17 := by rw [eC18]; exact H j16 h17 m I
    unfold D_disk_appended_do.L2 at H
    refine VC.seq ?_
    refine VC.region ?_
    refine VL.stepD rfl rfl (by decide) (OE.binI (v := .bool (decide (j16 < ((x14n : Nat) : Int)))) rfl rfl rfl ?_)
    refine VL.nil ?_
    change VC _ _ _ _ _ _ _
    refine VC.seq ?_
    refine VC.cond (t := (decide (j16 < ((x14n : Nat) : Int)))) rfl (fun e19 => ?_) (fun e19 => ?_)
    · have H := H.1 e19
      refine VC.skip ?_
      change VC _ _ _ _ _ _ _
      refine VC.seqJ (fun f h20 => f 3 = (.pointer (some (Addr.mk b4 0 none)) : Value) ∧ f 4 = (.pointer (some (Addr.mk b6 0 none)) : Value) ∧ f 8 = (.slice x14A x14n x14c : Value) ∧ f 9 = (.int .i64 ((x14n : Nat) : Int) : Value) ∧ f 10 = (.int .i64 j16 : Value) ∧ D_disk_appended_do.J3 R C18 j16  h20) ?_ ?_
      · intro f h20 J
        obtain ⟨hk3, hk4, hk8, hk9, hk10, H⟩ := J
        rw [← fr_self f [(3, .pointer (some (Addr.mk b4 0 none))), (4, .pointer (some (Addr.mk b6 0 none))), (8, .slice x14A x14n x14c), (9, .int .i64 ((x14n : Nat) : Int)), (10, .int .i64 j16)] (by simp only [List.mem_cons, List.not_mem_nil, or_false]; rintro p (rfl | rfl | rfl | rfl | rfl) <;> assumption)]
        unfold D_disk_appended_do.J3 at H
        refine VC.region ?_
        refine VL.stepD rfl rfl (by decide) (OE.binI (v := .int .i64 (IntKind.i64.wrap (j16 + 1))) rfl rfl rfl ?_)
        refine VL.stepD rfl rfl (by decide) (OE.moveV (v := .int .i64 (IntKind.i64.wrap (j16 + 1))) rfl ?_)
        refine VL.nil ?_
        rw [eC18] at H
        obtain ⟨m1, hm1, H⟩ := H
        exact ⟨m1, hm1, rfl, (IntKind.i64.wrap (j16 + 1)), rfl, rfl, rfl, rfl, rfl, H⟩
      · skip
        refine VC.block ?_
        refine VC.seq ?_
        refine VC.region ?_
        obtain ⟨a21, e22, z23, z24, H⟩ := H
        refine VL.stepD rfl rfl (by decide) (OE.indexAddrI (sz := 1) rfl rfl Tryz.underlying22 Tryz.i5 e22 z23 z24 ?_)
        obtain ⟨x25, hl26, H⟩ := H
        refine VL.stepD rfl rfl (by decide) (OE.load (a := (a21.add (Int.toNat j16 * 1))) (v := .int .u8 x25) rfl (LdT.one Tryz.underlying5 rfl hl26) ?_)
        refine VL.stepD rfl rfl (by decide) (OE.assignV (v := .int .u8 x25) rfl ?_)
        refine VL.nil ?_
        change VC _ _ _ _ _ _ _
        refine VC.drawsS Tryz.mixed (by kernel_rfl) (by kernel_rfl) (fun st hd => ?_)
        refine DW.still (i := 0) (v := .pointer (some (Addr.mk b4 0 none))) (by kernel_rfl) ?_
        obtain ⟨x27A, x27n, x27c, hl28, H⟩ := H
        refine DW.still (i := 1) (v := .slice x27A x27n x27c) (by kernel_rfl) ?_
        refine DW.still (i := 2) (v := .int .u8 x25) (by kernel_rfl) ?_
        refine DW.still (i := 5) (v := .pointer (some ((Addr.mk b4 0 none).add 1))) (by kernel_rfl) ?_
        obtain ⟨x29A, x29n, x29c, hl30, H⟩ := H
        refine DW.still (i := 6) (v := .slice x29A x29n x29c) (by kernel_rfl) ?_
        refine DW.louds st hd 3 [7] (by kernel_rfl) ⟨.inr (YD.u (fr (fun _ => undef) [(19, (.pointer (some ((Addr.mk b4 0 none).add 1)) : Value))]) st rfl rfl (by kernel_rfl) (OE.load (a := ((Addr.mk b4 0 none).add 1)) (v := .slice x29A x29n x29c) rfl (LdT.one Tryz.underlying126 rfl hl30) ⟨rfl, rfl⟩)), .inr (YD.u (fr (fun _ => undef) [(3, (.pointer (some (Addr.mk b4 0 none)) : Value))]) st rfl rfl (by kernel_rfl) (OE.fieldAddrI (a := (Addr.mk b4 0 none)) (o := 1) rfl Tryz.underlying128 rfl Tryz.i126 (by decide) rfl ⟨rfl, rfl⟩)), .inr (YD.u (fr (fun _ => undef) [(6, (.int .u8 x25 : Value))]) st rfl rfl (by kernel_rfl) (OE.moveV (v := .int .u8 x25) rfl ⟨rfl, rfl⟩)), .inr (YD.u (fr (fun _ => undef) [(14, (.pointer (some (Addr.mk b4 0 none)) : Value))]) st rfl rfl (by kernel_rfl) (OE.load (a := (Addr.mk b4 0 none)) (v := .slice x27A x27n x27c) rfl (LdT.one Tryz.underlying22 rfl hl28) ⟨rfl, rfl⟩)), .inr (YD.u (fr (fun _ => undef) [(3, (.pointer (some (Addr.mk b4 0 none)) : Value))]) st rfl rfl (by kernel_rfl) (OE.fieldAddrI (a := (Addr.mk b4 0 none)) (o := 0) rfl Tryz.underlying128 rfl Tryz.i22 (by decide) rfl ⟨rfl, rfl⟩)), trivial⟩ ⟨?_, ?_, trivial⟩
        · have H := H.1
          obtain ⟨b32, eb96⟩ : ∃ b32, b32 = Array.size h17 := ⟨_, rfl⟩
          obtain ⟨h31, eh97⟩ : ∃ h31, h31 = Array.push h17 (.cells #[.int .u8 x25] 5) := ⟨_, rfl⟩
          have H := H b32 h31 eb96 eh97
          refine LD1.of (i := 3) (fr (fun _ => undef) [(16, (.int .u8 x25 : Value))]) st rfl (by kernel_rfl) (.inl rfl) (OE.buildSliceE (ps := [(0, (.int .u8 x25 : Value))]) (cells := #[.int .u8 x25]) (e := 5) rfl (Tryz.bf0 _) eb96 eh97 ?_)
          obtain ⟨hs33, hs34, H⟩ := H
          refine DW.louds st hd 4 [7] (by kernel_rfl) ⟨.inl (by kernel_rfl), .inr (YD.u (fr (fun _ => undef) [(19, (.pointer (some ((Addr.mk b4 0 none).add 1)) : Value))]) st rfl rfl (by kernel_rfl) (OE.load (a := ((Addr.mk b4 0 none).add 1)) (v := .slice x29A x29n x29c) rfl (LdT.one Tryz.underlying126 rfl hs34) ⟨rfl, rfl⟩)), .inr (YD.u (fr (fun _ => undef) [(3, (.pointer (some (Addr.mk b4 0 none)) : Value))]) st rfl rfl (by kernel_rfl) (OE.fieldAddrI (a := (Addr.mk b4 0 none)) (o := 1) rfl Tryz.underlying128 rfl Tryz.i126 (by decide) rfl ⟨rfl, rfl⟩)), .inl (by kernel_rfl), .inr (YD.u (fr (fun _ => undef) [(14, (.pointer (some (Addr.mk b4 0 none)) : Value))]) st rfl rfl (by kernel_rfl) (OE.load (a := (Addr.mk b4 0 none)) (v := .slice x27A x27n x27c) rfl (LdT.one Tryz.underlying22 rfl hs33) ⟨rfl, rfl⟩)), .inr (YD.u (fr (fun _ => undef) [(3, (.pointer (some (Addr.mk b4 0 none)) : Value))]) st rfl rfl (by kernel_rfl) (OE.fieldAddrI (a := (Addr.mk b4 0 none)) (o := 0) rfl Tryz.underlying128 rfl Tryz.i22 (by decide) rfl ⟨rfl, rfl⟩)), trivial⟩ ⟨?_, ?_, trivial⟩
          · have H := H.1
            obtain ⟨vs35, z36, z37, z38, z39, H⟩ := H
            refine LD1.of (i := 4) (fr (fun _ => undef) [(15, (.slice x27A x27n x27c : Value)), (17, (.slice (some (Addr.mk b32 0 none)) 1 1 : Value))]) st rfl (by kernel_rfl) (.inl rfl) (OE.appendV (z := (.int .u8 0 : Value)) (sz := 1) (bs := 1) rfl rfl Tryz.underlying22 Tryz.i5 z36 z37 z38 z39 (AppendV.mono H (fun A40 n41 c42 h43 H => ?_)))
            obtain ⟨hs44, H⟩ := H
            refine DW.still (i := 9) (v := .pointer (some (Addr.mk b4 0 none))) (by kernel_rfl) ?_
            obtain ⟨b46, eb63⟩ : ∃ b46, b46 = Array.size h43 := ⟨_, rfl⟩
            obtain ⟨h45, eh64⟩ : ∃ h45, h45 = Array.push h43 (.cells #[.bool true] 4) := ⟨_, rfl⟩
            have H := H b46 h45 eb63 eh64
            refine DW.loudF (fr (fun _ => undef) []) st hd (i := 7) rfl (by kernel_rfl) (.inl rfl) (by kernel_rfl) ⟨.inr (YD.u (fr (fun _ => undef) [(3, (.pointer (some (Addr.mk b4 0 none)) : Value))]) st rfl rfl (by kernel_rfl) (OE.fieldAddrI (a := (Addr.mk b4 0 none)) (o := 0) rfl Tryz.underlying128 rfl Tryz.i22 (by decide) rfl ⟨rfl, rfl⟩)), .inl (by kernel_rfl), .inl (by kernel_rfl), .inr (YD.u (fr (fun _ => undef) [(19, (.pointer (some ((Addr.mk b4 0 none).add 1)) : Value))]) st rfl rfl (by kernel_rfl) (OE.load (a := ((Addr.mk b4 0 none).add 1)) (v := .slice x29A x29n x29c) rfl (LdT.one Tryz.underlying126 rfl hs44) ⟨rfl, rfl⟩)), .inr (YD.u (fr (fun _ => undef) [(3, (.pointer (some (Addr.mk b4 0 none)) : Value))]) st rfl rfl (by kernel_rfl) (OE.fieldAddrI (a := (Addr.mk b4 0 none)) (o := 1) rfl Tryz.underlying128 rfl Tryz.i126 (by decide) rfl ⟨rfl, rfl⟩)), .inl (by kernel_rfl), .inl (by kernel_rfl), .inl (by kernel_rfl), trivial⟩ (OE.buildSliceE (ps := [(0, (.bool true : Value))]) (cells := #[.bool true]) (e := 4) rfl (Tryz.bf27 _) eb63 eh64 ?_)
            obtain ⟨hs47, H⟩ := H
            obtain ⟨vs48, z49, z50, z51, z52, H⟩ := H
            refine DW.loudF (fr (fun _ => undef) [(20, (.slice x29A x29n x29c : Value)), (21, (.slice (some (Addr.mk b46 0 none)) 1 1 : Value))]) st hd (i := 8) rfl (by kernel_rfl) (.inl rfl) (by kernel_rfl) ⟨.inl (by kernel_rfl), .inr (YD.u (fr (fun _ => undef) [(3, (.pointer (some (Addr.mk b4 0 none)) : Value))]) st rfl rfl (by kernel_rfl) (OE.fieldAddrI (a := (Addr.mk b4 0 none)) (o := 0) rfl Tryz.underlying128 rfl Tryz.i22 (by decide) rfl ⟨rfl, rfl⟩)), .inl (by kernel_rfl), .inl (by kernel_rfl), .inr (YD.u (fr (fun _ => undef) [(19, (.pointer (some ((Addr.mk b4 0 none).add 1)) : Value))]) st rfl rfl (by kernel_rfl) (OE.load (a := ((Addr.mk b4 0 none).add 1)) (v := .slice x29A x29n x29c) rfl (LdT.one Tryz.underlying126 rfl hs47) ⟨rfl, rfl⟩)), .inr (YD.u (fr (fun _ => undef) [(3, (.pointer (some (Addr.mk b4 0 none)) : Value))]) st rfl rfl (by kernel_rfl) (OE.fieldAddrI (a := (Addr.mk b4 0 none)) (o := 1) rfl Tryz.underlying128 rfl Tryz.i126 (by decide) rfl ⟨rfl, rfl⟩)), .inl (by kernel_rfl), .inl (by kernel_rfl), .inl (by kernel_rfl), trivial⟩ (OE.appendV (z := (.bool false : Value)) (sz := 1) (bs := 1) rfl rfl Tryz.underlying126 Tryz.i4 z49 z50 z51 z52 (AppendV.mono H (fun A53 n54 c55 h56 H => ?_)))
            obtain ⟨hw58, H⟩ := H
            obtain ⟨h57, eh62⟩ : ∃ h57, h57 = setc h56 (Addr.mk b4 0 none) (.slice A40 n41 c42) := ⟨_, rfl⟩
            have H := H h57 eh62
            refine DW.loudF (fr (fun _ => undef) [(23, (.pointer (some (Addr.mk b4 0 none)) : Value)), (18, (.slice A40 n41 c42 : Value))]) st hd (i := 10) rfl (by kernel_rfl) (.inl rfl) (by kernel_rfl) ⟨.inl (by kernel_rfl), .inl (by kernel_rfl), .inr (YD.u (fr (fun _ => undef) [(3, (.pointer (some (Addr.mk b4 0 none)) : Value))]) st rfl rfl (by kernel_rfl) (OE.fieldAddrI (a := (Addr.mk b4 0 none)) (o := 0) rfl Tryz.underlying128 rfl Tryz.i22 (by decide) rfl ⟨rfl, rfl⟩)), .inl (by kernel_rfl), .inl (by kernel_rfl), .inl (by kernel_rfl), .inl (by kernel_rfl), .inl (by kernel_rfl), .inl (by kernel_rfl), .inl (by kernel_rfl), trivial⟩ (OE.storeE (a := (Addr.mk b4 0 none)) (v := .slice A40 n41 c42) rfl rfl (StT.oneI Tryz.i22 hw58 rfl) eh62 ?_)
            refine DW.still (i := 11) (v := .pointer (some ((Addr.mk b4 0 none).add 1))) (by kernel_rfl) ?_
            obtain ⟨hw60, H⟩ := H
            obtain ⟨h59, eh61⟩ : ∃ h59, h59 = setc h57 ((Addr.mk b4 0 none).add 1) (.slice A53 n54 c55) := ⟨_, rfl⟩
            have H := H h59 eh61
            refine DW.loudF (fr (fun _ => undef) [(24, (.pointer (some ((Addr.mk b4 0 none).add 1)) : Value)), (22, (.slice A53 n54 c55 : Value))]) st hd (i := 12) rfl (by kernel_rfl) (.inl rfl) (by kernel_rfl) ⟨.inr (YD.u (fr (fun _ => undef) [(3, (.pointer (some (Addr.mk b4 0 none)) : Value))]) st rfl rfl (by kernel_rfl) (OE.fieldAddrI (a := (Addr.mk b4 0 none)) (o := 1) rfl Tryz.underlying128 rfl Tryz.i126 (by decide) rfl ⟨rfl, rfl⟩)), .inl (by kernel_rfl), .inl (by kernel_rfl), .inl (by kernel_rfl), .inl (by kernel_rfl), .inl (by kernel_rfl), .inl (by kernel_rfl), .inl (by kernel_rfl), .inl (by kernel_rfl), .inl (by kernel_rfl), .inl (by kernel_rfl), .inl (by kernel_rfl), trivial⟩ (OE.storeE (a := ((Addr.mk b4 0 none).add 1)) (v := .slice A53 n54 c55) rfl rfl (StT.oneI Tryz.i126 hw60 rfl) eh61 ?_)
            refine DW.finL st hd [(14, (.pointer (some (Addr.mk b4 0 none)) : Value)), (15, (.slice x27A x27n x27c : Value)), (16, (.int .u8 x25 : Value)), (19, (.pointer (some ((Addr.mk b4 0 none).add 1)) : Value)), (20, (.slice x29A x29n x29c : Value)), (17, (.slice (some (Addr.mk b32 0 none)) 1 1 : Value)), (18, (.slice A40 n41 c42 : Value)), (23, (.pointer (some (Addr.mk b4 0 none)) : Value)), (21, (.slice (some (Addr.mk b46 0 none)) 1 1 : Value)), (22, (.slice A53 n54 c55 : Value)), (24, (.pointer (some ((Addr.mk b4 0 none).add 1)) : Value))] (by kernel_rfl) (by kernel_rfl) ⟨.inl (by kernel_rfl), .inl (by kernel_rfl), .inl (by kernel_rfl), .inl (by kernel_rfl), .inl (by kernel_rfl), .inl (by kernel_rfl), .inl (by kernel_rfl), .inl (by kernel_rfl), .inl (by kernel_rfl), .inl (by kernel_rfl), .inl (by kernel_rfl), .inl (by kernel_rfl), .inl (by kernel_rfl), trivial⟩ ?_
            exact ⟨rfl, rfl, rfl, rfl, rfl, rfl, H⟩
          · have H := H.2
            obtain ⟨b66, eb94⟩ : ∃ b66, b66 = Array.size h31 := ⟨_, rfl⟩
            obtain ⟨h65, eh95⟩ : ∃ h65, h65 = Array.push h31 (.cells #[.bool true] 4) := ⟨_, rfl⟩
            have H := H b66 h65 eb94 eh95
            refine LD1.of (i := 7) (fr (fun _ => undef) []) st rfl (by kernel_rfl) (.inl rfl) (OE.buildSliceE (ps := [(0, (.bool true : Value))]) (cells := #[.bool true]) (e := 4) rfl (Tryz.bf27 _) eb94 eh95 ?_)
            obtain ⟨hs67, hs68, H⟩ := H
            obtain ⟨vs69, z70, z71, z72, z73, H⟩ := H
            refine DW.loudF (fr (fun _ => undef) [(15, (.slice x27A x27n x27c : Value)), (17, (.slice (some (Addr.mk b32 0 none)) 1 1 : Value))]) st hd (i := 4) rfl (by kernel_rfl) (.inl rfl) (by kernel_rfl) ⟨.inl (by kernel_rfl), .inl (by kernel_rfl), .inr (YD.u (fr (fun _ => undef) [(19, (.pointer (some ((Addr.mk b4 0 none).add 1)) : Value))]) st rfl rfl (by kernel_rfl) (OE.load (a := ((Addr.mk b4 0 none).add 1)) (v := .slice x29A x29n x29c) rfl (LdT.one Tryz.underlying126 rfl hs68) ⟨rfl, rfl⟩)), .inr (YD.u (fr (fun _ => undef) [(3, (.pointer (some (Addr.mk b4 0 none)) : Value))]) st rfl rfl (by kernel_rfl) (OE.fieldAddrI (a := (Addr.mk b4 0 none)) (o := 1) rfl Tryz.underlying128 rfl Tryz.i126 (by decide) rfl ⟨rfl, rfl⟩)), .inl (by kernel_rfl), .inr (YD.u (fr (fun _ => undef) [(14, (.pointer (some (Addr.mk b4 0 none)) : Value))]) st rfl rfl (by kernel_rfl) (OE.load (a := (Addr.mk b4 0 none)) (v := .slice x27A x27n x27c) rfl (LdT.one Tryz.underlying22 rfl hs67) ⟨rfl, rfl⟩)), .inr (YD.u (fr (fun _ => undef) [(3, (.pointer (some (Addr.mk b4 0 none)) : Value))]) st rfl rfl (by kernel_rfl) (OE.fieldAddrI (a := (Addr.mk b4 0 none)) (o := 0) rfl Tryz.underlying128 rfl Tryz.i22 (by decide) rfl ⟨rfl, rfl⟩)), trivial⟩ (OE.appendV (z := (.int .u8 0 : Value)) (sz := 1) (bs := 1) rfl rfl Tryz.underlying22 Tryz.i5 z70 z71 z72 z73 (AppendV.mono H (fun A74 n75 c76 h77 H => ?_)))
            obtain ⟨hs78, H⟩ := H
            refine DW.still (i := 9) (v := .pointer (some (Addr.mk b4 0 none))) (by kernel_rfl) ?_
            obtain ⟨vs79, z80, z81, z82, z83, H⟩ := H
            refine DW.loudF (fr (fun _ => undef) [(20, (.slice x29A x29n x29c : Value)), (21, (.slice (some (Addr.mk b66 0 none)) 1 1 : Value))]) st hd (i := 8) rfl (by kernel_rfl) (.inl rfl) (by kernel_rfl) ⟨.inr (YD.u (fr (fun _ => undef) [(3, (.pointer (some (Addr.mk b4 0 none)) : Value))]) st rfl rfl (by kernel_rfl) (OE.fieldAddrI (a := (Addr.mk b4 0 none)) (o := 0) rfl Tryz.underlying128 rfl Tryz.i22 (by decide) rfl ⟨rfl, rfl⟩)), .inl (by kernel_rfl), .inl (by kernel_rfl), .inl (by kernel_rfl), .inr (YD.u (fr (fun _ => undef) [(19, (.pointer (some ((Addr.mk b4 0 none).add 1)) : Value))]) st rfl rfl (by kernel_rfl) (OE.load (a := ((Addr.mk b4 0 none).add 1)) (v := .slice x29A x29n x29c) rfl (LdT.one Tryz.underlying126 rfl hs78) ⟨rfl, rfl⟩)), .inr (YD.u (fr (fun _ => undef) [(3, (.pointer (some (Addr.mk b4 0 none)) : Value))]) st rfl rfl (by kernel_rfl) (OE.fieldAddrI (a := (Addr.mk b4 0 none)) (o := 1) rfl Tryz.underlying128 rfl Tryz.i126 (by decide) rfl ⟨rfl, rfl⟩)), .inl (by kernel_rfl), .inl (by kernel_rfl), .inl (by kernel_rfl), trivial⟩ (OE.appendV (z := (.bool false : Value)) (sz := 1) (bs := 1) rfl rfl Tryz.underlying126 Tryz.i4 z80 z81 z82 z83 (AppendV.mono H (fun A84 n85 c86 h87 H => ?_)))
            obtain ⟨hw89, H⟩ := H
            obtain ⟨h88, eh93⟩ : ∃ h88, h88 = setc h87 (Addr.mk b4 0 none) (.slice A74 n75 c76) := ⟨_, rfl⟩
            have H := H h88 eh93
            refine DW.loudF (fr (fun _ => undef) [(23, (.pointer (some (Addr.mk b4 0 none)) : Value)), (18, (.slice A74 n75 c76 : Value))]) st hd (i := 10) rfl (by kernel_rfl) (.inl rfl) (by kernel_rfl) ⟨.inl (by kernel_rfl), .inr (YD.u (fr (fun _ => undef) [(3, (.pointer (some (Addr.mk b4 0 none)) : Value))]) st rfl rfl (by kernel_rfl) (OE.fieldAddrI (a := (Addr.mk b4 0 none)) (o := 0) rfl Tryz.underlying128 rfl Tryz.i22 (by decide) rfl ⟨rfl, rfl⟩)), .inl (by kernel_rfl), .inl (by kernel_rfl), .inl (by kernel_rfl), .inl (by kernel_rfl), .inl (by kernel_rfl), .inl (by kernel_rfl), .inl (by kernel_rfl), .inl (by kernel_rfl), trivial⟩ (OE.storeE (a := (Addr.mk b4 0 none)) (v := .slice A74 n75 c76) rfl rfl (StT.oneI Tryz.i22 hw89 rfl) eh93 ?_)
            refine DW.still (i := 11) (v := .pointer (some ((Addr.mk b4 0 none).add 1))) (by kernel_rfl) ?_
            obtain ⟨hw91, H⟩ := H
            obtain ⟨h90, eh92⟩ : ∃ h90, h90 = setc h88 ((Addr.mk b4 0 none).add 1) (.slice A84 n85 c86) := ⟨_, rfl⟩
            have H := H h90 eh92
            refine DW.loudF (fr (fun _ => undef) [(24, (.pointer (some ((Addr.mk b4 0 none).add 1)) : Value)), (22, (.slice A84 n85 c86 : Value))]) st hd (i := 12) rfl (by kernel_rfl) (.inl rfl) (by kernel_rfl) ⟨.inr (YD.u (fr (fun _ => undef) [(3, (.pointer (some (Addr.mk b4 0 none)) : Value))]) st rfl rfl (by kernel_rfl) (OE.fieldAddrI (a := (Addr.mk b4 0 none)) (o := 1) rfl Tryz.underlying128 rfl Tryz.i126 (by decide) rfl ⟨rfl, rfl⟩)), .inl (by kernel_rfl), .inl (by kernel_rfl), .inl (by kernel_rfl), .inl (by kernel_rfl), .inl (by kernel_rfl), .inl (by kernel_rfl), .inl (by kernel_rfl), .inl (by kernel_rfl), .inl (by kernel_rfl), .inl (by kernel_rfl), .inl (by kernel_rfl), trivial⟩ (OE.storeE (a := ((Addr.mk b4 0 none).add 1)) (v := .slice A84 n85 c86) rfl rfl (StT.oneI Tryz.i126 hw91 rfl) eh92 ?_)
            refine DW.finL st hd [(14, (.pointer (some (Addr.mk b4 0 none)) : Value)), (15, (.slice x27A x27n x27c : Value)), (16, (.int .u8 x25 : Value)), (19, (.pointer (some ((Addr.mk b4 0 none).add 1)) : Value)), (20, (.slice x29A x29n x29c : Value)), (17, (.slice (some (Addr.mk b32 0 none)) 1 1 : Value)), (21, (.slice (some (Addr.mk b66 0 none)) 1 1 : Value)), (18, (.slice A74 n75 c76 : Value)), (23, (.pointer (some (Addr.mk b4 0 none)) : Value)), (22, (.slice A84 n85 c86 : Value)), (24, (.pointer (some ((Addr.mk b4 0 none).add 1)) : Value))] (by kernel_rfl) (by kernel_rfl) ⟨.inl (by kernel_rfl), .inl (by kernel_rfl), .inl (by kernel_rfl), .inl (by kernel_rfl), .inl (by kernel_rfl), .inl (by kernel_rfl), .inl (by kernel_rfl), .inl (by kernel_rfl), .inl (by kernel_rfl), .inl (by kernel_rfl), .inl (by kernel_rfl), .inl (by kernel_rfl), .inl (by kernel_rfl), trivial⟩ ?_
            exact ⟨rfl, rfl, rfl, rfl, rfl, rfl, H⟩
        · have H := H.2
          obtain ⟨b99, eb133⟩ : ∃ b99, b99 = Array.size h17 := ⟨_, rfl⟩
          obtain ⟨h98, eh134⟩ : ∃ h98, h98 = Array.push h17 (.cells #[.bool true] 4) := ⟨_, rfl⟩
          have H := H b99 h98 eb133 eh134
          refine LD1.of (i := 7) (fr (fun _ => undef) []) st rfl (by kernel_rfl) (.inl rfl) (OE.buildSliceE (ps := [(0, (.bool true : Value))]) (cells := #[.bool true]) (e := 4) rfl (Tryz.bf27 _) eb133 eh134 ?_)
          obtain ⟨hs100, hs101, H⟩ := H
          obtain ⟨b103, eb131⟩ : ∃ b103, b103 = Array.size h98 := ⟨_, rfl⟩
          obtain ⟨h102, eh132⟩ : ∃ h102, h102 = Array.push h98 (.cells #[.int .u8 x25] 5) := ⟨_, rfl⟩
          have H := H b103 h102 eb131 eh132
          refine DW.loudF (fr (fun _ => undef) [(16, (.int .u8 x25 : Value))]) st hd (i := 3) rfl (by kernel_rfl) (.inl rfl) (by kernel_rfl) ⟨.inl (by kernel_rfl), .inr (YD.u (fr (fun _ => undef) [(19, (.pointer (some ((Addr.mk b4 0 none).add 1)) : Value))]) st rfl rfl (by kernel_rfl) (OE.load (a := ((Addr.mk b4 0 none).add 1)) (v := .slice x29A x29n x29c) rfl (LdT.one Tryz.underlying126 rfl hs101) ⟨rfl, rfl⟩)), .inr (YD.u (fr (fun _ => undef) [(3, (.pointer (some (Addr.mk b4 0 none)) : Value))]) st rfl rfl (by kernel_rfl) (OE.fieldAddrI (a := (Addr.mk b4 0 none)) (o := 1) rfl Tryz.underlying128 rfl Tryz.i126 (by decide) rfl ⟨rfl, rfl⟩)), .inr (YD.u (fr (fun _ => undef) [(6, (.int .u8 x25 : Value))]) st rfl rfl (by kernel_rfl) (OE.moveV (v := .int .u8 x25) rfl ⟨rfl, rfl⟩)), .inr (YD.u (fr (fun _ => undef) [(14, (.pointer (some (Addr.mk b4 0 none)) : Value))]) st rfl rfl (by kernel_rfl) (OE.load (a := (Addr.mk b4 0 none)) (v := .slice x27A x27n x27c) rfl (LdT.one Tryz.underlying22 rfl hs100) ⟨rfl, rfl⟩)), .inr (YD.u (fr (fun _ => undef) [(3, (.pointer (some (Addr.mk b4 0 none)) : Value))]) st rfl rfl (by kernel_rfl) (OE.fieldAddrI (a := (Addr.mk b4 0 none)) (o := 0) rfl Tryz.underlying128 rfl Tryz.i22 (by decide) rfl ⟨rfl, rfl⟩)), trivial⟩ (OE.buildSliceE (ps := [(0, (.int .u8 x25 : Value))]) (cells := #[.int .u8 x25]) (e := 5) rfl (Tryz.bf0 _) eb131 eh132 ?_)
          obtain ⟨hs104, hs105, H⟩ := H
          obtain ⟨vs106, z107, z108, z109, z110, H⟩ := H
          refine DW.loudF (fr (fun _ => undef) [(15, (.slice x27A x27n x27c : Value)), (17, (.slice (some (Addr.mk b103 0 none)) 1 1 : Value))]) st hd (i := 4) rfl (by kernel_rfl) (.inl rfl) (by kernel_rfl) ⟨.inl (by kernel_rfl), .inl (by kernel_rfl), .inr (YD.u (fr (fun _ => undef) [(19, (.pointer (some ((Addr.mk b4 0 none).add 1)) : Value))]) st rfl rfl (by kernel_rfl) (OE.load (a := ((Addr.mk b4 0 none).add 1)) (v := .slice x29A x29n x29c) rfl (LdT.one Tryz.underlying126 rfl hs105) ⟨rfl, rfl⟩)), .inr (YD.u (fr (fun _ => undef) [(3, (.pointer (some (Addr.mk b4 0 none)) : Value))]) st rfl rfl (by kernel_rfl) (OE.fieldAddrI (a := (Addr.mk b4 0 none)) (o := 1) rfl Tryz.underlying128 rfl Tryz.i126 (by decide) rfl ⟨rfl, rfl⟩)), .inl (by kernel_rfl), .inr (YD.u (fr (fun _ => undef) [(14, (.pointer (some (Addr.mk b4 0 none)) : Value))]) st rfl rfl (by kernel_rfl) (OE.load (a := (Addr.mk b4 0 none)) (v := .slice x27A x27n x27c) rfl (LdT.one Tryz.underlying22 rfl hs104) ⟨rfl, rfl⟩)), .inr (YD.u (fr (fun _ => undef) [(3, (.pointer (some (Addr.mk b4 0 none)) : Value))]) st rfl rfl (by kernel_rfl) (OE.fieldAddrI (a := (Addr.mk b4 0 none)) (o := 0) rfl Tryz.underlying128 rfl Tryz.i22 (by decide) rfl ⟨rfl, rfl⟩)), trivial⟩ (OE.appendV (z := (.int .u8 0 : Value)) (sz := 1) (bs := 1) rfl rfl Tryz.underlying22 Tryz.i5 z107 z108 z109 z110 (AppendV.mono H (fun A111 n112 c113 h114 H => ?_)))
          obtain ⟨hs115, H⟩ := H
          refine DW.still (i := 9) (v := .pointer (some (Addr.mk b4 0 none))) (by kernel_rfl) ?_
          obtain ⟨vs116, z117, z118, z119, z120, H⟩ := H
          refine DW.loudF (fr (fun _ => undef) [(20, (.slice x29A x29n x29c : Value)), (21, (.slice (some (Addr.mk b99 0 none)) 1 1 : Value))]) st hd (i := 8) rfl (by kernel_rfl) (.inl rfl) (by kernel_rfl) ⟨.inr (YD.u (fr (fun _ => undef) [(3, (.pointer (some (Addr.mk b4 0 none)) : Value))]) st rfl rfl (by kernel_rfl) (OE.fieldAddrI (a := (Addr.mk b4 0 none)) (o := 0) rfl Tryz.underlying128 rfl Tryz.i22 (by decide) rfl ⟨rfl, rfl⟩)), .inl (by kernel_rfl), .inl (by kernel_rfl), .inl (by kernel_rfl), .inr (YD.u (fr (fun _ => undef) [(19, (.pointer (some ((Addr.mk b4 0 none).add 1)) : Value))]) st rfl rfl (by kernel_rfl) (OE.load (a := ((Addr.mk b4 0 none).add 1)) (v := .slice x29A x29n x29c) rfl (LdT.one Tryz.underlying126 rfl hs115) ⟨rfl, rfl⟩)), .inr (YD.u (fr (fun _ => undef) [(3, (.pointer (some (Addr.mk b4 0 none)) : Value))]) st rfl rfl (by kernel_rfl) (OE.fieldAddrI (a := (Addr.mk b4 0 none)) (o := 1) rfl Tryz.underlying128 rfl Tryz.i126 (by decide) rfl ⟨rfl, rfl⟩)), .inl (by kernel_rfl), .inl (by kernel_rfl), .inl (by kernel_rfl), trivial⟩ (OE.appendV (z := (.bool false : Value)) (sz := 1) (bs := 1) rfl rfl Tryz.underlying126 Tryz.i4 z117 z118 z119 z120 (AppendV.mono H (fun A121 n122 c123 h124 H => ?_)))
          obtain ⟨hw126, H⟩ := H
          obtain ⟨h125, eh130⟩ : ∃ h125, h125 = setc h124 (Addr.mk b4 0 none) (.slice A111 n112 c113) := ⟨_, rfl⟩
          have H := H h125 eh130
          refine DW.loudF (fr (fun _ => undef) [(23, (.pointer (some (Addr.mk b4 0 none)) : Value)), (18, (.slice A111 n112 c113 : Value))]) st hd (i := 10) rfl (by kernel_rfl) (.inl rfl) (by kernel_rfl) ⟨.inl (by kernel_rfl), .inr (YD.u (fr (fun _ => undef) [(3, (.pointer (some (Addr.mk b4 0 none)) : Value))]) st rfl rfl (by kernel_rfl) (OE.fieldAddrI (a := (Addr.mk b4 0 none)) (o := 0) rfl Tryz.underlying128 rfl Tryz.i22 (by decide) rfl ⟨rfl, rfl⟩)), .inl (by kernel_rfl), .inl (by kernel_rfl), .inl (by kernel_rfl), .inl (by kernel_rfl), .inl (by kernel_rfl), .inl (by kernel_rfl), .inl (by kernel_rfl), .inl (by kernel_rfl), trivial⟩ (OE.storeE (a := (Addr.mk b4 0 none)) (v := .slice A111 n112 c113) rfl rfl (StT.oneI Tryz.i22 hw126 rfl) eh130 ?_)
          refine DW.still (i := 11) (v := .pointer (some ((Addr.mk b4 0 none).add 1))) (by kernel_rfl) ?_
          obtain ⟨hw128, H⟩ := H
          obtain ⟨h127, eh129⟩ : ∃ h127, h127 = setc h125 ((Addr.mk b4 0 none).add 1) (.slice A121 n122 c123) := ⟨_, rfl⟩
          have H := H h127 eh129
          refine DW.loudF (fr (fun _ => undef) [(24, (.pointer (some ((Addr.mk b4 0 none).add 1)) : Value)), (22, (.slice A121 n122 c123 : Value))]) st hd (i := 12) rfl (by kernel_rfl) (.inl rfl) (by kernel_rfl) ⟨.inr (YD.u (fr (fun _ => undef) [(3, (.pointer (some (Addr.mk b4 0 none)) : Value))]) st rfl rfl (by kernel_rfl) (OE.fieldAddrI (a := (Addr.mk b4 0 none)) (o := 1) rfl Tryz.underlying128 rfl Tryz.i126 (by decide) rfl ⟨rfl, rfl⟩)), .inl (by kernel_rfl), .inl (by kernel_rfl), .inl (by kernel_rfl), .inl (by kernel_rfl), .inl (by kernel_rfl), .inl (by kernel_rfl), .inl (by kernel_rfl), .inl (by kernel_rfl), .inl (by kernel_rfl), .inl (by kernel_rfl), .inl (by kernel_rfl), trivial⟩ (OE.storeE (a := ((Addr.mk b4 0 none).add 1)) (v := .slice A121 n122 c123) rfl rfl (StT.oneI Tryz.i126 hw128 rfl) eh129 ?_)
          refine DW.finL st hd [(14, (.pointer (some (Addr.mk b4 0 none)) : Value)), (15, (.slice x27A x27n x27c : Value)), (16, (.int .u8 x25 : Value)), (19, (.pointer (some ((Addr.mk b4 0 none).add 1)) : Value)), (20, (.slice x29A x29n x29c : Value)), (21, (.slice (some (Addr.mk b99 0 none)) 1 1 : Value)), (17, (.slice (some (Addr.mk b103 0 none)) 1 1 : Value)), (18, (.slice A111 n112 c113 : Value)), (23, (.pointer (some (Addr.mk b4 0 none)) : Value)), (22, (.slice A121 n122 c123 : Value)), (24, (.pointer (some ((Addr.mk b4 0 none).add 1)) : Value))] (by kernel_rfl) (by kernel_rfl) ⟨.inl (by kernel_rfl), .inl (by kernel_rfl), .inl (by kernel_rfl), .inl (by kernel_rfl), .inl (by kernel_rfl), .inl (by kernel_rfl), .inl (by kernel_rfl), .inl (by kernel_rfl), .inl (by kernel_rfl), .inl (by kernel_rfl), .inl (by kernel_rfl), .inl (by kernel_rfl), .inl (by kernel_rfl), trivial⟩ ?_
          exact ⟨rfl, rfl, rfl, rfl, rfl, rfl, H⟩
    · have H := H.2 e19
      refine VC.exit ?_
      exact ⟨rfl, rfl, rfl, H⟩

def D_disk_appended_length (R : Value → Hp → Prop) (a_0A : Option Addr) (a_0n : Nat) (a_0c : Nat) (a_n : Int) (h : Hp) : Prop :=
  (∀ b2 h1, b2 = Array.size h → h1 = Array.push h (.cells #[.slice a_0A a_0n a_0c] 114) → (∃ x3A : Option Addr, ∃ x3n : Nat, ∃ x3c : Nat, cell h1 (Addr.mk b2 0 none) = some (.slice x3A x3n x3c) ∧ R (.int .i64 (IntKind.i64.wrap (a_n + ((x3n : Nat) : Int)))) h1))
set_option maxRecDepth 10000 in
set_option maxHeartbeats 4000000 in
theorem D_disk_appended_length.sound {R : Value → Hp → Prop} {a_0A : Option Addr} {a_0n : Nat} {a_0c : Nat} {a_n : Int} {h : Hp} (H : D_disk_appended_length R  a_0A a_0n a_0c a_n h) : CH Tryz.prog 173 #[.agg #[.slice a_0A a_0n a_0c], .int .i64 a_n] h R := by
  refine CHE.enter (n := 10) Tryz.func173 rfl rfl (Nat.le_of_ble_eq_true rfl) ?_
  unfold D_disk_appended_length at H
  refine VC.seq ?_
  refine VC.region ?_
  obtain ⟨b2, eb5⟩ : ∃ b2, b2 = Array.size h := ⟨_, rfl⟩
  obtain ⟨h1, eh6⟩ : ∃ h1, h1 = Array.push h (.cells #[.slice a_0A a_0n a_0c] 114) := ⟨_, rfl⟩
  have H := H b2 h1 eb5 eh6
  refine VL.stepD rfl rfl (by decide) (OE.boxE (v := .agg #[.slice a_0A a_0n a_0c]) rfl eb5 eh6 ?_)
  refine VL.stepD rfl rfl (by decide) (OE.assignV (v := .int .i64 0) rfl ?_)
  refine VL.nil ?_
  change VC _ _ _ _ _ _ _
  refine VC.seq ?_
  refine VC.region ?_
  refine VL.stepD rfl rfl (by decide) (OE.moveV (v := .int .i64 a_n) rfl ?_)
  refine VL.stepD rfl rfl (by decide) (OE.fieldAddrI (a := (Addr.mk b2 0 none)) (o := 0) rfl Tryz.underlying114 rfl Tryz.i22 (by decide) rfl ?_)
  obtain ⟨x3A, x3n, x3c, hl4, H⟩ := H
  refine VL.stepD rfl rfl (by decide) (OE.load (a := (Addr.mk b2 0 none)) (v := .slice x3A x3n x3c) rfl (LdT.one Tryz.underlying22 rfl hl4) ?_)
  refine VL.stepD rfl rfl (by decide) (OE.lenSlice rfl Tryz.underlying22 ?_)
  refine VL.stepD rfl rfl (by decide) (OE.binI (v := .int .i64 (IntKind.i64.wrap (a_n + ((x3n : Nat) : Int)))) rfl rfl rfl ?_)
  refine VL.stepD rfl rfl (by decide) (OE.assignV (v := .int .i64 (IntKind.i64.wrap (a_n + ((x3n : Nat) : Int)))) rfl ?_)
  refine VL.nil ?_
  change VC _ _ _ _ _ _ _
  refine VC.ret ?_
  exact ⟨rfl, _, ResOK.t1 rfl (v := .int .i64 (IntKind.i64.wrap (a_n + ((x3n : Nat) : Int)))) rfl, H⟩

def D_disk_truncated_do (R : Value → Hp → Prop) (t_0 : Int) (r_0A : Option Addr) (r_0n : Nat) (r_0c : Nat) (r_1A : Option Addr) (r_1n : Nat) (r_1c : Nat) (h : Hp) : Prop :=
  (∀ b2 h1, b2 = Array.size h → h1 = Array.push h (.cells #[.int .i64 t_0] 122) → (∀ b4 h3, b4 = Array.size h1 → h3 = Array.push h1 (.cells #[.slice r_0A r_0n r_0c, .slice r_1A r_1n r_1c] 128) → (∀ b6 h5, b6 = Array.size h3 → h5 = Array.push h3 (.cells #[.slice none 0 0, .slice none 0 0] 128) → (∃ x7A : Option Addr, ∃ x7n : Nat, ∃ x7c : Nat, cell h5 (Addr.mk b4 0 none) = some (.slice x7A x7n x7c) ∧ (∃ x9 : Int, cell h5 (Addr.mk b2 0 none) = some (.int .i64 x9) ∧ ((0 : Int) ≤ x9 ∧ x9 ≤ ((x7c : Nat) : Int) ∧ (∃ x13A : Option Addr, ∃ x13n : Nat, ∃ x13c : Nat, cell h5 ((Addr.mk b4 0 none).add 1) = some (.slice x13A x13n x13c) ∧ (∃ x15 : Int, cell h5 (Addr.mk b2 0 none) = some (.int .i64 x15) ∧ ((0 : Int) ≤ x15 ∧ x15 ≤ ((x13c : Nat) : Int) ∧ ((∀ j, j < 2 → Wr h5 (Addr.add (Addr.mk b6 0 none) j)) ∧ ∀ h19, h19 = setRow h5 (Addr.mk b6 0 none) [.slice x7A (Int.toNat x9) x7c, .slice x13A (Int.toNat x15) x13c] 0 → ∃ r21_0A : Option Addr, ∃ r21_0n : Nat, ∃ r21_0c : Nat, ∃ r21_1A : Option Addr, ∃ r21_1n : Nat, ∃ r21_1c : Nat, Row h19 (Addr.mk b6 0 none) [.slice r21_0A r21_0n r21_0c, .slice r21_1A r21_1n r21_1c] ∧ R (.agg #[.slice r21_0A r21_0n r21_0c, .slice r21_1A r21_1n r21_1c]) h19))))))))))
set_option maxRecDepth 10000 in
set_option maxHeartbeats 4000000 in
theorem D_disk_truncated_do.sound {R : Value → Hp → Prop} {t_0 : Int} {r_0A : Option Addr} {r_0n : Nat} {r_0c : Nat} {r_1A : Option Addr} {r_1n : Nat} {r_1c : Nat} {h : Hp} (H : D_disk_truncated_do R  t_0 r_0A r_0n r_0c r_1A r_1n r_1c h) : CH Tryz.prog 174 #[.agg #[.int .i64 t_0], .agg #[.slice r_0A r_0n r_0c, .slice r_1A r_1n r_1c]] h R := by
  refine CHE.enter (n := 16) Tryz.func174 rfl rfl (Nat.le_of_ble_eq_true rfl) ?_
  unfold D_disk_truncated_do at H
  refine VC.seq ?_
  refine VC.region ?_
  obtain ⟨b2, eb27⟩ : ∃ b2, b2 = Array.size h := ⟨_, rfl⟩
  obtain ⟨h1, eh28⟩ : ∃ h1, h1 = Array.push h (.cells #[.int .i64 t_0] 122) := ⟨_, rfl⟩
  have H := H b2 h1 eb27 eh28
  refine VL.stepD rfl rfl (by decide) (OE.boxE (v := .agg #[.int .i64 t_0]) rfl eb27 eh28 ?_)
  obtain ⟨b4, eb25⟩ : ∃ b4, b4 = Array.size h1 := ⟨_, rfl⟩
  obtain ⟨h3, eh26⟩ : ∃ h3, h3 = Array.push h1 (.cells #[.slice r_0A r_0n r_0c, .slice r_1A r_1n r_1c] 128) := ⟨_, rfl⟩
  have H := H b4 h3 eb25 eh26
  refine VL.stepD rfl rfl (by decide) (OE.boxE (v := .agg #[.slice r_0A r_0n r_0c, .slice r_1A r_1n r_1c]) rfl eb25 eh26 ?_)
  obtain ⟨b6, eb23⟩ : ∃ b6, b6 = Array.size h3 := ⟨_, rfl⟩
  obtain ⟨h5, eh24⟩ : ∃ h5, h5 = Array.push h3 (.cells #[.slice none 0 0, .slice none 0 0] 128) := ⟨_, rfl⟩
  have H := H b6 h5 eb23 eh24
  refine VL.stepD rfl rfl (by decide) (OE.allocE (z := .agg #[.slice none 0 0, .slice none 0 0]) Tryz.i128 eb23 eh24 ?_)
  refine VL.nil ?_
  change VC _ _ _ _ _ _ _
  refine VC.seq ?_
  refine VC.drawsS Tryz.mixed (by kernel_rfl) (by kernel_rfl) (fun st hd => ?_)
  refine DW.still (i := 0) (v := .pointer (some (Addr.mk b4 0 none))) (by kernel_rfl) ?_
  obtain ⟨x7A, x7n, x7c, hl8, H⟩ := H
  refine DW.still (i := 1) (v := .slice x7A x7n x7c) (by kernel_rfl) ?_
  refine DW.still (i := 2) (v := .pointer (some (Addr.mk b2 0 none))) (by kernel_rfl) ?_
  obtain ⟨x9, hl10, H⟩ := H
  refine DW.still (i := 3) (v := .int .i64 x9) (by kernel_rfl) ?_
  obtain ⟨z11, z12, H⟩ := H
  refine DW.still (i := 4) (v := .slice x7A (Int.toNat x9) x7c) (by kernel_rfl) ?_
  refine DW.still (i := 5) (v := .pointer (some ((Addr.mk b4 0 none).add 1))) (by kernel_rfl) ?_
  obtain ⟨x13A, x13n, x13c, hl14, H⟩ := H
  refine DW.still (i := 6) (v := .slice x13A x13n x13c) (by kernel_rfl) ?_
  refine DW.still (i := 7) (v := .pointer (some (Addr.mk b2 0 none))) (by kernel_rfl) ?_
  obtain ⟨x15, hl16, H⟩ := H
  refine DW.still (i := 8) (v := .int .i64 x15) (by kernel_rfl) ?_
  obtain ⟨z17, z18, H⟩ := H
  refine DW.still (i := 9) (v := .slice x13A (Int.toNat x15) x13c) (by kernel_rfl) ?_
  refine DW.still (i := 10) (v := .agg #[.slice x7A (Int.toNat x9) x7c, .slice x13A (Int.toNat x15) x13c]) (by kernel_rfl) ?_
  obtain ⟨hw20, H⟩ := H
  obtain ⟨h19, eh22⟩ : ∃ h19, h19 = setRow h5 (Addr.mk b6 0 none) [.slice x7A (Int.toNat x9) x7c, .slice x13A (Int.toNat x15) x13c] 0 := ⟨_, rfl⟩
  have H := H h19 eh22
  refine DW.loudF (fr (fun _ => undef) [(4, (.pointer (some (Addr.mk b6 0 none)) : Value)), (15, (.agg #[.slice x7A (Int.toNat x9) x7c, .slice x13A (Int.toNat x15) x13c] : Value))]) st hd (i := 11) rfl (by kernel_rfl) (.inl rfl) (by kernel_rfl) ⟨.inr (YD.u (fr (fun _ => undef) [(9, (.slice x7A (Int.toNat x9) x7c : Value)), (14, (.slice x13A (Int.toNat x15) x13c : Value))]) st rfl rfl (by kernel_rfl) (OE.buildV (ps := [(0, (.slice x7A (Int.toNat x9) x7c : Value)), (1, (.slice x13A (Int.toNat x15) x13c : Value))]) rfl (Tryz.bf20 _ _ _ _ _ _) ⟨rfl, rfl⟩)), .inr (YD.u (fr (fun _ => undef) [(11, (.slice x13A x13n x13c : Value)), (13, (.int .i64 x15 : Value))]) st rfl rfl (by kernel_rfl) (OE.sliceHiV (sz := 1) rfl rfl Tryz.underlying126 Tryz.i4 z17 z18 ⟨rfl, rfl⟩)), .inr (YD.u (fr (fun _ => undef) [(12, (.pointer (some (Addr.mk b2 0 none)) : Value))]) st rfl rfl (by kernel_rfl) (OE.load (a := (Addr.mk b2 0 none)) (v := .int .i64 x15) rfl (LdT.one Tryz.underlying3 rfl hl16) ⟨rfl, rfl⟩)), .inr (YD.u (fr (fun _ => undef) [(2, (.pointer (some (Addr.mk b2 0 none)) : Value))]) st rfl rfl (by kernel_rfl) (OE.fieldAddrI (a := (Addr.mk b2 0 none)) (o := 0) rfl Tryz.underlying122 rfl Tryz.i3 (by decide) rfl ⟨rfl, rfl⟩)), .inr (YD.u (fr (fun _ => undef) [(10, (.pointer (some ((Addr.mk b4 0 none).add 1)) : Value))]) st rfl rfl (by kernel_rfl) (OE.load (a := ((Addr.mk b4 0 none).add 1)) (v := .slice x13A x13n x13c) rfl (LdT.one Tryz.underlying126 rfl hl14) ⟨rfl, rfl⟩)), .inr (YD.u (fr (fun _ => undef) [(3, (.pointer (some (Addr.mk b4 0 none)) : Value))]) st rfl rfl (by kernel_rfl) (OE.fieldAddrI (a := (Addr.mk b4 0 none)) (o := 1) rfl Tryz.underlying128 rfl Tryz.i126 (by decide) rfl ⟨rfl, rfl⟩)), .inr (YD.u (fr (fun _ => undef) [(6, (.slice x7A x7n x7c : Value)), (8, (.int .i64 x9 : Value))]) st rfl rfl (by kernel_rfl) (OE.sliceHiV (sz := 1) rfl rfl Tryz.underlying22 Tryz.i5 z11 z12 ⟨rfl, rfl⟩)), .inr (YD.u (fr (fun _ => undef) [(7, (.pointer (some (Addr.mk b2 0 none)) : Value))]) st rfl rfl (by kernel_rfl) (OE.load (a := (Addr.mk b2 0 none)) (v := .int .i64 x9) rfl (LdT.one Tryz.underlying3 rfl hl10) ⟨rfl, rfl⟩)), .inr (YD.u (fr (fun _ => undef) [(2, (.pointer (some (Addr.mk b2 0 none)) : Value))]) st rfl rfl (by kernel_rfl) (OE.fieldAddrI (a := (Addr.mk b2 0 none)) (o := 0) rfl Tryz.underlying122 rfl Tryz.i3 (by decide) rfl ⟨rfl, rfl⟩)), .inr (YD.u (fr (fun _ => undef) [(5, (.pointer (some (Addr.mk b4 0 none)) : Value))]) st rfl rfl (by kernel_rfl) (OE.load (a := (Addr.mk b4 0 none)) (v := .slice x7A x7n x7c) rfl (LdT.one Tryz.underlying22 rfl hl8) ⟨rfl, rfl⟩)), .inr (YD.u (fr (fun _ => undef) [(3, (.pointer (some (Addr.mk b4 0 none)) : Value))]) st rfl rfl (by kernel_rfl) (OE.fieldAddrI (a := (Addr.mk b4 0 none)) (o := 0) rfl Tryz.underlying128 rfl Tryz.i22 (by decide) rfl ⟨rfl, rfl⟩)), trivial⟩ (OE.storeE (a := (Addr.mk b6 0 none)) (v := .agg #[.slice x7A (Int.toNat x9) x7c, .slice x13A (Int.toNat x15) x13c]) rfl rfl (StT.aggI (vs := [.slice x7A (Int.toNat x9) x7c, .slice x13A (Int.toNat x15) x13c]) Tryz.i128 rfl hw20 (by simp [oneC])) eh22 ?_)
  refine DW.finL st hd [(5, (.pointer (some (Addr.mk b4 0 none)) : Value)), (6, (.slice x7A x7n x7c : Value)), (7, (.pointer (some (Addr.mk b2 0 none)) : Value)), (8, (.int .i64 x9 : Value)), (9, (.slice x7A (Int.toNat x9) x7c : Value)), (10, (.pointer (some ((Addr.mk b4 0 none).add 1)) : Value)), (11, (.slice x13A x13n x13c : Value)), (12, (.pointer (some (Addr.mk b2 0 none)) : Value)), (13, (.int .i64 x15 : Value)), (14, (.slice x13A (Int.toNat x15) x13c : Value)), (15, (.agg #[.slice x7A (Int.toNat x9) x7c, .slice x13A (Int.toNat x15) x13c] : Value))] (by kernel_rfl) (by kernel_rfl) ⟨.inl (by kernel_rfl), .inl (by kernel_rfl), .inl (by kernel_rfl), .inl (by kernel_rfl), .inl (by kernel_rfl), .inl (by kernel_rfl), .inl (by kernel_rfl), .inl (by kernel_rfl), .inl (by kernel_rfl), .inl (by kernel_rfl), .inl (by kernel_rfl), .inl (by kernel_rfl), trivial⟩ ?_
  change VC _ _ _ _ _ _ _
  refine VC.ret ?_
  obtain ⟨r21_0A, r21_0n, r21_0c, r21_1A, r21_1n, r21_1c, hl, H⟩ := H
  exact ⟨rfl, _, ResOK.c1 rfl (v := .agg #[.slice r21_0A r21_0n r21_0c, .slice r21_1A r21_1n r21_1c]) rfl (LdT.aggI Tryz.underlying128 rfl Tryz.i128 rfl hl), H⟩

def D_disk_truncated_length (R : Value → Hp → Prop) (t_0 : Int) (x : Int) (h : Hp) : Prop :=
  (∀ b2 h1, b2 = Array.size h → h1 = Array.push h (.cells #[.int .i64 t_0] 122) → (∃ x3 : Int, cell h1 (Addr.mk b2 0 none) = some (.int .i64 x3) ∧ R (.int .i64 x3) h1))
set_option maxRecDepth 10000 in
set_option maxHeartbeats 4000000 in
theorem D_disk_truncated_length.sound {R : Value → Hp → Prop} {t_0 : Int} {x : Int} {h : Hp} (H : D_disk_truncated_length R  t_0 x h) : CH Tryz.prog 175 #[.agg #[.int .i64 t_0], .int .i64 x] h R := by
  refine CHE.enter (n := 7) Tryz.func175 rfl rfl (Nat.le_of_ble_eq_true rfl) ?_
  unfold D_disk_truncated_length at H
  refine VC.seq ?_
  refine VC.region ?_
  obtain ⟨b2, eb5⟩ : ∃ b2, b2 = Array.size h := ⟨_, rfl⟩
  obtain ⟨h1, eh6⟩ : ∃ h1, h1 = Array.push h (.cells #[.int .i64 t_0] 122) := ⟨_, rfl⟩
  have H := H b2 h1 eb5 eh6
  refine VL.stepD rfl rfl (by decide) (OE.boxE (v := .agg #[.int .i64 t_0]) rfl eb5 eh6 ?_)
  refine VL.stepD rfl rfl (by decide) (OE.assignV (v := .int .i64 0) rfl ?_)
  refine VL.nil ?_
  change VC _ _ _ _ _ _ _
  refine VC.seq ?_
  refine VC.region ?_
  refine VL.stepD rfl rfl (by decide) (OE.fieldAddrI (a := (Addr.mk b2 0 none)) (o := 0) rfl Tryz.underlying122 rfl Tryz.i3 (by decide) rfl ?_)
  obtain ⟨x3, hl4, H⟩ := H
  refine VL.stepD rfl rfl (by decide) (OE.load (a := (Addr.mk b2 0 none)) (v := .int .i64 x3) rfl (LdT.one Tryz.underlying3 rfl hl4) ?_)
  refine VL.stepD rfl rfl (by decide) (OE.assignV (v := .int .i64 x3) rfl ?_)
  refine VL.nil ?_
  change VC _ _ _ _ _ _ _
  refine VC.ret ?_
  exact ⟨rfl, _, ResOK.t1 rfl (v := .int .i64 x3) rfl, H⟩


def D_disk_Disk_Crash.J1 (R : Value → Hp → Prop)  (d : Option Addr) (b2 : Nat) (b7 : Nat)  (h10 : Hp) : Prop :=
  (∃ x11_0 : Int, ∃ x11_1A : Option Addr, ∃ x11_1n : Nat, ∃ x11_1c : Nat, ∃ x11_2A : Option Addr, ∃ x11_2n : Nat, ∃ x11_2c : Nat, Row h10 (Addr.mk b2 0 none) [.int .i64 x11_0, .slice x11_1A x11_1n x11_1c, .slice x11_2A x11_2n x11_2c] ∧ CH Tryz.prog 69 #[.pointer d, .agg #[.int .i64 x11_0, .slice x11_1A x11_1n x11_1c, .slice x11_2A x11_2n x11_2c]] h10 (fun r13 h14 => ∃ y15A : Option Addr, ∃ y15n : Nat, ∃ y15c : Nat, r13 = .slice y15A y15n y15c ∧ CH Tryz.prog 68 #[.pointer d, .slice y15A y15n y15c] h14 (fun r16 h17 => ∃ y18 : Option Nat, r16 = .map y18 ∧ CH Tryz.prog 58 #[.pointer d, .map y18] h17 (fun r19 h20 => (∃ a21 : Addr, d = some a21 ∧ (Wr h20 (a21.add 10) ∧ ∀ h23, h23 = setc h20 (a21.add 10) (.bool false) → CH Tryz.prog 16 #[.pointer d, .agg #[.slice none 0 0, .slice none 0 0]] h23 (fun r25 h26 => (∃ x27 : Option Nat, cell h26 (a21.add 4) = some (.map x27) ∧ CH Tryz.prog 70 #[.map x27, .func (.func 71) #[] #[.pointer (some (Addr.mk b7 0 none))]] h26 (fun r29 h30 => ∃ y31A : Option Addr, ∃ y31n : Nat, ∃ y31c : Nat, r29 = .slice y31A y31n y31c ∧ R (.slice y31A y31n y31c) h30)))))))))
def D_disk_Disk_Crash.J3 (R : Value → Hp → Prop) (C41 : Int → Hp → Prop) (d : Option Addr) (b7 : Nat) (j39 : Int) (x47 : Int) (b50 : Nat)  (h51 : Hp) : Prop :=
  (∃ a52 : Addr, d = some a52 ∧ (∃ x54 : Option Nat, cell h51 (a52.add 3) = some (.map x54) ∧ (∃ x56 : Option Addr, MLk Tryz.prog 100 h51 (.map x54) (.int .i64 x47) false (.pointer x56) ∧ (∃ x58 : Int, cell h51 (Addr.mk b50 0 none) = some (.int .i64 x58) ∧ (∃ a60 : Addr, x56 = some a60 ∧ (∃ x62A : Option Addr, ∃ x62n : Nat, ∃ x62c : Nat, cell h51 (a60.add 1) = some (.slice x62A x62n x62c) ∧ CH Tryz.prog 65 #[.int .i64 x58, .int .i64 (IntKind.i64.wrap (((x62n : Nat) : Int) + 1))] h51 (fun r64 h65 => ∃ y66 : Int, r64 = .int .i64 y66 ∧ (∃ x67 : Option Nat, cell h65 (Addr.mk b7 0 none) = some (.map x67) ∧ CH Tryz.prog 66 #[.pointer x56, .int .i64 y66] h65 (fun r69 h70 => ∃ y71_0A : Option Addr, ∃ y71_0n : Nat, ∃ y71_0c : Nat, ∃ y71_1A : Option Addr, ∃ y71_1n : Nat, ∃ y71_1c : Nat, r69 = .agg #[.slice y71_0A y71_0n y71_0c, .slice y71_1A y71_1n y71_1c] ∧ (cell h70 (Addr.mk b7 0 none) = some (.map x67) ∧ (∃ Q92 : Hp → Prop, MUp Tryz.prog 125 h70 (.map x67) (.int .i64 x47) (.slice y71_0A y71_0n y71_0c) Q92 ∧ ∀ h73, Q92 h73 → (∃ x75A : Option Addr, ∃ x75n : Nat, ∃ x75c : Nat, cell h73 ((Addr.mk b50 0 none).add 1) = some (.slice x75A x75n x75c) ∧ CH Tryz.prog 66 #[.pointer x56, .int .i64 y66] h73 (fun r77 h78 => ∃ y79_0A : Option Addr, ∃ y79_0n : Nat, ∃ y79_0c : Nat, ∃ y79_1A : Option Addr, ∃ y79_1n : Nat, ∃ y79_1c : Nat, r77 = .agg #[.slice y79_0A y79_0n y79_0c, .slice y79_1A y79_1n y79_1c] ∧ (cell h78 ((Addr.mk b50 0 none).add 1) = some (.slice x75A x75n x75c) ∧ CH Tryz.prog 67 #[.agg #[.slice y79_0A y79_0n y79_0c, .slice y79_1A y79_1n y79_1c], .slice x75A x75n x75c] h78 (fun r81 h82 => ∃ y83_0A : Option Addr, ∃ y83_0n : Nat, ∃ y83_0c : Nat, ∃ y83_1A : Option Addr, ∃ y83_1n : Nat, ∃ y83_1c : Nat, r81 = .agg #[.slice y83_0A y83_0n y83_0c, .slice y83_1A y83_1n y83_1c] ∧ (Wr h82 a60 ∧ ∀ h84, h84 = setc h82 a60 (.slice y83_0A y83_0n y83_0c) → (Wr h84 (a60.add 1) ∧ ∀ h86, h86 = setc h84 (a60.add 1) (.slice none 0 0) → C41 (IntKind.i64.wrap (j39 + 1)) h86)))))))))))))))))
def D_disk_Disk_Crash.L2 (R : Value → Hp → Prop)  (d : Option Addr) (b2 : Nat) (b7 : Nat) (y38A : Option Addr) (y38n : Nat) (C41 : Int → Hp → Prop) (j39 : Int) (h40 : Hp) : Prop :=
  (((decide (j39 < ((y38n : Nat) : Int))) = true → (∃ a43 : Addr, y38A = some a43 ∧ (0 : Int) ≤ j39 ∧ j39 < (y38n : Int) ∧ (∃ x47 : Int, cell h40 (a43.add (Int.toNat j39 * 1)) = some (.int .i64 x47) ∧ (∀ b50 h49, b50 = Array.size h40 → h49 = Array.push h40 (.cells #[.int .i64 0, .slice none 0 0] 59) → (∃ x96A : Option Addr, ∃ x96n : Nat, ∃ x96c : Nat, cell h49 ((Addr.mk b2 0 none).add 2) = some (.slice x96A x96n x96c) ∧ (((decide (j39 < ((x96n : Nat) : Int))) = true → (∃ x99A : Option Addr, ∃ x99n : Nat, ∃ x99c : Nat, cell h49 ((Addr.mk b2 0 none).add 2) = some (.slice x99A x99n x99c) ∧ (∃ a101 : Addr, x99A = some a101 ∧ (0 : Int) ≤ j39 ∧ j39 < (x99n : Int) ∧ (∃ x105_0 : Int, ∃ x105_1A : Option Addr, ∃ x105_1n : Nat, ∃ x105_1c : Nat, Row h49 (a101.add (Int.toNat j39 * 2)) [.int .i64 x105_0, .slice x105_1A x105_1n x105_1c] ∧ ((∀ j, j < 2 → Wr h49 (Addr.add (Addr.mk b50 0 none) j)) ∧ ∀ h107, h107 = setRow h49 (Addr.mk b50 0 none) [.int .i64 x105_0, .slice x105_1A x105_1n x105_1c] 0 → D_disk_Disk_Crash.J3 R C41 d b7 j39 x47 b50  h107))))) ∧ ((decide (j39 < ((x96n : Nat) : Int))) = false → D_disk_Disk_Crash.J3 R C41 d b7 j39 x47 b50  h49))))))) ∧ ((decide (j39 < ((y38n : Nat) : Int))) = false → D_disk_Disk_Crash.J1 R  d b2 b7  h40))
def D_disk_Disk_Crash (R : Value → Hp → Prop) (d : Option Addr) (p_0 : Int) (p_1A : Option Addr) (p_1n : Nat) (p_1c : Nat) (p_2A : Option Addr) (p_2n : Nat) (p_2c : Nat) (h : Hp) : Prop :=
  (∀ b2 h1, b2 = Array.size h → h1 = Array.push h (.cells #[.int .i64 p_0, .slice p_1A p_1n p_1c, .slice p_2A p_2n p_2c] 47) → (((Option.isNone d) = true → R (.slice none 0 0) h1) ∧ ((Option.isNone d) = false → (∀ b5 h4, b5 = Array.size h1 → h4 = Array.push h1 (.map #[] 0) → (∀ b7 h6, b7 = Array.size h4 → h6 = Array.push h4 (.cells #[.map none] 125) → (Wr h6 (Addr.mk b7 0 none) ∧ ∀ h8, h8 = setc h6 (Addr.mk b7 0 none) (.map (some b5)) → CH Tryz.prog 43 #[.pointer d] h8 (fun r36 h37 => ∃ y38A : Option Addr, ∃ y38n : Nat, ∃ y38c : Nat, r36 = .slice y38A y38n y38c ∧ (∃ Inv : Int → Hp → Nat → Prop, (∃ m, Inv 0 h37 m) ∧ ∀ j39 h40 m, Inv j39 h40 m → D_disk_Disk_Crash.L2 R  d b2 b7 y38A y38n (fun j39 h40 => ∃ m1, m1 < m ∧ Inv j39 h40 m1) j39 h40))))))))
set_option maxRecDepth 10000 in
set_option maxHeartbeats 4000000 in
theorem D_disk_Disk_Crash.sound {R : Value → Hp → Prop} {d : Option Addr} {p_0 : Int} {p_1A : Option Addr} {p_1n : Nat} {p_1c : Nat} {p_2A : Option Addr} {p_2n : Nat} {p_2c : Nat} {h : Hp} (H : D_disk_Disk_Crash R  d p_0 p_1A p_1n p_1c p_2A p_2n p_2c h) : CH Tryz.prog 20 #[.pointer d, .agg #[.int .i64 p_0, .slice p_1A p_1n p_1c, .slice p_2A p_2n p_2c]] h R := by
  refine CHE.enter (n := 86) Tryz.func20 rfl rfl (Nat.le_of_ble_eq_true rfl) ?_
  unfold D_disk_Disk_Crash at H
  refine VC.seq ?_
  refine VC.region ?_
  obtain ⟨b2, eb118⟩ : ∃ b2, b2 = Array.size h := ⟨_, rfl⟩
  obtain ⟨h1, eh119⟩ : ∃ h1, h1 = Array.push h (.cells #[.int .i64 p_0, .slice p_1A p_1n p_1c, .slice p_2A p_2n p_2c] 47) := ⟨_, rfl⟩
  have H := H b2 h1 eb118 eh119
  refine VL.stepD rfl rfl (by decide) (OE.boxE (v := .agg #[.int .i64 p_0, .slice p_1A p_1n p_1c, .slice p_2A p_2n p_2c]) rfl eb118 eh119 ?_)
  refine VL.stepD rfl rfl (by decide) (OE.assignV (v := .slice none 0 0) rfl ?_)
  refine VL.nil ?_
  change VC _ _ _ _ _ _ _
  refine VC.seq ?_
  refine VC.seq ?_
  refine VC.region ?_
  refine VL.stepD rfl rfl (by decide) (OE.moveV (v := .pointer d) rfl ?_)
  refine VL.stepD rfl rfl (by decide) (OE.ptrNilV (b := (Option.isNone d)) (p := d) (q := none) rfl rfl Tryz.underlying24 (.inr rfl) (by simp) ?_)
  refine VL.nil ?_
  change VC _ _ _ _ _ _ _
  refine VC.cond (t := (Option.isNone d)) rfl (fun e3 => ?_) (fun e3 => ?_)
  · have H := H.1 e3
    refine VC.seq ?_
    refine VC.region ?_
    refine VL.stepD rfl rfl (by decide) (OE.assignV (v := .slice none 0 0) rfl ?_)
    refine VL.nil ?_
    change VC _ _ _ _ _ _ _
    refine VC.ret ?_
    exact ⟨rfl, _, ResOK.t1 rfl (v := .slice none 0 0) rfl, H⟩
  · have H := H.2 e3
    refine VC.skip ?_
    change VC _ _ _ _ _ _ _
    refine VC.seq ?_
    refine VC.region ?_
    obtain ⟨b5, eb116⟩ : ∃ b5, b5 = Array.size h1 := ⟨_, rfl⟩
    obtain ⟨h4, eh117⟩ : ∃ h4, h4 = Array.push h1 (.map #[] 0) := ⟨_, rfl⟩
    have H := H b5 h4 eb116 eh117
    refine VL.stepD rfl rfl (by decide) (OE.makeMapE eb116 eh117 ?_)
    obtain ⟨b7, eb114⟩ : ∃ b7, b7 = Array.size h4 := ⟨_, rfl⟩
    obtain ⟨h6, eh115⟩ : ∃ h6, h6 = Array.push h4 (.cells #[.map none] 125) := ⟨_, rfl⟩
    have H := H b7 h6 eb114 eh115
    refine VL.stepD rfl rfl (by decide) (OE.allocE (z := .map none) Tryz.i125 eb114 eh115 ?_)
    obtain ⟨hw9, H⟩ := H
    obtain ⟨h8, eh113⟩ : ∃ h8, h8 = setc h6 (Addr.mk b7 0 none) (.map (some b5)) := ⟨_, rfl⟩
    have H := H h8 eh113
    refine VL.stepN rfl rfl (OE.storeE (a := (Addr.mk b7 0 none)) (v := .map (some b5)) rfl rfl (StT.oneI Tryz.i125 hw9 rfl) eh113 ?_)
    refine VL.nil ?_
    change VC _ _ _ _ _ _ _
    refine VC.seqJ (fun f h10 => f 0 = (.pointer d : Value) ∧ f 3 = (.pointer (some (Addr.mk b2 0 none)) : Value) ∧ f 5 = (.pointer (some (Addr.mk b7 0 none)) : Value) ∧ D_disk_Disk_Crash.J1 R  d b2 b7  h10) ?_ ?_
    · intro f h10 J
      obtain ⟨hk0, hk3, hk5, H⟩ := J
      rw [← fr_self f [(0, .pointer d), (3, .pointer (some (Addr.mk b2 0 none))), (5, .pointer (some (Addr.mk b7 0 none)))] (by simp only [List.mem_cons, List.not_mem_nil, or_false]; rintro p (rfl | rfl | rfl) <;> assumption)]
      unfold D_disk_Disk_Crash.J1 at H
      refine VC.seq ?_
      refine VC.region ?_
      refine VL.stepD rfl rfl (by decide) (OE.moveV (v := .pointer d) rfl ?_)
      refine VL.stepD rfl rfl (by decide) (OE.moveV (v := .pointer d) rfl ?_)
      refine VL.stepD rfl rfl (by decide) (OE.moveV (v := .pointer d) rfl ?_)
      obtain ⟨x11_0, x11_1A, x11_1n, x11_1c, x11_2A, x11_2n, x11_2c, hl12, H⟩ := H
      refine VL.stepD rfl rfl (by decide) (OE.load (a := (Addr.mk b2 0 none)) (v := .agg #[.int .i64 x11_0, .slice x11_1A x11_1n x11_1c, .slice x11_2A x11_2n x11_2c]) rfl (LdT.aggI Tryz.underlying47 rfl Tryz.i47 rfl hl12) ?_)
      refine VL.stepD rfl rfl (by decide) (OE.callL (args := [.pointer d, .agg #[.int .i64 x11_0, .slice x11_1A x11_1n x11_1c, .slice x11_2A x11_2n x11_2c]]) Tryz.func69 rfl Tryz.nn69 rfl rfl (CHE.mono H (fun r13 h14 H => ?_) (fun _ _ e => e.elim)))
      obtain ⟨y15A, y15n, y15c, rfl, H⟩ := H
      refine VL.stepD rfl rfl (by decide) (OE.callL (args := [.pointer d, .slice y15A y15n y15c]) Tryz.func68 rfl Tryz.nn68 rfl rfl (CHE.mono H (fun r16 h17 H => ?_) (fun _ _ e => e.elim)))
      obtain ⟨y18, rfl, H⟩ := H
      refine VL.stepD rfl rfl (by decide) (OE.callL (args := [.pointer d, .map y18]) Tryz.func58 rfl Tryz.nn58 rfl rfl (CHE.mono H (fun r19 h20 H => ?_) (fun _ _ e => e.elim)))
      refine VL.nil ?_
      change VC _ _ _ _ _ _ _
      refine VC.seq ?_
      refine VC.region ?_
      refine VL.stepD rfl rfl (by decide) (OE.moveV (v := .pointer d) rfl ?_)
      obtain ⟨a21, e22, H⟩ := H
      refine VL.stepD rfl rfl (by decide) (OE.nilCheck (a := a21) (congrArg Value.pointer e22) ?_)
      refine VL.stepD rfl rfl (by decide) (OE.fieldAddrI (a := a21) (o := 10) rfl Tryz.underlying104 rfl Tryz.i4 (by decide) rfl ?_)
      obtain ⟨hw24, H⟩ := H
      obtain ⟨h23, eh33⟩ : ∃ h23, h23 = setc h20 (a21.add 10) (.bool false) := ⟨_, rfl⟩
      have H := H h23 eh33
      refine VL.stepN rfl rfl (OE.storeE (a := (a21.add 10)) (v := .bool false) rfl rfl (StT.oneI Tryz.i4 hw24 rfl) eh33 ?_)
      refine VL.nil ?_
      change VC _ _ _ _ _ _ _
      refine VC.seq ?_
      refine VC.region ?_
      refine VL.stepD rfl rfl (by decide) (OE.moveV (v := .pointer d) rfl ?_)
      refine VL.stepD rfl rfl (by decide) (OE.buildV (ps := []) rfl (Tryz.bf28) ?_)
      refine VL.stepD rfl rfl (by decide) (OE.callL (args := [.pointer d, .agg #[.slice none 0 0, .slice none 0 0]]) Tryz.func16 rfl Tryz.nn16 rfl rfl (CHE.mono H (fun r25 h26 H => ?_) (fun _ _ e => e.elim)))
      refine VL.nil ?_
      change VC _ _ _ _ _ _ _
      refine VC.seq ?_
      refine VC.region ?_
      refine VL.stepD rfl rfl (by decide) (OE.moveV (v := .pointer d) rfl ?_)
      refine VL.stepD rfl rfl (by decide) (OE.nilCheck (a := a21) (congrArg Value.pointer e22) ?_)
      refine VL.stepD rfl rfl (by decide) (OE.fieldAddrI (a := a21) (o := 4) rfl Tryz.underlying104 rfl Tryz.i101 (by decide) rfl ?_)
      obtain ⟨x27, hl28, H⟩ := H
      refine VL.stepD rfl rfl (by decide) (OE.load (a := (a21.add 4)) (v := .map x27) rfl (LdT.one Tryz.underlying101 rfl hl28) ?_)
      refine VL.stepD rfl rfl (by decide) (OE.makeFuncL (l := [.pointer (some (Addr.mk b7 0 none))]) rfl ?_)
      refine VL.stepD rfl rfl (by decide) (OE.callL (args := [.map x27, .func (.func 71) #[] #[.pointer (some (Addr.mk b7 0 none))]]) Tryz.func70 rfl Tryz.nn70 rfl rfl (CHE.mono H (fun r29 h30 H => ?_) (fun _ _ e => e.elim)))
      obtain ⟨y31A, y31n, y31c, rfl, H⟩ := H
      refine VL.stepD rfl rfl (by decide) (OE.assignV (v := .slice y31A y31n y31c) rfl ?_)
      refine VL.nil ?_
      change VC _ _ _ _ _ _ _
      refine VC.ret ?_
      exact ⟨rfl, _, ResOK.t1 rfl (v := .slice y31A y31n y31c) rfl, H⟩
    · skip
      refine VC.seq ?_
      refine VC.region ?_
      refine VL.stepD rfl rfl (by decide) (OE.moveV (v := .pointer d) rfl ?_)
      refine VL.stepD rfl rfl (by decide) (OE.callL (args := [.pointer d]) Tryz.func43 rfl Tryz.nn43 rfl rfl (CHE.mono H (fun r36 h37 H => ?_) (fun _ _ e => e.elim)))
      obtain ⟨y38A, y38n, y38c, rfl, H⟩ := H
      refine VL.stepD rfl rfl (by decide) (OE.lenSlice rfl Tryz.underlying44 ?_)
      refine VL.stepD rfl rfl (by decide) (OE.moveV (v := .int .i64 0) rfl ?_)
      refine VL.nil ?_
      change VC _ _ _ _ _ _ _
      refine VC.block ?_
      obtain ⟨Inv, ⟨m0, h0⟩, H⟩ := H
      refine VC.loop (fun ds f h40 m => ds = [] ∧ ∃ j39 : Int, f 0 = (.pointer d : Value) ∧ f 3 = (.pointer (some (Addr.mk b2 0 none)) : Value) ∧ f 5 = (.pointer (some (Addr.mk b7 0 none)) : Value) ∧ f 15 = (.slice y38A y38n y38c : Value) ∧ f 16 = (.int .i64 ((y38n : Nat) : Int) : Value) ∧ f 17 = (.int .i64 j39 : Value) ∧ Inv j39 h40 m) (m0 := m0) ⟨rfl, 0, rfl, rfl, rfl, rfl, rfl, rfl, h0⟩ ?_
      intro ds f h40 m I
      obtain ⟨rfl, j39, hk0, hk3, hk5, hk15, hk16, hk17, I⟩ := I
      rw [← fr_self f [(0, .pointer d), (3, .pointer (some (Addr.mk b2 0 none))), (5, .pointer (some (Addr.mk b7 0 none))), (15, .slice y38A y38n y38c), (16, .int .i64 ((y38n : Nat) : Int)), (17, .int .i64 j39)] (by simp only [List.mem_cons, List.not_mem_nil, or_false]; rintro p (rfl | rfl | rfl | rfl | rfl | rfl) <;> assumption)]
      obtain ⟨C41, eC41⟩ : ∃ C41 : Int → Hp → Prop, C41 = (fun j39 h40 => ∃ m1, m1 < m ∧ Inv j39 h40 m1) := ⟨_, rfl⟩
      have H : D_disk_Disk_Crash.L2 R  d b2 b7 y38A y38n C41 j39 h40 := by rw [eC41]; exact H j39 h40 m I
      unfold D_disk_Disk_Crash.L2 at H
      refine VC.seq ?_
      refine VC.region ?_
      refine VL.stepD rfl rfl (by decide) (OE.binI (v := .bool (decide (j39 < ((y38n : Nat) : Int)))) rfl rfl rfl ?_)
      refine VL.nil ?_
      change VC _ _ _ _ _ _ _
      refine VC.seq ?_
      refine VC.cond (t := (decide (j39 < ((y38n : Nat) : Int)))) rfl (fun e42 => ?_) (fun e42 => ?_)
      · have H := H.1 e42
        refine VC.skip ?_
        change VC _ _ _ _ _ _ _
        refine VC.seq ?_
        refine VC.block ?_
        refine VC.seq ?_
        refine VC.region ?_
        refine VL.stepD rfl rfl (by decide) (OE.moveV (v := .int .i64 j39) rfl ?_)
        obtain ⟨a43, e44, z45, z46, H⟩ := H
        refine VL.stepD rfl rfl (by decide) (OE.indexAddrI (sz := 1) rfl rfl Tryz.underlying44 Tryz.i3 e44 z45 z46 ?_)
        obtain ⟨x47, hl48, H⟩ := H
        refine VL.stepD rfl rfl (by decide) (OE.load (a := (a43.add (Int.toNat j39 * 1))) (v := .int .i64 x47) rfl (LdT.one Tryz.underlying3 rfl hl48) ?_)
        refine VL.stepD rfl rfl (by decide) (OE.assignV (v := .int .i64 j39) rfl ?_)
        refine VL.stepD rfl rfl (by decide) (OE.assignV (v := .int .i64 x47) rfl ?_)
        refine VL.nil ?_
        change VC _ _ _ _ _ _ _
        refine VC.seq ?_
        refine VC.region ?_
        obtain ⟨b50, eb110⟩ : ∃ b50, b50 = Array.size h40 := ⟨_, rfl⟩
        obtain ⟨h49, eh111⟩ : ∃ h49, h49 = Array.push h40 (.cells #[.int .i64 0, .slice none 0 0] 59) := ⟨_, rfl⟩
        have H := H b50 h49 eb110 eh111
        refine VL.stepD rfl rfl (by decide) (OE.allocE (z := .agg #[.int .i64 0, .slice none 0 0]) Tryz.i59 eb110 eh111 ?_)
        refine VL.nil ?_
        change VC _ _ _ _ _ _ _
        refine VC.seqJ (fun f h51 => f 0 = (.pointer d : Value) ∧ f 3 = (.pointer (some (Addr.mk b2 0 none)) : Value) ∧ f 5 = (.pointer (some (Addr.mk b7 0 none)) : Value) ∧ f 7 = (.int .i64 x47 : Value) ∧ f 8 = (.pointer (some (Addr.mk b50 0 none)) : Value) ∧ f 15 = (.slice y38A y38n y38c : Value) ∧ f 16 = (.int .i64 ((y38n : Nat) : Int) : Value) ∧ f 17 = (.int .i64 j39 : Value) ∧ D_disk_Disk_Crash.J3 R C41 d b7 j39 x47 b50  h51) ?_ ?_
        · intro f h51 J
          obtain ⟨hk0, hk3, hk5, hk7, hk8, hk15, hk16, hk17, H⟩ := J
          rw [← fr_self f [(0, .pointer d), (3, .pointer (some (Addr.mk b2 0 none))), (5, .pointer (some (Addr.mk b7 0 none))), (7, .int .i64 x47), (8, .pointer (some (Addr.mk b50 0 none))), (15, .slice y38A y38n y38c), (16, .int .i64 ((y38n : Nat) : Int)), (17, .int .i64 j39)] (by simp only [List.mem_cons, List.not_mem_nil, or_false]; rintro p (rfl | rfl | rfl | rfl | rfl | rfl | rfl | rfl) <;> assumption)]
          unfold D_disk_Disk_Crash.J3 at H
          refine VC.seq ?_
          refine VC.region ?_
          refine VL.stepD rfl rfl (by decide) (OE.moveV (v := .pointer d) rfl ?_)
          obtain ⟨a52, e53, H⟩ := H
          refine VL.stepD rfl rfl (by decide) (OE.nilCheck (a := a52) (congrArg Value.pointer e53) ?_)
          refine VL.stepD rfl rfl (by decide) (OE.fieldAddrI (a := a52) (o := 3) rfl Tryz.underlying104 rfl Tryz.i100 (by decide) rfl ?_)
          obtain ⟨x54, hl55, H⟩ := H
          refine VL.stepD rfl rfl (by decide) (OE.load (a := (a52.add 3)) (v := .map x54) rfl (LdT.one Tryz.underlying100 rfl hl55) ?_)
          refine VL.stepD rfl rfl (by decide) (OE.moveV (v := .int .i64 x47) rfl ?_)
          obtain ⟨x56, hl57, H⟩ := H
          refine VL.stepD rfl rfl (by decide) (OE.lookup (m := .map x54) (k := .int .i64 x47) rfl rfl hl57 ?_)
          refine VL.stepD rfl rfl (by decide) (OE.assignV (v := .pointer x56) rfl ?_)
          refine VL.nil ?_
          change VC _ _ _ _ _ _ _
          refine VC.seq ?_
          refine VC.drawsS Tryz.mixed (by kernel_rfl) (by kernel_rfl) (fun st hd => ?_)
          refine DW.still (i := 0) (v := .pointer (some (Addr.mk b50 0 none))) (by kernel_rfl) ?_
          obtain ⟨x58, hl59, H⟩ := H
          refine DW.still (i := 1) (v := .int .i64 x58) (by kernel_rfl) ?_
          refine DW.still (i := 2) (v := .pointer x56) (by kernel_rfl) ?_
          obtain ⟨a60, e61, H⟩ := H
          refine DW.still (i := 3) (v := .pointer (some a60)) (by kernel_rfl) ?_
          refine DW.still (i := 4) (v := .pointer (some (a60.add 1))) (by kernel_rfl) ?_
          obtain ⟨x62A, x62n, x62c, hl63, H⟩ := H
          refine DW.still (i := 5) (v := .slice x62A x62n x62c) (by kernel_rfl) ?_
          refine DW.still (i := 6) (v := .int .i64 ((x62n : Nat) : Int)) (by kernel_rfl) ?_
          refine DW.still (i := 7) (v := .int .i64 (IntKind.i64.wrap (((x62n : Nat) : Int) + 1))) (by kernel_rfl) ?_
          refine DW.loudF (fr (fun _ => undef) [(39, (.int .i64 x58 : Value)), (45, (.int .i64 (IntKind.i64.wrap (((x62n : Nat) : Int) + 1)) : Value))]) st hd (i := 8) rfl (by kernel_rfl) (.inl rfl) (by kernel_rfl) ⟨.inr (YD.u (fr (fun _ => undef) [(44, (.int .i64 ((x62n : Nat) : Int) : Value))]) st rfl rfl (by kernel_rfl) (OE.binI (v := .int .i64 (IntKind.i64.wrap (((x62n : Nat) : Int) + 1))) rfl rfl rfl ⟨rfl, rfl⟩)), .inr (YD.u (fr (fun _ => undef) [(43, (.slice x62A x62n x62c : Value))]) st rfl rfl (by kernel_rfl) (OE.lenSlice rfl Tryz.underlying109 ⟨rfl, rfl⟩)), .inr (YD.u (fr (fun _ => undef) [(42, (.pointer (some (a60.add 1)) : Value))]) st rfl rfl (by kernel_rfl) (OE.load (a := (a60.add 1)) (v := .slice x62A x62n x62c) rfl (LdT.one Tryz.underlying109 rfl hl63) ⟨rfl, rfl⟩)), .inr (YD.u (fr (fun _ => undef) [(41, (.pointer (some a60) : Value))]) st rfl rfl (by kernel_rfl) (OE.fieldAddrI (a := a60) (o := 1) rfl Tryz.underlying111 rfl Tryz.i109 (by decide) rfl ⟨rfl, rfl⟩)), .inr (YD.u (fr (fun _ => undef) [(40, (.pointer x56 : Value))]) st rfl rfl (by kernel_rfl) (OE.nilCheck (a := a60) (congrArg Value.pointer e61) ⟨rfl, rfl⟩)), .inr (YD.u (fr (fun _ => undef) [(9, (.pointer x56 : Value))]) st rfl rfl (by kernel_rfl) (OE.moveV (v := .pointer x56) rfl ⟨rfl, rfl⟩)), .inr (YD.u (fr (fun _ => undef) [(38, (.pointer (some (Addr.mk b50 0 none)) : Value))]) st rfl rfl (by kernel_rfl) (OE.load (a := (Addr.mk b50 0 none)) (v := .int .i64 x58) rfl (LdT.one Tryz.underlying3 rfl hl59) ⟨rfl, rfl⟩)), .inr (YD.u (fr (fun _ => undef) [(8, (.pointer (some (Addr.mk b50 0 none)) : Value))]) st rfl rfl (by kernel_rfl) (OE.fieldAddrI (a := (Addr.mk b50 0 none)) (o := 0) rfl Tryz.underlying59 rfl Tryz.i3 (by decide) rfl ⟨rfl, rfl⟩)), trivial⟩ (OE.callL (args := [.int .i64 x58, .int .i64 (IntKind.i64.wrap (((x62n : Nat) : Int) + 1))]) Tryz.func65 rfl Tryz.nn65 rfl rfl (CHE.mono H (fun r64 h65 H => ?_) (fun _ _ e => e.elim)))
          obtain ⟨y66, rfl, H⟩ := H
          refine DW.still (i := 9) (v := .int .i64 y66) (by kernel_rfl) ?_
          refine DW.finL st hd [(38, (.pointer (some (Addr.mk b50 0 none)) : Value)), (39, (.int .i64 x58 : Value)), (40, (.pointer x56 : Value)), (41, (.pointer (some a60) : Value)), (42, (.pointer (some (a60.add 1)) : Value)), (43, (.slice x62A x62n x62c : Value)), (44, (.int .i64 ((x62n : Nat) : Int) : Value)), (45, (.int .i64 (IntKind.i64.wrap (((x62n : Nat) : Int) + 1)) : Value)), (46, (.int .i64 y66 : Value)), (10, (.int .i64 y66 : Value))] (by kernel_rfl) (by kernel_rfl) ⟨.inr (YD.u (fr (fun _ => undef) [(46, (.int .i64 y66 : Value))]) st rfl rfl (by kernel_rfl) (OE.assignV (v := .int .i64 y66) rfl ⟨rfl, rfl⟩)), .inl (by kernel_rfl), .inl (by kernel_rfl), .inl (by kernel_rfl), .inl (by kernel_rfl), .inl (by kernel_rfl), .inl (by kernel_rfl), .inl (by kernel_rfl), .inl (by kernel_rfl), .inl (by kernel_rfl), trivial⟩ ?_
          change VC _ _ _ _ _ _ _
          refine VC.seq ?_
          refine VC.drawsS Tryz.mixed (by kernel_rfl) (by kernel_rfl) (fun st hd => ?_)
          obtain ⟨x67, hl68, H⟩ := H
          refine DW.still (i := 0) (v := .map x67) (by kernel_rfl) ?_
          refine DW.still (i := 1) (v := .int .i64 x47) (by kernel_rfl) ?_
          refine DW.still (i := 2) (v := .pointer x56) (by kernel_rfl) ?_
          refine DW.still (i := 3) (v := .int .i64 y66) (by kernel_rfl) ?_
          refine DW.loudF (fr (fun _ => undef) [(49, (.pointer x56 : Value)), (50, (.int .i64 y66 : Value))]) st hd (i := 4) rfl (by kernel_rfl) (.inl rfl) (by kernel_rfl) ⟨.inr (YD.u (fr (fun _ => undef) [(10, (.int .i64 y66 : Value))]) st rfl rfl (by kernel_rfl) (OE.moveV (v := .int .i64 y66) rfl ⟨rfl, rfl⟩)), .inr (YD.u (fr (fun _ => undef) [(9, (.pointer x56 : Value))]) st rfl rfl (by kernel_rfl) (OE.moveV (v := .pointer x56) rfl ⟨rfl, rfl⟩)), .inr (YD.u (fr (fun _ => undef) [(7, (.int .i64 x47 : Value))]) st rfl rfl (by kernel_rfl) (OE.moveV (v := .int .i64 x47) rfl ⟨rfl, rfl⟩)), .inr (YD.u (fr (fun _ => undef) [(5, (.pointer (some (Addr.mk b7 0 none)) : Value))]) st rfl rfl (by kernel_rfl) (OE.load (a := (Addr.mk b7 0 none)) (v := .map x67) rfl (LdT.one Tryz.underlying125 rfl hl68) ⟨rfl, rfl⟩)), trivial⟩ (OE.callL (args := [.pointer x56, .int .i64 y66]) Tryz.func66 rfl Tryz.nn66 rfl rfl (CHE.mono H (fun r69 h70 H => ?_) (fun _ _ e => e.elim)))
          obtain ⟨y71_0A, y71_0n, y71_0c, y71_1A, y71_1n, y71_1c, rfl, H⟩ := H
          obtain ⟨hs72, H⟩ := H
          refine DW.still (i := 5) (v := .slice y71_0A y71_0n y71_0c) (by kernel_rfl) ?_
          obtain ⟨Q92, hl74, H⟩ := H
          refine DW.loudF (fr (fun _ => undef) [(47, (.map x67 : Value)), (48, (.int .i64 x47 : Value)), (52, (.slice y71_0A y71_0n y71_0c : Value))]) st hd (i := 6) rfl (by kernel_rfl) (.inl rfl) (by kernel_rfl) ⟨.inr (YD.u (fr (fun _ => undef) [(51, (.agg #[.slice y71_0A y71_0n y71_0c, .slice y71_1A y71_1n y71_1c] : Value))]) st rfl rfl (by kernel_rfl) (OE.field (v := .slice y71_0A y71_0n y71_0c) rfl Tryz.underlying128 rfl Tryz.underlying22 rfl rfl ⟨rfl, rfl⟩)), .inl (by kernel_rfl), .inl (by kernel_rfl), .inl (by kernel_rfl), .inr (YD.u (fr (fun _ => undef) [(7, (.int .i64 x47 : Value))]) st rfl rfl (by kernel_rfl) (OE.moveV (v := .int .i64 x47) rfl ⟨rfl, rfl⟩)), .inr (YD.u (fr (fun _ => undef) [(5, (.pointer (some (Addr.mk b7 0 none)) : Value))]) st rfl rfl (by kernel_rfl) (OE.load (a := (Addr.mk b7 0 none)) (v := .map x67) rfl (LdT.one Tryz.underlying125 rfl hs72) ⟨rfl, rfl⟩)), trivial⟩ (OE.mapUpdate (m := .map x67) (k := .int .i64 x47) (v := .slice y71_0A y71_0n y71_0c) rfl rfl rfl hl74 (fun h73 q93 => ?_))
          have H := H h73 q93
          refine DW.finL st hd [(47, (.map x67 : Value)), (48, (.int .i64 x47 : Value)), (49, (.pointer x56 : Value)), (50, (.int .i64 y66 : Value)), (51, (.agg #[.slice y71_0A y71_0n y71_0c, .slice y71_1A y71_1n y71_1c] : Value)), (52, (.slice y71_0A y71_0n y71_0c : Value))] (by kernel_rfl) (by kernel_rfl) ⟨.inl (by kernel_rfl), .inl (by kernel_rfl), .inl (by kernel_rfl), .inl (by kernel_rfl), .inl (by kernel_rfl), .inl (by kernel_rfl), .inl (by kernel_rfl), trivial⟩ ?_
          change VC _ _ _ _ _ _ _
          refine VC.drawsS Tryz.mixed (by kernel_rfl) (by kernel_rfl) (fun st hd => ?_)
          refine DW.still (i := 0) (v := .pointer x56) (by kernel_rfl) ?_
          refine DW.still (i := 1) (v := .pointer x56) (by kernel_rfl) ?_
          refine DW.still (i := 2) (v := .pointer x56) (by kernel_rfl) ?_
          refine DW.still (i := 3) (v := .int .i64 y66) (by kernel_rfl) ?_
          refine DW.still (i := 5) (v := .pointer (some ((Addr.mk b50 0 none).add 1))) (by kernel_rfl) ?_
          obtain ⟨x75A, x75n, x75c, hl76, H⟩ := H
          refine DW.still (i := 6) (v := .slice x75A x75n x75c) (by kernel_rfl) ?_
          refine DW.loudF (fr (fun _ => undef) [(55, (.pointer x56 : Value)), (56, (.int .i64 y66 : Value))]) st hd (i := 4) rfl (by kernel_rfl) (.inl rfl) (by kernel_rfl) ⟨.inr (YD.u (fr (fun _ => undef) [(58, (.pointer (some ((Addr.mk b50 0 none).add 1)) : Value))]) st rfl rfl (by kernel_rfl) (OE.load (a := ((Addr.mk b50 0 none).add 1)) (v := .slice x75A x75n x75c) rfl (LdT.one Tryz.underlying44 rfl hl76) ⟨rfl, rfl⟩)), .inr (YD.u (fr (fun _ => undef) [(8, (.pointer (some (Addr.mk b50 0 none)) : Value))]) st rfl rfl (by kernel_rfl) (OE.fieldAddrI (a := (Addr.mk b50 0 none)) (o := 1) rfl Tryz.underlying59 rfl Tryz.i44 (by decide) rfl ⟨rfl, rfl⟩)), .inr (YD.u (fr (fun _ => undef) [(10, (.int .i64 y66 : Value))]) st rfl rfl (by kernel_rfl) (OE.moveV (v := .int .i64 y66) rfl ⟨rfl, rfl⟩)), .inr (YD.u (fr (fun _ => undef) [(9, (.pointer x56 : Value))]) st rfl rfl (by kernel_rfl) (OE.moveV (v := .pointer x56) rfl ⟨rfl, rfl⟩)), .inr (YD.u (fr (fun _ => undef) [(9, (.pointer x56 : Value))]) st rfl rfl (by kernel_rfl) (OE.moveV (v := .pointer x56) rfl ⟨rfl, rfl⟩)), .inr (YD.u (fr (fun _ => undef) [(9, (.pointer x56 : Value))]) st rfl rfl (by kernel_rfl) (OE.moveV (v := .pointer x56) rfl ⟨rfl, rfl⟩)), trivial⟩ (OE.callL (args := [.pointer x56, .int .i64 y66]) Tryz.func66 rfl Tryz.nn66 rfl rfl (CHE.mono H (fun r77 h78 H => ?_) (fun _ _ e => e.elim)))
          obtain ⟨y79_0A, y79_0n, y79_0c, y79_1A, y79_1n, y79_1c, rfl, H⟩ := H
          obtain ⟨hs80, H⟩ := H
          refine DW.loudF (fr (fun _ => undef) [(57, (.agg #[.slice y79_0A y79_0n y79_0c, .slice y79_1A y79_1n y79_1c] : Value)), (59, (.slice x75A x75n x75c : Value))]) st hd (i := 7) rfl (by kernel_rfl) (.inl rfl) (by kernel_rfl) ⟨.inl (by kernel_rfl), .inr (YD.u (fr (fun _ => undef) [(58, (.pointer (some ((Addr.mk b50 0 none).add 1)) : Value))]) st rfl rfl (by kernel_rfl) (OE.load (a := ((Addr.mk b50 0 none).add 1)) (v := .slice x75A x75n x75c) rfl (LdT.one Tryz.underlying44 rfl hs80) ⟨rfl, rfl⟩)), .inr (YD.u (fr (fun _ => undef) [(8, (.pointer (some (Addr.mk b50 0 none)) : Value))]) st rfl rfl (by kernel_rfl) (OE.fieldAddrI (a := (Addr.mk b50 0 none)) (o := 1) rfl Tryz.underlying59 rfl Tryz.i44 (by decide) rfl ⟨rfl, rfl⟩)), .inl (by kernel_rfl), .inl (by kernel_rfl), .inr (YD.u (fr (fun _ => undef) [(9, (.pointer x56 : Value))]) st rfl rfl (by kernel_rfl) (OE.moveV (v := .pointer x56) rfl ⟨rfl, rfl⟩)), .inr (YD.u (fr (fun _ => undef) [(9, (.pointer x56 : Value))]) st rfl rfl (by kernel_rfl) (OE.moveV (v := .pointer x56) rfl ⟨rfl, rfl⟩)), trivial⟩ (OE.callL (args := [.agg #[.slice y79_0A y79_0n y79_0c, .slice y79_1A y79_1n y79_1c], .slice x75A x75n x75c]) Tryz.func67 rfl Tryz.nn67 rfl rfl (CHE.mono H (fun r81 h82 H => ?_) (fun _ _ e => e.elim)))
          obtain ⟨y83_0A, y83_0n, y83_0c, y83_1A, y83_1n, y83_1c, rfl, H⟩ := H
          refine DW.still (i := 8) (v := .slice y83_0A y83_0n y83_0c) (by kernel_rfl) ?_
          refine DW.still (i := 9) (v := .pointer (some a60)) (by kernel_rfl) ?_
          refine DW.still (i := 10) (v := .pointer (some a60)) (by kernel_rfl) ?_
          obtain ⟨hw85, H⟩ := H
          obtain ⟨h84, eh89⟩ : ∃ h84, h84 = setc h82 a60 (.slice y83_0A y83_0n y83_0c) := ⟨_, rfl⟩
          have H := H h84 eh89
          refine DW.loudF (fr (fun _ => undef) [(63, (.pointer (some a60) : Value)), (61, (.slice y83_0A y83_0n y83_0c : Value))]) st hd (i := 11) rfl (by kernel_rfl) (.inl rfl) (by kernel_rfl) ⟨.inr (YD.u (fr (fun _ => undef) [(62, (.pointer (some a60) : Value))]) st rfl rfl (by kernel_rfl) (OE.fieldAddrI (a := a60) (o := 0) rfl Tryz.underlying111 rfl Tryz.i22 (by decide) rfl ⟨rfl, rfl⟩)), .inr (YD.u (fr (fun _ => undef) [(53, (.pointer x56 : Value))]) st rfl rfl (by kernel_rfl) (OE.nilCheck (a := a60) (congrArg Value.pointer e61) ⟨rfl, rfl⟩)), .inr (YD.u (fr (fun _ => undef) [(60, (.agg #[.slice y83_0A y83_0n y83_0c, .slice y83_1A y83_1n y83_1c] : Value))]) st rfl rfl (by kernel_rfl) (OE.field (v := .slice y83_0A y83_0n y83_0c) rfl Tryz.underlying128 rfl Tryz.underlying22 rfl rfl ⟨rfl, rfl⟩)), .inl (by kernel_rfl), .inl (by kernel_rfl), .inl (by kernel_rfl), .inl (by kernel_rfl), .inl (by kernel_rfl), .inl (by kernel_rfl), .inr (YD.u (fr (fun _ => undef) [(9, (.pointer x56 : Value))]) st rfl rfl (by kernel_rfl) (OE.moveV (v := .pointer x56) rfl ⟨rfl, rfl⟩)), .inr (YD.u (fr (fun _ => undef) [(9, (.pointer x56 : Value))]) st rfl rfl (by kernel_rfl) (OE.moveV (v := .pointer x56) rfl ⟨rfl, rfl⟩)), trivial⟩ (OE.storeE (a := a60) (v := .slice y83_0A y83_0n y83_0c) rfl rfl (StT.oneI Tryz.i22 hw85 rfl) eh89 ?_)
          refine DW.still (i := 12) (v := .pointer (some a60)) (by kernel_rfl) ?_
          refine DW.still (i := 13) (v := .pointer (some (a60.add 1))) (by kernel_rfl) ?_
          obtain ⟨hw87, H⟩ := H
          obtain ⟨h86, eh88⟩ : ∃ h86, h86 = setc h84 (a60.add 1) (.slice none 0 0) := ⟨_, rfl⟩
          have H := H h86 eh88
          refine DW.loudF (fr (fun _ => undef) [(65, (.pointer (some (a60.add 1)) : Value))]) st hd (i := 14) rfl (by kernel_rfl) (.inl rfl) (by kernel_rfl) ⟨.inr (YD.u (fr (fun _ => undef) [(64, (.pointer (some a60) : Value))]) st rfl rfl (by kernel_rfl) (OE.fieldAddrI (a := a60) (o := 1) rfl Tryz.underlying111 rfl Tryz.i109 (by decide) rfl ⟨rfl, rfl⟩)), .inr (YD.u (fr (fun _ => undef) [(54, (.pointer x56 : Value))]) st rfl rfl (by kernel_rfl) (OE.nilCheck (a := a60) (congrArg Value.pointer e61) ⟨rfl, rfl⟩)), .inl (by kernel_rfl), .inl (by kernel_rfl), .inl (by kernel_rfl), .inl (by kernel_rfl), .inl (by kernel_rfl), .inl (by kernel_rfl), .inl (by kernel_rfl), .inl (by kernel_rfl), .inl (by kernel_rfl), .inl (by kernel_rfl), .inr (YD.u (fr (fun _ => undef) [(9, (.pointer x56 : Value))]) st rfl rfl (by kernel_rfl) (OE.moveV (v := .pointer x56) rfl ⟨rfl, rfl⟩)), .inl (by kernel_rfl), trivial⟩ (OE.storeE (a := (a60.add 1)) (v := .slice none 0 0) rfl rfl (StT.oneI Tryz.i109 hw87 rfl) eh88 ?_)
          refine DW.finL st hd [(53, (.pointer x56 : Value)), (54, (.pointer x56 : Value)), (55, (.pointer x56 : Value)), (56, (.int .i64 y66 : Value)), (58, (.pointer (some ((Addr.mk b50 0 none).add 1)) : Value)), (59, (.slice x75A x75n x75c : Value)), (57, (.agg #[.slice y79_0A y79_0n y79_0c, .slice y79_1A y79_1n y79_1c] : Value)), (60, (.agg #[.slice y83_0A y83_0n y83_0c, .slice y83_1A y83_1n y83_1c] : Value)), (61, (.slice y83_0A y83_0n y83_0c : Value)), (62, (.pointer (some a60) : Value)), (63, (.pointer (some a60) : Value)), (64, (.pointer (some a60) : Value)), (65, (.pointer (some (a60.add 1)) : Value))] (by kernel_rfl) (by kernel_rfl) ⟨.inl (by kernel_rfl), .inl (by kernel_rfl), .inl (by kernel_rfl), .inl (by kernel_rfl), .inl (by kernel_rfl), .inl (by kernel_rfl), .inl (by kernel_rfl), .inl (by kernel_rfl), .inl (by kernel_rfl), .inl (by kernel_rfl), .inl (by kernel_rfl), .inl (by kernel_rfl), .inl (by kernel_rfl), .inl (by kernel_rfl), .inl (by kernel_rfl), trivial⟩ ?_
          change VC _ _ _ _ _ _ _
          refine VC.region ?_
          refine VL.stepD rfl rfl (by decide) (OE.binI (v := .int .i64 (IntKind.i64.wrap (j39 + 1))) rfl rfl rfl ?_)
          refine VL.stepD rfl rfl (by decide) (OE.moveV (v := .int .i64 (IntKind.i64.wrap (j39 + 1))) rfl ?_)
          refine VL.nil ?_
          rw [eC41] at H
          obtain ⟨m1, hm1, H⟩ := H
          exact ⟨m1, hm1, rfl, (IntKind.i64.wrap (j39 + 1)), rfl, rfl, rfl, rfl, rfl, rfl, H⟩
        · skip
          refine VC.seq ?_
          refine VC.region ?_
          refine VL.stepD rfl rfl (by decide) (OE.moveV (v := .int .i64 j39) rfl ?_)
          refine VL.stepD rfl rfl (by decide) (OE.fieldAddrI (a := (Addr.mk b2 0 none)) (o := 2) rfl Tryz.underlying47 rfl Tryz.i45 (by decide) rfl ?_)
          obtain ⟨x96A, x96n, x96c, hl97, H⟩ := H
          refine VL.stepD rfl rfl (by decide) (OE.load (a := ((Addr.mk b2 0 none).add 2)) (v := .slice x96A x96n x96c) rfl (LdT.one Tryz.underlying45 rfl hl97) ?_)
          refine VL.stepD rfl rfl (by decide) (OE.lenSlice rfl Tryz.underlying45 ?_)
          refine VL.stepD rfl rfl (by decide) (OE.binI (v := .bool (decide (j39 < ((x96n : Nat) : Int)))) rfl rfl rfl ?_)
          refine VL.nil ?_
          change VC _ _ _ _ _ _ _
          refine VC.cond (t := (decide (j39 < ((x96n : Nat) : Int)))) rfl (fun e98 => ?_) (fun e98 => ?_)
          · have H := H.1 e98
            refine VC.region ?_
            refine VL.stepD rfl rfl (by decide) (OE.fieldAddrI (a := (Addr.mk b2 0 none)) (o := 2) rfl Tryz.underlying47 rfl Tryz.i45 (by decide) rfl ?_)
            obtain ⟨x99A, x99n, x99c, hl100, H⟩ := H
            refine VL.stepD rfl rfl (by decide) (OE.load (a := ((Addr.mk b2 0 none).add 2)) (v := .slice x99A x99n x99c) rfl (LdT.one Tryz.underlying45 rfl hl100) ?_)
            refine VL.stepD rfl rfl (by decide) (OE.moveV (v := .int .i64 j39) rfl ?_)
            obtain ⟨a101, e102, z103, z104, H⟩ := H
            refine VL.stepD rfl rfl (by decide) (OE.indexAddrI (sz := 2) rfl rfl Tryz.underlying45 Tryz.i59 e102 z103 z104 ?_)
            obtain ⟨x105_0, x105_1A, x105_1n, x105_1c, hl106, H⟩ := H
            refine VL.stepD rfl rfl (by decide) (OE.load (a := (a101.add (Int.toNat j39 * 2))) (v := .agg #[.int .i64 x105_0, .slice x105_1A x105_1n x105_1c]) rfl (LdT.aggI Tryz.underlying59 rfl Tryz.i59 rfl hl106) ?_)
            obtain ⟨hw108, H⟩ := H
            obtain ⟨h107, eh109⟩ : ∃ h107, h107 = setRow h49 (Addr.mk b50 0 none) [.int .i64 x105_0, .slice x105_1A x105_1n x105_1c] 0 := ⟨_, rfl⟩
            have H := H h107 eh109
            refine VL.stepN rfl rfl (OE.storeE (a := (Addr.mk b50 0 none)) (v := .agg #[.int .i64 x105_0, .slice x105_1A x105_1n x105_1c]) rfl rfl (StT.aggI (vs := [.int .i64 x105_0, .slice x105_1A x105_1n x105_1c]) Tryz.i59 rfl hw108 (by simp [oneC])) eh109 ?_)
            refine VL.nil ?_
            exact ⟨rfl, rfl, rfl, rfl, rfl, rfl, rfl, rfl, rfl, H⟩
          · have H := H.2 e98
            refine VC.skip ?_
            exact ⟨rfl, rfl, rfl, rfl, rfl, rfl, rfl, rfl, rfl, H⟩
      · have H := H.2 e42
        refine VC.exit ?_
        exact ⟨rfl, rfl, rfl, rfl, H⟩

end Go.Proofs
