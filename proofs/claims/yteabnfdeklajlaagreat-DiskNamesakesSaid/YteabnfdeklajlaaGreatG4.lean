/- Part of a proof, by program out of hand-written texts. -/
import Derived.Test.YteabnfdeklajlaaGreatF1
set_option linter.unusedVariables false
set_option linter.unusedSimpArgs false
set_option maxRecDepth 10000
namespace Go.Proofs
open Go Go.V
def D_disk_row_lose.J1 (R : Value → Hp → Prop)  (b2 : Nat) (b4 : Nat)  (h14 : Hp) : Prop :=
  (∃ x15_0A : Option Addr, ∃ x15_0n : Nat, ∃ x15_0c : Nat, ∃ x15_1A : Option Addr, ∃ x15_1n : Nat, ∃ x15_1c : Nat, Row h14 (Addr.mk b2 0 none) [.slice x15_0A x15_0n x15_0c, .slice x15_1A x15_1n x15_1c] ∧ ((∀ j, j < 2 → Wr h14 (Addr.add (Addr.mk b4 0 none) j)) ∧ ∀ h17, h17 = setRow h14 (Addr.mk b4 0 none) [.slice x15_0A x15_0n x15_0c, .slice x15_1A x15_1n x15_1c] 0 → ∃ r19_0A : Option Addr, ∃ r19_0n : Nat, ∃ r19_0c : Nat, ∃ r19_1A : Option Addr, ∃ r19_1n : Nat, ∃ r19_1c : Nat, Row h17 (Addr.mk b4 0 none) [.slice r19_0A r19_0n r19_0c, .slice r19_1A r19_1n r19_1c] ∧ R (.agg #[.slice r19_0A r19_0n r19_0c, .slice r19_1A r19_1n r19_1c]) h17))
def D_disk_row_lose.J3 (R : Value → Hp → Prop) (C23 : Int → Hp → Prop) (j21 : Int)  (h25 : Hp) : Prop :=
  C23 (IntKind.i64.wrap (j21 + 1)) h25
def D_disk_row_lose.J5 (R : Value → Hp → Prop) (C37 : Int → Hp → Prop) (j35 : Int)  (h41 : Hp) : Prop :=
  C37 (IntKind.i64.wrap (j35 + 1)) h41
def D_disk_row_lose.L4 (R : Value → Hp → Prop) (C23 : Int → Hp → Prop) (b2 : Nat) (j21 : Int) (y34 : Int) (C37 : Int → Hp → Prop) (j35 : Int) (h36 : Hp) : Prop :=
  (∃ x38A : Option Addr, ∃ x38n : Nat, ∃ x38c : Nat, cell h36 (Addr.mk b2 0 none) = some (.slice x38A x38n x38c) ∧ (((decide (j35 < (optMn (IntKind.i64.wrap ((IntKind.i64.wrap (16 * y34)) + 16)) ((x38n : Nat) : Int)))) = true → (∃ x42A : Option Addr, ∃ x42n : Nat, ∃ x42c : Nat, cell h36 ((Addr.mk b2 0 none).add 1) = some (.slice x42A x42n x42c) ∧ (∃ a44 : Addr, x42A = some a44 ∧ (0 : Int) ≤ j35 ∧ j35 < (x42n : Int) ∧ (∃ x48 : Bool, cell h36 (a44.add (Int.toNat j35 * 1)) = some (.bool x48) ∧ ((x48 = true → (∃ x51A : Option Addr, ∃ x51n : Nat, ∃ x51c : Nat, cell h36 (Addr.mk b2 0 none) = some (.slice x51A x51n x51c) ∧ (∃ a53 : Addr, x51A = some a53 ∧ (0 : Int) ≤ j35 ∧ j35 < (x51n : Int) ∧ (Wr h36 (a53.add (Int.toNat j35 * 1)) ∧ ∀ h57, h57 = setc h36 (a53.add (Int.toNat j35 * 1)) (.int .u8 0) → D_disk_row_lose.J5 R C37 j35  h57)))) ∧ (x48 = false → D_disk_row_lose.J5 R C37 j35  h36)))))) ∧ ((decide (j35 < (optMn (IntKind.i64.wrap ((IntKind.i64.wrap (16 * y34)) + 16)) ((x38n : Nat) : Int)))) = false → D_disk_row_lose.J3 R C23 j21  h36)))
def D_disk_row_lose.L2 (R : Value → Hp → Prop)  (lostA : Option Addr) (lostn : Nat) (b2 : Nat) (b4 : Nat) (x5n : Nat) (C23 : Int → Hp → Prop) (j21 : Int) (h22 : Hp) : Prop :=
  (((decide (j21 < ((lostn : Nat) : Int))) = true → (∃ a26 : Addr, lostA = some a26 ∧ (0 : Int) ≤ j21 ∧ j21 < (lostn : Int) ∧ (∃ x30 : Int, cell h22 (a26.add (Int.toNat j21 * 1)) = some (.int .i64 x30) ∧ CH Tryz.prog 65 #[.int .i64 x30, .int .i64 (IntKind.i64.wrap (Int.tdiv (IntKind.i64.wrap ((IntKind.i64.wrap (((x5n : Nat) : Int) + 16)) - 1)) 16))] h22 (fun r32 h33 => ∃ y34 : Int, r32 = .int .i64 y34 ∧ (∃ Inv : Int → Hp → Nat → Prop, (∃ m, Inv (IntKind.i64.wrap (16 * y34)) h33 m) ∧ ∀ j35 h36 m, Inv j35 h36 m → D_disk_row_lose.L4 R C23 b2 j21 y34 (fun j35 h36 => ∃ m1, m1 < m ∧ Inv j35 h36 m1) j35 h36))))) ∧ ((decide (j21 < ((lostn : Nat) : Int))) = false → D_disk_row_lose.J1 R  b2 b4  h22))
def D_disk_row_lose (R : Value → Hp → Prop) (r_0A : Option Addr) (r_0n : Nat) (r_0c : Nat) (r_1A : Option Addr) (r_1n : Nat) (r_1c : Nat) (lostA : Option Addr) (lostn : Nat) (lostc : Nat) (h : Hp) : Prop :=
  (∀ b2 h1, b2 = Array.size h → h1 = Array.push h (.cells #[.slice r_0A r_0n r_0c, .slice r_1A r_1n r_1c] 128) → (∀ b4 h3, b4 = Array.size h1 → h3 = Array.push h1 (.cells #[.slice none 0 0, .slice none 0 0] 128) → (∃ x5A : Option Addr, ∃ x5n : Nat, ∃ x5c : Nat, cell h3 (Addr.mk b2 0 none) = some (.slice x5A x5n x5c) ∧ ((((IntKind.i64.wrap (Int.tdiv (IntKind.i64.wrap ((IntKind.i64.wrap (((x5n : Nat) : Int) + 16)) - 1)) 16)) == 0) = true → (∃ x8_0A : Option Addr, ∃ x8_0n : Nat, ∃ x8_0c : Nat, ∃ x8_1A : Option Addr, ∃ x8_1n : Nat, ∃ x8_1c : Nat, Row h3 (Addr.mk b2 0 none) [.slice x8_0A x8_0n x8_0c, .slice x8_1A x8_1n x8_1c] ∧ ((∀ j, j < 2 → Wr h3 (Addr.add (Addr.mk b4 0 none) j)) ∧ ∀ h10, h10 = setRow h3 (Addr.mk b4 0 none) [.slice x8_0A x8_0n x8_0c, .slice x8_1A x8_1n x8_1c] 0 → ∃ r12_0A : Option Addr, ∃ r12_0n : Nat, ∃ r12_0c : Nat, ∃ r12_1A : Option Addr, ∃ r12_1n : Nat, ∃ r12_1c : Nat, Row h10 (Addr.mk b4 0 none) [.slice r12_0A r12_0n r12_0c, .slice r12_1A r12_1n r12_1c] ∧ R (.agg #[.slice r12_0A r12_0n r12_0c, .slice r12_1A r12_1n r12_1c]) h10))) ∧ (((IntKind.i64.wrap (Int.tdiv (IntKind.i64.wrap ((IntKind.i64.wrap (((x5n : Nat) : Int) + 16)) - 1)) 16)) == 0) = false → (∃ Inv : Int → Hp → Nat → Prop, (∃ m, Inv 0 h3 m) ∧ ∀ j21 h22 m, Inv j21 h22 m → D_disk_row_lose.L2 R  lostA lostn b2 b4 x5n (fun j21 h22 => ∃ m1, m1 < m ∧ Inv j21 h22 m1) j21 h22))))))
set_option maxRecDepth 10000 in
set_option maxHeartbeats 4000000 in
theorem D_disk_row_lose.sound {R : Value → Hp → Prop} {r_0A : Option Addr} {r_0n : Nat} {r_0c : Nat} {r_1A : Option Addr} {r_1n : Nat} {r_1c : Nat} {lostA : Option Addr} {lostn : Nat} {lostc : Nat} {h : Hp} (H : D_disk_row_lose R  r_0A r_0n r_0c r_1A r_1n r_1c lostA lostn lostc h) : CH Tryz.prog 67 #[.agg #[.slice r_0A r_0n r_0c, .slice r_1A r_1n r_1c], .slice lostA lostn lostc] h R := by
  refine CHE.enter (n := 51) Tryz.func67 rfl rfl (Nat.le_of_ble_eq_true rfl) ?_
  unfold D_disk_row_lose at H
  refine VC.seq ?_
  refine VC.region ?_
  obtain ⟨b2, eb63⟩ : ∃ b2, b2 = Array.size h := ⟨_, rfl⟩
  obtain ⟨h1, eh64⟩ : ∃ h1, h1 = Array.push h (.cells #[.slice r_0A r_0n r_0c, .slice r_1A r_1n r_1c] 128) := ⟨_, rfl⟩
  have H := H b2 h1 eb63 eh64
  refine VL.stepD rfl rfl (by decide) (OE.boxE (v := .agg #[.slice r_0A r_0n r_0c, .slice r_1A r_1n r_1c]) rfl eb63 eh64 ?_)
  obtain ⟨b4, eb61⟩ : ∃ b4, b4 = Array.size h1 := ⟨_, rfl⟩
  obtain ⟨h3, eh62⟩ : ∃ h3, h3 = Array.push h1 (.cells #[.slice none 0 0, .slice none 0 0] 128) := ⟨_, rfl⟩
  have H := H b4 h3 eb61 eh62
  refine VL.stepD rfl rfl (by decide) (OE.allocE (z := .agg #[.slice none 0 0, .slice none 0 0]) Tryz.i128 eb61 eh62 ?_)
  refine VL.nil ?_
  change VC _ _ _ _ _ _ _
  refine VC.seq ?_
  refine VC.region ?_
  refine VL.stepD rfl rfl (by decide) (OE.fieldAddrI (a := (Addr.mk b2 0 none)) (o := 0) rfl Tryz.underlying128 rfl Tryz.i22 (by decide) rfl ?_)
  obtain ⟨x5A, x5n, x5c, hl6, H⟩ := H
  refine VL.stepD rfl rfl (by decide) (OE.load (a := (Addr.mk b2 0 none)) (v := .slice x5A x5n x5c) rfl (LdT.one Tryz.underlying22 rfl hl6) ?_)
  refine VL.stepD rfl rfl (by decide) (OE.lenSlice rfl Tryz.underlying22 ?_)
  refine VL.stepD rfl rfl (by decide) (OE.binI (v := .int .i64 (IntKind.i64.wrap (((x5n : Nat) : Int) + 16))) rfl rfl rfl ?_)
  refine VL.stepD rfl rfl (by decide) (OE.binI (v := .int .i64 (IntKind.i64.wrap ((IntKind.i64.wrap (((x5n : Nat) : Int) + 16)) - 1))) rfl rfl rfl ?_)
  refine VL.stepD rfl rfl (by decide) (OE.binI (v := .int .i64 (IntKind.i64.wrap (Int.tdiv (IntKind.i64.wrap ((IntKind.i64.wrap (((x5n : Nat) : Int) + 16)) - 1)) 16))) rfl rfl rfl ?_)
  refine VL.stepD rfl rfl (by decide) (OE.assignV (v := .int .i64 (IntKind.i64.wrap (Int.tdiv (IntKind.i64.wrap ((IntKind.i64.wrap (((x5n : Nat) : Int) + 16)) - 1)) 16))) rfl ?_)
  refine VL.nil ?_
  change VC _ _ _ _ _ _ _
  refine VC.seq ?_
  refine VC.seq ?_
  refine VC.region ?_
  refine VL.stepD rfl rfl (by decide) (OE.moveV (v := .int .i64 (IntKind.i64.wrap (Int.tdiv (IntKind.i64.wrap ((IntKind.i64.wrap (((x5n : Nat) : Int) + 16)) - 1)) 16))) rfl ?_)
  refine VL.stepD rfl rfl (by decide) (OE.binI (v := .bool ((IntKind.i64.wrap (Int.tdiv (IntKind.i64.wrap ((IntKind.i64.wrap (((x5n : Nat) : Int) + 16)) - 1)) 16)) == 0)) rfl rfl rfl ?_)
  refine VL.nil ?_
  change VC _ _ _ _ _ _ _
  refine VC.cond (t := ((IntKind.i64.wrap (Int.tdiv (IntKind.i64.wrap ((IntKind.i64.wrap (((x5n : Nat) : Int) + 16)) - 1)) 16)) == 0)) rfl (fun e7 => ?_) (fun e7 => ?_)
  · have H := H.1 e7
    refine VC.seq ?_
    refine VC.region ?_
    obtain ⟨x8_0A, x8_0n, x8_0c, x8_1A, x8_1n, x8_1c, hl9, H⟩ := H
    refine VL.stepD rfl rfl (by decide) (OE.load (a := (Addr.mk b2 0 none)) (v := .agg #[.slice x8_0A x8_0n x8_0c, .slice x8_1A x8_1n x8_1c]) rfl (LdT.aggI Tryz.underlying128 rfl Tryz.i128 rfl hl9) ?_)
    obtain ⟨hw11, H⟩ := H
    obtain ⟨h10, eh13⟩ : ∃ h10, h10 = setRow h3 (Addr.mk b4 0 none) [.slice x8_0A x8_0n x8_0c, .slice x8_1A x8_1n x8_1c] 0 := ⟨_, rfl⟩
    have H := H h10 eh13
    refine VL.stepN rfl rfl (OE.storeE (a := (Addr.mk b4 0 none)) (v := .agg #[.slice x8_0A x8_0n x8_0c, .slice x8_1A x8_1n x8_1c]) rfl rfl (StT.aggI (vs := [.slice x8_0A x8_0n x8_0c, .slice x8_1A x8_1n x8_1c]) Tryz.i128 rfl hw11 (by simp [oneC])) eh13 ?_)
    refine VL.nil ?_
    change VC _ _ _ _ _ _ _
    refine VC.ret ?_
    obtain ⟨r12_0A, r12_0n, r12_0c, r12_1A, r12_1n, r12_1c, hl, H⟩ := H
    exact ⟨rfl, _, ResOK.c1 rfl (v := .agg #[.slice r12_0A r12_0n r12_0c, .slice r12_1A r12_1n r12_1c]) rfl (LdT.aggI Tryz.underlying128 rfl Tryz.i128 rfl hl), H⟩
  · have H := H.2 e7
    refine VC.skip ?_
    change VC _ _ _ _ _ _ _
    refine VC.seqJ (fun f h14 => f 2 = (.pointer (some (Addr.mk b2 0 none)) : Value) ∧ f 4 = (.pointer (some (Addr.mk b4 0 none)) : Value) ∧ D_disk_row_lose.J1 R  b2 b4  h14) ?_ ?_
    · intro f h14 J
      obtain ⟨hk2, hk4, H⟩ := J
      rw [← fr_self f [(2, .pointer (some (Addr.mk b2 0 none))), (4, .pointer (some (Addr.mk b4 0 none)))] (by simp only [List.mem_cons, List.not_mem_nil, or_false]; rintro p (rfl | rfl) <;> assumption)]
      unfold D_disk_row_lose.J1 at H
      refine VC.seq ?_
      refine VC.region ?_
      obtain ⟨x15_0A, x15_0n, x15_0c, x15_1A, x15_1n, x15_1c, hl16, H⟩ := H
      refine VL.stepD rfl rfl (by decide) (OE.load (a := (Addr.mk b2 0 none)) (v := .agg #[.slice x15_0A x15_0n x15_0c, .slice x15_1A x15_1n x15_1c]) rfl (LdT.aggI Tryz.underlying128 rfl Tryz.i128 rfl hl16) ?_)
      obtain ⟨hw18, H⟩ := H
      obtain ⟨h17, eh20⟩ : ∃ h17, h17 = setRow h14 (Addr.mk b4 0 none) [.slice x15_0A x15_0n x15_0c, .slice x15_1A x15_1n x15_1c] 0 := ⟨_, rfl⟩
      have H := H h17 eh20
      refine VL.stepN rfl rfl (OE.storeE (a := (Addr.mk b4 0 none)) (v := .agg #[.slice x15_0A x15_0n x15_0c, .slice x15_1A x15_1n x15_1c]) rfl rfl (StT.aggI (vs := [.slice x15_0A x15_0n x15_0c, .slice x15_1A x15_1n x15_1c]) Tryz.i128 rfl hw18 (by simp [oneC])) eh20 ?_)
      refine VL.nil ?_
      change VC _ _ _ _ _ _ _
      refine VC.ret ?_
      obtain ⟨r19_0A, r19_0n, r19_0c, r19_1A, r19_1n, r19_1c, hl, H⟩ := H
      exact ⟨rfl, _, ResOK.c1 rfl (v := .agg #[.slice r19_0A r19_0n r19_0c, .slice r19_1A r19_1n r19_1c]) rfl (LdT.aggI Tryz.underlying128 rfl Tryz.i128 rfl hl), H⟩
    · skip
      refine VC.seq ?_
      refine VC.region ?_
      refine VL.stepD rfl rfl (by decide) (OE.moveV (v := .slice lostA lostn lostc) rfl ?_)
      refine VL.stepD rfl rfl (by decide) (OE.lenSlice rfl Tryz.underlying44 ?_)
      refine VL.stepD rfl rfl (by decide) (OE.moveV (v := .int .i64 0) rfl ?_)
      refine VL.nil ?_
      change VC _ _ _ _ _ _ _
      refine VC.block ?_
      obtain ⟨Inv, ⟨m0, h0⟩, H⟩ := H
      refine VC.loop (fun ds f h22 m => ds = [] ∧ ∃ j21 : Int, f 2 = (.pointer (some (Addr.mk b2 0 none)) : Value) ∧ f 4 = (.pointer (some (Addr.mk b4 0 none)) : Value) ∧ f 5 = (.int .i64 (IntKind.i64.wrap (Int.tdiv (IntKind.i64.wrap ((IntKind.i64.wrap (((x5n : Nat) : Int) + 16)) - 1)) 16)) : Value) ∧ f 19 = (.slice lostA lostn lostc : Value) ∧ f 20 = (.int .i64 ((lostn : Nat) : Int) : Value) ∧ f 21 = (.int .i64 j21 : Value) ∧ Inv j21 h22 m) (m0 := m0) ⟨rfl, 0, rfl, rfl, rfl, rfl, rfl, rfl, h0⟩ ?_
      intro ds f h22 m I
      obtain ⟨rfl, j21, hk2, hk4, hk5, hk19, hk20, hk21, I⟩ := I
      rw [← fr_self f [(2, .pointer (some (Addr.mk b2 0 none))), (4, .pointer (some (Addr.mk b4 0 none))), (5, .int .i64 (IntKind.i64.wrap (Int.tdiv (IntKind.i64.wrap ((IntKind.i64.wrap (((x5n : Nat) : Int) + 16)) - 1)) 16))), (19, .slice lostA lostn lostc), (20, .int .i64 ((lostn : Nat) : Int)), (21, .int .i64 j21)] (by simp only [List.mem_cons, List.not_mem_nil, or_false]; rintro p (rfl | rfl | rfl | rfl | rfl | rfl) <;> assumption)]
      obtain ⟨C23, eC23⟩ : ∃ C23 : Int → Hp → Prop, C23 = (fun j21 h22 => ∃ m1, m1 < m ∧ Inv j21 h22 m1) := ⟨_, rfl⟩
      have H : D_disk_row_lose.L2 R  lostA lostn b2 b4 x5n C23 j21 h22 := by rw [eC23]; exact H j21 h22 m I
      unfold D_disk_row_lose.L2 at H
      refine VC.seq ?_
      refine VC.region ?_
      refine VL.stepD rfl rfl (by decide) (OE.binI (v := .bool (decide (j21 < ((lostn : Nat) : Int)))) rfl rfl rfl ?_)
      refine VL.nil ?_
      change VC _ _ _ _ _ _ _
      refine VC.seq ?_
      refine VC.cond (t := (decide (j21 < ((lostn : Nat) : Int)))) rfl (fun e24 => ?_) (fun e24 => ?_)
      · have H := H.1 e24
        refine VC.skip ?_
        change VC _ _ _ _ _ _ _
        refine VC.seqJ (fun f h25 => f 2 = (.pointer (some (Addr.mk b2 0 none)) : Value) ∧ f 4 = (.pointer (some (Addr.mk b4 0 none)) : Value) ∧ f 5 = (.int .i64 (IntKind.i64.wrap (Int.tdiv (IntKind.i64.wrap ((IntKind.i64.wrap (((x5n : Nat) : Int) + 16)) - 1)) 16)) : Value) ∧ f 19 = (.slice lostA lostn lostc : Value) ∧ f 20 = (.int .i64 ((lostn : Nat) : Int) : Value) ∧ f 21 = (.int .i64 j21 : Value) ∧ D_disk_row_lose.J3 R C23 j21  h25) ?_ ?_
        · intro f h25 J
          obtain ⟨hk2, hk4, hk5, hk19, hk20, hk21, H⟩ := J
          rw [← fr_self f [(2, .pointer (some (Addr.mk b2 0 none))), (4, .pointer (some (Addr.mk b4 0 none))), (5, .int .i64 (IntKind.i64.wrap (Int.tdiv (IntKind.i64.wrap ((IntKind.i64.wrap (((x5n : Nat) : Int) + 16)) - 1)) 16))), (19, .slice lostA lostn lostc), (20, .int .i64 ((lostn : Nat) : Int)), (21, .int .i64 j21)] (by simp only [List.mem_cons, List.not_mem_nil, or_false]; rintro p (rfl | rfl | rfl | rfl | rfl | rfl) <;> assumption)]
          unfold D_disk_row_lose.J3 at H
          refine VC.region ?_
          refine VL.stepD rfl rfl (by decide) (OE.binI (v := .int .i64 (IntKind.i64.wrap (j21 + 1))) rfl rfl rfl ?_)
          refine VL.stepD rfl rfl (by decide) (OE.moveV (v := .int .i64 (IntKind.i64.wrap (j21 + 1))) rfl ?_)
          refine VL.nil ?_
          rw [eC23] at H
          obtain ⟨m1, hm1, H⟩ := H
          exact ⟨m1, hm1, rfl, (IntKind.i64.wrap (j21 + 1)), rfl, rfl, rfl, rfl, rfl, rfl, H⟩
        · skip
          refine VC.block ?_
          refine VC.seq ?_
          refine VC.region ?_
          obtain ⟨a26, e27, z28, z29, H⟩ := H
          refine VL.stepD rfl rfl (by decide) (OE.indexAddrI (sz := 1) rfl rfl Tryz.underlying44 Tryz.i3 e27 z28 z29 ?_)
          obtain ⟨x30, hl31, H⟩ := H
          refine VL.stepD rfl rfl (by decide) (OE.load (a := (a26.add (Int.toNat j21 * 1))) (v := .int .i64 x30) rfl (LdT.one Tryz.underlying3 rfl hl31) ?_)
          refine VL.stepD rfl rfl (by decide) (OE.assignV (v := .int .i64 x30) rfl ?_)
          refine VL.nil ?_
          change VC _ _ _ _ _ _ _
          refine VC.seq ?_
          refine VC.region ?_
          refine VL.stepD rfl rfl (by decide) (OE.moveV (v := .int .i64 x30) rfl ?_)
          refine VL.stepD rfl rfl (by decide) (OE.moveV (v := .int .i64 (IntKind.i64.wrap (Int.tdiv (IntKind.i64.wrap ((IntKind.i64.wrap (((x5n : Nat) : Int) + 16)) - 1)) 16))) rfl ?_)
          refine VL.stepD rfl rfl (by decide) (OE.callL (args := [.int .i64 x30, .int .i64 (IntKind.i64.wrap (Int.tdiv (IntKind.i64.wrap ((IntKind.i64.wrap (((x5n : Nat) : Int) + 16)) - 1)) 16))]) Tryz.func65 rfl Tryz.nn65 rfl rfl (CHE.mono H (fun r32 h33 H => ?_) (fun _ _ e => e.elim)))
          obtain ⟨y34, rfl, H⟩ := H
          refine VL.stepD rfl rfl (by decide) (OE.binI (v := .int .i64 (IntKind.i64.wrap (16 * y34))) rfl rfl rfl ?_)
          refine VL.stepD rfl rfl (by decide) (OE.assignV (v := .int .i64 (IntKind.i64.wrap (16 * y34))) rfl ?_)
          refine VL.nil ?_
          change VC _ _ _ _ _ _ _
          refine VC.seq ?_
          refine VC.region ?_
          refine VL.stepD rfl rfl (by decide) (OE.moveV (v := .int .i64 (IntKind.i64.wrap (16 * y34))) rfl ?_)
          refine VL.stepD rfl rfl (by decide) (OE.assignV (v := .int .i64 (IntKind.i64.wrap (16 * y34))) rfl ?_)
          refine VL.nil ?_
          change VC _ _ _ _ _ _ _
          refine VC.block ?_
          obtain ⟨Inv, ⟨m0, h0⟩, H⟩ := H
          refine VC.loop (fun ds f h36 m => ds = [] ∧ ∃ j35 : Int, f 2 = (.pointer (some (Addr.mk b2 0 none)) : Value) ∧ f 4 = (.pointer (some (Addr.mk b4 0 none)) : Value) ∧ f 5 = (.int .i64 (IntKind.i64.wrap (Int.tdiv (IntKind.i64.wrap ((IntKind.i64.wrap (((x5n : Nat) : Int) + 16)) - 1)) 16)) : Value) ∧ f 8 = (.int .i64 (IntKind.i64.wrap (16 * y34)) : Value) ∧ f 9 = (.int .i64 j35 : Value) ∧ f 19 = (.slice lostA lostn lostc : Value) ∧ f 20 = (.int .i64 ((lostn : Nat) : Int) : Value) ∧ f 21 = (.int .i64 j21 : Value) ∧ Inv j35 h36 m) (m0 := m0) ⟨rfl, (IntKind.i64.wrap (16 * y34)), rfl, rfl, rfl, rfl, rfl, rfl, rfl, rfl, h0⟩ ?_
          intro ds f h36 m I
          obtain ⟨rfl, j35, hk2, hk4, hk5, hk8, hk9, hk19, hk20, hk21, I⟩ := I
          rw [← fr_self f [(2, .pointer (some (Addr.mk b2 0 none))), (4, .pointer (some (Addr.mk b4 0 none))), (5, .int .i64 (IntKind.i64.wrap (Int.tdiv (IntKind.i64.wrap ((IntKind.i64.wrap (((x5n : Nat) : Int) + 16)) - 1)) 16))), (8, .int .i64 (IntKind.i64.wrap (16 * y34))), (9, .int .i64 j35), (19, .slice lostA lostn lostc), (20, .int .i64 ((lostn : Nat) : Int)), (21, .int .i64 j21)] (by simp only [List.mem_cons, List.not_mem_nil, or_false]; rintro p (rfl | rfl | rfl | rfl | rfl | rfl | rfl | rfl) <;> assumption)]
          obtain ⟨C37, eC37⟩ : ∃ C37 : Int → Hp → Prop, C37 = (fun j35 h36 => ∃ m1, m1 < m ∧ Inv j35 h36 m1) := ⟨_, rfl⟩
          have H : D_disk_row_lose.L4 R C23 b2 j21 y34 C37 j35 h36 := by rw [eC37]; exact H j35 h36 m I
          unfold D_disk_row_lose.L4 at H
          refine VC.seq ?_
          refine VC.seq ?_
          refine VC.region ?_
          refine VL.stepD rfl rfl (by decide) (OE.moveV (v := .int .i64 j35) rfl ?_)
          refine VL.stepD rfl rfl (by decide) (OE.moveV (v := .int .i64 (IntKind.i64.wrap (16 * y34))) rfl ?_)
          refine VL.stepD rfl rfl (by decide) (OE.binI (v := .int .i64 (IntKind.i64.wrap ((IntKind.i64.wrap (16 * y34)) + 16))) rfl rfl rfl ?_)
          refine VL.stepD rfl rfl (by decide) (OE.fieldAddrI (a := (Addr.mk b2 0 none)) (o := 0) rfl Tryz.underlying128 rfl Tryz.i22 (by decide) rfl ?_)
          obtain ⟨x38A, x38n, x38c, hl39, H⟩ := H
          refine VL.stepD rfl rfl (by decide) (OE.load (a := (Addr.mk b2 0 none)) (v := .slice x38A x38n x38c) rfl (LdT.one Tryz.underlying22 rfl hl39) ?_)
          refine VL.stepD rfl rfl (by decide) (OE.lenSlice rfl Tryz.underlying22 ?_)
          refine VL.stepD rfl rfl (by decide) (OE.min rfl rfl ?_)
          refine VL.stepD rfl rfl (by decide) (OE.binI (v := .bool (decide (j35 < (optMn (IntKind.i64.wrap ((IntKind.i64.wrap (16 * y34)) + 16)) ((x38n : Nat) : Int))))) rfl rfl rfl ?_)
          refine VL.nil ?_
          change VC _ _ _ _ _ _ _
          refine VC.cond (t := (decide (j35 < (optMn (IntKind.i64.wrap ((IntKind.i64.wrap (16 * y34)) + 16)) ((x38n : Nat) : Int))))) rfl (fun e40 => ?_) (fun e40 => ?_)
          · have H := H.1 e40
            refine VC.skip ?_
            change VC _ _ _ _ _ _ _
            refine VC.seqJ (fun f h41 => f 2 = (.pointer (some (Addr.mk b2 0 none)) : Value) ∧ f 4 = (.pointer (some (Addr.mk b4 0 none)) : Value) ∧ f 5 = (.int .i64 (IntKind.i64.wrap (Int.tdiv (IntKind.i64.wrap ((IntKind.i64.wrap (((x5n : Nat) : Int) + 16)) - 1)) 16)) : Value) ∧ f 8 = (.int .i64 (IntKind.i64.wrap (16 * y34)) : Value) ∧ f 9 = (.int .i64 j35 : Value) ∧ f 19 = (.slice lostA lostn lostc : Value) ∧ f 20 = (.int .i64 ((lostn : Nat) : Int) : Value) ∧ f 21 = (.int .i64 j21 : Value) ∧ D_disk_row_lose.J5 R C37 j35  h41) ?_ ?_
            · intro f h41 J
              obtain ⟨hk2, hk4, hk5, hk8, hk9, hk19, hk20, hk21, H⟩ := J
              rw [← fr_self f [(2, .pointer (some (Addr.mk b2 0 none))), (4, .pointer (some (Addr.mk b4 0 none))), (5, .int .i64 (IntKind.i64.wrap (Int.tdiv (IntKind.i64.wrap ((IntKind.i64.wrap (((x5n : Nat) : Int) + 16)) - 1)) 16))), (8, .int .i64 (IntKind.i64.wrap (16 * y34))), (9, .int .i64 j35), (19, .slice lostA lostn lostc), (20, .int .i64 ((lostn : Nat) : Int)), (21, .int .i64 j21)] (by simp only [List.mem_cons, List.not_mem_nil, or_false]; rintro p (rfl | rfl | rfl | rfl | rfl | rfl | rfl | rfl) <;> assumption)]
              unfold D_disk_row_lose.J5 at H
              refine VC.region ?_
              refine VL.stepD rfl rfl (by decide) (OE.moveV (v := .int .i64 j35) rfl ?_)
              refine VL.stepD rfl rfl (by decide) (OE.binI (v := .int .i64 (IntKind.i64.wrap (j35 + 1))) rfl rfl rfl ?_)
              refine VL.stepD rfl rfl (by decide) (OE.assignV (v := .int .i64 (IntKind.i64.wrap (j35 + 1))) rfl ?_)
              refine VL.nil ?_
              rw [eC37] at H
              obtain ⟨m1, hm1, H⟩ := H
              exact ⟨m1, hm1, rfl, (IntKind.i64.wrap (j35 + 1)), rfl, rfl, rfl, rfl, rfl, rfl, rfl, rfl, H⟩
            · skip
              refine VC.block ?_
              refine VC.seq ?_
              refine VC.region ?_
              refine VL.stepD rfl rfl (by decide) (OE.fieldAddrI (a := (Addr.mk b2 0 none)) (o := 1) rfl Tryz.underlying128 rfl Tryz.i126 (by decide) rfl ?_)
              obtain ⟨x42A, x42n, x42c, hl43, H⟩ := H
              refine VL.stepD rfl rfl (by decide) (OE.load (a := ((Addr.mk b2 0 none).add 1)) (v := .slice x42A x42n x42c) rfl (LdT.one Tryz.underlying126 rfl hl43) ?_)
              refine VL.stepD rfl rfl (by decide) (OE.moveV (v := .int .i64 j35) rfl ?_)
              obtain ⟨a44, e45, z46, z47, H⟩ := H
              refine VL.stepD rfl rfl (by decide) (OE.indexAddrI (sz := 1) rfl rfl Tryz.underlying126 Tryz.i4 e45 z46 z47 ?_)
              obtain ⟨x48, hl49, H⟩ := H
              refine VL.stepD rfl rfl (by decide) (OE.load (a := (a44.add (Int.toNat j35 * 1))) (v := .bool x48) rfl (LdT.one Tryz.underlying4 rfl hl49) ?_)
              refine VL.nil ?_
              change VC _ _ _ _ _ _ _
              refine VC.cond (t := x48) rfl (fun e50 => ?_) (fun e50 => ?_)
              · have H := H.1 e50
                refine VC.region ?_
                refine VL.stepD rfl rfl (by decide) (OE.fieldAddrI (a := (Addr.mk b2 0 none)) (o := 0) rfl Tryz.underlying128 rfl Tryz.i22 (by decide) rfl ?_)
                obtain ⟨x51A, x51n, x51c, hl52, H⟩ := H
                refine VL.stepD rfl rfl (by decide) (OE.load (a := (Addr.mk b2 0 none)) (v := .slice x51A x51n x51c) rfl (LdT.one Tryz.underlying22 rfl hl52) ?_)
                refine VL.stepD rfl rfl (by decide) (OE.moveV (v := .int .i64 j35) rfl ?_)
                obtain ⟨a53, e54, z55, z56, H⟩ := H
                refine VL.stepD rfl rfl (by decide) (OE.indexAddrI (sz := 1) rfl rfl Tryz.underlying22 Tryz.i5 e54 z55 z56 ?_)
                obtain ⟨hw58, H⟩ := H
                obtain ⟨h57, eh59⟩ : ∃ h57, h57 = setc h36 (a53.add (Int.toNat j35 * 1)) (.int .u8 0) := ⟨_, rfl⟩
                have H := H h57 eh59
                refine VL.stepN rfl rfl (OE.storeE (a := (a53.add (Int.toNat j35 * 1))) (v := .int .u8 0) rfl rfl (StT.oneI Tryz.i5 hw58 rfl) eh59 ?_)
                refine VL.nil ?_
                exact ⟨rfl, rfl, rfl, rfl, rfl, rfl, rfl, rfl, rfl, H⟩
              · have H := H.2 e50
                refine VC.skip ?_
                exact ⟨rfl, rfl, rfl, rfl, rfl, rfl, rfl, rfl, rfl, H⟩
          · have H := H.2 e40
            refine VC.exit ?_
            exact ⟨rfl, rfl, rfl, rfl, rfl, rfl, rfl, H⟩
      · have H := H.2 e24
        refine VC.exit ?_
        exact ⟨rfl, rfl, rfl, H⟩

def D_disk_Disk_names.J2 (R : Value → Hp → Prop)  (j8 : Option Nat)  (h10 : Hp) : Prop :=
  R (.map j8) h10
def D_disk_Disk_names.L3 (R : Value → Hp → Prop)  (turnsA : Option Addr) (turnsn : Nat) (j8 : Option Nat) (C13 : Int → Hp → Prop) (j11 : Int) (h12 : Hp) : Prop :=
  (((decide (j11 < ((turnsn : Nat) : Int))) = true → (∃ a15 : Addr, turnsA = some a15 ∧ (0 : Int) ≤ j11 ∧ j11 < (turnsn : Int) ∧ (∃ x19_0 : ByteArray, ∃ x19_1 : ByteArray, ∃ x19_2 : Int, Row h12 (a15.add (Int.toNat j11 * 3)) [.string x19_0, .string x19_1, .int .i64 x19_2] ∧ (∀ b22 h21, b22 = Array.size h12 → h21 = Array.push h12 (.cells #[.string ByteArray.empty, .string ByteArray.empty, .int .i64 0] 107) → ((∀ j, j < 3 → Wr h21 (Addr.add (Addr.mk b22 0 none) j)) ∧ ∀ h23, h23 = setRow h21 (Addr.mk b22 0 none) [.string x19_0, .string x19_1, .int .i64 x19_2] 0 → (∃ x25_0 : ByteArray, ∃ x25_1 : ByteArray, ∃ x25_2 : Int, Row h23 (Addr.mk b22 0 none) [.string x25_0, .string x25_1, .int .i64 x25_2] ∧ CH Tryz.prog 94 #[.agg #[.string x25_0, .string x25_1, .int .i64 x25_2], .map j8] h23 (fun r27 h28 => C13 (IntKind.i64.wrap (j11 + 1)) h28))))))) ∧ ((decide (j11 < ((turnsn : Nat) : Int))) = false → D_disk_Disk_names.J2 R  j8  h12))
def D_disk_Disk_names.J1 (R : Value → Hp → Prop)  (turnsA : Option Addr) (turnsn : Nat) (j8 : Option Nat) (h9 : Hp) : Prop :=
  (∃ Inv : Int → Hp → Nat → Prop, (∃ m, Inv 0 h9 m) ∧ ∀ j11 h12 m, Inv j11 h12 m → D_disk_Disk_names.L3 R  turnsA turnsn j8 (fun j11 h12 => ∃ m1, m1 < m ∧ Inv j11 h12 m1) j11 h12)
def D_disk_Disk_names (R : Value → Hp → Prop) (d : Option Addr) (turnsA : Option Addr) (turnsn : Nat) (turnsc : Nat) (h : Hp) : Prop :=
  (∃ a1 : Addr, d = some a1 ∧ (∃ x3 : Option Nat, cell h (a1.add 4) = some (.map x3) ∧ CH Tryz.prog 93 #[.map x3] h (fun r5 h6 => ∃ y7 : Option Nat, r5 = .map y7 ∧ (((Option.isNone y7) = true → (∀ b34 h33, b34 = Array.size h6 → h33 = Array.push h6 (.map #[] 0) → D_disk_Disk_names.J1 R  turnsA turnsn (some b34) h33)) ∧ ((Option.isNone y7) = false → D_disk_Disk_names.J1 R  turnsA turnsn y7 h6)))))
set_option maxRecDepth 10000 in
set_option maxHeartbeats 4000000 in
theorem D_disk_Disk_names.sound {R : Value → Hp → Prop} {d : Option Addr} {turnsA : Option Addr} {turnsn : Nat} {turnsc : Nat} {h : Hp} (H : D_disk_Disk_names R  d turnsA turnsn turnsc h) : CH Tryz.prog 68 #[.pointer d, .slice turnsA turnsn turnsc] h R := by
  refine CHE.enter (n := 27) Tryz.func68 rfl rfl (Nat.le_of_ble_eq_true rfl) ?_
  unfold D_disk_Disk_names at H
  refine VC.seq ?_
  refine VC.region ?_
  refine VL.stepD rfl rfl (by decide) (OE.assignV (v := .map none) rfl ?_)
  refine VL.nil ?_
  change VC _ _ _ _ _ _ _
  refine VC.seq ?_
  refine VC.region ?_
  refine VL.stepD rfl rfl (by decide) (OE.moveV (v := .pointer d) rfl ?_)
  obtain ⟨a1, e2, H⟩ := H
  refine VL.stepD rfl rfl (by decide) (OE.nilCheck (a := a1) (congrArg Value.pointer e2) ?_)
  refine VL.stepD rfl rfl (by decide) (OE.fieldAddrI (a := a1) (o := 4) rfl Tryz.underlying104 rfl Tryz.i101 (by decide) rfl ?_)
  obtain ⟨x3, hl4, H⟩ := H
  refine VL.stepD rfl rfl (by decide) (OE.load (a := (a1.add 4)) (v := .map x3) rfl (LdT.one Tryz.underlying101 rfl hl4) ?_)
  refine VL.stepD rfl rfl (by decide) (OE.callL (args := [.map x3]) Tryz.func93 rfl Tryz.nn93 rfl rfl (CHE.mono H (fun r5 h6 H => ?_) (fun _ _ e => e.elim)))
  obtain ⟨y7, rfl, H⟩ := H
  refine VL.stepD rfl rfl (by decide) (OE.assignV (v := .map y7) rfl ?_)
  refine VL.nil ?_
  change VC _ _ _ _ _ _ _
  refine VC.seqJ (fun f h9 => ∃ j8 : Option Nat, f 1 = (.slice turnsA turnsn turnsc : Value) ∧ f 5 = (.map j8 : Value) ∧ D_disk_Disk_names.J1 R  turnsA turnsn j8 h9) ?_ ?_
  · intro f h9 J
    obtain ⟨j8, hk1, hk5, H⟩ := J
    rw [← fr_self f [(1, .slice turnsA turnsn turnsc), (5, .map j8)] (by simp only [List.mem_cons, List.not_mem_nil, or_false]; rintro p (rfl | rfl) <;> assumption)]
    unfold D_disk_Disk_names.J1 at H
    refine VC.seqJ (fun f h10 => f 5 = (.map j8 : Value) ∧ D_disk_Disk_names.J2 R  j8  h10) ?_ ?_
    · intro f h10 J
      obtain ⟨hk5, H⟩ := J
      rw [← fr_self f [(5, .map j8)] (by simp only [List.mem_cons, List.not_mem_nil, or_false]; rintro p (rfl) <;> assumption)]
      unfold D_disk_Disk_names.J2 at H
      refine VC.seq ?_
      refine VC.region ?_
      refine VL.stepD rfl rfl (by decide) (OE.moveV (v := .map j8) rfl ?_)
      refine VL.stepD rfl rfl (by decide) (OE.assignV (v := .map j8) rfl ?_)
      refine VL.nil ?_
      change VC _ _ _ _ _ _ _
      refine VC.ret ?_
      exact ⟨rfl, _, ResOK.t1 rfl (v := .map j8) rfl, H⟩
    · skip
      refine VC.seq ?_
      refine VC.region ?_
      refine VL.stepD rfl rfl (by decide) (OE.moveV (v := .slice turnsA turnsn turnsc) rfl ?_)
      refine VL.stepD rfl rfl (by decide) (OE.lenSlice rfl Tryz.underlying102 ?_)
      refine VL.stepD rfl rfl (by decide) (OE.moveV (v := .int .i64 0) rfl ?_)
      refine VL.nil ?_
      change VC _ _ _ _ _ _ _
      refine VC.block ?_
      obtain ⟨Inv, ⟨m0, h0⟩, H⟩ := H
      refine VC.loop (fun ds f h12 m => ds = [] ∧ ∃ j11 : Int, f 5 = (.map j8 : Value) ∧ f 16 = (.slice turnsA turnsn turnsc : Value) ∧ f 17 = (.int .i64 ((turnsn : Nat) : Int) : Value) ∧ f 18 = (.int .i64 j11 : Value) ∧ Inv j11 h12 m) (m0 := m0) ⟨rfl, 0, rfl, rfl, rfl, rfl, h0⟩ ?_
      intro ds f h12 m I
      obtain ⟨rfl, j11, hk5, hk16, hk17, hk18, I⟩ := I
      rw [← fr_self f [(5, .map j8), (16, .slice turnsA turnsn turnsc), (17, .int .i64 ((turnsn : Nat) : Int)), (18, .int .i64 j11)] (by simp only [List.mem_cons, List.not_mem_nil, or_false]; rintro p (rfl | rfl | rfl | rfl) <;> assumption)]
      obtain ⟨C13, eC13⟩ : ∃ C13 : Int → Hp → Prop, C13 = (fun j11 h12 => ∃ m1, m1 < m ∧ Inv j11 h12 m1) := ⟨_, rfl⟩
      have H : D_disk_Disk_names.L3 R  turnsA turnsn j8 C13 j11 h12 := by rw [eC13]; exact H j11 h12 m I
      unfold D_disk_Disk_names.L3 at H
      refine VC.seq ?_
      refine VC.region ?_
      refine VL.stepD rfl rfl (by decide) (OE.binI (v := .bool (decide (j11 < ((turnsn : Nat) : Int)))) rfl rfl rfl ?_)
      refine VL.nil ?_
      change VC _ _ _ _ _ _ _
      refine VC.seq ?_
      refine VC.cond (t := (decide (j11 < ((turnsn : Nat) : Int)))) rfl (fun e14 => ?_) (fun e14 => ?_)
      · have H := H.1 e14
        refine VC.skip ?_
        change VC _ _ _ _ _ _ _
        refine VC.seq ?_
        refine VC.block ?_
        refine VC.seq ?_
        refine VC.region ?_
        obtain ⟨a15, e16, z17, z18, H⟩ := H
        refine VL.stepD rfl rfl (by decide) (OE.indexAddrI (sz := 3) rfl rfl Tryz.underlying102 Tryz.i107 e16 z17 z18 ?_)
        obtain ⟨x19_0, x19_1, x19_2, hl20, H⟩ := H
        refine VL.stepD rfl rfl (by decide) (OE.load (a := (a15.add (Int.toNat j11 * 3))) (v := .agg #[.string x19_0, .string x19_1, .int .i64 x19_2]) rfl (LdT.aggI Tryz.underlying107 rfl Tryz.i107 rfl hl20) ?_)
        obtain ⟨b22, eb30⟩ : ∃ b22, b22 = Array.size h12 := ⟨_, rfl⟩
        obtain ⟨h21, eh31⟩ : ∃ h21, h21 = Array.push h12 (.cells #[.string ByteArray.empty, .string ByteArray.empty, .int .i64 0] 107) := ⟨_, rfl⟩
        have H := H b22 h21 eb30 eh31
        refine VL.stepD rfl rfl (by decide) (OE.allocE (z := .agg #[.string ByteArray.empty, .string ByteArray.empty, .int .i64 0]) Tryz.i107 eb30 eh31 ?_)
        obtain ⟨hw24, H⟩ := H
        obtain ⟨h23, eh29⟩ : ∃ h23, h23 = setRow h21 (Addr.mk b22 0 none) [.string x19_0, .string x19_1, .int .i64 x19_2] 0 := ⟨_, rfl⟩
        have H := H h23 eh29
        refine VL.stepN rfl rfl (OE.storeE (a := (Addr.mk b22 0 none)) (v := .agg #[.string x19_0, .string x19_1, .int .i64 x19_2]) rfl rfl (StT.aggI (vs := [.string x19_0, .string x19_1, .int .i64 x19_2]) Tryz.i107 rfl hw24 (by simp [oneC])) eh29 ?_)
        refine VL.nil ?_
        change VC _ _ _ _ _ _ _
        refine VC.region ?_
        obtain ⟨x25_0, x25_1, x25_2, hl26, H⟩ := H
        refine VL.stepD rfl rfl (by decide) (OE.load (a := (Addr.mk b22 0 none)) (v := .agg #[.string x25_0, .string x25_1, .int .i64 x25_2]) rfl (LdT.aggI Tryz.underlying107 rfl Tryz.i107 rfl hl26) ?_)
        refine VL.stepD rfl rfl (by decide) (OE.moveV (v := .map j8) rfl ?_)
        refine VL.stepD rfl rfl (by decide) (OE.callL (args := [.agg #[.string x25_0, .string x25_1, .int .i64 x25_2], .map j8]) Tryz.func94 rfl Tryz.nn94 rfl rfl (CHE.mono H (fun r27 h28 H => ?_) (fun _ _ e => e.elim)))
        refine VL.nil ?_
        change VC _ _ _ _ _ _ _
        refine VC.region ?_
        refine VL.stepD rfl rfl (by decide) (OE.binI (v := .int .i64 (IntKind.i64.wrap (j11 + 1))) rfl rfl rfl ?_)
        refine VL.stepD rfl rfl (by decide) (OE.moveV (v := .int .i64 (IntKind.i64.wrap (j11 + 1))) rfl ?_)
        refine VL.nil ?_
        rw [eC13] at H
        obtain ⟨m1, hm1, H⟩ := H
        exact ⟨m1, hm1, rfl, (IntKind.i64.wrap (j11 + 1)), rfl, rfl, rfl, rfl, H⟩
      · have H := H.2 e14
        refine VC.exit ?_
        exact ⟨rfl, rfl, H⟩
  · skip
    refine VC.seq ?_
    refine VC.region ?_
    refine VL.stepD rfl rfl (by decide) (OE.moveV (v := .map y7) rfl ?_)
    refine VL.stepD rfl rfl (by decide) (OE.mapNil (p := y7) rfl rfl Tryz.underlying101 ?_)
    refine VL.nil ?_
    change VC _ _ _ _ _ _ _
    refine VC.cond (t := (Option.isNone y7)) rfl (fun e32 => ?_) (fun e32 => ?_)
    · have H := H.1 e32
      refine VC.region ?_
      obtain ⟨b34, eb35⟩ : ∃ b34, b34 = Array.size h6 := ⟨_, rfl⟩
      obtain ⟨h33, eh36⟩ : ∃ h33, h33 = Array.push h6 (.map #[] 0) := ⟨_, rfl⟩
      have H := H b34 h33 eb35 eh36
      refine VL.stepD rfl rfl (by decide) (OE.makeMapE eb35 eh36 ?_)
      refine VL.stepD rfl rfl (by decide) (OE.assignV (v := .map (some b34)) rfl ?_)
      refine VL.nil ?_
      exact ⟨rfl, (some b34), rfl, rfl, H⟩
    · have H := H.2 e32
      refine VC.skip ?_
      exact ⟨rfl, y7, rfl, rfl, H⟩


def D_disk_Disk_left.J1 (R : Value → Hp → Prop)  (y18A : Option Addr) (y18n : Nat) (y18c : Nat)  (h19 : Hp) : Prop :=
  R (.slice y18A y18n y18c) h19
def D_disk_Disk_left.J3 (R : Value → Hp → Prop) (C24 : Int → Hp → Prop) (j22 : Int)  (h26 : Hp) : Prop :=
  C24 (IntKind.i64.wrap (j22 + 1)) h26
def D_disk_Disk_left.L2 (R : Value → Hp → Prop)  (y11 : Int) (y18A : Option Addr) (y18n : Nat) (y18c : Nat) (x20A : Option Addr) (x20n : Nat) (C24 : Int → Hp → Prop) (j22 : Int) (h23 : Hp) : Prop :=
  (((decide (j22 < ((x20n : Nat) : Int))) = true → (∃ a27 : Addr, x20A = some a27 ∧ (0 : Int) ≤ j22 ∧ j22 < (x20n : Int) ∧ (∃ x31 : Int, cell h23 (a27.add (Int.toNat j22 * 1)) = some (.int .i64 x31) ∧ (((decide (y11 > 0)) = true → CH Tryz.prog 65 #[.int .i64 x31, .int .i64 y11] h23 (fun r34 h35 => ∃ y36 : Int, r34 = .int .i64 y36 ∧ (∃ a37 : Addr, y18A = some a37 ∧ (0 : Int) ≤ y36 ∧ y36 < (y18n : Int) ∧ ((∀ j, j < 3 → Wr h35 (Addr.add (a37.add (Int.toNat y36 * 3)) j)) ∧ ∀ h41, h41 = setRow h35 (a37.add (Int.toNat y36 * 3)) [.string ByteArray.empty, .string ByteArray.empty, .int .i64 0] 0 → D_disk_Disk_left.J3 R C24 j22  h41)))) ∧ ((decide (y11 > 0)) = false → D_disk_Disk_left.J3 R C24 j22  h23))))) ∧ ((decide (j22 < ((x20n : Nat) : Int))) = false → D_disk_Disk_left.J1 R  y18A y18n y18c  h23))
def D_disk_Disk_left (R : Value → Hp → Prop) (d : Option Addr) (p_0 : Int) (p_1A : Option Addr) (p_1n : Nat) (p_1c : Nat) (p_2A : Option Addr) (p_2n : Nat) (p_2c : Nat) (h : Hp) : Prop :=
  (∀ b2 h1, b2 = Array.size h → h1 = Array.push h (.cells #[.int .i64 p_0, .slice p_1A p_1n p_1c, .slice p_2A p_2n p_2c] 47) → (∃ x3 : Int, cell h1 (Addr.mk b2 0 none) = some (.int .i64 x3) ∧ (∃ a5 : Addr, d = some a5 ∧ (∃ x7A : Option Addr, ∃ x7n : Nat, ∃ x7c : Nat, cell h1 (a5.add 5) = some (.slice x7A x7n x7c) ∧ CH Tryz.prog 65 #[.int .i64 x3, .int .i64 (IntKind.i64.wrap (((x7n : Nat) : Int) + 1))] h1 (fun r9 h10 => ∃ y11 : Int, r9 = .int .i64 y11 ∧ (∃ x12A : Option Addr, ∃ x12n : Nat, ∃ x12c : Nat, cell h10 (a5.add 5) = some (.slice x12A x12n x12c) ∧ ((0 : Int) ≤ y11 ∧ y11 ≤ ((x12c : Nat) : Int) ∧ CH Tryz.prog 95 #[.slice x12A (Int.toNat y11) x12c] h10 (fun r16 h17 => ∃ y18A : Option Addr, ∃ y18n : Nat, ∃ y18c : Nat, r16 = .slice y18A y18n y18c ∧ (∃ x20A : Option Addr, ∃ x20n : Nat, ∃ x20c : Nat, cell h17 ((Addr.mk b2 0 none).add 1) = some (.slice x20A x20n x20c) ∧ (∃ Inv : Int → Hp → Nat → Prop, (∃ m, Inv 0 h17 m) ∧ ∀ j22 h23 m, Inv j22 h23 m → D_disk_Disk_left.L2 R  y11 y18A y18n y18c x20A x20n (fun j22 h23 => ∃ m1, m1 < m ∧ Inv j22 h23 m1) j22 h23))))))))))
set_option maxRecDepth 10000 in
set_option maxHeartbeats 4000000 in
theorem D_disk_Disk_left.sound {R : Value → Hp → Prop} {d : Option Addr} {p_0 : Int} {p_1A : Option Addr} {p_1n : Nat} {p_1c : Nat} {p_2A : Option Addr} {p_2n : Nat} {p_2c : Nat} {h : Hp} (H : D_disk_Disk_left R  d p_0 p_1A p_1n p_1c p_2A p_2n p_2c h) : CH Tryz.prog 69 #[.pointer d, .agg #[.int .i64 p_0, .slice p_1A p_1n p_1c, .slice p_2A p_2n p_2c]] h R := by
  refine CHE.enter (n := 42) Tryz.func69 rfl rfl (Nat.le_of_ble_eq_true rfl) ?_
  unfold D_disk_Disk_left at H
  refine VC.seq ?_
  refine VC.region ?_
  obtain ⟨b2, eb47⟩ : ∃ b2, b2 = Array.size h := ⟨_, rfl⟩
  obtain ⟨h1, eh48⟩ : ∃ h1, h1 = Array.push h (.cells #[.int .i64 p_0, .slice p_1A p_1n p_1c, .slice p_2A p_2n p_2c] 47) := ⟨_, rfl⟩
  have H := H b2 h1 eb47 eh48
  refine VL.stepD rfl rfl (by decide) (OE.boxE (v := .agg #[.int .i64 p_0, .slice p_1A p_1n p_1c, .slice p_2A p_2n p_2c]) rfl eb47 eh48 ?_)
  refine VL.stepD rfl rfl (by decide) (OE.assignV (v := .slice none 0 0) rfl ?_)
  refine VL.nil ?_
  change VC _ _ _ _ _ _ _
  refine VC.seq ?_
  refine VC.drawsS Tryz.mixed (by kernel_rfl) (by kernel_rfl) (fun st hd => ?_)
  refine DW.still (i := 0) (v := .pointer (some (Addr.mk b2 0 none))) (by kernel_rfl) ?_
  obtain ⟨x3, hl4, H⟩ := H
  refine DW.still (i := 1) (v := .int .i64 x3) (by kernel_rfl) ?_
  refine DW.still (i := 2) (v := .pointer d) (by kernel_rfl) ?_
  obtain ⟨a5, e6, H⟩ := H
  refine DW.still (i := 3) (v := .pointer (some a5)) (by kernel_rfl) ?_
  refine DW.still (i := 4) (v := .pointer (some (a5.add 5))) (by kernel_rfl) ?_
  obtain ⟨x7A, x7n, x7c, hl8, H⟩ := H
  refine DW.still (i := 5) (v := .slice x7A x7n x7c) (by kernel_rfl) ?_
  refine DW.still (i := 6) (v := .int .i64 ((x7n : Nat) : Int)) (by kernel_rfl) ?_
  refine DW.still (i := 7) (v := .int .i64 (IntKind.i64.wrap (((x7n : Nat) : Int) + 1))) (by kernel_rfl) ?_
  refine DW.loudF (fr (fun _ => undef) [(10, (.int .i64 x3 : Value)), (16, (.int .i64 (IntKind.i64.wrap (((x7n : Nat) : Int) + 1)) : Value))]) st hd (i := 8) rfl (by kernel_rfl) (.inl rfl) (by kernel_rfl) ⟨.inr (YD.u (fr (fun _ => undef) [(15, (.int .i64 ((x7n : Nat) : Int) : Value))]) st rfl rfl (by kernel_rfl) (OE.binI (v := .int .i64 (IntKind.i64.wrap (((x7n : Nat) : Int) + 1))) rfl rfl rfl ⟨rfl, rfl⟩)), .inr (YD.u (fr (fun _ => undef) [(14, (.slice x7A x7n x7c : Value))]) st rfl rfl (by kernel_rfl) (OE.lenSlice rfl Tryz.underlying102 ⟨rfl, rfl⟩)), .inr (YD.u (fr (fun _ => undef) [(13, (.pointer (some (a5.add 5)) : Value))]) st rfl rfl (by kernel_rfl) (OE.load (a := (a5.add 5)) (v := .slice x7A x7n x7c) rfl (LdT.one Tryz.underlying102 rfl hl8) ⟨rfl, rfl⟩)), .inr (YD.u (fr (fun _ => undef) [(12, (.pointer (some a5) : Value))]) st rfl rfl (by kernel_rfl) (OE.fieldAddrI (a := a5) (o := 5) rfl Tryz.underlying104 rfl Tryz.i102 (by decide) rfl ⟨rfl, rfl⟩)), .inr (YD.u (fr (fun _ => undef) [(11, (.pointer d : Value))]) st rfl rfl (by kernel_rfl) (OE.nilCheck (a := a5) (congrArg Value.pointer e6) ⟨rfl, rfl⟩)), .inr (YD.u (fr (fun _ => undef) [(0, (.pointer d : Value))]) st rfl rfl (by kernel_rfl) (OE.moveV (v := .pointer d) rfl ⟨rfl, rfl⟩)), .inr (YD.u (fr (fun _ => undef) [(9, (.pointer (some (Addr.mk b2 0 none)) : Value))]) st rfl rfl (by kernel_rfl) (OE.load (a := (Addr.mk b2 0 none)) (v := .int .i64 x3) rfl (LdT.one Tryz.underlying3 rfl hl4) ⟨rfl, rfl⟩)), .inr (YD.u (fr (fun _ => undef) [(3, (.pointer (some (Addr.mk b2 0 none)) : Value))]) st rfl rfl (by kernel_rfl) (OE.fieldAddrI (a := (Addr.mk b2 0 none)) (o := 0) rfl Tryz.underlying47 rfl Tryz.i3 (by decide) rfl ⟨rfl, rfl⟩)), trivial⟩ (OE.callL (args := [.int .i64 x3, .int .i64 (IntKind.i64.wrap (((x7n : Nat) : Int) + 1))]) Tryz.func65 rfl Tryz.nn65 rfl rfl (CHE.mono H (fun r9 h10 H => ?_) (fun _ _ e => e.elim)))
  obtain ⟨y11, rfl, H⟩ := H
  refine DW.still (i := 9) (v := .int .i64 y11) (by kernel_rfl) ?_
  refine DW.finL st hd [(9, (.pointer (some (Addr.mk b2 0 none)) : Value)), (10, (.int .i64 x3 : Value)), (11, (.pointer d : Value)), (12, (.pointer (some a5) : Value)), (13, (.pointer (some (a5.add 5)) : Value)), (14, (.slice x7A x7n x7c : Value)), (15, (.int .i64 ((x7n : Nat) : Int) : Value)), (16, (.int .i64 (IntKind.i64.wrap (((x7n : Nat) : Int) + 1)) : Value)), (17, (.int .i64 y11 : Value)), (5, (.int .i64 y11 : Value))] (by kernel_rfl) (by kernel_rfl) ⟨.inr (YD.u (fr (fun _ => undef) [(17, (.int .i64 y11 : Value))]) st rfl rfl (by kernel_rfl) (OE.assignV (v := .int .i64 y11) rfl ⟨rfl, rfl⟩)), .inl (by kernel_rfl), .inl (by kernel_rfl), .inl (by kernel_rfl), .inl (by kernel_rfl), .inl (by kernel_rfl), .inl (by kernel_rfl), .inl (by kernel_rfl), .inl (by kernel_rfl), .inl (by kernel_rfl), trivial⟩ ?_
  change VC _ _ _ _ _ _ _
  refine VC.seq ?_
  refine VC.region ?_
  refine VL.stepD rfl rfl (by decide) (OE.moveV (v := .pointer d) rfl ?_)
  refine VL.stepD rfl rfl (by decide) (OE.nilCheck (a := a5) (congrArg Value.pointer e6) ?_)
  refine VL.stepD rfl rfl (by decide) (OE.fieldAddrI (a := a5) (o := 5) rfl Tryz.underlying104 rfl Tryz.i102 (by decide) rfl ?_)
  obtain ⟨x12A, x12n, x12c, hl13, H⟩ := H
  refine VL.stepD rfl rfl (by decide) (OE.load (a := (a5.add 5)) (v := .slice x12A x12n x12c) rfl (LdT.one Tryz.underlying102 rfl hl13) ?_)
  refine VL.stepD rfl rfl (by decide) (OE.moveV (v := .int .i64 y11) rfl ?_)
  obtain ⟨z14, z15, H⟩ := H
  refine VL.stepD rfl rfl (by decide) (OE.sliceHiV (sz := 3) rfl rfl Tryz.underlying102 Tryz.i107 z14 z15 ?_)
  refine VL.stepD rfl rfl (by decide) (OE.callL (args := [.slice x12A (Int.toNat y11) x12c]) Tryz.func95 rfl Tryz.nn95 rfl rfl (CHE.mono H (fun r16 h17 H => ?_) (fun _ _ e => e.elim)))
  obtain ⟨y18A, y18n, y18c, rfl, H⟩ := H
  refine VL.stepD rfl rfl (by decide) (OE.assignV (v := .slice y18A y18n y18c) rfl ?_)
  refine VL.nil ?_
  change VC _ _ _ _ _ _ _
  refine VC.seqJ (fun f h19 => f 6 = (.slice y18A y18n y18c : Value) ∧ D_disk_Disk_left.J1 R  y18A y18n y18c  h19) ?_ ?_
  · intro f h19 J
    obtain ⟨hk6, H⟩ := J
    rw [← fr_self f [(6, .slice y18A y18n y18c)] (by simp only [List.mem_cons, List.not_mem_nil, or_false]; rintro p (rfl) <;> assumption)]
    unfold D_disk_Disk_left.J1 at H
    refine VC.seq ?_
    refine VC.region ?_
    refine VL.stepD rfl rfl (by decide) (OE.moveV (v := .slice y18A y18n y18c) rfl ?_)
    refine VL.stepD rfl rfl (by decide) (OE.assignV (v := .slice y18A y18n y18c) rfl ?_)
    refine VL.nil ?_
    change VC _ _ _ _ _ _ _
    refine VC.ret ?_
    exact ⟨rfl, _, ResOK.t1 rfl (v := .slice y18A y18n y18c) rfl, H⟩
  · skip
    refine VC.seq ?_
    refine VC.region ?_
    refine VL.stepD rfl rfl (by decide) (OE.fieldAddrI (a := (Addr.mk b2 0 none)) (o := 1) rfl Tryz.underlying47 rfl Tryz.i44 (by decide) rfl ?_)
    obtain ⟨x20A, x20n, x20c, hl21, H⟩ := H
    refine VL.stepD rfl rfl (by decide) (OE.load (a := ((Addr.mk b2 0 none).add 1)) (v := .slice x20A x20n x20c) rfl (LdT.one Tryz.underlying44 rfl hl21) ?_)
    refine VL.stepD rfl rfl (by decide) (OE.lenSlice rfl Tryz.underlying44 ?_)
    refine VL.stepD rfl rfl (by decide) (OE.moveV (v := .int .i64 0) rfl ?_)
    refine VL.nil ?_
    change VC _ _ _ _ _ _ _
    refine VC.block ?_
    obtain ⟨Inv, ⟨m0, h0⟩, H⟩ := H
    refine VC.loop (fun ds f h23 m => ds = [] ∧ ∃ j22 : Int, f 5 = (.int .i64 y11 : Value) ∧ f 6 = (.slice y18A y18n y18c : Value) ∧ f 26 = (.slice x20A x20n x20c : Value) ∧ f 27 = (.int .i64 ((x20n : Nat) : Int) : Value) ∧ f 28 = (.int .i64 j22 : Value) ∧ Inv j22 h23 m) (m0 := m0) ⟨rfl, 0, rfl, rfl, rfl, rfl, rfl, h0⟩ ?_
    intro ds f h23 m I
    obtain ⟨rfl, j22, hk5, hk6, hk26, hk27, hk28, I⟩ := I
    rw [← fr_self f [(5, .int .i64 y11), (6, .slice y18A y18n y18c), (26, .slice x20A x20n x20c), (27, .int .i64 ((x20n : Nat) : Int)), (28, .int .i64 j22)] (by simp only [List.mem_cons, List.not_mem_nil, or_false]; rintro p (rfl | rfl | rfl | rfl | rfl) <;> assumption)]
    obtain ⟨C24, eC24⟩ : ∃ C24 : Int → Hp → Prop, C24 = (fun j22 h23 => ∃ m1, m1 < m ∧ Inv j22 h23 m1) := ⟨_, rfl⟩
    have H : D_disk_Disk_left.L2 R  y11 y18A y18n y18c x20A x20n C24 j22 h23 := by rw [eC24]; exact H j22 h23 m I
    unfold D_disk_Disk_left.L2 at H
    refine VC.seq ?_
    refine VC.region ?_
    refine VL.stepD rfl rfl (by decide) (OE.binI (v := .bool (decide (j22 < ((x20n : Nat) : Int)))) rfl rfl rfl ?_)
    refine VL.nil ?_
    change VC _ _ _ _ _ _ _
    refine VC.seq ?_
    refine VC.cond (t := (decide (j22 < ((x20n : Nat) : Int)))) rfl (fun e25 => ?_) (fun e25 => ?_)
    · have H := H.1 e25
      refine VC.skip ?_
      change VC _ _ _ _ _ _ _
      refine VC.seqJ (fun f h26 => f 5 = (.int .i64 y11 : Value) ∧ f 6 = (.slice y18A y18n y18c : Value) ∧ f 26 = (.slice x20A x20n x20c : Value) ∧ f 27 = (.int .i64 ((x20n : Nat) : Int) : Value) ∧ f 28 = (.int .i64 j22 : Value) ∧ D_disk_Disk_left.J3 R C24 j22  h26) ?_ ?_
      · intro f h26 J
        obtain ⟨hk5, hk6, hk26, hk27, hk28, H⟩ := J
        rw [← fr_self f [(5, .int .i64 y11), (6, .slice y18A y18n y18c), (26, .slice x20A x20n x20c), (27, .int .i64 ((x20n : Nat) : Int)), (28, .int .i64 j22)] (by simp only [List.mem_cons, List.not_mem_nil, or_false]; rintro p (rfl | rfl | rfl | rfl | rfl) <;> assumption)]
        unfold D_disk_Disk_left.J3 at H
        refine VC.region ?_
        refine VL.stepD rfl rfl (by decide) (OE.binI (v := .int .i64 (IntKind.i64.wrap (j22 + 1))) rfl rfl rfl ?_)
        refine VL.stepD rfl rfl (by decide) (OE.moveV (v := .int .i64 (IntKind.i64.wrap (j22 + 1))) rfl ?_)
        refine VL.nil ?_
        rw [eC24] at H
        obtain ⟨m1, hm1, H⟩ := H
        exact ⟨m1, hm1, rfl, (IntKind.i64.wrap (j22 + 1)), rfl, rfl, rfl, rfl, rfl, H⟩
      · skip
        refine VC.block ?_
        refine VC.seq ?_
        refine VC.region ?_
        obtain ⟨a27, e28, z29, z30, H⟩ := H
        refine VL.stepD rfl rfl (by decide) (OE.indexAddrI (sz := 1) rfl rfl Tryz.underlying44 Tryz.i3 e28 z29 z30 ?_)
        obtain ⟨x31, hl32, H⟩ := H
        refine VL.stepD rfl rfl (by decide) (OE.load (a := (a27.add (Int.toNat j22 * 1))) (v := .int .i64 x31) rfl (LdT.one Tryz.underlying3 rfl hl32) ?_)
        refine VL.stepD rfl rfl (by decide) (OE.assignV (v := .int .i64 x31) rfl ?_)
        refine VL.nil ?_
        change VC _ _ _ _ _ _ _
        refine VC.seq ?_
        refine VC.region ?_
        refine VL.stepD rfl rfl (by decide) (OE.moveV (v := .int .i64 y11) rfl ?_)
        refine VL.stepD rfl rfl (by decide) (OE.binI (v := .bool (decide (y11 > 0))) rfl rfl rfl ?_)
        refine VL.nil ?_
        change VC _ _ _ _ _ _ _
        refine VC.cond (t := (decide (y11 > 0))) rfl (fun e33 => ?_) (fun e33 => ?_)
        · have H := H.1 e33
          refine VC.region ?_
          refine VL.stepD rfl rfl (by decide) (OE.moveV (v := .slice y18A y18n y18c) rfl ?_)
          refine VL.stepD rfl rfl (by decide) (OE.moveV (v := .int .i64 x31) rfl ?_)
          refine VL.stepD rfl rfl (by decide) (OE.moveV (v := .int .i64 y11) rfl ?_)
          refine VL.stepD rfl rfl (by decide) (OE.callL (args := [.int .i64 x31, .int .i64 y11]) Tryz.func65 rfl Tryz.nn65 rfl rfl (CHE.mono H (fun r34 h35 H => ?_) (fun _ _ e => e.elim)))
          obtain ⟨y36, rfl, H⟩ := H
          refine VL.stepD rfl rfl (by decide) (OE.buildV (ps := []) rfl (Tryz.bf21) ?_)
          obtain ⟨a37, e38, z39, z40, H⟩ := H
          refine VL.stepD rfl rfl (by decide) (OE.indexAddrI (sz := 3) rfl rfl Tryz.underlying102 Tryz.i107 e38 z39 z40 ?_)
          obtain ⟨hw42, H⟩ := H
          obtain ⟨h41, eh43⟩ : ∃ h41, h41 = setRow h35 (a37.add (Int.toNat y36 * 3)) [.string ByteArray.empty, .string ByteArray.empty, .int .i64 0] 0 := ⟨_, rfl⟩
          have H := H h41 eh43
          refine VL.stepN rfl rfl (OE.storeE (a := (a37.add (Int.toNat y36 * 3))) (v := .agg #[.string ByteArray.empty, .string ByteArray.empty, .int .i64 0]) rfl rfl (StT.aggI (vs := [.string ByteArray.empty, .string ByteArray.empty, .int .i64 0]) Tryz.i107 rfl hw42 (by simp [oneC])) eh43 ?_)
          refine VL.nil ?_
          exact ⟨rfl, rfl, rfl, rfl, rfl, rfl, H⟩
        · have H := H.2 e33
          refine VC.skip ?_
          exact ⟨rfl, rfl, rfl, rfl, rfl, rfl, H⟩
    · have H := H.2 e25
      refine VC.exit ?_
      exact ⟨rfl, rfl, H⟩

def D_disk_told.J1 (R : Value → Hp → Prop)   (j1A : Option Addr) (j1n : Nat) (j1c : Nat) (h2 : Hp) : Prop :=
  R (.slice j1A j1n j1c) h2
def D_disk_told.L2 (R : Value → Hp → Prop)  (names : Option Nat) (bytes : Value) (y8A : Option Addr) (y8n : Nat) (C12 : Option Addr → Nat → Nat → Int → Hp → Prop) (j9A : Option Addr) (j9n : Nat) (j9c : Nat) (j10 : Int) (h11 : Hp) : Prop :=
  (((decide (j10 < ((y8n : Nat) : Int))) = true → (∃ a14 : Addr, y8A = some a14 ∧ (0 : Int) ≤ j10 ∧ j10 < (y8n : Int) ∧ (∃ x18 : ByteArray, cell h11 (a14.add (Int.toNat j10 * 1)) = some (.string x18) ∧ (∃ x20 : Int, MLk Tryz.prog 101 h11 (.map names) (.string x18) false (.int .i64 x20) ∧ CHV Tryz.prog bytes [.int .i64 x20] h11 (fun r22 h23 => ∃ y24A : Option Addr, ∃ y24n : Nat, ∃ y24c : Nat, r22 = .slice y24A y24n y24c ∧ (∀ b26 h25, b26 = Array.size h23 → h25 = Array.push h23 (.cells #[.string x18, .slice y24A y24n y24c] 61) → (∃ vs27 : List Value, Src h25 (1 * 2) vs27 (some (Addr.mk b26 0 none)) ∧ (∀ v ∈ vs27, oneC v = true) ∧ (j9n + 1) * 40 ≤ 140737488355328 ∧ j9n + 1 ≤ 9223372036854775807 ∧ AppendV 61 (.agg #[.string ByteArray.empty, .slice none 0 0] : Value) 2 h25 j9A j9n j9c 1 vs27 (fun A32 n33 c34 h35 => C12 A32 n33 c34 (IntKind.i64.wrap (j10 + 1)) h35)))))))) ∧ ((decide (j10 < ((y8n : Nat) : Int))) = false → D_disk_told.J1 R   j9A j9n j9c h11))
def D_disk_told (R : Value → Hp → Prop) (names : Option Nat) (bytes : Value) (h : Hp) : Prop :=
  CH Tryz.prog 85 #[.map names] h (fun r3 h4 => CH Tryz.prog 84 #[r3] h4 (fun r6 h7 => ∃ y8A : Option Addr, ∃ y8n : Nat, ∃ y8c : Nat, r6 = .slice y8A y8n y8c ∧ (∃ Inv : Option Addr → Nat → Nat → Int → Hp → Nat → Prop, (∃ m, Inv none 0 0 0 h7 m) ∧ ∀ j9A j9n j9c j10 h11 m, Inv j9A j9n j9c j10 h11 m → D_disk_told.L2 R  names bytes y8A y8n (fun j9A j9n j9c j10 h11 => ∃ m1, m1 < m ∧ Inv j9A j9n j9c j10 h11 m1) j9A j9n j9c j10 h11)))
set_option maxRecDepth 10000 in
set_option maxHeartbeats 4000000 in
theorem D_disk_told.sound {R : Value → Hp → Prop} {names : Option Nat} {bytes : Value} {h : Hp} (H : D_disk_told R  names bytes h) : CH Tryz.prog 70 #[.map names, bytes] h R := by
  refine CHE.enter (n := 28) Tryz.func70 rfl rfl (Nat.le_of_ble_eq_true rfl) ?_
  unfold D_disk_told at H
  refine VC.seq ?_
  refine VC.region ?_
  refine VL.stepD rfl rfl (by decide) (OE.assignV (v := .slice none 0 0) rfl ?_)
  refine VL.nil ?_
  change VC _ _ _ _ _ _ _
  refine VC.seq ?_
  refine VC.region ?_
  refine VL.stepD rfl rfl (by decide) (OE.assignV (v := .slice none 0 0) rfl ?_)
  refine VL.nil ?_
  change VC _ _ _ _ _ _ _
  refine VC.seqJ (fun f h2 => ∃ j1A : Option Addr, ∃ j1n : Nat, ∃ j1c : Nat, f 5 = (.slice j1A j1n j1c : Value) ∧ D_disk_told.J1 R   j1A j1n j1c h2) ?_ ?_
  · intro f h2 J
    obtain ⟨j1A, j1n, j1c, hk5, H⟩ := J
    rw [← fr_self f [(5, .slice j1A j1n j1c)] (by simp only [List.mem_cons, List.not_mem_nil, or_false]; rintro p (rfl) <;> assumption)]
    unfold D_disk_told.J1 at H
    refine VC.seq ?_
    refine VC.region ?_
    refine VL.stepD rfl rfl (by decide) (OE.moveV (v := .slice j1A j1n j1c) rfl ?_)
    refine VL.stepD rfl rfl (by decide) (OE.assignV (v := .slice j1A j1n j1c) rfl ?_)
    refine VL.nil ?_
    change VC _ _ _ _ _ _ _
    refine VC.ret ?_
    exact ⟨rfl, _, ResOK.t1 rfl (v := .slice j1A j1n j1c) rfl, H⟩
  · skip
    refine VC.seq ?_
    refine VC.region ?_
    refine VL.stepD rfl rfl (by decide) (OE.moveV (v := .map names) rfl ?_)
    refine VL.stepD rfl rfl (by decide) (OE.callL (args := [.map names]) Tryz.func85 rfl Tryz.nn85 rfl rfl (CHE.mono H (fun r3 h4 H => ?_) (fun _ _ e => e.elim)))
    refine VL.stepD rfl rfl (by decide) (OE.callL (args := [r3]) Tryz.func84 rfl Tryz.nn84 rfl rfl (CHE.mono H (fun r6 h7 H => ?_) (fun _ _ e => e.elim)))
    obtain ⟨y8A, y8n, y8c, rfl, H⟩ := H
    refine VL.stepD rfl rfl (by decide) (OE.lenSlice rfl Tryz.underlying71 ?_)
    refine VL.stepD rfl rfl (by decide) (OE.moveV (v := .int .i64 0) rfl ?_)
    refine VL.nil ?_
    change VC _ _ _ _ _ _ _
    refine VC.block ?_
    obtain ⟨Inv, ⟨m0, h0⟩, H⟩ := H
    refine VC.loop (fun ds f h11 m => ds = [] ∧ ∃ j9A : Option Addr, ∃ j9n : Nat, ∃ j9c : Nat, ∃ j10 : Int, f 0 = (.map names : Value) ∧ f 1 = (bytes : Value) ∧ f 5 = (.slice j9A j9n j9c : Value) ∧ f 10 = (.slice y8A y8n y8c : Value) ∧ f 11 = (.int .i64 ((y8n : Nat) : Int) : Value) ∧ f 12 = (.int .i64 j10 : Value) ∧ Inv j9A j9n j9c j10 h11 m) (m0 := m0) ⟨rfl, none, 0, 0, 0, rfl, rfl, rfl, rfl, rfl, rfl, h0⟩ ?_
    intro ds f h11 m I
    obtain ⟨rfl, j9A, j9n, j9c, j10, hk0, hk1, hk5, hk10, hk11, hk12, I⟩ := I
    rw [← fr_self f [(0, .map names), (1, bytes), (5, .slice j9A j9n j9c), (10, .slice y8A y8n y8c), (11, .int .i64 ((y8n : Nat) : Int)), (12, .int .i64 j10)] (by simp only [List.mem_cons, List.not_mem_nil, or_false]; rintro p (rfl | rfl | rfl | rfl | rfl | rfl) <;> assumption)]
    obtain ⟨C12, eC12⟩ : ∃ C12 : Option Addr → Nat → Nat → Int → Hp → Prop, C12 = (fun j9A j9n j9c j10 h11 => ∃ m1, m1 < m ∧ Inv j9A j9n j9c j10 h11 m1) := ⟨_, rfl⟩
    have H : D_disk_told.L2 R  names bytes y8A y8n C12 j9A j9n j9c j10 h11 := by rw [eC12]; exact H j9A j9n j9c j10 h11 m I
    unfold D_disk_told.L2 at H
    refine VC.seq ?_
    refine VC.region ?_
    refine VL.stepD rfl rfl (by decide) (OE.binI (v := .bool (decide (j10 < ((y8n : Nat) : Int)))) rfl rfl rfl ?_)
    refine VL.nil ?_
    change VC _ _ _ _ _ _ _
    refine VC.seq ?_
    refine VC.cond (t := (decide (j10 < ((y8n : Nat) : Int)))) rfl (fun e13 => ?_) (fun e13 => ?_)
    · have H := H.1 e13
      refine VC.skip ?_
      change VC _ _ _ _ _ _ _
      refine VC.seq ?_
      refine VC.block ?_
      refine VC.seq ?_
      refine VC.region ?_
      obtain ⟨a14, e15, z16, z17, H⟩ := H
      refine VL.stepD rfl rfl (by decide) (OE.indexAddrI (sz := 1) rfl rfl Tryz.underlying71 Tryz.i9 e15 z16 z17 ?_)
      obtain ⟨x18, hl19, H⟩ := H
      refine VL.stepD rfl rfl (by decide) (OE.load (a := (a14.add (Int.toNat j10 * 1))) (v := .string x18) rfl (LdT.one Tryz.underlying9 rfl hl19) ?_)
      refine VL.stepD rfl rfl (by decide) (OE.assignV (v := .string x18) rfl ?_)
      refine VL.nil ?_
      change VC _ _ _ _ _ _ _
      refine VC.region ?_
      refine VL.stepD rfl rfl (by decide) (OE.moveV (v := .slice j9A j9n j9c) rfl ?_)
      refine VL.stepD rfl rfl (by decide) (OE.moveV (v := .string x18) rfl ?_)
      refine VL.stepD rfl rfl (by decide) (OE.moveV (v := bytes) rfl ?_)
      refine VL.stepD rfl rfl (by decide) (OE.moveV (v := .map names) rfl ?_)
      refine VL.stepD rfl rfl (by decide) (OE.moveV (v := .string x18) rfl ?_)
      obtain ⟨x20, hl21, H⟩ := H
      refine VL.stepD rfl rfl (by decide) (OE.lookup (m := .map names) (k := .string x18) rfl rfl hl21 ?_)
      refine VL.stepD rfl rfl (by decide) (OE.callV (l := [.int .i64 x20]) rfl rfl (CHV.mono H (fun r22 h23 H => ?_)))
      obtain ⟨y24A, y24n, y24c, rfl, H⟩ := H
      refine VL.stepD rfl rfl (by decide) (OE.buildV (ps := [(0, (.string x18 : Value)), (1, (.slice y24A y24n y24c : Value))]) rfl (Tryz.bf22 _ _ _ _) ?_)
      obtain ⟨b26, eb36⟩ : ∃ b26, b26 = Array.size h23 := ⟨_, rfl⟩
      obtain ⟨h25, eh37⟩ : ∃ h25, h25 = Array.push h23 (.cells #[.string x18, .slice y24A y24n y24c] 61) := ⟨_, rfl⟩
      have H := H b26 h25 eb36 eh37
      refine VL.stepD rfl rfl (by decide) (OE.buildSliceE (ps := [(0, (.agg #[.string x18, .slice y24A y24n y24c] : Value))]) (cells := #[.string x18, .slice y24A y24n y24c]) (e := 61) rfl (Tryz.bf23 _ _ _ _) eb36 eh37 ?_)
      obtain ⟨vs27, z28, z29, z30, z31, H⟩ := H
      refine VL.stepD rfl rfl (by decide) (OE.appendV (z := (.agg #[.string ByteArray.empty, .slice none 0 0] : Value)) (sz := 2) (bs := 40) rfl rfl Tryz.underlying42 Tryz.i61 z28 z29 z30 z31 (AppendV.mono H (fun A32 n33 c34 h35 H => ?_)))
      refine VL.stepD rfl rfl (by decide) (OE.assignV (v := .slice A32 n33 c34) rfl ?_)
      refine VL.nil ?_
      change VC _ _ _ _ _ _ _
      refine VC.region ?_
      refine VL.stepD rfl rfl (by decide) (OE.binI (v := .int .i64 (IntKind.i64.wrap (j10 + 1))) rfl rfl rfl ?_)
      refine VL.stepD rfl rfl (by decide) (OE.moveV (v := .int .i64 (IntKind.i64.wrap (j10 + 1))) rfl ?_)
      refine VL.nil ?_
      rw [eC12] at H
      obtain ⟨m1, hm1, H⟩ := H
      exact ⟨m1, hm1, rfl, A32, n33, c34, (IntKind.i64.wrap (j10 + 1)), rfl, rfl, rfl, rfl, rfl, rfl, H⟩
    · have H := H.2 e13
      refine VC.exit ?_
      exact ⟨rfl, j9A, j9n, j9c, rfl, H⟩

def D_disk_Disk_Crash_1 (R : Value → Hp → Prop) (id : Int) (c0 : Addr) (h : Hp) : Prop :=
  (∃ x1 : Option Nat, cell h c0 = some (.map x1) ∧ (∃ x3A : Option Addr, ∃ x3n : Nat, ∃ x3c : Nat, MLk Tryz.prog 125 h (.map x1) (.int .i64 id) false (.slice x3A x3n x3c) ∧ R (.slice x3A x3n x3c) h))
set_option maxRecDepth 10000 in
set_option maxHeartbeats 4000000 in
theorem D_disk_Disk_Crash_1.sound {R : Value → Hp → Prop} {id : Int} {c0 : Addr} {h : Hp} (H : D_disk_Disk_Crash_1 R  id c0 h) : CH Tryz.prog 71 #[.int .i64 id, .pointer (some c0)] h R := by
  refine CHE.enter (n := 7) Tryz.func71 rfl rfl (Nat.le_of_ble_eq_true rfl) ?_
  unfold D_disk_Disk_Crash_1 at H
  refine VC.seq ?_
  refine VC.region ?_
  refine VL.stepD rfl rfl (by decide) (OE.assignV (v := .slice none 0 0) rfl ?_)
  refine VL.nil ?_
  change VC _ _ _ _ _ _ _
  refine VC.seq ?_
  refine VC.region ?_
  obtain ⟨x1, hl2, H⟩ := H
  refine VL.stepD rfl rfl (by decide) (OE.load (a := c0) (v := .map x1) rfl (LdT.one Tryz.underlying125 rfl hl2) ?_)
  refine VL.stepD rfl rfl (by decide) (OE.moveV (v := .int .i64 id) rfl ?_)
  obtain ⟨x3A, x3n, x3c, hl4, H⟩ := H
  refine VL.stepD rfl rfl (by decide) (OE.lookup (m := .map x1) (k := .int .i64 id) rfl rfl hl4 ?_)
  refine VL.stepD rfl rfl (by decide) (OE.assignV (v := .slice x3A x3n x3c) rfl ?_)
  refine VL.nil ?_
  change VC _ _ _ _ _ _ _
  refine VC.ret ?_
  exact ⟨rfl, _, ResOK.t1 rfl (v := .slice x3A x3n x3c) rfl, H⟩


def D_disk_Disk_Rename_1.J1 (R : Value → Hp → Prop)  (y7_1 : Int) (j8 : Bool) (h9 : Hp) : Prop :=
  ((j8 = true → R (.int .i64 5) h9) ∧ (j8 = false → R (.int .i64 y7_1) h9))
def D_disk_Disk_Rename_1 (R : Value → Hp → Prop) (c0 : Addr) (c1 : Addr) (c2 : Addr) (h : Hp) : Prop :=
  (∃ x1 : Option Addr, cell h c0 = some (.pointer x1) ∧ (∃ x3 : ByteArray, cell h c1 = some (.string x3) ∧ CH Tryz.prog 41 #[.pointer x1, .string x3] h (fun r5 h6 => ∃ y7_0 : Option Addr, ∃ y7_1 : Int, r5 = .tuple #[.pointer y7_0, .int .i64 y7_1] ∧ (((y7_1 != 5) = true → (∃ x12 : ByteArray, cell h6 c2 = some (.string x12) ∧ CH Tryz.prog 82 #[.string x12] h6 (fun r14 h15 => ∃ y16 : Bool, r14 = .bool y16 ∧ D_disk_Disk_Rename_1.J1 R  y7_1 (!y16) h15))) ∧ ((y7_1 != 5) = false → D_disk_Disk_Rename_1.J1 R  y7_1 false h6)))))
set_option maxRecDepth 10000 in
set_option maxHeartbeats 4000000 in
theorem D_disk_Disk_Rename_1.sound {R : Value → Hp → Prop} {c0 : Addr} {c1 : Addr} {c2 : Addr} {h : Hp} (H : D_disk_Disk_Rename_1 R  c0 c1 c2 h) : CH Tryz.prog 81 #[.pointer (some c0), .pointer (some c1), .pointer (some c2)] h R := by
  refine CHE.enter (n := 20) Tryz.func81 rfl rfl (Nat.le_of_ble_eq_true rfl) ?_
  unfold D_disk_Disk_Rename_1 at H
  refine VC.seq ?_
  refine VC.region ?_
  refine VL.stepD rfl rfl (by decide) (OE.assignV (v := .int .i64 0) rfl ?_)
  refine VL.nil ?_
  change VC _ _ _ _ _ _ _
  refine VC.seq ?_
  refine VC.region ?_
  obtain ⟨x1, hl2, H⟩ := H
  refine VL.stepD rfl rfl (by decide) (OE.load (a := c0) (v := .pointer x1) rfl (LdT.one Tryz.underlying24 rfl hl2) ?_)
  obtain ⟨x3, hl4, H⟩ := H
  refine VL.stepD rfl rfl (by decide) (OE.load (a := c1) (v := .string x3) rfl (LdT.one Tryz.underlying9 rfl hl4) ?_)
  refine VL.stepD rfl rfl (by decide) (OE.callL (args := [.pointer x1, .string x3]) Tryz.func41 rfl Tryz.nn41 rfl rfl (CHE.mono H (fun r5 h6 H => ?_) (fun _ _ e => e.elim)))
  obtain ⟨y7_0, y7_1, rfl, H⟩ := H
  refine VL.stepD rfl rfl (by decide) (OE.moveV (v := .tuple #[.pointer y7_0, .int .i64 y7_1]) rfl ?_)
  refine VL.stepD rfl rfl (by decide) (OE.extract (v := .pointer y7_0) rfl rfl ?_)
  refine VL.stepD rfl rfl (by decide) (OE.extract (v := .int .i64 y7_1) rfl rfl ?_)
  refine VL.stepD rfl rfl (by decide) (OE.assignV (v := .pointer y7_0) rfl ?_)
  refine VL.stepD rfl rfl (by decide) (OE.assignV (v := .int .i64 y7_1) rfl ?_)
  refine VL.nil ?_
  change VC _ _ _ _ _ _ _
  refine VC.seq ?_
  refine VC.seqJ (fun f h9 => ∃ j8 : Bool, f 5 = (.int .i64 y7_1 : Value) ∧ f 18 = (.bool j8 : Value) ∧ D_disk_Disk_Rename_1.J1 R  y7_1 j8 h9) ?_ ?_
  · intro f h9 J
    obtain ⟨j8, hk5, hk18, H⟩ := J
    rw [← fr_self f [(5, .int .i64 y7_1), (18, .bool j8)] (by simp only [List.mem_cons, List.not_mem_nil, or_false]; rintro p (rfl | rfl) <;> assumption)]
    unfold D_disk_Disk_Rename_1.J1 at H
    refine VC.cond (t := j8) rfl (fun e10 => ?_) (fun e10 => ?_)
    · have H := H.1 e10
      refine VC.seq ?_
      refine VC.region ?_
      refine VL.stepD rfl rfl (by decide) (OE.assignV (v := .int .i64 5) rfl ?_)
      refine VL.nil ?_
      change VC _ _ _ _ _ _ _
      refine VC.ret ?_
      exact ⟨rfl, _, ResOK.t1 rfl (v := .int .i64 5) rfl, H⟩
    · have H := H.2 e10
      refine VC.skip ?_
      change VC _ _ _ _ _ _ _
      refine VC.seq ?_
      refine VC.region ?_
      refine VL.stepD rfl rfl (by decide) (OE.moveV (v := .int .i64 y7_1) rfl ?_)
      refine VL.stepD rfl rfl (by decide) (OE.assignV (v := .int .i64 y7_1) rfl ?_)
      refine VL.nil ?_
      change VC _ _ _ _ _ _ _
      refine VC.ret ?_
      exact ⟨rfl, _, ResOK.t1 rfl (v := .int .i64 y7_1) rfl, H⟩
  · skip
    refine VC.region ?_
    refine VL.stepD rfl rfl (by decide) (OE.moveV (v := .int .i64 y7_1) rfl ?_)
    refine VL.stepD rfl rfl (by decide) (OE.binI (v := .bool (y7_1 != 5)) rfl rfl rfl ?_)
    refine VL.stepD rfl rfl (by decide) (OE.moveV (v := .bool (y7_1 != 5)) rfl ?_)
    refine boolSplit ((y7_1 != 5)) (fun e11 => ?_) (fun e11 => ?_)
    · have H := H.1 e11
      obtain ⟨x12, hl13, H⟩ := H
      refine VL.gstepD rfl rfl (by decide) (congrArg Value.bool e11) rfl (by decide) (OE.load (a := c2) (v := .string x12) rfl (LdT.one Tryz.underlying9 rfl hl13) ?_)
      refine VL.gstepD rfl rfl (by decide) (congrArg Value.bool e11) rfl (by decide) (OE.callL (args := [.string x12]) Tryz.func82 rfl Tryz.nn82 rfl rfl (CHE.mono H (fun r14 h15 H => ?_) (fun _ _ e => e.elim)))
      obtain ⟨y16, rfl, H⟩ := H
      refine VL.gstepD rfl rfl (by decide) (congrArg Value.bool e11) rfl (by decide) (OE.not rfl ?_)
      refine VL.stepD rfl rfl (by decide) (OE.pickV (t := true) (v := .bool (!y16)) (congrArg Value.bool e11) rfl ?_)
      refine VL.nil ?_
      exact ⟨rfl, (!y16), rfl, rfl, H⟩
    · have H := H.2 e11
      refine VL.gskipD rfl rfl (by decide) (.inl (congrArg Value.bool e11)) rfl (by decide) ?_
      refine VL.gskipD rfl rfl (by decide) (.inl (congrArg Value.bool e11)) rfl (by decide) ?_
      refine VL.gskipD rfl rfl (by decide) (.inl (congrArg Value.bool e11)) rfl (by decide) ?_
      refine VL.stepD rfl rfl (by decide) (OE.pickV (t := false) (v := .bool false) (congrArg Value.bool e11) rfl ?_)
      refine VL.nil ?_
      exact ⟨rfl, false, rfl, rfl, H⟩

def D_disk_named.J2 (R : Value → Hp → Prop)    (h4 : Hp) : Prop :=
  R (.bool true) h4
def D_disk_named.J4 (R : Value → Hp → Prop) (C7 : Int → Hp → Prop) (j5 : Int) (j9 : Bool) (h10 : Hp) : Prop :=
  ((j9 = true → R (.bool false) h10) ∧ (j9 = false → C7 (IntKind.i64.wrap (j5 + 1)) h10))
def D_disk_named.L3 (R : Value → Hp → Prop)  (s : ByteArray) (C7 : Int → Hp → Prop) (j5 : Int) (h6 : Hp) : Prop :=
  (((decide (j5 < ((ByteArray.size s : Nat) : Int))) = true → ((0 : Int) ≤ j5 ∧ ∃ x12 : UInt8, s[Int.toNat j5]? = some x12 ∧ (((decide ((x12.toNat : Int) < 33)) = true → D_disk_named.J4 R C7 j5 true h6) ∧ ((decide ((x12.toNat : Int) < 33)) = false → ((0 : Int) ≤ j5 ∧ ∃ x16 : UInt8, s[Int.toNat j5]? = some x16 ∧ D_disk_named.J4 R C7 j5 (decide ((x16.toNat : Int) > 126)) h6))))) ∧ ((decide (j5 < ((ByteArray.size s : Nat) : Int))) = false → D_disk_named.J2 R    h6))
def D_disk_named.J1 (R : Value → Hp → Prop)  (s : ByteArray) (j1 : Bool) (h2 : Hp) : Prop :=
  ((j1 = true → R (.bool false) h2) ∧ (j1 = false → (∃ Inv : Int → Hp → Nat → Prop, (∃ m, Inv 0 h2 m) ∧ ∀ j5 h6 m, Inv j5 h6 m → D_disk_named.L3 R  s (fun j5 h6 => ∃ m1, m1 < m ∧ Inv j5 h6 m1) j5 h6)))
def D_disk_named (R : Value → Hp → Prop) (s : ByteArray) (h : Hp) : Prop :=
  (((((ByteArray.size s : Nat) : Int) == 0) = true → D_disk_named.J1 R  s true h) ∧ ((((ByteArray.size s : Nat) : Int) == 0) = false → D_disk_named.J1 R  s (decide (((ByteArray.size s : Nat) : Int) > 40)) h))
set_option maxRecDepth 10000 in
set_option maxHeartbeats 4000000 in
theorem D_disk_named.sound {R : Value → Hp → Prop} {s : ByteArray} {h : Hp} (H : D_disk_named R  s h) : CH Tryz.prog 82 #[.string s] h R := by
  refine CHE.enter (n := 28) Tryz.func82 rfl rfl (Nat.le_of_ble_eq_true rfl) ?_
  unfold D_disk_named at H
  refine VC.seq ?_
  refine VC.region ?_
  refine VL.stepD rfl rfl (by decide) (OE.assignV (v := .bool false) rfl ?_)
  refine VL.nil ?_
  change VC _ _ _ _ _ _ _
  refine VC.seq ?_
  refine VC.seqJ (fun f h2 => ∃ j1 : Bool, f 0 = (.string s : Value) ∧ f 11 = (.bool j1 : Value) ∧ D_disk_named.J1 R  s j1 h2) ?_ ?_
  · intro f h2 J
    obtain ⟨j1, hk0, hk11, H⟩ := J
    rw [← fr_self f [(0, .string s), (11, .bool j1)] (by simp only [List.mem_cons, List.not_mem_nil, or_false]; rintro p (rfl | rfl) <;> assumption)]
    unfold D_disk_named.J1 at H
    refine VC.cond (t := j1) rfl (fun e3 => ?_) (fun e3 => ?_)
    · have H := H.1 e3
      refine VC.seq ?_
      refine VC.region ?_
      refine VL.stepD rfl rfl (by decide) (OE.assignV (v := .bool false) rfl ?_)
      refine VL.nil ?_
      change VC _ _ _ _ _ _ _
      refine VC.ret ?_
      exact ⟨rfl, _, ResOK.t1 rfl (v := .bool false) rfl, H⟩
    · have H := H.2 e3
      refine VC.skip ?_
      change VC _ _ _ _ _ _ _
      refine VC.seqJ (fun f h4 => D_disk_named.J2 R    h4) ?_ ?_
      · intro f h4 J
        have H := J
        skip
        unfold D_disk_named.J2 at H
        refine VC.seq ?_
        refine VC.region ?_
        refine VL.stepD rfl rfl (by decide) (OE.assignV (v := .bool true) rfl ?_)
        refine VL.nil ?_
        change VC _ _ _ _ _ _ _
        refine VC.ret ?_
        exact ⟨rfl, _, ResOK.t1 rfl (v := .bool true) rfl, H⟩
      · skip
        refine VC.seq ?_
        refine VC.region ?_
        refine VL.stepD rfl rfl (by decide) (OE.moveV (v := .string s) rfl ?_)
        refine VL.stepD rfl rfl (by decide) (OE.lenString rfl Tryz.underlying9 ?_)
        refine VL.stepD rfl rfl (by decide) (OE.moveV (v := .int .i64 0) rfl ?_)
        refine VL.nil ?_
        change VC _ _ _ _ _ _ _
        refine VC.block ?_
        obtain ⟨Inv, ⟨m0, h0⟩, H⟩ := H
        refine VC.loop (fun ds f h6 m => ds = [] ∧ ∃ j5 : Int, f 0 = (.string s : Value) ∧ f 13 = (.int .i64 ((ByteArray.size s : Nat) : Int) : Value) ∧ f 14 = (.int .i64 j5 : Value) ∧ Inv j5 h6 m) (m0 := m0) ⟨rfl, 0, rfl, rfl, rfl, h0⟩ ?_
        intro ds f h6 m I
        obtain ⟨rfl, j5, hk0, hk13, hk14, I⟩ := I
        rw [← fr_self f [(0, .string s), (13, .int .i64 ((ByteArray.size s : Nat) : Int)), (14, .int .i64 j5)] (by simp only [List.mem_cons, List.not_mem_nil, or_false]; rintro p (rfl | rfl | rfl) <;> assumption)]
        obtain ⟨C7, eC7⟩ : ∃ C7 : Int → Hp → Prop, C7 = (fun j5 h6 => ∃ m1, m1 < m ∧ Inv j5 h6 m1) := ⟨_, rfl⟩
        have H : D_disk_named.L3 R  s C7 j5 h6 := by rw [eC7]; exact H j5 h6 m I
        unfold D_disk_named.L3 at H
        refine VC.seq ?_
        refine VC.region ?_
        refine VL.stepD rfl rfl (by decide) (OE.binI (v := .bool (decide (j5 < ((ByteArray.size s : Nat) : Int)))) rfl rfl rfl ?_)
        refine VL.nil ?_
        change VC _ _ _ _ _ _ _
        refine VC.seq ?_
        refine VC.cond (t := (decide (j5 < ((ByteArray.size s : Nat) : Int)))) rfl (fun e8 => ?_) (fun e8 => ?_)
        · have H := H.1 e8
          refine VC.skip ?_
          change VC _ _ _ _ _ _ _
          refine VC.seq ?_
          refine VC.block ?_
          refine VC.seq ?_
          refine VC.region ?_
          refine VL.stepD rfl rfl (by decide) (OE.moveV (v := .int .i64 j5) rfl ?_)
          refine VL.stepD rfl rfl (by decide) (OE.assignV (v := .int .i64 j5) rfl ?_)
          refine VL.nil ?_
          change VC _ _ _ _ _ _ _
          refine VC.seqJ (fun f h10 => ∃ j9 : Bool, f 0 = (.string s : Value) ∧ f 13 = (.int .i64 ((ByteArray.size s : Nat) : Int) : Value) ∧ f 14 = (.int .i64 j5 : Value) ∧ f 26 = (.bool j9 : Value) ∧ D_disk_named.J4 R C7 j5 j9 h10) ?_ ?_
          · intro f h10 J
            obtain ⟨j9, hk0, hk13, hk14, hk26, H⟩ := J
            rw [← fr_self f [(0, .string s), (13, .int .i64 ((ByteArray.size s : Nat) : Int)), (14, .int .i64 j5), (26, .bool j9)] (by simp only [List.mem_cons, List.not_mem_nil, or_false]; rintro p (rfl | rfl | rfl | rfl) <;> assumption)]
            unfold D_disk_named.J4 at H
            refine VC.cond (t := j9) rfl (fun e11 => ?_) (fun e11 => ?_)
            · have H := H.1 e11
              refine VC.seq ?_
              refine VC.region ?_
              refine VL.stepD rfl rfl (by decide) (OE.assignV (v := .bool false) rfl ?_)
              refine VL.nil ?_
              change VC _ _ _ _ _ _ _
              refine VC.ret ?_
              exact ⟨rfl, _, ResOK.t1 rfl (v := .bool false) rfl, H⟩
            · have H := H.2 e11
              refine VC.skip ?_
              change VC _ _ _ _ _ _ _
              refine VC.region ?_
              refine VL.stepD rfl rfl (by decide) (OE.binI (v := .int .i64 (IntKind.i64.wrap (j5 + 1))) rfl rfl rfl ?_)
              refine VL.stepD rfl rfl (by decide) (OE.moveV (v := .int .i64 (IntKind.i64.wrap (j5 + 1))) rfl ?_)
              refine VL.nil ?_
              rw [eC7] at H
              obtain ⟨m1, hm1, H⟩ := H
              exact ⟨m1, hm1, rfl, (IntKind.i64.wrap (j5 + 1)), rfl, rfl, rfl, H⟩
          · skip
            refine VC.region ?_
            refine VL.stepD rfl rfl (by decide) (OE.moveV (v := .string s) rfl ?_)
            refine VL.stepD rfl rfl (by decide) (OE.moveV (v := .int .i64 j5) rfl ?_)
            obtain ⟨z14, x12, e13, H⟩ := H
            refine VL.stepD rfl rfl (by decide) (OE.indexStr rfl rfl Tryz.underlying9 z14 e13 ?_)
            refine VL.stepD rfl rfl (by decide) (OE.binI (v := .bool (decide ((x12.toNat : Int) < 33))) rfl rfl rfl ?_)
            refine VL.stepD rfl rfl (by decide) (OE.moveV (v := .bool (decide ((x12.toNat : Int) < 33))) rfl ?_)
            refine boolSplit ((decide ((x12.toNat : Int) < 33))) (fun e15 => ?_) (fun e15 => ?_)
            · have H := H.1 e15
              refine VL.gskipD rfl rfl (by decide) (.inl (congrArg Value.bool e15)) rfl (by decide) ?_
              refine VL.gskipD rfl rfl (by decide) (.inl (congrArg Value.bool e15)) rfl (by decide) ?_
              refine VL.gskipD rfl rfl (by decide) (.inl (congrArg Value.bool e15)) rfl (by decide) ?_
              refine VL.gskipD rfl rfl (by decide) (.inl (congrArg Value.bool e15)) rfl (by decide) ?_
              refine VL.stepD rfl rfl (by decide) (OE.pickV (t := true) (v := .bool true) (congrArg Value.bool e15) rfl ?_)
              refine VL.nil ?_
              exact ⟨rfl, true, rfl, rfl, rfl, rfl, H⟩
            · have H := H.2 e15
              refine VL.gstepD rfl rfl (by decide) (congrArg Value.bool e15) rfl (by decide) (OE.moveV (v := .string s) rfl ?_)
              refine VL.gstepD rfl rfl (by decide) (congrArg Value.bool e15) rfl (by decide) (OE.moveV (v := .int .i64 j5) rfl ?_)
              obtain ⟨z18, x16, e17, H⟩ := H
              refine VL.gstepD rfl rfl (by decide) (congrArg Value.bool e15) rfl (by decide) (OE.indexStr rfl rfl Tryz.underlying9 z18 e17 ?_)
              refine VL.gstepD rfl rfl (by decide) (congrArg Value.bool e15) rfl (by decide) (OE.binI (v := .bool (decide ((x16.toNat : Int) > 126))) rfl rfl rfl ?_)
              refine VL.stepD rfl rfl (by decide) (OE.pickV (t := false) (v := .bool (decide ((x16.toNat : Int) > 126))) (congrArg Value.bool e15) rfl ?_)
              refine VL.nil ?_
              exact ⟨rfl, (decide ((x16.toNat : Int) > 126)), rfl, rfl, rfl, rfl, H⟩
        · have H := H.2 e8
          refine VC.exit ?_
          exact ⟨rfl, H⟩
  · skip
    refine VC.region ?_
    refine VL.stepD rfl rfl (by decide) (OE.moveV (v := .string s) rfl ?_)
    refine VL.stepD rfl rfl (by decide) (OE.lenString rfl Tryz.underlying9 ?_)
    refine VL.stepD rfl rfl (by decide) (OE.binI (v := .bool (((ByteArray.size s : Nat) : Int) == 0)) rfl rfl rfl ?_)
    refine VL.stepD rfl rfl (by decide) (OE.moveV (v := .bool (((ByteArray.size s : Nat) : Int) == 0)) rfl ?_)
    refine boolSplit ((((ByteArray.size s : Nat) : Int) == 0)) (fun e19 => ?_) (fun e19 => ?_)
    · have H := H.1 e19
      refine VL.gskipD rfl rfl (by decide) (.inl (congrArg Value.bool e19)) rfl (by decide) ?_
      refine VL.gskipD rfl rfl (by decide) (.inl (congrArg Value.bool e19)) rfl (by decide) ?_
      refine VL.gskipD rfl rfl (by decide) (.inl (congrArg Value.bool e19)) rfl (by decide) ?_
      refine VL.stepD rfl rfl (by decide) (OE.pickV (t := true) (v := .bool true) (congrArg Value.bool e19) rfl ?_)
      refine VL.nil ?_
      exact ⟨rfl, true, rfl, rfl, H⟩
    · have H := H.2 e19
      refine VL.gstepD rfl rfl (by decide) (congrArg Value.bool e19) rfl (by decide) (OE.moveV (v := .string s) rfl ?_)
      refine VL.gstepD rfl rfl (by decide) (congrArg Value.bool e19) rfl (by decide) (OE.lenString rfl Tryz.underlying9 ?_)
      refine VL.gstepD rfl rfl (by decide) (congrArg Value.bool e19) rfl (by decide) (OE.binI (v := .bool (decide (((ByteArray.size s : Nat) : Int) > 40))) rfl rfl rfl ?_)
      refine VL.stepD rfl rfl (by decide) (OE.pickV (t := false) (v := .bool (decide (((ByteArray.size s : Nat) : Int) > 40))) (congrArg Value.bool e19) rfl ?_)
      refine VL.nil ?_
      exact ⟨rfl, (decide (((ByteArray.size s : Nat) : Int) > 40)), rfl, rfl, H⟩

def D_disk_Disk_Rename_2.J1 (R : Value → Hp → Prop)    (h1 : Hp) : Prop :=
  R (.int .i64 0) h1
def D_disk_Disk_Rename_2 (R : Value → Hp → Prop) (c0 : Addr) (c1 : Addr) (c2 : Addr) (h : Hp) : Prop :=
  (∃ x2 : ByteArray, cell h c0 = some (.string x2) ∧ (∃ x4 : ByteArray, cell h c1 = some (.string x4) ∧ (((!(x2.toList == x4.toList)) = true → (∃ x7 : Option Addr, cell h c2 = some (.pointer x7) ∧ (∃ x9 : Option Addr, cell h c2 = some (.pointer x9) ∧ (∃ a11 : Addr, x9 = some a11 ∧ (∃ x13A : Option Addr, ∃ x13n : Nat, ∃ x13c : Nat, cell h (a11.add 5) = some (.slice x13A x13n x13c) ∧ (∃ x15 : ByteArray, cell h c0 = some (.string x15) ∧ (∃ x17 : ByteArray, cell h c1 = some (.string x17) ∧ (∃ x19 : Option Addr, cell h c2 = some (.pointer x19) ∧ (∃ x21 : ByteArray, cell h c0 = some (.string x21) ∧ CH Tryz.prog 59 #[.pointer x19] h (fun r23 h24 => ∃ y25 : Option Nat, r23 = .map y25 ∧ (cell h24 c2 = some (.pointer x7) ∧ (cell h24 c2 = some (.pointer x9) ∧ (cell h24 (a11.add 5) = some (.slice x13A x13n x13c) ∧ (cell h24 c0 = some (.string x15) ∧ (cell h24 c1 = some (.string x17) ∧ (cell h24 c0 = some (.string x21) ∧ (∃ x32 : Int, MLk Tryz.prog 101 h24 (.map y25) (.string x21) false (.int .i64 x32) ∧ (∀ b35 h34, b35 = Array.size h24 → h34 = Array.push h24 (.cells #[.string x15, .string x17, .int .i64 x32] 107) → (cell h34 c2 = some (.pointer x7) ∧ (cell h34 c2 = some (.pointer x9) ∧ (cell h34 (a11.add 5) = some (.slice x13A x13n x13c) ∧ (∃ vs39 : List Value, Src h34 (1 * 3) vs39 (some (Addr.mk b35 0 none)) ∧ (∀ v ∈ vs39, oneC v = true) ∧ (x13n + 1) * 40 ≤ 140737488355328 ∧ x13n + 1 ≤ 9223372036854775807 ∧ AppendV 107 (.agg #[.string ByteArray.empty, .string ByteArray.empty, .int .i64 0] : Value) 3 h34 x13A x13n x13c 1 vs39 (fun A44 n45 c46 h47 => (cell h47 c2 = some (.pointer x7) ∧ (∃ a49 : Addr, x7 = some a49 ∧ (Wr h47 (a49.add 5) ∧ ∀ h51, h51 = setc h47 (a49.add 5) (.slice A44 n45 c46) → D_disk_Disk_Rename_2.J1 R    h51)))))))))))))))))))))))))) ∧ ((!(x2.toList == x4.toList)) = false → D_disk_Disk_Rename_2.J1 R    h))))
set_option maxRecDepth 10000 in
set_option maxHeartbeats 4000000 in
theorem D_disk_Disk_Rename_2.sound {R : Value → Hp → Prop} {c0 : Addr} {c1 : Addr} {c2 : Addr} {h : Hp} (H : D_disk_Disk_Rename_2 R  c0 c1 c2 h) : CH Tryz.prog 83 #[.pointer (some c0), .pointer (some c1), .pointer (some c2)] h R := by
  refine CHE.enter (n := 23) Tryz.func83 rfl rfl (Nat.le_of_ble_eq_true rfl) ?_
  unfold D_disk_Disk_Rename_2 at H
  refine VC.seq ?_
  refine VC.region ?_
  refine VL.stepD rfl rfl (by decide) (OE.assignV (v := .int .i64 0) rfl ?_)
  refine VL.nil ?_
  change VC _ _ _ _ _ _ _
  refine VC.seqJ (fun f h1 => D_disk_Disk_Rename_2.J1 R    h1) ?_ ?_
  · intro f h1 J
    have H := J
    skip
    unfold D_disk_Disk_Rename_2.J1 at H
    refine VC.seq ?_
    refine VC.region ?_
    refine VL.stepD rfl rfl (by decide) (OE.assignV (v := .int .i64 0) rfl ?_)
    refine VL.nil ?_
    change VC _ _ _ _ _ _ _
    refine VC.ret ?_
    exact ⟨rfl, _, ResOK.t1 rfl (v := .int .i64 0) rfl, H⟩
  · skip
    refine VC.seq ?_
    refine VC.region ?_
    obtain ⟨x2, hl3, H⟩ := H
    refine VL.stepD rfl rfl (by decide) (OE.load (a := c0) (v := .string x2) rfl (LdT.one Tryz.underlying9 rfl hl3) ?_)
    obtain ⟨x4, hl5, H⟩ := H
    refine VL.stepD rfl rfl (by decide) (OE.load (a := c1) (v := .string x4) rfl (LdT.one Tryz.underlying9 rfl hl5) ?_)
    refine VL.stepD rfl rfl (by decide) (OE.binS (v := .bool (!(x2.toList == x4.toList))) rfl rfl rfl ?_)
    refine VL.nil ?_
    change VC _ _ _ _ _ _ _
    refine VC.cond (t := (!(x2.toList == x4.toList))) rfl (fun e6 => ?_) (fun e6 => ?_)
    · have H := H.1 e6
      refine VC.drawsS Tryz.mixed (by kernel_rfl) (by kernel_rfl) (fun st hd => ?_)
      obtain ⟨x7, hl8, H⟩ := H
      refine DW.still (i := 0) (v := .pointer x7) (by kernel_rfl) ?_
      obtain ⟨x9, hl10, H⟩ := H
      refine DW.still (i := 1) (v := .pointer x9) (by kernel_rfl) ?_
      obtain ⟨a11, e12, H⟩ := H
      refine DW.still (i := 2) (v := .pointer (some a11)) (by kernel_rfl) ?_
      refine DW.still (i := 3) (v := .pointer (some (a11.add 5))) (by kernel_rfl) ?_
      obtain ⟨x13A, x13n, x13c, hl14, H⟩ := H
      refine DW.still (i := 4) (v := .slice x13A x13n x13c) (by kernel_rfl) ?_
      obtain ⟨x15, hl16, H⟩ := H
      refine DW.still (i := 5) (v := .string x15) (by kernel_rfl) ?_
      obtain ⟨x17, hl18, H⟩ := H
      refine DW.still (i := 6) (v := .string x17) (by kernel_rfl) ?_
      obtain ⟨x19, hl20, H⟩ := H
      refine DW.still (i := 7) (v := .pointer x19) (by kernel_rfl) ?_
      obtain ⟨x21, hl22, H⟩ := H
      refine DW.still (i := 9) (v := .string x21) (by kernel_rfl) ?_
      refine DW.loudF (fr (fun _ => undef) [(14, (.pointer x19 : Value))]) st hd (i := 8) rfl (by kernel_rfl) (.inl rfl) (by kernel_rfl) ⟨.inr (YD.u (fr (fun _ => undef) [(0, (.pointer (some c0) : Value))]) st rfl rfl (by kernel_rfl) (OE.load (a := c0) (v := .string x21) rfl (LdT.one Tryz.underlying9 rfl hl22) ⟨rfl, rfl⟩)), .inr (YD.u (fr (fun _ => undef) [(2, (.pointer (some c2) : Value))]) st rfl rfl (by kernel_rfl) (OE.load (a := c2) (v := .pointer x19) rfl (LdT.one Tryz.underlying24 rfl hl20) ⟨rfl, rfl⟩)), .inr (YD.u (fr (fun _ => undef) [(1, (.pointer (some c1) : Value))]) st rfl rfl (by kernel_rfl) (OE.load (a := c1) (v := .string x17) rfl (LdT.one Tryz.underlying9 rfl hl18) ⟨rfl, rfl⟩)), .inr (YD.u (fr (fun _ => undef) [(0, (.pointer (some c0) : Value))]) st rfl rfl (by kernel_rfl) (OE.load (a := c0) (v := .string x15) rfl (LdT.one Tryz.underlying9 rfl hl16) ⟨rfl, rfl⟩)), .inr (YD.u (fr (fun _ => undef) [(10, (.pointer (some (a11.add 5)) : Value))]) st rfl rfl (by kernel_rfl) (OE.load (a := (a11.add 5)) (v := .slice x13A x13n x13c) rfl (LdT.one Tryz.underlying102 rfl hl14) ⟨rfl, rfl⟩)), .inr (YD.u (fr (fun _ => undef) [(9, (.pointer (some a11) : Value))]) st rfl rfl (by kernel_rfl) (OE.fieldAddrI (a := a11) (o := 5) rfl Tryz.underlying104 rfl Tryz.i102 (by decide) rfl ⟨rfl, rfl⟩)), .inr (YD.u (fr (fun _ => undef) [(8, (.pointer x9 : Value))]) st rfl rfl (by kernel_rfl) (OE.nilCheck (a := a11) (congrArg Value.pointer e12) ⟨rfl, rfl⟩)), .inr (YD.u (fr (fun _ => undef) [(2, (.pointer (some c2) : Value))]) st rfl rfl (by kernel_rfl) (OE.load (a := c2) (v := .pointer x9) rfl (LdT.one Tryz.underlying24 rfl hl10) ⟨rfl, rfl⟩)), .inr (YD.u (fr (fun _ => undef) [(2, (.pointer (some c2) : Value))]) st rfl rfl (by kernel_rfl) (OE.load (a := c2) (v := .pointer x7) rfl (LdT.one Tryz.underlying24 rfl hl8) ⟨rfl, rfl⟩)), trivial⟩ (OE.callL (args := [.pointer x19]) Tryz.func59 rfl Tryz.nn59 rfl rfl (CHE.mono H (fun r23 h24 H => ?_) (fun _ _ e => e.elim)))
      obtain ⟨y25, rfl, H⟩ := H
      obtain ⟨hs26, hs27, hs28, hs29, hs30, hs31, H⟩ := H
      obtain ⟨x32, hl33, H⟩ := H
      refine DW.still (i := 10) (v := .int .i64 x32) (by kernel_rfl) ?_
      refine DW.still (i := 11) (v := .agg #[.string x15, .string x17, .int .i64 x32]) (by kernel_rfl) ?_
      obtain ⟨b35, eb54⟩ : ∃ b35, b35 = Array.size h24 := ⟨_, rfl⟩
      obtain ⟨h34, eh55⟩ : ∃ h34, h34 = Array.push h24 (.cells #[.string x15, .string x17, .int .i64 x32] 107) := ⟨_, rfl⟩
      have H := H b35 h34 eb54 eh55
      refine DW.loudF (fr (fun _ => undef) [(18, (.agg #[.string x15, .string x17, .int .i64 x32] : Value))]) st hd (i := 12) rfl (by kernel_rfl) (.inl rfl) (by kernel_rfl) ⟨.inr (YD.u (fr (fun _ => undef) [(12, (.string x15 : Value)), (13, (.string x17 : Value)), (17, (.int .i64 x32 : Value))]) st rfl rfl (by kernel_rfl) (OE.buildV (ps := [(0, (.string x15 : Value)), (1, (.string x17 : Value)), (2, (.int .i64 x32 : Value))]) rfl (Tryz.bf24 _ _ _) ⟨rfl, rfl⟩)), .inr (YD.u (fr (fun _ => undef) [(15, (.map y25 : Value)), (16, (.string x21 : Value))]) st rfl rfl (by kernel_rfl) (OE.lookup (m := .map y25) (k := .string x21) rfl rfl hl33 ⟨rfl, rfl⟩)), .inl (by kernel_rfl), .inr (YD.u (fr (fun _ => undef) [(0, (.pointer (some c0) : Value))]) st rfl rfl (by kernel_rfl) (OE.load (a := c0) (v := .string x21) rfl (LdT.one Tryz.underlying9 rfl hs31) ⟨rfl, rfl⟩)), .inl (by kernel_rfl), .inr (YD.u (fr (fun _ => undef) [(1, (.pointer (some c1) : Value))]) st rfl rfl (by kernel_rfl) (OE.load (a := c1) (v := .string x17) rfl (LdT.one Tryz.underlying9 rfl hs30) ⟨rfl, rfl⟩)), .inr (YD.u (fr (fun _ => undef) [(0, (.pointer (some c0) : Value))]) st rfl rfl (by kernel_rfl) (OE.load (a := c0) (v := .string x15) rfl (LdT.one Tryz.underlying9 rfl hs29) ⟨rfl, rfl⟩)), .inr (YD.u (fr (fun _ => undef) [(10, (.pointer (some (a11.add 5)) : Value))]) st rfl rfl (by kernel_rfl) (OE.load (a := (a11.add 5)) (v := .slice x13A x13n x13c) rfl (LdT.one Tryz.underlying102 rfl hs28) ⟨rfl, rfl⟩)), .inr (YD.u (fr (fun _ => undef) [(9, (.pointer (some a11) : Value))]) st rfl rfl (by kernel_rfl) (OE.fieldAddrI (a := a11) (o := 5) rfl Tryz.underlying104 rfl Tryz.i102 (by decide) rfl ⟨rfl, rfl⟩)), .inr (YD.u (fr (fun _ => undef) [(8, (.pointer x9 : Value))]) st rfl rfl (by kernel_rfl) (OE.nilCheck (a := a11) (congrArg Value.pointer e12) ⟨rfl, rfl⟩)), .inr (YD.u (fr (fun _ => undef) [(2, (.pointer (some c2) : Value))]) st rfl rfl (by kernel_rfl) (OE.load (a := c2) (v := .pointer x9) rfl (LdT.one Tryz.underlying24 rfl hs27) ⟨rfl, rfl⟩)), .inr (YD.u (fr (fun _ => undef) [(2, (.pointer (some c2) : Value))]) st rfl rfl (by kernel_rfl) (OE.load (a := c2) (v := .pointer x7) rfl (LdT.one Tryz.underlying24 rfl hs26) ⟨rfl, rfl⟩)), trivial⟩ (OE.buildSliceE (ps := [(0, (.agg #[.string x15, .string x17, .int .i64 x32] : Value))]) (cells := #[.string x15, .string x17, .int .i64 x32]) (e := 107) rfl (Tryz.bf12 _ _ _) eb54 eh55 ?_)
      obtain ⟨hs36, hs37, hs38, H⟩ := H
      obtain ⟨vs39, z40, z41, z42, z43, H⟩ := H
      refine DW.loudF (fr (fun _ => undef) [(11, (.slice x13A x13n x13c : Value)), (19, (.slice (some (Addr.mk b35 0 none)) 1 1 : Value))]) st hd (i := 13) rfl (by kernel_rfl) (.inl rfl) (by kernel_rfl) ⟨.inl (by kernel_rfl), .inl (by kernel_rfl), .inl (by kernel_rfl), .inl (by kernel_rfl), .inl (by kernel_rfl), .inl (by kernel_rfl), .inl (by kernel_rfl), .inl (by kernel_rfl), .inr (YD.u (fr (fun _ => undef) [(10, (.pointer (some (a11.add 5)) : Value))]) st rfl rfl (by kernel_rfl) (OE.load (a := (a11.add 5)) (v := .slice x13A x13n x13c) rfl (LdT.one Tryz.underlying102 rfl hs38) ⟨rfl, rfl⟩)), .inr (YD.u (fr (fun _ => undef) [(9, (.pointer (some a11) : Value))]) st rfl rfl (by kernel_rfl) (OE.fieldAddrI (a := a11) (o := 5) rfl Tryz.underlying104 rfl Tryz.i102 (by decide) rfl ⟨rfl, rfl⟩)), .inr (YD.u (fr (fun _ => undef) [(8, (.pointer x9 : Value))]) st rfl rfl (by kernel_rfl) (OE.nilCheck (a := a11) (congrArg Value.pointer e12) ⟨rfl, rfl⟩)), .inr (YD.u (fr (fun _ => undef) [(2, (.pointer (some c2) : Value))]) st rfl rfl (by kernel_rfl) (OE.load (a := c2) (v := .pointer x9) rfl (LdT.one Tryz.underlying24 rfl hs37) ⟨rfl, rfl⟩)), .inr (YD.u (fr (fun _ => undef) [(2, (.pointer (some c2) : Value))]) st rfl rfl (by kernel_rfl) (OE.load (a := c2) (v := .pointer x7) rfl (LdT.one Tryz.underlying24 rfl hs36) ⟨rfl, rfl⟩)), trivial⟩ (OE.appendV (z := (.agg #[.string ByteArray.empty, .string ByteArray.empty, .int .i64 0] : Value)) (sz := 3) (bs := 40) rfl rfl Tryz.underlying102 Tryz.i107 z40 z41 z42 z43 (AppendV.mono H (fun A44 n45 c46 h47 H => ?_)))
      obtain ⟨hs48, H⟩ := H
      obtain ⟨a49, e50, H⟩ := H
      refine DW.still (i := 14) (v := .pointer (some a49)) (by kernel_rfl) ?_
      refine DW.still (i := 15) (v := .pointer (some (a49.add 5))) (by kernel_rfl) ?_
      obtain ⟨hw52, H⟩ := H
      obtain ⟨h51, eh53⟩ : ∃ h51, h51 = setc h47 (a49.add 5) (.slice A44 n45 c46) := ⟨_, rfl⟩
      have H := H h51 eh53
      refine DW.loudF (fr (fun _ => undef) [(22, (.pointer (some (a49.add 5)) : Value)), (20, (.slice A44 n45 c46 : Value))]) st hd (i := 16) rfl (by kernel_rfl) (.inl rfl) (by kernel_rfl) ⟨.inr (YD.u (fr (fun _ => undef) [(21, (.pointer (some a49) : Value))]) st rfl rfl (by kernel_rfl) (OE.fieldAddrI (a := a49) (o := 5) rfl Tryz.underlying104 rfl Tryz.i102 (by decide) rfl ⟨rfl, rfl⟩)), .inr (YD.u (fr (fun _ => undef) [(7, (.pointer x7 : Value))]) st rfl rfl (by kernel_rfl) (OE.nilCheck (a := a49) (congrArg Value.pointer e50) ⟨rfl, rfl⟩)), .inl (by kernel_rfl), .inl (by kernel_rfl), .inl (by kernel_rfl), .inl (by kernel_rfl), .inl (by kernel_rfl), .inl (by kernel_rfl), .inl (by kernel_rfl), .inl (by kernel_rfl), .inl (by kernel_rfl), .inl (by kernel_rfl), .inl (by kernel_rfl), .inl (by kernel_rfl), .inl (by kernel_rfl), .inr (YD.u (fr (fun _ => undef) [(2, (.pointer (some c2) : Value))]) st rfl rfl (by kernel_rfl) (OE.load (a := c2) (v := .pointer x7) rfl (LdT.one Tryz.underlying24 rfl hs48) ⟨rfl, rfl⟩)), trivial⟩ (OE.storeE (a := (a49.add 5)) (v := .slice A44 n45 c46) rfl rfl (StT.oneI Tryz.i102 hw52 rfl) eh53 ?_)
      refine DW.finL st hd [(7, (.pointer x7 : Value)), (8, (.pointer x9 : Value)), (9, (.pointer (some a11) : Value)), (10, (.pointer (some (a11.add 5)) : Value)), (11, (.slice x13A x13n x13c : Value)), (12, (.string x15 : Value)), (13, (.string x17 : Value)), (14, (.pointer x19 : Value)), (16, (.string x21 : Value)), (15, (.map y25 : Value)), (17, (.int .i64 x32 : Value)), (18, (.agg #[.string x15, .string x17, .int .i64 x32] : Value)), (19, (.slice (some (Addr.mk b35 0 none)) 1 1 : Value)), (20, (.slice A44 n45 c46 : Value)), (21, (.pointer (some a49) : Value)), (22, (.pointer (some (a49.add 5)) : Value))] (by kernel_rfl) (by kernel_rfl) ⟨.inl (by kernel_rfl), .inl (by kernel_rfl), .inl (by kernel_rfl), .inl (by kernel_rfl), .inl (by kernel_rfl), .inl (by kernel_rfl), .inl (by kernel_rfl), .inl (by kernel_rfl), .inl (by kernel_rfl), .inl (by kernel_rfl), .inl (by kernel_rfl), .inl (by kernel_rfl), .inl (by kernel_rfl), .inl (by kernel_rfl), .inl (by kernel_rfl), .inl (by kernel_rfl), .inl (by kernel_rfl), trivial⟩ ?_
      exact ⟨rfl, H⟩
    · have H := H.2 e6
      refine VC.skip ?_
      exact ⟨rfl, H⟩

def D_disk_Disk_Remove_1 (R : Value → Hp → Prop) (c0 : Addr) (c1 : Addr) (h : Hp) : Prop :=
  (∃ x1 : Option Addr, cell h c0 = some (.pointer x1) ∧ (∃ x3 : ByteArray, cell h c1 = some (.string x3) ∧ CH Tryz.prog 41 #[.pointer x1, .string x3] h (fun r5 h6 => ∃ y7_0 : Option Addr, ∃ y7_1 : Int, r5 = .tuple #[.pointer y7_0, .int .i64 y7_1] ∧ R (.int .i64 y7_1) h6)))
set_option maxRecDepth 10000 in
set_option maxHeartbeats 4000000 in
theorem D_disk_Disk_Remove_1.sound {R : Value → Hp → Prop} {c0 : Addr} {c1 : Addr} {h : Hp} (H : D_disk_Disk_Remove_1 R  c0 c1 h) : CH Tryz.prog 86 #[.pointer (some c0), .pointer (some c1)] h R := by
  refine CHE.enter (n := 12) Tryz.func86 rfl rfl (Nat.le_of_ble_eq_true rfl) ?_
  unfold D_disk_Disk_Remove_1 at H
  refine VC.seq ?_
  refine VC.region ?_
  refine VL.stepD rfl rfl (by decide) (OE.assignV (v := .int .i64 0) rfl ?_)
  refine VL.nil ?_
  change VC _ _ _ _ _ _ _
  refine VC.seq ?_
  refine VC.region ?_
  obtain ⟨x1, hl2, H⟩ := H
  refine VL.stepD rfl rfl (by decide) (OE.load (a := c0) (v := .pointer x1) rfl (LdT.one Tryz.underlying24 rfl hl2) ?_)
  obtain ⟨x3, hl4, H⟩ := H
  refine VL.stepD rfl rfl (by decide) (OE.load (a := c1) (v := .string x3) rfl (LdT.one Tryz.underlying9 rfl hl4) ?_)
  refine VL.stepD rfl rfl (by decide) (OE.callL (args := [.pointer x1, .string x3]) Tryz.func41 rfl Tryz.nn41 rfl rfl (CHE.mono H (fun r5 h6 H => ?_) (fun _ _ e => e.elim)))
  obtain ⟨y7_0, y7_1, rfl, H⟩ := H
  refine VL.stepD rfl rfl (by decide) (OE.moveV (v := .tuple #[.pointer y7_0, .int .i64 y7_1]) rfl ?_)
  refine VL.stepD rfl rfl (by decide) (OE.extract (v := .pointer y7_0) rfl rfl ?_)
  refine VL.stepD rfl rfl (by decide) (OE.extract (v := .int .i64 y7_1) rfl rfl ?_)
  refine VL.stepD rfl rfl (by decide) (OE.assignV (v := .pointer y7_0) rfl ?_)
  refine VL.stepD rfl rfl (by decide) (OE.assignV (v := .int .i64 y7_1) rfl ?_)
  refine VL.nil ?_
  change VC _ _ _ _ _ _ _
  refine VC.seq ?_
  refine VC.region ?_
  refine VL.stepD rfl rfl (by decide) (OE.moveV (v := .int .i64 y7_1) rfl ?_)
  refine VL.stepD rfl rfl (by decide) (OE.assignV (v := .int .i64 y7_1) rfl ?_)
  refine VL.nil ?_
  change VC _ _ _ _ _ _ _
  refine VC.ret ?_
  exact ⟨rfl, _, ResOK.t1 rfl (v := .int .i64 y7_1) rfl, H⟩

def D_disk_Disk_Remove_2 (R : Value → Hp → Prop) (c0 : Addr) (c1 : Addr) (h : Hp) : Prop :=
  (∃ x1 : Option Addr, cell h c0 = some (.pointer x1) ∧ (∃ x3 : Option Addr, cell h c0 = some (.pointer x3) ∧ (∃ a5 : Addr, x3 = some a5 ∧ (∃ x7A : Option Addr, ∃ x7n : Nat, ∃ x7c : Nat, cell h (a5.add 5) = some (.slice x7A x7n x7c) ∧ (∃ x9 : ByteArray, cell h c1 = some (.string x9) ∧ (∀ b12 h11, b12 = Array.size h → h11 = Array.push h (.cells #[.string x9, .string ByteArray.empty, .int .i64 0] 107) → (cell h11 c0 = some (.pointer x1) ∧ (cell h11 c0 = some (.pointer x3) ∧ (cell h11 (a5.add 5) = some (.slice x7A x7n x7c) ∧ (∃ vs16 : List Value, Src h11 (1 * 3) vs16 (some (Addr.mk b12 0 none)) ∧ (∀ v ∈ vs16, oneC v = true) ∧ (x7n + 1) * 40 ≤ 140737488355328 ∧ x7n + 1 ≤ 9223372036854775807 ∧ AppendV 107 (.agg #[.string ByteArray.empty, .string ByteArray.empty, .int .i64 0] : Value) 3 h11 x7A x7n x7c 1 vs16 (fun A21 n22 c23 h24 => (cell h24 c0 = some (.pointer x1) ∧ (∃ a26 : Addr, x1 = some a26 ∧ (Wr h24 (a26.add 5) ∧ ∀ h28, h28 = setc h24 (a26.add 5) (.slice A21 n22 c23) → R (.int .i64 0) h28))))))))))))))
set_option maxRecDepth 10000 in
set_option maxHeartbeats 4000000 in
theorem D_disk_Disk_Remove_2.sound {R : Value → Hp → Prop} {c0 : Addr} {c1 : Addr} {h : Hp} (H : D_disk_Disk_Remove_2 R  c0 c1 h) : CH Tryz.prog 87 #[.pointer (some c0), .pointer (some c1)] h R := by
  refine CHE.enter (n := 14) Tryz.func87 rfl rfl (Nat.le_of_ble_eq_true rfl) ?_
  unfold D_disk_Disk_Remove_2 at H
  refine VC.seq ?_
  refine VC.region ?_
  refine VL.stepD rfl rfl (by decide) (OE.assignV (v := .int .i64 0) rfl ?_)
  refine VL.nil ?_
  change VC _ _ _ _ _ _ _
  refine VC.seq ?_
  refine VC.drawsS Tryz.mixed (by kernel_rfl) (by kernel_rfl) (fun st hd => ?_)
  obtain ⟨x1, hl2, H⟩ := H
  refine DW.still (i := 0) (v := .pointer x1) (by kernel_rfl) ?_
  obtain ⟨x3, hl4, H⟩ := H
  refine DW.still (i := 1) (v := .pointer x3) (by kernel_rfl) ?_
  obtain ⟨a5, e6, H⟩ := H
  refine DW.still (i := 2) (v := .pointer (some a5)) (by kernel_rfl) ?_
  refine DW.still (i := 3) (v := .pointer (some (a5.add 5))) (by kernel_rfl) ?_
  obtain ⟨x7A, x7n, x7c, hl8, H⟩ := H
  refine DW.still (i := 4) (v := .slice x7A x7n x7c) (by kernel_rfl) ?_
  obtain ⟨x9, hl10, H⟩ := H
  refine DW.still (i := 5) (v := .string x9) (by kernel_rfl) ?_
  refine DW.still (i := 6) (v := .agg #[.string x9, .string ByteArray.empty, .int .i64 0]) (by kernel_rfl) ?_
  obtain ⟨b12, eb31⟩ : ∃ b12, b12 = Array.size h := ⟨_, rfl⟩
  obtain ⟨h11, eh32⟩ : ∃ h11, h11 = Array.push h (.cells #[.string x9, .string ByteArray.empty, .int .i64 0] 107) := ⟨_, rfl⟩
  have H := H b12 h11 eb31 eh32
  refine DW.loudF (fr (fun _ => undef) [(9, (.agg #[.string x9, .string ByteArray.empty, .int .i64 0] : Value))]) st hd (i := 7) rfl (by kernel_rfl) (.inl rfl) (by kernel_rfl) ⟨.inr (YD.u (fr (fun _ => undef) [(8, (.string x9 : Value))]) st rfl rfl (by kernel_rfl) (OE.buildV (ps := [(0, (.string x9 : Value))]) rfl (Tryz.bf25 _) ⟨rfl, rfl⟩)), .inr (YD.u (fr (fun _ => undef) [(1, (.pointer (some c1) : Value))]) st rfl rfl (by kernel_rfl) (OE.load (a := c1) (v := .string x9) rfl (LdT.one Tryz.underlying9 rfl hl10) ⟨rfl, rfl⟩)), .inr (YD.u (fr (fun _ => undef) [(6, (.pointer (some (a5.add 5)) : Value))]) st rfl rfl (by kernel_rfl) (OE.load (a := (a5.add 5)) (v := .slice x7A x7n x7c) rfl (LdT.one Tryz.underlying102 rfl hl8) ⟨rfl, rfl⟩)), .inr (YD.u (fr (fun _ => undef) [(5, (.pointer (some a5) : Value))]) st rfl rfl (by kernel_rfl) (OE.fieldAddrI (a := a5) (o := 5) rfl Tryz.underlying104 rfl Tryz.i102 (by decide) rfl ⟨rfl, rfl⟩)), .inr (YD.u (fr (fun _ => undef) [(4, (.pointer x3 : Value))]) st rfl rfl (by kernel_rfl) (OE.nilCheck (a := a5) (congrArg Value.pointer e6) ⟨rfl, rfl⟩)), .inr (YD.u (fr (fun _ => undef) [(0, (.pointer (some c0) : Value))]) st rfl rfl (by kernel_rfl) (OE.load (a := c0) (v := .pointer x3) rfl (LdT.one Tryz.underlying24 rfl hl4) ⟨rfl, rfl⟩)), .inr (YD.u (fr (fun _ => undef) [(0, (.pointer (some c0) : Value))]) st rfl rfl (by kernel_rfl) (OE.load (a := c0) (v := .pointer x1) rfl (LdT.one Tryz.underlying24 rfl hl2) ⟨rfl, rfl⟩)), trivial⟩ (OE.buildSliceE (ps := [(0, (.agg #[.string x9, .string ByteArray.empty, .int .i64 0] : Value))]) (cells := #[.string x9, .string ByteArray.empty, .int .i64 0]) (e := 107) rfl (Tryz.bf12 _ _ _) eb31 eh32 ?_)
  obtain ⟨hs13, hs14, hs15, H⟩ := H
  obtain ⟨vs16, z17, z18, z19, z20, H⟩ := H
  refine DW.loudF (fr (fun _ => undef) [(7, (.slice x7A x7n x7c : Value)), (10, (.slice (some (Addr.mk b12 0 none)) 1 1 : Value))]) st hd (i := 8) rfl (by kernel_rfl) (.inl rfl) (by kernel_rfl) ⟨.inl (by kernel_rfl), .inl (by kernel_rfl), .inl (by kernel_rfl), .inr (YD.u (fr (fun _ => undef) [(6, (.pointer (some (a5.add 5)) : Value))]) st rfl rfl (by kernel_rfl) (OE.load (a := (a5.add 5)) (v := .slice x7A x7n x7c) rfl (LdT.one Tryz.underlying102 rfl hs15) ⟨rfl, rfl⟩)), .inr (YD.u (fr (fun _ => undef) [(5, (.pointer (some a5) : Value))]) st rfl rfl (by kernel_rfl) (OE.fieldAddrI (a := a5) (o := 5) rfl Tryz.underlying104 rfl Tryz.i102 (by decide) rfl ⟨rfl, rfl⟩)), .inr (YD.u (fr (fun _ => undef) [(4, (.pointer x3 : Value))]) st rfl rfl (by kernel_rfl) (OE.nilCheck (a := a5) (congrArg Value.pointer e6) ⟨rfl, rfl⟩)), .inr (YD.u (fr (fun _ => undef) [(0, (.pointer (some c0) : Value))]) st rfl rfl (by kernel_rfl) (OE.load (a := c0) (v := .pointer x3) rfl (LdT.one Tryz.underlying24 rfl hs14) ⟨rfl, rfl⟩)), .inr (YD.u (fr (fun _ => undef) [(0, (.pointer (some c0) : Value))]) st rfl rfl (by kernel_rfl) (OE.load (a := c0) (v := .pointer x1) rfl (LdT.one Tryz.underlying24 rfl hs13) ⟨rfl, rfl⟩)), trivial⟩ (OE.appendV (z := (.agg #[.string ByteArray.empty, .string ByteArray.empty, .int .i64 0] : Value)) (sz := 3) (bs := 40) rfl rfl Tryz.underlying102 Tryz.i107 z17 z18 z19 z20 (AppendV.mono H (fun A21 n22 c23 h24 H => ?_)))
  obtain ⟨hs25, H⟩ := H
  obtain ⟨a26, e27, H⟩ := H
  refine DW.still (i := 9) (v := .pointer (some a26)) (by kernel_rfl) ?_
  refine DW.still (i := 10) (v := .pointer (some (a26.add 5))) (by kernel_rfl) ?_
  obtain ⟨hw29, H⟩ := H
  obtain ⟨h28, eh30⟩ : ∃ h28, h28 = setc h24 (a26.add 5) (.slice A21 n22 c23) := ⟨_, rfl⟩
  have H := H h28 eh30
  refine DW.loudF (fr (fun _ => undef) [(13, (.pointer (some (a26.add 5)) : Value)), (11, (.slice A21 n22 c23 : Value))]) st hd (i := 11) rfl (by kernel_rfl) (.inl rfl) (by kernel_rfl) ⟨.inr (YD.u (fr (fun _ => undef) [(12, (.pointer (some a26) : Value))]) st rfl rfl (by kernel_rfl) (OE.fieldAddrI (a := a26) (o := 5) rfl Tryz.underlying104 rfl Tryz.i102 (by decide) rfl ⟨rfl, rfl⟩)), .inr (YD.u (fr (fun _ => undef) [(3, (.pointer x1 : Value))]) st rfl rfl (by kernel_rfl) (OE.nilCheck (a := a26) (congrArg Value.pointer e27) ⟨rfl, rfl⟩)), .inl (by kernel_rfl), .inl (by kernel_rfl), .inl (by kernel_rfl), .inl (by kernel_rfl), .inl (by kernel_rfl), .inl (by kernel_rfl), .inl (by kernel_rfl), .inl (by kernel_rfl), .inr (YD.u (fr (fun _ => undef) [(0, (.pointer (some c0) : Value))]) st rfl rfl (by kernel_rfl) (OE.load (a := c0) (v := .pointer x1) rfl (LdT.one Tryz.underlying24 rfl hs25) ⟨rfl, rfl⟩)), trivial⟩ (OE.storeE (a := (a26.add 5)) (v := .slice A21 n22 c23) rfl rfl (StT.oneI Tryz.i102 hw29 rfl) eh30 ?_)
  refine DW.finL st hd [(3, (.pointer x1 : Value)), (4, (.pointer x3 : Value)), (5, (.pointer (some a5) : Value)), (6, (.pointer (some (a5.add 5)) : Value)), (7, (.slice x7A x7n x7c : Value)), (8, (.string x9 : Value)), (9, (.agg #[.string x9, .string ByteArray.empty, .int .i64 0] : Value)), (10, (.slice (some (Addr.mk b12 0 none)) 1 1 : Value)), (11, (.slice A21 n22 c23 : Value)), (12, (.pointer (some a26) : Value)), (13, (.pointer (some (a26.add 5)) : Value))] (by kernel_rfl) (by kernel_rfl) ⟨.inl (by kernel_rfl), .inl (by kernel_rfl), .inl (by kernel_rfl), .inl (by kernel_rfl), .inl (by kernel_rfl), .inl (by kernel_rfl), .inl (by kernel_rfl), .inl (by kernel_rfl), .inl (by kernel_rfl), .inl (by kernel_rfl), .inl (by kernel_rfl), .inl (by kernel_rfl), trivial⟩ ?_
  change VC _ _ _ _ _ _ _
  refine VC.seq ?_
  refine VC.region ?_
  refine VL.stepD rfl rfl (by decide) (OE.assignV (v := .int .i64 0) rfl ?_)
  refine VL.nil ?_
  change VC _ _ _ _ _ _ _
  refine VC.ret ?_
  exact ⟨rfl, _, ResOK.t1 rfl (v := .int .i64 0) rfl, H⟩

def D_disk_Disk_Safe_1 (R : Value → Hp → Prop) (id : Int) (c0 : Addr) (h : Hp) : Prop :=
  (∃ x1 : Option Addr, cell h c0 = some (.pointer x1) ∧ (∃ a3 : Addr, x1 = some a3 ∧ (∃ x5 : Option Nat, cell h (a3.add 3) = some (.map x5) ∧ (∃ x7 : Option Addr, MLk Tryz.prog 100 h (.map x5) (.int .i64 id) false (.pointer x7) ∧ (∃ a9 : Addr, x7 = some a9 ∧ (∃ x11A : Option Addr, ∃ x11n : Nat, ∃ x11c : Nat, cell h a9 = some (.slice x11A x11n x11c) ∧ CH Tryz.prog 48 #[.slice x11A x11n x11c] h (fun r13 h14 => ∃ y15A : Option Addr, ∃ y15n : Nat, ∃ y15c : Nat, r13 = .slice y15A y15n y15c ∧ R (.slice y15A y15n y15c) h14)))))))
set_option maxRecDepth 10000 in
set_option maxHeartbeats 4000000 in
theorem D_disk_Disk_Safe_1.sound {R : Value → Hp → Prop} {id : Int} {c0 : Addr} {h : Hp} (H : D_disk_Disk_Safe_1 R  id c0 h) : CH Tryz.prog 88 #[.int .i64 id, .pointer (some c0)] h R := by
  refine CHE.enter (n := 14) Tryz.func88 rfl rfl (Nat.le_of_ble_eq_true rfl) ?_
  unfold D_disk_Disk_Safe_1 at H
  refine VC.seq ?_
  refine VC.region ?_
  refine VL.stepD rfl rfl (by decide) (OE.assignV (v := .slice none 0 0) rfl ?_)
  refine VL.nil ?_
  change VC _ _ _ _ _ _ _
  refine VC.seq ?_
  refine VC.region ?_
  obtain ⟨x1, hl2, H⟩ := H
  refine VL.stepD rfl rfl (by decide) (OE.load (a := c0) (v := .pointer x1) rfl (LdT.one Tryz.underlying24 rfl hl2) ?_)
  obtain ⟨a3, e4, H⟩ := H
  refine VL.stepD rfl rfl (by decide) (OE.nilCheck (a := a3) (congrArg Value.pointer e4) ?_)
  refine VL.stepD rfl rfl (by decide) (OE.fieldAddrI (a := a3) (o := 3) rfl Tryz.underlying104 rfl Tryz.i100 (by decide) rfl ?_)
  obtain ⟨x5, hl6, H⟩ := H
  refine VL.stepD rfl rfl (by decide) (OE.load (a := (a3.add 3)) (v := .map x5) rfl (LdT.one Tryz.underlying100 rfl hl6) ?_)
  refine VL.stepD rfl rfl (by decide) (OE.moveV (v := .int .i64 id) rfl ?_)
  obtain ⟨x7, hl8, H⟩ := H
  refine VL.stepD rfl rfl (by decide) (OE.lookup (m := .map x5) (k := .int .i64 id) rfl rfl hl8 ?_)
  obtain ⟨a9, e10, H⟩ := H
  refine VL.stepD rfl rfl (by decide) (OE.nilCheck (a := a9) (congrArg Value.pointer e10) ?_)
  refine VL.stepD rfl rfl (by decide) (OE.fieldAddrI (a := a9) (o := 0) rfl Tryz.underlying111 rfl Tryz.i22 (by decide) rfl ?_)
  obtain ⟨x11A, x11n, x11c, hl12, H⟩ := H
  refine VL.stepD rfl rfl (by decide) (OE.load (a := a9) (v := .slice x11A x11n x11c) rfl (LdT.one Tryz.underlying22 rfl hl12) ?_)
  refine VL.stepD rfl rfl (by decide) (OE.callL (args := [.slice x11A x11n x11c]) Tryz.func48 rfl Tryz.nn48 rfl rfl (CHE.mono H (fun r13 h14 H => ?_) (fun _ _ e => e.elim)))
  obtain ⟨y15A, y15n, y15c, rfl, H⟩ := H
  refine VL.stepD rfl rfl (by decide) (OE.assignV (v := .slice y15A y15n y15c) rfl ?_)
  refine VL.nil ?_
  change VC _ _ _ _ _ _ _
  refine VC.ret ?_
  exact ⟨rfl, _, ResOK.t1 rfl (v := .slice y15A y15n y15c) rfl, H⟩

def D_disk_Disk_Files_1 (R : Value → Hp → Prop) (id : Int) (c0 : Addr) (h : Hp) : Prop :=
  (∃ x1 : Option Addr, cell h c0 = some (.pointer x1) ∧ (∃ a3 : Addr, x1 = some a3 ∧ (∃ x5 : Option Nat, cell h (a3.add 3) = some (.map x5) ∧ (∃ x7 : Option Addr, MLk Tryz.prog 100 h (.map x5) (.int .i64 id) false (.pointer x7) ∧ CH Tryz.prog 54 #[.pointer x7] h (fun r9 h10 => ∃ y11A : Option Addr, ∃ y11n : Nat, ∃ y11c : Nat, r9 = .slice y11A y11n y11c ∧ R (.slice y11A y11n y11c) h10)))))
set_option maxRecDepth 10000 in
set_option maxHeartbeats 4000000 in
theorem D_disk_Disk_Files_1.sound {R : Value → Hp → Prop} {id : Int} {c0 : Addr} {h : Hp} (H : D_disk_Disk_Files_1 R  id c0 h) : CH Tryz.prog 90 #[.int .i64 id, .pointer (some c0)] h R := by
  refine CHE.enter (n := 11) Tryz.func90 rfl rfl (Nat.le_of_ble_eq_true rfl) ?_
  unfold D_disk_Disk_Files_1 at H
  refine VC.seq ?_
  refine VC.region ?_
  refine VL.stepD rfl rfl (by decide) (OE.assignV (v := .slice none 0 0) rfl ?_)
  refine VL.nil ?_
  change VC _ _ _ _ _ _ _
  refine VC.seq ?_
  refine VC.region ?_
  obtain ⟨x1, hl2, H⟩ := H
  refine VL.stepD rfl rfl (by decide) (OE.load (a := c0) (v := .pointer x1) rfl (LdT.one Tryz.underlying24 rfl hl2) ?_)
  obtain ⟨a3, e4, H⟩ := H
  refine VL.stepD rfl rfl (by decide) (OE.nilCheck (a := a3) (congrArg Value.pointer e4) ?_)
  refine VL.stepD rfl rfl (by decide) (OE.fieldAddrI (a := a3) (o := 3) rfl Tryz.underlying104 rfl Tryz.i100 (by decide) rfl ?_)
  obtain ⟨x5, hl6, H⟩ := H
  refine VL.stepD rfl rfl (by decide) (OE.load (a := (a3.add 3)) (v := .map x5) rfl (LdT.one Tryz.underlying100 rfl hl6) ?_)
  refine VL.stepD rfl rfl (by decide) (OE.moveV (v := .int .i64 id) rfl ?_)
  obtain ⟨x7, hl8, H⟩ := H
  refine VL.stepD rfl rfl (by decide) (OE.lookup (m := .map x5) (k := .int .i64 id) rfl rfl hl8 ?_)
  refine VL.stepD rfl rfl (by decide) (OE.callL (args := [.pointer x7]) Tryz.func54 rfl Tryz.nn54 rfl rfl (CHE.mono H (fun r9 h10 H => ?_) (fun _ _ e => e.elim)))
  obtain ⟨y11A, y11n, y11c, rfl, H⟩ := H
  refine VL.stepD rfl rfl (by decide) (OE.assignV (v := .slice y11A y11n y11c) rfl ?_)
  refine VL.nil ?_
  change VC _ _ _ _ _ _ _
  refine VC.ret ?_
  exact ⟨rfl, _, ResOK.t1 rfl (v := .slice y11A y11n y11c) rfl, H⟩

def D_disk_alive.J1 (R : Value → Hp → Prop)   (j7A : Option Addr) (j7n : Nat) (j7c : Nat) (h8 : Hp) : Prop :=
  CH Tryz.prog 104 #[.slice j7A j7n j7c] h8 (fun r9 h10 => CH Tryz.prog 105 #[.slice j7A j7n j7c] h10 (fun r11 h12 => ∃ y13A : Option Addr, ∃ y13n : Nat, ∃ y13c : Nat, r11 = .slice y13A y13n y13c ∧ R (.slice y13A y13n y13c) h12))
def D_disk_alive.J3 (R : Value → Hp → Prop) (C18 : Option Addr → Nat → Nat → Int → Hp → Prop) (j16 : Int) (j20A : Option Addr) (j20n : Nat) (j20c : Nat) (h21 : Hp) : Prop :=
  C18 j20A j20n j20c (IntKind.i64.wrap (j16 + 1)) h21
def D_disk_alive.L2 (R : Value → Hp → Prop)  (turnsA : Option Addr) (turnsn : Nat) (C18 : Option Addr → Nat → Nat → Int → Hp → Prop) (j15A : Option Addr) (j15n : Nat) (j15c : Nat) (j16 : Int) (h17 : Hp) : Prop :=
  (((decide (j16 < ((turnsn : Nat) : Int))) = true → (∃ a22 : Addr, turnsA = some a22 ∧ (0 : Int) ≤ j16 ∧ j16 < (turnsn : Int) ∧ (∃ x26_0 : ByteArray, ∃ x26_1 : ByteArray, ∃ x26_2 : Int, Row h17 (a22.add (Int.toNat j16 * 3)) [.string x26_0, .string x26_1, .int .i64 x26_2] ∧ (∀ b29 h28, b29 = Array.size h17 → h28 = Array.push h17 (.cells #[.string ByteArray.empty, .string ByteArray.empty, .int .i64 0] 107) → ((∀ j, j < 3 → Wr h28 (Addr.add (Addr.mk b29 0 none) j)) ∧ ∀ h30, h30 = setRow h28 (Addr.mk b29 0 none) [.string x26_0, .string x26_1, .int .i64 x26_2] 0 → (∃ x32 : ByteArray, cell h30 ((Addr.mk b29 0 none).add 1) = some (.string x32) ∧ (((!(x32.toList == (ByteArray.mk #[]).toList)) = true → (∃ x35 : Int, cell h30 ((Addr.mk b29 0 none).add 2) = some (.int .i64 x35) ∧ (∀ b38 h37, b38 = Array.size h30 → h37 = Array.push h30 (.cells #[.int .i64 x35] 3) → (∃ vs39 : List Value, Src h37 (1 * 1) vs39 (some (Addr.mk b38 0 none)) ∧ (∀ v ∈ vs39, oneC v = true) ∧ (j15n + 1) * 8 ≤ 140737488355328 ∧ j15n + 1 ≤ 9223372036854775807 ∧ AppendV 3 (.int .i64 0 : Value) 1 h37 j15A j15n j15c 1 vs39 (fun A44 n45 c46 h47 => D_disk_alive.J3 R C18 j16 A44 n45 c46 h47))))) ∧ ((!(x32.toList == (ByteArray.mk #[]).toList)) = false → D_disk_alive.J3 R C18 j16 j15A j15n j15c h30)))))))) ∧ ((decide (j16 < ((turnsn : Nat) : Int))) = false → D_disk_alive.J1 R   j15A j15n j15c h17))
def D_disk_alive (R : Value → Hp → Prop) (names : Option Nat) (turnsA : Option Addr) (turnsn : Nat) (turnsc : Nat) (h : Hp) : Prop :=
  CH Tryz.prog 103 #[.map names] h (fun r1 h2 => CH Tryz.prog 102 #[r1] h2 (fun r4 h5 => ∃ y6A : Option Addr, ∃ y6n : Nat, ∃ y6c : Nat, r4 = .slice y6A y6n y6c ∧ (∃ Inv : Option Addr → Nat → Nat → Int → Hp → Nat → Prop, (∃ m, Inv y6A y6n y6c 0 h5 m) ∧ ∀ j15A j15n j15c j16 h17 m, Inv j15A j15n j15c j16 h17 m → D_disk_alive.L2 R  turnsA turnsn (fun j15A j15n j15c j16 h17 => ∃ m1, m1 < m ∧ Inv j15A j15n j15c j16 h17 m1) j15A j15n j15c j16 h17)))
set_option maxRecDepth 10000 in
set_option maxHeartbeats 4000000 in
theorem D_disk_alive.sound {R : Value → Hp → Prop} {names : Option Nat} {turnsA : Option Addr} {turnsn : Nat} {turnsc : Nat} {h : Hp} (H : D_disk_alive R  names turnsA turnsn turnsc h) : CH Tryz.prog 91 #[.map names, .slice turnsA turnsn turnsc] h R := by
  refine CHE.enter (n := 30) Tryz.func91 rfl rfl (Nat.le_of_ble_eq_true rfl) ?_
  unfold D_disk_alive at H
  refine VC.seq ?_
  refine VC.region ?_
  refine VL.stepD rfl rfl (by decide) (OE.assignV (v := .slice none 0 0) rfl ?_)
  refine VL.nil ?_
  change VC _ _ _ _ _ _ _
  refine VC.seq ?_
  refine VC.region ?_
  refine VL.stepD rfl rfl (by decide) (OE.moveV (v := .map names) rfl ?_)
  refine VL.stepD rfl rfl (by decide) (OE.callL (args := [.map names]) Tryz.func103 rfl Tryz.nn103 rfl rfl (CHE.mono H (fun r1 h2 H => ?_) (fun _ _ e => e.elim)))
  refine VL.stepD rfl rfl (by decide) (OE.callL (args := [r1]) Tryz.func102 rfl Tryz.nn102 rfl rfl (CHE.mono H (fun r4 h5 H => ?_) (fun _ _ e => e.elim)))
  obtain ⟨y6A, y6n, y6c, rfl, H⟩ := H
  refine VL.stepD rfl rfl (by decide) (OE.assignV (v := .slice y6A y6n y6c) rfl ?_)
  refine VL.nil ?_
  change VC _ _ _ _ _ _ _
  refine VC.seqJ (fun f h8 => ∃ j7A : Option Addr, ∃ j7n : Nat, ∃ j7c : Nat, f 5 = (.slice j7A j7n j7c : Value) ∧ D_disk_alive.J1 R   j7A j7n j7c h8) ?_ ?_
  · intro f h8 J
    obtain ⟨j7A, j7n, j7c, hk5, H⟩ := J
    rw [← fr_self f [(5, .slice j7A j7n j7c)] (by simp only [List.mem_cons, List.not_mem_nil, or_false]; rintro p (rfl) <;> assumption)]
    unfold D_disk_alive.J1 at H
    refine VC.seq ?_
    refine VC.region ?_
    refine VL.stepD rfl rfl (by decide) (OE.moveV (v := .slice j7A j7n j7c) rfl ?_)
    refine VL.stepD rfl rfl (by decide) (OE.callL (args := [.slice j7A j7n j7c]) Tryz.func104 rfl Tryz.nn104 rfl rfl (CHE.mono H (fun r9 h10 H => ?_) (fun _ _ e => e.elim)))
    refine VL.nil ?_
    change VC _ _ _ _ _ _ _
    refine VC.seq ?_
    refine VC.region ?_
    refine VL.stepD rfl rfl (by decide) (OE.moveV (v := .slice j7A j7n j7c) rfl ?_)
    refine VL.stepD rfl rfl (by decide) (OE.callL (args := [.slice j7A j7n j7c]) Tryz.func105 rfl Tryz.nn105 rfl rfl (CHE.mono H (fun r11 h12 H => ?_) (fun _ _ e => e.elim)))
    obtain ⟨y13A, y13n, y13c, rfl, H⟩ := H
    refine VL.stepD rfl rfl (by decide) (OE.assignV (v := .slice y13A y13n y13c) rfl ?_)
    refine VL.nil ?_
    change VC _ _ _ _ _ _ _
    refine VC.ret ?_
    exact ⟨rfl, _, ResOK.t1 rfl (v := .slice y13A y13n y13c) rfl, H⟩
  · skip
    refine VC.seq ?_
    refine VC.region ?_
    refine VL.stepD rfl rfl (by decide) (OE.moveV (v := .slice turnsA turnsn turnsc) rfl ?_)
    refine VL.stepD rfl rfl (by decide) (OE.lenSlice rfl Tryz.underlying102 ?_)
    refine VL.stepD rfl rfl (by decide) (OE.moveV (v := .int .i64 0) rfl ?_)
    refine VL.nil ?_
    change VC _ _ _ _ _ _ _
    refine VC.block ?_
    obtain ⟨Inv, ⟨m0, h0⟩, H⟩ := H
    refine VC.loop (fun ds f h17 m => ds = [] ∧ ∃ j15A : Option Addr, ∃ j15n : Nat, ∃ j15c : Nat, ∃ j16 : Int, f 5 = (.slice j15A j15n j15c : Value) ∧ f 11 = (.slice turnsA turnsn turnsc : Value) ∧ f 12 = (.int .i64 ((turnsn : Nat) : Int) : Value) ∧ f 13 = (.int .i64 j16 : Value) ∧ Inv j15A j15n j15c j16 h17 m) (m0 := m0) ⟨rfl, y6A, y6n, y6c, 0, rfl, rfl, rfl, rfl, h0⟩ ?_
    intro ds f h17 m I
    obtain ⟨rfl, j15A, j15n, j15c, j16, hk5, hk11, hk12, hk13, I⟩ := I
    rw [← fr_self f [(5, .slice j15A j15n j15c), (11, .slice turnsA turnsn turnsc), (12, .int .i64 ((turnsn : Nat) : Int)), (13, .int .i64 j16)] (by simp only [List.mem_cons, List.not_mem_nil, or_false]; rintro p (rfl | rfl | rfl | rfl) <;> assumption)]
    obtain ⟨C18, eC18⟩ : ∃ C18 : Option Addr → Nat → Nat → Int → Hp → Prop, C18 = (fun j15A j15n j15c j16 h17 => ∃ m1, m1 < m ∧ Inv j15A j15n j15c j16 h17 m1) := ⟨_, rfl⟩
    have H : D_disk_alive.L2 R  turnsA turnsn C18 j15A j15n j15c j16 h17 := by rw [eC18]; exact H j15A j15n j15c j16 h17 m I
    unfold D_disk_alive.L2 at H
    refine VC.seq ?_
    refine VC.region ?_
    refine VL.stepD rfl rfl (by decide) (OE.binI (v := .bool (decide (j16 < ((turnsn : Nat) : Int)))) rfl rfl rfl ?_)
    refine VL.nil ?_
    change VC _ _ _ _ _ _ _
    refine VC.seq ?_
    refine VC.cond (t := (decide (j16 < ((turnsn : Nat) : Int)))) rfl (fun e19 => ?_) (fun e19 => ?_)
    · have H := H.1 e19
      refine VC.skip ?_
      change VC _ _ _ _ _ _ _
      refine VC.seqJ (fun f h21 => ∃ j20A : Option Addr, ∃ j20n : Nat, ∃ j20c : Nat, f 5 = (.slice j20A j20n j20c : Value) ∧ f 11 = (.slice turnsA turnsn turnsc : Value) ∧ f 12 = (.int .i64 ((turnsn : Nat) : Int) : Value) ∧ f 13 = (.int .i64 j16 : Value) ∧ D_disk_alive.J3 R C18 j16 j20A j20n j20c h21) ?_ ?_
      · intro f h21 J
        obtain ⟨j20A, j20n, j20c, hk5, hk11, hk12, hk13, H⟩ := J
        rw [← fr_self f [(5, .slice j20A j20n j20c), (11, .slice turnsA turnsn turnsc), (12, .int .i64 ((turnsn : Nat) : Int)), (13, .int .i64 j16)] (by simp only [List.mem_cons, List.not_mem_nil, or_false]; rintro p (rfl | rfl | rfl | rfl) <;> assumption)]
        unfold D_disk_alive.J3 at H
        refine VC.region ?_
        refine VL.stepD rfl rfl (by decide) (OE.binI (v := .int .i64 (IntKind.i64.wrap (j16 + 1))) rfl rfl rfl ?_)
        refine VL.stepD rfl rfl (by decide) (OE.moveV (v := .int .i64 (IntKind.i64.wrap (j16 + 1))) rfl ?_)
        refine VL.nil ?_
        rw [eC18] at H
        obtain ⟨m1, hm1, H⟩ := H
        exact ⟨m1, hm1, rfl, j20A, j20n, j20c, (IntKind.i64.wrap (j16 + 1)), rfl, rfl, rfl, rfl, H⟩
      · skip
        refine VC.block ?_
        refine VC.seq ?_
        refine VC.region ?_
        obtain ⟨a22, e23, z24, z25, H⟩ := H
        refine VL.stepD rfl rfl (by decide) (OE.indexAddrI (sz := 3) rfl rfl Tryz.underlying102 Tryz.i107 e23 z24 z25 ?_)
        obtain ⟨x26_0, x26_1, x26_2, hl27, H⟩ := H
        refine VL.stepD rfl rfl (by decide) (OE.load (a := (a22.add (Int.toNat j16 * 3))) (v := .agg #[.string x26_0, .string x26_1, .int .i64 x26_2]) rfl (LdT.aggI Tryz.underlying107 rfl Tryz.i107 rfl hl27) ?_)
        obtain ⟨b29, eb51⟩ : ∃ b29, b29 = Array.size h17 := ⟨_, rfl⟩
        obtain ⟨h28, eh52⟩ : ∃ h28, h28 = Array.push h17 (.cells #[.string ByteArray.empty, .string ByteArray.empty, .int .i64 0] 107) := ⟨_, rfl⟩
        have H := H b29 h28 eb51 eh52
        refine VL.stepD rfl rfl (by decide) (OE.allocE (z := .agg #[.string ByteArray.empty, .string ByteArray.empty, .int .i64 0]) Tryz.i107 eb51 eh52 ?_)
        obtain ⟨hw31, H⟩ := H
        obtain ⟨h30, eh50⟩ : ∃ h30, h30 = setRow h28 (Addr.mk b29 0 none) [.string x26_0, .string x26_1, .int .i64 x26_2] 0 := ⟨_, rfl⟩
        have H := H h30 eh50
        refine VL.stepN rfl rfl (OE.storeE (a := (Addr.mk b29 0 none)) (v := .agg #[.string x26_0, .string x26_1, .int .i64 x26_2]) rfl rfl (StT.aggI (vs := [.string x26_0, .string x26_1, .int .i64 x26_2]) Tryz.i107 rfl hw31 (by simp [oneC])) eh50 ?_)
        refine VL.nil ?_
        change VC _ _ _ _ _ _ _
        refine VC.seq ?_
        refine VC.region ?_
        refine VL.stepD rfl rfl (by decide) (OE.fieldAddrI (a := (Addr.mk b29 0 none)) (o := 1) rfl Tryz.underlying107 rfl Tryz.i9 (by decide) rfl ?_)
        obtain ⟨x32, hl33, H⟩ := H
        refine VL.stepD rfl rfl (by decide) (OE.load (a := ((Addr.mk b29 0 none).add 1)) (v := .string x32) rfl (LdT.one Tryz.underlying9 rfl hl33) ?_)
        refine VL.stepD rfl rfl (by decide) (OE.binS (v := .bool (!(x32.toList == (ByteArray.mk #[]).toList))) rfl rfl rfl ?_)
        refine VL.nil ?_
        change VC _ _ _ _ _ _ _
        refine VC.cond (t := (!(x32.toList == (ByteArray.mk #[]).toList))) rfl (fun e34 => ?_) (fun e34 => ?_)
        · have H := H.1 e34
          refine VC.region ?_
          refine VL.stepD rfl rfl (by decide) (OE.moveV (v := .slice j15A j15n j15c) rfl ?_)
          refine VL.stepD rfl rfl (by decide) (OE.fieldAddrI (a := (Addr.mk b29 0 none)) (o := 2) rfl Tryz.underlying107 rfl Tryz.i3 (by decide) rfl ?_)
          obtain ⟨x35, hl36, H⟩ := H
          refine VL.stepD rfl rfl (by decide) (OE.load (a := ((Addr.mk b29 0 none).add 2)) (v := .int .i64 x35) rfl (LdT.one Tryz.underlying3 rfl hl36) ?_)
          obtain ⟨b38, eb48⟩ : ∃ b38, b38 = Array.size h30 := ⟨_, rfl⟩
          obtain ⟨h37, eh49⟩ : ∃ h37, h37 = Array.push h30 (.cells #[.int .i64 x35] 3) := ⟨_, rfl⟩
          have H := H b38 h37 eb48 eh49
          refine VL.stepD rfl rfl (by decide) (OE.buildSliceE (ps := [(0, (.int .i64 x35 : Value))]) (cells := #[.int .i64 x35]) (e := 3) rfl (Tryz.bf6 _) eb48 eh49 ?_)
          obtain ⟨vs39, z40, z41, z42, z43, H⟩ := H
          refine VL.stepD rfl rfl (by decide) (OE.appendV (z := (.int .i64 0 : Value)) (sz := 1) (bs := 8) rfl rfl Tryz.underlying44 Tryz.i3 z40 z41 z42 z43 (AppendV.mono H (fun A44 n45 c46 h47 H => ?_)))
          refine VL.stepD rfl rfl (by decide) (OE.assignV (v := .slice A44 n45 c46) rfl ?_)
          refine VL.nil ?_
          exact ⟨rfl, A44, n45, c46, rfl, rfl, rfl, rfl, H⟩
        · have H := H.2 e34
          refine VC.skip ?_
          exact ⟨rfl, j15A, j15n, j15c, rfl, rfl, rfl, rfl, H⟩
    · have H := H.2 e19
      refine VC.exit ?_
      exact ⟨rfl, j15A, j15n, j15c, rfl, H⟩

def D_disk_Disk_bury (R : Value → Hp → Prop) (d : Option Addr) (h : Hp) : Prop :=
  CH Tryz.prog 43 #[.pointer d] h (fun r1 h2 => ∃ y3A : Option Addr, ∃ y3n : Nat, ∃ y3c : Nat, r1 = .slice y3A y3n y3c ∧ (∀ b5 h4, b5 = Array.size h2 → h4 = Array.push h2 (.cells #[.slice none 0 0] 44) → (Wr h4 (Addr.mk b5 0 none) ∧ ∀ h6, h6 = setc h4 (Addr.mk b5 0 none) (.slice y3A y3n y3c) → (∃ a8 : Addr, d = some a8 ∧ (∃ x10 : Option Nat, cell h6 (a8.add 3) = some (.map x10) ∧ CH Tryz.prog 106 #[.map x10, .func (.func 107) #[] #[.pointer (some (Addr.mk b5 0 none))]] h6 (fun r12 h13 => R (.tuple #[]) h13))))))
set_option maxRecDepth 10000 in
set_option maxHeartbeats 4000000 in
theorem D_disk_Disk_bury.sound {R : Value → Hp → Prop} {d : Option Addr} {h : Hp} (H : D_disk_Disk_bury R  d h) : CH Tryz.prog 92 #[.pointer d] h R := by
  refine CHE.enter (n := 11) Tryz.func92 rfl rfl (Nat.le_of_ble_eq_true rfl) ?_
  unfold D_disk_Disk_bury at H
  refine VC.seq ?_
  refine VC.region ?_
  refine VL.stepD rfl rfl (by decide) (OE.moveV (v := .pointer d) rfl ?_)
  refine VL.stepD rfl rfl (by decide) (OE.callL (args := [.pointer d]) Tryz.func43 rfl Tryz.nn43 rfl rfl (CHE.mono H (fun r1 h2 H => ?_) (fun _ _ e => e.elim)))
  obtain ⟨y3A, y3n, y3c, rfl, H⟩ := H
  obtain ⟨b5, eb15⟩ : ∃ b5, b5 = Array.size h2 := ⟨_, rfl⟩
  obtain ⟨h4, eh16⟩ : ∃ h4, h4 = Array.push h2 (.cells #[.slice none 0 0] 44) := ⟨_, rfl⟩
  have H := H b5 h4 eb15 eh16
  refine VL.stepD rfl rfl (by decide) (OE.allocE (z := .slice none 0 0) Tryz.i44 eb15 eh16 ?_)
  obtain ⟨hw7, H⟩ := H
  obtain ⟨h6, eh14⟩ : ∃ h6, h6 = setc h4 (Addr.mk b5 0 none) (.slice y3A y3n y3c) := ⟨_, rfl⟩
  have H := H h6 eh14
  refine VL.stepN rfl rfl (OE.storeE (a := (Addr.mk b5 0 none)) (v := .slice y3A y3n y3c) rfl rfl (StT.oneI Tryz.i44 hw7 rfl) eh14 ?_)
  refine VL.nil ?_
  change VC _ _ _ _ _ _ _
  refine VC.region ?_
  refine VL.stepD rfl rfl (by decide) (OE.moveV (v := .pointer d) rfl ?_)
  obtain ⟨a8, e9, H⟩ := H
  refine VL.stepD rfl rfl (by decide) (OE.nilCheck (a := a8) (congrArg Value.pointer e9) ?_)
  refine VL.stepD rfl rfl (by decide) (OE.fieldAddrI (a := a8) (o := 3) rfl Tryz.underlying104 rfl Tryz.i100 (by decide) rfl ?_)
  obtain ⟨x10, hl11, H⟩ := H
  refine VL.stepD rfl rfl (by decide) (OE.load (a := (a8.add 3)) (v := .map x10) rfl (LdT.one Tryz.underlying100 rfl hl11) ?_)
  refine VL.stepD rfl rfl (by decide) (OE.makeFuncL (l := [.pointer (some (Addr.mk b5 0 none))]) rfl ?_)
  refine VL.stepD rfl rfl (by decide) (OE.callL (args := [.map x10, .func (.func 107) #[] #[.pointer (some (Addr.mk b5 0 none))]]) Tryz.func106 rfl Tryz.nn106 rfl rfl (CHE.mono H (fun r12 h13 H => ?_) (fun _ _ e => e.elim)))
  refine VL.nil ?_
  exact ⟨rfl, _, ResOK.none rfl, H⟩


def D_disk_turn_do (R : Value → Hp → Prop) (t_0 : ByteArray) (t_1 : ByteArray) (t_2 : Int) (m' : Option Nat) (h : Hp) : Prop :=
  (∀ b2 h1, b2 = Array.size h → h1 = Array.push h (.cells #[.string t_0, .string t_1, .int .i64 t_2] 107) → (∃ x3 : ByteArray, cell h1 (Addr.mk b2 0 none) = some (.string x3) ∧ (∃ Q18 : Hp → Prop, MDl Tryz.prog 101 9 h1 (.map m') (.string x3) Q18 ∧ ∀ h5, Q18 h5 → (∃ x7 : ByteArray, cell h5 ((Addr.mk b2 0 none).add 1) = some (.string x7) ∧ (((!(x7.toList == (ByteArray.mk #[]).toList)) = true → (∃ x10 : ByteArray, cell h5 ((Addr.mk b2 0 none).add 1) = some (.string x10) ∧ (∃ x12 : Int, cell h5 ((Addr.mk b2 0 none).add 2) = some (.int .i64 x12) ∧ (∃ Q16 : Hp → Prop, MUp Tryz.prog 101 h5 (.map m') (.string x10) (.int .i64 x12) Q16 ∧ ∀ h14, Q16 h14 → R (.tuple #[]) h14)))) ∧ ((!(x7.toList == (ByteArray.mk #[]).toList)) = false → R (.tuple #[]) h5))))))
set_option maxRecDepth 10000 in
set_option maxHeartbeats 4000000 in
theorem D_disk_turn_do.sound {R : Value → Hp → Prop} {t_0 : ByteArray} {t_1 : ByteArray} {t_2 : Int} {m' : Option Nat} {h : Hp} (H : D_disk_turn_do R  t_0 t_1 t_2 m' h) : CH Tryz.prog 94 #[.agg #[.string t_0, .string t_1, .int .i64 t_2], .map m'] h R := by
  refine CHE.enter (n := 15) Tryz.func94 rfl rfl (Nat.le_of_ble_eq_true rfl) ?_
  unfold D_disk_turn_do at H
  refine VC.seq ?_
  refine VC.region ?_
  obtain ⟨b2, eb20⟩ : ∃ b2, b2 = Array.size h := ⟨_, rfl⟩
  obtain ⟨h1, eh21⟩ : ∃ h1, h1 = Array.push h (.cells #[.string t_0, .string t_1, .int .i64 t_2] 107) := ⟨_, rfl⟩
  have H := H b2 h1 eb20 eh21
  refine VL.stepD rfl rfl (by decide) (OE.boxE (v := .agg #[.string t_0, .string t_1, .int .i64 t_2]) rfl eb20 eh21 ?_)
  refine VL.nil ?_
  change VC _ _ _ _ _ _ _
  refine VC.seq ?_
  refine VC.region ?_
  refine VL.stepD rfl rfl (by decide) (OE.moveV (v := .map m') rfl ?_)
  refine VL.stepD rfl rfl (by decide) (OE.fieldAddrI (a := (Addr.mk b2 0 none)) (o := 0) rfl Tryz.underlying107 rfl Tryz.i9 (by decide) rfl ?_)
  obtain ⟨x3, hl4, H⟩ := H
  refine VL.stepD rfl rfl (by decide) (OE.load (a := (Addr.mk b2 0 none)) (v := .string x3) rfl (LdT.one Tryz.underlying9 rfl hl4) ?_)
  obtain ⟨Q18, hl6, H⟩ := H
  refine VL.stepN rfl rfl (OE.delete (m := .map m') (k := .string x3) rfl rfl hl6 (fun h5 q19 => ?_))
  have H := H h5 q19
  refine VL.nil ?_
  change VC _ _ _ _ _ _ _
  refine VC.seq ?_
  refine VC.region ?_
  refine VL.stepD rfl rfl (by decide) (OE.fieldAddrI (a := (Addr.mk b2 0 none)) (o := 1) rfl Tryz.underlying107 rfl Tryz.i9 (by decide) rfl ?_)
  obtain ⟨x7, hl8, H⟩ := H
  refine VL.stepD rfl rfl (by decide) (OE.load (a := ((Addr.mk b2 0 none).add 1)) (v := .string x7) rfl (LdT.one Tryz.underlying9 rfl hl8) ?_)
  refine VL.stepD rfl rfl (by decide) (OE.binS (v := .bool (!(x7.toList == (ByteArray.mk #[]).toList))) rfl rfl rfl ?_)
  refine VL.nil ?_
  change VC _ _ _ _ _ _ _
  refine VC.cond (t := (!(x7.toList == (ByteArray.mk #[]).toList))) rfl (fun e9 => ?_) (fun e9 => ?_)
  · have H := H.1 e9
    refine VC.region ?_
    refine VL.stepD rfl rfl (by decide) (OE.moveV (v := .map m') rfl ?_)
    refine VL.stepD rfl rfl (by decide) (OE.fieldAddrI (a := (Addr.mk b2 0 none)) (o := 1) rfl Tryz.underlying107 rfl Tryz.i9 (by decide) rfl ?_)
    obtain ⟨x10, hl11, H⟩ := H
    refine VL.stepD rfl rfl (by decide) (OE.load (a := ((Addr.mk b2 0 none).add 1)) (v := .string x10) rfl (LdT.one Tryz.underlying9 rfl hl11) ?_)
    refine VL.stepD rfl rfl (by decide) (OE.fieldAddrI (a := (Addr.mk b2 0 none)) (o := 2) rfl Tryz.underlying107 rfl Tryz.i3 (by decide) rfl ?_)
    obtain ⟨x12, hl13, H⟩ := H
    refine VL.stepD rfl rfl (by decide) (OE.load (a := ((Addr.mk b2 0 none).add 2)) (v := .int .i64 x12) rfl (LdT.one Tryz.underlying3 rfl hl13) ?_)
    obtain ⟨Q16, hl15, H⟩ := H
    refine VL.stepN rfl rfl (OE.mapUpdate (m := .map m') (k := .string x10) (v := .int .i64 x12) rfl rfl rfl hl15 (fun h14 q17 => ?_))
    have H := H h14 q17
    refine VL.nil ?_
    exact ⟨rfl, _, ResOK.none rfl, H⟩
  · have H := H.2 e9
    refine VC.skip ?_
    exact ⟨rfl, _, ResOK.none rfl, H⟩

def D_slices_Clone_disk_turn (R : Value → Hp → Prop) (sA : Option Addr) (sn : Nat) (sc : Nat) (h : Hp) : Prop :=
  (((Option.isNone sA) = true → R (.slice none 0 0) h) ∧ ((Option.isNone sA) = false → (∀ b3 h2, b3 = Array.size h → h2 = Array.push h (.cells #[] 107) → (∃ vs4 : List Value, Src h2 (sn * 3) vs4 sA ∧ (∀ v ∈ vs4, oneC v = true) ∧ (0 + sn) * 40 ≤ 140737488355328 ∧ 0 + sn ≤ 9223372036854775807 ∧ AppendV 107 (.agg #[.string ByteArray.empty, .string ByteArray.empty, .int .i64 0] : Value) 3 h2 (some (Addr.mk b3 0 none)) 0 0 sn vs4 (fun A9 n10 c11 h12 => R (.slice A9 n10 c11) h12)))))
set_option maxRecDepth 10000 in
set_option maxHeartbeats 4000000 in
theorem D_slices_Clone_disk_turn.sound {R : Value → Hp → Prop} {sA : Option Addr} {sn : Nat} {sc : Nat} {h : Hp} (H : D_slices_Clone_disk_turn R  sA sn sc h) : CH Tryz.prog 95 #[.slice sA sn sc] h R := by
  refine CHE.enter (n := 8) Tryz.func95 rfl rfl (Nat.le_of_ble_eq_true rfl) ?_
  unfold D_slices_Clone_disk_turn at H
  refine VC.seq ?_
  refine VC.region ?_
  refine VL.stepD rfl rfl (by decide) (OE.assignV (v := .slice none 0 0) rfl ?_)
  refine VL.nil ?_
  change VC _ _ _ _ _ _ _
  refine VC.seq ?_
  refine VC.seq ?_
  refine VC.region ?_
  refine VL.stepD rfl rfl (by decide) (OE.moveV (v := .slice sA sn sc) rfl ?_)
  refine VL.stepD rfl rfl (by decide) (OE.sliceNil (b := (Option.isNone sA)) (A := sA) (n := sn) (c := sc) rfl rfl Tryz.underlying102 (.inl ⟨rfl, rfl⟩) ?_)
  refine VL.nil ?_
  change VC _ _ _ _ _ _ _
  refine VC.cond (t := (Option.isNone sA)) rfl (fun e1 => ?_) (fun e1 => ?_)
  · have H := H.1 e1
    refine VC.seq ?_
    refine VC.region ?_
    refine VL.stepD rfl rfl (by decide) (OE.assignV (v := .slice none 0 0) rfl ?_)
    refine VL.nil ?_
    change VC _ _ _ _ _ _ _
    refine VC.ret ?_
    exact ⟨rfl, _, ResOK.t1 rfl (v := .slice none 0 0) rfl, H⟩
  · have H := H.2 e1
    refine VC.skip ?_
    change VC _ _ _ _ _ _ _
    refine VC.seq ?_
    refine VC.region ?_
    obtain ⟨b3, eb13⟩ : ∃ b3, b3 = Array.size h := ⟨_, rfl⟩
    obtain ⟨h2, eh14⟩ : ∃ h2, h2 = Array.push h (.cells #[] 107) := ⟨_, rfl⟩
    have H := H b3 h2 eb13 eh14
    refine VL.stepD rfl rfl (by decide) (OE.buildSliceE (ps := []) (cells := #[]) (e := 107) rfl (Tryz.bf26) eb13 eh14 ?_)
    refine VL.stepD rfl rfl (by decide) (OE.moveV (v := .slice sA sn sc) rfl ?_)
    obtain ⟨vs4, z5, z6, z7, z8, H⟩ := H
    refine VL.stepD rfl rfl (by decide) (OE.appendV (z := (.agg #[.string ByteArray.empty, .string ByteArray.empty, .int .i64 0] : Value)) (sz := 3) (bs := 40) rfl rfl Tryz.underlying102 Tryz.i107 z5 z6 z7 z8 (AppendV.mono H (fun A9 n10 c11 h12 H => ?_)))
    refine VL.stepD rfl rfl (by decide) (OE.assignV (v := .slice A9 n10 c11) rfl ?_)
    refine VL.nil ?_
    change VC _ _ _ _ _ _ _
    refine VC.ret ?_
    exact ⟨rfl, _, ResOK.t1 rfl (v := .slice A9 n10 c11) rfl, H⟩

def D_disk_Disk_bury_1 (R : Value → Hp → Prop) (id : Int) (a__ : Option Addr) (c0 : Addr) (h : Hp) : Prop :=
  (∃ x1A : Option Addr, ∃ x1n : Nat, ∃ x1c : Nat, cell h c0 = some (.slice x1A x1n x1c) ∧ CH Tryz.prog 108 #[.slice x1A x1n x1c, .int .i64 id] h (fun r3 h4 => ∃ y5 : Bool, r3 = .bool y5 ∧ R (.bool (!y5)) h4))
set_option maxRecDepth 10000 in
set_option maxHeartbeats 4000000 in
theorem D_disk_Disk_bury_1.sound {R : Value → Hp → Prop} {id : Int} {a__ : Option Addr} {c0 : Addr} {h : Hp} (H : D_disk_Disk_bury_1 R  id a__ c0 h) : CH Tryz.prog 107 #[.int .i64 id, .pointer a__, .pointer (some c0)] h R := by
  refine CHE.enter (n := 10) Tryz.func107 rfl rfl (Nat.le_of_ble_eq_true rfl) ?_
  unfold D_disk_Disk_bury_1 at H
  refine VC.seq ?_
  refine VC.region ?_
  refine VL.stepD rfl rfl (by decide) (OE.assignV (v := .bool false) rfl ?_)
  refine VL.nil ?_
  change VC _ _ _ _ _ _ _
  refine VC.seq ?_
  refine VC.region ?_
  obtain ⟨x1A, x1n, x1c, hl2, H⟩ := H
  refine VL.stepD rfl rfl (by decide) (OE.load (a := c0) (v := .slice x1A x1n x1c) rfl (LdT.one Tryz.underlying44 rfl hl2) ?_)
  refine VL.stepD rfl rfl (by decide) (OE.moveV (v := .int .i64 id) rfl ?_)
  refine VL.stepD rfl rfl (by decide) (OE.callL (args := [.slice x1A x1n x1c, .int .i64 id]) Tryz.func108 rfl Tryz.nn108 rfl rfl (CHE.mono H (fun r3 h4 H => ?_) (fun _ _ e => e.elim)))
  obtain ⟨y5, rfl, H⟩ := H
  refine VL.stepD rfl rfl (by decide) (OE.not rfl ?_)
  refine VL.stepD rfl rfl (by decide) (OE.assignV (v := .bool (!y5)) rfl ?_)
  refine VL.nil ?_
  change VC _ _ _ _ _ _ _
  refine VC.ret ?_
  exact ⟨rfl, _, ResOK.t1 rfl (v := .bool (!y5)) rfl, H⟩

end Go.Proofs
