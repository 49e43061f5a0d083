/-
  No cell of these rows narrows 'for every input' (looked for: loops, veiled, ifaces, maps, wideKeys, modest, calm, conditions, laid).
  DERIVED. THE GIVEN ROWS OF THIS SEAT. 6 by the template 'for every input the law returns true; each argument reads behind the call as it read before'; 0 by the template 'total and deterministic' (their statements: YteabnfdeklajlaaGreatTotals.lean).
  GIVEN WITH THE SEED: the statements are not yours to turn. If you find one false, say at which input.
  Laid BY PROGRAM, IN A SANDBOX (cutbox-rows.mjs): the forced cells as the released guide's own fill.sh prints them over the translation 84f408cf3b3ea759… (all of the seat's roots in one cut). By AI agents, Wed Nov 11 2026. No macro, syntax, notation, axiom, sorry.
-/
import Derived.Test.YteabnfdeklajlaaGreatChecked
import GoSem.Claim
import GoSem.ClaimJoined
import GoSem.ClaimMapViews
import Derived.JoinedTies
import Derived.KernelRfl
namespace Go.Proofs.YteabnfdeklajlaaGreat
/- THE CELL 'sum', in the pinned program and in every row, IS THE sha256 OF THE DUMP (.gsa) THAT YteabnfdeklajlaaGreatProg.lean LOADS. Nothing in Lean hashes anything: it is a label: what it is worth is what the hold of that sum in a sandbox is worth. -/
noncomputable def Tryz.pinned : Pinned := { name := "yteabnfdeklajlaagreat", sum := "84f408cf3b3ea759c06a160c525d3d19944b035594a7ab7e0877492ae3a8b911", checked := Tryz.checked }
namespace Rows
def none {H : Type} : Left H := { results := [], args := [] }

/-- 'treadlelaw3.DiskFaults': WHATEVER THE INPUT: true; the input reads as it did. -/
def diskFaultsSpec : ChangeSpec := { name := "diskFaults", fn := fun _ => fun
  | [d1, d2, d3, d4, d5] => { results := [.lit (.bool true)], args := [d1, d2, d3, d4, d5] }
  | _ => none }
def diskFaultsRow : OpenClaim := { program := "yteabnfdeklajlaagreat", sum := "84f408cf3b3ea759c06a160c525d3d19944b035594a7ab7e0877492ae3a8b911", func := "treadle/treadlelaw3.DiskFaults", spec := "diskFaults", inPlace := ["maps.clone"], unfollowed := true, recurses := true, apart := false }
def DiskFaultsSaid : Prop := diskFaultsRow.holds Tryz.pinned (OpenSpec.ofChange diskFaultsSpec)

/-- ITS FALSE NEIGHBOUR: 'it returns false'. Refute it at one input. -/
def diskFaultsWrong : ChangeSpec := { name := "diskFaults", fn := fun _ => fun
  | [d1, d2, d3, d4, d5] => { results := [.lit (.bool false)], args := [d1, d2, d3, d4, d5] }
  | _ => none }
def DiskFaultsWrongFalsely : Prop := diskFaultsRow.holds Tryz.pinned (OpenSpec.ofChange diskFaultsWrong)

/-- 'treadlelaw3.DiskTorn': WHATEVER THE INPUT: true; the input reads as it did. -/
def diskTornSpec : ChangeSpec := { name := "diskTorn", fn := fun _ => fun
  | [d1, d2, d3, d4] => { results := [.lit (.bool true)], args := [d1, d2, d3, d4] }
  | _ => none }
def diskTornRow : OpenClaim := { program := "yteabnfdeklajlaagreat", sum := "84f408cf3b3ea759c06a160c525d3d19944b035594a7ab7e0877492ae3a8b911", func := "treadle/treadlelaw3.DiskTorn", spec := "diskTorn", inPlace := ["maps.clone"], unfollowed := true, recurses := true, apart := false }
def DiskTornSaid : Prop := diskTornRow.holds Tryz.pinned (OpenSpec.ofChange diskTornSpec)

/-- ITS FALSE NEIGHBOUR: 'it returns false'. Refute it at one input. -/
def diskTornWrong : ChangeSpec := { name := "diskTorn", fn := fun _ => fun
  | [d1, d2, d3, d4] => { results := [.lit (.bool false)], args := [d1, d2, d3, d4] }
  | _ => none }
def DiskTornWrongFalsely : Prop := diskTornRow.holds Tryz.pinned (OpenSpec.ofChange diskTornWrong)

/-- 'treadlelaw3.DiskNews': WHATEVER THE INPUT: true; the input reads as it did. -/
def diskNewsSpec : ChangeSpec := { name := "diskNews", fn := fun _ => fun
  | [d1, d2] => { results := [.lit (.bool true)], args := [d1, d2] }
  | _ => none }
def diskNewsRow : OpenClaim := { program := "yteabnfdeklajlaagreat", sum := "84f408cf3b3ea759c06a160c525d3d19944b035594a7ab7e0877492ae3a8b911", func := "treadle/treadlelaw3.DiskNews", spec := "diskNews", inPlace := ["maps.clone"], unfollowed := true, recurses := true, apart := false }
def DiskNewsSaid : Prop := diskNewsRow.holds Tryz.pinned (OpenSpec.ofChange diskNewsSpec)

/-- ITS FALSE NEIGHBOUR: 'it returns false'. Refute it at one input. -/
def diskNewsWrong : ChangeSpec := { name := "diskNews", fn := fun _ => fun
  | [d1, d2] => { results := [.lit (.bool false)], args := [d1, d2] }
  | _ => none }
def DiskNewsWrongFalsely : Prop := diskNewsRow.holds Tryz.pinned (OpenSpec.ofChange diskNewsWrong)

/-- 'treadlelaw3.DiskNamesakes': WHATEVER THE INPUT: true; the input reads as it did. -/
def diskNamesakesSpec : ChangeSpec := { name := "diskNamesakes", fn := fun _ => fun
  | [d1, d2] => { results := [.lit (.bool true)], args := [d1, d2] }
  | _ => none }
def diskNamesakesRow : OpenClaim := { program := "yteabnfdeklajlaagreat", sum := "84f408cf3b3ea759c06a160c525d3d19944b035594a7ab7e0877492ae3a8b911", func := "treadle/treadlelaw3.DiskNamesakes", spec := "diskNamesakes", inPlace := ["maps.clone"], unfollowed := true, recurses := true, apart := false }
def DiskNamesakesSaid : Prop := diskNamesakesRow.holds Tryz.pinned (OpenSpec.ofChange diskNamesakesSpec)

/-- ITS FALSE NEIGHBOUR: 'it returns false'. Refute it at one input. -/
def diskNamesakesWrong : ChangeSpec := { name := "diskNamesakes", fn := fun _ => fun
  | [d1, d2] => { results := [.lit (.bool false)], args := [d1, d2] }
  | _ => none }
def DiskNamesakesWrongFalsely : Prop := diskNamesakesRow.holds Tryz.pinned (OpenSpec.ofChange diskNamesakesWrong)

/-- 'treadlelaw3.DiskNames': WHATEVER THE INPUT: true; the input reads as it did. -/
def diskNamesSpec : ChangeSpec := { name := "diskNames", fn := fun _ => fun
  | [d1, d2, d3, d4] => { results := [.lit (.bool true)], args := [d1, d2, d3, d4] }
  | _ => none }
def diskNamesRow : OpenClaim := { program := "yteabnfdeklajlaagreat", sum := "84f408cf3b3ea759c06a160c525d3d19944b035594a7ab7e0877492ae3a8b911", func := "treadle/treadlelaw3.DiskNames", spec := "diskNames", inPlace := ["maps.clone"], unfollowed := true, recurses := true, apart := false }
def DiskNamesSaid : Prop := diskNamesRow.holds Tryz.pinned (OpenSpec.ofChange diskNamesSpec)

/-- ITS FALSE NEIGHBOUR: 'it returns false'. Refute it at one input. -/
def diskNamesWrong : ChangeSpec := { name := "diskNames", fn := fun _ => fun
  | [d1, d2, d3, d4] => { results := [.lit (.bool false)], args := [d1, d2, d3, d4] }
  | _ => none }
def DiskNamesWrongFalsely : Prop := diskNamesRow.holds Tryz.pinned (OpenSpec.ofChange diskNamesWrong)

/-- 'treadlelaw3.DiskSafe': WHATEVER THE INPUT: true; the input reads as it did. -/
def diskSafeSpec : ChangeSpec := { name := "diskSafe", fn := fun _ => fun
  | [d1, d2, d3, d4] => { results := [.lit (.bool true)], args := [d1, d2, d3, d4] }
  | _ => none }
def diskSafeRow : OpenClaim := { program := "yteabnfdeklajlaagreat", sum := "84f408cf3b3ea759c06a160c525d3d19944b035594a7ab7e0877492ae3a8b911", func := "treadle/treadlelaw3.DiskSafe", spec := "diskSafe", inPlace := ["maps.clone"], unfollowed := true, recurses := true, apart := false }
def DiskSafeSaid : Prop := diskSafeRow.holds Tryz.pinned (OpenSpec.ofChange diskSafeSpec)

/-- ITS FALSE NEIGHBOUR: 'it returns false'. Refute it at one input. -/
def diskSafeWrong : ChangeSpec := { name := "diskSafe", fn := fun _ => fun
  | [d1, d2, d3, d4] => { results := [.lit (.bool false)], args := [d1, d2, d3, d4] }
  | _ => none }
def DiskSafeWrongFalsely : Prop := diskSafeRow.holds Tryz.pinned (OpenSpec.ofChange diskSafeWrong)

/- THE SECOND FORM. 'bulk': how many values and letters a reading holds, each counted each time it is reached (what is shared counts as often as it is met; a slice's spare places count too). A statement '..UptoSaid' is the law's where the arguments, and the package variables that the reading takes, are together of bulk at most 1048576: NARROWER than '..Said'. Prove '..Said' where nothing that the law and all that it calls make is longer than what came in: it says more and counts as full. Else prove '..UptoSaid'. A law counts once. -/
mutual
def uptoBulk {H : Type} : DataW H → Nat
  | .lit (.string bytes) => bytes.length + 1
  | .lit _ => 1
  | .nil => 1
  | .ptr d => uptoBulk d + 1
  | .slice elems spare => uptoBulkAll elems + uptoBulkAll spare + 1
  | .agg parts => uptoBulkAll parts + 1
  | .iface _ d => uptoBulk d + 1
  | .map entries => uptoBulkEntries entries + 1
  | .held _ => 1
def uptoBulkAll {H : Type} : List (DataW H) → Nat
  | [] => 0
  | d :: r => uptoBulk d + uptoBulkAll r
def uptoBulkEntries {H : Type} : List (Lit × DataW H) → Nat
  | [] => 0
  | x :: r => uptoBulkEntry x + uptoBulkEntries r
def uptoBulkEntry {H : Type} : Lit × DataW H → Nat
  | (.string bytes, d) => bytes.length + uptoBulk d + 1
  | (_, d) => uptoBulk d + 1
 end
def uptoSmall : (H : Type) → List (DataW H) → Bool := fun _ ds => decide (uptoBulkAll ds ≤ 1048576)
def OpenSpec.upto (s : _root_.Go.ChangeSpec) : _root_.Go.OpenSpec := { _root_.Go.OpenSpec.ofChange s with cond := some uptoSmall }

/-- 'treadlelaw3.DiskFaults', WHERE WHAT IT READS IS OF BULK AT MOST 1048576: true; the input reads as it did. -/
def diskFaultsUptoRow : OpenClaim := { program := "yteabnfdeklajlaagreat", sum := "84f408cf3b3ea759c06a160c525d3d19944b035594a7ab7e0877492ae3a8b911", func := "treadle/treadlelaw3.DiskFaults", spec := "diskFaults", inPlace := ["maps.clone"], unfollowed := true, recurses := true, apart := false, narrowed := true }
def DiskFaultsUptoSaid : Prop := diskFaultsUptoRow.holds Tryz.pinned (OpenSpec.upto diskFaultsSpec)

/-- 'treadlelaw3.DiskTorn', WHERE WHAT IT READS IS OF BULK AT MOST 1048576: true; the input reads as it did. -/
def diskTornUptoRow : OpenClaim := { program := "yteabnfdeklajlaagreat", sum := "84f408cf3b3ea759c06a160c525d3d19944b035594a7ab7e0877492ae3a8b911", func := "treadle/treadlelaw3.DiskTorn", spec := "diskTorn", inPlace := ["maps.clone"], unfollowed := true, recurses := true, apart := false, narrowed := true }
def DiskTornUptoSaid : Prop := diskTornUptoRow.holds Tryz.pinned (OpenSpec.upto diskTornSpec)

/-- 'treadlelaw3.DiskNews', WHERE WHAT IT READS IS OF BULK AT MOST 1048576: true; the input reads as it did. -/
def diskNewsUptoRow : OpenClaim := { program := "yteabnfdeklajlaagreat", sum := "84f408cf3b3ea759c06a160c525d3d19944b035594a7ab7e0877492ae3a8b911", func := "treadle/treadlelaw3.DiskNews", spec := "diskNews", inPlace := ["maps.clone"], unfollowed := true, recurses := true, apart := false, narrowed := true }
def DiskNewsUptoSaid : Prop := diskNewsUptoRow.holds Tryz.pinned (OpenSpec.upto diskNewsSpec)

/-- 'treadlelaw3.DiskNamesakes', WHERE WHAT IT READS IS OF BULK AT MOST 1048576: true; the input reads as it did. -/
def diskNamesakesUptoRow : OpenClaim := { program := "yteabnfdeklajlaagreat", sum := "84f408cf3b3ea759c06a160c525d3d19944b035594a7ab7e0877492ae3a8b911", func := "treadle/treadlelaw3.DiskNamesakes", spec := "diskNamesakes", inPlace := ["maps.clone"], unfollowed := true, recurses := true, apart := false, narrowed := true }
def DiskNamesakesUptoSaid : Prop := diskNamesakesUptoRow.holds Tryz.pinned (OpenSpec.upto diskNamesakesSpec)

/-- 'treadlelaw3.DiskNames', WHERE WHAT IT READS IS OF BULK AT MOST 1048576: true; the input reads as it did. -/
def diskNamesUptoRow : OpenClaim := { program := "yteabnfdeklajlaagreat", sum := "84f408cf3b3ea759c06a160c525d3d19944b035594a7ab7e0877492ae3a8b911", func := "treadle/treadlelaw3.DiskNames", spec := "diskNames", inPlace := ["maps.clone"], unfollowed := true, recurses := true, apart := false, narrowed := true }
def DiskNamesUptoSaid : Prop := diskNamesUptoRow.holds Tryz.pinned (OpenSpec.upto diskNamesSpec)

/-- 'treadlelaw3.DiskSafe', WHERE WHAT IT READS IS OF BULK AT MOST 1048576: true; the input reads as it did. -/
def diskSafeUptoRow : OpenClaim := { program := "yteabnfdeklajlaagreat", sum := "84f408cf3b3ea759c06a160c525d3d19944b035594a7ab7e0877492ae3a8b911", func := "treadle/treadlelaw3.DiskSafe", spec := "diskSafe", inPlace := ["maps.clone"], unfollowed := true, recurses := true, apart := false, narrowed := true }
def DiskSafeUptoSaid : Prop := diskSafeUptoRow.holds Tryz.pinned (OpenSpec.upto diskSafeSpec)

end Rows
end Go.Proofs.YteabnfdeklajlaaGreat
