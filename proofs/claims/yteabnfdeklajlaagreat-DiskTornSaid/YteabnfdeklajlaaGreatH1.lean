/- Part of a proof, by program out of hand-written texts. -/
import Derived.Test.YteabnfdeklajlaaGreatG1
import Derived.Test.YteabnfdeklajlaaGreatG2
import Derived.Test.YteabnfdeklajlaaGreatG3
import Derived.Test.YteabnfdeklajlaaGreatG4
import Derived.Test.YteabnfdeklajlaaGreatG5
import Derived.Ground.GgmProg
import Derived.Ground.GgzProg
import Derived.Ground.SlgmProg
import Derived.Ground.SlgnProg
import Derived.Ground.SlmcProg
import Derived.Ground.SlmdProg
import Derived.Ground.SlmpProg
import Derived.Maps.OwnSet
import Derived.Shelf.SlIter.AllValues
import Derived.Shelf.SlIter.Nil
import Derived.Shelf.SlIter.NilStops
import Derived.Shelf.SlIterI.Collect
import Derived.Shelf.SlMaps.Clone
import Derived.Shelf.SlMaps.DeleteFunc
import Derived.Shelf.SlicesG.CompactI
import Derived.Shelf.SlicesG.Turned
import Derived.Shelf.SortM.Plain
import Derived.Shelf.SortM.SortNone
import Derived.Sort.KeysCollected
import Derived.Test.YteabnfdeklajlaaGreatChecked
/-! VM: maps of names as sorted lists. -/
set_option linter.unusedSectionVars false
namespace Go.V
open Go Go.ChangeMaps Go.MapKept
open Go.WideElems (Fit rd rg pl rd_val elemAt)
open Go.Maps (Keyed)
/-- Names and what they have, by name, rising. -/
abbrev Nm := List (List UInt8 × Int)
def Nm.D (m : Nm) : DataW Unit := .map (m.map fun p => (.string p.1, .lit (.int .i64 p.2)))
def Nm.ins (x : List UInt8 × Int) : Nm → Nm
  | [] => [x]
  | y :: r => if bytesBefore x.1 y.1 then x :: y :: r else y :: Nm.ins x r
def Nm.del (m : Nm) (k : List UInt8) : Nm := m.filter fun p => !(p.1 == k)
def Nm.put (m : Nm) (k : List UInt8) (v : Int) : Nm := Nm.ins (k, v) (m.del k)
def Nm.get (m : Nm) (k : List UInt8) : Option Int := (m.find? fun p => p.1 == k).map (·.2)
theorem Nm.D_ins (x : List UInt8 × Int) (m : Nm) : (Nm.ins x m).map (fun p => ((Lit.string p.1, DataW.lit (.int .i64 p.2)) : Lit × DataW Unit)) = DataW.insert (.string x.1, .lit (.int .i64 x.2)) (m.map fun p => (.string p.1, .lit (.int .i64 p.2))) := by
  induction m with
  | nil => rfl
  | cons y r ih =>
    cases h : bytesBefore x.1 y.1 with
    | true => simp [Nm.ins, DataW.insert, Lit.before, h]
    | false => simp [Nm.ins, DataW.insert, Lit.before, h, ih]
theorem Nm.D_del (m : Nm) (k : List UInt8) : (m.del k).D = m.D.del (.string k) := by
  simp only [Nm.D, Nm.del, DataW.del, List.filter_map]
  rfl
theorem Nm.D_put (m : Nm) (k : List UInt8) (v : Int) : (m.put k v).D = m.D.put (.string k) (.lit (.int .i64 v)) := by
  simp only [Nm.D, Nm.put, DataW.put]
  rw [Nm.D_ins]
  congr 1
  simp only [Nm.del, List.filter_map]
  rfl
theorem Nm.get_eq (m : Nm) (k : List UInt8) (zd : DataW Unit) : m.D.atKey (.string k) zd = match m.get k with | some v => .lit (.int .i64 v) | none => zd := by
  simp only [Nm.D, DataW.atKey, Nm.get]
  rw [List.find?_map]
  have : ((fun p : Lit × DataW Unit => p.1.sameKey (.string k)) ∘ fun p : List UInt8 × Int => ((Lit.string p.1, DataW.lit (.int .i64 p.2)) : Lit × DataW Unit)) = fun p => p.1 == k := rfl
  rw [this]
  cases m.find? fun p => p.1 == k <;> rfl
theorem Nm.has_eq (m : Nm) (k : List UInt8) : Maps.has m.D (.string k) = (m.get k).isSome := by
  simp only [Nm.D, Maps.has_eq, Nm.get, List.any_map, Option.isSome_map]
  rw [Bool.eq_iff_iff, List.any_eq_true, List.find?_isSome]
  rfl

/-! ### a map in a heap, as names -/
def NmAt (P : Program) (kt et : TypeId) (h : Hp) (b : Nat) (m : Nm) : Prop := MapOn P kt (plainElem P et) h b m.length m.D
theorem MapOn.kp {H : Type} {P : Program} {k : TypeId} {Rd : Value → Option (DataW H × List MemPlace)} {h h' : Hp} {b n : Nat} {D : DataW H} (o : MapOn P k Rd h b n D) {W : Nat → Prop} (g : Kp W h h') (hn : ¬ W b) : MapOn P k Rd h' b n D := by
  obtain ⟨es, clock, hb, r⟩ := o
  exact ⟨es, clock, g.at hb hn, r⟩
theorem MapOn.lt {H : Type} {P : Program} {k : TypeId} {Rd : Value → Option (DataW H × List MemPlace)} {h : Hp} {b n : Nat} {D : DataW H} (o : MapOn P k Rd h b n D) : b < h.size := by
  obtain ⟨es, clock, hb, r⟩ := o
  exact lt_of_some hb
/-- A block that holds a map. -/
def isMapB (h : Hp) (b : Nat) : Prop := ∃ es clock, h[b]? = some (.map es clock)
theorem MapOn.isMap {H : Type} {P : Program} {k : TypeId} {Rd : Value → Option (DataW H × List MemPlace)} {h : Hp} {b n : Nat} {D : DataW H} (o : MapOn P k Rd h b n D) : isMapB h b := by
  obtain ⟨es, clock, hb, r⟩ := o
  exact ⟨es, clock, hb⟩
theorem MapOn.made {H : Type} (P : Program) (k : TypeId) (Rd : Value → Option (DataW H × List MemPlace)) (h : Hp) : MapOn P k Rd (h.push (.map #[] 0)) h.size 0 (.map []) :=
  ⟨#[], 0, push_new _ _, ⟨by simp, stamped_empty 0, by simp⟩, Nat.le_refl _, rfl⟩
theorem NmAt.exact {P : Program} {kt et : TypeId} {h : Hp} {b n : Nat} {m : Nm} (o : MapOn P kt (plainElem P et) h b n m.D) : NmAt P kt et h b m := by
  obtain ⟨es', clock, hb, F, hs, hD⟩ := o
  refine ⟨es', clock, hb, F, ?_, hD⟩
  have := congrArg Maps.size hD
  simp only [Nm.D, Maps.size_eq, List.length_map, Go.length_sorted] at this
  rw [this]; simp
theorem MapOn.exact {H : Type} {P : Program} {k : TypeId} {Rd : Value → Option (DataW H × List MemPlace)} {h : Hp} {b n : Nat} {es : List (Lit × DataW H)} (o : MapOn P k Rd h b n (.map es)) : MapOn P k Rd h b es.length (.map es) := by
  obtain ⟨es', clock, hb, F, hs, hD⟩ := o
  refine ⟨es', clock, hb, F, ?_, hD⟩
  simp only [DataW.map.injEq] at hD
  rw [hD, length_sorted]
  simp

def zeroIs (P : Program) (e : TypeId) (z : Value) : Prop := ∀ w : World, (zeroValue e).run P w = .ok z w
theorem Inf.zeroIs {P : Program} {e : TypeId} {z : Value} {sz bs : Nat} (hi : Inf P e z sz bs) : V.zeroIs P e z := fun w =>
  let ⟨_, i1, i2, _, _⟩ := hi.get
  run_zero' i1 i2 w

section
variable {P : Program} {t kt et : TypeId} (hk : P.underlying kt = some .string) (he : P.underlying et = some (.int .i64)) (ht : P.underlying t = some (.map kt et)) {h : Hp}
include hk he ht
theorem NmAt.look {b : Nat} {m : Nm} (o : NmAt P kt et h b m) (hz : zeroIs P et (.int .i64 0)) {s : ByteArray} (hs : s.size ≤ maxLen) (c : Bool) :
    MLk P t h (.map (some b)) (.string s) c (if c then .tuple #[.int .i64 ((m.get s.data.toList).getD 0), .bool (m.get s.data.toList).isSome] else .int .i64 ((m.get s.data.toList).getD 0)) := by
  intro w hw
  subst hw
  obtain ⟨es, clock, hb, F, _, hD⟩ := o
  have hkey : keyOf P kt (.string s) = some (.string s.data.toList) := by simp [keyOf, hk, mapKey, hs]
  rcases Maps.fit_look c (Maps.string_keyed hk) ht (hz w) hb F hkey with ⟨hrun, _, hat⟩ | ⟨e0, y, _, _, hrun, hR, hat, _⟩
  · rw [← hD] at hat
    have h0 := hat .nil
    rw [Nm.get_eq] at h0
    cases hg : m.get s.data.toList with
    | some v => rw [hg] at h0; cases h0
    | none => rw [hrun]; rfl
  · rw [← hD] at hat
    have h0 := hat .nil
    rw [Nm.get_eq] at h0
    obtain ⟨a, ea, rfl, _⟩ := plainElem_int_inv he hR
    cases hg : m.get s.data.toList with
    | none => rw [hg] at h0; cases h0
    | some v =>
      rw [hg] at h0
      cases h0
      rw [hrun, ea]; rfl
theorem NmAt.look2 {b : Nat} {m : Nm} (o : NmAt P kt et h b m) (hz : zeroIs P et (.int .i64 0)) {s : ByteArray} (hs : s.size ≤ maxLen) :
    MLk P t h (.map (some b)) (.string s) true (.tuple #[.int .i64 ((m.get s.data.toList).getD 0), .bool (m.get s.data.toList).isSome]) := NmAt.look hk he ht o hz hs true
theorem NmAt.look1 {b : Nat} {m : Nm} (o : NmAt P kt et h b m) (hz : zeroIs P et (.int .i64 0)) {s : ByteArray} (hs : s.size ≤ maxLen) :
    MLk P t h (.map (some b)) (.string s) false (.int .i64 ((m.get s.data.toList).getD 0)) := NmAt.look hk he ht o hz hs false

theorem NmAt.put {b : Nat} {m : Nm} (o : NmAt P kt et h b m) (hm : m.length < maxLen) {s : ByteArray} (hs : s.size ≤ maxLen) {v : Int} (hv : (Lit.int .i64 v).wf = true) :
    MUp P t h (.map (some b)) (.string s) (.int .i64 v) fun h1 => NmAt P kt et h1 b (m.put s.data.toList v) ∧ Kp (· = b) h h1 := by
  intro w hw
  subst hw
  obtain ⟨es, clock, hb, F, hsz, hD⟩ := o
  have hkey : keyOf P kt (.string s) = some (.string s.data.toList) := by simp [keyOf, hk, mapKey, hs]
  obtain ⟨es', clock', hrun, F', hput, _⟩ := Maps.fit_store (R' := plainElem P et) (Maps.string_keyed hk) ht hb F (Nat.lt_of_le_of_lt hsz hm) (fun _ _ _ _ hz => hz) hkey (plainElem_int (H := Unit) he hv)
  refine ⟨_, hrun, ?_, ⟨by simp, fun k hk hn => ?_⟩⟩
  · have hb' : (w.heap.setIfInBounds b (.map es' clock'))[b]? = some (.map es' clock') := by
      have := lt_of_some hb
      simp [this]
    refine NmAt.exact (n := es'.size) ⟨es', clock', hb', F', Nat.le_refl _, ?_⟩
    rw [hput, Nm.D_put, hD]
    rfl
  · rw [Array.getElem?_setIfInBounds_ne (fun e => hn e.symm)]

theorem NmAt.del {b : Nat} {m : Nm} (o : NmAt P kt et h b m) {s : ByteArray} (hs : s.size ≤ maxLen) :
    MDl P t kt h (.map (some b)) (.string s) fun h1 => NmAt P kt et h1 b (m.del s.data.toList) ∧ Kp (· = b) h h1 := by
  intro ty w hw
  subst hw
  obtain ⟨es, clock, hb, F, hsz, hD⟩ := o
  have hkey : keyOf P kt (.string s) = some (.string s.data.toList) := by simp [keyOf, hk, mapKey, hs]
  obtain ⟨es', hrun, F', hle, hdel, _⟩ := Maps.fit_drop (ty := ty) (Maps.string_keyed hk) ht hb F hkey
  refine ⟨_, hrun, ?_, ⟨by simp, fun k hk hn => ?_⟩⟩
  · have hb' : (w.heap.setIfInBounds b (.map es' clock))[b]? = some (.map es' clock) := by
      have := lt_of_some hb
      simp [this]
    refine NmAt.exact (n := es'.size) ⟨es', clock, hb', F', Nat.le_refl _, ?_⟩
    rw [hdel, Nm.D_del, hD, DataW.del_eq]
  · rw [Array.getElem?_setIfInBounds_ne (fun e => hn e.symm)]
end
/-! ### maps from numbers to places (values held as they are) -/
def heldR : Bool → Value → Option (DataW Value × List MemPlace)
  | true, .pointer p => some (.held (.pointer p), [])
  | false, .slice A n c => some (.held (.slice A n c), [])
  | _, _ => none
theorem heldR_inv {q : Bool} {v : Value} {y : DataW Value × List MemPlace} (h : heldR q v = some y) : y = (.held v, []) ∧ (q = true → ∃ p, v = .pointer p) := by
  cases q <;> cases v <;> simp [heldR] at h
  · exact ⟨h.symm, fun h => Bool.noConfusion h⟩
  · exact ⟨h.symm, fun _ => ⟨_, rfl⟩⟩
abbrev Im := List (Int × Value)
def Im.D (m : Im) : DataW Value := .map (m.map fun p => (.int .i64 p.1, .held p.2))
def Im.get (m : Im) (k : Int) : Option Value := (m.find? fun p => p.1 == k).map (·.2)
def ImAt (q : Bool) (P : Program) (kt : TypeId) (h : Hp) (b : Nat) (m : Im) : Prop := MapOn P kt (heldR q) h b m.length m.D
theorem ImAt.exact {q : Bool} {P : Program} {kt : TypeId} {h : Hp} {b n : Nat} {m : Im} (o : MapOn P kt (heldR q) h b n m.D) : ImAt q P kt h b m := by
  obtain ⟨es', clock, hb, F, hs, hD⟩ := o
  refine ⟨es', clock, hb, F, ?_, hD⟩
  have := congrArg Maps.size hD
  simp only [Im.D, Maps.size_eq, List.length_map, Go.length_sorted] at this
  rw [this]; simp
theorem Im.get_eq (m : Im) (k : Int) (zd : DataW Value) : m.D.atKey (.int .i64 k) zd = match m.get k with | some v => .held v | none => zd := by
  simp only [Im.D, DataW.atKey, Im.get]
  rw [List.find?_map]
  have : ((fun p : Lit × DataW Value => p.1.sameKey (.int .i64 k)) ∘ fun p : Int × Value => ((Lit.int .i64 p.1, DataW.held p.2) : Lit × DataW Value)) = fun p => p.1 == k := by
    funext p
    simp only [Function.comp, Lit.sameKey]
    rw [Bool.eq_iff_iff]; simp
  rw [this]
  cases m.find? fun p => p.1 == k <;> rfl
section
variable {P : Program} {t kt et : TypeId} (hk : P.underlying kt = some (.int .i64)) (ht : P.underlying t = some (.map kt et)) {h : Hp}
include hk ht
theorem ImAt.look {b : Nat} {m : Im} {q : Bool} (o : ImAt q P kt h b m) {z : Value} (hz : zeroIs P et z) {i : Int} (hi : (Lit.int .i64 i).wf = true) :
    MLk P t h (.map (some b)) (.int .i64 i) false ((m.get i).getD z) := by
  intro w hw
  subst hw
  obtain ⟨es, clock, hb, F, _, hD⟩ := o
  have hkey : keyOf P kt (.int .i64 i) = some (.int .i64 i) := Maps.keyOf_int_mk hk hi
  rcases Maps.fit_look false (Maps.int_keyed hk) ht (hz w) hb F hkey with ⟨hrun, _, hat⟩ | ⟨e0, y, _, _, hrun, hR, hat, _⟩
  · rw [← hD] at hat
    have h0 := hat .nil
    rw [Im.get_eq] at h0
    cases hg : m.get i with
    | some v => rw [hg] at h0; cases h0
    | none => rw [hrun]; rfl
  · rw [← hD] at hat
    have h0 := hat .nil
    rw [Im.get_eq] at h0
    obtain ⟨rfl, _⟩ := heldR_inv hR
    cases hg : m.get i with
    | none => rw [hg] at h0; cases h0
    | some v =>
      rw [hg] at h0
      cases h0
      rw [hrun]; rfl
/-- A new number behind all that are there. -/
theorem ImAt.put {b : Nat} {m : Im} {q : Bool} (o : ImAt q P kt h b m) (hm : m.length < maxLen) {i : Int} (hi : (Lit.int .i64 i).wf = true) (hbig : ∀ p ∈ m, p.1 < i) {v : Value} (hRv : heldR q v = some (.held v, [])) :
    MUp P t h (.map (some b)) (.int .i64 i) v fun h1 => ImAt q P kt h1 b (m ++ [(i, v)]) ∧ Kp (· = b) h h1 := by
  intro w hw
  subst hw
  obtain ⟨es, clock, hb, F, hsz, hD⟩ := o
  have hkey : keyOf P kt (.int .i64 i) = some (.int .i64 i) := Maps.keyOf_int_mk hk hi
  obtain ⟨es', clock', hrun, F', hput, _⟩ := Maps.fit_store (R' := heldR q) (val := v) (yv := (.held v, [])) (Maps.int_keyed hk) ht hb F (Nat.lt_of_le_of_lt hsz hm) (fun _ _ _ _ hz => hz) hkey hRv
  refine ⟨_, hrun, ?_, ⟨by simp, fun k hk hn => ?_⟩⟩
  · have hb' : (w.heap.setIfInBounds b (.map es' clock'))[b]? = some (.map es' clock') := by
      have := lt_of_some hb
      simp [this]
    have hput' : putKey (.int .i64 i) (.held v : DataW Value) (m.map fun p => ((Lit.int .i64 p.1, DataW.held p.2) : Lit × DataW Value)) = (m ++ [(i, v)]).map fun p => (Lit.int .i64 p.1, DataW.held p.2) := by
      unfold putKey
      rw [List.filter_eq_self.2 (by
        intro p hp
        obtain ⟨q, hq, rfl⟩ := List.mem_map.1 hp
        have := hbig q hq
        simp only [notKey]
        simp [Lit.sameKey]; omega)]
      clear hD hsz hm hput
      induction m with
      | nil => rfl
      | cons y r ih =>
        have h1 := hbig y List.mem_cons_self
        have h2 : decide (i < y.1) = false := by simp; omega
        have h3 := ih (fun p hp => hbig p (List.mem_cons_of_mem _ hp))
        simp only [List.map_cons, DataW.insert, Lit.before, List.cons_append, h2, h3]
        rfl
    refine ImAt.exact (n := es'.size) ⟨es', clock', hb', F', Nat.le_refl _, ?_⟩
    have hD' : (m.map fun p => ((Lit.int .i64 p.1, DataW.held p.2) : Lit × DataW Value)) = (es.toList.map (rg P kt (heldR q))).foldr DataW.insert [] := by
      simpa [Im.D] using hD
    rw [hput, ← hD']
    simp only [Im.D]
    rw [hput']
  · rw [Array.getElem?_setIfInBounds_ne (fun e => hn e.symm)]
end
end Go.V
namespace Go.Proofs
open Go.RowKit Go.Maps Go.Sort Go.Shelf
def Tryz.keysL_ren : Go.Shelf.Ren := ⟨fun | 7 => 85 | 10 => 101 | n => n, fun | 23 => 101 | 26 => 9 | 3 => 3 | 28 => 144 | 0 => 0 | 27 => 143 | 33 => 141 | 4 => 4 | n => n, fun | n => n⟩
theorem Tryz.keysL : Go.Proofs.SlLaysZ.n7 Tryz.prog Tryz.keysL_ren := {
  mixed := by kernel_rfl
  f7 := ⟨Tryz.f85.name, by decide, Tryz.func85.trans (congrArg some (by kernel_rfl))⟩
  f10 := ⟨Tryz.f101.name, by decide, Tryz.func101.trans (congrArg some (by kernel_rfl))⟩
  t0 := Tryz.underlying0
  a0 := Tryz.isAgg0
  z0 := Tryz.sizeOf0
  v0 := Tryz.zeroValue0
  t4 := Tryz.underlying4
  a4 := Tryz.isAgg4
  z4 := Tryz.sizeOf4
  v4 := Tryz.zeroValue4
  t23 := Tryz.underlying101
  a23 := Tryz.isAgg101
  z23 := Tryz.sizeOf101
  v23 := Tryz.zeroValue101
  t26 := Tryz.underlying9
  a26 := Tryz.isAgg9
  z26 := Tryz.sizeOf9
  v26 := Tryz.zeroValue9
  t27 := Tryz.underlying143
  a27 := Tryz.isAgg143
  z27 := Tryz.sizeOf143
  v27 := Tryz.zeroValue143
  t28 := Tryz.underlying144
  a28 := Tryz.isAgg144
  z28 := Tryz.sizeOf144
  v28 := Tryz.zeroValue144
  t33 := Tryz.underlying141
  a33 := Tryz.isAgg141
  z33 := Tryz.sizeOf141
  v33 := Tryz.zeroValue141 }
def Tryz.sortedL_ren : Go.Shelf.Ren := ⟨fun | 6 => 84 | 8 => 99 | 9 => 100 | 11 => 113 | 13 => 115 | 12 => 114 | 23 => 130 | 24 => 131 | 14 => 121 | 15 => 122 | 16 => 123 | 17 => 124 | 18 => 125 | 19 => 126 | 20 => 127 | 21 => 128 | 22 => 129 | 25 => 143 | 26 => 144 | 27 => 145 | 28 => 146 | 29 => 147 | 30 => 148 | 31 => 153 | n => n, fun | 26 => 9 | 28 => 144 | 24 => 71 | 0 => 0 | 3 => 3 | 37 => 180 | 48 => 197 | 50 => 199 | 4 => 4 | 40 => 190 | 39 => 189 | 45 => 147 | 5 => 5 | 9 => 9 | 51 => 207 | 55 => 211 | 57 => 215 | 58 => 75 | 33 => 141 | n => n, fun | n => n⟩
theorem Tryz.sortedL : Go.Proofs.SlLaysZ.n6 Tryz.prog Tryz.sortedL_ren := {
  mixed := by kernel_rfl
  f6 := ⟨Tryz.f84.name, by decide, Tryz.func84.trans (congrArg some (by kernel_rfl))⟩
  f8 := ⟨Tryz.f99.name, by decide, Tryz.func99.trans (congrArg some (by kernel_rfl))⟩
  f11 := ⟨Tryz.f113.name, by decide, Tryz.func113.trans (congrArg some (by kernel_rfl))⟩
  t0 := Tryz.underlying0
  a0 := Tryz.isAgg0
  z0 := Tryz.sizeOf0
  v0 := Tryz.zeroValue0
  t24 := Tryz.underlying71
  a24 := Tryz.isAgg71
  z24 := Tryz.sizeOf71
  v24 := Tryz.zeroValue71
  t26 := Tryz.underlying9
  a26 := Tryz.isAgg9
  z26 := Tryz.sizeOf9
  v26 := Tryz.zeroValue9
  t28 := Tryz.underlying144
  a28 := Tryz.isAgg144
  z28 := Tryz.sizeOf144
  v28 := Tryz.zeroValue144
  i26 := by kernel_rfl }
def Tryz.sortSL_ren : Go.Shelf.Ren := ⟨fun | 6 => 100 | 8 => 115 | 9 => 114 | 19 => 130 | 20 => 131 | 21 => 121 | 22 => 122 | 23 => 123 | 24 => 124 | 25 => 125 | 26 => 126 | 27 => 127 | 28 => 128 | 29 => 129 | 36 => 143 | 31 => 144 | 32 => 145 | 37 => 146 | 38 => 147 | 39 => 148 | 41 => 153 | n => n, fun | 27 => 71 | 29 => 9 | 3 => 3 | 32 => 180 | 26 => 71 | 0 => 0 | 44 => 197 | 46 => 199 | 4 => 4 | 36 => 190 | 35 => 189 | 41 => 147 | 5 => 5 | 9 => 9 | 53 => 207 | 57 => 211 | 63 => 215 | 64 => 75 | n => n, fun | n => n⟩
theorem Tryz.sortSL : Go.Proofs.SlLaysM.n6 Tryz.prog Tryz.sortSL_ren := {
  mixed := by kernel_rfl
  f6 := ⟨Tryz.f100.name, by decide, Tryz.func100.trans (congrArg some (by kernel_rfl))⟩
  f8 := Tryz.func115.trans (congrArg some (by kernel_rfl))
  f9 := ⟨Tryz.f114.name, by decide, Tryz.func114.trans (congrArg some (by kernel_rfl))⟩
  f19 := Tryz.func130.trans (congrArg some (by kernel_rfl))
  f20 := Tryz.func131.trans (congrArg some (by kernel_rfl))
  f21 := ⟨Tryz.f121.name, by decide, Tryz.func121.trans (congrArg some (by kernel_rfl))⟩
  f22 := ⟨Tryz.f122.name, by decide, Tryz.func122.trans (congrArg some (by kernel_rfl))⟩
  f23 := ⟨Tryz.f123.name, by decide, Tryz.func123.trans (congrArg some (by kernel_rfl))⟩
  f24 := ⟨Tryz.f124.name, by decide, Tryz.func124.trans (congrArg some (by kernel_rfl))⟩
  f25 := ⟨Tryz.f125.name, by decide, Tryz.func125.trans (congrArg some (by kernel_rfl))⟩
  f26 := ⟨Tryz.f126.name, by decide, Tryz.func126.trans (congrArg some (by kernel_rfl))⟩
  f27 := ⟨Tryz.f127.name, by decide, Tryz.func127.trans (congrArg some (by kernel_rfl))⟩
  f28 := ⟨Tryz.f128.name, by decide, Tryz.func128.trans (congrArg some (by kernel_rfl))⟩
  f29 := ⟨Tryz.f129.name, by decide, Tryz.func129.trans (congrArg some (by kernel_rfl))⟩
  f31 := Tryz.func144.trans (congrArg some (by kernel_rfl))
  f32 := Tryz.func145.trans (congrArg some (by kernel_rfl))
  f36 := ⟨Tryz.f143.name, by decide, Tryz.func143.trans (congrArg some (by kernel_rfl))⟩
  f37 := ⟨Tryz.f146.name, by decide, Tryz.func146.trans (congrArg some (by kernel_rfl))⟩
  f38 := ⟨Tryz.f147.name, by decide, Tryz.func147.trans (congrArg some (by kernel_rfl))⟩
  f39 := ⟨Tryz.f148.name, by decide, Tryz.func148.trans (congrArg some (by kernel_rfl))⟩
  f41 := ⟨Tryz.f153.name, by decide, Tryz.func153.trans (congrArg some (by kernel_rfl))⟩
  t0 := Tryz.underlying0
  a0 := Tryz.isAgg0
  z0 := Tryz.sizeOf0
  v0 := Tryz.zeroValue0
  t3 := Tryz.underlying3
  a3 := Tryz.isAgg3
  z3 := Tryz.sizeOf3
  v3 := Tryz.zeroValue3
  t4 := Tryz.underlying4
  a4 := Tryz.isAgg4
  z4 := Tryz.sizeOf4
  v4 := Tryz.zeroValue4
  t5 := Tryz.underlying5
  a5 := Tryz.isAgg5
  z5 := Tryz.sizeOf5
  v5 := Tryz.zeroValue5
  t9 := Tryz.underlying9
  a9 := Tryz.isAgg9
  z9 := Tryz.sizeOf9
  v9 := Tryz.zeroValue9
  t26 := Tryz.underlying71
  a26 := Tryz.isAgg71
  z26 := Tryz.sizeOf71
  v26 := Tryz.zeroValue71
  t27 := Tryz.underlying71
  a27 := Tryz.isAgg71
  z27 := Tryz.sizeOf71
  v27 := Tryz.zeroValue71
  t29 := Tryz.underlying9
  a29 := Tryz.isAgg9
  z29 := Tryz.sizeOf9
  v29 := Tryz.zeroValue9
  t32 := Tryz.underlying180
  a32 := Tryz.isAgg180
  z32 := Tryz.sizeOf180
  v32 := Tryz.zeroValue180
  t35 := Tryz.underlying189
  a35 := Tryz.isAgg189
  z35 := Tryz.sizeOf189
  v35 := Tryz.zeroValue189
  t36 := Tryz.underlying190
  a36 := Tryz.isAgg190
  z36 := Tryz.sizeOf190
  v36 := Tryz.zeroValue190
  t41 := Tryz.underlying147
  a41 := Tryz.isAgg147
  z41 := Tryz.sizeOf147
  v41 := Tryz.zeroValue147
  t44 := Tryz.underlying197
  a44 := Tryz.isAgg197
  z44 := Tryz.sizeOf197
  v44 := Tryz.zeroValue197
  t46 := Tryz.underlying199
  a46 := Tryz.isAgg199
  z46 := Tryz.sizeOf199
  v46 := Tryz.zeroValue199
  t53 := Tryz.underlying207
  a53 := Tryz.isAgg207
  z53 := Tryz.sizeOf207
  v53 := Tryz.zeroValue207
  t57 := Tryz.underlying211
  a57 := Tryz.isAgg211
  z57 := Tryz.sizeOf211
  v57 := Tryz.zeroValue211
  t63 := Tryz.underlying215
  a63 := Tryz.isAgg215
  z63 := Tryz.sizeOf215
  v63 := Tryz.zeroValue215
  t64 := Tryz.underlying75
  a64 := Tryz.isAgg75
  z64 := Tryz.sizeOf75
  v64 := Tryz.zeroValue75 }
def Tryz.valuesL_ren : Go.Shelf.Ren := ⟨fun | 5 => 103 | 7 => 117 | n => n, fun | 23 => 101 | 27 => 9 | 3 => 3 | 25 => 165 | 0 => 0 | 24 => 164 | 33 => 182 | 4 => 4 | n => n, fun | n => n⟩
theorem Tryz.valuesL : Go.Proofs.SlLaysY.n5 Tryz.prog Tryz.valuesL_ren := {
  mixed := by kernel_rfl
  f5 := ⟨Tryz.f103.name, by decide, Tryz.func103.trans (congrArg some (by kernel_rfl))⟩
  f7 := ⟨Tryz.f117.name, by decide, Tryz.func117.trans (congrArg some (by kernel_rfl))⟩
  t0 := Tryz.underlying0
  a0 := Tryz.isAgg0
  z0 := Tryz.sizeOf0
  v0 := Tryz.zeroValue0
  t3 := Tryz.underlying3
  a3 := Tryz.isAgg3
  z3 := Tryz.sizeOf3
  v3 := Tryz.zeroValue3
  t4 := Tryz.underlying4
  a4 := Tryz.isAgg4
  z4 := Tryz.sizeOf4
  v4 := Tryz.zeroValue4
  t23 := Tryz.underlying101
  a23 := Tryz.isAgg101
  z23 := Tryz.sizeOf101
  v23 := Tryz.zeroValue101
  t24 := Tryz.underlying164
  a24 := Tryz.isAgg164
  z24 := Tryz.sizeOf164
  v24 := Tryz.zeroValue164
  t25 := Tryz.underlying165
  a25 := Tryz.isAgg165
  z25 := Tryz.sizeOf165
  v25 := Tryz.zeroValue165
  t27 := Tryz.underlying9
  a27 := Tryz.isAgg9
  z27 := Tryz.sizeOf9
  v27 := Tryz.zeroValue9
  t33 := Tryz.underlying182
  a33 := Tryz.isAgg182
  z33 := Tryz.sizeOf182
  v33 := Tryz.zeroValue182 }
def Tryz.collectL_ren : Go.Shelf.Ren := ⟨fun | 8 => 102 | 11 => 116 | n => n, fun | 26 => 3 | 28 => 165 | 24 => 44 | 0 => 0 | 33 => 182 | 4 => 4 | n => n, fun | n => n⟩
theorem Tryz.collectL : Go.Proofs.SlLaysZI.n8 Tryz.prog Tryz.collectL_ren := {
  mixed := by kernel_rfl
  f8 := ⟨Tryz.f102.name, by decide, Tryz.func102.trans (congrArg some (by kernel_rfl))⟩
  f11 := ⟨Tryz.f116.name, by decide, Tryz.func116.trans (congrArg some (by kernel_rfl))⟩
  t0 := Tryz.underlying0
  a0 := Tryz.isAgg0
  z0 := Tryz.sizeOf0
  v0 := Tryz.zeroValue0
  t24 := Tryz.underlying44
  a24 := Tryz.isAgg44
  z24 := Tryz.sizeOf44
  v24 := Tryz.zeroValue44
  t26 := Tryz.underlying3
  a26 := Tryz.isAgg3
  z26 := Tryz.sizeOf3
  v26 := Tryz.zeroValue3
  t28 := Tryz.underlying165
  a28 := Tryz.isAgg165
  z28 := Tryz.sizeOf165
  v28 := Tryz.zeroValue165
  i26 := by kernel_rfl }
def Tryz.sortIL_ren : Go.Shelf.Ren := ⟨fun | 5 => 104 | 8 => 115 | 7 => 118 | 19 => 130 | 20 => 131 | 10 => 132 | 11 => 133 | 12 => 134 | 13 => 135 | 14 => 136 | 15 => 137 | 16 => 138 | 17 => 139 | 18 => 140 | 30 => 149 | 31 => 144 | 32 => 145 | 33 => 150 | 34 => 151 | 35 => 152 | 40 => 154 | n => n, fun | 23 => 44 | 25 => 3 | 3 => 3 | 32 => 180 | 22 => 44 | 0 => 0 | 44 => 197 | 46 => 199 | 4 => 4 | 36 => 190 | 35 => 189 | 41 => 147 | 5 => 5 | 9 => 9 | 53 => 207 | 57 => 211 | 63 => 215 | 64 => 75 | n => n, fun | n => n⟩
theorem Tryz.sortIL : Go.Proofs.SlLaysM.n5 Tryz.prog Tryz.sortIL_ren := {
  mixed := by kernel_rfl
  f5 := ⟨Tryz.f104.name, by decide, Tryz.func104.trans (congrArg some (by kernel_rfl))⟩
  f7 := ⟨Tryz.f118.name, by decide, Tryz.func118.trans (congrArg some (by kernel_rfl))⟩
  f8 := Tryz.func115.trans (congrArg some (by kernel_rfl))
  f10 := ⟨Tryz.f132.name, by decide, Tryz.func132.trans (congrArg some (by kernel_rfl))⟩
  f11 := ⟨Tryz.f133.name, by decide, Tryz.func133.trans (congrArg some (by kernel_rfl))⟩
  f12 := ⟨Tryz.f134.name, by decide, Tryz.func134.trans (congrArg some (by kernel_rfl))⟩
  f13 := ⟨Tryz.f135.name, by decide, Tryz.func135.trans (congrArg some (by kernel_rfl))⟩
  f14 := ⟨Tryz.f136.name, by decide, Tryz.func136.trans (congrArg some (by kernel_rfl))⟩
  f15 := ⟨Tryz.f137.name, by decide, Tryz.func137.trans (congrArg some (by kernel_rfl))⟩
  f16 := ⟨Tryz.f138.name, by decide, Tryz.func138.trans (congrArg some (by kernel_rfl))⟩
  f17 := ⟨Tryz.f139.name, by decide, Tryz.func139.trans (congrArg some (by kernel_rfl))⟩
  f18 := ⟨Tryz.f140.name, by decide, Tryz.func140.trans (congrArg some (by kernel_rfl))⟩
  f19 := Tryz.func130.trans (congrArg some (by kernel_rfl))
  f20 := Tryz.func131.trans (congrArg some (by kernel_rfl))
  f30 := ⟨Tryz.f149.name, by decide, Tryz.func149.trans (congrArg some (by kernel_rfl))⟩
  f31 := Tryz.func144.trans (congrArg some (by kernel_rfl))
  f32 := Tryz.func145.trans (congrArg some (by kernel_rfl))
  f33 := ⟨Tryz.f150.name, by decide, Tryz.func150.trans (congrArg some (by kernel_rfl))⟩
  f34 := ⟨Tryz.f151.name, by decide, Tryz.func151.trans (congrArg some (by kernel_rfl))⟩
  f35 := ⟨Tryz.f152.name, by decide, Tryz.func152.trans (congrArg some (by kernel_rfl))⟩
  f40 := ⟨Tryz.f154.name, by decide, Tryz.func154.trans (congrArg some (by kernel_rfl))⟩
  t0 := Tryz.underlying0
  a0 := Tryz.isAgg0
  z0 := Tryz.sizeOf0
  v0 := Tryz.zeroValue0
  t3 := Tryz.underlying3
  a3 := Tryz.isAgg3
  z3 := Tryz.sizeOf3
  v3 := Tryz.zeroValue3
  t4 := Tryz.underlying4
  a4 := Tryz.isAgg4
  z4 := Tryz.sizeOf4
  v4 := Tryz.zeroValue4
  t5 := Tryz.underlying5
  a5 := Tryz.isAgg5
  z5 := Tryz.sizeOf5
  v5 := Tryz.zeroValue5
  t9 := Tryz.underlying9
  a9 := Tryz.isAgg9
  z9 := Tryz.sizeOf9
  v9 := Tryz.zeroValue9
  t22 := Tryz.underlying44
  a22 := Tryz.isAgg44
  z22 := Tryz.sizeOf44
  v22 := Tryz.zeroValue44
  t23 := Tryz.underlying44
  a23 := Tryz.isAgg44
  z23 := Tryz.sizeOf44
  v23 := Tryz.zeroValue44
  t25 := Tryz.underlying3
  a25 := Tryz.isAgg3
  z25 := Tryz.sizeOf3
  v25 := Tryz.zeroValue3
  t32 := Tryz.underlying180
  a32 := Tryz.isAgg180
  z32 := Tryz.sizeOf180
  v32 := Tryz.zeroValue180
  t35 := Tryz.underlying189
  a35 := Tryz.isAgg189
  z35 := Tryz.sizeOf189
  v35 := Tryz.zeroValue189
  t36 := Tryz.underlying190
  a36 := Tryz.isAgg190
  z36 := Tryz.sizeOf190
  v36 := Tryz.zeroValue190
  t41 := Tryz.underlying147
  a41 := Tryz.isAgg147
  z41 := Tryz.sizeOf147
  v41 := Tryz.zeroValue147
  t44 := Tryz.underlying197
  a44 := Tryz.isAgg197
  z44 := Tryz.sizeOf197
  v44 := Tryz.zeroValue197
  t46 := Tryz.underlying199
  a46 := Tryz.isAgg199
  z46 := Tryz.sizeOf199
  v46 := Tryz.zeroValue199
  t53 := Tryz.underlying207
  a53 := Tryz.isAgg207
  z53 := Tryz.sizeOf207
  v53 := Tryz.zeroValue207
  t57 := Tryz.underlying211
  a57 := Tryz.isAgg211
  z57 := Tryz.sizeOf211
  v57 := Tryz.zeroValue211
  t63 := Tryz.underlying215
  a63 := Tryz.isAgg215
  z63 := Tryz.sizeOf215
  v63 := Tryz.zeroValue215
  t64 := Tryz.underlying75
  a64 := Tryz.isAgg75
  z64 := Tryz.sizeOf75
  v64 := Tryz.zeroValue75 }
def Tryz.compactL_ren : Go.Shelf.Ren := ⟨fun | 43 => 105 | n => n, fun | 22 => 44 | 23 => 3 | 3 => 3 | 4 => 4 | 0 => 0 | n => n, fun | n => n⟩
theorem Tryz.compactL : Go.Proofs.SlLaysN.n43 Tryz.prog Tryz.compactL_ren := {
  mixed := by kernel_rfl
  f43 := ⟨Tryz.f105.name, by decide, Tryz.func105.trans (congrArg some (by kernel_rfl))⟩
  t0 := Tryz.underlying0
  a0 := Tryz.isAgg0
  z0 := Tryz.sizeOf0
  v0 := Tryz.zeroValue0
  t3 := Tryz.underlying3
  a3 := Tryz.isAgg3
  z3 := Tryz.sizeOf3
  v3 := Tryz.zeroValue3
  t4 := Tryz.underlying4
  a4 := Tryz.isAgg4
  z4 := Tryz.sizeOf4
  v4 := Tryz.zeroValue4
  t22 := Tryz.underlying44
  a22 := Tryz.isAgg44
  z22 := Tryz.sizeOf44
  v22 := Tryz.zeroValue44
  t23 := Tryz.underlying3
  a23 := Tryz.isAgg3
  z23 := Tryz.sizeOf3
  v23 := Tryz.zeroValue3
  i23 := by kernel_rfl }
def Tryz.containsL_ren : Go.Shelf.Ren := ⟨fun | 31 => 108 | 29 => 119 | n => n, fun | 22 => 44 | 23 => 3 | 4 => 4 | 3 => 3 | 0 => 0 | n => n, fun | n => n⟩
theorem Tryz.containsL : Go.Proofs.SlLaysN.n31 Tryz.prog Tryz.containsL_ren := {
  mixed := by kernel_rfl
  f29 := ⟨Tryz.f119.name, by decide, Tryz.func119.trans (congrArg some (by kernel_rfl))⟩
  f31 := ⟨Tryz.f108.name, by decide, Tryz.func108.trans (congrArg some (by kernel_rfl))⟩
  t0 := Tryz.underlying0
  a0 := Tryz.isAgg0
  z0 := Tryz.sizeOf0
  v0 := Tryz.zeroValue0
  t3 := Tryz.underlying3
  a3 := Tryz.isAgg3
  z3 := Tryz.sizeOf3
  v3 := Tryz.zeroValue3
  t4 := Tryz.underlying4
  a4 := Tryz.isAgg4
  z4 := Tryz.sizeOf4
  v4 := Tryz.zeroValue4
  t22 := Tryz.underlying44
  a22 := Tryz.isAgg44
  z22 := Tryz.sizeOf44
  v22 := Tryz.zeroValue44
  t23 := Tryz.underlying3
  a23 := Tryz.isAgg3
  z23 := Tryz.sizeOf3
  v23 := Tryz.zeroValue3 }
def Tryz.cloneL_ren : Go.Shelf.Ren := ⟨fun | 5 => 93 | 7 => 109 | n => n, fun | 23 => 101 | 25 => 9 | 3 => 3 | 4 => 4 | 20 => 20 | n => n, fun | n => n⟩
theorem Tryz.cloneL : Go.Proofs.SlLaysW.n5 Tryz.prog Tryz.cloneL_ren := {
  mixed := by kernel_rfl
  f5 := ⟨Tryz.f93.name, by decide, Tryz.func93.trans (congrArg some (by kernel_rfl))⟩
  f7 := Tryz.func109.trans (congrArg some (by kernel_rfl))
  t4 := Tryz.underlying4
  a4 := Tryz.isAgg4
  z4 := Tryz.sizeOf4
  v4 := Tryz.zeroValue4
  t20 := Tryz.underlying20
  a20 := Tryz.isAgg20
  z20 := Tryz.sizeOf20
  v20 := Tryz.zeroValue20
  t23 := Tryz.underlying101
  a23 := Tryz.isAgg101
  z23 := Tryz.sizeOf101
  v23 := Tryz.zeroValue101 }
def Tryz.delL_ren : Go.Shelf.Ren := ⟨fun | 5 => 106 | n => n, fun | 23 => 100 | 26 => 3 | 24 => 96 | 27 => 171 | 0 => 0 | 4 => 4 | n => n, fun | n => n⟩
theorem Tryz.delL : Go.Proofs.SlLaysDf.n5 Tryz.prog Tryz.delL_ren := {
  mixed := by kernel_rfl
  f5 := ⟨Tryz.f106.name, by decide, Tryz.func106.trans (congrArg some (by kernel_rfl))⟩
  t0 := Tryz.underlying0
  a0 := Tryz.isAgg0
  z0 := Tryz.sizeOf0
  v0 := Tryz.zeroValue0
  t4 := Tryz.underlying4
  a4 := Tryz.isAgg4
  z4 := Tryz.sizeOf4
  v4 := Tryz.zeroValue4
  t23 := Tryz.underlying100
  a23 := Tryz.isAgg100
  z23 := Tryz.sizeOf100
  v23 := Tryz.zeroValue100
  a24 := Tryz.isAgg96
  z24 := Tryz.sizeOf96
  a26 := Tryz.isAgg3
  z26 := Tryz.sizeOf3
  t27 := Tryz.underlying171
  a27 := Tryz.isAgg171
  z27 := Tryz.sizeOf171
  v27 := Tryz.zeroValue171 }
end Go.Proofs
set_option linter.unusedVariables false
set_option linter.unusedSimpArgs false
set_option linter.unusedSectionVars false
/-! The library's functions, as plain calls from heap to heap. -/
namespace Go.V
open Go Go.Proofs Go.RowKit Go.Maps Go.Sort Go.Shelf
/-! ### bytes in their order -/
theorem bytesBefore_lt : ∀ a b : List UInt8, bytesBefore a b = true ↔ a < b
  | [], [] => by simp [bytesBefore]
  | [], _ :: _ => by simp [bytesBefore]
  | _ :: _, [] => by simp [bytesBefore]
  | a :: r, b :: s => by
    have ih := bytesBefore_lt r s
    simp only [bytesBefore, Bool.or_eq_true, decide_eq_true_eq, Bool.and_eq_true, beq_iff_eq, List.cons_lt_cons_iff, ih]

/-- Rising names, each once. -/
def Nm.ok (m : Nm) : Prop := m.Pairwise fun p q => p.1 < q.1
theorem rising_pairwise : ∀ (l : List (Lit × DataW Unit)), (∀ p ∈ l, ∃ s, p.1 = .string s) → DataW.rising l = true → l.Pairwise fun p q => p.1.before q.1 = true
  | [], _, _ => List.Pairwise.nil
  | [a], _, _ => List.pairwise_singleton _ _
  | a :: b :: r, hs, h => by
    simp only [DataW.rising, Bool.and_eq_true] at h
    have ih := rising_pairwise (b :: r) (fun p hp => hs p (List.mem_cons_of_mem _ hp)) h.2
    refine List.pairwise_cons.2 ⟨fun q hq => ?_, ih⟩
    rcases List.mem_cons.1 hq with rfl | hq
    · exact h.1
    · have hbq := (List.pairwise_cons.1 ih).1 q hq
      obtain ⟨sa, ha⟩ := hs a (by simp)
      obtain ⟨sb, hb⟩ := hs b (by simp)
      obtain ⟨sq, hq'⟩ := hs q (by simp [hq])
      rw [ha, hb] at h
      rw [hb, hq'] at hbq
      rw [ha, hq']
      exact Go.WideShapes.bytes_trans _ _ _ h.1 hbq
theorem NmAt.ok {P : Program} {kt et : TypeId} {h : Hp} {b : Nat} {m : Nm} (o : NmAt P kt et h b m) (hk : P.underlying kt = some .string) : m.ok := by
  obtain ⟨es, clock, hb, F, _, hD⟩ := o
  have hr := Maps.fit_rising (Maps.string_keyed hk) F
  simp only [Nm.D, DataW.map.injEq] at hD
  rw [← hD] at hr
  have := rising_pairwise _ (fun p hp => by obtain ⟨q, _, rfl⟩ := List.mem_map.1 hp; exact ⟨_, rfl⟩) hr
  rw [List.pairwise_map] at this
  exact this.imp fun {p q} h => (bytesBefore_lt _ _).1 h
theorem Nm.ok.keys {m : Nm} (h : m.ok) : (m.map (·.1)).Pairwise (· < ·) := by
  rw [List.pairwise_map]; exact h
theorem Nm.ok.nodup {m : Nm} (h : m.ok) : (m.map (·.1)).Nodup := h.keys.imp fun {a b} hab e => by subst e; exact absurd hab (List.lt_irrefl a)
theorem Nm.get_of_mem {m : Nm} (h : m.ok) {k : List UInt8} {v : Int} (hm : (k, v) ∈ m) : m.get k = some v := by
  unfold Nm.get
  induction m with
  | nil => cases hm
  | cons p m ih =>
    have hn := h.nodup
    simp only [List.map_cons, List.nodup_cons] at hn
    rcases List.mem_cons.1 hm with rfl | hm
    · simp
    · have hne : p.1 ≠ k := fun e => hn.1 (by rw [e]; exact List.mem_map.2 ⟨(k, v), hm, rfl⟩)
      rw [List.find?_cons]
      have : (p.1 == k) = false := by simpa using hne
      rw [this]
      exact ih (List.pairwise_cons.1 h).2 hm
theorem Nm.mem_of_get {m : Nm} {k : List UInt8} {v : Int} (h : m.get k = some v) : (k, v) ∈ m := by
  unfold Nm.get at h
  cases hf : m.find? fun p => p.1 == k with
  | none => rw [hf] at h; cases h
  | some p =>
    rw [hf] at h
    have h1 := List.find?_some hf
    have h2 := List.mem_of_find?_eq_some hf
    simp at h1 h
    subst h1 h
    exact h2

/-! ### from worlds to heaps -/
theorem CH.of_calls {P : Program} {k : FuncId} {args : Array Value} {h : Hp} {R : Value → Hp → Prop} (c : ∀ w : World, w.heap = h → Calls P k args w fun e w' => ∃ v, e = .returned v ∧ Same w w' ∧ R v w'.heap) : CH P k args h R :=
  fun w hw => (c w hw).mono fun e w' ⟨v, he, s, r⟩ => by subst he; exact ⟨s, r⟩
theorem Below.same {B : Nat} {w w' : World} (b : Below B w w') : Same w w' := ⟨b.os, b.tape, b.output⟩
theorem Below.grow {w w' : World} (b : Below w.heap.size w w') : Grow w.heap w'.heap := ⟨b.size, fun k hk _ => b.block k hk⟩
theorem OwnS.of_row {w : World} {base : Nat} {e : TypeId} {sz : Nat} {v : Value} {n : Nat} {xs : List Value} (o : w.ownsRow base e sz v n xs) :
    ∃ A c, v = .slice A n c ∧ OwnS w.heap e sz A n c xs ∧ (∀ b, inA A b → base ≤ b) := by
  obtain ⟨hl, ⟨rfl, rfl⟩ | ⟨g, cap, cur, rfl, hb, hg, hn, _, hs, ht⟩⟩ := o
  · exact ⟨none, 0, rfl, ⟨hl, .inl ⟨rfl, rfl, rfl⟩⟩, fun b hb => (inA_none hb).elim⟩
  · exact ⟨_, _, rfl, ⟨hl, .inr ⟨g, cur, rfl, hg, hn, hs, ht⟩⟩, fun b hb' => by have := inA_some.1 hb'; subst this; exact hb⟩

def sv (s : List UInt8) : Value := .string ⟨s.toArray⟩
theorem sv_eq : sv = encStr := by funext s; simp [sv, encStr]
end Go.V
set_option linter.unusedVariables false
set_option linter.unusedSimpArgs false
set_option linter.unusedSectionVars false
namespace Go.Proofs
open Go Go.V Go.RowKit Go.Maps Go.Sort Go.Shelf
/-- What 'names' is: nil, or a map of these. -/
def Tryz.NmR (h : Hp) (mp : Option Nat) (m : Nm) : Prop := (mp = none ∧ m = []) ∨ ∃ b, mp = some b ∧ NmAt Tryz.prog 9 3 h b m
theorem Tryz.NmR.ok {h : Hp} {mp : Option Nat} {m : Nm} (o : Tryz.NmR h mp m) : m.ok := by
  rcases o with ⟨rfl, rfl⟩ | ⟨b, rfl, o⟩
  · exact List.Pairwise.nil
  · exact NmAt.ok o Tryz.underlying9
theorem Tryz.NmR.kp {W : Nat → Prop} {h h' : Hp} {mp : Option Nat} {m : Nm} (o : Tryz.NmR h mp m) (g : Kp W h h') (hn : ∀ b, mp = some b → ¬ W b) : Tryz.NmR h' mp m := by
  rcases o with ⟨rfl, rfl⟩ | ⟨b, rfl, o⟩
  · exact .inl ⟨rfl, rfl⟩
  · exact .inr ⟨b, rfl, MapOn.kp o g (hn b rfl)⟩

theorem Tryz.sortsS (m : Nat) : AnyZ.SortsIn Tryz.prog Tryz.sortedL_ren Fence.wide m :=
  ⟨fun blk off cap ss W hH hblk hsz => callsIn_wide.2 (AnyM.slices_Sort_string Tryz.sortSL blk off cap ss W hH hblk hsz),
   fun p cap W => callsIn_wide.2 (AnyM.slices_Sort_string_none Tryz.sortSL p cap W)⟩

theorem strKeys_D (m : Nm) : strKeys m.D = m.map (·.1) := by
  simp [strKeys, Nm.D, strOf, Function.comp_def]
theorem size_D (m : Nm) : Maps.size m.D = m.length := by simp [Nm.D, Maps.size_eq]
theorem sorted_keys {m : Nm} (hm : m.ok) {ss : List (List UInt8)} (hp : ss.Perm (m.map (·.1))) : (ss.mergeSort fun x y => decide (x ≤ y)) = m.map (·.1) := by
  have := mergeSort_of_perm hp
  unfold leB at this
  rw [this]
  refine List.mergeSort_of_pairwise ?_
  exact hm.keys.imp fun {a b} h => by simpa using List.le_of_lt h

/-- 'slices.Sorted(maps.Keys(names))'. -/
theorem Tryz.c_sortedKeys {h : Hp} {mp : Option Nat} {m : Nm} (o : Tryz.NmR h mp m) (hb : m.length ≤ 1099511627776) {K : Value → Hp → Prop}
    (k : ∀ A n c h', n = m.length → OwnS h' 9 1 A n c (m.map fun p => sv p.1) → Grow h h' → (∀ b, inA A b → h.size ≤ b) → K (.slice A n c) h') :
    CH Tryz.prog 85 #[.map mp] h fun r3 h4 => CH Tryz.prog 84 #[r3] h4 K := by
  refine CH.of_calls fun w hw => ?_
  subst hw
  refine (callsIn_wide.1 (AnyZ.keys_in Tryz.keysL Fence.wide 5 trivial rfl mp w)).mono ?_
  rintro e w1 ⟨rfl, rfl⟩
  refine ⟨_, rfl, ⟨rfl, rfl, rfl⟩, CH.of_calls fun w2 hw2 => ?_⟩
  have hcell : w2.heap[w.heap.size]? = some (.cells #[.map mp] (Tryz.keysL_ren.t 23) (0, 0)) := by rw [hw2]; exact push_new _ _
  have g2 : Grow w.heap w2.heap := by rw [hw2]; exact Grow.push _ _
  have hsz2 : w.heap.size < w2.heap.size := lt_of_some hcell
  have fin : ∀ (S : List (List UInt8) → Prop) (N : Nat), N ≤ m.length → (∀ ss, S ss → ss.Perm (m.map (·.1))) → SeqGives Fence.wide 2 Tryz.prog 101 #[.pointer (some ⟨w.heap.size, 0, none⟩)] encStr S N w2 →
      Calls Tryz.prog 84 #[.func (.func 101) #[] #[.pointer (some ⟨w.heap.size, 0, none⟩)]] w2 fun e w' => ∃ v, e = .returned v ∧ Same w2 w' ∧ K v w'.heap := by
    intro S N hN hS hseq
    have cS := AnyZ.sorted_in Tryz.sortedL Fence.wide 5 trivial trivial trivial trivial rfl (by omega) (Tryz.sortsS _) (enters_of Tryz.func100 (by kernel_rfl) rfl) 101 #[.pointer (some ⟨w.heap.size, 0, none⟩)] trivial (enters_of Tryz.func101 (by kernel_rfl) rfl) S N (by unfold maxLen; omega) (by omega) w2 hseq
    refine (callsIn_wide.1 cS).mono ?_
    rintro e w' ⟨v, ss, rfl, hss, hrow, _, hbel⟩
    obtain ⟨A, c, rfl, hown, hbase⟩ := OwnS.of_row hrow
    rw [sorted_keys o.ok (hS ss hss), List.map_map] at hown
    refine ⟨_, rfl, Below.same hbel, k A _ c _ ?_ ?_ (g2.trans (Below.grow hbel)) fun b hb' => Nat.le_trans g2.size (hbase b hb')⟩
    · rw [(hS ss hss).length_eq]; simp
    · rw [sv_eq]; exact hown
  rcases o with ⟨rfl, rfl⟩ | ⟨b, rfl, o⟩
  · exact fin (fun ss => ss = []) 0 (Nat.le_refl _) (fun ss e => by subst e; exact List.Perm.refl _) (AnyZ.keys_gives_nil (ρ := Tryz.keysL_ren) { Tryz.keysL with } Fence.wide _ trivial rfl w.heap.size w2 hsz2 (by rw [cell_eq]; exact cell_of hcell 0))
  · have hbl := MapOn.lt o
    refine fin (fun ss => ss.Perm (m.map (·.1))) m.length (Nat.le_refl _) (fun _ h => h) ?_
    have := AnyZ.keys_gives (ρ := Tryz.keysL_ren) { Tryz.keysL with } Fence.wide 2 trivial rfl (by omega) w.heap.size b m.length m.D w2 hsz2 (by rw [cell_eq]; exact cell_of hcell 0) (MapOn.iff.2 (MapOn.kp o g2 id))
    rw [strKeys_D, size_D] at this
    exact this

/-- 'slices.Collect(maps.Values(names))': all that names have, in whatever order. -/
theorem Tryz.c_values {h : Hp} {mp : Option Nat} {m : Nm} (o : Tryz.NmR h mp m) (hb : m.length ≤ 1099511627776) {K : Value → Hp → Prop}
    (k : ∀ A n c (l : List Int) h', n = l.length → n ≤ m.length → OwnS h' 3 1 A n c (l.map iv) → (∀ x, x ∈ l ↔ x ∈ m.map (·.2)) → Grow h h' → (∀ b, inA A b → h.size ≤ b) → K (.slice A n c) h') :
    CH Tryz.prog 103 #[.map mp] h fun r3 h4 => CH Tryz.prog 102 #[r3] h4 K := by
  have hok := o.ok
  refine CH.of_calls fun w hw => ?_
  subst hw
  refine (callsIn_wide.1 (AnyY.values_in Tryz.valuesL Fence.wide 5 trivial rfl mp w)).mono ?_
  rintro e w1 ⟨rfl, rfl⟩
  refine ⟨_, rfl, ⟨rfl, rfl, rfl⟩, CH.of_calls fun w2 hw2 => ?_⟩
  have hcell : w2.heap[w.heap.size]? = some (.cells #[.map mp] (Tryz.valuesL_ren.t 23) (0, 0)) := by rw [hw2]; exact push_new _ _
  have g2 : Grow w.heap w2.heap := by rw [hw2]; exact Grow.push _ _
  have hsz2 : w.heap.size < w2.heap.size := lt_of_some hcell
  have fin : ∀ (S : List Int → Prop) (N : Nat), N ≤ m.length → (∀ ss, S ss → ss.length ≤ m.length ∧ ∀ x, x ∈ ss ↔ x ∈ m.map (·.2)) → SeqGives Fence.wide 2 Tryz.prog 117 #[.pointer (some ⟨w.heap.size, 0, none⟩)] encZ S N w2 →
      Calls Tryz.prog 102 #[.func (.func 117) #[] #[.pointer (some ⟨w.heap.size, 0, none⟩)]] w2 fun e w' => ∃ v, e = .returned v ∧ Same w2 w' ∧ K v w'.heap := by
    intro S N hN hS hseq
    have cS := AnyZI.collect_in Tryz.collectL Fence.wide 4 trivial trivial rfl (by omega) 117 #[.pointer (some ⟨w.heap.size, 0, none⟩)] trivial (enters_of Tryz.func117 (by kernel_rfl) rfl) S N (by unfold maxLen; omega) (by omega) w2 hseq
    refine (callsIn_wide.1 cS).mono ?_
    rintro e w' ⟨v, ss, rfl, hss, hrow, _, hbel⟩
    obtain ⟨A, c, rfl, hown, hbase⟩ := OwnS.of_row hrow
    obtain ⟨h1, h2⟩ := hS ss hss
    exact ⟨_, rfl, Below.same hbel, k A _ c ss _ rfl h1 hown h2 (g2.trans (Below.grow hbel)) fun b hb' => Nat.le_trans g2.size (hbase b hb')⟩
  rcases o with ⟨rfl, rfl⟩ | ⟨b, rfl, o⟩
  · exact fin (fun ss => ss = []) 0 (Nat.le_refl _) (fun ss e => by subst e; simp) (AnyY.values_stops_nil (ρ := Tryz.valuesL_ren) { Tryz.valuesL with } Fence.wide 2 trivial rfl w.heap.size w2 hsz2 (by rw [cell_eq]; exact cell_of hcell 0)).gives
  · have hbl := MapOn.lt o
    have hseq := (AnyY.values_stops (ρ := Tryz.valuesL_ren) { Tryz.valuesL with } Fence.wide 2 trivial rfl (by omega) w.heap.size b m.length m.D w2 hsz2 (by rw [cell_eq]; exact cell_of hcell 0) (MapOn.iff.2 (MapOn.kp o g2 id))).gives
    rw [size_D] at hseq
    refine fin _ m.length (Nat.le_refl _) ?_ hseq
    rintro ss ⟨ps, ⟨hp, _, hv⟩, rfl⟩
    rw [strKeys_D] at hp
    have hget : ∀ p ∈ ps, m.get p.1 = some p.2 := fun p hpm => by
      have := hv p hpm .nil
      rw [Nm.get_eq] at this
      cases hg : m.get p.1 with
      | none => rw [hg] at this; cases this
      | some v => rw [hg] at this; cases this; rfl
    refine ⟨by have := hp.length_eq; simp at this ⊢; omega, fun x => ⟨fun hx => ?_, fun hx => ?_⟩⟩
    · obtain ⟨p, hpm, rfl⟩ := List.mem_map.1 hx
      exact List.mem_map.2 ⟨_, Nm.mem_of_get (hget p hpm), rfl⟩
    · obtain ⟨⟨k, v⟩, hm, rfl⟩ := List.mem_map.1 hx
      have : k ∈ ps.map (·.1) := hp.symm.subset (List.mem_map.2 ⟨_, hm, rfl⟩)
      obtain ⟨p, hpm, rfl⟩ := List.mem_map.1 this
      have := hget p hpm
      rw [Nm.get_of_mem hok hm] at this
      cases this
      exact List.mem_map.2 ⟨p, hpm, rfl⟩
end Go.Proofs
set_option linter.unusedVariables false
set_option linter.unusedSimpArgs false
set_option linter.unusedSectionVars false
namespace Go.V
open Go Go.Proofs Go.RowKit Go.Maps Go.Sort Go.Shelf
/-! ### rising numbers, each once -/
def Asc (l : List Int) : Prop := l.Pairwise (· < ·)
theorem Asc.ext {l l' : List Int} (h : Asc l) (h' : Asc l') (e : ∀ x, x ∈ l ↔ x ∈ l') : l = l' := by
  induction l generalizing l' with
  | nil =>
    cases l' with
    | nil => rfl
    | cons y r => exact absurd ((e y).2 List.mem_cons_self) (by simp)
  | cons x l ih =>
    cases l' with
    | nil => exact absurd ((e x).1 List.mem_cons_self) (by simp)
    | cons y r =>
      have h1 := List.pairwise_cons.1 h
      have h2 := List.pairwise_cons.1 h'
      have hxy : x = y := by
        rcases List.mem_cons.1 ((e x).1 List.mem_cons_self) with hx | hx
        · exact hx
        · rcases List.mem_cons.1 ((e y).2 List.mem_cons_self) with hy | hy
          · exact hy.symm
          · have := h2.1 x hx; have := h1.1 y hy; omega
      subst hxy
      congr 1
      refine ih h1.2 h2.2 fun z => ⟨fun hz => ?_, fun hz => ?_⟩
      · rcases List.mem_cons.1 ((e z).1 (List.mem_cons_of_mem _ hz)) with rfl | hz'
        · exact absurd (h1.1 z hz) (by omega)
        · exact hz'
      · rcases List.mem_cons.1 ((e z).2 (List.mem_cons_of_mem _ hz)) with rfl | hz'
        · exact absurd (h2.1 z hz) (by omega)
        · exact hz'
/-- These numbers, each once, rising. -/
def ascOf (l : List Int) : List Int := Lib.compact (l.mergeSort fun x y => decide (x ≤ y))
theorem compact_asc {zs : List Int} (h : zs.Pairwise (· ≤ ·)) : Asc (Lib.compact zs) ∧ ∀ x, x ∈ Lib.compact zs ↔ x ∈ zs := by
  have hle : ∀ i j, i ≤ j → j < zs.length → zs[i]! ≤ zs[j]! := fun i j hij hj => by
    rcases Nat.lt_or_ge i j with hlt | hge
    · have := List.pairwise_iff_getElem.1 h i j (by omega) hj hlt
      simpa [getElem!_pos zs i (by omega), getElem!_pos zs j hj] using this
    · obtain rfl : i = j := by omega
      exact Int.le_refl _
  have key : ∀ m, m ≤ zs.length → Asc (Lib.compactUpTo zs.toArray m) ∧ (∀ x, x ∈ Lib.compactUpTo zs.toArray m ↔ x ∈ zs.take m) := by
    intro m
    induction m with
    | zero => intro _; exact ⟨List.Pairwise.nil, by simp [Lib.compactUpTo]⟩
    | succ m ih =>
      intro hm
      obtain ⟨a1, a2⟩ := ih (by omega)
      have hget : zs.toArray[m]! = zs[m]! := by simp
      have htake : zs.take (m + 1) = zs.take m ++ [zs[m]!] := by
        rw [List.take_add_one, List.getElem?_eq_getElem (by omega), getElem!_pos zs m (by omega)]; rfl
      rw [Lib.compactUpTo_succ, htake]
      by_cases hk : Lib.keeps zs.toArray m = true
      · rw [if_pos hk, hget]
        refine ⟨List.pairwise_append.2 ⟨a1, List.pairwise_singleton _ _, fun x hx y hy => ?_⟩, fun x => ?_⟩
        · obtain rfl : y = zs[m]! := by simpa using hy
          obtain ⟨i, hi, rfl⟩ := List.mem_iff_getElem.1 ((a2 x).1 hx)
          rw [List.length_take] at hi
          rw [List.getElem_take, ← getElem!_pos zs i (by omega)]
          simp only [Lib.keeps, decide_eq_true_eq] at hk
          rcases hk with rfl | hk
          · omega
          · have h1 := hle i (m - 1) (by omega) (by omega)
            have h2 := hle (m - 1) m (by omega) (by omega)
            have h3 : zs[m]! ≠ zs[m - 1]! := by simpa using hk
            omega
        · rw [List.mem_append, List.mem_append, a2]
      · rw [if_neg hk, List.append_nil]
        refine ⟨a1, fun x => ?_⟩
        rw [a2, List.mem_append]
        refine ⟨.inl, fun hx => hx.elim id fun hx => ?_⟩
        obtain rfl : x = zs[m]! := by simpa using hx
        simp only [Lib.keeps, decide_eq_true_eq, not_or, ne_eq, Classical.not_not] at hk
        have h3 : zs[m]! = zs[m - 1]! := by simpa using hk.2
        rw [h3, getElem!_pos zs (m - 1) (by omega)]
        exact List.mem_take_iff_getElem.2 ⟨m - 1, by omega, rfl⟩
  have := key zs.length (Nat.le_refl _)
  rw [List.take_length] at this
  exact this
theorem sortI_pairwise (l : List Int) : (l.mergeSort fun x y => decide (x ≤ y)).Pairwise (· ≤ ·) :=
  (List.pairwise_mergeSort (le := fun x y : Int => decide (x ≤ y)) (fun a b c h1 h2 => by simp at *; omega) (fun a b => by simp; omega) l).imp fun {a b} h => by simpa using h
theorem ascOf_asc (l : List Int) : Asc (ascOf l) := (compact_asc (sortI_pairwise l)).1
theorem mem_ascOf {l : List Int} {x : Int} : x ∈ ascOf l ↔ x ∈ l := ((compact_asc (sortI_pairwise l)).2 x).trans (List.mergeSort_perm l _).mem_iff
theorem ascOf_congr {l l' : List Int} (e : ∀ x, x ∈ l ↔ x ∈ l') : ascOf l = ascOf l' := (ascOf_asc l).ext (ascOf_asc l') fun x => mem_ascOf.trans ((e x).trans mem_ascOf.symm)

/-! ### a row that is written over in place -/
theorem OwnS.turned {w : World} {e : TypeId} {n c : Nat} {A : Option Addr} {zs zs' : List Int} (o : OwnS w.heap e 1 A n c (zs.map iv)) {a : Addr} (hA : A = some a) (hl : zs'.length = zs.length) (q : Nat) (os : Array Obj) :
    ∃ h', h' = (grow (putRow (Value.int .i64) (Sort.ahead w q) a.block a.off zs'.toArray) os).heap ∧ OwnS h' e 1 A n c (zs'.map iv) ∧ Kp (inA A) w.heap h' := by
  subst hA
  obtain ⟨hlen, ⟨h, _⟩ | ⟨g, cur, hg, hb, hn, hs, ht⟩⟩ := o
  · cases h
  cases hg
  have hnl : n = zs'.length := by rw [hl]; simpa using hlen.symm
  refine ⟨_, rfl, ⟨by simp [hnl], .inr ⟨g, putCells (Value.int .i64) 0 zs'.toArray cur, rfl, ?_, hn, by simp [putCells, hs], ?_⟩⟩, ?_⟩
  · have hlt := lt_of_some hb
    simp only [grow, putRow, mapBlock, Sort.ahead]
    rw [Array.getElem?_append_left (by simpa using hlt), Array.getElem?_modify, if_pos rfl, hb]
    rfl
  · refine List.ext_getElem? fun j => ?_
    rw [List.getElem?_take]
    simp only [putCells, Nat.mul_one, Array.getElem?_toList, Array.getElem?_mapIdx, Nat.zero_le, Nat.zero_add, true_and, List.size_toArray, Nat.sub_zero, List.getElem?_map]
    by_cases hj : j < n
    · rw [if_pos hj]
      have hjc : j < cur.size := by omega
      rw [Array.getElem?_eq_getElem hjc, List.getElem?_eq_getElem (by omega)]
      simp only [Option.map_some, iv]
      rw [if_pos (by omega)]
      simp [getElem!_pos zs' j (by omega)]
    · rw [if_neg hj, List.getElem?_eq_none (by omega)]; rfl
  · refine ⟨by simp [grow, putRow, mapBlock, Sort.ahead], fun b hb' hne => ?_⟩
    have hne' : g ≠ b := fun e => hne (inA_some.2 e)
    simp only [grow, putRow, mapBlock, Sort.ahead]
    rw [Array.getElem?_append_left (by simpa using hb'), Array.getElem?_modify, if_neg hne']
theorem OwnS.holds {w : World} {e : TypeId} {n c : Nat} {a : Addr} {zs : List Int} (o : OwnS w.heap e 1 (some a) n c (zs.map iv)) : Holds (Value.int .i64) w a.block a.off zs.toArray ∧ a.spot = none ∧ n = zs.length ∧ zs.length ≤ c := by
  obtain ⟨hlen, ⟨h, _⟩ | ⟨g, cur, hg, hb, hn, hs, ht⟩⟩ := o
  · cases h
  cases hg
  have hnl : n = zs.length := by simpa using hlen.symm
  refine ⟨fun j hj => ?_, rfl, hnl, by omega⟩
  have hj' : j < zs.length := by simpa using hj
  refine ⟨?_, by rw [froz_eq]; exact froz_of hb _⟩
  rw [cell_eq, cell_of hb]
  have : (cur.toList.take (n * 1))[j]? = (zs.map iv)[j]? := by rw [ht]
  rw [List.getElem?_take, if_pos (by omega), Array.getElem?_toList, List.getElem?_map, List.getElem?_eq_getElem hj'] at this
  rw [Nat.zero_add, this]
  simp [iv, getElem!_pos zs j hj']
/-- Fewer of them. -/
theorem OwnS.less {h : Hp} {e : TypeId} {n c k : Nat} {A : Option Addr} {vs : List Value} (o : OwnS h e 1 A n c vs) (hk : k ≤ n) : OwnS h e 1 A k c (vs.take k) := by
  obtain ⟨hlen, ⟨rfl, rfl, rfl⟩ | ⟨g, cur, hg, hb, hn, hs, ht⟩⟩ := o
  · obtain rfl : k = 0 := by omega
    exact ⟨by simp, .inl ⟨rfl, rfl, rfl⟩⟩
  · refine ⟨by rw [List.length_take]; omega, .inr ⟨g, cur, hg, hb, by omega, hs, ?_⟩⟩
    rw [← ht, List.take_take, Nat.mul_one, Nat.mul_one, Nat.min_eq_left hk]
end Go.V
namespace Go.Proofs
open Go Go.V Go.RowKit Go.Maps Go.Sort Go.Shelf
theorem Tryz.c_sortI {h : Hp} {A : Option Addr} {n c : Nat} {zs : List Int} (o : OwnS h 3 1 A n c (zs.map iv)) (hn : n ≤ 1099511627776) :
    CH Tryz.prog 104 #[.slice A n c] h fun r h' => r = .tuple #[] ∧ OwnS h' 3 1 A n c ((zs.mergeSort fun x y => decide (x ≤ y)).map iv) ∧ Kp (inA A) h h' := by
  refine CH.of_calls fun w hw => ?_
  subst hw
  cases A with
  | none =>
    obtain ⟨hl, ⟨_, rfl, rfl⟩ | ⟨g, cur, hg, _⟩⟩ := o
    · have hz : zs = [] := by cases zs with | nil => rfl | cons => simp at hl
      subst hz
      refine (AnyM.slices_Sort_int_none Tryz.sortIL none 0 w).mono ?_
      rintro e w' ⟨rfl, rfl⟩
      exact ⟨_, rfl, .rfl' w', rfl, by simpa using OwnS.nil _ _ _, Kp.rfl'⟩
    · cases hg
  | some a =>
    obtain ⟨hH, hsp, rfl, hc⟩ := o.holds
    have hlt := o.lt _ (inA_some.2 rfl)
    obtain ⟨b, off, sp⟩ := a
    subst hsp
    refine (AnyM.slices_Sort_int Tryz.sortIL b off c zs w hH hlt (by omega)).mono ?_
    rintro e w' ⟨rfl, q, os, rfl⟩
    obtain ⟨h', rfl, o', k'⟩ := o.turned rfl (zs' := zs.mergeSort fun x y => decide (x ≤ y)) (by simp) q os
    exact ⟨_, rfl, ⟨rfl, rfl, rfl⟩, rfl, o', k'⟩
theorem Tryz.c_compact {h : Hp} {A : Option Addr} {n c : Nat} {zs : List Int} (o : OwnS h 3 1 A n c (zs.map iv)) (hn : n ≤ 1099511627776) :
    CH Tryz.prog 105 #[.slice A n c] h fun r h' => ∃ k, r = .slice A k c ∧ k = (Lib.compact zs).length ∧ k ≤ n ∧ OwnS h' 3 1 A k c ((Lib.compact zs).map iv) ∧ Kp (inA A) h h' := by
  have hle : (Lib.compact zs).length ≤ zs.length := by
    unfold Lib.compact Lib.compactUpTo
    rw [List.length_map]
    exact Nat.le_trans (List.length_filter_le _ _) (by simp)
  refine CH.of_calls fun w hw => ?_
  subst hw
  cases A with
  | none =>
    obtain ⟨hl, ⟨_, rfl, rfl⟩ | ⟨g, cur, hg, _⟩⟩ := o
    · have hz : zs = [] := by cases zs with | nil => rfl | cons => simp at hl
      subst hz
      refine (AnyG.slices_Compact_int_empty Tryz.compactL none 0 w).mono ?_
      rintro e w' ⟨rfl, rfl⟩
      exact ⟨_, rfl, .rfl' w', 0, rfl, rfl, Nat.le_refl _, OwnS.nil _ _ _, Kp.rfl'⟩
    · cases hg
  | some a =>
    obtain ⟨hH, hsp, rfl, hc⟩ := o.holds
    obtain ⟨b, off, sp⟩ := a
    subst hsp
    refine (AnyG.slices_Compact_int Tryz.compactL b off c zs w hH (by omega) hc).mono ?_
    rintro e w' ⟨rfl, q, rfl⟩
    obtain ⟨h', e', o', k'⟩ := o.turned rfl (zs' := Lib.compact zs ++ List.replicate (zs.length - (Lib.compact zs).length) 0) (by simp; omega) q #[]
    rw [grow_empty] at e'
    subst e'
    refine ⟨_, rfl, ⟨rfl, rfl, rfl⟩, (Lib.compact zs).length, rfl, rfl, hle, ?_, k'⟩
    have := o'.less (k := (Lib.compact zs).length) (by omega)
    rw [List.map_append, List.take_append_of_le_length (by simp), List.take_of_length_le (by simp)] at this
    exact this
theorem Tryz.c_contains {h : Hp} {A : Option Addr} {n c : Nat} {zs : List Int} (x : Int) (s : IS h A n zs) (hA : ∀ a, A = some a → a.spot = none) (hn : n ≤ 1099511627776) :
    CH Tryz.prog 108 #[.slice A n c, .int .i64 x] h fun r h' => r = .bool (zs.contains x) ∧ h' = h := by
  refine CH.of_calls fun w hw => ?_
  subst hw
  obtain ⟨hl, hs⟩ := s
  cases A with
  | none =>
    obtain ⟨hz, rfl⟩ := hs
    have hz : zs = [] := by simpa using hz
    subst hz
    refine (AnyG.slices_Contains_int_empty Tryz.containsL none c x w).mono ?_
    rintro e w' ⟨rfl, rfl⟩
    exact ⟨_, rfl, .rfl' w', rfl, rfl⟩
  | some a =>
    obtain ⟨b, off, sp⟩ := a
    obtain rfl : sp = none := hA _ rfl
    refine (AnyG.slices_Contains_int Tryz.containsL b off n c zs x w (by omega) (by omega) fun j hj => ?_).mono ?_
    · have := hs.get (i := j) (v := .int .i64 (zs.getD j 0)) (by rw [List.getElem?_map, List.getElem?_eq_getElem hj]; simp [iv, List.getElem?_eq_getElem hj])
      rw [add_mk] at this
      exact this
    · rintro e w' ⟨rfl, rfl⟩
      exact ⟨_, rfl, .rfl' w', by rw [List.take_of_length_le (by omega)], rfl⟩
end Go.Proofs
set_option linter.unusedVariables false
set_option linter.unusedSimpArgs false
set_option linter.unusedSectionVars false
namespace Go.Proofs
open Go Go.V Go.RowKit Go.Maps Go.Sort Go.Shelf
theorem int_key {P : Program} {k : TypeId} (hu : P.underlying k = some (.int .i64)) {key : Value} {kl : Lit} (hkey : keyOf P k key = some kl) : ∃ i, key = .int .i64 i ∧ kl = .int .i64 i := by
  cases key with
  | int q i =>
    simp only [keyOf, hu, mapKey] at hkey
    split at hkey
    · rename_i h
      obtain ⟨rfl, _⟩ := h
      cases hkey
      exact ⟨_, rfl, rfl⟩
    · cases hkey
  | _ => simp only [keyOf, hu, mapKey] at hkey <;> cases hkey
theorem Tryz.c_mapsClone {h : Hp} {mp : Option Nat} {m : Nm} (o : Tryz.NmR h mp m) :
    CH Tryz.prog 93 #[.map mp] h fun r h' => ∃ mp', r = .map mp' ∧ (mp' = none ↔ mp = none) ∧ (∀ b, mp' = some b → b = h.size) ∧ Tryz.NmR h' mp' m ∧ Grow h h' := by
  refine CH.of_calls fun w hw => ?_
  subst hw
  rcases o with ⟨rfl, rfl⟩ | ⟨b, rfl, o⟩
  · refine (AnyW.maps_Clone_nil Tryz.cloneL w).mono ?_
    rintro e w' ⟨rfl, rfl⟩
    exact ⟨_, rfl, .rfl' w', none, rfl, Iff.rfl, (fun b hb => by cases hb), .inl ⟨rfl, rfl⟩, Kp.rfl'⟩
  · refine (AnyW.maps_Clone_owns Tryz.cloneL 9 (plainElem Tryz.prog 3) b m.length m.D w (MapOn.iff.2 o)).mono ?_
    rintro e w' ⟨rfl, h1, _, hbel⟩
    exact ⟨_, rfl, Below.same hbel, _, rfl, by simp, fun b hb => by cases hb; rfl, .inr ⟨_, rfl, MapOn.iff.1 h1⟩, Below.grow hbel⟩

theorem Tryz.c_bury1 {h : Hp} {id : Int} {p : Option Addr} {c0 : Addr} {A : Option Addr} {n c : Nat} {zs : List Int} (hc : cell h c0 = some (.slice A n c)) (s : IS h A n zs) (hA : ∀ a, A = some a → a.spot = none) (hn : n ≤ 1099511627776) :
    CH Tryz.prog 107 #[.int .i64 id, .pointer p, .pointer (some c0)] h fun r h' => r = .bool (!(zs.contains id)) ∧ h' = h := by
  apply D_disk_Disk_bury_1.sound
  unfold D_disk_Disk_bury_1
  refine ⟨A, n, c, hc, (Tryz.c_contains id s hA hn).mono ?_⟩
  rintro r h' ⟨rfl, rfl⟩
  exact ⟨_, rfl, rfl, rfl⟩

theorem Tryz.c_delFunc {h : Hp} {b bb : Nat} {m : Im} {A : Option Addr} {n c : Nat} {zs : List Int} (o : ImAt true Tryz.prog 3 h b m) (hc : cell h ⟨bb, 0, none⟩ = some (.slice A n c)) (s : IS h A n zs) (hA : ∀ a, A = some a → a.spot = none) (hn : n ≤ 1099511627776)
    (hne : bb ≠ b) (hAb : ¬ inA A b) :
    CH Tryz.prog 106 #[.map (some b), .func (.func 107) #[] #[.pointer (some ⟨bb, 0, none⟩)]] h fun r h' => r = .tuple #[] ∧ ImAt true Tryz.prog 3 h' b (m.filter fun p => zs.contains p.1) ∧ Kp (· = b) h h' := by
  refine CH.of_calls fun w hw => ?_
  subst hw
  refine (AnyDf.maps_DeleteFunc Tryz.delL (Maps.int_keyed Tryz.underlying3) (heldR true) (fun kl _ => match kl with | .int _ i => !(zs.contains i) | _ => false) 107 #[.pointer (some ⟨bb, 0, none⟩)] b m.length m.D w (enters_of Tryz.func107 (by kernel_rfl) rfl) (MapOn.iff.2 o) ?_).mono ?_
  · intro W key val kl yd yp hg hkey hval
    obtain ⟨rfl, p, rfl⟩ : yd = .held val ∧ ∃ p, val = .pointer p := by
      obtain ⟨e, hp⟩ := heldR_inv hval
      obtain ⟨p, hp⟩ := hp rfl
      cases e
      exact ⟨rfl, p, hp⟩
    have hu : Tryz.prog.underlying 3 = some (.int .i64) := Tryz.underlying3
    obtain ⟨i, rfl, rfl⟩ : ∃ i, key = .int .i64 i ∧ kl = .int .i64 i := by
      exact int_key hu hkey
    have k : Kp (· = b) w.heap W.heap := ⟨hg.size, fun j hj hn => hg.block j hj fun e => hn (by cases e; rfl)⟩
    have hcc := (Tryz.c_bury1 (h := W.heap) (id := i) (p := p) (c0 := ⟨bb, 0, none⟩) (k.cell hc hne) (s.kp k fun j hj e => hAb (by subst e; exact hj)) hA hn) W rfl
    refine hcc.mono fun e w' he => ?_
    cases e with
    | returned v =>
      obtain ⟨hs, rfl, hh⟩ := he
      exact ⟨rfl, ⟨hs.os, hs.tape, hs.output, by rw [hh]; exact Nat.le_refl _, fun _ _ _ => by rw [hh]⟩⟩
    | panicked c => exact he.2.elim
    | outgrown => exact he.elim
  · rintro e w' ⟨rfl, h1, hg⟩
    refine ⟨_, rfl, ⟨hg.os, hg.tape, hg.output⟩, rfl, ImAt.exact (n := m.length) ?_, ⟨hg.size, fun j hj hn => hg.block j hj fun e => hn (by cases e; rfl)⟩⟩
    have h2 := MapOn.iff.1 h1
    have : Im.D (m.filter fun p => zs.contains p.1) = Lib.deleteFuncD (fun kl _ => match kl with | .int _ i => !(zs.contains i) | _ => false) m.D := by
      simp only [Im.D, Lib.deleteFuncD, List.filter_map]
      congr 2
      refine List.filter_congr fun p _ => ?_
      simp
    rw [this]
    exact h2
theorem Tryz.c_delFunc_nil {h : Hp} (fv : Value) : CH Tryz.prog 106 #[.map none, fv] h fun r h' => r = .tuple #[] ∧ Grow h h' := by
  refine CH.of_calls fun w hw => ?_
  subst hw
  refine (AnyDf.maps_DeleteFunc_nil Tryz.delL fv w).mono ?_
  rintro e w' ⟨rfl, rfl⟩
  exact ⟨_, rfl, ⟨rfl, rfl, rfl⟩, rfl, Grow.push _ _⟩
end Go.Proofs
set_option linter.unusedVariables false
set_option linter.unusedSimpArgs false
namespace Go.Proofs
open Go Go.V
theorem ba_get {s : ByteArray} {i : Nat} (hi : i < s.size) : ∃ x, s[i]? = some x ∧ s.data.toList[i]? = some x := by
  have hi' : i < s.data.size := hi
  refine ⟨s.data[i], ?_, by simp [hi']⟩
  rw [getElem?_pos s i hi]; rfl

/-! ### copies -/
theorem Tryz.c_clone_byte {A : Option Addr} {n c : Nat} {vs : List Value} {h : Hp} (hs : Src h n vs A) (h1 : ∀ v ∈ vs, oneC v = true) (hn : n ≤ 140737488355328) :
    CH Tryz.prog 48 #[.slice A n c] h fun r h' => ∃ A' c', r = .slice A' n c' ∧ OwnS h' 5 1 A' n c' vs ∧ Grow h h' ∧ (∀ b, inA A' b → h.size ≤ b) := by
  apply D_slices_Clone_byte.sound
  unfold D_slices_Clone_byte
  refine ⟨fun e => ?_, fun e => ?_⟩
  · cases A with
    | some a => cases e
    | none =>
      obtain ⟨rfl, rfl⟩ := hs
      exact ⟨none, 0, rfl, OwnS.nil _ _ _, Kp.rfl', fun b hb => (inA_none hb).elim⟩
  · intro b h' eb eh
    subst eb eh
    refine ⟨vs, (by rw [Nat.mul_one]; exact hs.g (Grow.push _ _)), h1, by omega, by omega, ?_⟩
    refine clone_core (sz := 1) (by rw [Nat.mul_one]; exact hs) rfl fun A' c' h' o g hb _ => ⟨_, _, rfl, o, g, fun b hb' => by have := inA_some.1 hb'; omega⟩

theorem Tryz.c_clone_fault {A : Option Addr} {n c : Nat} {vs : List Value} {h : Hp} (hs : Src h (n * 2) vs A) (h1 : ∀ v ∈ vs, oneC v = true) (hn : n ≤ 1099511627776) :
    CH Tryz.prog 60 #[.slice A n c] h fun r h' => ∃ A' c', r = .slice A' n c' ∧ OwnS h' 33 2 A' n c' vs ∧ Grow h h' ∧ (∀ b, inA A' b → h.size ≤ b) := by
  apply D_slices_Clone_api_Fault.sound
  unfold D_slices_Clone_api_Fault
  refine ⟨fun e => ?_, fun e => ?_⟩
  · cases A with
    | some a => cases e
    | none =>
      obtain ⟨rfl, h0⟩ := hs
      obtain rfl : n = 0 := by omega
      exact ⟨none, 0, rfl, OwnS.nil _ _ _, Kp.rfl', fun b hb => (inA_none hb).elim⟩
  · intro b h' eb eh
    subst eb eh
    refine ⟨vs, hs.g (Grow.push _ _), h1, by omega, by omega, ?_⟩
    refine clone_core (sz := 2) hs rfl fun A' c' h' o g hb _ => ⟨_, _, rfl, o, g, fun b hb' => by have := inA_some.1 hb'; omega⟩

theorem Tryz.c_clone_turn {A : Option Addr} {n c : Nat} {vs : List Value} {h : Hp} (hs : Src h (n * 3) vs A) (h1 : ∀ v ∈ vs, oneC v = true) (hn : n ≤ 1099511627776) :
    CH Tryz.prog 95 #[.slice A n c] h fun r h' => ∃ A' c', r = .slice A' n c' ∧ OwnS h' 107 3 A' n c' vs ∧ Grow h h' ∧ (∀ b, inA A' b → h.size ≤ b) := by
  apply D_slices_Clone_disk_turn.sound
  unfold D_slices_Clone_disk_turn
  refine ⟨fun e => ?_, fun e => ?_⟩
  · cases A with
    | some a => cases e
    | none =>
      obtain ⟨rfl, h0⟩ := hs
      obtain rfl : n = 0 := by omega
      exact ⟨none, 0, rfl, OwnS.nil _ _ _, Kp.rfl', fun b hb => (inA_none hb).elim⟩
  · intro b h' eb eh
    subst eb eh
    refine ⟨vs, hs.g (Grow.push _ _), h1, by omega, by omega, ?_⟩
    refine clone_core (sz := 3) hs rfl fun A' c' h' o g hb _ => ⟨_, _, rfl, o, g, fun b hb' => by have := inA_some.1 hb'; omega⟩

/-! ### names, faults -/
def nameByte (b : UInt8) : Bool := !(decide ((b.toNat : Int) < 33)) && !(decide ((b.toNat : Int) > 126))
def namedA (s : ByteArray) : Bool := decide (0 < s.size) && decide (s.size ≤ 40) && s.data.toList.all nameByte

theorem Tryz.c_named (s : ByteArray) (h : Hp) : CH Tryz.prog 82 #[.string s] h fun r h' => r = .bool (namedA s) ∧ h' = h := by
  apply D_disk_named.sound
  unfold D_disk_named
  have key : ∀ t : Bool, (t = false → 0 < s.size ∧ s.size ≤ 40) → (t = true → namedA s = false) → D_disk_named.J1 (fun r h' => r = .bool (namedA s) ∧ h' = h) s t h := by
    intro t hf ht
    unfold D_disk_named.J1
    refine ⟨fun e => ⟨by rw [ht e], rfl⟩, fun e => ?_⟩
    obtain ⟨h1, h2⟩ := hf e
    refine ⟨fun j h' m => h' = h ∧ 0 ≤ j ∧ j ≤ s.size ∧ m = s.size - j.toNat ∧ (s.data.toList.take j.toNat).all nameByte = true, ⟨s.size, rfl, by omega, by omega, by simp, by simp⟩, ?_⟩
    rintro j h' m ⟨rfl, h0, hj, rfl, ha⟩
    unfold D_disk_named.L3
    refine ⟨fun e => ?_, fun e => ?_⟩
    · have hlt := dec_t e
      obtain ⟨x, hx, hx'⟩ := ba_get (s := s) (i := j.toNat) (by omega)
      have hbad : nameByte x = false → namedA s = false := fun hb => by
        have : s.data.toList.all nameByte = false := by
          rw [Bool.eq_false_iff]
          intro hall
          have := List.all_eq_true.1 hall x (List.mem_of_getElem? hx')
          rw [hb] at this; cases this
        simp [namedA, this]
      have hgo : nameByte x = true → (s.data.toList.take (j.toNat + 1)).all nameByte = true := fun hb => by
        rw [List.take_add_one, List.all_append, ha, hx']
        simp [hb]
      refine ⟨h0, x, hx, fun e1 => ?_, fun e1 => ⟨h0, x, hx, ?_⟩⟩
      · unfold D_disk_named.J4
        exact ⟨fun _ => ⟨by rw [hbad (by simp only [nameByte, e1]; rfl)], rfl⟩, fun e => Bool.noConfusion e⟩
      · unfold D_disk_named.J4
        refine ⟨fun e2 => ⟨by rw [hbad (by simp only [nameByte, e1, e2]; rfl)], rfl⟩, fun e2 => ?_⟩
        rw [inc64 h0 hlt (by omega)]
        refine ⟨s.size - (j.toNat + 1), by omega, rfl, by omega, by omega, by rw [toNat_inc h0], ?_⟩
        rw [toNat_inc h0]
        exact hgo (by simp only [nameByte, e1, e2]; rfl)
    · have hge := dec_f e
      obtain rfl : j = s.size := by omega
      unfold D_disk_named.J2
      refine ⟨?_, rfl⟩
      have : s.data.toList.all nameByte = true := by
        rw [show (Int.toNat (s.size : Int)) = s.data.toList.length by simp, List.take_length] at ha
        exact ha
      simp [namedA, this, h1, h2]
  refine ⟨fun e => ?_, fun e => ?_⟩
  · have : s.size = 0 := by simpa using e
    exact key true (fun e => by cases e) fun _ => by simp [namedA, this]
  · have h0 : s.size ≠ 0 := by simpa using e
    refine key _ (fun e => ?_) fun e => ?_
    · have := dec_f e; omega
    · have := dec_t e
      simp [namedA]; omega

def faultA : List (Int × Int) → Int → Int
  | [], _ => 0
  | (a, k) :: l, at_ => if a = at_ ∧ k ≥ 1 ∧ k ≤ 5 then k else faultA l at_
def faultV (l : List (Int × Int)) : List Value := l.flatMap fun p => [iv p.1, iv p.2]
theorem faultV_get {l : List (Int × Int)} {i : Nat} (hi : i < l.length) : (faultV l)[i * 2]? = some (iv l[i].1) ∧ (faultV l)[i * 2 + 1]? = some (iv l[i].2) := by
  induction l generalizing i with
  | nil => simp at hi
  | cons p l ih =>
    cases i with
    | zero => simp [faultV]
    | succ i =>
      have := ih (i := i) (by simpa using hi)
      simp only [faultV, List.flatMap_cons, List.getElem_cons_succ] at this ⊢
      rw [show (i + 1) * 2 = i * 2 + 2 by omega]
      simpa using this
theorem one_faultV (l : List (Int × Int)) : ∀ v ∈ faultV l, oneC v = true := by
  intro v hv
  simp only [faultV, List.mem_flatMap] at hv
  obtain ⟨p, _, hp⟩ := hv
  simp at hp
  rcases hp with rfl | rfl <;> rfl
theorem faultA_drop {l : List (Int × Int)} {i : Nat} (hi : i < l.length) (at_ : Int) : faultA (l.drop i) at_ = if l[i].1 = at_ ∧ l[i].2 ≥ 1 ∧ l[i].2 ≤ 5 then l[i].2 else faultA (l.drop (i + 1)) at_ := by
  rw [List.drop_eq_getElem_cons hi]
  rfl

theorem Tryz.c_fault {A : Option Addr} {n c : Nat} {l : List (Int × Int)} {h : Hp} (at_ : Int) (hn : n = l.length) (hs : Src h (n * 2) (faultV l) A) (hb : n ≤ 1099511627776) :
    CH Tryz.prog 64 #[.slice A n c, .int .i64 at_] h fun r h' => r = .int .i64 (faultA l at_) ∧ Grow h h' := by
  apply D_disk_fault.sound
  unfold D_disk_fault
  refine ⟨fun j h' m => Grow h h' ∧ 0 ≤ j ∧ j ≤ n ∧ m = n - j.toNat ∧ faultA l at_ = faultA (l.drop j.toNat) at_, ⟨n, Kp.rfl', by omega, by omega, by simp, by simp⟩, ?_⟩
  rintro j h1 m ⟨g, h0, hj, rfl, ha⟩
  unfold D_disk_fault.L2
  refine ⟨fun e => ?_, fun e => ?_⟩
  · have hlt := dec_t e
    have hi : j.toNat < l.length := by omega
    obtain ⟨a, rfl⟩ := hs.addr (by omega)
    obtain ⟨f0, f1⟩ := faultV_get hi
    have hs1 := hs.g g
    refine ⟨a, rfl, h0, hlt, l[j.toNat].1, l[j.toNat].2, ?_, ?_⟩
    · intro i v hv
      rw [add_add]
      rcases i with _ | _ | i
      · cases hv; exact hs1.get f0
      · cases hv; exact hs1.get f1
      · simp at hv
    intro b h2 eb eh
    obtain ⟨hb2, g2, hge2, _⟩ := boxed eb eh
    refine ⟨fun i hi => wr_add hb2 (by simp; omega), ?_⟩
    intro h3 eh3
    have hb3 : h3[b]? = some (.cells (over #[.int .i64 0, .int .i64 0] 0 [.int .i64 l[j.toNat].1, .int .i64 l[j.toNat].2]) 33 (0, 0)) := by rw [eh3]; exact V.setRow_at 0 _ 0 _ _ hb2
    have g3 : Grow h h3 := by
      refine ⟨?_, fun k hk _ => ?_⟩
      · rw [eh3, V.setRow_size]; exact Nat.le_trans g.size g2.size
      · rw [eh3, (V.setRow_kp _ _ 0 h2).block k (Nat.lt_of_lt_of_le hk (Nat.le_trans g.size g2.size)) (by have := g.size; intro e; simp at e; omega)]
        exact (g2.block k (Nat.lt_of_lt_of_le hk g.size) id).trans (g.block k hk id)
    have hrec : ¬ (l[j.toNat].1 = at_ ∧ l[j.toNat].2 ≥ 1 ∧ l[j.toNat].2 ≤ 5) → D_disk_fault.J3 (fun r h' => r = .int .i64 (faultA l at_) ∧ Grow h h') (fun j2 h3 => ∃ m1, m1 < n - j.toNat ∧ Grow h h3 ∧ 0 ≤ j2 ∧ j2 ≤ n ∧ m1 = n - j2.toNat ∧ faultA l at_ = faultA (l.drop j2.toNat) at_) j b false h3 := by
      intro hno
      unfold D_disk_fault.J3
      refine ⟨fun e => Bool.noConfusion e, fun _ => ?_⟩
      rw [inc64 h0 hlt (by omega)]
      refine ⟨_, ?_, g3, by omega, by omega, rfl, ?_⟩
      · rw [toNat_inc h0]; omega
      · rw [ha, faultA_drop hi, if_neg hno, toNat_inc h0]
    refine ⟨l[j.toNat].1, (cell_of hb3 0).trans rfl, fun e1 => ⟨l[j.toNat].2, (cell_add hb3 0 1).trans rfl, fun e2 => ⟨l[j.toNat].2, (cell_add hb3 0 1).trans rfl, ?_⟩, fun e2 => ?_⟩, fun e1 => ?_⟩
    · cases e3 : decide (l[j.toNat].2 ≤ 5) with
      | true =>
        unfold D_disk_fault.J3
        refine ⟨fun _ => ⟨l[j.toNat].2, (cell_add hb3 0 1).trans rfl, ?_, g3⟩, fun e => Bool.noConfusion e⟩
        rw [ha, faultA_drop hi, if_pos ⟨by simpa using e1, dec_t e2, dec_t e3⟩]
      | false => exact hrec fun hx => (dec_f e3) hx.2.2
    · exact hrec fun hx => (dec_f e2) hx.2.1
    · exact hrec fun hx => by simp [hx.1] at e1
  · have hge := dec_f e
    unfold D_disk_fault.J1
    refine ⟨?_, g⟩
    rw [ha, List.drop_of_length_le (by omega)]
    rfl

/-! ### numbers counted round -/
def roundA (v n : Int) : Int := v % n
theorem tmod_round {v n : Int} (hn : 0 < n) : (v.tmod n + n).tmod n = v % n := by
  have h1 := Int.tmod_lt_of_pos v hn
  have h2 := Int.lt_tmod_of_pos v hn
  rw [Int.tmod_eq_emod_of_nonneg (a := v.tmod n + n) (by omega), Int.add_emod_right]
  rw [Int.tmod_def]
  exact Int.sub_mul_emod_self_left v n _
theorem Tryz.c_round (v n : Int) (h : Hp) (hn : 0 < n) (hn' : n ≤ 4611686018427387904) : CH Tryz.prog 65 #[.int .i64 v, .int .i64 n] h fun r h' => r = .int .i64 (roundA v n) ∧ h' = h := by
  apply D_disk_round.sound
  unfold D_disk_round
  refine ⟨by omega, by omega, ?_, rfl⟩
  have h1 := Int.tmod_lt_of_pos v hn
  have h2 := Int.lt_tmod_of_pos v hn
  rw [w64 (by omega) (by omega), tmod_round hn]
  rfl
end Go.Proofs
set_option linter.unusedVariables false
/-! DA: files, plain. -/
namespace Go.Disk
open Go Go.V
inductive Chg where
  | app (l : List UInt8)
  | cut (k : Nat)
abbrev Rw := List (UInt8 × Bool)
def Chg.doR : Chg → Rw → Rw
  | .app l, r => r ++ l.map fun b => (b, true)
  | .cut k, r => r.take k
def Chg.len : Chg → Nat → Nat
  | .app l, n => n + l.length
  | .cut k, _ => k
def Chg.ok : Chg → Nat → Prop
  | .app _, _ => True
  | .cut k, n => k ≤ n
def okFrom : List Chg → Nat → Prop
  | [], _ => True
  | c :: cs, n => c.ok n ∧ okFrom cs (c.len n)
def lensFrom : List Chg → Nat → Nat → Nat × Nat
  | [], n, m => (n, m)
  | c :: cs, n, m => lensFrom cs (c.len n) (max m (c.len n))
structure FileA where
  safe : List UInt8
  pend : List Chg
def baseR (l : List UInt8) : Rw := l.map fun b => (b, false)
def FileA.row (f : FileA) (k : Nat) : Rw := (f.pend.take k).foldl (fun r c => c.doR r) (baseR f.safe)
def FileA.bytes (f : FileA) : List UInt8 := (f.row f.pend.length).map (·.1)
def FileA.lens (f : FileA) : Nat × Nat := lensFrom f.pend f.safe.length f.safe.length
def FileA.ok (f : FileA) : Prop := okFrom f.pend f.safe.length

theorem Chg.doR_length {c : Chg} {r : Rw} (h : c.ok r.length) : (c.doR r).length = c.len r.length := by
  cases c with
  | app l => simp [Chg.doR, Chg.len]
  | cut k => simp only [Chg.doR, Chg.len, List.length_take]; exact Nat.min_eq_left h
theorem lensFrom_le : ∀ (cs : List Chg) (n m : Nat), m ≤ (lensFrom cs n m).2 ∧ (n ≤ m → (lensFrom cs n m).1 ≤ (lensFrom cs n m).2)
  | [], n, m => ⟨Nat.le_refl _, fun h => h⟩
  | c :: cs, n, m => by
    have := lensFrom_le cs (c.len n) (max m (c.len n))
    exact ⟨Nat.le_trans (Nat.le_max_left _ _) this.1, fun _ => this.2 (Nat.le_max_right _ _)⟩
theorem lensFrom_append : ∀ (cs ds : List Chg) (n m : Nat), lensFrom (cs ++ ds) n m = lensFrom ds (lensFrom cs n m).1 (lensFrom cs n m).2
  | [], _, _, _ => rfl
  | c :: cs, ds, n, m => by simp only [List.cons_append, lensFrom]; exact lensFrom_append cs ds _ _
theorem okFrom_append : ∀ (cs ds : List Chg) (n : Nat) (m : Nat), okFrom (cs ++ ds) n ↔ okFrom cs n ∧ okFrom ds (lensFrom cs n m).1
  | [], _, _, _ => by simp [okFrom, lensFrom]
  | c :: cs, ds, n, m => by
    simp only [List.cons_append, okFrom, lensFrom]
    rw [okFrom_append cs ds (c.len n) (max m (c.len n)), and_assoc]
/-- Behind the first so many changes it is as long as they say. -/
theorem fold_length : ∀ (cs : List Chg) (r : Rw) (m : Nat), okFrom cs r.length → (cs.foldl (fun r c => c.doR r) r).length = (lensFrom cs r.length m).1
  | [], _, _, _ => rfl
  | c :: cs, r, m, h => by
    simp only [List.foldl_cons, lensFrom]
    have hl := Chg.doR_length h.1
    rw [fold_length cs (c.doR r) (max m (c.len r.length)) (by rw [hl]; exact h.2), hl]
theorem okFrom_take {cs : List Chg} {n k : Nat} (h : okFrom cs n) : okFrom (cs.take k) n := by
  rw [← List.take_append_drop k cs] at h
  exact ((okFrom_append _ _ n 0).1 h).1
theorem FileA.row_length {f : FileA} (h : f.ok) (k : Nat) : (f.row k).length = (lensFrom (f.pend.take k) f.safe.length f.safe.length).1 := by
  unfold FileA.row
  have : (baseR f.safe).length = f.safe.length := by simp [baseR]
  rw [fold_length _ _ f.safe.length (by rw [this]; exact okFrom_take h), this]
theorem FileA.row_le {f : FileA} (h : f.ok) (k : Nat) : (f.row k).length ≤ f.lens.2 := by
  rw [FileA.row_length h k]
  have h1 := (lensFrom_le (f.pend.take k) f.safe.length f.safe.length).2 (Nat.le_refl _)
  have h2 := lensFrom_append (f.pend.take k) (f.pend.drop k) f.safe.length f.safe.length
  rw [List.take_append_drop] at h2
  have h3 := (lensFrom_le (f.pend.drop k) (lensFrom (f.pend.take k) f.safe.length f.safe.length).1 (lensFrom (f.pend.take k) f.safe.length f.safe.length).2).1
  unfold FileA.lens
  rw [h2]
  exact Nat.le_trans h1 h3
theorem FileA.bytes_length {f : FileA} (h : f.ok) : f.bytes.length = f.lens.1 := by
  unfold FileA.bytes
  rw [List.length_map, FileA.row_length h, List.take_length]
  rfl
theorem FileA.lens_le (f : FileA) : f.lens.1 ≤ f.lens.2 := (lensFrom_le f.pend f.safe.length f.safe.length).2 (Nat.le_refl _)
theorem FileA.safe_le (f : FileA) : f.safe.length ≤ f.lens.2 := (lensFrom_le f.pend f.safe.length f.safe.length).1

/-- Sectors taken away of what changes have brought. -/
def sectorsOf (n : Nat) : Nat := (n + 16 - 1) / 16
def loseAt (r : Rw) (s : Nat) (v : Int) : Rw := r.mapIdx fun i p => if (v % s).toNat = i / 16 ∧ p.2 = true then (0, true) else p
def loseA (r : Rw) (lost : List Int) : Rw := if sectorsOf r.length = 0 then r else lost.foldl (fun r v => loseAt r (sectorsOf r.length) v) r
theorem loseAt_length (r : Rw) (s : Nat) (v : Int) : (loseAt r s v).length = r.length := by simp [loseAt]
end Go.Disk
set_option linter.unusedVariables false
set_option linter.unusedSimpArgs false
namespace Go.Proofs
open Go Go.V Go.Disk
def All2 {α β : Type} (R : α → β → Prop) : List α → List β → Prop
  | [], [] => True
  | a :: l, b :: m => R a b ∧ All2 R l m
  | _, _ => False
theorem forall2_imp {α β : Type} {R S : α → β → Prop} : ∀ {l : List α} {m : List β}, All2 R l m → (∀ a ∈ l, ∀ b, R a b → S a b) → All2 S l m
  | [], [], _, _ => trivial
  | _ :: _, _ :: _, h, k => ⟨k _ List.mem_cons_self _ h.1, forall2_imp h.2 fun a ha => k a (List.mem_cons_of_mem _ ha)⟩
theorem forall2_get {α β : Type} {R : α → β → Prop} : ∀ {l : List α} {m : List β}, All2 R l m → ∀ {i : Nat}, i < l.length → ∃ a b, l[i]? = some a ∧ m[i]? = some b ∧ R a b
  | [], [], _, i, hi => by simp at hi
  | _ :: _, _ :: _, h, 0, _ => ⟨_, _, rfl, rfl, h.1⟩
  | _ :: l, _ :: m, h, i + 1, hi => by simpa using forall2_get h.2 (i := i) (by simpa using hi)
theorem forall2_len {α β : Type} {R : α → β → Prop} : ∀ {l : List α} {m : List β}, All2 R l m → l.length = m.length
  | [], [], _ => rfl
  | _ :: _, _ :: _, h => by simp [forall2_len h.2]
theorem forall2_append {α β : Type} {R : α → β → Prop} : ∀ {l : List α} {m : List β}, All2 R l m → ∀ {l' : List α} {m' : List β}, All2 R l' m' → All2 R (l ++ l') (m ++ m')
  | [], [], _, _, _, h' => h'
  | _ :: _, _ :: _, h, _, _, h' => ⟨h.1, forall2_append h.2 h'⟩

/-! ### how changes and files lie -/
def Tryz.ChgR (h : Hp) (v : Value) : Chg → Prop
  | .app l => ∃ A n c, v = .iface 114 (.agg #[.slice A n c]) ∧ BS h A n l ∧ Tag h A 5
  | .cut k => v = .iface 122 (.agg #[.int .i64 k])
def Tryz.chgB (v : Value) (b : Nat) : Prop := ∃ A n c, v = .iface 114 (.agg #[.slice A n c]) ∧ inA A b
theorem Tryz.ChgR.kp {W : Nat → Prop} {h h' : Hp} {v : Value} {c : Chg} (r : Tryz.ChgR h v c) (g : Kp W h h') (hn : ∀ b, Tryz.chgB v b → ¬ W b) : Tryz.ChgR h' v c := by
  cases c with
  | cut k => exact r
  | app l =>
    obtain ⟨A, n, c, rfl, hb, ht⟩ := r
    exact ⟨A, n, c, rfl, hb.kp g fun b hb => hn b ⟨_, _, _, rfl, hb⟩, ht.kp g fun b hb => hn b ⟨_, _, _, rfl, hb⟩⟩

theorem Tryz.m_len1 (x : Value) (w : World) : (method (Tryz.prog.types.size + Made.depth) 114 x "treadle/disk.length").run Tryz.prog w = .ok (173, x) w := by kernel_rfl
theorem Tryz.m_len2 (x : Value) (w : World) : (method (Tryz.prog.types.size + Made.depth) 122 x "treadle/disk.length").run Tryz.prog w = .ok (175, x) w := by kernel_rfl
theorem Tryz.m_do1 (x : Value) (w : World) : (method (Tryz.prog.types.size + Made.depth) 114 x "treadle/disk.do").run Tryz.prog w = .ok (172, x) w := by kernel_rfl
theorem Tryz.m_do2 (x : Value) (w : World) : (method (Tryz.prog.types.size + Made.depth) 122 x "treadle/disk.do").run Tryz.prog w = .ok (174, x) w := by kernel_rfl

/-! ### lengths -/
theorem Tryz.c_length {h : Hp} {v : Value} {c : Chg} {n : Nat} (r : Tryz.ChgR h v c) (hn : c.len n ≤ 1099511627776) :
    CHI Tryz.prog v "treadle/disk.length" [.int .i64 n] h fun r h' => r = .int .i64 (c.len n) ∧ Grow h h' := by
  cases c with
  | app l =>
    obtain ⟨A, m, cc, rfl, hb, _⟩ := r
    refine ⟨114, _, 173, _, Tryz.f173, _, rfl, Tryz.m_len1 _, Tryz.func173, rfl, Tryz.nn173, ?_⟩
    apply D_disk_appended_length.sound
    unfold D_disk_appended_length
    intro b h1 eb eh
    obtain ⟨hb1, g1, _⟩ := boxed eb eh
    refine ⟨A, m, cc, (cell_of hb1 0).trans rfl, ?_, g1⟩
    simp only [Chg.len] at hn ⊢
    rw [hb.1, w64 (by omega) (by omega)]
    simp
  | cut k =>
    obtain rfl := r
    refine ⟨122, _, 175, _, Tryz.f175, _, rfl, Tryz.m_len2 _, Tryz.func175, rfl, Tryz.nn175, ?_⟩
    apply D_disk_truncated_length.sound
    unfold D_disk_truncated_length
    intro b h1 eb eh
    obtain ⟨hb1, g1, _⟩ := boxed eb eh
    exact ⟨k, (cell_of hb1 0).trans rfl, rfl, g1⟩

/-- A file as it lies. -/
structure FG where
  p : Nat
  sA : Option Addr
  sn : Nat
  sc : Nat
  pA : Option Addr
  pn : Nat
  pc : Nat
  vs : List Value
  f : FileA
structure Tryz.FR (h : Hp) (g : FG) : Prop where
  blk : h[g.p]? = some (.cells #[.slice g.sA g.sn g.sc, .slice g.pA g.pn g.pc] 111 (0, 0))
  safe : BS h g.sA g.sn g.f.safe
  safeT : Tag h g.sA 5
  pend : OwnS h 150 1 g.pA g.pn g.pc g.vs
  chg : All2 (Tryz.ChgR h) g.vs g.f.pend
  ok : g.f.ok
def Tryz.FB (g : FG) (b : Nat) : Prop := b = g.p ∨ inA g.sA b ∨ inA g.pA b ∨ ∃ v ∈ g.vs, Tryz.chgB v b
theorem Tryz.FR.kp {W : Nat → Prop} {h h' : Hp} {g : FG} (r : Tryz.FR h g) (k : Kp W h h') (hn : ∀ b, Tryz.FB g b → ¬ W b) : Tryz.FR h' g :=
  ⟨k.at r.blk (hn _ (.inl rfl)), r.safe.kp k fun b hb => hn b (.inr (.inl hb)), r.safeT.kp k fun b hb => hn b (.inr (.inl hb)), r.pend.kp k fun b hb => hn b (.inr (.inr (.inl hb))),
   forall2_imp r.chg fun v hv c hc => hc.kp k fun b hb => hn b (.inr (.inr (.inr ⟨v, hv, hb⟩))), r.ok⟩
theorem Tryz.FR.g {h h' : Hp} {g : FG} (r : Tryz.FR h g) (k : Grow h h') : Tryz.FR h' g := r.kp k fun _ _ => id
theorem Tryz.FR.pn {h : Hp} {g : FG} (r : Tryz.FR h g) : g.pn = g.f.pend.length := by
  have h1 := r.pend.src.len
  have h2 := forall2_len r.chg
  omega
theorem lens_get (f : FileA) {i : Nat} {c : Chg} (hc : f.pend[i]? = some c) : c.len (lensFrom (f.pend.take i) f.safe.length f.safe.length).1 ≤ f.lens.2 := by
  have h1 : f.pend.take (i + 1) = f.pend.take i ++ [c] := by rw [List.take_add_one, hc]; rfl
  have h2 := lensFrom_append (f.pend.take (i + 1)) (f.pend.drop (i + 1)) f.safe.length f.safe.length
  rw [List.take_append_drop] at h2
  have h3 := (lensFrom_le (f.pend.drop (i + 1)) (lensFrom (f.pend.take (i + 1)) f.safe.length f.safe.length).1 (lensFrom (f.pend.take (i + 1)) f.safe.length f.safe.length).2).1
  have h4 := lensFrom_append (f.pend.take i) [c] f.safe.length f.safe.length
  rw [← h1] at h4
  have h5 : (lensFrom (f.pend.take (i + 1)) f.safe.length f.safe.length).2 = max (lensFrom (f.pend.take i) f.safe.length f.safe.length).2 (c.len (lensFrom (f.pend.take i) f.safe.length f.safe.length).1) := by
    rw [h4]; rfl
  unfold FileA.lens
  rw [h2]
  have := Nat.le_max_right (lensFrom (f.pend.take i) f.safe.length f.safe.length).2 (c.len (lensFrom (f.pend.take i) f.safe.length f.safe.length).1)
  omega

theorem Tryz.c_lengths {h : Hp} {g : FG} (r : Tryz.FR h g) (hb : g.f.lens.2 ≤ 1099511627776) (hp : g.f.pend.length ≤ 1099511627776) :
    CH Tryz.prog 46 #[.pointer (some ⟨g.p, 0, none⟩)] h fun r h' => r = .tuple #[.int .i64 g.f.lens.1, .int .i64 g.f.lens.2] ∧ Grow h h' := by
  apply D_disk_file_lengths.sound
  unfold D_disk_file_lengths
  have hpn := r.pn
  refine ⟨_, rfl, _, _, _, (cell_of r.blk 0).trans rfl, _, _, _, (cell_add r.blk 0 1).trans rfl, ?_⟩
  refine ⟨fun a b j h' m => Grow h h' ∧ 0 ≤ j ∧ j ≤ g.pn ∧ m = g.pn - j.toNat ∧ a = ((lensFrom (g.f.pend.take j.toNat) g.f.safe.length g.f.safe.length).1 : Int) ∧ b = ((lensFrom (g.f.pend.take j.toNat) g.f.safe.length g.f.safe.length).2 : Int),
    ⟨g.pn, Kp.rfl', by omega, by omega, by simp, ?_, ?_⟩, ?_⟩
  · simp [lensFrom, r.safe.1]
  · simp [lensFrom, r.safe.1]
  rintro a b j h1 m ⟨k, h0, hj, rfl, rfl, rfl⟩
  unfold D_disk_file_lengths.L2
  refine ⟨fun e => ?_, fun e => ?_⟩
  · have hlt := dec_t e
    have r1 := r.g k
    have hvl := r1.pend.src.len
    obtain ⟨v, c, hv, hc, hr⟩ := forall2_get r1.chg (i := j.toNat) (by omega)
    obtain ⟨pa, hpa⟩ := r1.pend.src.addr (by omega)
    have hs := r1.pend.src
    rw [hpa] at hs
    refine ⟨pa, hpa, h0, hlt, v, by rw [Nat.mul_one]; exact hs.get hv, (Tryz.c_length hr (Nat.le_trans (lens_get g.f hc) hb)).mono ?_⟩
    rintro rv h2 ⟨rfl, k2⟩
    refine ⟨_, rfl, ?_⟩
    have ht : g.f.pend.take (j.toNat + 1) = g.f.pend.take j.toNat ++ [c] := by rw [List.take_add_one, hc]; rfl
    have h4 := lensFrom_append (g.f.pend.take j.toNat) [c] g.f.safe.length g.f.safe.length
    rw [← ht] at h4
    rw [inc64 h0 hlt (by omega)]
    refine ⟨_, ?_, k.trans k2, by omega, by omega, rfl, ?_, ?_⟩
    · rw [toNat_inc h0]; omega
    · rw [toNat_inc h0, h4]; rfl
    · rw [toNat_inc h0, h4]
      simp only [lensFrom, optMx]
      split <;> omega
  · have hge := dec_f e
    unfold D_disk_file_lengths.J1
    refine ⟨?_, k⟩
    rw [List.take_of_length_le (by omega)]
    rfl
end Go.Proofs
set_option linter.unusedVariables false
set_option linter.unusedSimpArgs false
namespace Go.Proofs
open Go Go.V Go.Disk
def rb (p : UInt8 × Bool) : Value := bv p.1
def rf (p : UInt8 × Bool) : Value := .bool p.2
/-- A row: its bytes and which of them were brought, in slices of its own. -/
def Tryz.RowR (h : Hp) (A : Option Addr) (n c : Nat) (B : Option Addr) (m d : Nat) (r : Rw) : Prop := OwnS h 5 1 A n c (r.map rb) ∧ OwnS h 4 1 B m d (r.map rf)
theorem Tryz.RowR.kp {W : Nat → Prop} {h h' : Hp} {A : Option Addr} {n c : Nat} {B : Option Addr} {m d : Nat} {r : Rw} (o : Tryz.RowR h A n c B m d r) (k : Kp W h h') (hn : ∀ b, inA A b ∨ inA B b → ¬ W b) : Tryz.RowR h' A n c B m d r :=
  ⟨o.1.kp k fun b hb => hn b (.inl hb), o.2.kp k fun b hb => hn b (.inr hb)⟩
theorem Tryz.RowR.len {h : Hp} {A : Option Addr} {n c : Nat} {B : Option Addr} {m d : Nat} {r : Rw} (o : Tryz.RowR h A n c B m d r) : n = r.length ∧ m = r.length := by
  have h1 := o.1.src.len
  have h2 := o.2.src.len
  simp at h1 h2
  exact ⟨h1.symm, h2.symm⟩
theorem one_b (x : UInt8) : ∀ v ∈ [bv x], oneC v = true := fun v hv => by simp at hv; subst hv; rfl
theorem one_f (x : Bool) : ∀ v ∈ [Value.bool x], oneC v = true := fun v hv => by simp at hv; subst hv; rfl

/-- What a loop over a change's bytes holds. -/
structure Tryz.DoI (h : Hp) (A B : Option Addr) (b4 b6 : Nat) (r : Rw) (h1 : Hp) : Prop where
  ex : ∃ A' n' c' B' m' d', h1[b4]? = some (.cells #[.slice A' n' c', .slice B' m' d'] 128 (0, 0)) ∧ Tryz.RowR h1 A' n' c' B' m' d' r ∧ (∀ b, inA A' b → inA A b ∨ h.size ≤ b) ∧ (∀ b, inA B' b → inA B b ∨ h.size ≤ b)
  out : h1[b6]? = some (.cells #[.slice none 0 0, .slice none 0 0] 128 (0, 0))
  kp : Kp (fun b => inA A b ∨ inA B b) h h1

/-- One byte more, whichever order is drawn. -/
theorem Tryz.do_tail {h h1 h2 h3 : Hp} {A B : Option Addr} {b4 b6 : Nat} {r' : Rw} (hne : b4 ≠ b6) (hb4 : h.size ≤ b4)
    {A2 : Option Addr} {n2 c2 : Nat} {B2 : Option Addr} {m2 d2 : Nat} {v0 v1 : Value}
    (hc : h1[b4]? = some (.cells #[v0, v1] 128 (0, 0))) (ho : h1[b6]? = some (.cells #[.slice none 0 0, .slice none 0 0] 128 (0, 0)))
    (hr : Tryz.RowR h1 A2 n2 c2 B2 m2 d2 r') (ha : ∀ b, inA A2 b → inA A b ∨ h.size ≤ b) (hb : ∀ b, inA B2 b → inA B b ∨ h.size ≤ b) (k : Kp (fun b => inA A b ∨ inA B b) h h1)
    (e2 : h2 = setc h1 (Addr.mk b4 0 none) (.slice A2 n2 c2)) (e3 : h3 = setc h2 ((Addr.mk b4 0 none).add 1) (.slice B2 m2 d2)) :
    Tryz.DoI h A B b4 b6 r' h3 ∧ Wr h1 (Addr.mk b4 0 none) ∧ Wr h2 ((Addr.mk b4 0 none).add 1) := by
  have k1 := Kp.setc h1 (Addr.mk b4 0 none) (.slice A2 n2 c2)
  have hc2 := setc_at hc 0 (.slice A2 n2 c2)
  rw [← e2] at k1 hc2
  have k2 := Kp.setc h2 ((Addr.mk b4 0 none).add 1) (.slice B2 m2 d2)
  have hc3 := setc_add hc2 0 1 (.slice B2 m2 d2)
  rw [← e3] at k2 hc3
  rw [add_block] at k2
  have k12 := k1.trans k2
  have tA := hr.1.tag.ne hc (by decide)
  have tB := hr.2.tag.ne hc (by decide)
  refine ⟨⟨⟨A2, n2, c2, B2, m2, d2, hc3, hr.kp k12 ?_, ha, hb⟩, k12.at ho (fun e => hne e.symm), k.trans' k12 fun j hj e => ?_⟩, wr_of hc (by simp), wr_add hc2 (by simp)⟩
  · rintro b (hb' | hb') rfl
    · exact tA hb'
    · exact tB hb'
  · have : j = b4 := e
    omega

theorem Tryz.c_app_do {h : Hp} {A : Option Addr} {n c : Nat} {l : List UInt8} {rA : Option Addr} {rn rc : Nat} {bA : Option Addr} {bn bc : Nat} {r : Rw} (hs : BS h A n l) (hA : Tag h A 5) (hr : Tryz.RowR h rA rn rc bA bn bc r) (hne : ∀ b, inA A b → ¬ inA rA b)
    (hb : r.length + l.length ≤ 68719476735) :
    CH Tryz.prog 172 #[.agg #[.slice A n c], .agg #[.slice rA rn rc, .slice bA bn bc]] h fun v h' => ∃ A' n' c' B' m' d', v = .agg #[.slice A' n' c', .slice B' m' d'] ∧ Tryz.RowR h' A' n' c' B' m' d' ((Chg.app l).doR r) ∧
      Kp (fun b => inA rA b ∨ inA bA b) h h' ∧ (∀ b, inA A' b → inA rA b ∨ h.size ≤ b) ∧ (∀ b, inA B' b → inA bA b ∨ h.size ≤ b) := by
  apply D_disk_appended_do.sound
  unfold D_disk_appended_do
  intro b2 h1 eb1 eh1 b4 h3 eb3 eh3 b6 h5 eb5 eh5
  obtain ⟨f2, g1, s2, _⟩ := boxed eb1 eh1
  obtain ⟨f4, g3, s4, l4⟩ := boxed eb3 eh3
  obtain ⟨f6, g5, s6, l6⟩ := boxed eb5 eh5
  have g15 := (g1.trans g3).trans g5
  have hs5 := hs.g g15
  have hA5 : Tag h5 A 5 := hA.kp g15 fun _ _ => id
  have hnl : n = l.length := hs.1
  refine ⟨A, n, c, (cell_of (g5.g (g3.g f2)) 0).trans rfl, ?_⟩
  have hlt4 : b4 < h5.size := lt_of_some (g5.g f4)
  have hneb : b4 ≠ b6 := by have := lt_of_some f4; omega
  refine ⟨fun j h' m => 0 ≤ j ∧ j ≤ n ∧ m = n - j.toNat ∧ Tryz.DoI h rA bA b4 b6 (r ++ (l.take j.toNat).map fun b => (b, true)) h', ⟨n, by omega, by omega, by simp, ⟨⟨rA, rn, rc, bA, bn, bc, g5.g f4, ?_, fun b hb => .inl hb, fun b hb => .inl hb⟩, f6, g15.kp⟩⟩, ?_⟩
  · simpa using hr.kp g15 fun _ _ => id
  rintro j h7 m ⟨h0, hj, rfl, ⟨⟨A', n', c', B', m', d', hc, hro, ha, hb'⟩, hout, k⟩⟩
  unfold D_disk_appended_do.L2
  have hsize : h.size ≤ b4 := Nat.le_trans (by have := g1.size; omega) s4
  refine ⟨fun e => ?_, fun e => ?_⟩
  · have hlt := dec_t e
    have hs7 : BS h7 A n l := hs.kp k fun b hb hx => by
      rcases hx with hx | hx
      · exact hne b hb hx
      · exact hA.apart hr.2.tag (by decide) b hb hx
    obtain ⟨a, x, rfl, hx, hcx⟩ := hs7.get h0 hlt
    have ht : l.take (j.toNat + 1) = l.take j.toNat ++ [x] := by rw [List.take_add_one, hx]; rfl
    obtain ⟨hn', hm'⟩ := hro.len
    have hlen : (r ++ (l.take j.toNat).map fun b => (b, true)).length ≤ 68719476735 := by
      simp only [List.length_append, List.length_map, List.length_take]; omega
    have fin : ∀ h8 h9 h10 A2 n2 c2 B2 m2 d2 v0 v1, h8[b4]? = some (.cells #[v0, v1] 128 (0, 0)) → h8[b6]? = some (.cells #[.slice none 0 0, .slice none 0 0] 128 (0, 0)) →
        OwnS h8 5 1 A2 n2 c2 ((r ++ (l.take j.toNat).map fun b => (b, true)).map rb ++ [bv x]) → OwnS h8 4 1 B2 m2 d2 ((r ++ (l.take j.toNat).map fun b => (b, true)).map rf ++ [.bool true]) →
        (∀ b, inA A2 b → inA A' b ∨ h7.size ≤ b) → (∀ b, inA B2 b → inA B' b ∨ h7.size ≤ b) → Kp (fun b => inA A' b ∨ inA B' b) h7 h8 →
        h9 = setc h8 (Addr.mk b4 0 none) (.slice A2 n2 c2) → h10 = setc h9 ((Addr.mk b4 0 none).add 1) (.slice B2 m2 d2) →
        Wr h8 (Addr.mk b4 0 none) ∧ Wr h9 ((Addr.mk b4 0 none).add 1) ∧ D_disk_appended_do.J3 (fun v h' => ∃ A' n' c' B' m' d', v = .agg #[.slice A' n' c', .slice B' m' d'] ∧ Tryz.RowR h' A' n' c' B' m' d' ((Chg.app l).doR r) ∧
          Kp (fun b => inA rA b ∨ inA bA b) h h' ∧ (∀ b, inA A' b → inA rA b ∨ h.size ≤ b) ∧ (∀ b, inA B' b → inA bA b ∨ h.size ≤ b))
          (fun j16 h17 => ∃ m1, m1 < n - j.toNat ∧ 0 ≤ j16 ∧ j16 ≤ n ∧ m1 = n - j16.toNat ∧ Tryz.DoI h rA bA b4 b6 (r ++ (l.take j16.toNat).map fun b => (b, true)) h17) j h10 := by
      intro h8 h9 h10 A2 n2 c2 B2 m2 d2 v0 v1 hc8 ho8 o1 o2 i1 i2 k8 e9 e10
      have hr8 : Tryz.RowR h8 A2 n2 c2 B2 m2 d2 (r ++ (l.take (j.toNat + 1)).map fun b => (b, true)) := by
        rw [ht, List.map_append, ← List.append_assoc]
        exact ⟨by rw [List.map_append]; exact o1, by rw [List.map_append]; exact o2⟩
      have kk : Kp (fun b => inA rA b ∨ inA bA b) h h8 := k.trans' k8 fun q hq hx => by
        rcases hx with hx | hx
        · exact (ha q hx).elim .inl fun hx => by omega
        · exact (hb' q hx).elim .inr fun hx => by omega
      obtain ⟨d1, d2, d3⟩ := Tryz.do_tail (A := rA) (B := bA) hneb hsize hc8 ho8 hr8 (fun b hb => (i1 b hb).elim (ha b) fun hx => .inr (Nat.le_trans k.size hx)) (fun b hb => (i2 b hb).elim (hb' b) fun hx => .inr (Nat.le_trans k.size hx)) kk e9 e10
      refine ⟨d2, d3, ?_⟩
      unfold D_disk_appended_do.J3
      rw [inc64 h0 hlt (by omega)]
      refine ⟨_, ?_, by omega, by omega, rfl, ?_⟩
      · rw [toNat_inc h0]; omega
      · rw [toNat_inc h0]; exact d1
    have nA := hro.1.tag.ne hc (by decide)
    have nB := hro.2.tag.ne hc (by decide)
    have nA6 := hro.1.tag.ne hout (by decide)
    have nB6 := hro.2.tag.ne hout (by decide)
    refine ⟨a, rfl, h0, hlt, (x.toNat : Int), hcx, _, _, _, (cell_of hc 0).trans rfl, _, _, _, (cell_add hc 0 1).trans rfl, ⟨?_, ?_⟩⟩
    · intro bx hx1 ebx ehx
      obtain ⟨fx, gx, _, _⟩ := boxed ebx ehx
      have hcx := gx.g hc
      refine ⟨(cell_of hcx 0).trans rfl, (cell_add hcx 0 1).trans rfl, ?_, ?_⟩
      · refine app1 (xs := [bv x]) fx rfl (one_b x) (hro.1.kp gx fun _ _ => id) rfl (by omega) (by omega) fun A2 c2 h8 o1 k1 e1 => ?_
        have hc8 := k1.at hcx nA
        refine ⟨(cell_add hc8 0 1).trans rfl, fun by' hy eby ehy => ?_⟩
        obtain ⟨fy, gy, _, _⟩ := boxed eby ehy
        have hcy := gy.g hc8
        have oB : OwnS hy 4 1 B' m' d' ((r ++ (l.take j.toNat).map fun b => (b, true)).map rf) := ((hro.2.kp gx fun _ _ => id).kp k1 fun b hb => hro.2.tag.apart hro.1.tag (by decide) b hb).kp gy fun _ _ => id
        refine ⟨(cell_add hcy 0 1).trans rfl, ?_⟩
        refine app1 (xs := [.bool true]) fy rfl (one_f true) oB rfl (by omega) (by omega) fun B2 d2 h9 o2 k2 e2 => ?_
        have o1' : OwnS h9 5 1 A2 _ c2 _ := (o1.kp gy fun _ _ => id).kp k2 fun b hb => (o1.kp gy fun _ _ => id).tag.apart oB.tag (by decide) b hb
        have kk : Kp (fun b => inA A' b ∨ inA B' b) h7 h9 := ((gx.kp.trans (k1.mono fun b _ hb => .inl hb)).trans gy.kp).trans (k2.mono fun b _ hb => .inr hb)
        have hc9 := k2.at hcy (by intro hx; exact nB hx)
        have ho9 := k2.at (gy.g (k1.at (gx.g hout) nA6)) nB6
        have i1 : ∀ b, inA A2 b → inA A' b ∨ h7.size ≤ b := fun b hb => (app_in e1 b hb).imp id fun hx => Nat.le_trans gx.size hx
        have i2 : ∀ b, inA B2 b → inA B' b ∨ h7.size ≤ b := fun b hb => (app_in e2 b hb).imp id fun hx => Nat.le_trans (Nat.le_trans (Nat.le_trans gx.size k1.size) gy.size) hx
        refine ⟨(fin h9 _ _ A2 _ c2 B2 _ d2 _ _ hc9 ho9 o1' o2 i1 i2 kk rfl rfl).1, fun h11 e11 => ⟨(fin h9 h11 _ A2 _ c2 B2 _ d2 _ _ hc9 ho9 o1' o2 i1 i2 kk e11 rfl).2.1, fun h13 e13 => (fin h9 h11 h13 A2 _ c2 B2 _ d2 _ _ hc9 ho9 o1' o2 i1 i2 kk e11 e13).2.2⟩⟩
      · intro by' hy eby ehy
        obtain ⟨fy, gy, _, _⟩ := boxed eby ehy
        have hcy := gy.g hcx
        have gxy := gx.trans gy
        refine ⟨(cell_of hcy 0).trans rfl, (cell_add hcy 0 1).trans rfl, ?_⟩
        refine app1 (xs := [bv x]) (gy.g fx) rfl (one_b x) (hro.1.kp gxy fun _ _ => id) rfl (by omega) (by omega) fun A2 c2 h8 o1 k1 e1 => ?_
        have hc8 := k1.at hcy nA
        refine ⟨(cell_add hc8 0 1).trans rfl, ?_⟩
        have fy8 := k1.at fy ((hro.1.kp gxy (fun _ _ => id)).tag.ne fy (by decide))
        have oB : OwnS h8 4 1 B' m' d' ((r ++ (l.take j.toNat).map fun b => (b, true)).map rf) := (hro.2.kp gxy fun _ _ => id).kp k1 fun b hb => hro.2.tag.apart hro.1.tag (by decide) b hb
        refine app1 (xs := [.bool true]) fy8 rfl (one_f true) oB rfl (by omega) (by omega) fun B2 d2 h9 o2 k2 e2 => ?_
        have o1' : OwnS h9 5 1 A2 _ c2 _ := o1.kp k2 fun b hb => o1.tag.apart oB.tag (by decide) b hb
        have kk : Kp (fun b => inA A' b ∨ inA B' b) h7 h9 := (gxy.kp.trans (k1.mono fun b _ hb => .inl hb)).trans (k2.mono fun b _ hb => .inr hb)
        have hc9 := k2.at hc8 nB
        have ho9 := k2.at (k1.at (gxy.g hout) nA6) nB6
        have i1 : ∀ b, inA A2 b → inA A' b ∨ h7.size ≤ b := fun b hb => (app_in e1 b hb).imp id fun hx => Nat.le_trans gxy.size hx
        have i2 : ∀ b, inA B2 b → inA B' b ∨ h7.size ≤ b := fun b hb => (app_in e2 b hb).imp id fun hx => Nat.le_trans (Nat.le_trans gxy.size k1.size) hx
        refine ⟨(fin h9 _ _ A2 _ c2 B2 _ d2 _ _ hc9 ho9 o1' o2 i1 i2 kk rfl rfl).1, fun h11 e11 => ⟨(fin h9 h11 _ A2 _ c2 B2 _ d2 _ _ hc9 ho9 o1' o2 i1 i2 kk e11 rfl).2.1, fun h13 e13 => (fin h9 h11 h13 A2 _ c2 B2 _ d2 _ _ hc9 ho9 o1' o2 i1 i2 kk e11 e13).2.2⟩⟩
    · intro by' hy eby ehy
      obtain ⟨fy, gy, _, _⟩ := boxed eby ehy
      have hcy := gy.g hc
      refine ⟨(cell_of hcy 0).trans rfl, (cell_add hcy 0 1).trans rfl, fun bx hx1 ebx ehx => ?_⟩
      obtain ⟨fx, gx, _, _⟩ := boxed ebx ehx
      have hcx := gx.g hcy
      have gxy := gy.trans gx
      refine ⟨(cell_of hcx 0).trans rfl, (cell_add hcx 0 1).trans rfl, ?_⟩
      refine app1 (xs := [bv x]) fx rfl (one_b x) (hro.1.kp gxy fun _ _ => id) rfl (by omega) (by omega) fun A2 c2 h8 o1 k1 e1 => ?_
      have hc8 := k1.at hcx nA
      refine ⟨(cell_add hc8 0 1).trans rfl, ?_⟩
      have fy8 := k1.at (gx.g fy) ((hro.1.kp gxy (fun _ _ => id)).tag.ne (gx.g fy) (by decide))
      have oB : OwnS h8 4 1 B' m' d' ((r ++ (l.take j.toNat).map fun b => (b, true)).map rf) := (hro.2.kp gxy fun _ _ => id).kp k1 fun b hb => hro.2.tag.apart hro.1.tag (by decide) b hb
      refine app1 (xs := [.bool true]) fy8 rfl (one_f true) oB rfl (by omega) (by omega) fun B2 d2 h9 o2 k2 e2 => ?_
      have o1' : OwnS h9 5 1 A2 _ c2 _ := o1.kp k2 fun b hb => o1.tag.apart oB.tag (by decide) b hb
      have kk : Kp (fun b => inA A' b ∨ inA B' b) h7 h9 := (gxy.kp.trans (k1.mono fun b _ hb => .inl hb)).trans (k2.mono fun b _ hb => .inr hb)
      have hc9 := k2.at hc8 nB
      have ho9 := k2.at (k1.at (gxy.g hout) nA6) nB6
      have i1 : ∀ b, inA A2 b → inA A' b ∨ h7.size ≤ b := fun b hb => (app_in e1 b hb).imp id fun hx => Nat.le_trans gxy.size hx
      have i2 : ∀ b, inA B2 b → inA B' b ∨ h7.size ≤ b := fun b hb => (app_in e2 b hb).imp id fun hx => Nat.le_trans (Nat.le_trans gxy.size k1.size) hx
      refine ⟨(fin h9 _ _ A2 _ c2 B2 _ d2 _ _ hc9 ho9 o1' o2 i1 i2 kk rfl rfl).1, fun h11 e11 => ⟨(fin h9 h11 _ A2 _ c2 B2 _ d2 _ _ hc9 ho9 o1' o2 i1 i2 kk e11 rfl).2.1, fun h13 e13 => (fin h9 h11 h13 A2 _ c2 B2 _ d2 _ _ hc9 ho9 o1' o2 i1 i2 kk e11 e13).2.2⟩⟩
  · have hge := dec_f e
    unfold D_disk_appended_do.J1
    have : l.take j.toNat = l := List.take_of_length_le (by omega)
    rw [this] at hro
    refine ⟨_, _, _, _, _, _, row_all hc, wr_all hout rfl, ?_⟩
    intro h10 e10
    have hf := setRow_at 0 [.slice A' n' c', .slice B' m' d'] 0 _ _ hout
    rw [← e10] at hf
    have kS := setRow_kp (Addr.mk b6 0 none) [.slice A' n' c', .slice B' m' d'] 0 h7
    rw [← e10] at kS
    refine ⟨_, _, _, _, _, _, row_all hf, A', n', c', B', m', d', rfl, hro.kp kS ?_, k.trans' kS ?_, ha, hb'⟩
    · rintro b (hx | hx) rfl
      · exact hro.1.tag.ne hout (by decide) hx
      · exact hro.2.tag.ne hout (by decide) hx
    · intro q hq e
      have : q = b6 := e
      have := g1.size
      have := g3.size
      omega
end Go.Proofs
set_option linter.unusedVariables false
set_option linter.unusedSimpArgs false
namespace Go.Proofs
open Go Go.V Go.Disk
theorem OwnS.less' {h : Hp} {e : TypeId} {n c k : Nat} {A : Option Addr} {vs : List Value} (o : OwnS h e 1 A n c vs) (hk : k ≤ n) : OwnS h e 1 A k c (vs.take k) := by
  obtain ⟨hlen, ⟨rfl, rfl, rfl⟩ | ⟨g, cur, hg, hb, hn, hs, ht⟩⟩ := o
  · obtain rfl : k = 0 := by omega
    exact ⟨by simp, .inl ⟨rfl, rfl, rfl⟩⟩
  · refine ⟨by rw [List.length_take]; omega, .inr ⟨g, cur, hg, hb, by omega, hs, ?_⟩⟩
    rw [← ht, List.take_take, Nat.mul_one, Nat.mul_one, Nat.min_eq_left hk]

theorem Tryz.c_cut_do {h : Hp} {k : Nat} {rA : Option Addr} {rn rc : Nat} {bA : Option Addr} {bn bc : Nat} {r : Rw} (hr : Tryz.RowR h rA rn rc bA bn bc r) (hk : k ≤ r.length) :
    CH Tryz.prog 174 #[.agg #[.int .i64 k], .agg #[.slice rA rn rc, .slice bA bn bc]] h fun v h' => ∃ A' n' c' B' m' d', v = .agg #[.slice A' n' c', .slice B' m' d'] ∧ Tryz.RowR h' A' n' c' B' m' d' ((Chg.cut k).doR r) ∧
      Kp (fun b => inA rA b ∨ inA bA b) h h' ∧ (∀ b, inA A' b → inA rA b ∨ h.size ≤ b) ∧ (∀ b, inA B' b → inA bA b ∨ h.size ≤ b) := by
  apply D_disk_truncated_do.sound
  unfold D_disk_truncated_do
  intro b2 h1 eb1 eh1 b4 h3 eb3 eh3 b6 h5 eb5 eh5
  obtain ⟨f2, g1, s2, _⟩ := boxed eb1 eh1
  obtain ⟨f4, g3, s4, l4⟩ := boxed eb3 eh3
  obtain ⟨f6, g5, s6, l6⟩ := boxed eb5 eh5
  have g15 := (g1.trans g3).trans g5
  have hr5 := hr.kp g15 fun _ _ => id
  obtain ⟨l1, l2⟩ := hr.len
  have c1 := hr.1.le
  have c2 := hr.2.le
  refine ⟨_, _, _, (cell_of (g5.g f4) 0).trans rfl, _, (cell_of (g5.g (g3.g f2)) 0).trans rfl, by omega, by omega, _, _, _, (cell_add (g5.g f4) 0 1).trans rfl, _, (cell_of (g5.g (g3.g f2)) 0).trans rfl, by omega, by omega, wr_all f6 rfl, ?_⟩
  intro h9 e9
  have f9 := V.setRow_at 0 [.slice rA (Int.toNat k) rc, .slice bA (Int.toNat k) bc] 0 _ _ f6
  have kS := V.setRow_kp (Addr.mk b6 0 none) [.slice rA (Int.toNat k) rc, .slice bA (Int.toNat k) bc] 0 h5
  rw [← e9] at f9 kS
  refine ⟨_, _, _, _, _, _, row_all f9, _, _, _, _, _, _, rfl, ?_, ?_, fun b hb => .inl hb, fun b hb => .inl hb⟩
  · have ho : Tryz.RowR h9 rA rn rc bA bn bc r := hr5.kp kS fun b hb e => by
      subst e
      rcases hb with hb | hb
      · exact hr5.1.tag.ne f6 (by decide) hb
      · exact hr5.2.tag.ne f6 (by decide) hb
    have e : Int.toNat (k : Int) = k := by omega
    rw [e]
    simp only [Chg.doR]
    refine ⟨?_, ?_⟩
    · rw [List.map_take]; exact OwnS.less' ho.1 (by omega)
    · rw [List.map_take]; exact OwnS.less' ho.2 (by omega)
  · exact g15.kp.trans' kS fun q hq e => by
      have : q = b6 := e
      have := g1.size
      have := g3.size
      omega

theorem Tryz.c_do {h : Hp} {v : Value} {c : Chg} {rA : Option Addr} {rn rc : Nat} {bA : Option Addr} {bn bc : Nat} {r : Rw} (hc : Tryz.ChgR h v c) (hr : Tryz.RowR h rA rn rc bA bn bc r) (hne : ∀ b, Tryz.chgB v b → ¬ inA rA b) (hok : c.ok r.length)
    (hb : c.len r.length ≤ 68719476735) :
    CHI Tryz.prog v "treadle/disk.do" [.agg #[.slice rA rn rc, .slice bA bn bc]] h fun v h' => ∃ A' n' c' B' m' d', v = .agg #[.slice A' n' c', .slice B' m' d'] ∧ Tryz.RowR h' A' n' c' B' m' d' (c.doR r) ∧
      Kp (fun b => inA rA b ∨ inA bA b) h h' ∧ (∀ b, inA A' b → inA rA b ∨ h.size ≤ b) ∧ (∀ b, inA B' b → inA bA b ∨ h.size ≤ b) := by
  cases c with
  | app l =>
    obtain ⟨A, n, cc, rfl, hb', ht⟩ := hc
    exact ⟨114, _, 172, _, Tryz.f172, _, rfl, Tryz.m_do1 _, Tryz.func172, rfl, Tryz.nn172, Tryz.c_app_do hb' ht hr (fun b hb => hne b ⟨_, _, _, rfl, hb⟩) hb⟩
  | cut k =>
    obtain rfl := hc
    exact ⟨122, _, 174, _, Tryz.f174, _, rfl, Tryz.m_do2 _, Tryz.func174, rfl, Tryz.nn174, Tryz.c_cut_do hr hok⟩

def Tryz.RowNew (h : Hp) (r : Rw) (v : Value) (h' : Hp) : Prop := ∃ A n c B m d, v = .agg #[.slice A n c, .slice B m d] ∧ Tryz.RowR h' A n c B m d r ∧ Grow h h' ∧ (∀ b, inA A b → h.size ≤ b) ∧ (∀ b, inA B b → h.size ≤ b)

theorem Tryz.FB_lt {h : Hp} {g : FG} (r : Tryz.FR h g) : ∀ b, Tryz.FB g b → b < h.size := by
  rintro b (rfl | hb | hb | ⟨v, hv, hb⟩)
  · exact lt_of_some r.blk
  · exact r.safeT.lt b hb
  · exact r.pend.lt b hb
  · obtain ⟨i, hi, rfl⟩ := List.mem_iff_getElem.1 hv
    obtain ⟨v', c, e1, e2, hc⟩ := forall2_get r.chg hi
    rw [List.getElem?_eq_getElem hi] at e1
    cases e1
    obtain ⟨A, n, cc, e, hb⟩ := hb
    cases c with
    | cut k => rw [show g.vs[i] = _ from hc] at e; cases e
    | app l =>
      obtain ⟨A', n', c', e', _, ht⟩ := hc
      rw [e] at e'
      cases e'
      exact ht.lt b hb

theorem Tryz.row_J1 {h h4 : Hp} {g : FG} {k : Nat} (r : Tryz.FR h g) (g4 : Grow h h4) (hk : k ≤ g.f.pend.length) (hp : g.f.pend.length ≤ 68719476735) (hbd : g.f.lens.2 ≤ 68719476735) {b2 bb : Nat} {A : Option Addr} {n c : Nat} {B : Option Addr} {m d : Nat}
    (out : h4[b2]? = some (.cells #[.slice none 0 0, .slice none 0 0] 128 (0, 0))) (s2 : h.size ≤ b2) (box : h4[bb]? = some (.cells #[.slice A n c, .slice B m d] 128 (0, 0))) (sb : h.size ≤ bb) (hne : bb ≠ b2)
    (rr : Tryz.RowR h4 A n c B m d (baseR g.f.safe)) (fA : ∀ b, inA A b → h.size ≤ b) (fB : ∀ b, inA B b → h.size ≤ b) :
    D_disk_file_row.J1 (Tryz.RowNew h (g.f.row k)) (some ⟨g.p, 0, none⟩) k b2 ⟨bb, 0, none⟩ h4 := by
  unfold D_disk_file_row.J1
  have r4 := r.g g4
  have hpn := r4.pn
  have hpc := r4.pend.le
  refine ⟨_, rfl, _, _, _, (cell_add r4.blk 0 1).trans rfl, by omega, by omega, ?_⟩
  refine ⟨fun j h' mm => 0 ≤ j ∧ j ≤ k ∧ mm = k - j.toNat ∧ Grow h h' ∧ h'[b2]? = some (.cells #[.slice none 0 0, .slice none 0 0] 128 (0, 0)) ∧ ∃ A n c B m d, h'[bb]? = some (.cells #[.slice A n c, .slice B m d] 128 (0, 0)) ∧
      Tryz.RowR h' A n c B m d (g.f.row j.toNat) ∧ (∀ b, inA A b → h.size ≤ b) ∧ (∀ b, inA B b → h.size ≤ b), ⟨k, by omega, by omega, by simp, g4, out, A, n, c, B, m, d, box, rr, fA, fB⟩, ?_⟩
  rintro j h5 mm ⟨h0, hj, rfl, g5, out5, A, n, c, B, m, d, box5, rr5, fA, fB⟩
  unfold D_disk_file_row.L3
  have e0 : Int.toNat (k : Int) = k := by omega
  rw [e0]
  have r5 := r.g g5
  refine ⟨fun e => ?_, fun e => ?_⟩
  · have hlt := dec_t e
    have hvl := r5.pend.src.len
    obtain ⟨v, c', hv, hc, hr⟩ := forall2_get r5.chg (i := j.toNat) (by omega)
    obtain ⟨pa, hpa⟩ := r5.pend.src.addr (by omega)
    have hs := r5.pend.src
    rw [hpa] at hs
    have hrow : g.f.row (j.toNat + 1) = c'.doR (g.f.row j.toNat) := by
      unfold FileA.row
      rw [List.take_add_one, hc, List.foldl_append]
      rfl
    have hokc : c'.ok (g.f.row j.toNat).length := by
      have ho := r.ok
      unfold FileA.ok at ho
      have ht : g.f.pend.take (j.toNat + 1) = g.f.pend.take j.toNat ++ [c'] := by rw [List.take_add_one, hc]; rfl
      have h2 := okFrom_take (k := j.toNat + 1) ho
      rw [ht] at h2
      have h3 := ((okFrom_append _ _ _ g.f.safe.length).1 h2).2.1
      rw [FileA.row_length r.ok]
      exact h3
    have hlc : c'.len (g.f.row j.toNat).length ≤ 68719476735 := by
      rw [FileA.row_length r.ok]
      exact Nat.le_trans (lens_get g.f hc) hbd
    refine ⟨pa, hpa, h0, hlt, v, by rw [Nat.mul_one]; exact hs.get hv, _, _, _, _, _, _, row_all box5, (Tryz.c_do hr rr5 ?_ hokc hlc).mono ?_⟩
    · intro b hb hx
      have h1 := fA b hx
      have h2 := Tryz.FB_lt r b (.inr (.inr (.inr ⟨v, List.mem_of_getElem? hv, hb⟩)))
      omega
    rintro rv h6 ⟨A', n', c'', B', m', d', rfl, rr6, k6, i1, i2⟩
    have nA := rr5.1.tag.ne box5 (by decide)
    have nB := rr5.2.tag.ne box5 (by decide)
    have nA2 := rr5.1.tag.ne out5 (by decide)
    have nB2 := rr5.2.tag.ne out5 (by decide)
    have box6 := k6.at box5 (fun hx => hx.elim nA nB)
    have out6 := k6.at out5 (fun hx => hx.elim nA2 nB2)
    refine ⟨_, _, _, _, _, _, rfl, wr_all box6 rfl, ?_⟩
    intro h7 e7
    have f7 := V.setRow_at 0 [.slice A' n' c'', .slice B' m' d'] 0 _ _ box6
    have kS := V.setRow_kp (Addr.mk bb 0 none) [.slice A' n' c'', .slice B' m' d'] 0 h6
    rw [← e7] at f7 kS
    have g6 : Grow h h6 := g5.trans' k6 fun q hq hx => by
      rcases hx with hx | hx
      · have := fA q hx; omega
      · have := fB q hx; omega
    rw [inc64 h0 hlt (by omega)]
    refine ⟨_, ?_, by omega, by omega, rfl, g6.trans' kS (fun q hq hx => by have : q = bb := hx; omega), kS.at out6 (fun hx => hne hx.symm), A', n', c'', B', m', d', f7, ?_, ?_, ?_⟩
    · rw [toNat_inc h0]; omega
    · rw [toNat_inc h0, hrow]
      refine rr6.kp kS fun b hb e => ?_
      subst e
      rcases hb with hb | hb
      · exact rr6.1.tag.ne box6 (by decide) hb
      · exact rr6.2.tag.ne box6 (by decide) hb
    · exact fun b hb => (i1 b hb).elim (fA b) fun hx => Nat.le_trans g5.size hx
    · exact fun b hb => (i2 b hb).elim (fB b) fun hx => Nat.le_trans g5.size hx
  · have hge := dec_f e
    unfold D_disk_file_row.J2
    have ej : j.toNat = k := by omega
    rw [ej] at rr5
    refine ⟨_, _, _, _, _, _, row_all box5, wr_all out5 rfl, ?_⟩
    intro h7 e7
    have f7 := V.setRow_at 0 [.slice A n c, .slice B m d] 0 _ _ out5
    have kS := V.setRow_kp (Addr.mk b2 0 none) [.slice A n c, .slice B m d] 0 h5
    rw [← e7] at f7 kS
    refine ⟨_, _, _, _, _, _, row_all f7, A, n, c, B, m, d, rfl, ?_, g5.trans' kS (fun q hq hx => by have : q = b2 := hx; omega), fA, fB⟩
    refine rr5.kp kS fun b hb e => ?_
    subst e
    rcases hb with hb | hb
    · exact rr5.1.tag.ne out5 (by decide) hb
    · exact rr5.2.tag.ne out5 (by decide) hb

theorem made_false (n : Nat) : made (.bool false) (n * 1) = List.replicate n (.bool false) := by
  unfold made madeCells
  rw [Nat.mul_one]
  refine List.ext_getElem? fun i => ?_
  rw [Array.getElem?_toList, Array.getElem?_map, List.getElem?_replicate]
  by_cases h : i < n
  · rw [Array.getElem?_eq_getElem (by simpa using h), if_pos h]
    simp [Value.cells, Nat.mod_one]
  · rw [Array.getElem?_eq_none (by simp; omega), if_neg h]
    rfl
theorem base_rb (l : List UInt8) : (baseR l).map rb = l.map bv := by simp [baseR, rb, Function.comp_def]
theorem base_rf (l : List UInt8) : (baseR l).map rf = List.replicate l.length (.bool false) := by
  simp only [baseR, List.map_map]
  rw [List.eq_replicate_iff]
  simp [rf]
/-- A new list of what nothing has brought. -/
theorem made_own {h h' : Hp} {b n : Nat} (eb : b = h.size) (eh : h' = h.push (.cells (made (.bool false) ((Int.toNat ((n : Nat) : Int)) * 1)).toArray 4)) : OwnS h' 4 1 (some ⟨b, 0, none⟩) n n (List.replicate n (.bool false)) := by
  subst eb eh
  have e : Int.toNat ((n : Nat) : Int) = n := by omega
  rw [e, made_false]
  refine ⟨by simp, .inr ⟨h.size, _, rfl, push_new _ _, Nat.le_refl _, by simp, by simp⟩⟩

/-- The row of the first so many changes. -/
theorem Tryz.c_row {h : Hp} {g : FG} {k : Nat} (r : Tryz.FR h g) (hk : k ≤ g.f.pend.length) (hp : g.f.pend.length ≤ 68719476735) (hbd : g.f.lens.2 ≤ 68719476735) :
    CH Tryz.prog 66 #[.pointer (some ⟨g.p, 0, none⟩), .int .i64 k] h (Tryz.RowNew h (g.f.row k)) := by
  apply D_disk_file_row.sound
  unfold D_disk_file_row
  intro b2 h1 eb1 eh1
  obtain ⟨f2, g1, s2, l2⟩ := boxed eb1 eh1
  have r1 := r.g g1
  have hsl := r.safe.1
  have hsn : g.sn ≤ 68719476735 := by have := g.f.safe_le; omega
  have hc1 : cell h1 ⟨g.p, 0, none⟩ = some (.slice g.sA g.sn g.sc) := (cell_of r1.blk 0).trans rfl
  have mk : ∀ h4 (A : Option Addr) (c bM : Nat) (bb : Nat), Grow h1 h4 → OwnS h4 5 1 A g.sn c (g.f.safe.map bv) → OwnS h4 4 1 (some ⟨bM, 0, none⟩) g.sn g.sn (List.replicate g.sn (.bool false)) → h1.size ≤ bM → (∀ b, inA A b → h1.size ≤ b) → h1.size ≤ bb →
      h4[bb]? = some (.cells #[.slice A g.sn c, .slice (some ⟨bM, 0, none⟩) g.sn g.sn] 128 (0, 0)) → D_disk_file_row.J1 (Tryz.RowNew h (g.f.row k)) (some ⟨g.p, 0, none⟩) k b2 ⟨bb, 0, none⟩ h4 := by
    intro h4 A c bM bb g14 oA oM hM hA hbb box
    have hs := g1.size
    refine Tryz.row_J1 r (g1.trans g14) hk hp hbd (g14.g f2) s2 box (by omega) (by omega) ⟨by rw [base_rb]; exact oA, by rw [base_rf, ← hsl]; exact oM⟩ (fun b hb => Nat.le_trans hs (hA b hb)) fun b hb => ?_
    have := inA_some.1 hb
    have hM' : bM = b := this
    omega
  have eN : Int.toNat ((g.sn : Nat) : Int) = g.sn := by omega
  have clone : ∀ h', Grow h1 h' → CH Tryz.prog 48 #[.slice g.sA g.sn g.sc] h' fun r h'' => ∃ A' c', r = .slice A' g.sn c' ∧ OwnS h'' 5 1 A' g.sn c' (g.f.safe.map bv) ∧ Grow h' h'' ∧ (∀ b, inA A' b → h'.size ≤ b) :=
    fun h' gg => Tryz.c_clone_byte (r1.safe.g gg).2 (one_bv _) (by omega)
  refine ⟨_, rfl, _, _, _, hc1, _, _, _, hc1, ?_, ?_, ?_⟩
  · refine (clone h1 Kp.rfl').mono ?_
    rintro rv h44 ⟨A, c, rfl, oA, gA, fA⟩
    refine ⟨_, _, _, rfl, gA.cell hc1 id, ⟨by omega, by omega, by omega, fun bM h47 ebM ehM => ?_⟩, fun bb h61 ebb ehb => ?_⟩
    · obtain ⟨_, gM, sM, _⟩ := boxed ebM ehM
      have oM := made_own ebM ehM
      intro bb h52 ebb ehb
      obtain ⟨fb, gb, sb, _⟩ := boxed ebb ehb
      refine ⟨wr_all fb rfl, fun h54 e54 => ?_⟩
      obtain ⟨fr, gr, _, _⟩ := boxRow ebb ehb e54 rfl
      rw [eN] at fr
      have s1 := gA.size
      have s3 := gM.size
      exact mk h54 A c bM bb ((gA.trans gM).trans gr) ((oA.kp gM fun _ _ => id).kp gr fun _ _ => id) (oM.kp gr fun _ _ => id) (by omega) fA (by omega) fr
    · obtain ⟨fb, gb, sb, _⟩ := boxed ebb ehb
      refine ⟨gb.cell (gA.cell hc1 id) id, by omega, by omega, by omega, fun bM h64 ebM ehM => ?_⟩
      obtain ⟨_, gM, sM, _⟩ := boxed ebM ehM
      have oM := made_own ebM ehM
      refine ⟨wr_all (gM.g fb) rfl, fun h69 e69 => ?_⟩
      have fr := V.setRow_at 0 [.slice A g.sn c, .slice (some ⟨bM, 0, none⟩) (Int.toNat ((g.sn : Nat) : Int)) (Int.toNat ((g.sn : Nat) : Int))] 0 _ _ (gM.g fb)
      have kS := V.setRow_kp ⟨bb, 0, none⟩ [.slice A g.sn c, .slice (some ⟨bM, 0, none⟩) (Int.toNat ((g.sn : Nat) : Int)) (Int.toNat ((g.sn : Nat) : Int))] 0 h64
      rw [← e69] at fr kS
      rw [eN] at fr
      have s1 := gA.size
      have s3 := gb.size
      have oA64 := (oA.kp gb fun _ _ => id).kp gM fun _ _ => id
      have nb1 := oA64.tag.ne (gM.g fb) (by decide)
      have nb2 := oM.tag.ne (gM.g fb) (by decide)
      exact mk h69 A c bM bb (((gA.trans gb).trans gM).trans' kS fun q hq hx => by have : q = bb := hx; omega) (oA64.kp kS fun q hq hx => nb1 (by have : q = bb := hx; subst this; exact hq)) (oM.kp kS fun q hq hx => nb2 (by have : q = bb := hx; subst this; exact hq)) (by omega) fA (by omega) fr
  · refine ⟨by omega, by omega, by omega, fun bM h77 ebM ehM => ?_⟩
    obtain ⟨_, gM, sM, _⟩ := boxed ebM ehM
    have oM := made_own ebM ehM
    refine ⟨gM.cell hc1 id, ?_, fun bb h94 ebb ehb => ?_⟩
    · refine (clone h77 gM).mono ?_
      rintro rv h84 ⟨A, c, rfl, oA, gA, fA⟩
      refine ⟨_, _, _, rfl, fun bb h86 ebb ehb => ?_⟩
      obtain ⟨fb, gb, sb, _⟩ := boxed ebb ehb
      refine ⟨wr_all fb rfl, fun h88 e88 => ?_⟩
      obtain ⟨fr, gr, _, _⟩ := boxRow ebb ehb e88 rfl
      rw [eN] at fr
      have s1 := gA.size
      have s3 := gM.size
      exact mk h88 A c bM bb ((gM.trans gA).trans gr) (oA.kp gr fun _ _ => id) ((oM.kp gA fun _ _ => id).kp gr fun _ _ => id) (by omega) (fun b hb => by have := fA b hb; omega) (by omega) fr
    · obtain ⟨fb, gb, sb, _⟩ := boxed ebb ehb
      refine ⟨gb.cell (gM.cell hc1 id) id, (clone h94 (gM.trans gb)).mono ?_⟩
      rintro rv h98 ⟨A, c, rfl, oA, gA, fA⟩
      refine ⟨_, _, _, rfl, wr_all (gA.g fb) rfl, fun h100 e100 => ?_⟩
      have fr := V.setRow_at 0 [.slice A g.sn c, .slice (some ⟨bM, 0, none⟩) (Int.toNat ((g.sn : Nat) : Int)) (Int.toNat ((g.sn : Nat) : Int))] 0 _ _ (gA.g fb)
      have kS := V.setRow_kp ⟨bb, 0, none⟩ [.slice A g.sn c, .slice (some ⟨bM, 0, none⟩) (Int.toNat ((g.sn : Nat) : Int)) (Int.toNat ((g.sn : Nat) : Int))] 0 h98
      rw [← e100] at fr kS
      rw [eN] at fr
      have s1 := gA.size
      have s3 := gb.size
      have s5 := gM.size
      have oM98 := (oM.kp gb fun _ _ => id).kp gA fun _ _ => id
      have nb1 := oA.tag.ne (gA.g fb) (by decide)
      have nb2 := oM98.tag.ne (gA.g fb) (by decide)
      exact mk h100 A c bM bb (((gM.trans gb).trans gA).trans' kS fun q hq hx => by have : q = bb := hx; omega) (oA.kp kS fun q hq hx => nb1 (by have : q = bb := hx; subst this; exact hq)) (oM98.kp kS fun q hq hx => nb2 (by have : q = bb := hx; subst this; exact hq)) (by omega) (fun b hb => by have := fA b hb; omega) (by omega) fr
  · intro bb h108 ebb ehb
    obtain ⟨fb, gb, sb, _⟩ := boxed ebb ehb
    refine ⟨gb.cell hc1 id, gb.cell hc1 id, ?_, by omega, by omega, by omega, fun bM h127 ebM ehM => ?_⟩
    · refine (clone h108 gb).mono ?_
      rintro rv h113 ⟨A, c, rfl, oA, gA, fA⟩
      refine ⟨_, _, _, rfl, gA.cell (gb.cell hc1 id) id, by omega, by omega, by omega, fun bM h117 ebM ehM => ?_⟩
      obtain ⟨_, gM, sM, _⟩ := boxed ebM ehM
      have oM := made_own ebM ehM
      refine ⟨wr_all (gM.g (gA.g fb)) rfl, fun h121 e121 => ?_⟩
      have fr := V.setRow_at 0 [.slice A g.sn c, .slice (some ⟨bM, 0, none⟩) (Int.toNat ((g.sn : Nat) : Int)) (Int.toNat ((g.sn : Nat) : Int))] 0 _ _ (gM.g (gA.g fb))
      have kS := V.setRow_kp ⟨bb, 0, none⟩ [.slice A g.sn c, .slice (some ⟨bM, 0, none⟩) (Int.toNat ((g.sn : Nat) : Int)) (Int.toNat ((g.sn : Nat) : Int))] 0 h117
      rw [← e121] at fr kS
      rw [eN] at fr
      have s1 := gA.size
      have s3 := gb.size
      have oA' := oA.kp gM fun _ _ => id
      have nb1 := oA'.tag.ne (gM.g (gA.g fb)) (by decide)
      have nb2 := oM.tag.ne (gM.g (gA.g fb)) (by decide)
      exact mk h121 A c bM bb (((gb.trans gA).trans gM).trans' kS fun q hq hx => by have : q = bb := hx; omega) (oA'.kp kS fun q hq hx => nb1 (by have : q = bb := hx; subst this; exact hq)) (oM.kp kS fun q hq hx => nb2 (by have : q = bb := hx; subst this; exact hq)) (by omega) (fun b hb => by have := fA b hb; omega) (by omega) fr
    · obtain ⟨_, gM, sM, _⟩ := boxed ebM ehM
      have oM := made_own ebM ehM
      refine ⟨gM.cell (gb.cell hc1 id) id, (clone h127 (gb.trans gM)).mono ?_⟩
      rintro rv h134 ⟨A, c, rfl, oA, gA, fA⟩
      refine ⟨_, _, _, rfl, wr_all (gA.g (gM.g fb)) rfl, fun h136 e136 => ?_⟩
      have fr := V.setRow_at 0 [.slice A g.sn c, .slice (some ⟨bM, 0, none⟩) (Int.toNat ((g.sn : Nat) : Int)) (Int.toNat ((g.sn : Nat) : Int))] 0 _ _ (gA.g (gM.g fb))
      have kS := V.setRow_kp ⟨bb, 0, none⟩ [.slice A g.sn c, .slice (some ⟨bM, 0, none⟩) (Int.toNat ((g.sn : Nat) : Int)) (Int.toNat ((g.sn : Nat) : Int))] 0 h134
      rw [← e136] at fr kS
      rw [eN] at fr
      have s1 := gA.size
      have s3 := gb.size
      have s5 := gM.size
      have oM' := oM.kp gA fun _ _ => id
      have nb1 := oA.tag.ne (gA.g (gM.g fb)) (by decide)
      have nb2 := oM'.tag.ne (gA.g (gM.g fb)) (by decide)
      exact mk h136 A c bM bb (((gb.trans gM).trans gA).trans' kS fun q hq hx => by have : q = bb := hx; omega) (oA.kp kS fun q hq hx => nb1 (by have : q = bb := hx; subst this; exact hq)) (oM'.kp kS fun q hq hx => nb2 (by have : q = bb := hx; subst this; exact hq)) (by omega) (fun b hb => by have := fA b hb; omega) (by omega) fr

theorem Tryz.c_bytes {h : Hp} {g : FG} (r : Tryz.FR h g) (hp : g.f.pend.length ≤ 68719476735) (hbd : g.f.lens.2 ≤ 68719476735) :
    CH Tryz.prog 54 #[.pointer (some ⟨g.p, 0, none⟩)] h fun v h' => ∃ A n c, v = .slice A n c ∧ OwnS h' 5 1 A n c (g.f.bytes.map bv) ∧ Grow h h' ∧ (∀ b, inA A b → h.size ≤ b) := by
  apply D_disk_file_bytes.sound
  unfold D_disk_file_bytes
  refine ⟨_, rfl, _, _, _, (cell_add r.blk 0 1).trans rfl, ?_⟩
  rw [r.pn]
  refine (Tryz.c_row r (Nat.le_refl _) hp hbd).mono ?_
  rintro v h' ⟨A, n, c, B, m, d, rfl, ⟨o1, o2⟩, gg, fA, fB⟩
  refine ⟨_, _, _, _, _, _, rfl, A, n, c, rfl, ?_, gg, fA⟩
  unfold FileA.bytes
  rw [List.map_map]
  exact o1
end Go.Proofs
set_option linter.unusedVariables false
set_option linter.unusedSimpArgs false
namespace Go.Proofs
open Go Go.V Go.Disk
theorem _root_.Go.V.Src.kp0 {W : Nat → Prop} {h h' : Hp} {k : Nat} {vs : List Value} {A : Option Addr} (s : Src h k vs A) (g : Kp W h h') (hn : 0 < k → ∀ b, inA A b → ¬ W b) : Src h' k vs A := by
  by_cases hk : 0 < k
  · exact s.kp g (hn hk)
  · have hl := s.len
    have h0 : vs = [] := List.eq_nil_of_length_eq_zero (by omega)
    subst h0
    cases A with
    | none => exact s
    | some a => exact ⟨s.1, fun i v hv => by simp at hv⟩
theorem _root_.Go.V.IS.kp0 {W : Nat → Prop} {h h' : Hp} {A : Option Addr} {n : Nat} {l : List Int} (s : IS h A n l) (g : Kp W h h') (hn : 0 < n → ∀ b, inA A b → ¬ W b) : IS h' A n l := ⟨s.1, s.2.kp0 g hn⟩
theorem OwnS.set1 {h : Hp} {e : TypeId} {n c i : Nat} {a : Addr} {vs : List Value} {v : Value} (o : OwnS h e 1 (some a) n c vs) (hi : i < n) (h1 : oneC v = true) :
    Wr h (a.add i) ∧ OwnS (setc h (a.add i) v) e 1 (some a) n c (vs.set i v) ∧ Kp (inA (some a)) h (setc h (a.add i) v) := by
  obtain ⟨hlen, ⟨hx, _⟩ | ⟨g, cur, hg, hb, hn, hs, ht⟩⟩ := o
  · cases hx
  cases hg
  refine ⟨wr_add hb (by omega), ⟨by rw [List.length_set]; exact hlen, .inr ⟨g, _, rfl, setc_add hb 0 i v, hn, by simp [hs], ?_⟩⟩, (Kp.setc h _ v).mono fun b _ e => by subst e; rw [add_block]; exact inA_some.2 rfl⟩
  refine List.ext_getElem? fun j => ?_
  rw [List.getElem?_take, Array.getElem?_toList, Nat.zero_add, Array.getElem?_setIfInBounds, List.getElem?_set, ← ht, List.getElem?_take, List.length_take]
  by_cases hj : j < n
  · by_cases hij : i = j
    · subst hij
      rw [if_pos (by omega), if_pos rfl, if_pos (by omega), if_pos rfl, if_pos (by simp; omega)]
    · rw [if_pos (by omega), if_neg hij, if_neg hij, if_pos (by omega), Array.getElem?_toList]
  · rw [if_neg (by omega), if_neg (by omega), if_neg (by omega)]

def loseTo (r : Rw) (y u : Nat) : Rw := r.mapIdx fun i p => if y = i / 16 ∧ i < u ∧ p.2 = true then (0, true) else p
theorem loseTo_length (r : Rw) (y u : Nat) : (loseTo r y u).length = r.length := by simp [loseTo]
theorem loseTo_start (r : Rw) (y : Nat) : loseTo r y (16 * y) = r := by
  refine List.ext_getElem? fun i => ?_
  unfold loseTo
  rw [List.getElem?_mapIdx]
  cases r[i]? with
  | none => rfl
  | some p => simp only [Option.map_some]; rw [if_neg (by omega)]
theorem loseTo_end (r : Rw) (s : Nat) (v : Int) (u : Nat) (hu : min (16 * (v % s).toNat + 16) r.length ≤ u) : loseTo r (v % s).toNat u = loseAt r s v := by
  refine List.ext_getElem? fun i => ?_
  unfold loseTo loseAt
  rw [List.getElem?_mapIdx, List.getElem?_mapIdx]
  by_cases hi : i < r.length
  · rw [List.getElem?_eq_getElem hi]
    simp only [Option.map_some]
    by_cases hy : (v % s).toNat = i / 16
    · have : i < u := by omega
      simp [hy, this]
    · rw [if_neg (fun h => hy h.1), if_neg (fun h => hy h.1)]
  · rw [List.getElem?_eq_none (by omega)]; rfl
theorem loseTo_succ (r : Rw) (y u : Nat) (hy : y = u / 16) (hu : u < r.length) : loseTo r y (u + 1) = if r[u].2 = true then (loseTo r y u).set u (0, true) else loseTo r y u := by
  refine List.ext_getElem? fun i => ?_
  by_cases hb : r[u].2 = true
  · rw [if_pos hb, List.getElem?_set]
    by_cases hi : u = i
    · subst hi
      rw [if_pos rfl, if_pos (by rw [loseTo_length]; exact hu)]
      unfold loseTo
      rw [List.getElem?_mapIdx, List.getElem?_eq_getElem hu]
      simp only [Option.map_some]
      rw [if_pos ⟨hy, by omega, hb⟩]
    · rw [if_neg hi]
      unfold loseTo
      rw [List.getElem?_mapIdx, List.getElem?_mapIdx]
      cases r[i]? with
      | none => rfl
      | some p =>
        simp only [Option.map_some]
        have : i < u + 1 ↔ i < u := by omega
        simp only [this]
  · rw [if_neg hb]
    unfold loseTo
    rw [List.getElem?_mapIdx, List.getElem?_mapIdx]
    by_cases hi : u = i
    · subst hi
      rw [List.getElem?_eq_getElem hu]
      simp only [Option.map_some]
      rw [if_neg (fun h => hb h.2.2), if_neg (fun h => hb h.2.2)]
    · cases r[i]? with
      | none => rfl
      | some p =>
        simp only [Option.map_some]
        have : i < u + 1 ↔ i < u := by omega
        simp only [this]
theorem loseTo_rf (r : Rw) (y u : Nat) : (loseTo r y u).map rf = r.map rf := by
  unfold loseTo
  refine List.ext_getElem? fun i => ?_
  rw [List.getElem?_map, List.getElem?_mapIdx, List.getElem?_map]
  cases r[i]? with
  | none => rfl
  | some p =>
    simp only [Option.map_some, Option.some.injEq, rf]
    split
    · rename_i h; rw [h.2.2]
    · rfl
def loseUp (r : Rw) (s : Nat) (l : List Int) : Rw := l.foldl (fun r v => loseAt r s v) r
theorem loseUp_length (s : Nat) : ∀ (l : List Int) (r : Rw), (loseUp r s l).length = r.length
  | [], _ => rfl
  | v :: l, r => by
    have := loseUp_length s l (loseAt r s v)
    rw [loseAt_length] at this
    exact this
theorem loseA_up (r : Rw) (l : List Int) (hs : sectorsOf r.length ≠ 0) : loseA r l = loseUp r (sectorsOf r.length) l := by
  unfold loseA loseUp
  rw [if_neg hs]
  have : ∀ (l : List Int) (q : Rw), q.length = r.length → l.foldl (fun r v => loseAt r (sectorsOf r.length) v) q = l.foldl (fun q v => loseAt q (sectorsOf r.length) v) q := by
    intro l
    induction l with
    | nil => intro q _; rfl
    | cons v l ih => intro q hq; simp only [List.foldl_cons]; rw [hq, ih _ (by rw [loseAt_length, hq])]
  exact this l r rfl

theorem Tryz.c_lose {h : Hp} {rA : Option Addr} {rn rc : Nat} {bA : Option Addr} {bn bc : Nat} {r : Rw} {lA : Option Addr} {ln lc : Nat} {lost : List Int} (hr : Tryz.RowR h rA rn rc bA bn bc r) (hl : IS h lA ln lost) (hne : 0 < ln → ∀ b, inA lA b → ¬ inA rA b)
    (hb : r.length ≤ 68719476735) (hln : ln ≤ 68719476735) :
    CH Tryz.prog 67 #[.agg #[.slice rA rn rc, .slice bA bn bc], .slice lA ln lc] h fun v h' => v = .agg #[.slice rA rn rc, .slice bA bn bc] ∧ Tryz.RowR h' rA rn rc bA bn bc (loseA r lost) ∧ Kp (inA rA) h h' := by
  apply D_disk_row_lose.sound
  unfold D_disk_row_lose
  intro b2 h1 eb1 eh1 b4 h3 eb3 eh3
  obtain ⟨f2, g1, s2, l2⟩ := boxed eb1 eh1
  obtain ⟨f4, g3, s4, l4⟩ := boxed eb3 eh3
  have g13 := g1.trans g3
  obtain ⟨e1, e2⟩ := hr.len
  have f2' := g3.g f2
  have hr3 := hr.kp g13 fun _ _ => id
  have hne24 : b2 ≠ b4 := by omega
  -- the way out, wherever it is reached
  have out : ∀ h5 q, h5[b2]? = some (.cells #[.slice rA rn rc, .slice bA bn bc] 128 (0, 0)) → h5[b4]? = some (.cells #[.slice none 0 0, .slice none 0 0] 128 (0, 0)) → Tryz.RowR h5 rA rn rc bA bn bc q → Kp (inA rA) h h5 →
      ∃ x8_0A : Option Addr, ∃ x8_0n : Nat, ∃ x8_0c : Nat, ∃ x8_1A : Option Addr, ∃ x8_1n : Nat, ∃ x8_1c : Nat, Row h5 (Addr.mk b2 0 none) [.slice x8_0A x8_0n x8_0c, .slice x8_1A x8_1n x8_1c] ∧ ((∀ j, j < 2 → Wr h5 (Addr.add (Addr.mk b4 0 none) j)) ∧ ∀ h10, h10 = setRow h5 (Addr.mk b4 0 none) [.slice x8_0A x8_0n x8_0c, .slice x8_1A x8_1n x8_1c] 0 → ∃ r12_0A : Option Addr, ∃ r12_0n : Nat, ∃ r12_0c : Nat, ∃ r12_1A : Option Addr, ∃ r12_1n : Nat, ∃ r12_1c : Nat, Row h10 (Addr.mk b4 0 none) [.slice r12_0A r12_0n r12_0c, .slice r12_1A r12_1n r12_1c] ∧ (Value.agg #[.slice r12_0A r12_0n r12_0c, .slice r12_1A r12_1n r12_1c] = .agg #[.slice rA rn rc, .slice bA bn bc] ∧ Tryz.RowR h10 rA rn rc bA bn bc q ∧ Kp (inA rA) h h10)) := by
    intro h5 q o2 o4 oq k5
    refine ⟨_, _, _, _, _, _, row_all o2, wr_all o4 rfl, fun h10 e10 => ?_⟩
    have fS := V.setRow_at 0 [.slice rA rn rc, .slice bA bn bc] 0 _ _ o4
    have kS := V.setRow_kp (Addr.mk b4 0 none) [.slice rA rn rc, .slice bA bn bc] 0 h5
    rw [← e10] at fS kS
    refine ⟨_, _, _, _, _, _, row_all fS, rfl, oq.kp kS ?_, k5.trans' kS fun k hk e => ?_⟩
    · rintro b (hx | hx) rfl
      · exact oq.1.tag.ne o4 (by decide) hx
      · exact oq.2.tag.ne o4 (by decide) hx
    · have : k = b4 := e
      have := g1.size
      omega
  have es : IntKind.i64.wrap (Int.tdiv (IntKind.i64.wrap ((IntKind.i64.wrap (((rn : Nat) : Int) + 16)) - 1)) 16) = (sectorsOf r.length : Int) := by
    have a1 : IntKind.i64.wrap (((rn : Nat) : Int) + 16) = (rn : Int) + 16 := w64 (by omega) (by omega)
    have a2 : IntKind.i64.wrap ((rn : Int) + 16 - 1) = (rn : Int) + 16 - 1 := w64 (by omega) (by omega)
    rw [a1, a2, Int.tdiv_eq_ediv_of_nonneg (by omega)]
    rw [w64 (by omega) (by omega)]
    unfold sectorsOf
    omega
  refine ⟨_, _, _, (cell_of f2' 0).trans rfl, ?_⟩
  rw [es]
  refine ⟨fun e => ?_, fun e => ?_⟩
  · have h0 : sectorsOf r.length = 0 := by simpa using e
    have : loseA r lost = r := by unfold loseA; rw [if_pos h0]
    rw [this]
    exact out h3 r f2' f4 hr3 g13.kp
  have hs0 : sectorsOf r.length ≠ 0 := by simpa using e
  have hsb : sectorsOf r.length ≤ r.length := by unfold sectorsOf at hs0 ⊢; omega
  rw [loseA_up r lost hs0]
  generalize hS : sectorsOf r.length = s at *
  refine ⟨fun j h' m => 0 ≤ j ∧ j ≤ ln ∧ m = ln - j.toNat ∧ Kp (inA rA) h h' ∧ h'[b2]? = some (.cells #[.slice rA rn rc, .slice bA bn bc] 128 (0, 0)) ∧ h'[b4]? = some (.cells #[.slice none 0 0, .slice none 0 0] 128 (0, 0)) ∧
      Tryz.RowR h' rA rn rc bA bn bc (loseUp r s (lost.take j.toNat)), ⟨ln, by omega, by omega, by simp, g13.kp, f2', f4, by simpa [loseUp] using hr3⟩, ?_⟩
  rintro j h5 m ⟨h0, hj, rfl, k5, o2, o4, rr⟩
  have hl0 := hl.1
  unfold D_disk_row_lose.L2
  refine ⟨fun e => ?_, fun e => ?_⟩
  · have hlt := dec_t e
    have hl5 : IS h5 lA ln lost := hl.kp0 k5 hne
    obtain ⟨a, v, hA, hv, hcv⟩ := hl5.get h0 hlt
    subst hA
    refine ⟨a, rfl, h0, hlt, v, hcv, ?_⟩
    have es' : IntKind.i64.wrap (Int.tdiv (IntKind.i64.wrap ((IntKind.i64.wrap (((rn : Nat) : Int) + 16)) - 1)) 16) = (s : Int) := es
    rw [es']
    refine (Tryz.c_round v s h5 (by omega) (by omega)).mono ?_
    rintro rv h6 ⟨rfl, rfl⟩
    refine ⟨_, rfl, ?_⟩
    have hm0 : 0 ≤ v % s := Int.emod_nonneg _ (by omega)
    have hm1 : v % s < s := Int.emod_lt_of_pos _ (by omega)
    unfold roundA
    generalize hq : loseUp r s (lost.take j.toNat) = q at rr
    have hql : q.length = r.length := by rw [← hq, loseUp_length]
    have hnext : loseUp r s (lost.take (j.toNat + 1)) = loseAt q s v := by
      rw [List.take_add_one, hv]
      unfold loseUp at hq ⊢
      rw [List.foldl_append, hq]
      rfl
    generalize hy : (v % (s : Int)).toNat = y
    have hy' : v % (s : Int) = y := by omega
    rw [hy']
    have w1 : IntKind.i64.wrap (16 * (y : Int)) = 16 * y := w64 (by omega) (by omega)
    have w2 : IntKind.i64.wrap (IntKind.i64.wrap (16 * (y : Int)) + 16) = 16 * y + 16 := by rw [w1]; exact w64 (by omega) (by omega)
    rw [w1]
    refine ⟨fun i h' m => 16 * (y : Int) ≤ i ∧ i ≤ r.length + 16 * y ∧ m = (r.length + 16 * y + 16 - i.toNat) ∧ Kp (inA rA) h h' ∧ h'[b2]? = some (.cells #[.slice rA rn rc, .slice bA bn bc] 128 (0, 0)) ∧ h'[b4]? = some (.cells #[.slice none 0 0, .slice none 0 0] 128 (0, 0)) ∧
      Tryz.RowR h' rA rn rc bA bn bc (loseTo q y i.toNat), ⟨_, by omega, by omega, rfl, k5, o2, o4, ?_⟩, ?_⟩
    · have : Int.toNat (16 * (y : Int)) = 16 * y := by omega
      rw [this, loseTo_start]
      exact rr
    rintro i h7 m ⟨i0, i1, rfl, k7, o2, o4, rr⟩
    unfold D_disk_row_lose.L4
    have hc2 := (cell_of o2 0).trans (b := some (Value.slice rA rn rc)) rfl
    refine ⟨_, _, _, hc2, fun e => ?_, fun e => ?_⟩
    · have hlt' := dec_t e
      rw [w2] at hlt'
      have hmin : i < 16 * y + 16 ∧ i < rn := by
        unfold optMn at hlt'
        split at hlt' <;> omega
      have hiu : i.toNat < q.length := by omega
      have hi16 : y = i.toNat / 16 := by omega
      have hsucc := loseTo_succ q y i.toNat hi16 hiu
      have hrf : ((loseTo q y i.toNat).map rf)[i.toNat]? = some (.bool q[i.toNat].2) := by
        rw [loseTo_rf, List.getElem?_map, List.getElem?_eq_getElem hiu]; rfl
      obtain ⟨ba, hba⟩ := rr.2.src.addr (by omega)
      have hsB := rr.2.src
      rw [hba] at hsB
      have einc : IntKind.i64.wrap (i + 1) = i + 1 := w64 (by omega) (by omega)
      refine ⟨_, _, _, (cell_add o2 0 1).trans rfl, ba, hba, by omega, by omega, q[i.toNat].2, by rw [Nat.mul_one]; exact hsB.get hrf, fun eb => ?_, fun eb => ?_⟩
      · obtain ⟨ra, hra⟩ := rr.1.src.addr (by omega)
        subst hra
        obtain ⟨hw, ho, hk⟩ := OwnS.set1 rr.1 (i := i.toNat) (v := .int .u8 0) (by omega) rfl
        refine ⟨_, _, _, hc2, ra, rfl, by omega, by omega, by rw [Nat.mul_one]; exact hw, fun h9 e9 => ?_⟩
        rw [Nat.mul_one] at e9
        rw [← e9] at ho hk
        unfold D_disk_row_lose.J5
        rw [einc]
        have t1 := rr.1.tag
        have eT : Int.toNat (i + 1) = i.toNat + 1 := by omega
        refine ⟨_, ?_, by omega, by omega, rfl, k7.trans hk, hk.at o2 (t1.ne o2 (by decide)), hk.at o4 (t1.ne o4 (by decide)), ?_⟩
        · omega
        · rw [eT, hsucc, if_pos eb]
          refine ⟨?_, ?_⟩
          · rw [List.map_set]; exact ho
          · rw [List.map_set]
            have := rr.2.kp hk (rr.2.tag.apart t1 (by decide))
            have hset : ((loseTo q y i.toNat).map rf).set i.toNat (rf (0, true)) = (loseTo q y i.toNat).map rf := by
              refine List.ext_getElem? fun k => ?_
              rw [List.getElem?_set]
              by_cases hk : i.toNat = k
              · subst hk
                rw [if_pos rfl, hrf, eb, if_pos (by simp; rw [loseTo_length]; exact hiu)]
                rfl
              · rw [if_neg hk]
            rw [hset]
            exact this
      · unfold D_disk_row_lose.J5
        rw [einc]
        have eT : Int.toNat (i + 1) = i.toNat + 1 := by omega
        refine ⟨_, ?_, by omega, by omega, rfl, k7, o2, o4, ?_⟩
        · omega
        · rw [eT, hsucc, if_neg (by rw [eb]; decide)]
          exact rr
    · have hge := dec_f e
      rw [w2] at hge
      have hmin : 16 * y + 16 ≤ i ∨ (rn : Int) ≤ i := by
        unfold optMn at hge
        split at hge <;> omega
      unfold D_disk_row_lose.J3
      rw [inc64 h0 hlt (by omega)]
      refine ⟨_, ?_, by omega, by omega, rfl, k7, o2, o4, ?_⟩
      · rw [toNat_inc h0]; omega
      · rw [toNat_inc h0, hnext]
        have := loseTo_end q s v i.toNat (by rw [hy]; omega)
        rw [hy] at this
        rw [← this]
        exact rr
  · have hge := dec_f e
    unfold D_disk_row_lose.J1
    have : lost.take j.toNat = lost := List.take_of_length_le (by omega)
    rw [this] at rr
    exact out h5 _ o2 o4 rr k5
end Go.Proofs
set_option linter.unusedVariables false
/-! DB: disks, plain. -/
namespace Go.Disk
open Go Go.V Go.Proofs
def bl (s : ByteArray) : List UInt8 := s.data.toList
structure TurnA where
  fr : ByteArray
  to : ByteArray
  file : Int
def TurnA.has (t : TurnA) : Bool := !(t.to.toList == (ByteArray.mk #[]).toList)
def TurnA.doN (t : TurnA) (m : Nm) : Nm := if t.has then (m.del (bl t.fr)).put (bl t.to) t.file else m.del (bl t.fr)
def namesA (m : Nm) (ts : List TurnA) : Nm := ts.foldl (fun m t => t.doN m) m
def turnIds (ts : List TurnA) : List Int := (ts.filter (·.has)).map (·.file)
def livesA (m : Nm) (ts : List TurnA) : List Int := ascOf (m.map (·.2) ++ turnIds ts)
structure DiskA where
  room : Int
  most : Int
  made : Int
  files : List (Int × FileA)
  safe : Nm
  turns : List TurnA
  planS : List (Int × Int)
  planR : List (Int × Int)
  strokes : Int
  reads : Int
  off : Bool
def DiskA.file (D : DiskA) (i : Int) : Option FileA := (D.files.find? fun p => p.1 == i).map (·.2)
def DiskA.now (D : DiskA) : Nm := namesA D.safe D.turns
def DiskA.lives (D : DiskA) : List Int := livesA D.safe D.turns
def sumA : List (Int × FileA) → Nat
  | [] => 0
  | p :: l => p.2.lens.2 + sumA l
def DiskA.held (D : DiskA) : Nat := sumA D.files

/-- What a kind of fault answers. -/
def failErr (k : Int) : Int := if k = 1 then 11 else if k = 2 ∨ k = 4 ∨ k = 5 then 10 else if k = 3 then 8 else 0
def DiskA.failed (D : DiskA) (k : Int) : DiskA := { D with off := D.off || decide (k = 1) }
def DiskA.kind (D : DiskA) : Int := faultA D.planS (D.strokes + 1)
def DiskA.struck (D : DiskA) : DiskA := DiskA.failed { D with strokes := D.strokes + 1 } D.kind

/-- What is always so, and how much there is at most. -/
structure DiskA.ok (N : Nat) (D : DiskA) : Prop where
  room0 : 0 ≤ D.room
  room1 : D.room ≤ 4194304
  most0 : 0 ≤ D.most
  most1 : D.most ≤ 512
  made0 : 0 ≤ D.made
  made1 : D.made ≤ N
  ids : D.files.map (·.1) = D.lives
  rng : ∀ p ∈ D.files, 1 ≤ p.1 ∧ p.1 ≤ D.made
  held : (D.held : Int) ≤ D.room
  fok : ∀ p ∈ D.files, p.2.ok
  pend : ∀ p ∈ D.files, p.2.pend.length ≤ N
  names : D.safe.length + D.turns.length ≤ N
  short : ∀ t ∈ D.turns, t.fr.size ≤ 40 ∧ t.to.size ≤ 40 ∧ 0 ≤ t.file ∧ t.file ≤ D.made
  safeN : D.safe.ok
  cnt0 : 0 ≤ D.strokes ∧ D.strokes ≤ N
  cnt1 : 0 ≤ D.reads ∧ D.reads ≤ N
  plan0 : D.planS.length ≤ 1099511627776 ∧ D.planR.length ≤ 1099511627776

theorem del_length (m : Nm) (k : List UInt8) : (m.del k).length ≤ m.length := List.length_filter_le _ _
theorem ins_length (x : List UInt8 × Int) : ∀ m : Nm, (Nm.ins x m).length = m.length + 1
  | [] => rfl
  | y :: r => by
    unfold Nm.ins
    split
    · rfl
    · simp [ins_length x r]
theorem doN_length (t : TurnA) (m : Nm) : (t.doN m).length ≤ m.length + 1 := by
  unfold TurnA.doN
  split
  · unfold Nm.put
    rw [ins_length]
    have h1 := del_length (m.del (bl t.fr)) (bl t.to)
    have h2 := del_length m (bl t.fr)
    omega
  · have := del_length m (bl t.fr); omega
theorem namesA_length : ∀ (ts : List TurnA) (m : Nm), (namesA m ts).length ≤ m.length + ts.length
  | [], m => Nat.le_refl _
  | t :: ts, m => by
    have h1 := namesA_length ts (t.doN m)
    have h2 := doN_length t m
    simp only [namesA, List.foldl_cons, List.length_cons] at h1 ⊢
    omega
theorem sumA_mem {l : List (Int × FileA)} {p : Int × FileA} (h : p ∈ l) : p.2.lens.2 ≤ sumA l := by
  induction l with
  | nil => cases h
  | cons q l ih =>
    simp only [sumA]
    rcases List.mem_cons.1 h with rfl | h
    · omega
    · have := ih h; omega
theorem DiskA.ok.lens {N : Nat} {D : DiskA} (o : D.ok N) {p : Int × FileA} (h : p ∈ D.files) : p.2.lens.2 ≤ 4194304 := by
  have h1 := sumA_mem h
  have h2 := o.held
  have h3 := o.room1
  unfold DiskA.held at h2
  omega
theorem asc_files {N : Nat} {D : DiskA} (o : D.ok N) : D.files.Pairwise fun p q => p.1 < q.1 := by
  have := ascOf_asc (D.safe.map (·.2) ++ turnIds D.turns)
  have h : Asc (D.files.map (·.1)) := by rw [o.ids]; exact this
  unfold Asc at h
  rwa [List.pairwise_map] at h
theorem ids_get {l : List (Int × FileA)} (hp : l.Pairwise fun p q => p.1 < q.1) {i : Int} {f : FileA} (h : (i, f) ∈ l) : (l.find? fun p => p.1 == i) = some (i, f) := by
  induction l with
  | nil => cases h
  | cons q l ih =>
    have hq := List.pairwise_cons.1 hp
    rw [List.find?_cons]
    rcases List.mem_cons.1 h with rfl | h
    · simp
    · have := hq.1 _ h
      have hne : (q.1 == i) = false := by simp at this ⊢; omega
      rw [hne]
      exact ih hq.2 h
end Go.Disk
set_option linter.unusedVariables false
set_option linter.unusedSimpArgs false
namespace Go.Proofs
open Go Go.V Go.Disk
/-! ### how a disk lies -/
def turnV (ts : List TurnA) : List Value := ts.flatMap fun t => [.string t.fr, .string t.to, .int .i64 t.file]
theorem one_turnV (ts : List TurnA) : ∀ v ∈ turnV ts, oneC v = true := by
  intro v hv
  simp only [turnV, List.mem_flatMap] at hv
  obtain ⟨t, _, ht⟩ := hv
  simp at ht
  rcases ht with rfl | rfl | rfl <;> rfl
theorem turnV_get {ts : List TurnA} {i : Nat} (hi : i < ts.length) : (turnV ts)[i * 3]? = some (.string ts[i].fr) ∧ (turnV ts)[i * 3 + 1]? = some (.string ts[i].to) ∧ (turnV ts)[i * 3 + 2]? = some (.int .i64 ts[i].file) := by
  induction ts generalizing i with
  | nil => simp at hi
  | cons p l ih =>
    cases i with
    | zero => simp [turnV]
    | succ i =>
      have := ih (i := i) (by simpa using hi)
      simp only [turnV, List.flatMap_cons, List.getElem_cons_succ] at this ⊢
      rw [show (i + 1) * 3 = i * 3 + 3 by omega]
      simpa using this
theorem turn_row {h : Hp} {a : Addr} {n : Nat} {ts : List TurnA} (hs : Src h (n * 3) (turnV ts) (some a)) {i : Nat} (hi : i < ts.length) : Row h (a.add (i * 3)) [.string ts[i].fr, .string ts[i].to, .int .i64 ts[i].file] := by
  obtain ⟨f0, f1, f2⟩ := turnV_get hi
  intro k v hv
  rw [add_add]
  rcases k with _ | _ | _ | k
  · cases hv; exact hs.get f0
  · cases hv; exact hs.get f1
  · cases hv; exact hs.get f2
  · simp at hv

structure DG where
  d : Nat
  fm : Option Nat
  sm : Option Nat
  tA : Option Addr
  tc : Nat
  sA : Option Addr
  sc : Nat
  rA : Option Addr
  rc : Nat
  fl : List (Int × FG)
  D : DiskA
def DG.cells (g : DG) : Array Value := #[.int .i64 g.D.room, .int .i64 g.D.most, .int .i64 g.D.made, .map g.fm, .map g.sm, .slice g.tA g.D.turns.length g.tc, .slice g.sA g.D.planS.length g.sc, .slice g.rA g.D.planR.length g.rc, .int .i64 g.D.strokes, .int .i64 g.D.reads, .bool g.D.off]
def flIm (fl : List (Int × FG)) : Im := fl.map fun p => (p.1, .pointer (some ⟨p.2.p, 0, none⟩))
def FG.far (a b : FG) : Prop := a.p ≠ b.p ∧ ∀ k, inA a.pA k → ¬ inA b.pA k
def Tryz.FmR (h : Hp) (fm : Option Nat) (fl : List (Int × FG)) : Prop := (fm = none ∧ fl = []) ∨ ∃ b, fm = some b ∧ ImAt true Tryz.prog 3 h b (flIm fl)
structure Tryz.DR (h : Hp) (g : DG) : Prop where
  blk : h[g.d]? = some (.cells g.cells 104 (0, 0))
  fm : Tryz.FmR h g.fm g.fl
  sm : Tryz.NmR h g.sm g.D.safe
  turns : OwnS h 107 3 g.tA g.D.turns.length g.tc (turnV g.D.turns)
  ps : Src h (g.D.planS.length * 2) (faultV g.D.planS) g.sA
  psT : Tag h g.sA 33
  pr : Src h (g.D.planR.length * 2) (faultV g.D.planR) g.rA
  prT : Tag h g.rA 33
  fr : ∀ p ∈ g.fl, Tryz.FR h p.2
  eq : g.D.files = g.fl.map fun p => (p.1, p.2.f)
  far : g.fl.Pairwise fun p q => p.2.far q.2
  two : ∀ b, g.fm = some b → g.sm ≠ some b
def DB (g : DG) (b : Nat) : Prop := b = g.d ∨ g.fm = some b ∨ g.sm = some b ∨ inA g.tA b ∨ inA g.sA b ∨ inA g.rA b ∨ ∃ p ∈ g.fl, Tryz.FB p.2 b
theorem Tryz.FmR.kp {W : Nat → Prop} {h h' : Hp} {fm : Option Nat} {fl : List (Int × FG)} (o : Tryz.FmR h fm fl) (k : Kp W h h') (hn : ∀ b, fm = some b → ¬ W b) : Tryz.FmR h' fm fl := by
  rcases o with ⟨rfl, rfl⟩ | ⟨b, rfl, o⟩
  · exact .inl ⟨rfl, rfl⟩
  · exact .inr ⟨b, rfl, MapOn.kp o k (hn b rfl)⟩
theorem Tryz.DR.kp {W : Nat → Prop} {h h' : Hp} {g : DG} (r : Tryz.DR h g) (k : Kp W h h') (hn : ∀ b, DB g b → ¬ W b) : Tryz.DR h' g :=
  ⟨k.at r.blk (hn _ (.inl rfl)), r.fm.kp k fun b hb => hn b (.inr (.inl hb)), r.sm.kp k fun b hb => hn b (.inr (.inr (.inl hb))), r.turns.kp k fun b hb => hn b (.inr (.inr (.inr (.inl hb)))),
   r.ps.kp k fun b hb => hn b (.inr (.inr (.inr (.inr (.inl hb))))), r.psT.kp k fun b hb => hn b (.inr (.inr (.inr (.inr (.inl hb))))),
   r.pr.kp k fun b hb => hn b (.inr (.inr (.inr (.inr (.inr (.inl hb)))))), r.prT.kp k fun b hb => hn b (.inr (.inr (.inr (.inr (.inr (.inl hb)))))),
   fun p hp => (r.fr p hp).kp k fun b hb => hn b (.inr (.inr (.inr (.inr (.inr (.inr ⟨p, hp, hb⟩)))))), r.eq, r.far, r.two⟩
theorem Tryz.DR.g {h h' : Hp} {g : DG} (r : Tryz.DR h g) (k : Grow h h') : Tryz.DR h' g := r.kp k fun _ _ => id
theorem Tryz.NmR.lt {h : Hp} {mp : Option Nat} {m : Nm} (o : Tryz.NmR h mp m) : ∀ b, mp = some b → b < h.size := by
  rcases o with ⟨rfl, rfl⟩ | ⟨b, rfl, o⟩
  · intro b hb; cases hb
  · intro b' hb; cases hb; exact MapOn.lt o
theorem Tryz.FmR.lt {h : Hp} {mp : Option Nat} {m : List (Int × FG)} (o : Tryz.FmR h mp m) : ∀ b, mp = some b → b < h.size := by
  rcases o with ⟨rfl, rfl⟩ | ⟨b, rfl, o⟩
  · intro b hb; cases hb
  · intro b' hb; cases hb; exact MapOn.lt o
theorem Tryz.DB_lt {h : Hp} {g : DG} (r : Tryz.DR h g) : ∀ b, DB g b → b < h.size := by
  rintro b (rfl | hb | hb | hb | hb | hb | ⟨p, hp, hb⟩)
  · exact lt_of_some r.blk
  · exact r.fm.lt b hb
  · exact r.sm.lt b hb
  · exact r.turns.lt b hb
  · exact r.psT.lt b hb
  · exact r.prT.lt b hb
  · exact Tryz.FB_lt (r.fr p hp) b hb

/-! ### names -/
theorem Tryz.z3 : zeroIs Tryz.prog 3 (.int .i64 0) := Inf.zeroIs Tryz.i3
theorem Tryz.z96 : zeroIs Tryz.prog 96 (.pointer none) := Inf.zeroIs Tryz.i96
theorem wf64 {i : Int} (h0 : -9223372036854775808 ≤ i) (h1 : i ≤ 9223372036854775807) : (Lit.int .i64 i).wf = true := by
  simp only [Lit.wf, IntKind.min, IntKind.max, IntKind.signed, IntKind.bits]
  simp; omega
theorem Tryz.c_turn {h : Hp} {b : Nat} {m : Nm} {t : TurnA} (o : NmAt Tryz.prog 9 3 h b m) (hm : m.length ≤ 1099511627776) (h1 : t.fr.size ≤ maxLen) (h2 : t.to.size ≤ maxLen) (h3 : 0 ≤ t.file ∧ t.file ≤ 4611686018427387904) :
    CH Tryz.prog 94 #[.agg #[.string t.fr, .string t.to, .int .i64 t.file], .map (some b)] h fun r h' => NmAt Tryz.prog 9 3 h' b (t.doN m) ∧ Kp (· = b) h h' := by
  apply D_disk_turn_do.sound
  unfold D_disk_turn_do
  intro b2 h2' eb eh
  obtain ⟨f2, g2, s2, _⟩ := boxed eb eh
  have hlt := MapOn.lt o
  have o2 := MapOn.kp o g2 id
  have hne : b2 ≠ b := by omega
  refine ⟨t.fr, (cell_of f2 0).trans rfl, _, NmAt.del Tryz.underlying9 Tryz.underlying3 Tryz.underlying101 o2 h1, ?_⟩
  rintro h5 ⟨o5, k5⟩
  have f5 := k5.at f2 hne
  refine ⟨t.to, (cell_add f5 0 1).trans rfl, fun e => ?_, fun e => ?_⟩
  · refine ⟨t.to, (cell_add f5 0 1).trans rfl, t.file, (cell_add f5 0 2).trans rfl, _, NmAt.put Tryz.underlying9 Tryz.underlying3 Tryz.underlying101 o5 (by have := del_length m (bl t.fr); unfold bl at this; unfold maxLen; omega) h2 (wf64 (by omega) (by omega)), ?_⟩
    rintro h14 ⟨o14, k14⟩
    refine ⟨?_, (g2.kp.trans k5).trans k14⟩
    unfold TurnA.doN TurnA.has
    rw [if_pos e]
    exact o14
  · refine ⟨?_, g2.kp.trans k5⟩
    unfold TurnA.doN TurnA.has
    rw [if_neg (by rw [e]; decide)]
    exact o5

theorem namesA_take {m : Nm} {ts : List TurnA} {i : Nat} (hi : i < ts.length) : namesA m (ts.take (i + 1)) = ts[i].doN (namesA m (ts.take i)) := by
  rw [List.take_add_one, List.getElem?_eq_getElem hi]
  unfold namesA
  rw [List.foldl_append]
  rfl
theorem Tryz.c_names {h : Hp} {d : Nat} {m : Nm} {sm : Option Nat} {A : Option Addr} {n c : Nat} {ts : List TurnA} (hc : cell h ⟨d, 4, none⟩ = some (.map sm)) (o : Tryz.NmR h sm m) (hn : n = ts.length) (hs : Src h (n * 3) (turnV ts) A)
    (hb : m.length + ts.length ≤ 1099511627776) (ht : ∀ t ∈ ts, t.fr.size ≤ maxLen ∧ t.to.size ≤ maxLen ∧ 0 ≤ t.file ∧ t.file ≤ 4611686018427387904) :
    CH Tryz.prog 68 #[.pointer (some ⟨d, 0, none⟩), .slice A n c] h fun r h' => ∃ b, r = .map (some b) ∧ h.size ≤ b ∧ NmAt Tryz.prog 9 3 h' b (namesA m ts) ∧ Grow h h' := by
  apply D_disk_Disk_names.sound
  unfold D_disk_Disk_names
  refine ⟨_, rfl, sm, by rw [add_mk]; exact hc, (Tryz.c_mapsClone o).mono ?_⟩
  rintro r h6 ⟨mp, rfl, hnone, hsome, o6, g6⟩
  have key : ∀ (b : Nat) (h9 : Hp), h.size ≤ b → Grow h h9 → NmAt Tryz.prog 9 3 h9 b m → D_disk_Disk_names.J1 (fun r h' => ∃ b, r = .map (some b) ∧ h.size ≤ b ∧ NmAt Tryz.prog 9 3 h' b (namesA m ts) ∧ Grow h h') A n (some b) h9 := by
    intro b h9 hb9 g9 o9
    unfold D_disk_Disk_names.J1
    refine ⟨fun j h' mm => 0 ≤ j ∧ j ≤ n ∧ mm = n - j.toNat ∧ Grow h h' ∧ NmAt Tryz.prog 9 3 h' b (namesA m (ts.take j.toNat)), ⟨n, by omega, by omega, by simp, g9, by simpa [namesA] using o9⟩, ?_⟩
    rintro j h12 mm ⟨h0, hj, rfl, g12, o12⟩
    unfold D_disk_Disk_names.L3
    refine ⟨fun e => ?_, fun e => ?_⟩
    · have hlt := dec_t e
      obtain ⟨a, rfl⟩ := hs.addr (by omega)
      have hi : j.toNat < ts.length := by omega
      have hs12 := hs.g g12
      refine ⟨a, rfl, h0, hlt, ts[j.toNat].fr, ts[j.toNat].to, ts[j.toNat].file, turn_row hs12 hi, ?_⟩
      intro b22 h21 eb eh
      refine ⟨boxRow_wr eb eh rfl, fun h23 e23 => ?_⟩
      obtain ⟨f23, g23, s23, _⟩ := boxRow eb eh e23 rfl
      have hbl := MapOn.lt o12
      obtain ⟨t1, t2, t3⟩ := ht ts[j.toNat] (List.getElem_mem hi)
      refine ⟨_, _, _, row_all f23, (Tryz.c_turn (t := ts[j.toNat]) (MapOn.kp o12 g23 id) ?_ t1 t2 t3).mono ?_⟩
      · have := namesA_length (ts.take j.toNat) m
        rw [List.length_take] at this
        omega
      · rintro r h28 ⟨o28, k28⟩
        rw [inc64 h0 hlt (by omega)]
        refine ⟨_, ?_, by omega, by omega, rfl, ?_, ?_⟩
        · rw [toNat_inc h0]; omega
        · exact (g12.trans g23).trans' k28 fun q hq e => by have : q = b := e; omega
        · rw [toNat_inc h0, namesA_take hi]; exact o28
    · have hge := dec_f e
      unfold D_disk_Disk_names.J2
      rw [List.take_of_length_le (by omega)] at o12
      exact ⟨b, rfl, hb9, o12, g12⟩
  refine ⟨mp, rfl, fun e => ?_, fun e => ?_⟩
  · intro b h9 eb eh
    have : mp = none := by cases mp with | none => rfl | some => cases e
    subst this
    rcases o6 with ⟨_, rfl⟩ | ⟨b', hb', _⟩
    · subst eb eh
      refine key _ _ g6.size (g6.trans (Grow.push _ _)) ?_
      exact NmAt.exact (n := 0) (MapOn.made _ _ _ _)
    · cases hb'
  · rcases o6 with ⟨rfl, _⟩ | ⟨b', rfl, o6⟩
    · cases e
    · exact key b' h6 (by rw [hsome b' rfl]; exact Nat.le_refl _) g6 o6

theorem turn_bounds {N : Nat} {D : DiskA} (ok : D.ok N) (hN : N ≤ 1073741824) : ∀ t ∈ D.turns, t.fr.size ≤ maxLen ∧ t.to.size ≤ maxLen ∧ 0 ≤ t.file ∧ t.file ≤ 4611686018427387904 := fun t ht => by
  have := ok.short t ht
  have := ok.made1
  unfold maxLen; omega
end Go.Proofs
set_option linter.unusedVariables false
set_option linter.unusedSimpArgs false
namespace Go.Proofs
open Go Go.V Go.Disk
theorem Tryz.c_now {h : Hp} {g : DG} {N : Nat} (r : Tryz.DR h g) (ok : g.D.ok N) (hN : N ≤ 1073741824) :
    CH Tryz.prog 59 #[.pointer (some ⟨g.d, 0, none⟩)] h fun v h' => ∃ b, v = .map (some b) ∧ h.size ≤ b ∧ NmAt Tryz.prog 9 3 h' b g.D.now ∧ Grow h h' := by
  apply D_disk_Disk_now.sound
  unfold D_disk_Disk_now
  refine ⟨_, rfl, _, _, _, (cell_add r.blk 0 5).trans rfl, ?_⟩
  have hc : cell h ⟨g.d, 4, none⟩ = some (.map g.sm) := (cell_of r.blk 4).trans rfl
  refine (Tryz.c_names hc r.sm rfl r.turns.src (by have := ok.names; omega) (turn_bounds ok hN)).mono ?_
  rintro v h6 ⟨b, rfl, h1, h2, h3⟩
  exact ⟨_, rfl, b, rfl, h1, h2, h3⟩

/-- The files that names have, or that changes say. -/
theorem Tryz.c_alive {h : Hp} {mp : Option Nat} {m : Nm} {A : Option Addr} {n c : Nat} {ts : List TurnA} (o : Tryz.NmR h mp m) (hn : n = ts.length) (hs : Src h (n * 3) (turnV ts) A) (hb : m.length + ts.length ≤ 68719476000) :
    CH Tryz.prog 91 #[.map mp, .slice A n c] h fun r h' => ∃ A' n' c', r = .slice A' n' c' ∧ n' = (livesA m ts).length ∧ OwnS h' 3 1 A' n' c' ((livesA m ts).map iv) ∧ Grow h h' ∧ (∀ b, inA A' b → h.size ≤ b) := by
  apply D_disk_alive.sound
  unfold D_disk_alive
  refine Tryz.c_values o (by omega) fun B k d l h5 hk hkm o5 hl g5 f5 => ?_
  refine ⟨_, _, _, rfl, ?_⟩
  refine ⟨fun jA jn jc j h' mm => 0 ≤ j ∧ j ≤ n ∧ mm = n - j.toNat ∧ Grow h h' ∧ ∃ q, jn = q.length ∧ q.length ≤ m.length + j.toNat ∧ OwnS h' 3 1 jA jn jc (q.map iv) ∧ (∀ b, inA jA b → h.size ≤ b) ∧ (∀ x, x ∈ q ↔ x ∈ m.map (·.2) ++ turnIds (ts.take j.toNat)),
    ⟨n, by omega, by omega, by simp, g5, l, hk, by simp; omega, o5, f5, by simpa [turnIds] using hl⟩, ?_⟩
  rintro jA jn jc j h6 mm ⟨h0, hj, rfl, g6, q, hq, hqm, oq, fq, hmem⟩
  unfold D_disk_alive.L2
  refine ⟨fun e => ?_, fun e => ?_⟩
  · have hlt := dec_t e
    obtain ⟨a, rfl⟩ := hs.addr (by omega)
    have hi : j.toNat < ts.length := by omega
    have hs6 := hs.g g6
    refine ⟨a, rfl, h0, hlt, ts[j.toNat].fr, ts[j.toNat].to, ts[j.toNat].file, turn_row hs6 hi, ?_⟩
    intro b29 h28 eb eh
    refine ⟨boxRow_wr eb eh rfl, fun h30 e30 => ?_⟩
    obtain ⟨f30, g30, s30, _⟩ := boxRow eb eh e30 rfl
    have htake : ts.take (j.toNat + 1) = ts.take j.toNat ++ [ts[j.toNat]] := by rw [List.take_add_one, List.getElem?_eq_getElem hi]; rfl
    have oq30 := oq.kp g30 fun _ _ => id
    refine ⟨_, (cell_add f30 0 1).trans rfl, fun e1 => ?_, fun e1 => ?_⟩
    · refine ⟨_, (cell_add f30 0 2).trans rfl, fun b38 h37 eb' eh' => ?_⟩
      obtain ⟨f37, g37, s37, _⟩ := boxed eb' eh'
      refine app1 (xs := [iv ts[j.toNat].file]) f37 rfl (one_iv [_]) (oq30.kp g37 fun _ _ => id) rfl (by omega) (by omega) fun A2 c2 h8 o1 k1 e1' => ?_
      unfold D_disk_alive.J3
      rw [inc64 h0 hlt (by omega)]
      refine ⟨_, ?_, by omega, by omega, rfl, ?_, q ++ [ts[j.toNat].file], by simp [hq], ?_, by rw [List.map_append]; exact o1, ?_, ?_⟩
      · rw [toNat_inc h0]; omega
      · exact ((g6.trans g30).trans g37).trans' k1 fun k hk hx => by have := fq k hx; omega
      · rw [toNat_inc h0, List.length_append]; simp; omega
      · intro b hb
        rcases app_in e1' b hb with hx | hx
        · exact fq b hx
        · have := g6.size; have := g30.size; have := g37.size; omega
      · intro x
        rw [toNat_inc h0, htake]
        unfold turnIds
        rw [List.filter_append, List.map_append, ← List.append_assoc, List.mem_append, List.mem_append, hmem x]
        have hf : ([ts[j.toNat]].filter (·.has)) = [ts[j.toNat]] := by
          rw [List.filter_eq_self]; intro t ht; rw [List.mem_singleton.1 ht]; exact e1
        rw [hf]
        rfl
    · unfold D_disk_alive.J3
      rw [inc64 h0 hlt (by omega)]
      refine ⟨_, ?_, by omega, by omega, rfl, g6.trans g30, q, hq, ?_, oq30, fq, ?_⟩
      · rw [toNat_inc h0]; omega
      · rw [toNat_inc h0]; omega
      · intro x
        rw [toNat_inc h0, htake]
        unfold turnIds
        rw [List.filter_append, List.map_append]
        have hf : ([ts[j.toNat]].filter (·.has)) = [] := by
          rw [List.filter_eq_nil_iff]; intro t ht; rw [List.mem_singleton.1 ht]; show ¬ ((!_) = true); rw [e1]; decide
        rw [hf]
        have := hmem x
        unfold turnIds at this
        rw [List.map_nil, List.append_nil]
        exact this
  · have hge := dec_f e
    unfold D_disk_alive.J1
    rw [List.take_of_length_le (by omega)] at hmem
    refine (Tryz.c_sortI oq (by omega)).mono ?_
    rintro r h7 ⟨rfl, o7, k7⟩
    refine (Tryz.c_compact o7 (by omega)).mono ?_
    rintro r h8 ⟨k, rfl, hk, _, o8, k8⟩
    have hL : Lib.compact (q.mergeSort fun x y => decide (x ≤ y)) = livesA m ts := by
      show ascOf q = _
      exact ascOf_congr hmem
    rw [hL] at hk o8
    exact ⟨_, _, _, rfl, jA, k, jc, rfl, hk, o8, (g6.trans' k7 fun q' hq' hx => by have := fq q' hx; omega).trans' k8 fun q' hq' hx => by have := fq q' hx; omega, fq⟩

theorem Tryz.c_lives {h : Hp} {g : DG} {N : Nat} (r : Tryz.DR h g) (ok : g.D.ok N) (hN : N ≤ 1073741824) :
    CH Tryz.prog 43 #[.pointer (some ⟨g.d, 0, none⟩)] h fun v h' => ∃ A n c, v = .slice A n c ∧ n = g.D.lives.length ∧ OwnS h' 3 1 A n c (g.D.lives.map iv) ∧ Grow h h' ∧ (∀ b, inA A b → h.size ≤ b) := by
  apply D_disk_Disk_lives.sound
  unfold D_disk_Disk_lives
  refine ⟨_, rfl, _, (cell_add r.blk 0 4).trans rfl, _, _, _, (cell_add r.blk 0 5).trans rfl, ?_⟩
  refine (Tryz.c_alive r.sm rfl r.turns.src (by have := ok.names; omega)).mono ?_
  rintro v h6 ⟨A, n, c, rfl, h1, h2, h3, h4⟩
  exact ⟨_, _, _, rfl, A, n, c, rfl, h1, h2, h3, h4⟩

/-- The file of a number that lives. -/
theorem fl_mem {h : Hp} {g : DG} (r : Tryz.DR h g) {i : Int} {f : FileA} (hf : (i, f) ∈ g.D.files) : ∃ F, (i, F) ∈ g.fl ∧ F.f = f := by
  rw [r.eq] at hf
  obtain ⟨p, hp, e⟩ := List.mem_map.1 hf
  cases e
  exact ⟨p.2, hp, rfl⟩
theorem flIm_get {fl : List (Int × FG)} (hp : fl.Pairwise fun p q => p.1 < q.1) {i : Int} {F : FG} (h : (i, F) ∈ fl) : (flIm fl).get i = some (.pointer (some ⟨F.p, 0, none⟩)) := by
  unfold Im.get flIm
  rw [List.find?_map]
  induction fl with
  | nil => cases h
  | cons q l ih =>
    have hq := List.pairwise_cons.1 hp
    rw [List.find?_cons]
    rcases List.mem_cons.1 h with rfl | h
    · simp
    · have := hq.1 _ h
      have hne : ((fun p : Int × Value => p.1 == i) ∘ fun p : Int × FG => (p.1, Value.pointer (some ⟨p.2.p, 0, none⟩))) q = false := by simp at this ⊢; omega
      rw [hne]
      exact ih hq.2 h
theorem fl_asc {h : Hp} {g : DG} {N : Nat} (r : Tryz.DR h g) (ok : g.D.ok N) : g.fl.Pairwise fun p q => p.1 < q.1 := by
  have := asc_files ok
  rw [r.eq, List.pairwise_map] at this
  exact this
theorem Tryz.look_file {h : Hp} {g : DG} {N : Nat} (r : Tryz.DR h g) (ok : g.D.ok N) (hN : N ≤ 1073741824) {i : Int} {F : FG} (hF : (i, F) ∈ g.fl) : MLk Tryz.prog 100 h (.map g.fm) (.int .i64 i) false (.pointer (some ⟨F.p, 0, none⟩)) := by
  rcases r.fm with ⟨h1, h2⟩ | ⟨b, h1, o⟩
  · rw [h2] at hF; cases hF
  · rw [h1]
    have hr : (i, F.f) ∈ g.D.files := by rw [r.eq]; exact List.mem_map.2 ⟨_, hF, rfl⟩
    have h3 := ok.rng _ hr
    have h4 := ok.made1
    have := ImAt.look Tryz.underlying3 Tryz.underlying100 o Tryz.z96 (i := i) (wf64 (by simp at h3; omega) (by simp at h3; omega))
    rw [flIm_get (fl_asc r ok) hF] at this
    exact this

def heldOf (D : DiskA) (ids : List Int) : Nat := (ids.map fun i => ((D.file i).map fun f => f.lens.2).getD 0).sum
theorem heldOf_lives {N : Nat} {D : DiskA} (ok : D.ok N) : heldOf D D.lives = D.held := by
  unfold heldOf DiskA.held
  rw [← ok.ids]
  have ha := asc_files ok
  have : ∀ (l : List (Int × FileA)), (∀ p ∈ l, D.file p.1 = some p.2) → ((l.map (·.1)).map fun i => ((D.file i).map fun f => f.lens.2).getD 0).sum = sumA l := by
    intro l
    induction l with
    | nil => intro _; rfl
    | cons q l ih =>
      intro hl
      simp only [List.map_cons, List.sum_cons, sumA]
      rw [hl q List.mem_cons_self, ih fun p hp => hl p (List.mem_cons_of_mem _ hp)]
      rfl
  exact this _ fun p hp => by
    unfold DiskA.file
    rw [ids_get ha (i := p.1) (f := p.2) hp]
    rfl
theorem file_mem {N : Nat} {D : DiskA} (ok : D.ok N) {i : Int} (hi : i ∈ D.lives) : ∃ f, (i, f) ∈ D.files ∧ D.file i = some f := by
  rw [← ok.ids] at hi
  obtain ⟨p, hp, rfl⟩ := List.mem_map.1 hi
  exact ⟨p.2, hp, by unfold DiskA.file; rw [ids_get (asc_files ok) (i := p.1) (f := p.2) hp]; rfl⟩
theorem heldOf_le {N : Nat} {D : DiskA} (ok : D.ok N) : ∀ (ids : List Int), heldOf D ids ≤ ids.length * 4194304
  | [] => by simp [heldOf]
  | i :: l => by
    have ih := heldOf_le ok l
    unfold heldOf at ih ⊢
    simp only [List.map_cons, List.sum_cons, List.length_cons]
    have : ((D.file i).map fun f => f.lens.2).getD 0 ≤ 4194304 := by
      cases hf : D.file i with
      | none => simp
      | some f =>
        unfold DiskA.file at hf
        cases hx : D.files.find? fun p => p.1 == i with
        | none => rw [hx] at hf; cases hf
        | some p =>
          rw [hx] at hf
          cases hf
          exact ok.lens (List.mem_of_find?_eq_some hx)
    omega
theorem Tryz.c_held {h : Hp} {g : DG} {N : Nat} (r : Tryz.DR h g) (ok : g.D.ok N) (hN : N ≤ 1073741824) {A : Option Addr} {n c : Nat} {ids : List Int} (hs : IS h A n ids) (hin : ∀ i ∈ ids, i ∈ g.D.lives) (hlen : n ≤ 1099511627776) :
    CH Tryz.prog 47 #[.pointer (some ⟨g.d, 0, none⟩), .slice A n c] h fun v h' => v = .int .i64 (heldOf g.D ids : Nat) ∧ Grow h h' := by
  apply D_disk_Disk_held.sound
  unfold D_disk_Disk_held
  have hn := hs.1
  refine ⟨fun a j h' mm => 0 ≤ j ∧ j ≤ n ∧ mm = n - j.toNat ∧ Grow h h' ∧ a = (heldOf g.D (ids.take j.toNat) : Nat), ⟨n, by omega, by omega, by simp, Kp.rfl', by simp [heldOf]⟩, ?_⟩
  rintro a j h5 mm ⟨h0, hj, rfl, g5, rfl⟩
  unfold D_disk_Disk_held.L2
  refine ⟨fun e => ?_, fun e => ?_⟩
  · have hlt := dec_t e
    obtain ⟨pa, i, rfl, hi, hc⟩ := (hs.g g5).get h0 hlt
    have r5 := r.g g5
    obtain ⟨f, hf, hff⟩ := file_mem ok (hin i (List.mem_of_getElem? hi))
    obtain ⟨F, hF, rfl⟩ := fl_mem r5 hf
    refine ⟨pa, rfl, h0, hlt, i, hc, _, rfl, _, (cell_add r5.blk 0 3).trans rfl, _, Tryz.look_file r5 ok hN hF, ?_⟩
    have hl : F.f.lens.2 ≤ 4194304 := ok.lens hf
    have hp : F.f.pend.length ≤ N := ok.pend _ hf
    refine (Tryz.c_lengths (g := F) (r5.fr _ hF) (by omega) (by omega)).mono ?_
    rintro v h6 ⟨rfl, g6⟩
    refine ⟨_, _, rfl, ?_⟩
    have htake : ids.take (j.toNat + 1) = ids.take j.toNat ++ [i] := by rw [List.take_add_one, hi]; rfl
    have hsucc : heldOf g.D (ids.take (j.toNat + 1)) = heldOf g.D (ids.take j.toNat) + F.f.lens.2 := by
      rw [htake]
      unfold heldOf
      rw [List.map_append, List.sum_append]
      simp [hff]
    have hle := heldOf_le ok (ids.take j.toNat)
    rw [List.length_take] at hle
    rw [inc64 h0 hlt (by omega)]
    refine ⟨_, ?_, by omega, by omega, rfl, g5.trans g6, ?_⟩
    · rw [toNat_inc h0]; omega
    · rw [toNat_inc h0, hsucc]
      have hm : heldOf g.D (ids.take j.toNat) ≤ 1099511627776 * 4194304 := Nat.le_trans hle (Nat.mul_le_mul_right _ (by omega))
      rw [w64 (by omega) (by omega)]
      omega
  · have hge := dec_f e
    unfold D_disk_Disk_held.J1
    rw [List.take_of_length_le (by omega)]
    exact ⟨rfl, g5⟩

/-- The file of a name. -/
theorem Tryz.c_there {h : Hp} {g : DG} {N : Nat} (r : Tryz.DR h g) (ok : g.D.ok N) (hN : N ≤ 1073741824) (s : ByteArray) (hlv : ∀ p ∈ g.D.now, p.2 ∈ g.D.lives) :
    CH Tryz.prog 41 #[.pointer (some ⟨g.d, 0, none⟩), .string s] h fun v h' => Grow h h' ∧
      ((namedA s = false ∧ v = .tuple #[.pointer none, .int .i64 5]) ∨ (namedA s = true ∧ g.D.now.get (bl s) = none ∧ v = .tuple #[.pointer none, .int .i64 6]) ∨
       ∃ i F, namedA s = true ∧ g.D.now.get (bl s) = some i ∧ (i, F) ∈ g.fl ∧ v = .tuple #[.pointer (some ⟨F.p, 0, none⟩), .int .i64 0]) := by
  apply D_disk_Disk_there.sound
  unfold D_disk_Disk_there
  refine (Tryz.c_named s h).mono ?_
  rintro v h2 ⟨rfl, rfl⟩
  refine ⟨_, rfl, fun e => ⟨Kp.rfl', .inl ⟨by simpa using e, rfl⟩⟩, fun e => ?_⟩
  have hnm : namedA s = true := by simpa using e
  have hsz : s.size ≤ 40 := by unfold namedA at hnm; simp at hnm; exact hnm.1.2
  refine (Tryz.c_now r ok hN).mono ?_
  rintro v h6 ⟨b, rfl, hb, o6, g6⟩
  have hl := NmAt.look2 Tryz.underlying9 Tryz.underlying3 Tryz.underlying101 o6 Tryz.z3 (s := s) (by unfold maxLen; omega)
  refine ⟨_, rfl, _, _, hl, fun e1 => ⟨g6, .inr (.inl ⟨hnm, ?_, rfl⟩)⟩, fun e1 => ?_⟩
  · show g.D.now.get s.data.toList = none
    cases hg : g.D.now.get s.data.toList with
    | none => rfl
    | some i => rw [hg] at e1; cases e1
  · obtain ⟨i, hg⟩ : ∃ i, g.D.now.get s.data.toList = some i := by
      cases hg : g.D.now.get s.data.toList with
      | none => rw [hg] at e1; cases e1
      | some i => exact ⟨i, rfl⟩
    obtain ⟨f, hf, _⟩ := file_mem ok (hlv _ (Nm.mem_of_get hg))
    obtain ⟨F, hF, _⟩ := fl_mem r hf
    have r6 := r.g g6
    rw [hg]
    refine ⟨_, rfl, _, (cell_add r6.blk 0 3).trans rfl, _, Tryz.look_file r6 ok hN hF, g6, .inr (.inr ⟨i, F, hnm, hg, hF, rfl⟩)⟩
end Go.Proofs
set_option linter.unusedVariables false
set_option linter.unusedSimpArgs false
namespace Go.Proofs
open Go Go.V Go.Disk
/-! ### all but the disk's own block -/
def DBr (g : DG) (b : Nat) : Prop := g.fm = some b ∨ g.sm = some b ∨ inA g.tA b ∨ inA g.sA b ∨ inA g.rA b ∨ ∃ p ∈ g.fl, Tryz.FB p.2 b
theorem Tryz.NmR.map {h : Hp} {mp : Option Nat} {m : Nm} (o : Tryz.NmR h mp m) : ∀ b, mp = some b → isMapB h b := by
  rcases o with ⟨rfl, rfl⟩ | ⟨b, rfl, o⟩
  · intro b hb; cases hb
  · intro b' hb; cases hb; exact MapOn.isMap o
theorem Tryz.FmR.map {h : Hp} {mp : Option Nat} {m : List (Int × FG)} (o : Tryz.FmR h mp m) : ∀ b, mp = some b → isMapB h b := by
  rcases o with ⟨rfl, rfl⟩ | ⟨b, rfl, o⟩
  · intro b hb; cases hb
  · intro b' hb; cases hb; exact MapOn.isMap o
theorem isMapB.ne {h : Hp} {b b' : Nat} {c : Array Value} {e : TypeId} {fr : Nat × Nat} (m : isMapB h b) (hb : h[b']? = some (.cells c e fr)) : b ≠ b' := fun e' => by
  obtain ⟨es, cl, hm⟩ := m
  rw [e', hb] at hm
  cases hm
theorem chg_tag {h : Hp} {F : FG} (r : Tryz.FR h F) {v : Value} (hv : v ∈ F.vs) {b : Nat} (hb : Tryz.chgB v b) : ∃ c fr, h[b]? = some (.cells c 5 fr) := by
  obtain ⟨i, hi, rfl⟩ := List.mem_iff_getElem.1 hv
  obtain ⟨v', c, e1, e2, hc⟩ := forall2_get r.chg hi
  rw [List.getElem?_eq_getElem hi] at e1
  cases e1
  obtain ⟨A, n, cc, e, hb⟩ := hb
  cases c with
  | cut k => rw [show F.vs[i] = _ from hc] at e; cases e
  | app l =>
    obtain ⟨A', n', c', e', _, ht⟩ := hc
    rw [e] at e'
    cases e'
    exact ht b hb
/-- The tag of each of a file's blocks. -/
theorem FB_tag {h : Hp} {F : FG} (r : Tryz.FR h F) {b : Nat} (hb : Tryz.FB F b) : ∃ c e fr, h[b]? = some (.cells c e fr) ∧ (e = 111 ∨ e = 5 ∨ e = 150) := by
  rcases hb with rfl | hb | hb | ⟨v, hv, hb⟩
  · exact ⟨_, _, _, r.blk, .inl rfl⟩
  · obtain ⟨c, fr, e⟩ := r.safeT b hb; exact ⟨_, _, _, e, .inr (.inl rfl)⟩
  · obtain ⟨c, fr, e⟩ := r.pend.tag b hb; exact ⟨_, _, _, e, .inr (.inr rfl)⟩
  · obtain ⟨c, fr, e⟩ := chg_tag r hv hb; exact ⟨_, _, _, e, .inr (.inl rfl)⟩
theorem FB_ne {h : Hp} {F : FG} (r : Tryz.FR h F) {b b' : Nat} (hb : Tryz.FB F b) {c : Array Value} {e : TypeId} {fr : Nat × Nat} (hb' : h[b']? = some (.cells c e fr)) (hne : e ≠ 111 ∧ e ≠ 5 ∧ e ≠ 150) : b ≠ b' := fun e' => by
  obtain ⟨c', t, fr', h1, h2⟩ := FB_tag r hb
  rw [e', hb'] at h1
  cases h1
  rcases h2 with h2 | h2 | h2
  · exact hne.1 h2
  · exact hne.2.1 h2
  · exact hne.2.2 h2
theorem Tryz.DR.ne_d {h : Hp} {g : DG} (r : Tryz.DR h g) : ∀ b, DBr g b → b ≠ g.d := by
  rintro b (hb | hb | hb | hb | hb | ⟨p, hp, hb⟩) e
  · exact isMapB.ne (r.fm.map b hb) r.blk e
  · exact isMapB.ne (r.sm.map b hb) r.blk e
  · subst e; exact r.turns.tag.ne r.blk (by decide) hb
  · subst e; exact r.psT.ne r.blk (by decide) hb
  · subst e; exact r.prT.ne r.blk (by decide) hb
  · exact FB_ne (r.fr p hp) hb r.blk (by decide) e
/-- Only numbers in the disk's own block have turned. -/
theorem Tryz.DR.scalar {h h' : Hp} {g g' : DG} (r : Tryz.DR h g) (k : Kp (· = g.d) h h') (hb : h'[g.d]? = some (.cells g'.cells 104 (0, 0)))
    (e1 : g'.d = g.d) (e2 : g'.fm = g.fm) (e3 : g'.sm = g.sm) (e4 : g'.tA = g.tA) (e5 : g'.tc = g.tc) (e6 : g'.sA = g.sA) (e7 : g'.rA = g.rA) (e8 : g'.fl = g.fl)
    (d1 : g'.D.files = g.D.files) (d2 : g'.D.safe = g.D.safe) (d3 : g'.D.turns = g.D.turns) (d4 : g'.D.planS = g.D.planS) (d5 : g'.D.planR = g.D.planR) : Tryz.DR h' g' := by
  have hn : ∀ b, DBr g b → ¬ (b = g.d) := r.ne_d
  refine ⟨by rw [e1]; exact hb, by rw [e2, e8]; exact r.fm.kp k fun b hb => hn b (.inl hb), by rw [e3, d2]; exact r.sm.kp k fun b hb => hn b (.inr (.inl hb)), by rw [e4, e5, d3]; exact r.turns.kp k fun b hb => hn b (.inr (.inr (.inl hb))),
    by rw [e6, d4]; exact r.ps.kp k fun b hb => hn b (.inr (.inr (.inr (.inl hb)))), by rw [e6]; exact r.psT.kp k fun b hb => hn b (.inr (.inr (.inr (.inl hb)))),
    by rw [e7, d5]; exact r.pr.kp k fun b hb => hn b (.inr (.inr (.inr (.inr (.inl hb))))), by rw [e7]; exact r.prT.kp k fun b hb => hn b (.inr (.inr (.inr (.inr (.inl hb))))),
    by rw [e8]; exact fun p hp => (r.fr p hp).kp k fun b hb => hn b (.inr (.inr (.inr (.inr (.inr ⟨p, hp, hb⟩))))), by rw [d1, e8]; exact r.eq, by rw [e8]; exact r.far, by rw [e2, e3]; exact r.two⟩

/-- A disk goes on, as another one, out of its own blocks and new ones. -/
def Tryz.Goes (h : Hp) (g : DG) (D' : DiskA) (h' : Hp) : Prop := ∃ g', g'.d = g.d ∧ g'.D = D' ∧ Tryz.DR h' g' ∧ (∀ b, DB g' b → DB g b ∨ h.size ≤ b) ∧ Kp (DB g) h h'
theorem Tryz.Goes.of {h h' : Hp} {g g' : DG} {D' : DiskA} (e : g'.d = g.d) (eD : g'.D = D') (r : Tryz.DR h' g') (hb : ∀ b, DB g' b → DB g b ∨ h.size ≤ b) (k : Kp (DB g) h h') : Tryz.Goes h g D' h' := ⟨g', e, eD, r, hb, k⟩
theorem Tryz.Goes.still {h h' : Hp} {g : DG} (r : Tryz.DR h g) (k : Grow h h') : Tryz.Goes h g g.D h' := ⟨g, rfl, rfl, r.g k, fun b hb => .inl hb, k.kp⟩
/-- Ahead of it something else has been laid or turned. -/
theorem Tryz.Goes.ahead {W : Nat → Prop} {h h1 h2 : Hp} {g : DG} {D' : DiskA} (k : Kp W h h1) (x : Tryz.Goes h1 g D' h2) (hW : ∀ b, b < h.size → ¬ W b) : Tryz.Goes h g D' h2 := by
  obtain ⟨g', e, eD, r, hb, kk⟩ := x
  exact ⟨g', e, eD, r, fun b hx => (hb b hx).imp id fun hx => Nat.le_trans k.size hx, (k.mono fun b hb hw => (hW b hb hw).elim).trans kk⟩
theorem Tryz.Goes.grow {h h1 h2 : Hp} {g : DG} {D' : DiskA} (x : Tryz.Goes h g D' h1) (k : Grow h1 h2) : Tryz.Goes h g D' h2 := by
  obtain ⟨g', e, eD, r, hb, kk⟩ := x
  exact ⟨g', e, eD, r.g k, hb, kk.trans k.kp⟩
theorem Tryz.Goes.trans {h h1 h2 : Hp} {g g1 : DG} {D2 : DiskA} (e1 : g1.d = g.d) (b1 : ∀ b, DB g1 b → DB g b ∨ h.size ≤ b) (k1 : Kp (DB g) h h1) (y : Tryz.Goes h1 g1 D2 h2) : Tryz.Goes h g D2 h2 := by
  obtain ⟨g2, e2, eD2, r2, hb2, kk2⟩ := y
  refine ⟨g2, e2.trans e1, eD2, r2, fun b hb => ?_, k1.trans' kk2 fun k hk hx => (b1 k hx).elim id fun hx => by omega⟩
  rcases hb2 b hb with hx | hx
  · exact b1 b hx
  · exact .inr (Nat.le_trans k1.size hx)

/-! ### strokes -/
theorem Tryz.c_fails {h : Hp} {g : DG} (r : Tryz.DR h g) (k : Int) :
    CH Tryz.prog 63 #[.pointer (some ⟨g.d, 0, none⟩), .int .i64 k] h fun v h' => v = .int .i64 (failErr k) ∧ Tryz.DR h' { g with D := DiskA.failed g.D k } ∧ Kp (· = g.d) h h' := by
  apply D_disk_Disk_fails.sound
  unfold D_disk_Disk_fails
  have stay : k ≠ 1 → Tryz.DR h { g with D := DiskA.failed g.D k } := fun hk => by
    have : DiskA.failed g.D k = g.D := by unfold DiskA.failed; simp [hk]
    rw [this]; exact r
  refine ⟨fun e => ?_, fun e => ?_⟩
  · have e : k = 1 := by simpa using e
    subst e
    refine ⟨_, rfl, wr_add r.blk (by simp [DG.cells]), fun h4 e4 => ?_⟩
    have hb := setc_add r.blk 0 10 (.bool true)
    have kk := Kp.setc h ((Addr.mk g.d 0 none).add 10) (.bool true)
    rw [← e4] at hb kk
    rw [add_block] at kk
    refine ⟨rfl, r.scalar kk ?_ rfl rfl rfl rfl rfl rfl rfl rfl rfl rfl rfl rfl rfl, kk⟩
    rw [hb]
    simp [DG.cells, DiskA.failed]
  · have e : k ≠ 1 := by simpa using e
    have key : ∀ t : Bool, (t = true ↔ k = 2 ∨ k = 4 ∨ k = 5) → D_disk_Disk_fails.J1 (fun v h' => v = .int .i64 (failErr k) ∧ Tryz.DR h' { g with D := DiskA.failed g.D k } ∧ Kp (· = g.d) h h') k t h := by
      intro t ht
      unfold D_disk_Disk_fails.J1
      refine ⟨fun e1 => ⟨?_, stay e, Kp.rfl'⟩, fun e1 => ⟨fun e2 => ⟨?_, stay e, Kp.rfl'⟩, fun e2 => ⟨?_, stay e, Kp.rfl'⟩⟩⟩
      · have := ht.1 e1
        unfold failErr
        rw [if_neg e, if_pos this]
      · have h1 : ¬ (k = 2 ∨ k = 4 ∨ k = 5) := fun x => by rw [ht.2 x] at e1; cases e1
        have h2 : k = 3 := by simpa using e2
        unfold failErr
        rw [if_neg e, if_neg h1, if_pos h2]
      · have h1 : ¬ (k = 2 ∨ k = 4 ∨ k = 5) := fun x => by rw [ht.2 x] at e1; cases e1
        have h2 : k ≠ 3 := by simpa using e2
        unfold failErr
        rw [if_neg e, if_neg h1, if_neg h2]
    refine ⟨fun e1 => ?_, fun e1 => ⟨fun e2 => ?_, fun e2 => ?_⟩⟩
    · exact key _ (by simp at e1 ⊢; omega)
    · exact key _ (by simp at e1 e2 ⊢; omega)
    · exact key _ (by simp at e1 e2 ⊢; omega)


/-- A stroke: 'ahead', the count, the plan, then what it does. -/
theorem Tryz.c_stroke {h : Hp} {g : DG} {N : Nat} (r : Tryz.DR h g) (ok : g.D.ok N) (hN : N ≤ 1073741824) {ahead does : Value} {hA : Option Addr} {hn hc : Nat} {R : Value → Hp → Prop} (hnb : hn ≤ 1)
    (hoff : g.D.off = true → R (.int .i64 11) h)
    (ha : g.D.off = false → CHV Tryz.prog ahead [] h fun v h1 => ∃ e, v = .int .i64 e ∧ (e ≠ 0 → R (.int .i64 e) h1) ∧ (e = 0 → Tryz.DR h1 g ∧
      ∀ h2, Tryz.DR h2 { g with D := g.D.struck } → Kp (· = g.d) h1 h2 →
        (failErr g.D.kind = 0 → CHV Tryz.prog does [] h2 fun v h3 => ∃ e, v = .int .i64 e ∧ R (.int .i64 e) h3) ∧
        (failErr g.D.kind ≠ 0 → (hn = 0 → R (.int .i64 (failErr g.D.kind)) h2) ∧ (hn = 1 → ∃ a f, hA = some a ∧ cell h2 a = some f ∧ CHV Tryz.prog f [.int .i64 g.D.kind] h2 fun _ h3 => R (.int .i64 (failErr g.D.kind)) h3)))) :
    CH Tryz.prog 39 #[.pointer (some ⟨g.d, 0, none⟩), ahead, does, .slice hA hn hc] h R := by
  apply D_disk_Disk_stroke.sound
  unfold D_disk_Disk_stroke
  refine ⟨fun e => Bool.noConfusion e, fun _ => ⟨_, rfl, g.D.off, (cell_add r.blk 0 10).trans rfl, hoff, fun e => ?_⟩⟩
  refine (ha e).mono ?_
  rintro v h1 ⟨e0, rfl, hne, heq⟩
  refine ⟨_, rfl, fun e1 => hne (by simpa using e1), fun e1 => ?_⟩
  obtain ⟨r1, hgo⟩ := heq (by simpa using e1)
  refine ⟨_, (cell_add r1.blk 0 8).trans rfl, wr_add r1.blk (by simp [DG.cells]), fun h13 e13 => ?_⟩
  have hcnt := ok.cnt0
  have hw : IntKind.i64.wrap (g.D.strokes + 1) = g.D.strokes + 1 := w64 (by omega) (by omega)
  rw [hw] at e13
  have hb := setc_add r1.blk 0 8 (.int .i64 (g.D.strokes + 1))
  have kk := Kp.setc h1 ((Addr.mk g.d 0 none).add 8) (.int .i64 (g.D.strokes + 1))
  rw [← e13] at hb kk
  rw [add_block] at kk
  have r13 : Tryz.DR h13 { g with D := { g.D with strokes := g.D.strokes + 1 } } := r1.scalar kk (by rw [hb]; simp [DG.cells]) rfl rfl rfl rfl rfl rfl rfl rfl rfl rfl rfl rfl rfl
  refine ⟨_, _, _, (cell_add r13.blk 0 6).trans rfl, _, (cell_add r13.blk 0 8).trans rfl, ?_⟩
  refine (Tryz.c_fault (g.D.strokes + 1) rfl r13.ps ok.plan0.1).mono ?_
  rintro v h20 ⟨rfl, g20⟩
  have r20 := r13.g g20
  refine ⟨_, rfl, (Tryz.c_fails r20 g.D.kind).mono ?_⟩
  rintro v h23 ⟨rfl, r23, k23⟩
  obtain ⟨hdo, hfail⟩ := hgo h23 r23 ((kk.trans g20.kp).trans k23)
  refine ⟨_, rfl, fun e2 => ?_, fun e2 => ?_⟩
  · have hne2 : failErr g.D.kind ≠ 0 := by simpa using e2
    obtain ⟨f0, f1⟩ := hfail hne2
    have fin : ∀ h5, R (.int .i64 (failErr g.D.kind)) h5 → D_disk_Disk_stroke.J1 R (failErr g.D.kind) h5 := fun h5 hR => by unfold D_disk_Disk_stroke.J1; exact hR
    rcases (by omega : hn = 0 ∨ hn = 1) with h0 | h1'
    · refine ⟨fun j h' m => j = 0 ∧ h' = h23, ⟨0, rfl, rfl⟩, ?_⟩
      rintro j h5 m ⟨rfl, rfl⟩
      unfold D_disk_Disk_stroke.L2
      exact ⟨fun e => by have := dec_t e; omega, fun _ => fin _ (f0 h0)⟩
    · refine ⟨fun j h' m => (j = 0 ∧ h' = h23 ∧ m = 1) ∨ (j = 1 ∧ R (.int .i64 (failErr g.D.kind)) h' ∧ m = 0), ⟨1, .inl ⟨rfl, rfl, rfl⟩⟩, ?_⟩
      rintro j h5 m (⟨rfl, rfl, rfl⟩ | ⟨rfl, hR, rfl⟩)
      · unfold D_disk_Disk_stroke.L2
        refine ⟨fun _ => ?_, fun e => by have := dec_f e; omega⟩
        obtain ⟨a, f, hA', hcf, hcall⟩ := f1 h1'
        refine ⟨a, hA', by omega, by omega, f, hcf, hcall.mono fun _ h3 hR => ⟨0, by omega, .inr ⟨?_, hR, rfl⟩⟩⟩
        exact w64 (by omega) (by omega)
      · unfold D_disk_Disk_stroke.L2
        exact ⟨fun e => by have := dec_t e; omega, fun _ => fin _ hR⟩
  · have h0 : failErr g.D.kind = 0 := by simpa using e2
    exact hdo h0
end Go.Proofs
set_option linter.unusedVariables false
/-! DC: what a disk's calls do, plain. -/
namespace Go.Disk
open Go Go.V Go.Proofs
def DiskA.setF (D : DiskA) (i : Int) (f : FileA) : DiskA := { D with files := D.files.map fun p => if p.1 = i then (p.1, f) else p }
def DiskA.fileD (D : DiskA) (i : Int) : FileA := (D.file i).getD ⟨[], []⟩
def DiskA.thereE (D : DiskA) (s : ByteArray) : Int := if namedA s = false then 5 else if (D.now.get (bl s)).isNone then 6 else 0
def DiskA.idOf (D : DiskA) (s : ByteArray) : Int := (D.now.get (bl s)).getD 0
def DiskA.layA (D : DiskA) (i : Int) (l : List UInt8) : Int × DiskA :=
  if l = [] then (0, D)
  else if (D.held : Int) + max 0 (((D.fileD i).lens.1 : Int) + l.length - (D.fileD i).lens.2) > D.room then (8, D)
  else (0, D.setF i ⟨(D.fileD i).safe, (D.fileD i).pend ++ [.app l]⟩)
def DiskA.appendA (D : DiskA) (s : ByteArray) (l : List UInt8) : Int × DiskA :=
  if D.off then (11, D)
  else if D.thereE s ≠ 0 then (D.thereE s, D)
  else if failErr D.kind ≠ 0 then (failErr D.kind, if D.kind = 5 then (D.struck.layA (D.idOf s) (l.take (l.length / 2))).2 else D.struck)
  else D.struck.layA (D.idOf s) l
def DiskA.truncA (D : DiskA) (s : ByteArray) (size : Int) : Int × DiskA :=
  if D.off then (11, D)
  else if D.thereE s ≠ 0 then (D.thereE s, D)
  else if size < 0 ∨ size > (D.fileD (D.idOf s)).lens.1 then (1, D)
  else if failErr D.kind ≠ 0 then (failErr D.kind, D.struck)
  else if size ≠ (D.fileD (D.idOf s)).lens.1 then (0, D.struck.setF (D.idOf s) ⟨(D.fileD (D.idOf s)).safe, (D.fileD (D.idOf s)).pend ++ [.cut size.toNat]⟩)
  else (0, D.struck)
def DiskA.syncA (D : DiskA) (s : ByteArray) : Int × DiskA :=
  if D.off then (11, D)
  else if D.thereE s ≠ 0 then (D.thereE s, D)
  else if failErr D.kind ≠ 0 then (failErr D.kind, if D.kind = 4 then D.struck.setF (D.idOf s) ⟨(D.fileD (D.idOf s)).safe, []⟩ else D.struck)
  else (0, D.struck.setF (D.idOf s) ⟨(D.fileD (D.idOf s)).bytes, []⟩)
def DiskA.settleA (D : DiskA) (m : Nm) : DiskA := { D with safe := m, turns := [], files := D.files.filter fun p => (livesA m []).contains p.1 }
def DiskA.syncNamesA (D : DiskA) : Int × DiskA :=
  if D.off then (11, D)
  else if failErr D.kind ≠ 0 then (failErr D.kind, D.struck)
  else (0, D.struck.settleA D.now)
def DiskA.addA (D : DiskA) (l : List UInt8) : DiskA := { D with made := D.made + 1, files := D.files ++ [(D.made + 1, ⟨l, []⟩)] }
def DiskA.createA (D : DiskA) (s : ByteArray) : Int × DiskA :=
  if D.off then (11, D)
  else if D.thereE s = 0 then (7, D)
  else if D.thereE s ≠ 6 then (D.thereE s, D)
  else if failErr D.kind ≠ 0 then (failErr D.kind, D.struck)
  else if (D.lives.length : Int) + 1 > D.most then (9, D.struck)
  else (0, { D.struck.addA [] with turns := D.turns ++ [⟨ByteArray.empty, s, D.made + 1⟩] })
def DiskA.kindR (D : DiskA) : Int := faultA D.planR (D.reads + 1)
def DiskA.readA (D : DiskA) (s : ByteArray) : (List UInt8 × Int) × DiskA :=
  if D.off then (([], 11), D)
  else if D.thereE s ≠ 0 then (([], D.thereE s), D)
  else if failErr D.kindR ≠ 0 then (([], failErr D.kindR), DiskA.failed { D with reads := D.reads + 1 } D.kindR)
  else (((D.fileD (D.idOf s)).bytes, 0), { D with reads := D.reads + 1 })
def DiskA.planA (D : DiskA) (a b : List (Int × Int)) : DiskA := { D with planS := a, planR := b, strokes := 0, reads := 0 }
def DiskA.listA (D : DiskA) : List (List UInt8) × Int := if D.off then ([], 11) else (D.now.map (·.1), 0)
def DiskA.filesA (D : DiskA) : List (List UInt8 × List UInt8) := D.now.map fun p => (p.1, (D.fileD p.2).bytes)
def DiskA.safeA (D : DiskA) : List (List UInt8 × List UInt8) := D.safe.map fun p => (p.1, (D.fileD p.2).safe)
def DiskA.pendingA (D : DiskA) : Int × List Int := (D.turns.length, D.lives.map fun i => ((D.fileD i).pend.length : Int))
def DiskA.heldA (D : DiskA) : Int × Int := (D.held, D.lives.length)
def newA (room most : Int) : DiskA := ⟨room, most, 0, [], [], [], [], [], 0, 0, false⟩

end Go.Disk
set_option linter.unusedVariables false
set_option linter.unusedSimpArgs false
namespace Go.Proofs
open Go Go.V Go.Disk
/-! ### a file that turns -/
def flSet (fl : List (Int × FG)) (i : Int) (F' : FG) : List (Int × FG) := fl.map fun p => if p.1 = i then (p.1, F') else p
theorem flSet_mem {fl : List (Int × FG)} {i : Int} {F' : FG} {p : Int × FG} (h : p ∈ flSet fl i F') : (p.2 = F' ∧ p.1 = i) ∨ (p ∈ fl ∧ p.1 ≠ i) := by
  obtain ⟨q, hq, rfl⟩ := List.mem_map.1 h
  by_cases e : q.1 = i
  · rw [if_pos e]; exact .inl ⟨rfl, e⟩
  · rw [if_neg e]; exact .inr ⟨hq, e⟩
theorem flSet_im {fl : List (Int × FG)} {i : Int} {F F' : FG} (hu : ∀ p ∈ fl, p.1 = i → p.2 = F) (hp : F'.p = F.p) : flIm (flSet fl i F') = flIm fl := by
  unfold flIm flSet
  rw [List.map_map]
  refine List.map_congr_left fun p hpm => ?_
  simp only [Function.comp]
  by_cases e : p.1 = i
  · rw [if_pos e, hu p hpm e, hp]
  · rw [if_neg e]
theorem fl_uniq {fl : List (Int × FG)} (hp : fl.Pairwise fun p q => p.1 < q.1) {i : Int} {F : FG} (h : (i, F) ∈ fl) : ∀ p ∈ fl, p.1 = i → p.2 = F := by
  induction fl with
  | nil => cases h
  | cons q l ih =>
    have hq := List.pairwise_cons.1 hp
    intro p hpm e
    rcases List.mem_cons.1 h with h3 | h2
    · rcases List.mem_cons.1 hpm with h5 | h4
      · rw [h5, ← h3]
      · have := hq.1 p h4; rw [← h3] at this; simp at this; omega
    · rcases List.mem_cons.1 hpm with h5 | h4
      · have := hq.1 _ h2; rw [← h5] at this; simp at this; omega
      · exact ih hq.2 h2 p h4 e
theorem Tryz.DR.file2 {h h' : Hp} {g : DG} {N : Nat} {i : Int} {F F' : FG} (r : Tryz.DR h g) (ok : g.D.ok N) (hF : (i, F) ∈ g.fl) (hp : F'.p = F.p) (hA : ∀ b, inA F'.pA b → inA F.pA b ∨ h.size ≤ b)
    (rF : Tryz.FR h' F') (k : Kp (fun b => b = F.p ∨ inA F.pA b) h h') :
    Tryz.DR h' { g with fl := flSet g.fl i F', D := g.D.setF i F'.f } ∧ (∀ b, DB { g with fl := flSet g.fl i F', D := g.D.setF i F'.f } b → DB g b ∨ Tryz.FB F' b) ∧ Kp (DB g) h h' := by
  have rF0 := r.fr _ hF
  have hu := fl_uniq (fl_asc r ok) hF
  have notag : ∀ {b : Nat} {c : Array Value} {e : TypeId} {fr : Nat × Nat}, h[b]? = some (.cells c e fr) → e ≠ 111 → e ≠ 150 → ¬ (b = F.p ∨ inA F.pA b) := by
    rintro b c e fr hb h1 h2 (rfl | hx)
    · have := rF0.blk
      simp only at this
      rw [this] at hb
      cases hb
      exact h1 rfl
    · obtain ⟨c', fr', hx'⟩ := rF0.pend.tag b hx
      rw [hx'] at hb
      cases hb
      exact h2 rfl
  have nomap : ∀ {b : Nat}, isMapB h b → ¬ (b = F.p ∨ inA F.pA b) := by
    rintro b ⟨es, cl, hm⟩ (rfl | hx)
    · have := rF0.blk
      simp only at this
      rw [this] at hm
      cases hm
    · obtain ⟨c', fr', hx'⟩ := rF0.pend.tag b hx
      rw [hx'] at hm
      cases hm
  have kDB : Kp (DB g) h h' := k.mono fun b _ hb => .inr (.inr (.inr (.inr (.inr (.inr ⟨_, hF, hb.elim .inl fun x => .inr (.inr (.inl x))⟩)))))
  refine ⟨⟨?_, ?_, ?_, ?_, ?_, ?_, ?_, ?_, ?_, ?_, ?_, r.two⟩, ?_, kDB⟩
  · exact k.at r.blk (notag r.blk (by decide) (by decide))
  · rcases r.fm with ⟨h1, h2⟩ | ⟨b, h1, o⟩
    · rw [h2] at hF; cases hF
    · refine .inr ⟨b, h1, ?_⟩
      show ImAt true Tryz.prog 3 h' b (flIm (flSet g.fl i F'))
      rw [flSet_im hu hp]
      exact MapOn.kp o k (nomap (MapOn.isMap o))
  · exact r.sm.kp k fun b hb => nomap (r.sm.map b hb)
  · exact r.turns.kp k fun b hb => by obtain ⟨c, fr, e⟩ := r.turns.tag b hb; exact notag e (by decide) (by decide)
  · exact r.ps.kp k fun b hb => by obtain ⟨c, fr, e⟩ := r.psT b hb; exact notag e (by decide) (by decide)
  · exact r.psT.kp k fun b hb => by obtain ⟨c, fr, e⟩ := r.psT b hb; exact notag e (by decide) (by decide)
  · exact r.pr.kp k fun b hb => by obtain ⟨c, fr, e⟩ := r.prT b hb; exact notag e (by decide) (by decide)
  · exact r.prT.kp k fun b hb => by obtain ⟨c, fr, e⟩ := r.prT b hb; exact notag e (by decide) (by decide)
  · intro p hpm
    rcases flSet_mem hpm with ⟨e, _⟩ | ⟨hpf, hne⟩
    · rw [e]; exact rF
    · have rq := r.fr p hpf
      have hfar : p.2.far F ∧ F.far p.2 := by
        have hpw := r.far
        have key : ∀ {l : List (Int × FG)}, l.Pairwise (fun p q => p.2.far q.2) → p ∈ l → (i, F) ∈ l → p.2.far F ∧ F.far p.2 := by
          intro l hl
          induction l with
          | nil => intro h1 _; cases h1
          | cons q l ih =>
            intro h1 h2
            have hq := List.pairwise_cons.1 hl
            have sym : ∀ {a b : FG}, a.far b → b.far a := fun hx => ⟨fun e => hx.1 e.symm, fun k h1 h2 => hx.2 k h2 h1⟩
            rcases List.mem_cons.1 h1 with e1 | h3
            · rcases List.mem_cons.1 h2 with e2 | h4
              · exact absurd (by rw [e1, ← e2]) hne
              · have := hq.1 _ h4; rw [← e1] at this; exact ⟨this, sym this⟩
            · rcases List.mem_cons.1 h2 with e2 | h4
              · have := hq.1 _ h3; rw [← e2] at this; exact ⟨sym this, this⟩
              · exact ih hq.2 h3 h4
        exact key hpw hpf hF
      refine rq.kp k ?_
      rintro b (rfl | hb | hb | ⟨v, hv, hb⟩)
      · rintro (hx | hx)
        · exact hfar.1.1 hx
        · obtain ⟨c, fr, e⟩ := rF0.pend.tag _ hx
          have := rq.blk
          rw [e] at this
          cases this
      · obtain ⟨c, fr, e⟩ := rq.safeT b hb; exact notag e (by decide) (by decide)
      · rintro (rfl | hx)
        · obtain ⟨c, fr, e⟩ := rq.pend.tag _ hb
          have := rF0.blk
          simp only at this
          rw [e] at this
          cases this
        · exact hfar.1.2 b hb hx
      · obtain ⟨c, fr, e⟩ := chg_tag rq hv hb; exact notag e (by decide) (by decide)
  · show (g.D.files.map fun p => if p.1 = i then (p.1, F'.f) else p) = (flSet g.fl i F').map fun p => (p.1, p.2.f)
    rw [r.eq]
    unfold flSet
    rw [List.map_map, List.map_map]
    refine List.map_congr_left fun p _ => ?_
    simp only [Function.comp]
    by_cases e : p.1 = i
    · rw [if_pos e, if_pos e]
    · rw [if_neg e, if_neg e]
  · show (flSet g.fl i F').Pairwise fun p q => p.2.far q.2
    unfold flSet
    rw [List.pairwise_map]
    have hasc := fl_asc r ok
    have hlt : ∀ p ∈ g.fl, ∀ b, inA p.2.pA b → b < h.size := fun p hp b hb => (r.fr p hp).pend.lt b hb
    have hmm : ∀ p ∈ g.fl, p ∈ g.fl := fun _ h => h
    refine ((r.far.and hasc).imp_of_mem fun {p q} hpm hqm hx => ?_)
    obtain ⟨hf, hl⟩ := hx
    by_cases e1 : p.1 = i
    · rw [if_pos e1, if_neg (by omega)]
      have := hu p hpm e1
      refine ⟨by show F'.p ≠ _; rw [hp, ← this]; exact hf.1, fun b hb hb' => ?_⟩
      rcases hA b hb with hx | hx
      · rw [← this] at hx; exact hf.2 b hx hb'
      · have := hlt q hqm b hb'; omega
    · rw [if_neg e1]
      by_cases e2 : q.1 = i
      · rw [if_pos e2]
        have := hu q hqm e2
        refine ⟨by show _ ≠ F'.p; rw [hp, ← this]; exact hf.1, fun b hb hb' => ?_⟩
        rcases hA b hb' with hx | hx
        · rw [← this] at hx; exact hf.2 b hb hx
        · have := hlt p hpm b hb; omega
      · rw [if_neg e2]; exact hf
  · rintro b (hb | hb | hb | hb | hb | hb | ⟨p, hpm, hb⟩)
    · exact .inl (.inl hb)
    · exact .inl (.inr (.inl hb))
    · exact .inl (.inr (.inr (.inl hb)))
    · exact .inl (.inr (.inr (.inr (.inl hb))))
    · exact .inl (.inr (.inr (.inr (.inr (.inl hb)))))
    · exact .inl (.inr (.inr (.inr (.inr (.inr (.inl hb))))))
    · rcases flSet_mem hpm with ⟨e, _⟩ | ⟨hpf, _⟩
      · rw [e] at hb
        exact .inr hb
      · exact .inl (.inr (.inr (.inr (.inr (.inr (.inr ⟨p, hpf, hb⟩))))))
theorem Tryz.DR.file {h h' : Hp} {g : DG} {N : Nat} {i : Int} {F F' : FG} (r : Tryz.DR h g) (ok : g.D.ok N) (hF : (i, F) ∈ g.fl) (hp : F'.p = F.p) (hA : ∀ b, inA F'.pA b → inA F.pA b ∨ h.size ≤ b) (hB : ∀ b, Tryz.FB F' b → Tryz.FB F b ∨ h.size ≤ b)
    (rF : Tryz.FR h' F') (k : Kp (fun b => b = F.p ∨ inA F.pA b) h h') :
    Tryz.DR h' { g with fl := flSet g.fl i F', D := g.D.setF i F'.f } ∧ (∀ b, DB { g with fl := flSet g.fl i F', D := g.D.setF i F'.f } b → DB g b ∨ h.size ≤ b) ∧ Kp (DB g) h h' := by
  obtain ⟨a, b, c⟩ := Tryz.DR.file2 r ok hF hp hA rF k
  refine ⟨a, fun x hx => ?_, c⟩
  rcases b x hx with hy | hy
  · exact .inl hy
  · exact (hB x hy).imp (fun hz => .inr (.inr (.inr (.inr (.inr (.inr ⟨_, hF, hz⟩)))))) id
end Go.Proofs
set_option linter.unusedVariables false
set_option linter.unusedSimpArgs false
namespace Go.Proofs
open Go Go.V Go.Disk
theorem mem_ins {x y : List UInt8 × Int} : ∀ {m : Nm}, y ∈ Nm.ins x m ↔ y = x ∨ y ∈ m
  | [] => by simp [Nm.ins]
  | z :: r => by
    unfold Nm.ins
    split
    · simp
    · simp only [List.mem_cons, mem_ins (m := r)]
      constructor
      · rintro (h | h | h)
        · exact .inr (.inl h)
        · exact .inl h
        · exact .inr (.inr h)
      · rintro (h | h | h)
        · exact .inr (.inl h)
        · exact .inl h
        · exact .inr (.inr h)
theorem mem_put {m : Nm} {k : List UInt8} {v : Int} {y : List UInt8 × Int} : y ∈ m.put k v ↔ y = (k, v) ∨ (y ∈ m ∧ y.1 ≠ k) := by
  unfold Nm.put Nm.del
  rw [mem_ins, List.mem_filter]
  simp
theorem mem_del {m : Nm} {k : List UInt8} {y : List UInt8 × Int} : y ∈ m.del k ↔ y ∈ m ∧ y.1 ≠ k := by
  unfold Nm.del
  rw [List.mem_filter]
  simp
theorem mem_doN {t : TurnA} {m : Nm} {y : List UInt8 × Int} (h : y ∈ t.doN m) : y ∈ m ∨ (t.has = true ∧ y.2 = t.file) := by
  unfold TurnA.doN at h
  split at h
  · rename_i ht
    rcases mem_put.1 h with rfl | ⟨h, _⟩
    · exact .inr ⟨ht, rfl⟩
    · exact .inl (mem_del.1 h).1
  · exact .inl (mem_del.1 h).1
theorem mem_names {ts : List TurnA} : ∀ {m : Nm} {y : List UInt8 × Int}, y ∈ namesA m ts → y.2 ∈ m.map (·.2) ∨ y.2 ∈ turnIds ts := by
  induction ts with
  | nil => intro m y h; exact .inl (List.mem_map.2 ⟨y, h, rfl⟩)
  | cons t ts ih =>
    intro m y h
    simp only [namesA, List.foldl_cons] at h
    rcases ih h with h | h
    · obtain ⟨z, hz, e⟩ := List.mem_map.1 h
      rcases mem_doN hz with hz | ⟨ht, hz⟩
      · exact .inl (List.mem_map.2 ⟨z, hz, e⟩)
      · refine .inr ?_
        unfold turnIds
        rw [List.filter_cons_of_pos ht]
        rw [← e, hz]
        exact List.mem_cons_self
    · refine .inr ?_
      unfold turnIds at h ⊢
      by_cases ht : t.has = true
      · rw [List.filter_cons_of_pos ht]
        exact List.mem_cons_of_mem _ h
      · rw [List.filter_cons_of_neg ht]; exact h
theorem now_lives (D : DiskA) : ∀ p ∈ D.now, p.2 ∈ D.lives := fun p hp => by
  refine mem_ascOf.2 (List.mem_append.2 ?_)
  exact mem_names hp
theorem fileD_eq {h : Hp} {g : DG} {N : Nat} {i : Int} {F : FG} (r : Tryz.DR h g) (ok : g.D.ok N) (hF : (i, F) ∈ g.fl) : g.D.fileD i = F.f ∧ (i, F.f) ∈ g.D.files := by
  have hm : (i, F.f) ∈ g.D.files := by rw [r.eq]; exact List.mem_map.2 ⟨_, hF, rfl⟩
  refine ⟨?_, hm⟩
  unfold DiskA.fileD DiskA.file
  rw [ids_get (asc_files ok) hm]
  rfl

/-- A change more behind a file. -/
theorem Tryz.pend_add {h : Hp} {g : DG} {N : Nat} {i : Int} {F : FG} {c : Chg} {v : Value} {bx : Nat} (r : Tryz.DR h g) (ok : g.D.ok N) (hN : N ≤ 1073741824) (hF : (i, F) ∈ g.fl) (hx : h[bx]? = some (.cells #[v] 150 (0, 0))) (hc : Tryz.ChgR h v c)
    (hcF : ∀ b, Tryz.chgB v b → ¬ (b = F.p ∨ inA F.pA b)) (h1 : oneC v = true) (hok : c.ok F.f.lens.1) {h0 : Hp} (g0 : Grow h0 h) (hnew : ∀ b, Tryz.chgB v b → h0.size ≤ b)
    {K : Option Addr → Nat → Nat → Hp → Prop}
    (k : ∀ A n c' h5, Kp (inA F.pA) h h5 → Wr h5 ((Addr.mk F.p 0 none).add 1) → (∀ h6, h6 = setc h5 ((Addr.mk F.p 0 none).add 1) (.slice A n c') → Tryz.Goes h0 g (g.D.setF i ⟨F.f.safe, F.f.pend ++ [c]⟩) h6) → K A n c' h5) :
    ∃ ws : List Value, Src h (1 * 1) ws (some ⟨bx, 0, none⟩) ∧ (∀ v ∈ ws, oneC v = true) ∧ (F.pn + 1) * 16 ≤ 140737488355328 ∧ F.pn + 1 ≤ 9223372036854775807 ∧ AppendV 150 .nilIface 1 h F.pA F.pn F.pc 1 ws K := by
  have rF := r.fr _ hF
  have hp : F.f.pend.length ≤ N := ok.pend _ (fileD_eq r ok hF).2
  have hpn : F.pn = F.f.pend.length := rF.pn
  refine app1 (xs := [v]) hx rfl (fun w hw => by rw [List.mem_singleton.1 hw]; exact h1) rF.pend rfl (by omega) (by omega) fun A' c' h5 o k1 e1 => ?_
  have nP : ¬ inA F.pA F.p := rF.pend.tag.ne rF.blk (by decide)
  have b5 := k1.at rF.blk nP
  refine k A' _ c' h5 k1 (wr_add b5 (by simp)) fun h6 e6 => ?_
  have k6 := Kp.setc h5 ((Addr.mk F.p 0 none).add 1) (.slice A' (F.pn + 1) c')
  have b6 := setc_add b5 0 1 (.slice A' (F.pn + 1) c')
  rw [← e6] at k6 b6
  rw [add_block] at k6
  have k16 : Kp (fun b => b = F.p ∨ inA F.pA b) h h6 := (k1.mono fun b _ hb => .inr hb).trans (k6.mono fun b _ hb => .inl hb)
  have nA' : ¬ inA A' F.p := o.tag.ne b5 (by decide)
  let F' : FG := { F with pA := A', pn := F.pn + 1, pc := c', vs := F.vs ++ [v], f := ⟨F.f.safe, F.f.pend ++ [c]⟩ }
  have notag : ∀ {b : Nat} {cc : Array Value} {e : TypeId} {fr : Nat × Nat}, h[b]? = some (.cells cc e fr) → e ≠ 111 → e ≠ 150 → ¬ (b = F.p ∨ inA F.pA b) := by
    rintro b cc e fr hb hh1 hh2 (rfl | hx)
    · have := rF.blk
      simp only at this
      rw [this] at hb
      cases hb
      exact hh1 rfl
    · obtain ⟨cc', fr', hx'⟩ := rF.pend.tag b hx
      rw [hx'] at hb
      cases hb
      exact hh2 rfl
  have rF' : Tryz.FR h6 F' := by
    refine ⟨b6, rF.safe.kp k16 fun b hb => ?_, rF.safeT.kp k16 fun b hb => ?_, o.kp k6 (fun b hb e => nA' (by have : b = F.p := e; rw [← this]; exact hb)), ?_, ?_⟩
    · obtain ⟨cc, fr, e⟩ := rF.safeT b hb; exact notag e (by decide) (by decide)
    · obtain ⟨cc, fr, e⟩ := rF.safeT b hb; exact notag e (by decide) (by decide)
    · refine forall2_append (forall2_imp rF.chg fun w hw d hd => hd.kp k16 fun b hb => ?_) ⟨hc.kp k16 hcF, trivial⟩
      obtain ⟨cc, fr, e⟩ := chg_tag rF hw hb
      exact notag e (by decide) (by decide)
    · show okFrom (F.f.pend ++ [c]) F.f.safe.length
      exact (okFrom_append _ _ _ F.f.safe.length).2 ⟨rF.ok, hok, trivial⟩
  have hA' : ∀ b, inA A' b → inA F.pA b ∨ h.size ≤ b := fun b hb => app_in e1 b hb
  -- the file's new blocks
  have hB' : ∀ b, Tryz.FB F' b → Tryz.FB F b ∨ h0.size ≤ b := by
    rintro b (hb | hb | hb | ⟨w, hw, hb⟩)
    · exact .inl (.inl hb)
    · exact .inl (.inr (.inl hb))
    · exact (hA' b hb).imp (fun hx => .inr (.inr (.inl hx))) fun hx => Nat.le_trans g0.size hx
    · rcases List.mem_append.1 hw with hw | hw
      · exact .inl (.inr (.inr (.inr ⟨w, hw, hb⟩)))
      · rw [List.mem_singleton.1 hw] at hb
        exact .inr (hnew b hb)
  have kk : Kp (DB g) h0 h6 := g0.kp.trans (k16.mono fun b _ hb => .inr (.inr (.inr (.inr (.inr (.inr ⟨_, hF, hb.elim .inl fun x => .inr (.inr (.inl x))⟩))))))
  have hbb : ∀ b, Tryz.FB F' b → Tryz.FB F b ∨ h.size ≤ b ∨ Tryz.chgB v b := by
    rintro b (hb | hb | hb | ⟨w, hw, hb⟩)
    · exact .inl (.inl hb)
    · exact .inl (.inr (.inl hb))
    · exact (hA' b hb).imp (fun hx => .inr (.inr (.inl hx))) .inl
    · rcases List.mem_append.1 hw with hw | hw
      · exact .inl (.inr (.inr (.inr ⟨w, hw, hb⟩)))
      · rw [List.mem_singleton.1 hw] at hb
        exact .inr (.inr hb)
  obtain ⟨rr, bb, _⟩ := Tryz.DR.file2 r ok hF (F' := F') rfl hA' rF' k16
  refine Tryz.Goes.of (g' := { g with fl := flSet g.fl i F', D := g.D.setF i F'.f }) rfl rfl rr (fun b hb => ?_) kk
  rcases bb b hb with hx | hx
  · exact .inl hx
  · rcases hB' b hx with hy | hy
    · exact .inl (.inr (.inr (.inr (.inr (.inr (.inr ⟨_, hF, hy⟩))))))
    · exact .inr hy
end Go.Proofs
set_option linter.unusedVariables false
set_option linter.unusedSimpArgs false
namespace Go.Proofs
open Go Go.V Go.Disk
/-- 'lay' in Append. -/
theorem Tryz.c_lay {h : Hp} {g : DG} {N : Nat} {i : Int} {F : FG} {A : Option Addr} {n c : Nat} {l : List UInt8} {c0 c1 : Addr} (r : Tryz.DR h g) (ok : g.D.ok N) (hN : N ≤ 1073741824) (hF : (i, F) ∈ g.fl) (hs : BS h A n l) (hn : n ≤ 1099511627776)
    (h0 : cell h c0 = some (.pointer (some ⟨F.p, 0, none⟩))) (h1 : cell h c1 = some (.pointer (some ⟨g.d, 0, none⟩))) (n0 : ¬ DB g c0.block) (n1 : ¬ DB g c1.block) :
    CH Tryz.prog 45 #[.slice A n c, .pointer (some c0), .pointer (some c1)] h fun v h' => v = .int .i64 (g.D.layA i l).1 ∧ Tryz.Goes h g (g.D.layA i l).2 h' := by
  apply D_disk_Disk_Append_1.sound
  unfold D_disk_Disk_Append_1
  obtain ⟨hfd, hfm⟩ := fileD_eq r ok hF
  have hnl := hs.1
  have hlen : F.f.lens.2 ≤ 4194304 := ok.lens hfm
  have hpd : F.f.pend.length ≤ N := ok.pend _ hfm
  refine ⟨fun e => ?_, fun e => ?_⟩
  · have : l = [] := by
      have : (n : Int) = 0 := by simpa using e
      exact List.length_eq_zero_iff.1 (by omega)
    unfold DiskA.layA
    rw [if_pos this]
    exact ⟨rfl, Tryz.Goes.still r Kp.rfl'⟩
  have hl0 : l ≠ [] := fun e' => by subst e'; simp at hnl; subst hnl; simp at e
  have nA : ∀ {k : Hp} {W : Nat → Prop}, True := fun {_ _} => trivial
  refine ⟨_, h0, (Tryz.c_lengths (r.fr _ hF) (by show F.f.lens.2 ≤ _; omega) (by show F.f.pend.length ≤ _; omega)).mono ?_⟩
  rintro v h5 ⟨rfl, g5⟩
  have r5 := r.g g5
  refine ⟨_, _, rfl, _, g5.cell h1 id, _, g5.cell h1 id, _, g5.cell h1 id, _, rfl, _, (cell_of r5.blk 0).trans rfl, ?_⟩
  refine (Tryz.c_lives r5 ok hN).mono ?_
  rintro v h18 ⟨LA, Ln, Lc, rfl, hLn, oL, g18, fL⟩
  have r18 := r5.g g18
  refine ⟨_, _, _, rfl, g18.cell (g5.cell h1 id) id, g18.cell (g5.cell h1 id) id, (cell_of r18.blk 0).trans rfl, ?_⟩
  have hll : g.D.lives.length ≤ 4294967296 := by
    have h1 := ok.ids
    have h2 := asc_files ok
    have h3 := ok.made1
    have : ∀ (k : List (Int × FileA)) (m : Int), k.Pairwise (fun p q => p.1 < q.1) → (∀ p ∈ k, m < p.1 ∧ p.1 ≤ g.D.made) → (k.length : Int) ≤ max 0 (g.D.made - m) := by
      intro k
      induction k with
      | nil => intro m _ _; simp; omega
      | cons q k ih =>
        intro m hp hr
        have hq := List.pairwise_cons.1 hp
        have := ih q.1 hq.2 fun p hp' => ⟨hq.1 p hp', (hr p (List.mem_cons_of_mem _ hp')).2⟩
        have hr0 := hr q List.mem_cons_self
        simp only [List.length_cons]
        omega
    have := this g.D.files 0 h2 fun p hp => by have := ok.rng p hp; omega
    have hl : g.D.lives.length = g.D.files.length := by rw [← h1]; simp
    omega
  have hL : IS h18 LA Ln g.D.lives := ⟨hLn, by have := oL.src; rw [Nat.mul_one] at this; exact this⟩
  refine (Tryz.c_held r18 ok hN hL (fun i hi => hi) (by omega)).mono ?_
  rintro v h24 ⟨rfl, g24⟩
  rw [heldOf_lives ok]
  have r24 := r18.g g24
  have g024 := (g5.trans g18).trans g24
  have hheld := ok.held
  have hr1 := ok.room1
  have hlle := F.f.lens_le
  have hw : IntKind.i64.wrap ((g.D.held : Int) + (optMx 0 (IntKind.i64.wrap ((IntKind.i64.wrap ((F.f.lens.1 : Int) + ((n : Nat) : Int))) - (F.f.lens.2 : Int))))) = (g.D.held : Int) + max 0 ((F.f.lens.1 : Int) + l.length - F.f.lens.2) := by
    rw [w64 (x := (F.f.lens.1 : Int) + ((n : Nat) : Int)) (by omega) (by omega)]
    rw [w64 (x := (F.f.lens.1 : Int) + ((n : Nat) : Int) - (F.f.lens.2 : Int)) (by omega) (by omega)]
    have : optMx 0 ((F.f.lens.1 : Int) + ((n : Nat) : Int) - (F.f.lens.2 : Int)) = max 0 ((F.f.lens.1 : Int) + l.length - F.f.lens.2) := by
      unfold optMx
      split <;> omega
    rw [this, w64 (by omega) (by omega)]
  refine ⟨_, rfl, g024.cell h1 id, (cell_of r24.blk 0).trans rfl, ?_⟩
  rw [hw]
  unfold DiskA.layA
  rw [if_neg hl0, hfd]
  refine ⟨fun e1 => ?_, fun e1 => ?_⟩
  · rw [if_pos (dec_t e1)]
    exact ⟨rfl, Tryz.Goes.still r g024⟩
  · rw [if_neg (dec_f e1)]
    have rF24 := r24.fr _ hF
    have hs24 := hs.g g024
    refine ⟨_, g024.cell h0 id, _, g024.cell h0 id, _, rfl, _, _, _, (cell_add rF24.blk 0 1).trans rfl, ?_⟩
    refine (Tryz.c_clone_byte hs24.2 (one_bv l) (by omega)).mono ?_
    rintro v h38 ⟨CA, Cc, rfl, oC, g38, fC⟩
    have g038 := g024.trans g38
    have r38 := r24.g g38
    refine ⟨_, _, _, rfl, g038.cell h0 id, g038.cell h0 id, (cell_add (r38.fr _ hF).blk 0 1).trans rfl, fun b44 h43 eb eh => ?_⟩
    obtain ⟨f43, g43, s43, _⟩ := boxed eb eh
    have g043 := g038.trans g43
    have r43 := r38.g g43
    refine ⟨g043.cell h0 id, g043.cell h0 id, (cell_add (r43.fr _ hF).blk 0 1).trans rfl, ?_⟩
    have oC43 := oC.kp g43 fun _ _ => id
    have hlt := Tryz.DB_lt r
    refine Tryz.pend_add (c := .app l) r43 ok hN hF f43 ⟨CA, n, Cc, rfl, ⟨hnl, by have := oC43.src; rw [Nat.mul_one] at this; exact this⟩, oC43.tag⟩ ?_ rfl trivial g043 ?_ ?_
    · rintro b ⟨A', n', c', e', hb⟩ hx
      cases e'
      have h1 := fC b hb
      have h2 : b < h.size := hlt b (.inr (.inr (.inr (.inr (.inr (.inr ⟨_, hF, hx.elim .inl fun x => .inr (.inr (.inl x))⟩))))))
      have := g024.size
      omega
    · rintro b ⟨A', n', c', e', hb⟩
      cases e'
      have h1 := fC b hb
      have := g024.size
      omega
    · intro A' n' c' h56 k56 hw56 hgo
      have nc0 : ¬ inA F.pA c0.block := fun hx => n0 (.inr (.inr (.inr (.inr (.inr (.inr ⟨_, hF, .inr (.inr (.inl hx))⟩))))))
      exact ⟨k56.cell (g043.cell h0 id) nc0, _, rfl, hw56, fun h60 e60 => ⟨rfl, hgo h60 e60⟩⟩

theorem there_spec (D : DiskA) (s : ByteArray) : (namedA s = false → D.thereE s = 5) ∧ (namedA s = true → D.now.get (bl s) = none → D.thereE s = 6) ∧ (∀ i, namedA s = true → D.now.get (bl s) = some i → D.thereE s = 0 ∧ D.idOf s = i) := by
  refine ⟨fun h => by unfold DiskA.thereE; rw [if_pos h], fun h1 h2 => ?_, fun i h1 h2 => ?_⟩
  · unfold DiskA.thereE; rw [if_neg (by rw [h1]; decide), if_pos (by rw [h2]; rfl)]
  · unfold DiskA.thereE DiskA.idOf; rw [if_neg (by rw [h1]; decide), if_neg (by rw [h2]; simp), h2]; exact ⟨rfl, rfl⟩
/-- 'there', in one word. -/
theorem Tryz.c_there' {h : Hp} {g : DG} {N : Nat} (r : Tryz.DR h g) (ok : g.D.ok N) (hN : N ≤ 1073741824) (s : ByteArray) :
    CH Tryz.prog 41 #[.pointer (some ⟨g.d, 0, none⟩), .string s] h fun v h' => Grow h h' ∧ ∃ p, v = .tuple #[.pointer p, .int .i64 (g.D.thereE s)] ∧ (g.D.thereE s = 0 → ∃ F, (g.D.idOf s, F) ∈ g.fl ∧ p = some ⟨F.p, 0, none⟩) := by
  refine (Tryz.c_there r ok hN s (now_lives g.D)).mono ?_
  obtain ⟨t1, t2, t3⟩ := there_spec g.D s
  rintro v h' ⟨gg, ⟨h1, rfl⟩ | ⟨h1, h2, rfl⟩ | ⟨i, F, h1, h2, h3, rfl⟩⟩
  · rw [t1 h1]; exact ⟨gg, none, rfl, fun e => by cases e⟩
  · rw [t2 h1 h2]; exact ⟨gg, none, rfl, fun e => by cases e⟩
  · obtain ⟨e1, e2⟩ := t3 i h1 h2
    rw [e1, e2]; exact ⟨gg, _, rfl, fun _ => ⟨F, h3, rfl⟩⟩

theorem ok_struck {D : DiskA} {N : Nat} (ok : D.ok N) : D.struck.ok (N + 1) := by
  have h1 := ok.cnt0
  have h2 := ok.cnt1
  have h3 := ok.made1
  have h4 := ok.names
  exact ⟨ok.room0, ok.room1, ok.most0, ok.most1, ok.made0, by show D.made ≤ _; omega, ok.ids, ok.rng, ok.held, ok.fok, fun p hp => Nat.le_trans (ok.pend p hp) (by omega), by show D.safe.length + D.turns.length ≤ _; omega, ok.short, ok.safeN,
    ⟨by show 0 ≤ D.strokes + 1; omega, by show D.strokes + 1 ≤ _; omega⟩, ⟨h2.1, by show D.reads ≤ _; omega⟩, ok.plan0⟩
end Go.Proofs
set_option linter.unusedVariables false
set_option linter.unusedSimpArgs false
namespace Go.Proofs
open Go Go.V Go.Disk
/-- What a call that turns a disk answers. -/
def Tryz.Did (h : Hp) (g : DG) (x : Int × DiskA) (v : Value) (h' : Hp) : Prop := v = .int .i64 x.1 ∧ Tryz.Goes h g x.2 h'
theorem cell1 {h : Hp} {b : Nat} {v : Value} {e : TypeId} {fr : Nat × Nat} (hb : h[b]? = some (.cells #[v] e fr)) : cell h ⟨b, 0, none⟩ = some v := (cell_of hb 0).trans rfl
theorem set1 {h h' : Hp} {b : Nat} {v w : Value} {e : TypeId} {fr : Nat × Nat} (hb : h[b]? = some (.cells #[v] e fr)) (e' : h' = setc h ⟨b, 0, none⟩ w) : h'[b]? = some (.cells #[w] e fr) ∧ Kp (· = b) h h' := by
  subst e'
  exact ⟨setc_at hb 0 w, Kp.setc h ⟨b, 0, none⟩ w⟩
/-- A store into something new. -/
theorem Kp.new {h h1 h2 : Hp} {b : Nat} (g : Grow h h1) (k : Kp (· = b) h1 h2) (hb : h.size ≤ b) : Grow h h2 := g.trans' k fun q hq e => by have : q = b := e; omega
theorem take_map_bv {h : Hp} {A : Option Addr} {n : Nat} {l : List UInt8} (hs : BS h A n l) (k : Nat) (hk : k ≤ n) : BS h A k (l.take k) := by
  obtain ⟨h1, h2⟩ := hs
  refine ⟨by rw [List.length_take]; omega, ?_⟩
  have := h2.take hk
  rwa [← List.map_take] at this
theorem Tryz.c_Append {h : Hp} {g : DG} {N : Nat} {A : Option Addr} {n c : Nat} {l : List UInt8} (r : Tryz.DR h g) (ok : g.D.ok N) (hN : N < 1073741824) (s : ByteArray) (hs : BS h A n l) (hn : n ≤ 1099511627776) (hc : n ≤ c) :
    CH Tryz.prog 12 #[.pointer (some ⟨g.d, 0, none⟩), .string s, .slice A n c] h (Tryz.Did h g (g.D.appendA s l)) := by
  apply D_disk_Disk_Append.sound
  unfold D_disk_Disk_Append
  intro b2 h1 eb2 eh1 b4 h3 eb4 eh3 b6 h5 eb6 eh5 b8 h7 eb8 eh7 b10 h9 eb10 eh9
  obtain ⟨f2, g1, s2, _⟩ := boxed eb2 eh1
  obtain ⟨f4, g3, s4, _⟩ := boxed eb4 eh3
  obtain ⟨f6, g5, s6, _⟩ := boxed eb6 eh5
  obtain ⟨f8, g7, s8, _⟩ := boxed eb8 eh7
  obtain ⟨f10, g9, s10, _⟩ := boxed eb10 eh9
  refine ⟨wr_of f10 (by simp), fun h11 e11 => ?_⟩
  obtain ⟨f10', k11⟩ := set1 f10 e11
  have z1 := g1.size
  have z3 := g3.size
  have z5 := g5.size
  have z7 := g7.size
  have q8 := k11.at (g9.g f8) (by show ¬ b8 = b10; have := lt_of_some f8; omega)
  have q6 := k11.at (g9.g (g7.g f6)) (by show ¬ b6 = b10; have := lt_of_some f6; omega)
  have q4 := k11.at (g9.g (g7.g (g5.g f4))) (by show ¬ b4 = b10; have := lt_of_some f4; omega)
  have q2 := k11.at (g9.g (g7.g (g5.g (g3.g f2)))) (by show ¬ b2 = b10; have := lt_of_some f2; omega)
  have g011 : Grow h h11 := Kp.new ((((g1.trans g3).trans g5).trans g7).trans g9) k11 (by omega)
  refine ⟨_, cell1 q2, fun b16 h15 eb16 eh15 => ?_⟩
  obtain ⟨f16, g15, s16, _⟩ := boxed eb16 eh15
  have p2 := g15.g q2
  have p4 := g15.g q4
  have p6 := g15.g q6
  have p8 := g15.g q8
  have p10 := g15.g f10'
  have g015 := g011.trans g15
  have r15 := r.g g015
  have zz := g011.size
  have okS := ok_struck ok
  have main : CH Tryz.prog 39 #[.pointer (some ⟨g.d, 0, none⟩), .func (.func 49) #[] #[.pointer (some (Addr.mk b2 0 none)), .pointer (some (Addr.mk b4 0 none)), .pointer (some (Addr.mk b8 0 none))], .func (.func 50) #[] #[.pointer (some (Addr.mk b10 0 none)), .pointer (some (Addr.mk b6 0 none))], .slice (some (Addr.mk b16 0 none)) 1 1] h15
      (Tryz.Did h g (g.D.appendA s l)) := by
    refine Tryz.c_stroke r15 ok (by omega) (Nat.le_refl _) (fun e => ?_) fun e => ?_
    · unfold DiskA.appendA Tryz.Did
      rw [if_pos e]
      exact ⟨rfl, Tryz.Goes.still r g015⟩
    refine ⟨49, Tryz.f49, _, [.pointer (some (Addr.mk b2 0 none)), .pointer (some (Addr.mk b4 0 none)), .pointer (some (Addr.mk b8 0 none))], rfl, Tryz.func49, rfl, Tryz.nn49, ?_⟩
    apply D_disk_Disk_Append_2.sound
    unfold D_disk_Disk_Append_2
    refine ⟨_, cell1 p2, _, cell1 p4, (Tryz.c_there' r15 ok (by omega) s).mono ?_⟩
    rintro v h6 ⟨g6, p, rfl, hp⟩
    refine ⟨_, _, rfl, wr_of (g6.g p8) (by simp), fun h8' e8 => ?_⟩
    obtain ⟨f8', k8⟩ := set1 (g6.g p8) e8
    have g08 : Grow h h8' := Kp.new (g015.trans g6) k8 (by omega)
    have r8 : Tryz.DR h8' g := r.g g08
    have hb8 : h.size ≤ b8 := by omega
    refine ⟨_, rfl, fun hne => ?_, fun heq => ?_⟩
    · unfold DiskA.appendA Tryz.Did
      rw [if_neg (by rw [e]; decide), if_pos hne]
      exact ⟨rfl, Tryz.Goes.still r g08⟩
    obtain ⟨F, hF, rfl⟩ := hp heq
    have sb2 : b2 ≠ b8 := by have := lt_of_some f2; omega
    have sb6 : b6 ≠ b8 := by have := lt_of_some f6; omega
    have sb10 : b10 ≠ b8 := by omega
    have sb16 : b16 ≠ b8 := by have := lt_of_some f10'; omega
    have t2 := k8.at (g6.g p2) sb2
    have t6 := k8.at (g6.g p6) sb6
    have t10 := k8.at (g6.g p10) sb10
    have t16 := k8.at (g6.g f16) sb16
    refine ⟨r8, fun h2' r2 k2 => ?_⟩
    have hgd : g.d < h.size := Tryz.DB_lt r _ (.inl rfl)
    have u2 := k2.at t2 (by show ¬ b2 = g.d; omega)
    have u6 := k2.at t6 (by show ¬ b6 = g.d; omega)
    have u8 := k2.at f8' (by show ¬ b8 = g.d; omega)
    have u10 := k2.at t10 (by show ¬ b10 = g.d; omega)
    have u16 := k2.at t16 (by show ¬ b16 = g.d; omega)
    have kDB : Kp (DB g) h h2' := g08.kp.trans (k2.mono fun b _ hb => .inl hb)
    have hs2 : BS h2' A n l → True := fun _ => trivial
    have lt := Tryz.DB_lt r
    have notDB : ∀ b, h.size ≤ b → ¬ DB { g with D := g.D.struck } b := fun b hb hx => by have := lt b hx; omega
    have lay : ∀ (k : Nat) (lk : List UInt8), BS h2' A k lk → k ≤ 1099511627776 → CHV Tryz.prog (.func (.func 45) #[] #[.pointer (some (Addr.mk b8 0 none)), .pointer (some (Addr.mk b2 0 none))]) [.slice A k c] h2' fun v h' => ∃ e, v = .int .i64 e ∧ e = (g.D.struck.layA (g.D.idOf s) lk).1 ∧ Tryz.Goes h g (g.D.struck.layA (g.D.idOf s) lk).2 h' := by
      intro k lk hk hkb
      refine ⟨45, Tryz.f45, _, [.pointer (some (Addr.mk b8 0 none)), .pointer (some (Addr.mk b2 0 none))], rfl, Tryz.func45, rfl, Tryz.nn45, ?_⟩
      refine (Tryz.c_lay (g := { g with D := g.D.struck }) (N := N + 1) r2 okS (by omega) hF hk hkb (cell1 u8) (cell1 u2) (notDB _ (by show h.size ≤ b8; omega)) (notDB _ (by show h.size ≤ b2; omega))).mono ?_
      rintro v h' ⟨rfl, hg⟩
      exact ⟨_, rfl, rfl, Tryz.Goes.trans (g1 := { g with D := g.D.struck }) rfl (fun b hb => .inl hb) kDB hg⟩
    have hs8 := hs.g g08
    have hsk : BS h2' A n l := by
      refine ⟨hs8.1, ?_⟩
      cases A with
      | none => exact hs8.2
      | some a =>
        refine ⟨hs8.2.1, fun i v hv => ?_⟩
        have hcell := hs8.2.2 i v hv
        -- the disk's own block holds no bytes
        by_cases e' : (a.add i).block = g.d
        · exfalso
          have hb := r8.blk
          simp only [DG.cells] at hb
          obtain ⟨x, _, hx⟩ : ∃ x, x ∈ l ∧ v = bv x := by
            have := List.mem_of_getElem? hv
            obtain ⟨x, hx, rfl⟩ := List.mem_map.1 this
            exact ⟨x, hx, rfl⟩
          subst hx
          unfold cell at hcell
          rw [e', hb] at hcell
          simp only at hcell
          split at hcell
          · cases hcell
          · have := List.mem_of_getElem? (l := [_, _, _, _, _, _, _, _, _, _, _]) (by simpa using hcell)
            simp [bv] at this
        · exact k2.cell hcell e'
    refine ⟨fun hz => ?_, fun hz => ⟨(fun e => by cases e), fun _ => ?_⟩⟩
    · refine ⟨50, Tryz.f50, _, [.pointer (some (Addr.mk b10 0 none)), .pointer (some (Addr.mk b6 0 none))], rfl, Tryz.func50, rfl, Tryz.nn50, ?_⟩
      apply D_disk_Disk_Append_3.sound
      unfold D_disk_Disk_Append_3
      refine ⟨_, cell1 u10, _, _, _, cell1 u6, (lay n l hsk hn).mono ?_⟩
      rintro v h' ⟨e1, rfl, rfl, hg⟩
      refine ⟨_, rfl, _, rfl, ?_⟩
      unfold DiskA.appendA Tryz.Did
      rw [if_neg (by rw [e]; decide), if_neg (by rw [heq]; simp), if_neg (by rw [hz]; simp)]
      exact ⟨rfl, hg⟩
    · refine ⟨_, _, rfl, cell1 u16, 51, Tryz.f51, _, [.pointer (some (Addr.mk b10 0 none)), .pointer (some (Addr.mk b6 0 none))], rfl, Tryz.func51, rfl, Tryz.nn51, ?_⟩
      apply D_disk_Disk_Append_4.sound
      unfold D_disk_Disk_Append_4
      have he2 : IntKind.i64.wrap (Int.tdiv ((n : Nat) : Int) 2) = ((n / 2 : Nat) : Int) := by
        rw [Int.tdiv_eq_ediv_of_nonneg (by omega), w64 (by omega) (by omega)]
        omega
      refine ⟨fun ek => ?_, fun ek => ?_⟩
      · have hk5 : g.D.kind = 5 := by simpa using ek
        refine ⟨_, cell1 u10, _, _, _, cell1 u6, _, _, _, cell1 u6, ?_⟩
        rw [he2]
        refine ⟨by omega, by omega, ?_⟩
        have e3 : Int.toNat ((n / 2 : Nat) : Int) = n / 2 := by omega
        rw [e3]
        refine (lay (n / 2) (l.take (n / 2)) (take_map_bv hsk _ (by omega)) (by omega)).mono ?_
        rintro v h' ⟨e1, rfl, rfl, hg⟩
        refine ⟨_, rfl, ?_⟩
        unfold DiskA.appendA Tryz.Did
        rw [if_neg (by rw [e]; decide), if_neg (by rw [heq]; simp), if_pos hz, if_pos hk5]
        refine ⟨rfl, ?_⟩
        rw [← hs.1]
        exact hg
      · have hk5 : g.D.kind ≠ 5 := by simpa using ek
        unfold DiskA.appendA Tryz.Did
        rw [if_neg (by rw [e]; decide), if_neg (by rw [heq]; simp), if_pos hz, if_neg hk5]
        exact ⟨rfl, ⟨{ g with D := g.D.struck }, rfl, rfl, r2, fun b hb => .inl hb, kDB⟩⟩
  refine main.mono ?_
  rintro v h' ⟨rfl, hg⟩
  exact ⟨_, rfl, rfl, hg⟩
end Go.Proofs
set_option linter.unusedVariables false
set_option linter.unusedSimpArgs false
namespace Go.Proofs
open Go Go.V Go.Disk
theorem Tryz.Goes.mid {h h2 : Hp} {g : DG} {D1 D2 : DiskA} {h' : Hp} (k : Kp (DB g) h h2) (y : Tryz.Goes h2 { g with D := D1 } D2 h') : Tryz.Goes h g D2 h' :=
  Tryz.Goes.trans (g1 := { g with D := D1 }) rfl (fun b hb => .inl hb) k y

theorem Tryz.c_Truncate {h : Hp} {g : DG} {N : Nat} (r : Tryz.DR h g) (ok : g.D.ok N) (hN : N < 1073741824) (s : ByteArray) (size : Int) :
    CH Tryz.prog 17 #[.pointer (some ⟨g.d, 0, none⟩), .string s, .int .i64 size] h (Tryz.Did h g (g.D.truncA s size)) := by
  apply D_disk_Disk_Truncate.sound
  unfold D_disk_Disk_Truncate
  intro b2 h1 eb2 eh1 b4 h3 eb4 eh3 b6 h5 eb6 eh5 b8 h7 eb8 eh7 b10 h9 eb10 eh9
  obtain ⟨f2, g1, s2, _⟩ := boxed eb2 eh1
  obtain ⟨f4, g3, s4, _⟩ := boxed eb4 eh3
  obtain ⟨f6, g5, s6, _⟩ := boxed eb6 eh5
  obtain ⟨f8, g7, s8, _⟩ := boxed eb8 eh7
  obtain ⟨f10, g9, s10, _⟩ := boxed eb10 eh9
  refine ⟨wr_of f10 (by simp), fun h11 e11 => ?_⟩
  obtain ⟨p10, k11⟩ := set1 f10 e11
  have z1 := g1.size
  have z3 := g3.size
  have z5 := g5.size
  have z7 := g7.size
  have l2 := lt_of_some f2
  have l4 := lt_of_some f4
  have l6 := lt_of_some f6
  have l8 := lt_of_some f8
  have p8 := k11.at (g9.g f8) (by show ¬ b8 = b10; omega)
  have p6 := k11.at (g9.g (g7.g f6)) (by show ¬ b6 = b10; omega)
  have p4 := k11.at (g9.g (g7.g (g5.g f4))) (by show ¬ b4 = b10; omega)
  have p2 := k11.at (g9.g (g7.g (g5.g (g3.g f2)))) (by show ¬ b2 = b10; omega)
  have g011 : Grow h h11 := Kp.new ((((g1.trans g3).trans g5).trans g7).trans g9) k11 (by omega)
  have r11 := r.g g011
  have okS := ok_struck ok
  refine ⟨_, cell1 p2, ?_⟩
  have main : CH Tryz.prog 39 #[.pointer (some ⟨g.d, 0, none⟩), .func (.func 61) #[] #[.pointer (some (Addr.mk b2 0 none)), .pointer (some (Addr.mk b4 0 none)), .pointer (some (Addr.mk b8 0 none)), .pointer (some (Addr.mk b10 0 none)), .pointer (some (Addr.mk b6 0 none))], .func (.func 62) #[] #[.pointer (some (Addr.mk b6 0 none)), .pointer (some (Addr.mk b10 0 none)), .pointer (some (Addr.mk b8 0 none))], .slice none 0 0] h11
      (Tryz.Did h g (g.D.truncA s size)) := by
    refine Tryz.c_stroke r11 ok (by omega) (by omega) (fun e => ?_) fun e => ?_
    · unfold DiskA.truncA Tryz.Did
      rw [if_pos e]
      exact ⟨rfl, Tryz.Goes.still r g011⟩
    refine ⟨61, Tryz.f61, _, [.pointer (some (Addr.mk b2 0 none)), .pointer (some (Addr.mk b4 0 none)), .pointer (some (Addr.mk b8 0 none)), .pointer (some (Addr.mk b10 0 none)), .pointer (some (Addr.mk b6 0 none))], rfl, Tryz.func61, rfl, Tryz.nn61, ?_⟩
    apply D_disk_Disk_Truncate_1.sound
    unfold D_disk_Disk_Truncate_1
    refine ⟨_, cell1 p2, _, cell1 p4, (Tryz.c_there' r11 ok (by omega) s).mono ?_⟩
    rintro v h6 ⟨g6, p, rfl, hp⟩
    refine ⟨_, _, rfl, wr_of (g6.g p8) (by simp), fun h8' e8 => ?_⟩
    obtain ⟨f8', k8⟩ := set1 (g6.g p8) e8
    have g08 : Grow h h8' := Kp.new (g011.trans g6) k8 (by omega)
    have r8 : Tryz.DR h8' g := r.g g08
    refine ⟨fun hne => ?_, fun heq => ?_⟩
    · have hne' : g.D.thereE s ≠ 0 := by simpa using hne
      refine ⟨_, rfl, fun _ => ?_, fun h0 => absurd h0 hne'⟩
      unfold DiskA.truncA Tryz.Did
      rw [if_neg (by rw [e]; decide), if_pos hne']
      exact ⟨rfl, Tryz.Goes.still r g08⟩
    have heq' : g.D.thereE s = 0 := by simpa using heq
    obtain ⟨F, hF, rfl⟩ := hp heq'
    obtain ⟨hfd, hfm⟩ := fileD_eq r8 ok hF
    have hlen : F.f.lens.2 ≤ 4194304 := ok.lens hfm
    have hpd : F.f.pend.length ≤ N := ok.pend _ hfm
    have t2 := k8.at (g6.g p2) (by show ¬ b2 = b8; omega)
    have t6 := k8.at (g6.g p6) (by show ¬ b6 = b8; omega)
    have t10 := k8.at (g6.g p10) (by show ¬ b10 = b8; omega)
    refine ⟨_, cell1 f8', (Tryz.c_lengths (r8.fr _ hF) (by show F.f.lens.2 ≤ _; omega) (by show F.f.pend.length ≤ _; omega)).mono ?_⟩
    rintro v h14 ⟨rfl, g14⟩
    refine ⟨_, _, rfl, wr_of (g14.g t10) (by simp), fun h16 e16 => ?_⟩
    obtain ⟨f10', k16⟩ := set1 (g14.g t10) e16
    have g016 : Grow h h16 := Kp.new (g08.trans g14) k16 (by omega)
    have r16 := r.g g016
    have u2 := k16.at (g14.g t2) (by show ¬ b2 = b10; omega)
    have u6 := k16.at (g14.g t6) (by show ¬ b6 = b10; omega)
    have u8 := k16.at (g14.g f8') (by show ¬ b8 = b10; omega)
    have hgd : g.d < h.size := Tryz.DB_lt r _ (.inl rfl)
    have lt := Tryz.DB_lt r
    have key : ∀ t : Bool, (t = true ↔ size < 0 ∨ size > (F.f.lens.1 : Int)) → D_disk_Disk_Truncate_1.J1 (fun v h1 => ∃ e, v = .int .i64 e ∧ (e ≠ 0 → Tryz.Did h g (g.D.truncA s size) (.int .i64 e) h1) ∧ (e = 0 → Tryz.DR h1 g ∧
      ∀ h2, Tryz.DR h2 { g with D := g.D.struck } → Kp (· = g.d) h1 h2 →
        (failErr g.D.kind = 0 → CHV Tryz.prog (.func (.func 62) #[] #[.pointer (some (Addr.mk b6 0 none)), .pointer (some (Addr.mk b10 0 none)), .pointer (some (Addr.mk b8 0 none))]) [] h2 fun v h3 => ∃ e, v = .int .i64 e ∧ Tryz.Did h g (g.D.truncA s size) (.int .i64 e) h3) ∧
        (failErr g.D.kind ≠ 0 → (0 = 0 → Tryz.Did h g (g.D.truncA s size) (.int .i64 (failErr g.D.kind)) h2) ∧ (0 = 1 → ∃ a f, (none : Option Addr) = some a ∧ cell h2 a = some f ∧ CHV Tryz.prog f [.int .i64 g.D.kind] h2 fun _ h3 => Tryz.Did h g (g.D.truncA s size) (.int .i64 (failErr g.D.kind)) h3)))) t h16 := by
      intro t ht
      unfold D_disk_Disk_Truncate_1.J1
      refine ⟨fun e1 => ⟨_, rfl, fun _ => ?_, fun h0 => by cases h0⟩, fun e1 => ⟨_, rfl, fun h0 => absurd rfl h0, fun _ => ⟨r16, fun h2' r2 k2 => ?_⟩⟩⟩
      · unfold DiskA.truncA Tryz.Did
        rw [if_neg (by rw [e]; decide), if_neg (by rw [heq']; simp), hfd, if_pos (ht.1 e1)]
        exact ⟨rfl, Tryz.Goes.still r g016⟩
      have hno : ¬ (size < 0 ∨ size > (F.f.lens.1 : Int)) := fun hx => by rw [ht.2 hx] at e1; cases e1
      have kDB : Kp (DB g) h h2' := g016.kp.trans (k2.mono fun b _ hb => .inl hb)
      have w6 := k2.at u6 (by show ¬ b6 = g.d; omega)
      have w8 := k2.at u8 (by show ¬ b8 = g.d; omega)
      have w10 := k2.at f10' (by show ¬ b10 = g.d; omega)
      refine ⟨fun hz => ?_, fun hz => ⟨fun _ => ?_, fun h0 => by cases h0⟩⟩
      · refine ⟨62, Tryz.f62, _, [.pointer (some (Addr.mk b6 0 none)), .pointer (some (Addr.mk b10 0 none)), .pointer (some (Addr.mk b8 0 none))], rfl, Tryz.func62, rfl, Tryz.nn62, ?_⟩
        apply D_disk_Disk_Truncate_2.sound
        unfold D_disk_Disk_Truncate_2
        refine ⟨_, cell1 w6, _, cell1 w10, fun hd => ?_, fun hd => ?_⟩
        · have hd' : size ≠ (F.f.lens.1 : Int) := by simpa using hd
          refine ⟨_, cell1 w8, _, cell1 w8, _, rfl, _, _, _, (cell_add (r2.fr _ hF).blk 0 1).trans rfl, _, cell1 w6, fun b18 h17 eb eh => ?_⟩
          obtain ⟨f17, g17, s17, _⟩ := boxed eb eh
          have r17 := r2.g g17
          refine ⟨g17.cell (cell1 w8) id, g17.cell (cell1 w8) id, (cell_add (r17.fr _ hF).blk 0 1).trans rfl, ?_⟩
          have hcast : ((size.toNat : Nat) : Int) = size := by omega
          refine Tryz.pend_add (g := { g with D := g.D.struck }) (N := N + 1) (c := .cut size.toNat) r17 okS (by omega) hF f17 ?_ ?_ rfl ?_ g17 ?_ ?_
          · show Value.iface 122 (.agg #[.int .i64 size]) = .iface 122 (.agg #[.int .i64 ((size.toNat : Nat) : Int)])
            rw [hcast]
          · rintro b ⟨A', n', c', e', _⟩; cases e'
          · show size.toNat ≤ F.f.lens.1; omega
          · rintro b ⟨A', n', c', e', _⟩; cases e'
          · intro A' n' c' h30 k30 hw30 hgo
            have nb8 : ¬ inA F.pA b8 := fun hx => by have := (r.fr _ hF).pend.lt _ hx; omega
            refine ⟨k30.cell (g17.cell (cell1 w8) id) nb8, _, rfl, hw30, fun h34 e34 => ?_⟩
            unfold D_disk_Disk_Truncate_2.J1
            refine ⟨_, rfl, ?_⟩
            unfold DiskA.truncA Tryz.Did
            rw [if_neg (by rw [e]; decide), if_neg (by rw [heq']; simp), hfd, if_neg hno, if_neg (by rw [hz]; simp), if_pos hd']
            exact ⟨rfl, Tryz.Goes.mid kDB (hgo h34 e34)⟩
        · have hd' : size = (F.f.lens.1 : Int) := by simpa using hd
          unfold D_disk_Disk_Truncate_2.J1
          refine ⟨_, rfl, ?_⟩
          unfold DiskA.truncA Tryz.Did
          rw [if_neg (by rw [e]; decide), if_neg (by rw [heq']; simp), hfd, if_neg hno, if_neg (by rw [hz]; simp), if_neg (fun hx => hx hd')]
          exact ⟨rfl, ⟨{ g with D := g.D.struck }, rfl, rfl, r2, fun b hb => .inl hb, kDB⟩⟩
      · unfold DiskA.truncA Tryz.Did
        rw [if_neg (by rw [e]; decide), if_neg (by rw [heq']; simp), hfd, if_neg hno, if_pos hz]
        exact ⟨rfl, ⟨{ g with D := g.D.struck }, rfl, rfl, r2, fun b hb => .inl hb, kDB⟩⟩
    refine ⟨_, cell1 u6, fun e1 => ?_, fun e1 => ⟨_, cell1 u6, _, cell1 f10', ?_⟩⟩
    · exact key true ⟨fun _ => .inl (dec_t e1), fun _ => rfl⟩
    · refine key _ ⟨fun h => .inr (dec_t h), fun h => ?_⟩
      have := dec_f e1
      have h2 : size > (F.f.lens.1 : Int) := by omega
      simpa using h2
  refine main.mono ?_
  rintro v h' ⟨rfl, hg⟩
  exact ⟨_, rfl, rfl, hg⟩

theorem Tryz.c_Sync {h : Hp} {g : DG} {N : Nat} (r : Tryz.DR h g) (ok : g.D.ok N) (hN : N < 1073741824) (s : ByteArray) :
    CH Tryz.prog 13 #[.pointer (some ⟨g.d, 0, none⟩), .string s] h (Tryz.Did h g (g.D.syncA s)) := by
  apply D_disk_Disk_Sync.sound
  unfold D_disk_Disk_Sync
  intro b2 h1 eb2 eh1 b4 h3 eb4 eh3 b6 h5 eb6 eh5
  obtain ⟨f2, g1, s2, _⟩ := boxed eb2 eh1
  obtain ⟨f4, g3, s4, _⟩ := boxed eb4 eh3
  obtain ⟨f6, g5, s6, _⟩ := boxed eb6 eh5
  refine ⟨_, cell1 (g5.g (g3.g f2)), fun b10 h9 eb10 eh9 => ?_⟩
  obtain ⟨f10, g9, s10, _⟩ := boxed eb10 eh9
  have z1 := g1.size
  have z3 := g3.size
  have z5 := g5.size
  have l2 := lt_of_some f2
  have l4 := lt_of_some f4
  have l6 := lt_of_some f6
  have p2 := g9.g (g5.g (g3.g f2))
  have p4 := g9.g (g5.g f4)
  have p6 := g9.g f6
  have g09 : Grow h h9 := ((g1.trans g3).trans g5).trans g9
  have r9 := r.g g09
  have okS := ok_struck ok
  have hgd : g.d < h.size := Tryz.DB_lt r _ (.inl rfl)
  have main : CH Tryz.prog 39 #[.pointer (some ⟨g.d, 0, none⟩), .func (.func 52) #[] #[.pointer (some (Addr.mk b2 0 none)), .pointer (some (Addr.mk b4 0 none)), .pointer (some (Addr.mk b6 0 none))], .func (.func 53) #[] #[.pointer (some (Addr.mk b6 0 none))], .slice (some (Addr.mk b10 0 none)) 1 1] h9
      (Tryz.Did h g (g.D.syncA s)) := by
    refine Tryz.c_stroke r9 ok (by omega) (Nat.le_refl _) (fun e => ?_) fun e => ?_
    · unfold DiskA.syncA Tryz.Did
      rw [if_pos e]
      exact ⟨rfl, Tryz.Goes.still r g09⟩
    refine ⟨52, Tryz.f52, _, [.pointer (some (Addr.mk b2 0 none)), .pointer (some (Addr.mk b4 0 none)), .pointer (some (Addr.mk b6 0 none))], rfl, Tryz.func52, rfl, Tryz.nn52, ?_⟩
    apply D_disk_Disk_Sync_1.sound
    unfold D_disk_Disk_Sync_1
    refine ⟨_, cell1 p2, _, cell1 p4, (Tryz.c_there' r9 ok (by omega) s).mono ?_⟩
    rintro v h6 ⟨g6, p, rfl, hp⟩
    refine ⟨_, _, rfl, wr_of (g6.g p6) (by simp), fun h8' e8 => ?_⟩
    obtain ⟨f8', k8⟩ := set1 (g6.g p6) e8
    have g08 : Grow h h8' := Kp.new (g09.trans g6) k8 (by omega)
    have r8 : Tryz.DR h8' g := r.g g08
    refine ⟨_, rfl, fun hne => ?_, fun heq => ?_⟩
    · unfold DiskA.syncA Tryz.Did
      rw [if_neg (by rw [e]; decide), if_pos hne]
      exact ⟨rfl, Tryz.Goes.still r g08⟩
    obtain ⟨F, hF, rfl⟩ := hp heq
    obtain ⟨hfd, hfm⟩ := fileD_eq r8 ok hF
    have hlen : F.f.lens.2 ≤ 4194304 := ok.lens hfm
    have hpd : F.f.pend.length ≤ N := ok.pend _ hfm
    have t10 := k8.at (g6.g f10) (by show ¬ b10 = b6; omega)
    refine ⟨r8, fun h2' r2 k2 => ?_⟩
    have u6 := k2.at f8' (by show ¬ b6 = g.d; omega)
    have u10 := k2.at t10 (by show ¬ b10 = g.d; omega)
    have kDB : Kp (DB g) h h2' := g08.kp.trans (k2.mono fun b _ hb => .inl hb)
    have rF2 := r2.fr _ hF
    have lt := Tryz.DB_lt r
    -- a file of these safe bytes and nothing pending
    have fin : ∀ {h3 h4 : Hp} {A : Option Addr} {n c : Nat} {l : List UInt8}, Grow h2' h3 → BS h3 A n l → Tag h3 A 5 → (∀ b, inA A b → h.size ≤ b ∨ inA F.sA b) → h4[F.p]? = some (.cells #[.slice A n c, .slice none 0 0] 111 (0, 0)) → Kp (fun b => b = F.p) h3 h4 →
        Tryz.Goes h g (g.D.struck.setF (g.D.idOf s) ⟨l, []⟩) h4 := by
      intro h3 h4 A n c l g3 hb ht hA hblk k4
      have r3 := r2.g g3
      have rF3 := r3.fr _ hF
      let F' : FG := { F with sA := A, sn := n, sc := c, pA := none, pn := 0, pc := 0, vs := [], f := ⟨l, []⟩ }
      have nF : ∀ b, inA A b → ¬ b = F.p := fun b hb' e' => by subst e'; exact ht.ne rF3.blk (by decide) hb'
      have rF' : Tryz.FR h4 F' := ⟨hblk, hb.kp k4 nF, ht.kp k4 nF, OwnS.nil _ _ _, trivial, trivial⟩
      obtain ⟨rr, bb, kk⟩ := Tryz.DR.file2 (g := { g with D := g.D.struck }) (N := N + 1) r3 okS hF (F' := F') rfl (fun b hb' => (inA_none hb').elim) rF' (k4.mono fun b _ hb' => .inl hb')
      refine Tryz.Goes.of (g' := { g with fl := flSet g.fl (g.D.idOf s) F', D := g.D.struck.setF (g.D.idOf s) F'.f }) rfl rfl rr (fun b hb' => ?_) ((kDB.trans g3.kp).trans kk)
      rcases bb b hb' with hx | hx
      · exact .inl hx
      · rcases hx with hx | hx | hx | ⟨v, hv, _⟩
        · exact .inl (.inr (.inr (.inr (.inr (.inr (.inr ⟨_, hF, .inl hx⟩))))))
        · exact (hA b hx).symm.imp (fun hy => .inr (.inr (.inr (.inr (.inr (.inr ⟨_, hF, .inr (.inl hy)⟩)))))) id
        · exact (inA_none hx).elim
        · cases hv
    refine ⟨fun hz => ?_, fun hz => ⟨(fun e => by cases e), fun _ => ?_⟩⟩
    · refine ⟨53, Tryz.f53, _, [.pointer (some (Addr.mk b6 0 none))], rfl, Tryz.func53, rfl, Tryz.nn53, ?_⟩
      apply D_disk_Disk_Sync_2.sound
      unfold D_disk_Disk_Sync_2
      refine ⟨_, cell1 u6, _, cell1 u6, _, cell1 u6, (Tryz.c_bytes rF2 (by show F.f.pend.length ≤ _; omega) (by show F.f.lens.2 ≤ _; omega)).mono ?_⟩
      rintro v h8 ⟨BA, Bn, Bc, rfl, oB, gB, fB⟩
      have rF8 := rF2.g gB
      refine ⟨_, _, _, rfl, gB.cell (cell1 u6) id, gB.cell (cell1 u6) id, _, rfl, wr_of rF8.blk (by simp), fun h14 e14 => ?_⟩
      have c14 := setc_at rF8.blk 0 (.slice BA Bn Bc)
      have k14 := Kp.setc h8 ⟨F.p, 0, none⟩ (.slice BA Bn Bc)
      rw [← e14] at c14 k14
      have n6 : ¬ b6 = F.p := fun e' => by have := lt F.p (.inr (.inr (.inr (.inr (.inr (.inr ⟨_, hF, .inl rfl⟩)))))); omega
      refine ⟨k14.cell (gB.cell (cell1 u6) id) n6, _, rfl, wr_add c14 (by simp), fun h19 e19 => ?_⟩
      have c19 := setc_add c14 0 1 (.slice none 0 0)
      have k19 := Kp.setc h14 ((Addr.mk F.p 0 none).add 1) (.slice none 0 0)
      rw [← e19] at c19 k19
      rw [add_block] at k19
      refine ⟨_, rfl, ?_⟩
      unfold DiskA.syncA Tryz.Did
      rw [if_neg (by rw [e]; decide), if_neg (by rw [heq]; simp), if_neg (by rw [hz]; simp), hfd]
      refine ⟨rfl, fin gB ⟨by have := oB.1; simp at this; omega, by have := oB.src; rw [Nat.mul_one] at this; exact this⟩ oB.tag (fun b hb => .inl (Nat.le_trans kDB.size (fB b hb))) c19 (k14.trans k19)⟩
    · refine ⟨_, _, rfl, cell1 u10, 55, Tryz.f55, _, [.pointer (some (Addr.mk b6 0 none))], rfl, Tryz.func55, rfl, Tryz.nn55, ?_⟩
      apply D_disk_Disk_Sync_3.sound
      unfold D_disk_Disk_Sync_3
      refine ⟨fun ek => ?_, fun ek => ?_⟩
      · have hk4 : g.D.kind = 4 := by simpa using ek
        refine ⟨_, cell1 u6, _, rfl, wr_add rF2.blk (by simp), fun h6' e6' => ?_⟩
        have c6 := setc_add rF2.blk 0 1 (.slice none 0 0)
        have k6 := Kp.setc h2' ((Addr.mk F.p 0 none).add 1) (.slice none 0 0)
        rw [← e6'] at c6 k6
        rw [add_block] at k6
        unfold DiskA.syncA Tryz.Did
        rw [if_neg (by rw [e]; decide), if_neg (by rw [heq]; simp), if_pos hz, if_pos hk4, hfd]
        exact ⟨rfl, fin Kp.rfl' rF2.safe rF2.safeT (fun b hb => .inr hb) c6 k6⟩
      · have hk4 : g.D.kind ≠ 4 := by simpa using ek
        unfold DiskA.syncA Tryz.Did
        rw [if_neg (by rw [e]; decide), if_neg (by rw [heq]; simp), if_pos hz, if_neg hk4]
        exact ⟨rfl, ⟨{ g with D := g.D.struck }, rfl, rfl, r2, fun b hb => .inl hb, kDB⟩⟩
  refine main.mono ?_
  rintro v h' ⟨rfl, hg⟩
  exact ⟨_, rfl, rfl, hg⟩
end Go.Proofs
set_option linter.unusedVariables false
set_option linter.unusedSimpArgs false
namespace Go.Proofs
open Go Go.V Go.Disk
/-! ### where blocks of a kind do not lie -/
/-- A turn more. -/
theorem Tryz.turn_add {h h0 : Hp} {g g0 : DG} {t : TurnA} {bx : Nat} (r : Tryz.DR h g) (hx : h[bx]? = some (.cells #[.string t.fr, .string t.to, .int .i64 t.file] 107 (0, 0))) (hn : g.D.turns.length ≤ 1073741824)
    (ed : g.d = g0.d) (k0 : Kp (DB g0) h0 h) (b0 : ∀ b, DB g b → DB g0 b ∨ h0.size ≤ b)
    {K : Option Addr → Nat → Nat → Hp → Prop}
    (k : ∀ A n c' h5, Kp (inA g.tA) h h5 → Wr h5 ((Addr.mk g.d 0 none).add 5) → (∀ h6, h6 = setc h5 ((Addr.mk g.d 0 none).add 5) (.slice A n c') → Tryz.Goes h0 g0 { g.D with turns := g.D.turns ++ [t] } h6) → K A n c' h5) :
    ∃ ws : List Value, Src h (1 * 3) ws (some ⟨bx, 0, none⟩) ∧ (∀ v ∈ ws, oneC v = true) ∧ (g.D.turns.length + 1) * 40 ≤ 140737488355328 ∧ g.D.turns.length + 1 ≤ 9223372036854775807 ∧ AppendV 107 (.agg #[.string ByteArray.empty, .string ByteArray.empty, .int .i64 0]) 3 h g.tA g.D.turns.length g.tc 1 ws K := by
  refine app1 (xs := [.string t.fr, .string t.to, .int .i64 t.file]) hx rfl (fun w hw => ?_) r.turns rfl (by omega) (by omega) fun A' c' h5 o k1 e1 => ?_
  · simp at hw; rcases hw with rfl | rfl | rfl <;> rfl
  have nd : ¬ inA g.tA g.d := r.turns.tag.ne r.blk (by decide)
  have b5 := k1.at r.blk nd
  refine k A' _ c' h5 k1 (wr_add b5 (by simp [DG.cells])) fun h6 e6 => ?_
  have k6 := Kp.setc h5 ((Addr.mk g.d 0 none).add 5) (.slice A' (g.D.turns.length + 1) c')
  have b6 := setc_add b5 0 5 (.slice A' (g.D.turns.length + 1) c')
  rw [← e6] at k6 b6
  rw [add_block] at k6
  have k16 : Kp (fun b => b = g.d ∨ inA g.tA b) h h6 := (k1.mono fun b _ hb => .inr hb).trans (k6.mono fun b _ hb => .inl hb)
  have nA' : ¬ inA A' g.d := o.tag.ne b5 (by decide)
  -- what else there is lies elsewhere
  have nomap : ∀ {b : Nat}, isMapB h b → ¬ (b = g.d ∨ inA g.tA b) := by
    rintro b hm (rfl | hx)
    · exact isMapB.ne hm r.blk rfl
    · obtain ⟨cc, fr, e⟩ := r.turns.tag b hx
      exact isMapB.ne hm e rfl
  have notag : ∀ {b : Nat} {cc : Array Value} {e : TypeId} {fr : Nat × Nat}, h[b]? = some (.cells cc e fr) → e ≠ 104 → e ≠ 107 → ¬ (b = g.d ∨ inA g.tA b) := by
    rintro b cc e fr hb hh1 hh2 (rfl | hx)
    · have := r.blk
      rw [this] at hb
      cases hb
      exact hh1 rfl
    · obtain ⟨cc', fr', hx'⟩ := r.turns.tag b hx
      rw [hx'] at hb
      cases hb
      exact hh2 rfl
  have htl : turnV (g.D.turns ++ [t]) = turnV g.D.turns ++ [.string t.fr, .string t.to, .int .i64 t.file] := by simp [turnV]
  have nFB : ∀ p ∈ g.fl, ∀ b, Tryz.FB p.2 b → ¬ (b = g.d ∨ inA g.tA b) := fun p hp b hb => by
    obtain ⟨cc, e, fr, h1, h2⟩ := FB_tag (r.fr p hp) hb
    refine notag h1 ?_ ?_ <;> rcases h2 with rfl | rfl | rfl <;> decide
  let g' : DG := { g with tA := A', tc := c', D := { g.D with turns := g.D.turns ++ [t] } }
  have rr : Tryz.DR h6 g' := by
    refine ⟨?_, r.fm.kp k16 fun b hb => nomap (r.fm.map b hb), r.sm.kp k16 fun b hb => nomap (r.sm.map b hb), ?_, r.ps.kp k16 fun b hb => ?_, r.psT.kp k16 fun b hb => ?_, r.pr.kp k16 fun b hb => ?_, r.prT.kp k16 fun b hb => ?_, fun p hp => (r.fr p hp).kp k16 (nFB p hp), r.eq, r.far, r.two⟩
    · show h6[g.d]? = _
      rw [b6]
      simp [DG.cells, g']
    · show OwnS h6 107 3 A' (g.D.turns ++ [t]).length c' (turnV (g.D.turns ++ [t]))
      rw [htl, List.length_append]
      exact o.kp k6 fun b hb e => nA' (by have : b = g.d := e; rw [← this]; exact hb)
    · obtain ⟨cc, fr, e⟩ := r.psT b hb; exact notag e (by decide) (by decide)
    · obtain ⟨cc, fr, e⟩ := r.psT b hb; exact notag e (by decide) (by decide)
    · obtain ⟨cc, fr, e⟩ := r.prT b hb; exact notag e (by decide) (by decide)
    · obtain ⟨cc, fr, e⟩ := r.prT b hb; exact notag e (by decide) (by decide)
  refine Tryz.Goes.trans (g1 := g) ed b0 k0 ⟨g', rfl, rfl, rr, fun b hb => ?_, k16.mono fun b _ hb => hb.elim .inl fun x => .inr (.inr (.inr (.inl x)))⟩
  rcases hb with hb | hb | hb | hb | hb | hb | hb
  · exact .inl (.inl hb)
  · exact .inl (.inr (.inl hb))
  · exact .inl (.inr (.inr (.inl hb)))
  · exact (app_in e1 b hb).imp (fun x => .inr (.inr (.inr (.inl x)))) id
  · exact .inl (.inr (.inr (.inr (.inr (.inl hb)))))
  · exact .inl (.inr (.inr (.inr (.inr (.inr (.inl hb))))))
  · exact .inl (.inr (.inr (.inr (.inr (.inr (.inr hb))))))

/-! ### a new file -/
def Tryz.Added (h : Hp) (g : DG) (l : List UInt8) (v : Value) (h' : Hp) : Prop :=
  v = .int .i64 (g.D.made + 1) ∧ ∃ g', g'.d = g.d ∧ g'.D = g.D.addA l ∧ g'.tA = g.tA ∧ g'.tc = g.tc ∧ g'.sm = g.sm ∧ Tryz.DR h' g' ∧ (∀ b, DB g' b → DB g b ∨ h.size ≤ b) ∧ Kp (DB g) h h'
theorem Tryz.add_J1 {R : Value → Hp → Prop} {h : Hp} {g : DG} {A : Option Addr} {n c b : Nat} {l : List UInt8} (r : Tryz.DR h g) (hfm : g.fm = some b) (o : ImAt true Tryz.prog 3 h b (flIm g.fl)) (hs : BS h A n l) (hn : n ≤ 1099511627776) (hA : ∀ b, inA A b → b ≠ g.d)
    (hmade : 0 ≤ g.D.made ∧ g.D.made ≤ 4611686018427387904) (hfl : ∀ p ∈ g.fl, p.1 ≤ g.D.made) (hlen : g.fl.length ≤ 1099511627776) (hR : ∀ v h', Tryz.Added h g l v h' → R v h') : D_disk_Disk_add.J1 R (some ⟨g.d, 0, none⟩) A n c h := by
  unfold D_disk_Disk_add.J1
  have hw : IntKind.i64.wrap (g.D.made + 1) = g.D.made + 1 := w64 (by omega) (by omega)
  refine ⟨_, rfl, _, (cell_add r.blk 0 2).trans rfl, wr_add r.blk (by simp [DG.cells]), fun h6 e6 => ?_⟩
  rw [hw] at e6
  have b6 := setc_add r.blk 0 2 (.int .i64 (g.D.made + 1))
  have k6 := Kp.setc h ((Addr.mk g.d 0 none).add 2) (.int .i64 (g.D.made + 1))
  rw [← e6] at b6 k6
  rw [add_block] at k6
  have c3 : cell h6 ((Addr.mk g.d 0 none).add 3) = some (.map (some b)) := by rw [cell_add b6]; simp [DG.cells, hfm]
  have c2 : cell h6 ((Addr.mk g.d 0 none).add 2) = some (.int .i64 (g.D.made + 1)) := by rw [cell_add b6]; simp [DG.cells]
  have hs6 : BS h6 A n l := hs.kp k6 fun b hb e => hA b hb e
  refine ⟨_, c3, _, c2, (Tryz.c_clone_byte hs6.2 (one_bv l) (by omega)).mono ?_⟩
  rintro v h13 ⟨CA, Cc, rfl, oC, g13, fC⟩
  refine ⟨_, _, _, rfl, g13.cell c3 id, g13.cell c2 id, fun b18 h17 eb eh => ?_⟩
  obtain ⟨f17, g17, s17, _⟩ := boxed eb eh
  have g617 := g13.trans g17
  have k017 : Kp (· = g.d) h h17 := k6.trans g617.kp
  have hd := lt_of_some r.blk
  have nb : b ≠ g.d := fun e => isMapB.ne (MapOn.isMap o) r.blk e
  have o17 := MapOn.kp o k017 nb
  have hll : (flIm g.fl).length = g.fl.length := by simp [flIm]
  refine ⟨g617.cell c3 id, g617.cell c2 id, _, ImAt.put Tryz.underlying3 Tryz.underlying100 o17 (by rw [hll]; unfold maxLen; omega) (wf64 (by omega) (by omega)) (fun p hp => ?_) rfl, ?_⟩
  · obtain ⟨q, hq, rfl⟩ := List.mem_map.1 hp
    have := hfl q hq
    show q.1 < _; omega
  rintro h21 ⟨o21, k21⟩
  have k021 : Kp (fun x => x = g.d ∨ x = b) h h21 := (k017.mono fun x _ hx => .inl hx).trans (k21.mono fun x _ hx => .inr hx)
  have b21 := k21.at (g617.g b6) (fun e => nb e.symm)
  have hb18 : ¬ b18 = b := by have h1 := MapOn.lt o; have := k6.size; have := g13.size; omega
  let F : FG := ⟨b18, CA, n, Cc, none, 0, 0, [], ⟨l, []⟩⟩
  let g' : DG := { g with fm := some b, fl := g.fl ++ [(g.D.made + 1, F)], D := g.D.addA l }
  have ml := MapOn.isMap o
  have oC17 : OwnS h17 5 1 CA n Cc (l.map bv) := oC.kp g17 fun _ _ => id
  have nC : ∀ x, inA CA x → ¬ x = b := fun x hx e => by subst e; have := fC _ hx; have := MapOn.lt o; have := k6.size; omega
  have rF : Tryz.FR h21 F := by
    have o' := oC17.kp k21 nC
    exact ⟨k21.at f17 hb18, ⟨hs.1, by have := o'.src; rw [Nat.mul_one] at this; exact this⟩, o'.tag, OwnS.nil _ _ _, trivial, trivial⟩
  have nomap : ∀ {x : Nat}, DBr g x → g.fm ≠ some x → ¬ isMapB h x → ¬ (x = g.d ∨ x = b) := fun hx h1 h2 h3 => by
    rcases h3 with h3 | h3
    · exact r.ne_d _ hx h3
    · exact h1 (by rw [h3]; exact hfm)
  have notag : ∀ {x : Nat} {cc : Array Value} {e : TypeId} {fr : Nat × Nat}, h[x]? = some (.cells cc e fr) → e ≠ 104 → ¬ (x = g.d ∨ x = b) := by
    rintro x cc e fr hx h1 (rfl | rfl)
    · rw [r.blk] at hx; cases hx; exact h1 rfl
    · exact isMapB.ne ml hx rfl
  have nFB : ∀ p ∈ g.fl, ∀ x, Tryz.FB p.2 x → ¬ (x = g.d ∨ x = b) := fun p hp x hx => by
    obtain ⟨cc, e, fr, h1, h2⟩ := FB_tag (r.fr p hp) hx
    refine notag h1 ?_
    rcases h2 with rfl | rfl | rfl <;> decide
  refine ⟨_, (cell_add b21 0 2).trans (by simp [DG.cells]), hR _ _ ⟨rfl, g', rfl, rfl, rfl, rfl, rfl, ?_, ?_, ?_⟩⟩
  · have hsm : ∀ x, g.sm = some x → x ≠ b → ¬ (x = g.d ∨ x = b) := fun x hx hne h3 => h3.elim (fun e => isMapB.ne (r.sm.map x hx) r.blk e) hne
    refine ⟨?_, .inr ⟨b, rfl, ?_⟩, ?_, r.turns.kp k021 fun x hx => ?_, r.ps.kp k021 fun x hx => ?_, r.psT.kp k021 fun x hx => ?_, r.pr.kp k021 fun x hx => ?_, r.prT.kp k021 fun x hx => ?_, fun p hp => ?_, ?_, ?_, fun x hx => r.two x (by rw [hfm]; exact hx)⟩
    · show h21[g.d]? = _
      rw [b21]
      simp [DG.cells, g', DiskA.addA, hfm]
    · show ImAt true Tryz.prog 3 h21 b (flIm (g.fl ++ [(g.D.made + 1, F)]))
      unfold flIm at o21 ⊢
      rw [List.map_append]
      exact o21
    · show Tryz.NmR h21 g.sm g.D.safe
      exact r.sm.kp k021 fun x hx => hsm x hx fun e' => r.two b hfm (by rw [hx, e'])
    · obtain ⟨cc, fr, e⟩ := r.turns.tag x hx; exact notag e (by decide)
    · obtain ⟨cc, fr, e⟩ := r.psT x hx; exact notag e (by decide)
    · obtain ⟨cc, fr, e⟩ := r.psT x hx; exact notag e (by decide)
    · obtain ⟨cc, fr, e⟩ := r.prT x hx; exact notag e (by decide)
    · obtain ⟨cc, fr, e⟩ := r.prT x hx; exact notag e (by decide)
    · rcases List.mem_append.1 hp with hp | hp
      · exact (r.fr p hp).kp k021 (nFB p hp)
      · rw [List.mem_singleton.1 hp]; exact rF
    · show g.D.files ++ [(g.D.made + 1, ⟨l, []⟩)] = (g.fl ++ [(g.D.made + 1, F)]).map _
      rw [List.map_append, r.eq]
      rfl
    · show (g.fl ++ [(g.D.made + 1, F)]).Pairwise _
      refine List.pairwise_append.2 ⟨r.far, List.pairwise_singleton _ _, fun p hp q hq => ?_⟩
      rw [List.mem_singleton.1 hq]
      refine ⟨fun e => ?_, fun x _ hx => (inA_none hx).elim⟩
      have h1 := lt_of_some (r.fr p hp).blk
      have h2 : p.2.p = b18 := e
      have := k6.size
      have := g13.size
      omega
  · rintro x (hx | hx | hx | hx | hx | hx | ⟨p, hp, hx⟩)
    · exact .inl (.inl hx)
    · exact .inl (.inr (.inl (by rw [hfm]; exact hx)))
    · exact .inl (.inr (.inr (.inl hx)))
    · exact .inl (.inr (.inr (.inr (.inl hx))))
    · exact .inl (.inr (.inr (.inr (.inr (.inl hx)))))
    · exact .inl (.inr (.inr (.inr (.inr (.inr (.inl hx))))))
    · rcases List.mem_append.1 hp with hp | hp
      · exact .inl (.inr (.inr (.inr (.inr (.inr (.inr ⟨p, hp, hx⟩))))))
      · rw [List.mem_singleton.1 hp] at hx
        have z6 := k6.size
        have z13 := g13.size
        rcases hx with hx | hx | hx | ⟨v, hv, _⟩
        · right; have : x = b18 := hx; omega
        · right; have := fC x hx; omega
        · exact (inA_none hx).elim
        · cases hv
  · exact k021.mono fun x _ hx => hx.elim .inl fun e => .inr (.inl (by rw [hfm, e]))
end Go.Proofs
set_option linter.unusedVariables false
set_option linter.unusedSimpArgs false
namespace Go.Proofs
open Go Go.V Go.Disk
theorem Tryz.c_add {h : Hp} {g : DG} {N : Nat} {A : Option Addr} {n c : Nat} {l : List UInt8} (r : Tryz.DR h g) (hs : BS h A n l) (hn : n ≤ 1099511627776) (hA : ∀ b, inA A b → b ≠ g.d)
    (hmade : 0 ≤ g.D.made ∧ g.D.made ≤ 4611686018427387904) (hfl : ∀ p ∈ g.fl, p.1 ≤ g.D.made) (hlen : g.fl.length ≤ 1099511627776) :
    CH Tryz.prog 44 #[.pointer (some ⟨g.d, 0, none⟩), .slice A n c] h (Tryz.Added h g l) := by
  apply D_disk_Disk_add.sound
  unfold D_disk_Disk_add
  refine ⟨_, rfl, _, (cell_add r.blk 0 3).trans rfl, fun e => ?_, fun e => ?_⟩
  · have hfm : g.fm = none := by cases hx : g.fm with | none => rfl | some b => rw [hx] at e; cases e
    have hfl0 : g.fl = [] := by
      rcases r.fm with ⟨_, h2⟩ | ⟨b, h1, _⟩
      · exact h2
      · rw [hfm] at h1; cases h1
    intro b h1 eb eh
    subst eb eh
    have r1 := r.g (Grow.push h (.map #[] 0))
    refine ⟨wr_add r1.blk (by simp [DG.cells]), fun h2 e2 => ?_⟩
    have b2 := setc_add r1.blk 0 3 (.map (some h.size))
    have k2 := Kp.setc (h.push (.map #[] 0)) ((Addr.mk g.d 0 none).add 3) (.map (some h.size))
    rw [← e2] at b2 k2
    rw [add_block] at k2
    have hd : g.d < h.size := lt_of_some r.blk
    have o2 : ImAt true Tryz.prog 3 h2 h.size (flIm g.fl) := by
      rw [hfl0]
      exact MapOn.kp (ImAt.exact (n := 0) (m := []) (MapOn.made _ _ _ _)) k2 (by show ¬ h.size = g.d; omega)
    let g2 : DG := { g with fm := some h.size }
    have r2 : Tryz.DR h2 g2 := by
      have hn' := r1.ne_d
      refine ⟨?_, .inr ⟨_, rfl, o2⟩, r1.sm.kp k2 fun b hb => hn' b (.inr (.inl hb)), r1.turns.kp k2 fun b hb => hn' b (.inr (.inr (.inl hb))), r1.ps.kp k2 fun b hb => hn' b (.inr (.inr (.inr (.inl hb)))), r1.psT.kp k2 fun b hb => hn' b (.inr (.inr (.inr (.inl hb)))),
        r1.pr.kp k2 fun b hb => hn' b (.inr (.inr (.inr (.inr (.inl hb))))), r1.prT.kp k2 fun b hb => hn' b (.inr (.inr (.inr (.inr (.inl hb))))), fun p hp => (r1.fr p hp).kp k2 fun b hb => hn' b (.inr (.inr (.inr (.inr (.inr ⟨p, hp, hb⟩))))), r.eq, r.far, fun b hb hb' => ?_⟩
      · show h2[g.d]? = _
        rw [b2]
        simp [DG.cells, g2]
      · have := r.sm.lt b hb'
        cases hb
        omega
    have kk : Kp (fun b => b = g.d) h h2 := (Grow.push h (.map #[] 0)).kp.trans k2
    refine Tryz.add_J1 (g := g2) r2 rfl o2 (hs.kp kk hA) hn hA hmade hfl hlen (c := c) ?_
    rintro v h' ⟨rfl, g', e1, e2', e3, e4, e5, e6, e7, e8⟩
    refine ⟨rfl, g', e1, e2', e3, e4, e5, e6, fun b hb => ?_, ?_⟩
    · have z := kk.size
      rcases e7 b hb with hx | hx
      · rcases hx with hx | hx | hx
        · exact .inl (.inl hx)
        · cases hx; exact .inr (Nat.le_refl _)
        · exact .inl (.inr (.inr hx))
      · exact .inr (Nat.le_trans z hx)
    · refine (kk.mono fun b _ hb => .inl hb).trans' e8 fun k hk hx => ?_
      rcases hx with hx | hx | hx
      · exact .inl hx
      · cases hx; omega
      · exact .inr (.inr hx)
  · rcases r.fm with ⟨h1, _⟩ | ⟨b, h1, o⟩
    · rw [h1] at e; cases e
    · exact Tryz.add_J1 r h1 o hs hn hA hmade hfl hlen fun _ _ x => x

theorem fl_len {N : Nat} {D : DiskA} (ok : D.ok N) : D.files.length ≤ N := by
  have h2 := asc_files ok
  have h3 := ok.made1
  have : ∀ (k : List (Int × FileA)) (m : Int), k.Pairwise (fun p q => p.1 < q.1) → (∀ p ∈ k, m < p.1 ∧ p.1 ≤ D.made) → (k.length : Int) ≤ max 0 (D.made - m) := by
    intro k
    induction k with
    | nil => intro m _ _; simp; omega
    | cons q k ih =>
      intro m hp hr
      have hq := List.pairwise_cons.1 hp
      have := ih q.1 hq.2 fun p hp' => ⟨hq.1 p hp', (hr p (List.mem_cons_of_mem _ hp')).2⟩
      have hr0 := hr q List.mem_cons_self
      simp only [List.length_cons]
      omega
  have h4 := this D.files 0 h2 fun p hp => by have := ok.rng p hp; omega
  have := ok.made0
  omega
theorem lives_len {N : Nat} {D : DiskA} (ok : D.ok N) : D.lives.length ≤ N := by
  rw [← ok.ids, List.length_map]; exact fl_len ok

theorem Tryz.c_Create {h : Hp} {g : DG} {N : Nat} (r : Tryz.DR h g) (ok : g.D.ok N) (hN : N < 1073741824) (s : ByteArray) :
    CH Tryz.prog 11 #[.pointer (some ⟨g.d, 0, none⟩), .string s] h (Tryz.Did h g (g.D.createA s)) := by
  apply D_disk_Disk_Create.sound
  unfold D_disk_Disk_Create
  intro b2 h1 eb2 eh1 b4 h3 eb4 eh3
  obtain ⟨f2, g1, s2, _⟩ := boxed eb2 eh1
  obtain ⟨f4, g3, s4, _⟩ := boxed eb4 eh3
  have z1 := g1.size
  have p2 := g3.g f2
  have g03 := g1.trans g3
  have r3 := r.g g03
  have okS := ok_struck ok
  have hgd : g.d < h.size := Tryz.DB_lt r _ (.inl rfl)
  have lt := Tryz.DB_lt r
  refine ⟨_, cell1 p2, ?_⟩
  have main : CH Tryz.prog 39 #[.pointer (some ⟨g.d, 0, none⟩), .func (.func 40) #[] #[.pointer (some (Addr.mk b2 0 none)), .pointer (some (Addr.mk b4 0 none))], .func (.func 42) #[] #[.pointer (some (Addr.mk b2 0 none)), .pointer (some (Addr.mk b4 0 none))], .slice none 0 0] h3
      (Tryz.Did h g (g.D.createA s)) := by
    refine Tryz.c_stroke r3 ok (by omega) (by omega) (fun e => ?_) fun e => ?_
    · unfold DiskA.createA Tryz.Did
      rw [if_pos e]
      exact ⟨rfl, Tryz.Goes.still r g03⟩
    refine ⟨40, Tryz.f40, _, [.pointer (some (Addr.mk b2 0 none)), .pointer (some (Addr.mk b4 0 none))], rfl, Tryz.func40, rfl, Tryz.nn40, ?_⟩
    apply D_disk_Disk_Create_1.sound
    unfold D_disk_Disk_Create_1
    refine ⟨_, cell1 p2, _, cell1 f4, (Tryz.c_there' r3 ok (by omega) s).mono ?_⟩
    rintro v h6 ⟨g6, p, rfl, hp⟩
    have g06 := g03.trans g6
    refine ⟨_, _, rfl, fun e1 => ?_, fun e1 => ⟨fun e2 => ?_, fun e2 => ?_⟩⟩
    · have e1' : g.D.thereE s = 0 := by simpa using e1
      refine ⟨_, rfl, fun _ => ?_, fun h0 => by cases h0⟩
      unfold DiskA.createA Tryz.Did
      rw [if_neg (by rw [e]; decide), if_pos e1']
      exact ⟨rfl, Tryz.Goes.still r g06⟩
    · have e1' : g.D.thereE s ≠ 0 := by simpa using e1
      have e2' : g.D.thereE s = 6 := by simpa using e2
      refine ⟨_, rfl, fun h0 => absurd rfl h0, fun _ => ⟨r.g g06, fun h2' r2 k2 => ?_⟩⟩
      have kDB : Kp (DB g) h h2' := g06.kp.trans (k2.mono fun b _ hb => .inl hb)
      have u2 := k2.at (g6.g p2) (by show ¬ b2 = g.d; omega)
      have u4 := k2.at (g6.g f4) (by show ¬ b4 = g.d; omega)
      refine ⟨fun hz => ?_, fun hz => ⟨fun _ => ?_, fun h0 => by cases h0⟩⟩
      · refine ⟨42, Tryz.f42, _, [.pointer (some (Addr.mk b2 0 none)), .pointer (some (Addr.mk b4 0 none))], rfl, Tryz.func42, rfl, Tryz.nn42, ?_⟩
        apply D_disk_Disk_Create_2.sound
        unfold D_disk_Disk_Create_2
        refine ⟨_, cell1 u2, _, cell1 u2, _, rfl, _, (cell_add r2.blk 0 1).trans rfl, ?_⟩
        refine (Tryz.c_lives (g := { g with D := g.D.struck }) r2 okS (by omega)).mono ?_
        rintro v h10 ⟨LA, Ln, Lc, rfl, hLn, oL, g10, fL⟩
        have r10 := r2.g g10
        have hLn' : Ln = g.D.lives.length := hLn
        have hll := lives_len ok
        have hm1 := ok.most1
        refine ⟨_, _, _, rfl, g10.cell (cell1 u2) id, (cell_add r10.blk 0 1).trans rfl, ?_⟩
        rw [w64 (by omega) (by omega)]
        refine ⟨fun e3 => ?_, fun e3 => ?_⟩
        · have e3' : (g.D.lives.length : Int) + 1 > g.D.most := by have := dec_t e3; rw [hLn'] at this; exact this
          refine ⟨_, rfl, ?_⟩
          unfold DiskA.createA Tryz.Did
          rw [if_neg (by rw [e]; decide), if_neg e1', if_neg (by rw [e2']; simp), if_neg (by rw [hz]; simp), if_pos e3']
          exact ⟨rfl, ⟨{ g with D := g.D.struck }, rfl, rfl, r10, fun b hb => .inl hb, kDB.trans g10.kp⟩⟩
        · have e3' : ¬ (g.D.lives.length : Int) + 1 > g.D.most := by have := dec_f e3; rw [hLn'] at this; exact this
          refine ⟨_, g10.cell (cell1 u2) id, _, g10.cell (cell1 u2) id, _, rfl, _, _, _, (cell_add r10.blk 0 5).trans rfl, _, g10.cell (cell1 u4) id, _, g10.cell (cell1 u2) id, ?_⟩
          have hfl : ∀ p ∈ g.fl, p.1 ≤ g.D.made := fun p hp => (ok.rng (p.1, p.2.f) (by rw [r.eq]; exact List.mem_map.2 ⟨p, hp, rfl⟩)).2
          have hlen : g.fl.length ≤ N := by have := fl_len ok; rw [r.eq, List.length_map] at this; exact this
          have hmd := ok.made1
          have hmd0 := ok.made0
          refine (Tryz.c_add (g := { g with D := g.D.struck }) (N := N) (l := []) r10 (BS.nil _) (by omega) (fun b hb => (inA_none hb).elim) ⟨hmd0, by show g.D.made ≤ _; omega⟩ hfl (by show g.fl.length ≤ _; omega)).mono ?_
          rintro v h28 ⟨rfl, g', eg1, eg2, eg3, eg4, eg5, r28, b28, k28⟩
          have n2 : ¬ DB { g with D := g.D.struck } b2 := fun hx => by have := lt b2 hx; omega
          have n4 : ¬ DB { g with D := g.D.struck } b4 := fun hx => by have := lt b4 hx; omega
          have w2 := k28.cell (g10.cell (cell1 u2) id) n2
          have w4 := k28.cell (g10.cell (cell1 u4) id) n4
          have hT : g'.D.turns = g.D.turns := by rw [eg2]; rfl
          have c5 : cell h28 ((Addr.mk g.d 0 none).add 5) = some (.slice g.tA g.D.turns.length g.tc) := by
            rw [← eg1, ← eg3, ← eg4, ← hT]
            exact (cell_add r28.blk 0 5).trans rfl
          refine ⟨_, rfl, w2, w2, c5, w4, fun b35 h34 eb eh => ?_⟩
          obtain ⟨f34, g34, s34, _⟩ := boxed eb eh
          have r34 := r28.g g34
          refine ⟨g34.cell w2 id, g34.cell w2 id, g34.cell c5 id, ?_⟩
          have kk : Kp (DB g) h h34 := ((kDB.trans g10.kp).trans k28).trans g34.kp
          have hb' : ∀ b, DB g' b → DB g b ∨ h.size ≤ b := fun b hb => (b28 b hb).imp id fun hx => by have := kDB.size; have := g10.size; omega
          have tn : g'.D.turns.length ≤ 1073741824 := by rw [hT]; have := ok.names; omega
          have ta := Tryz.turn_add (t := ⟨ByteArray.empty, s, g.D.made + 1⟩) (g0 := g) (h0 := h) r34 f34 tn eg1 kk hb' (K := fun A44 n45 c46 h47 => (cell h47 (Addr.mk b2 0 none) = some (.pointer (some ⟨g.d, 0, none⟩)) ∧ (∃ a49 : Addr, some (Addr.mk g.d 0 none) = some a49 ∧ (Wr h47 (a49.add 5) ∧ ∀ h51, h51 = setc h47 (a49.add 5) (.slice A44 n45 c46) → ∃ e, Value.int .i64 0 = .int .i64 e ∧ Tryz.Did h g (g.D.createA s) (.int .i64 e) h51)))) ?_
          · rw [hT, eg3, eg4] at ta
            exact ta
          · intro A' n' c' h47 k47 hw hgo
            have n2' : ¬ inA g'.tA b2 := by rw [eg3]; exact fun hx => by have := r.turns.lt _ hx; omega
            rw [eg1] at hw hgo
            refine ⟨k47.cell (g34.cell w2 id) n2', _, rfl, hw, fun h51 e51 => ⟨_, rfl, ?_⟩⟩
            have := hgo h51 e51
            unfold DiskA.createA Tryz.Did
            rw [if_neg (by rw [e]; decide), if_neg e1', if_neg (by rw [e2']; simp), if_neg (by rw [hz]; simp), if_neg e3']
            rw [hT, eg2] at this
            exact ⟨rfl, this⟩
      · unfold DiskA.createA Tryz.Did
        rw [if_neg (by rw [e]; decide), if_neg e1', if_neg (by rw [e2']; simp), if_pos hz]
        exact ⟨rfl, ⟨{ g with D := g.D.struck }, rfl, rfl, r2, fun b hb => .inl hb, kDB⟩⟩
    · have e1' : g.D.thereE s ≠ 0 := by simpa using e1
      have e2' : g.D.thereE s ≠ 6 := by simpa using e2
      refine ⟨_, rfl, fun _ => ?_, fun h0 => absurd h0 e1'⟩
      unfold DiskA.createA Tryz.Did
      rw [if_neg (by rw [e]; decide), if_neg e1', if_pos e2']
      exact ⟨rfl, Tryz.Goes.still r g06⟩
  refine main.mono ?_
  rintro v h' ⟨rfl, hg⟩
  exact ⟨_, rfl, rfl, hg⟩
end Go.Proofs
set_option linter.unusedVariables false
set_option linter.unusedSimpArgs false
namespace Go.Proofs
open Go Go.V Go.Disk
end Go.Proofs
set_option linter.unusedVariables false
set_option linter.unusedSimpArgs false
namespace Go.Proofs
open Go Go.V Go.Disk
theorem Tryz.c_lives0 {h : Hp} {g : DG} (r : Tryz.DR h g) (hb : g.D.safe.length + g.D.turns.length ≤ 68719476000) :
    CH Tryz.prog 43 #[.pointer (some ⟨g.d, 0, none⟩)] h fun v h' => ∃ A n c, v = .slice A n c ∧ n = g.D.lives.length ∧ OwnS h' 3 1 A n c (g.D.lives.map iv) ∧ Grow h h' ∧ (∀ b, inA A b → h.size ≤ b) := by
  apply D_disk_Disk_lives.sound
  unfold D_disk_Disk_lives
  refine ⟨_, rfl, _, (cell_add r.blk 0 4).trans rfl, _, _, _, (cell_add r.blk 0 5).trans rfl, ?_⟩
  refine (Tryz.c_alive r.sm rfl r.turns.src hb).mono ?_
  rintro v h6 ⟨A, n, c, rfl, h1, h2, h3, h4⟩
  exact ⟨_, _, _, rfl, A, n, c, rfl, h1, h2, h3, h4⟩

def DiskA.buryA (D : DiskA) : DiskA := { D with files := D.files.filter fun p => D.lives.contains p.1 }
theorem Tryz.c_bury {h : Hp} {g : DG} (r : Tryz.DR h g) (hb : g.D.safe.length + g.D.turns.length ≤ 68719476000) (hl : g.D.lives.length ≤ 1099511627776) :
    CH Tryz.prog 92 #[.pointer (some ⟨g.d, 0, none⟩)] h fun v h' => v = .tuple #[] ∧ Tryz.Goes h g (DiskA.buryA g.D) h' := by
  apply D_disk_Disk_bury.sound
  unfold D_disk_Disk_bury
  refine (Tryz.c_lives0 r hb).mono ?_
  rintro v h2 ⟨LA, Ln, Lc, rfl, hLn, oL, g2, fL⟩
  refine ⟨_, _, _, rfl, fun b5 h4 eb eh => ?_⟩
  obtain ⟨f4, g4, s4, _⟩ := boxed eb eh
  refine ⟨wr_of f4 (by simp), fun h6 e6 => ?_⟩
  obtain ⟨f6, k6⟩ := set1 f4 e6
  have g06 : Grow h h6 := Kp.new (g2.trans g4) k6 (by have := g2.size; omega)
  have r6 := r.g g06
  have oL6 : OwnS h6 3 1 LA Ln Lc (g.D.lives.map iv) := (oL.kp g4 fun _ _ => id).kp k6 fun b hb e => by have : b = b5 := e; have := oL.lt b hb; omega
  have sub : ∀ {fl' : List (Int × FG)} {h13 : Hp}, fl' = g.fl.filter (fun p => g.D.lives.contains p.1) → Tryz.FmR h13 g.fm fl' → Kp (fun b => g.fm = some b) h6 h13 → Tryz.Goes h g (DiskA.buryA g.D) h13 := by
    intro fl' h13 hfl fm k13
    have hn : ∀ b, (g.sm = some b ∨ inA g.tA b ∨ inA g.sA b ∨ inA g.rA b ∨ (∃ p ∈ g.fl, Tryz.FB p.2 b) ∨ b = g.d) → ¬ g.fm = some b := by
      intro b hb hf
      have hm := r6.fm.map b hf
      rcases hb with hb | hb | hb | hb | ⟨p, hp, hb⟩ | hb
      · exact r.two b hf hb
      · obtain ⟨c, fr, e⟩ := r6.turns.tag b hb; exact isMapB.ne hm e rfl
      · obtain ⟨c, fr, e⟩ := r6.psT b hb; exact isMapB.ne hm e rfl
      · obtain ⟨c, fr, e⟩ := r6.prT b hb; exact isMapB.ne hm e rfl
      · obtain ⟨c, e, fr, h1, _⟩ := FB_tag (r6.fr p hp) hb; exact isMapB.ne hm h1 rfl
      · exact isMapB.ne hm r6.blk hb
    let g' : DG := { g with fl := fl', D := DiskA.buryA g.D }
    have hsub : ∀ p ∈ fl', p ∈ g.fl := fun p hp => by rw [hfl] at hp; exact (List.mem_filter.1 hp).1
    refine ⟨g', rfl, rfl, ⟨k13.at r6.blk (hn _ (.inr (.inr (.inr (.inr (.inr rfl)))))), fm, r6.sm.kp k13 fun b hb => hn b (.inl hb), r6.turns.kp k13 fun b hb => hn b (.inr (.inl hb)), r6.ps.kp k13 fun b hb => hn b (.inr (.inr (.inl hb))), r6.psT.kp k13 fun b hb => hn b (.inr (.inr (.inl hb))),
      r6.pr.kp k13 fun b hb => hn b (.inr (.inr (.inr (.inl hb)))), r6.prT.kp k13 fun b hb => hn b (.inr (.inr (.inr (.inl hb)))), fun p hp => (r6.fr p (hsub p hp)).kp k13 fun b hb => hn b (.inr (.inr (.inr (.inr (.inl ⟨p, hsub p hp, hb⟩))))), ?_, ?_, r.two⟩, ?_, g06.kp.trans (k13.mono fun b _ hb => .inr (.inl hb))⟩
    · show (g.D.files.filter fun p => g.D.lives.contains p.1) = fl'.map fun p => (p.1, p.2.f)
      rw [hfl, r.eq, List.filter_map]
      rfl
    · show fl'.Pairwise _
      rw [hfl]
      exact r.far.filter _
    · rintro b (hb | hb | hb | hb | hb | hb | ⟨p, hp, hb⟩)
      · exact .inl (.inl hb)
      · exact .inl (.inr (.inl hb))
      · exact .inl (.inr (.inr (.inl hb)))
      · exact .inl (.inr (.inr (.inr (.inl hb))))
      · exact .inl (.inr (.inr (.inr (.inr (.inl hb)))))
      · exact .inl (.inr (.inr (.inr (.inr (.inr (.inl hb))))))
      · exact .inl (.inr (.inr (.inr (.inr (.inr (.inr ⟨p, hsub p hp, hb⟩))))))
  refine ⟨_, rfl, _, (cell_add r6.blk 0 3).trans rfl, ?_⟩
  rcases hfm : g.fm with _ | b
  · refine (Tryz.c_delFunc_nil _).mono ?_
    rintro v h13 ⟨rfl, g13⟩
    have hfl : g.fl = [] := by
      rcases r.fm with ⟨_, h2⟩ | ⟨b, h1, _⟩
      · exact h2
      · rw [hfm] at h1; cases h1
    exact ⟨rfl, sub (fl' := []) (by rw [hfl]; rfl) (.inl ⟨hfm, rfl⟩) g13.kp⟩
  · have o6 : ImAt true Tryz.prog 3 h6 b (flIm g.fl) := by
      rcases r6.fm with ⟨h1, _⟩ | ⟨b', h1, o⟩
      · rw [hfm] at h1; cases h1
      · rw [hfm] at h1; cases h1; exact o
    have hblt : b < h.size := r.fm.lt b hfm
    have z2 := g2.size
    refine (Tryz.c_delFunc (c := Lc) o6 (cell1 f6) ⟨hLn, by have := oL6.src; rw [Nat.mul_one] at this; exact this⟩ oL6.spot (by omega) (by omega) (fun hx => by have := fL b hx; omega)).mono ?_
    rintro v h13 ⟨rfl, o13, k13⟩
    refine ⟨rfl, sub (fl' := g.fl.filter fun p => g.D.lives.contains p.1) rfl (.inr ⟨b, hfm, ?_⟩) (k13.mono fun x _ hx => by rw [hfm, hx])⟩
    have : (flIm g.fl).filter (fun p => g.D.lives.contains p.1) = flIm (g.fl.filter fun p => g.D.lives.contains p.1) := by
      unfold flIm
      rw [List.filter_map]
      rfl
    rw [← this]
    exact o13

theorem Tryz.c_settle {h h0 : Hp} {g g0 : DG} {b : Nat} {m : Nm} (r : Tryz.DR h g) (o : NmAt Tryz.prog 9 3 h b m) (nb : ¬ DB g b) (hb0 : h0.size ≤ b) (ed : g.d = g0.d) (k0 : Kp (DB g0) h0 h) (b0 : ∀ b, DB g b → DB g0 b ∨ h0.size ≤ b)
    (hm : m.length ≤ 68719476000) :
    CH Tryz.prog 58 #[.pointer (some ⟨g.d, 0, none⟩), .map (some b)] h fun v h' => v = .tuple #[] ∧ Tryz.Goes h0 g0 (g.D.settleA m) h' := by
  apply D_disk_Disk_settle.sound
  unfold D_disk_Disk_settle
  refine ⟨_, rfl, wr_add r.blk (by simp [DG.cells]), fun h3 e3 => ?_⟩
  have b3 := setc_add r.blk 0 4 (.map (some b))
  have k3 := Kp.setc h ((Addr.mk g.d 0 none).add 4) (.map (some b))
  rw [← e3] at b3 k3
  rw [add_block] at k3
  refine ⟨wr_add b3 (by simp [DG.cells]), fun h5 e5 => ?_⟩
  have b5 := setc_add b3 0 5 (.slice none 0 0)
  have k5 := Kp.setc h3 ((Addr.mk g.d 0 none).add 5) (.slice none 0 0)
  rw [← e5] at b5 k5
  rw [add_block] at k5
  have k05 : Kp (· = g.d) h h5 := k3.trans k5
  have hn := r.ne_d
  let g1 : DG := { g with sm := some b, tA := none, tc := 0, D := { g.D with safe := m, turns := [] } }
  have r5 : Tryz.DR h5 g1 := by
    refine ⟨?_, r.fm.kp k05 fun x hx => hn x (.inl hx), .inr ⟨b, rfl, MapOn.kp o k05 fun e => nb (.inl e)⟩, OwnS.nil _ _ _, r.ps.kp k05 fun x hx => hn x (.inr (.inr (.inr (.inl hx)))), r.psT.kp k05 fun x hx => hn x (.inr (.inr (.inr (.inl hx)))),
      r.pr.kp k05 fun x hx => hn x (.inr (.inr (.inr (.inr (.inl hx))))), r.prT.kp k05 fun x hx => hn x (.inr (.inr (.inr (.inr (.inl hx))))), fun p hp => (r.fr p hp).kp k05 fun x hx => hn x (.inr (.inr (.inr (.inr (.inr ⟨p, hp, hx⟩))))), r.eq, r.far, fun x hx e => ?_⟩
    · show h5[g.d]? = _
      rw [b5]
      simp [DG.cells, g1]
    · cases e
      exact nb (.inr (.inl hx))
  have hll : (DiskA.lives { g.D with safe := m, turns := [] }).length ≤ 1099511627776 := by
    unfold DiskA.lives livesA ascOf Lib.compact Lib.compactUpTo turnIds
    rw [List.length_map]
    refine Nat.le_trans (List.length_filter_le _ _) ?_
    simp
    omega
  refine (Tryz.c_bury (g := g1) r5 (by show m.length + 0 ≤ _; omega) hll).mono ?_
  rintro v h8 ⟨rfl, hg⟩
  refine ⟨rfl, ?_⟩
  have z0 := k0.size
  refine Tryz.Goes.trans (g1 := g1) ed (fun x hx => ?_) (k0.trans' k05 fun x hx e => ?_) hg
  · rcases hx with hx | hx | hx | hx | hx | hx | hx
    · exact b0 x (.inl hx)
    · exact b0 x (.inr (.inl hx))
    · cases hx; exact .inr hb0
    · exact (inA_none hx).elim
    · exact b0 x (.inr (.inr (.inr (.inr (.inl hx)))))
    · exact b0 x (.inr (.inr (.inr (.inr (.inr (.inl hx))))))
    · exact b0 x (.inr (.inr (.inr (.inr (.inr (.inr hx))))))
  · have : x = g.d := e
    exact .inl (this.trans ed)

theorem Tryz.c_SyncNames {h : Hp} {g : DG} {N : Nat} (r : Tryz.DR h g) (ok : g.D.ok N) (hN : N < 1073741824) :
    CH Tryz.prog 14 #[.pointer (some ⟨g.d, 0, none⟩)] h (Tryz.Did h g g.D.syncNamesA) := by
  apply D_disk_Disk_SyncNames.sound
  unfold D_disk_Disk_SyncNames
  intro b2 h1 eb2 eh1
  obtain ⟨f2, g1, s2, _⟩ := boxed eb2 eh1
  have r1 := r.g g1
  have okS := ok_struck ok
  have hgd : g.d < h.size := Tryz.DB_lt r _ (.inl rfl)
  have lt := Tryz.DB_lt r
  refine ⟨_, cell1 f2, ?_⟩
  have main : CH Tryz.prog 39 #[.pointer (some ⟨g.d, 0, none⟩), .func (.func 56) #[] #[], .func (.func 57) #[] #[.pointer (some (Addr.mk b2 0 none))], .slice none 0 0] h1
      (Tryz.Did h g g.D.syncNamesA) := by
    refine Tryz.c_stroke r1 ok (by omega) (by omega) (fun e => ?_) fun e => ?_
    · unfold DiskA.syncNamesA Tryz.Did
      rw [if_pos e]
      exact ⟨rfl, Tryz.Goes.still r g1⟩
    refine ⟨56, Tryz.f56, _, [], rfl, Tryz.func56, rfl, Tryz.nn56, ?_⟩
    apply D_disk_Disk_SyncNames_1.sound
    unfold D_disk_Disk_SyncNames_1
    refine ⟨_, rfl, fun h0 => absurd rfl h0, fun _ => ⟨r1, fun h2' r2 k2 => ?_⟩⟩
    have kDB : Kp (DB g) h h2' := g1.kp.trans (k2.mono fun b _ hb => .inl hb)
    have u2 := k2.at f2 (by show ¬ b2 = g.d; omega)
    refine ⟨fun hz => ?_, fun hz => ⟨fun _ => ?_, fun h0 => by cases h0⟩⟩
    · refine ⟨57, Tryz.f57, _, [.pointer (some (Addr.mk b2 0 none))], rfl, Tryz.func57, rfl, Tryz.nn57, ?_⟩
      apply D_disk_Disk_SyncNames_2.sound
      unfold D_disk_Disk_SyncNames_2
      refine ⟨_, cell1 u2, _, cell1 u2, (Tryz.c_now (g := { g with D := g.D.struck }) r2 okS (by omega)).mono ?_⟩
      rintro v h6 ⟨b, rfl, hb, o6, g6⟩
      have r6 := r2.g g6
      refine ⟨_, rfl, g6.cell (cell1 u2) id, ?_⟩
      have hlen : (g.D.now).length ≤ 68719476000 := by
        have := namesA_length g.D.turns g.D.safe
        have := ok.names
        unfold DiskA.now
        omega
      have z := kDB.size
      refine (Tryz.c_settle (g := { g with D := g.D.struck }) (g0 := g) (h0 := h) r6 o6 (fun hx => by have := lt b hx; omega) (by omega) rfl (kDB.trans g6.kp) (fun b hb => .inl hb) hlen).mono ?_
      rintro v h10 ⟨rfl, hg⟩
      refine ⟨_, rfl, ?_⟩
      unfold DiskA.syncNamesA Tryz.Did
      rw [if_neg (by rw [e]; decide), if_neg (by rw [hz]; simp)]
      exact ⟨rfl, hg⟩
    · unfold DiskA.syncNamesA Tryz.Did
      rw [if_neg (by rw [e]; decide), if_pos hz]
      exact ⟨rfl, ⟨{ g with D := g.D.struck }, rfl, rfl, r2, fun b hb => .inl hb, kDB⟩⟩
  refine main.mono ?_
  rintro v h' ⟨rfl, hg⟩
  exact ⟨_, rfl, rfl, hg⟩
end Go.Proofs
set_option linter.unusedVariables false
set_option linter.unusedSimpArgs false
namespace Go.Proofs
open Go Go.V Go.Disk
theorem NmAt_short {h : Hp} {b : Nat} {m : Nm} (o : NmAt Tryz.prog 9 3 h b m) : ∀ p ∈ m, p.1.length ≤ maxLen := by
  intro p hp
  let w : World := { (default : World) with heap := h }
  have ho : w.ownsMap Tryz.prog 9 (plainElem Tryz.prog 3) b m.length m.D := MapOn.iff.2 o
  obtain ⟨es, e1, e2⟩ := World.ownsMap.keysOf ho
  simp only [Nm.D, DataW.map.injEq] at e1
  have : ((Lit.string p.1, DataW.lit (.int .i64 p.2)) : Lit × DataW Unit) ∈ es := by rw [← e1]; exact List.mem_map.2 ⟨p, hp, rfl⟩
  obtain ⟨v, hv⟩ := e2 _ this
  obtain ⟨x, _, hx, hl⟩ := Maps.keyOf_str Tryz.underlying9 hv
  cases hx
  exact hl

/-- A file as it is told. -/
structure Fb where
  name : List UInt8
  A : Option Addr
  n : Nat
  c : Nat
  data : List UInt8
def Fb.vs (q : List Fb) : List Value := q.flatMap fun x => [sv x.name, .slice x.A x.n x.c]
/-- Files as they are told: new memory from block B on. -/
def Tryz.FilesR (h : Hp) (B : Nat → Prop) (A : Option Addr) (n c : Nat) (l : List (List UInt8 × List UInt8)) : Prop :=
  ∃ q : List Fb, n = q.length ∧ OwnS h 61 2 A n c (Fb.vs q) ∧ (∀ x ∈ q, OwnS h 5 1 x.A x.n x.c (x.data.map bv) ∧ ∀ b, inA x.A b → B b) ∧ (∀ b, inA A b → B b) ∧ l = q.map fun x => (x.name, x.data)
theorem Tryz.FilesR.kp {W : Nat → Prop} {h h' : Hp} {B : Nat → Prop} {A : Option Addr} {n c : Nat} {l : List (List UInt8 × List UInt8)} (o : Tryz.FilesR h B A n c l) (k : Kp W h h') (hn : ∀ b, B b → b < h.size → ¬ W b) : Tryz.FilesR h' B A n c l := by
  obtain ⟨q, h1, h2, h3, h4, h5⟩ := o
  exact ⟨q, h1, h2.kp k fun b hb => hn b (h4 b hb) (h2.lt b hb), fun x hx => ⟨(h3 x hx).1.kp k fun b hb => hn b ((h3 x hx).2 b hb) ((h3 x hx).1.lt b hb), (h3 x hx).2⟩, h4, h5⟩
theorem Tryz.FilesR.mono {h : Hp} {B B' : Nat → Prop} {A : Option Addr} {n c : Nat} {l : List (List UInt8 × List UInt8)} (o : Tryz.FilesR h B A n c l) (hB : ∀ b, B b → B' b) : Tryz.FilesR h B' A n c l := by
  obtain ⟨q, h1, h2, h3, h4, h5⟩ := o
  exact ⟨q, h1, h2, fun x hx => ⟨(h3 x hx).1, fun b hb => hB b ((h3 x hx).2 b hb)⟩, fun b hb => hB b (h4 b hb), h5⟩
def Tryz.BytesNew (B : Nat → Prop) (h : Hp) (l : List UInt8) (v : Value) (h' : Hp) : Prop := ∃ A n c, v = .slice A n c ∧ OwnS h' 5 1 A n c (l.map bv) ∧ Grow h h' ∧ (∀ b, inA A b → B b)
theorem Tryz.c_told {h : Hp} {P : Nat → Prop} {mp : Option Nat} {m : Nm} {f : Value} {data : Int → List UInt8} (o : Tryz.NmR h mp m) (hb : m.length ≤ 68719476000) (hP : ∀ b, h.size ≤ b → P b)
    (hf : ∀ h', Grow h h' → ∀ p ∈ m, CHV Tryz.prog f [.int .i64 p.2] h' (Tryz.BytesNew P h' (data p.2))) :
    CH Tryz.prog 70 #[.map mp, f] h fun v h' => ∃ A n c, v = .slice A n c ∧ Tryz.FilesR h' P A n c (m.map fun p => (p.1, data p.2)) ∧ Grow h h' := by
  apply D_disk_told.sound
  unfold D_disk_told
  have hok := o.ok
  refine Tryz.c_sortedKeys o (by omega) fun KA Kn Kc h7 hKn oK g7 fK => ?_
  refine ⟨_, _, _, rfl, ?_⟩
  have s7 := g7.size
  refine ⟨fun jA jn jc j h' mm => 0 ≤ j ∧ j ≤ Kn ∧ mm = Kn - j.toNat ∧ Grow h7 h' ∧ jn = j.toNat ∧ (∀ b, inA jA b → h7.size ≤ b) ∧ Tryz.FilesR h' P jA jn jc ((m.take j.toNat).map fun p => (p.1, data p.2)),
    ⟨Kn, by omega, by omega, by simp, Kp.rfl', rfl, (fun b hb => (inA_none hb).elim), [], rfl, OwnS.nil _ _ _, (fun x hx => by cases hx), (fun b hb => (inA_none hb).elim), rfl⟩, ?_⟩
  rintro jA jn jc j h11 mm ⟨h0, hj, rfl, g11, hjn, hqA, q, hq, oq, hqd, hqP, hql⟩
  unfold D_disk_told.L2
  refine ⟨fun e => ?_, fun e => ?_⟩
  · have hlt := dec_t e
    have hi : j.toNat < m.length := by omega
    have oK11 := (oK.src).g g11
    obtain ⟨a, rfl⟩ := oK11.addr (by omega)
    have hg : (m.map fun p => sv p.1)[j.toNat]? = some (sv m[j.toNat].1) := by simp [hi]
    refine ⟨a, rfl, h0, hlt, ⟨m[j.toNat].1.toArray⟩, by rw [Nat.mul_one]; exact oK11.get hg, m[j.toNat].2, ?_⟩
    have o11 := o.kp (g7.trans g11) (W := fun _ => False) fun _ _ => id
    have hmem : m[j.toNat] ∈ m := List.getElem_mem hi
    rcases o11 with ⟨_, e0⟩ | ⟨b, e0, oN⟩
    · rw [e0] at hi; cases hi
    subst e0
    have hsh : (ByteArray.mk m[j.toNat].1.toArray).size ≤ maxLen := by
      have := NmAt_short oN _ hmem
      simpa [ByteArray.size] using this
    have hget : m.get (bl ⟨m[j.toNat].1.toArray⟩) = some m[j.toNat].2 := by
      refine Nm.get_of_mem hok ?_
      simp only [bl]
      exact hmem
    refine ⟨?_, ?_⟩
    · have := NmAt.look1 Tryz.underlying9 Tryz.underlying3 Tryz.underlying101 oN Tryz.z3 hsh
      unfold bl at hget
      rw [hget] at this
      exact this
    refine (hf h11 (g7.trans g11) _ hmem).mono ?_
    rintro v h23 ⟨A, n, c, rfl, oA, g23, fA⟩
    refine ⟨_, _, _, rfl, fun b26 h25 eb eh => ?_⟩
    obtain ⟨f25, g25, s25, _⟩ := boxed eb eh
    have s23 := g23.size
    have s25' := g25.size
    have s11 := g11.size
    refine app1 (xs := [sv m[j.toNat].1, .slice A n c]) f25 rfl (fun v hv => by simp at hv; rcases hv with rfl | rfl <;> rfl) (oq.kp (g23.trans g25) fun _ _ => id) rfl (by omega) (by omega) fun A2 c2 h8 o1 k1 e1 => ?_
    have k18 : Kp (fun _ => False) h7 h8 := ((g11.trans g23).trans g25).trans' k1 fun k hk hx => by have := hqA k hx; omega
    rw [inc64 h0 hlt (by omega)]
    refine ⟨_, ?_, by omega, by omega, rfl, k18, by omega, ?_, q ++ [⟨m[j.toNat].1, A, n, c, data m[j.toNat].2⟩], by simp; omega, ?_, ?_, ?_, ?_⟩
    · rw [toNat_inc h0]; omega
    · intro b hb
      rcases app_in e1 b hb with hx | hx
      · exact hqA b hx
      · omega
    · unfold Fb.vs at o1 ⊢
      rw [List.flatMap_append]
      exact o1
    · intro x hx
      rcases List.mem_append.1 hx with hx | hx
      · have := hqd x hx
        refine ⟨(this.1.kp (g23.trans g25) fun _ _ => id).kp k1 fun b hb hb2 => ?_, this.2⟩
        have := ((this.1.kp (g23.trans g25) fun _ _ => id).tag.apart (oq.kp (g23.trans g25) fun _ _ => id).tag (by decide)) b hb
        exact this hb2
      · rw [List.mem_singleton.1 hx]
        refine ⟨(oA.kp g25 fun _ _ => id).kp k1 fun b hb hb2 => ?_, fun b hb => fA b hb⟩
        exact ((oA.kp g25 fun _ _ => id).tag.apart (oq.kp (g23.trans g25) fun _ _ => id).tag (by decide)) b hb hb2
    · intro b hb
      rcases app_in e1 b hb with hx | hx
      · exact hqP b hx
      · exact hP b (by omega)
    · rw [toNat_inc h0, List.take_add_one, List.getElem?_eq_getElem hi, List.map_append, hql, List.map_append]
      rfl
  · have hge := dec_f e
    unfold D_disk_told.J1
    have : m.take j.toNat = m := List.take_of_length_le (by omega)
    rw [this] at hql
    exact ⟨jA, jn, jc, rfl, ⟨q, hq, oq, hqd, hqP, hql⟩, g7.trans g11⟩
end Go.Proofs
set_option linter.unusedVariables false
set_option linter.unusedSimpArgs false
namespace Go.Proofs
open Go Go.V Go.Disk
/-- A disk goes on; its blocks are none of these. -/
def Tryz.GoesV (V : Nat → Prop) (h : Hp) (g : DG) (D' : DiskA) (h' : Hp) : Prop := ∃ g', g'.d = g.d ∧ g'.D = D' ∧ Tryz.DR h' g' ∧ (∀ b, DB g' b → DB g b ∨ h.size ≤ b) ∧ (∀ b, V b → ¬ DB g' b) ∧ Kp (DB g) h h'
theorem Tryz.Goes.none {h h' : Hp} {g : DG} {D' : DiskA} (x : Tryz.Goes h g D' h') : Tryz.GoesV (inA none) h g D' h' := by
  obtain ⟨g', e1, e2, r, b, k⟩ := x
  exact ⟨g', e1, e2, r, b, fun b hb => (inA_none hb).elim, k⟩

theorem Tryz.c_New {h : Hp} (room files : Int) :
    CH Tryz.prog 22 #[.int .i64 room, .int .i64 files] h fun v h' =>
      ((room < 0 ∨ room > 4194304 ∨ files < 0 ∨ files > 512) ∧ v = .tuple #[.pointer none, .int .i64 1] ∧ h' = h) ∨
      (¬ (room < 0 ∨ room > 4194304 ∨ files < 0 ∨ files > 512) ∧ ∃ g, v = .tuple #[.pointer (some ⟨g.d, 0, none⟩), .int .i64 0] ∧ g.D = newA room files ∧ Tryz.DR h' g ∧ (∀ b, DB g b → h.size ≤ b) ∧ Grow h h') := by
  apply D_disk_New.sound
  unfold D_disk_New
  have key : ∀ t : Bool, (t = true ↔ (room < 0 ∨ room > 4194304 ∨ files < 0 ∨ files > 512)) → D_disk_New.J1 (fun v h' =>
      ((room < 0 ∨ room > 4194304 ∨ files < 0 ∨ files > 512) ∧ v = .tuple #[.pointer none, .int .i64 1] ∧ h' = h) ∨
      (¬ (room < 0 ∨ room > 4194304 ∨ files < 0 ∨ files > 512) ∧ ∃ g, v = .tuple #[.pointer (some ⟨g.d, 0, none⟩), .int .i64 0] ∧ g.D = newA room files ∧ Tryz.DR h' g ∧ (∀ b, DB g b → h.size ≤ b) ∧ Grow h h')) room files t h := by
    intro t ht
    unfold D_disk_New.J1
    refine ⟨fun e => .inl ⟨ht.1 e, rfl, rfl⟩, fun e => ?_⟩
    intro b5 h4 eb eh
    obtain ⟨f, g4, s4, _⟩ := boxed eb eh
    refine .inr ⟨(fun x => by rw [ht.2 x] at e; cases e), ⟨b5, none, none, none, 0, none, 0, none, 0, [], newA room files⟩, rfl, rfl, ?_, ?_, g4⟩
    · refine ⟨f, .inl ⟨rfl, rfl⟩, .inl ⟨rfl, rfl⟩, OwnS.nil _ _ _, ⟨rfl, rfl⟩, Tag.none _ _, ⟨rfl, rfl⟩, Tag.none _ _, fun p hp => (by cases hp), rfl, List.Pairwise.nil, fun b hb => by cases hb⟩
    · rintro b (rfl | hb | hb | hb | hb | hb | ⟨p, hp, hb⟩)
      · exact s4
      · cases hb
      · cases hb
      · exact (inA_none hb).elim
      · exact (inA_none hb).elim
      · exact (inA_none hb).elim
      · cases hp
  refine ⟨fun e => ?_, fun e => ⟨fun e1 => ?_, fun e1 => ⟨fun e2 => ?_, fun e2 => ?_⟩⟩⟩
  · exact key _ (by simp at e; simp [e])
  · exact key _ (by simp at e e1; simp [e1])
  · exact key _ (by simp at e e1 e2; simp [e2])
  · exact key _ (by simp at e e1 e2 ⊢; omega)

theorem Tryz.c_Read {h : Hp} {g : DG} {N : Nat} (r : Tryz.DR h g) (ok : g.D.ok N) (hN : N < 1073741824) (s : ByteArray) :
    CH Tryz.prog 18 #[.pointer (some ⟨g.d, 0, none⟩), .string s] h fun v h' => ∃ A n c, v = .tuple #[.slice A n c, .int .i64 (g.D.readA s).1.2] ∧ BS h' A n (g.D.readA s).1.1 ∧ Tag h' A 5 ∧ (∀ b, inA A b → h.size ≤ b) ∧ (A = none → n = 0) ∧ Tryz.GoesV (inA A) h g (g.D.readA s).2 h' := by
  apply D_disk_Disk_Read.sound
  unfold D_disk_Disk_Read
  have none_ : ∀ (h' : Hp) (e : Int) (D' : DiskA), g.D.readA s = (([], e), D') → Tryz.Goes h g D' h' → ∃ A n c, (Value.tuple #[.slice none 0 0, .int .i64 e]) = .tuple #[.slice A n c, .int .i64 (g.D.readA s).1.2] ∧ BS h' A n (g.D.readA s).1.1 ∧ Tag h' A 5 ∧ (∀ b, inA A b → h.size ≤ b) ∧ (A = none → n = 0) ∧ Tryz.GoesV (inA A) h g (g.D.readA s).2 h' := by
    intro h' e D' he hg
    rw [he]
    exact ⟨none, 0, 0, rfl, BS.nil _, Tag.none _ _, fun b hb => (inA_none hb).elim, fun _ => rfl, hg.none⟩
  refine ⟨fun e => Bool.noConfusion e, fun _ => ⟨_, rfl, g.D.off, (cell_add r.blk 0 10).trans rfl, fun e => ?_, fun e => ?_⟩⟩
  · exact none_ h 11 g.D (by unfold DiskA.readA; rw [if_pos e]) (Tryz.Goes.still r Kp.rfl')
  refine (Tryz.c_there' r ok (by omega) s).mono ?_
  rintro v h8 ⟨g8, p, rfl, hp⟩
  have r8 := r.g g8
  refine ⟨_, _, rfl, fun e1 => ?_, fun e1 => ?_⟩
  · have e1 : g.D.thereE s ≠ 0 := by simpa using e1
    exact none_ h8 _ g.D (by unfold DiskA.readA; rw [if_neg (by rw [e]; decide), if_pos e1]) (Tryz.Goes.still r g8)
  have e1 : g.D.thereE s = 0 := by simpa using e1
  obtain ⟨F, hF, rfl⟩ := hp e1
  refine ⟨_, (cell_add r8.blk 0 9).trans rfl, wr_add r8.blk (by simp [DG.cells]), fun h13 e13 => ?_⟩
  have hcnt := ok.cnt1
  have hw : IntKind.i64.wrap (g.D.reads + 1) = g.D.reads + 1 := w64 (by omega) (by omega)
  rw [hw] at e13
  have hb := setc_add r8.blk 0 9 (.int .i64 (g.D.reads + 1))
  have kk := Kp.setc h8 ((Addr.mk g.d 0 none).add 9) (.int .i64 (g.D.reads + 1))
  rw [← e13] at hb kk
  rw [add_block] at kk
  let g1 : DG := { g with D := { g.D with reads := g.D.reads + 1 } }
  have hb1 : h13[g.d]? = some (.cells g1.cells 104 (0, 0)) := by rw [hb]; simp [DG.cells, g1]
  have r13 : Tryz.DR h13 g1 := r8.scalar kk hb1 rfl rfl rfl rfl rfl rfl rfl rfl rfl rfl rfl rfl rfl
  refine ⟨g.rA, _, g.rc, ?_, _, (cell_add r13.blk 0 9).trans rfl, (Tryz.c_fault (g.D.reads + 1) rfl r13.pr ok.plan0.2).mono ?_⟩
  · rw [add_add]; exact (cell_add r13.blk 0 7).trans rfl
  rintro v h20 ⟨rfl, g20⟩
  have r20 := r13.g g20
  refine ⟨_, rfl, (Tryz.c_fails (g := g1) r20 _).mono ?_⟩
  rintro v h23 ⟨rfl, r23, k23⟩
  have kDB : Kp (DB g) h h23 := ((g8.kp.trans (kk.mono fun b _ hb => .inl hb)).trans g20.kp).trans (k23.mono fun b _ hb => .inl hb)
  refine ⟨_, rfl, fun e2 => ?_, fun e2 => ?_⟩
  · have e2 : failErr g.D.kindR ≠ 0 := bne_iff_ne.1 e2
    exact none_ h23 _ _ (by unfold DiskA.readA; rw [if_neg (by rw [e]; decide), if_neg (by rw [e1]; simp), if_pos e2]; rfl) ⟨{ g1 with D := DiskA.failed g1.D g.D.kindR }, rfl, rfl, r23, fun b hb => .inl hb, kDB⟩
  have e2 : failErr g.D.kindR = 0 := by have := bne_eq_false_iff_eq.1 e2; exact this
  obtain ⟨hfd, hfm⟩ := fileD_eq r ok hF
  have hlen : F.f.lens.2 ≤ 4194304 := ok.lens hfm
  have hpd : F.f.pend.length ≤ N := ok.pend _ hfm
  refine (Tryz.c_bytes (r23.fr _ hF) (by show F.f.pend.length ≤ _; omega) (by show F.f.lens.2 ≤ _; omega)).mono ?_
  rintro v h27 ⟨A, n, c, rfl, oA, g27, fA⟩
  refine ⟨_, _, _, rfl, ?_⟩
  have hk : g.D.kindR ≠ 1 := fun hx => by rw [hx] at e2; exact absurd e2 (by decide)
  have hrd : g.D.readA s = ((F.f.bytes, 0), { g.D with reads := g.D.reads + 1 }) := by
    unfold DiskA.readA
    rw [if_neg (by rw [e]; decide), if_neg (by rw [e1]; simp), if_neg (by rw [e2]; simp), hfd]
  rw [hrd]
  have hl : (F.f.bytes.map bv).length = n * 1 := oA.src.len
  rw [List.length_map] at hl
  refine ⟨A, n, c, rfl, ⟨by show n = F.f.bytes.length; omega, by have := oA.src; rwa [Nat.mul_one] at this⟩, oA.tag, fun b hb => by have := fA b hb; have := kDB.size; omega, fun hx => ?_, ?_⟩
  · subst hx
    have := oA.src.2
    simp at this
    simp [this] at hl
    omega
  · have hD : DiskA.failed g1.D g.D.kindR = g1.D := by unfold DiskA.failed; simp [hk]
    exact ⟨{ g1 with D := DiskA.failed g1.D g.D.kindR }, rfl, hD, r23.g g27, fun b hb => .inl hb, fun b hb hx => by have := fA b hb; have := Tryz.DB_lt r23 b hx; omega, kDB.trans g27.kp⟩

theorem Tryz.c_List {h : Hp} {g : DG} {N : Nat} (r : Tryz.DR h g) (ok : g.D.ok N) (hN : N < 1073741824) :
    CH Tryz.prog 26 #[.pointer (some ⟨g.d, 0, none⟩)] h fun v h' => ∃ A n c, v = .tuple #[.slice A n c, .int .i64 g.D.listA.2] ∧ OwnS h' 9 1 A n c (g.D.listA.1.map sv) ∧ Grow h h' ∧ (∀ b, inA A b → h.size ≤ b) := by
  apply D_disk_Disk_List.sound
  unfold D_disk_Disk_List
  refine ⟨fun e => Bool.noConfusion e, fun _ => ⟨_, rfl, g.D.off, (cell_add r.blk 0 10).trans rfl, fun e => ?_, fun e => ?_⟩⟩
  · have : g.D.listA = ([], 11) := by unfold DiskA.listA; rw [if_pos e]
    rw [this]
    exact ⟨none, 0, 0, rfl, OwnS.nil _ _ _, Kp.rfl', fun b hb => (inA_none hb).elim⟩
  have : g.D.listA = (g.D.now.map (·.1), 0) := by unfold DiskA.listA; rw [if_neg (by rw [e]; decide)]
  rw [this]
  refine (Tryz.c_now r ok (by omega)).mono ?_
  rintro v h8 ⟨b, rfl, hb, o, g8⟩
  have hl := namesA_length g.D.turns g.D.safe
  have hnm := ok.names
  refine ⟨_, rfl, Tryz.c_sortedKeys (.inr ⟨b, rfl, o⟩) (by show (namesA g.D.safe g.D.turns).length ≤ _; omega) fun KA Kn Kc h14 hKn oK g14 fK => ?_⟩
  have := g8.size
  refine ⟨_, _, _, rfl, KA, Kn, Kc, rfl, by rw [List.map_map]; exact oK, g8.trans g14, fun b hb => by have := fK b hb; omega⟩

/-- Where a file's number is looked up in a closure. -/
theorem Tryz.look_now {h : Hp} {g : DG} {N : Nat} (r : Tryz.DR h g) (ok : g.D.ok N) {i : Int} (hi : i ∈ g.D.lives) : ∃ F, (i, F) ∈ g.fl ∧ g.D.fileD i = F.f := by
  obtain ⟨f, h1, h2⟩ := file_mem ok hi
  obtain ⟨F, h3, rfl⟩ := fl_mem r h1
  exact ⟨F, h3, (fileD_eq r ok h3).1⟩
theorem safe_lives (D : DiskA) : ∀ p ∈ D.safe, p.2 ∈ D.lives := fun p hp => mem_ascOf.2 (List.mem_append.2 (.inl (List.mem_map.2 ⟨p, hp, rfl⟩)))

theorem Tryz.c_Files {h : Hp} {g : DG} {N : Nat} (r : Tryz.DR h g) (ok : g.D.ok N) (hN : N < 1073741824) :
    CH Tryz.prog 35 #[.pointer (some ⟨g.d, 0, none⟩)] h fun v h' => ∃ A n c, v = .slice A n c ∧ Tryz.FilesR h' (h.size ≤ ·) A n c g.D.filesA ∧ Grow h h' := by
  apply D_disk_Disk_Files.sound
  unfold D_disk_Disk_Files
  intro b2 h1 eb eh
  obtain ⟨f2, g1, s2, _⟩ := boxed eb eh
  have r1 := r.g g1
  refine ⟨_, cell1 f2, fun e => Bool.noConfusion e, fun _ => ⟨_, cell1 f2, (Tryz.c_now r1 ok (by omega)).mono ?_⟩⟩
  rintro v h9 ⟨b, rfl, hb, o, g9⟩
  have hl := namesA_length g.D.turns g.D.safe
  have hnm := ok.names
  have z1 := g1.size
  have z9 := g9.size
  refine ⟨_, rfl, (Tryz.c_told (m := g.D.now) (P := (h.size ≤ ·)) (data := fun i => (g.D.fileD i).bytes) (.inr ⟨b, rfl, o⟩) (by show (namesA g.D.safe g.D.turns).length ≤ _; omega) (fun b hb => by show h.size ≤ b; omega) ?_).mono ?_⟩
  · intro h' gg p hp
    have zg := gg.size
    have r' := (r1.g g9).g gg
    have f2' := gg.g (g9.g f2)
    refine ⟨90, Tryz.f90, _, [.pointer (some (Addr.mk b2 0 none))], rfl, Tryz.func90, rfl, Tryz.nn90, ?_⟩
    apply D_disk_Disk_Files_1.sound
    unfold D_disk_Disk_Files_1
    obtain ⟨F, hF, hfd⟩ := Tryz.look_now r' ok (now_lives g.D p hp)
    obtain ⟨_, hfm⟩ := fileD_eq r' ok hF
    have hlen : F.f.lens.2 ≤ 4194304 := ok.lens hfm
    have hpd : F.f.pend.length ≤ N := ok.pend _ hfm
    refine ⟨_, cell1 f2', _, rfl, _, (cell_add r'.blk 0 3).trans rfl, _, Tryz.look_file r' ok (by omega) hF, ?_⟩
    refine (Tryz.c_bytes (r'.fr _ hF) (by show F.f.pend.length ≤ _; omega) (by show F.f.lens.2 ≤ _; omega)).mono ?_
    rintro v h27 ⟨A, n, c, rfl, oA, g27, fA⟩
    exact ⟨_, _, _, rfl, A, n, c, rfl, by rw [hfd]; exact oA, g27, fun b hb => by have := fA b hb; show h.size ≤ b; omega⟩
  · rintro v h12 ⟨A, n, c, rfl, hq, g12⟩
    exact ⟨_, _, _, rfl, A, n, c, rfl, hq, (g1.trans g9).trans g12⟩

theorem Tryz.c_Safe {h : Hp} {g : DG} {N : Nat} (r : Tryz.DR h g) (ok : g.D.ok N) (hN : N < 1073741824) :
    CH Tryz.prog 30 #[.pointer (some ⟨g.d, 0, none⟩)] h fun v h' => ∃ A n c, v = .slice A n c ∧ Tryz.FilesR h' (h.size ≤ ·) A n c g.D.safeA ∧ Grow h h' := by
  apply D_disk_Disk_Safe.sound
  unfold D_disk_Disk_Safe
  intro b2 h1 eb eh
  obtain ⟨f2, g1, s2, _⟩ := boxed eb eh
  have r1 := r.g g1
  have hnm := ok.names
  have z1 := g1.size
  have hcs : cell h1 ((Addr.mk g.d 0 none).add 4) = some (.map g.sm) := (cell_add r1.blk 0 4).trans rfl
  refine ⟨_, cell1 f2, fun e => Bool.noConfusion e, fun _ => ⟨_, cell1 f2, _, rfl, _, hcs, (Tryz.c_told (m := g.D.safe) (P := (h.size ≤ ·)) (data := fun i => (g.D.fileD i).safe) r1.sm (by omega) (fun b hb => by show h.size ≤ b; omega) ?_).mono ?_⟩⟩
  · intro h' gg p hp
    have zg := gg.size
    have r' := r1.g gg
    have f2' := gg.g f2
    refine ⟨88, Tryz.f88, _, [.pointer (some (Addr.mk b2 0 none))], rfl, Tryz.func88, rfl, Tryz.nn88, ?_⟩
    apply D_disk_Disk_Safe_1.sound
    unfold D_disk_Disk_Safe_1
    obtain ⟨F, hF, hfd⟩ := Tryz.look_now r' ok (safe_lives g.D p hp)
    obtain ⟨_, hfm⟩ := fileD_eq r' ok hF
    have hlen : F.f.lens.2 ≤ 4194304 := ok.lens hfm
    have hsl := F.f.safe_le
    have hs := (r'.fr _ hF).safe
    refine ⟨_, cell1 f2', _, rfl, _, (cell_add r'.blk 0 3).trans rfl, _, Tryz.look_file r' ok (by omega) hF, _, rfl, _, _, _, (cell_of (r'.fr _ hF).blk 0).trans rfl, ?_⟩
    refine (Tryz.c_clone_byte hs.2 (one_bv _) (by have h1 : F.sn = F.f.safe.length := hs.1; show F.sn ≤ _; omega)).mono ?_
    rintro v h27 ⟨A, c, rfl, oA, g27, fA⟩
    exact ⟨_, _, _, rfl, A, _, c, rfl, by rw [hfd]; exact oA, g27, fun b hb => by have := fA b hb; show h.size ≤ b; omega⟩
  · rintro v h12 ⟨A, n, c, rfl, hq, g12⟩
    exact ⟨_, _, _, rfl, A, n, c, rfl, hq, g1.trans g12⟩
end Go.Proofs
