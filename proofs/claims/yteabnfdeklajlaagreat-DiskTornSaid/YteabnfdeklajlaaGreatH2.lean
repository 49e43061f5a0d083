/- Part of a proof, by program out of hand-written texts. -/
import Derived.Test.YteabnfdeklajlaaGreatG1
import Derived.Test.YteabnfdeklajlaaGreatG2
import Derived.Test.YteabnfdeklajlaaGreatG3
import Derived.Test.YteabnfdeklajlaaGreatG4
import Derived.Test.YteabnfdeklajlaaGreatG5
import Derived.Test.YteabnfdeklajlaaGreatH1
import Derived.Carry
import Derived.Deep.Slices
import Derived.Deep.Strs
import Derived.OpenShut
import Derived.ProofKit
import Derived.Test.YteabnfdeklajlaaGreatRows
import Derived.WalkKit
set_option linter.unusedVariables false
set_option linter.unusedSimpArgs false
namespace Go.Proofs
open Go Go.V Go.Disk
theorem Tryz.c_Off {h : Hp} {g : DG} (r : Tryz.DR h g) : CH Tryz.prog 36 #[.pointer (some ⟨g.d, 0, none⟩)] h fun v h' => v = .bool g.D.off ∧ h' = h := by
  apply D_disk_Disk_Off.sound
  unfold D_disk_Disk_Off
  exact ⟨fun _ => ⟨_, rfl, g.D.off, (cell_add r.blk 0 10).trans rfl, rfl, rfl⟩, fun e => Bool.noConfusion e⟩
theorem Tryz.c_Strokes {h : Hp} {g : DG} (r : Tryz.DR h g) : CH Tryz.prog 37 #[.pointer (some ⟨g.d, 0, none⟩)] h fun v h' => v = .int .i64 g.D.strokes ∧ h' = h := by
  apply D_disk_Disk_Strokes.sound
  unfold D_disk_Disk_Strokes
  exact ⟨fun e => Bool.noConfusion e, fun _ => ⟨_, rfl, _, (cell_add r.blk 0 8).trans rfl, rfl, rfl⟩⟩
theorem Tryz.c_Reads {h : Hp} {g : DG} (r : Tryz.DR h g) : CH Tryz.prog 38 #[.pointer (some ⟨g.d, 0, none⟩)] h fun v h' => v = .int .i64 g.D.reads ∧ h' = h := by
  apply D_disk_Disk_Reads.sound
  unfold D_disk_Disk_Reads
  exact ⟨fun e => Bool.noConfusion e, fun _ => ⟨_, rfl, _, (cell_add r.blk 0 9).trans rfl, rfl, rfl⟩⟩
theorem lives_is {h : Hp} {A : Option Addr} {n c : Nat} {l : List Int} (hn : n = l.length) (o : OwnS h 3 1 A n c (l.map iv)) : IS h A n l := ⟨hn, by have := o.src; rwa [Nat.mul_one] at this⟩
theorem Tryz.c_Held {h : Hp} {g : DG} {N : Nat} (r : Tryz.DR h g) (ok : g.D.ok N) (hN : N ≤ 1073741824) :
    CH Tryz.prog 28 #[.pointer (some ⟨g.d, 0, none⟩)] h fun v h' => v = .tuple #[.int .i64 g.D.heldA.1, .int .i64 g.D.heldA.2] ∧ Grow h h' := by
  apply D_disk_Disk_Held.sound
  unfold D_disk_Disk_Held
  refine ⟨fun e => Bool.noConfusion e, fun _ => (Tryz.c_lives r ok hN).mono ?_⟩
  rintro v h3 ⟨A, n, c, rfl, hn, o, g3, f3⟩
  refine ⟨_, _, _, rfl, (Tryz.c_held (r.g g3) ok hN (lives_is hn o) (fun i hi => hi) (by have := lives_len ok; omega)).mono ?_⟩
  rintro v h6 ⟨rfl, g6⟩
  refine ⟨_, rfl, ?_, g3.trans g6⟩
  rw [heldOf_lives ok, hn]
  rfl

theorem Tryz.c_Pending {h : Hp} {g : DG} {N : Nat} (r : Tryz.DR h g) (ok : g.D.ok N) (hN : N ≤ 1073741824) :
    CH Tryz.prog 21 #[.pointer (some ⟨g.d, 0, none⟩)] h fun v h' => ∃ A n c, v = .tuple #[.int .i64 g.D.pendingA.1, .slice A n c] ∧ n = g.D.pendingA.2.length ∧ OwnS h' 3 1 A n c (g.D.pendingA.2.map iv) ∧ Grow h h' ∧ (∀ b, inA A b → h.size ≤ b) := by
  apply D_disk_Disk_Pending.sound
  unfold D_disk_Disk_Pending
  refine ⟨fun e => Bool.noConfusion e, fun _ => (Tryz.c_lives r ok hN).mono ?_⟩
  rintro v h9 ⟨LA, Ln, Lc, rfl, hLn, oL, g9, fL⟩
  have hll := lives_len ok
  have z9 := g9.size
  refine ⟨_, _, _, rfl, ⟨fun jA jn jc j h' mm => 0 ≤ j ∧ j ≤ Ln ∧ mm = Ln - j.toNat ∧ Grow h9 h' ∧ jn = j.toNat ∧ OwnS h' 3 1 jA jn jc ((g.D.pendingA.2.take j.toNat).map iv) ∧ (∀ b, inA jA b → h9.size ≤ b), ⟨Ln, by omega, by omega, by simp, Kp.rfl', rfl, OwnS.nil _ _ _, fun b hb => (inA_none hb).elim⟩, ?_⟩⟩
  rintro jA jn jc j h13 mm ⟨h0, hj, rfl, g13, hjn, oq, fq⟩
  have r13 := (r.g g9).g g13
  unfold D_disk_Disk_Pending.L2
  refine ⟨fun e => ?_, fun e => ?_⟩
  · have hlt := dec_t e
    obtain ⟨a, i, rfl, hi, hc⟩ := ((lives_is hLn oL).g g13).get h0 hlt
    obtain ⟨F, hF, hfd⟩ := Tryz.look_now r13 ok (List.mem_of_getElem? hi)
    refine ⟨a, rfl, h0, hlt, i, hc, _, rfl, _, (cell_add r13.blk 0 3).trans rfl, _, Tryz.look_file r13 ok hN hF, _, rfl, _, _, _, (cell_add (r13.fr _ hF).blk 0 1).trans rfl, ?_⟩
    have hpn := (r13.fr _ hF).pn
    intro b33 h32 eb eh
    obtain ⟨f32, g32, s32, _⟩ := boxed eb eh
    have z13 := g13.size
    have z32 := g32.size
    refine app1 (xs := [iv F.pn]) f32 rfl (one_iv [_]) (oq.kp g32 fun _ _ => id) rfl (by omega) (by omega) fun A2 c2 h8 o1 k1 e1 => ?_
    rw [inc64 h0 hlt (by omega)]
    have htake : g.D.pendingA.2.take (j.toNat + 1) = g.D.pendingA.2.take j.toNat ++ [(F.pn : Int)] := by
      rw [List.take_add_one]
      congr 1
      show (g.D.lives.map fun i => ((g.D.fileD i).pend.length : Int))[j.toNat]?.toList = _
      rw [List.getElem?_map, hi]
      simp only [Option.map_some, Option.toList_some]
      rw [hfd, ← hpn]
    refine ⟨_, ?_, by omega, by omega, rfl, (g13.trans g32).trans' k1 fun k hk hx => by have := fq k hx; omega, by omega, ?_, ?_⟩
    · rw [toNat_inc h0]; omega
    · rw [toNat_inc h0, htake, List.map_append]
      exact o1
    · intro b hb
      rcases app_in e1 b hb with hx | hx
      · exact fq b hx
      · omega
  · have hge := dec_f e
    unfold D_disk_Disk_Pending.J1
    have hlen : g.D.pendingA.2.length = g.D.lives.length := by simp [DiskA.pendingA]
    rw [List.take_of_length_le (by omega)] at oq
    exact ⟨_, rfl, _, _, _, (cell_add r13.blk 0 5).trans rfl, jA, jn, jc, rfl, by omega, oq, g9.trans g13, fun b hb => by have := fq b hb; omega⟩

theorem Tryz.c_Plan {h : Hp} {g : DG} {A B : Option Addr} {n c m d : Nat} {l q : List (Int × Int)} (r : Tryz.DR h g) (hn : n = l.length) (hm : m = q.length) (h1 : Src h (n * 2) (faultV l) A) (h2 : Src h (m * 2) (faultV q) B) (hnb : n ≤ 1099511627776) (hmb : m ≤ 1099511627776) :
    CH Tryz.prog 16 #[.pointer (some ⟨g.d, 0, none⟩), .agg #[.slice A n c, .slice B m d]] h fun v h' => v = .tuple #[] ∧ Tryz.Goes h g (g.D.planA l q) h' := by
  apply D_disk_Disk_Plan.sound
  unfold D_disk_Disk_Plan
  intro b2 h1' eb eh
  obtain ⟨f2, g2, s2, _⟩ := boxed eb eh
  refine ⟨fun e => Bool.noConfusion e, fun _ => ⟨_, _, _, (cell_of f2 0).trans rfl, _, _, _, (cell_add f2 0 1).trans rfl, (Tryz.c_clone_fault (h1.g g2) (one_faultV _) hnb).mono ?_⟩⟩
  rintro v h9 ⟨A', c', rfl, oA, g9, fA⟩
  have f9 := g9.g f2
  refine ⟨_, _, _, rfl, (cell_add f9 0 1).trans rfl, (Tryz.c_clone_fault ((h2.g g2).g g9) (one_faultV _) hmb).mono ?_⟩
  rintro v h13 ⟨B', d', rfl, oB, g13, fB⟩
  have g03 := (g2.trans g9).trans g13
  have r13 := r.g g03
  refine ⟨_, _, _, rfl, _, rfl, ?_, ?_⟩
  · intro j hj
    rw [add_add]
    exact wr_add r13.blk (by simp [DG.cells]; omega)
  intro h17 e17
  rw [add_mk] at e17
  have b17 := setRow_at (0 + 6) [.slice A' n c', .slice B' m d'] 0 _ _ r13.blk
  have k17 := setRow_kp ⟨g.d, 0 + 6, none⟩ [.slice A' n c', .slice B' m d'] 0 h13
  rw [← e17] at b17 k17
  refine ⟨wr_add b17 (by rw [over_size]; simp [DG.cells]), fun h19 e19 => ?_⟩
  have b19 := setc_add b17 0 8 (.int .i64 0)
  have k19 := Kp.setc h17 ((Addr.mk g.d 0 none).add 8) (.int .i64 0)
  rw [← e19] at b19 k19
  refine ⟨wr_add b19 (by simp [over_size, DG.cells]), fun h21 e21 => ?_⟩
  have b21 := setc_add b19 0 9 (.int .i64 0)
  have k21 := Kp.setc h19 ((Addr.mk g.d 0 none).add 9) (.int .i64 0)
  rw [← e21] at b21 k21
  rw [add_block] at k19 k21
  have k : Kp (· = g.d) h13 h21 := (k17.trans k19).trans k21
  refine ⟨rfl, ?_⟩
  have hnd := r13.ne_d
  have hgd : g.d < h.size := Tryz.DB_lt r _ (.inl rfl)
  have z2 := g2.size
  have z9 := g9.size
  have nA : ∀ b, inA A' b → ¬ b = g.d := fun b hb => by have := fA b hb; omega
  have nB : ∀ b, inA B' b → ¬ b = g.d := fun b hb => by have := fB b hb; omega
  let g' : DG := { g with sA := A', sc := c', rA := B', rc := d', D := g.D.planA l q }
  have oA13 := oA.kp g13 fun _ _ => id
  refine ⟨g', rfl, rfl, ⟨?_, r13.fm.kp k fun x hx => hnd x (.inl hx), r13.sm.kp k fun x hx => hnd x (.inr (.inl hx)), r13.turns.kp k fun x hx => hnd x (.inr (.inr (.inl hx))),
    ?_, oA13.tag.kp k nA, ?_, oB.tag.kp k nB, fun p hp => (r13.fr p hp).kp k fun x hx => hnd x (.inr (.inr (.inr (.inr (.inr ⟨p, hp, hx⟩))))), r13.eq, r13.far, r13.two⟩, ?_, g03.kp.trans (k.mono fun b _ hb => .inl hb)⟩
  · show h21[g.d]? = _
    rw [b21]
    subst hn hm
    simp [DG.cells, over, g', DiskA.planA]
  · have := (oA13.kp k nA).src
    subst hn
    exact this
  · have := (oB.kp k nB).src
    subst hm
    exact this
  · rintro b (hb | hb | hb | hb | hb | hb | hb)
    · exact .inl (.inl hb)
    · exact .inl (.inr (.inl hb))
    · exact .inl (.inr (.inr (.inl hb)))
    · exact .inl (.inr (.inr (.inr (.inl hb))))
    · exact .inr (by have := fA b hb; omega)
    · exact .inr (by have := fB b hb; omega)
    · exact .inl (.inr (.inr (.inr (.inr (.inr (.inr hb))))))
end Go.Proofs
set_option linter.unusedVariables false
set_option linter.unusedSimpArgs false
namespace Go.Disk
open Go Go.V Go.Proofs
def blankT : TurnA := ⟨ByteArray.empty, ByteArray.empty, 0⟩
def leftA (ts : List TurnA) (names : Int) (skipped : List Int) : List TurnA :=
  skipped.foldl (fun l v => l.set (roundA v (roundA names (ts.length + 1))).toNat blankT) (ts.take (roundA names (ts.length + 1)).toNat)
theorem roundA_bounds (v : Int) {n : Int} (hn : 0 < n) : 0 ≤ roundA v n ∧ roundA v n < n := ⟨Int.emod_nonneg _ (by omega), Int.emod_lt_of_pos _ hn⟩
end Go.Disk
namespace Go.Proofs
open Go Go.V Go.Disk
theorem OwnS.setK {h : Hp} {e : TypeId} {sz n c o : Nat} {a : Addr} {vs xs : List Value} (ow : OwnS h e sz (some a) n c vs) (hi : o + xs.length ≤ n * sz) :
    (∀ j, j < xs.length → Wr h ((a.add o).add j)) ∧ OwnS (setRow h (a.add o) xs 0) e sz (some a) n c (vs.take o ++ xs ++ vs.drop (o + xs.length)) ∧ Kp (inA (some a)) h (setRow h (a.add o) xs 0) := by
  obtain ⟨hlen, ⟨hx, _⟩ | ⟨g, cur, hg, hb, hn, hs, ht⟩⟩ := ow
  · cases hx
  cases hg
  have hcs : n * sz ≤ c * sz := Nat.mul_le_mul_right _ hn
  refine ⟨fun j hj => by rw [add_add]; exact wr_add hb (by omega), ⟨?_, .inr ⟨g, over cur o xs, rfl, ?_, hn, by rw [over_size]; exact hs, ?_⟩⟩, (setRow_kp _ xs 0 h).mono fun b _ e => by subst e; rw [add_block]; exact inA_some.2 rfl⟩
  · simp only [List.length_append, List.length_take, List.length_drop]; omega
  · rw [add_mk, Nat.zero_add]
    exact setRow_at o xs 0 cur h hb
  · refine List.ext_getElem? fun j => ?_
    rw [List.getElem?_take, Array.getElem?_toList, over_get]
    have hv : ∀ j, vs[j]? = if j < n * sz then cur[j]? else none := fun j => by rw [← ht, List.getElem?_take, Array.getElem?_toList]
    by_cases h1 : j < o
    · rw [List.append_assoc, List.getElem?_append_left (by rw [List.length_take]; omega), List.getElem?_take, if_pos h1, hv, if_neg (by omega : ¬ (o ≤ j ∧ j < o + xs.length ∧ j < cur.size))]
    · by_cases h2 : j < o + xs.length
      · rw [List.getElem?_append_left (by rw [List.length_append, List.length_take]; omega), List.getElem?_append_right (by rw [List.length_take]; omega), List.length_take, if_pos (by omega : j < n * sz), if_pos (by omega : o ≤ j ∧ j < o + xs.length ∧ j < cur.size)]
        congr 1
        omega
      · rw [List.getElem?_append_right (by rw [List.length_append, List.length_take]; omega), List.length_append, List.length_take, List.getElem?_drop, hv]
        have e1 : o + xs.length + (j - (min o vs.length + xs.length)) = j := by omega
        rw [e1, if_neg (by omega : ¬ (o ≤ j ∧ j < o + xs.length ∧ j < cur.size))]
theorem turnV_set (t : TurnA) : ∀ (l : List TurnA) (i : Nat), i < l.length → turnV (l.set i t) = (turnV l).take (i * 3) ++ [.string t.fr, .string t.to, .int .i64 t.file] ++ (turnV l).drop (i * 3 + 3)
  | [], i, h => by simp at h
  | x :: l, 0, _ => by simp [turnV]
  | x :: l, i + 1, h => by
    have ih := turnV_set t l i (by simpa using h)
    simp only [turnV, List.set_cons_succ, List.flatMap_cons] at ih ⊢
    rw [ih, show (i + 1) * 3 = i * 3 + 1 + 1 + 1 by omega, show i * 3 + 1 + 1 + 1 + 3 = i * 3 + 3 + 1 + 1 + 1 by omega]
    simp only [List.cons_append, List.nil_append, List.take_succ_cons, List.drop_succ_cons]

/-- What picks are. -/
structure PicksA where
  names : Int
  skipped : List Int
  files : List (Int × List Int)

theorem Tryz.c_left {h : Hp} {g : DG} {N : Nat} {sA : Option Addr} {sn sc : Nat} {fA : Option Addr} {fn fc : Nat} {names : Int} {sk : List Int} (r : Tryz.DR h g) (ok : g.D.ok N) (hN : N ≤ 1073741824) (hs : IS h sA sn sk) (hsn : sn ≤ 68719476735) :
    CH Tryz.prog 69 #[.pointer (some ⟨g.d, 0, none⟩), .agg #[.int .i64 names, .slice sA sn sc, .slice fA fn fc]] h fun v h' =>
      ∃ A n c, v = .slice A n c ∧ n = (leftA g.D.turns names sk).length ∧ OwnS h' 107 3 A n c (turnV (leftA g.D.turns names sk)) ∧ Grow h h' ∧ (∀ b, inA A b → h.size ≤ b) := by
  apply D_disk_Disk_left.sound
  unfold D_disk_Disk_left
  intro b2 h1 eb eh
  obtain ⟨f2, g1, s2, _⟩ := boxed eb eh
  have r1 := r.g g1
  have hnm := ok.names
  have z1 := g1.size
  refine ⟨_, (cell_of f2 0).trans rfl, _, rfl, _, _, _, (cell_add r1.blk 0 5).trans rfl, ?_⟩
  have hw : IntKind.i64.wrap (((g.D.turns.length : Nat) : Int) + 1) = (g.D.turns.length : Int) + 1 := w64 (by omega) (by omega)
  rw [hw]
  refine (Tryz.c_round names ((g.D.turns.length : Int) + 1) h1 (by omega) (by omega)).mono ?_
  rintro v h10 ⟨rfl, rfl⟩
  obtain ⟨n0, n1⟩ := roundA_bounds names (n := (g.D.turns.length : Int) + 1) (by omega)
  have hcap := r1.turns.le
  refine ⟨_, rfl, _, _, _, (cell_add r1.blk 0 5).trans rfl, n0, by omega, ?_⟩
  generalize hK : (roundA names ((g.D.turns.length : Int) + 1)).toNat = K
  have hKi : roundA names ((g.D.turns.length : Int) + 1) = K := by omega
  have hsrc : Src h10 (K * 3) ((turnV g.D.turns).take (K * 3)) g.tA := r1.turns.src.take (by omega)
  have htk : ∀ (l : List TurnA) (k : Nat), (turnV l).take (k * 3) = turnV (l.take k) := by
    intro l
    induction l with
    | nil => intro k; simp [turnV]
    | cons x l ih =>
      intro k
      cases k with
      | zero => simp [turnV]
      | succ k =>
        have := ih k
        simp only [turnV, List.flatMap_cons, List.take_succ_cons] at this ⊢
        rw [show (k + 1) * 3 = k * 3 + 1 + 1 + 1 by omega]
        simp only [List.cons_append, List.nil_append, List.take_succ_cons]
        rw [this]
  rw [htk] at hsrc
  refine (Tryz.c_clone_turn hsrc (one_turnV _) (by omega)).mono ?_
  rintro v h17 ⟨A, c, rfl, oA, g17, fA'⟩
  have f17 := g17.g f2
  refine ⟨_, _, _, rfl, _, _, _, (cell_add f17 0 1).trans rfl, ?_⟩
  let stp : List TurnA → Int → List TurnA := fun l v => l.set (roundA v K).toNat blankT
  have hstp : ∀ (q : List Int) (l : List TurnA), (q.foldl stp l).length = l.length := by
    intro q
    induction q with
    | nil => intro l; rfl
    | cons x q ih => intro l; rw [List.foldl_cons, ih]; simp [stp]
  have hleft : leftA g.D.turns names sk = sk.foldl stp (g.D.turns.take K) := by
    unfold leftA
    rw [hKi]
    rfl
  have hKl : (g.D.turns.take K).length = K := by rw [List.length_take]; omega
  have hsl := hs.1
  refine ⟨fun j h' mm => 0 ≤ j ∧ j ≤ sn ∧ mm = sn - j.toNat ∧ Grow h10 h' ∧ OwnS h' 107 3 A K c (turnV ((sk.take j.toNat).foldl stp (g.D.turns.take K))), ⟨sn, by omega, by omega, by simp, g17, oA⟩, ?_⟩
  rintro j h23 mm ⟨h0, hj, rfl, g23, o23⟩
  unfold D_disk_Disk_left.L2
  have hs23 := (hs.g g1).g g23
  refine ⟨fun e => ?_, fun e => ?_⟩
  · have hlt := dec_t e
    obtain ⟨a, v, rfl, hv, hc⟩ := hs23.get h0 hlt
    refine ⟨a, rfl, h0, hlt, v, hc, fun e1 => ?_, fun e1 => ?_⟩
    · have hpos : (0 : Int) < K := by have := dec_t e1; omega
      rw [hKi]
      refine (Tryz.c_round v K h23 hpos (by omega)).mono ?_
      rintro _ h35 ⟨rfl, rfl⟩
      obtain ⟨v0, v1⟩ := roundA_bounds v hpos
      obtain ⟨pa, rfl⟩ := o23.src.addr (by omega)
      have hset := OwnS.setK (o := (roundA v K).toNat * 3) (xs := [.string ByteArray.empty, .string ByteArray.empty, .int .i64 0]) o23 (by simp; omega)
      refine ⟨_, rfl, pa, rfl, v0, v1, hset.1, fun h41 e41 => ?_⟩
      rw [← e41] at hset
      unfold D_disk_Disk_left.J3
      rw [inc64 h0 hlt (by omega)]
      refine ⟨_, ?_, by omega, by omega, rfl, g23.trans' hset.2.2 fun k hk hx => by have := fA' k hx; omega, ?_⟩
      · rw [toNat_inc h0]; omega
      · rw [toNat_inc h0, List.take_add_one, hv, List.foldl_append]
        have hlen : (roundA v K).toNat < ((sk.take j.toNat).foldl stp (g.D.turns.take K)).length := by rw [hstp, hKl]; omega
        have := hset.2.1
        rw [show (roundA v K).toNat * 3 + ([Value.string ByteArray.empty, .string ByteArray.empty, .int .i64 0] : List Value).length = (roundA v K).toNat * 3 + 3 from rfl] at this
        have e2 := turnV_set blankT _ _ hlen
        simp only [blankT] at e2
        rw [← e2] at this
        exact this
    · have hz : K = 0 := by have := dec_f e1; omega
      unfold D_disk_Disk_left.J3
      rw [inc64 h0 hlt (by omega)]
      refine ⟨_, ?_, by omega, by omega, rfl, g23, ?_⟩
      · rw [toNat_inc h0]; omega
      · rw [toNat_inc h0, List.take_add_one, hv, List.foldl_append]
        have hnil : (sk.take j.toNat).foldl stp (g.D.turns.take K) = [] := by
          refine List.eq_nil_of_length_eq_zero ?_
          rw [hstp, hKl, hz]
        rw [hnil] at o23 ⊢
        exact o23
  · have hge := dec_f e
    unfold D_disk_Disk_left.J1
    have hall : sk.take j.toNat = sk := List.take_of_length_le (by omega)
    rw [hall] at o23
    refine ⟨A, _, c, rfl, ?_, ?_, g1.trans g23, fun b hb => by have := fA' b hb; omega⟩
    · rw [hleft, hstp, hKl]
    · rw [hleft]; exact o23
end Go.Proofs
set_option linter.unusedVariables false
set_option linter.unusedSimpArgs false
/-! DD: what a crash does, plain. -/
namespace Go.Disk
open Go Go.V Go.Proofs
def pickAt (pf : List (Int × List Int)) (k : Nat) : Int × List Int := pf[k]?.getD (0, [])
def doneA (f : FileA) (v : Int) : Nat := (roundA v ((f.pend.length : Int) + 1)).toNat
def wholeF (f : FileA) (pk : Int × List Int) : List UInt8 := (f.row (doneA f pk.1)).map (·.1)
def lostF (f : FileA) (pk : Int × List Int) : List UInt8 := (loseA (f.row (doneA f pk.1)) pk.2).map (·.1)
def crashF (l : List (Int × FileA)) (pf : List (Int × List Int)) (j : Nat) : List (Int × FileA) := l.mapIdx fun k p => if k < j then (p.1, ⟨lostF p.2 (pickAt pf k), []⟩) else p
def wholesA (l : List (Int × FileA)) (pf : List (Int × List Int)) : List (Int × List UInt8) := l.mapIdx fun k p => (p.1, wholeF p.2 (pickAt pf k))
def wholeOf (l : List (Int × FileA)) (pf : List (Int × List Int)) (i : Int) : List UInt8 := (((wholesA l pf).find? fun p => p.1 == i).map (·.2)).getD []
def DiskA.crashN (D : DiskA) (pf : List (Int × List Int)) (j : Nat) : DiskA := { D with files := crashF D.files pf j }
def DiskA.crashA (D : DiskA) (P : PicksA) : DiskA :=
  DiskA.planA { (D.crashN P.files D.files.length).settleA (namesA D.safe (leftA D.turns P.names P.skipped)) with off := false } [] []
def DiskA.crashT (D : DiskA) (P : PicksA) : List (List UInt8 × List UInt8) := (D.crashA P).safe.map fun p => (p.1, wholeOf D.files P.files p.2)

theorem doneA_le (f : FileA) (v : Int) : doneA f v ≤ f.pend.length := by
  have := roundA_bounds v (n := (f.pend.length : Int) + 1) (by omega)
  unfold doneA
  omega
theorem loseA_length (r : Rw) (l : List Int) : (loseA r l).length = r.length := by
  unfold loseA
  split
  · rfl
  · have : ∀ (l : List Int) (q : Rw), (l.foldl (fun r v => loseAt r (sectorsOf r.length) v) q).length = q.length := by
      intro l
      induction l with
      | nil => intro q; rfl
      | cons x l ih => intro q; rw [List.foldl_cons, ih, loseAt_length]
    exact this l r
theorem sumA_append (a b : List (Int × FileA)) : sumA (a ++ b) = sumA a + sumA b := by
  induction a with
  | nil => simp [sumA]
  | cons x a ih => simp only [List.cons_append, sumA, ih]; omega
theorem sumA_set {l : List (Int × FileA)} (hp : l.Pairwise fun p q => p.1 < q.1) {i : Int} {f f' : FileA} (h : (i, f) ∈ l) : sumA (l.map fun p => if p.1 = i then (p.1, f') else p) + f.lens.2 = sumA l + f'.lens.2 := by
  induction l with
  | nil => cases h
  | cons q l ih =>
    have hq := List.pairwise_cons.1 hp
    simp only [List.map_cons, sumA]
    rcases List.mem_cons.1 h with h3 | h3
    · have hrest : (l.map fun p => if p.1 = i then (p.1, f') else p) = l := by
        conv => rhs; rw [← List.map_id l]
        refine List.map_congr_left fun p hpm => ?_
        have := hq.1 p hpm
        rw [← h3] at this
        rw [if_neg (by simp at this; omega)]
        rfl
      rw [hrest, ← h3]
      simp
      omega
    · have := hq.1 _ h3
      rw [if_neg (by simp at this; omega)]
      have := ih hq.2 h3
      omega
theorem setF_ids (D : DiskA) (i : Int) (f : FileA) : (D.setF i f).files.map (·.1) = D.files.map (·.1) := by
  unfold DiskA.setF
  rw [List.map_map]
  refine List.map_congr_left fun p _ => ?_
  simp only [Function.comp]
  split <;> rfl
theorem ok_setF {N : Nat} {D : DiskA} (ok : D.ok N) {i : Int} {f f' : FileA} (hf : (i, f) ∈ D.files) (h1 : f'.ok) (h2 : f'.pend.length ≤ N) (h3 : (D.held : Int) - f.lens.2 + f'.lens.2 ≤ D.room) : (D.setF i f').ok N := by
  have hmem : ∀ p ∈ (D.setF i f').files, (p.2 = f' ∧ p.1 = i) ∨ p ∈ D.files := by
    intro p hp
    obtain ⟨q, hq, rfl⟩ := List.mem_map.1 hp
    by_cases e : q.1 = i
    · rw [if_pos e]; exact .inl ⟨rfl, e⟩
    · rw [if_neg e]; exact .inr hq
  refine ⟨ok.room0, ok.room1, ok.most0, ok.most1, ok.made0, ok.made1, (setF_ids D i f').trans ok.ids, fun p hp => ?_, ?_, fun p hp => ?_, fun p hp => ?_, ok.names, ok.short, ok.safeN, ok.cnt0, ok.cnt1, ok.plan0⟩
  · rcases hmem p hp with ⟨_, e⟩ | hx
    · rw [e]; exact ok.rng _ hf
    · exact ok.rng p hx
  · have := sumA_set (asc_files ok) (f' := f') hf
    show ((sumA (D.setF i f').files : Nat) : Int) ≤ D.room
    have h4 : sumA (D.setF i f').files + f.lens.2 = sumA D.files + f'.lens.2 := this
    unfold DiskA.held at h3
    omega
  · rcases hmem p hp with ⟨e, _⟩ | hx
    · rw [e]; exact h1
    · exact ok.fok p hx
  · rcases hmem p hp with ⟨e, _⟩ | hx
    · rw [e]; exact h2
    · exact ok.pend p hx
/-- A file of safe bytes alone. -/
theorem lens_safe (l : List UInt8) : (FileA.mk l []).lens = (l.length, l.length) := rfl
theorem ok_setSafe {N : Nat} {D : DiskA} (ok : D.ok N) {i : Int} {f : FileA} (hf : (i, f) ∈ D.files) {l : List UInt8} (hl : l.length ≤ f.lens.2) : (D.setF i ⟨l, []⟩).ok N := by
  refine ok_setF ok hf trivial (Nat.zero_le _) ?_
  rw [lens_safe]
  have := ok.held
  simp only
  omega
theorem crashF_zero (l : List (Int × FileA)) (pf : List (Int × List Int)) : crashF l pf 0 = l := by
  refine List.ext_getElem? fun i => ?_
  unfold crashF
  rw [List.getElem?_mapIdx]
  cases l[i]? <;> simp
theorem crashF_get (l : List (Int × FileA)) (pf : List (Int × List Int)) (j i : Nat) : (crashF l pf j)[i]? = l[i]?.map fun p => if i < j then (p.1, ⟨lostF p.2 (pickAt pf i), []⟩) else p := by
  unfold crashF
  rw [List.getElem?_mapIdx]
theorem asc_get {l : List (Int × FileA)} (hp : l.Pairwise fun p q => p.1 < q.1) {i j : Nat} {p q : Int × FileA} (hi : l[i]? = some p) (hj : l[j]? = some q) (e : p.1 = q.1) : i = j := by
  obtain ⟨hi', rfl⟩ := List.getElem?_eq_some_iff.1 hi
  obtain ⟨hj', rfl⟩ := List.getElem?_eq_some_iff.1 hj
  rw [List.pairwise_iff_getElem] at hp
  rcases Nat.lt_trichotomy i j with h | h | h
  · have := hp i j hi' hj' h; omega
  · exact h
  · have := hp j i hj' hi' h; omega
theorem crashN_succ {D : DiskA} (hp : D.files.Pairwise fun p q => p.1 < q.1) {pf : List (Int × List Int)} {j : Nat} {p : Int × FileA} (hj : D.files[j]? = some p) : (D.crashN pf j).setF p.1 ⟨lostF p.2 (pickAt pf j), []⟩ = D.crashN pf (j + 1) := by
  unfold DiskA.setF DiskA.crashN
  congr 1
  refine List.ext_getElem? fun i => ?_
  rw [List.getElem?_map, crashF_get, crashF_get]
  cases hi : D.files[i]? with
  | none => rfl
  | some q =>
    simp only [Option.map_some, Option.some.injEq]
    by_cases hij : i = j
    · subst hij
      rw [hi] at hj
      cases hj
      rw [if_neg (by omega : ¬ i < i), if_pos rfl, if_pos (by omega)]
    · have hne : q.1 ≠ p.1 := fun e => hij (asc_get hp hi hj e)
      have : (i < j + 1) = (i < j) := by rw [eq_iff_iff]; omega
      simp only [this]
      by_cases h : i < j
      · rw [if_pos h, if_neg hne]
      · rw [if_neg h, if_neg hne]
theorem crashN_mem {D : DiskA} {pf : List (Int × List Int)} {j : Nat} {p : Int × FileA} (hj : D.files[j]? = some p) : p ∈ (D.crashN pf j).files := by
  refine List.mem_of_getElem? (i := j) ?_
  show (crashF D.files pf j)[j]? = some p
  rw [crashF_get, hj]
  simp
theorem wholesA_get (l : List (Int × FileA)) (pf : List (Int × List Int)) (i : Nat) : (wholesA l pf)[i]? = l[i]?.map fun p => (p.1, wholeF p.2 (pickAt pf i)) := by
  unfold wholesA
  rw [List.getElem?_mapIdx]
theorem wholesA_length (l : List (Int × FileA)) (pf : List (Int × List Int)) : (wholesA l pf).length = l.length := by simp [wholesA]
theorem lost_le {f : FileA} (h : f.ok) (pk : Int × List Int) : (lostF f pk).length ≤ f.lens.2 := by
  unfold lostF
  rw [List.length_map, loseA_length]
  exact FileA.row_le h _
theorem leftA_mem {ts : List TurnA} {n : Int} {sk : List Int} {t : TurnA} (h : t ∈ leftA ts n sk) : t ∈ ts ∨ t = blankT := by
  unfold leftA at h
  have : ∀ (sk : List Int) (l : List TurnA), (∀ t ∈ l, t ∈ ts ∨ t = blankT) → t ∈ sk.foldl (fun l v => l.set (roundA v (roundA n (ts.length + 1))).toNat blankT) l → t ∈ ts ∨ t = blankT := by
    intro sk
    induction sk with
    | nil => intro l hl ht; exact hl t ht
    | cons v sk ih =>
      intro l hl ht
      refine ih _ (fun t ht => ?_) ht
      rcases List.mem_or_eq_of_mem_set ht with h | h
      · exact hl t h
      · exact .inr h
  exact this sk _ (fun t ht => .inl (List.mem_of_mem_take ht)) h
theorem leftA_length (ts : List TurnA) (n : Int) (sk : List Int) : (leftA ts n sk).length ≤ ts.length := by
  unfold leftA
  have : ∀ (sk : List Int) (l : List TurnA), (sk.foldl (fun l v => l.set (roundA v (roundA n (ts.length + 1))).toNat blankT) l).length = l.length := by
    intro sk
    induction sk with
    | nil => intro l; rfl
    | cons v sk ih => intro l; rw [List.foldl_cons, ih]; simp
  rw [this, List.length_take]
  omega
end Go.Disk
set_option linter.unusedVariables false
set_option linter.unusedSimpArgs false
namespace Go.Proofs
open Go Go.V Go.Disk
abbrev PkV := Int × Option Addr × Nat × Nat
def pickV (q : List PkV) : List Value := q.flatMap fun x => [.int .i64 x.1, .slice x.2.1 x.2.2.1 x.2.2.2]
theorem pickV_get {q : List PkV} {i : Nat} (hi : i < q.length) : (pickV q)[i * 2]? = some (.int .i64 q[i].1) ∧ (pickV q)[i * 2 + 1]? = some (.slice q[i].2.1 q[i].2.2.1 q[i].2.2.2) := by
  induction q generalizing i with
  | nil => simp at hi
  | cons p l ih =>
    cases i with
    | zero => simp [pickV]
    | succ i =>
      have := ih (i := i) (by simpa using hi)
      simp only [pickV, List.flatMap_cons, List.getElem_cons_succ] at this ⊢
      rw [show (i + 1) * 2 = i * 2 + 2 by omega]
      simpa using this
def Tryz.PickR (h : Hp) (S : Nat → Prop) (x : PkV) (y : Int × List Int) : Prop := x.1 = y.1 ∧ IS h x.2.1 x.2.2.1 y.2 ∧ (0 < x.2.2.1 → ∀ b, inA x.2.1 b → S b) ∧ x.2.2.1 ≤ 68719476735
/-- Picks as they lie, in blocks of which something is so. -/
structure Tryz.PicksR (h : Hp) (S : Nat → Prop) (sA : Option Addr) (sn : Nat) (fA : Option Addr) (fn : Nat) (P : PicksA) : Prop where
  sk : IS h sA sn P.skipped
  skS : 0 < sn → ∀ b, inA sA b → S b
  skn : sn ≤ 68719476735
  fs : ∃ q : List PkV, fn = q.length ∧ Src h (fn * 2) (pickV q) fA ∧ (0 < fn → ∀ b, inA fA b → S b) ∧ All2 (Tryz.PickR h S) q P.files
theorem Tryz.PicksR.kp {W S : Nat → Prop} {h h' : Hp} {sA : Option Addr} {sn : Nat} {fA : Option Addr} {fn : Nat} {P : PicksA} (o : Tryz.PicksR h S sA sn fA fn P) (k : Kp W h h') (hn : ∀ b, S b → ¬ W b) : Tryz.PicksR h' S sA sn fA fn P := by
  obtain ⟨h1, h2, h3, q, h4, h5, h6, h7⟩ := o
  exact ⟨h1.kp0 k fun h0 b hb => hn b (h2 h0 b hb), h2, h3, q, h4, h5.kp0 k fun h0 b hb => hn b (h6 (by omega) b hb), h6, forall2_imp h7 fun x hx y r => ⟨r.1, r.2.1.kp0 k fun h0 b hb => hn b (r.2.2.1 h0 b hb), r.2.2⟩⟩
theorem Tryz.PicksR.mono {S S' : Nat → Prop} {h : Hp} {sA : Option Addr} {sn : Nat} {fA : Option Addr} {fn : Nat} {P : PicksA} (o : Tryz.PicksR h S sA sn fA fn P) (hn : ∀ b, S b → S' b) : Tryz.PicksR h S' sA sn fA fn P := by
  obtain ⟨h1, h2, h3, q, h4, h5, h6, h7⟩ := o
  exact ⟨h1, fun h0 b hb => hn b (h2 h0 b hb), h3, q, h4, h5, fun h0 b hb => hn b (h6 h0 b hb), forall2_imp h7 fun x hx y r => ⟨r.1, r.2.1, fun h0 b hb => hn b (r.2.2.1 h0 b hb), r.2.2.2⟩⟩

theorem Tryz.z22 : zeroIs Tryz.prog 22 (.slice none 0 0) := Inf.zeroIs Tryz.i22
/-- What a crash keeps as it was read. -/
def Tryz.WhR (h : Hp) (S : Nat → Prop) (x : Int × Value) (y : Int × List UInt8) : Prop := x.1 = y.1 ∧ ∃ A n c, x.2 = .slice A n c ∧ OwnS h 5 1 A n c (y.2.map bv) ∧ ∀ b, inA A b → S b
theorem Tryz.WhR.kp {W S S' : Nat → Prop} {h h' : Hp} {x : Int × Value} {y : Int × List UInt8} (o : Tryz.WhR h S x y) (k : Kp W h h') (hn : ∀ b, S b → b < h.size → ¬ W b) (hS : ∀ b, S b → b < h.size → S' b) : Tryz.WhR h' S' x y := by
  obtain ⟨e, A, n, c, e2, o, hb⟩ := o
  exact ⟨e, A, n, c, e2, o.kp k fun b hx => hn b (hb b hx) (o.lt b hx), fun b hx => hS b (hb b hx) (o.lt b hx)⟩

/-- The loop of Crash: where it stands behind j files. -/
structure Tryz.CrashAt (h0 hB : Hp) (g : DG) (N : Nat) (b5 : Nat) (pf : List (Int × List Int)) (j : Nat) (h : Hp) (g' : DG) (W : Im) : Prop where
  d : g'.d = g.d
  D : g'.D = g.D.crashN pf j
  r : Tryz.DR h g'
  ok : g'.D.ok N
  bl : ∀ b, DB g' b → DB g b ∨ hB.size ≤ b
  k : Kp (fun b => DB g b ∨ b = b5) hB h
  w : ImAt false Tryz.prog 3 h b5 W
  wh : All2 (Tryz.WhR h fun b => h0.size ≤ b ∧ ¬ DB g' b ∧ b ≠ b5) W ((wholesA g.D.files pf).take j)

theorem all2_fst {R : Int × Value → Int × List UInt8 → Prop} (hR : ∀ x y, R x y → x.1 = y.1) : ∀ {l : List (Int × Value)} {m : List (Int × List UInt8)}, All2 R l m → l.map (·.1) = m.map (·.1)
  | [], [], _ => rfl
  | a :: l, b :: m, h => by simp only [List.map_cons]; rw [hR _ _ h.1, all2_fst hR h.2]

/-- One file of a crash. -/
theorem Tryz.crash_J3 {h0 hB h : Hp} {g g' : DG} {N b5 b7 b50 : Nat} {P : PicksA} {j : Nat} {W : Im} {i : Int} {f : FileA} {done : Int} {lA : Option Addr} {ln lc : Nat} {lost : List Int} {C : Int → Hp → Prop} {R : Value → Hp → Prop}
    (c : Tryz.CrashAt h0 hB g N b5 P.files j h g' W) (hN : N ≤ 1073741824) (hi : g.D.files[j]? = some (i, f)) (hasc : g.D.files.Pairwise fun p q => p.1 < q.1) (h0B : h0.size ≤ hB.size) (hgB : ∀ b, DB g b → b < h0.size)
    (f7 : h[b7]? = some (.cells #[.map (some b5)] 125 (0, 0))) (n7 : ¬ DB g b7) (l7 : b7 < hB.size) (n5 : ¬ DB g b5) (l5 : b5 < hB.size) (g5 : h0.size ≤ b5)
    (f50 : h[b50]? = some (.cells #[.int .i64 done, .slice lA ln lc] 59 (0, 0))) (g50 : hB.size ≤ b50) (n50 : ¬ DB g' b50)
    (hl : IS h lA ln lost) (hlS : 0 < ln → ∀ b, inA lA b → b < hB.size ∧ ¬ DB g b ∧ b ≠ b5) (hln : ln ≤ 68719476735) (hpk : pickAt P.files j = (done, lost)) (hj : j < 1073741824)
    (hC : ∀ h' g2 W2, Tryz.CrashAt h0 hB g N b5 P.files (j + 1) h' g2 W2 → C (j + 1) h') :
    D_disk_Disk_Crash.J3 R C (some ⟨g'.d, 0, none⟩) b7 j i b50 h := by
  have hfm : (i, f) ∈ g'.D.files := by rw [c.D]; exact crashN_mem hi
  obtain ⟨F, hF, rfl⟩ := fl_mem c.r hfm
  have rF := c.r.fr _ hF
  have hlen : F.f.lens.2 ≤ 4194304 := c.ok.lens hfm
  have hpd : F.f.pend.length ≤ N := c.ok.pend _ hfm
  have hrng := c.ok.rng _ hfm
  have hmade := c.ok.made1
  have hpn : F.pn = F.f.pend.length := rF.pn
  have zB := c.k.size
  have n5' : ¬ DB g' b5 := fun hx => (c.bl _ hx).elim n5 fun hx => by omega
  have n7' : ¬ DB g' b7 := fun hx => (c.bl _ hx).elim n7 fun hx => by omega
  have h57 : b7 ≠ b5 := fun e => by
    subst e
    obtain ⟨es, cl, hm⟩ := MapOn.isMap c.w
    rw [hm] at f7; cases f7
  unfold D_disk_Disk_Crash.J3
  refine ⟨_, rfl, _, (cell_add c.r.blk 0 3).trans rfl, _, Tryz.look_file c.r c.ok hN hF, _, (cell_of f50 0).trans rfl, _, rfl, _, _, _, (cell_add rF.blk 0 1).trans rfl, ?_⟩
  have hw : IntKind.i64.wrap (((F.pn : Nat) : Int) + 1) = (F.f.pend.length : Int) + 1 := by rw [hpn]; exact w64 (by omega) (by omega)
  rw [hw]
  refine (Tryz.c_round done ((F.f.pend.length : Int) + 1) h (by omega) (by omega)).mono ?_
  rintro _ h65 ⟨rfl, rfl⟩
  have hd : roundA done ((F.f.pend.length : Int) + 1) = ((doneA F.f done : Nat) : Int) := by
    have := roundA_bounds done (n := (F.f.pend.length : Int) + 1) (by omega)
    unfold doneA
    omega
  have hdl := doneA_le F.f done
  refine ⟨_, rfl, _, cell1 f7, ?_⟩
  rw [hd]
  refine (Tryz.c_row rF hdl (by show F.f.pend.length ≤ _; omega) (by show F.f.lens.2 ≤ _; omega)).mono ?_
  rintro v h70 ⟨A1, n1, c1, B1, m1, d1, rfl, R1, g70, fA1, fB1⟩
  have hWl := forall2_len c.wh
  have hjl : j < (wholesA g.D.files P.files).length := by rw [wholesA_length]; exact (List.getElem?_eq_some_iff.1 hi).1
  rw [List.length_take] at hWl
  have hfst := all2_fst (fun x y (r : Tryz.WhR h65 (fun b => h0.size ≤ b ∧ ¬ DB g' b ∧ b ≠ b5) x y) => r.1) c.wh
  have hbig : ∀ p ∈ W, p.1 < i := by
    intro p hp
    have h1 : p.1 ∈ (W.map (·.1)) := List.mem_map.2 ⟨p, hp, rfl⟩
    rw [hfst] at h1
    obtain ⟨y, hy, e⟩ := List.mem_map.1 h1
    obtain ⟨k, hk, hyk⟩ := List.mem_take_iff_getElem.1 hy
    have hk' : (wholesA g.D.files P.files)[k]? = some y := by rw [← hyk]; exact List.getElem?_eq_getElem _
    rw [wholesA_get] at hk'
    cases hq : g.D.files[k]? with
    | none => rw [hq] at hk'; cases hk'
    | some q =>
      rw [hq] at hk'
      cases hk'
      obtain ⟨hk1, e1⟩ := List.getElem?_eq_some_iff.1 hq
      obtain ⟨hj1, e2⟩ := List.getElem?_eq_some_iff.1 hi
      have := List.pairwise_iff_getElem.1 hasc k j hk1 hj1 (by omega)
      rw [e1, e2] at this
      rw [← e]
      exact this
  refine ⟨_, _, _, _, _, _, rfl, cell1 (g70.g f7), _, ImAt.put Tryz.underlying3 Tryz.underlying125 (MapOn.kp c.w g70 id) (by unfold maxLen; omega) (wf64 (by omega) (by omega)) hbig (v := .slice A1 n1 c1) rfl, ?_⟩
  rintro h73 ⟨w73, k73⟩
  have z70 := g70.size
  have z73 := k73.size
  have f50' := k73.at (g70.g f50) (by show ¬ b50 = b5; omega)
  have f7' := k73.at (g70.g f7) (by show ¬ b7 = b5; exact h57)
  have r73 : Tryz.DR h73 g' := (c.r.g g70).kp k73 fun b hb e => by have e : b = b5 := e; subst e; exact n5' hb
  refine ⟨_, _, _, (cell_add f50' 0 1).trans rfl, ?_⟩
  refine (Tryz.c_row (r73.fr _ hF) hdl (by show F.f.pend.length ≤ _; omega) (by show F.f.lens.2 ≤ _; omega)).mono ?_
  rintro v h78 ⟨A2, n2, c2, B2, m2, d2, rfl, R2, g78, fA2, fB2⟩
  have z78 := g78.size
  have hl78 : IS h78 lA ln lost := ((hl.g g70).kp0 k73 fun h0 b hb e => (hlS h0 b hb).2.2 e).g g78
  have hrl : (F.f.row (doneA F.f done)).length ≤ 4194304 := Nat.le_trans (FileA.row_le rF.ok _) hlen
  refine ⟨_, _, _, _, _, _, rfl, (cell_add (g78.g f50') 0 1).trans rfl, ?_⟩
  refine (Tryz.c_lose R2 hl78 (fun h0 b hb hx => by have := (hlS h0 b hb).1; have := fA2 b hx; omega) (by show (F.f.row (doneA F.f done)).length ≤ _; omega) hln).mono ?_
  rintro v h82 ⟨rfl, R3, k82⟩
  have r78 := r73.g g78
  have lt78 := Tryz.DB_lt r73
  have r82 : Tryz.DR h82 g' := r78.kp k82 fun b hb hx => by have := lt78 b hb; have := fA2 b hx; omega
  have rF82 := r82.fr _ hF
  have b82 := rF82.blk
  simp only at b82
  have w84 : Wr h82 (Addr.mk F.p 0 none) := wr_of b82 (by simp)
  refine ⟨_, _, _, _, _, _, rfl, w84, fun h84 e84 => ?_⟩
  have b84 := setc_at b82 0 (.slice A2 n2 c2)
  have k84 := Kp.setc h82 ⟨F.p, 0, none⟩ (.slice A2 n2 c2)
  rw [← e84] at b84 k84
  refine ⟨wr_add b84 (by simp), fun h86 e86 => ?_⟩
  have b86 := setc_add b84 0 1 (.slice none 0 0)
  have k86 := Kp.setc h84 ((Addr.mk F.p 0 none).add 1) (.slice none 0 0)
  rw [← e86] at b86 k86
  rw [add_block] at k86
  have k8 : Kp (· = F.p) h82 h86 := k84.trans k86
  have z82 := k82.size
  have z86 := k8.size
  have hFp : DB g' F.p := .inr (.inr (.inr (.inr (.inr (.inr ⟨_, hF, .inl rfl⟩)))))
  have ltF := Tryz.DB_lt c.r _ hFp
  let L := lostF F.f (done, lost)
  let F' : FG := { F with sA := A2, sn := n2, sc := c2, pA := none, pn := 0, pc := 0, vs := [], f := ⟨L, []⟩ }
  have hL : L.map bv = (loseA (F.f.row (doneA F.f done)) lost).map rb := by show ((loseA (F.f.row (doneA F.f done)) lost).map (·.1)).map bv = _; rw [List.map_map]; rfl
  have nA2 : ∀ b, inA A2 b → ¬ b = F.p := fun b hb e => by have := fA2 b hb; omega
  have oA2 : OwnS h86 5 1 A2 n2 c2 (L.map bv) := by rw [hL]; exact R3.1.kp k8 nA2
  have hn2 : n2 = L.length := by have := oA2.src.len; rw [List.length_map] at this; omega
  have rF' : Tryz.FR h86 F' := by
    refine ⟨?_, ⟨hn2, by have := oA2.src; rwa [Nat.mul_one] at this⟩, oA2.tag, OwnS.nil _ _ _, trivial, trivial⟩
    show h86[F.p]? = _
    rw [b86]; simp [F']
  obtain ⟨rr, bb, kk⟩ := Tryz.DR.file2 r82 c.ok hF (F' := F') rfl (fun b hb => (inA_none hb).elim) rF' (k8.mono fun b _ hb => .inl hb)
  have hDB2 : ∀ b, DB { g' with fl := flSet g'.fl i F', D := g'.D.setF i F'.f } b → DB g' b ∨ h73.size ≤ b := by
    intro b hb
    rcases bb b hb with hx | hx | hx | hx | ⟨v, hv, _⟩
    · exact .inl hx
    · exact .inl (by have hx : b = F.p := hx; rw [hx]; exact hFp)
    · exact .inr (fA2 b hx)
    · exact (inA_none hx).elim
    · cases hv
  have kall : Kp (fun b => b = b5 ∨ DB g' b) h65 h86 := by
    refine (((g70.kp.trans (k73.mono fun b _ e => .inl e)).trans g78.kp).trans' k82 fun k hk hx => ?_).trans (k8.mono fun b _ e => by have e : b = F.p := e; subst e; exact .inr hFp)
    have := fA2 k hx; omega
  have hstep := crashN_succ hasc (pf := P.files) hi
  rw [hpk] at hstep
  have hDn : g'.D.setF i F'.f = g.D.crashN P.files (j + 1) := by rw [c.D]; exact hstep
  have hwj : IntKind.i64.wrap ((j : Int) + 1) = (j : Int) + 1 := w64 (by omega) (by omega)
  rw [hwj]
  refine hC h86 { g' with fl := flSet g'.fl i F', D := g'.D.setF i F'.f } (W ++ [(i, .slice A1 n1 c1)]) ⟨c.d, hDn, rr, ?_, fun b hb => ?_, ?_, ?_, ?_⟩
  · exact ok_setSafe c.ok hfm (lost_le rF.ok _)
  · rcases hDB2 b hb with hx | hx
    · exact c.bl b hx
    · exact .inr (by omega)
  · refine c.k.trans' kall fun k hk hx => ?_
    rcases hx with hx | hx
    · exact .inr hx
    · exact (c.bl k hx).elim .inl fun hx => by omega
  · refine MapOn.kp (MapOn.kp (MapOn.kp w73 g78 id) k82 fun hx => by have := fA2 b5 hx; omega) k8 fun e => ?_
    have e : b5 = F.p := e
    exact n5' (by rw [e]; exact hFp)
  · have htake : (wholesA g.D.files P.files).take (j + 1) = (wholesA g.D.files P.files).take j ++ [(i, wholeF F.f (done, lost))] := by
      rw [List.take_add_one, wholesA_get, hi]
      simp only [Option.map_some, Option.toList_some, hpk]
    rw [htake]
    refine forall2_append (forall2_imp c.wh fun x _ y hxy => hxy.kp kall (fun b hb hlt hx => ?q1) fun b hb hlt => ⟨hb.1, fun hx => ?q2, hb.2.2⟩) ⟨⟨rfl, A1, n1, c1, rfl, ?q3, fun b hb => ⟨?q4, fun hx => ?q5, ?q6⟩⟩, trivial⟩
    case q1 =>
      rcases hx with hx | hx
      · exact hb.2.2 hx
      · exact hb.2.1 hx
    case q2 =>
      rcases hDB2 b hx with hx | hx
      · exact hb.2.1 hx
      · omega
    case q3 =>
      have e1 : ((wholeF F.f (done, lost)).map bv) = (F.f.row (doneA F.f done)).map rb := by show ((F.f.row (doneA F.f done)).map (·.1)).map bv = _; rw [List.map_map]; rfl
      show OwnS h86 5 1 A1 n1 c1 ((wholeF F.f (done, lost)).map bv)
      rw [e1]
      have l1 := R1.1.lt
      exact (((R1.1.kp k73 fun b hb e => by have e : b = b5 := e; have := fA1 b hb; omega).kp g78 fun _ _ => id).kp k82 fun b hb hx => by have := fA2 b hx; have := l1 b hb; omega).kp k8 fun b hb e => by have e : b = F.p := e; have := fA1 b hb; omega
    case q4 => have := fA1 b hb; omega
    case q6 => have := fA1 b hb; omega
    case q5 =>
      have h1 := fA1 b hb
      have h2 := R1.1.lt b hb
      rcases hDB2 b hx with hx | hx
      · have := Tryz.DB_lt c.r b hx; omega
      · omega
end Go.Proofs
set_option linter.unusedVariables false
set_option linter.unusedSimpArgs false
namespace Go.Proofs
open Go Go.V Go.Disk
theorem all2_find {R : Int × Value → Int × List UInt8 → Prop} (hR : ∀ x y, R x y → x.1 = y.1) {i : Int} : ∀ {l : List (Int × Value)} {m : List (Int × List UInt8)}, All2 R l m → (∃ p ∈ m, p.1 = i) → ∃ x y, l.find? (fun p => p.1 == i) = some x ∧ m.find? (fun p => p.1 == i) = some y ∧ R x y
  | [], [], _, ⟨p, hp, _⟩ => by cases hp
  | a :: l, b :: m, h, hx => by
    have e := hR _ _ h.1
    by_cases hb : b.1 = i
    · have ha : a.1 = i := e.trans hb
      exact ⟨a, b, by rw [List.find?_cons]; simp [ha], by rw [List.find?_cons]; simp [hb], h.1⟩
    · have ha : ¬ a.1 = i := fun x => hb (e.symm.trans x)
      obtain ⟨p, hp, hpi⟩ := hx
      rcases List.mem_cons.1 hp with rfl | hp
      · exact absurd hpi hb
      obtain ⟨x, y, h1, h2, h3⟩ := all2_find hR h.2 ⟨p, hp, hpi⟩
      exact ⟨x, y, by rw [List.find?_cons, show (a.1 == i) = false by simp [ha]]; exact h1, by rw [List.find?_cons, show (b.1 == i) = false by simp [hb]]; exact h2, h3⟩
theorem wholesA_fst (l : List (Int × FileA)) (pf : List (Int × List Int)) : (wholesA l pf).map (·.1) = l.map (·.1) := by
  refine List.ext_getElem? fun i => ?_
  rw [List.getElem?_map, wholesA_get, List.getElem?_map]
  cases l[i]? <;> rfl
theorem crash_lives (D : DiskA) (n : Int) (sk : List Int) : ∀ p ∈ namesA D.safe (leftA D.turns n sk), p.2 ∈ D.lives := by
  intro p hp
  refine mem_ascOf.2 (List.mem_append.2 ?_)
  rcases mem_names hp with h | h
  · exact .inl h
  · right
    unfold turnIds at h ⊢
    obtain ⟨t, ht, e⟩ := List.mem_map.1 h
    obtain ⟨ht1, ht2⟩ := List.mem_filter.1 ht
    rcases leftA_mem ht1 with hx | rfl
    · exact List.mem_map.2 ⟨t, List.mem_filter.2 ⟨hx, ht2⟩, e⟩
    · exact absurd ht2 (by unfold TurnA.has blankT; show ¬ ((!(ByteArray.empty.toList == ByteArray.empty.toList)) = true); simp)

/-- What a crash answers, and how the disk goes on. -/
def Tryz.Crashed (h : Hp) (g : DG) (P : PicksA) (v : Value) (h' : Hp) : Prop :=
  ∃ g', g'.d = g.d ∧ g'.D = g.D.crashA P ∧ Tryz.DR h' g' ∧ (∀ b, DB g' b → DB g b ∨ h.size ≤ b) ∧ Kp (DB g) h h' ∧
    ∃ A n c, v = .slice A n c ∧ Tryz.FilesR h' (fun b => h.size ≤ b ∧ ¬ DB g' b) A n c (g.D.crashT P)

theorem Tryz.c_Crash {h : Hp} {g : DG} {N : Nat} {sA : Option Addr} {sn sc : Nat} {fA : Option Addr} {fn fc : Nat} {P : PicksA} (r : Tryz.DR h g) (ok : g.D.ok N) (hN : N < 1073741824)
    (hP : Tryz.PicksR h (fun b => b < h.size ∧ ¬ DB g b) sA sn fA fn P) (hfn : fn ≤ 1073741824) :
    CH Tryz.prog 20 #[.pointer (some ⟨g.d, 0, none⟩), .agg #[.int .i64 P.names, .slice sA sn sc, .slice fA fn fc]] h (Tryz.Crashed h g P) := by
  apply D_disk_Disk_Crash.sound
  unfold D_disk_Disk_Crash
  intro b2 h1 eb2 eh1
  obtain ⟨f2, g1, s2, _⟩ := boxed eb2 eh1
  refine ⟨fun e => Bool.noConfusion e, fun _ b5 h4 eb5 eh4 b7 h6 eb7 eh6 => ?_⟩
  obtain ⟨f5, g4, s5, _⟩ := boxed eb5 eh4
  obtain ⟨f7, g6, s7, _⟩ := boxed eb7 eh6
  refine ⟨wr_of f7 (by simp), fun h8 e8 => ?_⟩
  obtain ⟨f7', k8⟩ := set1 f7 e8
  have z1 := g1.size
  have z4 := g4.size
  have z6 := g6.size
  have z8 := k8.size
  have l2 := lt_of_some f2
  have l5 := lt_of_some f5
  have l7 := lt_of_some f7
  have g08 : Grow h h8 := Kp.new ((g1.trans g4).trans g6) k8 (by omega)
  have p2 := k8.at (g6.g (g4.g f2)) (by show ¬ b2 = b7; omega)
  have p5 := k8.at (g6.g f5) (by show ¬ b5 = b7; omega)
  have r8 := r.g g08
  have lt := Tryz.DB_lt r
  refine (Tryz.c_lives r8 ok (by omega)).mono ?_
  rintro v h37 ⟨LA, Ln, Lc, rfl, hLn, oL, g37, fL⟩
  have z37 := g37.size
  have hll := lives_len ok
  have g037 := g08.trans g37
  have r37 := r8.g g37
  have hasc := asc_files ok
  have hfl : g.D.files.length = Ln := by rw [hLn, ← ok.ids, List.length_map]
  have w4 : ImAt false Tryz.prog 3 h4 b5 [] := by rw [eb5, eh4]; exact MapOn.made (H := Value) Tryz.prog 3 (heldR false) h1
  have w37 : ImAt false Tryz.prog 3 h37 b5 [] := MapOn.kp (MapOn.kp (MapOn.kp w4 g6 id) k8 (by show ¬ b5 = b7; omega)) g37 id
  have hb5h : b5 = h1.size := eb5
  refine ⟨_, _, _, rfl, fun j h' mm => 0 ≤ j ∧ j ≤ Ln ∧ mm = Ln - j.toNat ∧ ∃ g' W, Tryz.CrashAt h h37 g N b5 P.files j.toNat h' g' W, ⟨Ln, by omega, by omega, by simp, g, [], rfl, ?_, r37, ok, fun b hb => .inl hb, Kp.rfl', w37, ?_⟩, ?_⟩
  · show g.D = { g.D with files := crashF g.D.files P.files 0 }
    rw [crashF_zero]
  · simp [All2]
  rintro j h40 mm ⟨h0, hj, rfl, g', W, c⟩
  have zB := c.k.size
  have n5 : ¬ DB g b5 := fun hx => by have := lt _ hx; omega
  have n7 : ¬ DB g b7 := fun hx => by have := lt _ hx; omega
  have n2 : ¬ DB g b2 := fun hx => by have := lt _ hx; omega
  have f7a := c.k.at (g37.g f7') (fun hx => hx.elim n7 fun hx => by omega)
  have f2a := c.k.at (g37.g p2) (fun hx => hx.elim n2 fun hx => by omega)
  have P40 : Tryz.PicksR h40 (fun b => b < h.size ∧ ¬ DB g b) sA sn fA fn P := (hP.kp g037 fun _ _ => id).kp c.k fun b hb hx => hx.elim hb.2 fun hx => by have := hb.1; omega
  unfold D_disk_Disk_Crash.L2
  refine ⟨fun e => ?_, fun e => ?_⟩
  · have hlt := dec_t e
    have oL40 := oL.kp c.k fun b hb hx => hx.elim (fun hx => by have := fL b hb; have := lt b hx; omega) fun hx => by have := fL b hb; omega
    obtain ⟨a, i, rfl, hi, hc⟩ := (lives_is hLn oL40).get h0 hlt
    have hfi : ∃ f, g.D.files[j.toNat]? = some (i, f) := by
      have h1 : (g.D.files.map (·.1))[j.toNat]? = some i := by rw [ok.ids]; exact hi
      rw [List.getElem?_map] at h1
      cases hq : g.D.files[j.toNat]? with
      | none => rw [hq] at h1; cases h1
      | some q => rw [hq] at h1; cases h1; exact ⟨q.2, rfl⟩
    obtain ⟨f, hfi⟩ := hfi
    refine ⟨a, rfl, h0, hlt, i, hc, fun b50 h49 eb eh => ?_⟩
    obtain ⟨f50, g49, s50, _⟩ := boxed eb eh
    have f2b := g49.g f2a
    have f7b := g49.g f7a
    have c49 : Tryz.CrashAt h h37 g N b5 P.files j.toNat h49 g' W := ⟨c.d, c.D, c.r.g g49, c.ok, c.bl, c.k.trans g49.kp, MapOn.kp c.w g49 id, forall2_imp c.wh fun x _ y hxy => hxy.kp g49 (fun _ _ _ => id) fun b hb _ => hb⟩
    have P49 := P40.kp g49 fun _ _ => id
    have lt40 := Tryz.DB_lt c.r
    obtain ⟨q, hq, hqs40, hqS, hqA⟩ := P40.fs
    have hqs := hqs40.kp g49 fun _ _ => id
    let C : Int → Hp → Prop := fun j39 h40 => ∃ m1, m1 < Ln - j.toNat ∧ (0 ≤ j39 ∧ j39 ≤ Ln ∧ m1 = Ln - j39.toNat ∧ ∃ g' W, Tryz.CrashAt h h37 g N b5 P.files j39.toNat h40 g' W)
    have hql := forall2_len hqA
    have hC : ∀ h' g2 W2, Tryz.CrashAt h h37 g N b5 P.files (j.toNat + 1) h' g2 W2 → C ((j.toNat : Int) + 1) h' := by
      intro h' g2 W2 c2
      have e1 : ((j.toNat : Int) + 1).toNat = j.toNat + 1 := by omega
      exact ⟨_, by rw [e1]; omega, by omega, by omega, rfl, g2, W2, by rw [e1]; exact c2⟩
    have ejj : j = (j.toNat : Int) := by omega
    refine ⟨_, _, _, (cell_add f2b 0 2).trans rfl, fun e1 => ⟨_, _, _, (cell_add f2b 0 2).trans rfl, ?_⟩, fun e1 => ?_⟩
    · have hjf : j.toNat < q.length := by have := dec_t e1; omega
      obtain ⟨pa, rfl⟩ := hqs.addr (by omega)
      obtain ⟨x, y, hx, hy, hxy⟩ := forall2_get hqA hjf
      obtain ⟨hx', rfl⟩ := List.getElem?_eq_some_iff.1 hx
      obtain ⟨q0, q1⟩ := pickV_get hjf
      refine ⟨pa, rfl, h0, dec_t e1, q[j.toNat].1, q[j.toNat].2.1, q[j.toNat].2.2.1, q[j.toNat].2.2.2, ?_, boxRow_wr eb eh rfl, fun h107 e107 => ?_⟩
      · intro k v hv
        rw [add_add]
        rcases k with _ | _ | k
        · cases hv; exact hqs.get q0
        · cases hv; exact hqs.get q1
        · simp at hv
      obtain ⟨f50', g107, s107, _⟩ := boxRow eb eh e107 rfl
      have P107 := P40.kp g107 fun _ _ => id
      have c107 : Tryz.CrashAt h h37 g N b5 P.files j.toNat h107 g' W := ⟨c.d, c.D, c.r.g g107, c.ok, c.bl, c.k.trans g107.kp, MapOn.kp c.w g107 id, forall2_imp c.wh fun x _ y hxy => hxy.kp g107 (fun _ _ _ => id) fun b hb _ => hb⟩
      have hpk : pickAt P.files j.toNat = (q[j.toNat].1, y.2) := by
        unfold pickAt
        rw [hy, hxy.1]
        rfl
      have hpl : 0 < q[j.toNat].2.2.1 → ∀ b, inA q[j.toNat].2.1 b → b < h37.size ∧ ¬ DB g b ∧ b ≠ b5 := fun hq0 b hb => by
        have := hxy.2.2.1 hq0 b hb
        exact ⟨by omega, this.2, by omega⟩
      have := Tryz.crash_J3 (C := C) (R := Tryz.Crashed h g P) (b50 := b50) c107 (by omega) hfi hasc (by omega) lt (g107.g f7a) n7 (by omega) n5 (by omega) (by omega) f50' (by omega) (fun hx => by have := lt40 _ hx; omega) (hxy.2.1.kp g107 fun _ _ => id) hpl hxy.2.2.2 hpk (by omega) hC
      rw [c.d, ← ejj] at this
      exact this
    · have hjf : P.files[j.toNat]? = none := by
        rw [List.getElem?_eq_none_iff]
        have := dec_f e1
        omega
      have hpk : pickAt P.files j.toNat = (0, []) := by unfold pickAt; rw [hjf]; rfl
      have := Tryz.crash_J3 (C := C) (R := Tryz.Crashed h g P) (b50 := b50) c49 (by omega) hfi hasc (by omega) lt f7b n7 (by omega) n5 (by omega) (by omega) f50 (by omega) (fun hx => by have := lt40 _ hx; omega) (IS.nil _) (fun _ b hb => (inA_none hb).elim) (by omega) hpk (by omega) hC
      rw [c.d, ← ejj] at this
      exact this
  · have hge := dec_f e
    unfold D_disk_Disk_Crash.J1
    have hjn : j.toNat = g.D.files.length := by omega
    rw [hjn] at c
    have hcd := c.d
    have hcD := c.D
    refine ⟨P.names, sA, sn, sc, fA, fn, fc, row_all f2a, ?_⟩
    rw [← hcd]
    refine (Tryz.c_left (names := P.names) c.r c.ok (by omega) P40.sk P40.skn).mono ?_
    rintro v h14 ⟨A, n, cc, rfl, hn, oA, g14, fA14⟩
    have r14 := c.r.g g14
    have hts : g'.D.turns = g.D.turns := by rw [hcD]; rfl
    have hsf : g'.D.safe = g.D.safe := by rw [hcD]; rfl
    have hlen := leftA_length g'.D.turns P.names P.skipped
    have hnm := c.ok.names
    have hmade := c.ok.made1
    refine ⟨_, _, _, rfl, (Tryz.c_names ((cell_of r14.blk 4).trans rfl) r14.sm hn oA.src (by omega) ?_).mono ?_⟩
    · intro t ht
      rcases leftA_mem ht with hx | rfl
      · have := c.ok.short t hx
        unfold maxLen
        exact ⟨by omega, by omega, this.2.2.1, by omega⟩
      · exact ⟨Nat.zero_le _, Nat.zero_le _, by decide, by decide⟩
    rintro v h17 ⟨b, rfl, hb, o17, g17⟩
    have r17 := r14.g g17
    have z14 := g14.size
    have z17 := g17.size
    have lt40 := Tryz.DB_lt c.r
    have hnl := namesA_length (leftA g'.D.turns P.names P.skipped) g'.D.safe
    refine ⟨_, rfl, (Tryz.c_settle (g0 := g') (h0 := h14) r17 o17 (fun hx => by have := lt40 b hx; omega) hb rfl g17.kp (fun b hb => .inl hb) (by omega)).mono ?_⟩
    rintro v h20 ⟨_, g2, hd2, hD2, r20, bl20, k20⟩
    have b20 : h20[g'.d]? = some (.cells g2.cells 104 (0, 0)) := by rw [← hd2]; exact r20.blk
    refine ⟨_, rfl, wr_add b20 (by simp [DG.cells]), fun h23 e23 => ?_⟩
    have b23 := setc_add b20 0 10 (.bool false)
    have k23 := Kp.setc h20 ((Addr.mk g'.d 0 none).add 10) (.bool false)
    rw [← e23] at b23 k23
    rw [add_block] at k23
    let g3 : DG := { g2 with D := { g2.D with off := false } }
    have r23 : Tryz.DR h23 g3 := by
      have k23' : Kp (· = g2.d) h20 h23 := by rw [hd2]; exact k23
      refine r20.scalar k23' ?_ rfl rfl rfl rfl rfl rfl rfl rfl rfl rfl rfl rfl rfl
      rw [hd2, b23]
      simp [DG.cells, g3]
    have hd3 : g3.d = g'.d := hd2
    rw [← hd3]
    refine (Tryz.c_Plan (l := []) (q := []) (c := 0) (d := 0) r23 rfl rfl (show Src h23 (0 * 2) (faultV []) none from ⟨rfl, rfl⟩) (show Src h23 (0 * 2) (faultV []) none from ⟨rfl, rfl⟩) (Nat.zero_le _) (Nat.zero_le _)).mono ?_
    rintro v h26 ⟨_, g4, hd4, hD4, r26, bl26, k26⟩
    have z20 := k20.size
    have z23 := k23.size
    have z26 := k26.size
    have hbl3 : ∀ b, DB g3 b → DB g' b ∨ h14.size ≤ b := fun b hb => bl20 b hb
    have hbl4 : ∀ b, DB g4 b → DB g' b ∨ h14.size ≤ b := fun b hb => (bl26 b hb).elim (hbl3 b) fun hx => .inr (by omega)
    have kk : Kp (DB g') h40 h26 := ((g14.kp.trans k20).trans (k23.mono fun b _ e => .inl e)).trans' k26 fun k hk hx => (hbl3 k hx).elim id fun hx => by omega
    have n5' : ¬ DB g' b5 := fun hx => (c.bl _ hx).elim n5 fun hx => by omega
    have n7' : ¬ DB g' b7 := fun hx => (c.bl _ hx).elim n7 fun hx => by omega
    have f7c := kk.at f7a n7'
    have w26 := MapOn.kp c.w kk n5'
    let S : Nat → Prop := fun b => h.size ≤ b ∧ ¬ DB g4 b
    have wh26 : All2 (Tryz.WhR h26 S) W (wholesA g.D.files P.files) := by
      have := forall2_imp (S := Tryz.WhR h26 S) c.wh fun x _ y hxy => hxy.kp kk (fun b hb _ hx => hb.2.1 hx) fun b hb hlt => ⟨hb.1, fun hx => (hbl4 b hx).elim hb.2.1 fun hx => by omega⟩
      rwa [List.take_of_length_le (by rw [wholesA_length]; omega)] at this
    have hD4' : g4.D = g.D.crashA P := by rw [hD4]; show DiskA.planA { g2.D with off := false } [] [] = _; rw [hD2, hcD]; rfl
    have hs4 : g4.D.safe = namesA g.D.safe (leftA g.D.turns P.names P.skipped) := by rw [hD4']; rfl
    have b26 : h26[g3.d]? = some (.cells g4.cells 104 (0, 0)) := by rw [← hd4]; exact r26.blk
    have hlen2 := leftA_length g.D.turns P.names P.skipped
    have hnl2 := namesA_length (leftA g.D.turns P.names P.skipped) g.D.safe
    have hnm2 := ok.names
    have lt26 := Tryz.DB_lt r26
    refine ⟨_, (cell_add b26 0 4).trans rfl, (Tryz.c_told (P := S) (m := g4.D.safe) (data := fun i => wholeOf g.D.files P.files i) r26.sm (by rw [hs4]; omega) (fun b hb => ⟨by omega, fun hx => by have := lt26 b hx; omega⟩) ?_).mono ?_⟩
    · intro h' gg p hp
      refine ⟨71, Tryz.f71, _, [.pointer (some (Addr.mk b7 0 none))], rfl, Tryz.func71, rfl, Tryz.nn71, ?_⟩
      apply D_disk_Disk_Crash_1.sound
      unfold D_disk_Disk_Crash_1
      rw [hs4] at hp
      have hlv := crash_lives g.D P.names P.skipped p hp
      obtain ⟨f, hf1, _⟩ := file_mem ok hlv
      have hrg := ok.rng _ hf1
      have hmd := ok.made1
      have hin : ∃ y ∈ wholesA g.D.files P.files, y.1 = p.2 := by
        have : p.2 ∈ (wholesA g.D.files P.files).map (·.1) := by rw [wholesA_fst, ok.ids]; exact hlv
        obtain ⟨y, hy, e⟩ := List.mem_map.1 this
        exact ⟨y, hy, e⟩
      obtain ⟨x, y, hx, hy, hxy⟩ := all2_find (fun x y (r : Tryz.WhR h26 S x y) => r.1) wh26 hin
      obtain ⟨exy, A, n, cc, e2, o, hS⟩ := hxy
      have hget : Im.get W p.2 = some (.slice A n cc) := by unfold Im.get; rw [hx, ← e2]; rfl
      have hlk := ImAt.look Tryz.underlying3 Tryz.underlying125 (MapOn.kp w26 gg id) Tryz.z22 (i := p.2) (wf64 (by simp only at hrg; omega) (by simp only at hrg; omega))
      rw [hget] at hlk
      refine ⟨_, cell1 (gg.g f7c), A, n, cc, hlk, A, n, cc, rfl, ?_, Kp.rfl', hS⟩
      have : wholeOf g.D.files P.files p.2 = y.2 := by unfold wholeOf; rw [hy]; rfl
      rw [this]
      exact o.kp gg fun _ _ => id
    · rintro v h30 ⟨A, n, cc, rfl, hfr, g30⟩
      refine ⟨_, _, _, rfl, g4, hd4.trans (hd2.trans hcd), hD4', r26.g g30, fun b hb => ?_, ?_, A, n, cc, rfl, ?_⟩
      · rcases hbl4 b hb with hx | hx
        · exact (c.bl b hx).imp id fun hx => by omega
        · exact .inr (by omega)
      · have k40 : Kp (DB g) h h40 := g037.kp.trans' c.k fun k hk hx => hx.elim id fun hx => by omega
        exact (k40.trans' kk fun k hk hx => (c.bl k hx).elim id fun hx => by omega).trans g30.kp
      · have : (g4.D.safe.map fun p => (p.1, wholeOf g.D.files P.files p.2)) = g.D.crashT P := by unfold DiskA.crashT; rw [hD4']
        rw [← this]
        exact hfr
end Go.Proofs
set_option linter.unusedVariables false
set_option linter.unusedSimpArgs false
/-! DE: each call keeps what is always so. -/
namespace Go.Disk
open Go Go.V Go.Proofs
theorem ok_mono {N M : Nat} {D : DiskA} (ok : D.ok N) (h : N ≤ M) : D.ok M := by
  have h1 := ok.made1
  have h2 := ok.names
  have h3 := ok.cnt0
  have h4 := ok.cnt1
  exact ⟨ok.room0, ok.room1, ok.most0, ok.most1, ok.made0, by omega, ok.ids, ok.rng, ok.held, ok.fok, fun p hp => Nat.le_trans (ok.pend p hp) h, by omega, ok.short, ok.safeN, ⟨h3.1, by omega⟩, ⟨h4.1, by omega⟩, ok.plan0⟩

theorem list_lt_of {a b : List UInt8} (h : ¬ a < b) (hne : a ≠ b) : b < a := by
  have h1 : b ≤ a := List.not_lt.1 h
  exact Std.lt_of_le_of_ne h1 (fun e => hne e.symm)
theorem ok_del {m : Nm} (h : m.ok) (k : List UInt8) : (m.del k).ok := List.Pairwise.filter _ h
theorem ok_ins {x : List UInt8 × Int} : ∀ {m : Nm}, m.ok → (∀ p ∈ m, p.1 ≠ x.1) → (Nm.ins x m).ok
  | [], _, _ => List.pairwise_singleton _ _
  | y :: r, h, hne => by
    have hp := List.pairwise_cons.1 h
    unfold Nm.ins
    by_cases hb : bytesBefore x.1 y.1 = true
    · rw [if_pos hb]
      have hlt := (bytesBefore_lt _ _).1 hb
      refine List.pairwise_cons.2 ⟨fun q hq => ?_, h⟩
      rcases List.mem_cons.1 hq with rfl | hq
      · exact hlt
      · exact Std.lt_trans hlt (hp.1 q hq)
    · rw [if_neg hb]
      have hlt : y.1 < x.1 := list_lt_of (fun h => hb ((bytesBefore_lt _ _).2 h)) fun e => hne y List.mem_cons_self e.symm
      refine List.pairwise_cons.2 ⟨fun q hq => ?_, ok_ins hp.2 fun p hp => hne p (List.mem_cons_of_mem _ hp)⟩
      rcases mem_ins.1 hq with rfl | hq
      · exact hlt
      · exact hp.1 q hq
theorem ok_put {m : Nm} (h : m.ok) (k : List UInt8) (v : Int) : (m.put k v).ok := ok_ins (ok_del h k) fun p hp => (mem_del.1 hp).2
theorem ok_names {ts : List TurnA} : ∀ {m : Nm}, m.ok → (namesA m ts).ok := by
  induction ts with
  | nil => intro m h; exact h
  | cons t ts ih =>
    intro m h
    refine ih (m := t.doN m) ?_
    unfold TurnA.doN
    split
    · exact ok_put (ok_del h _) _ _
    · exact ok_del h _

theorem ba_loop (s : ByteArray) : ∀ (k i : Nat) (r : List UInt8), s.size - i = k → ByteArray.toList.loop s i r = r.reverse ++ s.data.toList.drop i := by
  intro k
  induction k with
  | zero =>
    intro i r hk
    unfold ByteArray.toList.loop
    have h : ¬ i < s.size := by omega
    rw [if_neg h, List.drop_of_length_le (by rw [Array.length_toList]; exact Nat.le_of_not_lt h), List.append_nil]
  | succ k ih =>
    intro i r hk
    unfold ByteArray.toList.loop
    have h : i < s.size := by omega
    rw [if_pos h, ih (i + 1) _ (by omega)]
    have hl : i < s.data.toList.length := by rw [Array.length_toList]; exact h
    rw [List.drop_eq_getElem_cons hl, List.reverse_cons, List.append_assoc]
    congr 2
    simp only [List.singleton_append, List.cons.injEq, and_true]
    have hl' : i < s.data.size := h
    rw [Array.getElem_toList]
    exact getElem!_pos s.data i hl'
/-- A text's bytes, in two words. -/
theorem ba_toList (s : ByteArray) : s.toList = s.data.toList := by
  unfold ByteArray.toList
  rw [ba_loop s _ 0 [] rfl]
  simp
theorem has_eq (t : TurnA) : t.has = !(bl t.to == []) := by
  unfold TurnA.has bl
  rw [ba_toList, ba_toList]

theorem idOf_mem {N : Nat} {D : DiskA} (ok : D.ok N) {s : ByteArray} (h : D.thereE s = 0) : D.idOf s ∈ D.lives ∧ ∃ f, (D.idOf s, f) ∈ D.files ∧ D.fileD (D.idOf s) = f := by
  obtain ⟨t1, t2, t3⟩ := there_spec D s
  have hn : namedA s = true := by
    cases hb : namedA s with
    | true => rfl
    | false => rw [t1 hb] at h; cases h
  have hg : ∃ i, D.now.get (bl s) = some i := by
    cases hg : D.now.get (bl s) with
    | none => rw [t2 hn hg] at h; cases h
    | some i => exact ⟨i, rfl⟩
  obtain ⟨i, hg⟩ := hg
  obtain ⟨_, e⟩ := t3 i hn hg
  have hl := now_lives D _ (Nm.mem_of_get hg)
  rw [e]
  refine ⟨hl, ?_⟩
  obtain ⟨f, h1, h2⟩ := file_mem ok hl
  exact ⟨f, h1, by unfold DiskA.fileD; rw [h2]; rfl⟩
theorem lens_add (f : FileA) (c : Chg) : (FileA.mk f.safe (f.pend ++ [c])).lens = (c.len f.lens.1, max f.lens.2 (c.len f.lens.1)) := by
  unfold FileA.lens
  rw [lensFrom_append]
  rfl
theorem ok_add {f : FileA} (h : f.ok) {c : Chg} (hc : c.ok f.lens.1) : (FileA.mk f.safe (f.pend ++ [c])).ok := by
  unfold FileA.ok
  rw [okFrom_append _ _ _ f.safe.length]
  exact ⟨h, hc, trivial⟩
theorem ok_lay {N : Nat} {D : DiskA} (ok : D.ok N) {i : Int} {f : FileA} (hf : (i, f) ∈ D.files) (hfd : D.fileD i = f) (l : List UInt8) : (D.layA i l).2.ok (N + 1) := by
  unfold DiskA.layA
  split
  · exact ok_mono ok (by omega)
  split
  · exact ok_mono ok (by omega)
  rename_i h1 h2
  rw [hfd] at h2 ⊢
  have hp := ok.pend _ hf
  have hle := f.lens_le
  refine ok_setF (ok_mono ok (Nat.le_succ N)) hf (ok_add (ok.fok _ hf) trivial) (by simp at hp ⊢; omega) ?_
  rw [lens_add]
  simp only [Chg.len]
  omega
theorem ok_append {N : Nat} {D : DiskA} (ok : D.ok N) (s : ByteArray) (l : List UInt8) : (D.appendA s l).2.ok (N + 2) := by
  unfold DiskA.appendA
  split
  · exact ok_mono ok (by omega)
  split
  · exact ok_mono ok (by omega)
  rename_i h0 h1
  have h1 : D.thereE s = 0 := by omega
  obtain ⟨_, f, hf, hfd⟩ := idOf_mem ok h1
  have okS := ok_struck ok
  split
  · show DiskA.ok (N + 2) (if D.kind = 5 then _ else _)
    split
    · exact ok_lay okS hf hfd _
    · exact ok_mono okS (by omega)
  · exact ok_lay okS hf hfd _
theorem ok_trunc {N : Nat} {D : DiskA} (ok : D.ok N) (s : ByteArray) (size : Int) : (D.truncA s size).2.ok (N + 2) := by
  unfold DiskA.truncA
  split
  · exact ok_mono ok (by omega)
  split
  · exact ok_mono ok (by omega)
  rename_i h0 h1
  have h1 : D.thereE s = 0 := by omega
  obtain ⟨_, f, hf, hfd⟩ := idOf_mem ok h1
  have okS := ok_struck ok
  rw [hfd]
  split
  · exact ok_mono ok (by omega)
  split
  · exact ok_mono okS (by omega)
  split
  · rename_i h2 _ _
    have hp := ok.pend _ hf
    have hle := f.lens_le
    have hh := ok.held
    refine ok_setF (ok_mono okS (by omega)) (f := f) hf (ok_add (ok.fok _ hf) (by show size.toNat ≤ f.lens.1; omega)) (by simp at hp ⊢; omega) ?_
    rw [lens_add]
    simp only [Chg.len]
    show (D.held : Int) - _ + _ ≤ D.room
    omega
  · exact ok_mono okS (by omega)
theorem ok_sync {N : Nat} {D : DiskA} (ok : D.ok N) (s : ByteArray) : (D.syncA s).2.ok (N + 1) := by
  unfold DiskA.syncA
  split
  · exact ok_mono ok (by omega)
  split
  · exact ok_mono ok (by omega)
  rename_i h0 h1
  have h1 : D.thereE s = 0 := by omega
  obtain ⟨_, f, hf, hfd⟩ := idOf_mem ok h1
  have okS := ok_struck ok
  rw [hfd]
  split
  · show DiskA.ok (N + 1) (if D.kind = 4 then _ else _)
    split
    · exact ok_setSafe okS (f := f) hf f.safe_le
    · exact okS
  · exact ok_setSafe okS (f := f) hf (by rw [FileA.bytes_length (ok.fok _ hf)]; exact f.lens_le)
/-- All names settled anew. -/
theorem ok_settle {N : Nat} {D : DiskA} (ok : D.ok N) {m : Nm} (hm : m.ok) (hl : ∀ p ∈ m, p.2 ∈ D.lives) (hlen : m.length ≤ N) : (D.settleA m).ok N := by
  have hids : (D.settleA m).files.map (·.1) = livesA m [] := by
    have h1 : Asc ((D.settleA m).files.map (·.1)) := by
      unfold Asc
      rw [List.pairwise_map]
      exact List.Pairwise.filter _ (asc_files ok)
    refine h1.ext (ascOf_asc _) fun x => ?_
    unfold DiskA.settleA
    simp only [List.mem_map, List.mem_filter, List.contains_iff_mem]
    refine ⟨?_, fun hx => ?_⟩
    · rintro ⟨p, ⟨_, hp⟩, rfl⟩; exact hp
    · have hx2 := hx
      unfold livesA at hx2
      rw [mem_ascOf] at hx2
      simp [turnIds] at hx2
      obtain ⟨k, hk⟩ := hx2
      have := hl _ hk
      rw [← ok.ids] at this
      obtain ⟨p, hp, e⟩ := List.mem_map.1 this
      exact ⟨p, ⟨hp, by rw [e]; exact hx⟩, e⟩
  have hsub : ∀ p ∈ (D.settleA m).files, p ∈ D.files := fun p hp => (List.mem_filter.1 hp).1
  have hsum : ∀ l : List (Int × FileA), ∀ q : Int × FileA → Bool, sumA (l.filter q) ≤ sumA l := by
    intro l q
    induction l with
    | nil => exact Nat.le_refl _
    | cons x l ih =>
      rw [List.filter_cons]
      split
      · simp only [sumA]; omega
      · simp only [sumA]; omega
  refine ⟨ok.room0, ok.room1, ok.most0, ok.most1, ok.made0, ok.made1, hids, fun p hp => ok.rng p (hsub p hp), ?_, fun p hp => ok.fok p (hsub p hp), fun p hp => ok.pend p (hsub p hp), ?_, (fun t ht => by cases ht), hm, ok.cnt0, ok.cnt1, ok.plan0⟩
  · have h1 := hsum D.files fun p => (livesA m []).contains p.1
    have h2 := ok.held
    show ((sumA (D.files.filter fun p => (livesA m []).contains p.1) : Nat) : Int) ≤ D.room
    unfold DiskA.held at h2
    omega
  · show m.length + 0 ≤ N
    omega
theorem now_len {N : Nat} {D : DiskA} (ok : D.ok N) : D.now.length ≤ N := Nat.le_trans (namesA_length _ _) ok.names
theorem ok_now {N : Nat} {D : DiskA} (ok : D.ok N) : D.now.ok := ok_names ok.safeN
theorem ok_syncNames {N : Nat} {D : DiskA} (ok : D.ok N) : D.syncNamesA.2.ok (N + 1) := by
  have okS := ok_struck ok
  unfold DiskA.syncNamesA
  split
  · exact ok_mono ok (by omega)
  split
  · exact okS
  · exact ok_settle okS (ok_now ok) (now_lives D) (by have := now_len ok; omega)
theorem named_size {s : ByteArray} (h : namedA s = true) : s.size ≤ 40 := by
  unfold namedA at h
  simp only [Bool.and_eq_true, decide_eq_true_eq] at h
  exact h.1.2
theorem there_named {D : DiskA} {s : ByteArray} (h : D.thereE s ≠ 5) : namedA s = true := by
  cases hb : namedA s with
  | true => rfl
  | false => exact absurd ((there_spec D s).1 hb) h
theorem ok_create {N : Nat} {D : DiskA} (ok : D.ok N) (s : ByteArray) : (D.createA s).2.ok (N + 2) := by
  unfold DiskA.createA
  split
  · exact ok_mono ok (by omega)
  split
  · exact ok_mono ok (by omega)
  split
  · exact ok_mono ok (by omega)
  rename_i h0 h1 h2
  have h2 : D.thereE s = 6 := by omega
  have okS := ok_struck ok
  have hs := named_size (there_named (D := D) (s := s) (by rw [h2]; decide))
  split
  · exact ok_mono okS (by omega)
  split
  · exact ok_mono okS (by omega)
  have ok1 := ok_mono okS (Nat.le_succ _)
  have hm0 := ok.made0
  have hm1 := ok.made1
  have hnm := ok.names
  have hasc := asc_files ok
  refine ⟨ok.room0, ok.room1, ok.most0, ok.most1, by show 0 ≤ D.made + 1; omega, by show D.made + 1 ≤ _; omega, ?_, ?_, ?_, ?_, ?_, ?_, ?_, ok.safeN, ok1.cnt0, ok1.cnt1, ok.plan0⟩
  · show (D.files ++ [(D.made + 1, FileA.mk [] [])]).map (·.1) = livesA D.safe (D.turns ++ [⟨ByteArray.empty, s, D.made + 1⟩])
    have hhas : TurnA.has ⟨ByteArray.empty, s, D.made + 1⟩ = true := by
      have hz : namedA s = true := there_named (D := D) (by rw [h2]; decide)
      unfold namedA at hz
      simp only [Bool.and_eq_true, decide_eq_true_eq] at hz
      rw [has_eq]
      have : bl s ≠ [] := by
        intro e
        have hl := congrArg List.length e
        have h5 : 0 < s.data.size := hz.1.1
        simp [bl] at hl
        simp [hl] at h5
      simp [this]
    have h3 : Asc ((D.files ++ [(D.made + 1, FileA.mk [] [])]).map (·.1)) := by
      unfold Asc
      rw [List.pairwise_map, List.pairwise_append]
      refine ⟨hasc, List.pairwise_singleton _ _, fun p hp q hq => ?_⟩
      rw [List.mem_singleton.1 hq]
      have := (ok.rng p hp).2
      show p.1 < D.made + 1
      omega
    refine h3.ext (ascOf_asc _) fun x => ?_
    show _ ↔ x ∈ ascOf _
    rw [mem_ascOf]
    unfold turnIds
    rw [List.filter_append, List.map_append, List.map_append, ok.ids]
    have h4 : ([(⟨ByteArray.empty, s, D.made + 1⟩ : TurnA)].filter (·.has)) = [⟨ByteArray.empty, s, D.made + 1⟩] := by rw [List.filter_cons, if_pos hhas]; rfl
    rw [h4]
    unfold DiskA.lives livesA
    simp only [List.mem_append, mem_ascOf, List.map_cons, List.map_nil]
    unfold turnIds
    rw [or_assoc]
  · intro p hp
    rcases List.mem_append.1 hp with h | h
    · have := ok.rng p h
      show 1 ≤ p.1 ∧ p.1 ≤ D.made + 1
      omega
    · rw [List.mem_singleton.1 h]
      show 1 ≤ D.made + 1 ∧ D.made + 1 ≤ D.made + 1
      omega
  · show ((sumA (D.files ++ [(D.made + 1, FileA.mk [] [])]) : Nat) : Int) ≤ D.room
    rw [sumA_append]
    have := ok.held
    unfold DiskA.held at this
    simp [sumA, FileA.lens, lensFrom]
    exact this
  · intro p hp
    rcases List.mem_append.1 hp with h | h
    · exact ok.fok p h
    · rw [List.mem_singleton.1 h]; trivial
  · intro p hp
    rcases List.mem_append.1 hp with h | h
    · exact ok1.pend p h
    · rw [List.mem_singleton.1 h]; exact Nat.zero_le _
  · show D.safe.length + (D.turns ++ [_]).length ≤ N + 2
    rw [List.length_append]; simp; omega
  · intro q hq
    rcases List.mem_append.1 hq with h | h
    · have := ok.short q h
      show _ ∧ _ ∧ _ ∧ q.file ≤ D.made + 1
      exact ⟨this.1, this.2.1, this.2.2.1, by omega⟩
    · rw [List.mem_singleton.1 h]
      exact ⟨Nat.zero_le _, hs, by show 0 ≤ D.made + 1; omega, Int.le_refl _⟩
theorem ok_plan {N : Nat} {D : DiskA} (ok : D.ok N) {a b : List (Int × Int)} (ha : a.length ≤ 1099511627776) (hb : b.length ≤ 1099511627776) : (D.planA a b).ok N :=
  ⟨ok.room0, ok.room1, ok.most0, ok.most1, ok.made0, ok.made1, ok.ids, ok.rng, ok.held, ok.fok, ok.pend, ok.names, ok.short, ok.safeN, ⟨Int.le_refl _, Int.natCast_nonneg _⟩, ⟨Int.le_refl _, Int.natCast_nonneg _⟩, ⟨ha, hb⟩⟩
theorem ok_off {N : Nat} {D : DiskA} (ok : D.ok N) (b : Bool) : DiskA.ok N { D with off := b } :=
  ⟨ok.room0, ok.room1, ok.most0, ok.most1, ok.made0, ok.made1, ok.ids, ok.rng, ok.held, ok.fok, ok.pend, ok.names, ok.short, ok.safeN, ok.cnt0, ok.cnt1, ok.plan0⟩
theorem ok_read {N : Nat} {D : DiskA} (ok : D.ok N) (s : ByteArray) : (D.readA s).2.ok (N + 1) := by
  have ok1 := ok_mono ok (Nat.le_succ N)
  have h1 := ok.cnt1
  have okR : DiskA.ok (N + 1) { D with reads := D.reads + 1 } := ⟨ok.room0, ok.room1, ok.most0, ok.most1, ok.made0, ok1.made1, ok.ids, ok.rng, ok.held, ok.fok, ok1.pend, ok1.names, ok.short, ok.safeN, ok1.cnt0, ⟨by show 0 ≤ D.reads + 1; omega, by show D.reads + 1 ≤ _; omega⟩, ok.plan0⟩
  unfold DiskA.readA
  split
  · exact ok1
  split
  · exact ok1
  split
  · exact ok_off okR _
  · exact okR
theorem ok_crashN {N : Nat} {D : DiskA} (ok : D.ok N) (pf : List (Int × List Int)) : ∀ j, j ≤ D.files.length → (D.crashN pf j).ok N := by
  intro j
  induction j with
  | zero => intro _; have : D.crashN pf 0 = D := by unfold DiskA.crashN; rw [crashF_zero]
            rw [this]; exact ok
  | succ j ih =>
    intro hj
    have hj' : j < D.files.length := by omega
    have hg := List.getElem?_eq_getElem hj'
    rw [← crashN_succ (asc_files ok) hg]
    have hm := List.getElem_mem hj'
    exact ok_setSafe (ih (by omega)) (f := D.files[j].2) (crashN_mem hg) (lost_le (ok.fok _ hm) _)
theorem ok_crash {N : Nat} {D : DiskA} (ok : D.ok N) (P : PicksA) : (D.crashA P).ok N := by
  unfold DiskA.crashA
  have h1 := ok_crashN ok P.files _ (Nat.le_refl _)
  have h2 := leftA_length D.turns P.names P.skipped
  have h3 := namesA_length (leftA D.turns P.names P.skipped) D.safe
  have h4 := ok.names
  refine ok_plan (ok_off (ok_settle h1 (ok_names ok.safeN) (crash_lives D P.names P.skipped) (by omega)) false) (Nat.zero_le _) (Nat.zero_le _)
theorem ok_new {room most : Int} (h : ¬ (room < 0 ∨ room > 4194304 ∨ most < 0 ∨ most > 512)) : (newA room most).ok 0 := by
  refine ⟨by show 0 ≤ room; omega, by show room ≤ _; omega, by show 0 ≤ most; omega, by show most ≤ _; omega, Int.le_refl _, Int.le_refl _, ?_, (fun p hp => by cases hp), by show (0 : Int) ≤ room; omega, (fun p hp => by cases hp), (fun p hp => by cases hp), Nat.le_refl _, (fun p hp => by cases hp), List.Pairwise.nil, ⟨Int.le_refl _, Int.le_refl _⟩, ⟨Int.le_refl _, Int.le_refl _⟩, ⟨Nat.zero_le _, Nat.zero_le _⟩⟩
  show [] = ascOf ([] ++ [])
  simp [ascOf, Lib.compact, Lib.compactUpTo]
end Go.Disk
set_option linter.unusedVariables false
set_option linter.unusedSimpArgs false
/-! DF: disks, worked out. -/
namespace Go.Disk
open Go Go.V Go.Proofs
theorem lives_files {N : Nat} {D : DiskA} (ok : D.ok N) : D.lives.length = D.files.length := by rw [← ok.ids, List.length_map]
theorem settle_eq (D : DiskA) (m : Nm) : D.settleA m = { D with safe := m, turns := [], files := D.files.filter fun p => (m.map (·.2)).contains p.1 } := by
  unfold DiskA.settleA
  congr 1
  refine List.filter_congr fun p _ => ?_
  rw [Bool.eq_iff_iff, List.contains_iff_mem, List.contains_iff_mem]
  show p.1 ∈ ascOf _ ↔ _
  rw [mem_ascOf]
  simp [turnIds]
theorem doN_eq (t : TurnA) (m : Nm) : t.doN m = if bl t.to = [] then m.del (bl t.fr) else (m.del (bl t.fr)).put (bl t.to) t.file := by
  unfold TurnA.doN
  rw [has_eq]
  by_cases h : bl t.to = [] <;> simp [h]
abbrev sA : ByteArray := ByteArray.mk #[97]
theorem there_ok {D : DiskA} {s : ByteArray} {i : Int} (hn : namedA s = true) (hg : D.now.get (bl s) = some i) : D.thereE s = 0 ∧ D.idOf s = i := (there_spec D s).2.2 i hn hg
theorem append_ok {D : DiskA} {s : ByteArray} {i : Int} (l : List UInt8) (ho : D.off = false) (hn : namedA s = true) (hg : D.now.get (bl s) = some i) (hf : failErr D.kind = 0) : D.appendA s l = D.struck.layA i l := by
  obtain ⟨h1, h2⟩ := there_ok hn hg
  unfold DiskA.appendA
  rw [if_neg (by rw [ho]; decide), if_neg (by rw [h1]; decide), if_neg (by rw [hf]; decide), h2]
theorem sync_ok {D : DiskA} {s : ByteArray} {i : Int} (ho : D.off = false) (hn : namedA s = true) (hg : D.now.get (bl s) = some i) (hf : failErr D.kind = 0) : D.syncA s = (0, D.struck.setF i ⟨(D.fileD i).bytes, []⟩) := by
  obtain ⟨h1, h2⟩ := there_ok hn hg
  unfold DiskA.syncA
  rw [if_neg (by rw [ho]; decide), if_neg (by rw [h1]; decide), if_neg (by rw [hf]; decide), h2]
theorem trunc_ok {D : DiskA} {s : ByteArray} {i : Int} {size : Int} (ho : D.off = false) (hn : namedA s = true) (hg : D.now.get (bl s) = some i) (hf : failErr D.kind = 0) (hs : 0 ≤ size ∧ size ≤ (D.fileD i).lens.1) : D.truncA s size = (0, if size = (D.fileD i).lens.1 then D.struck else D.struck.setF i ⟨(D.fileD i).safe, (D.fileD i).pend ++ [.cut size.toNat]⟩) := by
  obtain ⟨h1, h2⟩ := there_ok hn hg
  unfold DiskA.truncA
  rw [if_neg (by rw [ho]; decide), if_neg (by rw [h1]; decide), h2, if_neg (by omega), if_neg (by rw [hf]; decide)]
  by_cases hz : size = (D.fileD i).lens.1
  · rw [if_neg (fun h => h hz), if_pos hz]
  · rw [if_pos hz, if_neg hz]
theorem names_ok {D : DiskA} (ho : D.off = false) (hf : failErr D.kind = 0) : D.syncNamesA = (0, D.struck.settleA D.now) := by
  unfold DiskA.syncNamesA
  rw [if_neg (by rw [ho]; decide), if_neg (by rw [hf]; decide)]
theorem read_ok {D : DiskA} {s : ByteArray} {i : Int} (ho : D.off = false) (hn : namedA s = true) (hg : D.now.get (bl s) = some i) (hf : failErr D.kindR = 0) : D.readA s = (((D.fileD i).bytes, 0), { D with reads := D.reads + 1 }) := by
  obtain ⟨h1, h2⟩ := there_ok hn hg
  unfold DiskA.readA
  rw [if_neg (by rw [ho]; decide), if_neg (by rw [h1]; decide), if_neg (by rw [hf]; decide), h2]
theorem create_ok {N : Nat} {D : DiskA} {s : ByteArray} (ok : D.ok N) (ho : D.off = false) (hn : namedA s = true) (hg : D.now.get (bl s) = none) (hf : failErr D.kind = 0) (hm : (D.files.length : Int) + 1 ≤ D.most) : D.createA s = (0, { D.struck.addA [] with turns := D.turns ++ [⟨ByteArray.empty, s, D.made + 1⟩] }) := by
  have h1 := (there_spec D s).2.1 hn hg
  unfold DiskA.createA
  rw [if_neg (by rw [ho]; decide), if_neg (by rw [h1]; decide), if_neg (by rw [h1]; decide), if_neg (by rw [hf]; decide), lives_files ok, if_neg (by omega)]
theorem create_ex {D : DiskA} {s : ByteArray} {i : Int} (ho : D.off = false) (hn : namedA s = true) (hg : D.now.get (bl s) = some i) : D.createA s = (7, D) := by
  obtain ⟨h1, h2⟩ := there_ok hn hg
  unfold DiskA.createA
  rw [if_neg (by rw [ho]; decide), if_pos h1]

/-! ### what the document fixes -/
def kD1 : DiskA := ⟨100, 3, 1, [(1, ⟨[], []⟩)], [], [⟨ByteArray.empty, sA, 1⟩], [], [], 1, 0, false⟩
def kD2 : DiskA := ⟨100, 3, 1, [(1, ⟨[], [.app [5, 5, 5, 5]]⟩)], [], [⟨ByteArray.empty, sA, 1⟩], [], [], 2, 0, false⟩
def kD3 : DiskA := ⟨100, 3, 1, [(1, ⟨[5, 5, 5, 5], []⟩)], [], [⟨ByteArray.empty, sA, 1⟩], [], [], 3, 0, false⟩
def k20 : List UInt8 := [7, 7, 7, 7, 7, 7, 7, 7, 7, 7, 7, 7, 7, 7, 7, 7, 7, 7, 7, 7]
def kD4 : DiskA := ⟨100, 3, 1, [(1, ⟨[5, 5, 5, 5], [.app k20]⟩)], [], [⟨ByteArray.empty, sA, 1⟩], [], [], 4, 0, false⟩
def kD5 : DiskA := ⟨100, 3, 1, [(1, ⟨[5, 5, 5, 5], [.app k20]⟩)], [([97], 1)], [], [], [], 5, 0, false⟩
def kD6 : DiskA := ⟨100, 3, 1, [(1, ⟨[5, 5, 5, 5, 0, 0, 0, 0, 0, 0, 0, 0, 0, 0, 0, 0, 7, 7, 7, 7, 7, 7, 7, 7], []⟩)], [([97], 1)], [], [], [], 0, 0, false⟩
theorem know : namesA [] [⟨ByteArray.empty, sA, 1⟩] = [([97], 1)] := by
  show TurnA.doN _ _ = _
  rw [doN_eq]; rfl
theorem kn1 : (newA 100 3).createA sA = (0, kD1) := create_ok (ok_new (by omega)) rfl rfl rfl rfl (by decide)
theorem kn2 : kD1.createA sA = (7, kD1) := create_ex (i := 1) rfl rfl (by unfold DiskA.now; rw [show namesA kD1.safe kD1.turns = _ from know]; rfl)
theorem kn3 : kD1.appendA sA [5, 5, 5, 5] = (0, kD2) := (append_ok (i := 1) _ rfl rfl (by unfold DiskA.now; rw [show namesA kD1.safe kD1.turns = _ from know]; rfl) rfl).trans rfl
theorem kn4 : kD2.syncA sA = (0, kD3) := (sync_ok (i := 1) rfl rfl (by unfold DiskA.now; rw [show namesA kD2.safe kD2.turns = _ from know]; rfl) rfl).trans rfl
theorem kn5 : kD3.appendA sA k20 = (0, kD4) := (append_ok (i := 1) _ rfl rfl (by unfold DiskA.now; rw [show namesA kD3.safe kD3.turns = _ from know]; rfl) rfl).trans rfl
theorem kn6 : kD4.syncNamesA = (0, kD5) := by
  rw [names_ok rfl rfl, settle_eq]
  unfold DiskA.now
  rw [show namesA kD4.safe kD4.turns = _ from know]
  rfl
theorem kn7 : kD5.crashA ⟨0, [], [(1, [0])]⟩ = kD6 := by
  unfold DiskA.crashA
  rw [settle_eq]
  rfl
theorem kn8 : kD5.crashT ⟨0, [], [(1, [0])]⟩ = [([97], [5, 5, 5, 5, 7, 7, 7, 7, 7, 7, 7, 7, 7, 7, 7, 7, 7, 7, 7, 7, 7, 7, 7, 7])] := by
  unfold DiskA.crashT
  rw [kn7]
  rfl
theorem kn9 : kD6.readA sA = (([5, 5, 5, 5, 0, 0, 0, 0, 0, 0, 0, 0, 0, 0, 0, 0, 7, 7, 7, 7, 7, 7, 7, 7], 0), { kD6 with reads := 1 }) := (read_ok (i := 1) rfl rfl rfl rfl).trans rfl
end Go.Disk
set_option linter.unusedVariables false
set_option linter.unusedSimpArgs false
set_option linter.unusedSectionVars false
namespace Go.Proofs
open Go Go.V Go.Disk
/-- A disk that one has made oneself since a heap, and memory of one's own (V) that is none of the disk's. -/
def Tryz.On (h0 h : Hp) (d : Nat) (D : DiskA) (N : Nat) (V : Nat → Prop) : Prop :=
  ∃ g, g.d = d ∧ g.D = D ∧ Tryz.DR h g ∧ D.ok N ∧ (∀ b, DB g b → h0.size ≤ b) ∧ Grow h0 h ∧ (∀ b, V b → h0.size ≤ b ∧ b < h.size ∧ ¬ DB g b)
/-- What a call on the disk may write. -/
def Out (h0 : Hp) (V : Nat → Prop) (b : Nat) : Prop := h0.size ≤ b ∧ ¬ V b
theorem Tryz.On.ok {h0 h : Hp} {d : Nat} {D : DiskA} {N : Nat} {V : Nat → Prop} (o : Tryz.On h0 h d D N V) : D.ok N := by obtain ⟨g, _, _, _, h, _⟩ := o; exact h
theorem Tryz.On.grow {h0 h : Hp} {d : Nat} {D : DiskA} {N : Nat} {V : Nat → Prop} (o : Tryz.On h0 h d D N V) : Grow h0 h := by obtain ⟨g, _, _, _, _, _, h, _⟩ := o; exact h
theorem Tryz.On.lt {h0 h : Hp} {d : Nat} {D : DiskA} {N : Nat} {V : Nat → Prop} (o : Tryz.On h0 h d D N V) : ∀ b, V b → h0.size ≤ b ∧ b < h.size := by
  obtain ⟨g, _, _, _, _, _, _, h⟩ := o
  exact fun b hb => ⟨(h b hb).1, (h b hb).2.1⟩
/-- Memory of one's own has been written or laid. -/
theorem Tryz.On.mine {h0 h h' : Hp} {d : Nat} {D : DiskA} {N : Nat} {V : Nat → Prop} (o : Tryz.On h0 h d D N V) (k : Kp V h h') : Tryz.On h0 h' d D N (fun b => V b ∨ (h.size ≤ b ∧ b < h'.size)) := by
  obtain ⟨g, e1, e2, r, ok, hb, gr, hv⟩ := o
  have lt := Tryz.DB_lt r
  have z := k.size
  have zg := gr.size
  refine ⟨g, e1, e2, r.kp k fun b hb hx => (hv b hx).2.2 hb, ok, hb, gr.trans' k fun q hq hx => by have := (hv q hx).1; omega, ?_⟩
  rintro b (hx | hx)
  · have := hv b hx
    exact ⟨this.1, by omega, this.2.2⟩
  · exact ⟨by omega, hx.2, fun hy => by have := lt b hy; omega⟩
theorem Tryz.On.less {h0 h : Hp} {d : Nat} {D : DiskA} {N : Nat} {V V' : Nat → Prop} (o : Tryz.On h0 h d D N V) (hV : ∀ b, V' b → V b) : Tryz.On h0 h d D N V' := by
  obtain ⟨g, e1, e2, r, ok, hb, gr, hv⟩ := o
  exact ⟨g, e1, e2, r, ok, hb, gr, fun b hx => hv b (hV b hx)⟩
theorem Tryz.On.more {h0 h : Hp} {d : Nat} {D : DiskA} {N M : Nat} {V : Nat → Prop} (o : Tryz.On h0 h d D N V) (hM : N ≤ M) : Tryz.On h0 h d D M V := by
  obtain ⟨g, e1, e2, r, ok, hb, gr, hv⟩ := o
  exact ⟨g, e1, e2, r, ok_mono ok hM, hb, gr, hv⟩
theorem Tryz.On.goes {h0 h h' : Hp} {g : DG} {D' : DiskA} {d : Nat} {M : Nat} {V : Nat → Prop} (e1 : g.d = d) (hb : ∀ b, DB g b → h0.size ≤ b) (gr : Grow h0 h) (hv : ∀ b, V b → h0.size ≤ b ∧ b < h.size ∧ ¬ DB g b) (hok : D'.ok M) (x : Tryz.Goes h g D' h') :
    Tryz.On h0 h' d D' M V ∧ Kp (Out h0 V) h h' := by
  obtain ⟨g', e, eD, r, bl, k⟩ := x
  have z := k.size
  have zg := gr.size
  have kk : Kp (Out h0 V) h h' := k.mono fun b _ hx => ⟨hb b hx, fun hy => (hv b hy).2.2 hx⟩
  refine ⟨⟨g', e.trans e1, eD, r, hok, fun b hx => (bl b hx).elim (hb b) fun hx => by omega, gr.trans' k fun q hq hx => by have := hb q hx; omega, fun b hx => ?_⟩, kk⟩
  have := hv b hx
  exact ⟨this.1, by omega, fun hy => (bl b hy).elim this.2.2 fun hy => by omega⟩
/-- A call that turns the disk. -/
theorem Tryz.On.did {h0 h : Hp} {d : Nat} {D : DiskA} {N M : Nat} {V : Nat → Prop} {k : FuncId} {xs : List Value} {x : Int × DiskA} (o : Tryz.On h0 h d D N V) (hok : x.2.ok M)
    (c : ∀ g, g.D = D → Tryz.DR h g → CH Tryz.prog k (#[.pointer (some ⟨g.d, 0, none⟩)] ++ xs.toArray) h (Tryz.Did h g x)) :
    CH Tryz.prog k (#[.pointer (some ⟨d, 0, none⟩)] ++ xs.toArray) h fun v h' => v = .int .i64 x.1 ∧ Tryz.On h0 h' d x.2 M V ∧ Kp (Out h0 V) h h' := by
  obtain ⟨g, rfl, e2, r, ok, hb, gr, hv⟩ := o
  refine (c g e2 r).mono ?_
  rintro v h' ⟨rfl, x⟩
  obtain ⟨a, b⟩ := Tryz.On.goes rfl hb gr hv hok x
  exact ⟨rfl, a, b⟩

section
variable {h0 h : Hp} {d : Nat} {D : DiskA} {N : Nat} {V : Nat → Prop} (o : Tryz.On h0 h d D N V) (hN : N < 1073741824)
include o hN
theorem Tryz.On.create (s : ByteArray) : CH Tryz.prog 11 #[.pointer (some ⟨d, 0, none⟩), .string s] h fun v h' => v = .int .i64 (D.createA s).1 ∧ Tryz.On h0 h' d (D.createA s).2 (N + 2) V ∧ Kp (Out h0 V) h h' :=
  o.did (xs := [.string s]) (ok_create o.ok s) fun g e r => by subst e; exact Tryz.c_Create r o.ok hN s
theorem Tryz.On.append (s : ByteArray) {A : Option Addr} {n c : Nat} {l : List UInt8} (hs : BS h A n l) (hn : n ≤ 1099511627776) (hc : n ≤ c) : CH Tryz.prog 12 #[.pointer (some ⟨d, 0, none⟩), .string s, .slice A n c] h fun v h' => v = .int .i64 (D.appendA s l).1 ∧ Tryz.On h0 h' d (D.appendA s l).2 (N + 2) V ∧ Kp (Out h0 V) h h' :=
  o.did (xs := [.string s, .slice A n c]) (ok_append o.ok s l) fun g e r => by subst e; exact Tryz.c_Append r o.ok hN s hs hn hc
theorem Tryz.On.sync (s : ByteArray) : CH Tryz.prog 13 #[.pointer (some ⟨d, 0, none⟩), .string s] h fun v h' => v = .int .i64 (D.syncA s).1 ∧ Tryz.On h0 h' d (D.syncA s).2 (N + 1) V ∧ Kp (Out h0 V) h h' :=
  o.did (xs := [.string s]) (ok_sync o.ok s) fun g e r => by subst e; exact Tryz.c_Sync r o.ok hN s
theorem Tryz.On.names : CH Tryz.prog 14 #[.pointer (some ⟨d, 0, none⟩)] h fun v h' => v = .int .i64 D.syncNamesA.1 ∧ Tryz.On h0 h' d D.syncNamesA.2 (N + 1) V ∧ Kp (Out h0 V) h h' :=
  o.did (xs := []) (ok_syncNames o.ok) fun g e r => by subst e; exact Tryz.c_SyncNames r o.ok hN
theorem Tryz.On.truncate (s : ByteArray) (size : Int) : CH Tryz.prog 17 #[.pointer (some ⟨d, 0, none⟩), .string s, .int .i64 size] h fun v h' => v = .int .i64 (D.truncA s size).1 ∧ Tryz.On h0 h' d (D.truncA s size).2 (N + 2) V ∧ Kp (Out h0 V) h h' :=
  o.did (xs := [.string s, .int .i64 size]) (ok_trunc o.ok s size) fun g e r => by subst e; exact Tryz.c_Truncate r o.ok hN s size
theorem Tryz.On.plan {A B : Option Addr} {n c m k : Nat} {l q : List (Int × Int)} (hn : n = l.length) (hm : m = q.length) (h1 : Src h (n * 2) (faultV l) A) (h2 : Src h (m * 2) (faultV q) B) (hnb : n ≤ 1099511627776) (hmb : m ≤ 1099511627776) :
    CH Tryz.prog 16 #[.pointer (some ⟨d, 0, none⟩), .agg #[.slice A n c, .slice B m k]] h fun v h' => Tryz.On h0 h' d (D.planA l q) N V ∧ Kp (Out h0 V) h h' := by
  obtain ⟨g, rfl, rfl, r, ok, hb, gr, hv⟩ := o
  refine (Tryz.c_Plan r hn hm h1 h2 hnb hmb).mono ?_
  rintro v h' ⟨rfl, x⟩
  exact Tryz.On.goes rfl hb gr hv (ok_plan ok (by omega) (by omega)) x
theorem Tryz.On.read (s : ByteArray) : CH Tryz.prog 18 #[.pointer (some ⟨d, 0, none⟩), .string s] h fun v h' => ∃ A n c, v = .tuple #[.slice A n c, .int .i64 (D.readA s).1.2] ∧ BS h' A n (D.readA s).1.1 ∧ Tag h' A 5 ∧ (A = none → n = 0) ∧ ∃ V', (∀ b, V b → V' b) ∧ (∀ b, inA A b → V' b) ∧ Tryz.On h0 h' d (D.readA s).2 (N + 1) V' ∧ Kp (Out h0 V) h h' := by
  obtain ⟨g, rfl, rfl, r, ok, hb, gr, hv⟩ := o
  refine (Tryz.c_Read r ok hN s).mono ?_
  rintro v h' ⟨A, n, c, rfl, h1, h2, h3, h4, g', e, eD, r', bl, nA, k⟩
  have z := k.size
  have zg := gr.size
  have kk : Kp (Out h0 V) h h' := k.mono fun b _ hx => ⟨hb b hx, fun hy => (hv b hy).2.2 hx⟩
  refine ⟨A, n, c, rfl, h1, h2, h4, fun b => V b ∨ inA A b, fun b => .inl, fun b => .inr, ⟨g', e, eD, r', ok_read ok s, fun b hx => (bl b hx).elim (hb b) fun hx => by omega, gr.trans' k fun q hq hx => by have := hb q hx; omega, fun b hx => ?_⟩, kk⟩
  rcases hx with hx | hx
  · have := hv b hx
    exact ⟨this.1, by omega, fun hy => (bl b hy).elim this.2.2 fun hy => by omega⟩
  · exact ⟨by have := h3 b hx; omega, h2.lt b hx, nA b hx⟩
theorem Tryz.On.crash {sA : Option Addr} {sn sc : Nat} {fA : Option Addr} {fn fc : Nat} {P : PicksA} (hP : Tryz.PicksR h (fun b => b < h0.size ∨ V b) sA sn fA fn P) (hfn : fn ≤ 1073741824) :
    CH Tryz.prog 20 #[.pointer (some ⟨d, 0, none⟩), .agg #[.int .i64 P.names, .slice sA sn sc, .slice fA fn fc]] h fun v h' => ∃ A n c, v = .slice A n c ∧ ∃ V', (∀ b, V b → V' b) ∧ Tryz.FilesR h' V' A n c (D.crashT P) ∧ Tryz.On h0 h' d (D.crashA P) N V' ∧ Kp (Out h0 V) h h' := by
  obtain ⟨g, rfl, rfl, r, ok, hb, gr, hv⟩ := o
  have zg := gr.size
  refine (Tryz.c_Crash r ok hN (hP.mono fun b hx => hx.elim (fun hx => ⟨by omega, fun hy => by have := hb b hy; omega⟩) fun hx => ⟨(hv b hx).2.1, (hv b hx).2.2⟩) hfn).mono ?_
  rintro v h' ⟨g', e, eD, r', bl, k, A, n, c, rfl, q, q1, q2, q3, q4, q5⟩
  have z := k.size
  have kk : Kp (Out h0 V) h h' := k.mono fun b _ hx => ⟨hb b hx, fun hy => (hv b hy).2.2 hx⟩
  refine ⟨A, n, c, rfl, fun b => V b ∨ (h.size ≤ b ∧ b < h'.size ∧ ¬ DB g' b), fun b => .inl, ⟨q, q1, q2, fun x hx => ⟨(q3 x hx).1, fun b hx2 => .inr ⟨((q3 x hx).2 b hx2).1, (q3 x hx).1.lt b hx2, ((q3 x hx).2 b hx2).2⟩⟩, fun b hx => .inr ⟨(q4 b hx).1, q2.lt b hx, (q4 b hx).2⟩, q5⟩, ⟨g', e, eD, r', ok_crash ok P, fun b hx => (bl b hx).elim (hb b) fun hx => by omega, gr.trans' k fun q hq hx => by have := hb q hx; omega, fun b hx => ?_⟩, kk⟩
  rcases hx with hx | hx
  · have := hv b hx
    exact ⟨this.1, by omega, fun hy => (bl b hy).elim this.2.2 fun hy => by omega⟩
  · exact ⟨by omega, hx.2.1, hx.2.2⟩
/-- What only lays new memory. -/
theorem Tryz.On.new {h' : Hp} (gg : Grow h h') : Tryz.On h0 h' d D N (fun b => V b ∨ (h.size ≤ b ∧ b < h'.size)) := o.mine gg.kp
theorem Tryz.On.list : CH Tryz.prog 26 #[.pointer (some ⟨d, 0, none⟩)] h fun v h' => ∃ A n c, v = .tuple #[.slice A n c, .int .i64 D.listA.2] ∧ OwnS h' 9 1 A n c (D.listA.1.map sv) ∧ Tryz.On h0 h' d D N (fun b => V b ∨ (h.size ≤ b ∧ b < h'.size)) ∧ Grow h h' ∧ (∀ b, inA A b → h.size ≤ b) := by
  have o' := o
  obtain ⟨g, rfl, rfl, r, ok, hb, gr, hv⟩ := o
  refine (Tryz.c_List r ok hN).mono ?_
  rintro v h' ⟨A, n, c, rfl, h1, h2, h3⟩
  exact ⟨A, n, c, rfl, h1, o'.new hN h2, h2, h3⟩
theorem Tryz.On.files : CH Tryz.prog 35 #[.pointer (some ⟨d, 0, none⟩)] h fun v h' => ∃ A n c, v = .slice A n c ∧ Tryz.FilesR h' (h.size ≤ ·) A n c D.filesA ∧ Tryz.On h0 h' d D N (fun b => V b ∨ (h.size ≤ b ∧ b < h'.size)) ∧ Grow h h' := by
  have o' := o
  obtain ⟨g, rfl, rfl, r, ok, hb, gr, hv⟩ := o
  refine (Tryz.c_Files r ok hN).mono ?_
  rintro v h' ⟨A, n, c, rfl, h1, h2⟩
  exact ⟨A, n, c, rfl, h1, o'.new hN h2, h2⟩
theorem Tryz.On.safe : CH Tryz.prog 30 #[.pointer (some ⟨d, 0, none⟩)] h fun v h' => ∃ A n c, v = .slice A n c ∧ Tryz.FilesR h' (h.size ≤ ·) A n c D.safeA ∧ Tryz.On h0 h' d D N (fun b => V b ∨ (h.size ≤ b ∧ b < h'.size)) ∧ Grow h h' := by
  have o' := o
  obtain ⟨g, rfl, rfl, r, ok, hb, gr, hv⟩ := o
  refine (Tryz.c_Safe r ok hN).mono ?_
  rintro v h' ⟨A, n, c, rfl, h1, h2⟩
  exact ⟨A, n, c, rfl, h1, o'.new hN h2, h2⟩
theorem Tryz.On.pending : CH Tryz.prog 21 #[.pointer (some ⟨d, 0, none⟩)] h fun v h' => ∃ A n c, v = .tuple #[.int .i64 D.pendingA.1, .slice A n c] ∧ n = D.pendingA.2.length ∧ OwnS h' 3 1 A n c (D.pendingA.2.map iv) ∧ Tryz.On h0 h' d D N (fun b => V b ∨ (h.size ≤ b ∧ b < h'.size)) ∧ Grow h h' ∧ (∀ b, inA A b → h.size ≤ b) := by
  have o' := o
  obtain ⟨g, rfl, rfl, r, ok, hb, gr, hv⟩ := o
  refine (Tryz.c_Pending r ok (by omega)).mono ?_
  rintro v h' ⟨A, n, c, rfl, h1, h2, h3, h4⟩
  exact ⟨A, n, c, rfl, h1, h2, o'.new hN h3, h3, h4⟩
theorem Tryz.On.held : CH Tryz.prog 28 #[.pointer (some ⟨d, 0, none⟩)] h fun v h' => v = .tuple #[.int .i64 D.heldA.1, .int .i64 D.heldA.2] ∧ Tryz.On h0 h' d D N (fun b => V b ∨ (h.size ≤ b ∧ b < h'.size)) ∧ Grow h h' := by
  have o' := o
  obtain ⟨g, rfl, rfl, r, ok, hb, gr, hv⟩ := o
  refine (Tryz.c_Held r ok (by omega)).mono ?_
  rintro v h' ⟨rfl, h1⟩
  exact ⟨rfl, o'.new hN h1, h1⟩
end
theorem Tryz.On.off {h0 h : Hp} {d : Nat} {D : DiskA} {N : Nat} {V : Nat → Prop} (o : Tryz.On h0 h d D N V) : CH Tryz.prog 36 #[.pointer (some ⟨d, 0, none⟩)] h fun v h' => v = .bool D.off ∧ h' = h := by
  obtain ⟨g, rfl, rfl, r, _⟩ := o
  exact Tryz.c_Off r
theorem Tryz.On.strokes {h0 h : Hp} {d : Nat} {D : DiskA} {N : Nat} {V : Nat → Prop} (o : Tryz.On h0 h d D N V) : CH Tryz.prog 37 #[.pointer (some ⟨d, 0, none⟩)] h fun v h' => v = .int .i64 D.strokes ∧ h' = h := by
  obtain ⟨g, rfl, rfl, r, _⟩ := o
  exact Tryz.c_Strokes r
theorem Tryz.On.reads {h0 h : Hp} {d : Nat} {D : DiskA} {N : Nat} {V : Nat → Prop} (o : Tryz.On h0 h d D N V) : CH Tryz.prog 38 #[.pointer (some ⟨d, 0, none⟩)] h fun v h' => v = .int .i64 D.reads ∧ h' = h := by
  obtain ⟨g, rfl, rfl, r, _⟩ := o
  exact Tryz.c_Reads r
/-- A new disk. -/
theorem Tryz.On.make {h0 h : Hp} (gr : Grow h0 h) (room files : Int) : CH Tryz.prog 22 #[.int .i64 room, .int .i64 files] h fun v h' =>
    ((room < 0 ∨ room > 4194304 ∨ files < 0 ∨ files > 512) ∧ v = .tuple #[.pointer none, .int .i64 1] ∧ h' = h) ∨
    (¬ (room < 0 ∨ room > 4194304 ∨ files < 0 ∨ files > 512) ∧ ∃ d, v = .tuple #[.pointer (some ⟨d, 0, none⟩), .int .i64 0] ∧ Tryz.On h0 h' d (newA room files) 0 (fun b => h0.size ≤ b ∧ b < h.size) ∧ Grow h h') := by
  refine (Tryz.c_New room files).mono ?_
  rintro v h' (⟨h1, h2, h3⟩ | ⟨h1, g, h2, h3, h4, h5, h6⟩)
  · exact .inl ⟨h1, h2, h3⟩
  · have z := gr.size
    have z6 := h6.size
    refine .inr ⟨h1, g.d, h2, ⟨g, rfl, h3, h4, ok_new h1, fun b hb => by have := h5 b hb; omega, gr.trans h6, fun b hb => ⟨hb.1, by omega, fun hx => by have := h5 b hx; omega⟩⟩, h6⟩
end Go.Proofs
set_option linter.unusedVariables false
set_option linter.unusedSimpArgs false
namespace Go.Proofs
open Go Go.V Go.Disk
theorem Fb.vs_get {q : List Fb} {i : Nat} (hi : i < q.length) : (Fb.vs q)[i * 2]? = some (sv q[i].name) ∧ (Fb.vs q)[i * 2 + 1]? = some (.slice q[i].A q[i].n q[i].c) := by
  induction q generalizing i with
  | nil => simp at hi
  | cons p l ih =>
    cases i with
    | zero => simp [Fb.vs]
    | succ i =>
      have := ih (i := i) (by simpa using hi)
      simp only [Fb.vs, List.flatMap_cons, List.getElem_cons_succ] at this ⊢
      rw [show (i + 1) * 2 = i * 2 + 2 by omega]
      simpa using this
theorem Tryz.FilesR.len {h : Hp} {V : Nat → Prop} {A : Option Addr} {n c : Nat} {l : List (List UInt8 × List UInt8)} (o : Tryz.FilesR h V A n c l) : n = l.length := by
  obtain ⟨q, h1, _, _, _, h5⟩ := o
  rw [h5, List.length_map]; exact h1
/-- One file of a list. -/
theorem Tryz.FilesR.get {h : Hp} {V : Nat → Prop} {A : Option Addr} {n c : Nat} {l : List (List UInt8 × List UInt8)} (o : Tryz.FilesR h V A n c l) {i : Nat} {x : List UInt8 × List UInt8} (hx : l[i]? = some x) :
    ∃ a B m d, A = some a ∧ cell h (a.add (i * 2)) = some (sv x.1) ∧ cell h ((a.add (i * 2)).add 1) = some (.slice B m d) ∧ OwnS h 5 1 B m d (x.2.map bv) ∧ BS h B m x.2 := by
  obtain ⟨q, h1, h2, h3, h4, h5⟩ := o
  subst h5
  rw [List.getElem?_map] at hx
  cases hq : q[i]? with
  | none => rw [hq] at hx; cases hx
  | some y =>
    rw [hq] at hx
    cases hx
    obtain ⟨hi, rfl⟩ := List.getElem?_eq_some_iff.1 hq
    obtain ⟨a, rfl⟩ := h2.src.addr (by omega)
    obtain ⟨g0, g1⟩ := Fb.vs_get hi
    have o5 := (h3 q[i] (List.getElem_mem hi)).1
    have hl := o5.src.len
    rw [List.length_map] at hl
    exact ⟨a, _, _, _, rfl, h2.src.get g0, by rw [add_add]; exact h2.src.get g1, o5, ⟨by simp only; omega, by have := o5.src; rwa [Nat.mul_one] at this⟩⟩
/-- A byte at a place. -/
theorem BS.at {h : Hp} {A : Option Addr} {n : Nat} {l : List UInt8} (s : BS h A n l) {j : Nat} {x : UInt8} (hx : l[j]? = some x) : ∃ a, A = some a ∧ ((j : Int) < n) ∧ cell h (a.add (j * 1)) = some (bv x) := by
  have hj : j < n := by have := (List.getElem?_eq_some_iff.1 hx).1; have := s.1; omega
  obtain ⟨a, rfl⟩ := s.2.addr (by omega)
  exact ⟨a, rfl, by omega, by rw [Nat.mul_one]; exact s.2.get (by rw [List.getElem?_map, hx]; rfl)⟩

theorem Tryz.c_known (h : Hp) : CH Tryz.prog 9 #[] h fun v h' => v = .bool true ∧ Grow h h' := by
  apply D_treadlelaw3_known.sound
  unfold D_treadlelaw3_known
  refine (Tryz.On.make (h0 := h) Kp.rfl' 100 3).mono ?_
  rintro v h2 (⟨h1, _⟩ | ⟨_, d, rfl, o, _⟩)
  · omega
  refine ⟨_, _, rfl, fun e => absurd e (by decide), fun _ => ⟨fun e => Bool.noConfusion e, fun _ => ?_⟩⟩
  have c := o.create (by omega) sA
  rw [kn1] at c
  refine c.mono ?_
  clear c o
  rintro v h3 ⟨rfl, o, _⟩
  refine ⟨_, rfl, fun e => absurd e (by decide), fun _ => ?_⟩
  have c := o.create (by omega) sA
  rw [kn2] at c
  refine c.mono ?_
  clear c o
  rintro v h4 ⟨rfl, o, _⟩
  refine ⟨_, rfl, fun e => absurd e (by decide), fun _ b5 h5 eb5 eh5 => ?_⟩
  obtain ⟨f5, g5, s5, _⟩ := boxed eb5 eh5
  have c := (o.new (by omega) g5).append (by omega) sA (A := some ⟨b5, 0, none⟩) (n := 4) (c := 4) (l := [5, 5, 5, 5]) ⟨rfl, rfl, row_all f5⟩ (by omega) (by omega)
  rw [kn3] at c
  refine c.mono ?_
  clear c o
  rintro v h6 ⟨rfl, o, _⟩
  refine ⟨_, rfl, fun e => absurd e (by decide), fun _ => ?_⟩
  have c := o.sync (by omega) sA
  rw [kn4] at c
  refine c.mono ?_
  clear c o
  rintro v h7 ⟨rfl, o, _⟩
  refine ⟨_, rfl, ?_⟩
  unfold D_treadlelaw3_known.J1
  refine ⟨fun e => absurd e (by decide), fun _ b8 h8 eb8 eh8 => ?_⟩
  obtain ⟨f8, g8, s8, _⟩ := boxed eb8 eh8
  have c := (o.new (by omega) g8).append (by omega) sA (A := some ⟨b8, 0, none⟩) (n := 20) (c := 20) (l := k20) ⟨rfl, rfl, row_all f8⟩ (by omega) (by omega)
  rw [kn5] at c
  refine c.mono ?_
  clear c o
  rintro v h9 ⟨rfl, o, _⟩
  refine ⟨_, rfl, fun e => absurd e (by decide), fun _ => ?_⟩
  have c := o.names (by omega)
  rw [kn6] at c
  refine c.mono ?_
  clear c o
  rintro v h10 ⟨rfl, o, _⟩
  refine ⟨_, rfl, fun e => absurd e (by decide), fun _ => o.strokes.mono ?_⟩
  rintro v _ ⟨rfl, rfl⟩
  refine ⟨_, rfl, ?_⟩
  unfold D_treadlelaw3_known.J2
  refine ⟨fun e => absurd e (by decide), fun _ b11 h11 eb11 eh11 b13 h13 eb13 eh13 => ?_⟩
  obtain ⟨f11, g11, s11, l11⟩ := boxed eb11 eh11
  obtain ⟨f13, g13, s13, l13⟩ := boxed eb13 eh13
  have zg := o.grow.size
  have z11 := g11.size
  have o13 := o.new (by omega) (g11.trans g13)
  have c := o13.crash (by omega) (sA := none) (sn := 0) (sc := 0) (fA := some ⟨b13, 0, none⟩) (fn := 1) (fc := 1) (P := ⟨0, [], [(1, [0])]⟩)
    ⟨IS.nil _, fun _ b hb => (inA_none hb).elim, by omega, [(1, some ⟨b11, 0, none⟩, 1, 1)], rfl, ⟨rfl, row_all f13⟩, fun _ b hb => .inr (.inr (by have : b13 = b := inA_some.1 hb; omega)),
      ⟨⟨rfl, ⟨rfl, rfl, row_all (g13.g f11)⟩, fun _ b hb => .inr (.inr (by have : b11 = b := inA_some.1 hb; omega)), by simp⟩, trivial⟩⟩ (by omega)
  rw [kn7, kn8] at c
  refine c.mono ?_
  clear c o o13
  rintro v h15 ⟨A, n, cc, rfl, V, hV, fr, o, _⟩
  refine ⟨_, _, _, rfl, ?_⟩
  have c := o.read (by omega) sA
  rw [kn9] at c
  refine c.mono ?_
  clear c
  rintro v h18 ⟨B, m, e, rfl, hb, ht, hn, V2, hV2, hB, o2, k2⟩
  have fr2 := fr.kp k2 fun b hb hlt hx => hx.2 hb
  have hl := fr2.len
  have hm := hb.1
  simp only [List.length_cons, List.length_nil] at hl hm
  subst hl hm
  obtain ⟨a, D, p, q, rfl, e1, e2, oD, bD⟩ := fr2.get (i := 0) rfl
  have hp := bD.1
  simp only [List.length_cons, List.length_nil] at hp
  subst hp
  refine ⟨_, _, _, _, rfl, fun _ => ⟨a, rfl, by decide, by decide, D, _, q, e2, fun _ => ⟨a, rfl, by decide, by decide, D, _, q, e2, ?_⟩, fun e => absurd e (by decide)⟩, fun e => absurd e (by decide)⟩
  obtain ⟨a4, rfl, l4, c4⟩ := BS.at bD (j := 4) rfl
  refine ⟨a4, rfl, by decide, by decide, _, c4, fun _ => ⟨fun _ => ⟨fun _ => ?_, fun e => absurd e (by decide)⟩, fun e => absurd e (by decide)⟩, fun e => absurd e (by decide)⟩
  obtain ⟨x, rfl, _, c3⟩ := BS.at hb (j := 3) rfl
  obtain ⟨x', e', _, c4⟩ := BS.at hb (j := 4) rfl
  cases e'
  obtain ⟨x', e', _, c15⟩ := BS.at hb (j := 15) rfl
  cases e'
  obtain ⟨x', e', _, c16⟩ := BS.at hb (j := 16) rfl
  cases e'
  refine ⟨x, rfl, by decide, by decide, _, c3, fun _ => ⟨x, rfl, by decide, by decide, _, c4, fun _ => ⟨x, rfl, by decide, by decide, _, c15, fun _ => ⟨x, rfl, by decide, by decide, _, c16, fun _ => ?_, fun e => absurd e (by decide)⟩, fun e => absurd e (by decide)⟩, fun e => absurd e (by decide)⟩, fun e => absurd e (by decide)⟩
  refine o2.reads.mono ?_
  rintro v _ ⟨rfl, rfl⟩
  exact ⟨_, rfl, rfl, o2.grow⟩
end Go.Proofs
set_option linter.unusedVariables false
set_option linter.unusedSimpArgs false
namespace Go.Proofs
open Go Go.V Go.Disk
/-- Texts behind a slice. -/
def SS (h : Hp) (A : Option Addr) (n : Nat) (l : List (List UInt8)) : Prop := n = l.length ∧ Src h n (l.map sv) A
theorem SS.get {h : Hp} {A : Option Addr} {n : Nat} {l : List (List UInt8)} (s : SS h A n l) {j : Int} (h0 : 0 ≤ j) (h1 : j < n) :
    ∃ a x, A = some a ∧ l[j.toNat]? = some x ∧ cell h (a.add (j.toNat * 1)) = some (sv x) := by
  obtain ⟨a, v, rfl, hv, hc⟩ := s.2.get1 (i := j.toNat) (by omega)
  rw [List.getElem?_map] at hv
  cases hx : l[j.toNat]? with
  | none => rw [hx] at hv; cases hv
  | some x =>
    rw [hx] at hv
    simp only [Option.map_some, Option.some.injEq] at hv
    exact ⟨a, x, rfl, rfl, by rw [Nat.mul_one, hc, ← hv]⟩
theorem Tryz.FilesR.at {h : Hp} {V : Nat → Prop} {A : Option Addr} {n c : Nat} {l : List (List UInt8 × List UInt8)} (o : Tryz.FilesR h V A n c l) {j : Int} (h0 : 0 ≤ j) (h1 : j < n) :
    ∃ a x B m d, A = some a ∧ l[j.toNat]? = some x ∧ cell h (a.add (j.toNat * 2)) = some (sv x.1) ∧ cell h ((a.add (j.toNat * 2)).add 1) = some (.slice B m d) ∧ BS h B m x.2 := by
  have hl := o.len
  have hi : j.toNat < l.length := by omega
  obtain ⟨a, B, m, d, e, h2, h3, _, h5⟩ := o.get (List.getElem?_eq_getElem hi)
  exact ⟨a, _, B, m, d, e, List.getElem?_eq_getElem hi, h2, h3, h5⟩
theorem Tryz.c_roundL (v n : Int) (h : Hp) (hn : 0 < n) (hn' : n ≤ 4611686018427387904) : CH Tryz.prog 15 #[.int .i64 v, .int .i64 n] h fun r h' => r = .int .i64 (roundA v n) ∧ h' = h := by
  apply D_treadlelaw3_round.sound
  unfold D_treadlelaw3_round
  have h1 := Int.tmod_lt_of_pos v hn
  have h2 := Int.lt_tmod_of_pos v hn
  have h3 := tmod_round (v := v) hn
  have hm := Int.emod_emod_of_dvd
  refine ⟨by omega, fun e => ?_, fun e => ?_⟩
  · have e := dec_t e
    unfold D_treadlelaw3_round.J1
    rw [w64 (by omega) (by omega)]
    refine ⟨?_, rfl⟩
    congr 1
    unfold roundA at h3 ⊢
    have h4 : Int.tmod (Int.tmod v n + n) n = Int.tmod v n + n := Int.tmod_eq_of_lt (by omega) (by omega)
    rw [← h3]
    exact h4.symm
  · have e := dec_f e
    unfold D_treadlelaw3_round.J1
    refine ⟨?_, rfl⟩
    congr 1
    unfold roundA
    rw [← h3]
    have h5 : Int.tmod (Int.tmod v n + n) n = Int.tmod v n := by
      rw [Int.tmod_eq_emod_of_nonneg (by omega), Int.add_emod_right, Int.emod_eq_of_lt (by omega) h1]
    exact h5.symm
theorem Tryz.On.fresh {h0 h : Hp} (gr : Grow h0 h) (room files : Int) : CH Tryz.prog 10 #[.int .i64 room, .int .i64 files] h fun v h' =>
    ((room < 0 ∨ room > 4194304 ∨ files < 0 ∨ files > 512) ∧ v = .pointer none ∧ h' = h) ∨
    (¬ (room < 0 ∨ room > 4194304 ∨ files < 0 ∨ files > 512) ∧ ∃ d, v = .pointer (some ⟨d, 0, none⟩) ∧ Tryz.On h0 h' d (newA room files) 0 (fun b => h0.size ≤ b ∧ b < h.size) ∧ Grow h h') := by
  apply D_treadlelaw3_fresh.sound
  unfold D_treadlelaw3_fresh
  refine (Tryz.On.make gr room files).mono ?_
  rintro v h' (⟨h1, rfl, rfl⟩ | ⟨h1, d, rfl, h3⟩)
  · exact ⟨_, _, rfl, fun _ => .inl ⟨h1, rfl, rfl⟩, fun e => absurd e (by decide)⟩
  · exact ⟨_, _, rfl, fun e => absurd e (by decide), fun _ => .inr ⟨h1, d, rfl, h3⟩⟩
end Go.Proofs
set_option linter.unusedVariables false
set_option linter.unusedSimpArgs false
/-! DG: two files, "f" and "g", whose names are safe. -/
namespace Go.Disk
open Go Go.V Go.Proofs
abbrev sF : ByteArray := ByteArray.mk #[102]
def FileA.put (f : FileA) (l : List UInt8) : FileA := if l = [] then f else ⟨f.safe, f.pend ++ [.app l]⟩
theorem row_append (f : FileA) (c : Chg) : (FileA.mk f.safe (f.pend ++ [c])).row (f.pend ++ [c]).length = c.doR (f.row f.pend.length) := by
  unfold FileA.row
  rw [List.take_length, List.take_length, List.foldl_append]
  rfl
theorem put_bytes (f : FileA) (l : List UInt8) : (f.put l).bytes = f.bytes ++ l := by
  unfold FileA.put
  by_cases h : l = []
  · rw [if_pos h, h, List.append_nil]
  · rw [if_neg h]
    unfold FileA.bytes
    simp only
    rw [row_append]
    simp only [Chg.doR, List.map_append, List.map_map]
    congr 1
    show l.map (fun b => b) = l
    exact List.map_id l
theorem put_ok {f : FileA} (h : f.ok) (l : List UInt8) : (f.put l).ok := by
  unfold FileA.put
  split
  · exact h
  · exact ok_add h trivial
theorem put_lens (f : FileA) (l : List UInt8) : (f.put l).lens.2 ≤ f.lens.2 + l.length := by
  unfold FileA.put
  split
  · omega
  · rw [lens_add]
    have := f.lens_le
    simp only [Chg.len]
    omega
theorem safe_bytes (l : List UInt8) : (FileA.mk l []).bytes = l := by
  show ((baseR l).map (·.1)) = l
  unfold baseR
  rw [List.map_map]
  exact List.map_id l
theorem lay_put {D : DiskA} {i : Int} {f : FileA} (hf : D.fileD i = f) {l : List UInt8} (h : (D.held : Int) + l.length ≤ D.room) (hle : f.lens.1 ≤ f.lens.2) (hm : ∀ p ∈ D.files, p.1 = i → p.2 = f) : D.layA i l = (0, D.setF i (f.put l)) := by
  unfold DiskA.layA FileA.put
  by_cases hl : l = []
  · rw [if_pos hl, if_pos hl]
    have : D.setF i f = D := by
      unfold DiskA.setF
      have : (D.files.map fun p => if p.1 = i then (p.1, f) else p) = D.files := by
        conv => rhs; rw [← List.map_id D.files]
        refine List.map_congr_left fun p hp => ?_
        by_cases e : p.1 = i
        · rw [if_pos e, ← hm p hp e]; rfl
        · rw [if_neg e]; rfl
      rw [this]
    rw [this]
  · rw [if_neg hl, if_neg hl, hf, if_neg (by omega)]
theorem df1_now : namesA [] [⟨ByteArray.empty, sF, 1⟩] = [([102], 1)] := by
  show TurnA.doN _ _ = _
  rw [doN_eq]; rfl
end Go.Disk
set_option linter.unusedVariables false
set_option linter.unusedSimpArgs false
/-! DI: one file that is torn. -/
namespace Go.Disk
open Go Go.V Go.Proofs
theorem foldl_lose (s : Nat) : ∀ (l : List Int) (r : Rw), sectorsOf r.length = s → l.foldl (fun r v => loseAt r (sectorsOf r.length) v) r = l.foldl (fun r v => loseAt r s v) r := by
  intro l
  induction l with
  | nil => intro r _; rfl
  | cons v l ih =>
    intro r hr
    rw [List.foldl_cons, List.foldl_cons, hr]
    exact ih _ (by rw [loseAt_length]; exact hr)
def hit (s : Nat) (l : List Int) (i : Nat) : Bool := l.any fun v => (v % (s : Int)).toNat == i / 16
theorem foldl_get (s : Nat) : ∀ (l : List Int) (r : Rw) (i : Nat) (p : UInt8 × Bool), r[i]? = some p → (l.foldl (fun r v => loseAt r s v) r)[i]? = some (if p.2 = true ∧ hit s l i = true then (0, true) else p) := by
  intro l
  induction l with
  | nil => intro r i p h; simp [hit, h]
  | cons v l ih =>
    intro r i p h
    rw [List.foldl_cons]
    have h1 : (loseAt r s v)[i]? = some (if (v % s).toNat = i / 16 ∧ p.2 = true then (0, true) else p) := by
      unfold loseAt
      rw [List.getElem?_mapIdx, h]
      rfl
    rw [ih _ i _ h1]
    congr 1
    by_cases hx : (v % (s : Int)).toNat = i / 16 ∧ p.2 = true
    · have e1 : (if (v % (s : Int)).toNat = i / 16 ∧ p.2 = true then ((0 : UInt8), true) else p) = (0, true) := if_pos hx
      have e2 : hit s (v :: l) i = true := by unfold hit; rw [List.any_cons]; simp [hx.1]
      have e3 : (if p.2 = true ∧ hit s (v :: l) i = true then ((0 : UInt8), true) else p) = (0, true) := if_pos ⟨hx.2, e2⟩
      rw [e1, e3]
      simp
    · have e1 : (if (v % (s : Int)).toNat = i / 16 ∧ p.2 = true then ((0 : UInt8), true) else p) = p := if_neg hx
      rw [e1]
      by_cases hp : p.2 = true
      · have hv : ¬ (v % (s : Int)).toNat = i / 16 := fun h => hx ⟨h, hp⟩
        have e2 : hit s (v :: l) i = hit s l i := by unfold hit; rw [List.any_cons]; simp [hv]
        rw [e2]
      · rw [if_neg (fun h => hp h.1), if_neg (fun h => hp h.1)]
theorem lose_get {r : Rw} (l : List Int) {i : Nat} {p : UInt8 × Bool} (h : r[i]? = some p) : (loseA r l)[i]? = some (if p.2 = true ∧ hit (sectorsOf r.length) l i = true then (0, true) else p) := by
  have hi := (List.getElem?_eq_some_iff.1 h).1
  unfold loseA
  rw [if_neg (by unfold sectorsOf; omega), foldl_lose _ l r rfl]
  exact foldl_get _ l r i p h
theorem hit_take {s : Nat} {l : List Int} {j i : Nat} {v : Int} (h : l[j]? = some v) : hit s (l.take (j + 1)) i = (hit s (l.take j) i || ((v % (s : Int)).toNat == i / 16)) := by
  unfold hit
  rw [List.take_add_one, h, List.any_append]
  simp

def stT (F : FileA) (k r : Int) : DiskA := ⟨4194304, 1, 1, [(1, F)], [([102], 1)], [], [], [], k, r, false⟩
theorem stT_held (F : FileA) (k r : Int) : (stT F k r).held = F.lens.2 := by
  show F.lens.2 + 0 = _
  omega
theorem stT_append {F : FileA} {k r : Int} (l : List UInt8) (hb : F.lens.2 + l.length ≤ 4194304) : (stT F k r).appendA sF l = (0, stT (F.put l) (k + 1) r) := by
  rw [append_ok (D := stT F k r) (i := 1) l rfl rfl rfl rfl]
  have hst : (stT F k r).struck = stT F (k + 1) r := rfl
  rw [hst, lay_put (f := F) rfl (by rw [stT_held]; show _ ≤ (4194304 : Int); omega) F.lens_le ?_]
  · rfl
  · intro p hp e
    rw [List.mem_singleton.1 hp]
def FileA.cutTo (f : FileA) (k : Nat) : FileA := if k = f.lens.1 then f else ⟨f.safe, f.pend ++ [.cut k]⟩
theorem stT_trunc {F : FileA} {k r : Int} {n : Nat} (hn : n ≤ F.lens.1) : (stT F k r).truncA sF (n : Int) = (0, stT (F.cutTo n) (k + 1) r) := by
  have hl : ((stT F k r).fileD 1) = F := rfl
  rw [trunc_ok (D := stT F k r) (i := 1) rfl rfl rfl rfl ⟨by omega, by rw [hl]; omega⟩, hl]
  unfold FileA.cutTo
  by_cases e : n = F.lens.1
  · rw [if_pos (by omega), if_pos e]; rfl
  · rw [if_neg (by omega), if_neg e]
    rfl
theorem stT_read {F : FileA} {k r : Int} : (stT F k r).readA sF = ((F.bytes, 0), stT F k (r + 1)) := read_ok (i := 1) rfl rfl rfl rfl
theorem stT_crash {F : FileA} {k r : Int} {done : Int} {lost : List Int} : (stT F k r).crashA ⟨0, [], [(done, lost)]⟩ = stT ⟨lostF F (done, lost), []⟩ 0 0 := by
  unfold DiskA.crashA
  rw [settle_eq]
  rfl
theorem stT_crashT {F : FileA} {k r : Int} {done : Int} {lost : List Int} : (stT F k r).crashT ⟨0, [], [(done, lost)]⟩ = [([102], wholeF F (done, lost))] := by
  unfold DiskA.crashT
  rw [stT_crash]
  rfl
theorem stT_pending {N : Nat} {F : FileA} {k r : Int} (ok : (stT F k r).ok N) : (stT F k r).pendingA = (0, [(F.pend.length : Int)]) := by
  unfold DiskA.pendingA
  rw [← ok.ids]
  rfl
theorem tt1 : (newA 4194304 1).createA sF = (0, ⟨4194304, 1, 1, [(1, ⟨[], []⟩)], [], [⟨ByteArray.empty, sF, 1⟩], [], [], 1, 0, false⟩) := create_ok (ok_new (by omega)) rfl rfl rfl rfl (by decide)
def stU (F : FileA) (k : Int) : DiskA := ⟨4194304, 1, 1, [(1, F)], [], [⟨ByteArray.empty, sF, 1⟩], [], [], k, 0, false⟩
theorem stU_now (F : FileA) (k : Int) : (stU F k).now = [([102], 1)] := df1_now
theorem stU_append {F : FileA} {k : Int} (l : List UInt8) (hb : F.lens.2 + l.length ≤ 4194304) : (stU F k).appendA sF l = (0, stU (F.put l) (k + 1)) := by
  rw [append_ok (D := stU F k) (i := 1) l rfl rfl (by rw [stU_now]; rfl) rfl]
  have hst : (stU F k).struck = stU F (k + 1) := rfl
  have hh : (stU F (k + 1)).held = F.lens.2 := by show F.lens.2 + 0 = _; omega
  rw [hst, lay_put (f := F) rfl (by rw [hh]; show _ ≤ (4194304 : Int); omega) F.lens_le ?_]
  · rfl
  · intro p hp e
    rw [List.mem_singleton.1 hp]
theorem stU_sync {F : FileA} {k : Int} : (stU F k).syncA sF = (0, stU ⟨F.bytes, []⟩ (k + 1)) := by
  rw [sync_ok (D := stU F k) (i := 1) rfl rfl (by rw [stU_now]; rfl) rfl]
  rfl
theorem stU_names {F : FileA} {k : Int} : (stU F k).syncNamesA = (0, stT F (k + 1) 0) := by
  rw [names_ok (D := stU F k) rfl rfl, settle_eq, stU_now]
  rfl

/-- What a change does to a file. -/
structure ChgIn where
  cut : Bool
  size : Int
  data : List UInt8
def FileA.turn (f : FileA) (c : ChgIn) : FileA := if c.cut then f.cutTo (roundA c.size (f.lens.1 + 1)).toNat else f.put c.data
theorem turn_row (f : FileA) (c : ChgIn) : ((f.turn c = f) ∨ ∃ x, f.turn c = ⟨f.safe, f.pend ++ [x]⟩) := by
  unfold FileA.turn FileA.cutTo FileA.put
  split
  · split
    · exact .inl rfl
    · exact .inr ⟨_, rfl⟩
  · split
    · exact .inl rfl
    · exact .inr ⟨_, rfl⟩
theorem row_old {f : FileA} {c : Chg} {i : Nat} (hi : i ≤ f.pend.length) : (FileA.mk f.safe (f.pend ++ [c])).row i = f.row i := by
  unfold FileA.row
  rw [List.take_append_of_le_length hi]
theorem cut_ok {f : FileA} (h : f.ok) {k : Nat} (hk : k ≤ f.lens.1) : (f.cutTo k).ok ∧ (f.cutTo k).lens.2 ≤ f.lens.2 := by
  unfold FileA.cutTo
  split
  · exact ⟨h, Nat.le_refl _⟩
  · refine ⟨ok_add h hk, ?_⟩
    rw [lens_add]
    have := f.lens_le
    simp only [Chg.len]
    omega
end Go.Disk
set_option linter.unusedVariables false
set_option linter.unusedSimpArgs false
namespace Go.Proofs
open Go Go.V Go.Disk
/-- Bytes that no call on the disk turns. -/
def Stay (h0 h : Hp) (V : Nat → Prop) (A : Option Addr) (n : Nat) (l : List UInt8) : Prop := BS h A n l ∧ ((∀ b, inA A b → V b) ∨ BS h0 A n l)
theorem Stay.more {h0 h h' : Hp} {V V' : Nat → Prop} {A : Option Addr} {n : Nat} {l : List UInt8} (s : Stay h0 h V A n l) (k : Grow h h') (hV : ∀ b, V b → V' b) : Stay h0 h' V' A n l := by
  obtain ⟨s1, s2 | s2⟩ := s
  · exact ⟨s1.g k, .inl fun b hb => hV b (s2 b hb)⟩
  · exact ⟨s1.g k, .inr s2⟩
end Go.Proofs
set_option linter.unusedVariables false
set_option linter.unusedSimpArgs false
namespace Go.Proofs
open Go Go.V Go.Disk
/-! ### changes that come in -/
abbrev ChV := Bool × Int × Option Addr × Nat × Nat
def chV (q : List ChV) : List Value := q.flatMap fun x => [.bool x.1, .int .i64 x.2.1, .slice x.2.2.1 x.2.2.2.1 x.2.2.2.2]
theorem chV_get {q : List ChV} {i : Nat} (hi : i < q.length) : (chV q)[i * 3]? = some (.bool q[i].1) ∧ (chV q)[i * 3 + 1]? = some (.int .i64 q[i].2.1) ∧ (chV q)[i * 3 + 2]? = some (.slice q[i].2.2.1 q[i].2.2.2.1 q[i].2.2.2.2) := by
  induction q generalizing i with
  | nil => simp at hi
  | cons p l ih =>
    cases i with
    | zero => simp [chV]
    | succ i =>
      have := ih (i := i) (by simpa using hi)
      simp only [chV, List.flatMap_cons, List.getElem_cons_succ] at this ⊢
      rw [show (i + 1) * 3 = i * 3 + 3 by omega]
      simpa using this
def Tryz.ChangesR (h : Hp) (A : Option Addr) (n : Nat) (cs : List ChgIn) : Prop :=
  ∃ q : List ChV, n = q.length ∧ Src h (n * 3) (chV q) A ∧ All2 (fun x y => x.1 = y.cut ∧ x.2.1 = y.size ∧ BS h x.2.2.1 x.2.2.2.1 y.data ∧ x.2.2.2.1 ≤ x.2.2.2.2) q cs
theorem Tryz.ChangesR.g {h h' : Hp} {A : Option Addr} {n : Nat} {cs : List ChgIn} (o : Tryz.ChangesR h A n cs) (k : Grow h h') : Tryz.ChangesR h' A n cs := by
  obtain ⟨q, h1, h2, h3⟩ := o
  exact ⟨q, h1, h2.g k, forall2_imp h3 fun x _ y r => ⟨r.1, r.2.1, r.2.2.1.g k, r.2.2.2⟩⟩
theorem Tryz.ChangesR.len {h : Hp} {A : Option Addr} {n : Nat} {cs : List ChgIn} (o : Tryz.ChangesR h A n cs) : n = cs.length := by
  obtain ⟨q, h1, h2, h3⟩ := o
  exact h1.trans (forall2_len h3)
theorem Tryz.ChangesR.at {h : Hp} {A : Option Addr} {n : Nat} {cs : List ChgIn} (o : Tryz.ChangesR h A n cs) {j : Nat} (hj : j < n) :
    ∃ a y B m k, A = some a ∧ cs[j]? = some y ∧ Row h (a.add (j * 3)) [.bool y.cut, .int .i64 y.size, .slice B m k] ∧ BS h B m y.data ∧ m ≤ k := by
  obtain ⟨q, h1, h2, h3⟩ := o
  have hq : j < q.length := by omega
  obtain ⟨x, y, hx, hy, e1, e2, e3, e4⟩ := forall2_get h3 hq
  obtain ⟨hx', rfl⟩ := List.getElem?_eq_some_iff.1 hx
  obtain ⟨g0, g1, g2⟩ := chV_get hq
  obtain ⟨a, rfl⟩ := h2.addr (by omega)
  refine ⟨a, y, _, _, _, rfl, hy, fun i v hv => ?_, e3, e4⟩
  rw [add_add]
  rcases i with _ | _ | _ | i
  · cases hv; rw [← e1]; exact h2.get g0
  · cases hv; rw [← e2]; exact h2.get g1
  · cases hv; exact h2.get g2
  · simp at hv
def sumD (cs : List ChgIn) : Nat := (cs.map fun c => c.data.length).sum
theorem sumD_take {cs : List ChgIn} {j : Nat} {y : ChgIn} (h : cs[j]? = some y) : sumD (cs.take (j + 1)) = sumD (cs.take j) + y.data.length := by
  unfold sumD
  rw [List.take_add_one, h, List.map_append, List.sum_append]
  simp
theorem sumD_le (cs : List ChgIn) (j : Nat) : sumD (cs.take j) ≤ sumD cs := by
  have : sumD cs = sumD (cs.take j) + sumD (cs.drop j) := by
    unfold sumD
    rw [← List.sum_append, ← List.map_append, List.take_append_drop]
  omega

/-! ### rows of cells -/
def cellsV (r : Rw) : List Value := r.flatMap fun p => [bv p.1, .bool p.2]
theorem cellsV_length (r : Rw) : (cellsV r).length = r.length * 2 := by
  induction r with
  | nil => rfl
  | cons x q ih => simp only [cellsV, List.flatMap_cons, List.length_append] at ih ⊢; simp at ih ⊢; omega
theorem cellsV_append (a b : Rw) : cellsV (a ++ b) = cellsV a ++ cellsV b := List.flatMap_append
theorem cellsV_take (r : Rw) (k : Nat) : (cellsV r).take (k * 2) = cellsV (r.take k) := by
  induction r generalizing k with
  | nil => simp [cellsV]
  | cons x r ih =>
    cases k with
    | zero => simp [cellsV]
    | succ k =>
      have := ih k
      simp only [cellsV, List.flatMap_cons, List.take_succ_cons] at this ⊢
      rw [show (k + 1) * 2 = k * 2 + 1 + 1 by omega]
      simp only [List.cons_append, List.nil_append, List.take_succ_cons]
      rw [this]
theorem cellsV_get {r : Rw} {i : Nat} {p : UInt8 × Bool} (h : r[i]? = some p) : (cellsV r)[i * 2]? = some (bv p.1) ∧ (cellsV r)[i * 2 + 1]? = some (.bool p.2) := by
  induction r generalizing i with
  | nil => simp at h
  | cons q l ih =>
    cases i with
    | zero => simp at h; subst h; simp [cellsV]
    | succ i =>
      have := ih (i := i) (by simpa using h)
      simp only [cellsV, List.flatMap_cons] at this ⊢
      rw [show (i + 1) * 2 = i * 2 + 2 by omega]
      simpa using this
theorem one_cells (r : Rw) : ∀ v ∈ cellsV r, oneC v = true := by
  intro v hv
  simp only [cellsV, List.mem_flatMap] at hv
  obtain ⟨p, _, hp⟩ := hv
  simp at hp
  rcases hp with rfl | rfl <;> rfl
abbrev SlV := Option Addr × Nat × Nat
def Tryz.RowsR (h : Hp) (V : Nat → Prop) (A : Option Addr) (n c : Nat) (rs : List Rw) : Prop :=
  ∃ q : List SlV, n = q.length ∧ OwnS h 53 1 A n c (q.map fun x => .slice x.1 x.2.1 x.2.2) ∧ All2 (fun x R => x.2.1 = R.length ∧ OwnS h 55 2 x.1 x.2.1 x.2.2 (cellsV R) ∧ ∀ b, inA x.1 b → V b) q rs ∧ (∀ b, inA A b → V b)
theorem Tryz.RowsR.kp {W V V' : Nat → Prop} {h h' : Hp} {A : Option Addr} {n c : Nat} {rs : List Rw} (o : Tryz.RowsR h V A n c rs) (k : Kp W h h') (hn : ∀ b, V b → b < h.size → ¬ W b) (hV : ∀ b, V b → V' b) : Tryz.RowsR h' V' A n c rs := by
  obtain ⟨q, h1, h2, h3, h4⟩ := o
  exact ⟨q, h1, h2.kp k fun b hb => hn b (h4 b hb) (h2.lt b hb), forall2_imp h3 fun x _ R r => ⟨r.1, r.2.1.kp k fun b hb => hn b (r.2.2 b hb) (r.2.1.lt b hb), fun b hb => hV b (r.2.2 b hb)⟩, fun b hb => hV b (h4 b hb)⟩
theorem Tryz.RowsR.len {h : Hp} {V : Nat → Prop} {A : Option Addr} {n c : Nat} {rs : List Rw} (o : Tryz.RowsR h V A n c rs) : n = rs.length := by
  obtain ⟨q, h1, h2, h3, h4⟩ := o
  exact h1.trans (forall2_len h3)
theorem Tryz.RowsR.at {h : Hp} {V : Nat → Prop} {A : Option Addr} {n c : Nat} {rs : List Rw} (o : Tryz.RowsR h V A n c rs) {i : Nat} {R : Rw} (hR : rs[i]? = some R) :
    ∃ a B m k, A = some a ∧ cell h (a.add (i * 1)) = some (.slice B m k) ∧ m = R.length ∧ OwnS h 55 2 B m k (cellsV R) := by
  obtain ⟨q, h1, h2, h3, h4⟩ := o
  have hl := forall2_len h3
  have hi := (List.getElem?_eq_some_iff.1 hR).1
  obtain ⟨x, R', hx, hR', e1, e2, _⟩ := forall2_get h3 (show i < q.length by omega)
  rw [hR] at hR'
  cases hR'
  obtain ⟨a, rfl⟩ := h2.src.addr (by omega)
  refine ⟨a, x.1, x.2.1, x.2.2, rfl, ?_, e1, e2⟩
  rw [Nat.mul_one]
  exact h2.src.get (by rw [List.getElem?_map, hx]; rfl)
def rowsOf (f : FileA) : List Rw := (List.range (f.pend.length + 1)).map f.row
theorem rowsOf_length (f : FileA) : (rowsOf f).length = f.pend.length + 1 := by simp [rowsOf]
theorem rowsOf_get (f : FileA) {i : Nat} (hi : i ≤ f.pend.length) : (rowsOf f)[i]? = some (f.row i) := by
  unfold rowsOf
  rw [List.getElem?_map, List.getElem?_range (by omega)]
  rfl
theorem rowsOf_add (f : FileA) (c : Chg) : rowsOf ⟨f.safe, f.pend ++ [c]⟩ = rowsOf f ++ [c.doR (f.row f.pend.length)] := by
  unfold rowsOf
  simp only [List.length_append, List.length_singleton]
  rw [List.range_succ, List.map_append]
  congr 1
  · refine List.map_congr_left fun i hi => ?_
    exact row_old (by have := List.mem_range.1 hi; omega)
  · have := row_append f c
    simp only [List.length_append, List.length_singleton] at this
    rw [List.map_singleton, this]
/-- One row more. -/
theorem Tryz.rows_add {h0 h h1 : Hp} {d : Nat} {D : DiskA} {N : Nat} {V : Nat → Prop} {A : Option Addr} {n c : Nat} {rs : List Rw} {B : Option Addr} {m k : Nat} {R : Rw} {K : Option Addr → Nat → Nat → Hp → Prop}
    (o : Tryz.On h0 h d D N V) (hN : N < 1073741824) (r : Tryz.RowsR h V A n c rs) (g : Grow h h1) (w : OwnS h1 55 2 B m k (cellsV R)) (hB : ∀ b, inA B b → h.size ≤ b) (hn : n ≤ 68719476735)
    (kk : ∀ V' A' c' h', Tryz.On h0 h' d D N V' → Tryz.RowsR h' V' A' (n + 1) c' (rs ++ [R]) → K A' (n + 1) c' h') :
    ∀ b2 h2, b2 = h1.size → h2 = h1.push (.cells #[.slice B m k] 53) → (∃ vs : List Value, Src h2 (1 * 1) vs (some (Addr.mk b2 0 none)) ∧ (∀ v ∈ vs, oneC v = true) ∧ (n + 1) * 24 ≤ 140737488355328 ∧ n + 1 ≤ 9223372036854775807 ∧ AppendV 53 (.slice none 0 0 : Value) 1 h2 A n c 1 vs K) := by
  intro b2 h2 eb eh
  obtain ⟨f2, g2, s2, l2⟩ := boxed eb eh
  obtain ⟨q, q1, q2, q3, q4⟩ := r
  have hml : m = R.length := by have := w.src.len; rw [cellsV_length] at this; omega
  have z := g.size
  have z2 := g2.size
  have q22 := (q2.kp g fun _ _ => id).kp g2 fun _ _ => id
  have w2 := w.kp g2 fun _ _ => id
  refine app1 (xs := [.slice B m k]) f2 rfl (fun v hv => by rw [List.mem_singleton.1 hv]; rfl) q22 rfl (by omega) (by omega) fun A' c' h' o1 k1 e1 => ?_
  have on := (o.new hN (g.trans g2)).mine (k1.mono fun b _ hx => .inl (q4 b hx))
  have z3 := k1.size
  have hlt := o1.lt
  refine kk _ A' c' h' on ⟨q ++ [(B, m, k)], by simp; omega, by rw [List.map_append]; exact o1, forall2_append (forall2_imp q3 fun x _ R' r => ⟨r.1, ((r.2.1.kp g fun _ _ => id).kp g2 fun _ _ => id).kp k1 fun b hb hx => ?ra, fun b hb => .inl (.inl (r.2.2 b hb))⟩) ⟨⟨hml, w2.kp k1 fun b hb hx => ?rb, fun b hb => ?rc⟩, trivial⟩, fun b hb => ?rd⟩
  case ra => exact (((r.2.1.kp g fun _ _ => id).kp g2 fun _ _ => id).tag.apart q22.tag (by decide)) b hb hx
  case rb => exact (w2.tag.apart q22.tag (by decide)) b hb hx
  case rc => have := w2.lt b hb; exact .inl (.inr ⟨hB b hb, by omega⟩)
  case rd =>
    have := hlt b hb
    rcases app_in e1 b hb with hx | hx
    · exact .inl (.inl (q4 b hx))
    · exact .inr ⟨hx, this⟩
end Go.Proofs
set_option linter.unusedVariables false
set_option linter.unusedSimpArgs false
set_option linter.unusedSectionVars false
namespace Go.Proofs
open Go Go.V Go.Disk
/-- One file and all its rows, behind the first so many changes. -/
structure Tryz.TornAt (h0 : Hp) (d : Nat) (base : List UInt8) (cs : List ChgIn) (i : Nat) (V : Nat → Prop) (F : FileA) (N : Nat) (A : Option Addr) (n c : Nat) (h : Hp) : Prop where
  o : ∃ k, Tryz.On h0 h d (stT F k 0) N V
  rows : Tryz.RowsR h V A n c (rowsOf F)
  ok : F.ok
  le : F.lens.2 ≤ base.length + sumD (cs.take i)
  pn : F.pend.length ≤ i
  nn : N ≤ 10 + 2 * i
theorem bytes_row (f : FileA) (h : f.ok) : (f.row f.pend.length).length = f.lens.1 := by
  have := FileA.bytes_length h
  unfold FileA.bytes at this
  rwa [List.length_map] at this

section
variable {h0 : Hp} {d : Nat} {base : List UInt8} {cs : List ChgIn} (hs : base.length + sumD cs ≤ 200000) (hcs : cs.length ≤ 60)
include hs hcs
theorem Tryz.torn_J16 {R : Value → Hp → Prop} {C : Option Addr → Nat → Nat → Int → Hp → Prop} {j : Nat} {V : Nat → Prop} {F F' : FileA} {N : Nat} {A : Option Addr} {n c : Nat} {h h1 : Hp} {k : Int} {x : Chg} {B : Option Addr} {m e : Nat}
    (o : Tryz.On h0 h d (stT F' k 0) N V) (r : Tryz.RowsR h V A n c (rowsOf F)) (hF : F' = ⟨F.safe, F.pend ++ [x]⟩) (g : Grow h h1) (w : OwnS h1 55 2 B m e (cellsV (x.doR (F.row F.pend.length)))) (hB : ∀ b, inA B b → h.size ≤ b)
    (ok : F'.ok) (le : F'.lens.2 ≤ base.length + sumD (cs.take (j + 1))) (pn : F.pend.length ≤ j) (nn : N ≤ 10 + 2 * (j + 1)) (hj : j < 60)
    (hC : ∀ V F N A n c h', Tryz.TornAt h0 d base cs (j + 1) V F N A n c h' → C A n c ((j : Int) + 1) h') :
    D_treadlelaw3_DiskTorn.J16 R C A n c j B m e h1 := by
  unfold D_treadlelaw3_DiskTorn.J16
  have hn := r.len
  rw [rowsOf_length] at hn
  refine Tryz.rows_add (D := stT F' k 0) o (by omega) r g w hB (by omega) fun V' A' c' h' o' r' => ?_
  unfold D_treadlelaw3_DiskTorn.J15
  rw [w64 (by omega) (by omega)]
  refine hC V' F' N A' (n + 1) c' h' ⟨⟨k, o'⟩, ?_, ok, le, by rw [hF]; simp; omega, nn⟩
  rw [hF, rowsOf_add]
  exact r'
theorem Tryz.torn_step {R : Value → Hp → Prop} {C : Option Addr → Nat → Nat → Int → Hp → Prop} {j : Nat} {V : Nat → Prop} {F : FileA} {N : Nat} {A : Option Addr} {n c : Nat} {h : Hp} {done : Int} {cA lA : Option Addr} {cn cc ln lc : Nat} (a : Tryz.TornAt h0 d base cs j V F N A n c h)
    (ch : Tryz.ChangesR h0 cA cn cs) (hj : j < cn)
    (hC : ∀ V F N A n c h', Tryz.TornAt h0 d base cs (j + 1) V F N A n c h' → C A n c ((j : Int) + 1) h') :
    D_treadlelaw3_DiskTorn.L14 R cA cn done lA ln lc (some ⟨d, 0, none⟩) C A n c j h := by
  have hcl := ch.len
  obtain ⟨⟨k, o⟩, rows, ok, le, pn, nn⟩ := a
  have chh := ch.g o.grow
  unfold D_treadlelaw3_DiskTorn.L14
  refine ⟨fun _ => ?_, fun e => by have := dec_f e; omega⟩
  obtain ⟨ca, y, YA, Yn, Yc, rfl, hy, hrow, hyb, hyc⟩ := chh.at hj
  have hyl : y.data.length = Yn := hyb.1.symm
  have hsd := sumD_take hy
  have hsd1 := sumD_le cs (j + 1)
  refine ⟨ca, rfl, by omega, by omega, y.cut, y.size, YA, Yn, Yc, by rw [Int.toNat_natCast]; exact hrow, fun b162 h161 eb eh => ⟨boxRow_wr eb eh rfl, fun h163 e163 => ?_⟩⟩
  obtain ⟨f163, g163, s163, l163⟩ := boxRow eb eh e163 rfl
  have hn := rows.len
  rw [rowsOf_length] at hn
  have o163 := o.new (by omega) g163
  have r163 : Tryz.RowsR h163 (fun b => V b ∨ (h.size ≤ b ∧ b < h163.size)) A n c (rowsOf F) := rows.kp g163 (fun _ _ _ => id) fun _ h => .inl h
  obtain ⟨ra, B, m, e, rfl, hcell, hm, wl⟩ := r163.at (rowsOf_get F (Nat.le_refl _))
  have hw1 : IntKind.i64.wrap (((n : Nat) : Int) - 1) = ((F.pend.length : Nat) : Int) := by rw [hn, w64 (by omega) (by omega)]; omega
  rw [hw1]
  have hml : m = F.lens.1 := by rw [hm]; exact bytes_row F ok
  have hle1 := F.lens_le
  refine ⟨ra, rfl, by omega, by omega, B, m, e, by rw [Int.toNat_natCast]; exact hcell, y.cut, (cell_of f163 0).trans rfl, fun ec => ?_, fun ec => ?_⟩
  · refine ⟨y.size, (cell_add f163 0 1).trans rfl, ?_⟩
    have hw2 : IntKind.i64.wrap (((m : Nat) : Int) + 1) = (F.lens.1 : Int) + 1 := by rw [hml, w64 (by omega) (by omega)]
    rw [hw2]
    refine (Tryz.c_roundL y.size ((F.lens.1 : Int) + 1) h163 (by omega) (by omega)).mono ?_
    rintro _ h192 ⟨rfl, rfl⟩
    obtain ⟨r0, r1⟩ := roundA_bounds y.size (n := (F.lens.1 : Int) + 1) (by omega)
    generalize hkk : roundA y.size ((F.lens.1 : Int) + 1) = kk at r0 r1 ⊢
    obtain ⟨t, rfl⟩ := Int.eq_ofNat_of_zero_le r0
    have ht : t ≤ F.lens.1 := by omega
    have cc1 := o163.truncate (by omega) sF (t : Int)
    rw [stT_trunc ht] at cc1
    refine ⟨_, rfl, cc1.mono ?_⟩
    rintro v h195 ⟨rfl, o195, k195⟩
    have r195 := r163.kp k195 (fun b hb _ hx => hx.2 hb) fun _ h => h
    refine ⟨_, rfl, fun x => Bool.noConfusion (show false = true from x), fun _ => ⟨fun x => ?_, fun x => ?_⟩⟩
    · have hx : t = F.lens.1 := by have : (t : Int) = m := by simpa using x
                                   omega
      have hF : F.cutTo t = F := by unfold FileA.cutTo; rw [if_pos hx]
      rw [hF] at o195
      unfold D_treadlelaw3_DiskTorn.J15
      rw [w64 (by omega) (by omega)]
      exact hC _ F (N + 2) _ n c h195 ⟨⟨_, o195⟩, r195, ok, by rw [hsd]; omega, by omega, by omega⟩
    · have hx : t ≠ F.lens.1 := by have : ¬ (t : Int) = m := by simpa using x
                                   omega
      have hF : F.cutTo t = ⟨F.safe, F.pend ++ [.cut t]⟩ := by unfold FileA.cutTo; rw [if_neg hx]
      obtain ⟨ok', le'⟩ := cut_ok ok ht
      have wl195 : OwnS h195 55 2 B m e (cellsV (F.row F.pend.length)) := by
        obtain ⟨ra', B', m', e', era, hcell', _, w'⟩ := r195.at (rowsOf_get F (Nat.le_refl _))
        cases era
        have hcc := k195.cell hcell (fun hx2 => by
          have : inA (some ra) ra.block := inA_some.2 rfl
          obtain ⟨q, _, _, _, q4⟩ := r163
          have hb := q4 ra.block this
          rw [add_block] at hx2
          exact hx2.2 hb)
        rw [hcc] at hcell'
        cases hcell'
        exact w'
      have hec := wl195.le
      refine ⟨by omega, by omega, ?_⟩
      rw [Int.toNat_natCast]
      refine ⟨cellsV ((F.row F.pend.length).take t), ?_, one_cells _, by omega, by omega, ?_⟩
      · rw [← cellsV_take]
        exact wl195.src.take (by omega)
      refine AppendV.own (OwnS.nil _ _ _) (by rw [cellsV_length, List.length_take, bytes_row F ok]; omega) rfl fun A2 c2 h209 w2 k2 e2 => ?_
      have g2 : Grow h195 h209 := k2.mono fun _ _ hx => inA_none hx
      rw [List.nil_append] at w2
      exact Tryz.torn_J16 hs hcs (F := F) (x := .cut t) (F' := F.cutTo t) o195 r195 hF g2 w2 (fun b hb => (app_in e2 b hb).elim (fun hx => (inA_none hx).elim) id) ok' (by rw [hsd]; omega) pn (by omega) (by omega) hC
  · refine ⟨YA, Yn, Yc, (cell_add f163 0 2).trans rfl, ?_⟩
    have cc1 := o163.append (by omega) sF (hyb.g g163) (by omega) hyc
    rw [stT_append y.data (by omega)] at cc1
    refine cc1.mono ?_
    rintro v h215 ⟨rfl, o215, k215⟩
    have r215 := r163.kp k215 (fun b hb _ hx => hx.2 hb) fun _ h => h
    have f215 := k215.at f163 (fun hx => hx.2 (.inr ⟨by omega, l163⟩))
    have hyb215 : BS h215 YA Yn y.data := by
      obtain ⟨ca', y', YA', Yn', Yc', eca, hy', hrow', hyb', _⟩ := (ch.g o215.grow).at hj
      cases eca
      rw [hy] at hy'
      cases hy'
      have h1 := hrow' 2 _ rfl
      have h2 := hrow 2 _ rfl
      obtain ⟨a0, y0, YA0, Yn0, Yc0, ea0, hy0, hrow0, hyb0, _⟩ := ch.at hj
      cases ea0
      have h3 := hrow0 2 _ rfl
      have h4 := o215.grow.cell h3 id
      have h5 := o.grow.cell h3 id
      rw [h1] at h4
      rw [h2] at h5
      cases h4
      cases h5
      exact hyb'
    refine ⟨_, rfl, fun x => Bool.noConfusion (show false = true from x), fun _ => ⟨YA, Yn, Yc, (cell_add f215 0 2).trans rfl, fun x => ?_, fun x => ?_⟩⟩
    · have hx : Yn = 0 := by have : (Yn : Int) = 0 := by simpa using x
                             omega
      have hd0 : y.data = [] := List.eq_nil_of_length_eq_zero (by omega)
      have hF : F.put y.data = F := by unfold FileA.put; rw [if_pos hd0]
      rw [hF] at o215
      unfold D_treadlelaw3_DiskTorn.J15
      rw [w64 (by omega) (by omega)]
      exact hC _ F (N + 2) _ n c h215 ⟨⟨_, o215⟩, r215, ok, by rw [hsd]; omega, by omega, by omega⟩
    · have hx : Yn ≠ 0 := by have : ¬ (Yn : Int) = 0 := by simpa using x
                             omega
      have hd0 : y.data ≠ [] := fun h => by rw [h] at hyl; simp at hyl; omega
      have hF : F.put y.data = ⟨F.safe, F.pend ++ [.app y.data]⟩ := by unfold FileA.put; rw [if_neg hd0]
      have wl215 : OwnS h215 55 2 B m e (cellsV (F.row F.pend.length)) := by
        obtain ⟨ra', B', m', e', era, hcell', _, w'⟩ := r215.at (rowsOf_get F (Nat.le_refl _))
        cases era
        have hcc := k215.cell hcell (fun hx2 => by
          have : inA (some ra) ra.block := inA_some.2 rfl
          obtain ⟨q, _, _, _, q4⟩ := r163
          have hb := q4 ra.block this
          rw [add_block] at hx2
          exact hx2.2 hb)
        rw [hcc] at hcell'
        cases hcell'
        exact w'
      refine ⟨cellsV (F.row F.pend.length), wl215.src, one_cells _, by omega, by omega, ?_⟩
      refine AppendV.own (OwnS.nil _ _ _) (by rw [cellsV_length, bytes_row F ok]; omega) rfl fun A2 c2 h229 w2 k2 e2 => ?_
      have g2 : Grow h215 h229 := k2.mono fun _ _ hx => inA_none hx
      rw [List.nil_append] at w2
      have hB2 : ∀ b, inA A2 b → h215.size ≤ b := fun b hb => (app_in e2 b hb).elim (fun hx => (inA_none hx).elim) id
      have hpo := put_ok ok y.data
      have hpl := put_lens F y.data
      refine ⟨fun QA Qn Qc i h' mm => 0 ≤ i ∧ i ≤ Yn ∧ mm = Yn - i.toNat ∧ Grow h215 h' ∧ Qn = m + i.toNat ∧ OwnS h' 55 2 QA Qn Qc (cellsV (F.row F.pend.length ++ (y.data.take i.toNat).map fun b => (b, true))) ∧ ∀ b, inA QA b → h215.size ≤ b,
        ⟨Yn, by omega, by omega, by simp, g2, by simp, by simpa using w2, hB2⟩, ?_⟩
      rintro QA Qn Qc i h232 mm ⟨i0, iY, rfl, g232, hQn, wq, hQA⟩
      have f232 := g232.g f215
      unfold D_treadlelaw3_DiskTorn.L17
      refine ⟨YA, Yn, Yc, (cell_add f232 0 2).trans rfl, fun e1 => ⟨YA, Yn, Yc, (cell_add f232 0 2).trans rfl, ?_⟩, fun e1 => ?_⟩
      · have hlt := dec_t e1
        obtain ⟨pa, x, rfl, hx1, hc⟩ := (hyb215.g g232).get i0 hlt
        refine ⟨pa, rfl, i0, hlt, _, hc, fun b246 h245 eb2 eh2 => ?_⟩
        obtain ⟨f246, g246, s246, l246⟩ := boxed eb2 eh2
        refine app1 (xs := [bv x, .bool true]) f246 rfl (fun v hv => by simp at hv; rcases hv with rfl | rfl <;> rfl) (wq.kp g246 fun _ _ => id) rfl (by omega) (by omega) fun A3 c3 h3 w3 k3 e3 => ?_
        rw [inc64 i0 hlt (by omega)]
        have z1 := g232.size
        have z2 := g246.size
        refine ⟨Yn - (i + 1).toNat, by omega, by omega, by omega, rfl, (g232.trans g246).trans' k3 fun q hq hx => by have := hQA q hx; omega, by omega, ?_, fun b hb => ?_⟩
        · have : cellsV (F.row F.pend.length ++ (y.data.take (i + 1).toNat).map fun b => (b, true)) = cellsV (F.row F.pend.length ++ (y.data.take i.toNat).map fun b => (b, true)) ++ [bv x, .bool true] := by
            rw [toNat_inc i0, List.take_add_one, hx1, List.map_append, ← List.append_assoc, cellsV_append]
            rfl
          rw [this]
          exact w3
        · rcases app_in e3 b hb with hx | hx
          · exact hQA b hx
          · omega
      · have hge := dec_f e1
        rw [List.take_of_length_le (by omega)] at wq
        exact Tryz.torn_J16 hs hcs (F := F) (x := .app y.data) (F' := F.put y.data) o215 r215 hF g232 wq hQA hpo (by rw [hsd]; omega) pn (by omega) (by omega) hC
end
end Go.Proofs
set_option linter.unusedVariables false
set_option linter.unusedSimpArgs false
set_option linter.unusedSectionVars false
namespace Go.Proofs
open Go Go.V Go.Disk
/-- The end of DiskTorn: what the crash has left, byte by byte. -/
theorem Tryz.torn_J6 {h0 h : Hp} {lA yA wA xA : Option Addr} {ln yn wn xn xc : Nat} {lost : List Int} {r : Rw} {whole torn : List UInt8} {V : Nat → Prop} {yc : Nat} (g : Grow h0 h)
    (hl : IS h0 lA ln lost) (hln : ln ≤ 300) (fy : Tryz.FilesR h V yA yn yc [([102], whole)]) (hw : whole = r.map (·.1)) (tb : BS h wA wn torn) (ht : torn = (loseA r lost).map (·.1)) (hx : OwnS h 55 2 xA xn xc (cellsV r)) (hrl : r.length ≤ 400000) :
    D_treadlelaw3_DiskTorn.J6 (fun v h' => v = .bool true ∧ Grow h0 h') lA ln yA yn wA wn xA xn false h := by
  unfold D_treadlelaw3_DiskTorn.J6
  refine ⟨fun e => Bool.noConfusion e, fun _ => ?_⟩
  have hxn : xn = r.length := by have := hx.src.len; rw [cellsV_length] at this; omega
  have hlh := hl.g g
  have hll := hl.1
  refine ⟨fun i h' m => 0 ≤ i ∧ i ≤ xn ∧ m = xn - i.toNat ∧ h' = h, ⟨xn, by omega, by omega, by simp, rfl⟩, ?_⟩
  rintro i h59 m ⟨i0, ix, rfl, e59⟩
  obtain rfl : h = h59 := e59.symm
  unfold D_treadlelaw3_DiskTorn.L8
  refine ⟨fun e => ?_, fun e => ?_⟩
  · have hlt := dec_t e
    have hi : i.toNat < r.length := by omega
    obtain ⟨p, hp⟩ : ∃ p, r[i.toNat]? = some p := ⟨_, List.getElem?_eq_getElem hi⟩
    obtain ⟨c0, c1⟩ := cellsV_get hp
    obtain ⟨xa, rfl⟩ := hx.src.addr (by omega)
    have k0 := hx.src.get c0
    have k1 := hx.src.get c1
    have hsec : IntKind.i64.wrap (Int.tdiv (IntKind.i64.wrap (((xn : Nat) : Int) + 15)) 16) = ((sectorsOf r.length : Nat) : Int) := by
      rw [w64 (x := (((xn : Nat) : Int) + 15)) (by omega) (by omega), Int.tdiv_eq_ediv_of_nonneg (by omega), w64 (by omega) (by omega)]
      unfold sectorsOf
      omega
    have hi16 : IntKind.i64.wrap (Int.tdiv i 16) = ((i.toNat / 16 : Nat) : Int) := by
      rw [Int.tdiv_eq_ediv_of_nonneg (by omega), w64 (by omega) (by omega)]
      omega
    have hs0 : 0 < sectorsOf r.length := by unfold sectorsOf; omega
    have hs1 : sectorsOf r.length ≤ 400000 := by unfold sectorsOf; omega
    refine ⟨xa, rfl, i0, hlt, _, k0, fun w j h' m => 0 ≤ j ∧ j ≤ ln ∧ m = ln - j.toNat ∧ h' = h ∧ w = (((if p.2 = true ∧ hit (sectorsOf r.length) (lost.take j.toNat) i.toNat = true then (0 : UInt8) else p.1).toNat : Nat) : Int),
      ⟨ln, by omega, by omega, by simp, rfl, by simp [hit]⟩, ?_⟩
    rintro w j h100 m ⟨j0, jl, rfl, e100, rfl⟩
    obtain rfl : h = h100 := e100.symm
    unfold D_treadlelaw3_DiskTorn.L11
    have tail : ∀ w : Int, w = (((if p.2 = true ∧ hit (sectorsOf r.length) lost i.toNat = true then (0 : UInt8) else p.1).toNat : Nat) : Int) →
        D_treadlelaw3_DiskTorn.J9 (fun v h' => v = .bool true ∧ Grow h0 h') (fun j58 h59 => ∃ m1, m1 < xn - i.toNat ∧ 0 ≤ j58 ∧ j58 ≤ xn ∧ m1 = xn - j58.toNat ∧ h59 = h) yA yn wA wn (some xa) xn i w h := by
      rintro w rfl
      unfold D_treadlelaw3_DiskTorn.J9
      have hyn := fy.len
      have hyn : yn = 1 := hyn
      subst hyn
      obtain ⟨ya, D, dm, dk, rfl, e1, e2, _, bD⟩ := fy.get (i := 0) (x := ([102], whole)) rfl
      have hwi : whole[i.toNat]? = some p.1 := by rw [hw, List.getElem?_map, hp]; rfl
      obtain ⟨da, rfl, dl, dc⟩ := BS.at bD hwi
      have hti : torn[i.toNat]? = some (if p.2 = true ∧ hit (sectorsOf r.length) lost i.toNat = true then (0 : UInt8) else p.1) := by
        rw [ht, List.getElem?_map, lose_get lost hp]
        simp only [Option.map_some]
        congr 1
        split <;> rfl
      obtain ⟨ta, rfl, tl, tc⟩ := BS.at tb hti
      refine ⟨ya, rfl, by omega, by omega, some da, dm, dk, e2, da, rfl, i0, by omega, _, dc, xa, rfl, i0, hlt, _, k0, fun e => ?_, fun _ => ⟨ta, rfl, i0, by omega, _, tc, ?_⟩⟩
      · simp at e
      · unfold D_treadlelaw3_DiskTorn.J10
        refine ⟨fun e => by simp at e, fun _ => ?_⟩
        rw [inc64 i0 hlt (by omega)]
        exact ⟨xn - (i + 1).toNat, by omega, by omega, by omega, rfl, rfl⟩
    refine ⟨fun e1 => ⟨xa, rfl, i0, hlt, p.2, ?_, ?_⟩, fun e1 => ?_⟩
    · rw [add_add]; exact k1
    · have hjl := dec_t e1
      unfold D_treadlelaw3_DiskTorn.J12
      refine ⟨fun e2 => ?_, fun e2 => ?_⟩
      · obtain ⟨la, v, rfl, hv, hc⟩ := hlh.get j0 hjl
        rw [hsec, hi16]
        refine ⟨la, rfl, j0, hjl, v, hc, (Tryz.c_roundL v (sectorsOf r.length : Nat) h (by omega) (by omega)).mono ?_⟩
        rintro _ h114 ⟨rfl, rfl⟩
        have hht := hit_take (s := sectorsOf r.length) (i := i.toNat) hv
        have hr := roundA_bounds v (n := ((sectorsOf r.length : Nat) : Int)) (by omega)
        refine ⟨_, rfl, fun e3 => ?_, fun e3 => ?_⟩
        · have e3 : roundA v (sectorsOf r.length : Nat) = ((i.toNat / 16 : Nat) : Int) := by simpa using e3
          unfold D_treadlelaw3_DiskTorn.J13
          rw [inc64 j0 hjl (by omega)]
          refine ⟨ln - (j + 1).toNat, by omega, by omega, by omega, rfl, rfl, ?_⟩
          have : hit (sectorsOf r.length) (lost.take (j + 1).toNat) i.toNat = true := by
            rw [toNat_inc j0, hht]
            unfold roundA at e3
            rw [e3, Int.toNat_natCast, beq_self_eq_true, Bool.or_true]
          rw [if_pos ⟨e2, this⟩]
          rfl
        · have e3 : ¬ roundA v (sectorsOf r.length : Nat) = ((i.toNat / 16 : Nat) : Int) := by simpa using e3
          unfold D_treadlelaw3_DiskTorn.J13
          rw [inc64 j0 hjl (by omega)]
          refine ⟨ln - (j + 1).toNat, by omega, by omega, by omega, rfl, rfl, ?_⟩
          have : hit (sectorsOf r.length) (lost.take (j + 1).toNat) i.toNat = hit (sectorsOf r.length) (lost.take j.toNat) i.toNat := by
            rw [toNat_inc j0, hht]
            have : ((v % ((sectorsOf r.length : Nat) : Int)).toNat == i.toNat / 16) = false := by
              rw [beq_eq_false_iff_ne]
              intro hh
              apply e3
              unfold roundA at hr ⊢
              omega
            rw [this, Bool.or_false]
          rw [this]
      · refine tail _ ?_
        have h1 : ¬ (p.2 = true ∧ hit (sectorsOf r.length) (lost.take j.toNat) i.toNat = true) := fun x => by rw [e2] at x; exact Bool.noConfusion x.1
        have h2 : ¬ (p.2 = true ∧ hit (sectorsOf r.length) lost i.toNat = true) := fun x => by rw [e2] at x; exact Bool.noConfusion x.1
        rw [if_neg h1, if_neg h2]
    · have hjl := dec_f e1
      unfold D_treadlelaw3_DiskTorn.J12
      refine ⟨fun e2 => Bool.noConfusion e2, fun _ => tail _ ?_⟩
      rw [List.take_of_length_le (by omega)]
  · unfold D_treadlelaw3_DiskTorn.J7
    refine (Tryz.c_known _).mono ?_
    rintro v h' ⟨rfl, gk⟩
    exact ⟨_, rfl, rfl, g.trans gk⟩
end Go.Proofs
set_option linter.unusedVariables false
set_option linter.unusedSimpArgs false
set_option linter.unusedSectionVars false
namespace Go.Proofs
open Go Go.V Go.Disk
theorem Tryz.torn_J5 {h0 h : Hp} {d : Nat} {base : List UInt8} {cs : List ChgIn} (hs : base.length + sumD cs ≤ 200000) (hcs : cs.length ≤ 60) {lA : Option Addr} {ln lc : Nat} {lost : List Int} {done : Int} (hl : IS h0 lA ln lost) (hll : ln ≤ 300) (hlS : 0 < ln → ∀ b, inA lA b → b < h0.size)
    {V : Nat → Prop} {F : FileA} {N : Nat} {A : Option Addr} {n c : Nat} (a : Tryz.TornAt h0 d base cs cs.length V F N A n c h) :
    D_treadlelaw3_DiskTorn.J5 (fun v h' => v = .bool true ∧ Grow h0 h') done lA ln lc (some ⟨d, 0, none⟩) A n c h := by
  obtain ⟨⟨k, o⟩, rows, ok, le, pn, nn⟩ := a
  have hsd := sumD_le cs cs.length
  have hle := F.lens_le
  have hn := rows.len
  rw [rowsOf_length] at hn
  unfold D_treadlelaw3_DiskTorn.J5
  refine (o.pending (by omega)).mono ?_
  rintro v h31 ⟨PA, Pn, Pc, rfl, hPn, oP, o31, g31, fP⟩
  have hpd := stT_pending o.ok
  rw [hpd] at hPn oP ⊢
  have hPn : Pn = 1 := hPn
  subst hPn
  refine ⟨_, PA, 1, Pc, rfl, fun b34 h33 eb eh => ?_⟩
  obtain ⟨f34, g34, s34, l34⟩ := boxed eb eh
  have z31 := g31.size
  have z34 := g34.size
  have o33 := o31.new (by omega) g34
  have hg0 := o33.grow
  have zz := o.grow.size
  have c1 := o33.crash (by omega) (sA := none) (sn := 0) (sc := 0) (fA := some ⟨b34, 0, none⟩) (fn := 1) (fc := 1) (P := ⟨0, [], [(done, lost)]⟩)
    ⟨IS.nil _, (fun _ b hx => (inA_none hx).elim), by omega, [(done, lA, ln, lc)], rfl, ⟨rfl, row_all f34⟩, (fun _ b hx => .inr (.inr (by have : b34 = b := inA_some.1 hx; omega))),
      ⟨⟨rfl, hl.g hg0, fun h0' b hx => .inl (hlS h0' b hx), by show ln ≤ 68719476735; omega⟩, trivial⟩⟩ (by omega)
  rw [stT_crash, stT_crashT] at c1
  refine c1.mono ?_
  clear c1
  rintro v h36 ⟨CA, Cn, Cc, rfl, V1, hV1, fC, o36, k36⟩
  have rows33 : Tryz.RowsR h33 (fun b => (V b ∨ h.size ≤ b ∧ b < h31.size) ∨ h31.size ≤ b ∧ b < h33.size) A n c (rowsOf F) := (rows.kp g31 (fun _ _ _ => id) fun _ h => .inl (.inl h)).kp g34 (fun _ _ _ => id) fun _ h => h
  have rows36 := rows33.kp k36 (fun b hb _ hx => hx.2 hb) hV1
  have oP36 := (oP.kp g34 fun _ _ => id).kp k36 fun b hb hx => hx.2 (.inl (.inr ⟨fP b hb, oP.lt b hb⟩))
  have c2 := o36.read (by omega) sF
  rw [stT_read] at c2
  refine ⟨CA, Cn, Cc, rfl, c2.mono ?_⟩
  clear c2
  rintro v h39 ⟨BA, Bn, Bc, rfl, hB, _, _, V2, hV2, hBV, o39, k39⟩
  have rows39 := rows36.kp k39 (fun b hb _ hx => hx.2 hb) hV2
  have oP39 := oP36.kp k39 fun b hb hx => hx.2 (hV1 b (.inl (.inr ⟨fP b hb, oP.lt b hb⟩)))
  have fC39 := fC.kp k39 fun b hb _ hx => hx.2 hb
  rw [safe_bytes] at hB
  have hn' : ((n : Nat) : Int) = (F.pend.length : Int) + 1 := by omega
  refine ⟨BA, Bn, Bc, _, rfl, ?_⟩
  rw [hn']
  refine (Tryz.c_roundL done ((F.pend.length : Int) + 1) h39 (by omega) (by omega)).mono ?_
  rintro _ h42 ⟨rfl, rfl⟩
  have hr := roundA_bounds done (n := (F.pend.length : Int) + 1) (by omega)
  have hdo : roundA done ((F.pend.length : Int) + 1) = ((doneA F done : Nat) : Int) := by unfold doneA; omega
  have hdl := doneA_le F done
  rw [hdo]
  obtain ⟨ra, X, xn, xc, rfl, hcell, hm, wX⟩ := rows39.at (rowsOf_get F hdl)
  have hrl := FileA.row_le ok (doneA F done)
  have hxs : ∀ t : Bool, t = false → D_treadlelaw3_DiskTorn.J6 (fun v h' => v = .bool true ∧ Grow h0 h') lA ln CA Cn BA Bn X xn t h42 := by
    rintro t rfl
    exact Tryz.torn_J6 (r := F.row (doneA F done)) o39.grow hl hll fC39 rfl hB rfl wX (by omega)
  have oPs := oP39.src
  obtain ⟨pa, rfl⟩ := oPs.addr (by omega)
  have hpc : cell h42 (pa.add (Int.toNat 0 * 1)) = some (.int .i64 (F.pend.length : Int)) := oPs.get (i := 0) rfl
  have hCn : Cn = 1 := fC39.len
  subst hCn
  obtain ⟨ca, D, dm, dk, rfl, e1, e2, _, bD⟩ := fC39.get (i := 0) rfl
  have hwl : (wholeF F (done, lost)).length = xn := by unfold wholeF; rw [List.length_map, hm]
  have htl : (lostF F (done, lost)).length = xn := by unfold lostF; rw [List.length_map, loseA_length, hm]
  have hdm : dm = xn := by rw [← hwl]; exact bD.1
  have hBn : Bn = xn := by rw [← htl]; exact hB.1
  refine ⟨_, rfl, ra, rfl, by omega, by omega, X, xn, xc, by rw [Int.toNat_natCast]; exact hcell, fun e => Bool.noConfusion (show false = true from e), fun _ => ⟨pa, rfl, by omega, by omega, _, hpc, fun e => ?_, fun _ => ⟨fun e => Bool.noConfusion (show false = true from e), fun _ => ⟨fun e => Bool.noConfusion (show false = true from e), fun _ => ⟨ca, rfl, by omega, by omega, D, dm, dk, e2, fun e => ?_, fun _ => hxs _ ?_⟩⟩⟩⟩⟩
  · rw [w64 (by omega) (by omega)] at e
    simp at e
  · rw [hdm] at e; simp at e
  · rw [hBn]; simp

theorem Tryz.c_DiskTorn (h0 : Hp) {bA cA lA : Option Addr} {bn bc cn cc ln lc : Nat} {base : List UInt8} {cs : List ChgIn} {lost : List Int} (hb : BS h0 bA bn base) (hbc : bn ≤ bc) (hc : Tryz.ChangesR h0 cA cn cs) (hl : IS h0 lA ln lost) (hlS : 0 < ln → ∀ b, inA lA b → b < h0.size) (done : Int) :
    CH Tryz.prog 4 #[.slice bA bn bc, .slice cA cn cc, .int .i64 done, .slice lA ln lc] h0 fun v h' => v = .bool true ∧ Grow h0 h' := by
  apply D_treadlelaw3_DiskTorn.sound
  unfold D_treadlelaw3_DiskTorn
  have hbl := hb.1
  have hcl := hc.len
  have key : ∀ t : Bool, (t = false → bn ≤ 200000 ∧ cn ≤ 60 ∧ ln ≤ 300) → D_treadlelaw3_DiskTorn.J1 (fun v h' => v = .bool true ∧ Grow h0 h') bA bn bc cA cn done lA ln lc t h0 := by
    intro t ht
    unfold D_treadlelaw3_DiskTorn.J1
    have kn : ∀ h, Grow h0 h → CH Tryz.prog 9 #[] h (fun r4 h5 => ∃ y6 : Bool, r4 = .bool y6 ∧ (fun v h' => v = Value.bool true ∧ Grow h0 h') (.bool y6) h5) := fun h g => (Tryz.c_known h).mono fun v h' ⟨e, g'⟩ => ⟨true, e, rfl, g.trans g'⟩
    refine ⟨fun _ => kn h0 Kp.rfl', fun e => ?_⟩
    obtain ⟨lb, lcn, lln⟩ := ht e
    refine ⟨fun t j h' m => 0 ≤ j ∧ j ≤ cn ∧ m = cn - j.toNat ∧ h' = h0 ∧ t = ((base.length + sumD (cs.take j.toNat) : Nat) : Int) ∧ base.length + sumD (cs.take j.toNat) ≤ 200000, ⟨cn, by omega, by omega, by simp, rfl, by simp [sumD, hbl], by simp [sumD]; omega⟩, ?_⟩
    rintro t j h311 m ⟨j0, jc, rfl, e311, rfl, hsum⟩
    obtain rfl : h0 = h311 := e311.symm
    unfold D_treadlelaw3_DiskTorn.L19
    refine ⟨fun e1 => ?_, fun e1 => ?_⟩
    · have hlt := dec_t e1
      obtain ⟨a, y, B, mm, kk, rfl, hy, hrow, hyb, hyc⟩ := hc.at (j := j.toNat) (by omega)
      have hsl := hrow 2 _ rfl
      have hyl := hyb.1
      refine ⟨a, rfl, j0, hlt, B, mm, kk, hsl, fun _ => kn _ Kp.rfl', fun e2 => ⟨a, rfl, j0, hlt, B, mm, kk, hsl, fun _ => kn _ Kp.rfl', fun e3 => ?_⟩⟩
      have e2 := dec_f e2
      have e3 := dec_f e3
      have hw : IntKind.i64.wrap (((base.length + sumD (cs.take j.toNat) : Nat) : Int) + ((mm : Nat) : Int)) = ((base.length + sumD (cs.take j.toNat) : Nat) : Int) + (mm : Int) := w64 (by omega) (by omega)
      rw [hw] at e3 ⊢
      rw [inc64 j0 hlt (by omega)]
      have hst := sumD_take hy
      refine ⟨cn - (j + 1).toNat, by omega, by omega, by omega, rfl, rfl, ?_, ?_⟩
      · rw [toNat_inc j0, hst]; omega
      · rw [toNat_inc j0, hst]; omega
    · have hge := dec_f e1
      rw [List.take_of_length_le (by omega)] at hsum
      unfold D_treadlelaw3_DiskTorn.J2
      refine (Tryz.On.fresh (h0 := h0) Kp.rfl' 4194304 1).mono ?_
      rintro v h10 (⟨h1, _⟩ | ⟨_, d, rfl, o, _⟩)
      · omega
      refine ⟨_, rfl, fun e => Bool.noConfusion e, fun _ => ?_⟩
      have c := o.create (by omega) sF
      rw [tt1] at c
      refine c.mono ?_
      clear c o
      rintro v h1 ⟨rfl, o, _⟩
      refine ⟨_, rfl, fun e => Bool.noConfusion (show false = true from e), fun _ => ?_⟩
      have z0 : (FileA.mk [] []).lens.2 = 0 := rfl
      have o : Tryz.On h0 h1 d (stU ⟨[], []⟩ 1) _ _ := o
      have c := o.append (by omega) sF (hb.g o.grow) (by omega) hbc
      rw [stU_append base (by rw [z0]; omega)] at c
      refine c.mono ?_
      clear c o
      rintro v h3 ⟨rfl, o, _⟩
      refine ⟨_, rfl, fun e => Bool.noConfusion (show false = true from e), fun _ => ?_⟩
      have c := o.sync (by omega) sF
      rw [stU_sync] at c
      refine c.mono ?_
      clear c o
      rintro v h5 ⟨rfl, o, _⟩
      refine ⟨_, rfl, fun e => Bool.noConfusion (show false = true from e), fun _ => ?_⟩
      have c := o.names (by omega)
      rw [stU_names] at c
      refine c.mono ?_
      clear c o
      rintro v h13 ⟨rfl, o, _⟩
      have hB0 : ((FileA.mk [] []).put base).bytes = base := by rw [put_bytes, safe_bytes]; rfl
      rw [hB0] at o
      refine ⟨_, rfl, ?_⟩
      unfold D_treadlelaw3_DiskTorn.J3
      refine ⟨fun e => Bool.noConfusion (show false = true from e), fun _ => ?_⟩
      refine ⟨fun QA Qn Qc i h' mm => 0 ≤ i ∧ i ≤ bn ∧ mm = bn - i.toNat ∧ Grow h13 h' ∧ Qn = i.toNat ∧ OwnS h' 55 2 QA Qn Qc (cellsV (baseR (base.take i.toNat))) ∧ ∀ b, inA QA b → h13.size ≤ b,
        ⟨bn, by omega, by omega, by simp, Kp.rfl', rfl, by simpa [baseR, cellsV] using OwnS.nil _ _ _, fun b hb => (inA_none hb).elim⟩, ?_⟩
      rintro QA Qn Qc i h266 mm ⟨i0, ib, rfl, g266, hQn, wq, hQA⟩
      unfold D_treadlelaw3_DiskTorn.L18
      refine ⟨fun e2 => ?_, fun e2 => ?_⟩
      · have hlt := dec_t e2
        obtain ⟨pa, x, rfl, hx1, hcx⟩ := (hb.g (o.grow.trans g266)).get i0 hlt
        refine ⟨pa, rfl, i0, hlt, _, hcx, fun b276 h275 eb2 eh2 => ?_⟩
        obtain ⟨f276, g276, s276, l276⟩ := boxed eb2 eh2
        refine app1 (xs := [bv x, .bool false]) f276 rfl (fun v hv => by simp at hv; rcases hv with rfl | rfl <;> rfl) (wq.kp g276 fun _ _ => id) rfl (by omega) (by omega) fun A3 c3 h3' w3 k3 e3 => ?_
        rw [inc64 i0 hlt (by omega)]
        have z1 := g266.size
        have z2 := g276.size
        refine ⟨bn - (i + 1).toNat, by omega, by omega, by omega, rfl, (g266.trans g276).trans' k3 fun q hq hx => by have := hQA q hx; omega, by omega, ?_, fun b hb' => ?_⟩
        · have : cellsV (baseR (base.take (i + 1).toNat)) = cellsV (baseR (base.take i.toNat)) ++ [bv x, .bool false] := by
            rw [toNat_inc i0, List.take_add_one, hx1]
            unfold baseR
            rw [List.map_append, cellsV_append]
            rfl
          rw [this]
          exact w3
        · rcases app_in e3 b hb' with hx | hx
          · exact hQA b hx
          · omega
      · have hge2 := dec_f e2
        rw [List.take_of_length_le (by omega)] at wq
        unfold D_treadlelaw3_DiskTorn.J4
        have r0 : Tryz.RowsR h13 (fun b => (h0.size ≤ b ∧ b < h0.size)) none 0 0 [] := ⟨[], rfl, OwnS.nil _ _ _, trivial, fun b hb => (inA_none hb).elim⟩
        refine Tryz.rows_add (D := stT ⟨base, []⟩ _ 0) o (by omega) r0 g266 wq hQA (by omega) fun V' A' c' h' o' r' => ?_
        have start : Tryz.TornAt h0 d base cs 0 V' ⟨base, []⟩ (0 + 2 + 2 + 1 + 1) A' (0 + 1) c' h' := ⟨⟨_, o'⟩, r', trivial, by rw [lens_safe]; show base.length ≤ _; omega, Nat.le_refl _, by omega⟩
        refine ⟨fun RA Rn Rc i h'' m => 0 ≤ i ∧ i ≤ cn ∧ m = cn - i.toNat ∧ ∃ V F N, Tryz.TornAt h0 d base cs i.toNat V F N RA Rn Rc h'', ⟨cn, by omega, by omega, by simp, _, _, _, start⟩, ?_⟩
        rintro RA Rn Rc i h150 m ⟨i0', ic, rfl, V2, F2, N2, at2⟩
        by_cases hic : i < cn
        · obtain ⟨t, rfl⟩ := Int.eq_ofNat_of_zero_le i0'
          rw [Int.toNat_natCast] at at2
          refine Tryz.torn_step (cc := 0) hsum (by omega) at2 hc (by omega) fun V F N A n c h'' a => ⟨cn - (t + 1), by simp; omega, by omega, by omega, by omega, V, F, N, ?_⟩
          have : ((t : Int) + 1).toNat = t + 1 := by omega
          rw [this]; exact a
        · unfold D_treadlelaw3_DiskTorn.L14
          refine ⟨fun e3 => absurd (dec_t e3) hic, fun _ => ?_⟩
          have hit : i.toNat = cs.length := by omega
          rw [hit] at at2
          exact Tryz.torn_J5 hsum (by omega) hl lln hlS at2
  refine ⟨fun e => key _ (fun x => by cases x), fun e => ⟨fun e1 => key _ (fun x => by cases x), fun e1 => key _ fun x => ?_⟩⟩
  simp at e e1 x
  omega
end Go.Proofs
set_option linter.unusedVariables false
/-! DkR: what a row hands in, over heaps. -/
namespace Go.Proofs.YteabnfdeklajlaaGreat.rowKit
open Go.ChangeShapes Go.WideShapes Go.ChangeAt Go.RowKit Go.V Go.Disk
theorem own : ownKnob Tryz.prog.godebug = none := by kernel_rfl
theorem laid : laidOutB Tryz.prog = true := by kernel_rfl
theorem below {w w' : World} (s : Go.V.Same w w') (g : Go.V.Grow w.heap w'.heap) : Below w.heap.size w w' := ⟨s.os, s.tape, s.output, g.size, fun k hk => g.block k hk id⟩
theorem kept {w w' : World} (s : Go.V.Same w w') (g : Go.V.Grow w.heap w'.heap) (may : MemPlace → Prop) : w.keptBut w' may := by
  refine ⟨s.os, s.output, fun i hi => ?_⟩
  rw [g.block i hi id]
  split
  · rename_i h1 h2; rw [h1] at h2; cases h2; exact ⟨rfl, rfl, rfl, fun _ _ => rfl⟩
  · rename_i h1 h2; rw [h1] at h2; cases h2; exact .inr ⟨rfl, rfl⟩
  · rfl
def rowed (P : Program) (ts : List TypeId) : Bool := ts.all fun t => P.readableRec t && decide (t < P.types.size)
theorem trodAll_stays {H : Type} {enc : TypeId × Value → H} {P : Program} (hl : laidOutB P = true) {W W' : World} (hb : Below W.heap.size W W') :
    ∀ {ts : List TypeId} {vs : List Value} {ds : List (DataW H)} {ps : List MemPlace}, rowed P ts = true → DataW.TrodAll enc P W 0 (fun _ => true) true ts vs ds ps → (∀ x ∈ ps, x.block < W.heap.size) →
      DataW.TrodAll enc P W' 0 (fun b => decide (b < W.heap.size)) true ts vs ds ps
  | [], _, _, _, _, h, _ => by
    obtain ⟨rfl, rfl, rfl⟩ := trodAll_nil h
    exact trodAll_mk0
  | t :: ts, _, _, _, hr, h, hlt => by
    obtain ⟨v, vs1, d, ds1, p, q, rfl, rfl, rfl, h1, h2⟩ := trodAll_cons h
    simp only [rowed, List.all_cons, Bool.and_eq_true, decide_eq_true_eq] at hr
    exact trodAll_cons_mk (Below.trod hl hr.1.1 hr.1.2 h1 hb fun x hx => hlt x (List.mem_append_left _ hx)) (trodAll_stays hl hb hr.2 h2 fun x hx => hlt x (List.mem_append_right _ hx))
/-- What was handed in reads as it did; what is answered is plain; nothing that was there has turned. -/
theorem shut {H : Type} {enc : TypeId × Value → H} {f : Func} {s : ChangeSpec} {apart fresh handsOn : Bool} {W W' : World} {args : Array Value} {ds gs : List (DataW H)} {before : List MemPlace}
    (hW : DataW.Whole enc Tryz.prog f.params.toList s.vars apart W args.toList ds gs before) (hr : rowed Tryz.prog f.params.toList = true) (hvars : s.vars = [])
    (hf : f.resultTypes = #[4]) (hsp : s.fn H ds = { results := [.lit (.bool true)], args := ds }) (sm : Go.V.Same W W') (g : Go.V.Grow W.heap W'.heap) :
    s.post enc Tryz.prog f apart fresh handsOn false W args (.bool true) W' := by
  have hold : ∀ p ∈ before, (fun b => decide (b < W.heap.size)) p.block = true := fun p hp => by simpa using hW.lt p hp
  have hlt := hW.lt
  have hW' := hW
  obtain ⟨p, q, hA, hV, rfl, hfz, hnd⟩ := hW
  rw [hvars] at hV
  obtain ⟨rfl, rfl⟩ := trodVars_none hV
  have hgs : s.fn H (ds ++ []) = { results := [.lit (.bool true)], args := ds } := by rw [List.append_nil]; exact hsp
  refine ⟨ds, [], p ++ [], [], p, [], hW', ?_, ?_, ?_, kept sm g _, fun h => by cases h⟩
  · rw [hgs, hf]
    exact trodAll_cons_mk (shut_bool Tryz.underlying4 _) trodAll_mk0
  · rw [hgs]
    exact trodAll_stays laid (below sm g) hr hA fun x hx => hlt x (List.mem_append_left _ hx)
  · rw [hgs, hvars]
    rfl
theorem cells5 : Tryz.prog.cellsOf 5 = 1 := by kernel_rfl
theorem cells3 : Tryz.prog.cellsOf 3 = 1 := by kernel_rfl
theorem wf_u8 {n : Int} (h : (Lit.int .u8 n).wf = true) : 0 ≤ n ∧ n ≤ 255 := by simpa [Lit.wf, IntKind.min, IntKind.max, IntKind.signed, IntKind.bits] using h
set_option maxRecDepth 100000 in
/-- Bytes that came in. -/
theorem open_bs {H : Type} {enc : TypeId × Value → H} {W : World} {base : Nat} {v : Value} {d : DataW H} {p : List MemPlace} {sp : Nat → Bool} (hval : Value.okWide Tryz.prog W .any base 22 v) (h : DataW.Trod enc Tryz.prog W 0 sp true 22 v d p) :
    ∃ A n c l, v = .slice A n c ∧ BS W.heap A n l ∧ n ≤ c := by
  obtain ⟨a1, len, cap, rfl⟩ := okWide_slice Tryz.underlying22 hval
  obtain ⟨fuel, hf⟩ := h
  rcases open_ints Tryz.underlying22 Tryz.underlying5 cells5 hf with ⟨hcs, hx⟩ | ⟨a, len', cap', zs, hcs, _, hl, hm, hz, hx, hcell, hwz⟩
  · simp [Value.cells] at hcs
    obtain ⟨rfl, rfl, rfl⟩ := hcs
    exact ⟨none, 0, 0, [], rfl, BS.nil _, Nat.le_refl _⟩
  · simp [Value.cells] at hcs
    obtain ⟨rfl, rfl, rfl⟩ := hcs
    have hzl : len ≤ zs.length := by rw [hz]; split <;> omega
    have hlen : ((zs.take len).map fun n => UInt8.ofNat n.toNat).length = len := by simp; omega
    refine ⟨some a, len, cap, (zs.take len).map fun n => UInt8.ofNat n.toNat, rfl, ⟨hlen.symm, by rw [List.length_map, hlen], fun i v hv => ?_⟩, hl⟩
    rw [List.getElem?_map, List.getElem?_map] at hv
    cases hg : (zs.take len)[i]? with
    | none => rw [hg] at hv; cases hv
    | some x =>
      rw [hg] at hv
      cases hv
      rw [List.getElem?_take] at hg
      split at hg
      · rename_i hi
        have hc := hcell i (by omega)
        have hgd : zs.getD i 0 = x := by rw [List.getD, hg]; rfl
        rw [hgd] at hc
        have hw := wf_u8 (hwz x (List.mem_of_getElem? hg))
        rw [← cell_eq, hc]
        unfold bv
        congr 2
        simp only [UInt8.toNat_ofNat']
        omega
      · cases hg
end Go.Proofs.YteabnfdeklajlaaGreat.rowKit
set_option linter.unusedVariables false
/-! DkR2: rows of structs that come in. -/
namespace Go.Proofs.YteabnfdeklajlaaGreat.rowKit
open Go.ChangeShapes Go.WideShapes Go.ChangeAt Go.RowKit Go.V Go.Disk Go.Deep
section
variable {H : Type} {enc : TypeId × Value → H} {W : World} {base : Nat} {sp : Nat → Bool} {hd : Bool}
set_option maxRecDepth 100000 in
/-- Bytes, by their cell. -/
theorem bsC {fuel : Nat} {cs : List Value} {x : DataW H × List MemPlace} (hf : DataW.trod enc Tryz.prog W base sp hd fuel 22 cs = some x) :
    ∃ A n c l, cs = [.slice A n c] ∧ BS W.heap A n l ∧ n ≤ c ∧ c ≤ maxLen := by
  rcases open_ints Tryz.underlying22 Tryz.underlying5 cells5 hf with ⟨hcs, hx⟩ | ⟨a, len, cap, zs, hcs, _, hl, hm, hz, hx, hcell, hwz⟩
  · exact ⟨none, 0, 0, [], hcs, BS.nil _, Nat.le_refl _, Nat.zero_le _⟩
  · have hzl : len ≤ zs.length := by rw [hz]; split <;> omega
    have hlen : ((zs.take len).map fun n => UInt8.ofNat n.toNat).length = len := by simp; omega
    refine ⟨some a, len, cap, (zs.take len).map fun n => UInt8.ofNat n.toNat, hcs, ⟨hlen.symm, by rw [List.length_map, hlen], fun i v hv => ?_⟩, hl, hm⟩
    rw [List.getElem?_map, List.getElem?_map] at hv
    cases hg : (zs.take len)[i]? with
    | none => rw [hg] at hv; cases hv
    | some x =>
      rw [hg] at hv
      cases hv
      rw [List.getElem?_take] at hg
      split at hg
      · rename_i hi
        have hc := hcell i (by omega)
        have hgd : zs.getD i 0 = x := by rw [List.getD, hg]; rfl
        rw [hgd] at hc
        have hw := wf_u8 (hwz x (List.mem_of_getElem? hg))
        rw [← cell_eq, hc]
        unfold bv
        congr 2
        simp only [UInt8.toNat_ofNat']
        omega
      · cases hg
set_option maxRecDepth 100000 in
/-- Numbers, by their cell. -/
theorem isC {fuel : Nat} {cs : List Value} {x : DataW H × List MemPlace} (hf : DataW.trod enc Tryz.prog W base sp hd fuel 44 cs = some x) :
    ∃ A n c l, cs = [.slice A n c] ∧ IS W.heap A n l ∧ n ≤ c ∧ c ≤ maxLen ∧ (0 < n → ∀ b, inA A b → b < W.heap.size) := by
  rcases open_ints Tryz.underlying44 Tryz.underlying3 cells3 hf with ⟨hcs, hx⟩ | ⟨a, len, cap, zs, hcs, _, hl, hm, hz, hx, hcell, hwz⟩
  · exact ⟨none, 0, 0, [], hcs, IS.nil _, Nat.le_refl _, Nat.zero_le _, fun h => by omega⟩
  · have hzl : len ≤ zs.length := by rw [hz]; split <;> omega
    have hlen : (zs.take len).length = len := by simp; omega
    refine ⟨some a, len, cap, zs.take len, hcs, ⟨hlen.symm, by rw [List.length_map, hlen], fun i v hv => ?_⟩, hl, hm, fun h0 b hb => ?_⟩
    · rw [List.getElem?_map] at hv
      cases hg : (zs.take len)[i]? with
      | none => rw [hg] at hv; cases hv
      | some x =>
        rw [hg] at hv
        cases hv
        rw [List.getElem?_take] at hg
        split at hg
        · rename_i hi
          have hc := hcell i (by omega)
          have hgd : zs.getD i 0 = x := by rw [List.getD, hg]; rfl
          rw [hgd] at hc
          rw [← cell_eq, hc]
          rfl
        · cases hg
    · have hc := hcell 0 (by omega)
      rw [cell_eq] at hc
      have := cell_lt hc
      rw [add_block] at this
      have := inA_some.1 hb
      omega
end
/-- A list of values, each of so many cells. -/
theorem flat_get {α : Type} {f : α → List Value} {sz : Nat} (hsz : 0 < sz) (hf : ∀ x, (f x).length = sz) : ∀ {l : List α} {j : Nat} {v : Value}, (l.flatMap f)[j]? = some v → ∃ i k x, j = i * sz + k ∧ k < sz ∧ l[i]? = some x ∧ (f x)[k]? = some v
  | [], j, v, h => by simp at h
  | a :: l, j, v, h => by
    rw [List.flatMap_cons] at h
    by_cases hj : j < sz
    · rw [List.getElem?_append_left (by rw [hf]; exact hj)] at h
      exact ⟨0, j, a, by omega, hj, rfl, h⟩
    · rw [List.getElem?_append_right (by rw [hf]; omega), hf] at h
      obtain ⟨i, k, x, e, hk, hx, hv⟩ := flat_get hsz hf h
      exact ⟨i + 1, k, x, by rw [Nat.add_mul]; omega, hk, hx, hv⟩
theorem flat_len {α : Type} {f : α → List Value} {sz : Nat} (hf : ∀ x, (f x).length = sz) : ∀ l : List α, (l.flatMap f).length = l.length * sz
  | [] => by simp
  | a :: l => by rw [List.flatMap_cons, List.length_append, hf, flat_len hf l, List.length_cons, Nat.add_mul]; omega
theorem all2_range {α β : Type} {R : α → β → Prop} {f : Nat → α} {g : Nat → β} : ∀ {n : Nat}, (∀ i, i < n → R (f i) (g i)) → All2 R ((List.range n).map f) ((List.range n).map g)
  | 0, _ => trivial
  | n + 1, h => by
    rw [List.range_succ, List.map_append, List.map_append]
    exact forall2_append (all2_range fun i hi => h i (by omega)) ⟨h n (by omega), trivial⟩
/-- A row of structs, built place by place. -/
theorem rows_src {α : Type} {f : α → List Value} {sz : Nat} (hsz : 0 < sz) (hf : ∀ x, (f x).length = sz) {h : Hp} {a : Addr} {n : Nat} {q : Nat → α} (hq : ∀ i, i < n → ∀ k v, (f (q i))[k]? = some v → cell h (a.add (i * sz + k)) = some v) :
    Src h (n * sz) (((List.range n).map q).flatMap f) (some a) := by
  refine ⟨by rw [flat_len hf]; simp, fun j v hv => ?_⟩
  obtain ⟨i, k, x, rfl, hk, hx, hv⟩ := flat_get hsz hf hv
  rw [List.getElem?_map] at hx
  have hi : i < n := by
    have := List.getElem?_eq_some_iff.1 (show ((List.range n).map q)[i]? = some x by rw [List.getElem?_map]; exact hx)
    obtain ⟨hi, _⟩ := this
    simpa using hi
  rw [List.getElem?_range hi] at hx
  cases hx
  exact hq i hi k v hv
theorem cells51 : Tryz.prog.cellsOf 51 = 3 := by kernel_rfl
theorem cells22 : Tryz.prog.cellsOf 22 = 1 := by kernel_rfl
theorem cells4 : Tryz.prog.cellsOf 4 = 1 := by kernel_rfl
section
variable {H : Type} {enc : TypeId × Value → H} {W : World} {base : Nat} {sp : Nat → Bool} {hd : Bool}
set_option maxRecDepth 100000 in
/-- Changes that came in. -/
theorem changesC {fuel : Nat} {cs : List Value} {x : DataW H × List MemPlace} (hf : DataW.trod enc Tryz.prog W base sp hd fuel 49 cs = some x) :
    ∃ A n c l, cs = [.slice A n c] ∧ Tryz.ChangesR W.heap A n l ∧ n ≤ c ∧ c ≤ maxLen := by
  rcases open_slice Tryz.underlying49 hf with ⟨hcs, _⟩ | ⟨a, len, cap, m, n, D, Pl, hcs, hb, hl, hm, hmm, _, hx⟩
  · exact ⟨none, 0, 0, [], hcs, ⟨[], rfl, ⟨rfl, rfl⟩, trivial⟩, Nat.le_refl _, Nat.zero_le _⟩
  have hlm : len ≤ m := by rw [hmm]; split <;> omega
  have each : ∀ i, i < len → ∃ q : ChV × ChgIn, (∀ k v, ([.bool q.1.1, .int .i64 q.1.2.1, .slice q.1.2.2.1 q.1.2.2.2.1 q.1.2.2.2.2] : List Value)[k]? = some v → cell W.heap (a.add (i * 3 + k)) = some v) ∧
      (q.1.1 = q.2.cut ∧ q.1.2.1 = q.2.size ∧ BS W.heap q.1.2.2.1 q.1.2.2.2.1 q.2.data ∧ q.1.2.2.2.1 ≤ q.1.2.2.2.2) := by
    intro i hi
    obtain ⟨cs', h1, h2⟩ := hx i (by omega)
    rw [cells51] at h1
    obtain ⟨_, hlen, hcell⟩ := World.cells?_some h1
    obtain ⟨y0, y1, y2, k, _, _, g0, g1, g2⟩ := trod_struct3 Tryz.underlying51 h2
    match cs', hlen with
    | [v0, v1, v2], _ =>
      rw [cells4] at g0
      rw [cells3] at g1
      rw [cells22] at g2
      obtain ⟨b, e0, _⟩ := DataW.trod_bool Tryz.underlying4 g0
      obtain ⟨z, e1, _, _⟩ := DataW.trod_int Tryz.underlying3 g1
      obtain ⟨A, bn, bc, l, e2, hbs, hbc, _⟩ := bsC g2
      obtain rfl : v0 = .bool b := by simpa using e0
      obtain rfl : v1 = .int .i64 z := by simpa using e1
      obtain rfl : v2 = .slice A bn bc := by simpa using e2
      refine ⟨((b, z, A, bn, bc), ⟨b, z, l⟩), fun k v hv => ?_, rfl, rfl, hbs, hbc⟩
      have hk : k < 3 := by
        have := (List.getElem?_eq_some_iff.1 hv).1
        simpa using this
      have := hcell k hk
      rw [Deep.add_add, cell_eq] at this
      rw [this]
      exact hv
  haveI : Inhabited (ChV × ChgIn) := ⟨((false, 0, none, 0, 0), ⟨false, 0, []⟩)⟩
  obtain ⟨q, hq⟩ := choose_lt each
  refine ⟨some a, len, cap, (List.range len).map fun i => (q i).2, hcs, ⟨(List.range len).map fun i => (q i).1, by simp, ?_, all2_range fun i hi => (hq i hi).2⟩, hl, hm⟩
  exact rows_src (f := fun x : ChV => [.bool x.1, .int .i64 x.2.1, .slice x.2.2.1 x.2.2.2.1 x.2.2.2.2]) (by omega) (fun _ => rfl) fun i hi k v hv => (hq i hi).1 k v hv
set_option maxRecDepth 100000 in
theorem open_is {v : Value} {d : DataW H} {p : List MemPlace} {b0 : Nat} (hval : Value.okWide Tryz.prog W .any b0 44 v) (h : DataW.Trod enc Tryz.prog W base sp hd 44 v d p) :
    ∃ A n c l, v = .slice A n c ∧ IS W.heap A n l ∧ n ≤ c ∧ c ≤ maxLen ∧ (0 < n → ∀ b, inA A b → b < W.heap.size) := by
  obtain ⟨a1, len, cap, rfl⟩ := okWide_slice Tryz.underlying44 hval
  obtain ⟨fuel, hf⟩ := h
  obtain ⟨A, n, c, l, e, r⟩ := isC hf
  have e : Value.slice a1 len cap = .slice A n c := by simpa [Value.cells] using e
  exact ⟨A, n, c, l, e, r⟩
set_option maxRecDepth 100000 in
theorem open_changes {v : Value} {d : DataW H} {p : List MemPlace} {b0 : Nat} (hval : Value.okWide Tryz.prog W .any b0 49 v) (h : DataW.Trod enc Tryz.prog W base sp hd 49 v d p) :
    ∃ A n c l, v = .slice A n c ∧ Tryz.ChangesR W.heap A n l ∧ n ≤ c ∧ c ≤ maxLen := by
  obtain ⟨a1, len, cap, rfl⟩ := okWide_slice Tryz.underlying49 hval
  obtain ⟨fuel, hf⟩ := h
  obtain ⟨A, n, c, l, e, r⟩ := changesC hf
  have e : Value.slice a1 len cap = .slice A n c := by simpa [Value.cells] using e
  exact ⟨A, n, c, l, e, r⟩
end
end Go.Proofs.YteabnfdeklajlaaGreat.rowKit
