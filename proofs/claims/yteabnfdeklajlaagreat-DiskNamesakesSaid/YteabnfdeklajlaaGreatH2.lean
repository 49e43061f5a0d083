/- Part of a proof, by program out of hand-written texts. -/
import Derived.Test.YteabnfdeklajlaaGreatG1
import Derived.Test.YteabnfdeklajlaaGreatG2
import Derived.Test.YteabnfdeklajlaaGreatG3
import Derived.Test.YteabnfdeklajlaaGreatG4
import Derived.Test.YteabnfdeklajlaaGreatG5
import Derived.Test.YteabnfdeklajlaaGreatG6
import Derived.Test.YteabnfdeklajlaaGreatH1
import Derived.Carry
import Derived.Deep.Slices
import Derived.OpenShut
import Derived.ProofKit
import Derived.Test.YteabnfdeklajlaaGreatRows
import Derived.WalkKit
set_option linter.unusedVariables false
set_option linter.unusedSimpArgs false
namespace Go.Proofs
open Go Go.V Go.Disk

/-- A disk goes on; its blocks are none of these. -/
def Tryz.GoesV (V : Nat → Prop) (h : Hp) (g : DG) (D' : DiskA) (h' : Hp) : Prop := ∃ g', g'.d = g.d ∧ g'.D = D' ∧ Tryz.DR h' g' ∧ (∀ b, DB g' b → DB g b ∨ h.size ≤ b) ∧ (∀ b, V b → ¬ DB g' b) ∧ Kp (DB g) h h'
theorem Tryz.Goes.none {h h' : Hp} {g : DG} {D' : DiskA} (x : Tryz.Goes h g D' h') : Tryz.GoesV (inA none) h g D' h' := by
  obtain ⟨g', e1, e2, r, b, k⟩ := x
  exact ⟨g', e1, e2, r, b, fun b hb => (inA_none hb).elim, k⟩

theorem Tryz.c_New {h : Hp} (room files : Int) :
    CH Tryz.prog 22 #[.int .i64 room, .int .i64 files] h fun v h' =>
      ((room < 0 ∨ room > 4194304 ∨ files < 0 ∨ files > 512) ∧ v = .tuple #[.pointer none, .int .i64 1] ∧ h' = h) ∨
      (¬ (room < 0 ∨ room > 4194304 ∨ files < 0 ∨ files > 512) ∧ ∃ g, v = .tuple #[.pointer (some ⟨g.d, 0, none⟩), .int .i64 0] ∧ g.D = newA room files ∧ Tryz.DR h' g ∧ (∀ b, DB g b → h.size ≤ b) ∧ Grow h h') := by
  apply D_disk_New.sound
  unfold D_disk_New
  have key : ∀ t : Bool, (t = true ↔ (room < 0 ∨ room > 4194304 ∨ files < 0 ∨ files > 512)) → D_disk_New.J1 (fun v h' =>
      ((room < 0 ∨ room > 4194304 ∨ files < 0 ∨ files > 512) ∧ v = .tuple #[.pointer none, .int .i64 1] ∧ h' = h) ∨
      (¬ (room < 0 ∨ room > 4194304 ∨ files < 0 ∨ files > 512) ∧ ∃ g, v = .tuple #[.pointer (some ⟨g.d, 0, none⟩), .int .i64 0] ∧ g.D = newA room files ∧ Tryz.DR h' g ∧ (∀ b, DB g b → h.size ≤ b) ∧ Grow h h')) room files t h := by
    intro t ht
    unfold D_disk_New.J1
    refine ⟨fun e => .inl ⟨ht.1 e, rfl, rfl⟩, fun e => ?_⟩
    intro b5 h4 eb eh
    obtain ⟨f, g4, s4, _⟩ := boxed eb eh
    refine .inr ⟨(fun x => by rw [ht.2 x] at e; cases e), ⟨b5, none, none, none, 0, none, 0, none, 0, [], newA room files⟩, rfl, rfl, ?_, ?_, g4⟩
    · refine ⟨f, .inl ⟨rfl, rfl⟩, .inl ⟨rfl, rfl⟩, OwnS.nil _ _ _, ⟨rfl, rfl⟩, Tag.none _ _, ⟨rfl, rfl⟩, Tag.none _ _, fun p hp => (by cases hp), rfl, List.Pairwise.nil, fun b hb => by cases hb⟩
    · rintro b (rfl | hb | hb | hb | hb | hb | ⟨p, hp, hb⟩)
      · exact s4
      · cases hb
      · cases hb
      · exact (inA_none hb).elim
      · exact (inA_none hb).elim
      · exact (inA_none hb).elim
      · cases hp
  refine ⟨fun e => ?_, fun e => ⟨fun e1 => ?_, fun e1 => ⟨fun e2 => ?_, fun e2 => ?_⟩⟩⟩
  · exact key _ (by simp at e; simp [e])
  · exact key _ (by simp at e e1; simp [e1])
  · exact key _ (by simp at e e1 e2; simp [e2])
  · exact key _ (by simp at e e1 e2 ⊢; omega)

theorem Tryz.c_Read {h : Hp} {g : DG} {N : Nat} (r : Tryz.DR h g) (ok : g.D.ok N) (hN : N < 1073741824) (s : ByteArray) :
    CH Tryz.prog 18 #[.pointer (some ⟨g.d, 0, none⟩), .string s] h fun v h' => ∃ A n c, v = .tuple #[.slice A n c, .int .i64 (g.D.readA s).1.2] ∧ BS h' A n (g.D.readA s).1.1 ∧ Tag h' A 5 ∧ (∀ b, inA A b → h.size ≤ b) ∧ (A = none → n = 0) ∧ Tryz.GoesV (inA A) h g (g.D.readA s).2 h' := by
  apply D_disk_Disk_Read.sound
  unfold D_disk_Disk_Read
  have none_ : ∀ (h' : Hp) (e : Int) (D' : DiskA), g.D.readA s = (([], e), D') → Tryz.Goes h g D' h' → ∃ A n c, (Value.tuple #[.slice none 0 0, .int .i64 e]) = .tuple #[.slice A n c, .int .i64 (g.D.readA s).1.2] ∧ BS h' A n (g.D.readA s).1.1 ∧ Tag h' A 5 ∧ (∀ b, inA A b → h.size ≤ b) ∧ (A = none → n = 0) ∧ Tryz.GoesV (inA A) h g (g.D.readA s).2 h' := by
    intro h' e D' he hg
    rw [he]
    exact ⟨none, 0, 0, rfl, BS.nil _, Tag.none _ _, fun b hb => (inA_none hb).elim, fun _ => rfl, hg.none⟩
  refine ⟨fun e => Bool.noConfusion e, fun _ => ⟨_, rfl, g.D.off, (cell_add r.blk 0 10).trans rfl, fun e => ?_, fun e => ?_⟩⟩
  · exact none_ h 11 g.D (by unfold DiskA.readA; rw [if_pos e]) (Tryz.Goes.still r Kp.rfl')
  refine (Tryz.c_there' r ok (by omega) s).mono ?_
  rintro v h8 ⟨g8, p, rfl, hp⟩
  have r8 := r.g g8
  refine ⟨_, _, rfl, fun e1 => ?_, fun e1 => ?_⟩
  · have e1 : g.D.thereE s ≠ 0 := by simpa using e1
    exact none_ h8 _ g.D (by unfold DiskA.readA; rw [if_neg (by rw [e]; decide), if_pos e1]) (Tryz.Goes.still r g8)
  have e1 : g.D.thereE s = 0 := by simpa using e1
  obtain ⟨F, hF, rfl⟩ := hp e1
  refine ⟨_, (cell_add r8.blk 0 9).trans rfl, wr_add r8.blk (by simp [DG.cells]), fun h13 e13 => ?_⟩
  have hcnt := ok.cnt1
  have hw : IntKind.i64.wrap (g.D.reads + 1) = g.D.reads + 1 := w64 (by omega) (by omega)
  rw [hw] at e13
  have hb := setc_add r8.blk 0 9 (.int .i64 (g.D.reads + 1))
  have kk := Kp.setc h8 ((Addr.mk g.d 0 none).add 9) (.int .i64 (g.D.reads + 1))
  rw [← e13] at hb kk
  rw [add_block] at kk
  let g1 : DG := { g with D := { g.D with reads := g.D.reads + 1 } }
  have hb1 : h13[g.d]? = some (.cells g1.cells 104 (0, 0)) := by rw [hb]; simp [DG.cells, g1]
  have r13 : Tryz.DR h13 g1 := r8.scalar kk hb1 rfl rfl rfl rfl rfl rfl rfl rfl rfl rfl rfl rfl rfl
  refine ⟨g.rA, _, g.rc, ?_, _, (cell_add r13.blk 0 9).trans rfl, (Tryz.c_fault (g.D.reads + 1) rfl r13.pr ok.plan0.2).mono ?_⟩
  · rw [add_add]; exact (cell_add r13.blk 0 7).trans rfl
  rintro v h20 ⟨rfl, g20⟩
  have r20 := r13.g g20
  refine ⟨_, rfl, (Tryz.c_fails (g := g1) r20 _).mono ?_⟩
  rintro v h23 ⟨rfl, r23, k23⟩
  have kDB : Kp (DB g) h h23 := ((g8.kp.trans (kk.mono fun b _ hb => .inl hb)).trans g20.kp).trans (k23.mono fun b _ hb => .inl hb)
  refine ⟨_, rfl, fun e2 => ?_, fun e2 => ?_⟩
  · have e2 : failErr g.D.kindR ≠ 0 := bne_iff_ne.1 e2
    exact none_ h23 _ _ (by unfold DiskA.readA; rw [if_neg (by rw [e]; decide), if_neg (by rw [e1]; simp), if_pos e2]; rfl) ⟨{ g1 with D := DiskA.failed g1.D g.D.kindR }, rfl, rfl, r23, fun b hb => .inl hb, kDB⟩
  have e2 : failErr g.D.kindR = 0 := by have := bne_eq_false_iff_eq.1 e2; exact this
  obtain ⟨hfd, hfm⟩ := fileD_eq r ok hF
  have hlen : F.f.lens.2 ≤ 4194304 := ok.lens hfm
  have hpd : F.f.pend.length ≤ N := ok.pend _ hfm
  refine (Tryz.c_bytes (r23.fr _ hF) (by show F.f.pend.length ≤ _; omega) (by show F.f.lens.2 ≤ _; omega)).mono ?_
  rintro v h27 ⟨A, n, c, rfl, oA, g27, fA⟩
  refine ⟨_, _, _, rfl, ?_⟩
  have hk : g.D.kindR ≠ 1 := fun hx => by rw [hx] at e2; exact absurd e2 (by decide)
  have hrd : g.D.readA s = ((F.f.bytes, 0), { g.D with reads := g.D.reads + 1 }) := by
    unfold DiskA.readA
    rw [if_neg (by rw [e]; decide), if_neg (by rw [e1]; simp), if_neg (by rw [e2]; simp), hfd]
  rw [hrd]
  have hl : (F.f.bytes.map bv).length = n * 1 := oA.src.len
  rw [List.length_map] at hl
  refine ⟨A, n, c, rfl, ⟨by show n = F.f.bytes.length; omega, by have := oA.src; rwa [Nat.mul_one] at this⟩, oA.tag, fun b hb => by have := fA b hb; have := kDB.size; omega, fun hx => ?_, ?_⟩
  · subst hx
    have := oA.src.2
    simp at this
    simp [this] at hl
    omega
  · have hD : DiskA.failed g1.D g.D.kindR = g1.D := by unfold DiskA.failed; simp [hk]
    exact ⟨{ g1 with D := DiskA.failed g1.D g.D.kindR }, rfl, hD, r23.g g27, fun b hb => .inl hb, fun b hb hx => by have := fA b hb; have := Tryz.DB_lt r23 b hx; omega, kDB.trans g27.kp⟩

theorem Tryz.c_List {h : Hp} {g : DG} {N : Nat} (r : Tryz.DR h g) (ok : g.D.ok N) (hN : N < 1073741824) :
    CH Tryz.prog 26 #[.pointer (some ⟨g.d, 0, none⟩)] h fun v h' => ∃ A n c, v = .tuple #[.slice A n c, .int .i64 g.D.listA.2] ∧ OwnS h' 9 1 A n c (g.D.listA.1.map sv) ∧ Grow h h' ∧ (∀ b, inA A b → h.size ≤ b) := by
  apply D_disk_Disk_List.sound
  unfold D_disk_Disk_List
  refine ⟨fun e => Bool.noConfusion e, fun _ => ⟨_, rfl, g.D.off, (cell_add r.blk 0 10).trans rfl, fun e => ?_, fun e => ?_⟩⟩
  · have : g.D.listA = ([], 11) := by unfold DiskA.listA; rw [if_pos e]
    rw [this]
    exact ⟨none, 0, 0, rfl, OwnS.nil _ _ _, Kp.rfl', fun b hb => (inA_none hb).elim⟩
  have : g.D.listA = (g.D.now.map (·.1), 0) := by unfold DiskA.listA; rw [if_neg (by rw [e]; decide)]
  rw [this]
  refine (Tryz.c_now r ok (by omega)).mono ?_
  rintro v h8 ⟨b, rfl, hb, o, g8⟩
  have hl := namesA_length g.D.turns g.D.safe
  have hnm := ok.names
  refine ⟨_, rfl, Tryz.c_sortedKeys (.inr ⟨b, rfl, o⟩) (by show (namesA g.D.safe g.D.turns).length ≤ _; omega) fun KA Kn Kc h14 hKn oK g14 fK => ?_⟩
  have := g8.size
  refine ⟨_, _, _, rfl, KA, Kn, Kc, rfl, by rw [List.map_map]; exact oK, g8.trans g14, fun b hb => by have := fK b hb; omega⟩

/-- Where a file's number is looked up in a closure. -/
theorem Tryz.look_now {h : Hp} {g : DG} {N : Nat} (r : Tryz.DR h g) (ok : g.D.ok N) {i : Int} (hi : i ∈ g.D.lives) : ∃ F, (i, F) ∈ g.fl ∧ g.D.fileD i = F.f := by
  obtain ⟨f, h1, h2⟩ := file_mem ok hi
  obtain ⟨F, h3, rfl⟩ := fl_mem r h1
  exact ⟨F, h3, (fileD_eq r ok h3).1⟩
theorem safe_lives (D : DiskA) : ∀ p ∈ D.safe, p.2 ∈ D.lives := fun p hp => mem_ascOf.2 (List.mem_append.2 (.inl (List.mem_map.2 ⟨p, hp, rfl⟩)))

theorem Tryz.c_Files {h : Hp} {g : DG} {N : Nat} (r : Tryz.DR h g) (ok : g.D.ok N) (hN : N < 1073741824) :
    CH Tryz.prog 35 #[.pointer (some ⟨g.d, 0, none⟩)] h fun v h' => ∃ A n c, v = .slice A n c ∧ Tryz.FilesR h' (h.size ≤ ·) A n c g.D.filesA ∧ Grow h h' := by
  apply D_disk_Disk_Files.sound
  unfold D_disk_Disk_Files
  intro b2 h1 eb eh
  obtain ⟨f2, g1, s2, _⟩ := boxed eb eh
  have r1 := r.g g1
  refine ⟨_, cell1 f2, fun e => Bool.noConfusion e, fun _ => ⟨_, cell1 f2, (Tryz.c_now r1 ok (by omega)).mono ?_⟩⟩
  rintro v h9 ⟨b, rfl, hb, o, g9⟩
  have hl := namesA_length g.D.turns g.D.safe
  have hnm := ok.names
  have z1 := g1.size
  have z9 := g9.size
  refine ⟨_, rfl, (Tryz.c_told (m := g.D.now) (P := (h.size ≤ ·)) (data := fun i => (g.D.fileD i).bytes) (.inr ⟨b, rfl, o⟩) (by show (namesA g.D.safe g.D.turns).length ≤ _; omega) (fun b hb => by show h.size ≤ b; omega) ?_).mono ?_⟩
  · intro h' gg p hp
    have zg := gg.size
    have r' := (r1.g g9).g gg
    have f2' := gg.g (g9.g f2)
    refine ⟨90, Tryz.f90, _, [.pointer (some (Addr.mk b2 0 none))], rfl, Tryz.func90, rfl, Tryz.nn90, ?_⟩
    apply D_disk_Disk_Files_1.sound
    unfold D_disk_Disk_Files_1
    obtain ⟨F, hF, hfd⟩ := Tryz.look_now r' ok (now_lives g.D p hp)
    obtain ⟨_, hfm⟩ := fileD_eq r' ok hF
    have hlen : F.f.lens.2 ≤ 4194304 := ok.lens hfm
    have hpd : F.f.pend.length ≤ N := ok.pend _ hfm
    refine ⟨_, cell1 f2', _, rfl, _, (cell_add r'.blk 0 3).trans rfl, _, Tryz.look_file r' ok (by omega) hF, ?_⟩
    refine (Tryz.c_bytes (r'.fr _ hF) (by show F.f.pend.length ≤ _; omega) (by show F.f.lens.2 ≤ _; omega)).mono ?_
    rintro v h27 ⟨A, n, c, rfl, oA, g27, fA⟩
    exact ⟨_, _, _, rfl, A, n, c, rfl, by rw [hfd]; exact oA, g27, fun b hb => by have := fA b hb; show h.size ≤ b; omega⟩
  · rintro v h12 ⟨A, n, c, rfl, hq, g12⟩
    exact ⟨_, _, _, rfl, A, n, c, rfl, hq, (g1.trans g9).trans g12⟩

theorem Tryz.c_Safe {h : Hp} {g : DG} {N : Nat} (r : Tryz.DR h g) (ok : g.D.ok N) (hN : N < 1073741824) :
    CH Tryz.prog 30 #[.pointer (some ⟨g.d, 0, none⟩)] h fun v h' => ∃ A n c, v = .slice A n c ∧ Tryz.FilesR h' (h.size ≤ ·) A n c g.D.safeA ∧ Grow h h' := by
  apply D_disk_Disk_Safe.sound
  unfold D_disk_Disk_Safe
  intro b2 h1 eb eh
  obtain ⟨f2, g1, s2, _⟩ := boxed eb eh
  have r1 := r.g g1
  have hnm := ok.names
  have z1 := g1.size
  have hcs : cell h1 ((Addr.mk g.d 0 none).add 4) = some (.map g.sm) := (cell_add r1.blk 0 4).trans rfl
  refine ⟨_, cell1 f2, fun e => Bool.noConfusion e, fun _ => ⟨_, cell1 f2, _, rfl, _, hcs, (Tryz.c_told (m := g.D.safe) (P := (h.size ≤ ·)) (data := fun i => (g.D.fileD i).safe) r1.sm (by omega) (fun b hb => by show h.size ≤ b; omega) ?_).mono ?_⟩⟩
  · intro h' gg p hp
    have zg := gg.size
    have r' := r1.g gg
    have f2' := gg.g f2
    refine ⟨88, Tryz.f88, _, [.pointer (some (Addr.mk b2 0 none))], rfl, Tryz.func88, rfl, Tryz.nn88, ?_⟩
    apply D_disk_Disk_Safe_1.sound
    unfold D_disk_Disk_Safe_1
    obtain ⟨F, hF, hfd⟩ := Tryz.look_now r' ok (safe_lives g.D p hp)
    obtain ⟨_, hfm⟩ := fileD_eq r' ok hF
    have hlen : F.f.lens.2 ≤ 4194304 := ok.lens hfm
    have hsl := F.f.safe_le
    have hs := (r'.fr _ hF).safe
    refine ⟨_, cell1 f2', _, rfl, _, (cell_add r'.blk 0 3).trans rfl, _, Tryz.look_file r' ok (by omega) hF, _, rfl, _, _, _, (cell_of (r'.fr _ hF).blk 0).trans rfl, ?_⟩
    refine (Tryz.c_clone_byte hs.2 (one_bv _) (by have h1 : F.sn = F.f.safe.length := hs.1; show F.sn ≤ _; omega)).mono ?_
    rintro v h27 ⟨A, c, rfl, oA, g27, fA⟩
    exact ⟨_, _, _, rfl, A, _, c, rfl, by rw [hfd]; exact oA, g27, fun b hb => by have := fA b hb; show h.size ≤ b; omega⟩
  · rintro v h12 ⟨A, n, c, rfl, hq, g12⟩
    exact ⟨_, _, _, rfl, A, n, c, rfl, hq, g1.trans g12⟩
end Go.Proofs
set_option linter.unusedVariables false
set_option linter.unusedSimpArgs false
namespace Go.Proofs
open Go Go.V Go.Disk

theorem Tryz.c_Off {h : Hp} {g : DG} (r : Tryz.DR h g) : CH Tryz.prog 36 #[.pointer (some ⟨g.d, 0, none⟩)] h fun v h' => v = .bool g.D.off ∧ h' = h := by
  apply D_disk_Disk_Off.sound
  unfold D_disk_Disk_Off
  exact ⟨fun _ => ⟨_, rfl, g.D.off, (cell_add r.blk 0 10).trans rfl, rfl, rfl⟩, fun e => Bool.noConfusion e⟩
theorem Tryz.c_Strokes {h : Hp} {g : DG} (r : Tryz.DR h g) : CH Tryz.prog 37 #[.pointer (some ⟨g.d, 0, none⟩)] h fun v h' => v = .int .i64 g.D.strokes ∧ h' = h := by
  apply D_disk_Disk_Strokes.sound
  unfold D_disk_Disk_Strokes
  exact ⟨fun e => Bool.noConfusion e, fun _ => ⟨_, rfl, _, (cell_add r.blk 0 8).trans rfl, rfl, rfl⟩⟩
theorem Tryz.c_Reads {h : Hp} {g : DG} (r : Tryz.DR h g) : CH Tryz.prog 38 #[.pointer (some ⟨g.d, 0, none⟩)] h fun v h' => v = .int .i64 g.D.reads ∧ h' = h := by
  apply D_disk_Disk_Reads.sound
  unfold D_disk_Disk_Reads
  exact ⟨fun e => Bool.noConfusion e, fun _ => ⟨_, rfl, _, (cell_add r.blk 0 9).trans rfl, rfl, rfl⟩⟩
theorem lives_is {h : Hp} {A : Option Addr} {n c : Nat} {l : List Int} (hn : n = l.length) (o : OwnS h 3 1 A n c (l.map iv)) : IS h A n l := ⟨hn, by have := o.src; rwa [Nat.mul_one] at this⟩
theorem Tryz.c_Held {h : Hp} {g : DG} {N : Nat} (r : Tryz.DR h g) (ok : g.D.ok N) (hN : N ≤ 1073741824) :
    CH Tryz.prog 28 #[.pointer (some ⟨g.d, 0, none⟩)] h fun v h' => v = .tuple #[.int .i64 g.D.heldA.1, .int .i64 g.D.heldA.2] ∧ Grow h h' := by
  apply D_disk_Disk_Held.sound
  unfold D_disk_Disk_Held
  refine ⟨fun e => Bool.noConfusion e, fun _ => (Tryz.c_lives r ok hN).mono ?_⟩
  rintro v h3 ⟨A, n, c, rfl, hn, o, g3, f3⟩
  refine ⟨_, _, _, rfl, (Tryz.c_held (r.g g3) ok hN (lives_is hn o) (fun i hi => hi) (by have := lives_len ok; omega)).mono ?_⟩
  rintro v h6 ⟨rfl, g6⟩
  refine ⟨_, rfl, ?_, g3.trans g6⟩
  rw [heldOf_lives ok, hn]
  rfl

theorem Tryz.c_Pending {h : Hp} {g : DG} {N : Nat} (r : Tryz.DR h g) (ok : g.D.ok N) (hN : N ≤ 1073741824) :
    CH Tryz.prog 21 #[.pointer (some ⟨g.d, 0, none⟩)] h fun v h' => ∃ A n c, v = .tuple #[.int .i64 g.D.pendingA.1, .slice A n c] ∧ n = g.D.pendingA.2.length ∧ OwnS h' 3 1 A n c (g.D.pendingA.2.map iv) ∧ Grow h h' ∧ (∀ b, inA A b → h.size ≤ b) := by
  apply D_disk_Disk_Pending.sound
  unfold D_disk_Disk_Pending
  refine ⟨fun e => Bool.noConfusion e, fun _ => (Tryz.c_lives r ok hN).mono ?_⟩
  rintro v h9 ⟨LA, Ln, Lc, rfl, hLn, oL, g9, fL⟩
  have hll := lives_len ok
  have z9 := g9.size
  refine ⟨_, _, _, rfl, ⟨fun jA jn jc j h' mm => 0 ≤ j ∧ j ≤ Ln ∧ mm = Ln - j.toNat ∧ Grow h9 h' ∧ jn = j.toNat ∧ OwnS h' 3 1 jA jn jc ((g.D.pendingA.2.take j.toNat).map iv) ∧ (∀ b, inA jA b → h9.size ≤ b), ⟨Ln, by omega, by omega, by simp, Kp.rfl', rfl, OwnS.nil _ _ _, fun b hb => (inA_none hb).elim⟩, ?_⟩⟩
  rintro jA jn jc j h13 mm ⟨h0, hj, rfl, g13, hjn, oq, fq⟩
  have r13 := (r.g g9).g g13
  unfold D_disk_Disk_Pending.L2
  refine ⟨fun e => ?_, fun e => ?_⟩
  · have hlt := dec_t e
    obtain ⟨a, i, rfl, hi, hc⟩ := ((lives_is hLn oL).g g13).get h0 hlt
    obtain ⟨F, hF, hfd⟩ := Tryz.look_now r13 ok (List.mem_of_getElem? hi)
    refine ⟨a, rfl, h0, hlt, i, hc, _, rfl, _, (cell_add r13.blk 0 3).trans rfl, _, Tryz.look_file r13 ok hN hF, _, rfl, _, _, _, (cell_add (r13.fr _ hF).blk 0 1).trans rfl, ?_⟩
    have hpn := (r13.fr _ hF).pn
    intro b33 h32 eb eh
    obtain ⟨f32, g32, s32, _⟩ := boxed eb eh
    have z13 := g13.size
    have z32 := g32.size
    refine app1 (xs := [iv F.pn]) f32 rfl (one_iv [_]) (oq.kp g32 fun _ _ => id) rfl (by omega) (by omega) fun A2 c2 h8 o1 k1 e1 => ?_
    rw [inc64 h0 hlt (by omega)]
    have htake : g.D.pendingA.2.take (j.toNat + 1) = g.D.pendingA.2.take j.toNat ++ [(F.pn : Int)] := by
      rw [List.take_add_one]
      congr 1
      show (g.D.lives.map fun i => ((g.D.fileD i).pend.length : Int))[j.toNat]?.toList = _
      rw [List.getElem?_map, hi]
      simp only [Option.map_some, Option.toList_some]
      rw [hfd, ← hpn]
    refine ⟨_, ?_, by omega, by omega, rfl, (g13.trans g32).trans' k1 fun k hk hx => by have := fq k hx; omega, by omega, ?_, ?_⟩
    · rw [toNat_inc h0]; omega
    · rw [toNat_inc h0, htake, List.map_append]
      exact o1
    · intro b hb
      rcases app_in e1 b hb with hx | hx
      · exact fq b hx
      · omega
  · have hge := dec_f e
    unfold D_disk_Disk_Pending.J1
    have hlen : g.D.pendingA.2.length = g.D.lives.length := by simp [DiskA.pendingA]
    rw [List.take_of_length_le (by omega)] at oq
    exact ⟨_, rfl, _, _, _, (cell_add r13.blk 0 5).trans rfl, jA, jn, jc, rfl, by omega, oq, g9.trans g13, fun b hb => by have := fq b hb; omega⟩

theorem Tryz.c_Plan {h : Hp} {g : DG} {A B : Option Addr} {n c m d : Nat} {l q : List (Int × Int)} (r : Tryz.DR h g) (hn : n = l.length) (hm : m = q.length) (h1 : Src h (n * 2) (faultV l) A) (h2 : Src h (m * 2) (faultV q) B) (hnb : n ≤ 1099511627776) (hmb : m ≤ 1099511627776) :
    CH Tryz.prog 16 #[.pointer (some ⟨g.d, 0, none⟩), .agg #[.slice A n c, .slice B m d]] h fun v h' => v = .tuple #[] ∧ Tryz.Goes h g (g.D.planA l q) h' := by
  apply D_disk_Disk_Plan.sound
  unfold D_disk_Disk_Plan
  intro b2 h1' eb eh
  obtain ⟨f2, g2, s2, _⟩ := boxed eb eh
  refine ⟨fun e => Bool.noConfusion e, fun _ => ⟨_, _, _, (cell_of f2 0).trans rfl, _, _, _, (cell_add f2 0 1).trans rfl, (Tryz.c_clone_fault (h1.g g2) (one_faultV _) hnb).mono ?_⟩⟩
  rintro v h9 ⟨A', c', rfl, oA, g9, fA⟩
  have f9 := g9.g f2
  refine ⟨_, _, _, rfl, (cell_add f9 0 1).trans rfl, (Tryz.c_clone_fault ((h2.g g2).g g9) (one_faultV _) hmb).mono ?_⟩
  rintro v h13 ⟨B', d', rfl, oB, g13, fB⟩
  have g03 := (g2.trans g9).trans g13
  have r13 := r.g g03
  refine ⟨_, _, _, rfl, _, rfl, ?_, ?_⟩
  · intro j hj
    rw [add_add]
    exact wr_add r13.blk (by simp [DG.cells]; omega)
  intro h17 e17
  rw [add_mk] at e17
  have b17 := setRow_at (0 + 6) [.slice A' n c', .slice B' m d'] 0 _ _ r13.blk
  have k17 := setRow_kp ⟨g.d, 0 + 6, none⟩ [.slice A' n c', .slice B' m d'] 0 h13
  rw [← e17] at b17 k17
  refine ⟨wr_add b17 (by rw [over_size]; simp [DG.cells]), fun h19 e19 => ?_⟩
  have b19 := setc_add b17 0 8 (.int .i64 0)
  have k19 := Kp.setc h17 ((Addr.mk g.d 0 none).add 8) (.int .i64 0)
  rw [← e19] at b19 k19
  refine ⟨wr_add b19 (by simp [over_size, DG.cells]), fun h21 e21 => ?_⟩
  have b21 := setc_add b19 0 9 (.int .i64 0)
  have k21 := Kp.setc h19 ((Addr.mk g.d 0 none).add 9) (.int .i64 0)
  rw [← e21] at b21 k21
  rw [add_block] at k19 k21
  have k : Kp (· = g.d) h13 h21 := (k17.trans k19).trans k21
  refine ⟨rfl, ?_⟩
  have hnd := r13.ne_d
  have hgd : g.d < h.size := Tryz.DB_lt r _ (.inl rfl)
  have z2 := g2.size
  have z9 := g9.size
  have nA : ∀ b, inA A' b → ¬ b = g.d := fun b hb => by have := fA b hb; omega
  have nB : ∀ b, inA B' b → ¬ b = g.d := fun b hb => by have := fB b hb; omega
  let g' : DG := { g with sA := A', sc := c', rA := B', rc := d', D := g.D.planA l q }
  have oA13 := oA.kp g13 fun _ _ => id
  refine ⟨g', rfl, rfl, ⟨?_, r13.fm.kp k fun x hx => hnd x (.inl hx), r13.sm.kp k fun x hx => hnd x (.inr (.inl hx)), r13.turns.kp k fun x hx => hnd x (.inr (.inr (.inl hx))),
    ?_, oA13.tag.kp k nA, ?_, oB.tag.kp k nB, fun p hp => (r13.fr p hp).kp k fun x hx => hnd x (.inr (.inr (.inr (.inr (.inr ⟨p, hp, hx⟩))))), r13.eq, r13.far, r13.two⟩, ?_, g03.kp.trans (k.mono fun b _ hb => .inl hb)⟩
  · show h21[g.d]? = _
    rw [b21]
    subst hn hm
    simp [DG.cells, over, g', DiskA.planA]
  · have := (oA13.kp k nA).src
    subst hn
    exact this
  · have := (oB.kp k nB).src
    subst hm
    exact this
  · rintro b (hb | hb | hb | hb | hb | hb | hb)
    · exact .inl (.inl hb)
    · exact .inl (.inr (.inl hb))
    · exact .inl (.inr (.inr (.inl hb)))
    · exact .inl (.inr (.inr (.inr (.inl hb))))
    · exact .inr (by have := fA b hb; omega)
    · exact .inr (by have := fB b hb; omega)
    · exact .inl (.inr (.inr (.inr (.inr (.inr (.inr hb))))))
end Go.Proofs
set_option linter.unusedVariables false
set_option linter.unusedSimpArgs false
namespace Go.Disk
open Go Go.V Go.Proofs
def blankT : TurnA := ⟨ByteArray.empty, ByteArray.empty, 0⟩
def leftA (ts : List TurnA) (names : Int) (skipped : List Int) : List TurnA :=
  skipped.foldl (fun l v => l.set (roundA v (roundA names (ts.length + 1))).toNat blankT) (ts.take (roundA names (ts.length + 1)).toNat)
theorem roundA_bounds (v : Int) {n : Int} (hn : 0 < n) : 0 ≤ roundA v n ∧ roundA v n < n := ⟨Int.emod_nonneg _ (by omega), Int.emod_lt_of_pos _ hn⟩
end Go.Disk
namespace Go.Proofs
open Go Go.V Go.Disk

theorem OwnS.setK {h : Hp} {e : TypeId} {sz n c o : Nat} {a : Addr} {vs xs : List Value} (ow : OwnS h e sz (some a) n c vs) (hi : o + xs.length ≤ n * sz) :
    (∀ j, j < xs.length → Wr h ((a.add o).add j)) ∧ OwnS (setRow h (a.add o) xs 0) e sz (some a) n c (vs.take o ++ xs ++ vs.drop (o + xs.length)) ∧ Kp (inA (some a)) h (setRow h (a.add o) xs 0) := by
  obtain ⟨hlen, ⟨hx, _⟩ | ⟨g, cur, hg, hb, hn, hs, ht⟩⟩ := ow
  · cases hx
  cases hg
  have hcs : n * sz ≤ c * sz := Nat.mul_le_mul_right _ hn
  refine ⟨fun j hj => by rw [add_add]; exact wr_add hb (by omega), ⟨?_, .inr ⟨g, over cur o xs, rfl, ?_, hn, by rw [over_size]; exact hs, ?_⟩⟩, (setRow_kp _ xs 0 h).mono fun b _ e => by subst e; rw [add_block]; exact inA_some.2 rfl⟩
  · simp only [List.length_append, List.length_take, List.length_drop]; omega
  · rw [add_mk, Nat.zero_add]
    exact setRow_at o xs 0 cur h hb
  · refine List.ext_getElem? fun j => ?_
    rw [List.getElem?_take, Array.getElem?_toList, over_get]
    have hv : ∀ j, vs[j]? = if j < n * sz then cur[j]? else none := fun j => by rw [← ht, List.getElem?_take, Array.getElem?_toList]
    by_cases h1 : j < o
    · rw [List.append_assoc, List.getElem?_append_left (by rw [List.length_take]; omega), List.getElem?_take, if_pos h1, hv, if_neg (by omega : ¬ (o ≤ j ∧ j < o + xs.length ∧ j < cur.size))]
    · by_cases h2 : j < o + xs.length
      · rw [List.getElem?_append_left (by rw [List.length_append, List.length_take]; omega), List.getElem?_append_right (by rw [List.length_take]; omega), List.length_take, if_pos (by omega : j < n * sz), if_pos (by omega : o ≤ j ∧ j < o + xs.length ∧ j < cur.size)]
        congr 1
        omega
      · rw [List.getElem?_append_right (by rw [List.length_append, List.length_take]; omega), List.length_append, List.length_take, List.getElem?_drop, hv]
        have e1 : o + xs.length + (j - (min o vs.length + xs.length)) = j := by omega
        rw [e1, if_neg (by omega : ¬ (o ≤ j ∧ j < o + xs.length ∧ j < cur.size))]
theorem turnV_set (t : TurnA) : ∀ (l : List TurnA) (i : Nat), i < l.length → turnV (l.set i t) = (turnV l).take (i * 3) ++ [.string t.fr, .string t.to, .int .i64 t.file] ++ (turnV l).drop (i * 3 + 3)
  | [], i, h => by simp at h
  | x :: l, 0, _ => by simp [turnV]
  | x :: l, i + 1, h => by
    have ih := turnV_set t l i (by simpa using h)
    simp only [turnV, List.set_cons_succ, List.flatMap_cons] at ih ⊢
    rw [ih, show (i + 1) * 3 = i * 3 + 1 + 1 + 1 by omega, show i * 3 + 1 + 1 + 1 + 3 = i * 3 + 3 + 1 + 1 + 1 by omega]
    simp only [List.cons_append, List.nil_append, List.take_succ_cons, List.drop_succ_cons]

/-- What picks are. -/
structure PicksA where
  names : Int
  skipped : List Int
  files : List (Int × List Int)

theorem Tryz.c_left {h : Hp} {g : DG} {N : Nat} {sA : Option Addr} {sn sc : Nat} {fA : Option Addr} {fn fc : Nat} {names : Int} {sk : List Int} (r : Tryz.DR h g) (ok : g.D.ok N) (hN : N ≤ 1073741824) (hs : IS h sA sn sk) (hsn : sn ≤ 68719476735) :
    CH Tryz.prog 69 #[.pointer (some ⟨g.d, 0, none⟩), .agg #[.int .i64 names, .slice sA sn sc, .slice fA fn fc]] h fun v h' =>
      ∃ A n c, v = .slice A n c ∧ n = (leftA g.D.turns names sk).length ∧ OwnS h' 107 3 A n c (turnV (leftA g.D.turns names sk)) ∧ Grow h h' ∧ (∀ b, inA A b → h.size ≤ b) := by
  apply D_disk_Disk_left.sound
  unfold D_disk_Disk_left
  intro b2 h1 eb eh
  obtain ⟨f2, g1, s2, _⟩ := boxed eb eh
  have r1 := r.g g1
  have hnm := ok.names
  have z1 := g1.size
  refine ⟨_, (cell_of f2 0).trans rfl, _, rfl, _, _, _, (cell_add r1.blk 0 5).trans rfl, ?_⟩
  have hw : IntKind.i64.wrap (((g.D.turns.length : Nat) : Int) + 1) = (g.D.turns.length : Int) + 1 := w64 (by omega) (by omega)
  rw [hw]
  refine (Tryz.c_round names ((g.D.turns.length : Int) + 1) h1 (by omega) (by omega)).mono ?_
  rintro v h10 ⟨rfl, rfl⟩
  obtain ⟨n0, n1⟩ := roundA_bounds names (n := (g.D.turns.length : Int) + 1) (by omega)
  have hcap := r1.turns.le
  refine ⟨_, rfl, _, _, _, (cell_add r1.blk 0 5).trans rfl, n0, by omega, ?_⟩
  generalize hK : (roundA names ((g.D.turns.length : Int) + 1)).toNat = K
  have hKi : roundA names ((g.D.turns.length : Int) + 1) = K := by omega
  have hsrc : Src h10 (K * 3) ((turnV g.D.turns).take (K * 3)) g.tA := r1.turns.src.take (by omega)
  have htk : ∀ (l : List TurnA) (k : Nat), (turnV l).take (k * 3) = turnV (l.take k) := by
    intro l
    induction l with
    | nil => intro k; simp [turnV]
    | cons x l ih =>
      intro k
      cases k with
      | zero => simp [turnV]
      | succ k =>
        have := ih k
        simp only [turnV, List.flatMap_cons, List.take_succ_cons] at this ⊢
        rw [show (k + 1) * 3 = k * 3 + 1 + 1 + 1 by omega]
        simp only [List.cons_append, List.nil_append, List.take_succ_cons]
        rw [this]
  rw [htk] at hsrc
  refine (Tryz.c_clone_turn hsrc (one_turnV _) (by omega)).mono ?_
  rintro v h17 ⟨A, c, rfl, oA, g17, fA'⟩
  have f17 := g17.g f2
  refine ⟨_, _, _, rfl, _, _, _, (cell_add f17 0 1).trans rfl, ?_⟩
  let stp : List TurnA → Int → List TurnA := fun l v => l.set (roundA v K).toNat blankT
  have hstp : ∀ (q : List Int) (l : List TurnA), (q.foldl stp l).length = l.length := by
    intro q
    induction q with
    | nil => intro l; rfl
    | cons x q ih => intro l; rw [List.foldl_cons, ih]; simp [stp]
  have hleft : leftA g.D.turns names sk = sk.foldl stp (g.D.turns.take K) := by
    unfold leftA
    rw [hKi]
    rfl
  have hKl : (g.D.turns.take K).length = K := by rw [List.length_take]; omega
  have hsl := hs.1
  refine ⟨fun j h' mm => 0 ≤ j ∧ j ≤ sn ∧ mm = sn - j.toNat ∧ Grow h10 h' ∧ OwnS h' 107 3 A K c (turnV ((sk.take j.toNat).foldl stp (g.D.turns.take K))), ⟨sn, by omega, by omega, by simp, g17, oA⟩, ?_⟩
  rintro j h23 mm ⟨h0, hj, rfl, g23, o23⟩
  unfold D_disk_Disk_left.L2
  have hs23 := (hs.g g1).g g23
  refine ⟨fun e => ?_, fun e => ?_⟩
  · have hlt := dec_t e
    obtain ⟨a, v, rfl, hv, hc⟩ := hs23.get h0 hlt
    refine ⟨a, rfl, h0, hlt, v, hc, fun e1 => ?_, fun e1 => ?_⟩
    · have hpos : (0 : Int) < K := by have := dec_t e1; omega
      rw [hKi]
      refine (Tryz.c_round v K h23 hpos (by omega)).mono ?_
      rintro _ h35 ⟨rfl, rfl⟩
      obtain ⟨v0, v1⟩ := roundA_bounds v hpos
      obtain ⟨pa, rfl⟩ := o23.src.addr (by omega)
      have hset := OwnS.setK (o := (roundA v K).toNat * 3) (xs := [.string ByteArray.empty, .string ByteArray.empty, .int .i64 0]) o23 (by simp; omega)
      refine ⟨_, rfl, pa, rfl, v0, v1, hset.1, fun h41 e41 => ?_⟩
      rw [← e41] at hset
      unfold D_disk_Disk_left.J3
      rw [inc64 h0 hlt (by omega)]
      refine ⟨_, ?_, by omega, by omega, rfl, g23.trans' hset.2.2 fun k hk hx => by have := fA' k hx; omega, ?_⟩
      · rw [toNat_inc h0]; omega
      · rw [toNat_inc h0, List.take_add_one, hv, List.foldl_append]
        have hlen : (roundA v K).toNat < ((sk.take j.toNat).foldl stp (g.D.turns.take K)).length := by rw [hstp, hKl]; omega
        have := hset.2.1
        rw [show (roundA v K).toNat * 3 + ([Value.string ByteArray.empty, .string ByteArray.empty, .int .i64 0] : List Value).length = (roundA v K).toNat * 3 + 3 from rfl] at this
        have e2 := turnV_set blankT _ _ hlen
        simp only [blankT] at e2
        rw [← e2] at this
        exact this
    · have hz : K = 0 := by have := dec_f e1; omega
      unfold D_disk_Disk_left.J3
      rw [inc64 h0 hlt (by omega)]
      refine ⟨_, ?_, by omega, by omega, rfl, g23, ?_⟩
      · rw [toNat_inc h0]; omega
      · rw [toNat_inc h0, List.take_add_one, hv, List.foldl_append]
        have hnil : (sk.take j.toNat).foldl stp (g.D.turns.take K) = [] := by
          refine List.eq_nil_of_length_eq_zero ?_
          rw [hstp, hKl, hz]
        rw [hnil] at o23 ⊢
        exact o23
  · have hge := dec_f e
    unfold D_disk_Disk_left.J1
    have hall : sk.take j.toNat = sk := List.take_of_length_le (by omega)
    rw [hall] at o23
    refine ⟨A, _, c, rfl, ?_, ?_, g1.trans g23, fun b hb => by have := fA' b hb; omega⟩
    · rw [hleft, hstp, hKl]
    · rw [hleft]; exact o23
end Go.Proofs
set_option linter.unusedVariables false
set_option linter.unusedSimpArgs false
/-! DD: what a crash does, plain. -/
namespace Go.Disk
open Go Go.V Go.Proofs

def pickAt (pf : List (Int × List Int)) (k : Nat) : Int × List Int := pf[k]?.getD (0, [])
def doneA (f : FileA) (v : Int) : Nat := (roundA v ((f.pend.length : Int) + 1)).toNat
def wholeF (f : FileA) (pk : Int × List Int) : List UInt8 := (f.row (doneA f pk.1)).map (·.1)
def lostF (f : FileA) (pk : Int × List Int) : List UInt8 := (loseA (f.row (doneA f pk.1)) pk.2).map (·.1)
def crashF (l : List (Int × FileA)) (pf : List (Int × List Int)) (j : Nat) : List (Int × FileA) := l.mapIdx fun k p => if k < j then (p.1, ⟨lostF p.2 (pickAt pf k), []⟩) else p
def wholesA (l : List (Int × FileA)) (pf : List (Int × List Int)) : List (Int × List UInt8) := l.mapIdx fun k p => (p.1, wholeF p.2 (pickAt pf k))
def wholeOf (l : List (Int × FileA)) (pf : List (Int × List Int)) (i : Int) : List UInt8 := (((wholesA l pf).find? fun p => p.1 == i).map (·.2)).getD []
def DiskA.crashN (D : DiskA) (pf : List (Int × List Int)) (j : Nat) : DiskA := { D with files := crashF D.files pf j }
def DiskA.crashA (D : DiskA) (P : PicksA) : DiskA :=
  DiskA.planA { (D.crashN P.files D.files.length).settleA (namesA D.safe (leftA D.turns P.names P.skipped)) with off := false } [] []
def DiskA.crashT (D : DiskA) (P : PicksA) : List (List UInt8 × List UInt8) := (D.crashA P).safe.map fun p => (p.1, wholeOf D.files P.files p.2)

theorem doneA_le (f : FileA) (v : Int) : doneA f v ≤ f.pend.length := by
  have := roundA_bounds v (n := (f.pend.length : Int) + 1) (by omega)
  unfold doneA
  omega
theorem loseA_length (r : Rw) (l : List Int) : (loseA r l).length = r.length := by
  unfold loseA
  split
  · rfl
  · have : ∀ (l : List Int) (q : Rw), (l.foldl (fun r v => loseAt r (sectorsOf r.length) v) q).length = q.length := by
      intro l
      induction l with
      | nil => intro q; rfl
      | cons x l ih => intro q; rw [List.foldl_cons, ih, loseAt_length]
    exact this l r
theorem sumA_append (a b : List (Int × FileA)) : sumA (a ++ b) = sumA a + sumA b := by
  induction a with
  | nil => simp [sumA]
  | cons x a ih => simp only [List.cons_append, sumA, ih]; omega
theorem sumA_set {l : List (Int × FileA)} (hp : l.Pairwise fun p q => p.1 < q.1) {i : Int} {f f' : FileA} (h : (i, f) ∈ l) : sumA (l.map fun p => if p.1 = i then (p.1, f') else p) + f.lens.2 = sumA l + f'.lens.2 := by
  induction l with
  | nil => cases h
  | cons q l ih =>
    have hq := List.pairwise_cons.1 hp
    simp only [List.map_cons, sumA]
    rcases List.mem_cons.1 h with h3 | h3
    · have hrest : (l.map fun p => if p.1 = i then (p.1, f') else p) = l := by
        conv => rhs; rw [← List.map_id l]
        refine List.map_congr_left fun p hpm => ?_
        have := hq.1 p hpm
        rw [← h3] at this
        rw [if_neg (by simp at this; omega)]
        rfl
      rw [hrest, ← h3]
      simp
      omega
    · have := hq.1 _ h3
      rw [if_neg (by simp at this; omega)]
      have := ih hq.2 h3
      omega
theorem setF_ids (D : DiskA) (i : Int) (f : FileA) : (D.setF i f).files.map (·.1) = D.files.map (·.1) := by
  unfold DiskA.setF
  rw [List.map_map]
  refine List.map_congr_left fun p _ => ?_
  simp only [Function.comp]
  split <;> rfl
theorem ok_setF {N : Nat} {D : DiskA} (ok : D.ok N) {i : Int} {f f' : FileA} (hf : (i, f) ∈ D.files) (h1 : f'.ok) (h2 : f'.pend.length ≤ N) (h3 : (D.held : Int) - f.lens.2 + f'.lens.2 ≤ D.room) : (D.setF i f').ok N := by
  have hmem : ∀ p ∈ (D.setF i f').files, (p.2 = f' ∧ p.1 = i) ∨ p ∈ D.files := by
    intro p hp
    obtain ⟨q, hq, rfl⟩ := List.mem_map.1 hp
    by_cases e : q.1 = i
    · rw [if_pos e]; exact .inl ⟨rfl, e⟩
    · rw [if_neg e]; exact .inr hq
  refine ⟨ok.room0, ok.room1, ok.most0, ok.most1, ok.made0, ok.made1, (setF_ids D i f').trans ok.ids, fun p hp => ?_, ?_, fun p hp => ?_, fun p hp => ?_, ok.names, ok.short, ok.safeN, ok.cnt0, ok.cnt1, ok.plan0⟩
  · rcases hmem p hp with ⟨_, e⟩ | hx
    · rw [e]; exact ok.rng _ hf
    · exact ok.rng p hx
  · have := sumA_set (asc_files ok) (f' := f') hf
    show ((sumA (D.setF i f').files : Nat) : Int) ≤ D.room
    have h4 : sumA (D.setF i f').files + f.lens.2 = sumA D.files + f'.lens.2 := this
    unfold DiskA.held at h3
    omega
  · rcases hmem p hp with ⟨e, _⟩ | hx
    · rw [e]; exact h1
    · exact ok.fok p hx
  · rcases hmem p hp with ⟨e, _⟩ | hx
    · rw [e]; exact h2
    · exact ok.pend p hx
/-- A file of safe bytes alone. -/
theorem lens_safe (l : List UInt8) : (FileA.mk l []).lens = (l.length, l.length) := rfl
theorem ok_setSafe {N : Nat} {D : DiskA} (ok : D.ok N) {i : Int} {f : FileA} (hf : (i, f) ∈ D.files) {l : List UInt8} (hl : l.length ≤ f.lens.2) : (D.setF i ⟨l, []⟩).ok N := by
  refine ok_setF ok hf trivial (Nat.zero_le _) ?_
  rw [lens_safe]
  have := ok.held
  simp only
  omega
theorem crashF_zero (l : List (Int × FileA)) (pf : List (Int × List Int)) : crashF l pf 0 = l := by
  refine List.ext_getElem? fun i => ?_
  unfold crashF
  rw [List.getElem?_mapIdx]
  cases l[i]? <;> simp
theorem crashF_get (l : List (Int × FileA)) (pf : List (Int × List Int)) (j i : Nat) : (crashF l pf j)[i]? = l[i]?.map fun p => if i < j then (p.1, ⟨lostF p.2 (pickAt pf i), []⟩) else p := by
  unfold crashF
  rw [List.getElem?_mapIdx]
theorem asc_get {l : List (Int × FileA)} (hp : l.Pairwise fun p q => p.1 < q.1) {i j : Nat} {p q : Int × FileA} (hi : l[i]? = some p) (hj : l[j]? = some q) (e : p.1 = q.1) : i = j := by
  obtain ⟨hi', rfl⟩ := List.getElem?_eq_some_iff.1 hi
  obtain ⟨hj', rfl⟩ := List.getElem?_eq_some_iff.1 hj
  rw [List.pairwise_iff_getElem] at hp
  rcases Nat.lt_trichotomy i j with h | h | h
  · have := hp i j hi' hj' h; omega
  · exact h
  · have := hp j i hj' hi' h; omega
theorem crashN_succ {D : DiskA} (hp : D.files.Pairwise fun p q => p.1 < q.1) {pf : List (Int × List Int)} {j : Nat} {p : Int × FileA} (hj : D.files[j]? = some p) : (D.crashN pf j).setF p.1 ⟨lostF p.2 (pickAt pf j), []⟩ = D.crashN pf (j + 1) := by
  unfold DiskA.setF DiskA.crashN
  congr 1
  refine List.ext_getElem? fun i => ?_
  rw [List.getElem?_map, crashF_get, crashF_get]
  cases hi : D.files[i]? with
  | none => rfl
  | some q =>
    simp only [Option.map_some, Option.some.injEq]
    by_cases hij : i = j
    · subst hij
      rw [hi] at hj
      cases hj
      rw [if_neg (by omega : ¬ i < i), if_pos rfl, if_pos (by omega)]
    · have hne : q.1 ≠ p.1 := fun e => hij (asc_get hp hi hj e)
      have : (i < j + 1) = (i < j) := by rw [eq_iff_iff]; omega
      simp only [this]
      by_cases h : i < j
      · rw [if_pos h, if_neg hne]
      · rw [if_neg h, if_neg hne]
theorem crashN_mem {D : DiskA} {pf : List (Int × List Int)} {j : Nat} {p : Int × FileA} (hj : D.files[j]? = some p) : p ∈ (D.crashN pf j).files := by
  refine List.mem_of_getElem? (i := j) ?_
  show (crashF D.files pf j)[j]? = some p
  rw [crashF_get, hj]
  simp
theorem wholesA_get (l : List (Int × FileA)) (pf : List (Int × List Int)) (i : Nat) : (wholesA l pf)[i]? = l[i]?.map fun p => (p.1, wholeF p.2 (pickAt pf i)) := by
  unfold wholesA
  rw [List.getElem?_mapIdx]
theorem wholesA_length (l : List (Int × FileA)) (pf : List (Int × List Int)) : (wholesA l pf).length = l.length := by simp [wholesA]
theorem lost_le {f : FileA} (h : f.ok) (pk : Int × List Int) : (lostF f pk).length ≤ f.lens.2 := by
  unfold lostF
  rw [List.length_map, loseA_length]
  exact FileA.row_le h _
theorem leftA_mem {ts : List TurnA} {n : Int} {sk : List Int} {t : TurnA} (h : t ∈ leftA ts n sk) : t ∈ ts ∨ t = blankT := by
  unfold leftA at h
  have : ∀ (sk : List Int) (l : List TurnA), (∀ t ∈ l, t ∈ ts ∨ t = blankT) → t ∈ sk.foldl (fun l v => l.set (roundA v (roundA n (ts.length + 1))).toNat blankT) l → t ∈ ts ∨ t = blankT := by
    intro sk
    induction sk with
    | nil => intro l hl ht; exact hl t ht
    | cons v sk ih =>
      intro l hl ht
      refine ih _ (fun t ht => ?_) ht
      rcases List.mem_or_eq_of_mem_set ht with h | h
      · exact hl t h
      · exact .inr h
  exact this sk _ (fun t ht => .inl (List.mem_of_mem_take ht)) h
theorem leftA_length (ts : List TurnA) (n : Int) (sk : List Int) : (leftA ts n sk).length ≤ ts.length := by
  unfold leftA
  have : ∀ (sk : List Int) (l : List TurnA), (sk.foldl (fun l v => l.set (roundA v (roundA n (ts.length + 1))).toNat blankT) l).length = l.length := by
    intro sk
    induction sk with
    | nil => intro l; rfl
    | cons v sk ih => intro l; rw [List.foldl_cons, ih]; simp
  rw [this, List.length_take]
  omega
end Go.Disk
set_option linter.unusedVariables false
set_option linter.unusedSimpArgs false
namespace Go.Proofs
open Go Go.V Go.Disk

abbrev PkV := Int × Option Addr × Nat × Nat
def pickV (q : List PkV) : List Value := q.flatMap fun x => [.int .i64 x.1, .slice x.2.1 x.2.2.1 x.2.2.2]
theorem pickV_get {q : List PkV} {i : Nat} (hi : i < q.length) : (pickV q)[i * 2]? = some (.int .i64 q[i].1) ∧ (pickV q)[i * 2 + 1]? = some (.slice q[i].2.1 q[i].2.2.1 q[i].2.2.2) := by
  induction q generalizing i with
  | nil => simp at hi
  | cons p l ih =>
    cases i with
    | zero => simp [pickV]
    | succ i =>
      have := ih (i := i) (by simpa using hi)
      simp only [pickV, List.flatMap_cons, List.getElem_cons_succ] at this ⊢
      rw [show (i + 1) * 2 = i * 2 + 2 by omega]
      simpa using this
def Tryz.PickR (h : Hp) (S : Nat → Prop) (x : PkV) (y : Int × List Int) : Prop := x.1 = y.1 ∧ IS h x.2.1 x.2.2.1 y.2 ∧ (∀ b, inA x.2.1 b → S b) ∧ x.2.2.1 ≤ 68719476735
/-- Picks as they lie, in blocks of which something is so. -/
structure Tryz.PicksR (h : Hp) (S : Nat → Prop) (sA : Option Addr) (sn : Nat) (fA : Option Addr) (fn : Nat) (P : PicksA) : Prop where
  sk : IS h sA sn P.skipped
  skS : ∀ b, inA sA b → S b
  skn : sn ≤ 68719476735
  fs : ∃ q : List PkV, fn = q.length ∧ Src h (fn * 2) (pickV q) fA ∧ (∀ b, inA fA b → S b) ∧ All2 (Tryz.PickR h S) q P.files
theorem Tryz.PicksR.kp {W S : Nat → Prop} {h h' : Hp} {sA : Option Addr} {sn : Nat} {fA : Option Addr} {fn : Nat} {P : PicksA} (o : Tryz.PicksR h S sA sn fA fn P) (k : Kp W h h') (hn : ∀ b, S b → ¬ W b) : Tryz.PicksR h' S sA sn fA fn P := by
  obtain ⟨h1, h2, h3, q, h4, h5, h6, h7⟩ := o
  exact ⟨h1.kp k fun b hb => hn b (h2 b hb), h2, h3, q, h4, h5.kp k fun b hb => hn b (h6 b hb), h6, forall2_imp h7 fun x hx y r => ⟨r.1, r.2.1.kp k fun b hb => hn b (r.2.2.1 b hb), r.2.2⟩⟩
theorem Tryz.PicksR.mono {S S' : Nat → Prop} {h : Hp} {sA : Option Addr} {sn : Nat} {fA : Option Addr} {fn : Nat} {P : PicksA} (o : Tryz.PicksR h S sA sn fA fn P) (hn : ∀ b, S b → S' b) : Tryz.PicksR h S' sA sn fA fn P := by
  obtain ⟨h1, h2, h3, q, h4, h5, h6, h7⟩ := o
  exact ⟨h1, fun b hb => hn b (h2 b hb), h3, q, h4, h5, fun b hb => hn b (h6 b hb), forall2_imp h7 fun x hx y r => ⟨r.1, r.2.1, fun b hb => hn b (r.2.2.1 b hb), r.2.2.2⟩⟩

theorem Tryz.z22 : zeroIs Tryz.prog 22 (.slice none 0 0) := Inf.zeroIs Tryz.i22
/-- What a crash keeps as it was read. -/
def Tryz.WhR (h : Hp) (S : Nat → Prop) (x : Int × Value) (y : Int × List UInt8) : Prop := x.1 = y.1 ∧ ∃ A n c, x.2 = .slice A n c ∧ OwnS h 5 1 A n c (y.2.map bv) ∧ ∀ b, inA A b → S b
theorem Tryz.WhR.kp {W S S' : Nat → Prop} {h h' : Hp} {x : Int × Value} {y : Int × List UInt8} (o : Tryz.WhR h S x y) (k : Kp W h h') (hn : ∀ b, S b → b < h.size → ¬ W b) (hS : ∀ b, S b → b < h.size → S' b) : Tryz.WhR h' S' x y := by
  obtain ⟨e, A, n, c, e2, o, hb⟩ := o
  exact ⟨e, A, n, c, e2, o.kp k fun b hx => hn b (hb b hx) (o.lt b hx), fun b hx => hS b (hb b hx) (o.lt b hx)⟩

/-- The loop of Crash: where it stands behind j files. -/
structure Tryz.CrashAt (h0 hB : Hp) (g : DG) (N : Nat) (b5 : Nat) (pf : List (Int × List Int)) (j : Nat) (h : Hp) (g' : DG) (W : Im) : Prop where
  d : g'.d = g.d
  D : g'.D = g.D.crashN pf j
  r : Tryz.DR h g'
  ok : g'.D.ok N
  bl : ∀ b, DB g' b → DB g b ∨ hB.size ≤ b
  k : Kp (fun b => DB g b ∨ b = b5) hB h
  w : ImAt false Tryz.prog 3 h b5 W
  wh : All2 (Tryz.WhR h fun b => h0.size ≤ b ∧ ¬ DB g' b ∧ b ≠ b5) W ((wholesA g.D.files pf).take j)

theorem all2_fst {R : Int × Value → Int × List UInt8 → Prop} (hR : ∀ x y, R x y → x.1 = y.1) : ∀ {l : List (Int × Value)} {m : List (Int × List UInt8)}, All2 R l m → l.map (·.1) = m.map (·.1)
  | [], [], _ => rfl
  | a :: l, b :: m, h => by simp only [List.map_cons]; rw [hR _ _ h.1, all2_fst hR h.2]

/-- One file of a crash. -/
theorem Tryz.crash_J3 {h0 hB h : Hp} {g g' : DG} {N b5 b7 b50 : Nat} {P : PicksA} {j : Nat} {W : Im} {i : Int} {f : FileA} {done : Int} {lA : Option Addr} {ln lc : Nat} {lost : List Int} {C : Int → Hp → Prop} {R : Value → Hp → Prop}
    (c : Tryz.CrashAt h0 hB g N b5 P.files j h g' W) (hN : N ≤ 1073741824) (hi : g.D.files[j]? = some (i, f)) (hasc : g.D.files.Pairwise fun p q => p.1 < q.1) (h0B : h0.size ≤ hB.size) (hgB : ∀ b, DB g b → b < h0.size)
    (f7 : h[b7]? = some (.cells #[.map (some b5)] 125 (0, 0))) (n7 : ¬ DB g b7) (l7 : b7 < hB.size) (n5 : ¬ DB g b5) (l5 : b5 < hB.size) (g5 : h0.size ≤ b5)
    (f50 : h[b50]? = some (.cells #[.int .i64 done, .slice lA ln lc] 59 (0, 0))) (g50 : hB.size ≤ b50) (n50 : ¬ DB g' b50)
    (hl : IS h lA ln lost) (hlS : ∀ b, inA lA b → b < hB.size ∧ ¬ DB g b ∧ b ≠ b5) (hln : ln ≤ 68719476735) (hpk : pickAt P.files j = (done, lost)) (hj : j < 1073741824)
    (hC : ∀ h' g2 W2, Tryz.CrashAt h0 hB g N b5 P.files (j + 1) h' g2 W2 → C (j + 1) h') :
    D_disk_Disk_Crash.J3 R C (some ⟨g'.d, 0, none⟩) b7 j i b50 h := by
  have hfm : (i, f) ∈ g'.D.files := by rw [c.D]; exact crashN_mem hi
  obtain ⟨F, hF, rfl⟩ := fl_mem c.r hfm
  have rF := c.r.fr _ hF
  have hlen : F.f.lens.2 ≤ 4194304 := c.ok.lens hfm
  have hpd : F.f.pend.length ≤ N := c.ok.pend _ hfm
  have hrng := c.ok.rng _ hfm
  have hmade := c.ok.made1
  have hpn : F.pn = F.f.pend.length := rF.pn
  have zB := c.k.size
  have n5' : ¬ DB g' b5 := fun hx => (c.bl _ hx).elim n5 fun hx => by omega
  have n7' : ¬ DB g' b7 := fun hx => (c.bl _ hx).elim n7 fun hx => by omega
  have h57 : b7 ≠ b5 := fun e => by
    subst e
    obtain ⟨es, cl, hm⟩ := MapOn.isMap c.w
    rw [hm] at f7; cases f7
  unfold D_disk_Disk_Crash.J3
  refine ⟨_, rfl, _, (cell_add c.r.blk 0 3).trans rfl, _, Tryz.look_file c.r c.ok hN hF, _, (cell_of f50 0).trans rfl, _, rfl, _, _, _, (cell_add rF.blk 0 1).trans rfl, ?_⟩
  have hw : IntKind.i64.wrap (((F.pn : Nat) : Int) + 1) = (F.f.pend.length : Int) + 1 := by rw [hpn]; exact w64 (by omega) (by omega)
  rw [hw]
  refine (Tryz.c_round done ((F.f.pend.length : Int) + 1) h (by omega) (by omega)).mono ?_
  rintro _ h65 ⟨rfl, rfl⟩
  have hd : roundA done ((F.f.pend.length : Int) + 1) = ((doneA F.f done : Nat) : Int) := by
    have := roundA_bounds done (n := (F.f.pend.length : Int) + 1) (by omega)
    unfold doneA
    omega
  have hdl := doneA_le F.f done
  refine ⟨_, rfl, _, cell1 f7, ?_⟩
  rw [hd]
  refine (Tryz.c_row rF hdl (by show F.f.pend.length ≤ _; omega) (by show F.f.lens.2 ≤ _; omega)).mono ?_
  rintro v h70 ⟨A1, n1, c1, B1, m1, d1, rfl, R1, g70, fA1, fB1⟩
  have hWl := forall2_len c.wh
  have hjl : j < (wholesA g.D.files P.files).length := by rw [wholesA_length]; exact (List.getElem?_eq_some_iff.1 hi).1
  rw [List.length_take] at hWl
  have hfst := all2_fst (fun x y (r : Tryz.WhR h65 (fun b => h0.size ≤ b ∧ ¬ DB g' b ∧ b ≠ b5) x y) => r.1) c.wh
  have hbig : ∀ p ∈ W, p.1 < i := by
    intro p hp
    have h1 : p.1 ∈ (W.map (·.1)) := List.mem_map.2 ⟨p, hp, rfl⟩
    rw [hfst] at h1
    obtain ⟨y, hy, e⟩ := List.mem_map.1 h1
    obtain ⟨k, hk, hyk⟩ := List.mem_take_iff_getElem.1 hy
    have hk' : (wholesA g.D.files P.files)[k]? = some y := by rw [← hyk]; exact List.getElem?_eq_getElem _
    rw [wholesA_get] at hk'
    cases hq : g.D.files[k]? with
    | none => rw [hq] at hk'; cases hk'
    | some q =>
      rw [hq] at hk'
      cases hk'
      obtain ⟨hk1, e1⟩ := List.getElem?_eq_some_iff.1 hq
      obtain ⟨hj1, e2⟩ := List.getElem?_eq_some_iff.1 hi
      have := List.pairwise_iff_getElem.1 hasc k j hk1 hj1 (by omega)
      rw [e1, e2] at this
      rw [← e]
      exact this
  refine ⟨_, _, _, _, _, _, rfl, cell1 (g70.g f7), _, ImAt.put Tryz.underlying3 Tryz.underlying125 (MapOn.kp c.w g70 id) (by unfold maxLen; omega) (wf64 (by omega) (by omega)) hbig (v := .slice A1 n1 c1) rfl, ?_⟩
  rintro h73 ⟨w73, k73⟩
  have z70 := g70.size
  have z73 := k73.size
  have f50' := k73.at (g70.g f50) (by show ¬ b50 = b5; omega)
  have f7' := k73.at (g70.g f7) (by show ¬ b7 = b5; exact h57)
  have r73 : Tryz.DR h73 g' := (c.r.g g70).kp k73 fun b hb e => by have e : b = b5 := e; subst e; exact n5' hb
  refine ⟨_, _, _, (cell_add f50' 0 1).trans rfl, ?_⟩
  refine (Tryz.c_row (r73.fr _ hF) hdl (by show F.f.pend.length ≤ _; omega) (by show F.f.lens.2 ≤ _; omega)).mono ?_
  rintro v h78 ⟨A2, n2, c2, B2, m2, d2, rfl, R2, g78, fA2, fB2⟩
  have z78 := g78.size
  have hl78 : IS h78 lA ln lost := ((hl.g g70).kp k73 fun b hb e => (hlS b hb).2.2 e).g g78
  have hrl : (F.f.row (doneA F.f done)).length ≤ 4194304 := Nat.le_trans (FileA.row_le rF.ok _) hlen
  refine ⟨_, _, _, _, _, _, rfl, (cell_add (g78.g f50') 0 1).trans rfl, ?_⟩
  refine (Tryz.c_lose R2 hl78 (fun b hb hx => by have := (hlS b hb).1; have := fA2 b hx; omega) (by show (F.f.row (doneA F.f done)).length ≤ _; omega) hln).mono ?_
  rintro v h82 ⟨rfl, R3, k82⟩
  have r78 := r73.g g78
  have lt78 := Tryz.DB_lt r73
  have r82 : Tryz.DR h82 g' := r78.kp k82 fun b hb hx => by have := lt78 b hb; have := fA2 b hx; omega
  have rF82 := r82.fr _ hF
  have b82 := rF82.blk
  simp only at b82
  have w84 : Wr h82 (Addr.mk F.p 0 none) := wr_of b82 (by simp)
  refine ⟨_, _, _, _, _, _, rfl, w84, fun h84 e84 => ?_⟩
  have b84 := setc_at b82 0 (.slice A2 n2 c2)
  have k84 := Kp.setc h82 ⟨F.p, 0, none⟩ (.slice A2 n2 c2)
  rw [← e84] at b84 k84
  refine ⟨wr_add b84 (by simp), fun h86 e86 => ?_⟩
  have b86 := setc_add b84 0 1 (.slice none 0 0)
  have k86 := Kp.setc h84 ((Addr.mk F.p 0 none).add 1) (.slice none 0 0)
  rw [← e86] at b86 k86
  rw [add_block] at k86
  have k8 : Kp (· = F.p) h82 h86 := k84.trans k86
  have z82 := k82.size
  have z86 := k8.size
  have hFp : DB g' F.p := .inr (.inr (.inr (.inr (.inr (.inr ⟨_, hF, .inl rfl⟩)))))
  have ltF := Tryz.DB_lt c.r _ hFp
  let L := lostF F.f (done, lost)
  let F' : FG := { F with sA := A2, sn := n2, sc := c2, pA := none, pn := 0, pc := 0, vs := [], f := ⟨L, []⟩ }
  have hL : L.map bv = (loseA (F.f.row (doneA F.f done)) lost).map rb := by show ((loseA (F.f.row (doneA F.f done)) lost).map (·.1)).map bv = _; rw [List.map_map]; rfl
  have nA2 : ∀ b, inA A2 b → ¬ b = F.p := fun b hb e => by have := fA2 b hb; omega
  have oA2 : OwnS h86 5 1 A2 n2 c2 (L.map bv) := by rw [hL]; exact R3.1.kp k8 nA2
  have hn2 : n2 = L.length := by have := oA2.src.len; rw [List.length_map] at this; omega
  have rF' : Tryz.FR h86 F' := by
    refine ⟨?_, ⟨hn2, by have := oA2.src; rwa [Nat.mul_one] at this⟩, oA2.tag, OwnS.nil _ _ _, trivial, trivial⟩
    show h86[F.p]? = _
    rw [b86]; simp [F']
  obtain ⟨rr, bb, kk⟩ := Tryz.DR.file2 r82 c.ok hF (F' := F') rfl (fun b hb => (inA_none hb).elim) rF' (k8.mono fun b _ hb => .inl hb)
  have hDB2 : ∀ b, DB { g' with fl := flSet g'.fl i F', D := g'.D.setF i F'.f } b → DB g' b ∨ h73.size ≤ b := by
    intro b hb
    rcases bb b hb with hx | hx | hx | hx | ⟨v, hv, _⟩
    · exact .inl hx
    · exact .inl (by have hx : b = F.p := hx; rw [hx]; exact hFp)
    · exact .inr (fA2 b hx)
    · exact (inA_none hx).elim
    · cases hv
  have kall : Kp (fun b => b = b5 ∨ DB g' b) h65 h86 := by
    refine (((g70.kp.trans (k73.mono fun b _ e => .inl e)).trans g78.kp).trans' k82 fun k hk hx => ?_).trans (k8.mono fun b _ e => by have e : b = F.p := e; subst e; exact .inr hFp)
    have := fA2 k hx; omega
  have hstep := crashN_succ hasc (pf := P.files) hi
  rw [hpk] at hstep
  have hDn : g'.D.setF i F'.f = g.D.crashN P.files (j + 1) := by rw [c.D]; exact hstep
  have hwj : IntKind.i64.wrap ((j : Int) + 1) = (j : Int) + 1 := w64 (by omega) (by omega)
  rw [hwj]
  refine hC h86 { g' with fl := flSet g'.fl i F', D := g'.D.setF i F'.f } (W ++ [(i, .slice A1 n1 c1)]) ⟨c.d, hDn, rr, ?_, fun b hb => ?_, ?_, ?_, ?_⟩
  · exact ok_setSafe c.ok hfm (lost_le rF.ok _)
  · rcases hDB2 b hb with hx | hx
    · exact c.bl b hx
    · exact .inr (by omega)
  · refine c.k.trans' kall fun k hk hx => ?_
    rcases hx with hx | hx
    · exact .inr hx
    · exact (c.bl k hx).elim .inl fun hx => by omega
  · refine MapOn.kp (MapOn.kp (MapOn.kp w73 g78 id) k82 fun hx => by have := fA2 b5 hx; omega) k8 fun e => ?_
    have e : b5 = F.p := e
    exact n5' (by rw [e]; exact hFp)
  · have htake : (wholesA g.D.files P.files).take (j + 1) = (wholesA g.D.files P.files).take j ++ [(i, wholeF F.f (done, lost))] := by
      rw [List.take_add_one, wholesA_get, hi]
      simp only [Option.map_some, Option.toList_some, hpk]
    rw [htake]
    refine forall2_append (forall2_imp c.wh fun x _ y hxy => hxy.kp kall (fun b hb hlt hx => ?q1) fun b hb hlt => ⟨hb.1, fun hx => ?q2, hb.2.2⟩) ⟨⟨rfl, A1, n1, c1, rfl, ?q3, fun b hb => ⟨?q4, fun hx => ?q5, ?q6⟩⟩, trivial⟩
    case q1 =>
      rcases hx with hx | hx
      · exact hb.2.2 hx
      · exact hb.2.1 hx
    case q2 =>
      rcases hDB2 b hx with hx | hx
      · exact hb.2.1 hx
      · omega
    case q3 =>
      have e1 : ((wholeF F.f (done, lost)).map bv) = (F.f.row (doneA F.f done)).map rb := by show ((F.f.row (doneA F.f done)).map (·.1)).map bv = _; rw [List.map_map]; rfl
      show OwnS h86 5 1 A1 n1 c1 ((wholeF F.f (done, lost)).map bv)
      rw [e1]
      have l1 := R1.1.lt
      exact (((R1.1.kp k73 fun b hb e => by have e : b = b5 := e; have := fA1 b hb; omega).kp g78 fun _ _ => id).kp k82 fun b hb hx => by have := fA2 b hx; have := l1 b hb; omega).kp k8 fun b hb e => by have e : b = F.p := e; have := fA1 b hb; omega
    case q4 => have := fA1 b hb; omega
    case q6 => have := fA1 b hb; omega
    case q5 =>
      have h1 := fA1 b hb
      have h2 := R1.1.lt b hb
      rcases hDB2 b hx with hx | hx
      · have := Tryz.DB_lt c.r b hx; omega
      · omega
end Go.Proofs
set_option linter.unusedVariables false
set_option linter.unusedSimpArgs false
namespace Go.Proofs
open Go Go.V Go.Disk

theorem ids_get' {l : List (Int × List UInt8)} (hp : l.Pairwise fun p q => p.1 < q.1) {i : Int} {f : List UInt8} (h : (i, f) ∈ l) : (l.find? fun p => p.1 == i) = some (i, f) := by
  induction l with
  | nil => cases h
  | cons q l ih =>
    have hq := List.pairwise_cons.1 hp
    rw [List.find?_cons]
    rcases List.mem_cons.1 h with rfl | h
    · simp
    · have := hq.1 _ h
      have hne : (q.1 == i) = false := by simp at this ⊢; omega
      rw [hne]
      exact ih hq.2 h
theorem all2_find {R : Int × Value → Int × List UInt8 → Prop} (hR : ∀ x y, R x y → x.1 = y.1) {i : Int} : ∀ {l : List (Int × Value)} {m : List (Int × List UInt8)}, All2 R l m → (∃ p ∈ m, p.1 = i) → ∃ x y, l.find? (fun p => p.1 == i) = some x ∧ m.find? (fun p => p.1 == i) = some y ∧ R x y
  | [], [], _, ⟨p, hp, _⟩ => by cases hp
  | a :: l, b :: m, h, hx => by
    have e := hR _ _ h.1
    by_cases hb : b.1 = i
    · have ha : a.1 = i := e.trans hb
      exact ⟨a, b, by rw [List.find?_cons]; simp [ha], by rw [List.find?_cons]; simp [hb], h.1⟩
    · have ha : ¬ a.1 = i := fun x => hb (e.symm.trans x)
      obtain ⟨p, hp, hpi⟩ := hx
      rcases List.mem_cons.1 hp with rfl | hp
      · exact absurd hpi hb
      obtain ⟨x, y, h1, h2, h3⟩ := all2_find hR h.2 ⟨p, hp, hpi⟩
      exact ⟨x, y, by rw [List.find?_cons, show (a.1 == i) = false by simp [ha]]; exact h1, by rw [List.find?_cons, show (b.1 == i) = false by simp [hb]]; exact h2, h3⟩
theorem wholesA_fst (l : List (Int × FileA)) (pf : List (Int × List Int)) : (wholesA l pf).map (·.1) = l.map (·.1) := by
  refine List.ext_getElem? fun i => ?_
  rw [List.getElem?_map, wholesA_get, List.getElem?_map]
  cases l[i]? <;> rfl
theorem crash_lives (D : DiskA) (n : Int) (sk : List Int) : ∀ p ∈ namesA D.safe (leftA D.turns n sk), p.2 ∈ D.lives := by
  intro p hp
  refine mem_ascOf.2 (List.mem_append.2 ?_)
  rcases mem_names hp with h | h
  · exact .inl h
  · right
    unfold turnIds at h ⊢
    obtain ⟨t, ht, e⟩ := List.mem_map.1 h
    obtain ⟨ht1, ht2⟩ := List.mem_filter.1 ht
    rcases leftA_mem ht1 with hx | rfl
    · exact List.mem_map.2 ⟨t, List.mem_filter.2 ⟨hx, ht2⟩, e⟩
    · exact absurd ht2 (by unfold TurnA.has blankT; show ¬ ((!(ByteArray.empty.toList == ByteArray.empty.toList)) = true); simp)

/-- What a crash answers, and how the disk goes on. -/
def Tryz.Crashed (h : Hp) (g : DG) (P : PicksA) (v : Value) (h' : Hp) : Prop :=
  ∃ g', g'.d = g.d ∧ g'.D = g.D.crashA P ∧ Tryz.DR h' g' ∧ (∀ b, DB g' b → DB g b ∨ h.size ≤ b) ∧ Kp (DB g) h h' ∧
    ∃ A n c, v = .slice A n c ∧ Tryz.FilesR h' (fun b => h.size ≤ b ∧ ¬ DB g' b) A n c (g.D.crashT P)

theorem Tryz.c_Crash {h : Hp} {g : DG} {N : Nat} {sA : Option Addr} {sn sc : Nat} {fA : Option Addr} {fn fc : Nat} {P : PicksA} (r : Tryz.DR h g) (ok : g.D.ok N) (hN : N < 1073741824)
    (hP : Tryz.PicksR h (fun b => b < h.size ∧ ¬ DB g b) sA sn fA fn P) (hfn : fn ≤ 1073741824) :
    CH Tryz.prog 20 #[.pointer (some ⟨g.d, 0, none⟩), .agg #[.int .i64 P.names, .slice sA sn sc, .slice fA fn fc]] h (Tryz.Crashed h g P) := by
  apply D_disk_Disk_Crash.sound
  unfold D_disk_Disk_Crash
  intro b2 h1 eb2 eh1
  obtain ⟨f2, g1, s2, _⟩ := boxed eb2 eh1
  refine ⟨fun e => Bool.noConfusion e, fun _ b5 h4 eb5 eh4 b7 h6 eb7 eh6 => ?_⟩
  obtain ⟨f5, g4, s5, _⟩ := boxed eb5 eh4
  obtain ⟨f7, g6, s7, _⟩ := boxed eb7 eh6
  refine ⟨wr_of f7 (by simp), fun h8 e8 => ?_⟩
  obtain ⟨f7', k8⟩ := set1 f7 e8
  have z1 := g1.size
  have z4 := g4.size
  have z6 := g6.size
  have z8 := k8.size
  have l2 := lt_of_some f2
  have l5 := lt_of_some f5
  have l7 := lt_of_some f7
  have g08 : Grow h h8 := Kp.new ((g1.trans g4).trans g6) k8 (by omega)
  have p2 := k8.at (g6.g (g4.g f2)) (by show ¬ b2 = b7; omega)
  have p5 := k8.at (g6.g f5) (by show ¬ b5 = b7; omega)
  have r8 := r.g g08
  have lt := Tryz.DB_lt r
  refine (Tryz.c_lives r8 ok (by omega)).mono ?_
  rintro v h37 ⟨LA, Ln, Lc, rfl, hLn, oL, g37, fL⟩
  have z37 := g37.size
  have hll := lives_len ok
  have g037 := g08.trans g37
  have r37 := r8.g g37
  have hasc := asc_files ok
  have hfl : g.D.files.length = Ln := by rw [hLn, ← ok.ids, List.length_map]
  have w4 : ImAt false Tryz.prog 3 h4 b5 [] := by rw [eb5, eh4]; exact MapOn.made (H := Value) Tryz.prog 3 (heldR false) h1
  have w37 : ImAt false Tryz.prog 3 h37 b5 [] := MapOn.kp (MapOn.kp (MapOn.kp w4 g6 id) k8 (by show ¬ b5 = b7; omega)) g37 id
  have hb5h : b5 = h1.size := eb5
  refine ⟨_, _, _, rfl, fun j h' mm => 0 ≤ j ∧ j ≤ Ln ∧ mm = Ln - j.toNat ∧ ∃ g' W, Tryz.CrashAt h h37 g N b5 P.files j.toNat h' g' W, ⟨Ln, by omega, by omega, by simp, g, [], rfl, ?_, r37, ok, fun b hb => .inl hb, Kp.rfl', w37, ?_⟩, ?_⟩
  · show g.D = { g.D with files := crashF g.D.files P.files 0 }
    rw [crashF_zero]
  · simp [All2]
  rintro j h40 mm ⟨h0, hj, rfl, g', W, c⟩
  have zB := c.k.size
  have n5 : ¬ DB g b5 := fun hx => by have := lt _ hx; omega
  have n7 : ¬ DB g b7 := fun hx => by have := lt _ hx; omega
  have n2 : ¬ DB g b2 := fun hx => by have := lt _ hx; omega
  have f7a := c.k.at (g37.g f7') (fun hx => hx.elim n7 fun hx => by omega)
  have f2a := c.k.at (g37.g p2) (fun hx => hx.elim n2 fun hx => by omega)
  have P40 : Tryz.PicksR h40 (fun b => b < h.size ∧ ¬ DB g b) sA sn fA fn P := (hP.kp g037 fun _ _ => id).kp c.k fun b hb hx => hx.elim hb.2 fun hx => by have := hb.1; omega
  unfold D_disk_Disk_Crash.L2
  refine ⟨fun e => ?_, fun e => ?_⟩
  · have hlt := dec_t e
    have oL40 := oL.kp c.k fun b hb hx => hx.elim (fun hx => by have := fL b hb; have := lt b hx; omega) fun hx => by have := fL b hb; omega
    obtain ⟨a, i, rfl, hi, hc⟩ := (lives_is hLn oL40).get h0 hlt
    have hfi : ∃ f, g.D.files[j.toNat]? = some (i, f) := by
      have h1 : (g.D.files.map (·.1))[j.toNat]? = some i := by rw [ok.ids]; exact hi
      rw [List.getElem?_map] at h1
      cases hq : g.D.files[j.toNat]? with
      | none => rw [hq] at h1; cases h1
      | some q => rw [hq] at h1; cases h1; exact ⟨q.2, rfl⟩
    obtain ⟨f, hfi⟩ := hfi
    refine ⟨a, rfl, h0, hlt, i, hc, fun b50 h49 eb eh => ?_⟩
    obtain ⟨f50, g49, s50, _⟩ := boxed eb eh
    have f2b := g49.g f2a
    have f7b := g49.g f7a
    have c49 : Tryz.CrashAt h h37 g N b5 P.files j.toNat h49 g' W := ⟨c.d, c.D, c.r.g g49, c.ok, c.bl, c.k.trans g49.kp, MapOn.kp c.w g49 id, forall2_imp c.wh fun x _ y hxy => hxy.kp g49 (fun _ _ _ => id) fun b hb _ => hb⟩
    have P49 := P40.kp g49 fun _ _ => id
    have lt40 := Tryz.DB_lt c.r
    obtain ⟨q, hq, hqs40, hqS, hqA⟩ := P40.fs
    have hqs := hqs40.kp g49 fun _ _ => id
    let C : Int → Hp → Prop := fun j39 h40 => ∃ m1, m1 < Ln - j.toNat ∧ (0 ≤ j39 ∧ j39 ≤ Ln ∧ m1 = Ln - j39.toNat ∧ ∃ g' W, Tryz.CrashAt h h37 g N b5 P.files j39.toNat h40 g' W)
    have hql := forall2_len hqA
    have hC : ∀ h' g2 W2, Tryz.CrashAt h h37 g N b5 P.files (j.toNat + 1) h' g2 W2 → C ((j.toNat : Int) + 1) h' := by
      intro h' g2 W2 c2
      have e1 : ((j.toNat : Int) + 1).toNat = j.toNat + 1 := by omega
      exact ⟨_, by rw [e1]; omega, by omega, by omega, rfl, g2, W2, by rw [e1]; exact c2⟩
    have ejj : j = (j.toNat : Int) := by omega
    refine ⟨_, _, _, (cell_add f2b 0 2).trans rfl, fun e1 => ⟨_, _, _, (cell_add f2b 0 2).trans rfl, ?_⟩, fun e1 => ?_⟩
    · have hjf : j.toNat < q.length := by have := dec_t e1; omega
      obtain ⟨pa, rfl⟩ := hqs.addr (by omega)
      obtain ⟨x, y, hx, hy, hxy⟩ := forall2_get hqA hjf
      obtain ⟨hx', rfl⟩ := List.getElem?_eq_some_iff.1 hx
      obtain ⟨q0, q1⟩ := pickV_get hjf
      refine ⟨pa, rfl, h0, dec_t e1, q[j.toNat].1, q[j.toNat].2.1, q[j.toNat].2.2.1, q[j.toNat].2.2.2, ?_, boxRow_wr eb eh rfl, fun h107 e107 => ?_⟩
      · intro k v hv
        rw [add_add]
        rcases k with _ | _ | k
        · cases hv; exact hqs.get q0
        · cases hv; exact hqs.get q1
        · simp at hv
      obtain ⟨f50', g107, s107, _⟩ := boxRow eb eh e107 rfl
      have P107 := P40.kp g107 fun _ _ => id
      have c107 : Tryz.CrashAt h h37 g N b5 P.files j.toNat h107 g' W := ⟨c.d, c.D, c.r.g g107, c.ok, c.bl, c.k.trans g107.kp, MapOn.kp c.w g107 id, forall2_imp c.wh fun x _ y hxy => hxy.kp g107 (fun _ _ _ => id) fun b hb _ => hb⟩
      have hpk : pickAt P.files j.toNat = (q[j.toNat].1, y.2) := by
        unfold pickAt
        rw [hy, hxy.1]
        rfl
      have hpl : ∀ b, inA q[j.toNat].2.1 b → b < h37.size ∧ ¬ DB g b ∧ b ≠ b5 := fun b hb => by
        have := hxy.2.2.1 b hb
        exact ⟨by omega, this.2, by omega⟩
      have := Tryz.crash_J3 (C := C) (R := Tryz.Crashed h g P) (b50 := b50) c107 (by omega) hfi hasc (by omega) lt (g107.g f7a) n7 (by omega) n5 (by omega) (by omega) f50' (by omega) (fun hx => by have := lt40 _ hx; omega) (hxy.2.1.kp g107 fun _ _ => id) hpl hxy.2.2.2 hpk (by omega) hC
      rw [c.d, ← ejj] at this
      exact this
    · have hjf : P.files[j.toNat]? = none := by
        rw [List.getElem?_eq_none_iff]
        have := dec_f e1
        omega
      have hpk : pickAt P.files j.toNat = (0, []) := by unfold pickAt; rw [hjf]; rfl
      have := Tryz.crash_J3 (C := C) (R := Tryz.Crashed h g P) (b50 := b50) c49 (by omega) hfi hasc (by omega) lt f7b n7 (by omega) n5 (by omega) (by omega) f50 (by omega) (fun hx => by have := lt40 _ hx; omega) (IS.nil _) (fun b hb => (inA_none hb).elim) (by omega) hpk (by omega) hC
      rw [c.d, ← ejj] at this
      exact this
  · have hge := dec_f e
    unfold D_disk_Disk_Crash.J1
    have hjn : j.toNat = g.D.files.length := by omega
    rw [hjn] at c
    have hcd := c.d
    have hcD := c.D
    refine ⟨P.names, sA, sn, sc, fA, fn, fc, row_all f2a, ?_⟩
    rw [← hcd]
    refine (Tryz.c_left (names := P.names) c.r c.ok (by omega) P40.sk P40.skn).mono ?_
    rintro v h14 ⟨A, n, cc, rfl, hn, oA, g14, fA14⟩
    have r14 := c.r.g g14
    have hts : g'.D.turns = g.D.turns := by rw [hcD]; rfl
    have hsf : g'.D.safe = g.D.safe := by rw [hcD]; rfl
    have hlen := leftA_length g'.D.turns P.names P.skipped
    have hnm := c.ok.names
    have hmade := c.ok.made1
    refine ⟨_, _, _, rfl, (Tryz.c_names ((cell_of r14.blk 4).trans rfl) r14.sm hn oA.src (by omega) ?_).mono ?_⟩
    · intro t ht
      rcases leftA_mem ht with hx | rfl
      · have := c.ok.short t hx
        unfold maxLen
        exact ⟨by omega, by omega, this.2.2.1, by omega⟩
      · exact ⟨Nat.zero_le _, Nat.zero_le _, by decide, by decide⟩
    rintro v h17 ⟨b, rfl, hb, o17, g17⟩
    have r17 := r14.g g17
    have z14 := g14.size
    have z17 := g17.size
    have lt40 := Tryz.DB_lt c.r
    have hnl := namesA_length (leftA g'.D.turns P.names P.skipped) g'.D.safe
    refine ⟨_, rfl, (Tryz.c_settle (g0 := g') (h0 := h14) r17 o17 (fun hx => by have := lt40 b hx; omega) hb rfl g17.kp (fun b hb => .inl hb) (by omega)).mono ?_⟩
    rintro v h20 ⟨_, g2, hd2, hD2, r20, bl20, k20⟩
    have b20 : h20[g'.d]? = some (.cells g2.cells 104 (0, 0)) := by rw [← hd2]; exact r20.blk
    refine ⟨_, rfl, wr_add b20 (by simp [DG.cells]), fun h23 e23 => ?_⟩
    have b23 := setc_add b20 0 10 (.bool false)
    have k23 := Kp.setc h20 ((Addr.mk g'.d 0 none).add 10) (.bool false)
    rw [← e23] at b23 k23
    rw [add_block] at k23
    let g3 : DG := { g2 with D := { g2.D with off := false } }
    have r23 : Tryz.DR h23 g3 := by
      have k23' : Kp (· = g2.d) h20 h23 := by rw [hd2]; exact k23
      refine r20.scalar k23' ?_ rfl rfl rfl rfl rfl rfl rfl rfl rfl rfl rfl rfl rfl
      rw [hd2, b23]
      simp [DG.cells, g3]
    have hd3 : g3.d = g'.d := hd2
    rw [← hd3]
    refine (Tryz.c_Plan (l := []) (q := []) (c := 0) (d := 0) r23 rfl rfl (show Src h23 (0 * 2) (faultV []) none from ⟨rfl, rfl⟩) (show Src h23 (0 * 2) (faultV []) none from ⟨rfl, rfl⟩) (Nat.zero_le _) (Nat.zero_le _)).mono ?_
    rintro v h26 ⟨_, g4, hd4, hD4, r26, bl26, k26⟩
    have z20 := k20.size
    have z23 := k23.size
    have z26 := k26.size
    have hbl3 : ∀ b, DB g3 b → DB g' b ∨ h14.size ≤ b := fun b hb => bl20 b hb
    have hbl4 : ∀ b, DB g4 b → DB g' b ∨ h14.size ≤ b := fun b hb => (bl26 b hb).elim (hbl3 b) fun hx => .inr (by omega)
    have kk : Kp (DB g') h40 h26 := ((g14.kp.trans k20).trans (k23.mono fun b _ e => .inl e)).trans' k26 fun k hk hx => (hbl3 k hx).elim id fun hx => by omega
    have n5' : ¬ DB g' b5 := fun hx => (c.bl _ hx).elim n5 fun hx => by omega
    have n7' : ¬ DB g' b7 := fun hx => (c.bl _ hx).elim n7 fun hx => by omega
    have f7c := kk.at f7a n7'
    have w26 := MapOn.kp c.w kk n5'
    let S : Nat → Prop := fun b => h.size ≤ b ∧ ¬ DB g4 b
    have wh26 : All2 (Tryz.WhR h26 S) W (wholesA g.D.files P.files) := by
      have := forall2_imp (S := Tryz.WhR h26 S) c.wh fun x _ y hxy => hxy.kp kk (fun b hb _ hx => hb.2.1 hx) fun b hb hlt => ⟨hb.1, fun hx => (hbl4 b hx).elim hb.2.1 fun hx => by omega⟩
      rwa [List.take_of_length_le (by rw [wholesA_length]; omega)] at this
    have hD4' : g4.D = g.D.crashA P := by rw [hD4]; show DiskA.planA { g2.D with off := false } [] [] = _; rw [hD2, hcD]; rfl
    have hs4 : g4.D.safe = namesA g.D.safe (leftA g.D.turns P.names P.skipped) := by rw [hD4']; rfl
    have b26 : h26[g3.d]? = some (.cells g4.cells 104 (0, 0)) := by rw [← hd4]; exact r26.blk
    have hlen2 := leftA_length g.D.turns P.names P.skipped
    have hnl2 := namesA_length (leftA g.D.turns P.names P.skipped) g.D.safe
    have hnm2 := ok.names
    have lt26 := Tryz.DB_lt r26
    refine ⟨_, (cell_add b26 0 4).trans rfl, (Tryz.c_told (P := S) (m := g4.D.safe) (data := fun i => wholeOf g.D.files P.files i) r26.sm (by rw [hs4]; omega) (fun b hb => ⟨by omega, fun hx => by have := lt26 b hx; omega⟩) ?_).mono ?_⟩
    · intro h' gg p hp
      refine ⟨71, Tryz.f71, _, [.pointer (some (Addr.mk b7 0 none))], rfl, Tryz.func71, rfl, Tryz.nn71, ?_⟩
      apply D_disk_Disk_Crash_1.sound
      unfold D_disk_Disk_Crash_1
      rw [hs4] at hp
      have hlv := crash_lives g.D P.names P.skipped p hp
      obtain ⟨f, hf1, _⟩ := file_mem ok hlv
      have hrg := ok.rng _ hf1
      have hmd := ok.made1
      have hin : ∃ y ∈ wholesA g.D.files P.files, y.1 = p.2 := by
        have : p.2 ∈ (wholesA g.D.files P.files).map (·.1) := by rw [wholesA_fst, ok.ids]; exact hlv
        obtain ⟨y, hy, e⟩ := List.mem_map.1 this
        exact ⟨y, hy, e⟩
      obtain ⟨x, y, hx, hy, hxy⟩ := all2_find (fun x y (r : Tryz.WhR h26 S x y) => r.1) wh26 hin
      obtain ⟨exy, A, n, cc, e2, o, hS⟩ := hxy
      have hget : Im.get W p.2 = some (.slice A n cc) := by unfold Im.get; rw [hx, ← e2]; rfl
      have hlk := ImAt.look Tryz.underlying3 Tryz.underlying125 (MapOn.kp w26 gg id) Tryz.z22 (i := p.2) (wf64 (by simp only at hrg; omega) (by simp only at hrg; omega))
      rw [hget] at hlk
      refine ⟨_, cell1 (gg.g f7c), A, n, cc, hlk, A, n, cc, rfl, ?_, Kp.rfl', hS⟩
      have : wholeOf g.D.files P.files p.2 = y.2 := by unfold wholeOf; rw [hy]; rfl
      rw [this]
      exact o.kp gg fun _ _ => id
    · rintro v h30 ⟨A, n, cc, rfl, hfr, g30⟩
      refine ⟨_, _, _, rfl, g4, hd4.trans (hd2.trans hcd), hD4', r26.g g30, fun b hb => ?_, ?_, A, n, cc, rfl, ?_⟩
      · rcases hbl4 b hb with hx | hx
        · exact (c.bl b hx).imp id fun hx => by omega
        · exact .inr (by omega)
      · have k40 : Kp (DB g) h h40 := g037.kp.trans' c.k fun k hk hx => hx.elim id fun hx => by omega
        exact (k40.trans' kk fun k hk hx => (c.bl k hx).elim id fun hx => by omega).trans g30.kp
      · have : (g4.D.safe.map fun p => (p.1, wholeOf g.D.files P.files p.2)) = g.D.crashT P := by unfold DiskA.crashT; rw [hD4']
        rw [← this]
        exact hfr
end Go.Proofs
set_option linter.unusedVariables false
set_option linter.unusedSimpArgs false
/-! DE: each call keeps what is always so. -/
namespace Go.Disk
open Go Go.V Go.Proofs

theorem ok_mono {N M : Nat} {D : DiskA} (ok : D.ok N) (h : N ≤ M) : D.ok M := by
  have h1 := ok.made1
  have h2 := ok.names
  have h3 := ok.cnt0
  have h4 := ok.cnt1
  exact ⟨ok.room0, ok.room1, ok.most0, ok.most1, ok.made0, by omega, ok.ids, ok.rng, ok.held, ok.fok, fun p hp => Nat.le_trans (ok.pend p hp) h, by omega, ok.short, ok.safeN, ⟨h3.1, by omega⟩, ⟨h4.1, by omega⟩, ok.plan0⟩

theorem list_lt_of {a b : List UInt8} (h : ¬ a < b) (hne : a ≠ b) : b < a := by
  have h1 : b ≤ a := List.not_lt.1 h
  exact Std.lt_of_le_of_ne h1 (fun e => hne e.symm)
theorem ok_del {m : Nm} (h : m.ok) (k : List UInt8) : (m.del k).ok := List.Pairwise.filter _ h
theorem ok_ins {x : List UInt8 × Int} : ∀ {m : Nm}, m.ok → (∀ p ∈ m, p.1 ≠ x.1) → (Nm.ins x m).ok
  | [], _, _ => List.pairwise_singleton _ _
  | y :: r, h, hne => by
    have hp := List.pairwise_cons.1 h
    unfold Nm.ins
    by_cases hb : bytesBefore x.1 y.1 = true
    · rw [if_pos hb]
      have hlt := (bytesBefore_lt _ _).1 hb
      refine List.pairwise_cons.2 ⟨fun q hq => ?_, h⟩
      rcases List.mem_cons.1 hq with rfl | hq
      · exact hlt
      · exact Std.lt_trans hlt (hp.1 q hq)
    · rw [if_neg hb]
      have hlt : y.1 < x.1 := list_lt_of (fun h => hb ((bytesBefore_lt _ _).2 h)) fun e => hne y List.mem_cons_self e.symm
      refine List.pairwise_cons.2 ⟨fun q hq => ?_, ok_ins hp.2 fun p hp => hne p (List.mem_cons_of_mem _ hp)⟩
      rcases mem_ins.1 hq with rfl | hq
      · exact hlt
      · exact hp.1 q hq
theorem ok_put {m : Nm} (h : m.ok) (k : List UInt8) (v : Int) : (m.put k v).ok := ok_ins (ok_del h k) fun p hp => (mem_del.1 hp).2
theorem ok_names {ts : List TurnA} : ∀ {m : Nm}, m.ok → (namesA m ts).ok := by
  induction ts with
  | nil => intro m h; exact h
  | cons t ts ih =>
    intro m h
    refine ih (m := t.doN m) ?_
    unfold TurnA.doN
    split
    · exact ok_put (ok_del h _) _ _
    · exact ok_del h _

theorem ba_loop (s : ByteArray) : ∀ (k i : Nat) (r : List UInt8), s.size - i = k → ByteArray.toList.loop s i r = r.reverse ++ s.data.toList.drop i := by
  intro k
  induction k with
  | zero =>
    intro i r hk
    unfold ByteArray.toList.loop
    have h : ¬ i < s.size := by omega
    rw [if_neg h, List.drop_of_length_le (by rw [Array.length_toList]; exact Nat.le_of_not_lt h), List.append_nil]
  | succ k ih =>
    intro i r hk
    unfold ByteArray.toList.loop
    have h : i < s.size := by omega
    rw [if_pos h, ih (i + 1) _ (by omega)]
    have hl : i < s.data.toList.length := by rw [Array.length_toList]; exact h
    rw [List.drop_eq_getElem_cons hl, List.reverse_cons, List.append_assoc]
    congr 2
    simp only [List.singleton_append, List.cons.injEq, and_true]
    have hl' : i < s.data.size := h
    rw [Array.getElem_toList]
    exact getElem!_pos s.data i hl'
/-- A text's bytes, in two words. -/
theorem ba_toList (s : ByteArray) : s.toList = s.data.toList := by
  unfold ByteArray.toList
  rw [ba_loop s _ 0 [] rfl]
  simp
theorem has_eq (t : TurnA) : t.has = !(bl t.to == []) := by
  unfold TurnA.has bl
  rw [ba_toList, ba_toList]

theorem idOf_mem {N : Nat} {D : DiskA} (ok : D.ok N) {s : ByteArray} (h : D.thereE s = 0) : D.idOf s ∈ D.lives ∧ ∃ f, (D.idOf s, f) ∈ D.files ∧ D.fileD (D.idOf s) = f := by
  obtain ⟨t1, t2, t3⟩ := there_spec D s
  have hn : namedA s = true := by
    cases hb : namedA s with
    | true => rfl
    | false => rw [t1 hb] at h; cases h
  have hg : ∃ i, D.now.get (bl s) = some i := by
    cases hg : D.now.get (bl s) with
    | none => rw [t2 hn hg] at h; cases h
    | some i => exact ⟨i, rfl⟩
  obtain ⟨i, hg⟩ := hg
  obtain ⟨_, e⟩ := t3 i hn hg
  have hl := now_lives D _ (Nm.mem_of_get hg)
  rw [e]
  refine ⟨hl, ?_⟩
  obtain ⟨f, h1, h2⟩ := file_mem ok hl
  exact ⟨f, h1, by unfold DiskA.fileD; rw [h2]; rfl⟩
theorem lens_add (f : FileA) (c : Chg) : (FileA.mk f.safe (f.pend ++ [c])).lens = (c.len f.lens.1, max f.lens.2 (c.len f.lens.1)) := by
  unfold FileA.lens
  rw [lensFrom_append]
  rfl
theorem ok_add {f : FileA} (h : f.ok) {c : Chg} (hc : c.ok f.lens.1) : (FileA.mk f.safe (f.pend ++ [c])).ok := by
  unfold FileA.ok
  rw [okFrom_append _ _ _ f.safe.length]
  exact ⟨h, hc, trivial⟩
theorem ok_lay {N : Nat} {D : DiskA} (ok : D.ok N) {i : Int} {f : FileA} (hf : (i, f) ∈ D.files) (hfd : D.fileD i = f) (l : List UInt8) : (D.layA i l).2.ok (N + 1) := by
  unfold DiskA.layA
  split
  · exact ok_mono ok (by omega)
  split
  · exact ok_mono ok (by omega)
  rename_i h1 h2
  rw [hfd] at h2 ⊢
  have hp := ok.pend _ hf
  have hle := f.lens_le
  refine ok_setF (ok_mono ok (Nat.le_succ N)) hf (ok_add (ok.fok _ hf) trivial) (by simp at hp ⊢; omega) ?_
  rw [lens_add]
  simp only [Chg.len]
  omega
theorem ok_append {N : Nat} {D : DiskA} (ok : D.ok N) (s : ByteArray) (l : List UInt8) : (D.appendA s l).2.ok (N + 2) := by
  unfold DiskA.appendA
  split
  · exact ok_mono ok (by omega)
  split
  · exact ok_mono ok (by omega)
  rename_i h0 h1
  have h1 : D.thereE s = 0 := by omega
  obtain ⟨_, f, hf, hfd⟩ := idOf_mem ok h1
  have okS := ok_struck ok
  split
  · show DiskA.ok (N + 2) (if D.kind = 5 then _ else _)
    split
    · exact ok_lay okS hf hfd _
    · exact ok_mono okS (by omega)
  · exact ok_lay okS hf hfd _
theorem ok_trunc {N : Nat} {D : DiskA} (ok : D.ok N) (s : ByteArray) (size : Int) : (D.truncA s size).2.ok (N + 2) := by
  unfold DiskA.truncA
  split
  · exact ok_mono ok (by omega)
  split
  · exact ok_mono ok (by omega)
  rename_i h0 h1
  have h1 : D.thereE s = 0 := by omega
  obtain ⟨_, f, hf, hfd⟩ := idOf_mem ok h1
  have okS := ok_struck ok
  rw [hfd]
  split
  · exact ok_mono ok (by omega)
  split
  · exact ok_mono okS (by omega)
  split
  · rename_i h2 _ _
    have hp := ok.pend _ hf
    have hle := f.lens_le
    have hh := ok.held
    refine ok_setF (ok_mono okS (by omega)) (f := f) hf (ok_add (ok.fok _ hf) (by show size.toNat ≤ f.lens.1; omega)) (by simp at hp ⊢; omega) ?_
    rw [lens_add]
    simp only [Chg.len]
    show (D.held : Int) - _ + _ ≤ D.room
    omega
  · exact ok_mono okS (by omega)
theorem ok_sync {N : Nat} {D : DiskA} (ok : D.ok N) (s : ByteArray) : (D.syncA s).2.ok (N + 1) := by
  unfold DiskA.syncA
  split
  · exact ok_mono ok (by omega)
  split
  · exact ok_mono ok (by omega)
  rename_i h0 h1
  have h1 : D.thereE s = 0 := by omega
  obtain ⟨_, f, hf, hfd⟩ := idOf_mem ok h1
  have okS := ok_struck ok
  rw [hfd]
  split
  · show DiskA.ok (N + 1) (if D.kind = 4 then _ else _)
    split
    · exact ok_setSafe okS (f := f) hf f.safe_le
    · exact okS
  · exact ok_setSafe okS (f := f) hf (by rw [FileA.bytes_length (ok.fok _ hf)]; exact f.lens_le)
/-- All names settled anew. -/
theorem ok_settle {N : Nat} {D : DiskA} (ok : D.ok N) {m : Nm} (hm : m.ok) (hl : ∀ p ∈ m, p.2 ∈ D.lives) (hlen : m.length ≤ N) : (D.settleA m).ok N := by
  have hids : (D.settleA m).files.map (·.1) = livesA m [] := by
    have h1 : Asc ((D.settleA m).files.map (·.1)) := by
      unfold Asc
      rw [List.pairwise_map]
      exact List.Pairwise.filter _ (asc_files ok)
    refine h1.ext (ascOf_asc _) fun x => ?_
    unfold DiskA.settleA
    simp only [List.mem_map, List.mem_filter, List.contains_iff_mem]
    refine ⟨?_, fun hx => ?_⟩
    · rintro ⟨p, ⟨_, hp⟩, rfl⟩; exact hp
    · have hx2 := hx
      unfold livesA at hx2
      rw [mem_ascOf] at hx2
      simp [turnIds] at hx2
      obtain ⟨k, hk⟩ := hx2
      have := hl _ hk
      rw [← ok.ids] at this
      obtain ⟨p, hp, e⟩ := List.mem_map.1 this
      exact ⟨p, ⟨hp, by rw [e]; exact hx⟩, e⟩
  have hsub : ∀ p ∈ (D.settleA m).files, p ∈ D.files := fun p hp => (List.mem_filter.1 hp).1
  have hsum : ∀ l : List (Int × FileA), ∀ q : Int × FileA → Bool, sumA (l.filter q) ≤ sumA l := by
    intro l q
    induction l with
    | nil => exact Nat.le_refl _
    | cons x l ih =>
      rw [List.filter_cons]
      split
      · simp only [sumA]; omega
      · simp only [sumA]; omega
  refine ⟨ok.room0, ok.room1, ok.most0, ok.most1, ok.made0, ok.made1, hids, fun p hp => ok.rng p (hsub p hp), ?_, fun p hp => ok.fok p (hsub p hp), fun p hp => ok.pend p (hsub p hp), ?_, (fun t ht => by cases ht), hm, ok.cnt0, ok.cnt1, ok.plan0⟩
  · have h1 := hsum D.files fun p => (livesA m []).contains p.1
    have h2 := ok.held
    show ((sumA (D.files.filter fun p => (livesA m []).contains p.1) : Nat) : Int) ≤ D.room
    unfold DiskA.held at h2
    omega
  · show m.length + 0 ≤ N
    omega
theorem now_len {N : Nat} {D : DiskA} (ok : D.ok N) : D.now.length ≤ N := Nat.le_trans (namesA_length _ _) ok.names
theorem ok_now {N : Nat} {D : DiskA} (ok : D.ok N) : D.now.ok := ok_names ok.safeN
theorem ok_syncNames {N : Nat} {D : DiskA} (ok : D.ok N) : D.syncNamesA.2.ok (N + 1) := by
  have okS := ok_struck ok
  unfold DiskA.syncNamesA
  split
  · exact ok_mono ok (by omega)
  split
  · exact okS
  · exact ok_settle okS (ok_now ok) (now_lives D) (by have := now_len ok; omega)
/-- A change of the names more, that brings no other file. -/
theorem ok_turn {N : Nat} {D : DiskA} (ok : D.ok N) {t : TurnA} (hs : t.fr.size ≤ 40 ∧ t.to.size ≤ 40 ∧ 0 ≤ t.file ∧ t.file ≤ D.made) (hl : t.has = true → t.file ∈ D.lives) : DiskA.ok (N + 1) { D with turns := D.turns ++ [t] } := by
  have ok1 := ok_mono ok (Nat.le_succ N)
  have hnm := ok.names
  refine ⟨ok.room0, ok.room1, ok.most0, ok.most1, ok.made0, ok1.made1, ?_, ok.rng, ok.held, ok.fok, ok1.pend, ?_, ?_, ok.safeN, ok1.cnt0, ok1.cnt1, ok.plan0⟩
  · show D.files.map (·.1) = livesA D.safe (D.turns ++ [t])
    rw [ok.ids]
    refine ascOf_congr fun x => ?_
    unfold turnIds
    rw [List.filter_append, List.map_append]
    cases ht : t.has with
    | false =>
      have : ([t].filter (·.has)) = [] := by simp [ht]
      rw [this]; simp
    | true =>
      have h1 : ([t].filter (·.has)) = [t] := by simp [ht]
      have h2 := mem_ascOf.1 (hl ht)
      rw [h1]
      unfold turnIds at h2
      simp only [List.mem_append, List.map_cons, List.map_nil, List.mem_singleton] at h2 ⊢
      constructor
      · rintro (h | h)
        · exact .inl h
        · exact .inr (.inl h)
      · rintro (h | h | h)
        · exact .inl h
        · exact .inr h
        · rw [h]; exact h2
  · show D.safe.length + (D.turns ++ [t]).length ≤ N + 1
    rw [List.length_append]; simp; omega
  · intro q hq
    rcases List.mem_append.1 hq with h | h
    · exact ok.short q h
    · rw [List.mem_singleton.1 h]; exact hs
theorem named_size {s : ByteArray} (h : namedA s = true) : s.size ≤ 40 := by
  unfold namedA at h
  simp only [Bool.and_eq_true, decide_eq_true_eq] at h
  exact h.1.2
theorem there_named {D : DiskA} {s : ByteArray} (h : D.thereE s ≠ 5) : namedA s = true := by
  cases hb : namedA s with
  | true => rfl
  | false => exact absurd ((there_spec D s).1 hb) h
theorem ok_remove {N : Nat} {D : DiskA} (ok : D.ok N) (s : ByteArray) : (D.removeA s).2.ok (N + 2) := by
  unfold DiskA.removeA
  split
  · exact ok_mono ok (by omega)
  split
  · exact ok_mono ok (by omega)
  rename_i h0 h1
  have h1 : D.thereE s = 0 := by omega
  have okS := ok_struck ok
  have hm := ok.made0
  split
  · exact ok_mono okS (by omega)
  · refine ok_turn okS ⟨named_size (there_named (by rw [h1]; decide)), Nat.zero_le _, Int.le_refl _, hm⟩ fun h => ?_
    exact absurd h (by unfold TurnA.has; show ¬ ((!(ByteArray.empty.toList == ByteArray.empty.toList)) = true); simp)
theorem ok_rename {N : Nat} {D : DiskA} (ok : D.ok N) (a b : ByteArray) : (D.renameA a b).2.ok (N + 2) := by
  unfold DiskA.renameA
  split
  · exact ok_mono ok (by omega)
  split
  · exact ok_mono ok (by omega)
  split
  · exact ok_mono ok (by omega)
  rename_i h0 h1 h2
  have h2 : D.thereE a = 0 := by omega
  obtain ⟨hl, f, hf, _⟩ := idOf_mem ok h2
  have okS := ok_struck ok
  have hr := ok.rng _ hf
  have hb : namedA b = true := by
    cases hb : namedA b with
    | true => rfl
    | false => exact absurd ⟨by rw [h2]; decide, hb⟩ h1
  split
  · exact ok_mono okS (by omega)
  split
  · exact ok_turn okS ⟨named_size (there_named (by rw [h2]; decide)), named_size hb, by simp only at hr; show 0 ≤ D.idOf a; omega, hr.2⟩ fun _ => hl
  · exact ok_mono okS (by omega)
theorem ok_create {N : Nat} {D : DiskA} (ok : D.ok N) (s : ByteArray) : (D.createA s).2.ok (N + 2) := by
  unfold DiskA.createA
  split
  · exact ok_mono ok (by omega)
  split
  · exact ok_mono ok (by omega)
  split
  · exact ok_mono ok (by omega)
  rename_i h0 h1 h2
  have h2 : D.thereE s = 6 := by omega
  have okS := ok_struck ok
  have hs := named_size (there_named (D := D) (s := s) (by rw [h2]; decide))
  split
  · exact ok_mono okS (by omega)
  split
  · exact ok_mono okS (by omega)
  have ok1 := ok_mono okS (Nat.le_succ _)
  have hm0 := ok.made0
  have hm1 := ok.made1
  have hnm := ok.names
  have hasc := asc_files ok
  refine ⟨ok.room0, ok.room1, ok.most0, ok.most1, by show 0 ≤ D.made + 1; omega, by show D.made + 1 ≤ _; omega, ?_, ?_, ?_, ?_, ?_, ?_, ?_, ok.safeN, ok1.cnt0, ok1.cnt1, ok.plan0⟩
  · show (D.files ++ [(D.made + 1, FileA.mk [] [])]).map (·.1) = livesA D.safe (D.turns ++ [⟨ByteArray.empty, s, D.made + 1⟩])
    have hhas : TurnA.has ⟨ByteArray.empty, s, D.made + 1⟩ = true := by
      have hz : namedA s = true := there_named (D := D) (by rw [h2]; decide)
      unfold namedA at hz
      simp only [Bool.and_eq_true, decide_eq_true_eq] at hz
      rw [has_eq]
      have : bl s ≠ [] := by
        intro e
        have hl := congrArg List.length e
        have h5 : 0 < s.data.size := hz.1.1
        simp [bl] at hl
        simp [hl] at h5
      simp [this]
    have h3 : Asc ((D.files ++ [(D.made + 1, FileA.mk [] [])]).map (·.1)) := by
      unfold Asc
      rw [List.pairwise_map, List.pairwise_append]
      refine ⟨hasc, List.pairwise_singleton _ _, fun p hp q hq => ?_⟩
      rw [List.mem_singleton.1 hq]
      have := (ok.rng p hp).2
      show p.1 < D.made + 1
      omega
    refine h3.ext (ascOf_asc _) fun x => ?_
    show _ ↔ x ∈ ascOf _
    rw [mem_ascOf]
    unfold turnIds
    rw [List.filter_append, List.map_append, List.map_append, ok.ids]
    have h4 : ([(⟨ByteArray.empty, s, D.made + 1⟩ : TurnA)].filter (·.has)) = [⟨ByteArray.empty, s, D.made + 1⟩] := by rw [List.filter_cons, if_pos hhas]; rfl
    rw [h4]
    unfold DiskA.lives livesA
    simp only [List.mem_append, mem_ascOf, List.map_cons, List.map_nil]
    unfold turnIds
    rw [or_assoc]
  · intro p hp
    rcases List.mem_append.1 hp with h | h
    · have := ok.rng p h
      show 1 ≤ p.1 ∧ p.1 ≤ D.made + 1
      omega
    · rw [List.mem_singleton.1 h]
      show 1 ≤ D.made + 1 ∧ D.made + 1 ≤ D.made + 1
      omega
  · show ((sumA (D.files ++ [(D.made + 1, FileA.mk [] [])]) : Nat) : Int) ≤ D.room
    rw [sumA_append]
    have := ok.held
    unfold DiskA.held at this
    simp [sumA, FileA.lens, lensFrom]
    exact this
  · intro p hp
    rcases List.mem_append.1 hp with h | h
    · exact ok.fok p h
    · rw [List.mem_singleton.1 h]; trivial
  · intro p hp
    rcases List.mem_append.1 hp with h | h
    · exact ok1.pend p h
    · rw [List.mem_singleton.1 h]; exact Nat.zero_le _
  · show D.safe.length + (D.turns ++ [_]).length ≤ N + 2
    rw [List.length_append]; simp; omega
  · intro q hq
    rcases List.mem_append.1 hq with h | h
    · have := ok.short q h
      show _ ∧ _ ∧ _ ∧ q.file ≤ D.made + 1
      exact ⟨this.1, this.2.1, this.2.2.1, by omega⟩
    · rw [List.mem_singleton.1 h]
      exact ⟨Nat.zero_le _, hs, by show 0 ≤ D.made + 1; omega, Int.le_refl _⟩
theorem ok_plan {N : Nat} {D : DiskA} (ok : D.ok N) {a b : List (Int × Int)} (ha : a.length ≤ 1099511627776) (hb : b.length ≤ 1099511627776) : (D.planA a b).ok N :=
  ⟨ok.room0, ok.room1, ok.most0, ok.most1, ok.made0, ok.made1, ok.ids, ok.rng, ok.held, ok.fok, ok.pend, ok.names, ok.short, ok.safeN, ⟨Int.le_refl _, Int.natCast_nonneg _⟩, ⟨Int.le_refl _, Int.natCast_nonneg _⟩, ⟨ha, hb⟩⟩
theorem ok_off {N : Nat} {D : DiskA} (ok : D.ok N) (b : Bool) : DiskA.ok N { D with off := b } :=
  ⟨ok.room0, ok.room1, ok.most0, ok.most1, ok.made0, ok.made1, ok.ids, ok.rng, ok.held, ok.fok, ok.pend, ok.names, ok.short, ok.safeN, ok.cnt0, ok.cnt1, ok.plan0⟩
theorem ok_read {N : Nat} {D : DiskA} (ok : D.ok N) (s : ByteArray) : (D.readA s).2.ok (N + 1) := by
  have ok1 := ok_mono ok (Nat.le_succ N)
  have h1 := ok.cnt1
  have okR : DiskA.ok (N + 1) { D with reads := D.reads + 1 } := ⟨ok.room0, ok.room1, ok.most0, ok.most1, ok.made0, ok1.made1, ok.ids, ok.rng, ok.held, ok.fok, ok1.pend, ok1.names, ok.short, ok.safeN, ok1.cnt0, ⟨by show 0 ≤ D.reads + 1; omega, by show D.reads + 1 ≤ _; omega⟩, ok.plan0⟩
  unfold DiskA.readA
  split
  · exact ok1
  split
  · exact ok1
  split
  · exact ok_off okR _
  · exact okR
theorem ok_crashN {N : Nat} {D : DiskA} (ok : D.ok N) (pf : List (Int × List Int)) : ∀ j, j ≤ D.files.length → (D.crashN pf j).ok N := by
  intro j
  induction j with
  | zero => intro _; have : D.crashN pf 0 = D := by unfold DiskA.crashN; rw [crashF_zero]
            rw [this]; exact ok
  | succ j ih =>
    intro hj
    have hj' : j < D.files.length := by omega
    have hg := List.getElem?_eq_getElem hj'
    rw [← crashN_succ (asc_files ok) hg]
    have hm := List.getElem_mem hj'
    exact ok_setSafe (ih (by omega)) (f := D.files[j].2) (crashN_mem hg) (lost_le (ok.fok _ hm) _)
theorem ok_crash {N : Nat} {D : DiskA} (ok : D.ok N) (P : PicksA) : (D.crashA P).ok N := by
  unfold DiskA.crashA
  have h1 := ok_crashN ok P.files _ (Nat.le_refl _)
  have h2 := leftA_length D.turns P.names P.skipped
  have h3 := namesA_length (leftA D.turns P.names P.skipped) D.safe
  have h4 := ok.names
  refine ok_plan (ok_off (ok_settle h1 (ok_names ok.safeN) (crash_lives D P.names P.skipped) (by omega)) false) (Nat.zero_le _) (Nat.zero_le _)
theorem ok_new {room most : Int} (h : ¬ (room < 0 ∨ room > 4194304 ∨ most < 0 ∨ most > 512)) : (newA room most).ok 0 := by
  refine ⟨by show 0 ≤ room; omega, by show room ≤ _; omega, by show 0 ≤ most; omega, by show most ≤ _; omega, Int.le_refl _, Int.le_refl _, ?_, (fun p hp => by cases hp), by show (0 : Int) ≤ room; omega, (fun p hp => by cases hp), (fun p hp => by cases hp), Nat.le_refl _, (fun p hp => by cases hp), List.Pairwise.nil, ⟨Int.le_refl _, Int.le_refl _⟩, ⟨Int.le_refl _, Int.le_refl _⟩, ⟨Nat.zero_le _, Nat.zero_le _⟩⟩
  show [] = ascOf ([] ++ [])
  simp [ascOf, Lib.compact, Lib.compactUpTo]
end Go.Disk
set_option linter.unusedVariables false
set_option linter.unusedSimpArgs false
/-! DF: disks, worked out. -/
namespace Go.Disk
open Go Go.V Go.Proofs

theorem lives_files {N : Nat} {D : DiskA} (ok : D.ok N) : D.lives.length = D.files.length := by rw [← ok.ids, List.length_map]
theorem settle_eq (D : DiskA) (m : Nm) : D.settleA m = { D with safe := m, turns := [], files := D.files.filter fun p => (m.map (·.2)).contains p.1 } := by
  unfold DiskA.settleA
  congr 1
  refine List.filter_congr fun p _ => ?_
  rw [Bool.eq_iff_iff, List.contains_iff_mem, List.contains_iff_mem]
  show p.1 ∈ ascOf _ ↔ _
  rw [mem_ascOf]
  simp [turnIds]
theorem doN_eq (t : TurnA) (m : Nm) : t.doN m = if bl t.to = [] then m.del (bl t.fr) else (m.del (bl t.fr)).put (bl t.to) t.file := by
  unfold TurnA.doN
  rw [has_eq]
  by_cases h : bl t.to = [] <;> simp [h]
abbrev sA : ByteArray := ByteArray.mk #[97]
theorem thereE_eq (D : DiskA) (s : ByteArray) : D.thereE s = if namedA s = false then 5 else if (D.now.get (bl s)).isNone then 6 else 0 := rfl

theorem there_ok {D : DiskA} {s : ByteArray} {i : Int} (hn : namedA s = true) (hg : D.now.get (bl s) = some i) : D.thereE s = 0 ∧ D.idOf s = i := (there_spec D s).2.2 i hn hg
theorem append_ok {D : DiskA} {s : ByteArray} {i : Int} (l : List UInt8) (ho : D.off = false) (hn : namedA s = true) (hg : D.now.get (bl s) = some i) (hf : failErr D.kind = 0) : D.appendA s l = D.struck.layA i l := by
  obtain ⟨h1, h2⟩ := there_ok hn hg
  unfold DiskA.appendA
  rw [if_neg (by rw [ho]; decide), if_neg (by rw [h1]; decide), if_neg (by rw [hf]; decide), h2]
theorem sync_ok {D : DiskA} {s : ByteArray} {i : Int} (ho : D.off = false) (hn : namedA s = true) (hg : D.now.get (bl s) = some i) (hf : failErr D.kind = 0) : D.syncA s = (0, D.struck.setF i ⟨(D.fileD i).bytes, []⟩) := by
  obtain ⟨h1, h2⟩ := there_ok hn hg
  unfold DiskA.syncA
  rw [if_neg (by rw [ho]; decide), if_neg (by rw [h1]; decide), if_neg (by rw [hf]; decide), h2]
theorem trunc_ok {D : DiskA} {s : ByteArray} {i : Int} {size : Int} (ho : D.off = false) (hn : namedA s = true) (hg : D.now.get (bl s) = some i) (hf : failErr D.kind = 0) (hs : 0 ≤ size ∧ size ≤ (D.fileD i).lens.1) : D.truncA s size = (0, if size = (D.fileD i).lens.1 then D.struck else D.struck.setF i ⟨(D.fileD i).safe, (D.fileD i).pend ++ [.cut size.toNat]⟩) := by
  obtain ⟨h1, h2⟩ := there_ok hn hg
  unfold DiskA.truncA
  rw [if_neg (by rw [ho]; decide), if_neg (by rw [h1]; decide), h2, if_neg (by omega), if_neg (by rw [hf]; decide)]
  by_cases hz : size = (D.fileD i).lens.1
  · rw [if_neg (fun h => h hz), if_pos hz]
  · rw [if_pos hz, if_neg hz]
theorem names_ok {D : DiskA} (ho : D.off = false) (hf : failErr D.kind = 0) : D.syncNamesA = (0, D.struck.settleA D.now) := by
  unfold DiskA.syncNamesA
  rw [if_neg (by rw [ho]; decide), if_neg (by rw [hf]; decide)]
theorem remove_ok {D : DiskA} {s : ByteArray} {i : Int} (ho : D.off = false) (hn : namedA s = true) (hg : D.now.get (bl s) = some i) (hf : failErr D.kind = 0) : D.removeA s = (0, { D.struck with turns := D.turns ++ [⟨s, ByteArray.empty, 0⟩] }) := by
  obtain ⟨h1, h2⟩ := there_ok hn hg
  unfold DiskA.removeA
  rw [if_neg (by rw [ho]; decide), if_neg (by rw [h1]; decide), if_neg (by rw [hf]; decide)]
theorem rename_ok {D : DiskA} {s t : ByteArray} {i : Int} (ho : D.off = false) (hn : namedA s = true) (hg : D.now.get (bl s) = some i) (ht : namedA t = true) (hf : failErr D.kind = 0) : D.renameA s t = (0, if bl s = bl t then D.struck else { D.struck with turns := D.turns ++ [⟨s, t, i⟩] }) := by
  obtain ⟨h1, h2⟩ := there_ok hn hg
  unfold DiskA.renameA
  rw [if_neg (by rw [ho]; decide), if_neg (by rw [ht]; simp), if_neg (by rw [h1]; decide), if_neg (by rw [hf]; decide), h2, ba_toList, ba_toList]
  by_cases hz : bl s = bl t
  · rw [if_pos hz]; exact if_neg fun h => h hz
  · rw [if_neg hz]; exact if_pos hz
theorem read_ok {D : DiskA} {s : ByteArray} {i : Int} (ho : D.off = false) (hn : namedA s = true) (hg : D.now.get (bl s) = some i) (hf : failErr D.kindR = 0) : D.readA s = (((D.fileD i).bytes, 0), { D with reads := D.reads + 1 }) := by
  obtain ⟨h1, h2⟩ := there_ok hn hg
  unfold DiskA.readA
  rw [if_neg (by rw [ho]; decide), if_neg (by rw [h1]; decide), if_neg (by rw [hf]; decide), h2]
theorem create_ok {N : Nat} {D : DiskA} {s : ByteArray} (ok : D.ok N) (ho : D.off = false) (hn : namedA s = true) (hg : D.now.get (bl s) = none) (hf : failErr D.kind = 0) (hm : (D.files.length : Int) + 1 ≤ D.most) : D.createA s = (0, { D.struck.addA [] with turns := D.turns ++ [⟨ByteArray.empty, s, D.made + 1⟩] }) := by
  have h1 := (there_spec D s).2.1 hn hg
  unfold DiskA.createA
  rw [if_neg (by rw [ho]; decide), if_neg (by rw [h1]; decide), if_neg (by rw [h1]; decide), if_neg (by rw [hf]; decide), lives_files ok, if_neg (by omega)]
theorem create_ex {D : DiskA} {s : ByteArray} {i : Int} (ho : D.off = false) (hn : namedA s = true) (hg : D.now.get (bl s) = some i) : D.createA s = (7, D) := by
  obtain ⟨h1, h2⟩ := there_ok hn hg
  unfold DiskA.createA
  rw [if_neg (by rw [ho]; decide), if_pos h1]

/-! ### what the document fixes -/
def kD1 : DiskA := ⟨100, 3, 1, [(1, ⟨[], []⟩)], [], [⟨ByteArray.empty, sA, 1⟩], [], [], 1, 0, false⟩
def kD2 : DiskA := ⟨100, 3, 1, [(1, ⟨[], [.app [5, 5, 5, 5]]⟩)], [], [⟨ByteArray.empty, sA, 1⟩], [], [], 2, 0, false⟩
def kD3 : DiskA := ⟨100, 3, 1, [(1, ⟨[5, 5, 5, 5], []⟩)], [], [⟨ByteArray.empty, sA, 1⟩], [], [], 3, 0, false⟩
def k20 : List UInt8 := [7, 7, 7, 7, 7, 7, 7, 7, 7, 7, 7, 7, 7, 7, 7, 7, 7, 7, 7, 7]
def kD4 : DiskA := ⟨100, 3, 1, [(1, ⟨[5, 5, 5, 5], [.app k20]⟩)], [], [⟨ByteArray.empty, sA, 1⟩], [], [], 4, 0, false⟩
def kD5 : DiskA := ⟨100, 3, 1, [(1, ⟨[5, 5, 5, 5], [.app k20]⟩)], [([97], 1)], [], [], [], 5, 0, false⟩
def kD6 : DiskA := ⟨100, 3, 1, [(1, ⟨[5, 5, 5, 5, 0, 0, 0, 0, 0, 0, 0, 0, 0, 0, 0, 0, 7, 7, 7, 7, 7, 7, 7, 7], []⟩)], [([97], 1)], [], [], [], 0, 0, false⟩
theorem know : namesA [] [⟨ByteArray.empty, sA, 1⟩] = [([97], 1)] := by
  show TurnA.doN _ _ = _
  rw [doN_eq]; rfl
theorem kn1 : (newA 100 3).createA sA = (0, kD1) := create_ok (ok_new (by omega)) rfl rfl rfl rfl (by decide)
theorem kn2 : kD1.createA sA = (7, kD1) := create_ex (i := 1) rfl rfl (by unfold DiskA.now; rw [show namesA kD1.safe kD1.turns = _ from know]; rfl)
theorem kn3 : kD1.appendA sA [5, 5, 5, 5] = (0, kD2) := (append_ok (i := 1) _ rfl rfl (by unfold DiskA.now; rw [show namesA kD1.safe kD1.turns = _ from know]; rfl) rfl).trans rfl
theorem kn4 : kD2.syncA sA = (0, kD3) := (sync_ok (i := 1) rfl rfl (by unfold DiskA.now; rw [show namesA kD2.safe kD2.turns = _ from know]; rfl) rfl).trans rfl
theorem kn5 : kD3.appendA sA k20 = (0, kD4) := (append_ok (i := 1) _ rfl rfl (by unfold DiskA.now; rw [show namesA kD3.safe kD3.turns = _ from know]; rfl) rfl).trans rfl
theorem kn6 : kD4.syncNamesA = (0, kD5) := by
  rw [names_ok rfl rfl, settle_eq]
  unfold DiskA.now
  rw [show namesA kD4.safe kD4.turns = _ from know]
  rfl
theorem kn7 : kD5.crashA ⟨0, [], [(1, [0])]⟩ = kD6 := by
  unfold DiskA.crashA
  rw [settle_eq]
  rfl
theorem kn8 : kD5.crashT ⟨0, [], [(1, [0])]⟩ = [([97], [5, 5, 5, 5, 7, 7, 7, 7, 7, 7, 7, 7, 7, 7, 7, 7, 7, 7, 7, 7, 7, 7, 7, 7])] := by
  unfold DiskA.crashT
  rw [kn7]
  rfl
theorem kn9 : kD6.readA sA = (([5, 5, 5, 5, 0, 0, 0, 0, 0, 0, 0, 0, 0, 0, 0, 0, 7, 7, 7, 7, 7, 7, 7, 7], 0), { kD6 with reads := 1 }) := (read_ok (i := 1) rfl rfl rfl rfl).trans rfl
end Go.Disk
set_option linter.unusedVariables false
set_option linter.unusedSimpArgs false
set_option linter.unusedSectionVars false
namespace Go.Proofs
open Go Go.V Go.Disk

/-- A disk that one has made oneself since a heap, and memory of one's own (V) that is none of the disk's. -/
def Tryz.On (h0 h : Hp) (d : Nat) (D : DiskA) (N : Nat) (V : Nat → Prop) : Prop :=
  ∃ g, g.d = d ∧ g.D = D ∧ Tryz.DR h g ∧ D.ok N ∧ (∀ b, DB g b → h0.size ≤ b) ∧ Grow h0 h ∧ (∀ b, V b → h0.size ≤ b ∧ b < h.size ∧ ¬ DB g b)
/-- What a call on the disk may write. -/
def Out (h0 : Hp) (V : Nat → Prop) (b : Nat) : Prop := h0.size ≤ b ∧ ¬ V b
theorem Tryz.On.ok {h0 h : Hp} {d : Nat} {D : DiskA} {N : Nat} {V : Nat → Prop} (o : Tryz.On h0 h d D N V) : D.ok N := by obtain ⟨g, _, _, _, h, _⟩ := o; exact h
theorem Tryz.On.grow {h0 h : Hp} {d : Nat} {D : DiskA} {N : Nat} {V : Nat → Prop} (o : Tryz.On h0 h d D N V) : Grow h0 h := by obtain ⟨g, _, _, _, _, _, h, _⟩ := o; exact h
theorem Tryz.On.lt {h0 h : Hp} {d : Nat} {D : DiskA} {N : Nat} {V : Nat → Prop} (o : Tryz.On h0 h d D N V) : ∀ b, V b → h0.size ≤ b ∧ b < h.size := by
  obtain ⟨g, _, _, _, _, _, _, h⟩ := o
  exact fun b hb => ⟨(h b hb).1, (h b hb).2.1⟩
/-- Memory of one's own has been written or laid. -/
theorem Tryz.On.mine {h0 h h' : Hp} {d : Nat} {D : DiskA} {N : Nat} {V : Nat → Prop} (o : Tryz.On h0 h d D N V) (k : Kp V h h') : Tryz.On h0 h' d D N (fun b => V b ∨ (h.size ≤ b ∧ b < h'.size)) := by
  obtain ⟨g, e1, e2, r, ok, hb, gr, hv⟩ := o
  have lt := Tryz.DB_lt r
  have z := k.size
  have zg := gr.size
  refine ⟨g, e1, e2, r.kp k fun b hb hx => (hv b hx).2.2 hb, ok, hb, gr.trans' k fun q hq hx => by have := (hv q hx).1; omega, ?_⟩
  rintro b (hx | hx)
  · have := hv b hx
    exact ⟨this.1, by omega, this.2.2⟩
  · exact ⟨by omega, hx.2, fun hy => by have := lt b hy; omega⟩
theorem Tryz.On.less {h0 h : Hp} {d : Nat} {D : DiskA} {N : Nat} {V V' : Nat → Prop} (o : Tryz.On h0 h d D N V) (hV : ∀ b, V' b → V b) : Tryz.On h0 h d D N V' := by
  obtain ⟨g, e1, e2, r, ok, hb, gr, hv⟩ := o
  exact ⟨g, e1, e2, r, ok, hb, gr, fun b hx => hv b (hV b hx)⟩
theorem Tryz.On.more {h0 h : Hp} {d : Nat} {D : DiskA} {N M : Nat} {V : Nat → Prop} (o : Tryz.On h0 h d D N V) (hM : N ≤ M) : Tryz.On h0 h d D M V := by
  obtain ⟨g, e1, e2, r, ok, hb, gr, hv⟩ := o
  exact ⟨g, e1, e2, r, ok_mono ok hM, hb, gr, hv⟩
theorem Kp.old {h0 h h' : Hp} {V : Nat → Prop} (k : Kp (Out h0 V) h h') (g : Grow h0 h) : Grow h0 h' := g.trans' k fun q hq hx => by have := hx.1; omega

theorem Tryz.On.goes {h0 h h' : Hp} {g : DG} {D' : DiskA} {d : Nat} {M : Nat} {V : Nat → Prop} (e1 : g.d = d) (hb : ∀ b, DB g b → h0.size ≤ b) (gr : Grow h0 h) (hv : ∀ b, V b → h0.size ≤ b ∧ b < h.size ∧ ¬ DB g b) (hok : D'.ok M) (x : Tryz.Goes h g D' h') :
    Tryz.On h0 h' d D' M V ∧ Kp (Out h0 V) h h' := by
  obtain ⟨g', e, eD, r, bl, k⟩ := x
  have z := k.size
  have zg := gr.size
  have kk : Kp (Out h0 V) h h' := k.mono fun b _ hx => ⟨hb b hx, fun hy => (hv b hy).2.2 hx⟩
  refine ⟨⟨g', e.trans e1, eD, r, hok, fun b hx => (bl b hx).elim (hb b) fun hx => by omega, gr.trans' k fun q hq hx => by have := hb q hx; omega, fun b hx => ?_⟩, kk⟩
  have := hv b hx
  exact ⟨this.1, by omega, fun hy => (bl b hy).elim this.2.2 fun hy => by omega⟩
/-- A call that turns the disk. -/
theorem Tryz.On.did {h0 h : Hp} {d : Nat} {D : DiskA} {N M : Nat} {V : Nat → Prop} {k : FuncId} {xs : List Value} {x : Int × DiskA} (o : Tryz.On h0 h d D N V) (hok : x.2.ok M)
    (c : ∀ g, g.D = D → Tryz.DR h g → CH Tryz.prog k (#[.pointer (some ⟨g.d, 0, none⟩)] ++ xs.toArray) h (Tryz.Did h g x)) :
    CH Tryz.prog k (#[.pointer (some ⟨d, 0, none⟩)] ++ xs.toArray) h fun v h' => v = .int .i64 x.1 ∧ Tryz.On h0 h' d x.2 M V ∧ Kp (Out h0 V) h h' := by
  obtain ⟨g, rfl, e2, r, ok, hb, gr, hv⟩ := o
  refine (c g e2 r).mono ?_
  rintro v h' ⟨rfl, x⟩
  obtain ⟨a, b⟩ := Tryz.On.goes rfl hb gr hv hok x
  exact ⟨rfl, a, b⟩

section
variable {h0 h : Hp} {d : Nat} {D : DiskA} {N : Nat} {V : Nat → Prop} (o : Tryz.On h0 h d D N V) (hN : N < 1073741824)
include o hN
theorem Tryz.On.create (s : ByteArray) : CH Tryz.prog 11 #[.pointer (some ⟨d, 0, none⟩), .string s] h fun v h' => v = .int .i64 (D.createA s).1 ∧ Tryz.On h0 h' d (D.createA s).2 (N + 2) V ∧ Kp (Out h0 V) h h' :=
  o.did (xs := [.string s]) (ok_create o.ok s) fun g e r => by subst e; exact Tryz.c_Create r o.ok hN s
theorem Tryz.On.append (s : ByteArray) {A : Option Addr} {n c : Nat} {l : List UInt8} (hs : BS h A n l) (hn : n ≤ 1099511627776) (hc : n ≤ c) : CH Tryz.prog 12 #[.pointer (some ⟨d, 0, none⟩), .string s, .slice A n c] h fun v h' => v = .int .i64 (D.appendA s l).1 ∧ Tryz.On h0 h' d (D.appendA s l).2 (N + 2) V ∧ Kp (Out h0 V) h h' :=
  o.did (xs := [.string s, .slice A n c]) (ok_append o.ok s l) fun g e r => by subst e; exact Tryz.c_Append r o.ok hN s hs hn hc
theorem Tryz.On.sync (s : ByteArray) : CH Tryz.prog 13 #[.pointer (some ⟨d, 0, none⟩), .string s] h fun v h' => v = .int .i64 (D.syncA s).1 ∧ Tryz.On h0 h' d (D.syncA s).2 (N + 1) V ∧ Kp (Out h0 V) h h' :=
  o.did (xs := [.string s]) (ok_sync o.ok s) fun g e r => by subst e; exact Tryz.c_Sync r o.ok hN s
theorem Tryz.On.names : CH Tryz.prog 14 #[.pointer (some ⟨d, 0, none⟩)] h fun v h' => v = .int .i64 D.syncNamesA.1 ∧ Tryz.On h0 h' d D.syncNamesA.2 (N + 1) V ∧ Kp (Out h0 V) h h' :=
  o.did (xs := []) (ok_syncNames o.ok) fun g e r => by subst e; exact Tryz.c_SyncNames r o.ok hN
theorem Tryz.On.truncate (s : ByteArray) (size : Int) : CH Tryz.prog 17 #[.pointer (some ⟨d, 0, none⟩), .string s, .int .i64 size] h fun v h' => v = .int .i64 (D.truncA s size).1 ∧ Tryz.On h0 h' d (D.truncA s size).2 (N + 2) V ∧ Kp (Out h0 V) h h' :=
  o.did (xs := [.string s, .int .i64 size]) (ok_trunc o.ok s size) fun g e r => by subst e; exact Tryz.c_Truncate r o.ok hN s size
theorem Tryz.On.rename (s t : ByteArray) : CH Tryz.prog 25 #[.pointer (some ⟨d, 0, none⟩), .string s, .string t] h fun v h' => v = .int .i64 (D.renameA s t).1 ∧ Tryz.On h0 h' d (D.renameA s t).2 (N + 2) V ∧ Kp (Out h0 V) h h' :=
  o.did (xs := [.string s, .string t]) (ok_rename o.ok s t) fun g e r => by subst e; exact Tryz.c_Rename r o.ok hN s t
theorem Tryz.On.remove (s : ByteArray) : CH Tryz.prog 29 #[.pointer (some ⟨d, 0, none⟩), .string s] h fun v h' => v = .int .i64 (D.removeA s).1 ∧ Tryz.On h0 h' d (D.removeA s).2 (N + 2) V ∧ Kp (Out h0 V) h h' :=
  o.did (xs := [.string s]) (ok_remove o.ok s) fun g e r => by subst e; exact Tryz.c_Remove r o.ok hN s
theorem Tryz.On.plan {A B : Option Addr} {n c m k : Nat} {l q : List (Int × Int)} (hn : n = l.length) (hm : m = q.length) (h1 : Src h (n * 2) (faultV l) A) (h2 : Src h (m * 2) (faultV q) B) (hnb : n ≤ 1099511627776) (hmb : m ≤ 1099511627776) :
    CH Tryz.prog 16 #[.pointer (some ⟨d, 0, none⟩), .agg #[.slice A n c, .slice B m k]] h fun v h' => Tryz.On h0 h' d (D.planA l q) N V ∧ Kp (Out h0 V) h h' := by
  obtain ⟨g, rfl, rfl, r, ok, hb, gr, hv⟩ := o
  refine (Tryz.c_Plan r hn hm h1 h2 hnb hmb).mono ?_
  rintro v h' ⟨rfl, x⟩
  exact Tryz.On.goes rfl hb gr hv (ok_plan ok (by omega) (by omega)) x
theorem Tryz.On.read (s : ByteArray) : CH Tryz.prog 18 #[.pointer (some ⟨d, 0, none⟩), .string s] h fun v h' => ∃ A n c, v = .tuple #[.slice A n c, .int .i64 (D.readA s).1.2] ∧ BS h' A n (D.readA s).1.1 ∧ Tag h' A 5 ∧ (A = none → n = 0) ∧ ∃ V', (∀ b, V b → V' b) ∧ (∀ b, inA A b → V' b) ∧ Tryz.On h0 h' d (D.readA s).2 (N + 1) V' ∧ Kp (Out h0 V) h h' := by
  obtain ⟨g, rfl, rfl, r, ok, hb, gr, hv⟩ := o
  refine (Tryz.c_Read r ok hN s).mono ?_
  rintro v h' ⟨A, n, c, rfl, h1, h2, h3, h4, g', e, eD, r', bl, nA, k⟩
  have z := k.size
  have zg := gr.size
  have kk : Kp (Out h0 V) h h' := k.mono fun b _ hx => ⟨hb b hx, fun hy => (hv b hy).2.2 hx⟩
  refine ⟨A, n, c, rfl, h1, h2, h4, fun b => V b ∨ inA A b, fun b => .inl, fun b => .inr, ⟨g', e, eD, r', ok_read ok s, fun b hx => (bl b hx).elim (hb b) fun hx => by omega, gr.trans' k fun q hq hx => by have := hb q hx; omega, fun b hx => ?_⟩, kk⟩
  rcases hx with hx | hx
  · have := hv b hx
    exact ⟨this.1, by omega, fun hy => (bl b hy).elim this.2.2 fun hy => by omega⟩
  · exact ⟨by have := h3 b hx; omega, h2.lt b hx, nA b hx⟩
theorem Tryz.On.crash {sA : Option Addr} {sn sc : Nat} {fA : Option Addr} {fn fc : Nat} {P : PicksA} (hP : Tryz.PicksR h (fun b => b < h0.size ∨ V b) sA sn fA fn P) (hfn : fn ≤ 1073741824) :
    CH Tryz.prog 20 #[.pointer (some ⟨d, 0, none⟩), .agg #[.int .i64 P.names, .slice sA sn sc, .slice fA fn fc]] h fun v h' => ∃ A n c, v = .slice A n c ∧ ∃ V', (∀ b, V b → V' b) ∧ Tryz.FilesR h' V' A n c (D.crashT P) ∧ Tryz.On h0 h' d (D.crashA P) N V' ∧ Kp (Out h0 V) h h' := by
  obtain ⟨g, rfl, rfl, r, ok, hb, gr, hv⟩ := o
  have zg := gr.size
  refine (Tryz.c_Crash r ok hN (hP.mono fun b hx => hx.elim (fun hx => ⟨by omega, fun hy => by have := hb b hy; omega⟩) fun hx => ⟨(hv b hx).2.1, (hv b hx).2.2⟩) hfn).mono ?_
  rintro v h' ⟨g', e, eD, r', bl, k, A, n, c, rfl, q, q1, q2, q3, q4, q5⟩
  have z := k.size
  have kk : Kp (Out h0 V) h h' := k.mono fun b _ hx => ⟨hb b hx, fun hy => (hv b hy).2.2 hx⟩
  refine ⟨A, n, c, rfl, fun b => V b ∨ (h.size ≤ b ∧ b < h'.size ∧ ¬ DB g' b), fun b => .inl, ⟨q, q1, q2, fun x hx => ⟨(q3 x hx).1, fun b hx2 => .inr ⟨((q3 x hx).2 b hx2).1, (q3 x hx).1.lt b hx2, ((q3 x hx).2 b hx2).2⟩⟩, fun b hx => .inr ⟨(q4 b hx).1, q2.lt b hx, (q4 b hx).2⟩, q5⟩, ⟨g', e, eD, r', ok_crash ok P, fun b hx => (bl b hx).elim (hb b) fun hx => by omega, gr.trans' k fun q hq hx => by have := hb q hx; omega, fun b hx => ?_⟩, kk⟩
  rcases hx with hx | hx
  · have := hv b hx
    exact ⟨this.1, by omega, fun hy => (bl b hy).elim this.2.2 fun hy => by omega⟩
  · exact ⟨by omega, hx.2.1, hx.2.2⟩
/-- What only lays new memory. -/
theorem Tryz.On.new {h' : Hp} (gg : Grow h h') : Tryz.On h0 h' d D N (fun b => V b ∨ (h.size ≤ b ∧ b < h'.size)) := o.mine gg.kp
theorem Tryz.On.list : CH Tryz.prog 26 #[.pointer (some ⟨d, 0, none⟩)] h fun v h' => ∃ A n c, v = .tuple #[.slice A n c, .int .i64 D.listA.2] ∧ OwnS h' 9 1 A n c (D.listA.1.map sv) ∧ Tryz.On h0 h' d D N (fun b => V b ∨ (h.size ≤ b ∧ b < h'.size)) ∧ Grow h h' ∧ (∀ b, inA A b → h.size ≤ b) := by
  have o' := o
  obtain ⟨g, rfl, rfl, r, ok, hb, gr, hv⟩ := o
  refine (Tryz.c_List r ok hN).mono ?_
  rintro v h' ⟨A, n, c, rfl, h1, h2, h3⟩
  exact ⟨A, n, c, rfl, h1, o'.new hN h2, h2, h3⟩
theorem Tryz.On.files : CH Tryz.prog 35 #[.pointer (some ⟨d, 0, none⟩)] h fun v h' => ∃ A n c, v = .slice A n c ∧ Tryz.FilesR h' (h.size ≤ ·) A n c D.filesA ∧ Tryz.On h0 h' d D N (fun b => V b ∨ (h.size ≤ b ∧ b < h'.size)) ∧ Grow h h' := by
  have o' := o
  obtain ⟨g, rfl, rfl, r, ok, hb, gr, hv⟩ := o
  refine (Tryz.c_Files r ok hN).mono ?_
  rintro v h' ⟨A, n, c, rfl, h1, h2⟩
  exact ⟨A, n, c, rfl, h1, o'.new hN h2, h2⟩
theorem Tryz.On.safe : CH Tryz.prog 30 #[.pointer (some ⟨d, 0, none⟩)] h fun v h' => ∃ A n c, v = .slice A n c ∧ Tryz.FilesR h' (h.size ≤ ·) A n c D.safeA ∧ Tryz.On h0 h' d D N (fun b => V b ∨ (h.size ≤ b ∧ b < h'.size)) ∧ Grow h h' := by
  have o' := o
  obtain ⟨g, rfl, rfl, r, ok, hb, gr, hv⟩ := o
  refine (Tryz.c_Safe r ok hN).mono ?_
  rintro v h' ⟨A, n, c, rfl, h1, h2⟩
  exact ⟨A, n, c, rfl, h1, o'.new hN h2, h2⟩
theorem Tryz.On.pending : CH Tryz.prog 21 #[.pointer (some ⟨d, 0, none⟩)] h fun v h' => ∃ A n c, v = .tuple #[.int .i64 D.pendingA.1, .slice A n c] ∧ n = D.pendingA.2.length ∧ OwnS h' 3 1 A n c (D.pendingA.2.map iv) ∧ Tryz.On h0 h' d D N (fun b => V b ∨ (h.size ≤ b ∧ b < h'.size)) ∧ Grow h h' ∧ (∀ b, inA A b → h.size ≤ b) := by
  have o' := o
  obtain ⟨g, rfl, rfl, r, ok, hb, gr, hv⟩ := o
  refine (Tryz.c_Pending r ok (by omega)).mono ?_
  rintro v h' ⟨A, n, c, rfl, h1, h2, h3, h4⟩
  exact ⟨A, n, c, rfl, h1, h2, o'.new hN h3, h3, h4⟩
theorem Tryz.On.held : CH Tryz.prog 28 #[.pointer (some ⟨d, 0, none⟩)] h fun v h' => v = .tuple #[.int .i64 D.heldA.1, .int .i64 D.heldA.2] ∧ Tryz.On h0 h' d D N (fun b => V b ∨ (h.size ≤ b ∧ b < h'.size)) ∧ Grow h h' := by
  have o' := o
  obtain ⟨g, rfl, rfl, r, ok, hb, gr, hv⟩ := o
  refine (Tryz.c_Held r ok (by omega)).mono ?_
  rintro v h' ⟨rfl, h1⟩
  exact ⟨rfl, o'.new hN h1, h1⟩
end
theorem Tryz.On.off {h0 h : Hp} {d : Nat} {D : DiskA} {N : Nat} {V : Nat → Prop} (o : Tryz.On h0 h d D N V) : CH Tryz.prog 36 #[.pointer (some ⟨d, 0, none⟩)] h fun v h' => v = .bool D.off ∧ h' = h := by
  obtain ⟨g, rfl, rfl, r, _⟩ := o
  exact Tryz.c_Off r
theorem Tryz.On.strokes {h0 h : Hp} {d : Nat} {D : DiskA} {N : Nat} {V : Nat → Prop} (o : Tryz.On h0 h d D N V) : CH Tryz.prog 37 #[.pointer (some ⟨d, 0, none⟩)] h fun v h' => v = .int .i64 D.strokes ∧ h' = h := by
  obtain ⟨g, rfl, rfl, r, _⟩ := o
  exact Tryz.c_Strokes r
theorem Tryz.On.reads {h0 h : Hp} {d : Nat} {D : DiskA} {N : Nat} {V : Nat → Prop} (o : Tryz.On h0 h d D N V) : CH Tryz.prog 38 #[.pointer (some ⟨d, 0, none⟩)] h fun v h' => v = .int .i64 D.reads ∧ h' = h := by
  obtain ⟨g, rfl, rfl, r, _⟩ := o
  exact Tryz.c_Reads r
/-- A new disk. -/
theorem Tryz.On.make {h0 h : Hp} (gr : Grow h0 h) (room files : Int) : CH Tryz.prog 22 #[.int .i64 room, .int .i64 files] h fun v h' =>
    ((room < 0 ∨ room > 4194304 ∨ files < 0 ∨ files > 512) ∧ v = .tuple #[.pointer none, .int .i64 1] ∧ h' = h) ∨
    (¬ (room < 0 ∨ room > 4194304 ∨ files < 0 ∨ files > 512) ∧ ∃ d, v = .tuple #[.pointer (some ⟨d, 0, none⟩), .int .i64 0] ∧ Tryz.On h0 h' d (newA room files) 0 (fun b => h0.size ≤ b ∧ b < h.size) ∧ Grow h h') := by
  refine (Tryz.c_New room files).mono ?_
  rintro v h' (⟨h1, h2, h3⟩ | ⟨h1, g, h2, h3, h4, h5, h6⟩)
  · exact .inl ⟨h1, h2, h3⟩
  · have z := gr.size
    have z6 := h6.size
    refine .inr ⟨h1, g.d, h2, ⟨g, rfl, h3, h4, ok_new h1, fun b hb => by have := h5 b hb; omega, gr.trans h6, fun b hb => ⟨hb.1, by omega, fun hx => by have := h5 b hx; omega⟩⟩, h6⟩
end Go.Proofs
set_option linter.unusedVariables false
set_option linter.unusedSimpArgs false
namespace Go.Proofs
open Go Go.V Go.Disk

theorem Fb.vs_get {q : List Fb} {i : Nat} (hi : i < q.length) : (Fb.vs q)[i * 2]? = some (sv q[i].name) ∧ (Fb.vs q)[i * 2 + 1]? = some (.slice q[i].A q[i].n q[i].c) := by
  induction q generalizing i with
  | nil => simp at hi
  | cons p l ih =>
    cases i with
    | zero => simp [Fb.vs]
    | succ i =>
      have := ih (i := i) (by simpa using hi)
      simp only [Fb.vs, List.flatMap_cons, List.getElem_cons_succ] at this ⊢
      rw [show (i + 1) * 2 = i * 2 + 2 by omega]
      simpa using this
theorem Tryz.FilesR.len {h : Hp} {V : Nat → Prop} {A : Option Addr} {n c : Nat} {l : List (List UInt8 × List UInt8)} (o : Tryz.FilesR h V A n c l) : n = l.length := by
  obtain ⟨q, h1, _, _, _, h5⟩ := o
  rw [h5, List.length_map]; exact h1
/-- One file of a list. -/
theorem Tryz.FilesR.get {h : Hp} {V : Nat → Prop} {A : Option Addr} {n c : Nat} {l : List (List UInt8 × List UInt8)} (o : Tryz.FilesR h V A n c l) {i : Nat} {x : List UInt8 × List UInt8} (hx : l[i]? = some x) :
    ∃ a B m d, A = some a ∧ cell h (a.add (i * 2)) = some (sv x.1) ∧ cell h ((a.add (i * 2)).add 1) = some (.slice B m d) ∧ OwnS h 5 1 B m d (x.2.map bv) ∧ BS h B m x.2 := by
  obtain ⟨q, h1, h2, h3, h4, h5⟩ := o
  subst h5
  rw [List.getElem?_map] at hx
  cases hq : q[i]? with
  | none => rw [hq] at hx; cases hx
  | some y =>
    rw [hq] at hx
    cases hx
    obtain ⟨hi, rfl⟩ := List.getElem?_eq_some_iff.1 hq
    obtain ⟨a, rfl⟩ := h2.src.addr (by omega)
    obtain ⟨g0, g1⟩ := Fb.vs_get hi
    have o5 := (h3 q[i] (List.getElem_mem hi)).1
    have hl := o5.src.len
    rw [List.length_map] at hl
    exact ⟨a, _, _, _, rfl, h2.src.get g0, by rw [add_add]; exact h2.src.get g1, o5, ⟨by simp only; omega, by have := o5.src; rwa [Nat.mul_one] at this⟩⟩
/-- A byte at a place. -/
theorem BS.at {h : Hp} {A : Option Addr} {n : Nat} {l : List UInt8} (s : BS h A n l) {j : Nat} {x : UInt8} (hx : l[j]? = some x) : ∃ a, A = some a ∧ ((j : Int) < n) ∧ cell h (a.add (j * 1)) = some (bv x) := by
  have hj : j < n := by have := (List.getElem?_eq_some_iff.1 hx).1; have := s.1; omega
  obtain ⟨a, rfl⟩ := s.2.addr (by omega)
  exact ⟨a, rfl, by omega, by rw [Nat.mul_one]; exact s.2.get (by rw [List.getElem?_map, hx]; rfl)⟩

theorem Tryz.c_known (h : Hp) : CH Tryz.prog 9 #[] h fun v h' => v = .bool true ∧ Grow h h' := by
  apply D_treadlelaw3_known.sound
  unfold D_treadlelaw3_known
  refine (Tryz.On.make (h0 := h) Kp.rfl' 100 3).mono ?_
  rintro v h2 (⟨h1, _⟩ | ⟨_, d, rfl, o, _⟩)
  · omega
  refine ⟨_, _, rfl, fun e => absurd e (by decide), fun _ => ⟨fun e => Bool.noConfusion e, fun _ => ?_⟩⟩
  have c := o.create (by omega) sA
  rw [kn1] at c
  refine c.mono ?_
  clear c o
  rintro v h3 ⟨rfl, o, _⟩
  refine ⟨_, rfl, fun e => absurd e (by decide), fun _ => ?_⟩
  have c := o.create (by omega) sA
  rw [kn2] at c
  refine c.mono ?_
  clear c o
  rintro v h4 ⟨rfl, o, _⟩
  refine ⟨_, rfl, fun e => absurd e (by decide), fun _ b5 h5 eb5 eh5 => ?_⟩
  obtain ⟨f5, g5, s5, _⟩ := boxed eb5 eh5
  have c := (o.new (by omega) g5).append (by omega) sA (A := some ⟨b5, 0, none⟩) (n := 4) (c := 4) (l := [5, 5, 5, 5]) ⟨rfl, rfl, row_all f5⟩ (by omega) (by omega)
  rw [kn3] at c
  refine c.mono ?_
  clear c o
  rintro v h6 ⟨rfl, o, _⟩
  refine ⟨_, rfl, fun e => absurd e (by decide), fun _ => ?_⟩
  have c := o.sync (by omega) sA
  rw [kn4] at c
  refine c.mono ?_
  clear c o
  rintro v h7 ⟨rfl, o, _⟩
  refine ⟨_, rfl, ?_⟩
  unfold D_treadlelaw3_known.J1
  refine ⟨fun e => absurd e (by decide), fun _ b8 h8 eb8 eh8 => ?_⟩
  obtain ⟨f8, g8, s8, _⟩ := boxed eb8 eh8
  have c := (o.new (by omega) g8).append (by omega) sA (A := some ⟨b8, 0, none⟩) (n := 20) (c := 20) (l := k20) ⟨rfl, rfl, row_all f8⟩ (by omega) (by omega)
  rw [kn5] at c
  refine c.mono ?_
  clear c o
  rintro v h9 ⟨rfl, o, _⟩
  refine ⟨_, rfl, fun e => absurd e (by decide), fun _ => ?_⟩
  have c := o.names (by omega)
  rw [kn6] at c
  refine c.mono ?_
  clear c o
  rintro v h10 ⟨rfl, o, _⟩
  refine ⟨_, rfl, fun e => absurd e (by decide), fun _ => o.strokes.mono ?_⟩
  rintro v _ ⟨rfl, rfl⟩
  refine ⟨_, rfl, ?_⟩
  unfold D_treadlelaw3_known.J2
  refine ⟨fun e => absurd e (by decide), fun _ b11 h11 eb11 eh11 b13 h13 eb13 eh13 => ?_⟩
  obtain ⟨f11, g11, s11, l11⟩ := boxed eb11 eh11
  obtain ⟨f13, g13, s13, l13⟩ := boxed eb13 eh13
  have zg := o.grow.size
  have z11 := g11.size
  have o13 := o.new (by omega) (g11.trans g13)
  have c := o13.crash (by omega) (sA := none) (sn := 0) (sc := 0) (fA := some ⟨b13, 0, none⟩) (fn := 1) (fc := 1) (P := ⟨0, [], [(1, [0])]⟩)
    ⟨IS.nil _, fun b hb => (inA_none hb).elim, by omega, [(1, some ⟨b11, 0, none⟩, 1, 1)], rfl, ⟨rfl, row_all f13⟩, fun b hb => .inr (.inr (by have : b13 = b := inA_some.1 hb; omega)),
      ⟨⟨rfl, ⟨rfl, rfl, row_all (g13.g f11)⟩, fun b hb => .inr (.inr (by have : b11 = b := inA_some.1 hb; omega)), by simp⟩, trivial⟩⟩ (by omega)
  rw [kn7, kn8] at c
  refine c.mono ?_
  clear c o o13
  rintro v h15 ⟨A, n, cc, rfl, V, hV, fr, o, _⟩
  refine ⟨_, _, _, rfl, ?_⟩
  have c := o.read (by omega) sA
  rw [kn9] at c
  refine c.mono ?_
  clear c
  rintro v h18 ⟨B, m, e, rfl, hb, ht, hn, V2, hV2, hB, o2, k2⟩
  have fr2 := fr.kp k2 fun b hb hlt hx => hx.2 hb
  have hl := fr2.len
  have hm := hb.1
  simp only [List.length_cons, List.length_nil] at hl hm
  subst hl hm
  obtain ⟨a, D, p, q, rfl, e1, e2, oD, bD⟩ := fr2.get (i := 0) rfl
  have hp := bD.1
  simp only [List.length_cons, List.length_nil] at hp
  subst hp
  refine ⟨_, _, _, _, rfl, fun _ => ⟨a, rfl, by decide, by decide, D, _, q, e2, fun _ => ⟨a, rfl, by decide, by decide, D, _, q, e2, ?_⟩, fun e => absurd e (by decide)⟩, fun e => absurd e (by decide)⟩
  obtain ⟨a4, rfl, l4, c4⟩ := BS.at bD (j := 4) rfl
  refine ⟨a4, rfl, by decide, by decide, _, c4, fun _ => ⟨fun _ => ⟨fun _ => ?_, fun e => absurd e (by decide)⟩, fun e => absurd e (by decide)⟩, fun e => absurd e (by decide)⟩
  obtain ⟨x, rfl, _, c3⟩ := BS.at hb (j := 3) rfl
  obtain ⟨x', e', _, c4⟩ := BS.at hb (j := 4) rfl
  cases e'
  obtain ⟨x', e', _, c15⟩ := BS.at hb (j := 15) rfl
  cases e'
  obtain ⟨x', e', _, c16⟩ := BS.at hb (j := 16) rfl
  cases e'
  refine ⟨x, rfl, by decide, by decide, _, c3, fun _ => ⟨x, rfl, by decide, by decide, _, c4, fun _ => ⟨x, rfl, by decide, by decide, _, c15, fun _ => ⟨x, rfl, by decide, by decide, _, c16, fun _ => ?_, fun e => absurd e (by decide)⟩, fun e => absurd e (by decide)⟩, fun e => absurd e (by decide)⟩, fun e => absurd e (by decide)⟩
  refine o2.reads.mono ?_
  rintro v _ ⟨rfl, rfl⟩
  exact ⟨_, rfl, rfl, o2.grow⟩
end Go.Proofs
set_option linter.unusedVariables false
set_option linter.unusedSimpArgs false
namespace Go.Proofs
open Go Go.V Go.Disk

theorem Tryz.c_bytesSame {h : Hp} {A B : Option Addr} {n c m d : Nat} {l : List UInt8} (s : BS h A n l) (t : BS h B m l) (hn : n ≤ 4611686018427387904) :
    CH Tryz.prog 19 #[.slice A n c, .slice B m d] h fun v h' => v = .bool true ∧ h' = h := by
  apply D_treadlelaw3_bytes.sound
  unfold D_treadlelaw3_bytes
  obtain rfl : n = m := s.1.trans t.1.symm
  refine ⟨fun e => by simp at e, fun _ => ⟨fun j h' mm => 0 ≤ j ∧ j ≤ n ∧ mm = n - j.toNat ∧ h' = h, ⟨n, by omega, by omega, by simp, rfl⟩, ?_⟩⟩
  rintro j _ mm ⟨h0, hj, rfl, rfl⟩
  unfold D_treadlelaw3_bytes.L2
  refine ⟨fun e => ?_, fun e => ⟨rfl, rfl⟩⟩
  have hlt := dec_t e
  obtain ⟨a, x, rfl, hx, hc⟩ := s.get h0 hlt
  obtain ⟨b, y, rfl, hy, hd⟩ := t.get h0 hlt
  rw [hx] at hy
  cases hy
  refine ⟨a, rfl, h0, hlt, _, hc, b, rfl, h0, hlt, _, hd, fun e => by simp at e, fun _ => ?_⟩
  rw [inc64 h0 hlt (by omega)]
  exact ⟨n - (j + 1).toNat, by omega, by omega, by omega, rfl, rfl⟩
theorem Tryz.c_intsSame {h : Hp} {A B : Option Addr} {n c m d : Nat} {l : List Int} (s : IS h A n l) (t : IS h B m l) (hn : n ≤ 4611686018427387904) :
    CH Tryz.prog 75 #[.slice A n c, .slice B m d] h fun v h' => v = .bool true ∧ h' = h := by
  apply D_treadlelaw3_ints.sound
  unfold D_treadlelaw3_ints
  obtain rfl : n = m := s.1.trans t.1.symm
  refine ⟨fun e => by simp at e, fun _ => ⟨fun j h' mm => 0 ≤ j ∧ j ≤ n ∧ mm = n - j.toNat ∧ h' = h, ⟨n, by omega, by omega, by simp, rfl⟩, ?_⟩⟩
  rintro j _ mm ⟨h0, hj, rfl, rfl⟩
  unfold D_treadlelaw3_ints.L2
  refine ⟨fun e => ?_, fun e => ⟨rfl, rfl⟩⟩
  have hlt := dec_t e
  obtain ⟨a, x, rfl, hx, hc⟩ := s.get h0 hlt
  obtain ⟨b, y, rfl, hy, hd⟩ := t.get h0 hlt
  rw [hx] at hy
  cases hy
  refine ⟨a, rfl, h0, hlt, _, hc, b, rfl, h0, hlt, _, hd, fun e => by simp at e, fun _ => ?_⟩
  rw [inc64 h0 hlt (by omega)]
  exact ⟨n - (j + 1).toNat, by omega, by omega, by omega, rfl, rfl⟩
/-- Texts behind a slice. -/
def SS (h : Hp) (A : Option Addr) (n : Nat) (l : List (List UInt8)) : Prop := n = l.length ∧ Src h n (l.map sv) A
theorem SS.get {h : Hp} {A : Option Addr} {n : Nat} {l : List (List UInt8)} (s : SS h A n l) {j : Int} (h0 : 0 ≤ j) (h1 : j < n) :
    ∃ a x, A = some a ∧ l[j.toNat]? = some x ∧ cell h (a.add (j.toNat * 1)) = some (sv x) := by
  obtain ⟨a, v, rfl, hv, hc⟩ := s.2.get1 (i := j.toNat) (by omega)
  rw [List.getElem?_map] at hv
  cases hx : l[j.toNat]? with
  | none => rw [hx] at hv; cases hv
  | some x =>
    rw [hx] at hv
    simp only [Option.map_some, Option.some.injEq] at hv
    exact ⟨a, x, rfl, rfl, by rw [Nat.mul_one, hc, ← hv]⟩
theorem Tryz.c_textsSame {h : Hp} {A B : Option Addr} {n c m d : Nat} {l : List (List UInt8)} (s : SS h A n l) (t : SS h B m l) (hn : n ≤ 4611686018427387904) :
    CH Tryz.prog 27 #[.slice A n c, .slice B m d] h fun v h' => v = .bool true ∧ h' = h := by
  apply D_treadlelaw3_texts.sound
  unfold D_treadlelaw3_texts
  obtain rfl : n = m := s.1.trans t.1.symm
  refine ⟨fun e => by simp at e, fun _ => ⟨fun j h' mm => 0 ≤ j ∧ j ≤ n ∧ mm = n - j.toNat ∧ h' = h, ⟨n, by omega, by omega, by simp, rfl⟩, ?_⟩⟩
  rintro j _ mm ⟨h0, hj, rfl, rfl⟩
  unfold D_treadlelaw3_texts.L2
  refine ⟨fun e => ?_, fun e => ⟨rfl, rfl⟩⟩
  have hlt := dec_t e
  obtain ⟨a, x, rfl, hx, hc⟩ := s.get h0 hlt
  obtain ⟨b, y, rfl, hy, hd⟩ := t.get h0 hlt
  rw [hx] at hy
  cases hy
  refine ⟨a, rfl, h0, hlt, _, hc, b, rfl, h0, hlt, _, hd, fun e => by simp at e, fun _ => ?_⟩
  rw [inc64 h0 hlt (by omega)]
  exact ⟨n - (j + 1).toNat, by omega, by omega, by omega, rfl, rfl⟩
theorem Tryz.FilesR.at {h : Hp} {V : Nat → Prop} {A : Option Addr} {n c : Nat} {l : List (List UInt8 × List UInt8)} (o : Tryz.FilesR h V A n c l) {j : Int} (h0 : 0 ≤ j) (h1 : j < n) :
    ∃ a x B m d, A = some a ∧ l[j.toNat]? = some x ∧ cell h (a.add (j.toNat * 2)) = some (sv x.1) ∧ cell h ((a.add (j.toNat * 2)).add 1) = some (.slice B m d) ∧ BS h B m x.2 := by
  have hl := o.len
  have hi : j.toNat < l.length := by omega
  obtain ⟨a, B, m, d, e, h2, h3, _, h5⟩ := o.get (List.getElem?_eq_getElem hi)
  exact ⟨a, _, B, m, d, e, List.getElem?_eq_getElem hi, h2, h3, h5⟩
theorem Tryz.c_filesSame {h : Hp} {V W : Nat → Prop} {A B : Option Addr} {n c m d : Nat} {l : List (List UInt8 × List UInt8)} (s : Tryz.FilesR h V A n c l) (t : Tryz.FilesR h W B m d l) (hn : n ≤ 4611686018427387904)
    (hb : ∀ x ∈ l, x.2.length ≤ 4611686018427387904) :
    CH Tryz.prog 34 #[.slice A n c, .slice B m d] h fun v h' => v = .bool true ∧ h' = h := by
  apply D_treadlelaw3_files.sound
  unfold D_treadlelaw3_files
  obtain rfl : n = m := s.len.trans t.len.symm
  refine ⟨fun e => by simp at e, fun _ => ⟨fun j h' mm => 0 ≤ j ∧ j ≤ n ∧ mm = n - j.toNat ∧ h' = h, ⟨n, by omega, by omega, by simp, rfl⟩, ?_⟩⟩
  rintro j _ mm ⟨h0, hj, rfl, rfl⟩
  unfold D_treadlelaw3_files.L2
  refine ⟨fun e => ?_, fun e => ⟨rfl, rfl⟩⟩
  have hlt := dec_t e
  obtain ⟨a, x, B1, m1, d1, rfl, hx, hc, hs, hbs⟩ := s.at h0 hlt
  obtain ⟨b, y, B2, m2, d2, rfl, hy, hd, ht, hbt⟩ := t.at h0 hlt
  rw [hx] at hy
  cases hy
  refine ⟨a, rfl, h0, hlt, _, hc, b, rfl, h0, hlt, _, hd, fun e => by simp at e, fun _ => ⟨a, rfl, h0, hlt, B1, m1, d1, hs, b, rfl, h0, hlt, B2, m2, d2, ht, ?_⟩⟩
  refine (Tryz.c_bytesSame hbs hbt (by rw [hbs.1]; exact hb x (List.mem_of_getElem? hx))).mono ?_
  rintro v _ ⟨rfl, rfl⟩
  refine ⟨_, rfl, ?_⟩
  unfold D_treadlelaw3_files.J3
  refine ⟨fun e => by simp at e, fun _ => ?_⟩
  rw [inc64 h0 hlt (by omega)]
  exact ⟨n - (j + 1).toNat, by omega, by omega, by omega, rfl, rfl⟩
theorem Tryz.c_roundL (v n : Int) (h : Hp) (hn : 0 < n) (hn' : n ≤ 4611686018427387904) : CH Tryz.prog 15 #[.int .i64 v, .int .i64 n] h fun r h' => r = .int .i64 (roundA v n) ∧ h' = h := by
  apply D_treadlelaw3_round.sound
  unfold D_treadlelaw3_round
  have h1 := Int.tmod_lt_of_pos v hn
  have h2 := Int.lt_tmod_of_pos v hn
  have h3 := tmod_round (v := v) hn
  have hm := Int.emod_emod_of_dvd
  refine ⟨by omega, fun e => ?_, fun e => ?_⟩
  · have e := dec_t e
    unfold D_treadlelaw3_round.J1
    rw [w64 (by omega) (by omega)]
    refine ⟨?_, rfl⟩
    congr 1
    unfold roundA at h3 ⊢
    have h4 : Int.tmod (Int.tmod v n + n) n = Int.tmod v n + n := Int.tmod_eq_of_lt (by omega) (by omega)
    rw [← h3]
    exact h4.symm
  · have e := dec_f e
    unfold D_treadlelaw3_round.J1
    refine ⟨?_, rfl⟩
    congr 1
    unfold roundA
    rw [← h3]
    have h5 : Int.tmod (Int.tmod v n + n) n = Int.tmod v n := by
      rw [Int.tmod_eq_emod_of_nonneg (by omega), Int.add_emod_right, Int.emod_eq_of_lt (by omega) h1]
    exact h5.symm
theorem Tryz.On.fresh {h0 h : Hp} (gr : Grow h0 h) (room files : Int) : CH Tryz.prog 10 #[.int .i64 room, .int .i64 files] h fun v h' =>
    ((room < 0 ∨ room > 4194304 ∨ files < 0 ∨ files > 512) ∧ v = .pointer none ∧ h' = h) ∨
    (¬ (room < 0 ∨ room > 4194304 ∨ files < 0 ∨ files > 512) ∧ ∃ d, v = .pointer (some ⟨d, 0, none⟩) ∧ Tryz.On h0 h' d (newA room files) 0 (fun b => h0.size ≤ b ∧ b < h.size) ∧ Grow h h') := by
  apply D_treadlelaw3_fresh.sound
  unfold D_treadlelaw3_fresh
  refine (Tryz.On.make gr room files).mono ?_
  rintro v h' (⟨h1, rfl, rfl⟩ | ⟨h1, d, rfl, h3⟩)
  · exact ⟨_, _, rfl, fun _ => .inl ⟨h1, rfl, rfl⟩, fun e => absurd e (by decide)⟩
  · exact ⟨_, _, rfl, fun e => absurd e (by decide), fun _ => .inr ⟨h1, d, rfl, h3⟩⟩
end Go.Proofs
set_option linter.unusedVariables false
set_option linter.unusedSimpArgs false
/-! DG: two files, "f" and "g", whose names are safe. -/
namespace Go.Disk
open Go Go.V Go.Proofs

abbrev sF : ByteArray := ByteArray.mk #[102]
abbrev sG : ByteArray := ByteArray.mk #[103]
def fgN : Nm := [([102], 1), ([103], 2)]
def st2 (F G : FileA) (ps : List (Int × Int)) (k r : Int) : DiskA := ⟨4194304, 3, 2, [(1, F), (2, G)], fgN, [], ps, [], k, r, false⟩
def FileA.put (f : FileA) (l : List UInt8) : FileA := if l = [] then f else ⟨f.safe, f.pend ++ [.app l]⟩
theorem st2_now (F G : FileA) (ps : List (Int × Int)) (k r : Int) : (st2 F G ps k r).now = fgN := rfl
theorem row_append (f : FileA) (c : Chg) : (FileA.mk f.safe (f.pend ++ [c])).row (f.pend ++ [c]).length = c.doR (f.row f.pend.length) := by
  unfold FileA.row
  rw [List.take_length, List.take_length, List.foldl_append]
  rfl
theorem put_bytes (f : FileA) (l : List UInt8) : (f.put l).bytes = f.bytes ++ l := by
  unfold FileA.put
  by_cases h : l = []
  · rw [if_pos h, h, List.append_nil]
  · rw [if_neg h]
    unfold FileA.bytes
    simp only
    rw [row_append]
    simp only [Chg.doR, List.map_append, List.map_map]
    congr 1
    show l.map (fun b => b) = l
    exact List.map_id l
theorem put_safe (f : FileA) (l : List UInt8) : (f.put l).safe = f.safe := by
  unfold FileA.put
  split <;> rfl
theorem put_ok {f : FileA} (h : f.ok) (l : List UInt8) : (f.put l).ok := by
  unfold FileA.put
  split
  · exact h
  · exact ok_add h trivial
theorem put_lens (f : FileA) (l : List UInt8) : (f.put l).lens.2 ≤ f.lens.2 + l.length := by
  unfold FileA.put
  split
  · omega
  · rw [lens_add]
    have := f.lens_le
    simp only [Chg.len]
    omega
theorem safe_bytes (l : List UInt8) : (FileA.mk l []).bytes = l := by
  show ((baseR l).map (·.1)) = l
  unfold baseR
  rw [List.map_map]
  exact List.map_id l
theorem lay_put {D : DiskA} {i : Int} {f : FileA} (hf : D.fileD i = f) {l : List UInt8} (h : (D.held : Int) + l.length ≤ D.room) (hle : f.lens.1 ≤ f.lens.2) (hm : ∀ p ∈ D.files, p.1 = i → p.2 = f) : D.layA i l = (0, D.setF i (f.put l)) := by
  unfold DiskA.layA FileA.put
  by_cases hl : l = []
  · rw [if_pos hl, if_pos hl]
    have : D.setF i f = D := by
      unfold DiskA.setF
      have : (D.files.map fun p => if p.1 = i then (p.1, f) else p) = D.files := by
        conv => rhs; rw [← List.map_id D.files]
        refine List.map_congr_left fun p hp => ?_
        by_cases e : p.1 = i
        · rw [if_pos e, ← hm p hp e]; rfl
        · rw [if_neg e]; rfl
      rw [this]
    rw [this]
  · rw [if_neg hl, if_neg hl, hf, if_neg (by omega)]
theorem st2_held (F G : FileA) (ps : List (Int × Int)) (k r : Int) : (st2 F G ps k r).held = F.lens.2 + G.lens.2 := by
  show F.lens.2 + (G.lens.2 + 0) = _
  omega
theorem st2_append {F G : FileA} {ps : List (Int × Int)} {k r : Int} (l : List UInt8) (hk : failErr (faultA ps (k + 1)) = 0) (hb : F.lens.2 + G.lens.2 + l.length ≤ 4194304) : (st2 F G ps k r).appendA sF l = (0, st2 (F.put l) G ps (k + 1) r) := by
  rw [append_ok (D := st2 F G ps k r) (i := 1) l rfl rfl rfl hk]
  have hs : (st2 F G ps k r).struck = st2 F G ps (k + 1) r := by
    unfold DiskA.struck DiskA.failed
    have : faultA ps (k + 1) ≠ 1 := fun h => by rw [h] at hk; exact absurd hk (by decide)
    have hd : decide ((st2 F G ps k r).kind = 1) = false := decide_eq_false this
    simp only [hd]
    rfl
  rw [hs, lay_put (f := F) rfl (by rw [st2_held]; show _ ≤ (4194304 : Int); omega) F.lens_le ?_]
  · rfl
  · intro p hp e
    rcases List.mem_cons.1 hp with rfl | hp
    · rfl
    · rw [List.mem_singleton.1 hp] at e; exact absurd (show (2 : Int) = 1 from e) (by decide)
theorem st2_struck {F G : FileA} {ps : List (Int × Int)} {k r : Int} (h : faultA ps (k + 1) ≠ 1) : (st2 F G ps k r).struck = st2 F G ps (k + 1) r := by
  unfold DiskA.struck DiskA.failed
  have hd : decide ((st2 F G ps k r).kind = 1) = false := decide_eq_false h
  simp only [hd]
  rfl
theorem st2_appendX {F G : FileA} {ps : List (Int × Int)} {k r : Int} (l : List UInt8) (hk : faultA ps (k + 1) = 4) : (st2 F G ps k r).appendA sF l = (10, st2 F G ps (k + 1) r) := by
  obtain ⟨h1, h2⟩ := there_ok (D := st2 F G ps k r) (s := sF) (i := 1) rfl rfl
  have hkd : (st2 F G ps k r).kind = 4 := hk
  unfold DiskA.appendA
  rw [if_neg (show ¬ ((st2 F G ps k r).off = true) from Bool.false_ne_true), if_neg (by rw [h1]; decide), hkd, if_pos (by decide), if_neg (by decide), st2_struck (by rw [hk]; decide)]
  rfl
theorem st2_appendH {F G : FileA} {ps : List (Int × Int)} {k r : Int} (l : List UInt8) (hk : faultA ps (k + 1) = 5) (hb : F.lens.2 + G.lens.2 + l.length ≤ 4194304) : (st2 F G ps k r).appendA sF l = (10, st2 (F.put (l.take (l.length / 2))) G ps (k + 1) r) := by
  obtain ⟨h1, h2⟩ := there_ok (D := st2 F G ps k r) (s := sF) (i := 1) rfl rfl
  have hkd : (st2 F G ps k r).kind = 5 := hk
  unfold DiskA.appendA
  rw [if_neg (show ¬ ((st2 F G ps k r).off = true) from Bool.false_ne_true), if_neg (by rw [h1]; decide), hkd, if_pos (by decide), if_pos rfl, h2, st2_struck (by rw [hk]; decide)]
  rw [lay_put (f := F) rfl (by rw [st2_held, List.length_take]; show _ ≤ (4194304 : Int); omega) F.lens_le ?_]
  · rfl
  · intro p hp e
    rcases List.mem_cons.1 hp with rfl | hp
    · rfl
    · rw [List.mem_singleton.1 hp] at e; exact absurd (show (2 : Int) = 1 from e) (by decide)
theorem st2_sync {F G : FileA} {ps : List (Int × Int)} {k r : Int} (hk : failErr (faultA ps (k + 1)) = 0) : (st2 F G ps k r).syncA sF = (0, st2 ⟨F.bytes, []⟩ G ps (k + 1) r) := by
  rw [sync_ok (D := st2 F G ps k r) (i := 1) rfl rfl rfl hk, st2_struck (fun h => by rw [h] at hk; exact absurd hk (by decide))]
  rfl
theorem st2_syncX {F G : FileA} {ps : List (Int × Int)} {k r : Int} (hk : faultA ps (k + 1) = 4) : (st2 F G ps k r).syncA sF = (10, st2 ⟨F.safe, []⟩ G ps (k + 1) r) := by
  obtain ⟨h1, h2⟩ := there_ok (D := st2 F G ps k r) (s := sF) (i := 1) rfl rfl
  have hkd : (st2 F G ps k r).kind = 4 := hk
  unfold DiskA.syncA
  rw [if_neg (show ¬ ((st2 F G ps k r).off = true) from Bool.false_ne_true), if_neg (by rw [h1]; decide), hkd, if_pos (by decide), if_pos rfl, h2, st2_struck (by rw [hk]; decide)]
  rfl
theorem st2_syncH {F G : FileA} {ps : List (Int × Int)} {k r : Int} (hk : faultA ps (k + 1) = 5) : (st2 F G ps k r).syncA sF = (10, st2 F G ps (k + 1) r) := by
  obtain ⟨h1, h2⟩ := there_ok (D := st2 F G ps k r) (s := sF) (i := 1) rfl rfl
  have hkd : (st2 F G ps k r).kind = 5 := hk
  unfold DiskA.syncA
  rw [if_neg (show ¬ ((st2 F G ps k r).off = true) from Bool.false_ne_true), if_neg (by rw [h1]; decide), hkd, if_pos (by decide), if_neg (by decide), st2_struck (by rw [hk]; decide)]
  rfl
theorem st2_names {F G : FileA} {ps : List (Int × Int)} {k r : Int} (hk : failErr (faultA ps (k + 1)) = 0) : (st2 F G ps k r).syncNamesA = (0, st2 F G ps (k + 1) r) := by
  rw [names_ok (D := st2 F G ps k r) rfl hk, st2_struck (fun h => by rw [h] at hk; exact absurd hk (by decide)), settle_eq]
  rfl
theorem st2_namesX {F G : FileA} {ps : List (Int × Int)} {k r : Int} (hk : faultA ps (k + 1) = 4 ∨ faultA ps (k + 1) = 5) : (st2 F G ps k r).syncNamesA = (10, st2 F G ps (k + 1) r) := by
  have hf : failErr (st2 F G ps k r).kind = 10 := by
    show failErr (faultA ps (k + 1)) = 10
    rcases hk with h | h <;> rw [h] <;> rfl
  unfold DiskA.syncNamesA
  rw [if_neg (show ¬ ((st2 F G ps k r).off = true) from Bool.false_ne_true), if_pos (by rw [hf]; decide), hf, st2_struck (by rcases hk with h | h <;> rw [h] <;> decide)]
theorem st2_trunc {F G : FileA} {ps : List (Int × Int)} {k r : Int} (hF : F.ok) (hk : failErr (faultA ps (k + 1)) = 0) : (st2 F G ps k r).truncA sF F.bytes.length = (0, st2 F G ps (k + 1) r) := by
  have hl : ((st2 F G ps k r).fileD 1).lens.1 = F.lens.1 := rfl
  rw [FileA.bytes_length hF, trunc_ok (D := st2 F G ps k r) (i := 1) rfl rfl rfl hk ⟨by omega, by rw [hl]; exact Int.le_refl _⟩, hl, if_pos rfl, st2_struck (fun h => by rw [h] at hk; exact absurd hk (by decide))]
theorem st2_truncX {F G : FileA} {ps : List (Int × Int)} {k r : Int} (hF : F.ok) (hk : faultA ps (k + 1) = 4 ∨ faultA ps (k + 1) = 5) : (st2 F G ps k r).truncA sF F.bytes.length = (10, st2 F G ps (k + 1) r) := by
  obtain ⟨h1, h2⟩ := there_ok (D := st2 F G ps k r) (s := sF) (i := 1) rfl rfl
  have hf : failErr (st2 F G ps k r).kind = 10 := by
    show failErr (faultA ps (k + 1)) = 10
    rcases hk with h | h <;> rw [h] <;> rfl
  have hl : ((st2 F G ps k r).fileD 1).lens.1 = F.lens.1 := rfl
  rw [FileA.bytes_length hF]
  unfold DiskA.truncA
  rw [if_neg (show ¬ ((st2 F G ps k r).off = true) from Bool.false_ne_true), if_neg (by rw [h1]; decide), h2, if_neg (by rw [hl]; omega), hf, if_pos (by decide), st2_struck (by rcases hk with h | h <;> rw [h] <;> decide)]
theorem st2_read {F G : FileA} {ps : List (Int × Int)} {k r : Int} : (st2 F G ps k r).readA sF = ((F.bytes, 0), st2 F G ps k (r + 1)) := read_ok (i := 1) rfl rfl rfl rfl
theorem st2_readG {F G : FileA} {ps : List (Int × Int)} {k r : Int} : (st2 F G ps k r).readA sG = ((G.bytes, 0), st2 F G ps k (r + 1)) := read_ok (i := 2) rfl rfl rfl rfl
theorem row_zero (f : FileA) : f.row 0 = baseR f.safe := rfl
theorem base_bytes (l : List UInt8) : (baseR l).map (·.1) = l := by unfold baseR; rw [List.map_map]; exact List.map_id l
theorem round_zero {n : Int} (hn : 0 < n) : roundA 0 n = 0 := Int.zero_emod n
theorem lost_zero (f : FileA) : lostF f (0, []) = f.safe := by
  unfold lostF doneA
  rw [round_zero (by omega)]
  unfold loseA
  have h : ∀ r : Rw, (if sectorsOf r.length = 0 then r else ([] : List Int).foldl (fun r v => loseAt r (sectorsOf r.length) v) r) = r := fun r => by split <;> rfl
  rw [h]
  exact (congrArg (List.map (·.1)) (row_zero f)).trans (base_bytes f.safe)
theorem st2_crash {F G : FileA} {ps : List (Int × Int)} {k r : Int} : (st2 F G ps k r).crashA ⟨0, [], []⟩ = st2 ⟨F.safe, []⟩ ⟨G.safe, []⟩ [] 0 0 := by
  unfold DiskA.crashA
  rw [settle_eq]
  have h1 : (st2 F G ps k r).crashN [] (st2 F G ps k r).files.length = st2 ⟨F.safe, []⟩ ⟨G.safe, []⟩ ps k r := by
    unfold DiskA.crashN
    have : crashF (st2 F G ps k r).files [] (st2 F G ps k r).files.length = [(1, ⟨F.safe, []⟩), (2, ⟨G.safe, []⟩)] := by
      show [(1, FileA.mk (lostF F (0, [])) []), (2, FileA.mk (lostF G (0, [])) [])] = _
      rw [lost_zero, lost_zero]
    rw [this]
    rfl
  rw [h1]
  rfl
/-- As DiskFaults begins. -/
theorem df1 : (newA 4194304 3).createA sF = (0, ⟨4194304, 3, 1, [(1, ⟨[], []⟩)], [], [⟨ByteArray.empty, sF, 1⟩], [], [], 1, 0, false⟩) := create_ok (ok_new (by omega)) rfl rfl rfl rfl (by decide)
def df2D (F G : FileA) (k : Int) : DiskA := ⟨4194304, 3, 2, [(1, F), (2, G)], [], [⟨ByteArray.empty, sF, 1⟩, ⟨ByteArray.empty, sG, 2⟩], [], [], k, 0, false⟩
theorem df1_now : namesA [] [⟨ByteArray.empty, sF, 1⟩] = [([102], 1)] := by
  show TurnA.doN _ _ = _
  rw [doN_eq]; rfl
theorem df2_now (F G : FileA) (k : Int) : (df2D F G k).now = fgN := by
  show TurnA.doN _ (TurnA.doN _ _) = _
  rw [doN_eq, doN_eq]; rfl
theorem df2 : DiskA.createA ⟨4194304, 3, 1, [(1, ⟨[], []⟩)], [], [⟨ByteArray.empty, sF, 1⟩], [], [], 1, 0, false⟩ sG = (0, df2D ⟨[], []⟩ ⟨[], []⟩ 2) := by
  have ok := ok_create (ok_new (room := 4194304) (most := 3) (by omega)) sF
  rw [df1] at ok
  exact create_ok ok rfl rfl (by unfold DiskA.now; rw [df1_now]; rfl) rfl (by decide)
theorem df2_held (F G : FileA) (k : Int) : (df2D F G k).held = F.lens.2 + G.lens.2 := by
  show F.lens.2 + (G.lens.2 + 0) = _
  omega
theorem df3 {F G : FileA} {k : Int} (l : List UInt8) (hb : F.lens.2 + G.lens.2 + l.length ≤ 4194304) : (df2D F G k).appendA sF l = (0, df2D (F.put l) G (k + 1)) := by
  rw [append_ok (i := 1) l rfl rfl (by rw [df2_now]; rfl) rfl]
  have hs : (df2D F G k).struck = df2D F G (k + 1) := rfl
  rw [hs, lay_put (f := F) rfl (by rw [df2_held]; show _ ≤ (4194304 : Int); omega) F.lens_le ?_]
  · rfl
  · intro p hp e
    rcases List.mem_cons.1 hp with rfl | hp
    · rfl
    · rw [List.mem_singleton.1 hp] at e; exact absurd (show (2 : Int) = 1 from e) (by decide)
theorem df4 {F G : FileA} {k : Int} (l : List UInt8) (hb : F.lens.2 + G.lens.2 + l.length ≤ 4194304) : (df2D F G k).appendA sG l = (0, df2D F (G.put l) (k + 1)) := by
  rw [append_ok (i := 2) l rfl rfl (by rw [df2_now]; rfl) rfl]
  have hs : (df2D F G k).struck = df2D F G (k + 1) := rfl
  rw [hs, lay_put (f := G) rfl (by rw [df2_held]; show _ ≤ (4194304 : Int); omega) G.lens_le ?_]
  · rfl
  · intro p hp e
    rcases List.mem_cons.1 hp with rfl | hp
    · exact absurd (show (1 : Int) = 2 from e) (by decide)
    · rw [List.mem_singleton.1 hp]
theorem df5 {F G : FileA} {k : Int} : (df2D F G k).syncA sF = (0, df2D ⟨F.bytes, []⟩ G (k + 1)) := by
  rw [sync_ok (i := 1) rfl rfl (by rw [df2_now]; rfl) rfl]
  rfl
theorem df6 {F G : FileA} {k : Int} : (df2D F G k).syncNamesA = (0, st2 F G [] (k + 1) 0) := by
  rw [names_ok rfl rfl, settle_eq, df2_now]
  rfl
end Go.Disk
set_option linter.unusedVariables false
set_option linter.unusedSimpArgs false
/-! DH: one file and its names. -/
namespace Go.Disk
open Go Go.V Go.Proofs

abbrev sB : ByteArray := ByteArray.mk #[98]
abbrev sC : ByteArray := ByteArray.mk #[99]
def st1 (F : FileA) (safe : Nm) (turns : List TurnA) (k r : Int) : DiskA := ⟨4194304, 2, 1, [(1, F)], safe, turns, [], [], k, r, false⟩
theorem st1_held (F : FileA) (safe : Nm) (turns : List TurnA) (k r : Int) : (st1 F safe turns k r).held = F.lens.2 := by
  show F.lens.2 + 0 = _
  omega
theorem st1_append {F : FileA} {safe : Nm} {turns : List TurnA} {k r : Int} {s : ByteArray} (l : List UInt8) (hs : namedA s = true) (hg : (namesA safe turns).get (bl s) = some 1) (hb : F.lens.2 + l.length ≤ 4194304) : (st1 F safe turns k r).appendA s l = (0, st1 (F.put l) safe turns (k + 1) r) := by
  rw [append_ok (D := st1 F safe turns k r) (i := 1) l rfl hs hg rfl]
  have hst : (st1 F safe turns k r).struck = st1 F safe turns (k + 1) r := rfl
  rw [hst, lay_put (f := F) rfl (by rw [st1_held]; show _ ≤ (4194304 : Int); omega) F.lens_le ?_]
  · rfl
  · intro p hp e
    rw [List.mem_singleton.1 hp]
theorem st1_sync {F : FileA} {safe : Nm} {turns : List TurnA} {k r : Int} {s : ByteArray} (hs : namedA s = true) (hg : (namesA safe turns).get (bl s) = some 1) : (st1 F safe turns k r).syncA s = (0, st1 ⟨F.bytes, []⟩ safe turns (k + 1) r) := by
  rw [sync_ok (D := st1 F safe turns k r) (i := 1) rfl hs hg rfl]
  rfl
theorem st1_names {F : FileA} {safe m : Nm} {turns : List TurnA} {k r : Int} (hm : namesA safe turns = m) : (st1 F safe turns k r).syncNamesA = (0, if (m.map (·.2)).contains 1 then st1 F m [] (k + 1) r else ⟨4194304, 2, 1, [], m, [], [], [], k + 1, r, false⟩) := by
  rw [names_ok (D := st1 F safe turns k r) rfl rfl, settle_eq]
  have hn : (st1 F safe turns k r).now = m := hm
  rw [hn]
  show (0, (⟨4194304, 2, 1, [((1 : Int), F)].filter fun p => (m.map (·.2)).contains p.1, m, [], [], [], k + 1, r, false⟩ : DiskA)) = _
  rw [List.filter_cons]
  split <;> rfl
theorem st1_rename {F : FileA} {safe : Nm} {turns : List TurnA} {k r : Int} {s t : ByteArray} (hs : namedA s = true) (hg : (namesA safe turns).get (bl s) = some 1) (ht : namedA t = true) (hne : bl s ≠ bl t) : (st1 F safe turns k r).renameA s t = (0, st1 F safe (turns ++ [⟨s, t, 1⟩]) (k + 1) r) := by
  rw [rename_ok (D := st1 F safe turns k r) (i := 1) rfl hs hg ht rfl, if_neg hne]
  rfl
theorem st1_remove {F : FileA} {safe : Nm} {turns : List TurnA} {k r : Int} {s : ByteArray} (hs : namedA s = true) (hg : (namesA safe turns).get (bl s) = some 1) : (st1 F safe turns k r).removeA s = (0, st1 F safe (turns ++ [⟨s, ByteArray.empty, 0⟩]) (k + 1) r) := by
  rw [remove_ok (D := st1 F safe turns k r) (i := 1) rfl hs hg rfl]
  rfl
theorem st1_read {F : FileA} {safe : Nm} {turns : List TurnA} {k r : Int} {s : ByteArray} (hs : namedA s = true) (hg : (namesA safe turns).get (bl s) = some 1) : (st1 F safe turns k r).readA s = ((F.bytes, 0), st1 F safe turns k (r + 1)) := by
  rw [read_ok (D := st1 F safe turns k r) (i := 1) rfl hs hg rfl]
  rfl
theorem st1_crash {F : FileA} {safe m : Nm} {turns : List TurnA} {k r : Int} {n : Int} {sk : List Int} (hm : namesA safe (leftA turns n sk) = m) (hc : (m.map (·.2)).contains 1 = true) : (st1 F safe turns k r).crashA ⟨n, sk, []⟩ = st1 ⟨F.safe, []⟩ m [] 0 0 := by
  unfold DiskA.crashA
  rw [settle_eq]
  have h1 : (st1 F safe turns k r).crashN [] (st1 F safe turns k r).files.length = st1 ⟨F.safe, []⟩ safe turns k r := by
    unfold DiskA.crashN
    have : crashF (st1 F safe turns k r).files [] (st1 F safe turns k r).files.length = [(1, ⟨F.safe, []⟩)] := by
      show [(1, FileA.mk (lostF F (0, [])) [])] = _
      rw [lost_zero]
    rw [this]
    rfl
  rw [h1]
  have hl : namesA (st1 F safe turns k r).safe (leftA (st1 F safe turns k r).turns n sk) = m := hm
  rw [hl]
  show (⟨4194304, 2, 1, [((1 : Int), FileA.mk F.safe [])].filter fun p => (m.map (·.2)).contains p.1, m, [], [], [], 0, 0, false⟩ : DiskA) = _
  rw [List.filter_cons, if_pos hc]
  rfl
theorem ns1 : (newA 4194304 2).createA sA = (0, st1 ⟨[], []⟩ [] [⟨ByteArray.empty, sA, 1⟩] 1 0) := create_ok (ok_new (by omega)) rfl rfl rfl rfl (by decide)
theorem ns_ab : namesA [([97], 1)] [⟨sA, sB, 1⟩] = [([98], 1)] := by
  show TurnA.doN _ _ = _
  rw [doN_eq]; rfl
theorem ns_left : namesA [([97], 1)] (leftA [⟨sA, sB, 1⟩, ⟨sB, sC, 1⟩] 2 [0]) = [([97], 1), ([99], 1)] := by
  show TurnA.doN ⟨sB, sC, 1⟩ (TurnA.doN blankT _) = _
  rw [doN_eq, doN_eq]; rfl
theorem ns_a0 : namesA [([97], 1), ([99], 1)] [⟨sA, ByteArray.empty, 0⟩] = [([99], 1)] := by
  show TurnA.doN _ _ = _
  rw [doN_eq]; rfl
theorem ns_c0 : namesA [([99], 1)] [⟨sC, ByteArray.empty, 0⟩] = [] := by
  show TurnA.doN _ _ = _
  rw [doN_eq]; rfl
theorem put_held (l k : List UInt8) : ((FileA.mk l []).put k).lens.2 = l.length + k.length := by
  unfold FileA.put
  by_cases h : k = []
  · rw [if_pos h, h, lens_safe]; simp
  · rw [if_neg h, lens_add, lens_safe]
    simp only [Chg.len]
    omega
end Go.Disk
set_option linter.unusedVariables false
set_option linter.unusedSimpArgs false
namespace Go.Proofs
open Go Go.V Go.Disk

theorem app_bytes {h : Hp} {A B : Option Addr} {n c m : Nat} {l k : List UInt8} {K : Option Addr → Nat → Nat → Hp → Prop} (o : OwnS h 5 1 A n c (l.map bv)) (s : BS h B m k) (hn : n ≤ 1099511627776) (hm : m ≤ 1099511627776)
    (kk : ∀ A' c' h', OwnS h' 5 1 A' (n + m) c' ((l ++ k).map bv) → Kp (inA A) h h' → (∀ b, inA A' b → inA A b ∨ h.size ≤ b) → K A' (n + m) c' h') :
    ∃ vs : List Value, Src h (m * 1) vs B ∧ (∀ v ∈ vs, oneC v = true) ∧ (n + m) * 1 ≤ 140737488355328 ∧ n + m ≤ 9223372036854775807 ∧ AppendV 5 (.int .u8 0 : Value) 1 h A n c m vs K := by
  refine ⟨k.map bv, by rw [Nat.mul_one]; exact s.2, one_bv k, by omega, by omega, AppendV.own o (by rw [List.length_map, s.1]; omega) rfl fun A' c' h' o1 k1 e1 => kk A' c' h' (by rw [List.map_append]; exact o1) k1 (app_in e1)⟩
theorem ownBS {h : Hp} {A : Option Addr} {n c : Nat} {l : List UInt8} (o : OwnS h 5 1 A n c (l.map bv)) : BS h A n l := by
  have hl := o.src.len
  rw [List.length_map] at hl
  exact ⟨by omega, by have := o.src; rwa [Nat.mul_one] at this⟩
/-- Bytes that no call on the disk turns. -/
def Stay (h0 h : Hp) (V : Nat → Prop) (A : Option Addr) (n : Nat) (l : List UInt8) : Prop := BS h A n l ∧ ((∀ b, inA A b → V b) ∨ BS h0 A n l)
theorem Stay.go {h0 h h' : Hp} {V V' : Nat → Prop} {A : Option Addr} {n : Nat} {l : List UInt8} (s : Stay h0 h V A n l) (k : Kp (Out h0 V) h h') (g : Grow h0 h') (hV : ∀ b, V b → V' b) : Stay h0 h' V' A n l := by
  obtain ⟨s1, s2 | s2⟩ := s
  · exact ⟨s1.kp k fun b hb hx => hx.2 (s2 b hb), .inl fun b hb => hV b (s2 b hb)⟩
  · exact ⟨s2.g g, .inr s2⟩
theorem Stay.more {h0 h h' : Hp} {V V' : Nat → Prop} {A : Option Addr} {n : Nat} {l : List UInt8} (s : Stay h0 h V A n l) (k : Grow h h') (hV : ∀ b, V b → V' b) : Stay h0 h' V' A n l := by
  obtain ⟨s1, s2 | s2⟩ := s
  · exact ⟨s1.g k, .inl fun b hb => hV b (s2 b hb)⟩
  · exact ⟨s1.g k, .inr s2⟩
end Go.Proofs
set_option linter.unusedVariables false
set_option linter.unusedSimpArgs false
namespace Go.Proofs
open Go Go.V Go.Disk

theorem Tryz.c_DiskNamesakes (h0 : Hp) {bA fA : Option Addr} {bn bc fn fc : Nat} {base more : List UInt8} (hb : BS h0 bA bn base) (hf : BS h0 fA fn more) (hbc : bn ≤ bc) (hfc : fn ≤ fc) :
    CH Tryz.prog 6 #[.slice bA bn bc, .slice fA fn fc] h0 fun v h' => v = .bool true ∧ Grow h0 h' := by
  apply D_treadlelaw3_DiskNamesakes.sound
  unfold D_treadlelaw3_DiskNamesakes
  have key : ∀ t : Bool, (t = false → bn ≤ 200000 ∧ fn ≤ 200000) → D_treadlelaw3_DiskNamesakes.J1 (fun v h' => v = .bool true ∧ Grow h0 h') bA bn bc fA fn fc t h0 := by
    intro t ht
    unfold D_treadlelaw3_DiskNamesakes.J1
    refine ⟨fun _ => (Tryz.c_known _).mono ?_, fun e => ?_⟩
    · rintro v h' ⟨rfl, g⟩
      exact ⟨_, rfl, rfl, g⟩
    obtain ⟨lb, lf⟩ := ht e
    have hbl := hb.1
    have hfl := hf.1
    refine (Tryz.On.fresh (h0 := h0) Kp.rfl' 4194304 2).mono ?_
    rintro v h9 (⟨h1, _⟩ | ⟨_, d, rfl, o, g9⟩)
    · omega
    refine ⟨_, rfl, fun e => Bool.noConfusion e, fun _ => ?_⟩
    have c := o.create (by omega) sA
    rw [ns1] at c
    refine c.mono ?_
    clear c o
    rintro v h1 ⟨rfl, o, _⟩
    refine ⟨_, rfl, fun e => Bool.noConfusion (show false = true from e), fun _ => ?_⟩
    have z0 : (FileA.mk [] []).lens.2 = 0 := rfl
    have c := o.append (by omega) sA (hb.g o.grow) (by omega) hbc
    rw [st1_append base rfl (by rw [know]; rfl) (by rw [z0]; omega)] at c
    refine c.mono ?_
    clear c o
    rintro v h3 ⟨rfl, o, _⟩
    refine ⟨_, rfl, fun e => Bool.noConfusion (show false = true from e), fun _ => ?_⟩
    have c := o.sync (by omega) sA
    rw [st1_sync rfl (by rw [know]; rfl)] at c
    refine c.mono ?_
    clear c o
    rintro v h5 ⟨rfl, o, _⟩
    refine ⟨_, rfl, fun e => Bool.noConfusion (show false = true from e), fun _ => ?_⟩
    have c := o.names (by omega)
    rw [st1_names know, if_pos (by decide)] at c
    refine c.mono ?_
    clear c o
    rintro v h6 ⟨rfl, o, _⟩
    have hB0 : ((FileA.mk [] []).put base).bytes = base := by rw [put_bytes, safe_bytes]; rfl
    rw [hB0] at o
    refine ⟨_, rfl, fun e => Bool.noConfusion (show false = true from e), fun _ => ?_⟩
    have c := o.rename (by omega) sA sB
    rw [st1_rename rfl rfl rfl (by decide)] at c
    refine c.mono ?_
    clear c o
    rintro v h7 ⟨rfl, o, _⟩
    refine ⟨_, rfl, fun e => Bool.noConfusion (show false = true from e), fun _ => ?_⟩
    have c := o.rename (by omega) sB sC
    rw [st1_rename rfl (by show (namesA [([97], 1)] [⟨sA, sB, 1⟩]).get _ = _; rw [ns_ab]; rfl) rfl (by decide)] at c
    refine c.mono ?_
    clear c o
    rintro v h8 ⟨rfl, o, _⟩
    refine ⟨_, rfl, ?_⟩
    unfold D_treadlelaw3_DiskNamesakes.J2
    refine ⟨fun e => Bool.noConfusion (show false = true from e), fun _ b15 h14 eb15 eh14 => ?_⟩
    obtain ⟨f15, g15, s15, l15⟩ := boxed eb15 eh14
    have z8 := o.grow.size
    have c := (o.new (by omega) g15).crash (by omega) (sA := some ⟨b15, 0, none⟩) (sn := 1) (sc := 1) (fA := none) (fn := 0) (fc := 0) (P := ⟨2, [0], []⟩)
      ⟨⟨rfl, rfl, row_all f15⟩, fun b hx => .inr (.inr (by have : b15 = b := inA_some.1 hx; omega)), by omega, [], rfl, ⟨rfl, rfl⟩, (fun b hx => (inA_none hx).elim), trivial⟩ (by omega)
    rw [st1_crash (m := [([97], 1), ([99], 1)]) (by exact ns_left) (by decide)] at c
    refine c.mono ?_
    clear c o
    rintro v h17 ⟨CA, Cn, Cc, rfl, V, hV, _, o, _⟩
    refine ⟨_, _, _, rfl, (o.list (by omega)).mono ?_⟩
    clear o
    rintro v h20 ⟨LA, Ln, Lc, rfl, oL, o, g20, _⟩
    refine ⟨_, _, _, _, rfl, fun e => Bool.noConfusion (show false = true from e), fun _ b149 h148 eb149 eh148 => ?_⟩
    obtain ⟨f149, g149, s149, l149⟩ := boxed eb149 eh148
    have oLs := oL.src
    have hLn : Ln = 2 := by have := oLs.len; simp only [List.length_map] at this; have h2 : (2 : Nat) = Ln * 1 := this; omega
    subst hLn
    have sL : SS h148 LA 2 [[97], [99]] := ⟨rfl, by have := oLs.g g149; exact this⟩
    refine (Tryz.c_textsSame sL (B := some ⟨b149, 0, none⟩) (m := 2) ⟨rfl, rfl, row_all f149⟩ (by omega)).mono ?_
    rintro v _ ⟨rfl, rfl⟩
    refine ⟨_, rfl, fun e => Bool.noConfusion e, fun _ => ?_⟩
    have o := o.new (by omega) g149
    have c := o.append (by omega) sC (hf.g o.grow) (by omega) hfc
    rw [st1_append more rfl rfl (by rw [lens_safe]; show base.length + more.length ≤ _; omega)] at c
    refine c.mono ?_
    clear c o
    rintro v h155 ⟨rfl, o, _⟩
    refine ⟨_, rfl, ?_⟩
    unfold D_treadlelaw3_DiskNamesakes.J3
    refine ⟨fun e => Bool.noConfusion (show false = true from e), fun _ b26 h25 eb26 eh25 => ?_⟩
    obtain ⟨f26, g26, s26, l26⟩ := boxed eb26 eh25
    have o25 := o.mine g26.kp
    have w25 : OwnS h25 5 1 (some ⟨b26, 0, none⟩) 0 0 (([] : List UInt8).map bv) := by rw [eb26, eh25]; exact OwnS.new (cur := #[]) rfl (Nat.le_refl _)
    refine app_bytes w25 (hb.g o25.grow) (by omega) (by omega) fun A c h33 w33 k33 e33 => ?_
    have hV1 : ∀ b, inA (some (⟨b26, 0, none⟩ : Addr)) b → h155.size ≤ b ∧ b < h25.size := fun b hx => by have : b26 = b := inA_some.1 hx; omega
    have o33 := o25.mine (k33.mono fun b _ hx => .inr (hV1 b hx))
    obtain ⟨V33, o33, v33⟩ : ∃ V33, Tryz.On h0 h33 d (st1 ((FileA.mk base []).put more) [([97], 1), ([99], 1)] [] (0 + 1) 0) _ V33 ∧ ∀ b, inA A b → V33 b := ⟨_, o33, fun b hx => by
      have hlt := w33.lt b hx
      rcases e33 b hx with hy | hy
      · exact .inl (.inr (hV1 b hy))
      · exact .inr ⟨hy, hlt⟩⟩
    refine app_bytes w33 (hf.g o33.grow) (by omega) (by omega) fun A2 c2 h44 w44 k44 e44 => ?_
    have o44 := o33.mine (k44.mono fun b _ hx => v33 b hx)
    obtain ⟨V44, o44, w44⟩ : ∃ V44, Tryz.On h0 h44 d (st1 ((FileA.mk base []).put more) [([97], 1), ([99], 1)] [] (0 + 1) 0) _ V44 ∧ Stay h0 h44 V44 A2 (0 + bn + fn) (base ++ more) := ⟨_, o44, ownBS w44, .inl fun b hx => by
      have hlt := w44.lt b hx
      rcases e44 b hx with hy | hy
      · exact .inl (v33 b hy)
      · exact .inr ⟨hy, hlt⟩⟩
    have hby : ((FileA.mk base []).put more).bytes = base ++ more := by rw [put_bytes, safe_bytes]
    have c := o44.read (by omega) sA
    rw [st1_read rfl rfl, hby] at c
    refine c.mono ?_
    clear c
    rintro v h46 ⟨XA, Xn, Xc, rfl, hX, _, _, V1, hV1', hXV, o46, k46⟩
    have w46 := w44.go k46 o46.grow hV1'
    have x46 : Stay h0 h46 V1 XA Xn (base ++ more) := ⟨hX, .inl hXV⟩
    have c := o46.read (by omega) sC
    rw [st1_read rfl rfl, hby] at c
    refine ⟨_, _, _, _, rfl, c.mono ?_⟩
    clear c
    rintro v h49 ⟨YA, Yn, Yc, rfl, hY, _, _, V2, hV2, hYV, o49, k49⟩
    have w49 := w46.go k49 o49.grow hV2
    have x49 := x46.go k49 o49.grow hV2
    have y49 : Stay h0 h49 V2 YA Yn (base ++ more) := ⟨hY, .inl hYV⟩
    refine ⟨_, _, _, _, rfl, (o49.held (by omega)).mono ?_⟩
    rintro v h52 ⟨rfl, o52, g52⟩
    have w52 := w49.more (V' := fun b => V2 b ∨ (h49.size ≤ b ∧ b < h52.size)) g52 fun _ h => .inl h
    have hlen : (base ++ more).length = bn + fn := by rw [List.length_append]; omega
    have hXn : Xn = bn + fn := by rw [← hlen]; exact x49.1.1
    have hYn : Yn = bn + fn := by rw [← hlen]; exact y49.1.1
    have hld : ∀ {D : DiskA} {N : Nat}, D.ok N → D.heldA = ((D.held : Int), (D.files.length : Int)) := fun ok => by unfold DiskA.heldA; rw [lives_files ok]
    have hh : (st1 ((FileA.mk base []).put more) [([97], 1), ([99], 1)] [] (0 + 1) (0 + 1 + 1)).heldA = (((bn + fn : Nat) : Int), 1) := by
      rw [hld o49.ok, st1_held, put_held, ← hbl, ← hfl]; rfl
    rw [hh]
    refine ⟨_, _, rfl, fun e => Bool.noConfusion (show false = true from e), fun _ => ⟨fun e => Bool.noConfusion (show false = true from e), fun _ => ?_⟩⟩
    refine (Tryz.c_bytesSame (x49.1.g g52) w52.1 (by omega)).mono ?_
    rintro v _ ⟨rfl, rfl⟩
    refine ⟨_, rfl, fun e => Bool.noConfusion e, fun _ => (Tryz.c_bytesSame (y49.1.g g52) w52.1 (by omega)).mono ?_⟩
    rintro v _ ⟨rfl, rfl⟩
    refine ⟨_, rfl, fun e => Bool.noConfusion e, fun _ => ⟨fun e => ?_, fun _ => ⟨fun e => Bool.noConfusion (show false = true from e), fun _ => ?_⟩⟩⟩
    · simp at e
    have c := o52.sync (by omega) sA
    rw [st1_sync rfl rfl, hby] at c
    refine c.mono ?_
    clear c
    rintro v h127 ⟨rfl, o, k127⟩
    have w := w52.go k127 o.grow fun _ h => h
    refine ⟨_, rfl, fun e => Bool.noConfusion (show false = true from e), fun _ => ?_⟩
    have c := o.remove (by omega) sA
    rw [st1_remove rfl rfl] at c
    refine c.mono ?_
    clear c o
    rintro v h131 ⟨rfl, o, k131⟩
    have w := w.go k131 o.grow fun _ h => h
    simp only [List.nil_append] at o
    refine ⟨_, rfl, fun e => Bool.noConfusion (show false = true from e), fun _ => ?_⟩
    have c := o.names (by omega)
    rw [st1_names (m := [([99], 1)]) ns_a0, if_pos (by decide)] at c
    refine c.mono ?_
    clear c o
    rintro v h135 ⟨rfl, o, k135⟩
    have w := w.go k135 o.grow fun _ h => h
    refine ⟨_, rfl, ?_⟩
    unfold D_treadlelaw3_DiskNamesakes.J4
    refine ⟨fun e => Bool.noConfusion (show false = true from e), fun _ => ?_⟩
    have c := o.crash (by omega) (sA := none) (sn := 0) (sc := 0) (fA := none) (fn := 0) (fc := 0) (P := ⟨0, [], []⟩) ⟨IS.nil _, (fun b hx => (inA_none hx).elim), by omega, [], rfl, ⟨rfl, rfl⟩, (fun b hx => (inA_none hx).elim), trivial⟩ (by omega)
    rw [st1_crash (m := [([99], 1)]) rfl (by decide)] at c
    refine c.mono ?_
    clear c o
    rintro v h58 ⟨EA, En, Ec, rfl, V3, hV3, _, o, k58⟩
    have w := w.go k58 o.grow hV3
    refine ⟨_, _, _, rfl, (o.safe (by omega)).mono ?_⟩
    rintro v h61 ⟨SA, Sn, Sc, rfl, fS, o61, g61⟩
    have w61 := w.more (V' := fun b => V3 b ∨ (h58.size ≤ b ∧ b < h61.size)) g61 fun _ h => .inl h
    have hSn := fS.len
    have hSn : Sn = 1 := hSn
    subst hSn
    obtain ⟨a, D, p, q, rfl, e1, e2, oD, bD⟩ := fS.get (i := 0) (x := ([99], base ++ more)) rfl
    refine ⟨_, _, _, rfl, fun e => Bool.noConfusion (show false = true from e), fun _ => ⟨a, rfl, by omega, by omega, _, e1, fun e => ?_, fun _ => ⟨a, rfl, by omega, by omega, D, p, q, e2, ?_⟩⟩⟩
    · simp at e
    refine (Tryz.c_bytesSame bD w61.1 (by have := bD.1; simp only at this; omega)).mono ?_
    rintro v _ ⟨rfl, rfl⟩
    refine ⟨_, rfl, fun e => Bool.noConfusion e, fun _ => ?_⟩
    have c := o61.remove (by omega) sC
    rw [st1_remove rfl rfl] at c
    refine c.mono ?_
    clear c o
    rintro v h108 ⟨rfl, o, k108⟩
    refine ⟨_, rfl, ?_⟩
    unfold D_treadlelaw3_DiskNamesakes.J5
    refine ⟨fun e => Bool.noConfusion (show false = true from e), fun _ => (o.held (by omega)).mono ?_⟩
    rintro v h67 ⟨rfl, o67, g67⟩
    simp only [List.nil_append] at o67
    rw [hld o.ok, st1_held, lens_safe]
    refine ⟨_, _, rfl, fun e => ?_, fun _ => ⟨fun e => Bool.noConfusion (show false = true from e), fun _ => ?_⟩⟩
    · rw [show (FileA.mk (base ++ more) []).safe = base ++ more from rfl, hlen] at e
      simp at e
    have c := o67.names (by omega)
    rw [st1_names (m := []) ns_c0, if_neg (by decide)] at c
    refine c.mono ?_
    clear c
    rintro v h85 ⟨rfl, o85, k85⟩
    refine ⟨_, rfl, ?_⟩
    unfold D_treadlelaw3_DiskNamesakes.J6
    refine ⟨fun e => Bool.noConfusion (show false = true from e), fun _ => (o85.held (by omega)).mono ?_⟩
    rintro v h73 ⟨rfl, o73, g73⟩
    rw [hld o85.ok]
    refine ⟨_, _, rfl, fun _ => ⟨fun _ => (Tryz.c_known _).mono ?_, fun e => Bool.noConfusion (show true = false from e)⟩, fun e => Bool.noConfusion (show true = false from e)⟩
    rintro v h78 ⟨rfl, g78⟩
    exact ⟨_, rfl, rfl, o73.grow.trans g78⟩
  refine ⟨fun e => key _ (fun x => by cases x), fun e => key _ fun x => ?_⟩
  simp at e x
  omega
end Go.Proofs
set_option linter.unusedVariables false
/-! DkR: what a row hands in, over heaps. -/
namespace Go.Proofs.YteabnfdeklajlaaGreat.rowKit
open Go.ChangeShapes Go.WideShapes Go.ChangeAt Go.RowKit Go.V Go.Disk

theorem own : ownKnob Tryz.prog.godebug = none := by kernel_rfl
theorem laid : laidOutB Tryz.prog = true := by kernel_rfl
theorem below {w w' : World} (s : Go.V.Same w w') (g : Go.V.Grow w.heap w'.heap) : Below w.heap.size w w' := ⟨s.os, s.tape, s.output, g.size, fun k hk => g.block k hk id⟩
theorem kept {w w' : World} (s : Go.V.Same w w') (g : Go.V.Grow w.heap w'.heap) (may : MemPlace → Prop) : w.keptBut w' may := by
  refine ⟨s.os, s.output, fun i hi => ?_⟩
  rw [g.block i hi id]
  split
  · rename_i h1 h2; rw [h1] at h2; cases h2; exact ⟨rfl, rfl, rfl, fun _ _ => rfl⟩
  · rename_i h1 h2; rw [h1] at h2; cases h2; exact .inr ⟨rfl, rfl⟩
  · rfl
def rowed (P : Program) (ts : List TypeId) : Bool := ts.all fun t => P.readableRec t && decide (t < P.types.size)
theorem trodAll_stays {H : Type} {enc : TypeId × Value → H} {P : Program} (hl : laidOutB P = true) {W W' : World} (hb : Below W.heap.size W W') :
    ∀ {ts : List TypeId} {vs : List Value} {ds : List (DataW H)} {ps : List MemPlace}, rowed P ts = true → DataW.TrodAll enc P W 0 (fun _ => true) true ts vs ds ps → (∀ x ∈ ps, x.block < W.heap.size) →
      DataW.TrodAll enc P W' 0 (fun b => decide (b < W.heap.size)) true ts vs ds ps
  | [], _, _, _, _, h, _ => by
    obtain ⟨rfl, rfl, rfl⟩ := trodAll_nil h
    exact trodAll_mk0
  | t :: ts, _, _, _, hr, h, hlt => by
    obtain ⟨v, vs1, d, ds1, p, q, rfl, rfl, rfl, h1, h2⟩ := trodAll_cons h
    simp only [rowed, List.all_cons, Bool.and_eq_true, decide_eq_true_eq] at hr
    exact trodAll_cons_mk (Below.trod hl hr.1.1 hr.1.2 h1 hb fun x hx => hlt x (List.mem_append_left _ hx)) (trodAll_stays hl hb hr.2 h2 fun x hx => hlt x (List.mem_append_right _ hx))
/-- What was handed in reads as it did; what is answered is plain; nothing that was there has turned. -/
theorem shut {H : Type} {enc : TypeId × Value → H} {f : Func} {s : ChangeSpec} {apart fresh handsOn : Bool} {W W' : World} {args : Array Value} {ds gs : List (DataW H)} {before : List MemPlace}
    (hW : DataW.Whole enc Tryz.prog f.params.toList s.vars apart W args.toList ds gs before) (hr : rowed Tryz.prog f.params.toList = true) (hvars : s.vars = [])
    (hf : f.resultTypes = #[4]) (hsp : s.fn H ds = { results := [.lit (.bool true)], args := ds }) (sm : Go.V.Same W W') (g : Go.V.Grow W.heap W'.heap) :
    s.post enc Tryz.prog f apart fresh handsOn false W args (.bool true) W' := by
  have hold : ∀ p ∈ before, (fun b => decide (b < W.heap.size)) p.block = true := fun p hp => by simpa using hW.lt p hp
  have hlt := hW.lt
  have hW' := hW
  obtain ⟨p, q, hA, hV, rfl, hfz, hnd⟩ := hW
  rw [hvars] at hV
  obtain ⟨rfl, rfl⟩ := trodVars_none hV
  have hgs : s.fn H (ds ++ []) = { results := [.lit (.bool true)], args := ds } := by rw [List.append_nil]; exact hsp
  refine ⟨ds, [], p ++ [], [], p, [], hW', ?_, ?_, ?_, kept sm g _, fun h => by cases h⟩
  · rw [hgs, hf]
    exact trodAll_cons_mk (shut_bool Tryz.underlying4 _) trodAll_mk0
  · rw [hgs]
    exact trodAll_stays laid (below sm g) hr hA fun x hx => hlt x (List.mem_append_left _ hx)
  · rw [hgs, hvars]
    rfl
theorem cells5 : Tryz.prog.cellsOf 5 = 1 := by kernel_rfl
theorem cells3 : Tryz.prog.cellsOf 3 = 1 := by kernel_rfl
theorem wf_u8 {n : Int} (h : (Lit.int .u8 n).wf = true) : 0 ≤ n ∧ n ≤ 255 := by simpa [Lit.wf, IntKind.min, IntKind.max, IntKind.signed, IntKind.bits] using h
set_option maxRecDepth 100000 in
/-- Bytes that came in. -/
theorem open_bs {H : Type} {enc : TypeId × Value → H} {W : World} {base : Nat} {v : Value} {d : DataW H} {p : List MemPlace} {sp : Nat → Bool} (hval : Value.okWide Tryz.prog W .any base 22 v) (h : DataW.Trod enc Tryz.prog W 0 sp true 22 v d p) :
    ∃ A n c l, v = .slice A n c ∧ BS W.heap A n l ∧ n ≤ c := by
  obtain ⟨a1, len, cap, rfl⟩ := okWide_slice Tryz.underlying22 hval
  obtain ⟨fuel, hf⟩ := h
  rcases open_ints Tryz.underlying22 Tryz.underlying5 cells5 hf with ⟨hcs, hx⟩ | ⟨a, len', cap', zs, hcs, _, hl, hm, hz, hx, hcell, hwz⟩
  · simp [Value.cells] at hcs
    obtain ⟨rfl, rfl, rfl⟩ := hcs
    exact ⟨none, 0, 0, [], rfl, BS.nil _, Nat.le_refl _⟩
  · simp [Value.cells] at hcs
    obtain ⟨rfl, rfl, rfl⟩ := hcs
    have hzl : len ≤ zs.length := by rw [hz]; split <;> omega
    have hlen : ((zs.take len).map fun n => UInt8.ofNat n.toNat).length = len := by simp; omega
    refine ⟨some a, len, cap, (zs.take len).map fun n => UInt8.ofNat n.toNat, rfl, ⟨hlen.symm, by rw [List.length_map, hlen], fun i v hv => ?_⟩, hl⟩
    rw [List.getElem?_map, List.getElem?_map] at hv
    cases hg : (zs.take len)[i]? with
    | none => rw [hg] at hv; cases hv
    | some x =>
      rw [hg] at hv
      cases hv
      rw [List.getElem?_take] at hg
      split at hg
      · rename_i hi
        have hc := hcell i (by omega)
        have hgd : zs.getD i 0 = x := by rw [List.getD, hg]; rfl
        rw [hgd] at hc
        have hw := wf_u8 (hwz x (List.mem_of_getElem? hg))
        rw [← cell_eq, hc]
        unfold bv
        congr 2
        simp only [UInt8.toNat_ofNat']
        omega
      · cases hg
end Go.Proofs.YteabnfdeklajlaaGreat.rowKit
