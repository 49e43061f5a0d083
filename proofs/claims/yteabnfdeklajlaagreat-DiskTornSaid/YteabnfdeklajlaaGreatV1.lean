/- Part of a proof, by program out of hand-written texts. -/
import Derived.Below
import Derived.Carry
import Derived.Laws.AppendOwn
import Derived.Laws.BytesString
import Derived.Laws.Entries
import Derived.Laws.IdiomCopy
import Derived.Laws.IdiomStrings
import Derived.Laws.MakeOwn
import Derived.Laws.Sem
import Derived.Laws.Slices
import Derived.Laws.Strings
import Derived.Laws.Strings2
import Derived.Laws.Strings3
import Derived.Laws.Tables
import Derived.Laws.World
import Derived.Maps.Own
import Derived.Maps.OwnSet
import Derived.Orders
import Derived.Tactics
/-! V: a frame as a function, a world as a heap: rules over which a program writes the plain reading of a Go function. -/
namespace Go.V
open Go
abbrev Hp := Array Obj
abbrev Frm := Nat → Value

def upd (f : Frm) (d : Nat) (v : Value) : Frm := fun t => cond (Nat.beq t d) v (f t)

def ev (f : Frm) : Operand → Value
  | .tmp t => f t
  | .const v => v
  | .global g => .pointer (some ⟨g, 0, none⟩)
  | .func k => .func (.func k) #[] #[]

structure FR (n : Nat) (ds : List Deferred) (f : Frm) (a : Act) : Prop where
  size : a.tmps.size = n
  defers : a.defers = ds
  get : ∀ t, a.tmps.getD t undef = f t

theorem FR.eval {n : Nat} {ds : List Deferred} {f : Frm} {a : Act} (h : FR n ds f a) : a.eval = ev f := by
  funext x
  cases x <;> simp [Act.eval, ev, h.get]

theorem FR.put {n : Nat} {ds : List Deferred} {f : Frm} {a : Act} (h : FR n ds f a) {d : Nat} (hd : d < n) (v : Value) :
    FR n ds (upd f d v) (a.put (some d) v) := by
  refine ⟨by simp [Act.put, h.size], by simp [Act.put, h.defers], fun t => ?_⟩
  have hs : d < a.tmps.size := by rw [h.size]; exact hd
  simp only [Act.put, upd]
  by_cases e : t = d
  · subst e
    simp [Array.getD_eq_getD_getElem?, hs]
  · have hb : Nat.beq t d = false := by
      cases hb : Nat.beq t d with
      | false => rfl
      | true => exact absurd (Nat.eq_of_beq_eq_true hb) e
    have hg := h.get t
    simp only [Array.getD_eq_getD_getElem?] at hg ⊢
    rw [hb, Array.getElem?_setIfInBounds_ne (by omega)]
    exact hg

/-- The two worlds have the same outside. -/
structure Same (w w' : World) : Prop where
  os : w'.os = w.os
  tape : w'.tape = w.tape
  output : w'.output = w.output

theorem Same.rfl' (w : World) : Same w w := ⟨rfl, rfl, rfl⟩
theorem Same.trans {a b c : World} (h : Same a b) (k : Same b c) : Same a c :=
  ⟨k.os.trans h.os, k.tape.trans h.tape, k.output.trans h.output⟩

abbrev QT := Exit → List Deferred → Frm → Hp → Prop

def lift (n : Nat) (Q : QT) (W0 : World) : Exit → Act → World → Prop := fun e a w =>
  (match e with | .outgrown => False | _ => True) ∧ ∃ ds f, FR n ds f a ∧ Same W0 w ∧ Q e ds f w.heap

/-- Code, from a frame and a heap. -/
def VC (P : Program) (n : Nat) (c : Code) (Q : QT) (ds : List Deferred) (f : Frm) (h : Hp) : Prop :=
  ∀ (W0 : World) (a : Act) (w : World), FR n ds f a → w.heap = h → Same W0 w → c.wp P (lift n Q W0) a w

def VL (P : Program) (n : Nat) (ops : Array Oper) (Q : QT) (l : List Oper) (ds : List Deferred) (f : Frm) (h : Hp) : Prop :=
  ∀ (W0 : World) (a : Act) (w : World), FR n ds f a → w.heap = h → Same W0 w → wpList P ops (lift n Q W0) l a w

/-- A call: what it hands back, and the heap then. -/
def CHE (P : Program) (k : FuncId) (args : Array Value) (h : Hp) (R : Value → Hp → Prop) (E : List PanicEntry → Hp → Prop) : Prop :=
  ∀ w : World, w.heap = h → Calls P k args w fun e w' => match e with
    | .returned v => Same w w' ∧ R v w'.heap
    | .panicked c => Same w w' ∧ E c w'.heap
    | .outgrown => False

def CH (P : Program) (k : FuncId) (args : Array Value) (h : Hp) (R : Value → Hp → Prop) : Prop :=
  CHE P k args h R fun _ _ => False

variable {P : Program} {n : Nat} {Q : QT} {ds : List Deferred} {f : Frm} {h : Hp}
theorem CHE.mono {k : FuncId} {args : Array Value} {R R' : Value → Hp → Prop} {E E' : List PanicEntry → Hp → Prop}
    (c : CHE P k args h R E) (hr : ∀ v h', R v h' → R' v h') (he : ∀ v h', E v h' → E' v h') : CHE P k args h R' E' := fun w hw =>
  (c w hw).mono fun e w' => by
    cases e with
    | returned v => exact fun ⟨s, r⟩ => ⟨s, hr _ _ r⟩
    | panicked v => exact fun ⟨s, r⟩ => ⟨s, he _ _ r⟩
    | outgrown => exact id

theorem CH.mono {k : FuncId} {args : Array Value} {R R' : Value → Hp → Prop}
    (c : CH P k args h R) (hr : ∀ v h', R v h' → R' v h') : CH P k args h R' := CHE.mono c hr fun _ _ => id

/-! ### control -/
def thenQ (K : List Deferred → Frm → Hp → Prop) (Q : QT) : QT
  | .normal, ds, f, h => K ds f h
  | e, ds, f, h => Q e ds f h

theorem VC.mono {c : Code} {Q' : QT} (k : VC P n c Q ds f h) (hq : ∀ e ds f h, Q e ds f h → Q' e ds f h) : VC P n c Q' ds f h :=
  fun W0 a w hf hw hs => wp_mono (k W0 a w hf hw hs) fun _ _ _ ⟨ho, ds', f', x, y, z⟩ => ⟨ho, ds', f', x, y, hq _ _ _ _ z⟩

theorem VC.seq {x y : Code} (k : VC P n x (thenQ (VC P n y Q) Q) ds f h) : VC P n (.seq x y) Q ds f h :=
  fun W0 a w hf hw hs => wp_seq (wp_mono (k W0 a w hf hw hs) fun e a' w' ⟨ho, ds', f', hf', hs', hq⟩ => by
    cases e with
    | normal => exact hq W0 a' w' hf' rfl hs'
    | exit id => exact ⟨ho, ds', f', hf', hs', hq⟩
    | goto l => exact ⟨ho, ds', f', hf', hs', hq⟩
    | ret => exact ⟨ho, ds', f', hf', hs', hq⟩
    | panic ch => exact ⟨ho, ds', f', hf', hs', hq⟩
    | outgrown => exact ho.elim)

theorem VC.skip (k : Q .normal ds f h) : VC P n .skip Q ds f h :=
  fun _ _ _ hf hw hs => wp_skip ⟨trivial, ds, f, hf, hs, by rw [hw]; exact k⟩
theorem VC.ret (k : Q .ret ds f h) : VC P n .ret Q ds f h :=
  fun _ _ _ hf hw hs => wp_ret ⟨trivial, ds, f, hf, hs, by rw [hw]; exact k⟩
theorem VC.exit {id : Nat} (k : Q (.exit id) ds f h) : VC P n (.exit id) Q ds f h :=
  fun _ _ _ hf hw hs => wp_exit ⟨trivial, ds, f, hf, hs, by rw [hw]; exact k⟩
theorem VC.goto {id : Nat} (k : Q (.goto id) ds f h) : VC P n (.goto id) Q ds f h :=
  fun _ _ _ hf hw hs => wp_goto ⟨trivial, ds, f, hf, hs, by rw [hw]; exact k⟩
theorem VC.cond {c : Operand} {x y : Code} {t : Bool} (hc : ev f c = .bool t)
    (kt : t = true → VC P n x Q ds f h) (kf : t = false → VC P n y Q ds f h) : VC P n (.cond c x y) Q ds f h :=
  fun W0 a w hf hw hs => wp_cond_split (t := t) (by rw [hf.eval]; exact hc) (fun e => kt e W0 a w hf hw hs) (fun e => kf e W0 a w hf hw hs)

def blockQ (id : Nat) (Q : QT) : QT
  | .exit id', ds, f, h => if id' = id then Q .normal ds f h else Q (.exit id') ds f h
  | e, ds, f, h => Q e ds f h

theorem VC.block {id : Nat} {c : Code} (k : VC P n c (blockQ id Q) ds f h) : VC P n (.block id c) Q ds f h :=
  fun W0 a w hf hw hs => wp_block (wp_mono (k W0 a w hf hw hs) fun e a' w' ⟨ho, ds', f', hf', hs', hq⟩ => by
    cases e with
    | exit id' =>
      simp only [Exit.inBlock]
      simp only [blockQ] at hq
      split
      · rename_i he; rw [if_pos he] at hq; exact ⟨trivial, ds', f', hf', hs', hq⟩
      · rename_i he; rw [if_neg he] at hq; exact ⟨trivial, ds', f', hf', hs', hq⟩
    | normal => exact ⟨ho, ds', f', hf', hs', hq⟩
    | goto l => exact ⟨ho, ds', f', hf', hs', hq⟩
    | ret => exact ⟨ho, ds', f', hf', hs', hq⟩
    | panic ch => exact ⟨ho, ds', f', hf', hs', hq⟩
    | outgrown => exact ho.elim)

theorem VC.loop {c : Code} (I : List Deferred → Frm → Hp → Nat → Prop) {m0 : Nat} (h0 : I ds f h m0)
    (round : ∀ ds f h m, I ds f h m → VC P n c (thenQ (fun ds' f' h' => ∃ m', m' < m ∧ I ds' f' h' m') Q) ds f h) :
    VC P n (.loop c) Q ds f h := by
  classical
  intro W0 a w hf hw hs
  let J : Act → World → Nat → Prop := fun a w m => ∃ ds f, FR n ds f a ∧ Same W0 w ∧ I ds f w.heap m
  have least : ∀ a w, (∃ m, J a w m) → ∃ m, J a w m ∧ ∀ m', J a w m' → m ≤ m' := by
    intro a w ⟨m, hm⟩
    induction m using Nat.strongRecOn with
    | _ m ih =>
      by_cases hx : ∃ m', m' < m ∧ J a w m'
      · obtain ⟨m', hlt, hj⟩ := hx
        exact ih m' hlt hj
      · exact ⟨m, hm, fun m' hj => Nat.le_of_not_lt fun hlt => hx ⟨m', hlt, hj⟩⟩
  let μ : Act → World → Nat := fun a w => if hx : ∃ m, J a w m then (least a w hx).choose else 0
  have hμ : ∀ a w m, J a w m → J a w (μ a w) ∧ μ a w ≤ m := by
    intro a w m hj
    have hx : ∃ m, J a w m := ⟨m, hj⟩
    have hs := (least a w hx).choose_spec
    simp only [μ, dif_pos hx]
    exact ⟨hs.1, hs.2 m hj⟩
  refine wp_loop (fun a w => ∃ m, J a w m) μ ⟨m0, ds, f, hf, hs, by rw [hw]; exact h0⟩ ?_
  intro a w ⟨m, hj⟩
  obtain ⟨⟨ds, f, hf, hs, hI⟩, _⟩ := hμ a w m hj
  refine wp_mono (round ds f w.heap (μ a w) hI W0 a w hf rfl hs) fun e a' w' ⟨ho, ds', f', hf', hs', hq⟩ => ?_
  cases e with
  | normal =>
    obtain ⟨m', hlt, hI'⟩ := hq
    have hj' : J a' w' m' := ⟨ds', f', hf', hs', hI'⟩
    exact ⟨⟨m', hj'⟩, Nat.lt_of_le_of_lt (hμ a' w' m' hj').2 hlt⟩
  | exit id => exact ⟨ho, ds', f', hf', hs', hq⟩
  | goto l => exact ⟨ho, ds', f', hf', hs', hq⟩
  | ret => exact ⟨ho, ds', f', hf', hs', hq⟩
  | panic ch => exact ⟨ho, ds', f', hf', hs', hq⟩
  | outgrown => exact ho.elim
end Go.V
namespace Go.V
open Go
def cell (h : Hp) (a : Addr) : Option Value :=
  match h[a.block]? with
  | some (.cells c _ _) => if a.spot.isSome then none else c[a.off]?
  | _ => none
def froz (h : Hp) (a : Addr) : Bool :=
  match h[a.block]? with
  | some (.cells _ _ (lo, hi)) => lo ≤ a.off && a.off < hi
  | _ => false
def setc (h : Hp) (a : Addr) (v : Value) : Hp :=
  h.modify a.block fun
    | .cells c elem fr => .cells (if a.spot.isSome then c else c.setIfInBounds a.off v) elem fr
    | o => o
theorem cell_eq (w : World) (a : Addr) : w.cell? a = cell w.heap a := rfl
theorem froz_eq (w : World) (a : Addr) : w.frozen? a = froz w.heap a := rfl

def putF (f : Frm) (dst : Option Nat) (v : Value) : Frm :=
  match dst with
  | some d => upd f d v
  | none => f

/-- One operation from a heap: what it yields. -/
def OE (P : Program) (ρ : Operand → Value) (o : Oper) (h : Hp) (R : Value → Hp → Prop) (E : List PanicEntry → Hp → Prop) : Prop :=
  ∀ w : World, w.heap = h → match (execOp ρ o).run P w with
    | .ok (.value v) w' => Same w w' ∧ R v w'.heap
    | .ok .skip w' => Same w w' ∧ R undef w'.heap
    | .ok (.enter k args) w' => Same w w' ∧ CHE P k args w'.heap R E
    | .halt (.panic v) w' => Same w w' ∧ E [{ v, recovered := false }] w'.heap
    | _ => False

variable {P : Program} {n : Nat} {Q : QT} {ds : List Deferred} {f : Frm} {h : Hp} {ops : Array Oper}
theorem FR.putF {a : Act} (hf : FR n ds f a) {dst : Option Nat} (hd : ∀ d, dst = some d → d < n) (v : Value) :
    FR n ds (putF f dst v) (a.put dst v) := by
  cases dst with
  | none => exact hf
  | some d => exact hf.put (hd d rfl) v

/-- What an operation's 'wp' asks, out of OE. -/
theorem OE.wp {o : Oper} {R : Value → Hp → Prop} {E : List PanicEntry → Hp → Prop} {a : Act} {w : World}
    {K : Act → World → Prop} {Q' : Exit → Act → World → Prop}
    (hf : FR n ds f a) (k : OE P (ev f) o w.heap R E)
    (hK : ∀ v w', Same w w' → R v w'.heap → K (a.put o.dst v) w')
    (hE : ∀ c w', Same w w' → E c w'.heap → Q' (.panic c) a w') : o.wp P a w K Q' := by
  have k := k w rfl
  rw [← hf.eval] at k
  unfold Oper.wp
  generalize (execOp a.eval o).run P w = r at k
  cases r with
  | ok x w' =>
    cases x <;> simp only [Oper.upon] <;> simp only at k
    · exact hK _ _ k.1 k.2
    · exact hK _ _ k.1 k.2
    · rename_i fid args
      obtain ⟨hs, hc⟩ := k
      refine (hc w' rfl).mono fun e w'' he => ?_
      cases e with
      | returned v => exact hK _ _ (hs.trans he.1) he.2
      | panicked c => exact hE _ _ (hs.trans he.1) he.2
      | outgrown => exact he.elim
  | halt x w' =>
    cases x <;> simp only [Oper.upon] <;> simp only at k
    exact hE _ _ k.1 k.2

def noE : List PanicEntry → Hp → Prop := fun _ _ => False

theorem VL.nil (k : Q .normal ds f h) : VL P n ops Q [] ds f h :=
  fun _ _ _ hf hw hs => ⟨trivial, ds, f, hf, hs, by rw [hw]; exact k⟩

theorem VL.run {o : Oper} {rest : List Oper} (hd : ∀ d, o.dst = some d → d < n)
    (hg : ∀ a, FR n ds f a → Region.wanted o (yielded ops a.tmps) = true)
    (k : OE P (ev f) o h (fun v h' => VL P n ops Q rest ds (putF f o.dst v) h') (fun c h' => Q (.panic c) ds f h')) :
    VL P n ops Q (o :: rest) ds f h := by
  intro W0 a w hf hw hs
  subst hw
  unfold wpList
  rw [if_pos (hg a hf)]
  refine .inl (OE.wp hf k (fun v w' s r => r W0 _ w' (hf.putF hd v) rfl (hs.trans s)) fun c w' s e => ⟨trivial, ds, f, hf, hs.trans s, e⟩)

theorem VL.step {o : Oper} {rest : List Oper} (hg : o.guard = none) (hd : ∀ d, o.dst = some d → d < n)
    (k : OE P (ev f) o h (fun v h' => VL P n ops Q rest ds (putF f o.dst v) h') (fun c h' => Q (.panic c) ds f h')) :
    VL P n ops Q (o :: rest) ds f h :=
  VL.run hd (fun _ _ => by simp [Region.wanted, hg]) k

theorem yielded_of {a : Act} (hf : FR n ds f a) {i d : Nat} (hi : (ops[i]?).bind (·.dst) = some d) (hd : d < n) :
    yielded ops a.tmps i = (match f d with | .bool b => some b | _ => none) := by
  have hs : d < a.tmps.size := by rw [hf.size]; exact hd
  have hg := hf.get d
  simp only [Array.getD_eq_getD_getElem?, Array.getElem?_eq_getElem hs, Option.getD_some] at hg
  simp only [yielded, hi, Option.bind_some, Array.getElem?_eq_getElem hs, hg]
  cases f d <;> rfl

/-- A guarded operation whose guard says yes. -/
theorem VL.gstep {o : Oper} {rest : List Oper} {i d : Nat} {b : Bool} (hg : o.guard = some (i, b)) (hi : (ops[i]?).bind (·.dst) = some d) (hdn : d < n)
    (hb : f d = .bool b) (hd : ∀ d, o.dst = some d → d < n)
    (k : OE P (ev f) o h (fun v h' => VL P n ops Q rest ds (putF f o.dst v) h') (fun c h' => Q (.panic c) ds f h')) :
    VL P n ops Q (o :: rest) ds f h :=
  VL.run hd (fun a hf => by simp [Region.wanted, hg, yielded_of hf hi hdn, hb]) k

/-- One whose guard says no: 'undef' stands in its slot. -/
theorem VL.gskip {o : Oper} {rest : List Oper} {i d : Nat} {b : Bool} (hg : o.guard = some (i, b)) (hi : (ops[i]?).bind (·.dst) = some d) (hdn : d < n)
    (hb : f d = .bool (!b) ∨ f d = undef) (hd : ∀ d, o.dst = some d → d < n)
    (k : VL P n ops Q rest ds (putF f o.dst undef) h) :
    VL P n ops Q (o :: rest) ds f h := by
  intro W0 a w hf hw hs
  unfold wpList
  have hw' : Region.wanted o (yielded ops a.tmps) = false := by
    simp only [Region.wanted, hg, yielded_of hf hi hdn]
    rcases hb with hb | hb
    · rw [hb]; cases b <;> simp
    · rw [hb]; simp [undef]
  rw [if_neg (by simp [hw'])]
  exact k W0 _ w (hf.putF hd undef) hw hs

theorem VC.region {id : Nat} {l : List Oper} (k : VL P n l.toArray Q l ds f h) : VC P n (.region id l.toArray false) Q ds f h :=
  fun W0 a w hf hw hs => wp_region_lit (k W0 a w hf hw hs)

/-! ### entering a function -/
def initF (l : List Value) : Frm := fun t => (l[t]?).getD undef

def ResOK (P : Program) (fn : Func) (f : Frm) (h : Hp) (v : Value) : Prop :=
  ∀ (w : World) (tmps : Array Value), w.heap = h → (∀ t, tmps.getD t undef = f t) → (results fn tmps).run P w = .ok v w

def bodyQ (P : Program) (fn : Func) (R : Value → Hp → Prop) (E : List PanicEntry → Hp → Prop) : QT
  | .normal, ds, f, h | .ret, ds, f, h => ds = [] ∧ ∃ v, ResOK P fn f h v ∧ R v h
  | .panic c, ds, _, h => ds = [] ∧ E c h
  | _, _, _, _ => False

theorem CHE.enter {k : FuncId} {fn : Func} {c : Code} {l : List Value} {R : Value → Hp → Prop} {E : List PanicEntry → Hp → Prop}
    (hf : P.funcs[k]? = some fn) (hb : fn.body = some c) (hn : fn.ntmps = n) (hl : l.length ≤ n)
    (body : VC P n c (bodyQ P fn R E) [] (initF l) h) : CHE P k l.toArray h R E := by
  intro w hw
  refine calls_of_wp hf hb ?_
  have hfr : FR n [] (initF l) { tmps := l.toArray ++ Array.replicate (fn.ntmps - l.toArray.size) undef, defers := [] } := by
    refine ⟨by simp [hn]; omega, rfl, fun t => ?_⟩
    simp only [initF, Array.getD_eq_getD_getElem?]
    by_cases ht : t < l.length
    · rw [Array.getElem?_append_left (by simpa using ht)]; simp
    · rw [Array.getElem?_append_right (by simp; omega)]
      rw [List.getElem?_eq_none (by omega)]
      cases hx : (Array.replicate (fn.ntmps - l.toArray.size) undef)[t - l.toArray.size]? with
      | none => rfl
      | some v =>
        have := Array.getElem?_eq_some_iff.1 hx
        obtain ⟨_, e⟩ := this
        rw [Array.getElem_replicate] at e
        simp [← e]
  refine wp_mono (body w _ w hfr hw (.rfl' w)) fun e a' w' ⟨ho, ds', f', hf', hs', hq⟩ => ?_
  cases e with
  | normal =>
    obtain ⟨hd, v, hr, hR⟩ := hq
    exact ⟨by rw [hf'.defers, hd], v, hr w' a'.tmps rfl hf'.get, hs', hR⟩
  | ret =>
    obtain ⟨hd, v, hr, hR⟩ := hq
    exact ⟨by rw [hf'.defers, hd], v, hr w' a'.tmps rfl hf'.get, hs', hR⟩
  | panic c => exact ⟨by rw [hf'.defers, hq.1], hs', hq.2⟩
  | exit id => exact hq.elim
  | goto l => exact hq.elim
  | outgrown => exact ho.elim

/-! ### loads and stores -/
def oneC : Value → Bool
  | .agg _ | .tuple _ => false
  | _ => true

def LdT (P : Program) (h : Hp) (t : TypeId) (a : Addr) (v : Value) : Prop := ∀ w : World, w.heap = h → (loadVar t a).run P w = .ok v w
def StT (P : Program) (h : Hp) (t : TypeId) (a : Addr) (v : Value) (h' : Hp) : Prop :=
  ∀ w : World, w.heap = h → (storeVar t a v).run P w = .ok () { w with heap := h' }

def isAggD : TypeDesc → Bool
  | .struct _ | .array _ _ => true
  | _ => false

theorem run_underlying' {t : TypeId} {d : TypeDesc} (ht : P.underlying t = some d) (w : World) : (underlying t).run P w = .ok d w := by
  simp [underlying, program, Sem.run, ht, Bind.bind, Pure.pure, Sem.bind]

theorem run_isAgg {t : TypeId} {d : TypeDesc} (ht : P.underlying t = some d) (w : World) : (isAgg t).run P w = .ok (isAggD d) w := by
  unfold isAgg
  rw [Sem.run_bind, run_underlying' ht]
  cases d <;> rfl

theorem run_info' {t : TypeId} {i : TypeInfo} (ht : P.info? t = some i) (w : World) : (typeInfo t).run P w = .ok i w := by
  simp [typeInfo, program, Sem.run, ht, Bind.bind, Pure.pure, Sem.bind]

theorem run_sizeOf' {t : TypeId} {i : TypeInfo} (ht : P.info? t = some i) (w : World) : (sizeOf t).run P w = .ok i.size w := by
  unfold sizeOf
  rw [Sem.run_bind, run_info' ht]
  rfl

theorem run_zero' {t : TypeId} {i : TypeInfo} {z : Value} (ht : P.info? t = some i) (hz : i.zero = some z) (w : World) : (zeroValue t).run P w = .ok z w := by
  unfold zeroValue
  rw [Sem.run_bind, run_info' ht]
  simp only [Result.andThen, hz]
  rfl

theorem run_load' {w : World} {a : Addr} {v : Value} (hc : cell w.heap a = some v) : (load a).run P w = .ok v w := by
  simp only [load, Sem.run, cell_eq, hc]

theorem LdT.one {t : TypeId} {d : TypeDesc} {a : Addr} {v : Value} (ht : P.underlying t = some d) (hd : isAggD d = false) (hc : cell h a = some v) : LdT P h t a v := by
  intro w hw
  subst hw
  unfold loadVar
  rw [Sem.run_bind, run_isAgg ht]
  simp only [Result.andThen, hd, Bool.false_eq_true, if_false]
  exact run_load' hc

/-- The cells from a on are these. -/
def Row (h : Hp) (a : Addr) (vs : List Value) : Prop := ∀ i v, vs[i]? = some v → cell h (a.add i) = some v

theorem run_loadCellsFrom {w : World} {a : Addr} : ∀ (vs : List Value) (i : Nat) (acc : Array Value),
    (∀ j v, vs[j]? = some v → cell w.heap (a.add (i + j)) = some v) → (loadCellsFrom a i vs.length acc).run P w = .ok (acc ++ vs.toArray) w := by
  intro vs
  induction vs with
  | nil => intro i acc _; simp [loadCellsFrom]
  | cons v vs ih =>
    intro i acc hc
    simp only [List.length_cons, loadCellsFrom]
    have h0 := hc 0 v rfl
    rw [Sem.run_bind, run_load' (by simpa using h0)]
    simp only [Result.andThen]
    rw [ih (i + 1) (acc.push v) (fun j u hu => by have := hc (j + 1) u (by simpa using hu); simpa [Nat.add_assoc, Nat.add_comm 1 j] using this)]
    simp

theorem run_loadCells {w : World} {a : Addr} {vs : List Value} (hc : Row w.heap a vs) : (loadCells a vs.length).run P w = .ok vs.toArray w := by
  unfold loadCells
  rw [run_loadCellsFrom vs 0 #[] (fun j v hv => by simpa using hc j v hv)]
  simp

theorem LdT.agg {t : TypeId} {d : TypeDesc} {i : TypeInfo} {a : Addr} {vs : List Value} (ht : P.underlying t = some d) (hd : isAggD d = true)
    (hi : P.info? t = some i) (hs : i.size = vs.length) (hc : Row h a vs) : LdT P h t a (.agg vs.toArray) := by
  intro w hw
  subst hw
  unfold loadVar
  rw [Sem.run_bind, run_isAgg ht]
  simp only [Result.andThen, hd, if_true]
  rw [Sem.run_bind, run_sizeOf' hi]
  simp only [Result.andThen, hs]
  rw [Sem.run_bind, run_loadCells hc]
  rfl

/-- A cell that may be written. -/
def Wr (h : Hp) (a : Addr) : Prop := (∃ v, cell h a = some v) ∧ froz h a = false

theorem run_store' {w : World} {a : Addr} {v : Value} (hw : Wr w.heap a) (h1 : oneC v = true) : (store a v).run P w = .ok () { w with heap := setc w.heap a v } := by
  obtain ⟨⟨u, hu⟩, hf⟩ := hw
  cases v <;> first
    | (simp [oneC] at h1; done)
    | (simp only [store, Sem.run, cell_eq, hu, froz_eq, hf]; rfl)

theorem StT.one {t : TypeId} {i : TypeInfo} {a : Addr} {v : Value} (hi : P.info? t = some i) (hs : i.size = 1) (hw : Wr h a) (h1 : oneC v = true) : StT P h t a v (setc h a v) := by
  intro w he
  subst he
  have hcells : v.cells = #[v] := by cases v <;> first | rfl | simp [oneC] at h1
  unfold storeVar
  rw [Sem.run_bind, run_sizeOf' hi]
  simp only [Result.andThen, hs, hcells]
  simp only [List.size_toArray, List.length_cons, List.length_nil, Nat.zero_add, ne_eq, not_true_eq_false, if_false]
  simp only [storeCells]
  rw [Sem.run_bind, show a.add 0 = a from rfl, run_store' hw h1]
  rfl

/-- Cells written one behind the other. -/
def setRow (h : Hp) (a : Addr) : List Value → Nat → Hp
  | [], _ => h
  | v :: vs, i => setRow (setc h (a.add i) v) a vs (i + 1)

end Go.V
namespace Go.V
open Go
variable {P : Program} {ρ : Operand → Value} {h : Hp} {R : Value → Hp → Prop} {E : List PanicEntry → Hp → Prop}
variable {dst : Option Nat} {ty : TypeId} {pos : String} {af : Array Edge} {g : Option (Nat × Bool)}
theorem OE.mono {o : Oper} {R' : Value → Hp → Prop} {E' : List PanicEntry → Hp → Prop} (k : OE P ρ o h R E) (hr : ∀ v h', R v h' → R' v h') (he : ∀ c h', E c h' → E' c h') :
    OE P ρ o h R' E' := fun w hw => by
  have k := k w hw
  generalize (execOp ρ o).run P w = r at k
  cases r with
  | ok x w' =>
    cases x <;> simp only at k ⊢
    · exact ⟨k.1, hr _ _ k.2⟩
    · exact ⟨k.1, hr _ _ k.2⟩
    · exact ⟨k.1, k.2.mono hr he⟩
  | halt x w' =>
    cases x <;> simp only at k ⊢
    exact ⟨k.1, he _ _ k.2⟩

/-- An operation that yields a value and leaves the world. -/
theorem OE.pure {o : Oper} {v : Value} (hr : ∀ w : World, w.heap = h → (execOp ρ o).run P w = .ok (.value v) w) (k : R v h) : OE P ρ o h R E :=
  fun w hw => by rw [hr w hw]; exact ⟨.rfl' w, by rw [hw]; exact k⟩

theorem run_v {s : Sem Value} {v : Value} {w w' : World} (hs : s.run P w = .ok v w') :
    (do let x ← s; Pure.pure (Next.value x) : Sem Next).run P w = .ok (.value v) w' := by
  rw [Sem.run_bind, hs]; rfl
theorem run_u {s : Sem Unit} {w w' : World} (hs : s.run P w = .ok () w') :
    (do s; Pure.pure Next.skip : Sem Next).run P w = .ok .skip w' := by
  rw [Sem.run_bind, hs]; rfl

theorem OE.move {x : Operand} (k : R (ρ x) h) : OE P ρ ⟨dst, .move x, ty, pos, af, g⟩ h R E := .pure (fun _ _ => rfl) k
theorem OE.assign {x : Operand} (k : R (ρ x) h) : OE P ρ ⟨dst, .assign x, ty, pos, af, g⟩ h R E := .pure (fun _ _ => rfl) k
theorem OE.pick {c a b : Operand} {t : Bool} (hc : ρ c = .bool t) (k : R (if t then ρ a else ρ b) h) : OE P ρ ⟨dst, .pick c a b, ty, pos, af, g⟩ h R E :=
  .pure (fun w _ => by
    show (do let y ← asBool (ρ c); Pure.pure (Next.value (if y then ρ a else ρ b)) : Sem Next).run P w = _
    rw [hc, Sem.run_bind]; rfl) k
theorem OE.nilCheck {x : Operand} {a : Addr} (hx : ρ x = .pointer (some a)) (k : R (.pointer (some a)) h) : OE P ρ ⟨dst, .nilCheck x, ty, pos, af, g⟩ h R E :=
  .pure (fun w _ => by simp only [execOp, hx]; rfl) k
theorem OE.extract {x : Operand} {i : Nat} {vs : Array Value} {v : Value} (hx : ρ x = .tuple vs) (hv : vs[i]? = some v) (k : R v h) : OE P ρ ⟨dst, .extract x i, ty, pos, af, g⟩ h R E :=
  .pure (fun w _ => run_v (by simp only [hx, Instr.extract, hv]; rfl)) k
theorem OE.makeFunc {fn : Fn} {fi ca : Array Operand} (k : R (.func fn (fi.map ρ) (ca.map ρ)) h) : OE P ρ ⟨dst, .makeFunc fn fi ca, ty, pos, af, g⟩ h R E :=
  .pure (fun _ _ => rfl) k
theorem OE.makeInterface {x : Operand} {t : TypeId} {d : TypeDesc} (ht : P.underlying t = some d) (hd : (match d with | .interface _ => false | _ => true) = true)
    (k : R (.iface t (ρ x)) h) : OE P ρ ⟨dst, .makeInterface t x, ty, pos, af, g⟩ h R E :=
  .pure (fun w _ => run_v (by
    unfold Instr.makeInterface
    rw [Sem.run_bind, run_underlying' ht]
    cases d <;> first | rfl | simp at hd)) k

/-! ### addresses -/
theorem run_fieldAt {s : TypeId} {fs : Array Field} {fd : Field} {i : Nat} {ti : TypeInfo} {a : Addr} (hs : P.underlying s = some (.struct fs)) (hf : fs[i]? = some fd)
    (hi : P.info? fd.type = some ti) (hz : ti.size ≠ 0) (w : World) : (Instr.fieldAt s (.pointer (some a)) i).run P w = .ok (.pointer (some (a.add fd.offset))) w := by
  unfold Instr.fieldAt
  rw [Sem.run_bind, run_underlying' hs]
  simp only [Result.andThen, hf]
  show (Sem.bind (Instr.sureAddr _) _).run P w = _
  simp only [Instr.sureAddr]
  show (Sem.run P (do let y ← fieldPlace a fd; Pure.pure (Value.pointer (some y))) w) = _
  rw [Sem.run_bind]
  unfold fieldPlace
  rw [Sem.run_bind, run_sizeOf' hi]
  simp only [Result.andThen, hz, if_false]
  rfl

theorem OE.fieldAddr {s : TypeId} {x : Operand} {fs : Array Field} {fd : Field} {i : Nat} {ti : TypeInfo} {a : Addr} {o : Nat} (hx : ρ x = .pointer (some a)) (hs : P.underlying s = some (.struct fs)) (hf : fs[i]? = some fd)
    (hi : P.info? fd.type = some ti) (hz : ti.size ≠ 0) (ho : fd.offset = o) (k : R (.pointer (some (a.add o))) h) : OE P ρ ⟨dst, .fieldAddr s x i, ty, pos, af, g⟩ h R E :=
  .pure (fun w _ => run_v (by rw [hx, run_fieldAt hs hf hi hz, ho])) k

/-! ### memory -/
theorem OE.load {t : TypeId} {x : Operand} {a : Addr} {v : Value} (hx : ρ x = .pointer (some a)) (hl : LdT P h t a v) (k : R v h) : OE P ρ ⟨dst, .load t x, ty, pos, af, g⟩ h R E :=
  .pure (fun w hw => run_v (by
    rw [hx]
    unfold Instr.loadAt
    simp only [Instr.sureAddr]
    exact hl w hw)) k

theorem OE.store {t : TypeId} {x y : Operand} {a : Addr} {h' : Hp} (hx : ρ x = .pointer (some a)) (hs : StT P h t a (ρ y) h') (k : R undef h') : OE P ρ ⟨dst, .store t x y, ty, pos, af, g⟩ h R E :=
  fun w hw => by
    have hr : (execOp ρ ⟨dst, .store t x y, ty, pos, af, g⟩).run P w = .ok .skip { w with heap := h' } := run_u (by
      rw [hx]
      unfold Instr.storeAt
      simp only [Instr.sureAddr]
      exact hs w hw)
    rw [hr]
    exact ⟨⟨rfl, rfl, rfl⟩, k⟩

theorem OE.box {t : TypeId} {x : Operand} (k : R (.pointer (some ⟨h.size, 0, none⟩)) (h.push (.cells (ρ x).cells t))) : OE P ρ ⟨dst, .box t x, ty, pos, af, g⟩ h R E :=
  fun w hw => by
    have hr : (execOp ρ ⟨dst, .box t x, ty, pos, af, g⟩).run P w = .ok (.value (.pointer (some ⟨w.heap.size, 0, none⟩))) { w with heap := w.heap.push (.cells (ρ x).cells t) } := rfl
    rw [hr]
    subst hw
    exact ⟨⟨rfl, rfl, rfl⟩, k⟩

theorem OE.alloc {t : TypeId} {ti : TypeInfo} {z : Value} (hi : P.info? t = some ti) (hz : ti.zero = some z) (k : R (.pointer (some ⟨h.size, 0, none⟩)) (h.push (.cells z.cells t))) :
    OE P ρ ⟨dst, .alloc t, ty, pos, af, g⟩ h R E :=
  fun w hw => by
    have hr : (execOp ρ ⟨dst, .alloc t, ty, pos, af, g⟩).run P w = .ok (.value (.pointer (some ⟨w.heap.size, 0, none⟩))) { w with heap := w.heap.push (.cells z.cells t) } := run_v (by
      unfold Instr.alloc
      rw [Sem.run_bind, run_zero' hi hz]
      rfl)
    rw [hr]
    subst hw
    exact ⟨⟨rfl, rfl, rfl⟩, k⟩

/-! ### numbers, bools, texts -/
def binI : BinOp → IntKind → IntKind → Int → Int → Option Value
  | .shl, k, _, x, y => if y < 0 then none else some (.int k (k.wrap (x * 2 ^ (min y.toNat k.bits))))
  | .shr, k, _, x, y => if y < 0 then none else some (.int k (x.fdiv (2 ^ (min y.toNat k.bits))))
  | .add, k, k', x, y => if k = k' then some (.int k (k.wrap (x + y))) else none
  | .sub, k, k', x, y => if k = k' then some (.int k (k.wrap (x - y))) else none
  | .mul, k, k', x, y => if k = k' then some (.int k (k.wrap (x * y))) else none
  | .quo, k, k', x, y => if k = k' then if y = 0 then none else some (.int k (k.wrap (x.tdiv y))) else none
  | .rem, k, k', x, y => if k = k' then if y = 0 then none else some (.int k (x.tmod y)) else none
  | .and, k, k', x, y => if k = k' then some (.int k (k.wrap (BitVec.ofInt k.bits x &&& BitVec.ofInt k.bits y).toNat)) else none
  | .or, k, k', x, y => if k = k' then some (.int k (k.wrap (BitVec.ofInt k.bits x ||| BitVec.ofInt k.bits y).toNat)) else none
  | .xor, k, k', x, y => if k = k' then some (.int k (k.wrap (BitVec.ofInt k.bits x ^^^ BitVec.ofInt k.bits y).toNat)) else none
  | .andNot, k, k', x, y => if k = k' then some (.int k (k.wrap (BitVec.ofInt k.bits x &&& ~~~BitVec.ofInt k.bits y).toNat)) else none
  | .eql, k, k', x, y => if k = k' then some (.bool (x == y)) else none
  | .neq, k, k', x, y => if k = k' then some (.bool (x != y)) else none
  | .lss, k, k', x, y => if k = k' then some (.bool (decide (x < y))) else none
  | .leq, k, k', x, y => if k = k' then some (.bool (decide (x ≤ y))) else none
  | .gtr, k, k', x, y => if k = k' then some (.bool (decide (x > y))) else none
  | .geq, k, k', x, y => if k = k' then some (.bool (decide (x ≥ y))) else none

theorem run_binI {op : BinOp} {t : TypeId} {k k' : IntKind} {x y : Int} {v : Value} (hv : binI op k k' x y = some v) (w : World) :
    (binOp op t (.int k x) (.int k' y)).run P w = .ok v w := by
  cases op <;> simp only [binI] at hv <;> unfold binOp
  all_goals first
    | (by_cases hk : k = k'
       · subst hk
         simp only [if_true] at hv
         first
           | (cases hv; simp [Op.intArith, Op.intBits, Op.intCmp]; done)
           | (split at hv
              · cases hv
              · rename_i hy; cases hv; simp [Op.intDiv, hy])
       · rw [if_neg hk] at hv; cases hv)
    | (split at hv
       · cases hv
       · rename_i hy; cases hv; simp [Op.shift, hy])

theorem OE.binI {op : BinOp} {t t' : TypeId} {x y : Operand} {k k' : IntKind} {a b : Int} {v : Value} (hx : ρ x = .int k a) (hy : ρ y = .int k' b) (hv : V.binI op k k' a b = some v)
    (kk : R v h) : OE P ρ ⟨dst, .binOp op t x y t', ty, pos, af, g⟩ h R E :=
  .pure (fun w _ => run_v (by
    rw [hx, hy]
    have he : (eqGuard op t x y (.int k a) (.int k' b)).run P w = .ok () w := by
      unfold eqGuard; split <;> rfl
    rw [Sem.run_bind, he]
    exact run_binI hv w)) kk

def binS : BinOp → ByteArray → ByteArray → Option Value
  | .eql, x, y => some (.bool (x.toList == y.toList))
  | .neq, x, y => some (.bool (!(x.toList == y.toList)))
  | .lss, x, y => some (.bool (Op.bytesLess x.toList y.toList))
  | .leq, x, y => some (.bool (Op.bytesLess x.toList y.toList || x.toList == y.toList))
  | .gtr, x, y => some (.bool (!(Op.bytesLess x.toList y.toList || x.toList == y.toList)))
  | .geq, x, y => some (.bool (!(Op.bytesLess x.toList y.toList)))
  | _, _, _ => none

theorem OE.binS {op : BinOp} {t t' : TypeId} {x y : Operand} {a b : ByteArray} {v : Value} (hx : ρ x = .string a) (hy : ρ y = .string b) (hv : V.binS op a b = some v)
    (kk : R v h) : OE P ρ ⟨dst, .binOp op t x y t', ty, pos, af, g⟩ h R E :=
  .pure (fun w _ => run_v (by
    rw [hx, hy]
    have he : (eqGuard op t x y (.string a) (.string b)).run P w = .ok () w := by
      unfold eqGuard; split <;> rfl
    rw [Sem.run_bind, he]
    show (binOp op t (.string a) (.string b)).run P w = _
    cases op <;> simp only [V.binS] at hv <;> first | (cases hv; rfl) | cases hv)) kk

theorem OE.not {t : TypeId} {x : Operand} {b : Bool} (hx : ρ x = .bool b) (kk : R (.bool (!b)) h) : OE P ρ ⟨dst, .unOp .not t x, ty, pos, af, g⟩ h R E :=
  .pure (fun w _ => run_v (by rw [hx]; rfl)) kk
/-- '==', '!=' on operands of which neither is a number or a text. -/
theorem run_eqB {t : TypeId} {x y : Value} {b : Bool} {w : World}
    (hb : ∀ d, (Op.equalIn (d + 1) t x y).run P w = .ok b w) : (Op.equal t x y).run P w = .ok b w := hb 9999

theorem OE.ptrNil {op : BinOp} {t t' e : TypeId} {x y : Operand} {p q : Option Addr} {b : Bool} (hx : ρ x = .pointer p) (hy : ρ y = .pointer q) (ht : P.underlying t = some (.pointer e))
    (hpq : p = none ∨ q = none) (hb : (op = .eql ∧ b = (p.isNone && q.isNone)) ∨ (op = .neq ∧ b = !(p.isNone && q.isNone))) (kk : R (.bool b) h) : OE P ρ ⟨dst, .binOp op t x y t', ty, pos, af, g⟩ h R E :=
  .pure (fun w _ => run_v (by
    rw [hx, hy]
    have he : (eqGuard op t x y (.pointer p) (.pointer q)).run P w = .ok () w := by
      unfold eqGuard; split <;> rfl
    have hq : (Op.equal t (.pointer p) (.pointer q)).run P w = .ok (p.isNone && q.isNone) w := run_eqB fun d => by
      unfold Op.equalIn
      rw [Sem.run_bind, run_underlying' ht]
      rcases hpq with rfl | rfl
      · cases q <;> rfl
      · cases p <;> rfl
    rw [Sem.run_bind, he]
    rcases hb with ⟨rfl, rfl⟩ | ⟨rfl, rfl⟩
    · show (do let z ← Op.equal t (.pointer p) (.pointer q); Pure.pure (Value.bool z) : Sem Value).run P w = _
      rw [Sem.run_bind, hq]; rfl
    · show (do let z ← Op.equal t (.pointer p) (.pointer q); Pure.pure (Value.bool (!z)) : Sem Value).run P w = _
      rw [Sem.run_bind, hq]; rfl)) kk

theorem OE.mapNil {t t' k e : TypeId} {x y : Operand} {p : Option Nat} (hx : ρ x = .map p) (hy : ρ y = .map none) (ht : P.underlying t = some (.map k e))
    (kk : R (.bool p.isNone) h) : OE P ρ ⟨dst, .binOp .eql t x y t', ty, pos, af, g⟩ h R E :=
  .pure (fun w _ => run_v (by
    rw [hx, hy]
    have he : (eqGuard .eql t x y (.map p) (.map none)).run P w = .ok () w := rfl
    have hq : (Op.equal t (.map p) (.map none)).run P w = .ok p.isNone w := run_eqB fun d => by
      unfold Op.equalIn
      rw [Sem.run_bind, run_underlying' ht]
      cases p <;> rfl
    rw [Sem.run_bind, he]
    show (do let z ← Op.equal t (.map p) (.map none); Pure.pure (Value.bool z) : Sem Value).run P w = _
    rw [Sem.run_bind, hq]; rfl)) kk

end Go.V
namespace Go.V
open Go
variable {P : Program} {ρ : Operand → Value} {h : Hp} {R : Value → Hp → Prop} {E : List PanicEntry → Hp → Prop}
variable {dst : Option Nat} {ty : TypeId} {pos : String} {af : Array Edge} {g : Option (Nat × Bool)}
theorem elem_of {t e : TypeId} (ht : P.underlying t = some (.slice e)) : P.elem t = e := by simp [Program.elem, ht]

theorem OE.indexAddr {t e : TypeId} {x y : Operand} {ti : TypeInfo} {A : Option Addr} {a : Addr} {n c sz : Nat} {i : Int} {kd : IntKind} (hx : ρ x = .slice A n c) (hy : ρ y = .int kd i) (ht : P.underlying t = some (.slice e))
    (hi : P.info? e = some ti) (hsz : ti.size = sz) (hA : A = some a) (h0 : 0 ≤ i) (h1 : i < n) (k : R (.pointer (some (a.add (i.toNat * sz)))) h) : OE P ρ ⟨dst, .indexAddr t x y, ty, pos, af, g⟩ h R E :=
  .pure (fun w _ => run_v (by
    subst hA
    rw [hx, hy, run_indexAt_slice w t a n c kd i (by rw [elem_of ht]; exact ht), if_pos ⟨h0, h1⟩, elem_of ht, run_sizeOf' hi, hsz]
    rfl)) k

theorem OE.indexStr {t : TypeId} {x y : Operand} {s : ByteArray} {i : Int} {kd : IntKind} {b : UInt8} (hx : ρ x = .string s) (hy : ρ y = .int kd i) (ht : P.underlying t = some .string)
    (h0 : 0 ≤ i) (hb : s[i.toNat]? = some b) (k : R (.int .u8 b.toNat) h) : OE P ρ ⟨dst, .index t x y, ty, pos, af, g⟩ h R E :=
  .pure (fun w _ => run_v (by
    rw [hx, hy]
    simp [Instr.index, asIntOf, Go.run_underlying ht, h0, hb])) k

/-! ### cells written one behind the other -/
theorem add_add (a : Addr) (i j : Nat) : (a.add i).add j = a.add (i + j) := by
  unfold Addr.add
  by_cases hi : i = 0 <;> by_cases hj : j = 0 <;> simp [hi, hj, Nat.add_assoc]

theorem froz_setc (h : Hp) (a b : Addr) (v : Value) : froz (setc h a v) b = froz h b := by
  unfold froz setc
  rw [Array.getElem?_modify]
  by_cases e : a.block = b.block
  · rw [if_pos e]
    cases hx : h[b.block]? with
    | none => rfl
    | some o => cases o <;> rfl
  · rw [if_neg e]

theorem isSome_setc (h : Hp) (a b : Addr) (v : Value) (hb : ∃ u, cell h b = some u) : ∃ u, cell (setc h a v) b = some u := by
  obtain ⟨u, hu⟩ := hb
  unfold cell setc at *
  rw [Array.getElem?_modify]
  by_cases e : a.block = b.block
  · rw [if_pos e]
    cases hx : h[b.block]? with
    | none => simp [hx] at hu
    | some o =>
      cases o <;> simp only [hx] at hu ⊢ <;> try (cases hu; done)
      rename_i c el fr
      simp only [Option.map_some]
      cases hsp : b.spot with
      | some s => simp [hsp] at hu
      | none =>
        simp only [hsp] at hu ⊢
        simp only [Option.isSome_none, Bool.false_eq_true, if_false] at hu ⊢
        have hlt : b.off < c.size := (Array.getElem?_eq_some_iff.1 hu).1
        have hlt' : b.off < (if a.spot.isSome = true then c else c.setIfInBounds a.off v).size := by split <;> simpa using hlt
        exact ⟨_, Array.getElem?_eq_getElem hlt'⟩
  · rw [if_neg e]; exact ⟨u, hu⟩

theorem Wr.setc {a b : Addr} {v : Value} (hb : Wr h b) : Wr (setc h a v) b := ⟨isSome_setc h a b v hb.1, by rw [froz_setc]; exact hb.2⟩

theorem run_storeCells' : ∀ (vs : List Value) (i : Nat) (w : World) (a : Addr), (∀ j, j < vs.length → Wr w.heap (a.add (i + j))) → (∀ v ∈ vs, oneC v = true) →
    (storeCells a vs i).run P w = .ok () { w with heap := setRow w.heap a vs i }
  | [], _, _, _, _, _ => rfl
  | v :: vs, i, w, a, hw, h1 => by
    simp only [storeCells, setRow]
    rw [Sem.run_bind, run_store' (by simpa using hw 0 (by simp)) (h1 v (by simp))]
    simp only [Result.andThen]
    rw [run_storeCells' vs (i + 1) _ a (fun j hj => by
      have := hw (j + 1) (by simp; omega)
      rw [show i + (j + 1) = i + 1 + j by omega] at this
      exact this.setc) (fun u hu => h1 u (by simp [hu]))]

theorem StT.agg {t : TypeId} {i : TypeInfo} {a : Addr} {vs : List Value} (hi : P.info? t = some i) (hs : i.size = vs.length) (hw : ∀ j, j < vs.length → Wr h (a.add j)) (h1 : ∀ v ∈ vs, oneC v = true) :
    StT P h t a (.agg vs.toArray) (setRow h a vs 0) := by
  intro w he
  subst he
  unfold storeVar
  rw [Sem.run_bind, run_sizeOf' hi]
  simp only [Result.andThen, hs, Value.cells, List.size_toArray, ne_eq, not_true_eq_false, if_false]
  exact run_storeCells' vs 0 w a (by simpa using hw) h1

/-! ### what is read as a row -/
def Src (h : Hp) (k : Nat) (vs : List Value) : Option Addr → Prop
  | some a => vs.length = k ∧ Row h a vs
  | none => vs = [] ∧ k = 0

theorem run_firstCells' {w : World} {size n len cap : Nat} {A : Option Addr} {vs : List Value} (hs : Src w.heap (n * size) vs A) :
    (Builtin.firstCells size n (.slice A len cap)).run P w = .ok vs.toArray w := by
  cases A with
  | none => obtain ⟨rfl, _⟩ := hs; rfl
  | some a =>
    obtain ⟨hl, hr⟩ := hs
    simp only [Builtin.firstCells]
    rw [← hl]
    exact run_loadCells hr

def zeros (z : Value) (k : Nat) : List Value := (Builtin.zeroCells z.cells k).toList

/-- What append may come to. -/
def AppendV (e : TypeId) (z : Value) (sz : Nat) (h : Hp) (A : Option Addr) (n c m : Nat) (vs : List Value) (K : Option Addr → Nat → Nat → Hp → Prop) : Prop :=
  (n + m ≤ c → (vs = [] ∧ K A (n + m) c h) ∨ ∃ a, A = some a ∧ (∀ j, j < vs.length → Wr h ((a.add (n * sz)).add j)) ∧ K A (n + m) c (setRow h (a.add (n * sz)) vs 0)) ∧
  (c < n + m → ∃ os, Src h (n * sz) os A ∧ ∀ c', n + m ≤ c' → K (some ⟨h.size, 0, none⟩) (n + m) c' (h.push (.cells (os ++ vs ++ zeros z (c' - (n + m))).toArray e)))

theorem append_run {t e : TypeId} {ti : TypeInfo} {z : Value} {A B : Option Addr} {n c m c2 : Nat} {vs : List Value} {w : World} {K : Option Addr → Nat → Nat → Hp → Prop}
    (ht : P.underlying t = some (.slice e)) (hi : P.info? e = some ti) (hz : ti.zero = some z)
    (hsrc : Src w.heap (m * ti.size) vs B) (h1 : ∀ v ∈ vs, oneC v = true)
    (hbytes : (n + m) * ti.bytes ≤ 140737488355328) (h63 : n + m ≤ 9223372036854775807) (hk : AppendV e z ti.size w.heap A n c m vs K) :
    ∃ A' n' c' w', (Builtin.append_ #[t, t] ty #[.slice A n c, .slice B m c2]).run P w = .ok (.slice A' n' c') w' ∧ Same w w' ∧ K A' n' c' w'.heap := by
  obtain ⟨hfit, hgrow⟩ := hk
  have hf : ∀ w' : World, w'.heap = w.heap → (Builtin.firstCells ti.size m (.slice B m c2)).run P w' = .ok vs.toArray w' := fun w' e' => run_firstCells' (by rw [e']; exact hsrc)
  by_cases hroom : n + m ≤ c
  · rcases hfit hroom with ⟨rfl, hk⟩ | ⟨a, rfl, hwr, hk⟩
    · refine ⟨A, n + m, c, w, ?_, .rfl' w, hk⟩
      cases A with
      | none => simp [Builtin.append_, Go.run_underlying ht, sizeOf, typeInfo, hi, Builtin.lenOf, hroom, hf w rfl]
      | some a => simp [Builtin.append_, Go.run_underlying ht, sizeOf, typeInfo, hi, Builtin.lenOf, hroom, hf w rfl, storeCells]
    · refine ⟨some a, n + m, c, { w with heap := setRow w.heap (a.add (n * ti.size)) vs 0 }, ?_, ⟨rfl, rfl, rfl⟩, hk⟩
      have hst := run_storeCells' (P := P) vs 0 w (a.add (n * ti.size)) (by simpa using hwr) h1
      simp [Builtin.append_, Go.run_underlying ht, sizeOf, typeInfo, hi, Builtin.lenOf, hroom, hf w rfl, hst]
  · obtain ⟨os, hos, hk⟩ := hgrow (by omega)
    have h63' : ¬ (9223372036854775807 < ((n : Int) + (m : Int))) := by omega
    have h48' : ¬ (281474976710656 < Builtin.nextslicecap (n + m) c * ti.bytes) := by have := growslice_fits (bytes := ti.bytes) (show c < n + m by omega) hbytes; omega
    have hfo : ∀ w' : World, w'.heap = w.heap → (Builtin.firstCells ti.size n (.slice A n c)).run P w' = .ok os.toArray w' := fun w' e' => run_firstCells' (by rw [e']; exact hos)
    refine ⟨some ⟨w.heap.size, 0, none⟩, n + m, grownCap w (n + m) c e, w.drew.alloc (.cells (os ++ vs ++ zeros z (grownCap w (n + m) c e - (n + m))).toArray e), ?_, ⟨rfl, rfl, rfl⟩, hk _ (grownCap_ge w _ _ _)⟩
    have hn : ¬ (n + m ≤ c) := hroom
    simp [Builtin.append_, Go.run_underlying ht, sizeOf, typeInfo, zeroValue, hi, hz, Builtin.lenOf, hn, h63', h48', Question.forced, hf w.drew rfl, hfo w.drew rfl, newRow, grownCap, zeros]
    congr 2
    apply Array.ext'
    simp

theorem run_builtin2 {b : Builtin} {x y : Operand} {ts : Array TypeId} {w w' : World} {r : Value}
    (hb : (builtin b ts ty #[match x with | .const _ => true | _ => false, match y with | .const _ => true | _ => false] #[ρ x, ρ y]).run P w = .ok (.value r) w') :
    (execOp ρ ⟨dst, .call { callee := .builtin b, args := #[x, y], argTypes := ts }, ty, pos, af, g⟩).run P w = .ok (.value r) w' := by
  simp only [execOp, resolve]
  simp only [List.map_toArray, List.map_cons, List.map_nil]
  exact hb

theorem run_builtin1 {b : Builtin} {x : Operand} {ts : Array TypeId} {w w' : World} {r : Value}
    (hb : (builtin b ts ty #[match x with | .const _ => true | _ => false] #[ρ x]).run P w = .ok (.value r) w') :
    (execOp ρ ⟨dst, .call { callee := .builtin b, args := #[x], argTypes := ts }, ty, pos, af, g⟩).run P w = .ok (.value r) w' := by
  simp only [execOp, resolve]
  simp only [List.map_toArray, List.map_cons, List.map_nil]
  exact hb

theorem OE.append {t e : TypeId} {x y : Operand} {ti : TypeInfo} {z : Value} {A B : Option Addr} {n c m c2 sz by' : Nat} {vs : List Value} (hx : ρ x = .slice A n c) (hy : ρ y = .slice B m c2)
    (ht : P.underlying t = some (.slice e)) (hi : P.info? e = some ti) (hz : ti.zero = some z) (hsz : ti.size = sz) (hby : ti.bytes = by')
    (hsrc : Src h (m * sz) vs B) (h1 : ∀ v ∈ vs, oneC v = true) (hbytes : (n + m) * by' ≤ 140737488355328) (h63 : n + m ≤ 9223372036854775807)
    (hk : AppendV e z sz h A n c m vs fun A' n' c' h' => R (.slice A' n' c') h') :
    OE P ρ ⟨dst, .call { callee := .builtin .append, args := #[x, y], argTypes := #[t, t] }, ty, pos, af, g⟩ h R E := by
  subst hsz hby
  intro w hw
  subst hw
  obtain ⟨A', n', c', w', hr, hs, hk'⟩ := append_run (ty := ty) (c2 := c2) ht hi hz hsrc h1 hbytes h63 hk
  have hrun : (execOp ρ ⟨dst, .call { callee := .builtin .append, args := #[x, y], argTypes := #[t, t] }, ty, pos, af, g⟩).run P w = .ok (.value (.slice A' n' c')) w' := by
    exact run_builtin2 (by rw [hx, hy]; exact run_v hr)
  rw [hrun]
  exact ⟨hs, hk'⟩

end Go.V
namespace Go.V
open Go
variable {P : Program} {ρ : Operand → Value} {h : Hp} {R : Value → Hp → Prop} {E : List PanicEntry → Hp → Prop}
variable {dst : Option Nat} {ty : TypeId} {pos : String} {af : Array Edge} {g : Option (Nat × Bool)}
/-! ### lengths, cuts, new rows -/
theorem OE.lenSlice {t e : TypeId} {x : Operand} {A : Option Addr} {n c : Nat} (hx : ρ x = .slice A n c) (ht : P.underlying t = some (.slice e)) (k : R (.int .i64 n) h) :
    OE P ρ ⟨dst, .call { callee := .builtin .len, args := #[x], argTypes := #[t] }, ty, pos, af, g⟩ h R E :=
  .pure (fun w _ => run_builtin1 (run_v (by rw [hx]; simp [Builtin.len_, Go.run_underlying ht]; rfl))) k
theorem OE.lenString {t : TypeId} {x : Operand} {s : ByteArray} (hx : ρ x = .string s) (ht : P.underlying t = some .string) (k : R (.int .i64 s.size) h) :
    OE P ρ ⟨dst, .call { callee := .builtin .len, args := #[x], argTypes := #[t] }, ty, pos, af, g⟩ h R E :=
  .pure (fun w _ => run_builtin1 (run_v (by rw [hx]; simp [Builtin.len_, Go.run_underlying ht]; rfl))) k

def optMx (a b : Int) : Int := if b > a then b else a
def optMn (a b : Int) : Int := if b < a then b else a
theorem OE.max {x y : Operand} {ts : Array TypeId} {kd kd' : IntKind} {a b : Int} (hx : ρ x = .int kd a) (hy : ρ y = .int kd' b) (k : R (.int kd (optMx a b)) h) :
    OE P ρ ⟨dst, .call { callee := .builtin .max, args := #[x, y], argTypes := ts }, ty, pos, af, g⟩ h R E :=
  .pure (fun w _ => run_builtin2 (run_v (by rw [hx, hy]; rfl))) k
theorem OE.min {x y : Operand} {ts : Array TypeId} {kd kd' : IntKind} {a b : Int} (hx : ρ x = .int kd a) (hy : ρ y = .int kd' b) (k : R (.int kd (optMn a b)) h) :
    OE P ρ ⟨dst, .call { callee := .builtin .min, args := #[x, y], argTypes := ts }, ty, pos, af, g⟩ h R E :=
  .pure (fun w _ => run_builtin2 (run_v (by rw [hx, hy]; rfl))) k

/-- The address of a slice's part. -/
def cutA (A : Option Addr) (c l sz : Nat) : Option Addr := if c = l then A else A.map (·.add (l * sz))

theorem run_slice_gen {t e : TypeId} {ti : TypeInfo} {A : Option Addr} {n c l u : Nat} {lo hi : Option Value} (ht : P.underlying t = some (.slice e)) (hi' : P.info? e = some ti) {w : World}
    (hb : (Instr.sliceBounds true n c lo hi none).run P w = .ok (l, u, c) w) :
    (Instr.sliceAt t (.slice A n c) lo hi none).run P w = .ok (.slice (cutA A c l ti.size) (u - l) (c - l)) w := by
  rw [run_sliceAt_slice w t _ _ _ _ (by rw [elem_of ht]; exact ht), run_slice_any w t A n c (by rw [elem_of ht]; exact ht), hb]
  simp only [Result.andThen, elem_of ht, run_sizeOf' hi', sliced, cutA]

theorem OE.sliceHi {t e : TypeId} {x y : Operand} {ti : TypeInfo} {A : Option Addr} {n c sz : Nat} {kd : IntKind} {i : Int} (hx : ρ x = .slice A n c) (hy : ρ y = .int kd i)
    (ht : P.underlying t = some (.slice e)) (hi : P.info? e = some ti) (hsz : ti.size = sz) (h0 : 0 ≤ i) (h1 : i ≤ c) (k : R (.slice (cutA A c 0 sz) i.toNat c) h) :
    OE P ρ ⟨dst, .slice t x none (some y) none, ty, pos, af, g⟩ h R E :=
  .pure (fun w _ => run_v (by
    subst hsz
    rw [hx]
    simp only [Option.map_none, Option.map_some, hy]
    have := run_slice_gen (A := A) (lo := none) (hi := some (.int kd i)) ht hi (w := w) (l := 0) (u := i.toNat) (n := n) (c := c) (by simp [Instr.sliceBounds, run_sliceBound, h0, h1])
    simpa using this)) k
def made (z : Value) (k : Nat) : List Value := (madeCells z.cells k).toList
theorem OE.makeSlice {t e : TypeId} {x y : Operand} {ti : TypeInfo} {z : Value} {kd kd' : IntKind} {l c : Int} {sz : Nat} (hx : ρ x = .int kd l) (hy : ρ y = .int kd' c) (ht : P.underlying t = some (.slice e)) (hi : P.info? e = some ti) (hz : ti.zero = some z)
    (hsz : ti.size = sz) (h0 : 0 ≤ l) (h1 : l ≤ c) (hb : (ti.bytes : Int) * c ≤ 281474976710656) (h63 : c ≤ 9223372036854775807)
    (k : R (.slice (some ⟨h.size, 0, none⟩) l.toNat c.toNat) (h.push (.cells (made z (c.toNat * sz)).toArray e))) :
    OE P ρ ⟨dst, .makeSlice t x y, ty, pos, af, g⟩ h R E :=
  fun w hw => by
    subst hw hsz
    have hr : (execOp ρ ⟨dst, .makeSlice t x y, ty, pos, af, g⟩).run P w = .ok (.value (.slice (some ⟨w.heap.size, 0, none⟩) l.toNat c.toNat)) (w.alloc (.cells (madeCells z.cells (c.toNat * ti.size)) e)) :=
      run_v (by rw [hx, hy]; exact run_make w t e ti z ht hi hz kd kd' l c h0 h1 hb h63)
    rw [hr]
    refine ⟨⟨rfl, rfl, rfl⟩, ?_⟩
    have e : (made z (c.toNat * ti.size)).toArray = madeCells z.cells (c.toNat * ti.size) := by simp [made]
    rw [e] at k
    exact k

theorem OE.build {t : TypeId} {parts : Array (Nat × Operand)} {cells : Array Value} (hb : P.built t (parts.map fun p => (p.1, ρ p.2)).toList = some cells) (k : R (.agg cells) h) :
    OE P ρ ⟨dst, .build t parts, ty, pos, af, g⟩ h R E :=
  .pure (fun w _ => run_v (run_build w t _ cells hb)) k

theorem OE.field {t : TypeId} {x : Operand} {i : Nat} {fs : Array Field} {fd : Field} {d : TypeDesc} {cs : Array Value} {v : Value} (hx : ρ x = .agg cs) (ht : P.underlying t = some (.struct fs)) (hf : fs[i]? = some fd)
    (hd : P.underlying fd.type = some d) (hdd : isAggD d = false) (hv : cs[fd.offset]? = some v) (k : R v h) : OE P ρ ⟨dst, .field t x i, ty, pos, af, g⟩ h R E :=
  .pure (fun w _ => run_v (by
    rw [hx]
    unfold Instr.field
    rw [Sem.run_bind, run_underlying' ht]
    simp only [Result.andThen, hf, asAgg]
    show (Sem.run P (part fd.type cs fd.offset) w) = _
    unfold part
    rw [Sem.run_bind, run_isAgg hd]
    simp only [Result.andThen, hdd, Bool.false_eq_true, if_false, hv]
    rfl)) k
/-! ### conversions -/
/-! ### calls -/
theorem run_callFn {k : Nat} {xs : Array Operand} {ts : Array TypeId} {fn : Func} {c : Code} (hf : P.funcs[k]? = some fn) (hb : fn.body = some c) (hn : (fn.name == "runtime.NumGoroutine") = false) (w : World) {args : Array Value} (ha : xs.map ρ = args) (ρf : ρ (.func k) = .func (.func k) #[] #[]) :
    (execOp ρ ⟨dst, .call { callee := .value (.func k), args := xs, argTypes := ts }, ty, pos, af, g⟩).run P w = .ok (.enter k args) w := by
  simp only [execOp, resolve, ρf, Deferred.ofValue]
  show (invoke (.fn (.func k) #[]) (#[] ++ xs.map ρ)).run P w = _
  simp only [invoke, callFunc]
  simp [program, Sem.run, hf, ne_of_beq_false hn, hb, ha, Bind.bind, Pure.pure, Sem.bind]

theorem OE.call {k : Nat} {xs : Array Operand} {ts : Array TypeId} {fn : Func} {c : Code} {args : Array Value} (hf : P.funcs[k]? = some fn) (hb : fn.body = some c) (hn : (fn.name == "runtime.NumGoroutine") = false) (ha : xs.map ρ = args) (ρf : ρ (.func k) = .func (.func k) #[] #[])
    (kk : CHE P k args h R E) : OE P ρ ⟨dst, .call { callee := .value (.func k), args := xs, argTypes := ts }, ty, pos, af, g⟩ h R E :=
  fun w hw => by rw [run_callFn hf hb hn w ha ρf]; subst hw; exact ⟨.rfl' w, kk⟩

/-- A function value of the program's own: what it captured comes behind the arguments. -/
theorem OE.callClosure {k : Nat} {x : Operand} {xs : Array Operand} {ts : Array TypeId} {fn : Func} {c : Code} {cap args : Array Value} (hx : ρ x = .func (.func k) #[] cap) (hf : P.funcs[k]? = some fn) (hb : fn.body = some c) (hn : (fn.name == "runtime.NumGoroutine") = false) (ha : xs.map ρ ++ cap = args)
    (kk : CHE P k args h R E) : OE P ρ ⟨dst, .call { callee := .value x, args := xs, argTypes := ts }, ty, pos, af, g⟩ h R E :=
  fun w hw => by
    have hr : (execOp ρ ⟨dst, .call { callee := .value x, args := xs, argTypes := ts }, ty, pos, af, g⟩).run P w = .ok (.enter k args) w := by
      simp only [execOp, resolve, hx, Deferred.ofValue]
      show (invoke (.fn (.func k) cap) (#[] ++ xs.map ρ)).run P w = _
      simp only [invoke, callFunc]
      simp [program, Sem.run, hf, ne_of_beq_false hn, hb, ha, Bind.bind, Pure.pure, Sem.bind]
    rw [hr]; subst hw; exact ⟨.rfl' w, kk⟩

end Go.V
namespace Go.V
open Go
variable {P : Program} {ρ : Operand → Value} {h : Hp} {R : Value → Hp → Prop} {E : List PanicEntry → Hp → Prop}
variable {dst : Option Nat} {ty : TypeId} {pos : String} {af : Array Edge} {g : Option (Nat × Bool)}
theorem run_callFunc' {k : Nat} {fn : Func} {c : Code} (hf : P.funcs[k]? = some fn) (hb : fn.body = some c) (hn : (fn.name == "runtime.NumGoroutine") = false) (w : World) (args : Array Value) :
    (callFunc k args).run P w = .ok (.enter k args) w := by
  unfold callFunc
  simp [program, Sem.run, hf, ne_of_beq_false hn, hb, Bind.bind, Pure.pure, Sem.bind]

theorem run_callMethod' {k : Nat} {nm : String} {fn : Func} {c : Code} {t : TypeId} {v rv : Value} (w : World)
    (hm : (method (P.types.size + Made.depth) t v nm).run P w = .ok (k, rv) w)
    (hf : P.funcs[k]? = some fn) (hb : fn.body = some c) (hn : (fn.name == "runtime.NumGoroutine") = false) (args : Array Value) :
    (callMethod (.iface t v) nm args).run P w = .ok (.enter k (#[rv] ++ args)) w := by
  unfold callMethod
  simp only
  rw [Sem.run_bind, show (program).run P w = .ok P w from rfl]
  simp only [Result.andThen]
  rw [Sem.run_bind, hm]
  simp only [Result.andThen]
  exact run_callFunc' hf hb hn w _

theorem OE.invoke {k : Nat} {x : Operand} {nm : String} {xs : Array Operand} {ts : Array TypeId} {fn : Func} {c : Code} {t : TypeId} {v rv : Value} {args : Array Value} (hx : ρ x = .iface t v)
    (hm : ∀ w : World, (method (P.types.size + Made.depth) t v nm).run P w = .ok (k, rv) w)
    (hf : P.funcs[k]? = some fn) (hb : fn.body = some c) (hn : (fn.name == "runtime.NumGoroutine") = false) (ha : #[rv] ++ xs.map ρ = args)
    (kk : CHE P k args h R E) : OE P ρ ⟨dst, .call { callee := .invoke x nm, args := xs, argTypes := ts }, ty, pos, af, g⟩ h R E :=
  fun w hw => by
    have hr : (execOp ρ ⟨dst, .call { callee := .invoke x nm, args := xs, argTypes := ts }, ty, pos, af, g⟩).run P w = .ok (.enter k args) w := by
      simp only [execOp, resolve, hx]
      have e0 : (#[Value.iface t v] ++ xs.map ρ)[0]? = some (.iface t v) := by
        rw [Array.getElem?_append_left (by show 0 < 1; omega)]; rfl
      have e1 : (#[Value.iface t v] ++ xs.map ρ).extract 1 (#[Value.iface t v] ++ xs.map ρ).size = xs.map ρ := by
        apply Array.ext'
        simp [List.take_of_length_le]
      show (Go.invoke (.fn (.method nm) #[]) (#[.iface t v] ++ xs.map ρ)).run P w = _
      unfold Go.invoke
      simp only [e0, e1]
      rw [run_callMethod' w (hm w) hf hb hn, ha]
    rw [hr]; subst hw; exact ⟨.rfl' w, kk⟩

end Go.V
namespace Go.V
open Go
variable {P : Program} {ρ : Operand → Value} {h : Hp} {R : Value → Hp → Prop} {E : List PanicEntry → Hp → Prop}
variable {dst : Option Nat} {ty : TypeId} {pos : String} {af : Array Edge} {g : Option (Nat × Bool)}
variable {n : Nat} {Q : QT} {ds : List Deferred} {f : Frm} {ops : Array Oper}
/-- What a type is: its zero value, its cells, its bytes. -/
def Inf (P : Program) (t : TypeId) (z : Value) (sz bs : Nat) : Prop := (P.info? t).map (fun i => (i.zero, i.size, i.bytes)) = some (some z, sz, bs)
theorem Inf.get {t : TypeId} {z : Value} {sz bs : Nat} (h : Inf P t z sz bs) : ∃ ti, P.info? t = some ti ∧ ti.zero = some z ∧ ti.size = sz ∧ ti.bytes = bs := by
  unfold Inf at h
  cases hi : P.info? t with
  | none => simp [hi] at h
  | some ti =>
    simp only [hi, Option.map_some, Option.some.injEq, Prod.mk.injEq] at h
    exact ⟨ti, rfl, h.1, h.2.1, h.2.2⟩

theorem VL.stepD {o : Oper} {rest : List Oper} {d : Nat} (hg : o.guard = none) (hd : o.dst = some d) (hdn : d < n)
    (k : OE P (ev f) o h (fun v h' => VL P n ops Q rest ds (upd f d v) h') (fun c h' => Q (.panic c) ds f h')) :
    VL P n ops Q (o :: rest) ds f h :=
  VL.step hg (fun d' e => by rw [hd] at e; cases e; exact hdn) (by rw [hd]; exact k)
theorem VL.stepN {o : Oper} {rest : List Oper} (hg : o.guard = none) (hd : o.dst = none)
    (k : OE P (ev f) o h (fun _ h' => VL P n ops Q rest ds f h') (fun c h' => Q (.panic c) ds f h')) :
    VL P n ops Q (o :: rest) ds f h :=
  VL.step hg (fun d' e => by rw [hd] at e; cases e) (by rw [hd]; exact k)
theorem VL.gstepD {o : Oper} {rest : List Oper} {i t d : Nat} {b : Bool} (hg : o.guard = some (i, b)) (hi : (ops[i]?).bind (·.dst) = some t) (htn : t < n)
    (hb : f t = .bool b) (hd : o.dst = some d) (hdn : d < n)
    (k : OE P (ev f) o h (fun v h' => VL P n ops Q rest ds (upd f d v) h') (fun c h' => Q (.panic c) ds f h')) :
    VL P n ops Q (o :: rest) ds f h :=
  VL.gstep hg hi htn hb (fun d' e => by rw [hd] at e; cases e; exact hdn) (by rw [hd]; exact k)
theorem VL.gskipD {o : Oper} {rest : List Oper} {i t d : Nat} {b : Bool} (hg : o.guard = some (i, b)) (hi : (ops[i]?).bind (·.dst) = some t) (htn : t < n)
    (hb : f t = .bool (!b) ∨ f t = undef) (hd : o.dst = some d) (hdn : d < n) (k : VL P n ops Q rest ds (upd f d undef) h) : VL P n ops Q (o :: rest) ds f h :=
  VL.gskip hg hi htn hb (fun d' e => by rw [hd] at e; cases e; exact hdn) (by rw [hd]; exact k)
theorem boolSplit {p : Prop} (b : Bool) (t : b = true → p) (f : b = false → p) : p := by cases b; exact f rfl; exact t rfl

theorem OE.moveV {x : Operand} {v : Value} (hv : ρ x = v) (k : R v h) : OE P ρ ⟨dst, .move x, ty, pos, af, g⟩ h R E := OE.move (by rw [hv]; exact k)
theorem OE.assignV {x : Operand} {v : Value} (hv : ρ x = v) (k : R v h) : OE P ρ ⟨dst, .assign x, ty, pos, af, g⟩ h R E := OE.assign (by rw [hv]; exact k)
theorem OE.pickV {c a b : Operand} {t : Bool} {v : Value} (hc : ρ c = .bool t) (hv : (if t then ρ a else ρ b) = v) (k : R v h) : OE P ρ ⟨dst, .pick c a b, ty, pos, af, g⟩ h R E := OE.pick hc (by rw [hv]; exact k)
theorem OE.boxV {t : TypeId} {x : Operand} {v : Value} (hv : ρ x = v) (k : R (.pointer (some ⟨h.size, 0, none⟩)) (h.push (.cells v.cells t))) : OE P ρ ⟨dst, .box t x, ty, pos, af, g⟩ h R E := OE.box (by rw [hv]; exact k)
theorem OE.makeInterfaceV {x : Operand} {t : TypeId} {d : TypeDesc} {v : Value} (hv : ρ x = v) (ht : P.underlying t = some d) (hd : (match d with | .interface _ => false | _ => true) = true)
    (k : R (.iface t v) h) : OE P ρ ⟨dst, .makeInterface t x, ty, pos, af, g⟩ h R E := OE.makeInterface ht hd (by rw [hv]; exact k)
theorem OE.allocV {t : TypeId} {z : Value} {sz bs : Nat} (hi : Inf P t z sz bs) (k : R (.pointer (some ⟨h.size, 0, none⟩)) (h.push (.cells z.cells t))) : OE P ρ ⟨dst, .alloc t, ty, pos, af, g⟩ h R E :=
  let ⟨_, h1, h2, _, _⟩ := hi.get
  OE.alloc h1 h2 k
theorem OE.ptrNilV {op : BinOp} {t t' e : TypeId} {x y : Operand} {p q : Option Addr} {b : Bool} (hx : ρ x = .pointer p) (hy : ρ y = .pointer q) (ht : P.underlying t = some (.pointer e))
    (hpq : p = none ∨ q = none) (hb : (op = .eql ∧ b = (p.isNone && q.isNone)) ∨ (op = .neq ∧ b = !(p.isNone && q.isNone))) (kk : R (.bool b) h) : OE P ρ ⟨dst, .binOp op t x y t', ty, pos, af, g⟩ h R E :=
  OE.ptrNil hx hy ht hpq hb kk
theorem OE.makeSliceV {t e : TypeId} {x y : Operand} {z : Value} {kd kd' : IntKind} {l c : Int} {sz bs : Nat} (hx : ρ x = .int kd l) (hy : ρ y = .int kd' c) (ht : P.underlying t = some (.slice e)) (hi : Inf P e z sz bs)
    (h0 : 0 ≤ l) (h1 : l ≤ c) (hb : (bs : Int) * c ≤ 281474976710656) (hbs : 0 < bs)
    (k : R (.slice (some ⟨h.size, 0, none⟩) l.toNat c.toNat) (h.push (.cells (made z (c.toNat * sz)).toArray e))) :
    OE P ρ ⟨dst, .makeSlice t x y, ty, pos, af, g⟩ h R E := by
  obtain ⟨ti, i1, i2, i3, i4⟩ := hi.get
  subst i3 i4
  refine OE.makeSlice hx hy ht i1 i2 rfl h0 h1 hb ?_ k
  have hc : 0 ≤ c := by omega
  have h2 : (1 : Int) * c ≤ (ti.bytes : Int) * c := Int.mul_le_mul_of_nonneg_right (by omega) hc
  omega
theorem OE.sliceHiV {t e : TypeId} {x y : Operand} {z : Value} {A : Option Addr} {n c sz bs : Nat} {kd : IntKind} {i : Int} (hx : ρ x = .slice A n c) (hy : ρ y = .int kd i)
    (ht : P.underlying t = some (.slice e)) (hi : Inf P e z sz bs) (h0 : 0 ≤ i) (h1 : i ≤ c) (k : R (.slice A i.toNat c) h) :
    OE P ρ ⟨dst, .slice t x none (some y) none, ty, pos, af, g⟩ h R E := by
  obtain ⟨ti, i1, i2, i3, i4⟩ := hi.get
  refine OE.sliceHi hx hy ht i1 i3 h0 h1 ?_
  have e : cutA A c 0 sz = A := by
    unfold cutA
    split
    · rfl
    · cases A with
      | none => rfl
      | some a => simp [Addr.add]
  rw [e]; exact k
theorem OE.buildV {t : TypeId} {parts : List (Nat × Operand)} {ps : List (Nat × Value)} {cells : Array Value} (hp : parts.map (fun p => (p.1, ρ p.2)) = ps) (hb : P.built t ps = some cells) (k : R (.agg cells) h) :
    OE P ρ ⟨dst, .build t parts.toArray, ty, pos, af, g⟩ h R E :=
  OE.build (by simp only [List.map_toArray]; rw [hp]; exact hb) k
theorem OE.buildSliceV {t e : TypeId} {ln : Nat} {parts : List (Nat × Operand)} {ps : List (Nat × Value)} {cells : Array Value} (hp : parts.map (fun p => (p.1, ρ p.2)) = ps)
    (hb : ∀ w : World, (Instr.buildSlice t ln ps.toArray).run P w = .ok (.slice (some ⟨w.heap.size, 0, none⟩) ln ln) { w with heap := w.heap.push (.cells cells e) })
    (k : R (.slice (some ⟨h.size, 0, none⟩) ln ln) (h.push (.cells cells e))) : OE P ρ ⟨dst, .buildSlice t ln parts.toArray, ty, pos, af, g⟩ h R E :=
  fun w hw => by
    subst hw
    have hr : (execOp ρ ⟨dst, .buildSlice t ln parts.toArray, ty, pos, af, g⟩).run P w = .ok (.value (.slice (some ⟨w.heap.size, 0, none⟩) ln ln)) { w with heap := w.heap.push (.cells cells e) } :=
      run_v (by simp only [List.map_toArray]; rw [hp]; exact hb w)
    rw [hr]; exact ⟨⟨rfl, rfl, rfl⟩, k⟩
theorem AppendV.mono {e : TypeId} {z : Value} {sz : Nat} {A : Option Addr} {n c m : Nat} {vs : List Value} {K K' : Option Addr → Nat → Nat → Hp → Prop} (k : AppendV e z sz h A n c m vs K) (hk : ∀ A n c h, K A n c h → K' A n c h) : AppendV e z sz h A n c m vs K' :=
  ⟨fun hr => (k.1 hr).elim (fun ⟨a, b⟩ => .inl ⟨a, hk _ _ _ _ b⟩) fun ⟨a, b, c, d⟩ => .inr ⟨a, b, c, hk _ _ _ _ d⟩, fun hg => let ⟨os, a, b⟩ := k.2 hg; ⟨os, a, fun c' hc => hk _ _ _ _ (b c' hc)⟩⟩
theorem OE.appendV {t e : TypeId} {x y : Operand} {z : Value} {A B : Option Addr} {n c m c2 sz bs : Nat} {vs : List Value} (hx : ρ x = .slice A n c) (hy : ρ y = .slice B m c2)
    (ht : P.underlying t = some (.slice e)) (hi : Inf P e z sz bs)
    (hsrc : Src h (m * sz) vs B) (h1 : ∀ v ∈ vs, oneC v = true) (hbytes : (n + m) * bs ≤ 140737488355328) (h63 : n + m ≤ 9223372036854775807)
    (hk : AppendV e z sz h A n c m vs fun A' n' c' h' => R (.slice A' n' c') h') :
    OE P ρ ⟨dst, .call { callee := .builtin .append, args := #[x, y], argTypes := #[t, t] }, ty, pos, af, g⟩ h R E :=
  let ⟨_, i1, i2, i3, i4⟩ := hi.get
  OE.append hx hy ht i1 i2 i3 i4 hsrc h1 hbytes h63 hk

/-! ### calls, with lists -/
theorem OE.callL {k : Nat} {xs : List Operand} {ts : Array TypeId} {fn : Func} {c : Code} {args : List Value} (hf : P.funcs[k]? = some fn) (hb : fn.body = some c) (hn : (fn.name == "runtime.NumGoroutine") = false) (ρf : ρ (.func k) = .func (.func k) #[] #[]) (ha : xs.map ρ = args)
    (kk : CHE P k args.toArray h R E) : OE P ρ ⟨dst, .call { callee := .value (.func k), args := xs.toArray, argTypes := ts }, ty, pos, af, g⟩ h R E :=
  OE.call hf hb hn (by simp only [List.map_toArray]; rw [ha]) ρf kk
theorem OE.closureL {k : Nat} {x : Operand} {xs : List Operand} {ts : Array TypeId} {fn : Func} {c : Code} {cap l : List Value} (hx : ρ x = .func (.func k) #[] cap.toArray) (hf : P.funcs[k]? = some fn) (hb : fn.body = some c) (hn : (fn.name == "runtime.NumGoroutine") = false) (ha : xs.map ρ = l)
    (kk : CHE P k (l ++ cap).toArray h R E) : OE P ρ ⟨dst, .call { callee := .value x, args := xs.toArray, argTypes := ts }, ty, pos, af, g⟩ h R E :=
  OE.callClosure hx hf hb hn (by simp only [List.map_toArray]; rw [ha]; simp) kk

/-- A call of a function value, whichever function of the program it is. -/
def CHV (P : Program) (v : Value) (l : List Value) (h : Hp) (R : Value → Hp → Prop) : Prop :=
  ∃ k fn c cap, v = .func (.func k) #[] (List.toArray cap) ∧ P.funcs[k]? = some fn ∧ fn.body = some c ∧ (fn.name == "runtime.NumGoroutine") = false ∧ CH P k (l ++ cap).toArray h R
theorem CHV.mono {v : Value} {l : List Value} {R' : Value → Hp → Prop} (c : CHV P v l h R) (hr : ∀ v h', R v h' → R' v h') : CHV P v l h R' :=
  let ⟨k, fn, cc, cap, h1, h2, h3, h4, h5⟩ := c
  ⟨k, fn, cc, cap, h1, h2, h3, h4, h5.mono hr⟩
theorem CHE.weaken {k : FuncId} {args : Array Value} (c : CH P k args h R) : CHE P k args h R E := CHE.mono c (fun _ _ x => x) (fun _ _ x => x.elim)
theorem OE.callV {x : Operand} {xs : List Operand} {ts : Array TypeId} {v : Value} {l : List Value} (hx : ρ x = v) (ha : xs.map ρ = l) (c : CHV P v l h R) : OE P ρ ⟨dst, .call { callee := .value x, args := xs.toArray, argTypes := ts }, ty, pos, af, g⟩ h R E := by
  obtain ⟨k, fn, cc, cap, h1, h2, h3, h4, h5⟩ := c
  exact OE.closureL (hx.trans h1) h2 h3 h4 ha (CHE.weaken h5)
/-- A method called on a value behind an interface. -/
def CHI (P : Program) (v : Value) (nm : String) (l : List Value) (h : Hp) (R : Value → Hp → Prop) : Prop :=
  ∃ t x k rv fn c, v = .iface t x ∧ (∀ w : World, (method (P.types.size + Made.depth) t x nm).run P w = .ok (k, rv) w) ∧ P.funcs[k]? = some fn ∧ fn.body = some c ∧ (fn.name == "runtime.NumGoroutine") = false ∧ CH P k (rv :: l).toArray h R
theorem CHI.mono {v : Value} {nm : String} {l : List Value} {R' : Value → Hp → Prop} (c : CHI P v nm l h R) (hr : ∀ v h', R v h' → R' v h') : CHI P v nm l h R' :=
  let ⟨t, x, k, rv, fn, cc, h1, h2, h3, h4, h5, h6⟩ := c
  ⟨t, x, k, rv, fn, cc, h1, h2, h3, h4, h5, h6.mono hr⟩
theorem OE.callI {x : Operand} {nm : String} {xs : List Operand} {ts : Array TypeId} {v : Value} {l : List Value} (hx : ρ x = v) (ha : xs.map ρ = l) (c : CHI P v nm l h R) : OE P ρ ⟨dst, .call { callee := .invoke x nm, args := xs.toArray, argTypes := ts }, ty, pos, af, g⟩ h R E := by
  obtain ⟨t, y, k, rv, fn, cc, h1, h2, h3, h4, h5, h6⟩ := c
  exact OE.invoke (hx.trans h1) h2 h3 h4 h5 (by simp only [List.map_toArray]; rw [ha]; simp) (CHE.weaken h6)

/-! ### results; joins -/
theorem ResOK.none {fn : Func} (hr : fn.results = #[]) : ResOK P fn f h (.tuple #[]) := fun w tmps _ _ => results_none hr tmps P w
theorem ResOK.t1 {fn : Func} {t : Nat} {v : Value} (hr : fn.results = #[.tmp t]) (hv : f t = v) : ResOK P fn f h v := fun w tmps _ hf => by rw [results_tmp hr, hf, hv]
theorem ResOK.t2 {fn : Func} {t u : Nat} {v0 v1 : Value} (hr : fn.results = #[.tmp t, .tmp u]) (h0 : f t = v0) (h1 : f u = v1) : ResOK P fn f h (.tuple #[v0, v1]) := fun w tmps _ hf => by rw [results_tmp2 hr, hf, hf, h0, h1]
theorem ResOK.t3 {fn : Func} {t u s : Nat} {v0 v1 v2 : Value} (hr : fn.results = #[.tmp t, .tmp u, .tmp s]) (h0 : f t = v0) (h1 : f u = v1) (h2 : f s = v2) : ResOK P fn f h (.tuple #[v0, v1, v2]) := fun w tmps _ hf => by
  have : (results fn tmps).run P w = .ok (.tuple #[tmps.getD t undef, tmps.getD u undef, tmps.getD s undef]) w := by simp [results, hr]
  rw [this, hf, hf, hf, h0, h1, h2]
theorem ResOK.c1 {fn : Func} {t : Nat} {tt : TypeId} {a : Addr} {v : Value} (hr : fn.results = #[.cell t tt]) (ha : f t = .pointer (some a)) (hl : LdT P h tt a v) : ResOK P fn f h v := fun w tmps hw hf => by
  have h1 : (loadVar tt a).run P w = .ok v w := hl w hw
  have h2 : tmps.getD t undef = .pointer (some a) := (hf t).trans ha
  have h3 : tmps[t]?.getD undef = .pointer (some a) := by rw [← Array.getD_eq_getD_getElem?]; exact h2
  simp [results, hr, h3, asAddr, h1]

def fr (g : Frm) : List (Nat × Value) → Frm
  | [], t => g t
  | (k, v) :: l, t => cond (Nat.beq t k) v (fr g l t)
theorem fr_self (f : Frm) : ∀ (l : List (Nat × Value)), (∀ p ∈ l, f p.1 = p.2) → fr f l = f
  | [], _ => rfl
  | (k, v) :: l, hl => by
    funext t
    simp only [fr]
    rw [fr_self f l (fun p hp => hl p (List.mem_cons_of_mem _ hp))]
    cases hb : Nat.beq t k with
    | false => rfl
    | true =>
      have := Nat.eq_of_beq_eq_true hb
      subst this
      exact (hl (t, v) List.mem_cons_self).symm
theorem VC.seqJ {x y : Code} (J : Frm → Hp → Prop) (hJ : ∀ f h, J f h → VC P n y Q ds f h) (k : VC P n x (thenQ (fun ds' f h => ds' = ds ∧ J f h) Q) ds f h) : VC P n (.seq x y) Q ds f h := by
  refine VC.seq (k.mono fun e ds' f' h' q => ?_)
  cases e with
  | normal =>
    obtain ⟨rfl, hj⟩ := q
    exact hJ _ _ hj
  | _ => exact q
end Go.V
namespace Go.V
open Go
variable {P : Program} {ρ : Operand → Value} {h : Hp} {R : Value → Hp → Prop} {E : List PanicEntry → Hp → Prop}
variable {dst : Option Nat} {ty : TypeId} {pos : String} {af : Array Edge} {g : Option (Nat × Bool)}
theorem LdT.aggI {t : TypeId} {d : TypeDesc} {z : Value} {sz bs : Nat} {a : Addr} {vs : List Value} (ht : P.underlying t = some d) (hd : isAggD d = true)
    (hi : Inf P t z sz bs) (hs : vs.length = sz) (hc : Row h a vs) : LdT P h t a (.agg vs.toArray) :=
  let ⟨_, i1, _, i3, _⟩ := hi.get
  LdT.agg ht hd i1 (i3.trans hs.symm) hc
theorem StT.oneI {t : TypeId} {z : Value} {bs : Nat} {a : Addr} {v : Value} (hi : Inf P t z 1 bs) (hw : Wr h a) (h1 : oneC v = true) : StT P h t a v (setc h a v) :=
  let ⟨_, i1, _, i3, _⟩ := hi.get
  StT.one i1 i3 hw h1
theorem StT.aggI {t : TypeId} {z : Value} {sz bs : Nat} {a : Addr} {vs : List Value} (hi : Inf P t z sz bs) (hs : vs.length = sz) (hw : ∀ j, j < vs.length → Wr h (a.add j)) (h1 : ∀ v ∈ vs, oneC v = true) : StT P h t a (.agg vs.toArray) (setRow h a vs 0) :=
  let ⟨_, i1, _, i3, _⟩ := hi.get
  StT.agg i1 (i3.trans hs.symm) hw h1
theorem OE.fieldAddrI {s : TypeId} {x : Operand} {fs : Array Field} {fd : Field} {i : Nat} {z : Value} {sz bs : Nat} {a : Addr} {o : Nat} (hx : ρ x = .pointer (some a)) (hs : P.underlying s = some (.struct fs)) (hf : fs[i]? = some fd)
    (hi : Inf P fd.type z sz bs) (hz : sz ≠ 0) (ho : fd.offset = o) (k : R (.pointer (some (a.add o))) h) : OE P ρ ⟨dst, .fieldAddr s x i, ty, pos, af, g⟩ h R E :=
  let ⟨_, i1, _, i3, _⟩ := hi.get
  OE.fieldAddr hx hs hf i1 (by rw [i3]; exact hz) ho k
theorem OE.indexAddrI {t e : TypeId} {x y : Operand} {z : Value} {A : Option Addr} {a : Addr} {n c sz bs : Nat} {i : Int} {kd : IntKind} (hx : ρ x = .slice A n c) (hy : ρ y = .int kd i) (ht : P.underlying t = some (.slice e))
    (hi : Inf P e z sz bs) (hA : A = some a) (h0 : 0 ≤ i) (h1 : i < n) (k : R (.pointer (some (a.add (i.toNat * sz)))) h) : OE P ρ ⟨dst, .indexAddr t x y, ty, pos, af, g⟩ h R E :=
  let ⟨_, i1, _, i3, _⟩ := hi.get
  OE.indexAddr hx hy ht i1 i3 hA h0 h1 k
/-! ### new heaps by equations -/
theorem OE.storeE {t : TypeId} {x y : Operand} {a : Addr} {v : Value} {h' h1 : Hp} (hx : ρ x = .pointer (some a)) (hv : ρ y = v) (hs : StT P h t a v h') (e : h1 = h') (k : R undef h1) : OE P ρ ⟨dst, .store t x y, ty, pos, af, g⟩ h R E :=
  OE.store (h' := h') hx (by rw [hv]; exact hs) (by rw [← e]; exact k)
theorem OE.boxE {t : TypeId} {x : Operand} {v : Value} {b : Nat} {h1 : Hp} (hv : ρ x = v) (eb : b = h.size) (eh : h1 = h.push (.cells v.cells t)) (k : R (.pointer (some (Addr.mk b 0 none))) h1) : OE P ρ ⟨dst, .box t x, ty, pos, af, g⟩ h R E := by
  subst eb eh
  exact OE.boxV hv k
theorem OE.allocE {t : TypeId} {z : Value} {sz bs b : Nat} {h1 : Hp} (hi : Inf P t z sz bs) (eb : b = h.size) (eh : h1 = h.push (.cells z.cells t)) (k : R (.pointer (some (Addr.mk b 0 none))) h1) : OE P ρ ⟨dst, .alloc t, ty, pos, af, g⟩ h R E := by
  subst eb eh
  exact OE.allocV hi k
theorem OE.makeSliceE {t e : TypeId} {x y : Operand} {z : Value} {kd kd' : IntKind} {l c : Int} {sz bs b : Nat} {h1' : Hp} (hx : ρ x = .int kd l) (hy : ρ y = .int kd' c) (ht : P.underlying t = some (.slice e)) (hi : Inf P e z sz bs)
    (h0 : 0 ≤ l) (h1 : l ≤ c) (hb : (bs : Int) * c ≤ 281474976710656) (hbs : 0 < bs) (eb : b = h.size) (eh : h1' = h.push (.cells (made z (c.toNat * sz)).toArray e))
    (k : R (.slice (some (Addr.mk b 0 none)) l.toNat c.toNat) h1') :
    OE P ρ ⟨dst, .makeSlice t x y, ty, pos, af, g⟩ h R E := by
  subst eb eh
  exact OE.makeSliceV hx hy ht hi h0 h1 hb hbs k
theorem OE.buildSliceE {t e : TypeId} {ln : Nat} {parts : List (Nat × Operand)} {ps : List (Nat × Value)} {cells : Array Value} {b : Nat} {h1 : Hp} (hp : parts.map (fun p => (p.1, ρ p.2)) = ps)
    (hb : ∀ w : World, (Instr.buildSlice t ln ps.toArray).run P w = .ok (.slice (some ⟨w.heap.size, 0, none⟩) ln ln) { w with heap := w.heap.push (.cells cells e) })
    (eb : b = h.size) (eh : h1 = h.push (.cells cells e)) (k : R (.slice (some (Addr.mk b 0 none)) ln ln) h1) : OE P ρ ⟨dst, .buildSlice t ln parts.toArray, ty, pos, af, g⟩ h R E := by
  subst eb eh
  exact OE.buildSliceV hp hb k
end Go.V
/-! Regions that draw their order: one walk for all orders. The operations that leave the heap alone are met first, each with its value; one that turns the heap is met when nothing else can come ahead of it; what may come behind it must yield the same there. -/
namespace Go.V
open Go
def preds (ops : Array Oper) (i : Nat) : List Nat :=
  match ops[i]? with
  | some o => (o.after.toList.filter fun e => Region.binds .any e).map (·.on)
  | none => []
def dstAt (ops : Array Oper) (i : Nat) : Option Nat := (ops[i]?).bind (·.dst)
def looks (ops : Array Oper) (i : Nat) : List Nat :=
  match ops[i]? with
  | some o => o.looksAt ops
  | none => []
def writer (ops : Array Oper) (t : Nat) : Option Nat := (List.range ops.size).find? fun j => dstAt ops j == some t

/-- What is asked of the region's own text. -/
def stB (ops : Array Oper) : Bool :=
  (List.range ops.size).all fun i =>
    (preds ops i).all (fun j => Nat.blt j i) &&
    (List.range ops.size).all (fun j => match dstAt ops j with
      | some t => (j == i || dstAt ops i != some t) && (!(looks ops i).contains t || j == i || (preds ops i).contains j || (preds ops j).contains i)
      | none => true) &&
    (match ops[i]? with | some o => (match o.op with | .select _ _ => false | _ => true) | none => true)

theorem st_lt {ops : Array Oper} (st : stB ops = true) {i j : Nat} (hi : i < ops.size) (hj : j ∈ preds ops i) : j < i := by
  have h := List.all_eq_true.1 st i (List.mem_range.2 hi)
  simp only [Bool.and_eq_true] at h
  have := List.all_eq_true.1 h.1.1 j hj
  rwa [Nat.blt_eq] at this
theorem st_dst {ops : Array Oper} (st : stB ops = true) {i j t : Nat} (hi : i < ops.size) (hj : j < ops.size) (h1 : dstAt ops i = some t) (h2 : dstAt ops j = some t) : j = i := by
  have h := List.all_eq_true.1 st i (List.mem_range.2 hi)
  simp only [Bool.and_eq_true] at h
  have h3 := List.all_eq_true.1 h.1.2 j (List.mem_range.2 hj)
  simp only [h2, h1] at h3
  simp only [Bool.and_eq_true, Bool.or_eq_true] at h3
  rcases h3.1 with h4 | h4
  · exact beq_iff_eq.1 h4
  · simp at h4
theorem st_looks {ops : Array Oper} (st : stB ops = true) {i j t : Nat} (hi : i < ops.size) (hj : j < ops.size) (hl : t ∈ looks ops i) (h2 : dstAt ops j = some t) (hne : j ≠ i) : j ∈ preds ops i ∨ i ∈ preds ops j := by
  have h := List.all_eq_true.1 st i (List.mem_range.2 hi)
  simp only [Bool.and_eq_true] at h
  have h3 := List.all_eq_true.1 h.1.2 j (List.mem_range.2 hj)
  simp only [h2] at h3
  simp only [Bool.and_eq_true, Bool.or_eq_true] at h3
  rcases h3.2 with ((h4 | h4) | h4) | h4
  · simp [hl] at h4
  · exact absurd (beq_iff_eq.1 h4) hne
  · exact .inl (List.contains_iff_mem.1 h4)
  · exact .inr (List.contains_iff_mem.1 h4)
theorem st_sel {ops : Array Oper} (st : stB ops = true) {i : Nat} {o : Oper} (ho : ops[i]? = some o) : ∀ cs b, o.op ≠ .select cs b := by
  have hi : i < ops.size := (Array.getElem?_eq_some_iff.1 ho).1
  have h := List.all_eq_true.1 st i (List.mem_range.2 hi)
  simp only [Bool.and_eq_true, ho] at h
  intro cs b e
  rw [e] at h
  simp at h

/-- What has been met so far: the operation, whether it turned the heap, its value. -/
abbrev Asg := List (Nat × Bool × Value)
def Asg.get : Asg → Nat → Option (Bool × Value)
  | [], _ => none
  | (j, x) :: S, i => cond (Nat.beq i j) (some x) (Asg.get S i)
def Asg.has (S : Asg) (i : Nat) : Bool := (S.get i).isSome

theorem Asg.get_cons {c i : Nat} {x : Bool × Value} {S : Asg} : Asg.get ((c, x) :: S) i = if i = c then some x else S.get i := by
  simp only [Asg.get]
  by_cases e : i = c
  · subst e
    have : Nat.beq i i = true := Nat.beq_refl i
    rw [this]; simp
  · have hb : Nat.beq i c = false := by
      cases hb : Nat.beq i c with
      | false => rfl
      | true => exact absurd (Nat.eq_of_beq_eq_true hb) e
    rw [hb]; simp [e]

/-- The slots as an operation meets them. -/
def expv (ops : Array Oper) (f0 : Frm) (S : Asg) (i t : Nat) : Value :=
  match writer ops t with
  | some j => cond ((preds ops i).contains j) (match S.get j with | some (_, v) => v | none => undef) (f0 t)
  | none => f0 t

structure Con (ops : Array Oper) (n : Nat) (ds : List Deferred) (f0 : Frm) (S : Asg) (listed : Array Bool) (a : Act) : Prop where
  lsize : listed.size = ops.size
  asize : a.tmps.size = n
  defers : a.defers = ds
  sub : ∀ i, i < ops.size → listed.getD i true = true → ∃ x, S.get i = some x
  loud : ∀ i v, S.get i = some (true, v) → listed.getD i true = true
  closed : ∀ i, i < ops.size → listed.getD i true = true → ∀ j ∈ preds ops i, listed.getD j false = true
  val : ∀ i b v t, i < ops.size → S.get i = some (b, v) → listed.getD i true = true → dstAt ops i = some t → a.tmps.getD t undef = v
  base : ∀ t, (∀ i, i < ops.size → listed.getD i true = true → dstAt ops i ≠ some t) → a.tmps.getD t undef = f0 t

def unl (ops : Array Oper) (listed : Array Bool) : Nat := ((List.range ops.size).filter fun i => !listed.getD i true).length

/-- From here on, whatever order is drawn. -/
def DW (P : Program) (n : Nat) (ops : Array Oper) (Q : QT) (ds : List Deferred) (f0 : Frm) (S : Asg) (h : Hp) : Prop :=
  ∀ (W0 : World) (fuel : Nat) (listed : Array Bool) (a : Act) (w : World), w.heap = h → Same W0 w → Con ops n ds f0 S listed a → unl ops listed ≤ fuel →
    wpAny P .any ops (lift n Q W0) fuel listed a w

variable {P : Program} {n : Nat} {Q : QT} {ds : List Deferred} {f0 : Frm} {h : Hp} {ops : Array Oper} {S : Asg}
theorem getD_lt {listed : Array Bool} {i : Nat} {b b' : Bool} (hi : i < listed.size) : listed.getD i b = listed.getD i b' := by
  simp [Array.getD_eq_getD_getElem?, Array.getElem?_eq_getElem hi]

theorem unl_set {listed : Array Bool} {i : Nat} (hl : listed.size = ops.size) (hi : i < ops.size) (hu : listed.getD i true = false) : unl ops (listed.setIfInBounds i true) < unl ops listed := by
  unfold unl
  have hsub : ∀ (l : List Nat), ((l.filter fun j => !(listed.setIfInBounds i true).getD j true).length ≤ (l.filter fun j => !listed.getD j true).length) ∧ (i ∈ l → (l.filter fun j => !(listed.setIfInBounds i true).getD j true).length < (l.filter fun j => !listed.getD j true).length) := by
    intro l
    induction l with
    | nil => exact ⟨Nat.le_refl _, fun h => by cases h⟩
    | cons j l ih =>
      have hj : (listed.setIfInBounds i true).getD j true = if j = i then true else listed.getD j true := by
        simp only [Array.getD_eq_getD_getElem?, Array.getElem?_setIfInBounds]
        by_cases e : i = j
        · subst e; simp [hl, hi]
        · rw [if_neg e, if_neg (Ne.symm e)]
      simp only [List.filter_cons, hj]
      by_cases e : j = i
      · subst e
        simp only [if_true, hu, Bool.not_true, Bool.not_false, Bool.false_eq_true, if_false, List.length_cons]
        exact ⟨by have := ih.1; omega, fun _ => by have := ih.1; omega⟩
      · rw [if_neg e]
        cases hx : listed.getD j true with
        | true =>
          simp only [Bool.not_true, Bool.false_eq_true, if_false]
          exact ⟨ih.1, fun hm => ih.2 ((List.mem_cons.1 hm).resolve_left (Ne.symm e))⟩
        | false =>
          simp only [Bool.not_false, if_true, List.length_cons]
          exact ⟨by have := ih.1; omega, fun hm => by have := ih.2 ((List.mem_cons.1 hm).resolve_left (Ne.symm e)); omega⟩
  exact (hsub _).2 (List.mem_range.2 hi)

end Go.V
namespace Go.V
open Go
variable {P : Program} {n : Nat} {Q : QT} {ds : List Deferred} {f0 : Frm} {h : Hp} {ops : Array Oper} {S : Asg}
theorem getD_set {listed : Array Bool} {i j : Nat} {b : Bool} (hi : i < listed.size) : (listed.setIfInBounds i true).getD j b = if j = i then true else listed.getD j b := by
  simp only [Array.getD_eq_getD_getElem?, Array.getElem?_setIfInBounds]
  by_cases e : i = j
  · subst e; simp [hi]
  · rw [if_neg e, if_neg (Ne.symm e)]

theorem put_getD {a : Act} {dst : Option Nat} {v : Value} {t n : Nat} (hs : a.tmps.size = n) (hd : ∀ d, dst = some d → d < n) :
    (a.put dst v).tmps.getD t undef = if dst = some t then v else a.tmps.getD t undef := by
  cases dst with
  | none => simp [Act.put]
  | some d =>
    have hdn := hd d rfl
    simp only [Act.put, Array.getD_eq_getD_getElem?, Array.getElem?_setIfInBounds]
    by_cases e : d = t
    · subst e; simp [hs, hdn]
    · rw [if_neg e, if_neg (by simpa using e)]

/-- One operation more has been carried out. -/
theorem Con.grow (st : stB ops = true) {i : Nat} {o : Oper} {b : Bool} {v : Value} {S' : Asg} {listed : Array Bool} {a : Act}
    (c : Con ops n ds f0 S listed a) (ho : ops[i]? = some o) (hd : ∀ d, o.dst = some d → d < n) (hu : listed.getD i true = false)
    (hp : ∀ j ∈ preds ops i, listed.getD j false = true) (hi' : S'.get i = some (b, v)) (hS' : ∀ j x, S.get j = some x → S'.get j = some x)
    (hl' : ∀ j u, S'.get j = some (true, u) → j = i ∨ S.get j = some (true, u)) :
    Con ops n ds f0 S' (listed.setIfInBounds i true) (a.put o.dst v) := by
  have hi : i < ops.size := (Array.getElem?_eq_some_iff.1 ho).1
  have hil : i < listed.size := by rw [c.lsize]; exact hi
  have hdst : dstAt ops i = o.dst := by simp [dstAt, ho]
  refine ⟨by simp [c.lsize], by cases o.dst <;> simp [Act.put, c.asize], by cases o.dst <;> simp [Act.put, c.defers], ?_, ?_, ?_, ?_, ?_⟩
  · intro j hj hl
    rw [getD_set hil] at hl
    by_cases e : j = i
    · subst e; exact ⟨_, hi'⟩
    · rw [if_neg e] at hl
      obtain ⟨x, hx⟩ := c.sub j hj hl
      exact ⟨x, hS' j x hx⟩
  · intro j u hj
    rw [getD_set hil]
    rcases hl' j u hj with e | e
    · rw [if_pos e]
    · split
      · rfl
      · exact c.loud j u e
  · intro j hj hl k hk
    rw [getD_set hil] at hl ⊢
    by_cases e : j = i
    · subst e
      split
      · rfl
      · exact hp k hk
    · rw [if_neg e] at hl
      split
      · rfl
      · exact c.closed j hj hl k hk
  · intro j b' v' t hj hg hl ht
    rw [put_getD c.asize hd, ← hdst]
    rw [getD_set hil] at hl
    by_cases e : j = i
    · subst e
      rw [if_pos ht]
      rw [hi'] at hg
      cases hg
      rfl
    · rw [if_neg e] at hl
      have hne : dstAt ops i ≠ some t := fun e' => e (st_dst st hi hj e' ht)
      rw [if_neg hne]
      obtain ⟨x, hx⟩ := c.sub j hj hl
      have := hS' j x hx
      rw [hg] at this
      cases this
      exact c.val j b' v' t hj hx hl ht
  · intro t ht
    rw [put_getD c.asize hd, ← hdst]
    have hne : dstAt ops i ≠ some t := ht i hi (by rw [getD_set hil, if_pos rfl])
    rw [if_neg hne]
    exact c.base t fun j hj hl => ht j hj (by rw [getD_set hil]; split <;> first | rfl | exact hl)

theorem writer_some {t j : Nat} (h : writer ops t = some j) : j < ops.size ∧ dstAt ops j = some t := by
  have h1 := List.mem_of_find?_eq_some h
  have h2 := List.find?_some h
  exact ⟨List.mem_range.1 h1, by simpa using h2⟩
theorem writer_none {t : Nat} (h : writer ops t = none) : ∀ j, j < ops.size → dstAt ops j ≠ some t := by
  intro j hj e
  have := List.find?_eq_none.1 h j (List.mem_range.2 hj)
  simp [e] at this

/-- What an operation that is ready reads. -/
theorem Con.reads (st : stB ops = true) {i : Nat} {listed : Array Bool} {a : Act} (c : Con ops n ds f0 S listed a) (hi : i < ops.size) (hu : listed.getD i true = false)
    (hp : ∀ j ∈ preds ops i, listed.getD j false = true) {t : Nat} (ht : t ∈ looks ops i) : a.tmps.getD t undef = expv ops f0 S i t := by
  unfold expv
  cases hw : writer ops t with
  | none => exact c.base t fun j hj _ => writer_none hw j hj
  | some j =>
    obtain ⟨hj, hjd⟩ := writer_some hw
    simp only
    by_cases hjp : j ∈ preds ops i
    · rw [List.contains_iff_mem.2 hjp]
      have hl : listed.getD j true = true := by rw [getD_lt (b' := false) (by rw [c.lsize]; exact hj)]; exact hp j hjp
      obtain ⟨⟨b, v⟩, hx⟩ := c.sub j hj hl
      simp only [hx, cond_true]
      exact c.val j b v t hj hx hl hjd
    · have hc : (preds ops i).contains j = false := by
        cases hc : (preds ops i).contains j with
        | false => rfl
        | true => exact absurd (List.contains_iff_mem.1 hc) hjp
      rw [hc]
      simp only [cond_false]
      refine c.base t fun k hk hl hkd => ?_
      have hkj : j = k := st_dst st hk hj hkd hjd
      subst hkj
      by_cases e : j = i
      · subst e; rw [hu] at hl; cases hl
      · rcases st_looks st hi hj ht hjd e with h1 | h1
        · exact hjp h1
        · have := c.closed j hj hl i h1
          rw [getD_lt (b' := true) (by rw [c.lsize]; exact hi), hu] at this
          cases this

/-- What an operation yields, met with the slots as it finds them. -/
def YD (P : Program) (ops : Array Oper) (f0 : Frm) (S : Asg) (h : Hp) (i : Nat) (v : Value) : Prop :=
  ∃ o, ops[i]? = some o ∧ ((o.guard = none ∧ OE P (ev (expv ops f0 S i)) o h (fun v' h' => v' = v ∧ h' = h) noE) ∨
    ∃ j b t, o.guard = some (j, b) ∧ dstAt ops j = some t ∧ ((expv ops f0 S i t = .bool b ∧ OE P (ev (expv ops f0 S i)) o h (fun v' h' => v' = v ∧ h' = h) noE) ∨
      ((expv ops f0 S i t = .bool (!b) ∨ expv ops f0 S i t = undef) ∧ v = undef)))

theorem eval_same {i : Nat} {o : Oper} (ho : ops[i]? = some o) {a : Act} {F : Frm} (hF : ∀ t ∈ looks ops i, a.tmps.getD t undef = F t) (hs : ∀ cs b, o.op ≠ .select cs b) : execOp a.eval o = execOp (ev F) o :=
  execOp_congr o hs fun x hx => by
    cases x with
    | tmp t => exact hF t (by simp only [looks, ho]; exact List.mem_append_left _ (List.mem_filterMap.2 ⟨.tmp t, by simpa using hx, rfl⟩))
    | const v => rfl
    | global g => rfl
    | func k => rfl

theorem yields_at {a : Act} (hs : a.tmps.size = n) {j t : Nat} (ht : dstAt ops j = some t) (htn : t < n) : yielded ops a.tmps j = (match a.tmps.getD t undef with | .bool b => some b | _ => none) := by
  have hlt : t < a.tmps.size := by rw [hs]; exact htn
  unfold dstAt at ht
  simp only [yielded, ht, Option.bind_some, Array.getD_eq_getD_getElem?, Array.getElem?_eq_getElem hlt, Option.getD_some]
  cases a.tmps[t] <;> rfl

/-- OE in a frame that reads the same. -/
theorem OE.wpF {i : Nat} {o : Oper} {R : Value → Hp → Prop} {a : Act} {F : Frm} {w : World} {K : Act → World → Prop} {Q' : Exit → Act → World → Prop}
    (ho : ops[i]? = some o) (hs : ∀ cs b, o.op ≠ .select cs b) (hF : ∀ t ∈ looks ops i, a.tmps.getD t undef = F t) (k : OE P (ev F) o w.heap R noE)
    (hK : ∀ v w', Same w w' → R v w'.heap → K (a.put o.dst v) w') : o.wp P a w K Q' := by
  have k := k w rfl
  rw [← eval_same ho hF hs] at k
  unfold Oper.wp
  generalize (execOp a.eval o).run P w = r at k
  cases r with
  | ok x w' =>
    cases x <;> simp only [Oper.upon] <;> simp only at k
    · exact hK _ _ k.1 k.2
    · exact hK _ _ k.1 k.2
    · rename_i fid args
      obtain ⟨hs, hc⟩ := k
      refine (hc w' rfl).mono fun e w'' he => ?_
      cases e with
      | returned v => exact hK _ _ (hs.trans he.1) he.2
      | panicked c => exact he.2.elim
      | outgrown => exact he.elim
  | halt x w' =>
    cases x <;> simp only [Oper.upon] <;> simp only at k
    exact k.2.elim

theorem YD.wpOp {i : Nat} {v : Value} {listed : Array Bool} {a : Act} {w : World} {K : Act → World → Prop} {Q' : Exit → Act → World → Prop} (st : stB ops = true) (hdn : ∀ i t, dstAt ops i = some t → t < n)
    (c : Con ops n ds f0 S listed a) (hi : i < ops.size) (hu : listed.getD i true = false) (hp : ∀ j ∈ preds ops i, listed.getD j false = true)
    (y : YD P ops f0 S w.heap i v) (hK : ∀ w', Same w w' → w'.heap = w.heap → K (a.put (dstAt ops i) v) w') : wpOp P ops Q' i K a w := by
  obtain ⟨o, ho, hy⟩ := y
  have hsel := st_sel st ho
  have hF : ∀ t ∈ looks ops i, a.tmps.getD t undef = expv ops f0 S i t := fun t ht => c.reads st hi hu hp ht
  have hd : dstAt ops i = o.dst := by simp [dstAt, ho]
  rw [hd] at hK
  unfold Go.wpOp
  simp only [ho]
  rcases hy with ⟨hg, k⟩ | ⟨j, b, t, hg, ht, hy⟩
  · rw [if_pos (by simp [Region.wanted, hg])]
    exact .inl (OE.wpF ho hsel hF k fun v' w' s ⟨e1, e2⟩ => by subst e1; exact hK w' s e2)
  · have hlook : t ∈ looks ops i := by
      unfold dstAt at ht
      simp [looks, ho, Oper.looksAt, hg, ht]
    have hyi := yields_at c.asize ht (hdn j t ht)
    rw [hF t hlook] at hyi
    rcases hy with ⟨hb, k⟩ | ⟨hb, rfl⟩
    · rw [hb] at hyi
      rw [if_pos (by simp [Region.wanted, hg, hyi])]
      exact .inl (OE.wpF ho hsel hF k fun v' w' s ⟨e1, e2⟩ => by subst e1; exact hK w' s e2)
    · have hw : Region.wanted o (yielded ops a.tmps) = false := by
        simp only [Region.wanted, hg, hyi]
        rcases hb with hb | hb
        · rw [hb]; cases b <;> simp
        · rw [hb]; simp [undef]
      rw [if_neg (by simp [hw])]
      exact hK w (.rfl' w) rfl
end Go.V
namespace Go.V
open Go
variable {P : Program} {n : Nat} {Q : QT} {ds : List Deferred} {f0 : Frm} {h : Hp} {ops : Array Oper} {S : Asg}
/-- The operations that must have come ahead of c. -/
def anc (ops : Array Oper) (c : Nat) : List Nat :=
  (List.range c).reverse.foldl (fun acc j => cond (acc.any fun k => (preds ops k).contains j) (j :: acc) acc) [c]
/-- Was it forced to come ahead of one that has turned the heap? -/
def forced (ops : Array Oper) (S : Asg) (i : Nat) : Bool := S.any fun p => p.2.1 && (anc ops p.1).contains i

def AllY (P : Program) (ops : Array Oper) (f0 : Frm) (S : Asg) (h : Hp) : Asg → Prop
  | [] => True
  | (i, _, v) :: T => (forced ops S i = true ∨ YD P ops f0 S h i v) ∧ AllY P ops f0 S h T

theorem AllY.get {T : Asg} {i : Nat} {b : Bool} {v : Value} (hy : AllY P ops f0 S h T) (hg : T.get i = some (b, v)) : forced ops S i = true ∨ YD P ops f0 S h i v := by
  induction T with
  | nil => cases hg
  | cons p T ih =>
    obtain ⟨j, b', v'⟩ := p
    simp only [Asg.get] at hg
    cases hb : Nat.beq i j with
    | true =>
      rw [hb] at hg
      simp only [cond_true, Option.some.injEq, Prod.mk.injEq] at hg
      obtain ⟨_, rfl⟩ := hg
      have := Nat.eq_of_beq_eq_true hb
      subst this
      exact hy.1
    | false =>
      rw [hb] at hg
      exact ih hy.2 hg

theorem anc_listed {listed : Array Bool} {a : Act} (c : Con ops n ds f0 S listed a) (st : stB ops = true) {l : Nat} (hl : l < ops.size) (hli : listed.getD l true = true) :
    ∀ i ∈ anc ops l, i < ops.size ∧ listed.getD i true = true := by
  unfold anc
  have key : ∀ (js : List Nat) (acc : List Nat), (∀ i ∈ acc, i < ops.size ∧ listed.getD i true = true) → ∀ i ∈ js.foldl (fun acc j => cond (acc.any fun k => (preds ops k).contains j) (j :: acc) acc) acc, i < ops.size ∧ listed.getD i true = true := by
    intro js
    induction js with
    | nil => intro acc h; exact h
    | cons j js ih =>
      intro acc h
      simp only [List.foldl_cons]
      refine ih _ ?_
      cases hx : acc.any fun k => (preds ops k).contains j with
      | false => exact h
      | true =>
        simp only [cond_true]
        obtain ⟨k, hk, hkj⟩ := List.any_eq_true.1 hx
        have hkj' := List.contains_iff_mem.1 hkj
        obtain ⟨h1, h2⟩ := h k hk
        have hlt := st_lt st h1 hkj'
        have h3 := c.closed k h1 h2 j hkj'
        intro i hi
        rcases List.mem_cons.1 hi with rfl | hi
        · exact ⟨by omega, by rw [getD_lt (b' := false) (by rw [c.lsize]; omega)]; exact h3⟩
        · exact h i hi
  exact key _ _ fun i hi => by
    have : i = l := by simpa using hi
    subst this; exact ⟨hl, hli⟩

theorem get_of_mem_any {f : Nat × Bool × Value → Bool} (hnd : (S.map (·.1)).Nodup) (h : S.any f = true) : ∃ i b v, S.get i = some (b, v) ∧ f (i, b, v) = true := by
  induction S with
  | nil => simp at h
  | cons p S ih =>
    obtain ⟨j, b, v⟩ := p
    simp only [List.any_cons, Bool.or_eq_true] at h
    by_cases hf : f (j, b, v) = true
    · refine ⟨j, b, v, ?_, hf⟩
      simp only [Asg.get]
      rw [show Nat.beq j j = true from Nat.beq_refl j]; rfl
    · obtain ⟨i, b', v', hg, hf'⟩ := ih (by simp only [List.map_cons, List.nodup_cons] at hnd; exact hnd.2) (h.resolve_left hf)
      refine ⟨i, b', v', ?_, hf'⟩
      simp only [Asg.get]
      have hne : i ≠ j := by
        rintro rfl
        simp only [List.map_cons, List.nodup_cons] at hnd
        refine hnd.1 ?_
        clear ih hf hf' h hnd
        induction S with
        | nil => cases hg
        | cons q S ih2 =>
          obtain ⟨k, y⟩ := q
          simp only [Asg.get] at hg
          cases hb : Nat.beq i k with
          | true => have := Nat.eq_of_beq_eq_true hb; subst this; simp
          | false => rw [hb] at hg; simp only [List.map_cons, List.mem_cons]; exact .inr (ih2 hg)
      have hb : Nat.beq i j = false := by
        cases hb : Nat.beq i j with
        | false => rfl
        | true => exact absurd (Nat.eq_of_beq_eq_true hb) hne
      rw [hb]; exact hg

/-- What is met stays met in this form. -/
structure OKS (ops : Array Oper) (S : Asg) : Prop where
  nodup : (S.map (·.1)).Nodup
  lt : ∀ i x, S.get i = some x → i < ops.size
  cl : ∀ i x, S.get i = some x → ∀ j ∈ preds ops i, S.has j = true
def okB (ops : Array Oper) : List Nat → Bool
  | [] => true
  | i :: l => !l.contains i && Nat.blt i ops.size && (preds ops i).all l.contains && okB ops l
/-- (the list stands with the last one first) -/
theorem has_iff (S : Asg) (i : Nat) : S.has i = true ↔ i ∈ S.map (·.1) := by
  induction S with
  | nil => simp [Asg.has, Asg.get]
  | cons p S ih =>
    obtain ⟨j, x⟩ := p
    unfold Asg.has at *
    simp only [Asg.get, List.map_cons, List.mem_cons]
    cases hb : Nat.beq i j with
    | true => have := Nat.eq_of_beq_eq_true hb; simp [this]
    | false =>
      have hne : i ≠ j := fun e => by subst e; rw [Nat.beq_refl] at hb; cases hb
      simp only [cond_false, hne, false_or]; exact ih
theorem OKS.of {ops : Array Oper} {S : Asg} (h : okB ops (S.map (·.1)) = true) : OKS ops S := by
  have key : ∀ l : List Nat, okB ops l = true → l.Nodup ∧ (∀ i ∈ l, i < ops.size) ∧ ∀ i ∈ l, ∀ j ∈ preds ops i, j ∈ l := by
    intro l
    induction l with
    | nil => intro _; exact ⟨List.nodup_nil, (fun _ h => by cases h), (fun _ h => by cases h)⟩
    | cons i l ih =>
      intro h
      simp only [okB, Bool.and_eq_true] at h
      obtain ⟨⟨⟨h1, h2⟩, h3⟩, h4⟩ := h
      obtain ⟨k1, k2, k3⟩ := ih h4
      have h1' : i ∉ l := fun hm => by simp [hm] at h1
      have h2' : i < ops.size := by rwa [Nat.blt_eq] at h2
      refine ⟨List.nodup_cons.2 ⟨h1', k1⟩, fun j hj => ?_, fun j hj k hk => ?_⟩
      · rcases List.mem_cons.1 hj with rfl | hj
        · exact h2'
        · exact k2 j hj
      · rcases List.mem_cons.1 hj with rfl | hj
        · exact List.mem_cons_of_mem _ (List.contains_iff_mem.1 (List.all_eq_true.1 h3 k hk))
        · exact List.mem_cons_of_mem _ (k3 j hj k hk)
  obtain ⟨h1, h2, h3⟩ := key _ h
  refine ⟨h1, fun i x hx => ?_, fun i x hx j hj => ?_⟩
  · exact h2 i ((has_iff S i).1 (by simp [Asg.has, hx]))
  · exact (has_iff S j).2 (h3 i ((has_iff S i).1 (by simp [Asg.has, hx])) j hj)

theorem not_forced {listed : Array Bool} {a : Act} (c : Con ops n ds f0 S listed a) (st : stB ops = true) (ok : OKS ops S) {i : Nat} (hu : listed.getD i true = false) : forced ops S i = false := by
  cases hf : forced ops S i with
  | false => rfl
  | true =>
    obtain ⟨l, b, v, hg, hx⟩ := get_of_mem_any ok.nodup hf
    simp only [Bool.and_eq_true] at hx
    obtain ⟨rfl, hx⟩ := hx
    have := (anc_listed c st (ok.lt l _ hg) (c.loud l v hg) i (List.contains_iff_mem.1 hx)).2
    rw [hu] at this; cases this

theorem ready_iff {listed : Array Bool} {i : Nat} : i ∈ Region.ready .any ops listed ↔ i < ops.size ∧ listed.getD i true = false ∧ ∀ j ∈ preds ops i, listed.getD j false = true := by
  rw [mem_ready]
  constructor
  · rintro ⟨h1, o, ho, h2⟩
    refine ⟨(Array.getElem?_eq_some_iff.1 ho).1, h1, fun j hj => ?_⟩
    simp only [preds, ho, List.mem_map, List.mem_filter] at hj
    obtain ⟨e, ⟨he, hb⟩, rfl⟩ := hj
    exact h2 e (Array.mem_toList_iff.1 he) hb
  · rintro ⟨h0, h1, h2⟩
    refine ⟨h1, ops[i], Array.getElem?_eq_getElem h0, fun e he hb => h2 e.on ?_⟩
    simp only [preds, Array.getElem?_eq_getElem h0, List.mem_map, List.mem_filter]
    exact ⟨e, ⟨Array.mem_toList_iff.2 he, hb⟩, rfl⟩

theorem exists_ready {listed : Array Bool} {a : Act} (c : Con ops n ds f0 S listed a) (st : stB ops = true) (T : Nat → Prop) (hT : ∀ i, T i → i < ops.size ∧ ∀ j ∈ preds ops i, listed.getD j false = true ∨ T j) :
    ∀ i, T i → listed.getD i true = false → ∃ r, r ∈ Region.ready .any ops listed := by
  intro i
  induction i using Nat.strongRecOn with
  | _ i ih =>
    intro ht hu
    obtain ⟨hi, hp⟩ := hT i ht
    by_cases hall : ∀ j ∈ preds ops i, listed.getD j false = true
    · exact ⟨i, ready_iff.2 ⟨hi, hu, hall⟩⟩
    · have : ∃ j, j ∈ preds ops i ∧ ¬ listed.getD j false = true := by
        exact Classical.byContradiction fun hx => hall fun j hj => Classical.byContradiction fun hy => hx ⟨j, hj, hy⟩
      obtain ⟨j, hj, hjl⟩ := this
      have hlt := st_lt st hi hj
      have hju : listed.getD j true = false := by
        rw [getD_lt (b' := false) (by rw [c.lsize]; omega)]
        cases hx : listed.getD j false with
        | false => rfl
        | true => exact absurd hx hjl
      exact ih j hlt ((hp j hj).resolve_left hjl) hju

theorem unl_pos {listed : Array Bool} {i : Nat} (hi : i < ops.size) (hu : listed.getD i true = false) : 0 < unl ops listed := by
  unfold unl
  exact List.length_pos_of_mem (List.mem_filter.2 ⟨List.mem_range.2 hi, by simp [hu]⟩)

/-- Met ahead: an operation that leaves the heap alone. -/
theorem DW.still {i : Nat} {v : Value} (hS : S.has i = false) (k : DW P n ops Q ds f0 ((i, false, v) :: S) h) : DW P n ops Q ds f0 S h := by
  intro W0 fuel listed a w hw hs c hfu
  have hn : S.get i = none := by unfold Asg.has at hS; cases hx : S.get i with | none => rfl | some x => rw [hx] at hS; cases hS
  have hap : ∀ j, Asg.get ((i, false, v) :: S) j = if j = i then some (false, v) else S.get j := by
    intro j
    exact Asg.get_cons
  refine k W0 fuel listed a w hw hs ⟨c.lsize, c.asize, c.defers, fun j hj hl => ?_, fun j u hg => ?_, c.closed, fun j b u t hj hg hl ht => ?_, c.base⟩ hfu
  · obtain ⟨x, hx⟩ := c.sub j hj hl
    rw [hap]
    by_cases e : j = i
    · exact ⟨_, if_pos e⟩
    · exact ⟨x, by rw [if_neg e]; exact hx⟩
  · rw [hap] at hg
    by_cases e : j = i
    · rw [if_pos e] at hg; cases hg
    · rw [if_neg e] at hg; exact c.loud j u hg
  · rw [hap] at hg
    by_cases e : j = i
    · subst e
      obtain ⟨x, hx⟩ := c.sub j hj hl
      rw [hn] at hx; cases hx
    · rw [if_neg e] at hg; exact c.val j b u t hj hg hl ht

/-- Its guard, if it has one, says yes. -/
def GuardOK (ops : Array Oper) (f0 : Frm) (S : Asg) (i : Nat) (o : Oper) : Prop :=
  o.guard = none ∨ ∃ j b t, o.guard = some (j, b) ∧ dstAt ops j = some t ∧ expv ops f0 S i t = .bool b
/-- Nothing else can come: the one that turns the heap. -/
theorem DW.loud (st : stB ops = true) (hdn : ∀ i t, dstAt ops i = some t → t < n) {i : Nat} {o : Oper} (ho : ops[i]? = some o) (hg : GuardOK ops f0 S i o) (hS : S.has i = false)
    (ok : okB ops (i :: (S.map (·.1))) = true) (hoth : ((List.range ops.size).all fun j => S.has j || Nat.beq j i || (preds ops j).any fun k => !S.has k) = true)
    (hy : AllY P ops f0 S h S) (k : OE P (ev (expv ops f0 S i)) o h (fun v h' => DW P n ops Q ds f0 ((i, true, v) :: S) h') noE) : DW P n ops Q ds f0 S h := by
  have hokS : OKS ops S := OKS.of (by simp only [okB, Bool.and_eq_true] at ok; exact ok.2)
  have hpi : ∀ j ∈ preds ops i, S.has j = true := by
    simp only [okB, Bool.and_eq_true] at ok
    exact fun j hj => (has_iff S j).2 (List.contains_iff_mem.1 (List.all_eq_true.1 ok.1.2 j hj))
  have hn : S.get i = none := by unfold Asg.has at hS; cases hx : S.get i with | none => rfl | some x => rw [hx] at hS; cases hS
  have hi : i < ops.size := (Array.getElem?_eq_some_iff.1 ho).1
  intro W0 fuel
  induction fuel with
  | zero =>
    intro listed a w hw hs c hfu
    have hu : listed.getD i true = false := by
      cases hx : listed.getD i true with
      | false => rfl
      | true => obtain ⟨x, hx'⟩ := c.sub i hi hx; rw [hn] at hx'; cases hx'
    have := unl_pos hi hu
    omega
  | succ fuel ih =>
    intro listed a w hw hs c hfu
    have hu : listed.getD i true = false := by
      cases hx : listed.getD i true with
      | false => rfl
      | true => obtain ⟨x, hx'⟩ := c.sub i hi hx; rw [hn] at hx'; cases hx'
    refine ⟨fun hr => ?_, fun r hr => ?_⟩
    · obtain ⟨r, hr'⟩ := exists_ready c st (fun j => j = i ∨ S.has j = true) (fun j hj => by
        rcases hj with rfl | hj
        · exact ⟨hi, fun l hl => .inr (.inr (hpi l hl))⟩
        · obtain ⟨x, hx⟩ := Option.isSome_iff_exists.1 hj
          exact ⟨hokS.lt j x hx, fun l hl => .inr (.inr (hokS.cl j x hx l hl))⟩) i (.inl rfl) hu
      rw [hr] at hr'; cases hr'
    · obtain ⟨hri, hru, hrp⟩ := ready_iff.1 hr
      have hsz : r < listed.size := by rw [c.lsize]; exact hri
      have hdr : ∀ o', ops[r]? = some o' → ∀ d, o'.dst = some d → d < n := fun o' ho' d hd => hdn r d (by simp [dstAt, ho', hd])
      have hfu' := unl_set c.lsize hri hru
      by_cases hsr : S.has r = true
      · obtain ⟨⟨b, v⟩, hx⟩ := Option.isSome_iff_exists.1 hsr
        have hb : b = false := by
          cases b with
          | false => rfl
          | true => have := c.loud r v hx; rw [hru] at this; cases this
        subst hb
        have hyr := (hy.get hx).resolve_left (by rw [not_forced c st hokS hru]; decide)
        subst hw
        obtain ⟨o', ho', _⟩ := id hyr
        have hd' : dstAt ops r = o'.dst := by simp [dstAt, ho']
        refine YD.wpOp st hdn c hri hru hrp hyr fun w' s e => ?_
        rw [hd']
        exact ih _ _ w' e (hs.trans s) (c.grow st ho' (hdr o' ho') hru hrp hx (fun _ _ h => h) (fun j u h => .inr h)) (by omega)
      · by_cases hre : r = i
        · subst hre
          subst hw
          have hF : ∀ t ∈ looks ops r, a.tmps.getD t undef = expv ops f0 S r t := fun t ht => c.reads st hri hru hrp ht
          unfold wpOp
          simp only [ho]
          have hwant : Region.wanted o (yielded ops a.tmps) = true := by
            rcases hg with hg | ⟨j, b, t, hg, ht, hb⟩
            · simp [Region.wanted, hg]
            · have hlook : t ∈ looks ops r := by
                unfold dstAt at ht
                simp [looks, ho, Oper.looksAt, hg, ht]
              have hyi := yields_at c.asize ht (hdn j t ht)
              rw [hF t hlook, hb] at hyi
              simp [Region.wanted, hg, hyi]
          rw [if_pos hwant]
          refine .inl (OE.wpF ho (st_sel st ho) hF k fun v w' s kk => ?_)
          have hap : ∀ j, Asg.get ((r, true, v) :: S) j = if j = r then some (true, v) else S.get j := by
            intro j
            exact Asg.get_cons
          refine kk W0 fuel _ _ w' rfl (hs.trans s) (c.grow st ho (hdr o ho) hru hrp (b := true) (by rw [hap, if_pos rfl]) (fun j x hj => ?_) (fun j u hj => ?_)) (by omega)
          · rw [hap, if_neg (fun e => by subst e; rw [hn] at hj; cases hj)]; exact hj
          · rw [hap] at hj
            by_cases e : j = r
            · exact .inl e
            · rw [if_neg e] at hj; exact .inr hj
        · exfalso
          have := List.all_eq_true.1 hoth r (List.mem_range.2 hri)
          simp only [Bool.or_eq_true] at this
          rcases this with (h1 | h1) | h1
          · exact hsr h1
          · exact hre (Nat.eq_of_beq_eq_true h1)
          · obtain ⟨l, hl, hls⟩ := List.any_eq_true.1 h1
            have hlt := st_lt st hri hl
            have hll := hrp l hl
            rw [getD_lt (b' := true) (by rw [c.lsize]; omega)] at hll
            obtain ⟨x, hx⟩ := c.sub l (by omega) hll
            simp [Asg.has, hx] at hls

def finF (ops : Array Oper) (f0 : Frm) (S : Asg) : Frm := S.foldl (fun f p => putF f (dstAt ops p.1) p.2.2) f0

theorem finF_get (ok : OKS ops S) (st : stB ops = true) (t : Nat) :
    (∀ i b v, S.get i = some (b, v) → dstAt ops i = some t → finF ops f0 S t = v) ∧ ((∀ i x, S.get i = some x → dstAt ops i ≠ some t) → finF ops f0 S t = f0 t) := by
  have key : ∀ (T : Asg) (g : Frm), (∀ i x, Asg.get T i = some x → dstAt ops i ≠ some t) → T.foldl (fun f p => putF f (dstAt ops p.1) p.2.2) g t = g t := by
    intro T
    induction T with
    | nil => intro g _; rfl
    | cons p T ih =>
      intro g hT
      obtain ⟨j, b, v⟩ := p
      simp only [List.foldl_cons]
      have hj : dstAt ops j ≠ some t := hT j (b, v) (by simp only [Asg.get]; rw [show Nat.beq j j = true from Nat.beq_refl j]; rfl)
      rw [ih _ (fun i x hx => by
        by_cases e : i = j
        · subst e; exact hj
        · refine hT i x ?_
          simp only [Asg.get]
          have hb : Nat.beq i j = false := by
            cases hb : Nat.beq i j with
            | false => rfl
            | true => exact absurd (Nat.eq_of_beq_eq_true hb) e
          rw [hb]; exact hx)]
      cases hd : dstAt ops j with
      | none => rfl
      | some d =>
        have hne : t ≠ d := fun e => hj (by rw [hd, e])
        have hb : Nat.beq t d = false := by
          cases hb : Nat.beq t d with
          | false => rfl
          | true => exact absurd (Nat.eq_of_beq_eq_true hb) hne
        simp [putF, upd, hb]
  have key2 : ∀ (T : Asg) (g : Frm), (∀ i x, Asg.get T i = some x → i < ops.size) → ∀ i b v, Asg.get T i = some (b, v) → (T.map (·.1)).Nodup → dstAt ops i = some t → T.foldl (fun f p => putF f (dstAt ops p.1) p.2.2) g t = v := by
    intro T
    induction T with
    | nil => intro g _ i b v hg; cases hg
    | cons p T ih =>
      intro g hlt i b v hg hnd hd
      obtain ⟨j, b', v'⟩ := p
      simp only [List.foldl_cons]
      have hget : ∀ l, Asg.get ((j, b', v') :: T) l = if l = j then some (b', v') else Asg.get T l := by
        intro l
        simp only [Asg.get]
        by_cases e : l = j
        · subst e; rw [show Nat.beq l l = true from Nat.beq_refl l]; simp
        · have hb : Nat.beq l j = false := by
            cases hb : Nat.beq l j with
            | false => rfl
            | true => exact absurd (Nat.eq_of_beq_eq_true hb) e
          rw [hb]; simp [e]
      simp only [List.map_cons, List.nodup_cons] at hnd
      have hT : ∀ l x, Asg.get T l = some x → l ≠ j := by
        intro l x hx e
        subst e
        exact hnd.1 ((has_iff T l).1 (by simp [Asg.has, hx]))
      rw [hget] at hg
      by_cases e : i = j
      · subst e
        rw [if_pos rfl] at hg
        cases hg
        rw [key T _ (fun l x hx hd' => hT l x hx (st_dst st (hlt i (b, v) (by rw [hget, if_pos rfl])) (hlt l x (by rw [hget, if_neg (hT l x hx)]; exact hx)) hd hd'))]
        simp only [hd, putF, upd]
        rw [show Nat.beq t t = true from Nat.beq_refl t]; rfl
      · rw [if_neg e] at hg
        exact ih _ (fun l x hx => hlt l x (by rw [hget, if_neg (hT l x hx)]; exact hx)) i b v hg hnd.2 hd
  exact ⟨fun i b v hg hd => key2 S f0 ok.lt i b v hg ok.nodup hd, fun hT => key S f0 hT⟩

/-- All have been met. -/
theorem DW.fin (st : stB ops = true) (hdn : ∀ i t, dstAt ops i = some t → t < n) (ok : okB ops (S.map (·.1)) = true) (hall : ((List.range ops.size).all fun j => S.has j) = true)
    (hy : AllY P ops f0 S h S) (k : Q .normal ds (finF ops f0 S) h) : DW P n ops Q ds f0 S h := by
  have hokS : OKS ops S := OKS.of ok
  have hendQ : ∀ (W0 : World) (listed : Array Bool) (a : Act) (w : World), w.heap = h → Same W0 w → Con ops n ds f0 S listed a → (∀ i, i < ops.size → listed.getD i true = true) → lift n Q W0 .normal a w := by
    intro W0 listed a w hw hs c hl
    have hf : FR n ds (finF ops f0 S) a := ⟨c.asize, c.defers, fun t => by
      obtain ⟨h1, h2⟩ := finF_get (f0 := f0) hokS st t
      by_cases hx : ∃ i, i < ops.size ∧ dstAt ops i = some t
      · obtain ⟨i, hi, hd⟩ := hx
        obtain ⟨⟨b, v⟩, hg⟩ := c.sub i hi (hl i hi)
        rw [h1 i b v hg hd]
        exact c.val i b v t hi hg (hl i hi) hd
      · rw [h2 (fun i x hg hd => hx ⟨i, hokS.lt i x hg, hd⟩)]
        exact c.base t fun i hi _ hd => hx ⟨i, hi, hd⟩⟩
    exact ⟨trivial, ds, _, hf, hs, by rw [hw]; exact k⟩
  intro W0 fuel
  induction fuel with
  | zero =>
    intro listed a w hw hs c hfu
    have hl : ∀ i, i < ops.size → listed.getD i true = true := fun i hi => by
      cases hx : listed.getD i true with
      | true => rfl
      | false => have := unl_pos hi hx; omega
    refine ⟨?_, hendQ W0 listed a w hw hs c hl⟩
    cases hr : Region.ready .any ops listed with
    | nil => rfl
    | cons r rs =>
      have := ready_iff.1 (show r ∈ Region.ready .any ops listed by rw [hr]; exact List.mem_cons_self)
      rw [hl r this.1] at this
      exact absurd this.2.1 (by decide)
  | succ fuel ih =>
    intro listed a w hw hs c hfu
    refine ⟨fun hr => ?_, fun r hr => ?_⟩
    · refine hendQ W0 listed a w hw hs c fun i hi => ?_
      cases hx : listed.getD i true with
      | true => rfl
      | false =>
        obtain ⟨r, hr'⟩ := exists_ready c st (fun j => S.has j = true) (fun j hj => by
          obtain ⟨x, hx⟩ := Option.isSome_iff_exists.1 hj
          exact ⟨hokS.lt j x hx, fun l hl => .inr (hokS.cl j x hx l hl)⟩) i (List.all_eq_true.1 hall i (List.mem_range.2 hi)) hx
        rw [hr] at hr'; cases hr'
    · obtain ⟨hri, hru, hrp⟩ := ready_iff.1 hr
      have hdr : ∀ o', ops[r]? = some o' → ∀ d, o'.dst = some d → d < n := fun o' ho' d hd => hdn r d (by simp [dstAt, ho', hd])
      have hfu' := unl_set c.lsize hri hru
      obtain ⟨⟨b, v⟩, hx⟩ := Option.isSome_iff_exists.1 (List.all_eq_true.1 hall r (List.mem_range.2 hri))
      have hb : b = false := by
        cases b with
        | false => rfl
        | true => have := c.loud r v hx; rw [hru] at this; cases this
      subst hb
      have hyr := (hy.get hx).resolve_left (by rw [not_forced c st hokS hru]; decide)
      subst hw
      obtain ⟨o', ho', _⟩ := id hyr
      have hd' : dstAt ops r = o'.dst := by simp [dstAt, ho']
      refine YD.wpOp st hdn c hri hru hrp hyr fun w' s e => ?_
      rw [hd']
      exact ih _ _ w' e (hs.trans s) (c.grow st ho' (hdr o' ho') hru hrp hx (fun _ _ h => h) (fun j u h => .inr h)) (by omega)

theorem VC.draws {id : Nat} (hm : P.follows .mixedOrders = true) (k : DW P n ops Q ds f0 [] h) : VC P n (.region id ops true) Q ds f0 h := by
  intro W0 a w hf hw hs
  refine wp_region_any hm (k W0 ops.size (Array.replicate ops.size false) a _ (by simpa using hw) (hs.trans ⟨rfl, rfl, rfl⟩) ⟨by simp, hf.size, hf.defers, (fun i hi hl => ?_), (fun i v hg => by cases hg), (fun i hi hl => ?_), (fun i b v t hi hg => by cases hg), (fun t _ => hf.get t)⟩ ?_)
  · simp [Array.getD_eq_getD_getElem?, hi] at hl
  · simp [Array.getD_eq_getD_getElem?, hi] at hl
  · unfold unl
    exact Nat.le_trans (List.length_filter_le _ _) (by simp)

def dnB (ops : Array Oper) (n : Nat) : Bool := (List.range ops.size).all fun i => match dstAt ops i with | some d => Nat.blt d n | none => true
theorem dn_of (h : dnB ops n = true) : ∀ i t, dstAt ops i = some t → t < n := fun i t ht => by
  have hi : i < ops.size := by
    rcases Nat.lt_or_ge i ops.size with hlt | hge
    · exact hlt
    · simp [dstAt, Array.getElem?_eq_none hge] at ht
  have := List.all_eq_true.1 h i (List.mem_range.2 hi)
  rw [ht] at this
  simpa [Nat.blt_eq] using this
theorem VC.drawsS {id : Nat} (hm : P.follows .mixedOrders = true) (st : stB ops = true) (hd : dnB ops n = true) (k : stB ops = true → (∀ i t, dstAt ops i = some t → t < n) → DW P n ops Q ds f0 [] h) : VC P n (.region id ops true) Q ds f0 h :=
  VC.draws hm (k st (dn_of hd))
end Go.V
namespace Go.V
open Go
variable {P : Program} {n : Nat} {Q : QT} {ds : List Deferred} {f0 : Frm} {h : Hp} {ops : Array Oper} {S : Asg}
theorem map_get {F G : Frm} : ∀ {l : List Nat}, l.map F = l.map G → ∀ t ∈ l, F t = G t
  | [], _, _, ht => by cases ht
  | a :: l, e, t, ht => by
    simp only [List.map_cons, List.cons.injEq] at e
    rcases List.mem_cons.1 ht with rfl | ht
    · exact e.1
    · exact map_get e.2 t ht
theorem OE.congrF {i : Nat} {o : Oper} {F G : Frm} {R : Value → Hp → Prop} {E : List PanicEntry → Hp → Prop} (ho : ops[i]? = some o) (hs : ∀ cs b, o.op ≠ .select cs b) (hF : (looks ops i).map F = (looks ops i).map G) (k : OE P (ev F) o h R E) : OE P (ev G) o h R E := by
  have e : execOp (ev G) o = execOp (ev F) o := execOp_congr o hs fun x hx => by
    cases x with
    | tmp t => exact (map_get hF t (by simp only [looks, ho]; exact List.mem_append_left _ (List.mem_filterMap.2 ⟨.tmp t, by simpa using hx, rfl⟩))).symm
    | const v => rfl
    | global g => rfl
    | func k => rfl
  intro w hw
  rw [e]; exact k w hw
theorem YD.u {i : Nat} {o : Oper} {v : Value} (F : Frm) (st : stB ops = true) (ho : ops[i]? = some o) (hg : o.guard = none) (hF : (looks ops i).map F = (looks ops i).map (expv ops f0 S i))
    (k : OE P (ev F) o h (fun v' h' => v' = v ∧ h' = h) noE) : YD P ops f0 S h i v :=
  ⟨o, ho, .inl ⟨hg, OE.congrF ho (st_sel st ho) hF k⟩⟩
theorem YD.r {i j t : Nat} {b : Bool} {o : Oper} {v : Value} (F : Frm) (st : stB ops = true) (ho : ops[i]? = some o) (hg : o.guard = some (j, b)) (ht : dstAt ops j = some t) (hF : (looks ops i).map F = (looks ops i).map (expv ops f0 S i))
    (hb : F t = .bool b) (k : OE P (ev F) o h (fun v' h' => v' = v ∧ h' = h) noE) : YD P ops f0 S h i v :=
  ⟨o, ho, .inr ⟨j, b, t, hg, ht, .inl ⟨(map_get hF t (by unfold dstAt at ht; simp [looks, ho, Oper.looksAt, hg, ht])).symm.trans hb, OE.congrF ho (st_sel st ho) hF k⟩⟩⟩
theorem YD.s {i j t : Nat} {b : Bool} {o : Oper} (F : Frm) (ho : ops[i]? = some o) (hg : o.guard = some (j, b)) (ht : dstAt ops j = some t) (hF : (looks ops i).map F = (looks ops i).map (expv ops f0 S i))
    (hb : F t = .bool (!b) ∨ F t = undef) : YD P ops f0 S h i undef := by
  have e := map_get hF t (by unfold dstAt at ht; simp [looks, ho, Oper.looksAt, hg, ht])
  rw [e] at hb
  exact ⟨o, ho, .inr ⟨j, b, t, hg, ht, .inr ⟨hb, rfl⟩⟩⟩
theorem GuardOK.r {i j t : Nat} {b : Bool} {o : Oper} (F : Frm) (ho : ops[i]? = some o) (hg : o.guard = some (j, b)) (ht : dstAt ops j = some t) (hF : (looks ops i).map F = (looks ops i).map (expv ops f0 S i))
    (hb : F t = .bool b) : GuardOK ops f0 S i o :=
  .inr ⟨j, b, t, hg, ht, (map_get hF t (by unfold dstAt at ht; simp [looks, ho, Oper.looksAt, hg, ht])).symm.trans hb⟩
/-- The numbers alone are asked of the kernel. -/
theorem DW.loudF (F : Frm) (st : stB ops = true) (hdn : ∀ i t, dstAt ops i = some t → t < n) {i : Nat} {o : Oper} (ho : ops[i]? = some o) (hF : (looks ops i).map F = (looks ops i).map (expv ops f0 S i)) (hg : GuardOK ops f0 S i o)
    (hn : (!(S.has i) && okB ops (i :: (S.map (·.1))) && ((List.range ops.size).all fun j => S.has j || Nat.beq j i || (preds ops j).any fun k => !S.has k)) = true)
    (hy : AllY P ops f0 S h S) (k : OE P (ev F) o h (fun v h' => DW P n ops Q ds f0 ((i, true, v) :: S) h') noE) : DW P n ops Q ds f0 S h := by
  simp only [Bool.and_eq_true, Bool.not_eq_true'] at hn
  exact DW.loud st hdn ho hg hn.1.1 hn.1.2 hn.2 hy (OE.congrF ho (st_sel st ho) hF k)
theorem DW.finF (st : stB ops = true) (hdn : ∀ i t, dstAt ops i = some t → t < n) (F : Frm) (hn : (okB ops (S.map (·.1)) && (List.range ops.size).all fun j => S.has j) = true) (hF : V.finF ops f0 S = F)
    (hy : AllY P ops f0 S h S) (k : Q .normal ds F h) : DW P n ops Q ds f0 S h := by
  simp only [Bool.and_eq_true] at hn
  exact DW.fin st hdn hn.1 hn.2 hy (by rw [hF]; exact k)
theorem DW.finL (st : stB ops = true) (hdn : ∀ i t, dstAt ops i = some t → t < n) (l : List (Nat × Value)) (hn : (okB ops (S.map (·.1)) && (List.range ops.size).all fun j => S.has j) = true) (hF : V.finF ops f0 S = fr f0 l)
    (hy : AllY P ops f0 S h S) (k : Q .normal ds (fr f0 l) h) : DW P n ops Q ds f0 S h := DW.finF st hdn _ hn hF hy k
end Go.V
namespace Go.V
open Go
variable {P : Program} {n : Nat} {Q : QT} {ds : List Deferred} {f0 : Frm} {h : Hp} {ops : Array Oper} {S : Asg}
/-- One of those that turn the heap and may come next. -/
def LD1 (P : Program) (n : Nat) (ops : Array Oper) (Q : QT) (ds : List Deferred) (f0 : Frm) (S : Asg) (h : Hp) (i : Nat) : Prop :=
  ∃ o, ops[i]? = some o ∧ GuardOK ops f0 S i o ∧ OE P (ev (expv ops f0 S i)) o h (fun v h' => DW P n ops Q ds f0 ((i, true, v) :: S) h') noE
def LD (P : Program) (n : Nat) (ops : Array Oper) (Q : QT) (ds : List Deferred) (f0 : Frm) (S : Asg) (h : Hp) : List Nat → Prop
  | [] => True
  | i :: L => LD1 P n ops Q ds f0 S h i ∧ LD P n ops Q ds f0 S h L
theorem LD.get {L : List Nat} (k : LD P n ops Q ds f0 S h L) : ∀ i ∈ L, LD1 P n ops Q ds f0 S h i := by
  induction L with
  | nil => intro i hi; cases hi
  | cons j L ih =>
    intro i hi
    rcases List.mem_cons.1 hi with rfl | hi
    · exact k.1
    · exact ih k.2 i hi
theorem LD1.of {i : Nat} {o : Oper} (F : Frm) (st : stB ops = true) (ho : ops[i]? = some o) (hF : (looks ops i).map F = (looks ops i).map (expv ops f0 S i)) (hg : GuardOK ops f0 S i o)
    (k : OE P (ev F) o h (fun v h' => DW P n ops Q ds f0 ((i, true, v) :: S) h') noE) : LD1 P n ops Q ds f0 S h i :=
  ⟨o, ho, hg, OE.congrF ho (st_sel st ho) hF k⟩

/-- Several may come next. -/
theorem DW.louds (st : stB ops = true) (hdn : ∀ i t, dstAt ops i = some t → t < n) (i0 : Nat) (L : List Nat)
    (hn : (((i0 :: L).all fun i => !(S.has i) && okB ops (i :: (S.map (·.1)))) && ((List.range ops.size).all fun j => S.has j || (i0 :: L).contains j || (preds ops j).any fun k => !S.has k)) = true)
    (hy : AllY P ops f0 S h S) (k : LD P n ops Q ds f0 S h (i0 :: L)) : DW P n ops Q ds f0 S h := by
  simp only [Bool.and_eq_true] at hn
  obtain ⟨hL, hoth⟩ := hn
  have hL' : ∀ i ∈ i0 :: L, S.has i = false ∧ okB ops (i :: (S.map (·.1))) = true := fun i hi => by
    have := List.all_eq_true.1 hL i hi
    simpa only [Bool.and_eq_true, Bool.not_eq_true'] using this
  have ok0 := (hL' i0 List.mem_cons_self).2
  have hS0 := (hL' i0 List.mem_cons_self).1
  have hokS : OKS ops S := OKS.of (by simp only [okB, Bool.and_eq_true] at ok0; exact ok0.2)
  have hpi : ∀ j ∈ preds ops i0, S.has j = true := by
    simp only [okB, Bool.and_eq_true] at ok0
    exact fun j hj => (has_iff S j).2 (List.contains_iff_mem.1 (List.all_eq_true.1 ok0.1.2 j hj))
  have hn0 : S.get i0 = none := by unfold Asg.has at hS0; cases hx : S.get i0 with | none => rfl | some x => rw [hx] at hS0; cases hS0
  obtain ⟨o0, ho0, _⟩ := k.1
  have hi0 : i0 < ops.size := (Array.getElem?_eq_some_iff.1 ho0).1
  intro W0 fuel
  induction fuel with
  | zero =>
    intro listed a w hw hs c hfu
    have hu : listed.getD i0 true = false := by
      cases hx : listed.getD i0 true with
      | false => rfl
      | true => obtain ⟨x, hx'⟩ := c.sub i0 hi0 hx; rw [hn0] at hx'; cases hx'
    have := unl_pos hi0 hu
    omega
  | succ fuel ih =>
    intro listed a w hw hs c hfu
    have hu : listed.getD i0 true = false := by
      cases hx : listed.getD i0 true with
      | false => rfl
      | true => obtain ⟨x, hx'⟩ := c.sub i0 hi0 hx; rw [hn0] at hx'; cases hx'
    refine ⟨fun hr => ?_, fun r hr => ?_⟩
    · obtain ⟨r, hr'⟩ := exists_ready c st (fun j => j = i0 ∨ S.has j = true) (fun j hj => by
        rcases hj with rfl | hj
        · exact ⟨hi0, fun l hl => .inr (.inr (hpi l hl))⟩
        · obtain ⟨x, hx⟩ := Option.isSome_iff_exists.1 hj
          exact ⟨hokS.lt j x hx, fun l hl => .inr (.inr (hokS.cl j x hx l hl))⟩) i0 (.inl rfl) hu
      rw [hr] at hr'; cases hr'
    · obtain ⟨hri, hru, hrp⟩ := ready_iff.1 hr
      have hsz : r < listed.size := by rw [c.lsize]; exact hri
      have hdr : ∀ o', ops[r]? = some o' → ∀ d, o'.dst = some d → d < n := fun o' ho' d hd => hdn r d (by simp [dstAt, ho', hd])
      have hfu' := unl_set c.lsize hri hru
      by_cases hsr : S.has r = true
      · obtain ⟨⟨b, v⟩, hx⟩ := Option.isSome_iff_exists.1 hsr
        have hb : b = false := by
          cases b with
          | false => rfl
          | true => have := c.loud r v hx; rw [hru] at this; cases this
        subst hb
        have hyr := (hy.get hx).resolve_left (by rw [not_forced c st hokS hru]; decide)
        subst hw
        obtain ⟨o', ho', _⟩ := id hyr
        have hd' : dstAt ops r = o'.dst := by simp [dstAt, ho']
        refine YD.wpOp st hdn c hri hru hrp hyr fun w' s e => ?_
        rw [hd']
        exact ih _ _ w' e (hs.trans s) (c.grow st ho' (hdr o' ho') hru hrp hx (fun _ _ h => h) (fun j u h => .inr h)) (by omega)
      · by_cases hre : r ∈ i0 :: L
        · obtain ⟨o, ho, hg, kk⟩ := k.get r hre
          have hn : S.get r = none := by unfold Asg.has at hsr; cases hx : S.get r with | none => rfl | some x => rw [hx] at hsr; exact absurd rfl hsr
          subst hw
          have hF : ∀ t ∈ looks ops r, a.tmps.getD t undef = expv ops f0 S r t := fun t ht => c.reads st hri hru hrp ht
          unfold wpOp
          simp only [ho]
          have hwant : Region.wanted o (yielded ops a.tmps) = true := by
            rcases hg with hg | ⟨j, b, t, hg, ht, hb⟩
            · simp [Region.wanted, hg]
            · have hlook : t ∈ looks ops r := by
                unfold dstAt at ht
                simp [looks, ho, Oper.looksAt, hg, ht]
              have hyi := yields_at c.asize ht (hdn j t ht)
              rw [hF t hlook, hb] at hyi
              simp [Region.wanted, hg, hyi]
          rw [if_pos hwant]
          refine .inl (OE.wpF ho (st_sel st ho) hF kk fun v w' s kk => ?_)
          have hap : ∀ j, Asg.get ((r, true, v) :: S) j = if j = r then some (true, v) else S.get j := by
            intro j
            exact Asg.get_cons
          refine kk W0 fuel _ _ w' rfl (hs.trans s) (c.grow st ho (hdr o ho) hru hrp (b := true) (by rw [hap, if_pos rfl]) (fun j x hj => ?_) (fun j u hj => ?_)) (by omega)
          · rw [hap, if_neg (fun e => by subst e; rw [hn] at hj; cases hj)]; exact hj
          · rw [hap] at hj
            by_cases e : j = r
            · exact .inl e
            · rw [if_neg e] at hj; exact .inr hj
        · exfalso
          have := List.all_eq_true.1 hoth r (List.mem_range.2 hri)
          simp only [Bool.or_eq_true] at this
          rcases this with (h1 | h1) | h1
          · exact hsr h1
          · exact hre (List.contains_iff_mem.1 h1)
          · obtain ⟨l, hl, hls⟩ := List.any_eq_true.1 h1
            have hlt := st_lt st hri hl
            have hll := hrp l hl
            rw [getD_lt (b' := true) (by rw [c.lsize]; omega)] at hll
            obtain ⟨x, hx⟩ := c.sub l (by omega) hll
            simp [Asg.has, hx] at hls
end Go.V
namespace Go.V
open Go Go.ChangeMaps Go.MapKept
open Go.WideElems (Fit rd rg pl rd_val elemAt)
open Go.Maps (Keyed)
variable {P : Program} {ρ : Operand → Value} {h : Hp} {R : Value → Hp → Prop} {E : List PanicEntry → Hp → Prop}
variable {dst : Option Nat} {ty : TypeId} {pos : String} {af : Array Edge} {g : Option (Nat × Bool)}
theorem OE.makeFuncL {fn : Fn} {ca : List Operand} {l : List Value} (hl : ca.map ρ = l) (k : R (.func fn #[] l.toArray) h) : OE P ρ ⟨dst, .makeFunc fn #[] ca.toArray, ty, pos, af, g⟩ h R E :=
  OE.makeFunc (by simp only [List.map_toArray, hl, List.map_toArray]; exact k)

/-- A look-up in a heap. -/
def MLk (P : Program) (t : TypeId) (h : Hp) (m k : Value) (c : Bool) (r : Value) : Prop := ∀ w : World, w.heap = h → (Instr.lookup t m k c).run P w = .ok r w
def MUp (P : Program) (t : TypeId) (h : Hp) (m k v : Value) (Q : Hp → Prop) : Prop := ∀ w : World, w.heap = h → ∃ h1, (Instr.mapUpdate t m k v).run P w = .ok () { w with heap := h1 } ∧ Q h1
def MDl (P : Program) (t kt : TypeId) (h : Hp) (m k : Value) (Q : Hp → Prop) : Prop := ∀ (ty : TypeId) (w : World), w.heap = h → ∃ h1, (Builtin.delete_ #[t, kt] ty #[m, k]).run P w = .ok (.tuple #[]) { w with heap := h1 } ∧ Q h1

theorem OE.lookup {t : TypeId} {x i : Operand} {m k r : Value} {c : Bool} (hx : ρ x = m) (hi : ρ i = k) (hl : MLk P t h m k c r) (kk : R r h) : OE P ρ ⟨dst, .lookup t x i c, ty, pos, af, g⟩ h R E :=
  .pure (fun w hw => run_v (by rw [hx, hi]; exact hl w hw)) kk
theorem OE.mapUpdate {t : TypeId} {x i y : Operand} {m k v : Value} {Q : Hp → Prop} (hx : ρ x = m) (hi : ρ i = k) (hy : ρ y = v) (hl : MUp P t h m k v Q) (kk : ∀ h1, Q h1 → R undef h1) : OE P ρ ⟨dst, .mapUpdate t x i y, ty, pos, af, g⟩ h R E :=
  fun w hw => by
    obtain ⟨h1, e1, q⟩ := hl w hw
    have hr : (execOp ρ ⟨dst, .mapUpdate t x i y, ty, pos, af, g⟩).run P w = .ok .skip { w with heap := h1 } := run_u (by rw [hx, hi, hy]; exact e1)
    rw [hr]; exact ⟨⟨rfl, rfl, rfl⟩, kk h1 q⟩
theorem OE.delete {t kt : TypeId} {x i : Operand} {m k : Value} {Q : Hp → Prop} (hx : ρ x = m) (hi : ρ i = k) (hl : MDl P t kt h m k Q) (kk : ∀ h1, Q h1 → R (.tuple #[]) h1) :
    OE P ρ ⟨dst, .call { callee := .builtin .delete, args := #[x, i], argTypes := #[t, kt] }, ty, pos, af, g⟩ h R E :=
  fun w hw => by
    obtain ⟨h1, e1, q⟩ := hl ty w hw
    have hr : (execOp ρ ⟨dst, .call { callee := .builtin .delete, args := #[x, i], argTypes := #[t, kt] }, ty, pos, af, g⟩).run P w = .ok (.value (.tuple #[])) { w with heap := h1 } :=
      run_builtin2 (run_v (by rw [hx, hi]; exact e1))
    rw [hr]; exact ⟨⟨rfl, rfl, rfl⟩, kk h1 q⟩
theorem OE.makeMapE {t : TypeId} {b : Nat} {h1 : Hp} (eb : b = h.size) (eh : h1 = h.push (.map #[] 0)) (kk : R (.map (some b)) h1) : OE P ρ ⟨dst, .makeMap t none, ty, pos, af, g⟩ h R E :=
  fun w hw => by
    subst eb eh hw
    have hr : (execOp ρ ⟨dst, .makeMap t none, ty, pos, af, g⟩).run P w = .ok (.value (.map (some w.heap.size))) { w with heap := w.heap.push (.map #[] 0) } := rfl
    rw [hr]; exact ⟨⟨rfl, rfl, rfl⟩, kk⟩

/-- Slices held against nil. -/
theorem OE.sliceNil {t t' e : TypeId} {x y : Operand} {A : Option Addr} {n c : Nat} {op : BinOp} {b : Bool} (hx : ρ x = .slice A n c) (hy : ρ y = .slice none 0 0) (ht : P.underlying t = some (.slice e))
    (hb : (op = .eql ∧ b = A.isNone) ∨ (op = .neq ∧ b = !A.isNone)) (kk : R (.bool b) h) : OE P ρ ⟨dst, .binOp op t x y t', ty, pos, af, g⟩ h R E :=
  .pure (fun w _ => run_v (by
    rw [hx, hy]
    have he : (eqGuard op t x y (.slice A n c) (.slice none 0 0)).run P w = .ok () w := by
      unfold eqGuard; split <;> rfl
    have hq : (Op.equal t (.slice A n c) (.slice none 0 0)).run P w = .ok A.isNone w := run_eqB fun d => by
      unfold Op.equalIn
      rw [Sem.run_bind, run_underlying' ht]
      cases A <;> rfl
    rw [Sem.run_bind, he]
    rcases hb with ⟨rfl, rfl⟩ | ⟨rfl, rfl⟩
    · show (do let z ← Op.equal t (.slice A n c) (.slice none 0 0); Pure.pure (Value.bool z) : Sem Value).run P w = _
      rw [Sem.run_bind, hq]; rfl
    · show (do let z ← Op.equal t (.slice A n c) (.slice none 0 0); Pure.pure (Value.bool (!z)) : Sem Value).run P w = _
      rw [Sem.run_bind, hq]; rfl)) kk

/-! ### maps as data: the kit's own word, over heaps -/
def MapOn {H : Type} (P : Program) (k : TypeId) (Rd : Value → Option (DataW H × List MemPlace)) (h : Hp) (b n : Nat) (D : DataW H) : Prop :=
  ∃ es clock, h[b]? = some (.map es clock) ∧ Fit P k Rd es clock ∧ es.size ≤ n ∧ D = .map ((es.toList.map (rg P k Rd)).foldr DataW.insert [])
theorem MapOn.iff {H : Type} {k : TypeId} {Rd : Value → Option (DataW H × List MemPlace)} {b n : Nat} {D : DataW H} {w : World} : w.ownsMap P k Rd b n D ↔ MapOn P k Rd w.heap b n D := .rfl
end Go.V
namespace Go.V
open Go
variable {P : Program} {ρ : Operand → Value} {h : Hp} {R : Value → Hp → Prop} {E : List PanicEntry → Hp → Prop}
variable {dst : Option Nat} {ty : TypeId} {pos : String} {af : Array Edge} {g : Option (Nat × Bool)}
end Go.V
/-! VR: heaps, rows, slices of one's own. -/
namespace Go.V
open Go
theorem add_mk (b o i : Nat) : (Addr.mk b o none).add i = ⟨b, o + i, none⟩ := by
  unfold Addr.add
  split
  · subst_vars; rfl
  · rfl
theorem add_block (a : Addr) (i : Nat) : (a.add i).block = a.block := by
  unfold Addr.add; split <;> rfl

/-! ### heaps that grow, heaps of which some blocks are written -/
/-- All blocks that do not lie in W are as they were. -/
structure Kp (W : Nat → Prop) (h h' : Hp) : Prop where
  size : h.size ≤ h'.size
  block : ∀ b, b < h.size → ¬ W b → h'[b]? = h[b]?
abbrev Grow (h h' : Hp) : Prop := Kp (fun _ => False) h h'

theorem Kp.rfl' {W : Nat → Prop} {h : Hp} : Kp W h h := ⟨Nat.le_refl _, fun _ _ _ => rfl⟩
theorem Kp.mono {W W' : Nat → Prop} {h h' : Hp} (k : Kp W h h') (hw : ∀ b, b < h.size → W b → W' b) : Kp W' h h' := ⟨k.size, fun b hb hn => k.block b hb fun x => hn (hw b hb x)⟩
theorem Grow.kp {W : Nat → Prop} {h h' : Hp} (k : Grow h h') : Kp W h h' := k.mono fun _ _ x => x.elim
theorem Kp.trans {W : Nat → Prop} {a b c : Hp} (x : Kp W a b) (y : Kp W b c) : Kp W a c :=
  ⟨Nat.le_trans x.size y.size, fun k hk hn => (y.block k (Nat.lt_of_lt_of_le hk x.size) hn).trans (x.block k hk hn)⟩
/-- Behind the first heap what is new may be written too. -/
theorem Kp.trans' {W W' : Nat → Prop} {a b c : Hp} (x : Kp W a b) (y : Kp W' b c) (hw : ∀ k, k < a.size → W' k → W k) : Kp W a c :=
  ⟨Nat.le_trans x.size y.size, fun k hk hn => (y.block k (Nat.lt_of_lt_of_le hk x.size) fun z => hn (hw k hk z)).trans (x.block k hk hn)⟩
theorem lt_of_some {h : Hp} {b : Nat} {o : Obj} (e : h[b]? = some o) : b < h.size := (Array.getElem?_eq_some_iff.1 e).1
theorem Kp.at {W : Nat → Prop} {h h' : Hp} (k : Kp W h h') {b : Nat} {o : Obj} (e : h[b]? = some o) (hn : ¬ W b) : h'[b]? = some o := (k.block b (lt_of_some e) hn).trans e
theorem Kp.g {h h' : Hp} (k : Grow h h') {b : Nat} {o : Obj} (e : h[b]? = some o) : h'[b]? = some o := k.at e id

theorem Grow.push (h : Hp) (o : Obj) : Grow h (h.push o) := ⟨by simp, fun b hb _ => by rw [Array.getElem?_push, if_neg (by omega)]⟩
theorem push_new (h : Hp) (o : Obj) : (h.push o)[h.size]? = some o := by simp
theorem Kp.setc (h : Hp) (a : Addr) (v : Value) : Kp (· = a.block) h (setc h a v) :=
  ⟨by simp [V.setc], fun b hb hn => by simp only [V.setc, Array.getElem?_modify]; rw [if_neg (fun e => hn e.symm)]⟩
theorem setc_size (h : Hp) (a : Addr) (v : Value) : (setc h a v).size = h.size := by simp [V.setc]
theorem setc_at {h : Hp} {b : Nat} {c : Array Value} {e : TypeId} {fr : Nat × Nat} (hb : h[b]? = some (.cells c e fr)) (i : Nat) (v : Value) : (setc h ⟨b, i, none⟩ v)[b]? = some (.cells (c.setIfInBounds i v) e fr) := by
  simp [V.setc, Array.getElem?_modify, hb]
theorem setc_add {h : Hp} {b : Nat} {c : Array Value} {e : TypeId} {fr : Nat × Nat} (hb : h[b]? = some (.cells c e fr)) (o i : Nat) (v : Value) : (setc h ((Addr.mk b o none).add i) v)[b]? = some (.cells (c.setIfInBounds (o + i) v) e fr) := by rw [add_mk]; exact setc_at hb (o + i) v
theorem setRow_kp (a : Addr) : ∀ (vs : List Value) (i : Nat) (h : Hp), Kp (· = a.block) h (setRow h a vs i)
  | [], _, _ => Kp.rfl'
  | v :: vs, i, h => ((Kp.setc h (a.add i) v).mono fun _ _ e => e.trans (add_block a i)).trans (setRow_kp a vs (i + 1) _)
theorem setRow_size (a : Addr) : ∀ (vs : List Value) (i : Nat) (h : Hp), (setRow h a vs i).size = h.size
  | [], _, _ => rfl
  | _ :: vs, i, _ => (setRow_size a vs (i + 1) _).trans (setc_size _ _ _)
/-- Cells laid over others. -/
def over (c : Array Value) (o : Nat) : List Value → Array Value
  | [] => c
  | v :: vs => over (c.setIfInBounds o v) (o + 1) vs
theorem over_size (c : Array Value) : ∀ (vs : List Value) (o : Nat), (over c o vs).size = c.size := by
  intro vs
  induction vs generalizing c with
  | nil => intro o; rfl
  | cons v vs ih => intro o; simp only [over]; rw [ih]; simp
theorem over_get (c : Array Value) (vs : List Value) (o : Nat) : ∀ j, (over c o vs)[j]? = if o ≤ j ∧ j < o + vs.length ∧ j < c.size then vs[j - o]? else c[j]? := by
  induction vs generalizing c o with
  | nil => intro j; simp only [over, List.length_nil]; rw [if_neg (by omega)]
  | cons v vs ih =>
    intro j
    simp only [over]
    rw [ih]
    simp only [Array.size_setIfInBounds, List.length_cons, Array.getElem?_setIfInBounds]
    by_cases h1 : o + 1 ≤ j ∧ j < o + 1 + vs.length ∧ j < c.size
    · rw [if_pos h1, if_pos (by omega), show j - o = (j - (o + 1)) + 1 by omega]; simp
    · rw [if_neg h1]
      by_cases h2 : o = j
      · subst h2
        by_cases h3 : o < c.size
        · rw [if_pos rfl, if_pos h3, if_pos (by omega)]; simp
        · rw [if_pos rfl, if_neg h3, if_neg (by omega)]
          rw [Array.getElem?_eq_none (by omega)]
      · rw [if_neg h2, if_neg (by omega)]
theorem setRow_at {b : Nat} {e : TypeId} {fr : Nat × Nat} (o : Nat) : ∀ (vs : List Value) (i : Nat) (c : Array Value) (h : Hp), h[b]? = some (.cells c e fr) → (setRow h ⟨b, o, none⟩ vs i)[b]? = some (.cells (over c (o + i) vs) e fr)
  | [], _, _, _, hb => hb
  | v :: vs, i, _, _, hb => setRow_at o vs (i + 1) _ _ (setc_add hb o i v)

/-! ### cells -/
theorem cell_of {h : Hp} {b : Nat} {c : Array Value} {e : TypeId} {fr : Nat × Nat} (hb : h[b]? = some (.cells c e fr)) (i : Nat) : cell h ⟨b, i, none⟩ = c[i]? := by simp [cell, hb]
theorem cell_add {h : Hp} {b : Nat} {c : Array Value} {e : TypeId} {fr : Nat × Nat} (hb : h[b]? = some (.cells c e fr)) (o i : Nat) : cell h ((Addr.mk b o none).add i) = c[o + i]? := by rw [add_mk]; exact cell_of hb (o + i)
theorem froz_of {h : Hp} {b : Nat} {c : Array Value} {e : TypeId} (hb : h[b]? = some (.cells c e (0, 0))) (i : Nat) : froz h ⟨b, i, none⟩ = false := by simp [froz, hb]
theorem wr_of {h : Hp} {b : Nat} {c : Array Value} {e : TypeId} (hb : h[b]? = some (.cells c e (0, 0))) {i : Nat} (hi : i < c.size) : Wr h ⟨b, i, none⟩ :=
  ⟨⟨c[i], by rw [cell_of hb]; simp [hi]⟩, froz_of hb i⟩
theorem wr_add {h : Hp} {b : Nat} {c : Array Value} {e : TypeId} (hb : h[b]? = some (.cells c e (0, 0))) {o i : Nat} (hi : o + i < c.size) : Wr h ((Addr.mk b o none).add i) := by rw [add_mk]; exact wr_of hb hi
theorem cell_congr {h h' : Hp} {a : Addr} (e : h'[a.block]? = h[a.block]?) : cell h' a = cell h a := by simp [cell, e]
theorem froz_congr {h h' : Hp} {a : Addr} (e : h'[a.block]? = h[a.block]?) : froz h' a = froz h a := by simp [froz, e]
theorem Wr.congr {h h' : Hp} {a : Addr} (k : Wr h a) (e : h'[a.block]? = h[a.block]?) : Wr h' a := by
  obtain ⟨⟨v, hv⟩, hf⟩ := k
  exact ⟨⟨v, (cell_congr e).trans hv⟩, (froz_congr e).trans hf⟩
theorem cell_lt {h : Hp} {a : Addr} {v : Value} (e : cell h a = some v) : a.block < h.size := by
  unfold cell at e
  cases hx : h[a.block]? with
  | none => simp [hx] at e
  | some o => exact lt_of_some hx
theorem Kp.cell {W : Nat → Prop} {h h' : Hp} (k : Kp W h h') {a : Addr} {v : Value} (e : V.cell h a = some v) (hn : ¬ W a.block) : V.cell h' a = some v :=
  (cell_congr (k.block _ (cell_lt e) hn)).trans e
theorem Row.kp {W : Nat → Prop} {h h' : Hp} {a : Addr} {vs : List Value} (r : Row h a vs) (k : Kp W h h') (hn : ¬ W a.block) : Row h' a vs := fun i v hv => k.cell (r i v hv) (by rw [add_block]; exact hn)
theorem row_of {h : Hp} {b : Nat} {c : Array Value} {e : TypeId} {fr : Nat × Nat} (hb : h[b]? = some (.cells c e fr)) (o : Nat) {vs : List Value} (hv : ∀ i v, vs[i]? = some v → c[o + i]? = some v) : Row h ⟨b, o, none⟩ vs :=
  fun i v hi => (cell_add hb o i).trans (hv i v hi)
theorem row_all {h : Hp} {b : Nat} {c : Array Value} {e : TypeId} {fr : Nat × Nat} (hb : h[b]? = some (.cells c e fr)) : Row h ⟨b, 0, none⟩ c.toList :=
  row_of hb 0 fun i v hi => by simpa using hi

/-! ### what a slice reads as -/
/-- The block of a slice is b. -/
def inA (A : Option Addr) (b : Nat) : Prop := ∃ a, A = some a ∧ a.block = b
theorem inA_none {b : Nat} : ¬ inA none b := fun ⟨_, e, _⟩ => by cases e
theorem inA_some {a : Addr} {b : Nat} : inA (some a) b ↔ a.block = b := ⟨fun ⟨_, e, h⟩ => by cases e; exact h, fun h => ⟨a, rfl, h⟩⟩
theorem Src.kp {W : Nat → Prop} {h h' : Hp} {k : Nat} {vs : List Value} {A : Option Addr} (s : Src h k vs A) (g : Kp W h h') (hn : ∀ b, inA A b → ¬ W b) : Src h' k vs A := by
  cases A with
  | none => exact s
  | some a => exact ⟨s.1, s.2.kp g (hn _ (inA_some.2 rfl))⟩
theorem Src.g {h h' : Hp} {k : Nat} {vs : List Value} {A : Option Addr} (s : Src h k vs A) (g : Grow h h') : Src h' k vs A := s.kp g fun _ _ => id
theorem Src.len {h : Hp} {k : Nat} {vs : List Value} {A : Option Addr} (s : Src h k vs A) : vs.length = k := by
  cases A with
  | none => obtain ⟨rfl, rfl⟩ := s; rfl
  | some a => exact s.1
theorem Src.get {h : Hp} {k : Nat} {vs : List Value} {a : Addr} (s : Src h k vs (some a)) {i : Nat} {v : Value} (hv : vs[i]? = some v) : cell h (a.add i) = some v := s.2 i v hv
/-- A place of a slice that is not empty. -/
theorem Src.addr {h : Hp} {k : Nat} {vs : List Value} {A : Option Addr} (s : Src h k vs A) (hk : 0 < k) : ∃ a, A = some a := by
  cases A with
  | none => obtain ⟨rfl, rfl⟩ := s; omega
  | some a => exact ⟨a, rfl⟩
theorem Src.take {h : Hp} {k : Nat} {vs : List Value} {A : Option Addr} (s : Src h k vs A) {j : Nat} (hj : j ≤ k) : Src h j (vs.take j) A := by
  have hl := s.len
  cases A with
  | none => obtain ⟨rfl, rfl⟩ := s; exact ⟨by simp, by omega⟩
  | some a => exact ⟨by simp; omega, fun i v hv => s.2 i v (by rw [List.getElem?_take] at hv; split at hv <;> first | exact hv | cases hv)⟩

/-- A slice of one's own, to which may be appended. -/
def OwnS (h : Hp) (e : TypeId) (sz : Nat) (A : Option Addr) (n c : Nat) (vs : List Value) : Prop :=
  vs.length = n * sz ∧ ((A = none ∧ n = 0 ∧ c = 0) ∨ ∃ g cur, A = some ⟨g, 0, none⟩ ∧ h[g]? = some (.cells cur e (0, 0)) ∧ n ≤ c ∧ cur.size = c * sz ∧ cur.toList.take (n * sz) = vs)
theorem OwnS.nil (h : Hp) (e : TypeId) (sz : Nat) : OwnS h e sz none 0 0 [] := ⟨by simp, .inl ⟨rfl, rfl, rfl⟩⟩
theorem OwnS.src {h : Hp} {e : TypeId} {sz : Nat} {A : Option Addr} {n c : Nat} {vs : List Value} (o : OwnS h e sz A n c vs) : Src h (n * sz) vs A := by
  obtain ⟨hl, ⟨rfl, rfl, rfl⟩ | ⟨g, cur, rfl, hg, hn, hs, ht⟩⟩ := o
  · exact ⟨by cases vs with | nil => rfl | cons => simp at hl, by simp⟩
  · refine ⟨hl, row_of hg 0 fun i v hi => ?_⟩
    subst ht
    rw [List.getElem?_take] at hi
    split at hi
    · simpa using hi
    · cases hi
theorem OwnS.kp {W : Nat → Prop} {h h' : Hp} {e : TypeId} {sz : Nat} {A : Option Addr} {n c : Nat} {vs : List Value} (o : OwnS h e sz A n c vs) (k : Kp W h h') (hn : ∀ b, inA A b → ¬ W b) : OwnS h' e sz A n c vs := by
  obtain ⟨hl, x | ⟨g, cur, rfl, hg, hr⟩⟩ := o
  · exact ⟨hl, .inl x⟩
  · exact ⟨hl, .inr ⟨g, cur, rfl, k.at hg (hn g (inA_some.2 rfl)), hr⟩⟩
theorem OwnS.lt {h : Hp} {e : TypeId} {sz : Nat} {A : Option Addr} {n c : Nat} {vs : List Value} (o : OwnS h e sz A n c vs) : ∀ b, inA A b → b < h.size := by
  obtain ⟨hl, ⟨rfl, _⟩ | ⟨g, cur, rfl, hg, hr⟩⟩ := o
  · exact fun b hb => (inA_none hb).elim
  · intro b hb
    have := inA_some.1 hb
    subst this
    exact lt_of_some hg
theorem OwnS.le {h : Hp} {e : TypeId} {sz : Nat} {A : Option Addr} {n c : Nat} {vs : List Value} (o : OwnS h e sz A n c vs) : n ≤ c := by
  obtain ⟨hl, ⟨rfl, rfl, rfl⟩ | ⟨g, cur, rfl, hg, hr, _⟩⟩ := o
  · exact Nat.le_refl _
  · exact hr
theorem OwnS.new {h : Hp} {e : TypeId} {sz n c : Nat} {cur : Array Value} (hs : cur.size = c * sz) (hn : n ≤ c) : OwnS (h.push (.cells cur e)) e sz (some ⟨h.size, 0, none⟩) n c (cur.toList.take (n * sz)) :=
  ⟨by rw [List.length_take, Array.length_toList, hs]; exact Nat.min_eq_left (Nat.mul_le_mul_right _ hn), .inr ⟨h.size, cur, rfl, push_new _ _, hn, hs, rfl⟩⟩

theorem zeros_length {z : Value} {sz : Nat} (hz : z.cells.size = sz) (k : Nat) : (zeros z k).length = k * sz := by
  unfold zeros
  simp [Builtin.zeroCells, hz]

/-- Append to a slice of one's own. -/
theorem AppendV.own {e : TypeId} {z : Value} {sz : Nat} {h : Hp} {A : Option Addr} {n c m : Nat} {vs ws : List Value} {K : Option Addr → Nat → Nat → Hp → Prop}
    (o : OwnS h e sz A n c vs) (hw : ws.length = m * sz) (hz : z.cells.size = sz)
    (k : ∀ A' c' h', OwnS h' e sz A' (n + m) c' (vs ++ ws) → Kp (inA A) h h' → (A' = A ∨ (A' = some ⟨h.size, 0, none⟩ ∧ Grow h h')) → K A' (n + m) c' h') :
    AppendV e z sz h A n c m ws K := by
  obtain ⟨hl, hA⟩ := o
  refine ⟨fun hr => ?_, fun hg => ⟨vs, OwnS.src ⟨hl, hA⟩, fun c' hc => ?_⟩⟩
  · rcases hA with ⟨rfl, rfl, rfl⟩ | ⟨g, cur, rfl, hgb, hn, hs, ht⟩
    · obtain rfl : m = 0 := by omega
      have hws : ws = [] := by cases ws with | nil => rfl | cons => simp at hw
      have hvs : vs = [] := by cases vs with | nil => rfl | cons => simp at hl
      subst hws hvs
      exact .inl ⟨rfl, k none 0 h (OwnS.nil _ _ _) Kp.rfl' (.inl rfl)⟩
    · refine .inr ⟨_, rfl, fun j hj => ?_, k _ _ _ ⟨?_, .inr ⟨g, over cur (n * sz) ws, rfl, ?_, hr, by rw [over_size, hs], ?_⟩⟩ ?_ (.inl rfl)⟩
      · rw [add_mk]
        refine wr_add hgb ?_
        rw [hs]
        have : (n + m) * sz ≤ c * sz := Nat.mul_le_mul_right _ hr
        rw [Nat.add_mul] at this
        omega
      · rw [List.length_append, hl, hw, Nat.add_mul]
      · have := setRow_at (0 + n * sz) ws 0 cur h hgb
        rw [add_mk]
        simpa using this
      · refine List.ext_getElem? fun j => ?_
        rw [List.getElem?_take, Array.getElem?_toList, over_get]
        have hcs : (n + m) * sz ≤ cur.size := by rw [hs]; exact Nat.mul_le_mul_right _ hr
        rw [Nat.add_mul] at hcs
        rw [Nat.add_mul]
        by_cases h1 : j < n * sz
        · rw [if_pos (by omega), if_neg (by omega), List.getElem?_append_left (by omega), ← ht, List.getElem?_take, if_pos h1, Array.getElem?_toList]
        · by_cases h2 : j < n * sz + m * sz
          · rw [if_pos h2, if_pos (by omega), List.getElem?_append_right (by omega), hl]
          · rw [if_neg h2, List.getElem?_append_right (by omega), List.getElem?_eq_none (by omega)]
      · rw [add_mk]
        exact (setRow_kp _ ws 0 h).mono fun b _ hb => inA_some.2 hb.symm
  · refine k _ _ _ ⟨by rw [List.length_append, hl, hw, Nat.add_mul], .inr ⟨h.size, _, rfl, push_new _ _, hc, ?_, ?_⟩⟩ (Grow.push h _).kp (.inr ⟨rfl, Grow.push h _⟩)
    · simp only [List.size_toArray, List.length_append, hl, hw, zeros_length hz]
      rw [← Nat.add_mul, ← Nat.add_mul]; congr 1; omega
    · rw [List.take_append_of_le_length (by simp only [List.length_append, hl, hw, Nat.add_mul]; omega)]
      rw [List.take_of_length_le (by simp only [List.length_append, hl, hw, Nat.add_mul]; omega)]
end Go.V
set_option linter.unusedVariables false
/-! VS: lists of bytes, of numbers, behind a slice; small tools. -/
namespace Go.V
open Go
theorem boxed {h h1 : Hp} {b : Nat} {o : Obj} (eb : b = h.size) (eh : h1 = h.push o) : h1[b]? = some o ∧ Grow h h1 ∧ h.size ≤ b ∧ b < h1.size := by
  subst eb eh
  exact ⟨push_new _ _, Grow.push _ _, Nat.le_refl _, by simp⟩

def bv (b : UInt8) : Value := .int .u8 b.toNat
def iv (i : Int) : Value := .int .i64 i
/-- The slice reads as these bytes. -/
def BS (h : Hp) (A : Option Addr) (n : Nat) (l : List UInt8) : Prop := n = l.length ∧ Src h n (l.map bv) A
def IS (h : Hp) (A : Option Addr) (n : Nat) (l : List Int) : Prop := n = l.length ∧ Src h n (l.map iv) A
theorem BS.kp {W : Nat → Prop} {h h' : Hp} {A : Option Addr} {n : Nat} {l : List UInt8} (s : BS h A n l) (g : Kp W h h') (hn : ∀ b, inA A b → ¬ W b) : BS h' A n l := ⟨s.1, s.2.kp g hn⟩
theorem IS.kp {W : Nat → Prop} {h h' : Hp} {A : Option Addr} {n : Nat} {l : List Int} (s : IS h A n l) (g : Kp W h h') (hn : ∀ b, inA A b → ¬ W b) : IS h' A n l := ⟨s.1, s.2.kp g hn⟩
theorem BS.g {h h' : Hp} {A : Option Addr} {n : Nat} {l : List UInt8} (s : BS h A n l) (g : Grow h h') : BS h' A n l := s.kp g fun _ _ => id
theorem IS.g {h h' : Hp} {A : Option Addr} {n : Nat} {l : List Int} (s : IS h A n l) (g : Grow h h') : IS h' A n l := s.kp g fun _ _ => id
theorem BS.nil (h : Hp) : BS h none 0 [] := ⟨rfl, rfl, rfl⟩
theorem IS.nil (h : Hp) : IS h none 0 [] := ⟨rfl, rfl, rfl⟩
theorem one_bv (l : List UInt8) : ∀ v ∈ l.map bv, oneC v = true := fun v hv => by obtain ⟨b, _, rfl⟩ := List.mem_map.1 hv; rfl
theorem one_iv (l : List Int) : ∀ v ∈ l.map iv, oneC v = true := fun v hv => by obtain ⟨b, _, rfl⟩ := List.mem_map.1 hv; rfl
theorem Src.get1 {h : Hp} {k : Nat} {vs : List Value} {A : Option Addr} (s : Src h k vs A) {i : Nat} (hi : i < k) : ∃ a v, A = some a ∧ vs[i]? = some v ∧ cell h (a.add i) = some v := by
  obtain ⟨a, rfl⟩ := s.addr (by omega)
  have hl := s.len
  exact ⟨a, vs[i], rfl, by simp, s.get (by simp)⟩
/-- A byte, by its number. -/
theorem BS.get {h : Hp} {A : Option Addr} {n : Nat} {l : List UInt8} (s : BS h A n l) {j : Int} (h0 : 0 ≤ j) (h1 : j < n) :
    ∃ a x, A = some a ∧ l[j.toNat]? = some x ∧ cell h (a.add (j.toNat * 1)) = some (.int .u8 x.toNat) := by
  obtain ⟨a, v, rfl, hv, hc⟩ := s.2.get1 (i := j.toNat) (by omega)
  rw [List.getElem?_map] at hv
  cases hx : l[j.toNat]? with
  | none => rw [hx] at hv; cases hv
  | some x =>
    rw [hx] at hv
    simp only [Option.map_some, Option.some.injEq] at hv
    exact ⟨a, x, rfl, rfl, by rw [Nat.mul_one, hc, ← hv]; rfl⟩
theorem IS.get {h : Hp} {A : Option Addr} {n : Nat} {l : List Int} (s : IS h A n l) {j : Int} (h0 : 0 ≤ j) (h1 : j < n) :
    ∃ a x, A = some a ∧ l[j.toNat]? = some x ∧ cell h (a.add (j.toNat * 1)) = some (.int .i64 x) := by
  obtain ⟨a, v, rfl, hv, hc⟩ := s.2.get1 (i := j.toNat) (by omega)
  rw [List.getElem?_map] at hv
  cases hx : l[j.toNat]? with
  | none => rw [hx] at hv; cases hv
  | some x =>
    rw [hx] at hv
    simp only [Option.map_some, Option.some.injEq] at hv
    exact ⟨a, x, rfl, rfl, by rw [Nat.mul_one, hc, ← hv]; rfl⟩

theorem w64 {x : Int} (h0 : -9223372036854775808 ≤ x) (h1 : x ≤ 9223372036854775807) : IntKind.i64.wrap x = x := by
  simp only [IntKind.wrap, IntKind.bits, IntKind.signed]
  first | (simp; omega) | omega
theorem inc64 {j : Int} {n : Nat} (h0 : 0 ≤ j) (h1 : j < n) (hn : n ≤ 9223372036854775807) : IntKind.i64.wrap (j + 1) = j + 1 := w64 (by omega) (by omega)
theorem toNat_inc {j : Int} (h0 : 0 ≤ j) : (j + 1).toNat = j.toNat + 1 := by omega
/-- A slice is in memory: not too long for a number. -/
theorem dec_t {p : Prop} [Decidable p] (h : decide p = true) : p := of_decide_eq_true h
theorem dec_f {p : Prop} [Decidable p] (h : decide p = false) : ¬ p := of_decide_eq_false h
/-- A copy of a slice, new. -/
theorem clone_core {e : TypeId} {z : Value} {sz : Nat} {h : Hp} {sA : Option Addr} {sn : Nat} {vs : List Value} {K : Option Addr → Nat → Nat → Hp → Prop} (hs : Src h (sn * sz) vs sA) (hz : z.cells.size = sz)
    (k : ∀ A' c' h', OwnS h' e sz (some A') sn c' vs → Grow h h' → h.size ≤ A'.block → A'.off = 0 → K (some A') sn c' h') :
    AppendV e z sz (h.push (.cells #[] e)) (some ⟨h.size, 0, none⟩) 0 0 sn vs K := by
  have o : OwnS (h.push (.cells #[] e)) e sz (some ⟨h.size, 0, none⟩) 0 0 [] := ⟨by simp, .inr ⟨h.size, #[], rfl, push_new _ _, Nat.le_refl _, by simp, by simp⟩⟩
  refine AppendV.own o hs.len hz fun A' c' h' o' kp hA' => ?_
  rw [Nat.zero_add] at o' ⊢
  rw [List.nil_append] at o'
  have hg : Grow h h' := ⟨Nat.le_trans (by simp) kp.size, fun b hb _ => by
    rw [kp.block b (by simp; omega) (fun hx => by have := inA_some.1 hx; simp at this; omega), Array.getElem?_push, if_neg (by omega)]⟩
  rcases hA' with rfl | ⟨rfl, _⟩
  · exact k _ _ _ o' hg (Nat.le_refl _) rfl
  · exact k _ _ _ o' hg (by simp) rfl
end Go.V
namespace Go.V
open Go
/-! ### tools for walks by hand -/
def Tag (h : Hp) (A : Option Addr) (e : TypeId) : Prop := ∀ b, inA A b → ∃ c fr, h[b]? = some (.cells c e fr)
theorem Tag.kp {W : Nat → Prop} {h h' : Hp} {A : Option Addr} {e : TypeId} (t : Tag h A e) (g : Kp W h h') (hn : ∀ b, inA A b → ¬ W b) : Tag h' A e := fun b hb => by
  obtain ⟨c, fr, e'⟩ := t b hb
  exact ⟨c, fr, g.at e' (hn b hb)⟩
theorem Tag.none (h : Hp) (e : TypeId) : Tag h none e := fun b hb => (inA_none hb).elim
theorem Tag.ne {h : Hp} {A : Option Addr} {e e' : TypeId} {b : Nat} {c : Array Value} {fr : Nat × Nat} (t : Tag h A e) (hb : h[b]? = some (.cells c e' fr)) (hne : e ≠ e') : ¬ inA A b := fun hi => by
  obtain ⟨c', fr', e1⟩ := t b hi
  rw [hb] at e1
  cases e1
  exact hne rfl
theorem Tag.apart {h : Hp} {A A' : Option Addr} {e e' : TypeId} (t : Tag h A e) (t' : Tag h A' e') (hne : e ≠ e') : ∀ b, inA A b → ¬ inA A' b := fun b hb hb' => by
  obtain ⟨c, fr, e1⟩ := t' b hb'
  exact t.ne e1 hne hb
theorem OwnS.tag {h : Hp} {e : TypeId} {sz : Nat} {A : Option Addr} {n c : Nat} {vs : List Value} (o : OwnS h e sz A n c vs) : Tag h A e := by
  obtain ⟨hl, ⟨rfl, _⟩ | ⟨g, cur, rfl, hg, hr⟩⟩ := o
  · exact Tag.none _ _
  · intro b hb
    have := inA_some.1 hb
    subst this
    exact ⟨_, _, hg⟩
theorem OwnS.spot {h : Hp} {e : TypeId} {sz : Nat} {A : Option Addr} {n c : Nat} {vs : List Value} (o : OwnS h e sz A n c vs) : ∀ a, A = some a → a.spot = none := by
  obtain ⟨hl, ⟨rfl, _⟩ | ⟨g, cur, rfl, hg, hr⟩⟩ := o
  · intro a ha; cases ha
  · intro a ha; cases ha; rfl
theorem Tag.lt {h : Hp} {A : Option Addr} {e : TypeId} (t : Tag h A e) : ∀ b, inA A b → b < h.size := fun b hb => by
  obtain ⟨c, fr, e1⟩ := t b hb
  exact lt_of_some e1
/-- A local variable that holds a struct: laid, then written. -/
theorem boxRow {h h2 h3 : Hp} {b : Nat} {zs : Array Value} {vs : List Value} {T : TypeId} (eb : b = h.size) (eh : h2 = h.push (.cells zs T)) (eh3 : h3 = setRow h2 ⟨b, 0, none⟩ vs 0) (hl : zs.size = vs.length) :
    h3[b]? = some (.cells vs.toArray T (0, 0)) ∧ Grow h h3 ∧ h.size ≤ b ∧ b < h3.size := by
  obtain ⟨hb, g, h1, h2'⟩ := boxed eb eh
  subst eh3
  have hb3 := setRow_at 0 vs 0 _ _ hb
  have : over zs (0 + 0) vs = vs.toArray := by
    refine Array.ext_getElem? fun j => ?_
    rw [over_get]
    by_cases hj : j < vs.length
    · rw [if_pos (by omega)]; simp
    · rw [if_neg (by omega), Array.getElem?_eq_none (by omega), Array.getElem?_eq_none (by simp; omega)]
  rw [this] at hb3
  refine ⟨hb3, ⟨by rw [setRow_size]; exact g.size, fun k hk _ => ?_⟩, h1, by rw [setRow_size]; exact h2'⟩
  rw [(setRow_kp _ vs 0 h2).block k (Nat.lt_of_lt_of_le hk g.size) (fun e => by subst eb; simp at e; omega)]
  exact g.block k hk id
theorem Kp.kp {W : Nat → Prop} {h h' : Hp} (k : Kp (fun _ => False) h h') : Kp W h h' := k.mono fun _ _ x => x.elim
theorem wr_all {h : Hp} {b : Nat} {c : Array Value} {T : TypeId} (hb : h[b]? = some (.cells c T (0, 0))) {n : Nat} (hn : c.size = n) : ∀ j, j < n → Wr h (Addr.add ⟨b, 0, none⟩ j) := fun j hj => wr_add hb (by omega)
theorem boxRow_wr {h h2 : Hp} {b : Nat} {zs : Array Value} {T : TypeId} (eb : b = h.size) (eh : h2 = h.push (.cells zs T)) {n : Nat} (hn : zs.size = n) : ∀ j, j < n → Wr h2 (Addr.add ⟨b, 0, none⟩ j) := fun j hj =>
  wr_add (boxed eb eh).1 (by omega)
/-- One struct (or one value) more behind a slice of one's own. -/
theorem app1 {e : TypeId} {z : Value} {sz bs : Nat} {h : Hp} {A : Option Addr} {n c b : Nat} {vs xs : List Value} {fr : Nat × Nat} {K : Option Addr → Nat → Nat → Hp → Prop}
    (hx : h[b]? = some (.cells xs.toArray e fr)) (hl : xs.length = sz) (h1 : ∀ v ∈ xs, oneC v = true) (o : OwnS h e sz A n c vs) (hz : z.cells.size = sz) (hn : n ≤ 68719476736) (hbs : bs ≤ 1024)
    (k : ∀ A' c' h', OwnS h' e sz A' (n + 1) c' (vs ++ xs) → Kp (inA A) h h' → (A' = A ∨ (A' = some ⟨h.size, 0, none⟩ ∧ Grow h h')) → K A' (n + 1) c' h') :
    ∃ ws : List Value, Src h (1 * sz) ws (some ⟨b, 0, none⟩) ∧ (∀ v ∈ ws, oneC v = true) ∧ (n + 1) * bs ≤ 140737488355328 ∧ n + 1 ≤ 9223372036854775807 ∧ AppendV e z sz h A n c 1 ws K := by
  have hmul : (n + 1) * bs ≤ (68719476736 + 1) * 1024 := Nat.mul_le_mul (by omega) hbs
  refine ⟨xs, ⟨by omega, ?_⟩, h1, by omega, by omega, AppendV.own o (by omega) hz k⟩
  exact row_of hx 0 fun i v hi => by simpa using hi
/-- Where a slice lies behind an append. -/
theorem app_in {h h' : Hp} {A A' : Option Addr} (e : A' = A ∨ (A' = some ⟨h.size, 0, none⟩ ∧ Grow h h')) : ∀ b, inA A' b → inA A b ∨ h.size ≤ b := fun b hb => by
  rcases e with rfl | ⟨rfl, _⟩
  · exact .inl hb
  · exact .inr (by have := inA_some.1 hb; subst this; exact Nat.le_refl _)
end Go.V
