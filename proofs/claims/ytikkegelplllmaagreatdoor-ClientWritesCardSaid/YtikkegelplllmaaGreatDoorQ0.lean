/- What a claim leans on, part 1: lemmas and contracts. -/
import Derived.Orders
import Derived.Tactics
import Derived.Laws.AppendOwn
import Derived.Laws.CopyRow
import Derived.IntWalk
import Derived.Laws.Tables
import Derived.Laws.Pointers
import Derived.Laws.StructEq
import Derived.KernelRfl
import Derived.Below
set_option linter.unusedSimpArgs false
set_option linter.unusedVariables false
/- The engine, first part: a small separation logic over the blocks of the model's heap (heaps, assertions, 'Sat': what a world holds). Nothing of the program. -/
namespace Go.Sl
open Go

/-- What a heap's place may hold: a block; or, at place 0, the world as it once was. -/
inductive Res where
  | obj (o : Obj)
  | was (w : World)
/-- Place 0 is for the world as it was; block b lies at place b + 1. -/
abbrev Hp := Nat → Option Res
namespace Hp
def emp : Hp := fun _ => none
def disj (g h : Hp) : Prop := ∀ b, g b = none ∨ h b = none
def join (g h : Hp) : Hp := fun b => (g b).or (h b)
def one (b : Nat) (o : Res) : Hp := fun c => if c = b then some o else none
theorem disj_comm {g h : Hp} (d : disj g h) : disj h g := fun b => (d b).symm
theorem join_comm {g h : Hp} (d : disj g h) : join g h = join h g := by
  funext b; unfold join
  rcases d b with e | e <;> rw [e] <;> simp
theorem join_assoc (f g h : Hp) : join (join f g) h = join f (join g h) := by
  funext b; unfold join; cases f b <;> simp
theorem join_emp (h : Hp) : join h emp = h := by funext b; unfold join emp; simp
theorem emp_join (h : Hp) : join emp h = h := by funext b; unfold join emp; simp
theorem disj_emp (h : Hp) : disj h emp := fun _ => .inr rfl
theorem emp_disj (h : Hp) : disj emp h := fun _ => .inl rfl
theorem disj_join {f g h : Hp} : disj f (join g h) ↔ disj f g ∧ disj f h := by
  unfold disj join
  constructor
  · intro d
    refine ⟨fun b => ?_, fun b => ?_⟩ <;> rcases d b with e | e
    · exact .inl e
    · exact .inr (Option.or_eq_none_iff.1 e).1
    · exact .inl e
    · exact .inr (Option.or_eq_none_iff.1 e).2
  · rintro ⟨d, d'⟩ b
    rcases d b with e | e
    · exact .inl e
    · rcases d' b with e' | e'
      · exact .inl e'
      · exact .inr (by rw [e, e']; rfl)
end Hp

def HProp := Hp → Prop
def emp : HProp := fun h => h = Hp.emp
def pt (b : Nat) (o : Obj) : HProp := fun h => h = Hp.one (b + 1) (.obj o)
/-- A world came of that one: with the same streams. -/
structure Side (w0 w : World) : Prop where
  os : w.os = w0.os
  tape : w.tape = w0.tape
  output : w.output = w0.output
  size : w0.heap.size ≤ w.heap.size
theorem Side.refl (w : World) : Side w w := ⟨rfl, rfl, rfl, Nat.le_refl _⟩
theorem Side.step {w0 w w' : World} (h : Side w0 w) (h' : Side w w') : Side w0 w' := ⟨h'.os.trans h.os, h'.tape.trans h.tape, h'.output.trans h.output, Nat.le_trans h.size h'.size⟩
def was (w0 : World) : HProp := fun h => h = Hp.one 0 (.was w0)
def sep (p q : HProp) : HProp := fun h => ∃ f g, Hp.disj f g ∧ h = Hp.join f g ∧ p f ∧ q g

theorem sep_comm (p q : HProp) : sep p q = sep q p := by
  funext h; apply propext
  constructor <;> rintro ⟨f, g, d, e, hp, hq⟩ <;> exact ⟨g, f, Hp.disj_comm d, by rw [e, Hp.join_comm d], hq, hp⟩

theorem sep_assoc (p q r : HProp) : sep (sep p q) r = sep p (sep q r) := by
  funext h; apply propext
  constructor
  · rintro ⟨f, g, d, e, ⟨f1, f2, d', e', h1, h2⟩, h3⟩
    subst e'
    have dd := Hp.disj_join.1 (Hp.disj_comm d)
    exact ⟨f1, Hp.join f2 g, Hp.disj_join.2 ⟨d', Hp.disj_comm dd.1⟩, by rw [e, Hp.join_assoc], h1, f2, g, Hp.disj_comm dd.2, rfl, h2, h3⟩
  · rintro ⟨f, g, d, e, h1, g1, g2, d', e', h2, h3⟩
    subst e'
    have dd := Hp.disj_join.1 d
    exact ⟨Hp.join f g1, g2, Hp.disj_comm (Hp.disj_join.2 ⟨Hp.disj_comm dd.2, Hp.disj_comm d'⟩), by rw [e, Hp.join_assoc], ⟨f, g1, dd.1, rfl, h1, h2⟩, h3⟩

theorem emp_sep (p : HProp) : sep emp p = p := by
  funext h; apply propext
  constructor
  · rintro ⟨f, g, _, e, h1, h2⟩
    rw [show f = Hp.emp from h1, Hp.emp_join] at e
    rw [e]; exact h2
  · intro hp; exact ⟨Hp.emp, h, Hp.emp_disj h, (Hp.emp_join h).symm, rfl, hp⟩
theorem sep_emp (p : HProp) : sep p emp = p := by rw [sep_comm, emp_sep]
theorem sep_left (p q r : HProp) : sep p (sep q r) = sep q (sep p r) := by rw [← sep_assoc, sep_comm p q, sep_assoc]

def Ent (p q : HProp) : Prop := ∀ h, p h → q h
theorem Ent.refl (p : HProp) : Ent p p := fun _ h => h
theorem Ent.trans {p q r : HProp} (a : Ent p q) (b : Ent q r) : Ent p r := fun h x => b h (a h x)
theorem Ent.of_eq {p q : HProp} (e : p = q) : Ent p q := e ▸ Ent.refl p
theorem Ent.sep {p p' q q' : HProp} (a : Ent p p') (b : Ent q q') : Ent (sep p q) (sep p' q') := by
  rintro h ⟨f, g, d, e, x, y⟩; exact ⟨f, g, d, e, a _ x, b _ y⟩

/-- What lies at a place. -/
def Lies (w : World) : Nat → Res → Prop
  | 0, .was w0 => Side w0 w
  | b + 1, .obj o => w.heap[b]? = some o
  | _, _ => False
/-- What a world holds: some part of its heap is as told. -/
def Sat (p : HProp) (w : World) : Prop := ∃ h, p h ∧ ∀ b r, h b = some r → Lies w b r

theorem Lies.step {w w' : World} {b : Nat} {r : Res} (h : Lies w b r) (hs : Side w w') (e : ∀ c, c + 1 = b → w'.heap[c]? = w.heap[c]?) : Lies w' b r := by
  cases b with
  | zero => cases r with
    | obj o => exact h
    | was w0 => exact Side.step h hs
  | succ b => cases r with
    | obj o => exact (e b rfl).trans h
    | was w0 => exact h
theorem Sat.mono {p q : HProp} {w : World} (e : Ent p q) (s : Sat p w) : Sat q w :=
  let ⟨h, x, y⟩ := s; ⟨h, e h x, y⟩
theorem Sat.side {p : HProp} {w w' : World} (e : w'.heap = w.heap) (hs : Side w w') (s : Sat p w) : Sat p w' :=
  let ⟨h, x, y⟩ := s; ⟨h, x, fun b o hb => (y b o hb).step hs fun c _ => by rw [e]⟩
theorem Sat.heap {p : HProp} {w w' : World} (e : w'.heap = w.heap) (s : Sat p w) (ho : w'.os = w.os := by rfl) (ht : w'.tape = w.tape := by rfl) (hp : w'.output = w.output := by rfl) : Sat p w' :=
  s.side e ⟨ho, ht, hp, by rw [e]; exact Nat.le_refl _⟩
theorem Sat.left {p q : HProp} {w : World} (s : Sat (sep p q) w) : Sat p w := by
  obtain ⟨h, ⟨f, g, d, e, x, y⟩, z⟩ := s
  exact ⟨f, x, fun b o hb => z b o (by rw [e]; unfold Hp.join; rw [hb]; rfl)⟩
theorem Sat.right {p q : HProp} {w : World} (s : Sat (sep p q) w) : Sat q w := by rw [sep_comm] at s; exact s.left
theorem Sat.pt {b : Nat} {o : Obj} {r : HProp} {w : World} (s : Sat (sep (pt b o) r) w) : w.heap[b]? = some o := by
  obtain ⟨h, x, z⟩ := s.left
  exact z (b + 1) (.obj o) (by rw [show h = Hp.one (b + 1) (.obj o) from x]; simp [Hp.one])
theorem Sat.was {w0 : World} {r : HProp} {w : World} (s : Sat (sep (was w0) r) w) : Side w0 w := by
  obtain ⟨h, x, z⟩ := s.left
  exact z 0 (.was w0) (by rw [show h = Hp.one 0 (.was w0) from x]; simp [Hp.one])
theorem Sat.set {b : Nat} {o o' : Obj} {r : HProp} {w w' : World} (s : Sat (sep (Sl.pt b o) r) w) (hb : w'.heap[b]? = some o')
    (he : ∀ c, c ≠ b → w'.heap[c]? = w.heap[c]?) (hs : Side w w') : Sat (sep (Sl.pt b o') r) w' := by
  obtain ⟨h, ⟨f, g, d, e, x, y⟩, z⟩ := s
  have x' : f = Hp.one (b + 1) (.obj o) := x
  subst x'
  have gb : g (b + 1) = none := by rcases d (b + 1) with q | q; · simp [Hp.one] at q
                                   · exact q
  refine ⟨Hp.join (Hp.one (b + 1) (.obj o')) g, ⟨Hp.one (b + 1) (.obj o'), g, fun c => ?_, rfl, rfl, y⟩, fun c q hc => ?_⟩
  · by_cases hcb : c = b + 1
    · subst hcb; exact .inr gb
    · exact .inl (by simp [Hp.one, hcb])
  · by_cases hcb : c = b + 1
    · subst hcb; simp [Hp.join, Hp.one] at hc; rw [← hc]; exact hb
    · refine (z c q ?_).step hs (fun c' hc' => he c' (by omega))
      rw [e]; simp [Hp.join, Hp.one, hcb] at hc ⊢; exact hc
theorem Sat.new {o : Obj} {r : HProp} {w w' : World} (s : Sat r w) (e : w'.heap = w.heap.push o) (hs : Side w w') : Sat (sep (Sl.pt w.heap.size o) r) w' := by
  obtain ⟨h, x, z⟩ := s
  have hb : h (w.heap.size + 1) = none := by
    cases q : h (w.heap.size + 1) with
    | none => rfl
    | some o' =>
      have := z _ _ q
      cases o' with
      | obj o' => simp [Lies] at this
      | was w0 => exact this.elim
  refine ⟨Hp.join (Hp.one (w.heap.size + 1) (.obj o)) h, ⟨_, h, fun c => ?_, rfl, rfl, x⟩, fun c q hc => ?_⟩
  · by_cases hcb : c = w.heap.size + 1
    · subst hcb; exact .inr hb
    · exact .inl (by simp [Hp.one, hcb])
  · by_cases hcb : c = w.heap.size + 1
    · subst hcb; simp [Hp.join, Hp.one] at hc; subst hc; show w'.heap[w.heap.size]? = some o; rw [e]; simp
    · simp [Hp.join, Hp.one, hcb] at hc
      have hz := z c q hc
      cases c with
      | zero => exact hz.step hs (fun c' hc' => by omega)
      | succ c =>
        refine hz.step hs fun c' hc' => ?_
        obtain rfl : c' = c := by omega
        rw [e, Array.getElem?_push]; simp; intro q; omega
theorem Side.push (w : World) (cs : Array Value) (T : TypeId) : Side w { w with heap := w.heap.push (.cells cs T) } := ⟨rfl, rfl, rfl, by simp⟩
theorem Side.pushed {w w' : World} {cs : Array Value} {T : TypeId} (e : w'.heap = w.heap.push (.cells cs T)) (ho : w'.os = w.os) (ht : w'.tape = w.tape) (hp : w'.output = w.output) : Side w w' :=
  ⟨ho, ht, hp, by rw [e]; simp⟩
theorem Sat.emp (w : World) : Sat Sl.emp w := ⟨Hp.emp, rfl, fun b o h => by cases h⟩

def star : List HProp → HProp
  | [] => emp
  | p :: l => sep p (star l)
theorem star_append (l l' : List HProp) : star (l ++ l') = sep (star l) (star l') := by
  induction l with
  | nil => exact (emp_sep _).symm
  | cons p l ih => show sep p (star (l ++ l')) = _; rw [ih, ← sep_assoc]; rfl
theorem star_perm {l l' : List HProp} (h : l.Perm l') : star l = star l' := by
  induction h with
  | nil => rfl
  | cons x _ ih => show sep x _ = sep x _; rw [ih]
  | swap x y l => exact sep_left _ _ _
  | trans _ _ a b => rw [a, b]
theorem star_one (p : HProp) : star [p] = p := sep_emp p

/-- 'Take1 l p r': p is one of l, r the others. -/
inductive Take1 : List HProp → HProp → List HProp → Prop
  | here {p : HProp} {l : List HProp} : Take1 (p :: l) p l
  | there {p q : HProp} {l r : List HProp} : Take1 l p r → Take1 (q :: l) p (q :: r)
inductive Take : List HProp → List HProp → List HProp → Prop
  | nil {l : List HProp} : Take l [] l
  | cons {l r s : List HProp} {p : HProp} {ps : List HProp} : Take1 l p r → Take r ps s → Take l (p :: ps) s
theorem Take1.perm {l r : List HProp} {p : HProp} (h : Take1 l p r) : l.Perm (p :: r) := by
  induction h with
  | here => exact .refl _
  | there _ ih => exact (ih.cons _).trans (.swap _ _ _)
theorem Take.perm {l ps r : List HProp} (h : Take l ps r) : l.Perm (ps ++ r) := by
  induction h with
  | nil => exact .refl _
  | cons h1 _ ih => exact h1.perm.trans (ih.cons _)
theorem Take1.eq {l r : List HProp} {p : HProp} (h : Take1 l p r) : star l = sep p (star r) := star_perm h.perm
theorem Take.eq {l ps r : List HProp} (h : Take l ps r) : star l = sep (star ps) (star r) := by rw [star_perm h.perm, star_append]
end Go.Sl
/- The engine, second part: what an operation does, over what is known of the temporaries and of the heap; a list of operations one after the other; and a region that draws its order: whichever order is drawn, the end is that of one order, where what is unordered doesn't meet. -/
namespace Go.Sl
open Go

abbrev Env := Nat → Option Value
def upd (e : Env) (k : Nat) (v : Value) : Env := fun i => bif Nat.beq k i then some v else e i
def updO (e : Env) : Option Tmp → Value → Env
  | some d, v => upd e d v
  | none, _ => e
theorem upd_same (e : Env) (k : Nat) (v : Value) : upd e k v k = some v := by simp [upd]
theorem upd_ne (e : Env) {k i : Nat} (v : Value) (h : k ≠ i) : upd e k v i = e i := by
  have : Nat.beq k i = false := by cases q : Nat.beq k i with
    | false => rfl
    | true => exact (h (Nat.eq_of_beq_eq_true q)).elim
  simp [upd, this]
theorem upd_comm (e : Env) {k i : Nat} (u v : Value) (h : k ≠ i) : upd (upd e k u) i v = upd (upd e i v) k u := by
  funext j
  by_cases hi : i = j
  · subst hi; rw [upd_same, upd_ne _ _ h, upd_same]
  · rw [upd_ne _ _ hi]
    by_cases hk : k = j
    · subst hk; rw [upd_same, upd_same]
    · rw [upd_ne _ _ hk, upd_ne _ _ hk, upd_ne _ _ hi]
theorem updO_comm (e : Env) {x y : Option Tmp} (u v : Value) (h : ∀ d, x = some d → y ≠ some d) : updO (updO e x u) y v = updO (updO e y v) x u := by
  cases x with
  | none => rfl
  | some d =>
    cases y with
    | none => rfl
    | some d' => exact upd_comm e u v fun q => h d rfl (by rw [q])

structure EnvOk (n : Nat) (ds : List Deferred) (e : Env) (a : Act) : Prop where
  size : a.tmps.size = n
  get : ∀ i v, e i = some v → a.tmps[i]? = some v
  defers : a.defers = ds

theorem EnvOk.put {n : Nat} {ds : List Deferred} {e : Env} {a : Act} (h : EnvOk n ds e a) (d : Option Tmp) (hd : ∀ k, d = some k → k < n) (v : Value) :
    EnvOk n ds (updO e d v) (a.put d v) := by
  cases d with
  | none => exact h
  | some k =>
    refine ⟨by simp [Act.put, h.size], fun i u hu => ?_, h.defers⟩
    by_cases hk : k = i
    · subst hk
      rw [show updO e (some k) v = upd e k v from rfl, upd_same] at hu
      have : k < a.tmps.size := by rw [h.size]; exact hd k rfl
      simp [Act.put, this]; simpa using hu
    · rw [show updO e (some k) v = upd e k v from rfl, upd_ne _ _ hk] at hu
      simp only [Act.put]
      rw [Array.getElem?_setIfInBounds_ne hk]
      exact h.get i u hu

/-- The value of an operand, where it is known. -/
def ov (e : Env) : Operand → Option Value
  | .tmp t => e t
  | .const v => some v
  | .global g => some (.pointer (some ⟨g, 0, none⟩))
  | .func f => some (.func (.func f) #[] #[])
theorem EnvOk.eval {n : Nat} {ds : List Deferred} {e : Env} {a : Act} (h : EnvOk n ds e a) {x : Operand} {v : Value} (hx : ov e x = some v) : a.eval x = v := by
  cases x with
  | tmp t => have := h.get t v hx; simp [Act.eval, Array.getD_eq_getD_getElem?, this]
  | const c => simpa [ov, Act.eval] using hx
  | global g => simpa [ov, Act.eval] using hx
  | func f => simpa [ov, Act.eval] using hx

/-- Does a guard let an operation run? -/
def wantE (ops : Array Oper) (e : Env) (o : Oper) : Option Bool :=
  match o.guard with
  | none => some true
  | some (j, want) =>
    match (ops[j]?).bind (·.dst) with
    | some d => match e d with
      | some (.bool b) => some (b == want)
      | some _ => some false
      | none => none
    | none => none
theorem EnvOk.wanted {n : Nat} {ds : List Deferred} {ops : Array Oper} {e : Env} {a : Act} (h : EnvOk n ds e a) {o : Oper} {b : Bool} (hw : wantE ops e o = some b) :
    Region.wanted o (yielded ops a.tmps) = b := by
  unfold wantE at hw
  unfold Region.wanted
  cases hg : o.guard with
  | none => rw [hg] at hw; simpa using hw
  | some gw =>
    obtain ⟨j, want⟩ := gw
    rw [hg] at hw
    simp only at hw ⊢
    cases hd : (ops[j]?).bind (·.dst) with
    | none => rw [hd] at hw; simp at hw
    | some d =>
      rw [hd] at hw
      simp only at hw
      cases he : e d with
      | none => rw [he] at hw; simp at hw
      | some v =>
        rw [he] at hw
        have ht := h.get d _ he
        cases v with
        | bool x =>
          simp at hw
          have hy : yielded ops a.tmps j = some x := by unfold yielded; rw [hd]; simp [ht]
          rw [hy, ← hw]
          cases x <;> cases want <;> rfl
        | _ =>
          simp at hw
          have hy : yielded ops a.tmps j = none := by unfold yielded; rw [hd]; simp [ht]
          rw [hy, hw]
          cases want <;> rfl

section
variable (P : Program)

/-- What comes of an operation: a value, behind which 'post' holds; a call that returns one. -/
def ResOk (post : Value → World → Prop) : Result Next → Prop
  | .ok (.value v) w => post v w
  | .ok .skip w => post undef w
  | .ok (.enter f args) w => Calls P f args w fun e w' => ∃ v, e = .returned v ∧ post v w'
  | _ => False
/-- The same, of one value that is told; a call's is so by the machine's one way. -/
def ResV (v : Value) (post : World → Prop) : Result Next → Prop
  | .ok (.value v') w => v' = v ∧ post w
  | .ok (.enter f args) w => P.inits.idxOf? f = none ∧ Calls P f args w fun e w' => e = .returned v ∧ post w'
  | _ => False

variable (n : Nat) (ds : List Deferred) (ops : Array Oper)

/-- An operation takes 'Pre' and leaves what 'Post' tells; all else stays. -/
def Ex (o : Oper) (e : Env) (Pre : HProp) (Post : Value → HProp → Prop) : Prop :=
  ∀ a w R, EnvOk n ds e a → Sat (sep Pre R) w → ResOk P (fun v w' => ∃ H, Post v H ∧ Sat (sep H R) w') ((execOp a.eval o).run P w)

/-- What an operation that changes nothing comes to: a value, or a new block. -/
inductive DRes where
  | val (v : Value)
  | new (c : Array Value) (T : TypeId) (mk : Nat → Value)

def Dt (D : HProp) (o : Oper) (e : Env) : DRes → Prop
  | .val v => (wantE ops e o = some true ∧ ∀ a w R, EnvOk n ds e a → Sat (sep D R) w → ResV P v (Sat (sep D R)) ((execOp a.eval o).run P w)) ∨
      (wantE ops e o = some false ∧ v = undef)
  | .new c T mk => wantE ops e o = some true ∧ (∀ b b', mk b = mk b' → b = b') ∧ ∀ a w, EnvOk n ds e a → (execOp a.eval o).run P w = .ok (.value (mk w.heap.size)) { w with heap := w.heap.push (.cells c T) }

/-- Operations of a region: 's' needs nothing of the heap; 'p' may read what stays for good; 'd' may read what stays till the next bar; 'f' may make a block; 'e' may do all. -/
inductive Kd where
  | s | p | d | f | e
  deriving DecidableEq

inductive Item where
  | op (i : Nat) (k : Kd)
  | bar

def SatAny (p : HProp) : Prop := ∃ w, Sat p w

/-- What an operation of a kind may read. -/
def DD (D0 D : HProp) : Kd → HProp
  | .s => emp
  | .p => D0
  | _ => sep D0 D
/-- The operations of a region, in one order: D0 stays for good, D till the next bar, H is at hand. -/
def RX (D0 : HProp) : List Item → HProp → Env → HProp → (Env → HProp → Prop) → Prop
  | [], D, e, H, K => K e (sep (sep D0 D) H)
  | .bar :: l, D, e, H, K => ∃ D' H', Ent (sep D H) (sep D' H') ∧ RX D0 l D' e H' K
  | .op i k :: l, D, e, H, K => ∃ o, ops[i]? = some o ∧ (∀ d, o.dst = some d → d < n) ∧
    ((∃ v, Dt P n ds ops (DD D0 D k) o e (.val v) ∧ RX D0 l D (updO e o.dst v) H K) ∨
     ((k = .f ∨ k = .e) ∧ ∃ c T mk, Dt P n ds ops (sep D0 D) o e (.new c T mk) ∧
        ∀ b, SatAny (sep (sep D0 D) (sep (pt b (.cells c T)) H)) → RX D0 l D (updO e o.dst (mk b)) (sep (pt b (.cells c T)) H) K) ∨
     (k = .e ∧ wantE ops e o = some true ∧ ∃ Pre F, ∃ Post : Value → HProp → Prop, Ent H (sep Pre F) ∧
        Ex P n ds o e (sep (sep D0 D) Pre) (fun v H' => ∃ G, H' = sep (sep D0 D) G ∧ Post v G) ∧
        ∀ v G, Post v G → SatAny (sep (sep D0 D) (sep G F)) → RX D0 l D (updO e o.dst v) (sep G F) K))
end

section
variable {P : Program} {n : Nat} {ds : List Deferred} {ops : Array Oper}

theorem ResOk.mono {post post' : Value → World → Prop} (h : ∀ v w, post v w → post' v w) {r : Result Next} (q : ResOk P post r) : ResOk P post' r := by
  cases r with
  | ok x w =>
    cases x <;> first | exact h _ _ q | exact q.elim | exact Calls.mono q fun e w' ⟨v, a, b⟩ => ⟨v, a, h _ _ b⟩
  | halt x w => exact q.elim
theorem ResV.ok {v : Value} {post : World → Prop} {r : Result Next} (q : ResV P v post r) : ResOk P (fun v' w => v' = v ∧ post w) r := by
  cases r with
  | ok x w =>
    cases x <;> first | exact q | exact q.elim | exact Calls.mono q.2 fun e w' ⟨a, b⟩ => ⟨v, a, rfl, b⟩
  | halt x w => exact q.elim

/-- Of a thing that comes to its end there is an end. -/
theorem ResOk.some {post : Value → World → Prop} {r : Result Next} (q : ResOk P post r) : ∃ v w, post v w := by
  cases r with
  | ok x w =>
    cases x <;> first | exact ⟨_, _, q⟩ | exact q.elim | skip
    obtain ⟨e, w', fr, ⟨v, _, hv⟩, _⟩ := (show Calls P _ _ _ _ from q) []
    exact ⟨v, w', hv⟩
  | halt x w => exact q.elim

theorem runN_ended_le {m : Machine} {o : Outcome} {w : World} : ∀ {a : Nat}, runN P a m = .ended o w → ∀ b, runN P (a + b) m = .ended o w := by
  intro a h b
  rw [runN_add, h]
theorem Calls.same {f : FuncId} {args : Array Value} {w : World} (hi : P.inits.idxOf? f = none) {v v' : Value} {p p' : World → Prop}
    (h : Calls P f args w fun e w' => e = .returned v ∧ p w') (h' : Calls P f args w fun e w' => e = .returned v' ∧ p' w') : v = v' := by
  have q1 : Calls P f args w fun | .returned x, _ => x = v | _, _ => False := Calls.mono h fun e w' ⟨a, _⟩ => by subst a; rfl
  have q2 : Calls P f args w fun | .returned x, _ => x = v' | _, _ => False := Calls.mono h' fun e w' ⟨a, _⟩ => by subst a; rfl
  obtain ⟨a, x, w1, r1, e1⟩ := Calls.done (R := fun x _ => x = v) q1 hi
  obtain ⟨b, y, w2, r2, e2⟩ := Calls.done (R := fun x _ => x = v') q2 hi
  have s1 := runN_ended_le r1 b
  have s2 := runN_ended_le r2 a
  rw [Nat.add_comm b a, s1] at s2
  injection s2 with s3 _
  injection s3 with s4
  rw [← e1, ← e2, s4]

theorem ResV.same {v v' : Value} {p p' : World → Prop} {r : Result Next} (q : ResV P v p r) (q' : ResV P v' p' r) : v = v' := by
  cases r with
  | ok x w =>
    cases x <;> first | exact q.1.symm.trans q'.1 | exact q.elim | exact Calls.same q.1 q.2 q'.2
  | halt x w => exact q.elim

theorem Dt.clash {D : HProp} {o : Oper} {e : Env} {v : Value} {c : Array Value} {T : TypeId} {mk : Nat → Value} (ha : ∃ a, EnvOk n ds e a) (hd : SatAny D)
    (h : Dt P n ds ops D o e (.val v)) (h' : Dt P n ds ops D o e (.new c T mk)) : False := by
  obtain ⟨a, ha⟩ := ha
  obtain ⟨w, hd⟩ := hd
  obtain ⟨w2, inj, h'⟩ := h'
  rcases h with ⟨w1, h⟩ | ⟨w1, rfl⟩
  · have hv := h a w emp ha (by rw [sep_emp]; exact hd)
    have hv2 := h a { w with heap := w.heap.push (.cells #[] 0) } emp ha (by
      have := Sat.new (o := .cells #[] 0) (w' := { w with heap := w.heap.push (.cells #[] 0) }) hd rfl (Side.push w #[] 0)
      rw [sep_emp]; exact this.right)
    rw [h' a _ ha] at hv hv2
    have := inj _ _ (hv.1.trans hv2.1.symm)
    simp at this
  · rw [w2] at w1; cases w1

theorem Dt.same {D : HProp} {o : Oper} {e : Env} {r r' : DRes} (ha : ∃ a, EnvOk n ds e a) (hd : SatAny D) (h : Dt P n ds ops D o e r) (h' : Dt P n ds ops D o e r') :
    r = r' := by
  cases r with
  | val v =>
    cases r' with
    | new c T mk => exact (Dt.clash ha hd h h').elim
    | val v' =>
      obtain ⟨a, ha⟩ := ha
      obtain ⟨w, hd⟩ := hd
      have hD : Sat (sep D emp) w := by rw [sep_emp]; exact hd
      rcases h with ⟨w1, h⟩ | ⟨w1, rfl⟩ <;> rcases h' with ⟨w2, h'⟩ | ⟨w2, rfl⟩
      · rw [(h a w emp ha hD).same (h' a w emp ha hD)]
      · rw [w1] at w2; cases w2
      · rw [w1] at w2; cases w2
      · rfl
  | new c T mk =>
    cases r' with
    | val v => exact (Dt.clash ha hd h' h).elim
    | new c' T' mk' =>
      obtain ⟨a, ha⟩ := ha
      obtain ⟨_, _, h⟩ := h
      obtain ⟨_, _, h'⟩ := h'
      have key : ∀ b, mk b = mk' b ∧ c = c' ∧ T = T' := by
        intro b
        have e1 := h a { (default : World) with heap := Array.replicate b (.cells #[] 0) } ha
        have e2 := h' a { (default : World) with heap := Array.replicate b (.cells #[] 0) } ha
        rw [e1] at e2
        injection e2 with e3 e4
        injection e3 with e5
        injection e4 with e6
        have e7 := Obj.cells.inj (Array.push_eq_push.1 e6).1
        exact ⟨by simpa using e5, e7.1, e7.2.1⟩
      have hm : mk = mk' := funext fun b => (key b).1
      rw [hm, (key 0).2.1, (key 0).2.2]
end
end Go.Sl
/- The engine, third part: of a region that draws its order, one order stands for all ('net'). -/
namespace Go.Sl
open Go

section
variable {P : Program} {n : Nat} {ds : List Deferred} {ops : Array Oper}

def NoSel (o : Oper) : Prop := ∀ cs b, o.op ≠ .select cs b
def Free (ops : Array Oper) (o : Oper) (d : Option Tmp) : Prop := ∀ k, d = some k → k ∉ o.looksAt ops
def InN (n : Nat) (d : Option Tmp) : Prop := ∀ k, d = some k → k < n

theorem wantE_put {o : Oper} {d : Option Tmp} (h : Free ops o d) (e : Env) (v : Value) : wantE ops (updO e d v) o = wantE ops e o := by
  cases d with
  | none => rfl
  | some k =>
    unfold wantE
    cases hg : o.guard with
    | none => rfl
    | some gw =>
      obtain ⟨g, want⟩ := gw
      simp only
      cases ht : (ops[g]?).bind (·.dst) with
      | none => rfl
      | some t =>
        have hne : k ≠ t := fun q => h k rfl (by subst q; simp [Oper.looksAt, hg, ht])
        simp only [updO, upd_ne _ _ hne]

theorem EnvOk.back {e : Env} {d : Option Tmp} (hd : InN n d) {v : Value} {a' : Act} (h : EnvOk n ds (updO e d v) a') :
    ∃ a, EnvOk n ds e a ∧ ∀ o, NoSel o → Free ops o d → execOp a.eval o = execOp a'.eval o := by
  cases d with
  | none => exact ⟨a', h, fun _ _ _ => rfl⟩
  | some k =>
    have hk := hd k rfl
    have ne : ∀ {i u}, k ≠ i → e i = some u → a'.tmps[i]? = some u := fun hne hu => h.get _ _ (by rw [show updO e (some k) v = upd e k v from rfl, upd_ne _ _ hne]; exact hu)
    cases he : e k with
    | none =>
      refine ⟨a', ⟨h.size, fun i u hu => ne (fun q => ?_) hu, h.defers⟩, fun _ _ _ => rfl⟩
      subst q; rw [he] at hu; cases hu
    | some old =>
      refine ⟨a'.put (some k) old, ⟨by simp [Act.put, h.size], fun i u hu => ?_, h.defers⟩, fun o hs hf => execOp_put o hs a' (some k) old hf⟩
      by_cases q : k = i
      · subst q; rw [he] at hu
        have : k < a'.tmps.size := by rw [h.size]; exact hk
        simp [Act.put, this]; simpa using hu
      · simp only [Act.put]; rw [Array.getElem?_setIfInBounds_ne q]; exact ne q hu

theorem Dt.put {D : HProp} {o : Oper} {e : Env} {r : DRes} {d : Option Tmp} (hs : NoSel o) (hd : InN n d) (hf : Free ops o d) (v : Value)
    (h : Dt P n ds ops D o e r) : Dt P n ds ops D o (updO e d v) r := by
  cases r with
  | val u =>
    rcases h with ⟨w1, h⟩ | ⟨w1, rfl⟩
    · refine .inl ⟨by rw [wantE_put hf]; exact w1, fun a' w R ha hsat => ?_⟩
      obtain ⟨a, h1, h2⟩ := ha.back (ops := ops) hd
      rw [← h2 o hs hf]; exact h a w R h1 hsat
    · exact .inr ⟨by rw [wantE_put hf]; exact w1, rfl⟩
  | new c T mk =>
    obtain ⟨w1, inj, h⟩ := h
    refine ⟨by rw [wantE_put hf]; exact w1, inj, fun a' w ha => ?_⟩
    obtain ⟨a, h1, h2⟩ := ha.back (ops := ops) hd
    rw [← h2 o hs hf]; exact h a w h1
theorem Dt.unput {D : HProp} {o : Oper} {e : Env} {r : DRes} {d : Option Tmp} (hs : NoSel o) (hd : InN n d) (hf : Free ops o d) {v : Value}
    (h : Dt P n ds ops D o (updO e d v) r) : Dt P n ds ops D o e r := by
  cases r with
  | val u =>
    rcases h with ⟨w1, h⟩ | ⟨w1, rfl⟩
    · refine .inl ⟨by rw [wantE_put hf] at w1; exact w1, fun a w R ha hsat => ?_⟩
      rw [← execOp_put o hs a d v hf]; exact h _ w R (ha.put d hd v) hsat
    · exact .inr ⟨by rw [wantE_put hf] at w1; exact w1, rfl⟩
  | new c T mk =>
    obtain ⟨w1, inj, h⟩ := h
    refine ⟨by rw [wantE_put hf] at w1; exact w1, inj, fun a w ha => ?_⟩
    rw [← execOp_put o hs a d v hf]; exact h _ w (ha.put d hd v)
theorem Ex.put {o : Oper} {e : Env} {Pre : HProp} {Post : Value → HProp → Prop} {d : Option Tmp} (hs : NoSel o) (hd : InN n d) (hf : Free ops o d) (v : Value)
    (h : Ex P n ds o e Pre Post) : Ex P n ds o (updO e d v) Pre Post := fun a' w R ha hsat => by
  obtain ⟨a, h1, h2⟩ := ha.back (ops := ops) hd
  rw [← h2 o hs hf]; exact h a w R h1 hsat
theorem Ex.unput {o : Oper} {e : Env} {Pre : HProp} {Post : Value → HProp → Prop} {d : Option Tmp} (hs : NoSel o) (hd : InN n d) (hf : Free ops o d) {v : Value}
    (h : Ex P n ds o (updO e d v) Pre Post) : Ex P n ds o e Pre Post := fun a w R ha hsat => by
  rw [← execOp_put o hs a d v hf]; exact h _ w R (ha.put d hd v) hsat

theorem SatAny.mono {p q : HProp} (e : Ent p q) (h : SatAny p) : SatAny q := let ⟨w, s⟩ := h; ⟨w, s.mono e⟩
theorem SatAny.eq {p q : HProp} (e : p = q) (h : SatAny p) : SatAny q := e ▸ h
theorem SatAny.fresh {p : HProp} (c : Array Value) (T : TypeId) (h : SatAny p) : ∃ b, SatAny (sep (pt b (.cells c T)) p) := by
  obtain ⟨w, s⟩ := h
  exact ⟨w.heap.size, { w with heap := w.heap.push (.cells c T) }, s.new rfl (Side.push w _ _)⟩

variable (P n ds ops) in
def Cont (D0 : HProp) (l : List Item) (D : HProp) (e : Env) (H : HProp) (K : Env → HProp → Prop) (dst : Option Tmp) : DRes → Prop
  | .val v => RX P n ds ops D0 l D (updO e dst v) H K
  | .new c T mk => ∀ b, SatAny (sep (sep D0 D) (sep (pt b (.cells c T)) H)) → RX P n ds ops D0 l D (updO e dst (mk b)) (sep (pt b (.cells c T)) H) K

/-- What is asked of a y that stands ahead of x in the order that stands for all, where they are unordered. -/
def okPair (kx ky : Kd) (bar : Bool) : Bool :=
  if bar then (kx == .s || kx == .p) || (ky == .s || ky == .p) else !(kx == .e && (ky == .e || ky == .f))
def hasBar : List Item → Bool
  | [] => false
  | .bar :: _ => true
  | .op _ _ :: l => hasBar l
/-- All of a list may be passed by x. -/
def Pass (ops : Array Oper) (ox : Oper) (kx : Kd) : List Item → Prop
  | [] => True
  | .bar :: l => Pass ops ox kx l
  | .op y ky :: l => (∀ oy, ops[y]? = some oy → ox.apart ops oy = true) ∧ okPair kx ky (hasBar l) = true ∧ Pass ops ox kx l

theorem apart_free {x y : Oper} (h : x.apart ops y = true) : Free ops y x.dst ∧ Free ops x y.dst ∧ ∀ d, x.dst = some d → y.dst ≠ some d :=
  let ⟨a, b, c⟩ := Oper.apart_spec h; ⟨a, c, b⟩

theorem RX.det (hsel : ∀ (j : Nat) (o : Oper), ops[j]? = some o → NoSel o) {x : Nat} {D0 : HProp} {kx : Kd} {ox : Oper} (hx : ops[x]? = some ox) (hk : kx ≠ .e) {post : List Item} {K : Env → HProp → Prop} :
    ∀ (pre : List Item) (D : HProp) (e : Env) (H : HProp), Pass ops ox kx pre → (kx = .s ∨ kx = .p ∨ hasBar pre = false) →
      RX P n ds ops D0 (pre ++ .op x kx :: post) D e H K → (∃ a, EnvOk n ds e a) → SatAny (sep (sep D0 D) H) →
      InN n ox.dst ∧ ∃ r, (kx = .f ∨ ∃ v, r = .val v) ∧ Dt P n ds ops (DD D0 D kx) ox e r ∧ Cont P n ds ops D0 (pre ++ post) D e H K ox.dst r := by
  have sx := hsel x ox hx
  intro pre
  induction pre with
  | nil =>
    intro D e H _ _ h _ _
    obtain ⟨o, ho, hd, h⟩ := h
    rw [hx] at ho; cases ho
    refine ⟨hd, ?_⟩
    rcases h with ⟨v, h1, h2⟩ | ⟨hf, c, T, mk, h1, h2⟩ | ⟨he, _⟩
    · exact ⟨.val v, .inr ⟨v, rfl⟩, h1, h2⟩
    · have hf' : kx = .f := hf.resolve_right hk
      subst hf'
      exact ⟨.new c T mk, .inl rfl, h1, h2⟩
    · exact (hk he).elim
  | cons it pre ih =>
    intro D e H hp hb h ha hsat
    cases it with
    | bar =>
      have hs : kx = .s ∨ kx = .p := by
        rcases hb with q | q | q
        · exact .inl q
        · exact .inr q
        · simp [hasBar] at q
      obtain ⟨D', H', he, h⟩ := h
      have hsat' : SatAny (sep (sep D0 D') H') := hsat.mono (by rw [sep_assoc, sep_assoc]; exact Ent.sep (Ent.refl _) he)
      obtain ⟨hd, r, h1, h2, h3⟩ := ih D' e H' hp (hs.elim .inl (fun q => .inr (.inl q))) h ha hsat'
      have hDD : DD D0 D kx = DD D0 D' kx := by rcases hs with rfl | rfl <;> rfl
      refine ⟨hd, r, h1, hDD ▸ h2, ?_⟩
      rcases h1 with h1 | ⟨v, rfl⟩
      · subst h1; rcases hs with q | q <;> cases q
      · exact ⟨D', H', he, h3⟩
    | op y ky =>
      obtain ⟨oy, hoy, hdy, h⟩ := h
      obtain ⟨pa, pp, hp⟩ := hp
      have hb' : kx = .s ∨ kx = .p ∨ hasBar pre = false := hb
      obtain ⟨f1, f2, f3⟩ := apart_free (pa oy hoy)
      have sy := hsel y oy hoy
      have comm : ∀ (u v : Value), updO (updO e ox.dst u) oy.dst v = updO (updO e oy.dst v) ox.dst u := fun u v => updO_comm e u v f3
      have hsD : SatAny (DD D0 D kx) := by
        obtain ⟨w, q⟩ := hsat
        cases kx with
        | s => exact ⟨w, Sat.emp _⟩
        | p => exact ⟨w, q.left.left⟩
        | _ => exact ⟨w, q.left⟩
      have hput : ∀ u, ∃ a, EnvOk n ds (updO e oy.dst u) a := fun u => let ⟨a, q⟩ := ha; ⟨_, q.put oy.dst hdy u⟩
      rcases h with ⟨vy, hy, h⟩ | ⟨hkf, cy, Ty, mky, hy, h⟩ | ⟨hke, wy, Pre, F, Post, hent, hex, h⟩
      · obtain ⟨hd, r, h1, h2, h3⟩ := ih D _ H hp hb' h (hput vy) hsat
        refine ⟨hd, r, h1, h2.unput sx hdy f2, ?_⟩
        cases r with
        | val v =>
          refine ⟨oy, hoy, hdy, .inl ⟨vy, hy.put sy hd f1 v, ?_⟩⟩
          rw [comm]; exact h3
        | new c T mk =>
          intro b hb
          refine ⟨oy, hoy, hdy, .inl ⟨vy, hy.put sy hd f1 _, ?_⟩⟩
          rw [comm]; exact h3 b hb
      · obtain ⟨b0, hb0⟩ := hsat.fresh cy Ty
        have hb0 : SatAny (sep (sep D0 D) (sep (pt b0 (.cells cy Ty)) H)) := hb0.eq (sep_left _ _ _)
        obtain ⟨hd, r, h1, h2, _⟩ := ih D _ _ hp hb' (h b0 hb0) (hput _) hb0
        have h2 := h2.unput sx hdy f2
        have all : ∀ b, SatAny (sep (sep D0 D) (sep (pt b (.cells cy Ty)) H)) → Cont P n ds ops D0 (pre ++ post) D (updO e oy.dst (mky b)) (sep (pt b (.cells cy Ty)) H) K ox.dst r := by
          intro b hb
          obtain ⟨_, r', _, h2', h3'⟩ := ih D _ _ hp hb' (h b hb) (hput _) hb
          rw [Dt.same ha hsD h2 (h2'.unput sx hdy f2)]; exact h3'
        refine ⟨hd, r, h1, h2, ?_⟩
        cases r with
        | val v =>
          refine ⟨oy, hoy, hdy, .inr (.inl ⟨hkf, cy, Ty, mky, hy.put sy hd f1 v, fun b hb => ?_⟩)⟩
          rw [comm]; exact all b hb
        | new c T mk =>
          intro bx hbx
          refine ⟨oy, hoy, hdy, .inr (.inl ⟨hkf, cy, Ty, mky, hy.put sy hd f1 _, fun b hb => ?_⟩)⟩
          have q1 : SatAny (sep (sep D0 D) (sep (pt b (.cells cy Ty)) H)) := hb.mono (Ent.sep (Ent.refl _) (Ent.sep (Ent.refl _) (fun g q => q))) |> fun q => by
            obtain ⟨w, s⟩ := q
            refine ⟨w, ?_⟩
            rw [sep_left (pt b _) (pt bx _) H, sep_left (sep D0 D)] at s
            exact s.right
          have q2 := all b q1 bx (hb.eq (by rw [sep_left (pt b _) (pt bx _) H]))
          rw [comm, sep_left (pt b _) (pt bx _) H]; exact q2
      · -- an effect
        obtain ⟨a, ha'⟩ := ha
        obtain ⟨w, hw⟩ := hsat
        have hw1 : Sat (sep (sep (sep D0 D) Pre) F) w := by rw [sep_assoc]; exact hw.mono (Ent.sep (Ent.refl _) hent)
        obtain ⟨v0, w0, _, ⟨G0, rfl, hp0⟩, hs0⟩ := (hex a w F ha' hw1).some
        have hs0 : SatAny (sep (sep D0 D) (sep G0 F)) := ⟨w0, by rw [← sep_assoc]; exact hs0⟩
        obtain ⟨hd, r, h1, h2, _⟩ := ih D _ _ hp hb' (h v0 G0 hp0 hs0) (hput _) hs0
        have h2 := h2.unput sx hdy f2
        have all : ∀ v G, Post v G → SatAny (sep (sep D0 D) (sep G F)) → Cont P n ds ops D0 (pre ++ post) D (updO e oy.dst v) (sep G F) K ox.dst r := by
          intro v G hp1 hs1
          obtain ⟨_, r', _, h2', h3'⟩ := ih D _ _ hp hb' (h v G hp1 hs1) (hput _) hs1
          rw [Dt.same ⟨a, ha'⟩ hsD h2 (h2'.unput sx hdy f2)]; exact h3'
        refine ⟨hd, r, h1, h2, ?_⟩
        cases r with
        | val v =>
          refine ⟨oy, hoy, hdy, .inr (.inr ⟨hke, by rw [wantE_put f1]; exact wy, Pre, F, Post, hent, hex.put sy hd f1 v, fun v' G hp1 hs1 => ?_⟩)⟩
          rw [comm]; exact all v' G hp1 hs1
        | new c T mk =>
          intro b hb
          refine ⟨oy, hoy, hdy, .inr (.inr ⟨hke, by rw [wantE_put f1]; exact wy, Pre, sep (pt b (.cells c T)) F, Post, ?_, hex.put sy hd f1 _, fun v' G hp1 hs1 => ?_⟩)⟩
          · refine (Ent.sep (Ent.refl _) hent).trans (Ent.of_eq (sep_left _ _ _))
          · have e1 : sep G (sep (pt b (.cells c T)) F) = sep (pt b (.cells c T)) (sep G F) := sep_left _ _ _
            rw [e1] at hs1 ⊢
            have q1 : SatAny (sep (sep D0 D) (sep G F)) := by
              obtain ⟨w, s⟩ := hs1
              rw [sep_left] at s
              exact ⟨w, s.right⟩
            rw [comm]; exact all v' G hp1 q1 b hs1

theorem RX.eff (hsel : ∀ (j : Nat) (o : Oper), ops[j]? = some o → NoSel o) {x : Nat} {ox : Oper} (hx : ops[x]? = some ox) {post : List Item} {K : Env → HProp → Prop} {D0 D : HProp} :
    ∀ (pre : List Item) (e : Env) (H : HProp), Pass ops ox .e pre → hasBar pre = false →
      RX P n ds ops D0 (pre ++ .op x .e :: post) D e H K → RX P n ds ops D0 (.op x .e :: (pre ++ post)) D e H K := by
  have sx := hsel x ox hx
  intro pre
  induction pre with
  | nil => intro e H _ _ h; exact h
  | cons it pre ih =>
    intro e H hp hb h
    cases it with
    | bar => simp [hasBar] at hb
    | op y ky =>
      obtain ⟨oy, hoy, hdy, h⟩ := h
      obtain ⟨pa, pp, hp⟩ := hp
      have hb' : hasBar pre = false := hb
      rw [hb'] at pp
      obtain ⟨f1, f2, f3⟩ := apart_free (pa oy hoy)
      have sy := hsel y oy hoy
      have comm : ∀ (u v : Value), updO (updO e ox.dst u) oy.dst v = updO (updO e oy.dst v) ox.dst u := fun u v => updO_comm e u v f3
      have hne : ky ≠ .e ∧ ky ≠ .f := by cases ky <;> simp [okPair] at pp ⊢
      rcases h with ⟨vy, hy, h⟩ | ⟨hkf, _⟩ | ⟨hke, _⟩
      · obtain ⟨o, ho, hd, h⟩ := ih _ H hp hb' h
        rw [hx] at ho; cases ho
        refine ⟨ox, hx, hd, ?_⟩
        rcases h with ⟨v, h1, h2⟩ | ⟨hf, c, T, mk, h1, h2⟩ | ⟨_, w1, Pre, F, Post, hent, hex, h⟩
        · refine .inl ⟨v, h1.unput sx hdy f2, oy, hoy, hdy, .inl ⟨vy, hy.put sy hd f1 v, ?_⟩⟩
          rw [comm]; exact h2
        · refine .inr (.inl ⟨hf, c, T, mk, h1.unput sx hdy f2, fun b hb => ⟨oy, hoy, hdy, .inl ⟨vy, hy.put sy hd f1 _, ?_⟩⟩⟩)
          rw [comm]; exact h2 b hb
        · refine .inr (.inr ⟨rfl, by rw [wantE_put f2] at w1; exact w1, Pre, F, Post, hent, hex.unput sx hdy f2, fun v G hp1 hs1 => ⟨oy, hoy, hdy, .inl ⟨vy, hy.put sy hd f1 _, ?_⟩⟩⟩)
          rw [comm]; exact h v G hp1 hs1
      · exact (hkf.elim hne.2 hne.1).elim
      · exact (hne.1 hke).elim

theorem RX.front (hsel : ∀ (j : Nat) (o : Oper), ops[j]? = some o → NoSel o) {x : Nat} {kx : Kd} {ox : Oper} (hx : ops[x]? = some ox) {post : List Item} {K : Env → HProp → Prop}
    {pre : List Item} {D0 D : HProp} {e : Env} {H : HProp} (hp : Pass ops ox kx pre) (hb : kx = .s ∨ kx = .p ∨ hasBar pre = false)
    (h : RX P n ds ops D0 (pre ++ .op x kx :: post) D e H K) (ha : ∃ a, EnvOk n ds e a) (hs : SatAny (sep (sep D0 D) H)) :
    RX P n ds ops D0 (.op x kx :: (pre ++ post)) D e H K := by
  by_cases hk : kx = .e
  · subst hk
    exact RX.eff hsel hx pre e H hp ((hb.resolve_left (by simp)).resolve_left (by simp)) h
  · obtain ⟨hd, r, h1, h2, h3⟩ := RX.det hsel hx hk pre D e H hp hb h ha hs
    refine ⟨ox, hx, hd, ?_⟩
    cases r with
    | val v => exact .inl ⟨v, h2, h3⟩
    | new c T mk =>
      have hf : kx = .f := h1.resolve_right (by simp)
      subst hf
      exact .inr (.inl ⟨.inl rfl, c, T, mk, h2, h3⟩)

def allS : List Item → Bool
  | [] => true
  | .bar :: _ => false
  | .op _ k :: l => (k == .s || k == .p) && allS l
theorem RX.bar {D0 : HProp} {rest : List Item} {K : Env → HProp → Prop} : ∀ (pre : List Item) (D : HProp) (e : Env) (H : HProp), allS pre = true →
    RX P n ds ops D0 (pre ++ .bar :: rest) D e H K → RX P n ds ops D0 (.bar :: (pre ++ rest)) D e H K := by
  intro pre
  induction pre with
  | nil => intro D e H _ h; exact h
  | cons it pre ih =>
    intro D e H hs h
    cases it with
    | bar => simp [allS] at hs
    | op y ky =>
      simp [allS] at hs
      obtain ⟨hky, hs⟩ := hs
      obtain ⟨oy, hoy, hdy, h⟩ := h
      rcases h with ⟨vy, hy, h⟩ | ⟨hkf, _⟩ | ⟨hke, _⟩
      · obtain ⟨D', H', he, h⟩ := ih D _ H hs h
        have hDD : DD D0 D ky = DD D0 D' ky := by rcases hky with rfl | rfl <;> rfl
        exact ⟨D', H', he, oy, hoy, hdy, .inl ⟨vy, hDD ▸ hy, h⟩⟩
      · rcases hky with rfl | rfl <;> rcases hkf with q | q <;> cases q
      · rcases hky with rfl | rfl <;> cases hke
end
end Go.Sl
/- The engine, fourth part: from a region's told order to the machine's, drawn or not. -/
namespace Go.Sl
open Go

section
variable {P : Program} {n : Nat} {ds : List Deferred} {ops : Array Oper} {Q : Exit → Act → World → Prop}

theorem upon_ok {o : Oper} {a : Act} {Kn : Act → World → Prop} {post : Value → World → Prop} (h : ∀ v w', post v w' → Kn (a.put o.dst v) w')
    {r : Result Next} (q : ResOk P post r) : o.upon P a Kn Q r := by
  cases r with
  | ok x w =>
    cases x <;> first | exact h _ _ q | exact q.elim | skip
    rw [Oper.upon_enter]
    refine Calls.mono (show Calls P _ _ _ _ from q) ?_
    rintro e w' ⟨v, rfl, hv⟩
    exact h _ _ hv
  | halt x w => exact q.elim

theorem RX.step {x : Nat} {kx : Kd} {l : List Item} {D0 D : HProp} {e : Env} {H : HProp} {K : Env → HProp → Prop} {a : Act} {w : World} {R : HProp} {Kn : Act → World → Prop}
    (h : RX P n ds ops D0 (.op x kx :: l) D e H K) (ha : EnvOk n ds e a) (hs : Sat (sep (sep (sep D0 D) H) R) w)
    (hk : ∀ e1 H1 a1 w1, RX P n ds ops D0 l D e1 H1 K → EnvOk n ds e1 a1 → Sat (sep (sep (sep D0 D) H1) R) w1 → Kn a1 w1) : wpOp P ops Q x Kn a w := by
  obtain ⟨o, ho, hd, h⟩ := h
  unfold wpOp
  rw [ho]
  simp only
  rcases h with ⟨v, h1, h2⟩ | ⟨_, c, T, mk, ⟨hw, _, h1⟩, h2⟩ | ⟨_, hw, Pre, F, Post, hent, hex, h⟩
  · rcases h1 with ⟨hw, h1⟩ | ⟨hw, rfl⟩
    · rw [ha.wanted hw, if_pos rfl]
      refine .inl (upon_ok (post := fun v' w' => v' = v ∧ Sat (sep (sep (sep D0 D) H) R) w') ?_ ?_)
      · rintro v' w' ⟨rfl, q2⟩; exact hk _ _ _ _ h2 (ha.put _ hd _) q2
      · have main : ∀ X Y : HProp, sep (sep D0 D) H = sep X Y → (∀ a w R, EnvOk n ds e a → Sat (sep X R) w → ResV P v (Sat (sep X R)) ((execOp a.eval o).run P w)) →
            ResOk P (fun v' w' => v' = v ∧ Sat (sep (sep (sep D0 D) H) R) w') ((execOp a.eval o).run P w) := by
          intro X Y he hX
          rw [he] at hs ⊢
          have := hX a w (sep Y R) ha (by rw [← sep_assoc]; exact hs)
          rw [← sep_assoc] at this
          exact this.ok
        cases kx with
        | s => exact main emp _ (emp_sep _).symm h1
        | p => exact main D0 (sep D H) (sep_assoc _ _ _) h1
        | _ => exact main (sep D0 D) H rfl h1
    · rw [ha.wanted hw, if_neg (by simp)]
      exact hk _ _ _ _ h2 (ha.put _ hd _) hs
  · rw [ha.wanted hw, if_pos rfl]
    refine .inl ?_
    unfold Oper.wp
    rw [h1 a w ha, Oper.upon_value]
    have hs' := hs.new (o := .cells c T) (w' := { w with heap := w.heap.push (.cells c T) }) rfl (Side.push w c T)
    rw [← sep_assoc, sep_left] at hs'
    exact hk _ _ _ _ (h2 _ ⟨_, hs'.left⟩) (ha.put _ hd _) hs'
  · rw [ha.wanted hw, if_pos rfl]
    have hs1 : Sat (sep (sep (sep D0 D) Pre) (sep F R)) w := by
      rw [← sep_assoc, sep_assoc (sep D0 D) Pre F]
      exact hs.mono (Ent.sep (Ent.sep (Ent.refl _) hent) (Ent.refl _))
    refine .inl (upon_ok (fun v w' q => ?_) (hex a w _ ha hs1))
    obtain ⟨_, ⟨G, rfl, hp⟩, hs2⟩ := q
    rw [← sep_assoc, sep_assoc (sep D0 D) G F] at hs2
    exact hk _ _ _ _ (h v G hp ⟨_, hs2.left⟩) (ha.put _ hd _) hs2

def opsOf : List Item → List Nat
  | [] => []
  | .bar :: l => opsOf l
  | .op i _ :: l => i :: opsOf l
theorem opsOf_append (l l' : List Item) : opsOf (l ++ l') = opsOf l ++ opsOf l' := by
  induction l with
  | nil => rfl
  | cons x l ih => cases x <;> simp [opsOf, ih]

/-- One order, one after the other. -/
theorem RX.seq {K : Env → HProp → Prop} {D0 R : HProp} (hQ : ∀ e' H' a' w', K e' H' → EnvOk n ds e' a' → Sat (sep H' R) w' → Q .normal a' w') :
    ∀ (l : List Item) (D : HProp) (e : Env) (H : HProp) (a : Act) (w : World), RX P n ds ops D0 l D e H K → EnvOk n ds e a → Sat (sep (sep (sep D0 D) H) R) w →
      wpOps P ops Q (opsOf l) a w := by
  intro l
  induction l with
  | nil => intro D e H a w h ha hs; exact hQ _ _ _ _ h ha hs
  | cons it l ih =>
    intro D e H a w h ha hs
    cases it with
    | bar => obtain ⟨D', H', he, h⟩ := h; exact ih D' e H' a w h ha (hs.mono (Ent.sep (by rw [sep_assoc, sep_assoc]; exact Ent.sep (Ent.refl _) he) (Ent.refl _)))
    | op i k =>
      rw [opsOf, wpOps_cons]
      exact RX.step h ha hs fun e1 H1 a1 w1 q1 q2 q3 => ih D e1 H1 a1 w1 q1 q2 q3

/-- Is an operation bound to stand behind another one, at once? -/
def dir (ops : Array Oper) (x y : Nat) : Bool := match ops[x]? with
  | some o => o.after.any fun e => Region.binds .any e && e.on == y
  | none => false
/-- .. or through others; told as the bits of a number, one an operation. -/
def tpB (tp : List Nat) (x y : Nat) : Bool := (tp.getD x 0).testBit y
def okTp (ops : Array Oper) (tp : List Nat) : Bool :=
  (List.range ops.size).all fun x => (List.range ops.size).all fun y =>
    !tpB tp x y || dir ops x y || (List.range x).any fun k => dir ops x k && tpB tp k y
def okAfter (ops : Array Oper) (tp : List Nat) (y : Nat) (ky : Kd) : Bool → List Item → Bool
  | _, [] => true
  | _, .bar :: l => okAfter ops tp y ky true l
  | s, .op x kx :: l => (tpB tp x y || ((match ops[x]?, ops[y]? with | some ox, some oy => ox.apart ops oy | _, _ => false) && okPair kx ky s)) && okAfter ops tp y ky s l
def okOrder (ops : Array Oper) (tp : List Nat) : List Item → Bool
  | [] => true
  | .bar :: l => okOrder ops tp l
  | .op y ky :: l => okAfter ops tp y ky false l && okOrder ops tp l
def okLin (ops : Array Oper) : List Nat → List Item → Bool
  | _, [] => true
  | s, .bar :: l => okLin ops s l
  | s, .op x _ :: l => (match ops[x]? with | some o => o.after.all fun e => !Region.binds .any e || s.contains e.on | none => false) && okLin ops (x :: s) l
def nodupB : List Nat → Bool
  | [] => true
  | x :: l => !l.contains x && nodupB l
theorem nodupB_spec : ∀ {l : List Nat}, nodupB l = true → l.Nodup := by
  intro l
  induction l with
  | nil => intro _; exact List.nodup_nil
  | cons x l ih =>
    intro h
    simp only [nodupB, Bool.and_eq_true, Bool.not_eq_true'] at h
    exact List.nodup_cons.2 ⟨by simpa using h.1, ih h.2⟩
def okPerm (m : Nat) (l : List Nat) : Bool := l.length == m && (List.range m).all (l.contains ·) && l.all (· < m) && nodupB l
def netOk (ops : Array Oper) (tp : List Nat) (order : List Item) : Bool :=
  Region.noSelect ops && okTp ops tp && okOrder ops tp order && okLin ops [] order && okPerm ops.size (opsOf order)

theorem hasBar_append (l l' : List Item) : hasBar (l ++ l') = (hasBar l || hasBar l') := by
  induction l with
  | nil => rfl
  | cons x l ih => cases x <;> simp [hasBar, ih]

theorem okPair_weak {kx ky : Kd} {s : Bool} (h : okPair kx ky s = true) : okPair kx ky false = true := by
  cases s <;> cases kx <;> cases ky <;> first | exact h | rfl | cases h
theorem okAfter_weak {tp : List Nat} {y : Nat} {ky : Kd} : ∀ {l : List Item} {s : Bool}, okAfter ops tp y ky s l = true → okAfter ops tp y ky false l = true := by
  intro l
  induction l with
  | nil => intro s h; rfl
  | cons it l ih =>
    intro s h
    cases it with
    | bar => exact h
    | op x kx =>
      simp only [okAfter, Bool.and_eq_true, Bool.or_eq_true] at h ⊢
      exact ⟨h.1.imp id fun ⟨a, b⟩ => ⟨a, okPair_weak b⟩, ih h.2⟩
theorem okAfter_drop {tp : List Nat} {y : Nat} {ky : Kd} {it : Item} {post : List Item} : ∀ {pre : List Item} {s : Bool}, okAfter ops tp y ky s (pre ++ it :: post) = true →
    okAfter ops tp y ky s (pre ++ post) = true := by
  intro pre
  induction pre with
  | nil =>
    intro s h
    cases it with
    | bar => cases s; · exact okAfter_weak h
             · exact h
    | op x kx => simp only [List.nil_append, okAfter, Bool.and_eq_true] at h; exact h.2
  | cons jt pre ih =>
    intro s h
    cases jt with
    | bar => exact ih (s := true) h
    | op x kx =>
      simp only [List.cons_append, okAfter, Bool.and_eq_true] at h ⊢
      exact ⟨h.1, ih h.2⟩
theorem okOrder_drop {tp : List Nat} {it : Item} {post : List Item} : ∀ {pre : List Item}, okOrder ops tp (pre ++ it :: post) = true → okOrder ops tp (pre ++ post) = true := by
  intro pre
  induction pre with
  | nil =>
    intro h
    cases it with
    | bar => exact h
    | op x kx => simp only [List.nil_append, okOrder, Bool.and_eq_true] at h; exact h.2
  | cons jt pre ih =>
    intro h
    cases jt with
    | bar => exact ih h
    | op x kx =>
      simp only [List.cons_append, okOrder, Bool.and_eq_true] at h ⊢
      exact ⟨okAfter_drop h.1, ih h.2⟩
theorem okAfter_at {tp : List Nat} {y : Nat} {ky : Kd} {x : Nat} {kx : Kd} {post : List Item} : ∀ {pre : List Item} {s : Bool}, okAfter ops tp y ky s (pre ++ .op x kx :: post) = true →
    tpB tp x y = true ∨ ((match ops[x]?, ops[y]? with | some ox, some oy => ox.apart ops oy | _, _ => false) = true ∧ okPair kx ky (s || hasBar pre) = true) := by
  intro pre
  induction pre with
  | nil => intro s h; simp only [List.nil_append, okAfter, Bool.and_eq_true, Bool.or_eq_true] at h; simpa [hasBar] using h.1
  | cons jt pre ih =>
    intro s h
    cases jt with
    | bar => have := ih (s := true) h; simpa [hasBar] using this
    | op x' kx' => simp only [List.cons_append, okAfter, Bool.and_eq_true] at h; exact ih h.2

theorem okOrder_pass {tp : List Nat} {x : Nat} {kx : Kd} {ox : Oper} (hx : ops[x]? = some ox) {post : List Item} : ∀ {pre : List Item},
    okOrder ops tp (pre ++ .op x kx :: post) = true → (∀ y ∈ opsOf pre, tpB tp x y = false) → Pass ops ox kx pre := by
  intro pre
  induction pre with
  | nil => intro _ _; trivial
  | cons jt pre ih =>
    intro h hn
    cases jt with
    | bar => exact ih h hn
    | op y ky =>
      simp only [List.cons_append, okOrder, Bool.and_eq_true] at h
      have hy := hn y (by simp [opsOf])
      rcases okAfter_at h.1 with q | ⟨q1, q2⟩
      · rw [hy] at q; cases q
      · refine ⟨fun oy hoy => ?_, by simpa using q2, ih h.2 fun z hz => hn z (by simp [opsOf, hz])⟩
        rw [hx, hoy] at q1; exact q1

/-- Bars ahead of an x that isn't 's' go to the front: what is ahead of them is 's' alone. -/
theorem bars_front {x : Nat} {kx : Kd} {ox : Oper} (hk : kx ≠ .s) (hk2 : kx ≠ .p) {post : List Item} {K : Env → HProp → Prop} {D0 R : HProp} {e : Env} {w : World} {tp : List Nat} :
    ∀ (m : Nat) (pre : List Item) (D H : HProp), pre.length = m → Pass ops ox kx pre → okOrder ops tp (pre ++ .op x kx :: post) = true →
      RX P n ds ops D0 (pre ++ .op x kx :: post) D e H K → Sat (sep (sep (sep D0 D) H) R) w →
      ∃ pre' D' H', hasBar pre' = false ∧ opsOf pre' = opsOf pre ∧ Pass ops ox kx pre' ∧ okOrder ops tp (pre' ++ .op x kx :: post) = true ∧
        RX P n ds ops D0 (pre' ++ .op x kx :: post) D' e H' K ∧ Sat (sep (sep (sep D0 D') H') R) w := by
  intro m
  induction m with
  | zero =>
    intro pre D H hl hp ho h hs
    have : pre = [] := List.length_eq_zero_iff.1 hl
    subst this
    exact ⟨[], D, H, rfl, rfl, hp, ho, h, hs⟩
  | succ m ih =>
    intro pre D H hl hp ho h hs
    by_cases hb : hasBar pre = false
    · exact ⟨pre, D, H, hb, rfl, hp, ho, h, hs⟩
    · -- the first bar
      have split : ∀ l : List Item, hasBar l ≠ false → Pass ops ox kx l → ∃ l1 l2, l = l1 ++ .bar :: l2 ∧ allS l1 = true := by
        intro l
        induction l with
        | nil => intro q; simp [hasBar] at q
        | cons it l ihl =>
          intro q hp
          cases it with
          | bar => exact ⟨[], l, rfl, rfl⟩
          | op y ky =>
            have q' : hasBar l ≠ false := q
            obtain ⟨l1, l2, e1, e2⟩ := ihl q' hp.2.2
            have hky : ky = .s ∨ ky = .p := by
              have := hp.2.1
              rw [show hasBar l = true by simpa using q'] at this
              simp only [okPair, if_true, Bool.or_eq_true, beq_iff_eq] at this
              exact this.resolve_left (fun q => q.elim hk hk2)
            exact ⟨.op y ky :: l1, l2, by rw [e1]; rfl, by rcases hky with rfl | rfl <;> simp [allS, e2]⟩
      obtain ⟨l1, l2, rfl, h1⟩ := split pre hb hp
      rw [List.append_assoc, List.cons_append] at h ho
      obtain ⟨D', H', he, h⟩ := RX.bar l1 D e H h1 h
      rw [← List.append_assoc] at h
      have ho2 := okOrder_drop ho
      rw [← List.append_assoc] at ho2
      have pass2 : ∀ l : List Item, ∀ r, Pass ops ox kx (l ++ .bar :: r) → Pass ops ox kx (l ++ r) := by
        intro l
        induction l with
        | nil => intro r q; exact q
        | cons it l ihl =>
          intro r q
          cases it with
          | bar => exact ihl r q
          | op y ky =>
            refine ⟨q.1, ?_, ihl r q.2.2⟩
            have q2 : okPair kx ky (hasBar (l ++ .bar :: r)) = true := q.2.1
            cases hbb : hasBar (l ++ r) with
            | false => exact okPair_weak q2
            | true =>
              have : hasBar (l ++ .bar :: r) = true := by rw [hasBar_append]; simp [hasBar]
              rw [this] at q2; exact q2
      obtain ⟨pre', D2, H2, a1, a2, a3, a4, a5, a6⟩ := ih (l1 ++ l2) D' H' (by simp at hl ⊢; omega) (pass2 l1 l2 hp) ho2 h (hs.mono (Ent.sep (by rw [sep_assoc, sep_assoc]; exact Ent.sep (Ent.refl _) he) (Ent.refl _)))
      exact ⟨pre', D2, H2, a1, by rw [a2]; simp [opsOf_append, opsOf], a3, a4, a5, a6⟩

theorem apart_comm {x y : Oper} (h : x.apart ops y = true) : y.apart ops x = true := by
  obtain ⟨a, b, c⟩ := Oper.apart_spec h
  unfold Oper.apart
  rw [Bool.and_eq_true]
  constructor
  · cases hy : y.dst with
    | none => rfl
    | some d =>
      simp only [Bool.and_eq_true, Bool.not_eq_true', bne_iff_ne, ne_eq]
      refine ⟨by simpa using c d hy, fun q => b d q hy⟩
  · cases hx : x.dst with
    | none => rfl
    | some d => simpa using a d hx

def Closed (ops : Array Oper) (listed : Array Bool) : Prop := ∀ j o, listed.getD j false = true → ops[j]? = some o → ∀ e ∈ o.after, Region.binds .any e = true → listed.getD e.on false = true
theorem dir_listed {listed : Array Bool} {x y : Nat} {o : Oper} (hx : ops[x]? = some o) (h : ∀ e ∈ o.after, Region.binds .any e = true → listed.getD e.on false = true)
    (hd : dir ops x y = true) : listed.getD y false = true := by
  unfold dir at hd
  rw [hx] at hd
  simp only [Array.any_eq_true', Bool.and_eq_true, beq_iff_eq] at hd
  obtain ⟨e, he, hb, rfl⟩ := hd
  exact h e he hb
theorem tp_listed {tp : List Nat} (hT : okTp ops tp = true) {listed : Array Bool} (hc : Closed ops listed) : ∀ (m x : Nat), x ≤ m → ∀ o, ops[x]? = some o →
    (∀ e ∈ o.after, Region.binds .any e = true → listed.getD e.on false = true) → ∀ y, y < ops.size → tpB tp x y = true → listed.getD y false = true := by
  intro m
  induction m with
  | zero =>
    intro x hx o ho h y hy ht
    have hxs : x < ops.size := (Array.getElem?_eq_some_iff.1 ho).1
    have := List.all_eq_true.1 (List.all_eq_true.1 hT x (List.mem_range.2 hxs)) y (List.mem_range.2 hy)
    simp only [Bool.or_eq_true, Bool.not_eq_true', ht, Bool.true_eq_false, false_or] at this
    rcases this with q | q
    · exact dir_listed ho h q
    · obtain ⟨k, hk, _⟩ := List.any_eq_true.1 q
      have := List.mem_range.1 hk
      omega
  | succ m ih =>
    intro x hx o ho h y hy ht
    have hxs : x < ops.size := (Array.getElem?_eq_some_iff.1 ho).1
    have := List.all_eq_true.1 (List.all_eq_true.1 hT x (List.mem_range.2 hxs)) y (List.mem_range.2 hy)
    simp only [Bool.or_eq_true, Bool.not_eq_true', ht, Bool.true_eq_false, false_or] at this
    rcases this with q | q
    · exact dir_listed ho h q
    · obtain ⟨k, hk, hq⟩ := List.any_eq_true.1 q
      have hkx := List.mem_range.1 hk
      rw [Bool.and_eq_true] at hq
      have hkl := dir_listed ho h hq.1
      have hks : k < ops.size := by omega
      obtain ⟨ok, hok⟩ : ∃ o, ops[k]? = some o := ⟨ops[k], Array.getElem?_eq_getElem hks⟩
      exact ih k (by omega) ok hok (hc k ok hkl hok) y hy hq.2

theorem mem_split {x : Nat} : ∀ {l : List Item}, x ∈ opsOf l → ∃ pre k post, l = pre ++ .op x k :: post ∧ x ∉ opsOf pre := by
  intro l
  induction l with
  | nil => intro h; simp [opsOf] at h
  | cons it l ih =>
    intro h
    cases it with
    | bar => obtain ⟨pre, k, post, e, h'⟩ := ih h; exact ⟨.bar :: pre, k, post, by rw [e]; rfl, h'⟩
    | op y k =>
      by_cases q : x = y
      · subst q; exact ⟨[], k, l, rfl, by simp [opsOf]⟩
      · have : x ∈ opsOf l := by simp [opsOf, q] at h; exact h
        obtain ⟨pre, k', post, e, h'⟩ := ih this
        exact ⟨.op y k :: pre, k', post, by rw [e]; rfl, by simp [opsOf, q, h']⟩

/-- Direct predecessors are listed, or stand ahead. -/
def Lin (ops : Array Oper) (listed : Array Bool) (l : List Item) : Prop :=
  ∀ pre x k post, l = pre ++ .op x k :: post → ∀ o, ops[x]? = some o → ∀ e ∈ o.after, Region.binds .any e = true → listed.getD e.on false = true ∨ e.on ∈ opsOf pre

theorem okLin_lin : ∀ {l : List Item} {s : List Nat}, okLin ops s l = true → ∀ pre x k post, l = pre ++ .op x k :: post → ∀ o, ops[x]? = some o → ∀ e ∈ o.after,
    Region.binds .any e = true → e.on ∈ s ∨ e.on ∈ opsOf pre := by
  intro l
  induction l with
  | nil => intro s _ pre x k post h; cases pre <;> cases h
  | cons it l ih =>
    intro s h pre x k post hl o ho e he hb
    cases pre with
    | nil =>
      cases hl
      simp only [okLin, Bool.and_eq_true, ho] at h
      have := Array.all_eq_true_iff_forall_mem.1 h.1 e he
      rw [hb] at this
      left; simpa using this
    | cons jt pre =>
      rw [List.cons_append] at hl
      injection hl with h1 h2
      subst h1
      cases it with
      | bar => exact ih h pre x k post h2 o ho e he hb
      | op y ky =>
        simp only [okLin, Bool.and_eq_true] at h
        rcases ih h.2 pre x k post h2 o ho e he hb with q | q
        · rcases List.mem_cons.1 q with q | q
          · right; simp [opsOf, q]
          · exact .inl q
        · right; simp [opsOf, q]

theorem net_any {tp : List Nat} {K : Env → HProp → Prop} {D0 R : HProp} (hsel : ∀ (j : Nat) (o : Oper), ops[j]? = some o → NoSel o) (hT : okTp ops tp = true)
    (hQ : ∀ e' H' a' w', K e' H' → EnvOk n ds e' a' → Sat (sep H' R) w' → Q .normal a' w') :
    ∀ (fuel : Nat) (l : List Item) (listed : Array Bool) (D : HProp) (e : Env) (H : HProp) (a : Act) (w : World),
      (opsOf l).length = fuel → (opsOf l).Nodup → (∀ i, i ∈ opsOf l ↔ i < ops.size ∧ listed.getD i true = false) → listed.size = ops.size →
      Closed ops listed → okOrder ops tp l = true → Lin ops listed l →
      RX P n ds ops D0 l D e H K → EnvOk n ds e a → Sat (sep (sep (sep D0 D) H) R) w → wpAny P .any ops Q fuel listed a w := by
  have bars : ∀ (l : List Item) (D : HProp) (e : Env) (H : HProp) (a : Act) (w : World), opsOf l = [] → RX P n ds ops D0 l D e H K → EnvOk n ds e a → Sat (sep (sep (sep D0 D) H) R) w → Q .normal a w := by
    intro l
    induction l with
    | nil => intro D e H a w _ h ha hs; exact hQ _ _ _ _ h ha hs
    | cons it l ih =>
      intro D e H a w hl h ha hs
      cases it with
      | bar => obtain ⟨D', H', he, h⟩ := h; exact ih D' e H' a w hl h ha (hs.mono (Ent.sep (by rw [sep_assoc, sep_assoc]; exact Ent.sep (Ent.refl _) he) (Ent.refl _)))
      | op => cases hl
  intro fuel
  induction fuel with
  | zero =>
    intro l listed D e H a w hlen hnd hiff hsz hc ho hlin h ha hs
    have hl : opsOf l = [] := List.length_eq_zero_iff.1 hlen
    refine ⟨?_, bars l D e H a w hl h ha hs⟩
    apply List.eq_nil_iff_forall_not_mem.2
    intro j hj
    obtain ⟨q1, o, q2, _⟩ := mem_ready.1 hj
    have := (hiff j).2 ⟨(Array.getElem?_eq_some_iff.1 q2).1, q1⟩
    rw [hl] at this; cases this
  | succ fuel ih =>
    intro l listed D e H a w hlen hnd hiff hsz hc ho hlin h ha hs
    have unl : ∀ {i : Nat}, i ∈ opsOf l → listed.getD i false = false := by
      intro i hi
      have := ((hiff i).1 hi)
      have hlt : i < listed.size := by rw [hsz]; exact this.1
      simp [Array.getD, hlt] at this ⊢; exact this.2
    refine ⟨fun hr => ?_, fun x hx => ?_⟩
    · exfalso
      obtain ⟨x, hxl⟩ : ∃ x, (opsOf l).head? = some x := by
        cases q : opsOf l with
        | nil => rw [q] at hlen; cases hlen
        | cons x _ => exact ⟨x, rfl⟩
      have hxm : x ∈ opsOf l := List.mem_of_head? hxl
      obtain ⟨pre, k, post, e1, hn⟩ := mem_split hxm
      have hpre : opsOf pre = [] := by
        rw [e1, opsOf_append] at hxl
        cases q : opsOf pre with
        | nil => rfl
        | cons y ys => rw [q] at hxl; simp at hxl; subst hxl; rw [q] at hn; simp at hn
      have hxs := (hiff x).1 hxm
      have : x ∈ Region.ready .any ops listed := mem_ready.2 ⟨hxs.2, ops[x]'hxs.1, Array.getElem?_eq_getElem hxs.1, fun e' he hb => by
        rcases hlin pre x k post e1 _ (Array.getElem?_eq_getElem hxs.1) e' he hb with q | q
        · exact q
        · rw [hpre] at q; cases q⟩
      rw [hr] at this; cases this
    · obtain ⟨q1, ox, hox, hpreds⟩ := mem_ready.1 hx
      have hxs : x < ops.size := (Array.getElem?_eq_some_iff.1 hox).1
      have hxm : x ∈ opsOf l := (hiff x).2 ⟨hxs, q1⟩
      obtain ⟨pre, k, post, rfl, hn⟩ := mem_split hxm
      have hfree : ∀ y ∈ opsOf pre, tpB tp x y = false := by
        intro y hy
        have hym : y ∈ opsOf (pre ++ .op x k :: post) := by rw [opsOf_append]; exact List.mem_append_left _ hy
        cases q : tpB tp x y with
        | false => rfl
        | true =>
          have := tp_listed hT hc x x (Nat.le_refl _) ox hox hpreds y ((hiff y).1 hym).1 q
          rw [unl hym] at this; cases this
      have hpass := okOrder_pass hox ho hfree
      -- the order without x, and what holds there
      have next : ∀ (pre' : List Item) (D' : HProp), opsOf pre' = opsOf pre → okOrder ops tp (pre' ++ .op x k :: post) = true →
          ∀ e1 H1 a1 w1, RX P n ds ops D0 (pre' ++ post) D' e1 H1 K → EnvOk n ds e1 a1 → Sat (sep (sep (sep D0 D') H1) R) w1 →
          wpAny P .any ops Q fuel (listed.setIfInBounds x true) a1 w1 := by
        intro pre' D' hop ho' e1 H1 a1 w1 r1 r2 r3
        have hops : opsOf (pre ++ .op x k :: post) = opsOf pre ++ x :: opsOf post := by rw [opsOf_append]; rfl
        have hops' : opsOf (pre' ++ post) = opsOf pre ++ opsOf post := by rw [opsOf_append, hop]
        rw [hops] at hlen hnd
        have hnd' := List.nodup_append.1 hnd
        have hxpost : x ∉ opsOf post := (List.nodup_cons.1 hnd'.2.1).1
        have hgx : ∀ i, i ≠ x → ∀ d, (listed.setIfInBounds x true).getD i d = listed.getD i d := fun i hi d => getD_set_ne d (Ne.symm hi)
        have hgx' : ∀ d, (listed.setIfInBounds x true).getD x d = true := fun d => by simp [Array.getD, hsz, hxs]
        refine ih (pre' ++ post) _ D' e1 H1 a1 w1 ?_ ?_ ?_ (by simp [hsz]) ?_ (okOrder_drop ho') ?_ r1 r2 r3
        · rw [hops']; simp at hlen ⊢; omega
        · rw [hops']
          refine List.nodup_append.2 ⟨hnd'.1, (List.nodup_cons.1 hnd'.2.1).2, fun y hy z hz => ?_⟩
          exact hnd'.2.2 y hy z (List.mem_cons_of_mem _ hz)
        · intro i
          rw [hops']
          by_cases q : i = x
          · subst q
            rw [hgx']
            simp only [Bool.true_eq_false, and_false, iff_false, List.mem_append, not_or]
            exact ⟨hn, hxpost⟩
          · rw [hgx i q, ← hiff i, hops]; simp [q]
        · intro j o hj hoj e' he hb
          have mono : ∀ y, listed.getD y false = true → (listed.setIfInBounds x true).getD y false = true := fun y hy => getD_set_true hy
          by_cases q : j = x
          · subst q; rw [hox] at hoj; cases hoj; exact mono _ (hpreds e' he hb)
          · rw [hgx j q] at hj; exact mono _ (hc j o hj hoj e' he hb)
        · -- linear still
          intro p1 z kz p2 hz o hoz e' he hb
          have mono : ∀ y, listed.getD y false = true → (listed.setIfInBounds x true).getD y false = true := fun y hy => getD_set_true hy
          -- where z stands in the order with x
          have hzm : z ∈ opsOf (pre ++ .op x k :: post) := by
            have : z ∈ opsOf (pre' ++ post) := by rw [hz, opsOf_append]; simp [opsOf]
            rw [hops'] at this; rw [hops]; simp at this ⊢; rcases this with q | q <;> simp [q]
          have hzx : z ≠ x := by
            intro q; subst q
            have : z ∈ opsOf (pre' ++ post) := by rw [hz, opsOf_append]; simp [opsOf]
            rw [hops'] at this; simp at this; rcases this with q | q
            · exact hn q
            · exact hxpost q
          obtain ⟨p1', kz', p2', hsp, hzn⟩ := mem_split hzm
          rcases hlin p1' z kz' p2' hsp o hoz e' he hb with q | q
          · exact .inl (mono _ q)
          · by_cases qx : e'.on = x
            · left; rw [qx]; exact hgx' false
            · right
              -- opsOf p1 is opsOf p1' without x
              have e1 : opsOf pre ++ x :: opsOf post = opsOf p1' ++ z :: opsOf p2' := by rw [← hops, hsp, opsOf_append]; rfl
              have e2 : opsOf pre ++ opsOf post = opsOf p1 ++ z :: opsOf p2 := by rw [← hops', hz, opsOf_append]; rfl
              have er := congrArg (fun l => l.filter (· ≠ x)) e1
              have hf : ∀ l : List Nat, x ∉ l → l.filter (· ≠ x) = l := fun l hl => List.filter_eq_self.2 fun y hy => by
                simp only [ne_eq, decide_not, Bool.not_eq_true', decide_eq_false_iff_not]; intro q; subst q; exact hl hy
              simp only [List.filter_append, List.filter_cons, ne_eq, not_true_eq_false, decide_false, Bool.false_eq_true, if_false, hzx, not_false_eq_true, decide_true, if_true] at er
              have er2 : opsOf pre ++ opsOf post = (opsOf p1').filter (· ≠ x) ++ z :: (opsOf p2').filter (· ≠ x) := by
                rw [← hf _ hn, ← hf _ hxpost]; exact er
              rw [e2] at er2
              have nd2 : (opsOf p1 ++ z :: opsOf p2).Nodup := by
                rw [← e2]
                exact List.nodup_append.2 ⟨hnd'.1, (List.nodup_cons.1 hnd'.2.1).2, fun y hy z hz => hnd'.2.2 y hy z (List.mem_cons_of_mem _ hz)⟩
              have uniq : ∀ (A B C E : List Nat), (A ++ z :: B).Nodup → A ++ z :: B = C ++ z :: E → A = C := by
                intro A
                induction A with
                | nil =>
                  intro B C E nd q
                  cases C with
                  | nil => rfl
                  | cons c C =>
                    rw [List.nil_append, List.cons_append] at q
                    injection q with q1 q2
                    rw [List.nil_append, List.nodup_cons] at nd
                    exact (nd.1 (by rw [q2]; simp)).elim
                | cons a A ihA =>
                  intro B C E nd q
                  cases C with
                  | nil =>
                    rw [List.nil_append, List.cons_append] at q
                    injection q with q1 q2
                    rw [List.cons_append, List.nodup_cons] at nd
                    exact (nd.1 (by rw [q1]; simp)).elim
                  | cons c C =>
                    rw [List.cons_append, List.cons_append] at q
                    injection q with q1 q2
                    rw [List.cons_append, List.nodup_cons] at nd
                    rw [q1, ihA B C E nd.2 q2]
              rw [uniq _ _ _ _ nd2 er2]
              exact List.mem_filter.2 ⟨q, by simpa using qx⟩
      by_cases hk : k = .s
      · have hfront := RX.front hsel hox hpass (.inl hk) h ⟨a, ha⟩ ⟨w, hs.left⟩
        exact RX.step hfront ha hs (next pre D rfl ho)
      by_cases hk2 : k = .p
      · have hfront := RX.front hsel hox hpass (.inr (.inl hk2)) h ⟨a, ha⟩ ⟨w, hs.left⟩
        exact RX.step hfront ha hs (next pre D rfl ho)
      · obtain ⟨pre', D', H', b1, b2, b3, b4, b5, b6⟩ := bars_front hk hk2 pre.length pre D H rfl hpass ho h hs
        have hfront := RX.front hsel hox b3 (.inr (.inr b1)) b5 ⟨a, ha⟩ ⟨w, b6.left⟩
        exact RX.step hfront ha b6 (next pre' D' b2 b4)
end
end Go.Sl
/- The engine, fifth part: code, calls, and what a function is said to do ('Spec'). -/
namespace Go.Sl
open Go

section
variable (P : Program) (n : Nat) (ds : List Deferred)

/-- Code, begun with such temporaries and such a heap, comes to an end of which K holds. -/
def SW (c : Code) (e : Env) (H : HProp) (K : Exit → Env → HProp → Prop) : Prop :=
  ∀ a w R, EnvOk n ds e a → Sat (sep H R) w → ∀ Q : Exit → Act → World → Prop,
    (∀ x e' a' w' H', K x e' H' → EnvOk n ds e' a' → Sat (sep H' R) w' → Q x a' w') → c.wp P Q a w

/-- A function, called with these, takes 'Pre' and returns what 'Post' tells; all else stays. -/
def Spec (f : FuncId) (args : Array Value) (Pre : List HProp) (Post : Value → List HProp → Prop) : Prop :=
  ∀ R w, Sat (sep (star Pre) R) w → Calls P f args w fun e w' => ∃ v H, e = .returned v ∧ Post v H ∧ Sat (sep (star H) R) w'
end

/-- What is held may be told so; some may be let go. -/
def EntS (p q : HProp) : Prop := ∀ R w, Sat (sep p R) w → Sat (sep q R) w
theorem EntS.refl (p : HProp) : EntS p p := fun _ _ h => h
theorem EntS.of_ent {p q : HProp} (h : Ent p q) : EntS p q := fun _ _ s => s.mono (Ent.sep h (Ent.refl _))
theorem EntS.trans {p q r : HProp} (a : EntS p q) (b : EntS q r) : EntS p r := fun R w h => b R w (a R w h)
theorem EntS.drop (p q : HProp) : EntS (sep p q) p := fun R w h => by rw [sep_assoc, sep_left] at h; exact h.right
theorem EntS.sep {p p' q q' : HProp} (a : EntS p p') (b : EntS q q') : EntS (sep p q) (sep p' q') := fun R w h => by
  rw [sep_assoc] at h
  have h := a _ _ h
  rw [sep_left] at h
  have h := b _ _ h
  rw [sep_left, ← sep_assoc] at h
  exact h
theorem EntS.take {l ps r : List HProp} (h : Take l ps r) : EntS (star l) (star ps) := by rw [h.eq]; exact EntS.drop _ _
/-- A list of things held, told as another one. -/
def EntL (l l' : List HProp) : Prop := EntS (star l) (star l')
theorem EntL.ent {l l' : List HProp} (h : EntL l l') : EntS (star l) (star l') := h
theorem EntL.nil {l : List HProp} : EntL l [] := fun R w s => by rw [show star [] = emp from rfl, emp_sep]; exact s.right
theorem EntL.cons {l ps r l' : List HProp} {p : HProp} (h1 : Take l ps r) (h2 : EntS (star ps) p) (h3 : EntL r l') : EntL l (p :: l') := by
  unfold EntL; rw [h1.eq]; exact EntS.sep h2 h3
theorem EntL.one {l r l' : List HProp} {p : HProp} (h : Take1 l p r) (h' : EntL r l') : EntL l (p :: l') := .cons (.cons h .nil) (by rw [star_one]; exact EntS.refl _) h'
theorem EntL.trans {l l' l'' : List HProp} (h : EntL l l') (h' : EntL l' l'') : EntL l l'' := EntS.trans h h'
theorem EntL.fold {l ps l' : List HProp} {p : HProp} (h : EntL l (ps ++ l')) (hp : EntS (star ps) p) : EntL l (p :: l') := fun R w hs => by
  have h1 := h R w hs
  rw [star_append] at h1
  exact EntS.sep hp (EntS.refl _) R w h1

def thenK (N : Env → HProp → Prop) (K : Exit → Env → HProp → Prop) : Exit → Env → HProp → Prop
  | .normal, e, H => N e H
  | x, e, H => K x e H
def blockK (id : Nat) (K : Exit → Env → HProp → Prop) : Exit → Env → HProp → Prop
  | .exit i, e, H => bif i == id then K .normal e H else K (.exit i) e H
  | x, e, H => K x e H

section
variable {P : Program} {n : Nat} {ds : List Deferred} {e : Env} {H : HProp} {K : Exit → Env → HProp → Prop}

theorem SW.seq {x y : Code} (h : SW P n ds x e H (thenK (fun e' H' => SW P n ds y e' H' K) K)) : SW P n ds (.seq x y) e H K := by
  intro a w R ha hs Q hq
  refine wp_seq (h a w R ha hs _ fun x' e' a' w' H' hk ha' hs' => ?_)
  cases x' with
  | normal => exact hk a' w' R ha' hs' Q hq
  | _ => exact hq _ _ _ _ _ hk ha' hs'
theorem SW.cond {c : Operand} {x y : Code} {b : Bool} (hc : ov e c = some (.bool b)) (ht : b = true → SW P n ds x e H K) (hf : b = false → SW P n ds y e H K) :
    SW P n ds (.cond c x y) e H K := by
  intro a w R ha hs Q hq
  refine wp_cond_split (ha.eval hc) (fun h => ht h a w R ha hs Q hq) (fun h => hf h a w R ha hs Q hq)
theorem SW.block {id : Nat} {c : Code} (h : SW P n ds c e H (blockK id K)) : SW P n ds (.block id c) e H K := by
  intro a w R ha hs Q hq
  refine wp_block (h a w R ha hs _ fun x' e' a' w' H' hk ha' hs' => ?_)
  cases x' with
  | exit i =>
    simp only [Exit.inBlock]
    simp only [blockK] at hk
    by_cases q : i = id
    · subst q; simp at hk; simp only [if_true]; exact hq _ _ _ _ _ hk ha' hs'
    · have : (i == id) = false := by simpa using q
      rw [this] at hk
      rw [if_neg q]; exact hq _ _ _ _ _ hk ha' hs'
  | _ => exact hq _ _ _ _ _ hk ha' hs'
theorem SW.skip (h : K .normal e H) : SW P n ds .skip e H K := fun _ _ _ ha hs _ hq => wp_skip (hq _ _ _ _ _ h ha hs)
theorem SW.ret (h : K .ret e H) : SW P n ds .ret e H K := fun _ _ _ ha hs _ hq => wp_ret (hq _ _ _ _ _ h ha hs)
theorem SW.exit {i : Nat} (h : K (.exit i) e H) : SW P n ds (.exit i) e H K := fun _ _ _ ha hs _ hq => wp_exit (hq _ _ _ _ _ h ha hs)
theorem SW.label {i : Nat} (h : K .normal e H) : SW P n ds (.label i) e H K := fun _ _ _ ha hs _ hq => wp_label (hq _ _ _ _ _ h ha hs)

theorem wp_loop_n {c : Code} {Q : Exit → Act → World → Prop} (I : Nat → Act → World → Prop)
    (round : ∀ m a w, I m a w → c.wp P (Exit.then (fun a' w' => ∃ m', m' < m ∧ I m' a' w') Q) a w) {m : Nat} {a : Act} {w : World} (h₀ : I m a w) : (Code.loop c).wp P Q a w := by
  intro b k cs
  have key : ∀ m a w, I m a w → ∃ e a' w', Q e a' w' ∧ Arrives P (lone (b.at a (.code c :: .inLoop c :: k)) cs w) b k cs e a' w' := by
    intro m
    induction m using Nat.strongRecOn with
    | _ m ih =>
      intro a w hI
      obtain ⟨e, a₁, w₁, hq, harr⟩ := round m a w hI b (.inLoop c :: k) cs
      cases e with
      | normal =>
        obtain ⟨m', hlt, hI₁⟩ := hq
        obtain ⟨e₂, a₂, w₂, hq₂, harr₂⟩ := ih m' hlt a₁ w₁ hI₁
        exact ⟨e₂, a₂, w₂, hq₂, .of_steps (Steps.trans harr (.one step_inLoop)) harr₂⟩
      | exit id => exact ⟨_, a₁, w₁, hq, .pass (x := .inLoop c) rfl (fun _ _ => .inl (by simp)) harr⟩
      | goto l => exact ⟨_, a₁, w₁, hq, .pass (x := .inLoop c) rfl (fun _ _ => .inl (by simp)) harr⟩
      | ret => exact ⟨_, a₁, w₁, hq, .pass (x := .inLoop c) rfl (fun _ _ => .inl (by simp)) harr⟩
      | panic ch => exact ⟨_, a₁, w₁, hq, .pass (x := .inLoop c) rfl (fun _ _ => .inl (by simp)) harr⟩
      | outgrown => exact ⟨_, a₁, w₁, hq, .pass (x := .inLoop c) rfl (fun _ _ => .inl (by simp)) harr⟩
  obtain ⟨e, a', w', hq, harr⟩ := key m a w h₀
  exact ⟨e, a', w', hq, .of_steps (.one step_loop) harr⟩

theorem SW.loop {c : Code} (I : Nat → Env → HProp → Prop) (m : Nat) (h0 : I m e H)
    (round : ∀ m e H, I m e H → SW P n ds c e H (thenK (fun e' H' => ∃ m', m' < m ∧ I m' e' H') K)) : SW P n ds (.loop c) e H K := by
  intro a w R ha hs Q hq
  refine wp_loop_n (I := fun m a w => ∃ e H, I m e H ∧ EnvOk n ds e a ∧ Sat (sep H R) w) (fun m a w hI => ?_) ⟨e, H, h0, ha, hs⟩
  obtain ⟨e1, H1, h1, ha1, hs1⟩ := hI
  refine round m e1 H1 h1 a w R ha1 hs1 _ fun x' e' a' w' H' hk ha' hs' => ?_
  cases x' with
  | normal => obtain ⟨m', hm, hI'⟩ := hk; exact ⟨m', hm, e', H', hI', ha', hs'⟩
  | _ => exact hq _ _ _ _ _ hk ha' hs'

/-- To know less. -/
def EnvLe (e' e : Env) : Prop := ∀ i v, e' i = some v → e i = some v
def noEnv : Env := fun _ => none
theorem EnvLe.nil : EnvLe noEnv e := fun i v h => by cases h
theorem EnvLe.cons {e' : Env} {k : Nat} {v : Value} (h : EnvLe e' e) (hv : e k = some v) : EnvLe (upd e' k v) e := fun i u hu => by
  by_cases q : k = i
  · subst q; rw [upd_same] at hu; cases hu; exact hv
  · rw [upd_ne _ _ q] at hu; exact h i u hu
theorem EnvLe.refl : EnvLe e e := fun _ _ h => h
theorem EnvOk.le {e' : Env} {a : Act} (h : EnvOk n ds e a) (hl : EnvLe e' e) : EnvOk n ds e' a := ⟨h.size, fun i v q => h.get i v (hl i v q), h.defers⟩
theorem SW.weak {c : Code} {e' : Env} {H' : HProp} (he : EnvLe e' e) (hh : EntS H H') (h : SW P n ds c e' H' K) : SW P n ds c e H K :=
  fun a w R ha hs Q hq => h a w R (ha.le he) (hh R w hs) Q hq
theorem SW.mono {c : Code} {K' : Exit → Env → HProp → Prop} (hk : ∀ x e H, K x e H → K' x e H) (h : SW P n ds c e H K) : SW P n ds c e H K' :=
  fun a w R ha hs Q hq => h a w R ha hs Q fun x e' a' w' H' q => hq x e' a' w' H' (hk _ _ _ q)
theorem SW.ex {α : Type} {p : α → HProp} {c : Code} (h : ∀ x, SW P n ds c e (p x) K) : SW P n ds c e (fun g => ∃ x, p x g) K := by
  intro a w R ha hs Q hq
  obtain ⟨g, ⟨f, k, d, e1, ⟨x, hx⟩, r⟩, z⟩ := hs
  exact h x a w R ha ⟨g, ⟨f, k, d, e1, hx, r⟩, z⟩ Q hq

/-- A region that is not drawn. -/
theorem SW.region {id : Nat} {ops : Array Oper} {l : List Item} (hl : opsOf l = List.range ops.size)
    (h : RX P n ds ops emp l emp e H (fun e' H' => K .normal e' H')) : SW P n ds (.region id ops false) e H K := by
  intro a w R ha hs Q hq
  refine wp_region ?_
  rw [← hl]
  exact RX.seq (D0 := emp) (R := R) (fun e' H' a' w' hk ha' hs' => hq _ _ _ _ _ hk ha' hs') l emp e H a w h ha (by rw [emp_sep, emp_sep]; exact hs)
/-- A region that is drawn. -/
theorem SW.draw (hm : P.follows .mixedOrders = true) {id : Nat} {ops : Array Oper} {tp : List Nat} {l : List Item} (hnet : netOk ops tp l = true) {D0 D H' : HProp} (hent : Ent H (sep (sep D0 D) H'))
    (h : RX P n ds ops D0 l D e H' (fun e' H' => K .normal e' H')) : SW P n ds (.region id ops true) e H K := by
  intro a w R ha hs Q hq
  simp only [netOk, Bool.and_eq_true] at hnet
  obtain ⟨⟨⟨⟨h1, h2⟩, h3⟩, h4⟩, h5⟩ := hnet
  simp only [okPerm, Bool.and_eq_true, beq_iff_eq, List.all_eq_true, decide_eq_true_eq] at h5
  obtain ⟨⟨⟨hlen, hin⟩, hlt⟩, hndb⟩ := h5
  have hmem : ∀ i, i ∈ opsOf l ↔ i < ops.size := fun i => ⟨fun q => hlt i q, fun q => by have := hin i (List.mem_range.2 q); simpa using this⟩
  have hnd : (opsOf l).Nodup := nodupB_spec hndb
  refine wp_region_any hm ?_
  refine net_any (D0 := D0) (R := R) (fun j o ho cs b => Region.noSelect_spec h1 j o cs b ho) h2 (fun e' H' a' w' hk ha' hs' => hq _ _ _ _ _ hk ha' hs') ops.size l _ D e H' a _ hlen hnd ?_ (by simp) ?_ h3 ?_ h ha ?_
  · intro i
    rw [hmem i]
    constructor
    · intro q; exact ⟨q, by simp [Array.getD, q]⟩
    · exact fun q => q.1
  · intro j o hj
    exfalso
    rw [show (Array.replicate ops.size false).getD j false = false by simp only [Array.getD]; split <;> simp] at hj
    cases hj
  · intro pre x k post hl o ho e' he hb
    rcases okLin_lin h4 pre x k post hl o ho e' he hb with q | q
    · cases q
    · exact .inr q
  · have := hs.mono (Ent.sep hent (Ent.refl _))
    exact Sat.heap (w := w) rfl this rfl

/-- The temporaries at a function's begin. -/
def envOf : List Value → Nat → Env
  | [], _ => noEnv
  | v :: l, k => upd (envOf l (k + 1)) k v
theorem envOf_get : ∀ (l : List Value) (k i : Nat) (v : Value), envOf l k i = some v → k ≤ i ∧ l[i - k]? = some v := by
  intro l
  induction l with
  | nil => intro k i v h; cases h
  | cons u l ih =>
    intro k i v h
    by_cases q : k = i
    · subst q
      rw [show envOf (u :: l) k = upd (envOf l (k + 1)) k u from rfl, upd_same] at h
      cases h; exact ⟨Nat.le_refl _, by simp⟩
    · rw [show envOf (u :: l) k = upd (envOf l (k + 1)) k u from rfl, upd_ne _ _ q] at h
      obtain ⟨a, b⟩ := ih _ _ _ h
      refine ⟨by omega, ?_⟩
      rw [show i - k = (i - (k + 1)) + 1 by omega]; simpa using b

/-- What a function's results are, at its end. -/
def ResIs (P : Program) (n : Nat) (ds : List Deferred) (fn : Func) (e : Env) (H : HProp) (v : Value) : Prop :=
  ∀ a w R, EnvOk n ds e a → Sat (sep H R) w → (results fn a.tmps).run P w = .ok v w
def retK (P : Program) (n : Nat) (fn : Func) (Post : Value → List HProp → Prop) : Exit → Env → HProp → Prop
  | .normal, e, H | .ret, e, H => ∃ v l, ResIs P n [] fn e H v ∧ Post v l ∧ EntS H (star l)
  | _, _, _ => False

theorem Spec.enter {f : FuncId} {fn : Func} {c : Code} {args : List Value} {Pre : List HProp} {Post : Value → List HProp → Prop} (hf : P.funcs[f]? = some fn) (hb : fn.body = some c)
    (hn : fn.ntmps = n) (hsz : Nat.ble args.length n = true) (h : SW P n [] c (envOf args 0) (star Pre) (retK P n fn Post)) : Spec P f args.toArray Pre Post := by
  intro R w hs
  refine calls_of_wp hf hb ?_
  have hsz' : args.length ≤ n := Nat.le_of_ble_eq_true hsz
  refine h _ w R ⟨?_, fun i v hi => ?_, rfl⟩ hs _ ?_
  · simp [hn]; omega
  · obtain ⟨_, q⟩ := envOf_get _ _ _ _ hi
    rw [Nat.sub_zero] at q
    have hlt : i < args.length := (List.getElem?_eq_some_iff.1 q).1
    rw [Array.getElem?_append_left (by simpa using hlt)]
    simpa using q
  · intro x e' a' w' H' hk ha' hs'
    cases x with
    | normal =>
      obtain ⟨v, l, h1, h2, h3⟩ := hk
      exact ⟨ha'.defers, v, h1 _ _ _ ha' hs', v, l, rfl, h2, h3 _ _ hs'⟩
    | ret =>
      obtain ⟨v, l, h1, h2, h3⟩ := hk
      exact ⟨ha'.defers, v, h1 _ _ _ ha' hs', v, l, rfl, h2, h3 _ _ hs'⟩
    | _ => exact hk.elim

theorem Spec.mono {f : FuncId} {args : Array Value} {Pre : List HProp} {Post Post' : Value → List HProp → Prop} (h : Spec P f args Pre Post) (hp : ∀ v l, Post v l → Post' v l) :
    Spec P f args Pre Post' := fun R w hs => (h R w hs).mono fun _ _ ⟨v, l, a, b, c⟩ => ⟨v, l, a, hp _ _ b, c⟩
theorem Spec.pre {f : FuncId} {args : Array Value} {Pre Pre' : List HProp} {Post : Value → List HProp → Prop} (he : EntS (star Pre') (star Pre)) (h : Spec P f args Pre Post) :
    Spec P f args Pre' Post := fun R w hs => h R w (he R w hs)
theorem Spec.frame {f : FuncId} {args : Array Value} {Pre F : List HProp} {Post : Value → List HProp → Prop} (h : Spec P f args Pre Post) :
    Spec P f args (Pre ++ F) fun v l => ∃ l', Post v l' ∧ l = l' ++ F := fun R w hs => by
  refine (h (sep (star F) R) w (by rw [← sep_assoc, ← star_append]; exact hs)).mono ?_
  rintro e w' ⟨v, l, a, b, c⟩
  exact ⟨v, l ++ F, a, ⟨l, b, rfl⟩, by rw [star_append, sep_assoc]; exact c⟩
end
end Go.Sl
/- The engine, sixth part: a rule for each kind of operation. -/
namespace Go.Sl
open Go

/- What the program's tables say of a type. -/
section
variable (P : Program)
def tyAgg (t : TypeId) : Option Bool := (P.underlying t).map fun | .struct _ | .array _ _ => true | _ => false
def tySz (t : TypeId) : Option Nat := (P.info? t).map (·.size)
def fOff (t : TypeId) (f : Nat) : Option Nat :=
  match P.underlying t with
  | some (.struct fs) => match fs[f]? with
    | some fd => match tySz P fd.type with
      | some (_ + 1) => some fd.offset
      | _ => none
    | none => none
  | _ => none
def zeroOf (t : TypeId) : Option (List Value) := ((P.info? t).bind (·.zero)).map (·.cells.toList)
/-- A struct type's places, and its zero. -/
def structI (t : TypeId) : Option (List (Nat × Nat) × List Value) :=
  match P.info? t, P.underlying t with
  | some it, some (.struct fs) =>
    match it.zero, fs.toList.mapM (fun f => (P.info? f.type).map fun i => (f.offset, i.size)) with
    | some z, some places => some (places, z.cells.toList)
    | _, _ => none
  | _, _ => none
/-- A slice type's element: its number, its cells, its bytes. -/
def slI (t : TypeId) : Option (Nat × Nat × Nat) :=
  match P.underlying t with
  | some (.slice e) => (P.info? e).map fun i => (e, i.size, i.bytes)
  | _ => none
def intK (t : TypeId) : Option IntKind := match P.underlying t with | some (.int k) => some k | _ => none
def isStrT (t : TypeId) : Bool := match P.underlying t with | some .string => true | _ => false
def isPtrT (t : TypeId) : Bool := match P.underlying t with | some (.pointer e) => Nat.beq e (P.pointee t) | _ => false
def callable (f : FuncId) : Bool := match P.funcs[f]? with
  | some fn => !(fn.name == "runtime.NumGoroutine") && fn.body.isSome
  | none => false
end

/-- A block of cells. -/
def blk (b : Nat) (l : List Value) (T : TypeId) (fz : Nat × Nat) : HProp := pt b (.cells l.toArray T fz)

section
variable (P : Program) (n : Nat) (ds : List Deferred)
/-- An operation that needs nothing of the heap and changes nothing. -/
def Strict (o : Oper) (e : Env) (v : Value) : Prop := ∀ a w, EnvOk n ds e a → (execOp a.eval o).run P w = .ok (.value v) w
end

section
variable {P : Program} {n : Nat} {ds : List Deferred} {ops : Array Oper} {K : Env → HProp → Prop} {e : Env} {i : Nat} {k : Kd} {l : List Item} {o : Oper} {d : Nat} {D0 : HProp}

theorem hd_of (hd : o.dst = some d) (hdn : Nat.blt d n = true) : ∀ d', o.dst = some d' → d' < n := fun d' q => by
  rw [hd] at q; cases q; exact Nat.le_of_ble_eq_true hdn

theorem rx_strict {D H : HProp} {v : Value} (ho : ops[i]? = some o) (hw : wantE ops e o = some true) (hd : o.dst = some d) (hdn : Nat.blt d n = true) (hst : Strict P n ds o e v)
    (h : RX P n ds ops D0 l D (upd e d v) H K) : RX P n ds ops D0 (.op i k :: l) D e H K := by
  refine ⟨o, ho, hd_of hd hdn, .inl ⟨v, .inl ⟨hw, fun a w R ha hs => ?_⟩, by rw [hd]; exact h⟩⟩
  rw [hst a w ha]; exact ⟨rfl, hs⟩
/-- Its guard doesn't let it run. -/
theorem rx_skip {D H : HProp} (ho : ops[i]? = some o) (hw : wantE ops e o = some false) (hd : o.dst = some d) (hdn : Nat.blt d n = true)
    (h : RX P n ds ops D0 l D (upd e d undef) H K) : RX P n ds ops D0 (.op i k :: l) D e H K :=
  ⟨o, ho, hd_of hd hdn, .inl ⟨undef, .inr ⟨hw, rfl⟩, by rw [hd]; exact h⟩⟩
theorem rx_nil {D0l Dl Hl : List HProp} (h : K e (star (D0l ++ Dl ++ Hl))) : RX P n ds ops (star D0l) [] (star Dl) e (star Hl) K := by
  rw [star_append, star_append] at h; exact h
theorem rx_bar {Dl Hl Dl' Hl' : List HProp} (hp : Take (Dl ++ Hl) Dl' Hl') (h : RX P n ds ops D0 l (star Dl') e (star Hl') K) : RX P n ds ops D0 (.bar :: l) (star Dl) e (star Hl) K :=
  ⟨_, _, Ent.of_eq (by rw [← star_append, hp.eq]), h⟩

/- values that need nothing but operands -/
def evals (e : Env) : List Operand → Option (List Value)
  | [] => some []
  | x :: l => match ov e x, evals e l with
    | some v, some vs => some (v :: vs)
    | _, _ => none
theorem EnvOk.evals {a : Act} (h : EnvOk n ds e a) : ∀ {l : List Operand} {vs : List Value}, Sl.evals e l = some vs → l.map a.eval = vs := by
  intro l
  induction l with
  | nil => intro vs q; cases q; rfl
  | cons x l ih =>
    intro vs q
    simp only [Sl.evals] at q
    split at q
    · rename_i v vs' h1 h2; cases q; rw [List.map_cons, h.eval h1, ih h2]
    · cases q

def intBin (op : BinOp) (k : IntKind) (a b : Int) : Option Value :=
  match op with
  | .add => some (.int k (k.wrap (a + b)))
  | .sub => some (.int k (k.wrap (a - b)))
  | .mul => some (.int k (k.wrap (a * b)))
  | .eql => some (.bool (a == b))
  | .neq => some (.bool (a != b))
  | .lss => some (.bool (decide (a < b)))
  | .leq => some (.bool (decide (a ≤ b)))
  | .gtr => some (.bool (decide (a > b)))
  | .geq => some (.bool (decide (a ≥ b)))
  | _ => none
def strBin (op : BinOp) (a b : ByteArray) : Option Value :=
  match op with
  | .eql => some (.bool (a.toList == b.toList))
  | .neq => some (.bool (!(a.toList == b.toList)))
  | .lss => some (.bool (Op.bytesLess a.toList b.toList))
  | .gtr => some (.bool (!(Op.bytesLess a.toList b.toList || a.toList == b.toList)))
  | _ => none
def sv (e : Env) (o : Oper) : Option Value :=
  match o.op with
  | .move x | .assign x => ov e x
  | .pick c a b => match ov e c with
    | some (.bool true) => ov e a
    | some (.bool false) => ov e b
    | _ => none
  | .extract t ix => match ov e t with
    | some (.tuple vs) => vs.toList[ix]?
    | _ => none
  | .nilCheck x => match ov e x with
    | some (.pointer (some p)) => some (.pointer (some p))
    | some (.func (.func f) a b) => some (.func (.func f) a b)
    | _ => none
  | .makeFunc fn a b => match evals e a.toList, evals e b.toList with
    | some x, some y => some (.func fn x.toArray y.toArray)
    | _, _ => none
  | .unOp op _ x => match op, ov e x with
    | .not, some (.bool b) => some (.bool (!b))
    | _, _ => none
  | .binOp op _ x y _ => match ov e x, ov e y with
    | some (.int k a), some (.int k' b) => if k = k' then intBin op k a b else none
    | some (.string a), some (.string b) => strBin op a b
    | _, _ => none
  | _ => none

theorem run_intBin {op : BinOp} {k : IntKind} {a b : Int} {v : Value} (h : intBin op k a b = some v) (t : TypeId) (x y : Operand) (w : World) :
    (do eqGuard op t x y (.int k a) (.int k b); binOp op t (.int k a) (.int k b) : Sem Value).run P w = .ok v w := by
  cases op <;> simp only [intBin, Option.some.injEq, reduceCtorEq] at h <;> subst h <;> cases k <;> rfl
theorem run_strBin {op : BinOp} {a b : ByteArray} {v : Value} (h : strBin op a b = some v) (t : TypeId) (x y : Operand) (w : World) :
    (do eqGuard op t x y (.string a) (.string b); binOp op t (.string a) (.string b) : Sem Value).run P w = .ok v w := by
  cases op <;> simp only [strBin, Option.some.injEq, reduceCtorEq] at h <;> subst h <;> rfl

theorem st_sv {v : Value} (h : sv e o = some v) : Strict P n ds o e v := by
  intro a w ha
  unfold sv at h
  unfold execOp
  cases hop : o.op <;> rw [hop] at h <;> simp only [reduceCtorEq] at h ⊢
  case move x => rw [ha.eval h]; rfl
  case assign x => rw [ha.eval h]; rfl
  case pick c x y =>
    split at h
    · rename_i hc; rw [ha.eval hc, ha.eval h]; rfl
    · rename_i hc; rw [ha.eval hc, ha.eval h]; rfl
    · cases h
  case extract t ix =>
    split at h
    · rename_i vs hc; rw [ha.eval hc]; simp only [Array.getElem?_toList] at h; simp [Instr.extract, h]
    · cases h
  case nilCheck x =>
    split at h
    · rename_i p hc; cases h; rw [ha.eval hc]; rfl
    · rename_i f x' y' hc; cases h; rw [ha.eval hc]; rfl
    · cases h
  case makeFunc fn x y =>
    split at h
    · rename_i xs ys h1 h2
      cases h
      have e1 := ha.evals h1
      have e2 := ha.evals h2
      have q1 : x.map a.eval = xs.toArray := Array.toList_inj.1 (by rw [Array.toList_map]; exact e1)
      have q2 : y.map a.eval = ys.toArray := Array.toList_inj.1 (by rw [Array.toList_map]; exact e2)
      rw [q1, q2]; rfl
    · cases h
  case unOp op t x =>
    split at h
    · rename_i b hc; cases h; rw [ha.eval hc]; rfl
    · cases h
  case binOp op t x y t' =>
    split at h
    · rename_i k a' k' b' h1 h2
      split at h
      · rename_i hk; subst hk
        rw [ha.eval h1, ha.eval h2, Sem.run_bind, run_intBin h]; rfl
      · cases h
    · rename_i a' b' h1 h2
      rw [ha.eval h1, ha.eval h2, Sem.run_bind, run_strBin h]; rfl
    · cases h

/-- All operations that need nothing but their operands. -/
theorem rx_s {D H : HProp} {v : Value} (ho : ops[i]? = some o) (hw : wantE ops e o = some true) (hd : o.dst = some d) (hdn : Nat.blt d n = true) (hv : sv e o = some v)
    (h : RX P n ds ops D0 l D (upd e d v) H K) : RX P n ds ops D0 (.op i k :: l) D e H K := rx_strict ho hw hd hdn (st_sv hv) h
/-- .. a sum that fits. -/
theorem rx_ar {D H : HProp} {r : Int} (ho : ops[i]? = some o) (hw : wantE ops e o = some true) (hd : o.dst = some d) (hdn : Nat.blt d n = true)
    (hv : sv e o = some (.int .i64 (IntKind.i64.wrap r))) (h1 : -9223372036854775808 ≤ r ∧ r ≤ 9223372036854775807)
    (h : RX P n ds ops D0 l D (upd e d (.int .i64 r)) H K) : RX P n ds ops D0 (.op i k :: l) D e H K := by
  rw [IntWalk.i64_in r h1] at hv; exact rx_strict ho hw hd hdn (st_sv hv) h

theorem add_none (b off k : Nat) : (⟨b, off, none⟩ : Addr).add k = ⟨b, off + k, none⟩ := by
  unfold Addr.add; split
  · rename_i h; subst h; rfl
  · rfl

theorem run_fieldPlace {t f off : Nat} {k : Nat} (hf : fOff P t f = some k) (b : Nat) (w : World) : (Instr.fieldAt t (.pointer (some ⟨b, off, none⟩)) f).run P w = .ok (.pointer (some ⟨b, off + k, none⟩)) w := by
  unfold fOff at hf
  cases hu : P.underlying t with
  | none => rw [hu] at hf; cases hf
  | some d =>
    rw [hu] at hf
    cases d <;> simp only [reduceCtorEq] at hf
    rename_i fs
    cases hfs : fs[f]? with
    | none => rw [hfs] at hf; cases hf
    | some fd =>
      rw [hfs] at hf
      simp only at hf
      unfold tySz at hf
      cases hi : P.info? fd.type with
      | none => rw [hi] at hf; cases hf
      | some ti =>
        rw [hi] at hf
        simp only [Option.map_some] at hf
        cases hsz : ti.size with
        | zero => rw [hsz] at hf; cases hf
        | succ m =>
          rw [hsz] at hf
          cases hf
          simp [Instr.fieldAt, run_underlying hu, hfs, Instr.sureAddr, fieldPlace, sizeOf, typeInfo, hi, hsz, add_none]

theorem st_fieldAddr {t f b off k' : Nat} {x : Operand} (hop : o.op = .fieldAddr t x f) (hx : ov e x = some (.pointer (some ⟨b, off, none⟩))) (hf : fOff P t f = some k') :
    Strict P n ds o e (.pointer (some ⟨b, off + k', none⟩)) := by
  intro a w ha
  unfold execOp
  simp only [hop, ha.eval hx, Sem.run_bind, run_fieldPlace hf]; rfl
theorem rx_fa {D H : HProp} {t f b off k' : Nat} {x : Operand} (ho : ops[i]? = some o) (hw : wantE ops e o = some true) (hd : o.dst = some d) (hdn : Nat.blt d n = true)
    (hop : o.op = .fieldAddr t x f) (hx : ov e x = some (.pointer (some ⟨b, off, none⟩))) (hf : fOff P t f = some k')
    (h : RX P n ds ops D0 l D (upd e d (.pointer (some ⟨b, off + k', none⟩))) H K) : RX P n ds ops D0 (.op i k :: l) D e H K := rx_strict ho hw hd hdn (st_fieldAddr hop hx hf) h

theorem run_typeInfo_some' {t : TypeId} {i : TypeInfo} (h : P.info? t = some i) (w : World) : (typeInfo t).run P w = .ok i w := by simp [typeInfo, h]
theorem run_sizeOf_of {t : TypeId} {s : Nat} (h : tySz P t = some s) (w : World) : (sizeOf t).run P w = .ok s w := by
  unfold tySz at h
  cases hi : P.info? t with
  | none => rw [hi] at h; cases h
  | some i => rw [hi] at h; cases h; simp [sizeOf, typeInfo, hi]
theorem run_isAgg_of {t : TypeId} {b : Bool} (h : tyAgg P t = some b) (w : World) : (isAgg t).run P w = .ok b w := by
  unfold tyAgg at h
  cases hu : P.underlying t with
  | none => rw [hu] at h; cases h
  | some d =>
    rw [hu] at h
    simp only [Option.map_some, Option.some.injEq] at h
    subst h
    cases d <;> simp [isAgg, run_underlying hu]
theorem slI_spec {t E sz bytes : Nat} (h : slI P t = some (E, sz, bytes)) : P.underlying t = some (.slice E) ∧ ∃ i, P.info? E = some i ∧ i.size = sz ∧ i.bytes = bytes := by
  unfold slI at h
  cases hu : P.underlying t with
  | none => rw [hu] at h; cases h
  | some d =>
    rw [hu] at h
    cases d <;> simp only [reduceCtorEq] at h
    rename_i E'
    cases hi : P.info? E' with
    | none => rw [hi] at h; cases h
    | some ti => rw [hi] at h; simp only [Option.map_some, Option.some.injEq, Prod.mk.injEq] at h; obtain ⟨rfl, rfl, rfl⟩ := h; exact ⟨rfl, ti, hi, rfl, rfl⟩

/-- An element's address. -/
theorem st_indexAddr {t E sz bytes b off len cap : Nat} {x ix : Operand} {kk : IntKind} {j : Int} (hop : o.op = .indexAddr t x ix) (ht : slI P t = some (E, sz, bytes))
    (hx : ov e x = some (.slice (some ⟨b, off, none⟩) len cap)) (hj : ov e ix = some (.int kk j)) (h0 : 0 ≤ j) (h1 : j < len) :
    Strict P n ds o e (.pointer (some ⟨b, off + j.toNat * sz, none⟩)) := by
  intro a w ha
  obtain ⟨hu, ti, hi, hs, _⟩ := slI_spec ht
  unfold execOp
  simp [hop, ha.eval hx, ha.eval hj, Instr.indexAt, asIntOf, run_underlying hu, h0, h1, sizeOf, typeInfo, hi, hs, add_none]
theorem rx_ix {D H : HProp} {t E sz bytes b off len cap : Nat} {x ix : Operand} {kk : IntKind} {j : Int} (ho : ops[i]? = some o) (hw : wantE ops e o = some true) (hd : o.dst = some d) (hdn : Nat.blt d n = true)
    (hop : o.op = .indexAddr t x ix) (ht : slI P t = some (E, sz, bytes))
    (hx : ov e x = some (.slice (some ⟨b, off, none⟩) len cap)) (hj : ov e ix = some (.int kk j)) (h01 : 0 ≤ j ∧ j < len)
    (h : RX P n ds ops D0 l D (upd e d (.pointer (some ⟨b, off + j.toNat * sz, none⟩))) H K) : RX P n ds ops D0 (.op i k :: l) D e H K :=
  rx_strict ho hw hd hdn (st_indexAddr hop ht hx hj h01.1 h01.2) h

/-- 'len'. -/
def lenV (P : Program) (t : TypeId) (v : Value) : Option Nat :=
  match P.underlying t, v with
  | some .string, .string s => some s.size
  | some (.slice _), .slice _ m _ => some m
  | _, _ => none
theorem st_len {x : Operand} {t : TypeId} {v : Value} {m : Nat} (hop : o.op = .call { callee := .builtin .len, args := #[x], argTypes := #[t] }) (hx : ov e x = some v) (hl : lenV P t v = some m) :
    Strict P n ds o e (.int .i64 m) := by
  intro a w ha
  unfold lenV at hl
  unfold execOp
  have hr : (Builtin.len_ #[t] o.type #[v]).run P w = .ok (.int .i64 m) w := by
    unfold Builtin.len_
    split at hl
    · rename_i s hu; cases hl; simp [run_underlying hu, goInt]
    · rename_i q m' c hu; cases hl; simp [run_underlying hu, goInt]
    · cases hl
  simp [hop, resolve, ha.eval hx, invoke, builtin, hr]
theorem rx_len {D H : HProp} {x : Operand} {t : TypeId} {v : Value} {m : Nat} (ho : ops[i]? = some o) (hw : wantE ops e o = some true) (hd : o.dst = some d) (hdn : Nat.blt d n = true)
    (hop : o.op = .call { callee := .builtin .len, args := #[x], argTypes := #[t] }) (hx : ov e x = some v) (hl : lenV P t v = some m)
    (h : RX P n ds ops D0 l D (upd e d (.int .i64 m)) H K) : RX P n ds ops D0 (.op i k :: l) D e H K := rx_strict ho hw hd hdn (st_len hop hx hl) h
theorem st_max {x y : Operand} {ts : Array TypeId} {kk : IntKind} {a b : Int} (hop : o.op = .call { callee := .builtin .max, args := #[x, y], argTypes := ts })
    (hx : ov e x = some (.int kk a)) (hy : ov e y = some (.int kk b)) : Strict P n ds o e (.int kk (max a b)) := by
  intro ac w ha
  unfold execOp
  have : (if b > a then b else a) = max a b := by rw [Int.max_def]; split <;> split <;> omega
  simp [hop, resolve, ha.eval hx, ha.eval hy, invoke, builtin, Builtin.max_, Builtin.max2, this]
theorem rx_max {D H : HProp} {x y : Operand} {ts : Array TypeId} {kk : IntKind} {a b : Int} (ho : ops[i]? = some o) (hw : wantE ops e o = some true) (hd : o.dst = some d) (hdn : Nat.blt d n = true)
    (hop : o.op = .call { callee := .builtin .max, args := #[x, y], argTypes := ts }) (hx : ov e x = some (.int kk a)) (hy : ov e y = some (.int kk b))
    (h : RX P n ds ops D0 l D (upd e d (.int kk (max a b))) H K) : RX P n ds ops D0 (.op i k :: l) D e H K := rx_strict ho hw hd hdn (st_max hop hx hy) h

/-- A pointer held against nil. -/
theorem st_nil {x : Operand} {t t' : TypeId} {p : Option Addr} {bo : BinOp} {r : Bool} (hop : o.op = .binOp bo t x (.const (.pointer none)) t') (ht : isPtrT P t = true)
    (hx : ov e x = some (.pointer p)) (hb : (bo = .eql ∧ r = p.isNone) ∨ (bo = .neq ∧ r = !p.isNone)) : Strict P n ds o e (.bool r) := by
  intro a w ha
  unfold isPtrT at ht
  split at ht
  · rename_i el hu
    rw [Nat.eq_of_beq_eq_true ht] at hu
    unfold execOp
    have hc : a.eval (.const (.pointer none)) = .pointer none := rfl
    rcases hb with ⟨rfl, rfl⟩ | ⟨rfl, rfl⟩
    · simp only [hop, ha.eval hx, hc, Sem.run_bind]
      rw [show (eqGuard .eql t x (.const (.pointer none)) (.pointer p) (.pointer none) : Sem Unit) = pure () from rfl]
      simp only [Sem.run_pure, Result.andThen_ok, run_eql_pointer_nil w t p hu]
    · simp only [hop, ha.eval hx, hc, Sem.run_bind]
      rw [show (eqGuard .neq t x (.const (.pointer none)) (.pointer p) (.pointer none) : Sem Unit) = pure () from rfl]
      simp only [Sem.run_pure, Result.andThen_ok, run_neq_pointer_nil w t p hu]
  · cases ht
theorem rx_eqnil {D H : HProp} {x : Operand} {t t' : TypeId} {p : Option Addr} (ho : ops[i]? = some o) (hw : wantE ops e o = some true) (hd : o.dst = some d) (hdn : Nat.blt d n = true)
    (hop : o.op = .binOp .eql t x (.const (.pointer none)) t') (ht : isPtrT P t = true) (hx : ov e x = some (.pointer p))
    (h : RX P n ds ops D0 l D (upd e d (.bool p.isNone)) H K) : RX P n ds ops D0 (.op i k :: l) D e H K := rx_strict ho hw hd hdn (st_nil hop ht hx (.inl ⟨rfl, rfl⟩)) h
theorem rx_nenil {D H : HProp} {x : Operand} {t t' : TypeId} {p : Option Addr} (ho : ops[i]? = some o) (hw : wantE ops e o = some true) (hd : o.dst = some d) (hdn : Nat.blt d n = true)
    (hop : o.op = .binOp .neq t x (.const (.pointer none)) t') (ht : isPtrT P t = true) (hx : ov e x = some (.pointer p))
    (h : RX P n ds ops D0 l D (upd e d (.bool (!p.isNone))) H K) : RX P n ds ops D0 (.op i k :: l) D e H K := rx_strict ho hw hd hdn (st_nil hop ht hx (.inr ⟨rfl, rfl⟩)) h

/-- A struct's value out of parts. -/
def putAt : List Value → Nat → List Value → List Value
  | l, _, [] => l
  | l, k, v :: vs => putAt (l.set k v) (k + 1) vs
theorem putAt_length : ∀ (vs l : List Value) (k : Nat), (putAt l k vs).length = l.length := by
  intro vs
  induction vs with
  | nil => intro l k; rfl
  | cons v vs ih => intro l k; simp [putAt, ih]
def fillL (places : List (Nat × Nat)) (zero : List Value) : List (Nat × Value) → Option (List Value)
  | [] => some zero
  | (j, v) :: rest => match places[j]? with
    | none => none
    | some (off, size) => bif Nat.beq v.cells.toList.length size && Nat.ble (off + size) zero.length then fillL places (putAt zero off v.cells.toList) rest else none
theorem foldl_put (vs : List Value) : ∀ (m off : Nat) (cs : Array Value),
    ((vs.zipIdx m).foldl (fun cs (c, j) => cs.setIfInBounds (off + j) c) cs).toList = putAt cs.toList (off + m) vs := by
  induction vs with
  | nil => intro m off cs; rfl
  | cons v vs ih =>
    intro m off cs
    rw [List.zipIdx_cons, List.foldl_cons, ih]
    simp [putAt, Nat.add_assoc]
theorem fill_eq {places : List (Nat × Nat)} : ∀ {parts : List (Nat × Value)} {zero : Array Value} {cs : List Value}, fillL places zero.toList parts = some cs →
    Instr.fill (fun j => places[j]?) zero parts = some cs.toArray := by
  intro parts
  induction parts with
  | nil => intro zero cs h; cases h; simp [Instr.fill]
  | cons p rest ih =>
    intro zero cs h
    obtain ⟨j, v⟩ := p
    simp only [fillL] at h
    unfold Instr.fill
    cases hp : places[j]? with
    | none => rw [hp] at h; cases h
    | some os =>
      obtain ⟨off, size⟩ := os
      rw [hp] at h
      simp only at h ⊢
      cases hb : (Nat.beq v.cells.toList.length size && Nat.ble (off + size) zero.toList.length) with
      | false => rw [hb] at h; cases h
      | true =>
        rw [hb] at h
        simp only [Bool.and_eq_true] at hb
        have h1 := Nat.eq_of_beq_eq_true hb.1
        have h2 := Nat.le_of_ble_eq_true hb.2
        rw [Array.length_toList] at h1 h2
        have hc : (decide (v.cells.size ≠ size) || decide (off + v.cells.size > zero.size)) = false := by simp; omega
        rw [if_neg (by simp [h1]; omega)]
        refine ih ?_
        have := foldl_put v.cells.toList 0 off zero
        rw [← Array.foldl_toList, Array.toList_zipIdx]
        rw [Nat.add_zero] at this
        rw [this]; exact h

theorem structI_built {t : TypeId} {places : List (Nat × Nat)} {zero cs : List Value} {parts : List (Nat × Value)} (h : structI P t = some (places, zero)) (hf : fillL places zero parts = some cs) :
    P.built t parts = some cs.toArray := by
  unfold structI at h
  unfold Program.built
  cases hi : P.info? t with
  | none => rw [hi] at h; cases h
  | some it =>
    rw [hi] at h
    cases hu : P.underlying t with
    | none => rw [hu] at h; cases h
    | some dd =>
      rw [hu] at h
      cases dd <;> simp only [reduceCtorEq] at h
      rename_i fs
      simp only
      cases hz : it.zero with
      | none => rw [hz] at h; cases h
      | some z =>
        rw [hz] at h
        cases hm : fs.toList.mapM (fun f => (P.info? f.type).map fun i => (f.offset, i.size)) with
        | none => rw [hm] at h; cases h
        | some pl =>
          rw [hm] at h
          simp only [Option.some.injEq, Prod.mk.injEq] at h
          obtain ⟨rfl, rfl⟩ := h
          have := fill_eq (places := pl) (zero := z.cells) hf
          simpa using this
def parts (e : Env) : List (Nat × Operand) → Option (List (Nat × Value))
  | [] => some []
  | (j, x) :: l => match ov e x, parts e l with
    | some v, some vs => some ((j, v) :: vs)
    | _, _ => none
theorem EnvOk.parts {a : Act} (h : EnvOk n ds e a) : ∀ {l : List (Nat × Operand)} {vs : List (Nat × Value)}, Sl.parts e l = some vs → (l.map fun (i, x) => (i, a.eval x)) = vs := by
  intro l
  induction l with
  | nil => intro vs q; cases q; rfl
  | cons x l ih =>
    intro vs q
    obtain ⟨j, x⟩ := x
    simp only [Sl.parts] at q
    split at q
    · rename_i v vs' h1 h2; cases q; rw [List.map_cons, ih h2]; simp only [h.eval h1]
    · cases q
theorem st_build {t : TypeId} {ps : Array (Nat × Operand)} {places : List (Nat × Nat)} {zero cs : List Value} {vs : List (Nat × Value)} (hop : o.op = .build t ps) (ht : structI P t = some (places, zero))
    (hp : parts e ps.toList = some vs) (hf : fillL places zero vs = some cs) : Strict P n ds o e (.agg cs.toArray) := by
  intro a w ha
  have hb := structI_built ht hf
  have hm := ha.parts hp
  unfold execOp
  have hm' : (ps.map fun (i, x) => (i, a.eval x)).toList = vs := by rw [Array.toList_map]; exact hm
  rw [← hm'] at hb
  have := run_build (P := P) w t _ _ hb
  simp only [hop, Sem.run_bind]
  rw [this]; rfl
theorem rx_build {D H : HProp} {t : TypeId} {ps : Array (Nat × Operand)} {places : List (Nat × Nat)} {zero cs : List Value} {vs : List (Nat × Value)}
    (ho : ops[i]? = some o) (hw : wantE ops e o = some true) (hd : o.dst = some d) (hdn : Nat.blt d n = true) (hop : o.op = .build t ps) (ht : structI P t = some (places, zero))
    (hp : parts e ps.toList = some vs) (hf : fillL places zero vs = some cs)
    (h : RX P n ds ops D0 l D (upd e d (.agg cs.toArray)) H K) : RX P n ds ops D0 (.op i k :: l) D e H K := rx_strict ho hw hd hdn (st_build hop ht hp hf) h

/-- A slice of a slice, its bounds right. -/
theorem st_slice {t E sz bytes : Nat} {x : Operand} {lo hi mx : Option Operand} {p : Option Addr} {len cap L Hh M : Nat} (hop : o.op = .slice t x lo hi mx) (ht : slI P t = some (E, sz, bytes))
    (hx : ov e x = some (.slice p len cap))
    (hb : ∀ a w, EnvOk n ds e a → (Instr.sliceBounds true len cap (lo.map a.eval) (hi.map a.eval) (mx.map a.eval)).run P w = .ok (L, Hh, M) w) :
    Strict P n ds o e (.slice (if M = L then p else p.map (·.add (L * sz))) (Hh - L) (M - L)) := by
  intro a w ha
  obtain ⟨hu, ti, hi', hs, _⟩ := slI_spec ht
  unfold execOp
  simp [hop, ha.eval hx, Instr.sliceAt, Instr.slice, run_underlying hu, hb a w ha, sizeOf, typeInfo, hi', hs]
theorem bounds_hi {isS : Bool} {len cap : Nat} {kk : IntKind} {j : Int} (h0 : 0 ≤ j) (h1 : j ≤ cap) (w : World) :
    (Instr.sliceBounds isS len cap none (some (.int kk j)) none).run P w = .ok (0, j.toNat, cap) w := by
  simp [Instr.sliceBounds, Instr.sliceBound, asIntOf, h0, h1]
theorem bounds_lo {isS : Bool} {len cap : Nat} {kk : IntKind} {j : Int} (h0 : 0 ≤ j) (h1 : j ≤ len) (w : World) :
    (Instr.sliceBounds isS len cap (some (.int kk j)) none none).run P w = .ok (j.toNat, len, cap) w := by
  simp [Instr.sliceBounds, Instr.sliceBound, asIntOf, h0, h1]
theorem bounds_lohi {isS : Bool} {len cap : Nat} {kk kk' : IntKind} {j j' : Int} (h0 : 0 ≤ j) (h1 : j ≤ j') (h2 : j' ≤ cap) (w : World) :
    (Instr.sliceBounds isS len cap (some (.int kk j)) (some (.int kk' j')) none).run P w = .ok (j.toNat, j'.toNat, cap) w := by
  have h0' : 0 ≤ j' := by omega
  simp [Instr.sliceBounds, Instr.sliceBound, asIntOf, h0, h0', h2]
  intro hq; omega
/-- 'x[:j]' -/
theorem rx_slhi {D H : HProp} {t E sz bytes : Nat} {x y : Operand} {p : Option Addr} {len cap : Nat} {kk : IntKind} {j : Int} (ho : ops[i]? = some o) (hw : wantE ops e o = some true) (hd : o.dst = some d) (hdn : Nat.blt d n = true)
    (hop : o.op = .slice t x none (some y) none) (ht : slI P t = some (E, sz, bytes)) (hx : ov e x = some (.slice p len cap)) (hy : ov e y = some (.int kk j)) (hj : 0 ≤ j ∧ j ≤ cap)
    (h : RX P n ds ops D0 l D (upd e d (.slice p j.toNat cap)) H K) : RX P n ds ops D0 (.op i k :: l) D e H K := by
  have hst := st_slice (P := P) (n := n) (ds := ds) hop ht hx (L := 0) (Hh := j.toNat) (M := cap) (fun a w ha => by
    simp only [Option.map_none, Option.map_some, ha.eval hy]; exact bounds_hi hj.1 hj.2 w)
  have e1 : (if cap = 0 then p else p.map (·.add (0 * sz))) = p := by
    split
    · rfl
    · cases p <;> simp [Addr.add]
  rw [e1] at hst
  exact rx_strict ho hw hd hdn hst h
/-- 'x[j:]' -/
theorem rx_sllo {D H : HProp} {t E sz bytes : Nat} {x y : Operand} {b off len cap : Nat} {kk : IntKind} {j : Int} (ho : ops[i]? = some o) (hw : wantE ops e o = some true) (hd : o.dst = some d) (hdn : Nat.blt d n = true)
    (hop : o.op = .slice t x (some y) none none) (ht : slI P t = some (E, sz, bytes)) (hx : ov e x = some (.slice (some ⟨b, off, none⟩) len cap)) (hy : ov e y = some (.int kk j)) (hj : 0 ≤ j ∧ j ≤ len)
    (h : ∀ off', (j < cap → off' = off + j.toNat * sz) → RX P n ds ops D0 l D (upd e d (.slice (some ⟨b, off', none⟩) (len - j.toNat) (cap - j.toNat))) H K) : RX P n ds ops D0 (.op i k :: l) D e H K := by
  have hst := st_slice (P := P) (n := n) (ds := ds) hop ht hx (L := j.toNat) (Hh := len) (M := cap) (fun a w ha => by
    simp only [Option.map_none, Option.map_some, ha.eval hy]; exact bounds_lo hj.1 hj.2 w)
  by_cases hc : cap = j.toNat
  · rw [if_pos hc] at hst
    exact rx_strict ho hw hd hdn hst (h off (fun q => by omega))
  · rw [if_neg hc] at hst
    simp only [Option.map_some, add_none] at hst
    exact rx_strict ho hw hd hdn hst (h _ (fun _ => rfl))
/-- a string's part -/
theorem rx_slstr {D H : HProp} {t : TypeId} {x : Operand} {lo hi : Option Operand} {s : ByteArray} {L Hh M : Nat} (ho : ops[i]? = some o) (hw : wantE ops e o = some true) (hd : o.dst = some d) (hdn : Nat.blt d n = true)
    (hop : o.op = .slice t x lo hi none) (ht : isStrT P t = true) (hx : ov e x = some (.string s))
    (hb : ∀ a w, EnvOk n ds e a → (Instr.sliceBounds false s.size s.size (lo.map a.eval) (hi.map a.eval) none).run P w = .ok (L, Hh, M) w)
    (h : RX P n ds ops D0 l D (upd e d (.string (s.extract L Hh))) H K) : RX P n ds ops D0 (.op i k :: l) D e H K := by
  refine rx_strict ho hw hd hdn (fun a w ha => ?_) h
  unfold isStrT at ht
  split at ht
  · rename_i hu
    unfold execOp
    simp [hop, ha.eval hx, Instr.sliceAt, Instr.slice, run_underlying hu, hb a w ha]
  · cases ht
/-- a string's byte -/
theorem rx_ixstr {D H : HProp} {t : TypeId} {x y : Operand} {s : ByteArray} {kk : IntKind} {j : Int} {c : UInt8} (ho : ops[i]? = some o) (hw : wantE ops e o = some true) (hd : o.dst = some d) (hdn : Nat.blt d n = true)
    (hop : o.op = .index t x y) (ht : isStrT P t = true) (hx : ov e x = some (.string s)) (hy : ov e y = some (.int kk j)) (h0 : 0 ≤ j) (hc : s[j.toNat]? = some c)
    (h : RX P n ds ops D0 l D (upd e d (.int .u8 c.toNat)) H K) : RX P n ds ops D0 (.op i k :: l) D e H K := by
  refine rx_strict ho hw hd hdn (fun a w ha => ?_) h
  unfold isStrT at ht
  split at ht
  · rename_i hu
    unfold execOp
    simp [hop, ha.eval hx, ha.eval hy, Instr.index, asIntOf, run_underlying hu, h0, hc]
  · cases ht
/-- one integer kind to another -/
theorem rx_conv {D H : HProp} {t t' : TypeId} {x : Operand} {kk k2 : IntKind} {j : Int} (ho : ops[i]? = some o) (hw : wantE ops e o = some true) (hd : o.dst = some d) (hdn : Nat.blt d n = true)
    (hop : o.op = .convert t t' x) (hs : (P.underlying t).isSome = true) (ht : intK P t' = some k2) (hx : ov e x = some (.int kk j))
    (h : RX P n ds ops D0 l D (upd e d (.int k2 (k2.wrap j))) H K) : RX P n ds ops D0 (.op i k :: l) D e H K := by
  refine rx_strict ho hw hd hdn (fun a w ha => ?_) h
  obtain ⟨sd, hs⟩ := Option.isSome_iff_exists.1 hs
  unfold intK at ht
  split at ht
  · rename_i kq hu
    cases ht
    unfold execOp
    simp only [hop, ha.eval hx]
    have : (convert t t' (.int kk j)).run P w = .ok (.int k2 (k2.wrap j)) w := by
      simp only [convert, Sem.run_bind, run_underlying hs, run_underlying hu, Result.andThen_ok]
      cases sd <;> rfl
    simp only [Sem.run_bind, this]; rfl
  · cases ht
/-- a struct's field, of a struct that is a value -/
theorem rx_field1 {D H : HProp} {t f : Nat} {x : Operand} {cs : Array Value} {k' : Nat} {ft : TypeId} {v : Value} (ho : ops[i]? = some o) (hw : wantE ops e o = some true) (hd : o.dst = some d) (hdn : Nat.blt d n = true)
    (hop : o.op = .field t x f) (hx : ov e x = some (.agg cs)) (hf : (match P.underlying t with | some (.struct fs) => (fs[f]?).map fun fd => (fd.offset, fd.type) | _ => none) = some (k', ft))
    (ha : tyAgg P ft = some false) (hv : cs.toList[k']? = some v)
    (h : RX P n ds ops D0 l D (upd e d v) H K) : RX P n ds ops D0 (.op i k :: l) D e H K := by
  refine rx_strict ho hw hd hdn (fun a w hae => ?_) h
  split at hf
  · rename_i fs hu
    cases hfs : fs[f]? with
    | none => rw [hfs] at hf; cases hf
    | some fd =>
      rw [hfs] at hf
      simp only [Option.map_some, Option.some.injEq, Prod.mk.injEq] at hf
      obtain ⟨rfl, rfl⟩ := hf
      simp only [Array.getElem?_toList] at hv
      unfold execOp
      simp [hop, hae.eval hx, Instr.field, run_underlying hu, hfs, asAgg, part, run_isAgg_of ha, hv]
  · cases hf
theorem rx_fieldA {D H : HProp} {t f : Nat} {x : Operand} {cs : Array Value} {k' s : Nat} {ft : TypeId} {vs : List Value} (ho : ops[i]? = some o) (hw : wantE ops e o = some true) (hd : o.dst = some d) (hdn : Nat.blt d n = true)
    (hop : o.op = .field t x f) (hx : ov e x = some (.agg cs)) (hf : (match P.underlying t with | some (.struct fs) => (fs[f]?).map fun fd => (fd.offset, fd.type) | _ => none) = some (k', ft))
    (ha : tyAgg P ft = some true) (hs : tySz P ft = some s) (hv : (cs.toList.drop k').take s = vs)
    (h : RX P n ds ops D0 l D (upd e d (.agg vs.toArray)) H K) : RX P n ds ops D0 (.op i k :: l) D e H K := by
  refine rx_strict ho hw hd hdn (fun a w hae => ?_) h
  split at hf
  · rename_i fs hu
    cases hfs : fs[f]? with
    | none => rw [hfs] at hf; cases hf
    | some fd =>
      rw [hfs] at hf
      simp only [Option.map_some, Option.some.injEq, Prod.mk.injEq] at hf
      obtain ⟨rfl, rfl⟩ := hf
      have hq : cs.extract fd.offset (fd.offset + s) = vs.toArray := by
        rw [← hv]; apply Array.toList_inj.1; simp [Array.toList_extract]
      unfold execOp
      simp [hop, hae.eval hx, Instr.field, run_underlying hu, hfs, asAgg, part, run_isAgg_of ha, run_sizeOf_of hs, hq]
  · cases hf
end
end Go.Sl
/- The engine, seventh part: operations that read, write or make memory; calls. -/
namespace Go.Sl
open Go
theorem Side.row (w : World) (b : Nat) (cs cur : Array Value) (t : TypeId) (fr : Nat × Nat) (hg : w.heap[b]? = some (.cells cur t fr)) : Side w (w.setRow b cs) := by
  exact ⟨by simp [World.setRow], by simp [World.setRow], by simp [World.setRow], by simp [World.setRow]⟩

section
variable {P : Program} {n : Nat} {ds : List Deferred} {ops : Array Oper} {K : Env → HProp → Prop} {e : Env} {i : Nat} {k : Kd} {l : List Item} {o : Oper} {d : Nat} {D0 : HProp}

theorem blk_cell {b : Nat} {cl : List Value} {T : TypeId} {fz : Nat × Nat} {R : HProp} {w : World} (hs : Sat (sep (blk b cl T fz) R) w) (off : Nat) : w.cell? ⟨b, off, none⟩ = cl[off]? := by
  have := hs.pt
  simp [World.cell?, this]

/- loads -/
def LdOk (P : Program) (t : TypeId) (cl : List Value) (off : Nat) (v : Value) : Prop :=
  (tyAgg P t = some false ∧ cl[off]? = some v) ∨ ∃ s vs, tyAgg P t = some true ∧ tySz P t = some s ∧ (cl.drop off).take s = vs ∧ vs.length = s ∧ v = .agg vs.toArray
theorem run_load_ok {t : TypeId} {cl : List Value} {off : Nat} {v : Value} (h : LdOk P t cl off v) {b : Nat} {T : TypeId} {fz : Nat × Nat} {R : HProp} {w : World}
    (hs : Sat (sep (blk b cl T fz) R) w) : (Instr.loadAt t (.pointer (some ⟨b, off, none⟩))).run P w = .ok v w := by
  have hc := blk_cell hs
  rcases h with ⟨h1, h2⟩ | ⟨s, vs, h1, h2, h3, h4, rfl⟩
  · simp [Instr.loadAt, Instr.sureAddr, loadVar, run_isAgg_of h1, hc, h2]
  · have hl := run_loadCells_list (P := P) w ⟨b, off, none⟩ vs (fun j u hj => by
      rw [add_none, hc]
      have : vs[j]? = cl[off + j]? := by
        rw [← h3, List.getElem?_take]
        split
        · rw [List.getElem?_drop]
        · rename_i hq
          exfalso
          have := (List.getElem?_eq_some_iff.1 hj).1
          rw [← h4] at hq; exact hq this
      rw [← this]; exact hj)
    rw [h4] at hl
    simp [Instr.loadAt, Instr.sureAddr, loadVar, run_isAgg_of h1, run_sizeOf_of h2, hl]

theorem ld_dt {t : TypeId} {x : Operand} {cl : List Value} {off b : Nat} {v : Value} {T : TypeId} {fz : Nat × Nat} {D F : HProp} (hop : o.op = .load t x)
    (hx : ov e x = some (.pointer (some ⟨b, off, none⟩))) (h : LdOk P t cl off v) (hD : D = sep (blk b cl T fz) F) :
    ∀ a w R, EnvOk n ds e a → Sat (sep D R) w → (execOp a.eval o).run P w = .ok (.value v) w := by
  intro a w R ha hs
  subst hD
  rw [sep_assoc] at hs
  unfold execOp
  simp only [hop, ha.eval hx, Sem.run_bind, run_load_ok h hs]; rfl

/-- From what stays for good. -/
theorem rx_ldP {D0l F : List HProp} {D H : HProp} {t : TypeId} {x : Operand} {b off : Nat} {cl : List Value} {T : TypeId} {fz : Nat × Nat} {v : Value}
    (ho : ops[i]? = some o) (hw : wantE ops e o = some true) (hd : o.dst = some d) (hdn : Nat.blt d n = true) (hop : o.op = .load t x)
    (hx : ov e x = some (.pointer (some ⟨b, off, none⟩))) (hT : Take1 D0l (blk b cl T fz) F) (hv : LdOk P t cl off v)
    (h : RX P n ds ops (star D0l) l D (upd e d v) H K) : RX P n ds ops (star D0l) (.op i .p :: l) D e H K := by
  refine ⟨o, ho, hd_of hd hdn, .inl ⟨v, .inl ⟨hw, fun a w R ha hs => ?_⟩, by rw [hd]; exact h⟩⟩
  rw [ld_dt hop hx hv hT.eq a w R ha hs]; exact ⟨rfl, hs⟩
/-- From what stays till the bar. -/
theorem rx_ldD {Dl F : List HProp} {H : HProp} {t : TypeId} {x : Operand} {b off : Nat} {cl : List Value} {T : TypeId} {fz : Nat × Nat} {v : Value} (hk : DD D0 (star Dl) k = sep D0 (star Dl))
    (ho : ops[i]? = some o) (hw : wantE ops e o = some true) (hd : o.dst = some d) (hdn : Nat.blt d n = true) (hop : o.op = .load t x)
    (hx : ov e x = some (.pointer (some ⟨b, off, none⟩))) (hT : Take1 Dl (blk b cl T fz) F) (hv : LdOk P t cl off v)
    (h : RX P n ds ops D0 l (star Dl) (upd e d v) H K) : RX P n ds ops D0 (.op i k :: l) (star Dl) e H K := by
  refine ⟨o, ho, hd_of hd hdn, .inl ⟨v, .inl ⟨hw, fun a w R ha hs => ?_⟩, by rw [hd]; exact h⟩⟩
  rw [hk] at hs ⊢
  rw [ld_dt (D := sep D0 (star Dl)) hop hx hv (F := sep D0 (star F)) (by rw [hT.eq, sep_left]) a w R ha hs]; exact ⟨rfl, hs⟩
/-- From what is at hand. -/
theorem rx_ldH {Dl Hl F : List HProp} {t : TypeId} {x : Operand} {b off : Nat} {cl : List Value} {T : TypeId} {fz : Nat × Nat} {v : Value} (hk : k = .e)
    (ho : ops[i]? = some o) (hw : wantE ops e o = some true) (hd : o.dst = some d) (hdn : Nat.blt d n = true) (hop : o.op = .load t x)
    (hx : ov e x = some (.pointer (some ⟨b, off, none⟩))) (hT : Take1 Hl (blk b cl T fz) F) (hv : LdOk P t cl off v)
    (h : RX P n ds ops D0 l (star Dl) (upd e d v) (star Hl) K) : RX P n ds ops D0 (.op i k :: l) (star Dl) e (star Hl) K := by
  refine ⟨o, ho, hd_of hd hdn, .inr (.inr ⟨hk, hw, star Hl, emp, fun v' G => v' = v ∧ G = star Hl, Ent.of_eq (sep_emp _).symm, fun a w R ha hs => ?_, fun v' G hG _ => ?_⟩)⟩
  · have hs' : Sat (sep (star Hl) (sep (sep D0 (star Dl)) R)) w := by rw [sep_left, ← sep_assoc]; exact hs
    rw [ld_dt hop hx hv hT.eq a w _ ha hs']
    exact ⟨_, ⟨_, rfl, rfl, rfl⟩, hs⟩
  · obtain ⟨rfl, rfl⟩ := hG
    rw [sep_emp, hd]; exact h

/- stores -/
theorem take_drop_putAt : ∀ (vs cl : List Value) (off : Nat), off + vs.length ≤ cl.length → cl.take off ++ vs ++ cl.drop (off + vs.length) = putAt cl off vs := by
  intro vs
  induction vs with
  | nil => intro cl off _; simp [putAt]
  | cons v vs ih =>
    intro cl off h
    have h' : off < cl.length := by simp at h; omega
    rw [putAt, ← ih (cl.set off v) (off + 1) (by simp at h ⊢; omega)]
    rw [List.take_succ_eq_append_getElem (by simpa using h'), List.drop_set_of_lt (by omega)]
    have e1 : (cl.set off v)[off]'(by simpa using h') = v := List.getElem_set_self ..
    rw [e1, List.take_set_of_le (Nat.le_refl _)]
    rw [List.length_cons, List.append_assoc, List.append_assoc, show off + (vs.length + 1) = off + 1 + vs.length by omega]
    simp
theorem run_store_ok {t : TypeId} {cl cl' vs : List Value} {off s : Nat} {v : Value} (hs : tySz P t = some s) (hv : v.cells.toList = vs) (hl : vs.length = s) (h1 : vs.all (·.oneCell') = true)
    (hb : off + s ≤ cl.length) (hp : putAt cl off vs = cl') {b : Nat} {T : TypeId} {w : World} (hg : w.heap[b]? = some (.cells cl.toArray T (0, 0))) :
    (Instr.storeAt t (.pointer (some ⟨b, off, none⟩)) v).run P w = .ok () (w.setRow b cl'.toArray) := by
  have hst := run_storeCells_at P b off T vs 0 cl.toArray w hg (by simp; omega) (fun u hu => List.all_eq_true.1 h1 u hu)
  simp only [Nat.add_zero] at hst
  rw [take_drop_putAt vs cl off (by omega), hp] at hst
  have hsz : v.cells.size = s := by rw [← Array.length_toList, hv]; exact hl
  simp [Instr.storeAt, Instr.sureAddr, storeVar, run_sizeOf_of hs, hsz, hv, hst]
theorem rx_st {Dl Hl F : List HProp} {t : TypeId} {x y : Operand} {b off s : Nat} {cl cl' vs : List Value} {T : TypeId} {v : Value} (hk : k = .e)
    (ho : ops[i]? = some o) (hw : wantE ops e o = some true) (hd : o.dst = none) (hop : o.op = .store t x y)
    (hx : ov e x = some (.pointer (some ⟨b, off, none⟩))) (hy : ov e y = some v) (hT : Take1 Hl (blk b cl T (0, 0)) F) (hs : tySz P t = some s) (hv : v.cells.toList = vs) (hl : vs.length = s)
    (h1 : vs.all (·.oneCell') = true) (hb : Nat.ble (off + s) cl.length = true) (hp : putAt cl off vs = cl')
    (h : RX P n ds ops D0 l (star Dl) e (star (blk b cl' T (0, 0) :: F)) K) : RX P n ds ops D0 (.op i k :: l) (star Dl) e (star Hl) K := by
  refine ⟨o, ho, fun d' q => (by rw [hd] at q; cases q), .inr (.inr ⟨hk, hw, blk b cl T (0, 0), star F, fun v' G => G = blk b cl' T (0, 0), Ent.of_eq hT.eq, fun a w R ha hsat => ?_, fun v' G hG _ => ?_⟩)⟩
  · have hsat' : Sat (sep (blk b cl T (0, 0)) (sep (sep D0 (star Dl)) R)) w := by rw [sep_left, ← sep_assoc]; exact hsat
    have hg := hsat'.pt
    unfold execOp
    simp only [hop, ha.eval hx, ha.eval hy, Sem.run_bind, run_store_ok hs hv hl h1 (Nat.le_of_ble_eq_true hb) hp hg]
    refine ⟨_, ⟨_, rfl, rfl⟩, ?_⟩
    rw [sep_assoc, sep_left]
    refine hsat'.set (o' := .cells cl'.toArray T (0, 0)) ?_ ?_ ?_
    · exact setRow_heap w b _ _ T _ hg
    · intro c hc; exact setRow_other w b c _ hc
    · exact Side.row w b _ _ T _ hg
  · subst hG
    rw [hd]; exact h

/- new blocks -/
theorem rx_new {Dl Hl : List HProp} {cl : List Value} {T : TypeId} {mk : Nat → Value} (hk : k = .f ∨ k = .e)
    (ho : ops[i]? = some o) (hw : wantE ops e o = some true) (hd : o.dst = some d) (hdn : Nat.blt d n = true) (inj : ∀ b b', mk b = mk b' → b = b')
    (hr : ∀ a w, EnvOk n ds e a → (execOp a.eval o).run P w = .ok (.value (mk w.heap.size)) { w with heap := w.heap.push (.cells cl.toArray T) })
    (h : ∀ b, RX P n ds ops D0 l (star Dl) (upd e d (mk b)) (star (blk b cl T (0, 0) :: Hl)) K) : RX P n ds ops D0 (.op i k :: l) (star Dl) e (star Hl) K :=
  ⟨o, ho, hd_of hd hdn, .inr (.inl ⟨hk, _, T, mk, ⟨hw, inj, hr⟩, fun b _ => by rw [hd]; exact h b⟩)⟩
def ptrTo (b : Nat) : Value := .pointer (some ⟨b, 0, none⟩)
theorem rx_alloc {Dl Hl : List HProp} {t : TypeId} {z : List Value} (hk : k = .f ∨ k = .e)
    (ho : ops[i]? = some o) (hw : wantE ops e o = some true) (hd : o.dst = some d) (hdn : Nat.blt d n = true) (hop : o.op = .alloc t) (hz : zeroOf P t = some z)
    (h : ∀ b, RX P n ds ops D0 l (star Dl) (upd e d (.pointer (some ⟨b, 0, none⟩))) (star (blk b z t (0, 0) :: Hl)) K) : RX P n ds ops D0 (.op i k :: l) (star Dl) e (star Hl) K := by
  refine rx_new hk ho hw hd hdn (mk := fun b => .pointer (some ⟨b, 0, none⟩)) (fun b b' q => by injection q with q; injection q with q; injection q) (fun a w ha => ?_) h
  unfold zeroOf at hz
  cases hi : P.info? t with
  | none => rw [hi] at hz; cases hz
  | some ti =>
    rw [hi] at hz
    cases hzz : ti.zero with
    | none => rw [Option.bind_some, hzz] at hz; cases hz
    | some zv =>
      rw [Option.bind_some, hzz] at hz
      cases hz
      unfold execOp
      simp [hop, Instr.alloc, zeroValue, typeInfo, hi, hzz, newVar, newRow]
theorem rx_box {Dl Hl : List HProp} {t : TypeId} {x : Operand} {v : Value} {cl : List Value} (hk : k = .f ∨ k = .e)
    (ho : ops[i]? = some o) (hw : wantE ops e o = some true) (hd : o.dst = some d) (hdn : Nat.blt d n = true) (hop : o.op = .box t x) (hx : ov e x = some v) (hc : v.cells.toList = cl)
    (h : ∀ b, RX P n ds ops D0 l (star Dl) (upd e d (.pointer (some ⟨b, 0, none⟩))) (star (blk b cl t (0, 0) :: Hl)) K) : RX P n ds ops D0 (.op i k :: l) (star Dl) e (star Hl) K := by
  refine rx_new hk ho hw hd hdn (mk := fun b => .pointer (some ⟨b, 0, none⟩)) (fun b b' q => by injection q with q; injection q with q; injection q) (fun a w ha => ?_) h
  subst hc
  unfold execOp
  simp [hop, ha.eval hx, Instr.box, newVar, newRow]

/-- A slice's literal: 'cells' of its elements. -/
def repL (z : List Value) : Nat → List Value
  | 0 => []
  | m + 1 => z ++ repL z m
theorem repL_length (z : List Value) (m : Nat) : (repL z m).length = m * z.length := by
  induction m with
  | zero => simp [repL]
  | succ m ih => simp [repL, ih, Nat.add_mul]; omega
theorem repL_get (z : List Value) : ∀ (m j : Nat), j < m * z.length → (repL z m)[j]? = z[j % z.length]? := by
  intro m
  induction m with
  | zero => intro j h; simp at h
  | succ m ih =>
    intro j h
    rw [repL]
    by_cases hj : j < z.length
    · rw [List.getElem?_append_left hj, Nat.mod_eq_of_lt hj]
    · rw [List.getElem?_append_right (by omega), ih _ (by rw [Nat.add_mul] at h; omega)]
      congr 1
      conv => rhs; rw [show j = j - z.length + z.length by omega]
      rw [Nat.add_mod_right]
def fillE (sz : Nat) : List Value → List (Nat × Value) → Option (List Value)
  | cs, [] => some cs
  | cs, (j, v) :: rest => bif Nat.beq v.cells.toList.length sz && Nat.ble (j * sz + sz) cs.length then fillE sz (putAt cs (j * sz) v.cells.toList) rest else none
theorem fillE_eq {sz : Nat} : ∀ {ps : List (Nat × Value)} {z : Array Value} {cs : List Value}, fillE sz z.toList ps = some cs →
    Instr.fill (fun j => some (j * sz, sz)) z ps = some cs.toArray := by
  intro ps
  induction ps with
  | nil => intro z cs h; cases h; simp [Instr.fill]
  | cons p rest ih =>
    intro z cs h
    obtain ⟨j, v⟩ := p
    simp only [fillE] at h
    unfold Instr.fill
    simp only
    cases hb : (Nat.beq v.cells.toList.length sz && Nat.ble (j * sz + sz) z.toList.length) with
    | false => rw [hb] at h; cases h
    | true =>
      rw [hb] at h
      simp only [Bool.and_eq_true] at hb
      have h1 := Nat.eq_of_beq_eq_true hb.1
      have h2 := Nat.le_of_ble_eq_true hb.2
      rw [Array.length_toList] at h1 h2
      rw [if_neg (by simp [h1]; omega)]
      refine ih ?_
      have := foldl_put v.cells.toList 0 (j * sz) z
      rw [← Array.foldl_toList, Array.toList_zipIdx]
      rw [Nat.add_zero] at this
      rw [this]; exact h
theorem rep_eq {z : List Value} (m : Nat) (hz : 0 < z.length) : ((Array.range (m * z.length)).map (z.toArray[· % z.toArray.size]!)).toList = repL z m := by
  apply List.ext_getElem?
  intro j
  by_cases hj : j < m * z.length
  · rw [repL_get z m j hj]
    have hm : j % z.length < z.length := Nat.mod_lt _ hz
    simp [hj, hm]
  · rw [List.getElem?_eq_none (by simp; omega), List.getElem?_eq_none (by rw [repL_length]; omega)]
theorem rx_bslice {Dl Hl : List HProp} {t E sz bytes m : Nat} {ps : Array (Nat × Operand)} {vs : List (Nat × Value)} {z cl : List Value} (hk : k = .f ∨ k = .e)
    (ho : ops[i]? = some o) (hw : wantE ops e o = some true) (hd : o.dst = some d) (hdn : Nat.blt d n = true) (hop : o.op = .buildSlice t m ps) (ht : slI P t = some (E, sz, bytes))
    (hz : zeroOf P E = some z) (hzl : Nat.beq z.length sz = true) (hsz : Nat.blt 0 sz = true) (hm0 : Nat.blt 0 m = true) (hm : Nat.ble (m * sz) 1000 = true) (hp : parts e ps.toList = some vs) (hf : fillE sz (repL z m) vs = some cl)
    (h : ∀ b, RX P n ds ops D0 l (star Dl) (upd e d (.slice (some ⟨b, 0, none⟩) m m)) (star (blk b cl E (0, 0) :: Hl)) K) : RX P n ds ops D0 (.op i k :: l) (star Dl) e (star Hl) K := by
  refine rx_new hk ho hw hd hdn (mk := fun b => .slice (some ⟨b, 0, none⟩) m m) (fun b b' q => by injection q with q; injection q with q; injection q) (fun a w ha => ?_) h
  obtain ⟨hu, ti, hi, hs, _⟩ := slI_spec ht
  have hzl' := Nat.eq_of_beq_eq_true hzl
  have hsz' : 0 < sz := Nat.le_of_ble_eq_true hsz
  have hm' := Nat.le_of_ble_eq_true hm
  have hm0' : 0 < m := Nat.le_of_ble_eq_true hm0
  unfold zeroOf at hz
  rw [hi, Option.bind_some] at hz
  cases hzz : ti.zero with
  | none => rw [hzz] at hz; cases hz
  | some zv =>
    rw [hzz] at hz
    cases hz
    have hpe := ha.parts hp
    have hpm : (ps.map fun (i, x) => (i, a.eval x)).toList = vs := by rw [Array.toList_map]; exact hpe
    have hzl2 : zv.cells.toList.length = sz := hzl'
    have hre := rep_eq (z := zv.cells.toList) m (by omega)
    rw [hzl2, Array.toArray_toList] at hre
    have hfe := fillE_eq (z := (Array.range (m * sz)).map (zv.cells[· % zv.cells.size]!)) (by rw [hre]; exact hf)
    unfold execOp
    have hnl : ¬ (m * sz > 2 ^ 24) := by omega
    have h0 : ¬ m * sz = 0 := by have := Nat.mul_pos hm0' hsz'; omega
    simp only [hop, Instr.buildSlice, Sem.run_bind, run_underlying hu, Result.andThen_ok, sizeOf, typeInfo, run_program, hi, Sem.run_pure, hs, Sem.run_ite, hnl, if_false, h0, zeroValue, hzz, hpm, hfe, newRow, run_newObj]

theorem rx_bslice0 {Dl Hl : List HProp} {t E sz bytes : Nat} (hk : k = .f ∨ k = .e)
    (ho : ops[i]? = some o) (hw : wantE ops e o = some true) (hd : o.dst = some d) (hdn : Nat.blt d n = true) (hop : o.op = .buildSlice t 0 #[]) (ht : slI P t = some (E, sz, bytes))
    (h : ∀ b, RX P n ds ops D0 l (star Dl) (upd e d (.slice (some ⟨b, 0, none⟩) 0 0)) (star (blk b [] E (0, 0) :: Hl)) K) : RX P n ds ops D0 (.op i k :: l) (star Dl) e (star Hl) K := by
  refine rx_new hk ho hw hd hdn (mk := fun b => .slice (some ⟨b, 0, none⟩) 0 0) (fun b b' q => by injection q with q; injection q with q; injection q) (fun a w ha => ?_) h
  obtain ⟨hu, ti, hi, hs, _⟩ := slI_spec ht
  unfold execOp
  simp only [hop, Instr.buildSlice, Sem.run_bind, run_underlying hu, Result.andThen_ok, sizeOf, typeInfo, run_program, hi, Sem.run_pure, hs, Sem.run_ite, Nat.zero_mul, if_true, newRow]
  simp [Instr.fill]
  have : Array.range 0 = #[] := Array.toList_inj.1 (by simp)
  rw [this, Array.map_empty]

/- calls -/
theorem run_callFunc {f : FuncId} (hc : callable P f = true) (args : Array Value) (w : World) : (callFunc f args).run P w = .ok (.enter f args) w := by
  unfold callable at hc
  split at hc
  · rename_i fn hf
    rw [Bool.and_eq_true] at hc
    have h1 : ¬ fn.name = "runtime.NumGoroutine" := by simpa using hc.1
    obtain ⟨c, hc2⟩ := Option.isSome_iff_exists.1 hc.2
    simp [callFunc, hf, h1, hc2]
  · cases hc
theorem run_call {cv : Operand} {as : Array Operand} {ts : Array TypeId} {f : FuncId} {first cap : Array Value} {vs : List Value} (hop : o.op = .call { callee := .value cv, args := as, argTypes := ts })
    (hcv : ov e cv = some (.func (.func f) first cap)) (has : evals e as.toList = some vs) (hc : callable P f = true) {a : Act} (ha : EnvOk n ds e a) (w : World) :
    (execOp a.eval o).run P w = .ok (.enter f (first.toList ++ vs ++ cap.toList).toArray) w := by
  have hq : (first.toList ++ vs ++ cap.toList).toArray = first ++ vs.toArray ++ cap := Array.toList_inj.1 (by simp)
  rw [hq]
  have hm := ha.evals has
  have hm' : as.map a.eval = vs.toArray := Array.toList_inj.1 (by rw [Array.toList_map]; exact hm)
  unfold execOp
  simp only [hop, resolve, ha.eval hcv, hm', Deferred.ofValue, Sem.run_bind, Sem.run_pure, Result.andThen_ok, invoke, run_callFunc hc]

/-- A call: it takes from what is at hand and from what stays; what stays comes back. -/
theorem rx_call {Dl Hl F : List HProp} {cv : Operand} {as : Array Operand} {ts : Array TypeId} {f : FuncId} {first cap : Array Value} {vs : List Value} {args : List Value} {Pre : List HProp}
    {Post : Value → List HProp → Prop} (hk : k = .e)
    (ho : ops[i]? = some o) (hw : wantE ops e o = some true) (hd : o.dst = some d) (hdn : Nat.blt d n = true)
    (hop : o.op = .call { callee := .value cv, args := as, argTypes := ts }) (hcv : ov e cv = some (.func (.func f) first cap)) (has : evals e as.toList = some vs) (hc : callable P f = true)
    (hargs : first.toList ++ vs ++ cap.toList = args) (hspec : Spec P f args.toArray Pre Post) (hT : Take (Dl ++ Hl) Pre F)
    (h : ∀ v Hn, Post v Hn → ∃ Hr, Take (Hn ++ F) Dl Hr ∧ RX P n ds ops D0 l (star Dl) (upd e d v) (star Hr) K) : RX P n ds ops D0 (.op i k :: l) (star Dl) e (star Hl) K := by
  subst hargs
  refine ⟨o, ho, hd_of hd hdn, .inr (.inr ⟨hk, hw, star Hl, emp, fun v G => ∃ Hn Hr, Post v Hn ∧ Take (Hn ++ F) Dl Hr ∧ G = star Hr ∧ RX P n ds ops D0 l (star Dl) (upd e d v) (star Hr) K, Ent.of_eq (sep_emp _).symm,
    fun a w R ha hs => ?_, fun v G hG _ => ?_⟩)⟩
  · rw [run_call hop hcv has hc ha w]
    rw [sep_assoc D0, ← star_append, hT.eq, sep_left D0, sep_assoc] at hs
    refine (hspec (sep (sep D0 (star F)) R) w hs).mono ?_
    rintro _ w' ⟨v, Hn, rfl, hp, hs'⟩
    obtain ⟨Hr, hr1, hr2⟩ := h v Hn hp
    refine ⟨v, rfl, sep (sep D0 (star Dl)) (star Hr), ⟨_, rfl, Hn, Hr, hp, hr1, rfl, hr2⟩, ?_⟩
    rw [← sep_assoc, sep_left, ← star_append, hr1.eq, ← sep_assoc] at hs'
    exact hs'
  · obtain ⟨Hn, Hr, _, _, rfl, hr⟩ := hG
    rw [sep_emp, hd]; exact hr
/-- A call that takes nothing of what stays. -/
theorem rx_callH {Dl Hl F : List HProp} {cv : Operand} {as : Array Operand} {ts : Array TypeId} {f : FuncId} {first cap : Array Value} {vs : List Value} {args : List Value} {Pre : List HProp}
    {Post : Value → List HProp → Prop} (hk : k = .e)
    (ho : ops[i]? = some o) (hw : wantE ops e o = some true) (hd : o.dst = some d) (hdn : Nat.blt d n = true)
    (hop : o.op = .call { callee := .value cv, args := as, argTypes := ts }) (hcv : ov e cv = some (.func (.func f) first cap)) (has : evals e as.toList = some vs) (hc : callable P f = true)
    (hargs : first.toList ++ vs ++ cap.toList = args) (hspec : Spec P f args.toArray Pre Post) (hT : Take Hl Pre F)
    (h : ∀ v Hn, Post v Hn → RX P n ds ops D0 l (star Dl) (upd e d v) (star (Hn ++ F)) K) : RX P n ds ops D0 (.op i k :: l) (star Dl) e (star Hl) K := by
  subst hargs
  refine ⟨o, ho, hd_of hd hdn, .inr (.inr ⟨hk, hw, star Pre, star F, fun v G => ∃ Hn, Post v Hn ∧ G = star Hn, Ent.of_eq hT.eq, fun a w R ha hs => ?_, fun v G hG _ => ?_⟩)⟩
  · rw [run_call hop hcv has hc ha w]
    rw [sep_comm (sep D0 (star Dl)), sep_assoc] at hs
    refine (hspec (sep (sep D0 (star Dl)) R) w hs).mono ?_
    rintro _ w' ⟨v, Hn, rfl, hp, hs'⟩
    refine ⟨v, rfl, sep (sep D0 (star Dl)) (star Hn), ⟨_, rfl, Hn, hp, rfl⟩, ?_⟩
    rw [sep_comm (sep D0 (star Dl)), sep_assoc]; exact hs'
  · obtain ⟨Hn, hp, rfl⟩ := hG
    rw [hd, ← star_append]; exact h v Hn hp
/-- A call that only reads what stays, and answers one value. -/
theorem rx_callV {Dl Hl F : List HProp} {cv : Operand} {as : Array Operand} {ts : Array TypeId} {f : FuncId} {first cap : Array Value} {vs : List Value} {args : List Value} {Pre : List HProp} {v : Value} (hk : DD D0 (star Dl) k = sep D0 (star Dl))
    (ho : ops[i]? = some o) (hw : wantE ops e o = some true) (hd : o.dst = some d) (hdn : Nat.blt d n = true)
    (hop : o.op = .call { callee := .value cv, args := as, argTypes := ts }) (hcv : ov e cv = some (.func (.func f) first cap)) (has : evals e as.toList = some vs) (hc : callable P f = true)
    (hi : P.inits.idxOf? f = none) (hargs : first.toList ++ vs ++ cap.toList = args) (hspec : Spec P f args.toArray Pre fun v' Hn => v' = v ∧ Hn = Pre) (hT : Take Dl Pre F)
    (h : RX P n ds ops D0 l (star Dl) (upd e d v) (star Hl) K) : RX P n ds ops D0 (.op i k :: l) (star Dl) e (star Hl) K := by
  subst hargs
  refine ⟨o, ho, hd_of hd hdn, .inl ⟨v, .inl ⟨hw, fun a w R ha hs => ?_⟩, by rw [hd]; exact h⟩⟩
  rw [hk] at hs ⊢
  rw [run_call hop hcv has hc ha w]
  rw [hT.eq, sep_left D0, sep_assoc] at hs
  refine ⟨hi, (hspec (sep (sep D0 (star F)) R) w hs).mono ?_⟩
  rintro _ w' ⟨v', Hn, rfl, ⟨rfl, rfl⟩, hs'⟩
  refine ⟨rfl, ?_⟩
  rw [hT.eq, sep_left D0, sep_assoc]; exact hs'
end
end Go.Sl
/- The engine, eighth part: slices that are owned, append, make; what a function's results are. -/
namespace Go.Sl
open Go

/-- A slice of its own: nil, or the head of a block; its elements' cells, one behind the other. -/
def SlOwn (E sz : Nat) (v : Value) (xs : List Value) : HProp := fun h =>
  (∀ u ∈ xs, u.oneCell' = true) ∧ ((v = .slice none 0 0 ∧ xs = [] ∧ h = Hp.emp) ∨
    ∃ b len cap rest, v = .slice (some ⟨b, 0, none⟩) len cap ∧ xs.length = len * sz ∧ xs.length + rest.length = cap * sz ∧ len ≤ cap ∧ blk b (xs ++ rest) E (0, 0) h)

section
variable {P : Program} {n : Nat} {ds : List Deferred} {ops : Array Oper} {K : Env → HProp → Prop} {e : Env} {i : Nat} {k : Kd} {l : List Item} {o : Oper} {d : Nat} {D0 : HProp}

theorem SlOwn.nil (E sz : Nat) : EntS emp (SlOwn E sz (.slice none 0 0) []) := EntS.of_ent fun h hh => ⟨fun _ q => (by cases q), .inl ⟨rfl, rfl, hh⟩⟩
theorem SlOwn.mk {E sz b len cap : Nat} {xs rest : List Value} (h1 : ∀ u ∈ xs, u.oneCell' = true) (hl : xs.length = len * sz) (hc : xs.length + rest.length = cap * sz) (hlc : len ≤ cap) :
    EntS (blk b (xs ++ rest) E (0, 0)) (SlOwn E sz (.slice (some ⟨b, 0, none⟩) len cap) xs) :=
  EntS.of_ent fun h hh => ⟨h1, .inr ⟨b, len, cap, rest, rfl, hl, hc, hlc, hh⟩⟩

theorem Sat.slown {E sz : Nat} {v : Value} {xs : List Value} {R : HProp} {w : World} (hs : Sat (sep (SlOwn E sz v xs) R) w) :
    (∀ u ∈ xs, u.oneCell' = true) ∧ ((v = .slice none 0 0 ∧ xs = [] ∧ Sat R w) ∨
    ∃ b len cap rest, v = .slice (some ⟨b, 0, none⟩) len cap ∧ xs.length = len * sz ∧ xs.length + rest.length = cap * sz ∧ len ≤ cap ∧ Sat (sep (blk b (xs ++ rest) E (0, 0)) R) w) := by
  obtain ⟨g, ⟨f, r, dj, e1, ⟨h1, h2⟩, hr⟩, z⟩ := hs
  refine ⟨h1, ?_⟩
  rcases h2 with ⟨a, b, c⟩ | ⟨b, len, cap, rest, a1, a2, a3, a4, a5⟩
  · refine .inl ⟨a, b, g, ?_, z⟩
    rw [c, Hp.emp_join] at e1; rw [e1]; exact hr
  · exact .inr ⟨b, len, cap, rest, a1, a2, a3, a4, g, ⟨f, r, dj, e1, a5, hr⟩, z⟩

theorem slown_shape {E sz : Nat} {v : Value} {xs : List Value} {R : HProp} {w : World} (hs : Sat (sep (SlOwn E sz v xs) R) w) : ∃ p m cp, v = .slice p m cp ∧ xs.length = m * sz := by
  obtain ⟨_, q | ⟨b, len, cap, rest, a1, a2, _, _, _⟩⟩ := hs.slown
  · exact ⟨none, 0, 0, q.1, by rw [q.2.1]; simp⟩
  · exact ⟨_, len, cap, a1, a2⟩

theorem SW.slown {E sz : Nat} {v : Value} {xs : List Value} {Hl F : List HProp} {c : Code} {K : Exit → Env → HProp → Prop} (hT : Take1 Hl (SlOwn E sz v xs) F)
    (h0 : v = .slice none 0 0 → xs = [] → SW P n ds c e (star F) K)
    (h1 : ∀ b len cap rest, v = .slice (some ⟨b, 0, none⟩) len cap → xs.length = len * sz → xs.length + rest.length = cap * sz → len ≤ cap → (∀ u ∈ xs, u.oneCell' = true) →
      SW P n ds c e (star (blk b (xs ++ rest) E (0, 0) :: F)) K) : SW P n ds c e (star Hl) K := by
  intro a w R ha hs Q hq
  rw [hT.eq, sep_assoc] at hs
  obtain ⟨h2, q | ⟨b, len, cap, rest, a1, a2, a3, a4, a5⟩⟩ := hs.slown
  · exact h0 q.1 q.2.1 a w R ha q.2.2 Q hq
  · exact h1 b len cap rest a1 a2 a3 a4 h2 a w R ha (by rw [show star (blk b (xs ++ rest) E (0, 0) :: F) = sep (blk b (xs ++ rest) E (0, 0)) (star F) from rfl, sep_assoc]; exact a5) Q hq

theorem slI_zero {t E sz bytes : Nat} {z : List Value} (h : slI P t = some (E, sz, bytes)) (hz : zeroOf P E = some z) :
    P.underlying t = some (.slice E) ∧ ∃ i zv, P.info? E = some i ∧ i.size = sz ∧ i.bytes = bytes ∧ i.zero = some zv ∧ zv.cells.toList = z := by
  obtain ⟨hu, ti, hi, hs, hb⟩ := slI_spec h
  unfold zeroOf at hz
  rw [hi, Option.bind_some] at hz
  cases hzz : ti.zero with
  | none => rw [hzz] at hz; cases hz
  | some zv => rw [hzz] at hz; cases hz; exact ⟨hu, ti, zv, hi, hs, hb, hzz, rfl⟩

theorem append_ok {t ty E sz bytes : Nat} {z : List Value} (ht : slI P t = some (E, sz, bytes)) (hz : zeroOf P E = some z) (hzl : z.length = sz) (hsz : 0 < sz) (hby : bytes ≤ 1000)
    {v : Value} {xs ys : List Value} {R : HProp} {w : World} (hs : Sat (sep (SlOwn E sz v xs) R) w) (h1 : ∀ u ∈ ys, u.oneCell' = true) {ad : Addr} {m c : Nat} (hl : ys.length = m * sz)
    (hy : ∀ j u, ys[j]? = some u → w.cell? (ad.add j) = some u) (hroom : xs.length + ys.length ≤ 1000000000) :
    ∃ v' w', (Builtin.append_ #[t, t] ty #[v, .slice (some ad) m c]).run P w = .ok v' w' ∧ Sat (sep (SlOwn E sz v' (xs ++ ys)) R) w' := by
  obtain ⟨hu, ti, zv, hi, hts, htb, hzz, hzc⟩ := slI_zero ht hz
  subst hts
  obtain ⟨hx1, h⟩ := hs.slown
  have hall : ∀ u ∈ xs ++ ys, u.oneCell' = true := fun u q => by rcases List.mem_append.1 q with q | q; · exact hx1 u q
                                                                 · exact h1 u q
  have hzs : zv.cells.size = ti.size := by rw [← Array.length_toList, hzc, hzl]
  have hm : m ≤ ys.length := by rw [hl]; exact Nat.le_mul_of_pos_right _ hsz
  have hbm : ∀ q, q ≤ 1000000000 → q * ti.bytes ≤ 140737488355328 := fun q hq => by
    rw [htb]
    calc q * bytes ≤ 1000000000 * 1000 := Nat.mul_le_mul hq hby
      _ ≤ _ := by decide
  have zl : ∀ q, (Builtin.zeroCells zv.cells q).toList.length = q * ti.size := fun q => by rw [Array.length_toList, size_zeroCells, hzs]
  have fin : ∀ (cap len : Nat) (cs : Array Value), cs.toList = xs ++ ys ++ (Builtin.zeroCells zv.cells (cap - len)).toList → (xs ++ ys).length = len * ti.size → len ≤ cap → ∀ w' : World, w'.heap = w.heap.push (.cells cs E) → w'.os = w.os ∧ w'.tape = w.tape ∧ w'.output = w.output → Sat R w →
      Sat (sep (SlOwn E ti.size (.slice (some ⟨w.heap.size, 0, none⟩) len cap) (xs ++ ys)) R) w' := by
    intro cap len cs hcs hlen hlc w' hw' ho hR
    have := hR.new (o := .cells cs E) hw' (Side.pushed hw' ho.1 ho.2.1 ho.2.2)
    have hcs' : cs = (xs ++ ys ++ (Builtin.zeroCells zv.cells (cap - len)).toList).toArray := Array.toList_inj.1 (by rw [hcs])
    rw [hcs'] at this
    refine SlOwn.mk hall hlen ?_ hlc R w' this
    rw [zl, hlen, ← Nat.add_mul]; congr 1; omega
  rcases h with ⟨rfl, rfl, hR⟩ | ⟨b, len, cap, rest, rfl, a2, a3, a4, a5⟩
  · by_cases hm0 : m = 0
    · subst hm0
      have : ys = [] := List.eq_nil_of_length_eq_zero (by simpa using hl)
      subst this
      refine ⟨.slice none 0 0, w, ?_, by simpa using hs⟩
      simp [Builtin.append_, run_underlying hu, sizeOf, typeInfo, hi, Builtin.lenOf, Builtin.firstCells, loadCells, loadCellsFrom]
    · simp only [List.length_nil, Nat.zero_add] at hroom
      have hr := run_append_nil (P := P) w t ty E ti zv hu hi hzz ad m c ys hl hy (by omega) (by omega) (Nat.le_trans (hbm m (by omega)) (by decide))
      refine ⟨_, _, hr, ?_⟩
      have hge := grownCap_ge w m 0 E
      exact fin _ m _ (by simp) (by simpa using hl) hge _ rfl ⟨rfl, rfl, rfl⟩ hR
  · have hlen : len ≤ xs.length := by rw [a2]; exact Nat.le_mul_of_pos_right _ hsz
    have hg := a5.pt
    have hx : ∀ j u, xs[j]? = some u → w.cell? ((⟨b, 0, none⟩ : Addr).add j) = some u := fun j u hj => by
      rw [add_none, Nat.zero_add, blk_cell a5, List.getElem?_append_left (List.getElem?_eq_some_iff.1 hj).1]; exact hj
    by_cases hroom' : len + m ≤ cap
    · have hfit : len * ti.size + ys.length ≤ ((xs ++ rest).toArray).size := by
        simp only [List.size_toArray, List.length_append]
        rw [a3, hl, ← Nat.add_mul]; exact Nat.mul_le_mul_right _ hroom'
      have hr := run_append_room (P := P) w t ty E ti hu hi b len cap _ hg ad m c ys hl hy h1 hroom' hfit
      refine ⟨_, _, hr, ?_⟩
      have e1 : ((xs ++ rest).toArray.toList.take (len * ti.size) ++ ys ++ (xs ++ rest).toArray.toList.drop (len * ti.size + ys.length)) = (xs ++ ys) ++ rest.drop ys.length := by
        rw [← a2]; simp
      have hs2 := a5.set (o' := .cells ((xs ++ ys) ++ rest.drop ys.length).toArray E (0, 0)) (w' := w.setRow b ((xs ++ ys) ++ rest.drop ys.length).toArray) (setRow_heap w b _ _ E _ hg) (fun c hc => setRow_other w b c _ hc) (Side.row w b _ _ E _ hg)
      rw [e1]
      refine SlOwn.mk hall ?_ ?_ hroom' R _ hs2
      · rw [List.length_append, a2, hl, Nat.add_mul]
      · rw [List.length_append, List.length_drop]
        have : ys.length ≤ rest.length := by
          have h3 := hfit
          simp only [List.size_toArray, List.length_append] at h3
          omega
        omega
    · have hr := run_append_grow (P := P) w t ty E ti zv hu hi hzz ⟨b, 0, none⟩ len cap xs a2 hx ad m c ys hl hy (by omega) (by omega) (growslice_fits (by omega) (hbm (len + m) (by omega)))
      refine ⟨_, _, hr, ?_⟩
      have hge := grownCap_ge w (len + m) cap E
      exact fin _ (len + m) _ (by simp) (by rw [List.length_append, a2, hl, Nat.add_mul]) hge _ rfl ⟨rfl, rfl, rfl⟩ a5.right

/-- 'append(v, x...)', x lying in a block. -/
theorem rx_appE {Dl Hl F : List HProp} {x y : Operand} {t E sz bytes : Nat} {z : List Value} {v : Value} {xs ys : List Value} {b off m c : Nat} {cl : List Value} {T : TypeId} {fz : Nat × Nat} (hk : k = .e)
    (ho : ops[i]? = some o) (hw : wantE ops e o = some true) (hd : o.dst = some d) (hdn : Nat.blt d n = true) (hop : o.op = .call { callee := .builtin .append, args := #[x, y], argTypes := #[t, t] })
    (ht : slI P t = some (E, sz, bytes)) (hz : zeroOf P E = some z) (hzl : Nat.beq z.length sz = true) (hsz : Nat.blt 0 sz = true) (hby : Nat.ble bytes 1000 = true)
    (hx : ov e x = some v) (hy : ov e y = some (.slice (some ⟨b, off, none⟩) m c)) (hT : Ent (star Hl) (sep (sep (SlOwn E sz v xs) (blk b cl T fz)) (star F))) (hys : (cl.drop off).take (m * sz) = ys) (hl : ys.length = m * sz)
    (h1 : ∀ u ∈ ys, u.oneCell' = true) (hroom : xs.length + ys.length ≤ 1000000000)
    (h : ∀ p m cp, (xs ++ ys).length = m * sz → RX P n ds ops D0 l (star Dl) (upd e d (.slice p m cp)) (star (SlOwn E sz (.slice p m cp) (xs ++ ys) :: blk b cl T fz :: F)) K) : RX P n ds ops D0 (.op i k :: l) (star Dl) e (star Hl) K := by
  refine ⟨o, ho, hd_of hd hdn, .inr (.inr ⟨hk, hw, sep (SlOwn E sz v xs) (blk b cl T fz), star F, fun v' G => (∃ p m cp, v' = .slice p m cp ∧ (xs ++ ys).length = m * sz) ∧ G = sep (SlOwn E sz v' (xs ++ ys)) (blk b cl T fz), hT, fun a w R ha hs => ?_, fun v' G hG _ => ?_⟩)⟩
  · have hs' : Sat (sep (SlOwn E sz v xs) (sep (blk b cl T fz) (sep (sep D0 (star Dl)) R))) w := by
      rw [← sep_assoc, sep_left, ← sep_assoc]; exact hs
    have hs2 : Sat (sep (blk b cl T fz) (sep (SlOwn E sz v xs) (sep (sep D0 (star Dl)) R))) w := by rw [sep_left]; exact hs'
    obtain ⟨v', w', hr, hs3⟩ := append_ok (P := P) (ty := o.type) (ad := ⟨b, off, none⟩) (m := m) (c := c) ht hz (Nat.eq_of_beq_eq_true hzl) (Nat.le_of_ble_eq_true hsz) (Nat.le_of_ble_eq_true hby) hs' h1 hl (fun j u hj => by
      rw [add_none, blk_cell hs2]
      rw [← hys, List.getElem?_take] at hj
      split at hj
      · rw [List.getElem?_drop] at hj; exact hj
      · cases hj) hroom
    have hrun : (execOp a.eval o).run P w = .ok (.value v') w' := by
      unfold execOp
      simp [hop, resolve, ha.eval hx, ha.eval hy, invoke, builtin, hr]
    rw [hrun]
    refine ⟨_, ⟨_, rfl, slown_shape hs3, rfl⟩, ?_⟩
    rw [← sep_assoc, sep_left, ← sep_assoc] at hs3; exact hs3
  · obtain ⟨⟨p, m', cp, rfl, hm⟩, rfl⟩ := hG
    rw [hd, sep_assoc]; exact h p m' cp hm

/-- The same, where both are taken. -/
theorem rx_app {Dl Hl F : List HProp} {x y : Operand} {t E sz bytes : Nat} {z : List Value} {v : Value} {xs ys : List Value} {b off m c : Nat} {cl : List Value} {T : TypeId} {fz : Nat × Nat} (hk : k = .e)
    (ho : ops[i]? = some o) (hw : wantE ops e o = some true) (hd : o.dst = some d) (hdn : Nat.blt d n = true) (hop : o.op = .call { callee := .builtin .append, args := #[x, y], argTypes := #[t, t] })
    (ht : slI P t = some (E, sz, bytes)) (hz : zeroOf P E = some z) (hzl : Nat.beq z.length sz = true) (hsz : Nat.blt 0 sz = true) (hby : Nat.ble bytes 1000 = true)
    (hx : ov e x = some v) (hy : ov e y = some (.slice (some ⟨b, off, none⟩) m c)) (hT : Take Hl [SlOwn E sz v xs, blk b cl T fz] F) (hys : (cl.drop off).take (m * sz) = ys) (hl : ys.length = m * sz)
    (h1 : ∀ u ∈ ys, u.oneCell' = true) (hroom : xs.length + ys.length ≤ 1000000000)
    (h : ∀ p m cp, (xs ++ ys).length = m * sz → RX P n ds ops D0 l (star Dl) (upd e d (.slice p m cp)) (star (SlOwn E sz (.slice p m cp) (xs ++ ys) :: blk b cl T fz :: F)) K) : RX P n ds ops D0 (.op i k :: l) (star Dl) e (star Hl) K :=
  rx_appE hk ho hw hd hdn hop ht hz hzl hsz hby hx hy (Ent.of_eq (by rw [hT.eq]; show sep (sep _ (sep _ emp)) _ = _; rw [sep_emp])) hys hl h1 hroom h

/-- 'append(v, x...)', x a slice of its own. -/
theorem rx_appSE {Dl Hl F : List HProp} {x y : Operand} {t E sz bytes : Nat} {z : List Value} {v vy : Value} {xs ys : List Value} (hk : k = .e)
    (ho : ops[i]? = some o) (hw : wantE ops e o = some true) (hd : o.dst = some d) (hdn : Nat.blt d n = true) (hop : o.op = .call { callee := .builtin .append, args := #[x, y], argTypes := #[t, t] })
    (ht : slI P t = some (E, sz, bytes)) (hz : zeroOf P E = some z) (hzl : Nat.beq z.length sz = true) (hsz : Nat.blt 0 sz = true) (hby : Nat.ble bytes 1000 = true)
    (hx : ov e x = some v) (hy : ov e y = some vy) (hT : Ent (star Hl) (sep (sep (SlOwn E sz v xs) (SlOwn E sz vy ys)) (star F))) (hroom : xs.length + ys.length ≤ 1000000000)
    (h : ∀ p m cp, (xs ++ ys).length = m * sz → RX P n ds ops D0 l (star Dl) (upd e d (.slice p m cp)) (star (SlOwn E sz (.slice p m cp) (xs ++ ys) :: SlOwn E sz vy ys :: F)) K) : RX P n ds ops D0 (.op i k :: l) (star Dl) e (star Hl) K := by
  refine ⟨o, ho, hd_of hd hdn, .inr (.inr ⟨hk, hw, sep (SlOwn E sz v xs) (SlOwn E sz vy ys), star F, fun v' G => (∃ p m cp, v' = .slice p m cp ∧ (xs ++ ys).length = m * sz) ∧ G = sep (SlOwn E sz v' (xs ++ ys)) (SlOwn E sz vy ys), hT, fun a w R ha hs => ?_, fun v' G hG _ => ?_⟩)⟩
  · have hs' : Sat (sep (SlOwn E sz v xs) (sep (SlOwn E sz vy ys) (sep (sep D0 (star Dl)) R))) w := by
      rw [← sep_assoc, sep_left, ← sep_assoc]; exact hs
    have hs2 : Sat (sep (SlOwn E sz vy ys) (sep (SlOwn E sz v xs) (sep (sep D0 (star Dl)) R))) w := by rw [sep_left]; exact hs'
    have hrun : ∃ v' w', (execOp a.eval o).run P w = .ok (.value v') w' ∧ Sat (sep (SlOwn E sz v' (xs ++ ys)) (sep (SlOwn E sz vy ys) (sep (sep D0 (star Dl)) R))) w' := by
      obtain ⟨h1, q | ⟨b, len, cap, rest, rfl, a2, a3, a4, a5⟩⟩ := hs2.slown
      · obtain ⟨rfl, rfl, hR⟩ := q
        refine ⟨v, w, ?_, by rw [List.append_nil]; exact hs'⟩
        obtain ⟨hu, ti, hi, hts, _⟩ := slI_spec ht
        obtain ⟨_, q2 | ⟨b, len, cap, rest, rfl, a2, a3, a4, a5⟩⟩ := hs'.slown
        · obtain ⟨rfl, _, _⟩ := q2
          unfold execOp
          simp [hop, resolve, ha.eval hx, ha.eval hy, invoke, builtin, Builtin.append_, run_underlying hu, sizeOf, typeInfo, hi, Builtin.lenOf, Builtin.firstCells, loadCells]
        · unfold execOp
          simp [hop, resolve, ha.eval hx, ha.eval hy, invoke, builtin, Builtin.append_, run_underlying hu, sizeOf, typeInfo, hi, Builtin.lenOf, Builtin.firstCells, loadCells, a4, storeCells]
      · obtain ⟨v', w', hr, hs3⟩ := append_ok (P := P) (ty := o.type) (ad := ⟨b, 0, none⟩) (m := len) (c := cap) ht hz (Nat.eq_of_beq_eq_true hzl) (Nat.le_of_ble_eq_true hsz) (Nat.le_of_ble_eq_true hby) hs' h1 a2 (fun j u hj => by
          rw [add_none, Nat.zero_add, blk_cell a5, List.getElem?_append_left (List.getElem?_eq_some_iff.1 hj).1]; exact hj) hroom
        refine ⟨v', w', ?_, hs3⟩
        unfold execOp
        simp [hop, resolve, ha.eval hx, ha.eval hy, invoke, builtin, hr]
    obtain ⟨v', w', hr, hs3⟩ := hrun
    rw [hr]
    refine ⟨_, ⟨_, rfl, slown_shape hs3, rfl⟩, ?_⟩
    rw [← sep_assoc, sep_left, ← sep_assoc] at hs3; exact hs3
  · obtain ⟨⟨p, m', cp, rfl, hm⟩, rfl⟩ := hG
    rw [hd, sep_assoc]; exact h p m' cp hm
/-- The same, where both are taken. -/
theorem rx_appS {Dl Hl F : List HProp} {x y : Operand} {t E sz bytes : Nat} {z : List Value} {v vy : Value} {xs ys : List Value} (hk : k = .e)
    (ho : ops[i]? = some o) (hw : wantE ops e o = some true) (hd : o.dst = some d) (hdn : Nat.blt d n = true) (hop : o.op = .call { callee := .builtin .append, args := #[x, y], argTypes := #[t, t] })
    (ht : slI P t = some (E, sz, bytes)) (hz : zeroOf P E = some z) (hzl : Nat.beq z.length sz = true) (hsz : Nat.blt 0 sz = true) (hby : Nat.ble bytes 1000 = true)
    (hx : ov e x = some v) (hy : ov e y = some vy) (hT : Take Hl [SlOwn E sz v xs, SlOwn E sz vy ys] F) (hroom : xs.length + ys.length ≤ 1000000000)
    (h : ∀ p m cp, (xs ++ ys).length = m * sz → RX P n ds ops D0 l (star Dl) (upd e d (.slice p m cp)) (star (SlOwn E sz (.slice p m cp) (xs ++ ys) :: SlOwn E sz vy ys :: F)) K) : RX P n ds ops D0 (.op i k :: l) (star Dl) e (star Hl) K :=
  rx_appSE hk ho hw hd hdn hop ht hz hzl hsz hby hx hy (Ent.of_eq (by rw [hT.eq]; show sep (sep _ (sep _ emp)) _ = _; rw [sep_emp])) hroom h

/-- 'make([]T, l)' -/
theorem rx_make {Dl Hl : List HProp} {t E sz bytes : Nat} {x y : Operand} {z : List Value} {kk kk' : IntKind} {j jc : Int} (hk : k = .f ∨ k = .e)
    (ho : ops[i]? = some o) (hw : wantE ops e o = some true) (hd : o.dst = some d) (hdn : Nat.blt d n = true) (hop : o.op = .makeSlice t x y) (ht : slI P t = some (E, sz, bytes))
    (hz : zeroOf P E = some z) (hzl : Nat.beq z.length sz = true) (hsz : Nat.blt 0 sz = true) (hby : Nat.ble bytes 1000 = true)
    (hx : ov e x = some (.int kk j)) (hy : ov e y = some (.int kk' jc)) (h0 : 0 ≤ j) (h1 : j ≤ jc) (h2 : jc ≤ 1000000000)
    (h : ∀ b, RX P n ds ops D0 l (star Dl) (upd e d (.slice (some ⟨b, 0, none⟩) j.toNat jc.toNat)) (star (blk b (repL z jc.toNat) E (0, 0) :: Hl)) K) : RX P n ds ops D0 (.op i k :: l) (star Dl) e (star Hl) K := by
  refine rx_new hk ho hw hd hdn (mk := fun b => .slice (some ⟨b, 0, none⟩) j.toNat jc.toNat) (fun b b' q => by injection q with q; injection q with q; injection q) (fun a w ha => ?_) h
  obtain ⟨hu, ti, zv, hi, hts, htb, hzz, hzc⟩ := slI_zero ht hz
  have hz' := Nat.eq_of_beq_eq_true hzl
  have hs' := Nat.le_of_ble_eq_true hsz
  have hb' := Nat.le_of_ble_eq_true hby
  have w1 : IntKind.i64.wrap j = j := IntWalk.i64_in _ ⟨by omega, by omega⟩
  have w2 : IntKind.i64.wrap jc = jc := IntWalk.i64_in _ ⟨by omega, by omega⟩
  have hle : (bytes : Int) * jc ≤ 1000 * 1000000000 := Int.mul_le_mul (by omega) h2 (by omega) (by omega)
  have hnt : ¬ (281474976710656 < (bytes : Int) * jc) := by omega
  have hre := rep_eq (z := z) jc.toNat (by omega)
  rw [hz', ← hzc, Array.toArray_toList] at hre
  have hre' : (Array.range (jc.toNat * sz)).map (zv.cells[· % zv.cells.size]!) = (repL zv.cells.toList jc.toNat).toArray := Array.toList_inj.1 (by rw [hre])
  have hneg : ¬ jc < 0 := by omega
  have hneg' : ¬ j < 0 := by omega
  have hgt : ¬ j > jc := by omega
  rw [← hzc]
  unfold execOp
  by_cases hz0 : jc.toNat * sz = 0
  · have hj0 : jc.toNat = 0 := by rcases Nat.mul_eq_zero.1 hz0 with q | q; · exact q
                                  · omega
    have hr0 : repL zv.cells.toList jc.toNat = [] := by rw [hj0]; rfl
    have hrg : (Array.range 0).map (fun x => (default : Value)) = #[] := Array.toList_inj.1 (by simp)
    simp only [hop, ha.eval hx, ha.eval hy, Instr.makeSlice, Sem.run_bind, run_underlying hu, Result.andThen_ok, asInt, asIntOf, Sem.run_pure, typeInfo, run_program, hi, htb, w1, w2, sizeOf, hts, hz0, if_true, newRow, hr0]
    simp [hneg, hneg', hgt, hnt, hi, hts, hz0, hrg]
  · simp only [hop, ha.eval hx, ha.eval hy, Instr.makeSlice, Sem.run_bind, run_underlying hu, Result.andThen_ok, asInt, asIntOf, Sem.run_pure, typeInfo, run_program, hi, htb, w1, w2, sizeOf, hts, hz0, if_false, newRow, zeroValue, hzz, hre']
    simp [hneg, hneg', hgt, hnt, hi, hts, hz0, hzz, hre']

/- results -/
inductive RV (P : Program) (e : Env) (Hl : List HProp) : List ResultVar → List Value → Prop
  | nil : RV P e Hl [] []
  | tmp {t : Tmp} {rs : List ResultVar} {vs : List Value} {v : Value} : e t = some v → RV P e Hl rs vs → RV P e Hl (.tmp t :: rs) (v :: vs)
  | cell {a : Tmp} {t : TypeId} {rs : List ResultVar} {vs cl : List Value} {v : Value} {b off : Nat} {T : TypeId} {fz : Nat × Nat} {F : List HProp} :
      e a = some (.pointer (some ⟨b, off, none⟩)) → Take1 Hl (blk b cl T fz) F → LdOk P t cl off v → RV P e Hl rs vs → RV P e Hl (.cell a t :: rs) (v :: vs)
def tup : List Value → Value
  | [v] => v
  | vs => .tuple vs.toArray
theorem RV.is {fn : Func} {Hl : List HProp} {vs : List Value} (h : RV P e Hl fn.results.toList vs) : ResIs P n ds fn e (star Hl) (tup vs) := by
  intro a w R ha hs
  have key : ∀ {rs : List ResultVar} {vs : List Value}, RV P e Hl rs vs →
      (rs.mapM fun | .tmp t => pure (a.tmps.getD t undef) | .cell ad t => do loadVar t (← asAddr (a.tmps.getD ad undef)) : Sem (List Value)).run P w = .ok vs w := by
    intro rs vs h
    induction h with
    | nil => rfl
    | tmp h1 _ ih =>
      have := ha.get _ _ h1
      rw [List.mapM_cons]
      simp only [Sem.run_bind, Sem.run_pure, Result.andThen_ok, Array.getD_eq_getD_getElem?, this, Option.getD_some] at ih ⊢
      rw [ih]; rfl
    | cell h1 h2 h3 _ ih =>
      have := ha.get _ _ h1
      rw [List.mapM_cons]
      have hl := run_load_ok h3 (by rw [h2.eq, sep_assoc] at hs; exact hs)
      simp only [Instr.loadAt, Instr.sureAddr, Sem.run_bind, Sem.run_pure, Result.andThen_ok] at hl
      simp only [Sem.run_bind, Sem.run_pure, Result.andThen_ok, Array.getD_eq_getD_getElem?, this, Option.getD_some, asAddr] at ih ⊢
      rw [hl]
      simp only [Result.andThen_ok]
      rw [ih]; rfl
  have hk := key h
  unfold results
  rw [Array.mapM_eq_mapM_toList]
  simp only [Sem.run_bind, Sem.run_map]
  erw [hk]
  simp only [Result.andThen_ok, Sem.run_pure]
  congr 1
  unfold tup
  split
  · rename_i h1
    split
    · simp
    · rename_i h2
      exfalso
      simp only [List.size_toArray] at h1
      match vs, h1 with
      | [x], _ => exact h2 x rfl
  · rename_i h1
    split
    · rename_i x; simp at h1
    · rfl

/- a function's end: without a result, with one, with several -/
section
variable {fn : Func} {Post : Value → List HProp → Prop} {Hl l : List HProp}
theorem retK1 {v : Value} (hr : RV P e Hl fn.results.toList [v]) (hp : Post v l) (hl : EntL Hl l) : retK P n fn Post .ret e (star Hl) := ⟨v, l, hr.is, hp, hl.ent⟩
theorem retK0 (hr : RV P e Hl fn.results.toList []) (hp : Post (.tuple #[]) l) (hl : EntL Hl l) : retK P n fn Post .ret e (star Hl) := ⟨_, l, hr.is, hp, hl.ent⟩
theorem retK0e (hr : RV P e Hl fn.results.toList []) (hp : Post (.tuple #[]) l) (hl : EntL Hl l) : retK P n fn Post .normal e (star Hl) := ⟨_, l, hr.is, hp, hl.ent⟩
theorem retK2 {v u : Value} (hr : RV P e Hl fn.results.toList [v, u]) (hp : Post (.tuple #[v, u]) l) (hl : EntL Hl l) : retK P n fn Post .ret e (star Hl) := ⟨_, l, hr.is, hp, hl.ent⟩
theorem retK3 {v u t : Value} (hr : RV P e Hl fn.results.toList [v, u, t]) (hp : Post (.tuple #[v, u, t]) l) (hl : EntL Hl l) : retK P n fn Post .ret e (star Hl) := ⟨_, l, hr.is, hp, hl.ent⟩
end
end
end Go.Sl
/- The engine, ninth part: the same rules in the form in which the printed walks use them. -/
namespace Go.Sl
open Go

/-- The j-th of a list, and the others. -/
def pick1 : Nat → List HProp → Option (HProp × List HProp)
  | _, [] => none
  | 0, p :: l => some (p, l)
  | j + 1, q :: l => match pick1 j l with
    | some (p, r) => some (p, q :: r)
    | none => none
theorem pick1_take : ∀ {j : Nat} {l r : List HProp} {p : HProp}, pick1 j l = some (p, r) → Take1 l p r := by
  intro j
  induction j with
  | zero =>
    intro l r p h
    cases l with
    | nil => simp [pick1] at h
    | cons q l => simp only [pick1, Option.some.injEq, Prod.mk.injEq] at h; obtain ⟨rfl, rfl⟩ := h; exact .here
  | succ j ih =>
    intro l r p h
    cases l with
    | nil => simp [pick1] at h
    | cons q l =>
      simp only [pick1] at h
      split at h
      · rename_i p' r' h1
        simp only [Option.some.injEq, Prod.mk.injEq] at h; obtain ⟨rfl, rfl⟩ := h; exact .there (ih h1)
      · cases h

/- places in a list -/
section
variable {p : HProp} {l : List HProp}
theorem tk0 : Take1 (p :: l) p (l) := .here
theorem tk1 {a0 : HProp} : Take1 (a0 :: p :: l) p (a0 :: l) := .there (.here)
theorem tk2 {a0 a1 : HProp} : Take1 (a0 :: a1 :: p :: l) p (a0 :: a1 :: l) := .there (.there (.here))
theorem tk3 {a0 a1 a2 : HProp} : Take1 (a0 :: a1 :: a2 :: p :: l) p (a0 :: a1 :: a2 :: l) := .there (.there (.there (.here)))
theorem tk4 {a0 a1 a2 a3 : HProp} : Take1 (a0 :: a1 :: a2 :: a3 :: p :: l) p (a0 :: a1 :: a2 :: a3 :: l) := .there (.there (.there (.there (.here))))
theorem tk5 {a0 a1 a2 a3 a4 : HProp} : Take1 (a0 :: a1 :: a2 :: a3 :: a4 :: p :: l) p (a0 :: a1 :: a2 :: a3 :: a4 :: l) := .there (.there (.there (.there (.there (.here)))))
theorem tk6 {a0 a1 a2 a3 a4 a5 : HProp} : Take1 (a0 :: a1 :: a2 :: a3 :: a4 :: a5 :: p :: l) p (a0 :: a1 :: a2 :: a3 :: a4 :: a5 :: l) := .there (.there (.there (.there (.there (.there (.here))))))
theorem tk7 {a0 a1 a2 a3 a4 a5 a6 : HProp} : Take1 (a0 :: a1 :: a2 :: a3 :: a4 :: a5 :: a6 :: p :: l) p (a0 :: a1 :: a2 :: a3 :: a4 :: a5 :: a6 :: l) := .there (.there (.there (.there (.there (.there (.there (.here)))))))
theorem tk8 {a0 a1 a2 a3 a4 a5 a6 a7 : HProp} : Take1 (a0 :: a1 :: a2 :: a3 :: a4 :: a5 :: a6 :: a7 :: p :: l) p (a0 :: a1 :: a2 :: a3 :: a4 :: a5 :: a6 :: a7 :: l) := .there (.there (.there (.there (.there (.there (.there (.there (.here))))))))
theorem tk9 {a0 a1 a2 a3 a4 a5 a6 a7 a8 : HProp} : Take1 (a0 :: a1 :: a2 :: a3 :: a4 :: a5 :: a6 :: a7 :: a8 :: p :: l) p (a0 :: a1 :: a2 :: a3 :: a4 :: a5 :: a6 :: a7 :: a8 :: l) := .there (.there (.there (.there (.there (.there (.there (.there (.there (.here)))))))))
theorem tk10 {a0 a1 a2 a3 a4 a5 a6 a7 a8 a9 : HProp} : Take1 (a0 :: a1 :: a2 :: a3 :: a4 :: a5 :: a6 :: a7 :: a8 :: a9 :: p :: l) p (a0 :: a1 :: a2 :: a3 :: a4 :: a5 :: a6 :: a7 :: a8 :: a9 :: l) := .there (.there (.there (.there (.there (.there (.there (.there (.there (.there (.here))))))))))
theorem tk11 {a0 a1 a2 a3 a4 a5 a6 a7 a8 a9 a10 : HProp} : Take1 (a0 :: a1 :: a2 :: a3 :: a4 :: a5 :: a6 :: a7 :: a8 :: a9 :: a10 :: p :: l) p (a0 :: a1 :: a2 :: a3 :: a4 :: a5 :: a6 :: a7 :: a8 :: a9 :: a10 :: l) := .there (.there (.there (.there (.there (.there (.there (.there (.there (.there (.there (.here)))))))))))
theorem tk12 {a0 a1 a2 a3 a4 a5 a6 a7 a8 a9 a10 a11 : HProp} : Take1 (a0 :: a1 :: a2 :: a3 :: a4 :: a5 :: a6 :: a7 :: a8 :: a9 :: a10 :: a11 :: p :: l) p (a0 :: a1 :: a2 :: a3 :: a4 :: a5 :: a6 :: a7 :: a8 :: a9 :: a10 :: a11 :: l) := .there (.there (.there (.there (.there (.there (.there (.there (.there (.there (.there (.there (.here))))))))))))
theorem tk13 {a0 a1 a2 a3 a4 a5 a6 a7 a8 a9 a10 a11 a12 : HProp} : Take1 (a0 :: a1 :: a2 :: a3 :: a4 :: a5 :: a6 :: a7 :: a8 :: a9 :: a10 :: a11 :: a12 :: p :: l) p (a0 :: a1 :: a2 :: a3 :: a4 :: a5 :: a6 :: a7 :: a8 :: a9 :: a10 :: a11 :: a12 :: l) := .there (.there (.there (.there (.there (.there (.there (.there (.there (.there (.there (.there (.there (.here)))))))))))))
theorem tk14 {a0 a1 a2 a3 a4 a5 a6 a7 a8 a9 a10 a11 a12 a13 : HProp} : Take1 (a0 :: a1 :: a2 :: a3 :: a4 :: a5 :: a6 :: a7 :: a8 :: a9 :: a10 :: a11 :: a12 :: a13 :: p :: l) p (a0 :: a1 :: a2 :: a3 :: a4 :: a5 :: a6 :: a7 :: a8 :: a9 :: a10 :: a11 :: a12 :: a13 :: l) := .there (.there (.there (.there (.there (.there (.there (.there (.there (.there (.there (.there (.there (.there (.here))))))))))))))
theorem tk15 {a0 a1 a2 a3 a4 a5 a6 a7 a8 a9 a10 a11 a12 a13 a14 : HProp} : Take1 (a0 :: a1 :: a2 :: a3 :: a4 :: a5 :: a6 :: a7 :: a8 :: a9 :: a10 :: a11 :: a12 :: a13 :: a14 :: p :: l) p (a0 :: a1 :: a2 :: a3 :: a4 :: a5 :: a6 :: a7 :: a8 :: a9 :: a10 :: a11 :: a12 :: a13 :: a14 :: l) := .there (.there (.there (.there (.there (.there (.there (.there (.there (.there (.there (.there (.there (.there (.there (.here)))))))))))))))
end
section
variable {P : Program} {n : Nat} {ds : List Deferred} {ops : Array Oper} {K : Env → HProp → Prop} {e : Env} {i : Nat} {k : Kd} {l : List Item} {o : Oper} {d : Nat} {D0 : HProp}

theorem lenV_sl {t : TypeId} {x : Nat × Nat × Nat} (h : slI P t = some x) (p : Option Addr) (m c : Nat) : lenV P t (.slice p m c) = some m := by
  obtain ⟨E, sz, by_⟩ := x
  obtain ⟨hu, _⟩ := slI_spec h
  unfold lenV; rw [hu]
theorem lenV_str {t : TypeId} (h : isStrT P t = true) (s : ByteArray) : lenV P t (.string s) = some s.size := by
  unfold isStrT at h
  split at h
  · rename_i hu; unfold lenV; rw [hu]
  · cases h

/- loads: 1 of one cell, A of a struct; H from what is at hand, D from what stays -/
theorem rx_ldH1 {Dl Hl F : List HProp} {t : TypeId} {x : Operand} {b off : Nat} {cl : List Value} {T : TypeId} {fz : Nat × Nat} {v : Value}
    (ho : ops[i]? = some o) (hw : wantE ops e o = some true) (hd : o.dst = some d) (hdn : Nat.blt d n = true) (hop : o.op = .load t x)
    (hx : ov e x = some (.pointer (some ⟨b, off, none⟩))) (hT : Take1 Hl (blk b cl T fz) F) (ha : tyAgg P t = some false) (hv : cl[off]? = some v)
    (h : RX P n ds ops D0 l (star Dl) (upd e d v) (star Hl) K) : RX P n ds ops D0 (.op i .e :: l) (star Dl) e (star Hl) K :=
  rx_ldH rfl ho hw hd hdn hop hx hT (.inl ⟨ha, hv⟩) h
theorem rx_ldHA {Dl Hl F : List HProp} {t : TypeId} {x : Operand} {b off s : Nat} {cl vs : List Value} {T : TypeId} {fz : Nat × Nat}
    (ho : ops[i]? = some o) (hw : wantE ops e o = some true) (hd : o.dst = some d) (hdn : Nat.blt d n = true) (hop : o.op = .load t x)
    (hx : ov e x = some (.pointer (some ⟨b, off, none⟩))) (hT : Take1 Hl (blk b cl T fz) F) (ha : tyAgg P t = some true) (hs : tySz P t = some s) (hv : (cl.drop off).take s = vs) (hl : Nat.beq vs.length s = true)
    (h : RX P n ds ops D0 l (star Dl) (upd e d (.agg vs.toArray)) (star Hl) K) : RX P n ds ops D0 (.op i .e :: l) (star Dl) e (star Hl) K :=
  rx_ldH rfl ho hw hd hdn hop hx hT (.inr ⟨s, vs, ha, hs, hv, Nat.eq_of_beq_eq_true hl, rfl⟩) h
theorem rx_ldP1 {D0l F : List HProp} {D H : HProp} {t : TypeId} {x : Operand} {b off : Nat} {cl : List Value} {T : TypeId} {fz : Nat × Nat} {v : Value}
    (ho : ops[i]? = some o) (hw : wantE ops e o = some true) (hd : o.dst = some d) (hdn : Nat.blt d n = true) (hop : o.op = .load t x)
    (hx : ov e x = some (.pointer (some ⟨b, off, none⟩))) (hT : Take1 D0l (blk b cl T fz) F) (ha : tyAgg P t = some false) (hv : cl[off]? = some v)
    (h : RX P n ds ops (star D0l) l D (upd e d v) H K) : RX P n ds ops (star D0l) (.op i .p :: l) D e H K :=
  rx_ldP ho hw hd hdn hop hx hT (.inl ⟨ha, hv⟩) h
theorem rx_ldPA {D0l F : List HProp} {D H : HProp} {t : TypeId} {x : Operand} {b off s : Nat} {cl vs : List Value} {T : TypeId} {fz : Nat × Nat}
    (ho : ops[i]? = some o) (hw : wantE ops e o = some true) (hd : o.dst = some d) (hdn : Nat.blt d n = true) (hop : o.op = .load t x)
    (hx : ov e x = some (.pointer (some ⟨b, off, none⟩))) (hT : Take1 D0l (blk b cl T fz) F) (ha : tyAgg P t = some true) (hs : tySz P t = some s) (hv : (cl.drop off).take s = vs) (hl : Nat.beq vs.length s = true)
    (h : RX P n ds ops (star D0l) l D (upd e d (.agg vs.toArray)) H K) : RX P n ds ops (star D0l) (.op i .p :: l) D e H K :=
  rx_ldP ho hw hd hdn hop hx hT (.inr ⟨s, vs, ha, hs, hv, Nat.eq_of_beq_eq_true hl, rfl⟩) h
theorem rx_ldD1 {Dl Hl F : List HProp} {t : TypeId} {x : Operand} {b off : Nat} {cl : List Value} {T : TypeId} {fz : Nat × Nat} {v : Value} (hk : DD D0 (star Dl) k = sep D0 (star Dl))
    (ho : ops[i]? = some o) (hw : wantE ops e o = some true) (hd : o.dst = some d) (hdn : Nat.blt d n = true) (hop : o.op = .load t x)
    (hx : ov e x = some (.pointer (some ⟨b, off, none⟩))) (hT : Take1 Dl (blk b cl T fz) F) (ha : tyAgg P t = some false) (hv : cl[off]? = some v)
    (h : RX P n ds ops D0 l (star Dl) (upd e d v) (star Hl) K) : RX P n ds ops D0 (.op i k :: l) (star Dl) e (star Hl) K :=
  rx_ldD hk ho hw hd hdn hop hx hT (.inl ⟨ha, hv⟩) h
theorem rx_ldDA {Dl Hl F : List HProp} {t : TypeId} {x : Operand} {b off s : Nat} {cl vs : List Value} {T : TypeId} {fz : Nat × Nat} (hk : DD D0 (star Dl) k = sep D0 (star Dl))
    (ho : ops[i]? = some o) (hw : wantE ops e o = some true) (hd : o.dst = some d) (hdn : Nat.blt d n = true) (hop : o.op = .load t x)
    (hx : ov e x = some (.pointer (some ⟨b, off, none⟩))) (hT : Take1 Dl (blk b cl T fz) F) (ha : tyAgg P t = some true) (hs : tySz P t = some s) (hv : (cl.drop off).take s = vs) (hl : Nat.beq vs.length s = true)
    (h : RX P n ds ops D0 l (star Dl) (upd e d (.agg vs.toArray)) (star Hl) K) : RX P n ds ops D0 (.op i k :: l) (star Dl) e (star Hl) K :=
  rx_ldD hk ho hw hd hdn hop hx hT (.inr ⟨s, vs, ha, hs, hv, Nat.eq_of_beq_eq_true hl, rfl⟩) h
theorem rx_stp {Dl Hl F : List HProp} {t : TypeId} {x y : Operand} {b off s : Nat} {cl cl' vs : List Value} {T : TypeId} {v : Value}
    (ho : ops[i]? = some o) (hw : wantE ops e o = some true) (hd : o.dst = none) (hop : o.op = .store t x y)
    (hx : ov e x = some (.pointer (some ⟨b, off, none⟩))) (hy : ov e y = some v) (hT : Take1 Hl (blk b cl T (0, 0)) F) (hs : tySz P t = some s) (hv : v.cells.toList = vs) (hl : Nat.beq vs.length s = true)
    (h1 : vs.all (·.oneCell') = true) (hb : Nat.ble (off + s) cl.length = true) (hp : putAt cl off vs = cl')
    (h : RX P n ds ops D0 l (star Dl) e (star (blk b cl' T (0, 0) :: F)) K) : RX P n ds ops D0 (.op i .e :: l) (star Dl) e (star Hl) K :=
  rx_st rfl ho hw hd hop hx hy hT hs hv (Nat.eq_of_beq_eq_true hl) h1 hb hp h

/-- What a guard, or a test, comes to: two ways. -/
theorem upd_id {v : Value} {t : Nat} (h : e t = some v) : upd e t v = e := by
  funext j
  by_cases q : t = j
  · subst q; rw [upd_same, h]
  · rw [upd_ne _ _ q]
theorem rx_split {D H : HProp} {b : Bool} (t : Nat) (hb : e t = some (.bool b)) (ht : b = true → RX P n ds ops D0 l D (upd e t (.bool true)) H K) (hf : b = false → RX P n ds ops D0 l D (upd e t (.bool false)) H K) :
    RX P n ds ops D0 l D e H K := by
  cases b
  · have := hf rfl; rw [upd_id hb] at this; exact this
  · have := ht rfl; rw [upd_id hb] at this; exact this

theorem SW.slshape {E sz : Nat} {v : Value} {xs : List Value} {Hl F : List HProp} {c : Code} {K : Exit → Env → HProp → Prop} (j : Nat) (hT : pick1 j Hl = some (SlOwn E sz v xs, F))
    (h : ∀ p m cp, v = .slice p m cp → xs.length = m * sz → SW P n ds c e (star Hl) K) : SW P n ds c e (star Hl) K := by
  intro a w R ha hs Q hq
  have hs' := hs
  rw [(pick1_take hT).eq, sep_assoc] at hs'
  obtain ⟨_, q | ⟨b, len, cap, rest, a1, a2, _, _, _⟩⟩ := hs'.slown
  · exact h none 0 0 q.1 (by rw [q.2.1]; simp) a w R ha hs Q hq
  · exact h _ len cap a1 a2 a w R ha hs Q hq
theorem SW.slopen {E sz : Nat} {v : Value} {xs : List Value} {Hl F : List HProp} {c : Code} {K : Exit → Env → HProp → Prop} (j : Nat) (hT : pick1 j Hl = some (SlOwn E sz v xs, F))
    (h0 : v = .slice none 0 0 → xs = [] → SW P n ds c e (star F) K)
    (h1 : ∀ b len cap rest, v = .slice (some ⟨b, 0, none⟩) len cap → xs.length = len * sz → xs.length + rest.length = cap * sz → len ≤ cap → (∀ u ∈ xs, u.oneCell' = true) →
      SW P n ds c e (star (blk b (xs ++ rest) E (0, 0) :: F)) K) : SW P n ds c e (star Hl) K := SW.slown (pick1_take hT) h0 h1

/-- 'append(v, x...)', x a literal's block. -/
theorem rx_app1 {Dl Hl F F' : List HProp} {x y : Operand} {t E sz bytes : Nat} {z : List Value} {v : Value} {xs ys : List Value} {b m c : Nat} {cl : List Value} {T : TypeId} {fz : Nat × Nat}
    (ho : ops[i]? = some o) (hw : wantE ops e o = some true) (hd : o.dst = some d) (hdn : Nat.blt d n = true) (hop : o.op = .call { callee := .builtin .append, args := #[x, y], argTypes := #[t, t] })
    (ht : slI P t = some (E, sz, bytes)) (hz : zeroOf P E = some z) (hzl : Nat.beq z.length sz = true) (hsz : Nat.blt 0 sz = true) (hby : Nat.ble bytes 1000 = true)
    (hx : ov e x = some v) (hy : ov e y = some (.slice (some ⟨b, 0, none⟩) m c)) (hT' : Take1 Hl (blk b cl T fz) F) (hT : Take1 F (SlOwn E sz v xs) F')
    (hys : cl.take (m * sz) = ys) (hl : Nat.beq ys.length (m * sz) = true)
    (h1 : ys.all (·.oneCell') = true) (hroom : xs.length + ys.length ≤ 1000000000)
    (h : ∀ p m cp, (xs ++ ys).length = m * sz → RX P n ds ops D0 l (star Dl) (upd e d (.slice p m cp)) (star (SlOwn E sz (.slice p m cp) (xs ++ ys) :: blk b cl T fz :: F')) K) : RX P n ds ops D0 (.op i .e :: l) (star Dl) e (star Hl) K := by
  have hp : Hl.Perm (SlOwn E sz v xs :: blk b cl T fz :: F') := hT'.perm.trans ((hT.perm.cons _).trans (.swap _ _ _))
  rw [star_perm hp]
  exact rx_app (F := F') rfl ho hw hd hdn hop ht hz hzl hsz hby hx hy (.cons .here (.cons .here .nil)) (ys := ys) (by simpa using hys) (Nat.eq_of_beq_eq_true hl) (List.all_eq_true.1 h1) hroom h
theorem rx_appS1 {Dl Hl F F' : List HProp} {x y : Operand} {t E sz bytes : Nat} {z : List Value} {v vy : Value} {xs ys : List Value}
    (ho : ops[i]? = some o) (hw : wantE ops e o = some true) (hd : o.dst = some d) (hdn : Nat.blt d n = true) (hop : o.op = .call { callee := .builtin .append, args := #[x, y], argTypes := #[t, t] })
    (ht : slI P t = some (E, sz, bytes)) (hz : zeroOf P E = some z) (hzl : Nat.beq z.length sz = true) (hsz : Nat.blt 0 sz = true) (hby : Nat.ble bytes 1000 = true)
    (hx : ov e x = some v) (hy : ov e y = some vy) (hT : Take1 Hl (SlOwn E sz v xs) F) (hT' : Take1 F (SlOwn E sz vy ys) F') (hroom : xs.length + ys.length ≤ 1000000000)
    (h : ∀ p m cp, (xs ++ ys).length = m * sz → RX P n ds ops D0 l (star Dl) (upd e d (.slice p m cp)) (star (SlOwn E sz (.slice p m cp) (xs ++ ys) :: SlOwn E sz vy ys :: F')) K) : RX P n ds ops D0 (.op i .e :: l) (star Dl) e (star Hl) K :=
  rx_appS (F := F') rfl ho hw hd hdn hop ht hz hzl hsz hby hx hy (.cons hT (.cons hT' .nil)) hroom h
/-- Let all but these go, or tell them otherwise. -/
theorem SW.keep {c : Code} {Hl Hl' F : List HProp} {K : Exit → Env → HProp → Prop} (hT : Take Hl Hl' F) (h : SW P n ds c e (star Hl') K) : SW P n ds c e (star Hl) K := h.weak EnvLe.refl (EntS.take hT)

/-- A drawn region: what is taken goes to hand, of the others these stay for good. -/
theorem SW.drawT (hm : P.follows .mixedOrders = true) {id : Nat} {tp : List Nat} {l : List Item} {Hl Hs D0l Dl F : List HProp} {K : Exit → Env → HProp → Prop} (hnet : netOk ops tp l = true) (hT : Take Hl Hs F)
    (hT0 : Take F D0l Dl) (h : RX P n ds ops (star D0l) l (star Dl) e (star Hs) (fun e' H' => K .normal e' H')) : SW P n ds (.region id ops true) e (star Hl) K :=
  SW.draw hm hnet (Ent.of_eq (by rw [hT.eq, hT0.eq, sep_comm])) h
theorem SW.drawAll (hm : P.follows .mixedOrders = true) {id : Nat} {tp : List Nat} {l : List Item} {Hl : List HProp} {K : Exit → Env → HProp → Prop} (hnet : netOk ops tp l = true)
    (h : RX P n ds ops (star []) l (star Hl) e (star []) (fun e' H' => K .normal e' H')) : SW P n ds (.region id ops true) e (star Hl) K := SW.drawT hm hnet .nil .nil h
theorem SW.reg {id : Nat} {l : List Item} {Hl : List HProp} {K : Exit → Env → HProp → Prop} (hl : opsOf l = List.range ops.size)
    (h : RX P n ds ops (star []) l (star []) e (star Hl) (fun e' H' => K .normal e' H')) : SW P n ds (.region id ops false) e (star Hl) K := SW.region hl h
/- a region's end -/
theorem rx_end0 {Hl : List HProp} {N : Env → HProp → Prop} {K0 : Exit → Env → HProp → Prop} (h : N e (star Hl)) : RX P n ds ops (star []) [] (star []) e (star Hl) (fun e' H' => thenK N K0 .normal e' H') := by
  refine rx_nil (D0l := []) (Dl := []) ?_; exact h
theorem rx_endD {D0l Dl Hl : List HProp} {N : Env → HProp → Prop} {K0 : Exit → Env → HProp → Prop} (h : N e (star (D0l ++ Dl ++ Hl))) : RX P n ds ops (star D0l) [] (star Dl) e (star Hl) (fun e' H' => thenK N K0 .normal e' H') :=
  rx_nil h
theorem rx_endL {D0l Dl Hl : List HProp} {K0 : Exit → Env → HProp → Prop} (h : K0 .normal e (star (D0l ++ Dl ++ Hl))) : RX P n ds ops (star D0l) [] (star Dl) e (star Hl) (fun e' H' => K0 .normal e' H') :=
  rx_nil h
/-- All that stays is at hand again. -/
theorem rx_barAll {Dl Hl : List HProp} (h : RX P n ds ops D0 l (star []) e (star (Dl ++ Hl)) K) : RX P n ds ops D0 (.bar :: l) (star Dl) e (star Hl) K := rx_bar (Dl' := []) .nil h
theorem SW.forget {c : Code} {e' : Env} {Hl : List HProp} {K : Exit → Env → HProp → Prop} (he : EnvLe e' e) (h : SW P n ds c e' (star Hl) K) : SW P n ds c e (star Hl) K := h.weak he (EnvS_refl _)
where EnvS_refl (p : HProp) : EntS p p := EntS.refl p
theorem SW.fold {c : Code} {Hl Hl' : List HProp} {K : Exit → Env → HProp → Prop} (hl : EntL Hl Hl') (h : SW P n ds c e (star Hl') K) : SW P n ds c e (star Hl) K := h.weak EnvLe.refl hl.ent
end
end Go.Sl
/- Plain data: how nodes, handles and slots lie in cells. Nothing of the program. -/
namespace Go.Holt
open Go Go.Sl

/-- A thing of some cells. -/
class Enc (α : Type) where
  enc : α → List Value
  n : Nat
  len : ∀ a, (enc a).length = n
  one : ∀ a, ∀ u ∈ enc a, u.oneCell' = true
open Enc (enc)

structure Handle where
  slot : Int
  gen : Int
  deriving DecidableEq
def Handle.zero : Handle := ⟨0, 0⟩
structure Kid where
  to : Int
  name : ByteArray
  node : Int
  deriving DecidableEq
structure Spot where
  is : Bool
  to : Int
  name : ByteArray
  deriving DecidableEq
structure Node (K V : Type) where
  key : K
  val : V
  left : Handle
  right : Handle
  high : Int

instance : Enc Handle := ⟨fun h => [.int .i64 h.slot, .int .i64 h.gen], 2, fun _ => rfl, fun _ u h => by simp at h; rcases h with rfl | rfl <;> rfl⟩
instance : Enc Kid := ⟨fun k => [.int .i64 k.to, .string k.name, .int .i64 k.node], 3, fun _ => rfl, fun _ u h => by simp at h; rcases h with rfl | rfl | rfl <;> rfl⟩
instance : Enc Spot := ⟨fun s => [.bool s.is, .int .i64 s.to, .string s.name], 3, fun _ => rfl, fun _ u h => by simp at h; rcases h with rfl | rfl | rfl <;> rfl⟩
instance : Enc Bool := ⟨fun b => [.bool b], 1, fun _ => rfl, fun _ u h => by simp at h; subst h; rfl⟩
instance : Enc Int := ⟨fun b => [.int .i64 b], 1, fun _ => rfl, fun _ u h => by simp at h; subst h; rfl⟩
abbrev KNode := Node Kid Bool
abbrev SNode := Node Int Spot
instance : Enc KNode := ⟨fun x => [.int .i64 x.key.to, .string x.key.name, .int .i64 x.key.node, .bool x.val, .int .i64 x.left.slot, .int .i64 x.left.gen, .int .i64 x.right.slot, .int .i64 x.right.gen, .int .i64 x.high], 9, fun _ => rfl,
  fun _ u h => by simp at h; rcases h with rfl | rfl | rfl | rfl | rfl | rfl | rfl | rfl | rfl <;> rfl⟩
instance : Enc SNode := ⟨fun x => [.int .i64 x.key, .bool x.val.is, .int .i64 x.val.to, .string x.val.name, .int .i64 x.left.slot, .int .i64 x.left.gen, .int .i64 x.right.slot, .int .i64 x.right.gen, .int .i64 x.high], 9, fun _ => rfl,
  fun _ u h => by simp at h; rcases h with rfl | rfl | rfl | rfl | rfl | rfl | rfl | rfl | rfl <;> rfl⟩
def KNode.zero : KNode := ⟨⟨0, ⟨#[]⟩, 0⟩, false, ⟨0, 0⟩, ⟨0, 0⟩, 0⟩
def SNode.zero : SNode := ⟨0, ⟨false, 0, ⟨#[]⟩⟩, ⟨0, 0⟩, ⟨0, 0⟩, 0⟩

/-- A slot: how often it was used, whether something lies there, what. -/
structure Slot (α : Type) where
  gen : Int
  used : Bool
  x : α
def Slot.cells {α : Type} [Enc α] (s : Slot α) : List Value := .int .i64 s.gen :: .bool s.used :: enc s.x
instance {α : Type} [Enc α] : Enc (Slot α) := ⟨Slot.cells, Enc.n α + 2, fun a => by simp [Slot.cells, Enc.len], fun a u h => by
  simp only [Slot.cells, List.mem_cons] at h
  rcases h with rfl | rfl | h
  · rfl
  · rfl
  · exact Enc.one _ _ h⟩

/-- Many, one behind the other. -/
def flat {α : Type} [Enc α] (l : List α) : List Value := l.flatMap enc
section
variable {α : Type} [Enc α]
theorem flat_len (l : List α) : (flat l).length = l.length * Enc.n α := by
  induction l with
  | nil => simp [flat]
  | cons a l ih => simp only [flat, List.flatMap_cons, List.length_append, List.length_cons] at ih ⊢; rw [ih, Enc.len, Nat.add_mul]; omega
theorem flat_append' (l : List α) (x : α) : flat (l ++ [x]) = flat l ++ enc x := by simp [flat]
theorem flat_append (l l' : List α) : flat (l ++ l') = flat l ++ flat l' := by simp [flat]
theorem flat_one (l : List α) : ∀ u ∈ flat l, u.oneCell' = true := fun u h => by
  obtain ⟨a, _, h2⟩ := List.mem_flatMap.1 h
  exact Enc.one a u h2
theorem flat_cons (a : α) (l : List α) : flat (a :: l) = enc a ++ flat l := rfl
theorem flat_get {l : List α} {i : Nat} {a : α} (h : l[i]? = some a) {j off : Nat} (hj : j < Enc.n α) (ho : off = i * Enc.n α + j) (rest : List Value) : (flat l ++ rest)[off]? = (enc a)[j]? := by
  subst ho
  induction l generalizing i with
  | nil => simp at h
  | cons b l ih =>
    rw [flat_cons, List.append_assoc]
    cases i with
    | zero =>
      simp at h; subst h
      rw [Nat.zero_mul, Nat.zero_add, List.getElem?_append_left (by rw [Enc.len]; exact hj)]
    | succ i =>
      simp at h
      rw [List.getElem?_append_right (by rw [Enc.len, Nat.add_mul]; omega), Enc.len, show (i + 1) * Enc.n α + j - Enc.n α = i * Enc.n α + j by rw [Nat.add_mul]; omega]
      exact ih h
theorem flat_drop {l : List α} {i : Nat} {a : α} (h : l[i]? = some a) {j s off : Nat} (hj : j + s ≤ Enc.n α) (ho : off = i * Enc.n α + j) (rest : List Value) :
    ((flat l ++ rest).drop off).take s = ((enc a).drop j).take s := by
  apply List.ext_getElem?
  intro q
  rw [List.getElem?_take, List.getElem?_take]
  split
  · rw [List.getElem?_drop, List.getElem?_drop]
    exact flat_get h (by omega) (by omega) rest
  · rfl
theorem putAt_get : ∀ (vs l : List Value) (k q : Nat), k + vs.length ≤ l.length → (putAt l k vs)[q]? = if k ≤ q ∧ q < k + vs.length then vs[q - k]? else l[q]? := by
  intro vs
  induction vs with
  | nil => intro l k q _; simp [putAt]; omega
  | cons v vs ih =>
    intro l k q h
    simp only [List.length_cons] at h
    rw [putAt, ih _ _ _ (by simp; omega)]
    by_cases h1 : k + 1 ≤ q ∧ q < k + 1 + vs.length
    · rw [if_pos h1, if_pos (by simp; omega), show q - k = (q - (k + 1)) + 1 by omega]; simp
    · rw [if_neg h1]
      by_cases h2 : q = k
      · subst h2
        rw [if_pos (by simp), List.getElem?_set_self (by omega)]; simp
      · rw [List.getElem?_set_ne (by omega), if_neg (by simp; omega)]
theorem flat_put {l : List α} {i : Nat} {a a' : α} (h : l[i]? = some a) {j off : Nat} {vs : List Value} (hj : j + vs.length ≤ Enc.n α) (ho : off = i * Enc.n α + j) (he : putAt (enc a) j vs = enc a') (rest : List Value) :
    putAt (flat l ++ rest) off vs = flat (l.set i a') ++ rest := by
  have hi : i < l.length := (List.getElem?_eq_some_iff.1 h).1
  have hlen : i * Enc.n α + Enc.n α ≤ l.length * Enc.n α := by
    have : (i + 1) * Enc.n α ≤ l.length * Enc.n α := Nat.mul_le_mul_right _ hi
    rw [Nat.add_mul] at this; omega
  apply List.ext_getElem?
  intro q
  subst ho
  rw [putAt_get _ _ _ _ (by rw [List.length_append, flat_len]; omega)]
  by_cases hq : q < l.length * Enc.n α
  · -- within the elements
    have hn : 0 < Enc.n α := by
      rcases Nat.eq_zero_or_pos (Enc.n α) with z | z
      · rw [z] at hq; simp at hq
      · exact z
    have hdiv : q = q / Enc.n α * Enc.n α + q % Enc.n α := by rw [Nat.mul_comm]; exact (Nat.div_add_mod _ _).symm
    have hm := Nat.mod_lt q hn
    have hd : q / Enc.n α < l.length := Nat.div_lt_of_lt_mul (by rw [Nat.mul_comm]; exact hq)
    obtain ⟨b, hb⟩ : ∃ b, l[q / Enc.n α]? = some b := ⟨_, List.getElem?_eq_getElem hd⟩
    rw [flat_get hb hm hdiv]
    by_cases hqi : q / Enc.n α = i
    · rw [hqi] at hb hdiv
      rw [h] at hb; cases hb
      have hb' : (l.set i a')[i]? = some a' := List.getElem?_set_self hi
      rw [flat_get hb' hm hdiv]
      rw [← he, putAt_get _ _ _ _ (by rw [Enc.len]; exact hj)]
      generalize q % Enc.n α = m at *
      by_cases hc : j ≤ m ∧ m < j + vs.length
      · rw [if_pos (by omega), if_pos hc]; congr 1; omega
      · rw [if_neg (by omega), if_neg hc]
    · have hb' : (l.set i a')[q / Enc.n α]? = some b := by rw [List.getElem?_set_ne (Ne.symm hqi)]; exact hb
      rw [flat_get hb' hm hdiv, if_neg]
      intro hc
      apply hqi
      have e1 : i * Enc.n α ≤ q := by omega
      have e2 : q < (i + 1) * Enc.n α := by rw [Nat.add_mul]; omega
      have := (Nat.le_div_iff_mul_le hn).2 e1
      have := (Nat.div_lt_iff_lt_mul hn).2 e2
      omega
  · rw [if_neg (by omega), List.getElem?_append_right (by rw [flat_len]; omega), List.getElem?_append_right (by rw [flat_len, List.length_set]; omega), flat_len, flat_len, List.length_set]
end

/-- Things that hold of some x. -/
def exH {α : Type} (p : α → List HProp) : HProp := fun h => ∃ x, star (p x) h
theorem exH.mk {α : Type} (p : α → List HProp) (x : α) : EntS (star (p x)) (exH p) := EntS.of_ent fun _ hh => ⟨x, hh⟩
theorem SW.exH {P : Program} {n : Nat} {ds : List Deferred} {e : Env} {c : Code} {K : Exit → Env → HProp → Prop} {α : Type} {p : α → List HProp} {Hl F : List HProp} (j : Nat) (hT : pick1 j Hl = some (Holt.exH p, F))
    (h : ∀ x, SW P n ds c e (star (p x ++ F)) K) : SW P n ds c e (star Hl) K := by
  intro a w R ha hs Q hq
  rw [(pick1_take hT).eq] at hs
  obtain ⟨g, ⟨f, r, dj, e1, ⟨f1, f2, d2, e2, ⟨x, hx⟩, hF⟩, hR⟩, z⟩ := hs
  refine h x a w R ha ⟨g, ⟨f, r, dj, e1, ?_, hR⟩, z⟩ Q hq
  rw [star_append]; exact ⟨f1, f2, d2, e2, hx, hF⟩

/- the same, ahead of a walk -/
section
variable {P : Program} {f : FuncId} {args : Array Value} {Post Post' : Value → List HProp → Prop}
theorem Spec.exH {α : Type} {p : α → List HProp} {Hl F : List HProp} (j : Nat) (hT : pick1 j Hl = some (Holt.exH p, F)) (h : ∀ x, Sl.Spec P f args (p x ++ F) Post) : Sl.Spec P f args Hl Post := by
  intro R w hs
  rw [(pick1_take hT).eq] at hs
  obtain ⟨g, ⟨f', r, dj, e1, ⟨f1, f2, d2, e2, ⟨x, hx⟩, hF⟩, hR⟩, z⟩ := hs
  refine h x R w ⟨g, ⟨f', r, dj, e1, ?_, hR⟩, z⟩
  rw [star_append]; exact ⟨f1, f2, d2, e2, hx, hF⟩
theorem Spec.slopen {E sz : Nat} {v : Value} {xs : List Value} {Hl F : List HProp} (j : Nat) (hT : pick1 j Hl = some (SlOwn E sz v xs, F))
    (h0 : v = .slice none 0 0 → xs = [] → Sl.Spec P f args F Post)
    (h1 : ∀ b len cap rest, v = .slice (some ⟨b, 0, none⟩) len cap → xs.length = len * sz → xs.length + rest.length = cap * sz → len ≤ cap → (∀ u ∈ xs, u.oneCell' = true) →
      Sl.Spec P f args (blk b (xs ++ rest) E (0, 0) :: F) Post) : Sl.Spec P f args Hl Post := by
  intro R w hs
  rw [(pick1_take hT).eq, sep_assoc] at hs
  obtain ⟨h2, q | ⟨b, len, cap, rest, a1, a2, a3, a4, a5⟩⟩ := hs.slown
  · exact h0 q.1 q.2.1 R w q.2.2
  · exact h1 b len cap rest a1 a2 a3 a4 h2 R w (by rw [show star (blk b (xs ++ rest) E (0, 0) :: F) = sep (blk b (xs ++ rest) E (0, 0)) (star F) from rfl, sep_assoc]; exact a5)
theorem Spec.slshape {E sz : Nat} {v : Value} {xs : List Value} {Hl F : List HProp} (j : Nat) (hT : pick1 j Hl = some (SlOwn E sz v xs, F))
    (h : ∀ p m cp, v = .slice p m cp → xs.length = m * sz → Sl.Spec P f args Hl Post) : Sl.Spec P f args Hl Post := by
  intro R w hs
  have hs' := hs
  rw [(pick1_take hT).eq, sep_assoc] at hs'
  obtain ⟨_, q | ⟨b, len, cap, rest, a1, a2, _, _, _⟩⟩ := hs'.slown
  · exact h none 0 0 q.1 (by rw [q.2.1]; simp) R w hs
  · exact h _ len cap a1 a2 R w hs
theorem Spec.conseq {Pre : List HProp} (h : Sl.Spec P f args Pre Post) (hc : ∀ v l, Post v l → ∃ l', Post' v l' ∧ EntL l l') : Sl.Spec P f args Pre Post' := by
  intro R w hs
  refine (h R w hs).mono ?_
  rintro e w' ⟨v, l, a, b, c⟩
  obtain ⟨l', b', c'⟩ := hc v l b
  exact ⟨v, l', a, b', c'.ent _ _ c⟩
end
/-- A slice of its own, folded. -/
theorem slown_nil (E sz : Nat) {l l' : List HProp} (h : EntL l l') : EntL l (SlOwn E sz (.slice none 0 0) [] :: l') := .cons .nil (SlOwn.nil E sz) h
theorem slown_mk {E sz b len cap : Nat} {cl xs rest : List Value} {l r l' : List HProp} (hT : Take1 l (blk b cl E (0, 0)) r) (hc : cl = xs ++ rest) (h1 : ∀ u ∈ xs, u.oneCell' = true) (hl : xs.length = len * sz)
    (hcc : xs.length + rest.length = cap * sz) (hlc : len ≤ cap) (h : EntL r l') : EntL l (SlOwn E sz (.slice (some ⟨b, 0, none⟩) len cap) xs :: l') := by
  subst hc
  exact .cons (.cons hT .nil) (by rw [star_one]; exact SlOwn.mk h1 hl hcc hlc) h
/-- Lists of things held, one behind the other. -/
theorem EntL.refl : ∀ l : List HProp, EntL l l
  | [] => .nil
  | _ :: l => .one .here (EntL.refl l)
end Go.Holt
/- Arenas, plain: slots, those that were freed; what is laid down, found, freed. -/
namespace Go.Holt
open Go Go.Sl
open Enc (enc)

structure Ar (α : Type) where
  most : Int
  sl : List (Slot α)
  fr : List Int
namespace Ar
variable {α : Type}
def room (A : Ar α) : Int := A.most - A.sl.length + A.fr.length
/-- The index of a handle's slot, if something lies there that has it. -/
def find (A : Ar α) (h : Handle) : Option Nat :=
  if h.slot < 1 ∨ h.slot > A.sl.length then none else
  match A.sl[(h.slot - 1).toNat]? with
  | some s => if s.used = true ∧ s.gen = h.gen then some (h.slot - 1).toNat else none
  | none => none
theorem find_get {A : Ar α} {h : Handle} {i : Nat} (hf : A.find h = some i) : ∃ s, A.sl[i]? = some s ∧ s.used = true ∧ s.gen = h.gen ∧ i = (h.slot - 1).toNat ∧ 1 ≤ h.slot ∧ h.slot ≤ A.sl.length := by
  unfold find at hf
  split at hf
  · cases hf
  · rename_i h1
    split at hf
    · rename_i s hs
      split at hf
      · rename_i h2
        cases hf
        exact ⟨s, hs, h2.1, h2.2, rfl, by omega, by omega⟩
      · cases hf
    · cases hf
def get (A : Ar α) (h : Handle) : Option α := match A.find h with
  | some i => (A.sl[i]?).map (·.x)
  | none => none
/-- Handles and counts are small, so that no number wraps. -/
structure ok (A : Ar α) : Prop where
  most : 0 ≤ A.most ∧ A.most ≤ 1048576
  len : (A.sl.length : Int) ≤ A.most
  frlen : A.fr.length ≤ A.sl.length
  fr : ∀ i ∈ A.fr, 1 ≤ i ∧ i ≤ A.sl.length
  gen : ∀ s ∈ A.sl, 0 ≤ s.gen ∧ s.gen ≤ 1000000000
/-- The slot that is used next. -/
def next (zero : α) (A : Ar α) : Ar α × Int :=
  match A.fr.getLast? with
  | none => ({ A with sl := A.sl ++ [⟨0, false, zero⟩] }, A.sl.length + 1)
  | some i => ({ A with fr := A.fr.dropLast }, i)
def lay (A : Ar α) (i : Int) (x : α) : Ar α × Handle :=
  match A.sl[(i - 1).toNat]? with
  | some s => ({ A with sl := A.sl.set (i - 1).toNat ⟨s.gen + 1, true, x⟩ }, ⟨i, s.gen + 1⟩)
  | none => (A, ⟨0, 0⟩)
def put (zero : α) (A : Ar α) (x : α) : Ar α × Handle := (A.next zero).1.lay (A.next zero).2 x
def free (zero : α) (A : Ar α) (h : Handle) : Ar α × Bool :=
  match A.find h with
  | none => (A, false)
  | some i => match A.sl[i]? with
    | some s => ({ A with sl := A.sl.set i ⟨s.gen, false, zero⟩, fr := A.fr ++ [h.slot] }, true)
    | none => (A, false)

theorem next_in {zero : α} {A : Ar α} (h : A.ok) (hr : A.room ≠ 0) :
    1 ≤ (A.next zero).2 ∧ (A.next zero).2 ≤ (A.next zero).1.sl.length ∧ (∀ s ∈ (A.next zero).1.sl, 0 ≤ s.gen ∧ s.gen ≤ 1000000000) ∧ (A.next zero).1.sl.length ≤ 1048576 := by
  have h1 := h.len
  have h2 := h.most
  unfold next
  cases hl : A.fr.getLast? with
  | none =>
    have hn : A.fr = [] := List.getLast?_eq_none_iff.1 hl
    refine ⟨by simp; omega, by simp, fun s hs => ?_, ?_⟩
    · rcases List.mem_append.1 hs with q | q
      · exact h.gen s q
      · simp at q; subst q; simp
    · unfold room at hr; rw [hn] at hr; simp at hr ⊢; omega
  | some i =>
    have := h.fr i (List.mem_of_getLast? hl)
    exact ⟨this.1, this.2, h.gen, by simp; omega⟩
end Ar
end Go.Holt
/- Trees of which each version stays, plain; an item of one while it is made. -/
namespace Go.Holt
open Go Go.Sl
open Enc (enc)

inductive T (K V : Type) where
  | nil
  | node (h : Handle) (k : K) (v : V) (l r : T K V) (hi : Int)
namespace T
variable {K V : Type}
def hgt : T K V → Int
  | nil => 0
  | node _ _ _ _ _ hi => hi
def hd : T K V → Handle
  | nil => ⟨0, 0⟩
  | node h _ _ _ _ _ => h
def size : T K V → Nat
  | nil => 0
  | node _ _ _ l r _ => 1 + size l + size r
def mk (k : K) (v : V) (l r : T K V) : T K V := node ⟨0, 0⟩ k v l r (1 + max (hgt l) (hgt r))
def lv (h : Handle) : List Handle := if h = ⟨0, 0⟩ then [] else [h]
theorem lv_len (h : Handle) : (lv h).length ≤ 1 := by unfold lv; split <;> simp
def fromLeft (h : Handle) (k : K) (v : V) (l r : T K V) : T K V × List Handle :=
  match l with
  | node lh lk lw ll lr _ => if hgt ll ≥ hgt lr then (mk lk lw ll (mk k v lr r), lv h ++ lv lh) else
    match lr with
    | node mh mk' mv ml mr _ => (mk mk' mv (mk lk lw ll ml) (mk k v mr r), lv lh ++ lv h ++ lv mh)
    | nil => (nil, [])
  | nil => (nil, [])
def fromRight (h : Handle) (k : K) (v : V) (l r : T K V) : T K V × List Handle :=
  match r with
  | node rh rk rw rl rr _ => if hgt rr ≥ hgt rl then (mk rk rw (mk k v l rl) rr, lv h ++ lv rh) else
    match rl with
    | node mh mk' mv ml mr _ => (mk mk' mv (mk k v l ml) (mk rk rw mr rr), lv h ++ lv rh ++ lv mh)
    | nil => (nil, [])
  | nil => (nil, [])
def bal (h : Handle) (k : K) (v : V) (l r : T K V) : T K V × List Handle :=
  if hgt l - hgt r > 1 then fromLeft h k v l r else if hgt l - hgt r < -1 then fromRight h k v l r else (mk k v l r, lv h)
def put (cmp : K → K → Int) (k : K) (v : V) : T K V → T K V × List Handle
  | nil => (node ⟨0, 0⟩ k v nil nil 1, [])
  | node h k' v' l r hi =>
    if cmp k k' < 0 then ((bal h k' v' (put cmp k v l).1 r).1, (put cmp k v l).2 ++ (bal h k' v' (put cmp k v l).1 r).2)
    else if cmp k k' > 0 then ((bal h k' v' l (put cmp k v r).1).1, (put cmp k v r).2 ++ (bal h k' v' l (put cmp k v r).1).2)
    else (node ⟨0, 0⟩ k v l r hi, lv h)
/-- The node with the least key, the tree without it, and what is gone. -/
def least : Handle → K → V → T K V → T K V → (Handle × K × V) × T K V × List Handle
  | h, k, v, nil, r => ((h, k, v), r, [])
  | h, k, v, node lh lk lw ll lr _, r => ((least lh lk lw ll lr).1, (bal h k v (least lh lk lw ll lr).2.1 r).1, (least lh lk lw ll lr).2.2 ++ (bal h k v (least lh lk lw ll lr).2.1 r).2)
def del (cmp : K → K → Int) (k : K) : T K V → T K V × List Handle
  | nil => (nil, [])
  | node h k' v' l r _ =>
    if cmp k k' < 0 then ((bal h k' v' (del cmp k l).1 r).1, (del cmp k l).2 ++ (bal h k' v' (del cmp k l).1 r).2)
    else if cmp k k' > 0 then ((bal h k' v' l (del cmp k r).1).1, (del cmp k r).2 ++ (bal h k' v' l (del cmp k r).1).2)
    else match l, r with
      | nil, r => (r, lv h)
      | l, nil => (l, lv h)
      | l, node rh rk rw rl rr _ =>
        ((bal (least rh rk rw rl rr).1.1 (least rh rk rw rl rr).1.2.1 (least rh rk rw rl rr).1.2.2 l (least rh rk rw rl rr).2.1).1,
         lv h ++ (least rh rk rw rl rr).2.2 ++ (bal (least rh rk rw rl rr).1.1 (least rh rk rw rl rr).1.2.1 (least rh rk rw rl rr).1.2.2 l (least rh rk rw rl rr).2.1).2)
def fresh : T K V → Nat
  | nil => 0
  | node h _ _ l r _ => if h = ⟨0, 0⟩ then 1 + fresh l + fresh r else 0
def store (zero : Node K V) (A : Ar (Node K V)) : T K V → Ar (Node K V) × List Handle × Handle
  | nil => (A, [], ⟨0, 0⟩)
  | node h k v l r hi =>
    if h = ⟨0, 0⟩ then
      let a := store zero A l
      let b := store zero a.1 r
      let c := b.1.put zero ⟨k, v, a.2.2, b.2.2, hi⟩
      (c.1, a.2.1 ++ b.2.1 ++ [c.2], c.2)
    else (A, [], h)
/-- Each height is what it is called. -/
def wf : T K V → Prop
  | nil => True
  | node _ _ _ l r hi => hi = 1 + max (hgt l) (hgt r) ∧ wf l ∧ wf r
theorem hgt_nonneg : ∀ {t : T K V}, wf t → 0 ≤ hgt t
  | nil, _ => Int.le_refl _
  | node _ _ _ l r hi, h => by have := hgt_nonneg h.2.1; have := hgt_nonneg h.2.2; have := h.1; simp only [hgt]; omega
theorem hgt_size : ∀ {t : T K V}, wf t → hgt t ≤ size t
  | nil, _ => Int.le_refl _
  | node _ _ _ l r hi, h => by have := hgt_size h.2.1; have := hgt_size h.2.2; have := h.1; simp only [hgt, size]; omega
theorem wf_mk {k : K} {v : V} {l r : T K V} (hl : wf l) (hr : wf r) : wf (mk k v l r) := ⟨rfl, hl, hr⟩
theorem hgt_pos {h : Handle} {k : K} {v : V} {l r : T K V} {hi : Int} (w : wf (node h k v l r hi)) : 1 ≤ hi := by
  have := hgt_nonneg w.2.1; have := hgt_nonneg w.2.2; have := w.1; omega
theorem node_of_hgt {t : T K V} (h0 : 0 < hgt t) : ∃ h k v l r hi, t = node h k v l r hi := by
  cases t with
  | nil => simp [hgt] at h0
  | node h k v l r hi => exact ⟨h, k, v, l, r, hi, rfl⟩
theorem fromLeft_wf {h : Handle} {k : K} {v : V} {l r : T K V} (hl : wf l) (hr : wf r) (hd : hgt l - hgt r > 1) :
    wf (fromLeft h k v l r).1 ∧ size (fromLeft h k v l r).1 = 1 + size l + size r := by
  have hr0 := hgt_nonneg hr
  obtain ⟨lh, lk, lw, ll, lr, lhi, rfl⟩ := node_of_hgt (t := l) (by omega)
  simp only [fromLeft]
  split
  · exact ⟨wf_mk hl.2.1 (wf_mk hl.2.2 hr), by simp only [mk, size]; omega⟩
  · have := hgt_nonneg hl.2.1
    obtain ⟨mh, mk', mv, ml, mr, mhi, rfl⟩ := node_of_hgt (t := lr) (by omega)
    exact ⟨wf_mk (wf_mk hl.2.1 hl.2.2.2.1) (wf_mk hl.2.2.2.2 hr), by simp only [mk, size]; omega⟩
theorem fromRight_wf {h : Handle} {k : K} {v : V} {l r : T K V} (hl : wf l) (hr : wf r) (hd : hgt l - hgt r < -1) :
    wf (fromRight h k v l r).1 ∧ size (fromRight h k v l r).1 = 1 + size l + size r := by
  have hl0 := hgt_nonneg hl
  obtain ⟨rh, rk, rw, rl, rr, rhi, rfl⟩ := node_of_hgt (t := r) (by omega)
  simp only [fromRight]
  split
  · exact ⟨wf_mk (wf_mk hl hr.2.1) hr.2.2, by simp only [mk, size]; omega⟩
  · have := hgt_nonneg hr.2.2
    obtain ⟨mh, mk', mv, ml, mr, mhi, rfl⟩ := node_of_hgt (t := rl) (by omega)
    exact ⟨wf_mk (wf_mk hl hr.2.1.2.1) (wf_mk hr.2.1.2.2 hr.2.2), by simp only [mk, size]; omega⟩
theorem bal_wf {h : Handle} {k : K} {v : V} {l r : T K V} (hl : wf l) (hr : wf r) : wf (bal h k v l r).1 ∧ size (bal h k v l r).1 = 1 + size l + size r := by
  unfold bal
  split
  · exact fromLeft_wf hl hr ‹_›
  · split
    · exact fromRight_wf hl hr ‹_›
    · exact ⟨wf_mk hl hr, by simp [mk, size]⟩
theorem put_wf (cmp : K → K → Int) (k : K) (v : V) : ∀ {t : T K V}, wf t → wf (put cmp k v t).1 ∧ size (put cmp k v t).1 ≤ 1 + size t
  | nil, _ => ⟨by simp [put, wf, hgt], by simp [put, size]⟩
  | node h k' v' l r hi, w => by
    have il := put_wf cmp k v w.2.1
    have ir := put_wf cmp k v w.2.2
    simp only [put]
    split
    · have := bal_wf (h := h) (k := k') (v := v') il.1 w.2.2
      exact ⟨this.1, by rw [this.2]; simp only [size]; omega⟩
    · split
      · have := bal_wf (h := h) (k := k') (v := v') w.2.1 ir.1
        exact ⟨this.1, by rw [this.2]; simp only [size]; omega⟩
      · exact ⟨w, by simp [size]⟩
theorem least_wf : ∀ {l r : T K V} {h : Handle} {k : K} {v : V}, wf l → wf r → wf (least h k v l r).2.1 ∧ size (least h k v l r).2.1 = size l + size r
  | nil, r, h, k, v, _, hr => ⟨hr, by simp [least, size]⟩
  | node lh lk lw ll lr lhi, r, h, k, v, hl, hr => by
    have i := least_wf (h := lh) (k := lk) (v := lw) hl.2.1 hl.2.2
    have := bal_wf (h := h) (k := k) (v := v) i.1 hr
    exact ⟨this.1, by simp only [least]; rw [this.2, i.2]; simp only [size]; omega⟩
theorem del_wf (cmp : K → K → Int) (k : K) : ∀ {t : T K V}, wf t → wf (del cmp k t).1 ∧ size (del cmp k t).1 ≤ size t
  | nil, _ => ⟨trivial, by simp [del]⟩
  | node h k' v' l r hi, w => by
    have il := del_wf cmp k w.2.1
    have ir := del_wf cmp k w.2.2
    unfold del
    split
    · have := bal_wf (h := h) (k := k') (v := v') il.1 w.2.2
      exact ⟨this.1, by rw [this.2]; simp only [size]; omega⟩
    · split
      · have := bal_wf (h := h) (k := k') (v := v') w.2.1 ir.1
        exact ⟨this.1, by rw [this.2]; simp only [size]; omega⟩
      · cases l with
        | nil => exact ⟨w.2.2, by simp [size]⟩
        | node lh lk lw ll lr lhi =>
          cases r with
          | nil => exact ⟨w.2.1, by simp [size]⟩
          | node rh rk rw' rl rr rhi =>
            have i := least_wf (h := rh) (k := rk) (v := rw') w.2.2.2.1 w.2.2.2.2
            have := bal_wf (h := (least rh rk rw' rl rr).1.1) (k := (least rh rk rw' rl rr).1.2.1) (v := (least rh rk rw' rl rr).1.2.2) w.2.1 i.1
            exact ⟨this.1, by simp only; rw [this.2, i.2]; simp only [size]; omega⟩
theorem fromLeft_len (h : Handle) (k : K) (v : V) (l r : T K V) : (fromLeft h k v l r).2.length ≤ 3 := by
  unfold fromLeft; have := lv_len h
  split
  · rename_i lh lk lw ll lr lhi; have := lv_len lh
    split
    · simp; omega
    · split
      · rename_i mh _ _ _ _ _ _; have := lv_len mh; simp; omega
      · simp
  · simp
theorem fromRight_len (h : Handle) (k : K) (v : V) (l r : T K V) : (fromRight h k v l r).2.length ≤ 3 := by
  unfold fromRight; have := lv_len h
  split
  · rename_i lh lk lw ll lr lhi; have := lv_len lh
    split
    · simp; omega
    · split
      · rename_i mh _ _ _ _ _ _; have := lv_len mh; simp; omega
      · simp
  · simp
theorem bal_len (h : Handle) (k : K) (v : V) (l r : T K V) : (bal h k v l r).2.length ≤ 3 := by
  unfold bal
  split
  · exact fromLeft_len ..
  · split
    · exact fromRight_len ..
    · have := lv_len h; simp; omega
theorem put_len (cmp : K → K → Int) (k : K) (v : V) : ∀ t : T K V, (put cmp k v t).2.length ≤ 3 * size t
  | nil => by simp [put]
  | node h k' v' l r hi => by
    have il := put_len cmp k v l
    have ir := put_len cmp k v r
    simp only [put]
    split
    · have := bal_len h k' v' (put cmp k v l).1 r; simp only [List.length_append, size]; omega
    · split
      · have := bal_len h k' v' l (put cmp k v r).1; simp only [List.length_append, size]; omega
      · have := lv_len h; simp only [size]; omega
theorem least_len : ∀ {l r : T K V} {h : Handle} {k : K} {v : V}, (least h k v l r).2.2.length ≤ 3 * size l
  | nil, r, h, k, v => by simp [least]
  | node lh lk lw ll lr lhi, r, h, k, v => by
    have i := least_len (l := ll) (r := lr) (h := lh) (k := lk) (v := lw)
    have := bal_len h k v (least lh lk lw ll lr).2.1 r
    simp only [least, List.length_append, size]; omega
theorem del_len (cmp : K → K → Int) (k : K) : ∀ t : T K V, (del cmp k t).2.length ≤ 4 * size t
  | nil => by simp [del]
  | node h k' v' l r hi => by
    have il := del_len cmp k l
    have ir := del_len cmp k r
    have h0 := lv_len h
    unfold del
    split
    · have := bal_len h k' v' (del cmp k l).1 r; simp only [List.length_append, size]; omega
    · split
      · have := bal_len h k' v' l (del cmp k r).1; simp only [List.length_append, size]; omega
      · cases l with
        | nil => simp only [size]; omega
        | node lh lk lw ll lr lhi =>
          cases r with
          | nil => simp only [size]; omega
          | node rh rk rw' rl rr rhi =>
            have i := least_len (l := rl) (r := rr) (h := rh) (k := rk) (v := rw')
            have := bal_len (least rh rk rw' rl rr).1.1 (least rh rk rw' rl rr).1.2.1 (least rh rk rw' rl rr).1.2.2 (node lh lk lw ll lr lhi) (least rh rk rw' rl rr).2.1
            simp only [List.length_append, size] at *; omega
theorem fresh_size : ∀ t : T K V, fresh t ≤ size t
  | nil => by simp [fresh]
  | node h _ _ l r _ => by
    have := fresh_size l; have := fresh_size r
    simp only [fresh, size]; split <;> omega
theorem node_of_ne {t : T K V} (h0 : t ≠ nil) : ∃ h k v l r hi, t = node h k v l r hi := by
  cases t with
  | nil => exact absurd rfl h0
  | node h k v l r hi => exact ⟨h, k, v, l, r, hi, rfl⟩
/-- What a key has. -/
def nth (cmp : K → K → Int) (k : K) : T K V → Option V
  | nil => none
  | node _ k' v' l r _ => if cmp k k' < 0 then nth cmp k l else if cmp k k' > 0 then nth cmp k r else some v'
/-- A tree lies in an arena. -/
def holds (A : Ar (Node K V)) : T K V → Prop
  | nil => True
  | node h k v l r hi => A.get h = some ⟨k, v, hd l, hd r, hi⟩ ∧ holds A l ∧ holds A r
/-- What has a handle lies in the arena. -/
def part (A : Ar (Node K V)) : T K V → Prop
  | nil => True
  | node h k v l r hi => (h ≠ ⟨0, 0⟩ → holds A (node h k v l r hi)) ∧ (h = ⟨0, 0⟩ → part A l ∧ part A r)
theorem store_len (zero : Node K V) : ∀ (t : T K V) (A : Ar (Node K V)), (store zero A t).2.1.length = fresh t := by
  intro t
  induction t with
  | nil => intro A; rfl
  | node h k v l r hi il ir =>
    intro A
    by_cases h0 : h = ⟨0, 0⟩
    · simp only [store, fresh, if_pos h0, List.length_append, il, ir, List.length_singleton]; omega
    · simp [store, fresh, if_neg h0]
theorem holds_mono {A A' : Ar (Node K V)} (h : ∀ hh x, A.get hh = some x → A'.get hh = some x) : ∀ {t : T K V}, holds A t → holds A' t
  | nil, _ => trivial
  | node _ _ _ _ _ _, q => ⟨h _ _ q.1, holds_mono h q.2.1, holds_mono h q.2.2⟩
end T
theorem Ar.get_slot {α : Type} {A : Ar α} {h : Handle} {x : α} (q : A.get h = some x) : 1 ≤ h.slot := by
  unfold Ar.get at q
  cases hf : A.find h with
  | none => rw [hf] at q; cases q
  | some i => obtain ⟨_, _, _, _, _, h1, _⟩ := Ar.find_get hf; exact h1

section
variable {K V : Type} [Enc K] [Enc V]
/-- An item's cells, opened. -/
def openC (h : Handle) (k : K) (v : V) (pl pr : Option Addr) (hi : Int) : List Value := [.int .i64 h.slot, .int .i64 h.gen, .bool true] ++ enc k ++ enc v ++ [.pointer pl, .pointer pr, .int .i64 hi]
def shutC (h : Handle) (zk : K) (zv : V) : List Value := [.int .i64 h.slot, .int .i64 h.gen, .bool false] ++ enc zk ++ enc zv ++ [.pointer none, .pointer none, .int .i64 0]
/-- At a pointer lies an item that is a tree's root: with its fields, or yet to be opened. -/
def ItemP (ty : TypeId) (zk : K) (zv : V) (A : Ar (Node K V)) : Option Addr → T K V → HProp
  | p, .nil => fun g => p = none ∧ g = Hp.emp
  | p, .node h k v l r hi => fun g => (h ≠ ⟨0, 0⟩ → (T.node h k v l r hi).holds A) ∧ ∃ b, p = some ⟨b, 0, none⟩ ∧
      ((h ≠ ⟨0, 0⟩ ∧ blk b (shutC h zk zv) ty (0, 0) g) ∨ ∃ pl pr, sep (blk b (openC h k v pl pr hi) ty (0, 0)) (sep (ItemP ty zk zv A pl l) (ItemP ty zk zv A pr r)) g)
variable {ty : TypeId} {zk : K} {zv : V} {A A' : Ar (Node K V)}
theorem ItemP.mono (hA : ∀ hh x, A.get hh = some x → A'.get hh = some x) : ∀ (t : T K V) (p : Option Addr), Ent (ItemP ty zk zv A p t) (ItemP ty zk zv A' p t) := by
  intro t
  induction t with
  | nil => intro p g h; exact h
  | node h k v l r hi il ir =>
    rintro p g ⟨h1, b, hp, h2⟩
    refine ⟨fun q => T.holds_mono hA (h1 q), b, hp, ?_⟩
    rcases h2 with h2 | ⟨pl, pr, h2⟩
    · exact .inl h2
    · exact .inr ⟨pl, pr, Ent.sep (Ent.refl _) (Ent.sep (il pl) (ir pr)) g h2⟩
theorem ItemP.part : ∀ (t : T K V) (p : Option Addr) (g : Hp), ItemP ty zk zv A p t g → T.part A t := by
  intro t
  induction t with
  | nil => intro p g _; trivial
  | node h k v l r hi il ir =>
    rintro p g ⟨h1, b, hp, h2⟩
    refine ⟨h1, fun q => ?_⟩
    rcases h2 with h2 | ⟨pl, pr, h2⟩
    · exact absurd q h2.1
    · obtain ⟨_, _, _, _, _, _, _, _, _, hl, hr⟩ := h2
      exact ⟨il _ _ hl, ir _ _ hr⟩
/-- The same, opened. -/
def ItemO (ty : TypeId) (zk : K) (zv : V) (A : Ar (Node K V)) : Option Addr → T K V → HProp
  | p, .nil => ItemP ty zk zv A p .nil
  | p, .node h k v l r hi => fun g => (h ≠ ⟨0, 0⟩ → (T.node h k v l r hi).holds A) ∧ ∃ b, p = some ⟨b, 0, none⟩ ∧
      ∃ pl pr, sep (blk b (openC h k v pl pr hi) ty (0, 0)) (sep (ItemP ty zk zv A pl l) (ItemP ty zk zv A pr r)) g
theorem ItemO.weak {t : T K V} {p : Option Addr} : Ent (ItemO ty zk zv A p t) (ItemP ty zk zv A p t) := by
  cases t with
  | nil => exact Ent.refl _
  | node h k v l r hi => rintro g ⟨h1, b, hp, h2⟩; exact ⟨h1, b, hp, .inr h2⟩
theorem ItemO.mk {h : Handle} {k : K} {v : V} {l r : T K V} {hi : Int} {b : Nat} {pl pr : Option Addr} (hh : h ≠ ⟨0, 0⟩ → (T.node h k v l r hi).holds A) :
    EntS (star [blk b (openC h k v pl pr hi) ty (0, 0), ItemP ty zk zv A pl l, ItemP ty zk zv A pr r]) (ItemO ty zk zv A (some ⟨b, 0, none⟩) (.node h k v l r hi)) := by
  show EntS (sep _ (sep _ (sep _ emp))) _
  rw [sep_emp]
  exact EntS.of_ent fun _ q => ⟨hh, b, rfl, pl, pr, q⟩
theorem ItemP.nil : EntS emp (ItemP ty zk zv A none .nil) := EntS.of_ent fun _ h => ⟨rfl, h⟩
theorem SW.itemIff {P : Program} {n : Nat} {ds : List Deferred} {e : Env} {c : Code} {KK : Exit → Env → HProp → Prop} {Hl F : List HProp} {p : Option Addr} {t : T K V}
    (hT : Take1 Hl (ItemP ty zk zv A p t) F) (h : (p = none ↔ t = .nil) → SW P n ds c e (star Hl) KK) : SW P n ds c e (star Hl) KK := by
  intro a w R ha hs Q hq
  have hs0 := hs
  rw [hT.eq] at hs
  obtain ⟨g, ⟨f, r, dj, e1, ⟨f1, f2, d2, e2, hx, hF⟩, hR⟩, z⟩ := hs
  refine h ?_ a w R ha hs0 Q hq
  cases t with
  | nil => exact ⟨fun _ => rfl, fun _ => hx.1⟩
  | node h k v l r hi =>
    obtain ⟨_, b, hp, _⟩ := hx
    rw [hp]; exact ⟨fun q => by (cases q), fun q => by (cases q)⟩
theorem ItemP.open {h : Handle} {k : K} {v : V} {l r : T K V} {hi : Int} {b : Nat} {pl pr : Option Addr} (hh : h ≠ ⟨0, 0⟩ → (T.node h k v l r hi).holds A) :
    EntS (star [blk b (openC h k v pl pr hi) ty (0, 0), ItemP ty zk zv A pl l, ItemP ty zk zv A pr r]) (ItemP ty zk zv A (some ⟨b, 0, none⟩) (.node h k v l r hi)) := by
  show EntS (sep _ (sep _ (sep _ emp))) _
  rw [sep_emp]
  exact EntS.of_ent fun _ q => ⟨hh, b, rfl, .inr ⟨pl, pr, q⟩⟩
theorem ItemP.shut {h : Handle} {k : K} {v : V} {l r : T K V} {hi : Int} {b : Nat} (h0 : h ≠ ⟨0, 0⟩) (hh : (T.node h k v l r hi).holds A) :
    EntS (star [blk b (shutC h zk zv) ty (0, 0)]) (ItemP ty zk zv A (some ⟨b, 0, none⟩) (.node h k v l r hi)) := by
  rw [star_one]
  exact EntS.of_ent fun _ q => ⟨fun _ => hh, b, rfl, .inl ⟨h0, q⟩⟩
end
section
variable {P : Program} {n : Nat} {ds : List Deferred} {e : Env} {c : Code} {KK : Exit → Env → HProp → Prop} {K V : Type} [Enc K] [Enc V] {ty : TypeId} {zk : K} {zv : V} {A : Ar (Node K V)} {Hl F : List HProp}
theorem SW.itemNil {p : Option Addr} (hT : Take1 Hl (ItemP ty zk zv A p .nil) F) (h : p = none → SW P n ds c e (star F) KK) : SW P n ds c e (star Hl) KK := by
  intro a w R ha hs Q hq
  rw [hT.eq] at hs
  obtain ⟨g, ⟨f, r, dj, e1, ⟨f1, f2, d2, e2, ⟨hp, hx⟩, hF⟩, hR⟩, z⟩ := hs
  refine h hp a w R ha ⟨g, ⟨f, r, dj, e1, ?_, hR⟩, z⟩ Q hq
  rw [e2, hx, Hp.emp_join]; exact hF
theorem SW.itemNode {p : Option Addr} {h : Handle} {k : K} {v : V} {l r : T K V} {hi : Int} (hT : Take1 Hl (ItemP ty zk zv A p (.node h k v l r hi)) F)
    (h1 : ∀ b, p = some ⟨b, 0, none⟩ → h ≠ ⟨0, 0⟩ → (T.node h k v l r hi).holds A → SW P n ds c e (star (blk b (shutC h zk zv) ty (0, 0) :: F)) KK)
    (h2 : ∀ b pl pr, p = some ⟨b, 0, none⟩ → (h ≠ ⟨0, 0⟩ → (T.node h k v l r hi).holds A) → SW P n ds c e (star (blk b (openC h k v pl pr hi) ty (0, 0) :: ItemP ty zk zv A pl l :: ItemP ty zk zv A pr r :: F)) KK) :
    SW P n ds c e (star Hl) KK := by
  intro a w R ha hs Q hq
  rw [hT.eq] at hs
  obtain ⟨g, ⟨f, r', dj, e1, ⟨f1, f2, d2, e2, ⟨hh, b, hp, hx⟩, hF⟩, hR⟩, z⟩ := hs
  rcases hx with ⟨h0, hx⟩ | ⟨pl, pr, hx⟩
  · exact h1 b hp h0 (hh h0) a w R ha ⟨g, ⟨f, r', dj, e1, ⟨f1, f2, d2, e2, hx, hF⟩, hR⟩, z⟩ Q hq
  · refine h2 b pl pr hp hh a w R ha ⟨g, ⟨f, r', dj, e1, ?_, hR⟩, z⟩ Q hq
    have : star (blk b (openC h k v pl pr hi) ty (0, 0) :: ItemP ty zk zv A pl l :: ItemP ty zk zv A pr r :: F) = sep (sep (blk b (openC h k v pl pr hi) ty (0, 0)) (sep (ItemP ty zk zv A pl l) (ItemP ty zk zv A pr r))) (star F) := by
      show sep _ (sep _ (sep _ _)) = _
      rw [sep_assoc, sep_assoc]
    rw [this]; exact ⟨f1, f2, d2, e2, hx, hF⟩
theorem Spec.itemNode {f : FuncId} {args : Array Value} {Post : Value → List HProp → Prop} {p : Option Addr} {h : Handle} {k : K} {v : V} {l r : T K V} {hi : Int} (hT : Take1 Hl (ItemP ty zk zv A p (.node h k v l r hi)) F)
    (h1 : ∀ b, p = some ⟨b, 0, none⟩ → h ≠ ⟨0, 0⟩ → (T.node h k v l r hi).holds A → Sl.Spec P f args (blk b (shutC h zk zv) ty (0, 0) :: F) Post)
    (h2 : ∀ b pl pr, p = some ⟨b, 0, none⟩ → (h ≠ ⟨0, 0⟩ → (T.node h k v l r hi).holds A) → Sl.Spec P f args (blk b (openC h k v pl pr hi) ty (0, 0) :: ItemP ty zk zv A pl l :: ItemP ty zk zv A pr r :: F) Post) :
    Sl.Spec P f args Hl Post := by
  intro R w hs
  rw [hT.eq] at hs
  obtain ⟨g, ⟨f0, r', dj, e1, ⟨f1, f2, d2, e2, ⟨hh, b, hp, hx⟩, hF⟩, hR⟩, z⟩ := hs
  rcases hx with ⟨h0, hx⟩ | ⟨pl, pr, hx⟩
  · exact h1 b hp h0 (hh h0) R w ⟨g, ⟨f0, r', dj, e1, ⟨f1, f2, d2, e2, hx, hF⟩, hR⟩, z⟩
  · refine h2 b pl pr hp hh R w ⟨g, ⟨f0, r', dj, e1, ?_, hR⟩, z⟩
    have : star (blk b (openC h k v pl pr hi) ty (0, 0) :: ItemP ty zk zv A pl l :: ItemP ty zk zv A pr r :: F) = sep (sep (blk b (openC h k v pl pr hi) ty (0, 0)) (sep (ItemP ty zk zv A pl l) (ItemP ty zk zv A pr r))) (star F) := by
      show sep _ (sep _ (sep _ _)) = _
      rw [sep_assoc, sep_assoc]
    rw [this]; exact ⟨f1, f2, d2, e2, hx, hF⟩
theorem Spec.itemNil {f : FuncId} {args : Array Value} {Post : Value → List HProp → Prop} {p : Option Addr} (hT : Take1 Hl (ItemP ty zk zv A p .nil) F) (h : p = none → Sl.Spec P f args F Post) : Sl.Spec P f args Hl Post := by
  intro R w hs
  rw [hT.eq] at hs
  obtain ⟨g, ⟨f0, r', dj, e1, ⟨f1, f2, d2, e2, ⟨hp, hx⟩, hF⟩, hR⟩, z⟩ := hs
  refine h hp R w ⟨g, ⟨f0, r', dj, e1, ?_, hR⟩, z⟩
  rw [e2, hx, Hp.emp_join]; exact hF
theorem SW.itemO {p : Option Addr} {h : Handle} {k : K} {v : V} {l r : T K V} {hi : Int} (hT : Take1 Hl (ItemO ty zk zv A p (.node h k v l r hi)) F)
    (h2 : ∀ b pl pr, p = some ⟨b, 0, none⟩ → (h ≠ ⟨0, 0⟩ → (T.node h k v l r hi).holds A) → SW P n ds c e (star (blk b (openC h k v pl pr hi) ty (0, 0) :: ItemP ty zk zv A pl l :: ItemP ty zk zv A pr r :: F)) KK) :
    SW P n ds c e (star Hl) KK := by
  intro a w R ha hs Q hq
  rw [hT.eq] at hs
  obtain ⟨g, ⟨f, r', dj, e1, ⟨f1, f2, d2, e2, ⟨hh, b, hp, pl, pr, hx⟩, hF⟩, hR⟩, z⟩ := hs
  refine h2 b pl pr hp hh a w R ha ⟨g, ⟨f, r', dj, e1, ?_, hR⟩, z⟩ Q hq
  have : star (blk b (openC h k v pl pr hi) ty (0, 0) :: ItemP ty zk zv A pl l :: ItemP ty zk zv A pr r :: F) = sep (sep (blk b (openC h k v pl pr hi) ty (0, 0)) (sep (ItemP ty zk zv A pl l) (ItemP ty zk zv A pr r))) (star F) := by
    show sep _ (sep _ (sep _ _)) = _
    rw [sep_assoc, sep_assoc]
  rw [this]; exact ⟨f1, f2, d2, e2, hx, hF⟩
theorem SW.ioP {p : Option Addr} {t : T K V} (hT : Take1 Hl (ItemO ty zk zv A p t) F) (h : SW P n ds c e (star (ItemP ty zk zv A p t :: F)) KK) : SW P n ds c e (star Hl) KK := by
  refine SW.weak EnvLe.refl ?_ h
  rw [hT.eq]
  exact EntS.of_ent (Ent.sep ItemO.weak (Ent.refl _))
end
end Go.Holt
/- Arenas, plain: what stays where something is laid down, or freed. -/
namespace Go.Holt
open Go Go.Sl
open Enc (enc)
theorem nodup_le : ∀ (n : Nat) (l : List Int), l.Nodup → (∀ i ∈ l, 1 ≤ i ∧ i ≤ n) → l.length ≤ n
  | 0, l, _, h => by
    cases l with
    | nil => simp
    | cons a l => have := h a (by simp); omega
  | n + 1, l, hd, h => by
    have ih := nodup_le n (l.erase ((n : Int) + 1)) (hd.erase _) (fun i hi => by
      rw [hd.mem_erase_iff] at hi
      have := h i hi.2; omega)
    by_cases hm : ((n : Int) + 1) ∈ l
    · rw [List.length_erase_of_mem hm] at ih; omega
    · rw [List.erase_of_not_mem hm] at ih; omega
namespace Ar
variable {α : Type}
theorem get_iff {A : Ar α} {h : Handle} {y : α} : A.get h = some y ↔ 1 ≤ h.slot ∧ ∃ s, A.sl[(h.slot - 1).toNat]? = some s ∧ s.used = true ∧ s.gen = h.gen ∧ s.x = y := by
  constructor
  · intro q
    unfold get at q
    cases hf : A.find h with
    | none => rw [hf] at q; cases q
    | some i =>
      obtain ⟨s, h1, h2, h3, h4, h5, h6⟩ := find_get hf
      rw [hf] at q
      simp only [h1, Option.map_some, Option.some.injEq] at q
      exact ⟨h5, s, by rw [← h4]; exact h1, h2, h3, q⟩
  · rintro ⟨h1, s, h2, h3, h4, h5⟩
    have h6 : ¬ (h.slot < 1 ∨ h.slot > A.sl.length) := by
      have := (List.getElem?_eq_some_iff.1 h2).1; omega
    unfold get find
    rw [if_neg h6, h2]
    simp only [h3, h4, and_self, if_true, h2, Option.map_some, h5]
/-- No slot lies twice in the free list, none that is used; generations are small. -/
structure good (A : Ar α) (n : Nat) : Prop where
  ok : A.ok
  dup : A.fr.Nodup
  un : ∀ i ∈ A.fr, ∀ s, A.sl[(i - 1).toNat]? = some s → s.used = false
  gen : ∀ s ∈ A.sl, 0 ≤ s.gen ∧ s.gen ≤ n
theorem good.mono {A : Ar α} {n m : Nat} (h : A.good n) (hm : n ≤ m) : A.good m := ⟨h.ok, h.dup, h.un, fun s q => ⟨(h.gen s q).1, by have := (h.gen s q).2; omega⟩⟩
theorem good_nil {m : Int} (h : 0 ≤ m ∧ m ≤ 1048576) : (⟨m, [], []⟩ : Ar α).good 0 :=
  ⟨⟨h, by simp; exact h.1, by simp, by simp, by simp⟩, by simp, by simp, by simp⟩
/-- What is laid down, told at once. -/
theorem put_is (zero : α) (A : Ar α) (x : α) {n : Nat} (hA : A.good n) (hr : A.room ≠ 0) : ∃ (i : Nat) (g : Int) (sl : List (Slot α)) (fr : List Int),
    A.put zero x = ({ A with sl := sl, fr := fr }, ⟨(i : Int) + 1, g + 1⟩) ∧ (∀ j, j ≠ i → sl[j]? = A.sl[j]?) ∧ sl[i]? = some ⟨g + 1, true, x⟩ ∧ 0 ≤ g ∧ g ≤ n ∧
    (∀ s, A.sl[i]? = some s → s.used = false ∧ s.gen = g) ∧ (∀ q ∈ fr, q ∈ A.fr ∧ q ≠ (i : Int) + 1) ∧ fr.Nodup ∧
    (A.most - sl.length + fr.length = A.room - 1) ∧ A.sl.length ≤ sl.length ∧ fr.length ≤ A.fr.length ∧ (sl.length = A.sl.length + 1 ∧ fr = A.fr ∧ A.fr = [] ∨ sl.length = A.sl.length ∧ fr.length + 1 = A.fr.length) := by
  unfold put next
  cases hl : A.fr.getLast? with
  | none =>
    have hn : A.fr = [] := List.getLast?_eq_none_iff.1 hl
    simp only [lay]
    have e1 : ((A.sl.length : Int) + 1 - 1).toNat = A.sl.length := by omega
    rw [e1, List.getElem?_append_right (Nat.le_refl _), Nat.sub_self]
    simp only [List.getElem?_cons_zero]
    refine ⟨A.sl.length, 0, _, A.fr, rfl, fun j hj => ?_, ?_, Int.le_refl _, by omega, fun s hs => ?_, ?_, hA.dup, ?_, ?_, Nat.le_refl _, .inl ⟨?_, rfl, hn⟩⟩
    · rw [List.getElem?_set_ne (by omega)]
      rcases Nat.lt_or_ge j A.sl.length with q | q
      · rw [List.getElem?_append_left q]
      · rw [List.getElem?_eq_none (by simp; omega), List.getElem?_eq_none (by omega)]
    · rw [List.getElem?_set_self (by simp)]
    · rw [List.getElem?_eq_none (Nat.le_refl _)] at hs; cases hs
    · rw [hn]; simp
    · unfold room; simp; omega
    · simp
    · simp
  | some i =>
    have hm := List.mem_of_getLast? hl
    have hi := hA.ok.fr i hm
    have hne : A.fr ≠ [] := by rintro q; rw [q] at hm; cases hm
    have hfr : A.fr = A.fr.dropLast ++ [i] := by
      have := List.dropLast_concat_getLast hne
      rw [List.getLast?_eq_some_getLast hne] at hl
      cases hl; exact this.symm
    have hlt : (i - 1).toNat < A.sl.length := by omega
    have hs : A.sl[(i - 1).toNat]? = some (A.sl[(i - 1).toNat]'hlt) := List.getElem?_eq_getElem hlt
    have hg := hA.gen _ (List.getElem_mem hlt)
    simp only [lay, hs]
    have hd := hA.dup
    rw [hfr, List.nodup_append] at hd
    have hfl := congrArg List.length hfr
    rw [List.length_append, List.length_singleton] at hfl
    refine ⟨(i - 1).toNat, _, _, A.fr.dropLast, by rw [show ((i - 1).toNat : Int) + 1 = i by omega], fun j hj => List.getElem?_set_ne (by omega), ?_, hg.1, hg.2, fun s q => ?_, fun q hq => ⟨List.dropLast_subset _ hq, fun e => ?_⟩, hd.1, ?_, by simp, by simp, .inr ⟨by simp, ?_⟩⟩
    · rw [List.getElem?_set_self hlt]
    · rw [hs, Option.some.injEq] at q; subst q; exact ⟨hA.un i hm _ hs, rfl⟩
    · exact hd.2.2 q hq i (by simp) (by omega)
    · have := hfl
      unfold room; simp only [List.length_set]; omega
    · exact hfl.symm
theorem put_good (zero : α) {A : Ar α} (x : α) {n : Nat} (hA : A.good n) (hn : n < 1000000000) (hr : A.room ≠ 0) : (A.put zero x).1.good (n + 1) := by
  obtain ⟨i, g, sl, fr, e, h1, h2, h3, h4, h5, h6, h7, h8, h9, h10, h11⟩ := put_is zero A x hA hr
  have hgen : ∀ s ∈ sl, 0 ≤ s.gen ∧ s.gen ≤ (n + 1 : Nat) := by
    intro s hs
    obtain ⟨j, hj⟩ := List.mem_iff_getElem?.1 hs
    by_cases hji : j = i
    · subst hji; rw [h2] at hj; cases hj; simp; omega
    · rw [h1 j hji] at hj
      have := hA.gen s (List.mem_of_getElem? hj); omega
  rw [e]
  have ho := hA.ok
  have hlen := ho.len
  have hmost := ho.most
  have hfrl := ho.frlen
  have hroom : A.room = A.most - A.sl.length + A.fr.length := rfl
  refine ⟨⟨ho.most, ?_, ?_, fun q hq => ?_, fun s hs => ?_⟩, h7, fun q hq s hs => ?_, hgen⟩
  · show (sl.length : Int) ≤ A.most
    rcases h11 with ⟨a, b, c⟩ | ⟨a, b⟩
    · rw [c] at hroom; simp at hroom; omega
    · omega
  · show fr.length ≤ sl.length; omega
  · have := ho.fr q (h6 q hq).1; show 1 ≤ q ∧ q ≤ sl.length; omega
  · have := hgen s hs; omega
  · have hq1 := ho.fr q (h6 q hq).1
    have : (q - 1).toNat ≠ i := by have := (h6 q hq).2; omega
    change sl[(q - 1).toNat]? = some s at hs
    rw [h1 _ this] at hs
    exact hA.un q (h6 q hq).1 s hs
theorem put_get (zero : α) {A : Ar α} (x : α) {n : Nat} (hA : A.good n) (hr : A.room ≠ 0) : (A.put zero x).1.get (A.put zero x).2 = some x := by
  obtain ⟨i, g, sl, fr, e, h1, h2, h3, h4, h5, h6, h7, h8, h9, h10, h11⟩ := put_is zero A x hA hr
  rw [e, get_iff]
  refine ⟨by show (1 : Int) ≤ i + 1; omega, ⟨g + 1, true, x⟩, ?_, rfl, rfl, rfl⟩
  show sl[((i : Int) + 1 - 1).toNat]? = _
  rw [show ((i : Int) + 1 - 1).toNat = i by omega]; exact h2
theorem put_keep (zero : α) {A : Ar α} (x : α) {n : Nat} (hA : A.good n) (hr : A.room ≠ 0) {h : Handle} {y : α} (q : A.get h = some y) : (A.put zero x).1.get h = some y := by
  obtain ⟨i, g, sl, fr, e, h1, h2, h3, h4, h5, h6, h7, h8, h9, h10, h11⟩ := put_is zero A x hA hr
  rw [get_iff] at q ⊢
  obtain ⟨q1, s, q2, q3, q4, q5⟩ := q
  refine ⟨q1, s, ?_, q3, q4, q5⟩
  rw [e]
  show sl[(h.slot - 1).toNat]? = some s
  rw [h1 _ (fun z => ?_)]
  · exact q2
  · rw [z] at q2; have := (h5 s q2).1; rw [q3] at this; cases this
/-- Nothing had the new handle. -/
theorem put_new (zero : α) {A : Ar α} (x : α) {n : Nat} (hA : A.good n) (hr : A.room ≠ 0) : A.get (A.put zero x).2 = none := by
  obtain ⟨i, g, sl, fr, e, h1, h2, h3, h4, h5, h6, h7, h8, h9, h10, h11⟩ := put_is zero A x hA hr
  cases q : A.get (A.put zero x).2 with
  | none => rfl
  | some y =>
    rw [e, get_iff] at q
    obtain ⟨q1, s, q2, q3, q4, q5⟩ := q
    change A.sl[((i : Int) + 1 - 1).toNat]? = some s at q2
    rw [show ((i : Int) + 1 - 1).toNat = i by omega] at q2
    have := (h5 s q2).1; rw [q3] at this; cases this
theorem put_room (zero : α) {A : Ar α} (x : α) {n : Nat} (hA : A.good n) (hr : A.room ≠ 0) : (A.put zero x).1.room = A.room - 1 := by
  obtain ⟨i, g, sl, fr, e, h1, h2, h3, h4, h5, h6, h7, h8, h9, h10, h11⟩ := put_is zero A x hA hr
  rw [e]; exact h8
theorem room_nonneg {A : Ar α} (h : A.ok) : 0 ≤ A.room := by unfold room; have := h.len; omega
theorem free_keep (zero : α) {A : Ar α} {h h' : Handle} {y : α} (hne : h' ≠ h) (q : A.get h' = some y) : (A.free zero h).1.get h' = some y := by
  unfold free
  cases hf : A.find h with
  | none => exact q
  | some i =>
    obtain ⟨s, e1, e2, e3, e4, e5, e6⟩ := find_get hf
    simp only [e1]
    rw [get_iff] at q ⊢
    obtain ⟨q1, s', q2, q3, q4, q5⟩ := q
    refine ⟨q1, s', ?_, q3, q4, q5⟩
    show (A.sl.set i _)[(h'.slot - 1).toNat]? = some s'
    rw [List.getElem?_set_ne (fun z => ?_)]
    · exact q2
    · rw [← z, e1] at q2
      cases q2
      apply hne
      rcases h with ⟨a, b⟩; rcases h' with ⟨a', b'⟩
      simp only at e3 e4 e5 q1 q4 z
      congr 1
      · omega
      · omega
theorem free_good (zero : α) {A : Ar α} {h : Handle} {n : Nat} (hA : A.good n) : (A.free zero h).1.good n := by
  unfold free
  cases hf : A.find h with
  | none => exact hA
  | some i =>
    obtain ⟨s, e1, e2, e3, e4, e5, e6⟩ := find_get hf
    simp only [e1]
    have ho := hA.ok
    have hnin : h.slot ∉ A.fr := fun q => by
      have := hA.un h.slot q s (by rw [← e4]; exact e1); rw [e2] at this; cases this
    have hil : i < A.sl.length := (List.getElem?_eq_some_iff.1 e1).1
    have hgen : ∀ t ∈ A.sl.set i ⟨s.gen, false, zero⟩, 0 ≤ t.gen ∧ t.gen ≤ n := by
      intro t ht
      rcases List.mem_or_eq_of_mem_set ht with q | q
      · exact hA.gen t q
      · rw [q]; exact hA.gen s (List.mem_of_getElem? e1)
    refine ⟨⟨ho.most, by simpa using ho.len, ?_, fun q hq => ?_, fun t ht => ?_⟩, ?_, fun q hq t ht => ?_, hgen⟩
    · -- the free list is no longer than the slots
      show (A.fr ++ [h.slot]).length ≤ (A.sl.set i _).length
      have hd : (A.fr ++ [h.slot]).Nodup := by
        rw [List.nodup_append]; exact ⟨hA.dup, by simp, fun a ha b hb e => hnin (by simp at hb; subst hb; subst e; exact ha)⟩
      rw [List.length_set]
      refine nodup_le _ _ hd fun q hq => ?_
      rcases List.mem_append.1 hq with hz | hz
      · exact ho.fr q hz
      · simp at hz; subst hz; omega
    · show 1 ≤ q ∧ q ≤ ((A.sl.set i _).length : Int)
      rw [List.length_set]
      rcases List.mem_append.1 hq with hz | hz
      · exact ho.fr q hz
      · simp at hz; subst hz; omega
    · rcases List.mem_or_eq_of_mem_set ht with q | q
      · exact ho.gen t q
      · rw [q]; exact ho.gen s (List.mem_of_getElem? e1)
    · rw [List.nodup_append]; exact ⟨hA.dup, by simp, fun a ha b hb e => hnin (by simp at hb; subst hb; subst e; exact ha)⟩
    · change (A.sl.set i _)[(q - 1).toNat]? = some t at ht
      by_cases hqi : (q - 1).toNat = i
      · rw [hqi, List.getElem?_set_self hil] at ht; cases ht; rfl
      · rw [List.getElem?_set_ne (fun z => hqi z.symm)] at ht
        rcases List.mem_append.1 hq with hz | hz
        · exact hA.un q hz t ht
        · simp at hz; subst hz; exact absurd e4.symm hqi
end Ar
end Go.Holt
/- A version that is stored, plain: what is laid down, and that all else stays. -/
namespace Go.Sl
open Go
/-- An empty slice is always at hand. -/
theorem SW.slnil {P : Program} {n : Nat} {ds : List Deferred} {e : Env} (E sz : Nat) {Hl : List HProp} {c : Code} {K : Exit → Env → HProp → Prop}
    (h : SW P n ds c e (star (SlOwn E sz (.slice none 0 0) [] :: Hl)) K) : SW P n ds c e (star Hl) K := by
  refine h.weak EnvLe.refl ?_
  intro R w hs
  show Sat (sep (sep _ (star Hl)) R) w
  rw [sep_assoc]
  exact SlOwn.nil E sz _ w (by rw [emp_sep]; exact hs)
end Go.Sl
namespace Go.Holt
open Go Go.Sl
open Enc (enc)
theorem SW.slsh {P : Program} {n : Nat} {ds : List Deferred} {e : Env} {E sz : Nat} {v : Value} {xs : List Value} {Hl F : List HProp} {c : Code} {K : Exit → Env → HProp → Prop} (hT : Take1 Hl (SlOwn E sz v xs) F)
    (h : ∀ p m cp, v = .slice p m cp → xs.length = m * sz → Sl.SW P n ds c e (star (SlOwn E sz v xs :: F)) K) : Sl.SW P n ds c e (star Hl) K := by
  rw [hT.eq]
  exact Sl.SW.slshape 0 rfl h
theorem flat_handle (l : List Handle) (h : Handle) : flat l ++ [.int .i64 h.slot, .int .i64 h.gen] = flat (l ++ [h]) := (flat_append' l h).symm
theorem Ar.zero_none {α : Type} (A : Ar α) : A.get ⟨0, 0⟩ = none := by
  cases h : A.get ⟨0, 0⟩ with
  | none => rfl
  | some x => have := Ar.get_slot h; simp at this
namespace T
variable {K V : Type}
def strip : T K V → T K V
  | nil => nil
  | node _ k v l r hi => node ⟨0, 0⟩ k v (strip l) (strip r) hi
/-- The tree with the handles that it has once it is stored. -/
def stored (zero : Node K V) (A : Ar (Node K V)) : T K V → T K V
  | nil => nil
  | node h k v l r hi =>
    if h = ⟨0, 0⟩ then node (store zero A (node h k v l r hi)).2.2 k v (stored zero A l) (stored zero (store zero A l).1 r) hi
    else node h k v l r hi
def handles : T K V → List Handle
  | nil => []
  | node h _ _ l r _ => h :: (handles l ++ handles r)
theorem part_mono {A A' : Ar (Node K V)} (h : ∀ hh x, A.get hh = some x → A'.get hh = some x) : ∀ {t : T K V}, part A t → part A' t
  | nil, _ => trivial
  | node _ _ _ _ _ _, q => ⟨fun z => holds_mono h (q.1 z), fun z => ⟨part_mono h (q.2 z).1, part_mono h (q.2 z).2⟩⟩
theorem holds_handles {A : Ar (Node K V)} : ∀ {t : T K V}, holds A t → ∀ h ∈ handles t, ∃ x, A.get h = some x
  | nil, _, h, q => by cases q
  | node _ _ _ _ _ _, w, h, q => by
    rcases List.mem_cons.1 q with rfl | q
    · exact ⟨_, w.1⟩
    · rcases List.mem_append.1 q with q | q
      · exact holds_handles w.2.1 h q
      · exact holds_handles w.2.2 h q
theorem store_node (zero : Node K V) (A : Ar (Node K V)) (k : K) (v : V) (l r : T K V) (hi : Int) : store zero A (node ⟨0, 0⟩ k v l r hi) =
    (((store zero (store zero A l).1 r).1.put zero ⟨k, v, (store zero A l).2.2, (store zero (store zero A l).1 r).2.2, hi⟩).1,
     (store zero A l).2.1 ++ (store zero (store zero A l).1 r).2.1 ++ [((store zero (store zero A l).1 r).1.put zero ⟨k, v, (store zero A l).2.2, (store zero (store zero A l).1 r).2.2, hi⟩).2],
     ((store zero (store zero A l).1 r).1.put zero ⟨k, v, (store zero A l).2.2, (store zero (store zero A l).1 r).2.2, hi⟩).2) := by
  rw [store, if_pos rfl]
structure St (zero : Node K V) (A : Ar (Node K V)) (t : T K V) (n : Nat) : Prop where
  good : (store zero A t).1.good (n + fresh t)
  room : (store zero A t).1.room = A.room - fresh t
  keep : ∀ h y, A.get h = some y → (store zero A t).1.get h = some y
  holds : T.holds (store zero A t).1 (stored zero A t)
  hd : T.hd (stored zero A t) = (store zero A t).2.2
  strip : T.strip (stored zero A t) = T.strip t
  new : ∀ h ∈ (store zero A t).2.1, A.get h = none ∧ h ≠ ⟨0, 0⟩ ∧ (∃ x, (store zero A t).1.get h = some x) ∧ h ∈ handles (stored zero A t)
  dup : (store zero A t).2.1.Nodup
  old : ∀ h ∈ handles (stored zero A t), h ∈ (store zero A t).2.1 ∨ h ∈ handles t ∧ h ≠ ⟨0, 0⟩
  most : (store zero A t).1.most = A.most
theorem put_most {α : Type} (zero : α) (A : Ar α) (x : α) : (A.put zero x).1.most = A.most := by
  unfold Ar.put Ar.lay Ar.next
  cases A.fr.getLast? with
  | none => simp only; split <;> rfl
  | some i => simp only; split <;> rfl
theorem hd_strip {t t' : T K V} (h : strip t = strip t') : hgt t = hgt t' := by
  cases t <;> cases t' <;> simp_all [strip, hgt]
theorem holds_ne {A : Ar (Node K V)} : ∀ {t : T K V}, holds A t → ∀ h ∈ handles t, h ≠ ⟨0, 0⟩ := by
  intro t w h q e
  obtain ⟨x, hx⟩ := holds_handles w h q
  rw [e, Ar.zero_none] at hx; cases hx
theorem store_st (zero : Node K V) : ∀ (t : T K V) (A : Ar (Node K V)) (n : Nat), A.good n → n + fresh t ≤ 1000000000 → (fresh t : Int) ≤ A.room → part A t → St zero A t n := by
  intro t
  induction t with
  | nil =>
    intro A n hA _ _ _
    exact ⟨hA, by simp [store, fresh], fun _ _ h => h, trivial, rfl, rfl, by simp [store], by simp [store], by simp [stored, handles], rfl⟩
  | node h k v l r hi il ir =>
    intro A n hA hn hr hp
    by_cases h0 : h = ⟨0, 0⟩
    · subst h0
      simp only [fresh, if_true] at hn hr
      have sl := il A n hA (by omega) (by omega) (hp.2 rfl).1
      have sr := ir (store zero A l).1 (n + fresh l) sl.good (by omega) (by rw [sl.room]; omega) (part_mono sl.keep (hp.2 rfl).2)
      have hr2 : (store zero (store zero A l).1 r).1.room ≠ 0 := by rw [sr.room, sl.room]; omega
      have g2 := sr.good
      generalize hx : (⟨k, v, (store zero A l).2.2, (store zero (store zero A l).1 r).2.2, hi⟩ : Node K V) = x
      have pk := fun hh y (q : (store zero (store zero A l).1 r).1.get hh = some y) => Ar.put_keep zero x g2 hr2 q
      have pg := Ar.put_get zero x g2 hr2
      have pn := Ar.put_new zero x g2 hr2
      have keep : ∀ h y, A.get h = some y → ((store zero (store zero A l).1 r).1.put zero x).1.get h = some y := fun hh y q => pk _ _ (sr.keep _ _ (sl.keep _ _ q))
      have old1 : ∀ {hh}, ((store zero (store zero A l).1 r).1).get hh = none → (store zero A l).1.get hh = none := fun {hh} q => by
        cases e : (store zero A l).1.get hh with
        | none => rfl
        | some y => rw [sr.keep _ _ e] at q; cases q
      have old0 : ∀ {hh}, (store zero A l).1.get hh = none → A.get hh = none := fun {hh} q => by
        cases e : A.get hh with
        | none => rfl
        | some y => rw [sl.keep _ _ e] at q; cases q
      have hne : ((store zero (store zero A l).1 r).1.put zero x).2 ≠ ⟨0, 0⟩ := fun e => by rw [e, Ar.zero_none] at pg; cases pg
      have es : store zero A (node ⟨0, 0⟩ k v l r hi) = (((store zero (store zero A l).1 r).1.put zero x).1, (store zero A l).2.1 ++ (store zero (store zero A l).1 r).2.1 ++ [((store zero (store zero A l).1 r).1.put zero x).2], ((store zero (store zero A l).1 r).1.put zero x).2) := by
        rw [store, if_pos rfl]; subst hx; rfl
      have ed : stored zero A (node ⟨0, 0⟩ k v l r hi) = node ((store zero (store zero A l).1 r).1.put zero x).2 k v (stored zero A l) (stored zero (store zero A l).1 r) hi := by
        rw [stored, if_pos rfl, es]
      have ef : fresh (node ⟨0, 0⟩ k v l r hi) = 1 + fresh l + fresh r := by simp [fresh]
      constructor
      · rw [es, ef]; exact (Ar.put_good zero x g2 (by omega) hr2).mono (by omega)
      · rw [es, ef]; simp only; rw [Ar.put_room zero x g2 hr2, sr.room, sl.room]; omega
      · rw [es]; exact keep
      · rw [es, ed]; refine ⟨?_, holds_mono (fun hh y q => pk _ _ (sr.keep _ _ q)) sl.holds, holds_mono pk sr.holds⟩
        simp only; rw [pg, sl.hd, sr.hd, hx]
      · rw [es, ed]; rfl
      · rw [ed]; simp only [T.strip]; rw [sl.strip, sr.strip]
      · rw [es, ed]
        intro hh q
        simp only [handles, List.mem_cons, List.mem_append] at q ⊢
        rcases q with (q | q) | q | q
        · obtain ⟨a, b, ⟨y, c⟩, d⟩ := sl.new hh q
          exact ⟨a, b, ⟨y, pk _ _ (sr.keep _ _ c)⟩, .inr (.inl d)⟩
        · obtain ⟨a, b, ⟨y, c⟩, d⟩ := sr.new hh q
          exact ⟨old0 a, b, ⟨y, pk _ _ c⟩, .inr (.inr d)⟩
        · subst q; exact ⟨old0 (old1 pn), hne, ⟨x, pg⟩, .inl rfl⟩
        · cases q
      · rw [es]
        simp only
        rw [List.nodup_append, List.nodup_append]
        refine ⟨⟨sl.dup, sr.dup, fun a ha b hb e => ?_⟩, by simp, fun a ha b hb e => ?_⟩
        · subst e
          obtain ⟨_, _, ⟨y, c⟩, _⟩ := sl.new a ha
          rw [(sr.new a hb).1] at c; cases c
        · simp only [List.mem_singleton] at hb; subst hb; subst e
          rcases List.mem_append.1 ha with q | q
          · obtain ⟨_, _, ⟨y, c⟩, _⟩ := sl.new _ q
            rw [sr.keep _ _ c] at pn; cases pn
          · obtain ⟨_, _, ⟨y, c⟩, _⟩ := sr.new _ q
            rw [c] at pn; cases pn
      · rw [es, ed]
        intro hh q
        simp only [handles, List.mem_cons, List.mem_append] at q ⊢
        rcases q with q | q | q
        · subst q; exact .inl (.inr (.inl rfl))
        · rcases sl.old hh q with z | z
          · exact .inl (.inl (.inl z))
          · exact .inr ⟨.inr (.inl z.1), z.2⟩
        · rcases sr.old hh q with z | z
          · exact .inl (.inl (.inr z))
          · exact .inr ⟨.inr (.inr z.1), z.2⟩
      · rw [es]; simp only; rw [put_most, sr.most, sl.most]
    · have es : store zero A (node h k v l r hi) = (A, [], h) := by rw [store, if_neg h0]
      have ed : stored zero A (node h k v l r hi) = node h k v l r hi := by rw [stored, if_neg h0]
      have ef : fresh (node h k v l r hi) = 0 := by simp [fresh, h0]
      have hh := hp.1 h0
      exact ⟨by rw [es, ef]; exact hA, by rw [es, ef]; simp, by rw [es]; exact fun _ _ q => q, by rw [es, ed]; exact hh, by rw [es, ed]; rfl, by rw [ed], by rw [es]; simp, by rw [es]; simp,
        by rw [es, ed]; exact fun q hq => .inr ⟨hq, holds_ne hh q hq⟩, by rw [es]⟩
end T
end Go.Holt
/- More operations: a slice held against nil, a part with its own bound. -/
namespace Go.Sl
open Go
section
variable {P : Program} {n : Nat} {ds : List Deferred} {ops : Array Oper} {K : Env → HProp → Prop} {e : Env} {i : Nat} {k : Kd} {l : List Item} {o : Oper} {d : Nat} {D0 : HProp}
theorem run_equalIn_nilS (w : World) (d : Nat) (t : TypeId) {E : TypeId} (a : Option Addr) (m c m' c' : Nat) (h : P.underlying t = some (.slice E)) :
    (Op.equalIn (d + 1) t (.slice a m c) (.slice none m' c')).run P w = .ok a.isNone w := by
  cases a <;> simp [Op.equalIn, run_underlying h]
theorem run_eql_nilS (w : World) (t : TypeId) {E : TypeId} (a : Option Addr) (m c m' c' : Nat) (h : P.underlying t = some (.slice E)) :
    (binOp .eql t (.slice a m c) (.slice none m' c')).run P w = .ok (.bool a.isNone) w := by
  simp only [binOp]
  simp [Op.equal, Op.maxDepth, run_equalIn_nilS w 9999 t a m c m' c' h]
theorem rx_eqnilS {D H : HProp} {x : Operand} {t t' E sz bytes : TypeId} {a : Option Addr} {m c m' c' : Nat} (ho : ops[i]? = some o) (hw : wantE ops e o = some true) (hd : o.dst = some d) (hdn : Nat.blt d n = true)
    (hop : o.op = .binOp .eql t x (.const (.slice none m' c')) t') (ht : slI P t = some (E, sz, bytes)) (hx : ov e x = some (.slice a m c))
    (h : RX P n ds ops D0 l D (upd e d (.bool a.isNone)) H K) : RX P n ds ops D0 (.op i k :: l) D e H K := by
  refine rx_strict ho hw hd hdn (fun ac w ha => ?_) h
  obtain ⟨hu, _⟩ := slI_spec ht
  unfold execOp
  have hc : ac.eval (.const (.slice none m' c')) = .slice none m' c' := rfl
  simp only [hop, ha.eval hx, hc, Sem.run_bind]
  rw [show (eqGuard .eql t x (.const (.slice none m' c')) (.slice a m c) (.slice none m' c') : Sem Unit) = pure () from rfl]
  simp only [Sem.run_pure, Result.andThen_ok, run_eql_nilS w t a m c m' c' hu]
theorem bounds_full {isS : Bool} {len cap : Nat} {kk kk' kk2 : IntKind} {j j' j2 : Int} (h0 : 0 ≤ j) (h1 : j ≤ j') (h2 : j' ≤ j2) (h3 : j2 ≤ cap) (w : World) :
    (Instr.sliceBounds isS len cap (some (.int kk j)) (some (.int kk' j')) (some (.int kk2 j2))).run P w = .ok (j.toNat, j'.toNat, j2.toNat) w := by
  have h0' : 0 ≤ j' := by omega
  have h0'' : 0 ≤ j2 := by omega
  have e1 : j' ≤ max j2 0 := by omega
  have e2 : j ≤ max j' 0 := by omega
  simp [Instr.sliceBounds, Instr.sliceBound, asIntOf, h0, h0', h0'', h3, e1, e2]
/-- 'x[i:j:m]' -/
theorem rx_slfull {D H : HProp} {t E sz bytes : Nat} {x y y' y2 : Operand} {b off len cap : Nat} {kk kk' kk2 : IntKind} {j j' j2 : Int} (ho : ops[i]? = some o) (hw : wantE ops e o = some true) (hd : o.dst = some d) (hdn : Nat.blt d n = true)
    (hop : o.op = .slice t x (some y) (some y') (some y2)) (ht : slI P t = some (E, sz, bytes)) (hx : ov e x = some (.slice (some ⟨b, off, none⟩) len cap)) (hy : ov e y = some (.int kk j)) (hy' : ov e y' = some (.int kk' j')) (hy2 : ov e y2 = some (.int kk2 j2))
    (hj : 0 ≤ j ∧ j ≤ j' ∧ j' ≤ j2 ∧ j2 ≤ cap)
    (h : ∀ off', off' = (if j2 = j then off else off + j.toNat * sz) → RX P n ds ops D0 l D (upd e d (.slice (some ⟨b, off', none⟩) (j'.toNat - j.toNat) (j2.toNat - j.toNat))) H K) : RX P n ds ops D0 (.op i k :: l) D e H K := by
  have hst := st_slice (P := P) (n := n) (ds := ds) hop ht hx (L := j.toNat) (Hh := j'.toNat) (M := j2.toNat) (fun a w ha => by
    simp only [Option.map_some, ha.eval hy, ha.eval hy', ha.eval hy2]; exact bounds_full hj.1 hj.2.1 hj.2.2.1 hj.2.2.2 w)
  by_cases hc : j2.toNat = j.toNat
  · rw [if_pos hc] at hst
    exact rx_strict ho hw hd hdn hst (h off (by rw [if_pos (by omega)]))
  · rw [if_neg hc] at hst
    simp only [Option.map_some, add_none] at hst
    exact rx_strict ho hw hd hdn hst (h _ (by rw [if_neg (by omega)]))
theorem slown_new {E sz b : Nat} : Ent (blk b [] E (0, 0)) (SlOwn E sz (.slice (some ⟨b, 0, none⟩) 0 0) []) :=
  fun _ hh => ⟨by simp, .inr ⟨b, 0, 0, [], rfl, by simp, by simp, Nat.le_refl _, hh⟩⟩
/-- 'append([]T{}, x...)', x a slice of its own. -/
theorem rx_app0S {Dl Hl F F' : List HProp} {x y : Operand} {t E sz bytes : Nat} {z : List Value} {vy : Value} {ys : List Value} {bx : Nat}
    (ho : ops[i]? = some o) (hw : wantE ops e o = some true) (hd : o.dst = some d) (hdn : Nat.blt d n = true) (hop : o.op = .call { callee := .builtin .append, args := #[x, y], argTypes := #[t, t] })
    (ht : slI P t = some (E, sz, bytes)) (hz : zeroOf P E = some z) (hzl : Nat.beq z.length sz = true) (hsz : Nat.blt 0 sz = true) (hby : Nat.ble bytes 1000 = true)
    (hx : ov e x = some (.slice (some ⟨bx, 0, none⟩) 0 0)) (hy : ov e y = some vy) (hT : Take1 Hl (blk bx [] E (0, 0)) F) (hT' : Take1 F (SlOwn E sz vy ys) F') (hroom : ys.length ≤ 1000000000)
    (h : ∀ p m cp, ys.length = m * sz → RX P n ds ops D0 l (star Dl) (upd e d (.slice p m cp)) (star (SlOwn E sz (.slice p m cp) ys :: SlOwn E sz vy ys :: F')) K) : RX P n ds ops D0 (.op i .e :: l) (star Dl) e (star Hl) K := by
  refine rx_appSE (xs := []) (ys := ys) (F := F') rfl ho hw hd hdn hop ht hz hzl hsz hby hx hy ?_ (by simpa using hroom) (fun p m cp q => h p m cp q)
  rw [hT.eq, hT'.eq, ← sep_assoc]
  exact Ent.sep (Ent.sep slown_new (Ent.refl _)) (Ent.refl _)
/-- 'append([]T{}, x...)', x lying in a block. -/
theorem rx_app0 {Dl Hl F F' : List HProp} {x y : Operand} {t E sz bytes : Nat} {z : List Value} {ys : List Value} {bx b off m c : Nat} {cl : List Value} {T : TypeId} {fz : Nat × Nat}
    (ho : ops[i]? = some o) (hw : wantE ops e o = some true) (hd : o.dst = some d) (hdn : Nat.blt d n = true) (hop : o.op = .call { callee := .builtin .append, args := #[x, y], argTypes := #[t, t] })
    (ht : slI P t = some (E, sz, bytes)) (hz : zeroOf P E = some z) (hzl : Nat.beq z.length sz = true) (hsz : Nat.blt 0 sz = true) (hby : Nat.ble bytes 1000 = true)
    (hx : ov e x = some (.slice (some ⟨bx, 0, none⟩) 0 0)) (hy : ov e y = some (.slice (some ⟨b, off, none⟩) m c)) (hT : Take1 Hl (blk bx [] E (0, 0)) F) (hT' : Take1 F (blk b cl T fz) F')
    (hys : (cl.drop off).take (m * sz) = ys) (hl : ys.length = m * sz) (h1 : ∀ u ∈ ys, u.oneCell' = true) (hroom : ys.length ≤ 1000000000)
    (h : ∀ p m cp, ys.length = m * sz → RX P n ds ops D0 l (star Dl) (upd e d (.slice p m cp)) (star (SlOwn E sz (.slice p m cp) ys :: blk b cl T fz :: F')) K) : RX P n ds ops D0 (.op i .e :: l) (star Dl) e (star Hl) K := by
  refine rx_appE (xs := []) (ys := ys) (F := F') rfl ho hw hd hdn hop ht hz hzl hsz hby hx hy ?_ hys hl h1 (by simpa using hroom) (fun p m cp q => h p m cp q)
  rw [hT.eq, hT'.eq, ← sep_assoc]
  exact Ent.sep (Ent.sep slown_new (Ent.refl _)) (Ent.refl _)
end
end Go.Sl
/- Plain data: calls, answers, messages, a desk. -/
namespace Go.Holt
open Go Go.Sl
open Enc (enc)
/-- A slice's value. -/
structure Sli where
  p : Option Addr
  m : Nat
  c : Nat
def Sli.v (s : Sli) : Value := .slice s.p s.m s.c
def Sli.none : Sli := ⟨Option.none, 0, 0⟩
structure Call where
  kind : Int
  node : Int
  to : Int
  text : ByteArray
  data : Sli
structure Ans where
  e : Int
  version : Int
  node : Int
  kids : Sli
  data : Sli
def Ans.zero : Ans := ⟨0, 0, 0, Sli.none, Sli.none⟩
structure Ver where
  n : Int
  kids : Handle
  spots : Handle
  deriving DecidableEq
structure Msg where
  client : Int
  call : Int
  what : Call
structure Rep where
  a : Ans
  lies : Bool
structure Ev where
  what : Int
  client : Int
  call : Int
  version : Int
  deriving DecidableEq
instance : Enc Sli := ⟨fun s => [.slice s.p s.m s.c], 1, fun _ => rfl, fun _ u h => by simp at h; subst h; rfl⟩
instance : Enc Call := ⟨fun x => [.int .i64 x.kind, .int .i64 x.node, .int .i64 x.to, .string x.text, .slice x.data.p x.data.m x.data.c], 5, fun _ => rfl, fun _ u h => by simp at h; rcases h with rfl | rfl | rfl | rfl | rfl <;> rfl⟩
instance : Enc Ans := ⟨fun x => [.int .i64 x.e, .int .i64 x.version, .int .i64 x.node, .slice x.kids.p x.kids.m x.kids.c, .slice x.data.p x.data.m x.data.c], 5, fun _ => rfl, fun _ u h => by simp at h; rcases h with rfl | rfl | rfl | rfl | rfl <;> rfl⟩
instance : Enc Ver := ⟨fun x => [.int .i64 x.n, .int .i64 x.kids.slot, .int .i64 x.kids.gen, .int .i64 x.spots.slot, .int .i64 x.spots.gen], 5, fun _ => rfl, fun _ u h => by simp at h; rcases h with rfl | rfl | rfl | rfl | rfl <;> rfl⟩
instance : Enc Msg := ⟨fun x => [.int .i64 x.client, .int .i64 x.call, .int .i64 x.what.kind, .int .i64 x.what.node, .int .i64 x.what.to, .string x.what.text, .slice x.what.data.p x.what.data.m x.what.data.c], 7, fun _ => rfl,
  fun _ u h => by simp at h; rcases h with rfl | rfl | rfl | rfl | rfl | rfl | rfl <;> rfl⟩
instance : Enc Rep := ⟨fun x => [.int .i64 x.a.e, .int .i64 x.a.version, .int .i64 x.a.node, .slice x.a.kids.p x.a.kids.m x.a.kids.c, .slice x.a.data.p x.a.data.m x.a.data.c, .bool x.lies], 6, fun _ => rfl,
  fun _ u h => by simp at h; rcases h with rfl | rfl | rfl | rfl | rfl | rfl <;> rfl⟩
instance : Enc Ev := ⟨fun x => [.int .i64 x.what, .int .i64 x.client, .int .i64 x.call, .int .i64 x.version], 4, fun _ => rfl, fun _ u h => by simp at h; rcases h with rfl | rfl | rfl | rfl <;> rfl⟩
theorem flat_msg (l : List Msg) (x : Msg) : flat l ++ [.int .i64 x.client, .int .i64 x.call, .int .i64 x.what.kind, .int .i64 x.what.node, .int .i64 x.what.to, .string x.what.text, .slice x.what.data.p x.what.data.m x.what.data.c] = flat (l ++ [x]) := (flat_append' l x).symm
structure Ring where
  most : Int
  l : List Msg
  closed : Bool
def Ring.put (r : Ring) (x : Msg) : Ring × Int := if r.closed = true then (r, 8) else if (r.l.length : Int) ≥ r.most then (r, 7) else ({ r with l := r.l ++ [x] }, 0)
def Ring.take (r : Ring) : Ring × Option Msg := match r.l with
  | [] => (r, none)
  | x :: l => ({ r with l := l }, some x)
def Msg.zero : Msg := ⟨0, 0, ⟨0, 0, 0, ⟨#[]⟩, Sli.none⟩⟩
def Rep.zero : Rep := ⟨Ans.zero, false⟩
structure Desk where
  root : Ver
  epoch : Int
  pins : List Int
  reps : List Rep
  ring : Ring
  acc : Int
namespace Desk
def tick (D : Desk) : Desk := { D with acc := D.acc + 1 }
structure ok (D : Desk) : Prop where
  acc : 0 ≤ D.acc ∧ D.acc ≤ 1000000000
  ring : D.ring.l.length ≤ 100000
end Desk
def repA {α : Type} (a : α) (n : Nat) : List α := List.replicate n a
theorem rep_flat {α : Type} [Enc α] (a : α) (n : Nat) : repL (enc a) n = flat (List.replicate n a) := by
  induction n with
  | zero => rfl
  | succ n ih => rw [repL, ih, List.replicate_succ]; rfl
/- Lists of things of one kind, in a block: what is read and written there. -/
section
variable {α : Type} [Enc α]
theorem flat_fit {l : List α} {i : Nat} {a : α} (h : l[i]? = some a) {j s off : Nat} (hj : j + s ≤ Enc.n α) (ho : off = i * Enc.n α + j) (rest : List Value) : Nat.ble (off + s) (flat l ++ rest).length = true := by
  have hi : i < l.length := (List.getElem?_eq_some_iff.1 h).1
  apply Nat.ble_eq_true_of_le
  rw [List.length_append, flat_len]
  have : i * Enc.n α + Enc.n α ≤ l.length * Enc.n α := by rw [← Nat.succ_mul]; exact Nat.mul_le_mul_right _ hi
  omega
theorem flat_tail (x : α) (l : List α) (rest : List Value) {off m : Nat} (ho : off = if ((l.length + 1 : Nat) : Int) = 1 then 0 else Enc.n α) (hm : m = l.length * Enc.n α) : ((flat (x :: l) ++ rest).drop off).take m = flat l := by
  subst hm
  cases l with
  | nil => simp [flat]
  | cons y l =>
    have : ¬ (((List.length (y :: l) + 1 : Nat) : Int) = 1) := by simp only [List.length_cons]; omega
    rw [if_neg this] at ho
    subst ho
    have e1 : flat (x :: y :: l) ++ rest = enc x ++ (flat (y :: l) ++ rest) := by simp [flat, List.append_assoc]
    rw [e1, List.drop_append_of_le_length (by rw [Enc.len]; exact Nat.le_refl _), List.drop_of_length_le (by rw [Enc.len]; exact Nat.le_refl _), List.nil_append, ← flat_len]
    simp
theorem flat_ne {l : List α} {i : Nat} {a : α} (h : l[i]? = some a) (hn : 0 < Enc.n α) : flat l ≠ [] := by
  intro q
  have hi : i < l.length := (List.getElem?_eq_some_iff.1 h).1
  have e := flat_len l
  rw [q] at e
  have : 1 * 1 ≤ l.length * Enc.n α := Nat.mul_le_mul (by omega) hn
  rw [List.length_nil] at e
  omega
end
/-- One who calls. -/
structure Cli where
  i : Nat
  calls : List Call
  at_ : Nat
  next : Nat
  waits : Bool
  epoch : Int
  version : Ver
  reads : Bool
  find : Option Addr
  answers : List Ans
def Cli.ended (C : Cli) (nx : Nat) (a : Ans) : Cli := { C with answers := C.answers ++ [a], at_ := C.at_ + 1, next := nx }
structure Cli.ok (C : Cli) : Prop where
  at_ : C.at_ ≤ 1000000
  answers : C.answers.length ≤ 1000000
theorem flat_ans (l : List Ans) (x : Ans) : flat l ++ [.int .i64 x.e, .int .i64 x.version, .int .i64 x.node, .slice x.kids.p x.kids.m x.kids.c, .slice x.data.p x.data.m x.data.c] = flat (l ++ [x]) := (flat_append' l x).symm
/-- Whom events are told: a function, and what it keeps. -/
structure Note (P : Program) (nf : Nat) (cap : Array Value) (L : List Ev → HProp) : Prop where
  ca : callable P nf = true
  run : ∀ (l : List Ev) (e : Ev), l.length ≤ 1000000 → Sl.Spec P nf (Value.agg (enc e).toArray :: cap.toList).toArray [L l] (fun v h => v = .tuple #[] ∧ h = [L (l ++ [e])])
end Go.Holt
/- The heap as it was when a call began, in one piece: a block is taken out of it to be read, and is put back; at the end all of it is as it was. And: a contract of the library's that adds blocks, told as a 'Spec'. -/
namespace Go.Sl
open Go Go.RowKit
def oldHp (w0 : World) (S : List Nat) : Hp
  | 0 => some (.was w0)
  | b + 1 => if b ∈ S then none else (w0.heap[b]?).map .obj
/-- All of an old world, but for some blocks. -/
def OLD (w0 : World) (S : List Nat) : HProp := fun h => h = oldHp w0 S
theorem OLD.take {w0 : World} {S : List Nat} {b : Nat} {o : Obj} (hb : w0.heap[b]? = some o) (hS : b ∉ S) : OLD w0 S = sep (pt b o) (OLD w0 (b :: S)) := by
  have key : oldHp w0 S = Hp.join (Hp.one (b + 1) (.obj o)) (oldHp w0 (b :: S)) := by
    funext c
    cases c with
    | zero => simp [Hp.join, Hp.one, oldHp]
    | succ c =>
      by_cases q : c = b
      · subst q; simp [Hp.join, Hp.one, oldHp, hS, hb]
      · have q' : ¬ (c + 1 = b + 1) := by omega
        simp [Hp.join, Hp.one, oldHp, q]
  funext h; apply propext
  constructor
  · intro hh
    refine ⟨_, _, fun c => ?_, by rw [← key]; exact hh, rfl, rfl⟩
    by_cases q : c = b + 1
    · subst q; exact .inr (by simp [oldHp])
    · exact .inl (by simp [Hp.one, q])
  · rintro ⟨f, g, _, e, hf, hg⟩
    rw [show f = _ from hf, show g = _ from hg, ← key] at e
    exact e
theorem OLD.sat (w : World) : Sat (OLD w []) w := ⟨_, rfl, fun b r h => by
  cases b with
  | zero => simp [oldHp] at h; subst h; exact Side.refl w
  | succ b =>
    simp only [oldHp, List.not_mem_nil, if_false, Option.map_eq_some_iff] at h
    obtain ⟨o, h1, rfl⟩ := h
    exact h1⟩
theorem OLD.below {w0 w : World} {R : HProp} (h : Sat (sep (OLD w0 []) R) w) : Below w0.heap.size w0 w := by
  obtain ⟨g, hg, z⟩ := h.left
  have hg' : g = oldHp w0 [] := hg
  subst hg'
  have h0 : Side w0 w := z 0 (.was w0) rfl
  refine ⟨h0.os, h0.tape, h0.output, h0.size, fun k hk => ?_⟩
  obtain ⟨o, ho⟩ : ∃ o, w0.heap[k]? = some o := ⟨_, Array.getElem?_eq_getElem hk⟩
  have := z (k + 1) (.obj o) (by simp [oldHp, ho])
  rw [ho]; exact this
theorem OLD.cell {w0 w : World} {R : HProp} (h : Sat (sep (OLD w0 []) R) w) {p : Addr} {v : Value} (hp : w0.cell? p = some v) : w.cell? p = some v := by
  rw [(OLD.below h).cell (World.block_lt_of_cell? _ _ hp)]; exact hp
/- a block out of the old heap, and back -/
section
variable {P : Program} {n : Nat} {ds : List Deferred} {e : Env} {K : Exit → Env → HProp → Prop}
theorem oldOut {c : Code} {w0 : World} {b : Nat} {cs : Array Value} {T : TypeId} {fz : Nat × Nat} {Hl F : List HProp} (hT : Take1 Hl (OLD w0 []) F) (hb : w0.heap[b]? = some (.cells cs T fz))
    (h : SW P n ds c e (star (blk b cs.toList T fz :: OLD w0 [b] :: F)) K) : SW P n ds c e (star Hl) K := by
  have e1 : star Hl = star (blk b cs.toList T fz :: OLD w0 [b] :: F) := by
    rw [hT.eq, OLD.take hb (by simp)]
    show sep (sep _ _) _ = sep _ (sep _ _)
    rw [sep_assoc]; rfl
  rw [e1]; exact h
theorem oldIn {w0 : World} {b : Nat} {cs : Array Value} {T : TypeId} {fz : Nat × Nat} {l l' : List HProp} (hb : w0.heap[b]? = some (.cells cs T fz)) (h : EntL l (blk b cs.toList T fz :: OLD w0 [b] :: l')) : EntL l (OLD w0 [] :: l') := by
  have e1 : star (OLD w0 [] :: l') = star (blk b cs.toList T fz :: OLD w0 [b] :: l') := by
    show sep _ _ = sep _ (sep _ _)
    rw [OLD.take hb (by simp), sep_assoc]; rfl
  unfold EntL; rw [e1]; exact h.ent
theorem Spec.oldOut {f : FuncId} {args : Array Value} {Post : Value → List HProp → Prop} {w0 : World} {b : Nat} {cs : Array Value} {T : TypeId} {fz : Nat × Nat} {Hl F : List HProp} (hT : Take1 Hl (OLD w0 []) F) (hb : w0.heap[b]? = some (.cells cs T fz))
    (h : Spec P f args (blk b cs.toList T fz :: OLD w0 [b] :: F) Post) : Spec P f args Hl Post := by
  have e1 : star Hl = star (blk b cs.toList T fz :: OLD w0 [b] :: F) := by
    rw [hT.eq, OLD.take hb (by simp)]
    show sep (sep _ _) _ = sep _ (sep _ _)
    rw [sep_assoc]; rfl
  intro R w hs
  exact h R w (by rw [← e1]; exact hs)
end
/- what the library's contracts tell, as 'Spec's -/
section
variable {P : Program} {f : FuncId} {args : Array Value}
/-- One that changes nothing. -/
theorem Spec.of_same {Pre : List HProp} {v : Value} (h : ∀ R w, Sat (sep (star Pre) R) w → Calls P f args w fun e w' => e = .returned v ∧ w' = w) :
    Spec P f args Pre (fun v' l => v' = v ∧ l = Pre) := fun R w hs => (h R w hs).mono fun e w' ⟨a, b⟩ => ⟨v, Pre, a, ⟨rfl, rfl⟩, by rw [b]; exact hs⟩
/-- What was there is there yet where a world has grown: all blocks below its size are as they were. -/
theorem Sat.below {p : HProp} {w w' : World} (hs : Sat p w) (hb : Below w.heap.size w w') : Sat p w' := by
  obtain ⟨h, x, z⟩ := hs
  refine ⟨h, x, fun b r hr => ?_⟩
  have := z b r hr
  refine this.step ⟨hb.os, hb.tape, hb.output, hb.size⟩ fun c hc => ?_
  subst hc
  cases r with
  | obj o => exact hb.block c (Array.getElem?_eq_some_iff.1 this).1
  | was w0 => exact this.elim
theorem Spec.of_below {Pre : List HProp} {v : Value} (h : ∀ R w, Sat (sep (star Pre) R) w → Calls P f args w fun e w' => e = .returned v ∧ Below w.heap.size w w') :
    Spec P f args Pre (fun v' l => v' = v ∧ l = Pre) := fun R w hs => (h R w hs).mono fun e w' ⟨a, b⟩ => ⟨v, Pre, a, ⟨rfl, rfl⟩, hs.below b⟩
/-- One that lays a block. -/
theorem Spec.of_alloc {Pre : List HProp} {cl : List Value} {T : TypeId} {mk : Nat → Value} (h : ∀ R w, Sat (sep (star Pre) R) w → Calls P f args w fun e w' => e = .returned (mk w.heap.size) ∧ w' = w.alloc (.cells cl.toArray T)) :
    Spec P f args Pre (fun v l => ∃ b, v = mk b ∧ l = blk b cl T (0, 0) :: Pre) := fun R w hs => (h R w hs).mono fun e w' ⟨a, b⟩ => by
  refine ⟨_, blk w.heap.size cl T (0, 0) :: Pre, a, ⟨w.heap.size, rfl, rfl⟩, ?_⟩
  subst b
  have := hs.new (o := .cells cl.toArray T) (w' := w.alloc (.cells cl.toArray T)) rfl (Side.push w _ _)
  rw [← sep_assoc] at this
  exact this
end
end Go.Sl
/- The engine: '==' between structs of whole numbers, bools and strings. -/
namespace Go.Sl
open Go

inductive Sk where
  | i | b | s
  deriving DecidableEq
def eq1 : Sk → Value → Value → Option Bool
  | .i, .int k a, .int k' b => if k = k' then some (a == b) else none
  | .b, .bool a, .bool b => some (a == b)
  | .s, .string a, .string b => some (a.toList == b.toList)
  | _, _, _ => none
theorem eq1_b {x y : Value} {r : Bool} (h : eq1 .b x y = some r) : ∃ a b, x = .bool a ∧ y = .bool b ∧ r = (a == b) := by
  unfold eq1 at h
  split at h
  · rename_i q; cases q
  · cases h; exact ⟨_, _, rfl, rfl, rfl⟩
  · rename_i q; cases q
  · cases h
theorem eq1_s {x y : Value} {r : Bool} (h : eq1 .s x y = some r) : ∃ a b, x = .string a ∧ y = .string b ∧ r = (a.toList == b.toList) := by
  unfold eq1 at h
  split at h
  · rename_i q; cases q
  · rename_i q; cases q
  · cases h; exact ⟨_, _, rfl, rfl, rfl⟩
  · cases h
theorem eq1_i {x y : Value} {r : Bool} (h : eq1 .i x y = some r) : ∃ k a b, x = .int k a ∧ y = .int k b ∧ r = (a == b) := by
  unfold eq1 at h
  split at h
  · split at h
    · rename_i hk; subst hk; cases h; exact ⟨_, _, _, rfl, rfl, rfl⟩
    · cases h
  · rename_i q; cases q
  · rename_i q; cases q
  · cases h
def eqK : List Sk → List Value → List Value → Option Bool
  | [], [], [] => some true
  | k :: ks, x :: xs, y :: ys => match eq1 k x y with
    | some a => match eqK ks xs ys with
      | some b => some (a && b)
      | none => none
    | none => none
  | _, _, _ => none
theorem eqK_append : ∀ {ks ks' : List Sk} {xs ys : List Value} {r : Bool}, eqK (ks ++ ks') xs ys = some r →
    ∃ a b, eqK ks (xs.take ks.length) (ys.take ks.length) = some a ∧ eqK ks' (xs.drop ks.length) (ys.drop ks.length) = some b ∧ r = (a && b) ∧ ks.length ≤ xs.length ∧ ks.length ≤ ys.length := by
  intro ks
  induction ks with
  | nil => intro ks' xs ys r h; exact ⟨true, r, rfl, h, by simp, by simp, by simp⟩
  | cons k ks ih =>
    intro ks' xs ys r h
    cases xs with
    | nil => cases ys <;> cases h
    | cons x xs =>
      cases ys with
      | nil => cases h
      | cons y ys =>
        simp only [List.cons_append, eqK] at h
        cases hv : eq1 k x y with
        | none => rw [hv] at h; cases h
        | some a =>
          rw [hv] at h
          cases he : eqK (ks ++ ks') xs ys with
          | none => rw [he] at h; cases h
          | some b =>
            rw [he] at h
            cases h
            obtain ⟨a', b', h1, h2, rfl, h3, h4⟩ := ih he
            exact ⟨a && a', b', by simp only [List.length_cons, List.take_succ_cons, eqK, hv, h1], h2, by simp [Bool.and_assoc], by simp; omega, by simp; omega⟩

def plainT (P : Program) : Nat → TypeId → Option (List Sk)
  | 0, _ => none
  | d + 1, t => match P.underlying t with
    | some (.int _) => some [.i]
    | some .bool => some [.b]
    | some .string => some [.s]
    | some (.struct fs) => if P.stoodInHeld t then none else
        fs.toList.foldr (fun f acc => fun cur => if f.name != "_" && f.offset == cur then
          match plainT P d f.type, acc (cur + (tySz P f.type).getD 0) with
          | some ks, some rest => if tySz P f.type = some ks.length then some (ks ++ rest) else none
          | _, _ => none
          else none) (fun _ => some []) 0
    | _ => none
def eqOk (P : Program) (t : TypeId) (ks : List Sk) : Bool := (plainT P 6 t == some ks) && !P.eqGuardType P.depth t && tyAgg P t == some true

section
variable {P : Program}
def packV (P : Program) (t : TypeId) (xs : List Value) (v : Value) : Prop := (tyAgg P t = some true ∧ v = .agg xs.toArray) ∨ (tyAgg P t = some false ∧ xs = [v])
theorem part_pack {t : TypeId} {m off : Nat} {xs : List Value} (hs : tySz P t = some m) (ha : ∃ b, tyAgg P t = some b ∧ (b = false → m = 1)) (hl : off + m ≤ xs.length) (w : World) :
    ∃ v, packV P t ((xs.drop off).take m) v ∧ (part t xs.toArray off).run P w = .ok v w := by
  obtain ⟨b, hb, h1⟩ := ha
  cases b with
  | true =>
    refine ⟨.agg ((xs.drop off).take m).toArray, .inl ⟨hb, rfl⟩, ?_⟩
    have : xs.toArray.extract off (off + m) = ((xs.drop off).take m).toArray := Array.toList_inj.1 (by simp [Array.toList_extract])
    simp [part, run_isAgg_of hb, run_sizeOf_of hs, this]
  | false =>
    have hm := h1 rfl
    subst hm
    have hlt : off < xs.length := by omega
    refine ⟨xs[off], .inr ⟨hb, ?_⟩, ?_⟩
    · rw [List.drop_eq_getElem_cons hlt, List.take_succ_cons, List.take_zero]
    · simp [part, run_isAgg_of hb, hlt]

theorem plain_agg {d t : Nat} {ks : List Sk} (h : plainT P d t = some ks) : ∃ b, tyAgg P t = some b ∧ (b = false → ks.length = 1) := by
  cases d with
  | zero => cases h
  | succ d =>
    unfold plainT at h
    unfold tyAgg
    cases hu : P.underlying t with
    | none => rw [hu] at h; cases h
    | some dd =>
      rw [hu] at h
      cases dd <;> simp only [reduceCtorEq] at h
      all_goals first
        | exact ⟨true, rfl, fun q => by cases q⟩
        | (cases h; exact ⟨false, rfl, fun _ => rfl⟩)

theorem run_eq : ∀ (d : Nat) (t : Nat) (ks : List Sk), plainT P d t = some ks → ∀ d', d ≤ d' → ∀ (xs ys : List Value) (vx vy : Value) (r : Bool), packV P t xs vx → packV P t ys vy → eqK ks xs ys = some r →
    ∀ w : World, (Op.equalIn d' t vx vy).run P w = .ok r w := by
  intro d
  induction d with
  | zero => intro t ks h; cases h
  | succ d ih =>
    intro t ks h d' hd xs ys vx vy r px py he w
    obtain ⟨d', rfl⟩ : ∃ q, d' = q + 1 := ⟨d' - 1, by omega⟩
    unfold plainT at h
    cases hu : P.underlying t with
    | none => rw [hu] at h; cases h
    | some dd =>
      rw [hu] at h
      have scalar : ∀ k, ks = [k] → tyAgg P t = some false → xs = [vx] ∧ ys = [vy] ∧ eq1 k vx vy = some r := by
        intro k hk hf
        subst hk
        rcases px with ⟨q, _⟩ | ⟨_, rfl⟩
        · rw [hf] at q; cases q
        rcases py with ⟨q, _⟩ | ⟨_, rfl⟩
        · rw [hf] at q; cases q
        refine ⟨rfl, rfl, ?_⟩
        simp only [eqK] at he
        cases hv : eq1 k vx vy with
        | none => rw [hv] at he; cases he
        | some a => rw [hv] at he; simpa using he
      cases dd <;> simp only [reduceCtorEq] at h
      case bool =>
        cases h
        obtain ⟨rfl, rfl, hv⟩ := scalar _ rfl (by unfold tyAgg; rw [hu]; rfl)
        obtain ⟨a, b, rfl, rfl, rfl⟩ := eq1_b hv
        exact run_equalIn_bool' w d' t _ _ hu
      case int k =>
        cases h
        obtain ⟨rfl, rfl, hv⟩ := scalar _ rfl (by unfold tyAgg; rw [hu]; rfl)
        obtain ⟨kk, a, b, rfl, rfl, rfl⟩ := eq1_i hv
        exact run_equalIn_int w d' t _ _ _ _ hu
      case string =>
        cases h
        obtain ⟨rfl, rfl, hv⟩ := scalar _ rfl (by unfold tyAgg; rw [hu]; rfl)
        obtain ⟨a, b, rfl, rfl, rfl⟩ := eq1_s hv
        exact run_equalIn_string w d' t _ _ hu
      case struct fs =>
        have hagg : tyAgg P t = some true := by unfold tyAgg; rw [hu]; rfl
        split at h
        · cases h
        · rename_i hst
          rcases px with ⟨_, rfl⟩ | ⟨q, _⟩
          · rcases py with ⟨_, rfl⟩ | ⟨q, _⟩
            · have hf : P.fieldsOf t = fs := by unfold Program.fieldsOf; rw [hu]
              rw [run_equalIn_agg w d' t _ _ (by rw [hf]; exact hu) (by simpa using hst), hf]
              -- field by field
              have key : ∀ (l : List Field) (cur : Nat) (ks : List Sk) (r : Bool),
                  l.foldr (fun f acc => fun cur => if f.name != "_" && f.offset == cur then
                    match plainT P d f.type, acc (cur + (tySz P f.type).getD 0) with
                    | some ks, some rest => if tySz P f.type = some ks.length then some (ks ++ rest) else none
                    | _, _ => none
                    else none) (fun _ => some []) cur = some ks →
                  cur ≤ xs.length → cur ≤ ys.length → eqK ks (xs.drop cur) (ys.drop cur) = some r → (Op.eqFields d' xs.toArray ys.toArray l).run P w = .ok r w := by
                intro l
                induction l with
                | nil =>
                  intro cur ks r hk _ _ hr
                  cases hk
                  simp only [Op.eqFields]
                  generalize xs.drop cur = a at hr
                  generalize ys.drop cur = b at hr
                  cases a <;> cases b <;> simp [eqK] at hr
                  subst hr; rfl
                | cons f l ihl =>
                  intro cur ks r hk hcx hcy hr
                  rw [List.foldr_cons] at hk
                  split at hk
                  · rename_i hc
                    rw [Bool.and_eq_true] at hc
                    have hn : f.name ≠ "_" := by simpa using hc.1
                    have ho : f.offset = cur := by simpa using hc.2
                    split at hk
                    · rename_i ks1 rest h1 h2
                      split at hk
                      · rename_i hsz
                        cases hk
                        rw [hsz, Option.getD_some] at h2
                        obtain ⟨a, b, e1, e2, rfl, e3, e4⟩ := eqK_append hr
                        rw [List.length_drop] at e3 e4
                        rw [List.drop_drop, List.drop_drop] at e2
                        have hpa := plain_agg h1
                        obtain ⟨v1, p1, r1⟩ := part_pack (xs := xs) (off := cur) hsz hpa (by omega) w
                        obtain ⟨v2, p2, r2⟩ := part_pack (xs := ys) (off := cur) hsz hpa (by omega) w
                        have r3 := ih f.type ks1 h1 d' (by omega) _ _ v1 v2 a p1 p2 e1 w
                        simp only [Op.eqFields, hn, ne_eq, not_false_eq_true, if_true, ho, Sem.run_bind, r1, r2, r3, Result.andThen_ok]
                        cases a with
                        | false => simp
                        | true => simp only [Bool.not_true, Bool.false_eq_true, if_false, Bool.true_and]; exact ihl _ _ _ h2 (by omega) (by omega) e2
                      · cases hk
                    · cases hk
                  · cases hk
              exact key fs.toList 0 ks r h (by omega) (by omega) (by simpa using he)
            · rw [hagg] at q; cases q
          · rw [hagg] at q; cases q

variable {n : Nat} {ds : List Deferred} {ops : Array Oper} {K : Env → HProp → Prop} {e : Env} {i : Nat} {k : Kd} {l : List Item} {o : Oper} {d : Nat} {D0 : HProp}
theorem eqOk_spec {t : TypeId} {ks : List Sk} (h : eqOk P t ks = true) : plainT P 6 t = some ks ∧ P.eqGuardType P.depth t = false ∧ tyAgg P t = some true := by
  unfold eqOk at h
  simp only [Bool.and_eq_true, beq_iff_eq, Bool.not_eq_true'] at h
  exact ⟨h.1.1, h.1.2, h.2⟩
theorem rx_eqS {D H : HProp} {t t' : TypeId} {x y : Operand} {xs ys : Array Value} {ks : List Sk} {r : Bool} (ho : ops[i]? = some o) (hw : wantE ops e o = some true) (hd : o.dst = some d) (hdn : Nat.blt d n = true)
    (hop : o.op = .binOp .eql t x y t') (ht : eqOk P t ks = true) (hx : ov e x = some (.agg xs)) (hy : ov e y = some (.agg ys)) (hr : eqK ks xs.toList ys.toList = some r)
    (h : RX P n ds ops D0 l D (upd e d (.bool r)) H K) : RX P n ds ops D0 (.op i k :: l) D e H K := by
  obtain ⟨h1, h2, h3⟩ := eqOk_spec ht
  refine rx_strict ho hw hd hdn (fun a w ha => ?_) h
  have := run_eq (P := P) 6 t ks h1 10000 (by omega) _ _ (.agg xs) (.agg ys) r (.inl ⟨h3, by simp⟩) (.inl ⟨h3, by simp⟩) hr w
  unfold execOp
  simp only [hop, ha.eval hx, ha.eval hy, Sem.run_bind, run_eqGuard_agg w .eql t x y xs ys h2, Result.andThen_ok, run_eql_struct, this]; rfl
theorem rx_neS {D H : HProp} {t t' : TypeId} {x y : Operand} {xs ys : Array Value} {ks : List Sk} {r : Bool} (ho : ops[i]? = some o) (hw : wantE ops e o = some true) (hd : o.dst = some d) (hdn : Nat.blt d n = true)
    (hop : o.op = .binOp .neq t x y t') (ht : eqOk P t ks = true) (hx : ov e x = some (.agg xs)) (hy : ov e y = some (.agg ys)) (hr : eqK ks xs.toList ys.toList = some r)
    (h : RX P n ds ops D0 l D (upd e d (.bool (!r))) H K) : RX P n ds ops D0 (.op i k :: l) D e H K := by
  obtain ⟨h1, h2, h3⟩ := eqOk_spec ht
  refine rx_strict ho hw hd hdn (fun a w ha => ?_) h
  have := run_eq (P := P) 6 t ks h1 10000 (by omega) _ _ (.agg xs) (.agg ys) r (.inl ⟨h3, by simp⟩) (.inl ⟨h3, by simp⟩) hr w
  unfold execOp
  simp only [hop, ha.eval hx, ha.eval hy, Sem.run_bind, run_eqGuard_agg w .neq t x y xs ys h2, Result.andThen_ok, run_neq_struct, this]; rfl
end
def isFuncT (P : Program) (t : TypeId) : Bool := match P.underlying t with | some (.func _ _ _) => true | _ => false
section
variable {P : Program} {n : Nat} {ds : List Deferred} {ops : Array Oper} {K : Env → HProp → Prop} {e : Env} {i : Nat} {k : Kd} {l : List Item} {o : Oper} {d : Nat} {D0 : HProp}
theorem run_equalIn_nilF (w : World) (d : Nat) (t : TypeId) {p1 p2 p3} (f : Fn) (u v : Array Value) (h : P.underlying t = some (.func p1 p2 p3)) :
    (Op.equalIn (d + 1) t (.func f u v) .nilFunc).run P w = .ok false w := by
  simp [Op.equalIn, run_underlying h]
theorem run_eql_nilF (w : World) (t : TypeId) {p1 p2 p3} (f : Fn) (u v : Array Value) (h : P.underlying t = some (.func p1 p2 p3)) :
    (binOp .eql t (.func f u v) .nilFunc).run P w = .ok (.bool false) w := by
  simp only [binOp]
  simp [Op.equal, Op.maxDepth, run_equalIn_nilF w 9999 t f u v h]
theorem run_neq_nilF (w : World) (t : TypeId) {p1 p2 p3} (f : Fn) (u v : Array Value) (h : P.underlying t = some (.func p1 p2 p3)) :
    (binOp .neq t (.func f u v) .nilFunc).run P w = .ok (.bool true) w := by
  simp only [binOp]
  simp [Op.equal, Op.maxDepth, run_equalIn_nilF w 9999 t f u v h]
/-- A function held against nil. -/
theorem st_nilF {x : Operand} {t t' : TypeId} {f : Fn} {u v : Array Value} {bo : BinOp} {r : Bool} (hop : o.op = .binOp bo t x (.const .nilFunc) t') (ht : isFuncT P t = true)
    (hx : ov e x = some (.func f u v)) (hb : (bo = .eql ∧ r = false) ∨ (bo = .neq ∧ r = true)) : Strict P n ds o e (.bool r) := by
  intro a w ha
  unfold isFuncT at ht
  split at ht
  · rename_i p1 p2 p3 hu
    unfold execOp
    have hc : a.eval (.const .nilFunc) = .nilFunc := rfl
    rcases hb with ⟨rfl, rfl⟩ | ⟨rfl, rfl⟩
    · simp only [hop, ha.eval hx, hc, Sem.run_bind]
      rw [show (eqGuard .eql t x (.const .nilFunc) (.func f u v) .nilFunc : Sem Unit) = pure () from rfl]
      simp only [Sem.run_pure, Result.andThen_ok, run_eql_nilF w t f u v hu]
    · simp only [hop, ha.eval hx, hc, Sem.run_bind]
      rw [show (eqGuard .neq t x (.const .nilFunc) (.func f u v) .nilFunc : Sem Unit) = pure () from rfl]
      simp only [Sem.run_pure, Result.andThen_ok, run_neq_nilF w t f u v hu]
  · cases ht
theorem rx_eqnilF {D H : HProp} {x : Operand} {t t' : TypeId} {f : Fn} {u v : Array Value} (ho : ops[i]? = some o) (hw : wantE ops e o = some true) (hd : o.dst = some d) (hdn : Nat.blt d n = true)
    (hop : o.op = .binOp .eql t x (.const .nilFunc) t') (ht : isFuncT P t = true) (hx : ov e x = some (.func f u v))
    (h : RX P n ds ops D0 l D (upd e d (.bool false)) H K) : RX P n ds ops D0 (.op i k :: l) D e H K := rx_strict ho hw hd hdn (st_nilF hop ht hx (.inl ⟨rfl, rfl⟩)) h
theorem rx_nenilF {D H : HProp} {x : Operand} {t t' : TypeId} {f : Fn} {u v : Array Value} (ho : ops[i]? = some o) (hw : wantE ops e o = some true) (hd : o.dst = some d) (hdn : Nat.blt d n = true)
    (hop : o.op = .binOp .neq t x (.const .nilFunc) t') (ht : isFuncT P t = true) (hx : ov e x = some (.func f u v))
    (h : RX P n ds ops D0 l D (upd e d (.bool true)) H K) : RX P n ds ops D0 (.op i k :: l) D e H K := rx_strict ho hw hd hdn (st_nilF hop ht hx (.inr ⟨rfl, rfl⟩)) h
end
end Go.Sl
