/- What a claim leans on, part 2: lemmas and contracts. -/
import Derived.Laws.BytesArg
import Derived.ArgAppend
import Derived.Carry
import Derived.Handed
import Derived.ChangeArms
import Derived.ProofKit
import Derived.OpenShut
import Derived.Test.YtikkegelplllmaaGreatDoorProg
import Derived.KernelRfl
import Derived.Test.YtikkegelplllmaaGreatDoorQ0
set_option linter.unusedSimpArgs false
set_option linter.unusedVariables false
/- More operations: a range over a string, its next; a function held against nil; bytes as a string. -/
namespace Go.Sl
open Go Go.RowKit
theorem run_newIt {P : Program} (s : ByteArray) (p : Nat) (w : World) : (newObj (.stringIter s p)).run P w = .ok w.heap.size { w with heap := w.heap.push (.stringIter s p) } := rfl
theorem run_getIt {P : Program} {b : Nat} {s : ByteArray} {p : Nat} {w : World} (h : w.heap[b]? = some (.stringIter s p)) : (getObj b).run P w = .ok (.stringIter s p) w := by simp [getObj, Sem.run, h]
theorem run_setIt {P : Program} {b : Nat} {s : ByteArray} {p : Nat} {w : World} (h : w.heap[b]? = some (.stringIter s p)) (o : Obj) : (setObj b o).run P w = .ok () { w with heap := w.heap.setIfInBounds b o } := by simp [setObj, Sem.run, h]
def isNilF : Value → Option Bool
  | .nilFunc => some true
  | .func _ _ _ => some false
  | _ => none
section
variable {P : Program} {n : Nat} {ds : List Deferred} {ops : Array Oper} {K : Env → HProp → Prop} {e : Env} {i : Nat} {k : Kd} {l : List Item} {o : Oper} {d : Nat} {D0 : HProp}
/-- An operation that takes a thing that is held and leaves another one. -/
theorem rx_step {Dl Hl F : List HProp} {p q : HProp} {v : Value} (ho : ops[i]? = some o) (hw : wantE ops e o = some true) (hd : o.dst = some d) (hdn : Nat.blt d n = true)
    (hT : Take1 Hl p F) (hr : ∀ a w R, EnvOk n ds e a → Sat (sep p R) w → ∃ w', (execOp a.eval o).run P w = .ok (.value v) w' ∧ Sat (sep q R) w')
    (h : RX P n ds ops D0 l (star Dl) (upd e d v) (star (q :: F)) K) : RX P n ds ops D0 (.op i .e :: l) (star Dl) e (star Hl) K := by
  refine ⟨o, ho, hd_of hd hdn, .inr (.inr ⟨rfl, hw, p, star F, fun v' G => v' = v ∧ G = q, Ent.of_eq hT.eq, fun a w R ha hs => ?_, fun v' G hG _ => ?_⟩)⟩
  · rw [sep_comm (sep D0 (star Dl)), sep_assoc] at hs
    obtain ⟨w', h1, h2⟩ := hr a w _ ha hs
    rw [h1]
    exact ⟨_, ⟨q, rfl, rfl, rfl⟩, by rw [sep_comm (sep D0 (star Dl)), sep_assoc]; exact h2⟩
  · obtain ⟨rfl, rfl⟩ := hG
    rw [hd]; exact h
theorem rx_rangeS {Dl Hl : List HProp} {t : TypeId} {x : Operand} {s : ByteArray} (ho : ops[i]? = some o) (hw : wantE ops e o = some true) (hd : o.dst = some d) (hdn : Nat.blt d n = true)
    (hop : o.op = .range t x) (ht : isStrT P t = true) (hx : ov e x = some (.string s))
    (h : ∀ b, RX P n ds ops D0 l (star Dl) (upd e d (.pointer (some ⟨b, 0, none⟩))) (star (pt b (.stringIter s 0) :: Hl)) K) : RX P n ds ops D0 (.op i .e :: l) (star Dl) e (star Hl) K := by
  refine ⟨o, ho, hd_of hd hdn, .inr (.inr ⟨rfl, hw, emp, star Hl, fun v' G => ∃ b, v' = .pointer (some ⟨b, 0, none⟩) ∧ G = pt b (.stringIter s 0), Ent.of_eq (emp_sep _).symm, fun a w R ha hs => ?_, fun v' G hG _ => ?_⟩)⟩
  · have hu : P.underlying t = some .string := by
      unfold isStrT at ht
      split at ht
      · assumption
      · cases ht
    have hr : (execOp a.eval o).run P w = .ok (.value (.pointer (some ⟨w.heap.size, 0, none⟩))) { w with heap := w.heap.push (.stringIter s 0) } := by
      unfold execOp
      simp [hop, ha.eval hx, Instr.range, run_underlying hu, run_newIt]
    rw [hr]
    refine ⟨_, ⟨_, rfl, _, rfl, rfl⟩, ?_⟩
    rw [sep_emp] at hs
    have := hs.new (o := .stringIter s 0) (w' := { w with heap := w.heap.push (.stringIter s 0) }) rfl ⟨rfl, rfl, rfl, by simp⟩
    rw [sep_left, ← sep_assoc] at this
    rw [sep_comm (sep D0 (star Dl)) (pt w.heap.size _), sep_comm (pt w.heap.size _) (sep D0 (star Dl))]
    rw [sep_assoc, sep_left]
    have h2 := hs.new (o := .stringIter s 0) (w' := { w with heap := w.heap.push (.stringIter s 0) }) rfl ⟨rfl, rfl, rfl, by simp⟩
    exact h2
  · obtain ⟨b, rfl, rfl⟩ := hG
    rw [hd]; exact h b
theorem rx_nextS {Dl Hl F : List HProp} {x : Operand} {b pos : Nat} {s : ByteArray} {v : Value} {pos' : Nat} (ho : ops[i]? = some o) (hw : wantE ops e o = some true) (hd : o.dst = some d) (hdn : Nat.blt d n = true)
    (hop : o.op = .next x true) (hx : ov e x = some (.pointer (some ⟨b, 0, none⟩))) (hT : Take1 Hl (pt b (.stringIter s pos)) F)
    (hv : (pos < s.size ∧ v = .tuple #[.bool true, .int .i64 pos, .int .i32 (Utf8.decode s pos).1] ∧ pos' = pos + (Utf8.decode s pos).2) ∨ (¬ pos < s.size ∧ v = .tuple #[.bool false] ∧ pos' = pos))
    (h : RX P n ds ops D0 l (star Dl) (upd e d v) (star (pt b (.stringIter s pos') :: F)) K) : RX P n ds ops D0 (.op i .e :: l) (star Dl) e (star Hl) K := by
  refine rx_step ho hw hd hdn hT (fun a w R ha hs => ?_) h
  have hg := hs.pt
  rcases hv with ⟨h1, rfl, rfl⟩ | ⟨h1, rfl, rfl⟩
  · have hl : b < w.heap.size := (Array.getElem?_eq_some_iff.1 hg).1
    refine ⟨{ w with heap := w.heap.setIfInBounds b (.stringIter s (pos + (Utf8.decode s pos).2)) }, ?_, ?_⟩
    · unfold execOp
      simp [hop, ha.eval hx, Instr.next, run_getIt hg, run_setIt hg, h1, goInt]
    · exact hs.set (o' := .stringIter s (pos + (Utf8.decode s pos).2)) (by simp [hl]) (fun c hc => by simp [Array.getElem?_setIfInBounds, Ne.symm hc]) ⟨rfl, rfl, rfl, by simp⟩
  · refine ⟨w, ?_, hs⟩
    unfold execOp
    simp [hop, ha.eval hx, Instr.next, run_getIt hg, h1]
theorem run_equalIn_nn (w : World) (d : Nat) (t : TypeId) {p1 p2 p3} (h : P.underlying t = some (.func p1 p2 p3)) : (Op.equalIn (d + 1) t .nilFunc .nilFunc).run P w = .ok true w := by
  simp [Op.equalIn, run_underlying h]
theorem run_eql_nn (w : World) (t : TypeId) {p1 p2 p3} (h : P.underlying t = some (.func p1 p2 p3)) : (binOp .eql t .nilFunc .nilFunc).run P w = .ok (.bool true) w := by
  simp only [binOp]
  simp [Op.equal, Op.maxDepth, run_equalIn_nn w 9999 t h]
theorem run_neq_nn (w : World) (t : TypeId) {p1 p2 p3} (h : P.underlying t = some (.func p1 p2 p3)) : (binOp .neq t .nilFunc .nilFunc).run P w = .ok (.bool false) w := by
  simp only [binOp]
  simp [Op.equal, Op.maxDepth, run_equalIn_nn w 9999 t h]
/-- A function's value, or nil, held against nil. -/
theorem rx_nilG {D H : HProp} {x : Operand} {t t' : TypeId} {v : Value} {bo : BinOp} {r r' : Bool} (ho : ops[i]? = some o) (hw : wantE ops e o = some true) (hd : o.dst = some d) (hdn : Nat.blt d n = true)
    (hop : o.op = .binOp bo t x (.const .nilFunc) t') (ht : isFuncT P t = true) (hx : ov e x = some v) (hv : isNilF v = some r) (hb : (bo = .eql ∧ r' = r) ∨ (bo = .neq ∧ r' = !r))
    (h : RX P n ds ops D0 l D (upd e d (.bool r')) H K) : RX P n ds ops D0 (.op i k :: l) D e H K := by
  refine rx_strict ho hw hd hdn ?_ h
  unfold isNilF at hv
  split at hv
  · cases hv
    intro a w ha
    unfold isFuncT at ht
    split at ht
    · rename_i p1 p2 p3 hu
      unfold execOp
      have hc : a.eval (.const .nilFunc) = .nilFunc := rfl
      have he := run_eql_nn w t hu
      have hn := run_neq_nn w t hu
      rcases hb with ⟨rfl, rfl⟩ | ⟨rfl, rfl⟩
      · simp only [hop, ha.eval hx, hc, Sem.run_bind]
        rw [show (eqGuard .eql t x (.const .nilFunc) .nilFunc .nilFunc : Sem Unit) = pure () from rfl]
        simp only [Sem.run_pure, Result.andThen_ok, he]
      · simp only [hop, ha.eval hx, hc, Sem.run_bind]
        rw [show (eqGuard .neq t x (.const .nilFunc) .nilFunc .nilFunc : Sem Unit) = pure () from rfl]
        simp only [Sem.run_pure, Result.andThen_ok, hn]; rfl
    · cases ht
  · cases hv
    exact st_nilF hop ht hx (by rcases hb with ⟨rfl, rfl⟩ | ⟨rfl, rfl⟩; exact .inl ⟨rfl, rfl⟩; exact .inr ⟨rfl, rfl⟩)
  · cases hv
def isByteT (P : Program) (t : TypeId) : Bool := match P.underlying t with
  | some (.slice e) => match P.underlying e with | some (.int .u8) => true | _ => false
  | _ => false
theorem isByteT_spec {t : TypeId} (h : isByteT P t = true) : ∃ e, P.underlying t = some (.slice e) ∧ P.underlying e = some (.int .u8) := by
  unfold isByteT at h
  split at h
  · rename_i e he
    split at h
    · rename_i h2; exact ⟨e, he, h2⟩
    · cases h
  · cases h
theorem isStrT_spec {t : TypeId} (h : isStrT P t = true) : P.underlying t = some .string := by
  unfold isStrT at h
  split at h
  · assumption
  · cases h
theorem rx_b2s {Dl Hl F : List HProp} {t t' : TypeId} {x : Operand} {b off len cap : Nat} {cl : List Value} {T : TypeId} {fz : Nat × Nat} {xs : List Int} (ho : ops[i]? = some o) (hw : wantE ops e o = some true) (hd : o.dst = some d) (hdn : Nat.blt d n = true)
    (hop : o.op = .convert t t' x) (ht : isByteT P t = true) (ht' : isStrT P t' = true) (hx : ov e x = some (.slice (some ⟨b, off, none⟩) len cap)) (hT : Take1 Hl (blk b cl T fz) F)
    (hl : xs.length = len) (hc : ∀ j, j < len → cl[off + j]? = some (.int .u8 (xs.getD j 0)))
    (h : RX P n ds ops D0 l (star Dl) (upd e d (.string (strOfNums xs))) (star (blk b cl T fz :: F)) K) : RX P n ds ops D0 (.op i .e :: l) (star Dl) e (star Hl) K := by
  refine rx_step ho hw hd hdn hT (fun a w R ha hs => ⟨w, ?_, hs⟩) h
  obtain ⟨e', h1, h2⟩ := isByteT_spec ht
  have hr := run_convert_bytes_arg w t e' h1 h2 b off len cap xs hl (fun j hj => by rw [blk_cell hs]; exact hc j hj) t' (isStrT_spec ht')
  unfold execOp
  simp only [hop, ha.eval hx, Sem.run_bind, hr]; rfl
theorem rx_b2s0 {D H : HProp} {t t' : TypeId} {x : Operand} {m c : Nat} (ho : ops[i]? = some o) (hw : wantE ops e o = some true) (hd : o.dst = some d) (hdn : Nat.blt d n = true)
    (hop : o.op = .convert t t' x) (ht : isByteT P t = true) (ht' : isStrT P t' = true) (hx : ov e x = some (.slice none m c))
    (h : RX P n ds ops D0 l D (upd e d (.string ByteArray.empty)) H K) : RX P n ds ops D0 (.op i k :: l) D e H K := by
  refine rx_strict ho hw hd hdn (fun a w ha => ?_) h
  obtain ⟨e', h1, h2⟩ := isByteT_spec ht
  have hr := run_convert_bytes_nil w t e' h1 h2 m c t' (isStrT_spec ht')
  unfold execOp
  simp only [hop, ha.eval hx, Sem.run_bind, hr]; rfl
/-- Ways that meet again. -/
theorem SW.join {x y : Code} {H : HProp} {K : Exit → Env → HProp → Prop} (J : Env → HProp → Prop) (h1 : SW P n ds x e H (thenK J K)) (h2 : ∀ e' H', J e' H' → SW P n ds y e' H' K) : SW P n ds (.seq x y) e H K := by
  refine SW.seq (SW.mono (fun q e' H' hq => ?_) h1)
  cases q with
  | normal => exact h2 e' H' hq
  | _ => exact hq
/- a loop of few rounds, one after the other -/
def SWR (P : Program) (n : Nat) (ds : List Deferred) (c : Code) (K : Exit → Env → HProp → Prop) : Nat → Env → HProp → Prop
  | 0, _, _ => False
  | k + 1, e, H => SW P n ds c e H (thenK (fun e' H' => SWR P n ds c K k e' H') K)
theorem SW.rounds {c : Code} {H : HProp} {K : Exit → Env → HProp → Prop} (N : Nat) (h : SWR P n ds c K N e H) : SW P n ds (.loop c) e H K := by
  refine SW.loop (fun m e H => SWR P n ds c K m e H) N h fun m e H hm => ?_
  cases m with
  | zero => exact hm.elim
  | succ k =>
    refine SW.mono (fun x e' H' q => ?_) hm
    cases x with
    | normal => exact ⟨k, Nat.lt_succ_self _, q⟩
    | _ => exact q
theorem SW.round {c : Code} {H : HProp} {K : Exit → Env → HProp → Prop} {k : Nat} (h : SW P n ds c e H (thenK (fun e' H' => SWR P n ds c K k e' H') K)) : SWR P n ds c K (k + 1) e H := h
/- parts of a string -/
theorem rx_strlo {D H : HProp} {t : TypeId} {x y : Operand} {s : ByteArray} {kk : IntKind} {j : Int} (ho : ops[i]? = some o) (hw : wantE ops e o = some true) (hd : o.dst = some d) (hdn : Nat.blt d n = true)
    (hop : o.op = .slice t x (some y) none none) (ht : isStrT P t = true) (hx : ov e x = some (.string s)) (hy : ov e y = some (.int kk j)) (hj : 0 ≤ j ∧ j ≤ s.size)
    (h : RX P n ds ops D0 l D (upd e d (.string (s.extract j.toNat s.size))) H K) : RX P n ds ops D0 (.op i k :: l) D e H K :=
  rx_slstr ho hw hd hdn hop ht hx (M := s.size) (fun a w ha => by simp only [Option.map_none, Option.map_some, ha.eval hy]; exact bounds_lo hj.1 hj.2 w) h
theorem rx_strhi {D H : HProp} {t : TypeId} {x y : Operand} {s : ByteArray} {kk : IntKind} {j : Int} (ho : ops[i]? = some o) (hw : wantE ops e o = some true) (hd : o.dst = some d) (hdn : Nat.blt d n = true)
    (hop : o.op = .slice t x none (some y) none) (ht : isStrT P t = true) (hx : ov e x = some (.string s)) (hy : ov e y = some (.int kk j)) (hj : 0 ≤ j ∧ j ≤ s.size)
    (h : RX P n ds ops D0 l D (upd e d (.string (s.extract 0 j.toNat))) H K) : RX P n ds ops D0 (.op i k :: l) D e H K :=
  rx_slstr ho hw hd hdn hop ht hx (M := s.size) (fun a w ha => by simp only [Option.map_none, Option.map_some, ha.eval hy]; exact bounds_hi hj.1 hj.2 w) h
theorem rx_strlohi {D H : HProp} {t : TypeId} {x y y' : Operand} {s : ByteArray} {kk kk' : IntKind} {j j' : Int} (ho : ops[i]? = some o) (hw : wantE ops e o = some true) (hd : o.dst = some d) (hdn : Nat.blt d n = true)
    (hop : o.op = .slice t x (some y) (some y') none) (ht : isStrT P t = true) (hx : ov e x = some (.string s)) (hy : ov e y = some (.int kk j)) (hy' : ov e y' = some (.int kk' j')) (hj : 0 ≤ j ∧ j ≤ j' ∧ j' ≤ s.size)
    (h : RX P n ds ops D0 l D (upd e d (.string (s.extract j.toNat j'.toNat))) H K) : RX P n ds ops D0 (.op i k :: l) D e H K :=
  rx_slstr ho hw hd hdn hop ht hx (M := s.size) (fun a w ha => by simp only [Option.map_none, Option.map_some, ha.eval hy, ha.eval hy']; exact bounds_lohi hj.1 hj.2.1 hj.2.2 w) h
/-- 'x[j:j']' -/
theorem rx_sllohi {D H : HProp} {t E sz bytes : Nat} {x y y' : Operand} {b off len cap : Nat} {kk kk' : IntKind} {j j' : Int} (ho : ops[i]? = some o) (hw : wantE ops e o = some true) (hd : o.dst = some d) (hdn : Nat.blt d n = true)
    (hop : o.op = .slice t x (some y) (some y') none) (ht : slI P t = some (E, sz, bytes)) (hx : ov e x = some (.slice (some ⟨b, off, none⟩) len cap)) (hy : ov e y = some (.int kk j)) (hy' : ov e y' = some (.int kk' j')) (hj : 0 ≤ j ∧ j ≤ j' ∧ j' ≤ cap)
    (h : ∀ off', (j < cap → off' = off + j.toNat * sz) → RX P n ds ops D0 l D (upd e d (.slice (some ⟨b, off', none⟩) (j'.toNat - j.toNat) (cap - j.toNat))) H K) : RX P n ds ops D0 (.op i k :: l) D e H K := by
  have hst := st_slice (P := P) (n := n) (ds := ds) hop ht hx (L := j.toNat) (Hh := j'.toNat) (M := cap) (fun a w ha => by
    simp only [Option.map_none, Option.map_some, ha.eval hy, ha.eval hy']; exact bounds_lohi hj.1 hj.2.1 hj.2.2 w)
  by_cases hc : cap = j.toNat
  · rw [if_pos hc] at hst
    exact rx_strict ho hw hd hdn hst (h off (fun q => by omega))
  · rw [if_neg hc] at hst
    simp only [Option.map_some, add_none] at hst
    exact rx_strict ho hw hd hdn hst (h _ (fun _ => rfl))
end
end Go.Sl
/- Slices of their own that begin within a block: 'log = log[2:]', and what is appended to them. -/
namespace Go.Sl
open Go Go.RowKit
/-- A slice of its own, that may begin within a block. -/
def SlOff (E sz : Nat) (v : Value) (xs : List Value) : HProp := fun h => SlOwn E sz v xs h ∨
  ((∀ u ∈ xs, u.oneCell' = true) ∧ ∃ b off len cap pre rest, v = .slice (some ⟨b, off, none⟩) len cap ∧ xs.length = len * sz ∧ xs.length + rest.length = cap * sz ∧ len ≤ cap ∧ (0 < cap → off = pre.length) ∧ blk b (pre ++ xs ++ rest) E (0, 0) h)
section
variable {P : Program} {n : Nat} {ds : List Deferred} {ops : Array Oper} {K : Env → HProp → Prop} {e : Env} {i : Nat} {k : Kd} {l : List Item} {o : Oper} {d : Nat} {D0 : HProp}
theorem SlOff.of_own {E sz : Nat} {v : Value} {xs : List Value} : EntS (SlOwn E sz v xs) (SlOff E sz v xs) := EntS.of_ent fun _ h => .inl h
theorem SlOff.mk {E sz b off len cap : Nat} {pre xs rest : List Value} (h1 : ∀ u ∈ xs, u.oneCell' = true) (hl : xs.length = len * sz) (hc : xs.length + rest.length = cap * sz) (hlc : len ≤ cap) (ho : 0 < cap → off = pre.length) :
    EntS (blk b (pre ++ xs ++ rest) E (0, 0)) (SlOff E sz (.slice (some ⟨b, off, none⟩) len cap) xs) :=
  EntS.of_ent fun h hh => .inr ⟨h1, b, off, len, cap, pre, rest, rfl, hl, hc, hlc, ho, hh⟩
/-- nil, or a part of a block. -/
theorem Sat.sloff {E sz : Nat} {v : Value} {xs : List Value} {R : HProp} {w : World} (hs : Sat (sep (SlOff E sz v xs) R) w) :
    (∀ u ∈ xs, u.oneCell' = true) ∧ ((v = .slice none 0 0 ∧ xs = [] ∧ Sat R w) ∨
    ∃ b off len cap pre rest, v = .slice (some ⟨b, off, none⟩) len cap ∧ xs.length = len * sz ∧ xs.length + rest.length = cap * sz ∧ len ≤ cap ∧ (0 < cap → off = pre.length) ∧ Sat (sep (blk b (pre ++ xs ++ rest) E (0, 0)) R) w) := by
  obtain ⟨g, ⟨f, r, dj, e1, h, hr⟩, z⟩ := hs
  rcases h with h | ⟨h1, b, off, len, cap, pre, rest, a1, a2, a3, a4, a5, a6⟩
  · obtain ⟨h1, q | ⟨b, len, cap, rest, a1, a2, a3, a4, a5⟩⟩ := Sat.slown ⟨g, ⟨f, r, dj, e1, h, hr⟩, z⟩
    · exact ⟨h1, .inl q⟩
    · exact ⟨h1, .inr ⟨b, 0, len, cap, [], rest, a1, a2, a3, a4, fun _ => rfl, a5⟩⟩
  · exact ⟨h1, .inr ⟨b, off, len, cap, pre, rest, a1, a2, a3, a4, a5, g, ⟨f, r, dj, e1, a6, hr⟩, z⟩⟩
theorem sloff_shape {E sz : Nat} {v : Value} {xs : List Value} {R : HProp} {w : World} (hs : Sat (sep (SlOff E sz v xs) R) w) : ∃ p m cp, v = .slice p m cp ∧ xs.length = m * sz := by
  obtain ⟨_, q | ⟨b, off, len, cap, pre, rest, a1, a2, _⟩⟩ := hs.sloff
  · exact ⟨none, 0, 0, q.1, by rw [q.2.1]; simp⟩
  · exact ⟨_, len, cap, a1, a2⟩
theorem SW.sloff {E sz : Nat} {v : Value} {xs : List Value} {Hl F : List HProp} {c : Code} {K : Exit → Env → HProp → Prop} (j : Nat) (hT : pick1 j Hl = some (SlOff E sz v xs, F))
    (h0 : v = .slice none 0 0 → xs = [] → SW P n ds c e (star F) K)
    (h1 : ∀ b off len cap pre rest, v = .slice (some ⟨b, off, none⟩) len cap → xs.length = len * sz → xs.length + rest.length = cap * sz → len ≤ cap → (0 < cap → off = pre.length) → (∀ u ∈ xs, u.oneCell' = true) →
      SW P n ds c e (star (blk b (pre ++ xs ++ rest) E (0, 0) :: F)) K) : SW P n ds c e (star Hl) K := by
  intro a w R ha hs Q hq
  rw [(pick1_take hT).eq, sep_assoc] at hs
  obtain ⟨h2, q | ⟨b, off, len, cap, pre, rest, a1, a2, a3, a4, a5, a6⟩⟩ := hs.sloff
  · exact h0 q.1 q.2.1 a w R ha q.2.2 Q hq
  · exact h1 b off len cap pre rest a1 a2 a3 a4 a5 h2 a w R ha (by rw [show star (blk b (pre ++ xs ++ rest) E (0, 0) :: F) = sep (blk b (pre ++ xs ++ rest) E (0, 0)) (star F) from rfl, sep_assoc]; exact a6) Q hq
theorem append_off {t ty E sz bytes : Nat} {z : List Value} (ht : slI P t = some (E, sz, bytes)) (hz : zeroOf P E = some z) (hzl : z.length = sz) (hsz : 0 < sz) (hby : bytes ≤ 1000)
    {v : Value} {xs ys : List Value} {R : HProp} {w : World} (hs : Sat (sep (SlOff E sz v xs) R) w) (h1 : ∀ u ∈ ys, u.oneCell' = true) {ad : Addr} {m c : Nat} (hl : ys.length = m * sz)
    (hy : ∀ j u, ys[j]? = some u → w.cell? (ad.add j) = some u) (hroom : xs.length + ys.length ≤ 1000000000) :
    ∃ v' w', (Builtin.append_ #[t, t] ty #[v, .slice (some ad) m c]).run P w = .ok v' w' ∧ Sat (sep (SlOff E sz v' (xs ++ ys)) R) w' := by
  obtain ⟨g, ⟨f, r, dj, e1, h, hr⟩, z'⟩ := hs
  rcases h with h | ⟨hx1, b, off, len, cap, pre, rest, rfl, a2, a3, a4, a5, a6⟩
  · obtain ⟨v', w', q1, q2⟩ := append_ok (P := P) (ty := ty) ht hz hzl hsz hby ⟨g, ⟨f, r, dj, e1, h, hr⟩, z'⟩ h1 hl hy hroom
    exact ⟨v', w', q1, SlOff.of_own _ _ q2⟩
  · have a6 : Sat (sep (blk b (pre ++ xs ++ rest) E (0, 0)) R) w := ⟨g, ⟨f, r, dj, e1, a6, hr⟩, z'⟩
    obtain ⟨hu, ti, zv, hi, hts, htb, hzz, hzc⟩ := slI_zero ht hz
    subst hts
    have hall : ∀ u ∈ xs ++ ys, u.oneCell' = true := fun u q => by rcases List.mem_append.1 q with q | q; exact hx1 u q; exact h1 u q
    have hzs : zv.cells.size = ti.size := by rw [← Array.length_toList, hzc, hzl]
    have hm : m ≤ ys.length := by rw [hl]; exact Nat.le_mul_of_pos_right _ hsz
    have hbm : ∀ q, q ≤ 1000000000 → q * ti.bytes ≤ 140737488355328 := fun q hq => by
      rw [htb]
      calc q * bytes ≤ 1000000000 * 1000 := Nat.mul_le_mul hq hby
        _ ≤ _ := by decide
    have zl : ∀ q, (Builtin.zeroCells zv.cells q).toList.length = q * ti.size := fun q => by rw [Array.length_toList, size_zeroCells, hzs]
    have hlen : len ≤ xs.length := by rw [a2]; exact Nat.le_mul_of_pos_right _ hsz
    have hg := a6.pt
    have hx : ∀ j u, xs[j]? = some u → w.cell? ((⟨b, off, none⟩ : Addr).add j) = some u := fun j u hj => by
      have hj' := (List.getElem?_eq_some_iff.1 hj).1
      have hc0 : 0 < cap := by
        rcases Nat.eq_zero_or_pos cap with q | q
        · subst q; rw [Nat.zero_mul] at a3; omega
        · exact q
      rw [add_none, blk_cell a6, a5 hc0, List.append_assoc, List.getElem?_append_right (by omega), Nat.add_sub_cancel_left, List.getElem?_append_left hj']; exact hj
    by_cases hroom' : len + m ≤ cap
    · have hfc := run_firstCells_some (P := P) w ti.size m ad m c ys hl hy
      have hfit : len * ti.size + ys.length ≤ xs.length + rest.length := by rw [a3, hl, ← Nat.add_mul]; exact Nat.mul_le_mul_right _ hroom'
      rcases Nat.eq_zero_or_pos cap with hc0 | hc0
      · subst hc0
        have hm0 : m = 0 := by omega
        have hl0 : len = 0 := by omega
        subst hm0 hl0
        have hys : ys = [] := List.eq_nil_of_length_eq_zero (by rw [hl, Nat.zero_mul])
        subst hys
        refine ⟨.slice (some ⟨b, off, none⟩) 0 0, w, ?_, ?_⟩
        · simp [Builtin.append_, run_underlying hu, sizeOf, typeInfo, hi, Builtin.lenOf, hroom', hfc, storeCells]
        · rw [List.append_nil]; exact SlOff.mk hx1 a2 a3 a4 a5 R _ a6
      have hst := run_storeCells_at P b (off + len * ti.size) E ys 0 ((pre ++ xs ++ rest).toArray) w hg (by simp only [List.size_toArray, List.length_append]; rw [a5 hc0]; omega) h1
      simp only [Nat.add_zero] at hst
      have e2 : (pre ++ xs ++ rest).toArray.toList.take (off + len * ti.size) ++ ys ++ (pre ++ xs ++ rest).toArray.toList.drop (off + len * ti.size + ys.length) = pre ++ (xs ++ ys) ++ rest.drop ys.length := by
        rw [a5 hc0, ← a2]
        have e1 : (pre ++ xs ++ rest).toArray.toList = (pre ++ xs) ++ rest := by simp
        rw [e1, ← List.length_append, List.take_left, List.drop_append, List.drop_of_length_le (by simp : (pre ++ xs).length ≤ (pre ++ xs).length + ys.length), List.nil_append, Nat.add_sub_cancel_left]
        simp [List.append_assoc]
      rw [e2] at hst
      have hrun : (Builtin.append_ #[t, t] ty #[.slice (some ⟨b, off, none⟩) len cap, .slice (some ad) m c]).run P w = .ok (.slice (some ⟨b, off, none⟩) (len + m) cap) (w.setRow b (pre ++ (xs ++ ys) ++ rest.drop ys.length).toArray) := by
        simp [Builtin.append_, run_underlying hu, sizeOf, typeInfo, hi, Builtin.lenOf, hroom', hfc, Addr.add_lit, hst]
      refine ⟨_, _, hrun, ?_⟩
      have hs2 := a6.set (o' := .cells (pre ++ (xs ++ ys) ++ rest.drop ys.length).toArray E (0, 0)) (w' := w.setRow b (pre ++ (xs ++ ys) ++ rest.drop ys.length).toArray) (setRow_heap w b _ _ E _ hg) (fun c hc => setRow_other w b c _ hc) (Side.row w b _ _ E _ hg)
      refine SlOff.mk hall ?_ ?_ hroom' a5 R _ hs2
      · rw [List.length_append, a2, hl, Nat.add_mul]
      · rw [List.length_append, List.length_drop]; omega
    · have hr := run_append_grow (P := P) w t ty E ti zv hu hi hzz ⟨b, off, none⟩ len cap xs a2 hx ad m c ys hl hy (by omega) (by omega) (growslice_fits (by omega) (hbm (len + m) (by omega)))
      refine ⟨_, _, hr, ?_⟩
      have hge := grownCap_ge w (len + m) cap E
      have hn := (a6.right).new (o := .cells (xs.toArray ++ ys.toArray ++ Builtin.zeroCells zv.cells (grownCap w (len + m) cap E - (len + m))) E) (w' := w.drew.alloc (.cells (xs.toArray ++ ys.toArray ++ Builtin.zeroCells zv.cells (grownCap w (len + m) cap E - (len + m))) E)) rfl ⟨rfl, rfl, rfl, by simp⟩
      have hcs : (xs.toArray ++ ys.toArray ++ Builtin.zeroCells zv.cells (grownCap w (len + m) cap E - (len + m))) = (xs ++ ys ++ (Builtin.zeroCells zv.cells (grownCap w (len + m) cap E - (len + m))).toList).toArray := Array.toList_inj.1 (by simp)
      rw [hcs] at hn ⊢
      refine SlOff.of_own _ _ (SlOwn.mk hall (by rw [List.length_append, a2, hl, Nat.add_mul]) ?_ hge R _ hn)
      rw [zl, List.length_append, a2, hl, ← Nat.add_mul, ← Nat.add_mul]; congr 1; omega
/-- 'append(v, x...)', x lying in a block. -/
theorem rx_appO1 {Dl Hl F F' : List HProp} {x y : Operand} {t E sz bytes : Nat} {z : List Value} {v : Value} {xs ys : List Value} {b off m c : Nat} {cl : List Value} {T : TypeId} {fz : Nat × Nat}
    (ho : ops[i]? = some o) (hw : wantE ops e o = some true) (hd : o.dst = some d) (hdn : Nat.blt d n = true) (hop : o.op = .call { callee := .builtin .append, args := #[x, y], argTypes := #[t, t] })
    (ht : slI P t = some (E, sz, bytes)) (hz : zeroOf P E = some z) (hzl : Nat.beq z.length sz = true) (hsz : Nat.blt 0 sz = true) (hby : Nat.ble bytes 1000 = true)
    (hx : ov e x = some v) (hy : ov e y = some (.slice (some ⟨b, off, none⟩) m c)) (hT : Take1 Hl (SlOff E sz v xs) F) (hT' : Take1 F (blk b cl T fz) F') (hys : (cl.drop off).take (m * sz) = ys) (hl : ys.length = m * sz)
    (h1 : ys.all (·.oneCell') = true) (hroom : xs.length + ys.length ≤ 1000000000)
    (h : ∀ p m cp, (xs ++ ys).length = m * sz → RX P n ds ops D0 l (star Dl) (upd e d (.slice p m cp)) (star (SlOff E sz (.slice p m cp) (xs ++ ys) :: blk b cl T fz :: F')) K) : RX P n ds ops D0 (.op i .e :: l) (star Dl) e (star Hl) K := by
  refine ⟨o, ho, hd_of hd hdn, .inr (.inr ⟨rfl, hw, sep (SlOff E sz v xs) (blk b cl T fz), star F', fun v' G => (∃ p m cp, v' = .slice p m cp ∧ (xs ++ ys).length = m * sz) ∧ G = sep (SlOff E sz v' (xs ++ ys)) (blk b cl T fz), Ent.of_eq (by rw [hT.eq, hT'.eq, sep_assoc]), fun a w R ha hs => ?_, fun v' G hG _ => ?_⟩)⟩
  · have hs' : Sat (sep (SlOff E sz v xs) (sep (blk b cl T fz) (sep (sep D0 (star Dl)) R))) w := by
      rw [← sep_assoc, sep_left, ← sep_assoc]; exact hs
    have hs2 : Sat (sep (blk b cl T fz) (sep (SlOff E sz v xs) (sep (sep D0 (star Dl)) R))) w := by rw [sep_left]; exact hs'
    obtain ⟨v', w', hr, hs3⟩ := append_off (P := P) (ty := o.type) (ad := ⟨b, off, none⟩) (m := m) (c := c) ht hz (Nat.eq_of_beq_eq_true hzl) (Nat.le_of_ble_eq_true hsz) (Nat.le_of_ble_eq_true hby) hs' (fun u hu => List.all_eq_true.1 h1 u hu) hl (fun j u hj => by
      rw [add_none, blk_cell hs2]
      rw [← hys, List.getElem?_take] at hj
      split at hj
      · rw [List.getElem?_drop] at hj; exact hj
      · cases hj) hroom
    have hrun : (execOp a.eval o).run P w = .ok (.value v') w' := by
      unfold execOp
      simp [hop, resolve, ha.eval hx, ha.eval hy, invoke, builtin, hr]
    rw [hrun]
    refine ⟨_, ⟨_, rfl, sloff_shape hs3, rfl⟩, ?_⟩
    rw [← sep_assoc, sep_left, ← sep_assoc] at hs3; exact hs3
  · obtain ⟨⟨p, m', cp, rfl, hm⟩, rfl⟩ := hG
    rw [hd, sep_assoc]; exact h p m' cp hm
end
theorem sloff_own {E sz : Nat} {v : Value} {xs : List Value} {l r l' : List HProp} (hT : Take1 l (SlOwn E sz v xs) r) (h : EntL r l') : EntL l (SlOff E sz v xs :: l') := .cons (.cons hT .nil) (by rw [star_one]; exact SlOff.of_own) h
theorem sloff_nil (E sz : Nat) {l l' : List HProp} (h : EntL l l') : EntL l (SlOff E sz (.slice none 0 0) [] :: l') := .cons .nil (EntS.trans (SlOwn.nil E sz) SlOff.of_own) h
theorem sloff_mk {E sz b off len cap : Nat} {cl pre xs rest : List Value} {l r l' : List HProp} (hT : Take1 l (blk b cl E (0, 0)) r) (hc : cl = pre ++ xs ++ rest) (h1 : ∀ u ∈ xs, u.oneCell' = true) (hl : xs.length = len * sz)
    (hcc : xs.length + rest.length = cap * sz) (hlc : len ≤ cap) (ho : 0 < cap → off = pre.length) (h : EntL r l') : EntL l (SlOff E sz (.slice (some ⟨b, off, none⟩) len cap) xs :: l') := by
  subst hc
  exact .cons (.cons hT .nil) (by rw [star_one]; exact SlOff.mk h1 hl hcc hlc ho) h
end Go.Sl
/- Plain data: one who goes down a path. -/
namespace Go.Sl
open Go
/-- A slice that is only read: nil, or a part of a block. -/
def SlRo (E sz : Nat) (v : Value) (xs : List Value) : HProp := fun h =>
  (v = .slice none 0 0 ∧ xs = [] ∧ h = Hp.emp) ∨
    ∃ b off len cap cl fz, v = .slice (some ⟨b, off, none⟩) len cap ∧ xs.length = len * sz ∧ len ≤ cap ∧ (cl.drop off).take xs.length = xs ∧ blk b cl E fz h
section
variable {P : Program} {n : Nat} {ds : List Deferred} {e : Env} {E sz : Nat} {v : Value} {xs : List Value}
theorem SlRo.nil (E sz : Nat) : EntS emp (SlRo E sz (.slice none 0 0) []) := EntS.of_ent fun _ hh => .inl ⟨rfl, rfl, hh⟩
theorem SlRo.mk {b off len cap : Nat} {cl : List Value} {fz : Nat × Nat} (hl : xs.length = len * sz) (hlc : len ≤ cap) (hd : (cl.drop off).take xs.length = xs) :
    EntS (blk b cl E fz) (SlRo E sz (.slice (some ⟨b, off, none⟩) len cap) xs) := EntS.of_ent fun _ hh => .inr ⟨b, off, len, cap, cl, fz, rfl, hl, hlc, hd, hh⟩
theorem SlRo.of_own : EntS (SlOwn E sz v xs) (SlRo E sz v xs) := EntS.of_ent fun h hh => by
  obtain ⟨_, ⟨h1, h2, h3⟩ | ⟨b, len, cap, rest, h1, h2, h3, h4, h5⟩⟩ := hh
  · exact .inl ⟨h1, h2, h3⟩
  · exact .inr ⟨b, 0, len, cap, xs ++ rest, (0, 0), h1, h2, h4, by simp, h5⟩
theorem Sat.slro {R : HProp} {w : World} (hs : Sat (sep (SlRo E sz v xs) R) w) : (v = .slice none 0 0 ∧ xs = [] ∧ Sat R w) ∨
    ∃ b off len cap cl fz, v = .slice (some ⟨b, off, none⟩) len cap ∧ xs.length = len * sz ∧ len ≤ cap ∧ (cl.drop off).take xs.length = xs ∧ Sat (sep (blk b cl E fz) R) w := by
  obtain ⟨g, ⟨f, r, dj, e1, h2, hr⟩, z⟩ := hs
  rcases h2 with ⟨a, b, c⟩ | ⟨b, off, len, cap, cl, fz, a1, a2, a3, a4, a5⟩
  · refine .inl ⟨a, b, g, ?_, z⟩
    rw [c, Hp.emp_join] at e1; rw [e1]; exact hr
  · exact .inr ⟨b, off, len, cap, cl, fz, a1, a2, a3, a4, g, ⟨f, r, dj, e1, a5, hr⟩, z⟩
theorem SW.slro {Hl F : List HProp} {c : Code} {K : Exit → Env → HProp → Prop} (j : Nat) (hT : pick1 j Hl = some (SlRo E sz v xs, F))
    (h0 : v = .slice none 0 0 → xs = [] → SW P n ds c e (star F) K)
    (h1 : ∀ b off len cap cl fz, v = .slice (some ⟨b, off, none⟩) len cap → xs.length = len * sz → len ≤ cap → (cl.drop off).take xs.length = xs → SW P n ds c e (star (blk b cl E fz :: F)) K) : SW P n ds c e (star Hl) K := by
  intro a w R ha hs Q hq
  rw [(pick1_take hT).eq, sep_assoc] at hs
  obtain q | ⟨b, off, len, cap, cl, fz, a1, a2, a3, a4, a5⟩ := hs.slro
  · exact h0 q.1 q.2.1 a w R ha q.2.2 Q hq
  · exact h1 b off len cap cl fz a1 a2 a3 a4 a w R ha (by rw [show star (blk b cl E fz :: F) = sep (blk b cl E fz) (star F) from rfl, sep_assoc]; exact a5) Q hq
theorem SW.slroShape {Hl F : List HProp} {c : Code} {K : Exit → Env → HProp → Prop} (j : Nat) (hT : pick1 j Hl = some (SlRo E sz v xs, F))
    (h : ∀ p m cp, v = .slice p m cp → xs.length = m * sz → SW P n ds c e (star Hl) K) : SW P n ds c e (star Hl) K := by
  intro a w R ha hs Q hq
  have hs' := hs
  rw [(pick1_take hT).eq, sep_assoc] at hs'
  obtain q | ⟨b, off, len, cap, cl, fz, a1, a2, _⟩ := hs'.slro
  · exact h none 0 0 q.1 (by rw [q.2.1]; simp) a w R ha hs Q hq
  · exact h _ len cap a1 a2 a w R ha hs Q hq
theorem slro_nil (E sz : Nat) {l l' : List HProp} (h : EntL l l') : EntL l (SlRo E sz (.slice none 0 0) [] :: l') := .cons .nil (SlRo.nil E sz) h
theorem slro_mk {b off len cap : Nat} {cl : List Value} {fz : Nat × Nat} {l r l' : List HProp} (hT : Take1 l (blk b cl E fz) r) (hl : xs.length = len * sz) (hlc : len ≤ cap) (hd : (cl.drop off).take xs.length = xs)
    (h : EntL r l') : EntL l (SlRo E sz (.slice (some ⟨b, off, none⟩) len cap) xs :: l') := .cons (.cons hT .nil) (by rw [star_one]; exact SlRo.mk hl hlc hd) h
theorem slro_own {l r l' : List HProp} (hT : Take1 l (SlOwn E sz v xs) r) (h : EntL r l') : EntL l (SlRo E sz v xs :: l') := .cons (.cons hT .nil) (by rw [star_one]; exact SlRo.of_own) h
theorem ro_get {cl : List Value} {off j : Nat} {x : Value} (hd : (cl.drop off).take xs.length = xs) (hj : xs[j]? = some x) : cl[off + j]? = some x := by
  have hlt := (List.getElem?_eq_some_iff.1 hj).1
  rw [← hd, List.getElem?_take, if_pos hlt, List.getElem?_drop] at hj
  exact hj
end
end Go.Sl
namespace Go.Holt
open Go Go.Sl
open Enc (enc)
instance : Enc ByteArray := ⟨fun s => [.string s], 1, fun _ => rfl, fun _ u h => by simp at h; subst h; rfl⟩
theorem ro_tail {α : Type} [Enc α] {cl : List Value} {off off' : Nat} {x : α} {l : List α} (hd : (cl.drop off).take (flat (x :: l)).length = flat (x :: l)) (ho : l ≠ [] → off' = off + Enc.n α) : (cl.drop off').take (flat l).length = flat l := by
  cases l with
  | nil => simp [flat]
  | cons y l =>
    rw [ho (by simp)]
    have e1 : flat (x :: y :: l) = enc x ++ flat (y :: l) := rfl
    rw [e1, List.length_append, Enc.len] at hd
    have h2 := congrArg (List.drop (Enc.n α)) hd
    have e2 : List.drop (Enc.n α) (enc x) = [] := List.drop_of_length_le (by rw [Enc.len]; exact Nat.le_refl _)
    rw [List.drop_take, List.drop_drop, List.drop_append_of_le_length (by rw [Enc.len]; exact Nat.le_refl _), e2, List.nil_append, Nat.add_sub_cancel_left] at h2
    exact h2
/-- One who goes down a path; what is done next is told by a function's number. -/
structure Fi where
  v : Ver
  list : Bool
  names : List ByteArray
  at_ : Int
  want : Handle
  next : Option Nat
  met : Int
  found : Bool
  stack : List Handle
  e : Int
  version : Int
  node : Int
  kids : List Kid
  loads : Int
def fnV (f : Nat) : Option Nat → Value
  | none => .nilFunc
  | some g => .func (.func g) #[.pointer (some ⟨f, 0, none⟩)] #[]
theorem isNil_fnV (f : Nat) (o : Option Nat) : isNilF (fnV f o) = some o.isNone := by cases o <;> rfl
def bytesLt (a b : ByteArray) : Bool := Op.bytesLess a.toList b.toList
def Kid.zero : Kid := ⟨0, ⟨#[]⟩, 0⟩
/-- The kids, sorted. -/
def sortKids (cf : Kid → Kid → Int) (l : List Kid) : List Kid := l.mergeSort fun x y => !decide (cf y x < 0)
namespace Fi
/-- One who was given nothing. -/
def new (v : Ver) (list : Bool) (names : List ByteArray) : Fi := ⟨v, list, names, 0, ⟨0, 0⟩, none, 0, false, [], 0, 0, 0, [], 0⟩
def end_ (F : Fi) (e : Int) : Fi :=
  if e = 11 then { F with want := ⟨0, 0⟩, next := none, e := 11, version := 0, node := 0, kids := [] }
  else { F with want := ⟨0, 0⟩, next := none, e := e, version := F.v.n, node := if e = 0 then F.at_ else F.node }
/-- What is left on the stack, from its end: the first that is a node, and what is ahead of it. -/
def pop : List Handle → Option (List Handle × Handle)
  | [] => none
  | h :: l => match pop l with
    | some (l', x) => some (h :: l', x)
    | none => if h = ⟨0, 0⟩ then none else some ([], h)
theorem pop_concat (l : List Handle) (h : Handle) : pop (l ++ [h]) = if h = ⟨0, 0⟩ then pop l else some (l, h) := by
  induction l with
  | nil => simp [pop]
  | cons x l ih =>
    rw [List.cons_append, pop, ih]
    by_cases q : h = ⟨0, 0⟩
    · rw [if_pos q, if_pos q]; rfl
    · rw [if_neg q, if_neg q]
section
variable (cf : Kid → Kid → Int) (dn th : Nat)
def rest (F : Fi) : Fi := match pop F.stack with
  | some (l, h) => { F with stack := l, want := h, next := some th }
  | none => ({ F with stack := [], kids := sortKids cf F.kids } : Fi).end_ 0
def seg (F : Fi) : Fi :=
  if F.names = [] then
    if F.list = true then
      if F.v.kids = ⟨0, 0⟩ then rest cf th { F with met := 0, found := false, want := F.v.kids, next := some th }
      else { F with met := 0, found := false, want := F.v.kids, next := some th }
    else ({ F with met := 0, found := false } : Fi).end_ 0
  else if F.v.kids = ⟨0, 0⟩ then ({ F with met := 0, found := false, want := F.v.kids, next := some dn } : Fi).end_ 9
  else { F with met := 0, found := false, want := F.v.kids, next := some dn }
def bottom (F : Fi) : Fi :=
  if F.names = [] then rest cf th F
  else if F.found = true then seg cf dn th { F with at_ := F.met, names := F.names.tail }
  else F.end_ 9
def go1 (F : Fi) (h : Handle) (g : Nat) : Fi := if h = ⟨0, 0⟩ then bottom cf dn th { F with want := h, next := some g } else { F with want := h, next := some g }
def down (F : Fi) (n : KNode) : Fi :=
  if cf n.key ⟨F.at_, F.names.headD ⟨#[]⟩, 0⟩ < 0 then go1 cf dn th F n.right dn
  else if n.key.to = F.at_ ∧ n.key.name = F.names.headD ⟨#[]⟩ then go1 cf dn th { F with met := n.key.node, found := true } n.left dn
  else go1 cf dn th F n.left dn
def through1 (F : Fi) (n : KNode) : Fi := { F with
  kids := if n.key.to = F.at_ then F.kids ++ [n.key] else F.kids
  stack := F.stack ++ (if n.key.to ≥ F.at_ then [n.left] else []) ++ (if n.key.to ≤ F.at_ then [n.right] else []) }
def through (F : Fi) (n : KNode) : Fi := rest cf th (through1 F n)
def give (F : Fi) (n : KNode) (ok : Bool) : Fi := match F.next with
  | none => F
  | some g => if ok = false then ({ F with loads := F.loads + 1 } : Fi).end_ 11
    else if g = dn then down cf dn th { F with loads := F.loads + 1 } n
    else through cf th { F with loads := F.loads + 1 } n
/-- One who begins with a path's names, or with none. -/
def start (v : Ver) (list : Bool) (r : Option (List ByteArray)) : Fi := match r with
  | none => (new v list []).end_ 4
  | some l => seg cf dn th (new v list l)
/-- What stays small. -/
structure ok (F : Fi) : Prop where
  stack : F.stack.length ≤ 100000
  kids : F.kids.length ≤ 12
end
end Fi
end Go.Holt
/- Reads from whatever holds what is read: a block, a slice, the old heap, or many of them. -/
namespace Go.Sl
open Go Go.RowKit Go.Holt
open Go.Holt.Enc (enc)
/-- S holds these cells, at that place. -/
def RdAt (S : HProp) (b o : Nat) (vs : List Value) : Prop := ∀ R w, Sat (sep S R) w → ∀ j u, vs[j]? = some u → w.cell? ⟨b, o + j, none⟩ = some u
/-- S holds a slice's cells. -/
def Rd (S : HProp) (p : Option Addr) (xs : List Value) : Prop := xs = [] ∨ ∃ b off, p = some ⟨b, off, none⟩ ∧ RdAt S b off xs
theorem RdAt.part {S : HProp} {b o k : Nat} {xs vs : List Value} (h : RdAt S b o xs) (hk : ∀ j u, vs[j]? = some u → xs[k + j]? = some u) : RdAt S b (o + k) vs := fun R w hs j u hj => by
  have := h R w hs (k + j) u (hk j u hj); rw [← Nat.add_assoc] at this; exact this
section
variable {α : Type} [Enc α] {S : HProp} {b o : Nat} {l : List α}
theorem RdAt.elem (h : RdAt S b o (flat l)) {i : Nat} {a : α} (hi : l[i]? = some a) : RdAt S b (o + i * Enc.n α) (enc a) := h.part fun j u hj => by
  have hj' := (List.getElem?_eq_some_iff.1 hj).1
  rw [Enc.len] at hj'
  have := flat_get hi hj' rfl []
  rw [List.append_nil] at this
  rw [this]; exact hj
theorem RdAt.cell (h : RdAt S b o (flat l)) {i j : Nat} {a : α} {v : Value} (hi : l[i]? = some a) (hj : (enc a)[j]? = some v) : RdAt S b (o + i * Enc.n α + j) [v] := (h.elem hi).part fun q u hq => by
  cases q with
  | zero => simp at hq; subst hq; exact hj
  | succ q => simp at hq
end
theorem Rd.at {S : HProp} {p : Option Addr} {xs : List Value} (h : Rd S p xs) (hne : xs ≠ []) : ∃ b off, p = some ⟨b, off, none⟩ ∧ RdAt S b off xs := h.resolve_left hne
theorem RdAt.sepL {S T : HProp} {b o : Nat} {vs : List Value} (h : RdAt S b o vs) : RdAt (sep S T) b o vs := fun R w hs => h (sep T R) w (by rw [← sep_assoc]; exact hs)
theorem RdAt.sepR {S T : HProp} {b o : Nat} {vs : List Value} (h : RdAt S b o vs) : RdAt (sep T S) b o vs := fun R w hs => h (sep T R) w (by rw [sep_left, ← sep_assoc]; exact hs)
theorem Rd.sepL {S T : HProp} {p : Option Addr} {xs : List Value} (h : Rd S p xs) : Rd (sep S T) p xs := h.imp id fun ⟨b, o, e, q⟩ => ⟨b, o, e, q.sepL⟩
theorem Rd.sepR {S T : HProp} {p : Option Addr} {xs : List Value} (h : Rd S p xs) : Rd (sep T S) p xs := h.imp id fun ⟨b, o, e, q⟩ => ⟨b, o, e, q.sepR⟩
/-- what a thing holds -/
theorem Rd.of_blk {b o : Nat} {cl vs : List Value} {T : TypeId} {fz : Nat × Nat} (h : ∀ j u, vs[j]? = some u → cl[o + j]? = some u) : RdAt (blk b cl T fz) b o vs := fun R w hs j u hj => by
  rw [blk_cell hs]; exact h j u hj
theorem Rd.of_own {E sz m c : Nat} {p : Option Addr} {xs : List Value} (hp : xs = [] ∨ ∃ b, p = some ⟨b, 0, none⟩) : Rd (SlOwn E sz (.slice p m c) xs) p xs := by
  rcases hp with hp | ⟨b, rfl⟩
  · exact .inl hp
  refine .inr ⟨b, 0, rfl, fun R w hs j u hj => ?_⟩
  obtain ⟨_, ⟨h, _, _⟩ | ⟨b', len, cap, rest, h, _, _, _, h5⟩⟩ := hs.slown
  · cases h
  · cases h
    rw [blk_cell h5, Nat.zero_add, List.getElem?_append_left (List.getElem?_eq_some_iff.1 hj).1]; exact hj
theorem Rd.of_old {w0 : World} {b o : Nat} {vs : List Value} (h : ∀ j u, vs[j]? = some u → w0.cell? ⟨b, o + j, none⟩ = some u) : RdAt (OLD w0 []) b o vs := fun R w hs j u hj => OLD.cell hs (h j u hj)
theorem RdAt.of_old {w0 : World} {b o : Nat} {vs : List Value} (h : ∀ j u, vs[j]? = some u → w0.cell? ⟨b, o + j, none⟩ = some u) : RdAt (OLD w0 []) b o vs := fun R w hs j u hj => OLD.cell hs (h j u hj)
/-- A list in an old world. -/
def ListAt {α : Type} [Enc α] (w0 : World) (s : Sli) (l : List α) : Prop := s.m = l.length ∧ (l = [] ∨ ∃ b off, s.p = some ⟨b, off, none⟩ ∧ ∀ j u, (flat l)[j]? = some u → w0.cell? ⟨b, off + j, none⟩ = some u)
theorem ListAt.rd {α : Type} [Enc α] {w0 : World} {s : Sli} {l : List α} (h : ListAt w0 s l) : Rd (OLD w0 []) s.p (flat l) := by
  rcases h.2 with h | ⟨b, off, e, h⟩
  · subst h; exact .inl rfl
  · exact .inr ⟨b, off, e, RdAt.of_old h⟩
section
variable {P : Program} {n : Nat} {ds : List Deferred} {ops : Array Oper} {K : Env → HProp → Prop} {e : Env} {i : Nat} {k : Kd} {l : List Item} {o : Oper} {d : Nat} {D0 : HProp}
theorem run_load_rd1 {S : HProp} {b off : Nat} {v : Value} {t : TypeId} (h : RdAt S b off [v]) (ha : tyAgg P t = some false) {R : HProp} {w : World} (hs : Sat (sep S R) w) : (Instr.loadAt t (.pointer (some ⟨b, off, none⟩))).run P w = .ok v w := by
  have hc := h R w hs 0 v rfl
  simp only [Nat.add_zero] at hc
  simp [Instr.loadAt, Instr.sureAddr, loadVar, run_isAgg_of ha, hc]
theorem run_load_rdA {S : HProp} {b off s : Nat} {vs : List Value} {t : TypeId} (h : RdAt S b off vs) (ha : tyAgg P t = some true) (hz : tySz P t = some s) (hl : vs.length = s) {R : HProp} {w : World} (hs : Sat (sep S R) w) :
    (Instr.loadAt t (.pointer (some ⟨b, off, none⟩))).run P w = .ok (.agg vs.toArray) w := by
  have hl' := run_loadCells_list (P := P) w ⟨b, off, none⟩ vs (fun j u hj => by rw [add_none]; exact h R w hs j u hj)
  rw [hl] at hl'
  simp [Instr.loadAt, Instr.sureAddr, loadVar, run_isAgg_of ha, run_sizeOf_of hz, hl']
theorem rx_rd {S : HProp} {Dl Hl F : List HProp} {t : TypeId} {x : Operand} {v : Value} {a : Option Addr} (ho : ops[i]? = some o) (hw : wantE ops e o = some true) (hd : o.dst = some d) (hdn : Nat.blt d n = true) (hop : o.op = .load t x)
    (hx : ov e x = some (.pointer a)) (hr : ∀ R w, Sat (sep S R) w → (Instr.loadAt t (.pointer a)).run P w = .ok v w) (hT : Take1 Hl S F)
    (h : RX P n ds ops D0 l (star Dl) (upd e d v) (star (S :: F)) K) : RX P n ds ops D0 (.op i .e :: l) (star Dl) e (star Hl) K := by
  refine rx_step ho hw hd hdn hT (fun ac w R ha hs => ⟨w, ?_, hs⟩) h
  unfold execOp
  simp only [hop, ha.eval hx, Sem.run_bind, hr R w hs]; rfl
theorem rx_rdH1 {S : HProp} {Dl Hl F : List HProp} {t : TypeId} {x : Operand} {b off : Nat} {v : Value} (ho : ops[i]? = some o) (hw : wantE ops e o = some true) (hd : o.dst = some d) (hdn : Nat.blt d n = true) (hop : o.op = .load t x)
    (hx : ov e x = some (.pointer (some ⟨b, off, none⟩))) (hr : RdAt S b off [v]) (hT : Take1 Hl S F) (ha : tyAgg P t = some false)
    (h : RX P n ds ops D0 l (star Dl) (upd e d v) (star (S :: F)) K) : RX P n ds ops D0 (.op i .e :: l) (star Dl) e (star Hl) K :=
  rx_rd ho hw hd hdn hop hx (fun _ _ hs => run_load_rd1 hr ha hs) hT h
theorem rx_rdHA {S : HProp} {Dl Hl F : List HProp} {t : TypeId} {x : Operand} {b off s : Nat} {vs : List Value} (ho : ops[i]? = some o) (hw : wantE ops e o = some true) (hd : o.dst = some d) (hdn : Nat.blt d n = true) (hop : o.op = .load t x)
    (hx : ov e x = some (.pointer (some ⟨b, off, none⟩))) (hr : RdAt S b off vs) (hT : Take1 Hl S F) (ha : tyAgg P t = some true) (hz : tySz P t = some s) (hl : Nat.beq vs.length s = true)
    (h : RX P n ds ops D0 l (star Dl) (upd e d (.agg vs.toArray)) (star (S :: F)) K) : RX P n ds ops D0 (.op i .e :: l) (star Dl) e (star Hl) K :=
  rx_rd ho hw hd hdn hop hx (fun _ _ hs => run_load_rdA hr ha hz (Nat.eq_of_beq_eq_true hl) hs) hT h
theorem rx_rdD {S : HProp} {Dl F : List HProp} {H : HProp} {t : TypeId} {x : Operand} {v : Value} {a : Option Addr} (hk : DD D0 (star Dl) k = sep D0 (star Dl)) (ho : ops[i]? = some o) (hw : wantE ops e o = some true) (hd : o.dst = some d) (hdn : Nat.blt d n = true) (hop : o.op = .load t x)
    (hx : ov e x = some (.pointer a)) (hr : ∀ R w, Sat (sep S R) w → (Instr.loadAt t (.pointer a)).run P w = .ok v w) (hT : Take1 Dl S F)
    (h : RX P n ds ops D0 l (star Dl) (upd e d v) H K) : RX P n ds ops D0 (.op i k :: l) (star Dl) e H K := by
  refine ⟨o, ho, hd_of hd hdn, .inl ⟨v, .inl ⟨hw, fun ac w R ha hs => ?_⟩, by rw [hd]; exact h⟩⟩
  rw [hk] at hs ⊢
  have hs' := hs
  rw [hT.eq, sep_left D0, sep_assoc] at hs
  unfold execOp
  simp only [hop, ha.eval hx, Sem.run_bind, hr _ w hs]
  exact ⟨rfl, hs'⟩
theorem rx_rdD1 {S : HProp} {Dl F : List HProp} {H : HProp} {t : TypeId} {x : Operand} {b off : Nat} {v : Value} (hk : DD D0 (star Dl) k = sep D0 (star Dl)) (ho : ops[i]? = some o) (hw : wantE ops e o = some true) (hd : o.dst = some d) (hdn : Nat.blt d n = true) (hop : o.op = .load t x)
    (hx : ov e x = some (.pointer (some ⟨b, off, none⟩))) (hr : RdAt S b off [v]) (hT : Take1 Dl S F) (ha : tyAgg P t = some false)
    (h : RX P n ds ops D0 l (star Dl) (upd e d v) H K) : RX P n ds ops D0 (.op i k :: l) (star Dl) e H K :=
  rx_rdD hk ho hw hd hdn hop hx (fun _ _ hs => run_load_rd1 hr ha hs) hT h
theorem rx_rdDA {S : HProp} {Dl F : List HProp} {H : HProp} {t : TypeId} {x : Operand} {b off s : Nat} {vs : List Value} (hk : DD D0 (star Dl) k = sep D0 (star Dl)) (ho : ops[i]? = some o) (hw : wantE ops e o = some true) (hd : o.dst = some d) (hdn : Nat.blt d n = true) (hop : o.op = .load t x)
    (hx : ov e x = some (.pointer (some ⟨b, off, none⟩))) (hr : RdAt S b off vs) (hT : Take1 Dl S F) (ha : tyAgg P t = some true) (hz : tySz P t = some s) (hl : Nat.beq vs.length s = true)
    (h : RX P n ds ops D0 l (star Dl) (upd e d (.agg vs.toArray)) H K) : RX P n ds ops D0 (.op i k :: l) (star Dl) e H K :=
  rx_rdD hk ho hw hd hdn hop hx (fun _ _ hs => run_load_rdA hr ha hz (Nat.eq_of_beq_eq_true hl) hs) hT h
/-- Bytes as a string. -/
theorem rx_b2sR {S : HProp} {Dl Hl F : List HProp} {t t' : TypeId} {x : Operand} {p : Option Addr} {m c : Nat} {xs : List Int} (ho : ops[i]? = some o) (hw : wantE ops e o = some true) (hd : o.dst = some d) (hdn : Nat.blt d n = true)
    (hop : o.op = .convert t t' x) (ht : isByteT P t = true) (ht' : isStrT P t' = true) (hx : ov e x = some (.slice p m c)) (hl : xs.length = m) (hr : xs = [] ∨ ∃ b off, p = some ⟨b, off, none⟩ ∧ RdAt S b off (xs.map (.int .u8))) (hT : Take1 Hl S F)
    (h : RX P n ds ops D0 l (star Dl) (upd e d (.string (strOfNums xs))) (star (S :: F)) K) : RX P n ds ops D0 (.op i .e :: l) (star Dl) e (star Hl) K := by
  refine rx_step ho hw hd hdn hT (fun ac w R ha hs => ⟨w, ?_, hs⟩) h
  obtain ⟨e', h1, h2⟩ := isByteT_spec ht
  have hrun : (convert t t' (.slice p m c)).run P w = .ok (.string (strOfNums xs)) w := by
    rcases hr with rfl | ⟨b, off, rfl, hr⟩
    · obtain rfl : m = 0 := hl.symm
      cases p with
      | none => exact run_convert_bytes_nil w t e' h1 h2 0 c t' (isStrT_spec ht')
      | some a =>
        rw [run_convert_bytes_string w t t' e' _ 0 c h1 h2 (isStrT_spec ht')]
        simp [Conv.bytesToString, loadCells, loadCellsFrom, strOfNums]; rfl
    · exact run_convert_bytes_arg w t e' h1 h2 b off m c xs hl (fun j hj => hr R w hs j _ (by rw [List.getElem?_map, List.getElem?_eq_getElem (by omega)]; simp [List.getD, List.getElem?_eq_getElem (show j < xs.length by omega)])) t' (isStrT_spec ht')
  unfold execOp
  simp only [hop, ha.eval hx, Sem.run_bind, hrun]; rfl
/-- What is known of a slice of its own, by its form. -/
theorem SW.slform {E sz m c : Nat} {p : Option Addr} {xs : List Value} {Hl F : List HProp} {cd : Code} {K : Exit → Env → HProp → Prop} (j : Nat) (hT : pick1 j Hl = some (SlOwn E sz (.slice p m c) xs, F))
    (h : (xs = [] ∨ ∃ b, p = some ⟨b, 0, none⟩) → SW P n ds cd e (star Hl) K) : SW P n ds cd e (star Hl) K := by
  intro a w R ha hs Q hq
  have hs' := hs
  rw [(pick1_take hT).eq, sep_assoc] at hs'
  obtain ⟨_, q | ⟨b, len, cap, rest, a1, _⟩⟩ := hs'.slown
  · exact h (.inl q.2.1) a w R ha hs Q hq
  · cases a1; exact h (.inr ⟨b, rfl⟩) a w R ha hs Q hq
theorem Spec.slform {f : FuncId} {args : Array Value} {Post : Value → List HProp → Prop} {E sz m c : Nat} {p : Option Addr} {xs : List Value} {Hl F : List HProp} (j : Nat) (hT : pick1 j Hl = some (SlOwn E sz (.slice p m c) xs, F))
    (h : (xs = [] ∨ ∃ b, p = some ⟨b, 0, none⟩) → Spec P f args Hl Post) : Spec P f args Hl Post := by
  intro R w hs
  have hs' := hs
  rw [(pick1_take hT).eq, sep_assoc] at hs'
  obtain ⟨_, q | ⟨b, len, cap, rest, a1, _⟩⟩ := hs'.slown
  · exact h (.inl q.2.1) R w hs
  · cases a1; exact h (.inr ⟨b, rfl⟩) R w hs
end
end Go.Sl
/- From what a row's reading of its arguments tells to lists and bytes in the world as the call finds it; and back to the row's end. -/
namespace Go.Holt
open Go Go.Sl Go.RowKit Go.ChangeShapes Go.WideShapes Go.ChangeAt
open Go.Holt.Enc (enc)
section
variable {H : Type} {ec : TypeId × Value → H} {P : Program} {w : World} {base : Nat} {sp : Nat → Bool} {held : Bool}
/-- Cells that read at a type are an α's. -/
def RdsAs (ec : TypeId × Value → H) (P : Program) (w : World) (base : Nat) (sp : Nat → Bool) (held : Bool) (α : Type) [Enc α] (t : TypeId) (Q : α → Prop) : Prop :=
  P.cellsOf t = Enc.n α ∧ ∀ (fuel : Nat) (cs : List Value) (x : DataW H × List MemPlace), DataW.trod ec P w base sp held fuel t cs = some x → ∃ a : α, cs = enc a ∧ Q a
theorem rds_int {t : TypeId} {k : IntKind} (ht : P.underlying t = some (.int k)) {fuel : Nat} {cs : List Value} {x : DataW H × List MemPlace} (h : DataW.trod ec P w base sp held fuel t cs = some x) : ∃ n, cs = [.int k n] ∧ (Lit.int k n).wf = true := by
  obtain ⟨n, h1, _, h3⟩ := DataW.trod_int ht h; exact ⟨n, h1, h3⟩
theorem rds_str {t : TypeId} (ht : P.underlying t = some .string) {fuel : Nat} {cs : List Value} {x : DataW H × List MemPlace} (h : DataW.trod ec P w base sp held fuel t cs = some x) : ∃ s, cs = [.string s] ∧ s.size ≤ maxLen := by
  obtain ⟨s, h1, _, h3⟩ := DataW.trod_string ht h; exact ⟨s, h1, h3⟩
/-- A slice of such ones. -/
theorem rds_list {α : Type} [Enc α] {t e : TypeId} {Q : α → Prop} (ht : P.underlying t = some (.slice e)) (hn : 0 < Enc.n α) (hel : RdsAs ec P w base sp held α e Q) {fuel : Nat} {cs : List Value} {x : DataW H × List MemPlace}
    (h : DataW.trod ec P w base sp held fuel t cs = some x) : ∃ (s : Sli) (l : List α), cs = [s.v] ∧ ListAt w s l ∧ (∀ a ∈ l, Q a) ∧ (s.p = none → l = []) ∧ s.m ≤ maxLen := by
  rcases DataW.trod_slice ht h with ⟨rfl, _⟩ | ⟨a, len, cap, elems, rest, n, _, rfl, _, hb, hl, hm, hlen, hE, hx1, hx2⟩
  · exact ⟨Sli.none, [], rfl, ⟨rfl, .inl rfl⟩, by simp, fun _ => rfl, Nat.zero_le _⟩
  have key : ∀ i, i < len → ∃ y : α, Q y ∧ ∀ j u, (enc y)[j]? = some u → w.cell? ((a.add (i * Enc.n α)).add j) = some u := fun i hi => by
    have h1 := hE i hi
    rw [List.getElem?_eq_getElem (by omega)] at h1
    obtain ⟨ci, hci, hti⟩ := Option.bind_eq_some_iff.1 h1
    obtain ⟨y, rfl, hy⟩ := hel.2 _ _ _ hti
    refine ⟨y, hy, fun j u hj => ?_⟩
    obtain ⟨_, _, hc⟩ := World.cells?_some hci
    have hj' := (List.getElem?_eq_some_iff.1 hj).1
    rw [Enc.len] at hj'
    rw [hel.1] at hc
    rw [hc j hj']; exact hj
  have hch : ∃ l : List α, l.length = len ∧ ∀ i y, l[i]? = some y → Q y ∧ ∀ j u, (enc y)[j]? = some u → w.cell? ((a.add (i * Enc.n α)).add j) = some u := by
    clear hE h hlen hl hm hx1 hx2
    induction len with
    | zero => exact ⟨[], rfl, by simp⟩
    | succ k ih =>
      obtain ⟨l, hll, hlp⟩ := ih fun i hi => key i (by omega)
      obtain ⟨y, hy⟩ := key k (by omega)
      refine ⟨l ++ [y], by simp [hll], fun i z hz => ?_⟩
      by_cases q : i < l.length
      · rw [List.getElem?_append_left q] at hz; exact hlp i z hz
      · rw [List.getElem?_append_right (by omega)] at hz
        have : i - l.length = 0 := by
          have := (List.getElem?_eq_some_iff.1 hz).1
          simp at this; omega
        rw [this] at hz
        simp at hz
        obtain rfl : i = k := by omega
        rw [← hz]; exact hy
  obtain ⟨l, hll, hlp⟩ := hch
  refine ⟨⟨some a, len, cap⟩, l, rfl, ⟨hll.symm, ?_⟩, fun y hy => ?_, (fun q => nomatch q), (show len ≤ maxLen by omega)⟩
  · rcases l with _ | ⟨y0, l0⟩
    · exact .inl rfl
    · right
      have hsp : a.spot = none := by
        obtain ⟨u, hu⟩ : ∃ u, (enc y0)[0]? = some u := ⟨_, List.getElem?_eq_getElem (by rw [Enc.len]; exact hn)⟩
        have h0 := (hlp 0 y0 rfl).2 0 u hu
        rw [Nat.zero_mul] at h0
        have e0 : (a.add 0).add 0 = a := rfl
        rw [e0] at h0
        unfold World.cell? at h0
        split at h0
        · split at h0
          · cases h0
          · rename_i q; cases hs : a.spot with
            | none => rfl
            | some z => rw [hs] at q; simp at q
        · cases h0
      obtain ⟨ab, ao, asp⟩ := a
      simp only at hsp
      subst hsp
      refine ⟨ab, ao, rfl, fun j u hj => ?_⟩
      have hjl := (List.getElem?_eq_some_iff.1 hj).1
      rw [flat_len] at hjl
      have hdiv : j / Enc.n α < (y0 :: l0).length := Nat.div_lt_of_lt_mul (by rw [Nat.mul_comm]; exact hjl)
      obtain ⟨y, hy⟩ : ∃ y, (y0 :: l0)[j / Enc.n α]? = some y := ⟨_, List.getElem?_eq_getElem hdiv⟩
      have hjj : j = j / Enc.n α * Enc.n α + j % Enc.n α := by rw [Nat.mul_comm]; exact (Nat.div_add_mod _ _).symm
      have hg := flat_get hy (Nat.mod_lt _ hn) hjj []
      rw [List.append_nil, hj] at hg
      have := (hlp _ y hy).2 _ u hg.symm
      rw [add_none, add_none, Nat.add_assoc, ← hjj] at this
      exact this
  · obtain ⟨i, hi⟩ := List.mem_iff_getElem?.1 hy
    exact (hlp i y hi).1
end
/- a byte -/
structure U8 where
  n : Int
instance : Enc U8 := ⟨fun b => [.int .u8 b.n], 1, fun _ => rfl, fun _ u h => by simp at h; subst h; rfl⟩
theorem flat_u8 (l : List U8) : flat l = (l.map (·.n)).map (Value.int .u8) := by
  induction l with
  | nil => rfl
  | cons b l ih => rw [flat_cons, ih]; rfl
/-- An old world's blocks, all of them there: the end that a row wants. -/
theorem Spec.enter {P : Program} {f : FuncId} {args : Array Value} {W : World} {v : Value} (h : Sl.Spec P f args [OLD W []] (fun u l => u = v ∧ l = [OLD W []])) :
    Calls P f args W fun e W' => e = .returned v ∧ Below W.heap.size W W' := by
  have hs : Sat (sep (star [OLD W []]) emp) W := by
    rw [star_one, sep_emp]; exact OLD.sat W
  refine (h emp W hs).mono ?_
  rintro e w' ⟨u, l, he, ⟨rfl, rfl⟩, hs'⟩
  rw [star_one] at hs'
  exact ⟨he, OLD.below hs'⟩
end Go.Holt
/- How the program's plain types read. -/
namespace Go.Proofs.YtikkegelplllmaaGreatDoor
open Go Go.Sl Go.Holt Go.Proofs Go.ChangeShapes Go.WideShapes Go.ChangeAt Go.RowKit
open Go.Holt.Enc (enc)
namespace Rs
section
variable {H : Type} {ec : TypeId × Value → H} {w : World} {base : Nat} {sp : Nat → Bool} {held : Bool} {fuel : Nat} {cs : List Value} {x : DataW H × List MemPlace}
theorem c3 : Tryz.prog.cellsOf 3 = 1 := by kernel_rfl
theorem c9 : Tryz.prog.cellsOf 9 = 1 := by kernel_rfl
theorem c22 : Tryz.prog.cellsOf 22 = 1 := by kernel_rfl
theorem cK : Tryz.prog.cellsOf 73 = 3 := by kernel_rfl
theorem cU : Tryz.prog.cellsOf 5 = 1 := by kernel_rfl
theorem cE : Tryz.prog.cellsOf 25 = 1 := by kernel_rfl
theorem cKs : Tryz.prog.cellsOf 26 = 1 := by kernel_rfl
theorem cC : Tryz.prog.cellsOf 24 = 5 := by kernel_rfl
theorem cA : Tryz.prog.cellsOf 28 = 5 := by kernel_rfl
theorem at1 {c i : Nat} {v : Value} {cs : List Value} (h : (cs.drop i).take c = [v]) : cs[i]? = some v := by
  have := congrArg (·[0]?) h
  simp only [List.getElem?_take, List.getElem?_drop, Nat.add_zero] at this
  split at this
  · simpa using this
  · simp at this
theorem five {cs : List Value} {a b c d e : Value} (hl : cs.length = 5) (h0 : cs[0]? = some a) (h1 : cs[1]? = some b) (h2 : cs[2]? = some c) (h3 : cs[3]? = some d) (h4 : cs[4]? = some e) : cs = [a, b, c, d, e] := by
  match cs, hl with
  | [_, _, _, _, _], _ => simp at h0 h1 h2 h3 h4; simp [h0, h1, h2, h3, h4]
theorem three {cs : List Value} {a b c : Value} (hl : cs.length = 3) (h0 : cs[0]? = some a) (h1 : cs[1]? = some b) (h2 : cs[2]? = some c) : cs = [a, b, c] := by
  match cs, hl with
  | [_, _, _], _ => simp at h0 h1 h2; simp [h0, h1, h2]
theorem u8 : RdsAs ec Tryz.prog w base sp held U8 5 (fun b => 0 ≤ b.n ∧ b.n ≤ 255) := ⟨cU, fun _ _ _ h => by
  obtain ⟨n, rfl, hw⟩ := rds_int Tryz.underlying5 h
  exact ⟨⟨n⟩, rfl, by simpa [Lit.wf, IntKind.min, IntKind.max, IntKind.signed, IntKind.bits] using hw⟩⟩
theorem bytes (h : DataW.trod ec Tryz.prog w base sp held fuel 22 cs = some x) : ∃ (s : Sli) (l : List U8), cs = [s.v] ∧ ListAt w s l ∧ (∀ a ∈ l, 0 ≤ a.n ∧ a.n ≤ 255) ∧ (s.p = none → l = []) ∧ s.m ≤ maxLen :=
  rds_list Tryz.underlying22 (by show 0 < 1; omega) u8 h
theorem kid : RdsAs ec Tryz.prog w base sp held Kid 73 (fun k => (Lit.int .i64 k.to).wf = true ∧ (Lit.int .i64 k.node).wf = true) := ⟨cK, fun fuel cs x h => by
  obtain ⟨xs, n, _, _, hl, hlen, hf⟩ := DataW.trod_struct Tryz.underlying73 h
  have g0 := hf 0 _ rfl
  have g1 := hf 1 _ rfl
  have g2 := hf 2 _ rfl
  rw [List.getElem?_eq_getElem (by rw [hlen]; decide)] at g0 g1 g2
  obtain ⟨a, ea, wa⟩ := rds_int Tryz.underlying3 g0
  obtain ⟨s, es, ws⟩ := rds_str Tryz.underlying9 g1
  obtain ⟨b, eb, wb⟩ := rds_int Tryz.underlying3 g2
  exact ⟨⟨a, s, b⟩, three (hl.trans cK) (at1 ea) (at1 es) (at1 eb), wa, wb⟩⟩
theorem kids (h : DataW.trod ec Tryz.prog w base sp held fuel 26 cs = some x) : ∃ (s : Sli) (l : List Kid), cs = [s.v] ∧ ListAt w s l ∧ (∀ k ∈ l, (Lit.int .i64 k.to).wf = true ∧ (Lit.int .i64 k.node).wf = true) ∧ (s.p = none → l = []) ∧ s.m ≤ maxLen :=
  rds_list Tryz.underlying26 (by show 0 < 3; omega) kid h
set_option maxRecDepth 100000 in
/-- A call. -/
theorem call {v : Value} {d : DataW H} {ps : List MemPlace} {r : Reach} {b0 : Nat} (hv : Value.okWide Tryz.prog w r b0 24 v) (h : DataW.Trod ec Tryz.prog w base sp held 24 v d ps) :
    ∃ (c : Holt.Call) (l : List U8), v = .agg (enc c).toArray ∧ ListAt w c.data l ∧ (c.data.p = none → l = []) := by
  obtain ⟨cs, rfl, hsz⟩ := okWide_struct Tryz.underlying24 hv
  obtain ⟨fuel, h⟩ := h
  rw [show (Value.agg cs).cells = cs from rfl] at h
  obtain ⟨xs, n, _, _, hl, hlen, hf⟩ := DataW.trod_struct Tryz.underlying24 h
  have g0 := hf 0 _ rfl
  have g1 := hf 1 _ rfl
  have g2 := hf 2 _ rfl
  have g3 := hf 3 _ rfl
  have g4 := hf 4 _ rfl
  rw [List.getElem?_eq_getElem (by rw [hlen]; decide)] at g0 g1 g2 g3 g4
  obtain ⟨k, ek, _⟩ := rds_int Tryz.underlying3 g0
  obtain ⟨nn, en, _⟩ := rds_int Tryz.underlying3 g1
  obtain ⟨t, et, _⟩ := rds_int Tryz.underlying3 g2
  obtain ⟨s, es, _⟩ := rds_str Tryz.underlying9 g3
  obtain ⟨sl, l, esl, hla, _, hno, _⟩ := bytes g4
  refine ⟨⟨k, nn, t, s, sl⟩, l, ?_, hla, hno⟩
  have := five (hl.trans cC) (at1 ek) (at1 en) (at1 et) (at1 es) (at1 esl)
  show Value.agg cs = _
  congr 1
  exact Array.toList_inj.1 this
set_option maxRecDepth 100000 in
/-- An answer. -/
theorem answer {v : Value} {d : DataW H} {ps : List MemPlace} {r : Reach} {b0 : Nat} (hv : Value.okWide Tryz.prog w r b0 28 v) (h : DataW.Trod ec Tryz.prog w base sp held 28 v d ps) :
    ∃ (a : Ans) (k : List Kid) (l : List U8), v = .agg (enc a).toArray ∧ ListAt w a.kids k ∧ ListAt w a.data l ∧ (a.data.p = none → l = []) := by
  obtain ⟨cs, rfl, hsz⟩ := okWide_struct Tryz.underlying28 hv
  obtain ⟨fuel, h⟩ := h
  rw [show (Value.agg cs).cells = cs from rfl] at h
  obtain ⟨xs, n, _, _, hl, hlen, hf⟩ := DataW.trod_struct Tryz.underlying28 h
  have g0 := hf 0 _ rfl
  have g1 := hf 1 _ rfl
  have g2 := hf 2 _ rfl
  have g3 := hf 3 _ rfl
  have g4 := hf 4 _ rfl
  rw [List.getElem?_eq_getElem (by rw [hlen]; decide)] at g0 g1 g2 g3 g4
  obtain ⟨e, ee, _⟩ := rds_int Tryz.underlying25 g0
  obtain ⟨vn, ev, _⟩ := rds_int Tryz.underlying3 g1
  obtain ⟨nn, en, _⟩ := rds_int Tryz.underlying3 g2
  obtain ⟨sk, k, esk, hka, _⟩ := kids g3
  obtain ⟨sl, l, esl, hla, _, hno, _⟩ := bytes g4
  refine ⟨⟨e, vn, nn, sk, sl⟩, k, l, ?_, hka, hla, hno⟩
  have := five (hl.trans cA) (at1 ee) (at1 ev) (at1 en) (at1 esk) (at1 esl)
  show Value.agg cs = _
  congr 1
  exact Array.toList_inj.1 this
end
end Rs
end Go.Proofs.YtikkegelplllmaaGreatDoor
/- What the program's tables say of its types and functions (printed by wip/tools/gen.py). -/
namespace Go.Proofs.YtikkegelplllmaaGreatDoor.Fa
open Go Go.Proofs
theorem ag_1 : Sl.tyAgg Tryz.prog 1 = some false := by kernel_rfl
theorem ag_3 : Sl.tyAgg Tryz.prog 3 = some false := by kernel_rfl
theorem ag_4 : Sl.tyAgg Tryz.prog 4 = some false := by kernel_rfl
theorem ag_5 : Sl.tyAgg Tryz.prog 5 = some false := by kernel_rfl
theorem ag_9 : Sl.tyAgg Tryz.prog 9 = some false := by kernel_rfl
theorem ag_22 : Sl.tyAgg Tryz.prog 22 = some false := by kernel_rfl
theorem ag_24 : Sl.tyAgg Tryz.prog 24 = some true := by kernel_rfl
theorem ag_25 : Sl.tyAgg Tryz.prog 25 = some false := by kernel_rfl
theorem ag_26 : Sl.tyAgg Tryz.prog 26 = some false := by kernel_rfl
theorem ag_28 : Sl.tyAgg Tryz.prog 28 = some true := by kernel_rfl
theorem ag_31 : Sl.tyAgg Tryz.prog 31 = some false := by kernel_rfl
theorem ag_33 : Sl.tyAgg Tryz.prog 33 = some false := by kernel_rfl
theorem ag_35 : Sl.tyAgg Tryz.prog 35 = some false := by kernel_rfl
theorem ag_37 : Sl.tyAgg Tryz.prog 37 = some false := by kernel_rfl
theorem ag_41 : Sl.tyAgg Tryz.prog 41 = some true := by kernel_rfl
theorem ag_42 : Sl.tyAgg Tryz.prog 42 = some false := by kernel_rfl
theorem ag_45 : Sl.tyAgg Tryz.prog 45 = some false := by kernel_rfl
theorem ag_49 : Sl.tyAgg Tryz.prog 49 = some true := by kernel_rfl
theorem ag_56 : Sl.tyAgg Tryz.prog 56 = some true := by kernel_rfl
theorem ag_58 : Sl.tyAgg Tryz.prog 58 = some true := by kernel_rfl
theorem ag_61 : Sl.tyAgg Tryz.prog 61 = some false := by kernel_rfl
theorem ag_69 : Sl.tyAgg Tryz.prog 69 = some false := by kernel_rfl
theorem ag_73 : Sl.tyAgg Tryz.prog 73 = some true := by kernel_rfl
theorem ag_75 : Sl.tyAgg Tryz.prog 75 = some true := by kernel_rfl
theorem ag_77 : Sl.tyAgg Tryz.prog 77 = some false := by kernel_rfl
theorem ag_78 : Sl.tyAgg Tryz.prog 78 = some false := by kernel_rfl
theorem ag_86 : Sl.tyAgg Tryz.prog 86 = some true := by kernel_rfl
theorem ag_88 : Sl.tyAgg Tryz.prog 88 = some true := by kernel_rfl
theorem ag_91 : Sl.tyAgg Tryz.prog 91 = some true := by kernel_rfl
theorem ag_92 : Sl.tyAgg Tryz.prog 92 = some false := by kernel_rfl
theorem ag_94 : Sl.tyAgg Tryz.prog 94 = some true := by kernel_rfl
theorem ag_98 : Sl.tyAgg Tryz.prog 98 = some true := by kernel_rfl
theorem ag_101 : Sl.tyAgg Tryz.prog 101 = some true := by kernel_rfl
theorem ag_119 : Sl.tyAgg Tryz.prog 119 = some false := by kernel_rfl
theorem ag_121 : Sl.tyAgg Tryz.prog 121 = some false := by kernel_rfl
theorem ag_124 : Sl.tyAgg Tryz.prog 124 = some false := by kernel_rfl
theorem ag_130 : Sl.tyAgg Tryz.prog 130 = some false := by kernel_rfl
theorem ag_132 : Sl.tyAgg Tryz.prog 132 = some false := by kernel_rfl
theorem ag_148 : Sl.tyAgg Tryz.prog 148 = some false := by kernel_rfl
theorem ag_151 : Sl.tyAgg Tryz.prog 151 = some false := by kernel_rfl
theorem ag_162 : Sl.tyAgg Tryz.prog 162 = some false := by kernel_rfl
theorem ag_175 : Sl.tyAgg Tryz.prog 175 = some false := by kernel_rfl
theorem ag_181 : Sl.tyAgg Tryz.prog 181 = some false := by kernel_rfl
theorem ag_184 : Sl.tyAgg Tryz.prog 184 = some true := by kernel_rfl
theorem ag_200 : Sl.tyAgg Tryz.prog 200 = some true := by kernel_rfl
theorem ag_210 : Sl.tyAgg Tryz.prog 210 = some false := by kernel_rfl
theorem ag_213 : Sl.tyAgg Tryz.prog 213 = some false := by kernel_rfl
theorem ag_224 : Sl.tyAgg Tryz.prog 224 = some true := by kernel_rfl
theorem ag_236 : Sl.tyAgg Tryz.prog 236 = some false := by kernel_rfl
theorem ag_243 : Sl.tyAgg Tryz.prog 243 = some false := by kernel_rfl
theorem ag_302 : Sl.tyAgg Tryz.prog 302 = some false := by kernel_rfl
theorem by_22 : Sl.isByteT Tryz.prog 22 = true := by kernel_rfl
theorem ca_3 : Sl.callable Tryz.prog 3 = true := by kernel_rfl
theorem ca_4 : Sl.callable Tryz.prog 4 = true := by kernel_rfl
theorem ca_5 : Sl.callable Tryz.prog 5 = true := by kernel_rfl
theorem ca_6 : Sl.callable Tryz.prog 6 = true := by kernel_rfl
theorem ca_7 : Sl.callable Tryz.prog 7 = true := by kernel_rfl
theorem ca_8 : Sl.callable Tryz.prog 8 = true := by kernel_rfl
theorem ca_9 : Sl.callable Tryz.prog 9 = true := by kernel_rfl
theorem ca_10 : Sl.callable Tryz.prog 10 = true := by kernel_rfl
theorem ca_11 : Sl.callable Tryz.prog 11 = true := by kernel_rfl
theorem ca_12 : Sl.callable Tryz.prog 12 = true := by kernel_rfl
theorem ca_13 : Sl.callable Tryz.prog 13 = true := by kernel_rfl
theorem ca_14 : Sl.callable Tryz.prog 14 = true := by kernel_rfl
theorem ca_15 : Sl.callable Tryz.prog 15 = true := by kernel_rfl
theorem ca_16 : Sl.callable Tryz.prog 16 = true := by kernel_rfl
theorem ca_17 : Sl.callable Tryz.prog 17 = true := by kernel_rfl
theorem ca_18 : Sl.callable Tryz.prog 18 = true := by kernel_rfl
theorem ca_19 : Sl.callable Tryz.prog 19 = true := by kernel_rfl
theorem ca_20 : Sl.callable Tryz.prog 20 = true := by kernel_rfl
theorem ca_21 : Sl.callable Tryz.prog 21 = true := by kernel_rfl
theorem ca_22 : Sl.callable Tryz.prog 22 = true := by kernel_rfl
theorem ca_23 : Sl.callable Tryz.prog 23 = true := by kernel_rfl
theorem ca_24 : Sl.callable Tryz.prog 24 = true := by kernel_rfl
theorem ca_25 : Sl.callable Tryz.prog 25 = true := by kernel_rfl
theorem ca_26 : Sl.callable Tryz.prog 26 = true := by kernel_rfl
theorem ca_27 : Sl.callable Tryz.prog 27 = true := by kernel_rfl
theorem ca_28 : Sl.callable Tryz.prog 28 = true := by kernel_rfl
theorem ca_29 : Sl.callable Tryz.prog 29 = true := by kernel_rfl
theorem ca_30 : Sl.callable Tryz.prog 30 = true := by kernel_rfl
theorem ca_31 : Sl.callable Tryz.prog 31 = true := by kernel_rfl
theorem ca_32 : Sl.callable Tryz.prog 32 = true := by kernel_rfl
theorem ca_33 : Sl.callable Tryz.prog 33 = true := by kernel_rfl
theorem ca_34 : Sl.callable Tryz.prog 34 = true := by kernel_rfl
theorem ca_35 : Sl.callable Tryz.prog 35 = true := by kernel_rfl
theorem ca_36 : Sl.callable Tryz.prog 36 = true := by kernel_rfl
theorem ca_37 : Sl.callable Tryz.prog 37 = true := by kernel_rfl
theorem ca_38 : Sl.callable Tryz.prog 38 = true := by kernel_rfl
theorem ca_39 : Sl.callable Tryz.prog 39 = true := by kernel_rfl
theorem ca_40 : Sl.callable Tryz.prog 40 = true := by kernel_rfl
theorem ca_41 : Sl.callable Tryz.prog 41 = true := by kernel_rfl
theorem ca_42 : Sl.callable Tryz.prog 42 = true := by kernel_rfl
theorem ca_43 : Sl.callable Tryz.prog 43 = true := by kernel_rfl
theorem ca_44 : Sl.callable Tryz.prog 44 = true := by kernel_rfl
theorem ca_45 : Sl.callable Tryz.prog 45 = true := by kernel_rfl
theorem ca_46 : Sl.callable Tryz.prog 46 = true := by kernel_rfl
theorem ca_47 : Sl.callable Tryz.prog 47 = true := by kernel_rfl
theorem ca_48 : Sl.callable Tryz.prog 48 = true := by kernel_rfl
theorem ca_49 : Sl.callable Tryz.prog 49 = true := by kernel_rfl
theorem ca_50 : Sl.callable Tryz.prog 50 = true := by kernel_rfl
theorem ca_51 : Sl.callable Tryz.prog 51 = true := by kernel_rfl
theorem ca_52 : Sl.callable Tryz.prog 52 = true := by kernel_rfl
theorem ca_53 : Sl.callable Tryz.prog 53 = true := by kernel_rfl
theorem ca_54 : Sl.callable Tryz.prog 54 = true := by kernel_rfl
theorem ca_55 : Sl.callable Tryz.prog 55 = true := by kernel_rfl
theorem ca_56 : Sl.callable Tryz.prog 56 = true := by kernel_rfl
theorem ca_57 : Sl.callable Tryz.prog 57 = true := by kernel_rfl
theorem ca_58 : Sl.callable Tryz.prog 58 = true := by kernel_rfl
theorem ca_59 : Sl.callable Tryz.prog 59 = true := by kernel_rfl
theorem ca_60 : Sl.callable Tryz.prog 60 = true := by kernel_rfl
theorem ca_61 : Sl.callable Tryz.prog 61 = true := by kernel_rfl
theorem ca_62 : Sl.callable Tryz.prog 62 = true := by kernel_rfl
theorem ca_63 : Sl.callable Tryz.prog 63 = true := by kernel_rfl
theorem ca_64 : Sl.callable Tryz.prog 64 = true := by kernel_rfl
theorem ca_65 : Sl.callable Tryz.prog 65 = true := by kernel_rfl
theorem ca_66 : Sl.callable Tryz.prog 66 = true := by kernel_rfl
theorem ca_67 : Sl.callable Tryz.prog 67 = true := by kernel_rfl
theorem ca_68 : Sl.callable Tryz.prog 68 = true := by kernel_rfl
theorem ca_69 : Sl.callable Tryz.prog 69 = true := by kernel_rfl
theorem ca_70 : Sl.callable Tryz.prog 70 = true := by kernel_rfl
theorem ca_71 : Sl.callable Tryz.prog 71 = true := by kernel_rfl
theorem ca_72 : Sl.callable Tryz.prog 72 = true := by kernel_rfl
theorem ca_73 : Sl.callable Tryz.prog 73 = true := by kernel_rfl
theorem ca_74 : Sl.callable Tryz.prog 74 = true := by kernel_rfl
theorem ca_75 : Sl.callable Tryz.prog 75 = true := by kernel_rfl
theorem ca_76 : Sl.callable Tryz.prog 76 = true := by kernel_rfl
theorem ca_77 : Sl.callable Tryz.prog 77 = true := by kernel_rfl
theorem ca_78 : Sl.callable Tryz.prog 78 = true := by kernel_rfl
theorem ca_79 : Sl.callable Tryz.prog 79 = true := by kernel_rfl
theorem ca_80 : Sl.callable Tryz.prog 80 = true := by kernel_rfl
theorem ca_81 : Sl.callable Tryz.prog 81 = true := by kernel_rfl
theorem ca_82 : Sl.callable Tryz.prog 82 = true := by kernel_rfl
theorem ca_83 : Sl.callable Tryz.prog 83 = true := by kernel_rfl
theorem ca_84 : Sl.callable Tryz.prog 84 = true := by kernel_rfl
theorem ca_85 : Sl.callable Tryz.prog 85 = true := by kernel_rfl
theorem ca_86 : Sl.callable Tryz.prog 86 = true := by kernel_rfl
theorem ca_87 : Sl.callable Tryz.prog 87 = true := by kernel_rfl
theorem ca_88 : Sl.callable Tryz.prog 88 = true := by kernel_rfl
theorem ca_89 : Sl.callable Tryz.prog 89 = true := by kernel_rfl
theorem ca_90 : Sl.callable Tryz.prog 90 = true := by kernel_rfl
theorem ca_91 : Sl.callable Tryz.prog 91 = true := by kernel_rfl
theorem ca_92 : Sl.callable Tryz.prog 92 = true := by kernel_rfl
theorem ca_93 : Sl.callable Tryz.prog 93 = true := by kernel_rfl
theorem ca_94 : Sl.callable Tryz.prog 94 = true := by kernel_rfl
theorem ca_95 : Sl.callable Tryz.prog 95 = true := by kernel_rfl
theorem ca_96 : Sl.callable Tryz.prog 96 = true := by kernel_rfl
theorem ca_97 : Sl.callable Tryz.prog 97 = true := by kernel_rfl
theorem ca_98 : Sl.callable Tryz.prog 98 = true := by kernel_rfl
theorem ca_99 : Sl.callable Tryz.prog 99 = true := by kernel_rfl
theorem ca_100 : Sl.callable Tryz.prog 100 = true := by kernel_rfl
theorem ca_101 : Sl.callable Tryz.prog 101 = true := by kernel_rfl
theorem ca_102 : Sl.callable Tryz.prog 102 = true := by kernel_rfl
theorem ca_103 : Sl.callable Tryz.prog 103 = true := by kernel_rfl
theorem ca_104 : Sl.callable Tryz.prog 104 = true := by kernel_rfl
theorem ca_105 : Sl.callable Tryz.prog 105 = true := by kernel_rfl
theorem ca_106 : Sl.callable Tryz.prog 106 = true := by kernel_rfl
theorem ca_107 : Sl.callable Tryz.prog 107 = true := by kernel_rfl
theorem ca_108 : Sl.callable Tryz.prog 108 = true := by kernel_rfl
theorem ca_109 : Sl.callable Tryz.prog 109 = true := by kernel_rfl
theorem ca_110 : Sl.callable Tryz.prog 110 = true := by kernel_rfl
theorem ca_111 : Sl.callable Tryz.prog 111 = true := by kernel_rfl
theorem ca_112 : Sl.callable Tryz.prog 112 = true := by kernel_rfl
theorem ca_113 : Sl.callable Tryz.prog 113 = true := by kernel_rfl
theorem ca_114 : Sl.callable Tryz.prog 114 = true := by kernel_rfl
theorem ca_115 : Sl.callable Tryz.prog 115 = true := by kernel_rfl
theorem ca_116 : Sl.callable Tryz.prog 116 = true := by kernel_rfl
theorem ca_117 : Sl.callable Tryz.prog 117 = true := by kernel_rfl
theorem ca_118 : Sl.callable Tryz.prog 118 = true := by kernel_rfl
theorem ca_119 : Sl.callable Tryz.prog 119 = true := by kernel_rfl
theorem ca_120 : Sl.callable Tryz.prog 120 = true := by kernel_rfl
theorem ca_121 : Sl.callable Tryz.prog 121 = true := by kernel_rfl
theorem ca_122 : Sl.callable Tryz.prog 122 = true := by kernel_rfl
theorem ca_123 : Sl.callable Tryz.prog 123 = true := by kernel_rfl
theorem ca_124 : Sl.callable Tryz.prog 124 = true := by kernel_rfl
theorem ca_125 : Sl.callable Tryz.prog 125 = true := by kernel_rfl
theorem ca_126 : Sl.callable Tryz.prog 126 = true := by kernel_rfl
theorem ca_127 : Sl.callable Tryz.prog 127 = true := by kernel_rfl
theorem ca_128 : Sl.callable Tryz.prog 128 = true := by kernel_rfl
theorem ca_129 : Sl.callable Tryz.prog 129 = true := by kernel_rfl
theorem ca_130 : Sl.callable Tryz.prog 130 = true := by kernel_rfl
theorem ca_131 : Sl.callable Tryz.prog 131 = true := by kernel_rfl
theorem ca_132 : Sl.callable Tryz.prog 132 = true := by kernel_rfl
theorem ca_133 : Sl.callable Tryz.prog 133 = true := by kernel_rfl
theorem ca_134 : Sl.callable Tryz.prog 134 = true := by kernel_rfl
theorem ca_135 : Sl.callable Tryz.prog 135 = true := by kernel_rfl
theorem ca_136 : Sl.callable Tryz.prog 136 = true := by kernel_rfl
theorem ca_137 : Sl.callable Tryz.prog 137 = true := by kernel_rfl
theorem ca_138 : Sl.callable Tryz.prog 138 = true := by kernel_rfl
theorem ca_139 : Sl.callable Tryz.prog 139 = true := by kernel_rfl
theorem ca_140 : Sl.callable Tryz.prog 140 = true := by kernel_rfl
theorem ca_141 : Sl.callable Tryz.prog 141 = true := by kernel_rfl
theorem ca_142 : Sl.callable Tryz.prog 142 = true := by kernel_rfl
theorem ca_143 : Sl.callable Tryz.prog 143 = true := by kernel_rfl
theorem ca_144 : Sl.callable Tryz.prog 144 = true := by kernel_rfl
theorem ca_145 : Sl.callable Tryz.prog 145 = true := by kernel_rfl
theorem ca_146 : Sl.callable Tryz.prog 146 = true := by kernel_rfl
theorem ca_147 : Sl.callable Tryz.prog 147 = true := by kernel_rfl
theorem ca_148 : Sl.callable Tryz.prog 148 = true := by kernel_rfl
theorem ca_149 : Sl.callable Tryz.prog 149 = true := by kernel_rfl
theorem ca_150 : Sl.callable Tryz.prog 150 = true := by kernel_rfl
theorem ca_151 : Sl.callable Tryz.prog 151 = true := by kernel_rfl
theorem ca_152 : Sl.callable Tryz.prog 152 = true := by kernel_rfl
theorem ca_153 : Sl.callable Tryz.prog 153 = true := by kernel_rfl
theorem ca_154 : Sl.callable Tryz.prog 154 = true := by kernel_rfl
theorem ca_156 : Sl.callable Tryz.prog 156 = true := by kernel_rfl
theorem ca_157 : Sl.callable Tryz.prog 157 = true := by kernel_rfl
theorem ca_158 : Sl.callable Tryz.prog 158 = true := by kernel_rfl
theorem ca_159 : Sl.callable Tryz.prog 159 = true := by kernel_rfl
theorem ca_160 : Sl.callable Tryz.prog 160 = true := by kernel_rfl
theorem ca_161 : Sl.callable Tryz.prog 161 = true := by kernel_rfl
theorem ca_162 : Sl.callable Tryz.prog 162 = true := by kernel_rfl
theorem ca_163 : Sl.callable Tryz.prog 163 = true := by kernel_rfl
theorem ca_164 : Sl.callable Tryz.prog 164 = true := by kernel_rfl
theorem ca_165 : Sl.callable Tryz.prog 165 = true := by kernel_rfl
theorem ca_166 : Sl.callable Tryz.prog 166 = true := by kernel_rfl
theorem ca_167 : Sl.callable Tryz.prog 167 = true := by kernel_rfl
theorem ca_168 : Sl.callable Tryz.prog 168 = true := by kernel_rfl
theorem ca_169 : Sl.callable Tryz.prog 169 = true := by kernel_rfl
theorem ca_170 : Sl.callable Tryz.prog 170 = true := by kernel_rfl
theorem ca_171 : Sl.callable Tryz.prog 171 = true := by kernel_rfl
theorem ca_172 : Sl.callable Tryz.prog 172 = true := by kernel_rfl
theorem ca_173 : Sl.callable Tryz.prog 173 = true := by kernel_rfl
theorem ca_174 : Sl.callable Tryz.prog 174 = true := by kernel_rfl
theorem ca_175 : Sl.callable Tryz.prog 175 = true := by kernel_rfl
theorem ca_176 : Sl.callable Tryz.prog 176 = true := by kernel_rfl
theorem ca_177 : Sl.callable Tryz.prog 177 = true := by kernel_rfl
theorem ca_178 : Sl.callable Tryz.prog 178 = true := by kernel_rfl
theorem ca_179 : Sl.callable Tryz.prog 179 = true := by kernel_rfl
theorem ca_181 : Sl.callable Tryz.prog 181 = true := by kernel_rfl
theorem ca_182 : Sl.callable Tryz.prog 182 = true := by kernel_rfl
theorem ca_183 : Sl.callable Tryz.prog 183 = true := by kernel_rfl
theorem ca_184 : Sl.callable Tryz.prog 184 = true := by kernel_rfl
theorem ca_185 : Sl.callable Tryz.prog 185 = true := by kernel_rfl
theorem ca_186 : Sl.callable Tryz.prog 186 = true := by kernel_rfl
theorem ca_187 : Sl.callable Tryz.prog 187 = true := by kernel_rfl
theorem ca_188 : Sl.callable Tryz.prog 188 = true := by kernel_rfl
theorem ca_189 : Sl.callable Tryz.prog 189 = true := by kernel_rfl
theorem ca_190 : Sl.callable Tryz.prog 190 = true := by kernel_rfl
theorem ca_191 : Sl.callable Tryz.prog 191 = true := by kernel_rfl
theorem ca_192 : Sl.callable Tryz.prog 192 = true := by kernel_rfl
theorem ca_193 : Sl.callable Tryz.prog 193 = true := by kernel_rfl
theorem ca_194 : Sl.callable Tryz.prog 194 = true := by kernel_rfl
theorem ca_195 : Sl.callable Tryz.prog 195 = true := by kernel_rfl
theorem ca_196 : Sl.callable Tryz.prog 196 = true := by kernel_rfl
theorem ca_197 : Sl.callable Tryz.prog 197 = true := by kernel_rfl
theorem ca_198 : Sl.callable Tryz.prog 198 = true := by kernel_rfl
theorem ca_199 : Sl.callable Tryz.prog 199 = true := by kernel_rfl
theorem ca_200 : Sl.callable Tryz.prog 200 = true := by kernel_rfl
theorem ca_201 : Sl.callable Tryz.prog 201 = true := by kernel_rfl
theorem ca_202 : Sl.callable Tryz.prog 202 = true := by kernel_rfl
theorem ca_203 : Sl.callable Tryz.prog 203 = true := by kernel_rfl
theorem ca_204 : Sl.callable Tryz.prog 204 = true := by kernel_rfl
theorem ca_205 : Sl.callable Tryz.prog 205 = true := by kernel_rfl
theorem ca_206 : Sl.callable Tryz.prog 206 = true := by kernel_rfl
theorem ca_207 : Sl.callable Tryz.prog 207 = true := by kernel_rfl
theorem ca_209 : Sl.callable Tryz.prog 209 = true := by kernel_rfl
theorem ca_210 : Sl.callable Tryz.prog 210 = true := by kernel_rfl
theorem ca_211 : Sl.callable Tryz.prog 211 = true := by kernel_rfl
theorem ca_212 : Sl.callable Tryz.prog 212 = true := by kernel_rfl
theorem ca_213 : Sl.callable Tryz.prog 213 = true := by kernel_rfl
theorem ca_214 : Sl.callable Tryz.prog 214 = true := by kernel_rfl
theorem ca_215 : Sl.callable Tryz.prog 215 = true := by kernel_rfl
theorem ca_216 : Sl.callable Tryz.prog 216 = true := by kernel_rfl
theorem ca_217 : Sl.callable Tryz.prog 217 = true := by kernel_rfl
theorem eq_41 : Sl.eqOk Tryz.prog 41 [.i, .i, .i, .i] = true := by kernel_rfl
theorem eq_56 : Sl.eqOk Tryz.prog 56 [.i, .i] = true := by kernel_rfl
theorem eq_58 : Sl.eqOk Tryz.prog 58 [.i, .i, .i, .i, .i] = true := by kernel_rfl
theorem eq_73 : Sl.eqOk Tryz.prog 73 [.i, .s, .i] = true := by kernel_rfl
theorem eq_98 : Sl.eqOk Tryz.prog 98 [.b, .i, .s] = true := by kernel_rfl
theorem fd_28_0 : (match Tryz.prog.underlying 28 with | some (.struct fs) => (fs[0]?).map fun fd => (fd.offset, fd.type) | _ => none) = some (0, 25) := by kernel_rfl
theorem fd_28_3 : (match Tryz.prog.underlying 28 with | some (.struct fs) => (fs[3]?).map fun fd => (fd.offset, fd.type) | _ => none) = some (3, 26) := by kernel_rfl
theorem fd_58_1 : (match Tryz.prog.underlying 58 with | some (.struct fs) => (fs[1]?).map fun fd => (fd.offset, fd.type) | _ => none) = some (1, 56) := by kernel_rfl
theorem fo_24_0 : Sl.fOff Tryz.prog 24 0 = some 0 := by kernel_rfl
theorem fo_24_1 : Sl.fOff Tryz.prog 24 1 = some 1 := by kernel_rfl
theorem fo_24_2 : Sl.fOff Tryz.prog 24 2 = some 2 := by kernel_rfl
theorem fo_24_3 : Sl.fOff Tryz.prog 24 3 = some 3 := by kernel_rfl
theorem fo_24_4 : Sl.fOff Tryz.prog 24 4 = some 4 := by kernel_rfl
theorem fo_28_0 : Sl.fOff Tryz.prog 28 0 = some 0 := by kernel_rfl
theorem fo_28_1 : Sl.fOff Tryz.prog 28 1 = some 1 := by kernel_rfl
theorem fo_28_2 : Sl.fOff Tryz.prog 28 2 = some 2 := by kernel_rfl
theorem fo_28_3 : Sl.fOff Tryz.prog 28 3 = some 3 := by kernel_rfl
theorem fo_28_4 : Sl.fOff Tryz.prog 28 4 = some 4 := by kernel_rfl
theorem fo_41_0 : Sl.fOff Tryz.prog 41 0 = some 0 := by kernel_rfl
theorem fo_41_2 : Sl.fOff Tryz.prog 41 2 = some 2 := by kernel_rfl
theorem fo_49_0 : Sl.fOff Tryz.prog 49 0 = some 0 := by kernel_rfl
theorem fo_49_1 : Sl.fOff Tryz.prog 49 1 = some 1 := by kernel_rfl
theorem fo_49_2 : Sl.fOff Tryz.prog 49 2 = some 2 := by kernel_rfl
theorem fo_56_0 : Sl.fOff Tryz.prog 56 0 = some 0 := by kernel_rfl
theorem fo_56_1 : Sl.fOff Tryz.prog 56 1 = some 1 := by kernel_rfl
theorem fo_58_0 : Sl.fOff Tryz.prog 58 0 = some 0 := by kernel_rfl
theorem fo_58_1 : Sl.fOff Tryz.prog 58 1 = some 1 := by kernel_rfl
theorem fo_58_2 : Sl.fOff Tryz.prog 58 2 = some 3 := by kernel_rfl
theorem fo_73_0 : Sl.fOff Tryz.prog 73 0 = some 0 := by kernel_rfl
theorem fo_73_1 : Sl.fOff Tryz.prog 73 1 = some 1 := by kernel_rfl
theorem fo_73_2 : Sl.fOff Tryz.prog 73 2 = some 2 := by kernel_rfl
theorem fo_75_0 : Sl.fOff Tryz.prog 75 0 = some 0 := by kernel_rfl
theorem fo_75_1 : Sl.fOff Tryz.prog 75 1 = some 3 := by kernel_rfl
theorem fo_75_2 : Sl.fOff Tryz.prog 75 2 = some 4 := by kernel_rfl
theorem fo_75_3 : Sl.fOff Tryz.prog 75 3 = some 6 := by kernel_rfl
theorem fo_75_4 : Sl.fOff Tryz.prog 75 4 = some 8 := by kernel_rfl
theorem fo_80_0 : Sl.fOff Tryz.prog 80 0 = some 0 := by kernel_rfl
theorem fo_80_1 : Sl.fOff Tryz.prog 80 1 = some 1 := by kernel_rfl
theorem fo_86_0 : Sl.fOff Tryz.prog 86 0 = some 0 := by kernel_rfl
theorem fo_86_1 : Sl.fOff Tryz.prog 86 1 = some 1 := by kernel_rfl
theorem fo_88_0 : Sl.fOff Tryz.prog 88 0 = some 0 := by kernel_rfl
theorem fo_88_1 : Sl.fOff Tryz.prog 88 1 = some 2 := by kernel_rfl
theorem fo_88_2 : Sl.fOff Tryz.prog 88 2 = some 3 := by kernel_rfl
theorem fo_88_3 : Sl.fOff Tryz.prog 88 3 = some 4 := by kernel_rfl
theorem fo_91_0 : Sl.fOff Tryz.prog 91 0 = some 0 := by kernel_rfl
theorem fo_91_1 : Sl.fOff Tryz.prog 91 1 = some 1 := by kernel_rfl
theorem fo_91_2 : Sl.fOff Tryz.prog 91 2 = some 2 := by kernel_rfl
theorem fo_91_3 : Sl.fOff Tryz.prog 91 3 = some 3 := by kernel_rfl
theorem fo_91_4 : Sl.fOff Tryz.prog 91 4 = some 4 := by kernel_rfl
theorem fo_94_0 : Sl.fOff Tryz.prog 94 0 = some 0 := by kernel_rfl
theorem fo_94_1 : Sl.fOff Tryz.prog 94 1 = some 1 := by kernel_rfl
theorem fo_94_2 : Sl.fOff Tryz.prog 94 2 = some 2 := by kernel_rfl
theorem fo_94_3 : Sl.fOff Tryz.prog 94 3 = some 3 := by kernel_rfl
theorem fo_98_0 : Sl.fOff Tryz.prog 98 0 = some 0 := by kernel_rfl
theorem fo_98_1 : Sl.fOff Tryz.prog 98 1 = some 1 := by kernel_rfl
theorem fo_98_2 : Sl.fOff Tryz.prog 98 2 = some 2 := by kernel_rfl
theorem fo_101_0 : Sl.fOff Tryz.prog 101 0 = some 0 := by kernel_rfl
theorem fo_101_1 : Sl.fOff Tryz.prog 101 1 = some 1 := by kernel_rfl
theorem fo_101_2 : Sl.fOff Tryz.prog 101 2 = some 4 := by kernel_rfl
theorem fo_123_0 : Sl.fOff Tryz.prog 123 0 = some 0 := by kernel_rfl
theorem fo_126_0 : Sl.fOff Tryz.prog 126 0 = some 0 := by kernel_rfl
theorem fo_128_0 : Sl.fOff Tryz.prog 128 0 = some 0 := by kernel_rfl
theorem fo_128_1 : Sl.fOff Tryz.prog 128 1 = some 5 := by kernel_rfl
theorem fo_128_2 : Sl.fOff Tryz.prog 128 2 = some 6 := by kernel_rfl
theorem fo_128_3 : Sl.fOff Tryz.prog 128 3 = some 7 := by kernel_rfl
theorem fo_128_4 : Sl.fOff Tryz.prog 128 4 = some 8 := by kernel_rfl
theorem fo_128_5 : Sl.fOff Tryz.prog 128 5 = some 9 := by kernel_rfl
theorem fo_135_0 : Sl.fOff Tryz.prog 135 0 = some 0 := by kernel_rfl
theorem fo_135_1 : Sl.fOff Tryz.prog 135 1 = some 1 := by kernel_rfl
theorem fo_135_2 : Sl.fOff Tryz.prog 135 2 = some 2 := by kernel_rfl
theorem fo_135_3 : Sl.fOff Tryz.prog 135 3 = some 3 := by kernel_rfl
theorem fo_135_4 : Sl.fOff Tryz.prog 135 4 = some 4 := by kernel_rfl
theorem fo_135_5 : Sl.fOff Tryz.prog 135 5 = some 5 := by kernel_rfl
theorem fo_135_6 : Sl.fOff Tryz.prog 135 6 = some 6 := by kernel_rfl
theorem fo_135_7 : Sl.fOff Tryz.prog 135 7 = some 7 := by kernel_rfl
theorem fo_135_8 : Sl.fOff Tryz.prog 135 8 = some 8 := by kernel_rfl
theorem fo_135_9 : Sl.fOff Tryz.prog 135 9 = some 9 := by kernel_rfl
theorem fo_135_10 : Sl.fOff Tryz.prog 135 10 = some 14 := by kernel_rfl
theorem fo_135_11 : Sl.fOff Tryz.prog 135 11 = some 15 := by kernel_rfl
theorem fo_135_12 : Sl.fOff Tryz.prog 135 12 = some 16 := by kernel_rfl
theorem fo_141_0 : Sl.fOff Tryz.prog 141 0 = some 0 := by kernel_rfl
theorem fo_141_1 : Sl.fOff Tryz.prog 141 1 = some 5 := by kernel_rfl
theorem fo_150_0 : Sl.fOff Tryz.prog 150 0 = some 0 := by kernel_rfl
theorem fo_150_1 : Sl.fOff Tryz.prog 150 1 = some 1 := by kernel_rfl
theorem fo_153_0 : Sl.fOff Tryz.prog 153 0 = some 0 := by kernel_rfl
theorem fo_153_1 : Sl.fOff Tryz.prog 153 1 = some 5 := by kernel_rfl
theorem fo_153_2 : Sl.fOff Tryz.prog 153 2 = some 6 := by kernel_rfl
theorem fo_153_3 : Sl.fOff Tryz.prog 153 3 = some 7 := by kernel_rfl
theorem fo_153_4 : Sl.fOff Tryz.prog 153 4 = some 8 := by kernel_rfl
theorem fo_153_5 : Sl.fOff Tryz.prog 153 5 = some 10 := by kernel_rfl
theorem fo_153_6 : Sl.fOff Tryz.prog 153 6 = some 11 := by kernel_rfl
theorem fo_153_7 : Sl.fOff Tryz.prog 153 7 = some 12 := by kernel_rfl
theorem fo_153_8 : Sl.fOff Tryz.prog 153 8 = some 13 := by kernel_rfl
theorem fo_153_9 : Sl.fOff Tryz.prog 153 9 = some 14 := by kernel_rfl
theorem fo_153_10 : Sl.fOff Tryz.prog 153 10 = some 19 := by kernel_rfl
theorem fo_164_0 : Sl.fOff Tryz.prog 164 0 = some 0 := by kernel_rfl
theorem fo_164_1 : Sl.fOff Tryz.prog 164 1 = some 1 := by kernel_rfl
theorem fo_169_0 : Sl.fOff Tryz.prog 169 0 = some 0 := by kernel_rfl
theorem fo_169_1 : Sl.fOff Tryz.prog 169 1 = some 1 := by kernel_rfl
theorem fo_169_2 : Sl.fOff Tryz.prog 169 2 = some 6 := by kernel_rfl
theorem fo_169_3 : Sl.fOff Tryz.prog 169 3 = some 10 := by kernel_rfl
theorem fo_177_0 : Sl.fOff Tryz.prog 177 0 = some 0 := by kernel_rfl
theorem fo_177_1 : Sl.fOff Tryz.prog 177 1 = some 1 := by kernel_rfl
theorem fo_177_2 : Sl.fOff Tryz.prog 177 2 = some 2 := by kernel_rfl
theorem fo_184_0 : Sl.fOff Tryz.prog 184 0 = some 0 := by kernel_rfl
theorem fo_184_1 : Sl.fOff Tryz.prog 184 1 = some 1 := by kernel_rfl
theorem fo_184_2 : Sl.fOff Tryz.prog 184 2 = some 4 := by kernel_rfl
theorem fo_184_3 : Sl.fOff Tryz.prog 184 3 = some 6 := by kernel_rfl
theorem fo_184_4 : Sl.fOff Tryz.prog 184 4 = some 8 := by kernel_rfl
theorem fo_186_0 : Sl.fOff Tryz.prog 186 0 = some 0 := by kernel_rfl
theorem fo_186_1 : Sl.fOff Tryz.prog 186 1 = some 1 := by kernel_rfl
theorem fo_197_0 : Sl.fOff Tryz.prog 197 0 = some 0 := by kernel_rfl
theorem fo_197_1 : Sl.fOff Tryz.prog 197 1 = some 1 := by kernel_rfl
theorem fo_197_2 : Sl.fOff Tryz.prog 197 2 = some 2 := by kernel_rfl
theorem fo_200_0 : Sl.fOff Tryz.prog 200 0 = some 0 := by kernel_rfl
theorem fo_200_1 : Sl.fOff Tryz.prog 200 1 = some 2 := by kernel_rfl
theorem fo_200_2 : Sl.fOff Tryz.prog 200 2 = some 3 := by kernel_rfl
theorem fo_212_0 : Sl.fOff Tryz.prog 212 0 = some 0 := by kernel_rfl
theorem fo_212_1 : Sl.fOff Tryz.prog 212 1 = some 1 := by kernel_rfl
theorem fo_212_2 : Sl.fOff Tryz.prog 212 2 = some 2 := by kernel_rfl
theorem fo_215_0 : Sl.fOff Tryz.prog 215 0 = some 0 := by kernel_rfl
theorem fo_215_1 : Sl.fOff Tryz.prog 215 1 = some 1 := by kernel_rfl
theorem fo_215_2 : Sl.fOff Tryz.prog 215 2 = some 2 := by kernel_rfl
theorem fo_224_0 : Sl.fOff Tryz.prog 224 0 = some 0 := by kernel_rfl
theorem fo_224_1 : Sl.fOff Tryz.prog 224 1 = some 1 := by kernel_rfl
theorem fo_234_0 : Sl.fOff Tryz.prog 234 0 = some 0 := by kernel_rfl
theorem fo_234_1 : Sl.fOff Tryz.prog 234 1 = some 1 := by kernel_rfl
theorem fo_241_0 : Sl.fOff Tryz.prog 241 0 = some 0 := by kernel_rfl
theorem fo_241_1 : Sl.fOff Tryz.prog 241 1 = some 1 := by kernel_rfl
theorem fo_264_0 : Sl.fOff Tryz.prog 264 0 = some 0 := by kernel_rfl
theorem fo_264_1 : Sl.fOff Tryz.prog 264 1 = some 2 := by kernel_rfl
theorem fo_264_2 : Sl.fOff Tryz.prog 264 2 = some 3 := by kernel_rfl
theorem fo_264_3 : Sl.fOff Tryz.prog 264 3 = some 6 := by kernel_rfl
theorem fo_264_4 : Sl.fOff Tryz.prog 264 4 = some 7 := by kernel_rfl
theorem fo_264_5 : Sl.fOff Tryz.prog 264 5 = some 8 := by kernel_rfl
theorem fo_264_6 : Sl.fOff Tryz.prog 264 6 = some 9 := by kernel_rfl
theorem fo_273_0 : Sl.fOff Tryz.prog 273 0 = some 0 := by kernel_rfl
theorem fo_273_1 : Sl.fOff Tryz.prog 273 1 = some 2 := by kernel_rfl
theorem fo_273_2 : Sl.fOff Tryz.prog 273 2 = some 3 := by kernel_rfl
theorem fo_273_3 : Sl.fOff Tryz.prog 273 3 = some 4 := by kernel_rfl
theorem fo_273_4 : Sl.fOff Tryz.prog 273 4 = some 7 := by kernel_rfl
theorem fo_273_5 : Sl.fOff Tryz.prog 273 5 = some 8 := by kernel_rfl
theorem fo_273_6 : Sl.fOff Tryz.prog 273 6 = some 9 := by kernel_rfl
theorem fo_281_0 : Sl.fOff Tryz.prog 281 0 = some 0 := by kernel_rfl
theorem fo_281_1 : Sl.fOff Tryz.prog 281 1 = some 1 := by kernel_rfl
theorem fo_281_2 : Sl.fOff Tryz.prog 281 2 = some 2 := by kernel_rfl
theorem ft_42 : Sl.isFuncT Tryz.prog 42 = true := by kernel_rfl
theorem ft_130 : Sl.isFuncT Tryz.prog 130 = true := by kernel_rfl
theorem ft_132 : Sl.isFuncT Tryz.prog 132 = true := by kernel_rfl
theorem ft_151 : Sl.isFuncT Tryz.prog 151 = true := by kernel_rfl
theorem ik_3 : Sl.intK Tryz.prog 3 = some .i64 := by kernel_rfl
theorem ik_5 : Sl.intK Tryz.prog 5 = some .u8 := by kernel_rfl
theorem ik_12 : Sl.intK Tryz.prog 12 = some .u64 := by kernel_rfl
theorem ik_21 : Sl.intK Tryz.prog 21 = some .i32 := by kernel_rfl
theorem ik_226 : Sl.intK Tryz.prog 226 = some .u64 := by kernel_rfl
theorem ik_256 : Sl.intK Tryz.prog 256 = some .u64 := by kernel_rfl
theorem ik_298 : Sl.intK Tryz.prog 298 = some .u32 := by kernel_rfl
theorem ik_302 : Sl.intK Tryz.prog 302 = some .u64 := by kernel_rfl
theorem is_3 : (Tryz.prog.underlying 3).isSome = true := by kernel_rfl
theorem is_5 : (Tryz.prog.underlying 5).isSome = true := by kernel_rfl
theorem is_115 : (Tryz.prog.underlying 115).isSome = true := by kernel_rfl
theorem is_226 : (Tryz.prog.underlying 226).isSome = true := by kernel_rfl
theorem is_256 : (Tryz.prog.underlying 256).isSome = true := by kernel_rfl
theorem is_298 : (Tryz.prog.underlying 298).isSome = true := by kernel_rfl
theorem mix : Tryz.prog.follows .mixedOrders = true := by kernel_rfl
theorem ni_3 : Tryz.prog.inits.idxOf? 3 = none := by kernel_rfl
theorem ni_4 : Tryz.prog.inits.idxOf? 4 = none := by kernel_rfl
theorem ni_5 : Tryz.prog.inits.idxOf? 5 = none := by kernel_rfl
theorem ni_6 : Tryz.prog.inits.idxOf? 6 = none := by kernel_rfl
theorem ni_7 : Tryz.prog.inits.idxOf? 7 = none := by kernel_rfl
theorem ni_8 : Tryz.prog.inits.idxOf? 8 = none := by kernel_rfl
theorem ni_9 : Tryz.prog.inits.idxOf? 9 = none := by kernel_rfl
theorem ni_10 : Tryz.prog.inits.idxOf? 10 = none := by kernel_rfl
theorem ni_11 : Tryz.prog.inits.idxOf? 11 = none := by kernel_rfl
theorem ni_12 : Tryz.prog.inits.idxOf? 12 = none := by kernel_rfl
theorem ni_13 : Tryz.prog.inits.idxOf? 13 = none := by kernel_rfl
theorem ni_14 : Tryz.prog.inits.idxOf? 14 = none := by kernel_rfl
theorem ni_15 : Tryz.prog.inits.idxOf? 15 = none := by kernel_rfl
theorem ni_16 : Tryz.prog.inits.idxOf? 16 = none := by kernel_rfl
theorem ni_17 : Tryz.prog.inits.idxOf? 17 = none := by kernel_rfl
theorem ni_18 : Tryz.prog.inits.idxOf? 18 = none := by kernel_rfl
theorem ni_19 : Tryz.prog.inits.idxOf? 19 = none := by kernel_rfl
theorem ni_20 : Tryz.prog.inits.idxOf? 20 = none := by kernel_rfl
theorem ni_21 : Tryz.prog.inits.idxOf? 21 = none := by kernel_rfl
theorem ni_22 : Tryz.prog.inits.idxOf? 22 = none := by kernel_rfl
theorem ni_23 : Tryz.prog.inits.idxOf? 23 = none := by kernel_rfl
theorem ni_24 : Tryz.prog.inits.idxOf? 24 = none := by kernel_rfl
theorem ni_25 : Tryz.prog.inits.idxOf? 25 = none := by kernel_rfl
theorem ni_26 : Tryz.prog.inits.idxOf? 26 = none := by kernel_rfl
theorem ni_27 : Tryz.prog.inits.idxOf? 27 = none := by kernel_rfl
theorem ni_28 : Tryz.prog.inits.idxOf? 28 = none := by kernel_rfl
theorem ni_29 : Tryz.prog.inits.idxOf? 29 = none := by kernel_rfl
theorem ni_30 : Tryz.prog.inits.idxOf? 30 = none := by kernel_rfl
theorem ni_31 : Tryz.prog.inits.idxOf? 31 = none := by kernel_rfl
theorem ni_32 : Tryz.prog.inits.idxOf? 32 = none := by kernel_rfl
theorem ni_33 : Tryz.prog.inits.idxOf? 33 = none := by kernel_rfl
theorem ni_34 : Tryz.prog.inits.idxOf? 34 = none := by kernel_rfl
theorem ni_35 : Tryz.prog.inits.idxOf? 35 = none := by kernel_rfl
theorem ni_36 : Tryz.prog.inits.idxOf? 36 = none := by kernel_rfl
theorem ni_37 : Tryz.prog.inits.idxOf? 37 = none := by kernel_rfl
theorem ni_38 : Tryz.prog.inits.idxOf? 38 = none := by kernel_rfl
theorem ni_39 : Tryz.prog.inits.idxOf? 39 = none := by kernel_rfl
theorem ni_40 : Tryz.prog.inits.idxOf? 40 = none := by kernel_rfl
theorem ni_41 : Tryz.prog.inits.idxOf? 41 = none := by kernel_rfl
theorem ni_42 : Tryz.prog.inits.idxOf? 42 = none := by kernel_rfl
theorem ni_43 : Tryz.prog.inits.idxOf? 43 = none := by kernel_rfl
theorem ni_44 : Tryz.prog.inits.idxOf? 44 = none := by kernel_rfl
theorem ni_45 : Tryz.prog.inits.idxOf? 45 = none := by kernel_rfl
theorem ni_46 : Tryz.prog.inits.idxOf? 46 = none := by kernel_rfl
theorem ni_47 : Tryz.prog.inits.idxOf? 47 = none := by kernel_rfl
theorem ni_48 : Tryz.prog.inits.idxOf? 48 = none := by kernel_rfl
theorem ni_49 : Tryz.prog.inits.idxOf? 49 = none := by kernel_rfl
theorem ni_50 : Tryz.prog.inits.idxOf? 50 = none := by kernel_rfl
theorem ni_51 : Tryz.prog.inits.idxOf? 51 = none := by kernel_rfl
theorem ni_52 : Tryz.prog.inits.idxOf? 52 = none := by kernel_rfl
theorem ni_53 : Tryz.prog.inits.idxOf? 53 = none := by kernel_rfl
theorem ni_54 : Tryz.prog.inits.idxOf? 54 = none := by kernel_rfl
theorem ni_55 : Tryz.prog.inits.idxOf? 55 = none := by kernel_rfl
theorem ni_56 : Tryz.prog.inits.idxOf? 56 = none := by kernel_rfl
theorem ni_57 : Tryz.prog.inits.idxOf? 57 = none := by kernel_rfl
theorem ni_58 : Tryz.prog.inits.idxOf? 58 = none := by kernel_rfl
theorem ni_59 : Tryz.prog.inits.idxOf? 59 = none := by kernel_rfl
theorem ni_60 : Tryz.prog.inits.idxOf? 60 = none := by kernel_rfl
theorem ni_61 : Tryz.prog.inits.idxOf? 61 = none := by kernel_rfl
theorem ni_62 : Tryz.prog.inits.idxOf? 62 = none := by kernel_rfl
theorem ni_63 : Tryz.prog.inits.idxOf? 63 = none := by kernel_rfl
theorem ni_64 : Tryz.prog.inits.idxOf? 64 = none := by kernel_rfl
theorem ni_65 : Tryz.prog.inits.idxOf? 65 = none := by kernel_rfl
theorem ni_66 : Tryz.prog.inits.idxOf? 66 = none := by kernel_rfl
theorem ni_67 : Tryz.prog.inits.idxOf? 67 = none := by kernel_rfl
theorem ni_68 : Tryz.prog.inits.idxOf? 68 = none := by kernel_rfl
theorem ni_69 : Tryz.prog.inits.idxOf? 69 = none := by kernel_rfl
theorem ni_70 : Tryz.prog.inits.idxOf? 70 = none := by kernel_rfl
theorem ni_71 : Tryz.prog.inits.idxOf? 71 = none := by kernel_rfl
theorem ni_72 : Tryz.prog.inits.idxOf? 72 = none := by kernel_rfl
theorem ni_73 : Tryz.prog.inits.idxOf? 73 = none := by kernel_rfl
theorem ni_74 : Tryz.prog.inits.idxOf? 74 = none := by kernel_rfl
theorem ni_75 : Tryz.prog.inits.idxOf? 75 = none := by kernel_rfl
theorem ni_76 : Tryz.prog.inits.idxOf? 76 = none := by kernel_rfl
theorem ni_77 : Tryz.prog.inits.idxOf? 77 = none := by kernel_rfl
theorem ni_78 : Tryz.prog.inits.idxOf? 78 = none := by kernel_rfl
theorem ni_79 : Tryz.prog.inits.idxOf? 79 = none := by kernel_rfl
theorem ni_80 : Tryz.prog.inits.idxOf? 80 = none := by kernel_rfl
theorem ni_81 : Tryz.prog.inits.idxOf? 81 = none := by kernel_rfl
theorem ni_82 : Tryz.prog.inits.idxOf? 82 = none := by kernel_rfl
theorem ni_83 : Tryz.prog.inits.idxOf? 83 = none := by kernel_rfl
theorem ni_84 : Tryz.prog.inits.idxOf? 84 = none := by kernel_rfl
theorem ni_85 : Tryz.prog.inits.idxOf? 85 = none := by kernel_rfl
theorem ni_86 : Tryz.prog.inits.idxOf? 86 = none := by kernel_rfl
theorem ni_87 : Tryz.prog.inits.idxOf? 87 = none := by kernel_rfl
theorem ni_88 : Tryz.prog.inits.idxOf? 88 = none := by kernel_rfl
theorem ni_89 : Tryz.prog.inits.idxOf? 89 = none := by kernel_rfl
theorem ni_90 : Tryz.prog.inits.idxOf? 90 = none := by kernel_rfl
theorem ni_91 : Tryz.prog.inits.idxOf? 91 = none := by kernel_rfl
theorem ni_92 : Tryz.prog.inits.idxOf? 92 = none := by kernel_rfl
theorem ni_93 : Tryz.prog.inits.idxOf? 93 = none := by kernel_rfl
theorem ni_94 : Tryz.prog.inits.idxOf? 94 = none := by kernel_rfl
theorem ni_95 : Tryz.prog.inits.idxOf? 95 = none := by kernel_rfl
theorem ni_96 : Tryz.prog.inits.idxOf? 96 = none := by kernel_rfl
theorem ni_97 : Tryz.prog.inits.idxOf? 97 = none := by kernel_rfl
theorem ni_98 : Tryz.prog.inits.idxOf? 98 = none := by kernel_rfl
theorem ni_99 : Tryz.prog.inits.idxOf? 99 = none := by kernel_rfl
theorem ni_100 : Tryz.prog.inits.idxOf? 100 = none := by kernel_rfl
theorem ni_101 : Tryz.prog.inits.idxOf? 101 = none := by kernel_rfl
theorem ni_102 : Tryz.prog.inits.idxOf? 102 = none := by kernel_rfl
theorem ni_103 : Tryz.prog.inits.idxOf? 103 = none := by kernel_rfl
theorem ni_104 : Tryz.prog.inits.idxOf? 104 = none := by kernel_rfl
theorem ni_105 : Tryz.prog.inits.idxOf? 105 = none := by kernel_rfl
theorem ni_106 : Tryz.prog.inits.idxOf? 106 = none := by kernel_rfl
theorem ni_107 : Tryz.prog.inits.idxOf? 107 = none := by kernel_rfl
theorem ni_108 : Tryz.prog.inits.idxOf? 108 = none := by kernel_rfl
theorem ni_109 : Tryz.prog.inits.idxOf? 109 = none := by kernel_rfl
theorem ni_110 : Tryz.prog.inits.idxOf? 110 = none := by kernel_rfl
theorem ni_111 : Tryz.prog.inits.idxOf? 111 = none := by kernel_rfl
theorem ni_112 : Tryz.prog.inits.idxOf? 112 = none := by kernel_rfl
theorem ni_113 : Tryz.prog.inits.idxOf? 113 = none := by kernel_rfl
theorem ni_114 : Tryz.prog.inits.idxOf? 114 = none := by kernel_rfl
theorem ni_115 : Tryz.prog.inits.idxOf? 115 = none := by kernel_rfl
theorem ni_116 : Tryz.prog.inits.idxOf? 116 = none := by kernel_rfl
theorem ni_117 : Tryz.prog.inits.idxOf? 117 = none := by kernel_rfl
theorem ni_118 : Tryz.prog.inits.idxOf? 118 = none := by kernel_rfl
theorem ni_119 : Tryz.prog.inits.idxOf? 119 = none := by kernel_rfl
theorem ni_120 : Tryz.prog.inits.idxOf? 120 = none := by kernel_rfl
theorem ni_121 : Tryz.prog.inits.idxOf? 121 = none := by kernel_rfl
theorem ni_122 : Tryz.prog.inits.idxOf? 122 = none := by kernel_rfl
theorem ni_123 : Tryz.prog.inits.idxOf? 123 = none := by kernel_rfl
theorem ni_124 : Tryz.prog.inits.idxOf? 124 = none := by kernel_rfl
theorem ni_125 : Tryz.prog.inits.idxOf? 125 = none := by kernel_rfl
theorem ni_126 : Tryz.prog.inits.idxOf? 126 = none := by kernel_rfl
theorem ni_127 : Tryz.prog.inits.idxOf? 127 = none := by kernel_rfl
theorem ni_128 : Tryz.prog.inits.idxOf? 128 = none := by kernel_rfl
theorem ni_129 : Tryz.prog.inits.idxOf? 129 = none := by kernel_rfl
theorem ni_130 : Tryz.prog.inits.idxOf? 130 = none := by kernel_rfl
theorem ni_131 : Tryz.prog.inits.idxOf? 131 = none := by kernel_rfl
theorem ni_132 : Tryz.prog.inits.idxOf? 132 = none := by kernel_rfl
theorem ni_133 : Tryz.prog.inits.idxOf? 133 = none := by kernel_rfl
theorem ni_134 : Tryz.prog.inits.idxOf? 134 = none := by kernel_rfl
theorem ni_135 : Tryz.prog.inits.idxOf? 135 = none := by kernel_rfl
theorem ni_136 : Tryz.prog.inits.idxOf? 136 = none := by kernel_rfl
theorem ni_137 : Tryz.prog.inits.idxOf? 137 = none := by kernel_rfl
theorem ni_138 : Tryz.prog.inits.idxOf? 138 = none := by kernel_rfl
theorem ni_139 : Tryz.prog.inits.idxOf? 139 = none := by kernel_rfl
theorem ni_140 : Tryz.prog.inits.idxOf? 140 = none := by kernel_rfl
theorem ni_141 : Tryz.prog.inits.idxOf? 141 = none := by kernel_rfl
theorem ni_142 : Tryz.prog.inits.idxOf? 142 = none := by kernel_rfl
theorem ni_143 : Tryz.prog.inits.idxOf? 143 = none := by kernel_rfl
theorem ni_144 : Tryz.prog.inits.idxOf? 144 = none := by kernel_rfl
theorem ni_145 : Tryz.prog.inits.idxOf? 145 = none := by kernel_rfl
theorem ni_146 : Tryz.prog.inits.idxOf? 146 = none := by kernel_rfl
theorem ni_147 : Tryz.prog.inits.idxOf? 147 = none := by kernel_rfl
theorem ni_148 : Tryz.prog.inits.idxOf? 148 = none := by kernel_rfl
theorem ni_149 : Tryz.prog.inits.idxOf? 149 = none := by kernel_rfl
theorem ni_150 : Tryz.prog.inits.idxOf? 150 = none := by kernel_rfl
theorem ni_151 : Tryz.prog.inits.idxOf? 151 = none := by kernel_rfl
theorem ni_152 : Tryz.prog.inits.idxOf? 152 = none := by kernel_rfl
theorem ni_153 : Tryz.prog.inits.idxOf? 153 = none := by kernel_rfl
theorem ni_154 : Tryz.prog.inits.idxOf? 154 = none := by kernel_rfl
theorem ni_156 : Tryz.prog.inits.idxOf? 156 = none := by kernel_rfl
theorem ni_157 : Tryz.prog.inits.idxOf? 157 = none := by kernel_rfl
theorem ni_158 : Tryz.prog.inits.idxOf? 158 = none := by kernel_rfl
theorem ni_159 : Tryz.prog.inits.idxOf? 159 = none := by kernel_rfl
theorem ni_160 : Tryz.prog.inits.idxOf? 160 = none := by kernel_rfl
theorem ni_161 : Tryz.prog.inits.idxOf? 161 = none := by kernel_rfl
theorem ni_162 : Tryz.prog.inits.idxOf? 162 = none := by kernel_rfl
theorem ni_163 : Tryz.prog.inits.idxOf? 163 = none := by kernel_rfl
theorem ni_164 : Tryz.prog.inits.idxOf? 164 = none := by kernel_rfl
theorem ni_165 : Tryz.prog.inits.idxOf? 165 = none := by kernel_rfl
theorem ni_166 : Tryz.prog.inits.idxOf? 166 = none := by kernel_rfl
theorem ni_167 : Tryz.prog.inits.idxOf? 167 = none := by kernel_rfl
theorem ni_168 : Tryz.prog.inits.idxOf? 168 = none := by kernel_rfl
theorem ni_169 : Tryz.prog.inits.idxOf? 169 = none := by kernel_rfl
theorem ni_170 : Tryz.prog.inits.idxOf? 170 = none := by kernel_rfl
theorem ni_171 : Tryz.prog.inits.idxOf? 171 = none := by kernel_rfl
theorem ni_172 : Tryz.prog.inits.idxOf? 172 = none := by kernel_rfl
theorem ni_173 : Tryz.prog.inits.idxOf? 173 = none := by kernel_rfl
theorem ni_174 : Tryz.prog.inits.idxOf? 174 = none := by kernel_rfl
theorem ni_175 : Tryz.prog.inits.idxOf? 175 = none := by kernel_rfl
theorem ni_176 : Tryz.prog.inits.idxOf? 176 = none := by kernel_rfl
theorem ni_177 : Tryz.prog.inits.idxOf? 177 = none := by kernel_rfl
theorem ni_178 : Tryz.prog.inits.idxOf? 178 = none := by kernel_rfl
theorem ni_179 : Tryz.prog.inits.idxOf? 179 = none := by kernel_rfl
theorem ni_181 : Tryz.prog.inits.idxOf? 181 = none := by kernel_rfl
theorem ni_182 : Tryz.prog.inits.idxOf? 182 = none := by kernel_rfl
theorem ni_183 : Tryz.prog.inits.idxOf? 183 = none := by kernel_rfl
theorem ni_184 : Tryz.prog.inits.idxOf? 184 = none := by kernel_rfl
theorem ni_185 : Tryz.prog.inits.idxOf? 185 = none := by kernel_rfl
theorem ni_186 : Tryz.prog.inits.idxOf? 186 = none := by kernel_rfl
theorem ni_187 : Tryz.prog.inits.idxOf? 187 = none := by kernel_rfl
theorem ni_188 : Tryz.prog.inits.idxOf? 188 = none := by kernel_rfl
theorem ni_189 : Tryz.prog.inits.idxOf? 189 = none := by kernel_rfl
theorem ni_190 : Tryz.prog.inits.idxOf? 190 = none := by kernel_rfl
theorem ni_191 : Tryz.prog.inits.idxOf? 191 = none := by kernel_rfl
theorem ni_192 : Tryz.prog.inits.idxOf? 192 = none := by kernel_rfl
theorem ni_193 : Tryz.prog.inits.idxOf? 193 = none := by kernel_rfl
theorem ni_194 : Tryz.prog.inits.idxOf? 194 = none := by kernel_rfl
theorem ni_195 : Tryz.prog.inits.idxOf? 195 = none := by kernel_rfl
theorem ni_196 : Tryz.prog.inits.idxOf? 196 = none := by kernel_rfl
theorem ni_197 : Tryz.prog.inits.idxOf? 197 = none := by kernel_rfl
theorem ni_198 : Tryz.prog.inits.idxOf? 198 = none := by kernel_rfl
theorem ni_199 : Tryz.prog.inits.idxOf? 199 = none := by kernel_rfl
theorem ni_200 : Tryz.prog.inits.idxOf? 200 = none := by kernel_rfl
theorem ni_201 : Tryz.prog.inits.idxOf? 201 = none := by kernel_rfl
theorem ni_202 : Tryz.prog.inits.idxOf? 202 = none := by kernel_rfl
theorem ni_203 : Tryz.prog.inits.idxOf? 203 = none := by kernel_rfl
theorem ni_204 : Tryz.prog.inits.idxOf? 204 = none := by kernel_rfl
theorem ni_205 : Tryz.prog.inits.idxOf? 205 = none := by kernel_rfl
theorem ni_206 : Tryz.prog.inits.idxOf? 206 = none := by kernel_rfl
theorem ni_207 : Tryz.prog.inits.idxOf? 207 = none := by kernel_rfl
theorem ni_209 : Tryz.prog.inits.idxOf? 209 = none := by kernel_rfl
theorem ni_210 : Tryz.prog.inits.idxOf? 210 = none := by kernel_rfl
theorem ni_211 : Tryz.prog.inits.idxOf? 211 = none := by kernel_rfl
theorem ni_212 : Tryz.prog.inits.idxOf? 212 = none := by kernel_rfl
theorem ni_213 : Tryz.prog.inits.idxOf? 213 = none := by kernel_rfl
theorem ni_214 : Tryz.prog.inits.idxOf? 214 = none := by kernel_rfl
theorem ni_215 : Tryz.prog.inits.idxOf? 215 = none := by kernel_rfl
theorem ni_216 : Tryz.prog.inits.idxOf? 216 = none := by kernel_rfl
theorem ni_217 : Tryz.prog.inits.idxOf? 217 = none := by kernel_rfl
theorem pt_33 : Sl.isPtrT Tryz.prog 33 = true := by kernel_rfl
theorem pt_35 : Sl.isPtrT Tryz.prog 35 = true := by kernel_rfl
theorem pt_38 : Sl.isPtrT Tryz.prog 38 = true := by kernel_rfl
theorem pt_61 : Sl.isPtrT Tryz.prog 61 = true := by kernel_rfl
theorem pt_77 : Sl.isPtrT Tryz.prog 77 = true := by kernel_rfl
theorem pt_119 : Sl.isPtrT Tryz.prog 119 = true := by kernel_rfl
theorem pt_138 : Sl.isPtrT Tryz.prog 138 = true := by kernel_rfl
theorem pt_162 : Sl.isPtrT Tryz.prog 162 = true := by kernel_rfl
theorem pt_173 : Sl.isPtrT Tryz.prog 173 = true := by kernel_rfl
theorem pt_181 : Sl.isPtrT Tryz.prog 181 = true := by kernel_rfl
theorem pt_194 : Sl.isPtrT Tryz.prog 194 = true := by kernel_rfl
theorem pt_236 : Sl.isPtrT Tryz.prog 236 = true := by kernel_rfl
theorem pt_243 : Sl.isPtrT Tryz.prog 243 = true := by kernel_rfl
theorem pt_278 : Sl.isPtrT Tryz.prog 278 = true := by kernel_rfl
theorem sl_22 : Sl.slI Tryz.prog 22 = some (5, 1, 1) := by kernel_rfl
theorem sl_26 : Sl.slI Tryz.prog 26 = some (73, 3, 32) := by kernel_rfl
theorem sl_31 : Sl.slI Tryz.prog 31 = some (24, 5, 64) := by kernel_rfl
theorem sl_37 : Sl.slI Tryz.prog 37 = some (41, 4, 32) := by kernel_rfl
theorem sl_45 : Sl.slI Tryz.prog 45 = some (28, 5, 72) := by kernel_rfl
theorem sl_54 : Sl.slI Tryz.prog 54 = some (91, 5, 5) := by kernel_rfl
theorem sl_69 : Sl.slI Tryz.prog 69 = some (9, 1, 16) := by kernel_rfl
theorem sl_92 : Sl.slI Tryz.prog 92 = some (56, 2, 16) := by kernel_rfl
theorem sl_121 : Sl.slI Tryz.prog 121 = some (3, 1, 8) := by kernel_rfl
theorem sl_124 : Sl.slI Tryz.prog 124 = some (141, 6, 80) := by kernel_rfl
theorem sl_144 : Sl.slI Tryz.prog 144 = some (88, 5, 48) := by kernel_rfl
theorem sl_146 : Sl.slI Tryz.prog 146 = some (101, 7, 72) := by kernel_rfl
theorem sl_148 : Sl.slI Tryz.prog 148 = some (26, 1, 24) := by kernel_rfl
theorem sl_175 : Sl.slI Tryz.prog 175 = some (49, 7, 80) := by kernel_rfl
theorem sl_210 : Sl.slI Tryz.prog 210 = some (197, 11, 96) := by kernel_rfl
theorem sl_213 : Sl.slI Tryz.prog 213 = some (281, 11, 96) := by kernel_rfl
theorem sl_218 : Sl.slI Tryz.prog 218 = some (4, 1, 1) := by kernel_rfl
theorem ss_9 : Sl.isStrT Tryz.prog 9 = true := by kernel_rfl
theorem st_24 : Sl.structI Tryz.prog 24 = some ([(0, 1), (1, 1), (2, 1), (3, 1), (4, 1)], [.int .i64 0, .int .i64 0, .int .i64 0, .string ⟨#[]⟩, .slice none 0 0]) := by kernel_rfl
theorem st_28 : Sl.structI Tryz.prog 28 = some ([(0, 1), (1, 1), (2, 1), (3, 1), (4, 1)], [.int .i64 0, .int .i64 0, .int .i64 0, .slice none 0 0, .slice none 0 0]) := by kernel_rfl
theorem st_41 : Sl.structI Tryz.prog 41 = some ([(0, 1), (1, 1), (2, 1), (3, 1)], [.int .i64 0, .int .i64 0, .int .i64 0, .int .i64 0]) := by kernel_rfl
theorem st_49 : Sl.structI Tryz.prog 49 = some ([(0, 1), (1, 1), (2, 5)], [.int .i64 0, .int .i64 0, .int .i64 0, .int .i64 0, .int .i64 0, .string ⟨#[]⟩, .slice none 0 0]) := by kernel_rfl
theorem st_56 : Sl.structI Tryz.prog 56 = some ([(0, 1), (1, 1)], [.int .i64 0, .int .i64 0]) := by kernel_rfl
theorem st_58 : Sl.structI Tryz.prog 58 = some ([(0, 1), (1, 2), (3, 2)], [.int .i64 0, .int .i64 0, .int .i64 0, .int .i64 0, .int .i64 0]) := by kernel_rfl
theorem st_73 : Sl.structI Tryz.prog 73 = some ([(0, 1), (1, 1), (2, 1)], [.int .i64 0, .string ⟨#[]⟩, .int .i64 0]) := by kernel_rfl
theorem st_75 : Sl.structI Tryz.prog 75 = some ([(0, 3), (3, 1), (4, 2), (6, 2), (8, 1)], [.int .i64 0, .string ⟨#[]⟩, .int .i64 0, .bool false, .int .i64 0, .int .i64 0, .int .i64 0, .int .i64 0, .int .i64 0]) := by kernel_rfl
theorem st_80 : Sl.structI Tryz.prog 80 = some ([(0, 1), (1, 1)], [.pointer none, .pointer none]) := by kernel_rfl
theorem st_86 : Sl.structI Tryz.prog 86 = some ([(0, 1), (1, 1)], [.int .i64 0, .int .i64 0]) := by kernel_rfl
theorem st_88 : Sl.structI Tryz.prog 88 = some ([(0, 2), (2, 1), (3, 1), (4, 1)], [.int .i64 0, .int .i64 0, .int .i64 0, .int .i64 0, .string ⟨#[]⟩]) := by kernel_rfl
theorem st_94 : Sl.structI Tryz.prog 94 = some ([(0, 1), (1, 1), (2, 1), (3, 1)], [.slice none 0 0, .slice none 0 0, .slice none 0 0, .slice none 0 0]) := by kernel_rfl
theorem st_98 : Sl.structI Tryz.prog 98 = some ([(0, 1), (1, 1), (2, 1)], [.bool false, .int .i64 0, .string ⟨#[]⟩]) := by kernel_rfl
theorem st_101 : Sl.structI Tryz.prog 101 = some ([(0, 1), (1, 3), (4, 3)], [.int .i64 0, .bool false, .int .i64 0, .string ⟨#[]⟩, .bool false, .int .i64 0, .string ⟨#[]⟩]) := by kernel_rfl
theorem st_123 : Sl.structI Tryz.prog 123 = some ([(0, 1)], [.slice none 0 0]) := by kernel_rfl
theorem st_126 : Sl.structI Tryz.prog 126 = some ([(0, 1)], [.slice none 0 0]) := by kernel_rfl
theorem st_128 : Sl.structI Tryz.prog 128 = some ([(0, 5), (5, 1), (6, 1), (7, 1), (8, 1), (9, 1)], [.int .i64 0, .int .i64 0, .int .i64 0, .int .i64 0, .int .i64 0, .int .i64 0, .slice none 0 0, .slice none 0 0, .pointer none, .int .i64 0]) := by kernel_rfl
theorem st_135 : Sl.structI Tryz.prog 135 = some ([(0, 1), (1, 1), (2, 1), (3, 1), (4, 1), (5, 1), (6, 1), (7, 1), (8, 1), (9, 5), (14, 1), (15, 1), (16, 1)], [.pointer none, .pointer none, .int .i64 0, .slice none 0 0, .int .i64 0, .nilFunc, .nilFunc, .bool false, .int .i64 0, .int .i64 0, .int .i64 0, .int .i64 0, .int .i64 0, .int .i64 0, .bool false, .pointer none, .slice none 0 0]) := by kernel_rfl
theorem st_141 : Sl.structI Tryz.prog 141 = some ([(0, 5), (5, 1)], [.int .i64 0, .int .i64 0, .int .i64 0, .slice none 0 0, .slice none 0 0, .bool false]) := by kernel_rfl
theorem st_150 : Sl.structI Tryz.prog 150 = some ([(0, 1), (1, 1)], [.slice none 0 0, .slice none 0 0]) := by kernel_rfl
theorem st_153 : Sl.structI Tryz.prog 153 = some ([(0, 5), (5, 1), (6, 1), (7, 1), (8, 2), (10, 1), (11, 1), (12, 1), (13, 1), (14, 5), (19, 1)], [.int .i64 0, .int .i64 0, .int .i64 0, .int .i64 0, .int .i64 0, .bool false, .slice none 0 0, .int .i64 0, .int .i64 0, .int .i64 0, .nilFunc, .int .i64 0, .bool false, .slice none 0 0, .int .i64 0, .int .i64 0, .int .i64 0, .slice none 0 0, .slice none 0 0, .int .i64 0]) := by kernel_rfl
theorem st_164 : Sl.structI Tryz.prog 164 = some ([(0, 1), (1, 1)], [.pointer none, .nilFunc]) := by kernel_rfl
theorem st_169 : Sl.structI Tryz.prog 169 = some ([(0, 1), (1, 5), (6, 4), (10, 1)], [.pointer none, .int .i64 0, .int .i64 0, .int .i64 0, .int .i64 0, .int .i64 0, .slice none 0 0, .slice none 0 0, .slice none 0 0, .slice none 0 0, .bool false]) := by kernel_rfl
theorem st_177 : Sl.structI Tryz.prog 177 = some ([(0, 1), (1, 1), (2, 1)], [.int .i64 0, .slice none 0 0, .bool false]) := by kernel_rfl
theorem st_184 : Sl.structI Tryz.prog 184 = some ([(0, 1), (1, 3), (4, 2), (6, 2), (8, 1)], [.int .i64 0, .bool false, .int .i64 0, .string ⟨#[]⟩, .int .i64 0, .int .i64 0, .int .i64 0, .int .i64 0, .int .i64 0]) := by kernel_rfl
theorem st_186 : Sl.structI Tryz.prog 186 = some ([(0, 1), (1, 1)], [.pointer none, .nilFunc]) := by kernel_rfl
theorem st_197 : Sl.structI Tryz.prog 197 = some ([(0, 1), (1, 1), (2, 9)], [.int .i64 0, .bool false, .int .i64 0, .string ⟨#[]⟩, .int .i64 0, .bool false, .int .i64 0, .int .i64 0, .int .i64 0, .int .i64 0, .int .i64 0]) := by kernel_rfl
theorem st_200 : Sl.structI Tryz.prog 200 = some ([(0, 2), (2, 1), (3, 1)], [.int .i64 0, .int .i64 0, .slice none 0 0, .slice none 0 0]) := by kernel_rfl
theorem st_212 : Sl.structI Tryz.prog 212 = some ([(0, 1), (1, 1), (2, 1)], [.int .i64 0, .slice none 0 0, .slice none 0 0]) := by kernel_rfl
theorem st_215 : Sl.structI Tryz.prog 215 = some ([(0, 1), (1, 1), (2, 1)], [.int .i64 0, .slice none 0 0, .slice none 0 0]) := by kernel_rfl
theorem st_234 : Sl.structI Tryz.prog 234 = some ([(0, 1), (1, 1)], [.pointer none, .slice none 0 0]) := by kernel_rfl
theorem st_241 : Sl.structI Tryz.prog 241 = some ([(0, 1), (1, 1)], [.pointer none, .slice none 0 0]) := by kernel_rfl
theorem st_264 : Sl.structI Tryz.prog 264 = some ([(0, 2), (2, 1), (3, 3), (6, 1), (7, 1), (8, 1), (9, 1)], [.int .i64 0, .int .i64 0, .bool false, .int .i64 0, .string ⟨#[]⟩, .int .i64 0, .bool false, .pointer none, .pointer none, .int .i64 0]) := by kernel_rfl
theorem st_273 : Sl.structI Tryz.prog 273 = some ([(0, 2), (2, 1), (3, 1), (4, 3), (7, 1), (8, 1), (9, 1)], [.int .i64 0, .int .i64 0, .bool false, .int .i64 0, .bool false, .int .i64 0, .string ⟨#[]⟩, .pointer none, .pointer none, .int .i64 0]) := by kernel_rfl
theorem st_281 : Sl.structI Tryz.prog 281 = some ([(0, 1), (1, 1), (2, 9)], [.int .i64 0, .bool false, .int .i64 0, .bool false, .int .i64 0, .string ⟨#[]⟩, .int .i64 0, .int .i64 0, .int .i64 0, .int .i64 0, .int .i64 0]) := by kernel_rfl
theorem sz_1 : Sl.tySz Tryz.prog 1 = some 1 := by kernel_rfl
theorem sz_3 : Sl.tySz Tryz.prog 3 = some 1 := by kernel_rfl
theorem sz_4 : Sl.tySz Tryz.prog 4 = some 1 := by kernel_rfl
theorem sz_9 : Sl.tySz Tryz.prog 9 = some 1 := by kernel_rfl
theorem sz_24 : Sl.tySz Tryz.prog 24 = some 5 := by kernel_rfl
theorem sz_25 : Sl.tySz Tryz.prog 25 = some 1 := by kernel_rfl
theorem sz_26 : Sl.tySz Tryz.prog 26 = some 1 := by kernel_rfl
theorem sz_28 : Sl.tySz Tryz.prog 28 = some 5 := by kernel_rfl
theorem sz_31 : Sl.tySz Tryz.prog 31 = some 1 := by kernel_rfl
theorem sz_37 : Sl.tySz Tryz.prog 37 = some 1 := by kernel_rfl
theorem sz_41 : Sl.tySz Tryz.prog 41 = some 4 := by kernel_rfl
theorem sz_45 : Sl.tySz Tryz.prog 45 = some 1 := by kernel_rfl
theorem sz_49 : Sl.tySz Tryz.prog 49 = some 7 := by kernel_rfl
theorem sz_56 : Sl.tySz Tryz.prog 56 = some 2 := by kernel_rfl
theorem sz_58 : Sl.tySz Tryz.prog 58 = some 5 := by kernel_rfl
theorem sz_61 : Sl.tySz Tryz.prog 61 = some 1 := by kernel_rfl
theorem sz_69 : Sl.tySz Tryz.prog 69 = some 1 := by kernel_rfl
theorem sz_73 : Sl.tySz Tryz.prog 73 = some 3 := by kernel_rfl
theorem sz_75 : Sl.tySz Tryz.prog 75 = some 9 := by kernel_rfl
theorem sz_86 : Sl.tySz Tryz.prog 86 = some 2 := by kernel_rfl
theorem sz_88 : Sl.tySz Tryz.prog 88 = some 5 := by kernel_rfl
theorem sz_91 : Sl.tySz Tryz.prog 91 = some 5 := by kernel_rfl
theorem sz_92 : Sl.tySz Tryz.prog 92 = some 1 := by kernel_rfl
theorem sz_94 : Sl.tySz Tryz.prog 94 = some 4 := by kernel_rfl
theorem sz_98 : Sl.tySz Tryz.prog 98 = some 3 := by kernel_rfl
theorem sz_101 : Sl.tySz Tryz.prog 101 = some 7 := by kernel_rfl
theorem sz_121 : Sl.tySz Tryz.prog 121 = some 1 := by kernel_rfl
theorem sz_141 : Sl.tySz Tryz.prog 141 = some 6 := by kernel_rfl
theorem sz_148 : Sl.tySz Tryz.prog 148 = some 1 := by kernel_rfl
theorem sz_151 : Sl.tySz Tryz.prog 151 = some 1 := by kernel_rfl
theorem sz_175 : Sl.tySz Tryz.prog 175 = some 1 := by kernel_rfl
theorem sz_184 : Sl.tySz Tryz.prog 184 = some 9 := by kernel_rfl
theorem sz_200 : Sl.tySz Tryz.prog 200 = some 4 := by kernel_rfl
theorem sz_210 : Sl.tySz Tryz.prog 210 = some 1 := by kernel_rfl
theorem sz_213 : Sl.tySz Tryz.prog 213 = some 1 := by kernel_rfl
theorem sz_224 : Sl.tySz Tryz.prog 224 = some 2 := by kernel_rfl
theorem sz_236 : Sl.tySz Tryz.prog 236 = some 1 := by kernel_rfl
theorem sz_243 : Sl.tySz Tryz.prog 243 = some 1 := by kernel_rfl
theorem sz_302 : Sl.tySz Tryz.prog 302 = some 1 := by kernel_rfl
theorem z_3 : Sl.zeroOf Tryz.prog 3 = some [.int .i64 0] := by kernel_rfl
theorem z_4 : Sl.zeroOf Tryz.prog 4 = some [.bool false] := by kernel_rfl
theorem z_9 : Sl.zeroOf Tryz.prog 9 = some [.string ⟨#[]⟩] := by kernel_rfl
theorem z_24 : Sl.zeroOf Tryz.prog 24 = some [.int .i64 0, .int .i64 0, .int .i64 0, .string ⟨#[]⟩, .slice none 0 0] := by kernel_rfl
theorem z_26 : Sl.zeroOf Tryz.prog 26 = some [.slice none 0 0] := by kernel_rfl
theorem z_28 : Sl.zeroOf Tryz.prog 28 = some [.int .i64 0, .int .i64 0, .int .i64 0, .slice none 0 0, .slice none 0 0] := by kernel_rfl
theorem z_37 : Sl.zeroOf Tryz.prog 37 = some [.slice none 0 0] := by kernel_rfl
theorem z_41 : Sl.zeroOf Tryz.prog 41 = some [.int .i64 0, .int .i64 0, .int .i64 0, .int .i64 0] := by kernel_rfl
theorem z_49 : Sl.zeroOf Tryz.prog 49 = some [.int .i64 0, .int .i64 0, .int .i64 0, .int .i64 0, .int .i64 0, .string ⟨#[]⟩, .slice none 0 0] := by kernel_rfl
theorem z_56 : Sl.zeroOf Tryz.prog 56 = some [.int .i64 0, .int .i64 0] := by kernel_rfl
theorem z_58 : Sl.zeroOf Tryz.prog 58 = some [.int .i64 0, .int .i64 0, .int .i64 0, .int .i64 0, .int .i64 0] := by kernel_rfl
theorem z_73 : Sl.zeroOf Tryz.prog 73 = some [.int .i64 0, .string ⟨#[]⟩, .int .i64 0] := by kernel_rfl
theorem z_75 : Sl.zeroOf Tryz.prog 75 = some [.int .i64 0, .string ⟨#[]⟩, .int .i64 0, .bool false, .int .i64 0, .int .i64 0, .int .i64 0, .int .i64 0, .int .i64 0] := by kernel_rfl
theorem z_86 : Sl.zeroOf Tryz.prog 86 = some [.int .i64 0, .int .i64 0] := by kernel_rfl
theorem z_88 : Sl.zeroOf Tryz.prog 88 = some [.int .i64 0, .int .i64 0, .int .i64 0, .int .i64 0, .string ⟨#[]⟩] := by kernel_rfl
theorem z_94 : Sl.zeroOf Tryz.prog 94 = some [.slice none 0 0, .slice none 0 0, .slice none 0 0, .slice none 0 0] := by kernel_rfl
theorem z_98 : Sl.zeroOf Tryz.prog 98 = some [.bool false, .int .i64 0, .string ⟨#[]⟩] := by kernel_rfl
theorem z_101 : Sl.zeroOf Tryz.prog 101 = some [.int .i64 0, .bool false, .int .i64 0, .string ⟨#[]⟩, .bool false, .int .i64 0, .string ⟨#[]⟩] := by kernel_rfl
theorem z_141 : Sl.zeroOf Tryz.prog 141 = some [.int .i64 0, .int .i64 0, .int .i64 0, .slice none 0 0, .slice none 0 0, .bool false] := by kernel_rfl
theorem z_184 : Sl.zeroOf Tryz.prog 184 = some [.int .i64 0, .bool false, .int .i64 0, .string ⟨#[]⟩, .int .i64 0, .int .i64 0, .int .i64 0, .int .i64 0, .int .i64 0] := by kernel_rfl
theorem z_197 : Sl.zeroOf Tryz.prog 197 = some [.int .i64 0, .bool false, .int .i64 0, .string ⟨#[]⟩, .int .i64 0, .bool false, .int .i64 0, .int .i64 0, .int .i64 0, .int .i64 0, .int .i64 0] := by kernel_rfl
theorem z_200 : Sl.zeroOf Tryz.prog 200 = some [.int .i64 0, .int .i64 0, .slice none 0 0, .slice none 0 0] := by kernel_rfl
theorem z_224 : Sl.zeroOf Tryz.prog 224 = some [.int .u8 0, .int .u8 0] := by kernel_rfl
theorem z_281 : Sl.zeroOf Tryz.prog 281 = some [.int .i64 0, .bool false, .int .i64 0, .bool false, .int .i64 0, .string ⟨#[]⟩, .int .i64 0, .int .i64 0, .int .i64 0, .int .i64 0, .int .i64 0] := by kernel_rfl
theorem z_302 : Sl.zeroOf Tryz.prog 302 = some [.int .u64 0] := by kernel_rfl
end Go.Proofs.YtikkegelplllmaaGreatDoor.Fa
/- What all share: a queue, a desk. -/
namespace Go.Proofs.YtikkegelplllmaaGreatDoor
open Go Go.Sl Go.Holt Go.Proofs
open Go.Holt.Enc (enc)
namespace Dk

/-- A queue's block. -/
abbrev RB (q : Nat) (r : Ring) (lv : Value) : HProp := blk q [.int .i64 r.most, lv, .bool r.closed] 177 (0, 0)
/-- A desk. -/
abbrev dcells (q : Nat) (D : Desk) (pv rv : Value) : List Value := [.int .i64 D.root.n, .int .i64 D.root.kids.slot, .int .i64 D.root.kids.gen, .int .i64 D.root.spots.slot, .int .i64 D.root.spots.gen, .int .i64 D.epoch, pv, rv, .pointer (some ⟨q, 0, none⟩), .int .i64 D.acc]
abbrev DB (d q : Nat) (D : Desk) (pv rv : Value) : HProp := blk d [.int .i64 D.root.n, .int .i64 D.root.kids.slot, .int .i64 D.root.kids.gen, .int .i64 D.root.spots.slot, .int .i64 D.root.spots.gen, .int .i64 D.epoch, pv, rv, .pointer (some ⟨q, 0, none⟩), .int .i64 D.acc] 128 (0, 0)
def DeskP (d : Nat) (D : Desk) : HProp := exH fun x : Value × Value × Nat × Value => [DB d x.2.2.1 D x.1 x.2.1, SlOwn 3 1 x.1 (flat D.pins), SlOwn 141 6 x.2.1 (flat D.reps), RB x.2.2.1 D.ring x.2.2.2, SlOwn 49 7 x.2.2.2 (flat D.ring.l)]
theorem DeskP.mk {d q : Nat} {D : Desk} {pv rv lv : Value} {xs ys zs : List Value} (h1 : xs = flat D.pins) (h2 : ys = flat D.reps) (h3 : zs = flat D.ring.l) :
    EntS (star [DB d q D pv rv, SlOwn 3 1 pv xs, SlOwn 141 6 rv ys, RB q D.ring lv, SlOwn 49 7 lv zs]) (DeskP d D) := by
  subst h1 h2 h3
  exact exH.mk (fun x : Value × Value × Nat × Value => [DB d x.2.2.1 D x.1 x.2.1, SlOwn 3 1 x.1 (flat D.pins), SlOwn 141 6 x.2.1 (flat D.reps), RB x.2.2.1 D.ring x.2.2.2, SlOwn 49 7 x.2.2.2 (flat D.ring.l)]) (pv, rv, q, lv)

theorem rnew (m : Int) (h0 : 0 ≤ m) (h1 : m ≤ 65536) : Sl.Spec Tryz.prog 59 #[.int .i64 m] [] (fun v l => ∃ q, v = .pointer (some ⟨q, 0, none⟩) ∧ l = [RB q ⟨m, [], false⟩ (.slice none 0 0)]) := by
  refine Spec.enter Tryz.func59 rfl rfl rfl ?_
  refine SW.seq ?_
  refine SW.reg (l := [.op 0 .e]) rfl ?_
  refine rx_s rfl rfl rfl rfl rfl ?_
  refine rx_end0 ?_
  refine SW.seq ?_
  refine SW.seq ?_
  refine SW.reg (l := [.op 0 .e, .op 1 .e, .op 2 .e, .op 3 .e, .op 4 .e, .op 5 .e]) rfl ?_
  iterate 3 refine rx_s rfl rfl rfl rfl rfl ?_
  refine rx_split (t := 5) rfl (fun g5 => ?_) (fun g5 => ?_)
  · (simp at g5; omega)
  · skip
    iterate 3 refine rx_s rfl rfl rfl rfl rfl ?_
    refine rx_end0 ?_
    refine SW.cond rfl (fun h8 => ?_) (fun h8 => ?_)
    · (simp at h8; omega)
    · skip
      refine SW.skip ?_
      try simp only [thenK, blockK, cond_true, cond_false, beq_self_eq_true, Nat.reduceBEq]
      refine SW.seq ?_
      refine SW.reg (l := [.op 0 .e, .op 1 .e, .op 2 .e, .op 3 .e]) rfl ?_
      refine rx_s rfl rfl rfl rfl rfl ?_
      refine rx_build rfl rfl rfl rfl rfl Fa.st_177 rfl (cs := [_, _, _]) rfl ?_
      refine rx_box (.inr rfl) rfl rfl rfl rfl rfl rfl (cl := [_, _, _]) rfl ?_
      intro b11
      refine rx_s rfl rfl rfl rfl rfl ?_
      refine rx_end0 ?_
      refine SW.ret ?_
      exact retK1 (l := [_]) (.tmp rfl .nil) ⟨b11, rfl, rfl⟩ (.one (by (repeat first|exact .here|apply Take1.there)) .nil)
theorem rclose (q : Nat) (r : Ring) (lv : Value) (hl : lv.oneCell' = true) : Sl.Spec Tryz.prog 64 #[.pointer (some ⟨q, 0, none⟩)] [RB q r lv] (fun v l => v = .tuple #[] ∧ l = [RB q { r with closed := true } lv]) := by
  refine Spec.enter Tryz.func64 rfl rfl rfl ?_
  refine SW.reg (l := [.op 0 .e, .op 1 .e, .op 2 .e, .op 3 .e]) rfl ?_
  iterate 2 refine rx_s rfl rfl rfl rfl rfl ?_
  refine rx_fa rfl rfl rfl rfl rfl rfl Fa.fo_177_2 ?_
  refine rx_stp rfl rfl rfl rfl rfl rfl (by (repeat first|exact .here|apply Take1.there)) Fa.sz_4 (vs := [_]) rfl rfl rfl (by rfl) (cl' := [_, _, _]) (by rfl) ?_
  refine rx_endL ?_
  exact retK0e (l := [_]) .nil ⟨rfl, rfl⟩ (.one (by (repeat first|exact .here|apply Take1.there)) .nil)
theorem rput (q : Nat) (r : Ring) (lv : Value) (x : Msg) (hr : r.l.length ≤ 100000) : Sl.Spec Tryz.prog 87 #[.pointer (some ⟨q, 0, none⟩), .agg (enc x).toArray] [RB q r lv, SlOwn 49 7 lv (flat r.l)]
    (fun v l => ∃ lv', v = .int .i64 (r.put x).2 ∧ l = [RB q (r.put x).1 lv', SlOwn 49 7 lv' (flat (r.put x).1.l)]) := by
  unfold Ring.put
  refine Spec.enter Tryz.func87 rfl rfl rfl ?_
  refine SW.slshape 1 rfl ?_
  rintro p1 m1 c1 rfl hm1
  have hm : m1 = r.l.length := by rw [flat_len, show Enc.n Msg = 7 from rfl] at hm1; omega
  subst hm
  refine SW.seq ?_
  refine SW.reg (l := [.op 0 .e, .op 1 .e]) rfl ?_
  refine rx_box (.inr rfl) rfl rfl rfl rfl rfl rfl (cl := [_, _, _, _, _, _, _]) rfl ?_
  intro b3
  refine rx_s rfl rfl rfl rfl rfl ?_
  refine rx_end0 ?_
  refine SW.seq ?_
  refine SW.block ?_
  refine SW.seq ?_
  refine SW.reg (l := [.op 0 .e, .op 1 .e, .op 2 .e, .op 3 .e, .op 4 .e]) rfl ?_
  iterate 2 refine rx_s rfl rfl rfl rfl rfl ?_
  refine rx_fa rfl rfl rfl rfl rfl rfl Fa.fo_177_2 ?_
  refine rx_ldH1 rfl rfl rfl rfl rfl rfl (by (repeat first|exact .here|apply Take1.there)) Fa.ag_4 (by rfl) ?_
  refine rx_s rfl rfl rfl rfl rfl ?_
  refine rx_end0 ?_
  refine SW.cond rfl (fun h5 => ?_) (fun h5 => ?_)
  · skip
    rw [if_pos h5]
    refine SW.seq ?_
    refine SW.reg (l := [.op 0 .e]) rfl ?_
    refine rx_s rfl rfl rfl rfl rfl ?_
    refine rx_end0 ?_
    refine SW.ret ?_
    exact retK1 (l := [_, _]) (.tmp rfl .nil) ⟨_, rfl, rfl⟩ (.one (by (repeat first|exact .here|apply Take1.there)) (.one (by (repeat first|exact .here|apply Take1.there)) .nil))
  · skip
    rw [if_neg (by simp [h5])]
    refine SW.seq ?_
    refine SW.drawAll Fa.mix (tp := [0, 1, 3, 7, 15, 0, 32, 96, 224, 511, 1023]) (l := [.op 0 .s, .op 1 .s, .op 2 .s, .op 3 .d, .op 4 .s, .op 5 .s, .op 6 .s, .op 7 .s, .op 8 .d, .op 9 .s, .op 10 .s]) (by kernel_rfl) ?_
    iterate 2 refine rx_s rfl rfl rfl rfl rfl ?_
    refine rx_fa rfl rfl rfl rfl rfl rfl Fa.fo_177_1 ?_
    refine rx_ldD1 rfl rfl rfl rfl rfl rfl rfl (by (repeat first|exact .here|apply Take1.there)) Fa.ag_175 (by rfl) ?_
    refine rx_len rfl rfl rfl rfl rfl rfl (lenV_sl Fa.sl_175 _ _ _) ?_
    iterate 2 refine rx_s rfl rfl rfl rfl rfl ?_
    refine rx_fa rfl rfl rfl rfl rfl rfl Fa.fo_177_0 ?_
    refine rx_ldD1 rfl rfl rfl rfl rfl rfl rfl (by (repeat first|exact .here|apply Take1.there)) Fa.ag_3 (by rfl) ?_
    iterate 2 refine rx_s rfl rfl rfl rfl rfl ?_
    refine rx_endD ?_
    try simp only [List.cons_append, List.nil_append]
    refine SW.cond rfl (fun h10 => ?_) (fun h10 => ?_)
    · skip
      rw [if_pos (by simpa using h10)]
      refine SW.seq ?_
      refine SW.reg (l := [.op 0 .e]) rfl ?_
      refine rx_s rfl rfl rfl rfl rfl ?_
      refine rx_end0 ?_
      refine SW.ret ?_
      exact retK1 (l := [_, _]) (.tmp rfl .nil) ⟨_, rfl, rfl⟩ (.one (by (repeat first|exact .here|apply Take1.there)) (.one (by (repeat first|exact .here|apply Take1.there)) .nil))
    · skip
      rw [if_neg (by simpa using h10)]
      refine SW.skip ?_
      try simp only [thenK, blockK, cond_true, cond_false, beq_self_eq_true, Nat.reduceBEq]
      refine SW.seq ?_
      refine SW.drawT (Hs := [SlOwn 49 7 (.slice p1 r.l.length c1) (flat r.l)]) (D0l := []) (Dl := ?DT468) (F := ?FT468) Fa.mix (tp := [0, 0, 2, 6, 14, 0, 32, 126, 255, 511, 1023]) (l := [.op 0 .s, .op 1 .s, .op 2 .s, .op 3 .s, .op 4 .d, .op 5 .d, .op 6 .f, .op 7 .e, .op 8 .s, .op 9 .s, .bar, .op 10 .e]) (by kernel_rfl) ?T468a ?T468b ?_
      case T468a => (repeat (first|exact Take.nil|refine Take.cons (by (repeat first|exact .here|apply Take1.there)) ?_))
      case T468b => (repeat (first|exact Take.nil|refine Take.cons (by (repeat first|exact .here|apply Take1.there)) ?_))
      iterate 3 refine rx_s rfl rfl rfl rfl rfl ?_
      refine rx_fa rfl rfl rfl rfl rfl rfl Fa.fo_177_1 ?_
      refine rx_ldD1 rfl rfl rfl rfl rfl rfl rfl (by (repeat first|exact .here|apply Take1.there)) Fa.ag_175 (by rfl) ?_
      refine rx_ldDA rfl rfl rfl rfl rfl rfl rfl (by (repeat first|exact .here|apply Take1.there)) Fa.ag_49 Fa.sz_49 (vs := [_, _, _, _, _, _, _]) (by rfl) rfl ?_
      refine rx_bslice (.inl rfl) rfl rfl rfl rfl rfl Fa.sl_175 Fa.z_49 rfl rfl rfl rfl rfl (cl := [_, _, _, _, _, _, _]) rfl ?_
      intro b27
      refine rx_app1 rfl rfl rfl rfl rfl Fa.sl_175 Fa.z_49 rfl rfl rfl rfl rfl (by (repeat first|exact .here|apply Take1.there)) (by (repeat first|exact .here|apply Take1.there)) (ys := [_, _, _, _, _, _, _]) (by rfl) rfl rfl (by rw [flat_len, show Enc.n Msg = 7 from rfl]; simp; omega) ?_
      intro p28 m28 c28 hm28
      refine rx_s rfl rfl rfl rfl rfl ?_
      refine rx_fa rfl rfl rfl rfl rfl rfl Fa.fo_177_1 ?_
      refine rx_barAll ?_
      try simp only [List.cons_append, List.nil_append]
      refine rx_stp rfl rfl rfl rfl rfl rfl (by (repeat first|exact .here|apply Take1.there)) Fa.sz_175 (vs := [_]) rfl rfl rfl (by rfl) (cl' := [_, _, _]) (by rfl) ?_
      refine rx_endD ?_
      try simp only [List.cons_append, List.nil_append]
      refine SW.seq ?_
      refine SW.reg (l := [.op 0 .e]) rfl ?_
      refine rx_s rfl rfl rfl rfl rfl ?_
      refine rx_end0 ?_
      refine SW.ret ?_
      rw [flat_msg]
      exact retK1 (l := [_, _]) (.tmp rfl .nil) ⟨.slice p28 m28 c28, rfl, rfl⟩ (.one (by (repeat first|exact .here|apply Take1.there)) (.one (by (repeat first|exact .here|apply Take1.there)) .nil))

theorem accesses (d : Nat) (D : Desk) : Sl.Spec Tryz.prog 23 #[.pointer (some ⟨d, 0, none⟩)] [DeskP d D] (fun v l => v = .int .i64 D.acc ∧ l = [DeskP d D]) := by
  refine Spec.enter Tryz.func23 rfl rfl rfl ?_
  refine SW.exH 0 rfl ?_; rintro ⟨pv, rv, q, lv⟩; simp only [List.cons_append, List.nil_append]
  refine SW.seq ?_
  refine SW.reg (l := [.op 0 .e]) rfl ?_
  refine rx_s rfl rfl rfl rfl rfl ?_
  refine rx_end0 ?_
  refine SW.seq ?_
  refine SW.reg (l := [.op 0 .e, .op 1 .e, .op 2 .e, .op 3 .e, .op 4 .e]) rfl ?_
  iterate 2 refine rx_s rfl rfl rfl rfl rfl ?_
  refine rx_fa rfl rfl rfl rfl rfl rfl Fa.fo_128_5 ?_
  refine rx_ldH1 rfl rfl rfl rfl rfl rfl (by (repeat first|exact .here|apply Take1.there)) Fa.ag_3 (by rfl) ?_
  refine rx_s rfl rfl rfl rfl rfl ?_
  refine rx_end0 ?_
  refine SW.ret ?_
  exact retK1 (l := [DeskP d D]) (.tmp rfl .nil) ⟨rfl, rfl⟩ (.cons (.cons (by (repeat first|exact .here|apply Take1.there)) (.cons (by (repeat first|exact .here|apply Take1.there)) (.cons (by (repeat first|exact .here|apply Take1.there)) (.cons (by (repeat first|exact .here|apply Take1.there)) (.cons (by (repeat first|exact .here|apply Take1.there)) .nil))))) (DeskP.mk rfl rfl rfl) .nil)
theorem epoch (d : Nat) (D : Desk) (hD : D.ok) : Sl.Spec Tryz.prog 95 #[.pointer (some ⟨d, 0, none⟩)] [DeskP d D] (fun v l => v = .int .i64 D.epoch ∧ l = [DeskP d D.tick]) := by
  have ha := hD.acc
  refine Spec.enter Tryz.func95 rfl rfl rfl ?_
  refine SW.exH 0 rfl ?_; rintro ⟨pv, rv, q, lv⟩; simp only [List.cons_append, List.nil_append]
  refine SW.seq ?_
  refine SW.reg (l := [.op 0 .e]) rfl ?_
  refine rx_s rfl rfl rfl rfl rfl ?_
  refine rx_end0 ?_
  refine SW.seq ?_
  refine SW.reg (l := [.op 0 .e, .op 1 .e, .op 2 .e, .op 3 .e, .op 4 .e, .op 5 .e, .op 6 .e, .op 7 .e]) rfl ?_
  iterate 2 refine rx_s rfl rfl rfl rfl rfl ?_
  refine rx_fa rfl rfl rfl rfl rfl rfl Fa.fo_128_5 ?_
  refine rx_ldH1 rfl rfl rfl rfl rfl rfl (by (repeat first|exact .here|apply Take1.there)) Fa.ag_3 (by rfl) ?_
  refine rx_ar rfl rfl rfl rfl rfl (by omega) ?_
  refine rx_s rfl rfl rfl rfl rfl ?_
  refine rx_fa rfl rfl rfl rfl rfl rfl Fa.fo_128_5 ?_
  refine rx_stp rfl rfl rfl rfl rfl rfl (by (repeat first|exact .here|apply Take1.there)) Fa.sz_3 (vs := [_]) rfl rfl rfl (by rfl) (cl' := [_, _, _, _, _, _, _, _, _, _]) (by rfl) ?_
  refine rx_end0 ?_
  refine SW.seq ?_
  refine SW.reg (l := [.op 0 .e, .op 1 .e, .op 2 .e, .op 3 .e, .op 4 .e]) rfl ?_
  iterate 2 refine rx_s rfl rfl rfl rfl rfl ?_
  refine rx_fa rfl rfl rfl rfl rfl rfl Fa.fo_128_1 ?_
  refine rx_ldH1 rfl rfl rfl rfl rfl rfl (by (repeat first|exact .here|apply Take1.there)) Fa.ag_3 (by rfl) ?_
  refine rx_s rfl rfl rfl rfl rfl ?_
  refine rx_end0 ?_
  refine SW.ret ?_
  exact retK1 (l := [DeskP d D.tick]) (.tmp rfl .nil) ⟨rfl, rfl⟩ (.cons (.cons (by (repeat first|exact .here|apply Take1.there)) (.cons (by (repeat first|exact .here|apply Take1.there)) (.cons (by (repeat first|exact .here|apply Take1.there)) (.cons (by (repeat first|exact .here|apply Take1.there)) (.cons (by (repeat first|exact .here|apply Take1.there)) .nil))))) (DeskP.mk rfl rfl rfl) .nil)
theorem root (d : Nat) (D : Desk) (hD : D.ok) : Sl.Spec Tryz.prog 49 #[.pointer (some ⟨d, 0, none⟩)] [DeskP d D] (fun v l => v = .agg (enc D.root).toArray ∧ l = [DeskP d D.tick]) := by
  have ha := hD.acc
  refine Spec.enter Tryz.func49 rfl rfl rfl ?_
  refine SW.exH 0 rfl ?_; rintro ⟨pv, rv, q, lv⟩; simp only [List.cons_append, List.nil_append]
  refine SW.seq ?_
  refine SW.reg (l := [.op 0 .e]) rfl ?_
  refine rx_alloc (.inr rfl) rfl rfl rfl rfl rfl Fa.z_58 ?_
  intro b2
  refine rx_end0 ?_
  refine SW.seq ?_
  refine SW.reg (l := [.op 0 .e, .op 1 .e, .op 2 .e, .op 3 .e, .op 4 .e, .op 5 .e, .op 6 .e, .op 7 .e]) rfl ?_
  iterate 2 refine rx_s rfl rfl rfl rfl rfl ?_
  refine rx_fa rfl rfl rfl rfl rfl rfl Fa.fo_128_5 ?_
  refine rx_ldH1 rfl rfl rfl rfl rfl rfl (by (repeat first|exact .here|apply Take1.there)) Fa.ag_3 (by rfl) ?_
  refine rx_ar rfl rfl rfl rfl rfl (by omega) ?_
  refine rx_s rfl rfl rfl rfl rfl ?_
  refine rx_fa rfl rfl rfl rfl rfl rfl Fa.fo_128_5 ?_
  refine rx_stp rfl rfl rfl rfl rfl rfl (by (repeat first|exact .here|apply Take1.there)) Fa.sz_3 (vs := [_]) rfl rfl rfl (by rfl) (cl' := [_, _, _, _, _, _, _, _, _, _]) (by rfl) ?_
  refine rx_end0 ?_
  refine SW.seq ?_
  refine SW.reg (l := [.op 0 .e, .op 1 .e, .op 2 .e, .op 3 .e, .op 4 .e]) rfl ?_
  iterate 2 refine rx_s rfl rfl rfl rfl rfl ?_
  refine rx_fa rfl rfl rfl rfl rfl rfl Fa.fo_128_0 ?_
  refine rx_ldHA rfl rfl rfl rfl rfl rfl (by (repeat first|exact .here|apply Take1.there)) Fa.ag_58 Fa.sz_58 (vs := [_, _, _, _, _]) (by rfl) rfl ?_
  refine rx_stp rfl rfl rfl rfl rfl rfl (by (repeat first|exact .here|apply Take1.there)) Fa.sz_58 (vs := [_, _, _, _, _]) rfl rfl rfl (by rfl) (cl' := [_, _, _, _, _]) (by rfl) ?_
  refine rx_end0 ?_
  refine SW.ret ?_
  exact retK1 (l := [DeskP d D.tick]) (.cell rfl (by (repeat first|exact .here|apply Take1.there)) (.inr ⟨5, _, Fa.ag_58, Fa.sz_58, rfl, rfl, rfl⟩) .nil) ⟨rfl, rfl⟩ (.cons (.cons (by (repeat first|exact .here|apply Take1.there)) (.cons (by (repeat first|exact .here|apply Take1.there)) (.cons (by (repeat first|exact .here|apply Take1.there)) (.cons (by (repeat first|exact .here|apply Take1.there)) (.cons (by (repeat first|exact .here|apply Take1.there)) .nil))))) (DeskP.mk rfl rfl rfl) .nil)
theorem setRoot (d : Nat) (D : Desk) (hD : D.ok) (v : Ver) : Sl.Spec Tryz.prog 50 #[.pointer (some ⟨d, 0, none⟩), .agg (enc v).toArray] [DeskP d D] (fun u l => u = .tuple #[] ∧ l = [DeskP d { D.tick with root := v }]) := by
  have ha := hD.acc
  refine Spec.enter Tryz.func50 rfl rfl rfl ?_
  refine SW.exH 0 rfl ?_; rintro ⟨pv, rv, q, lv⟩; simp only [List.cons_append, List.nil_append]
  refine SW.seq ?_
  refine SW.reg (l := [.op 0 .e]) rfl ?_
  refine rx_box (.inr rfl) rfl rfl rfl rfl rfl rfl (cl := [_, _, _, _, _]) rfl ?_
  intro b3
  refine rx_end0 ?_
  refine SW.seq ?_
  refine SW.reg (l := [.op 0 .e, .op 1 .e, .op 2 .e, .op 3 .e, .op 4 .e, .op 5 .e, .op 6 .e, .op 7 .e]) rfl ?_
  iterate 2 refine rx_s rfl rfl rfl rfl rfl ?_
  refine rx_fa rfl rfl rfl rfl rfl rfl Fa.fo_128_5 ?_
  refine rx_ldH1 rfl rfl rfl rfl rfl rfl (by (repeat first|exact .here|apply Take1.there)) Fa.ag_3 (by rfl) ?_
  refine rx_ar rfl rfl rfl rfl rfl (by omega) ?_
  refine rx_s rfl rfl rfl rfl rfl ?_
  refine rx_fa rfl rfl rfl rfl rfl rfl Fa.fo_128_5 ?_
  refine rx_stp rfl rfl rfl rfl rfl rfl (by (repeat first|exact .here|apply Take1.there)) Fa.sz_3 (vs := [_]) rfl rfl rfl (by rfl) (cl' := [_, _, _, _, _, _, _, _, _, _]) (by rfl) ?_
  refine rx_end0 ?_
  refine SW.reg (l := [.op 0 .e, .op 1 .e, .op 2 .e, .op 3 .e, .op 4 .e]) rfl ?_
  refine rx_s rfl rfl rfl rfl rfl ?_
  refine rx_ldHA rfl rfl rfl rfl rfl rfl (by (repeat first|exact .here|apply Take1.there)) Fa.ag_58 Fa.sz_58 (vs := [_, _, _, _, _]) (by rfl) rfl ?_
  refine rx_s rfl rfl rfl rfl rfl ?_
  refine rx_fa rfl rfl rfl rfl rfl rfl Fa.fo_128_0 ?_
  refine rx_stp rfl rfl rfl rfl rfl rfl (by (repeat first|exact .here|apply Take1.there)) Fa.sz_58 (vs := [_, _, _, _, _]) rfl rfl rfl (by rfl) (cl' := [_, _, _, _, _, _, _, _, _, _]) (by rfl) ?_
  refine rx_endL ?_
  exact retK0e (l := [DeskP d { D.tick with root := v }]) .nil ⟨rfl, rfl⟩ (.cons (.cons (by (repeat first|exact .here|apply Take1.there)) (.cons (by (repeat first|exact .here|apply Take1.there)) (.cons (by (repeat first|exact .here|apply Take1.there)) (.cons (by (repeat first|exact .here|apply Take1.there)) (.cons (by (repeat first|exact .here|apply Take1.there)) .nil))))) (DeskP.mk rfl rfl rfl) .nil)
theorem setEpoch (d : Nat) (D : Desk) (hD : D.ok) (n : Int) : Sl.Spec Tryz.prog 51 #[.pointer (some ⟨d, 0, none⟩), .int .i64 n] [DeskP d D] (fun u l => u = .tuple #[] ∧ l = [DeskP d { D.tick with epoch := n }]) := by
  have ha := hD.acc
  refine Spec.enter Tryz.func51 rfl rfl rfl ?_
  refine SW.exH 0 rfl ?_; rintro ⟨pv, rv, q, lv⟩; simp only [List.cons_append, List.nil_append]
  refine SW.seq ?_
  refine SW.reg (l := [.op 0 .e, .op 1 .e, .op 2 .e, .op 3 .e, .op 4 .e, .op 5 .e, .op 6 .e, .op 7 .e]) rfl ?_
  iterate 2 refine rx_s rfl rfl rfl rfl rfl ?_
  refine rx_fa rfl rfl rfl rfl rfl rfl Fa.fo_128_5 ?_
  refine rx_ldH1 rfl rfl rfl rfl rfl rfl (by (repeat first|exact .here|apply Take1.there)) Fa.ag_3 (by rfl) ?_
  refine rx_ar rfl rfl rfl rfl rfl (by omega) ?_
  refine rx_s rfl rfl rfl rfl rfl ?_
  refine rx_fa rfl rfl rfl rfl rfl rfl Fa.fo_128_5 ?_
  refine rx_stp rfl rfl rfl rfl rfl rfl (by (repeat first|exact .here|apply Take1.there)) Fa.sz_3 (vs := [_]) rfl rfl rfl (by rfl) (cl' := [_, _, _, _, _, _, _, _, _, _]) (by rfl) ?_
  refine rx_end0 ?_
  refine SW.reg (l := [.op 0 .e, .op 1 .e, .op 2 .e, .op 3 .e, .op 4 .e]) rfl ?_
  iterate 3 refine rx_s rfl rfl rfl rfl rfl ?_
  refine rx_fa rfl rfl rfl rfl rfl rfl Fa.fo_128_1 ?_
  refine rx_stp rfl rfl rfl rfl rfl rfl (by (repeat first|exact .here|apply Take1.there)) Fa.sz_3 (vs := [_]) rfl rfl rfl (by rfl) (cl' := [_, _, _, _, _, _, _, _, _, _]) (by rfl) ?_
  refine rx_endL ?_
  exact retK0e (l := [DeskP d { D.tick with epoch := n }]) .nil ⟨rfl, rfl⟩ (.cons (.cons (by (repeat first|exact .here|apply Take1.there)) (.cons (by (repeat first|exact .here|apply Take1.there)) (.cons (by (repeat first|exact .here|apply Take1.there)) (.cons (by (repeat first|exact .here|apply Take1.there)) (.cons (by (repeat first|exact .here|apply Take1.there)) .nil))))) (DeskP.mk rfl rfl rfl) .nil)
theorem send (d : Nat) (D : Desk) (hD : D.ok) (x : Msg) : Sl.Spec Tryz.prog 52 #[.pointer (some ⟨d, 0, none⟩), .agg (enc x).toArray] [DeskP d D]
    (fun u l => u = .int .i64 (D.ring.put x).2 ∧ l = [DeskP d { D.tick with ring := (D.ring.put x).1 }]) := by
  have ha := hD.acc
  refine Spec.enter Tryz.func52 rfl rfl rfl ?_
  refine SW.exH 0 rfl ?_; rintro ⟨pv, rv, q, lv⟩; simp only [List.cons_append, List.nil_append]
  refine SW.seq ?_
  refine SW.reg (l := [.op 0 .e, .op 1 .e]) rfl ?_
  refine rx_box (.inr rfl) rfl rfl rfl rfl rfl rfl (cl := [_, _, _, _, _, _, _]) rfl ?_
  intro b3
  refine rx_s rfl rfl rfl rfl rfl ?_
  refine rx_end0 ?_
  refine SW.seq ?_
  refine SW.reg (l := [.op 0 .e, .op 1 .e, .op 2 .e, .op 3 .e, .op 4 .e, .op 5 .e, .op 6 .e, .op 7 .e]) rfl ?_
  iterate 2 refine rx_s rfl rfl rfl rfl rfl ?_
  refine rx_fa rfl rfl rfl rfl rfl rfl Fa.fo_128_5 ?_
  refine rx_ldH1 rfl rfl rfl rfl rfl rfl (by (repeat first|exact .here|apply Take1.there)) Fa.ag_3 (by rfl) ?_
  refine rx_ar rfl rfl rfl rfl rfl (by omega) ?_
  refine rx_s rfl rfl rfl rfl rfl ?_
  refine rx_fa rfl rfl rfl rfl rfl rfl Fa.fo_128_5 ?_
  refine rx_stp rfl rfl rfl rfl rfl rfl (by (repeat first|exact .here|apply Take1.there)) Fa.sz_3 (vs := [_]) rfl rfl rfl (by rfl) (cl' := [_, _, _, _, _, _, _, _, _, _]) (by rfl) ?_
  refine rx_end0 ?_
  refine SW.seq ?_
  refine SW.drawT (Hs := [RB q D.ring lv, SlOwn 49 7 lv (flat D.ring.l)]) (D0l := []) (Dl := ?DT469) (F := ?FT469) Fa.mix (tp := [0, 1, 3, 7, 0, 31, 63]) (l := [.op 0 .s, .op 1 .s, .op 2 .s, .op 3 .d, .op 4 .d, .op 5 .e, .op 6 .s]) (by kernel_rfl) ?T469a ?T469b ?_
  case T469a => (repeat (first|exact Take.nil|refine Take.cons (by (repeat first|exact .here|apply Take1.there)) ?_))
  case T469b => (repeat (first|exact Take.nil|refine Take.cons (by (repeat first|exact .here|apply Take1.there)) ?_))
  iterate 2 refine rx_s rfl rfl rfl rfl rfl ?_
  refine rx_fa rfl rfl rfl rfl rfl rfl Fa.fo_128_4 ?_
  refine rx_ldD1 rfl rfl rfl rfl rfl rfl rfl (by (repeat first|exact .here|apply Take1.there)) Fa.ag_119 (by rfl) ?_
  refine rx_ldDA rfl rfl rfl rfl rfl rfl rfl (by (repeat first|exact .here|apply Take1.there)) Fa.ag_49 Fa.sz_49 (vs := [_, _, _, _, _, _, _]) (by rfl) rfl ?_
  refine rx_callH (F := ?FT470) rfl rfl rfl rfl rfl rfl rfl rfl Fa.ca_87 rfl (rput q D.ring lv x hD.ring) ?T470 ?_
  case T470 => (repeat (first|exact Take.nil|refine Take.cons (by (repeat first|exact .here|apply Take1.there)) ?_))
  rintro _ _ ⟨lv', rfl, rfl⟩
  try simp only [List.cons_append, List.nil_append]
  refine rx_s rfl rfl rfl rfl rfl ?_
  refine rx_endD ?_
  try simp only [List.cons_append, List.nil_append]
  refine SW.ret ?_
  exact retK1 (l := [DeskP d { D.tick with ring := (D.ring.put x).1 }]) (.tmp rfl .nil) ⟨rfl, rfl⟩ (.cons (.cons (by (repeat first|exact .here|apply Take1.there)) (.cons (by (repeat first|exact .here|apply Take1.there)) (.cons (by (repeat first|exact .here|apply Take1.there)) (.cons (by (repeat first|exact .here|apply Take1.there)) (.cons (by (repeat first|exact .here|apply Take1.there)) .nil))))) (DeskP.mk rfl rfl rfl) .nil)
theorem shut (d : Nat) (D : Desk) (hD : D.ok) : Sl.Spec Tryz.prog 18 #[.pointer (some ⟨d, 0, none⟩)] [DeskP d D] (fun u l => u = .tuple #[] ∧ l = [DeskP d { D.tick with ring := { D.ring with closed := true } }]) := by
  have ha := hD.acc
  refine Spec.enter Tryz.func18 rfl rfl rfl ?_
  refine SW.exH 0 rfl ?_; rintro ⟨pv, rv, q, lv⟩; simp only [List.cons_append, List.nil_append]
  refine SW.slshape 4 rfl ?_
  rintro p1 m1 c1 rfl hm1
  refine SW.seq ?_
  refine SW.reg (l := [.op 0 .e, .op 1 .e, .op 2 .e, .op 3 .e, .op 4 .e, .op 5 .e, .op 6 .e, .op 7 .e]) rfl ?_
  iterate 2 refine rx_s rfl rfl rfl rfl rfl ?_
  refine rx_fa rfl rfl rfl rfl rfl rfl Fa.fo_128_5 ?_
  refine rx_ldH1 rfl rfl rfl rfl rfl rfl (by (repeat first|exact .here|apply Take1.there)) Fa.ag_3 (by rfl) ?_
  refine rx_ar rfl rfl rfl rfl rfl (by omega) ?_
  refine rx_s rfl rfl rfl rfl rfl ?_
  refine rx_fa rfl rfl rfl rfl rfl rfl Fa.fo_128_5 ?_
  refine rx_stp rfl rfl rfl rfl rfl rfl (by (repeat first|exact .here|apply Take1.there)) Fa.sz_3 (vs := [_]) rfl rfl rfl (by rfl) (cl' := [_, _, _, _, _, _, _, _, _, _]) (by rfl) ?_
  refine rx_end0 ?_
  refine SW.reg (l := [.op 0 .e, .op 1 .e, .op 2 .e, .op 3 .e, .op 4 .e]) rfl ?_
  iterate 2 refine rx_s rfl rfl rfl rfl rfl ?_
  refine rx_fa rfl rfl rfl rfl rfl rfl Fa.fo_128_4 ?_
  refine rx_ldH1 rfl rfl rfl rfl rfl rfl (by (repeat first|exact .here|apply Take1.there)) Fa.ag_119 (by rfl) ?_
  refine rx_callH (F := ?FT471) rfl rfl rfl rfl rfl rfl rfl rfl Fa.ca_64 rfl (rclose q D.ring (.slice p1 m1 c1) rfl) ?T471 ?_
  case T471 => (repeat (first|exact Take.nil|refine Take.cons (by (repeat first|exact .here|apply Take1.there)) ?_))
  rintro _ _ ⟨rfl, rfl⟩
  try simp only [List.cons_append, List.nil_append]
  refine rx_endL ?_
  exact retK0e (l := [DeskP d { D.tick with ring := { D.ring with closed := true } }]) .nil ⟨rfl, rfl⟩ (.cons (.cons (by (repeat first|exact .here|apply Take1.there)) (.cons (by (repeat first|exact .here|apply Take1.there)) (.cons (by (repeat first|exact .here|apply Take1.there)) (.cons (by (repeat first|exact .here|apply Take1.there)) (.cons (by (repeat first|exact .here|apply Take1.there)) .nil))))) (DeskP.mk rfl rfl rfl) .nil)
theorem atI (b off : Nat) (cl : List Value) (T : TypeId) (fz : Nat × Nat) (bp len cap : Nat) (i : Int) (hc : cl[off]? = some (.slice (some ⟨bp, 0, none⟩) len cap)) (h0 : 0 ≤ i) (h1 : i < len) :
    Sl.Spec Tryz.prog 88 #[.pointer (some ⟨b, off, none⟩), .int .i64 i] [blk b cl T fz] (fun v l => v = .pointer (some ⟨bp, i.toNat * 1, none⟩) ∧ l = [blk b cl T fz]) := by
  refine Spec.enter Tryz.func88 rfl rfl rfl ?_
  refine SW.seq ?_
  refine SW.reg (l := [.op 0 .e]) rfl ?_
  refine rx_s rfl rfl rfl rfl rfl ?_
  refine rx_end0 ?_
  refine SW.seq ?_
  refine SW.seq ?_
  refine SW.reg (l := [.op 0 .e, .op 1 .e, .op 2 .e, .op 3 .e, .op 4 .e, .op 5 .e, .op 6 .e, .op 7 .e, .op 8 .e, .op 9 .e, .op 10 .e]) rfl ?_
  iterate 3 refine rx_s rfl rfl rfl rfl rfl ?_
  refine rx_split (t := 7) rfl (fun g7 => ?_) (fun g7 => ?_)
  · (simp at g7; omega)
  · skip
    iterate 3 refine rx_s rfl rfl rfl rfl rfl ?_
    refine rx_fa rfl rfl rfl rfl rfl rfl Fa.fo_123_0 ?_
    refine rx_ldH1 rfl rfl rfl rfl rfl rfl (by (repeat first|exact .here|apply Take1.there)) Fa.ag_121 (by exact hc) ?_
    refine rx_len rfl rfl rfl rfl rfl rfl (lenV_sl Fa.sl_121 _ _ _) ?_
    iterate 2 refine rx_s rfl rfl rfl rfl rfl ?_
    refine rx_end0 ?_
    refine SW.cond rfl (fun h15 => ?_) (fun h15 => ?_)
    · (simp at h15; omega)
    · skip
      refine SW.skip ?_
      try simp only [thenK, blockK, cond_true, cond_false, beq_self_eq_true, Nat.reduceBEq]
      refine SW.seq ?_
      refine SW.reg (l := [.op 0 .e, .op 1 .e, .op 2 .e, .op 3 .e, .op 4 .e, .op 5 .e, .op 6 .e]) rfl ?_
      iterate 2 refine rx_s rfl rfl rfl rfl rfl ?_
      refine rx_fa rfl rfl rfl rfl rfl rfl Fa.fo_123_0 ?_
      refine rx_ldH1 rfl rfl rfl rfl rfl rfl (by (repeat first|exact .here|apply Take1.there)) Fa.ag_121 (by exact hc) ?_
      refine rx_s rfl rfl rfl rfl rfl ?_
      refine rx_ix rfl rfl rfl rfl rfl Fa.sl_121 rfl rfl (by omega) ?_
      refine rx_s rfl rfl rfl rfl rfl ?_
      refine rx_end0 ?_
      refine SW.ret ?_
      exact retK1 (l := [_]) (.tmp rfl .nil) ⟨by simp, rfl⟩ (.one (by (repeat first|exact .here|apply Take1.there)) .nil)
theorem atR (b off : Nat) (cl : List Value) (T : TypeId) (fz : Nat × Nat) (bp len cap : Nat) (i : Int) (hc : cl[off]? = some (.slice (some ⟨bp, 0, none⟩) len cap)) (h0 : 0 ≤ i) (h1 : i < len) :
    Sl.Spec Tryz.prog 70 #[.pointer (some ⟨b, off, none⟩), .int .i64 i] [blk b cl T fz] (fun v l => v = .pointer (some ⟨bp, i.toNat * 6, none⟩) ∧ l = [blk b cl T fz]) := by
  refine Spec.enter Tryz.func70 rfl rfl rfl ?_
  refine SW.seq ?_
  refine SW.reg (l := [.op 0 .e]) rfl ?_
  refine rx_s rfl rfl rfl rfl rfl ?_
  refine rx_end0 ?_
  refine SW.seq ?_
  refine SW.seq ?_
  refine SW.reg (l := [.op 0 .e, .op 1 .e, .op 2 .e, .op 3 .e, .op 4 .e, .op 5 .e, .op 6 .e, .op 7 .e, .op 8 .e, .op 9 .e, .op 10 .e]) rfl ?_
  iterate 3 refine rx_s rfl rfl rfl rfl rfl ?_
  refine rx_split (t := 7) rfl (fun g7 => ?_) (fun g7 => ?_)
  · (simp at g7; omega)
  · skip
    iterate 3 refine rx_s rfl rfl rfl rfl rfl ?_
    refine rx_fa rfl rfl rfl rfl rfl rfl Fa.fo_126_0 ?_
    refine rx_ldH1 rfl rfl rfl rfl rfl rfl (by (repeat first|exact .here|apply Take1.there)) Fa.ag_124 (by exact hc) ?_
    refine rx_len rfl rfl rfl rfl rfl rfl (lenV_sl Fa.sl_124 _ _ _) ?_
    iterate 2 refine rx_s rfl rfl rfl rfl rfl ?_
    refine rx_end0 ?_
    refine SW.cond rfl (fun h15 => ?_) (fun h15 => ?_)
    · (simp at h15; omega)
    · skip
      refine SW.skip ?_
      try simp only [thenK, blockK, cond_true, cond_false, beq_self_eq_true, Nat.reduceBEq]
      refine SW.seq ?_
      refine SW.reg (l := [.op 0 .e, .op 1 .e, .op 2 .e, .op 3 .e, .op 4 .e, .op 5 .e, .op 6 .e]) rfl ?_
      iterate 2 refine rx_s rfl rfl rfl rfl rfl ?_
      refine rx_fa rfl rfl rfl rfl rfl rfl Fa.fo_126_0 ?_
      refine rx_ldH1 rfl rfl rfl rfl rfl rfl (by (repeat first|exact .here|apply Take1.there)) Fa.ag_124 (by exact hc) ?_
      refine rx_s rfl rfl rfl rfl rfl ?_
      refine rx_ix rfl rfl rfl rfl rfl Fa.sl_124 rfl rfl (by omega) ?_
      refine rx_s rfl rfl rfl rfl rfl ?_
      refine rx_end0 ?_
      refine SW.ret ?_
      exact retK1 (l := [_]) (.tmp rfl .nil) ⟨by simp, rfl⟩ (.one (by (repeat first|exact .here|apply Take1.there)) .nil)
theorem foldP {d q : Nat} {D : Desk} {pv rv lv : Value} {l : List HProp} (h : EntL l [DB d q D pv rv, SlOwn 3 1 pv (flat D.pins), SlOwn 141 6 rv (flat D.reps), RB q D.ring lv, SlOwn 49 7 lv (flat D.ring.l)]) : EntL l [DeskP d D] :=
  EntL.fold (ps := [DB d q D pv rv, SlOwn 3 1 pv (flat D.pins), SlOwn 141 6 rv (flat D.reps), RB q D.ring lv, SlOwn 49 7 lv (flat D.ring.l)]) (l' := []) h (DeskP.mk rfl rfl rfl)
theorem pin (d : Nat) (D : Desk) (hD : D.ok) (i x : Int) (h0 : 0 ≤ i) (hp : D.pins[i.toNat]? = some x) : Sl.Spec Tryz.prog 55 #[.pointer (some ⟨d, 0, none⟩), .int .i64 i] [DeskP d D] (fun v l => v = .int .i64 x ∧ l = [DeskP d D.tick]) := by
  have ha := hD.acc
  refine Spec.enter Tryz.func55 rfl rfl rfl ?_
  refine SW.exH 0 rfl ?_; rintro ⟨pv, rv, q, lv⟩; simp only [List.cons_append, List.nil_append]
  refine SW.slopen 1 rfl (fun _ hx => absurd hx (flat_ne hp (by decide))) ?_
  intro bp len cap rest hv e1 e2 e3 e4
  subst hv
  have hi := (List.getElem?_eq_some_iff.1 hp).1
  rw [flat_len, show Enc.n Int = 1 from rfl] at e1 e2
  refine SW.seq ?_
  refine SW.reg (l := [.op 0 .e]) rfl ?_
  refine rx_s rfl rfl rfl rfl rfl ?_
  refine rx_end0 ?_
  refine SW.seq ?_
  refine SW.reg (l := [.op 0 .e, .op 1 .e, .op 2 .e, .op 3 .e, .op 4 .e, .op 5 .e, .op 6 .e, .op 7 .e]) rfl ?_
  iterate 2 refine rx_s rfl rfl rfl rfl rfl ?_
  refine rx_fa rfl rfl rfl rfl rfl rfl Fa.fo_128_5 ?_
  refine rx_ldH1 rfl rfl rfl rfl rfl rfl (by (repeat first|exact .here|apply Take1.there)) Fa.ag_3 (by rfl) ?_
  refine rx_ar rfl rfl rfl rfl rfl (by omega) ?_
  refine rx_s rfl rfl rfl rfl rfl ?_
  refine rx_fa rfl rfl rfl rfl rfl rfl Fa.fo_128_5 ?_
  refine rx_stp rfl rfl rfl rfl rfl rfl (by (repeat first|exact .here|apply Take1.there)) Fa.sz_3 (vs := [_]) rfl rfl rfl (by rfl) (cl' := [_, _, _, _, _, _, _, _, _, _]) (by rfl) ?_
  refine rx_end0 ?_
  refine SW.seq ?_
  refine SW.seq ?_
  refine SW.reg (l := [.op 0 .e, .op 1 .e, .op 2 .e, .op 3 .e, .op 4 .e, .op 5 .e]) rfl ?_
  iterate 2 refine rx_s rfl rfl rfl rfl rfl ?_
  refine rx_fa rfl rfl rfl rfl rfl rfl Fa.fo_128_2 ?_
  refine rx_s rfl rfl rfl rfl rfl ?_
  refine rx_callH (F := ?FT472) rfl rfl rfl rfl rfl rfl rfl rfl Fa.ca_88 rfl (atI d 6 (dcells q D.tick (.slice (some ⟨bp, 0, none⟩) len cap) rv) 128 (0, 0) bp len cap i rfl h0 (by omega)) ?T472 ?_
  case T472 => (repeat (first|exact Take.nil|refine Take.cons (by (repeat first|exact .here|apply Take1.there)) ?_))
  rintro _ _ ⟨rfl, rfl⟩
  try simp only [List.cons_append, List.nil_append]
  refine rx_s rfl rfl rfl rfl rfl ?_
  refine rx_end0 ?_
  refine SW.seq ?_
  refine SW.reg (l := [.op 0 .e, .op 1 .e]) rfl ?_
  refine rx_s rfl rfl rfl rfl rfl ?_
  refine rx_nenil rfl rfl rfl rfl rfl Fa.pt_173 rfl ?_
  refine rx_end0 ?_
  refine SW.cond (b := true) rfl (fun _ => ?_) (fun h => nomatch h)
  refine SW.seq ?_
  refine SW.reg (l := [.op 0 .e, .op 1 .e, .op 2 .e, .op 3 .e]) rfl ?_
  iterate 2 refine rx_s rfl rfl rfl rfl rfl ?_
  refine rx_ldH1 rfl rfl rfl rfl rfl rfl (by (repeat first|exact .here|apply Take1.there)) Fa.ag_3 (by exact flat_get hp (j := 0) (by decide) rfl rest) ?_
  refine rx_s rfl rfl rfl rfl rfl ?_
  refine rx_end0 ?_
  refine SW.ret ?_
  exact retK1 (l := [DeskP d D.tick]) (.tmp rfl .nil) ⟨rfl, rfl⟩ (foldP (pv := .slice (some ⟨bp, 0, none⟩) len cap) (D := D.tick) (.one (by (repeat first|exact .here|apply Take1.there)) (slown_mk (xs := flat D.pins) (rest := rest) (by (repeat first|exact .here|apply Take1.there)) rfl e4 (by rw [flat_len]; exact e1) (by rw [flat_len]; exact e2) e3 (.one (by (repeat first|exact .here|apply Take1.there)) (.one (by (repeat first|exact .here|apply Take1.there)) (.one (by (repeat first|exact .here|apply Take1.there)) .nil))))))
theorem setPin (d : Nat) (D : Desk) (hD : D.ok) (i x y : Int) (h0 : 0 ≤ i) (hp : D.pins[i.toNat]? = some x) : Sl.Spec Tryz.prog 53 #[.pointer (some ⟨d, 0, none⟩), .int .i64 i, .int .i64 y] [DeskP d D]
    (fun v l => v = .tuple #[] ∧ l = [DeskP d { D.tick with pins := D.pins.set i.toNat y }]) := by
  have ha := hD.acc
  refine Spec.enter Tryz.func53 rfl rfl rfl ?_
  refine SW.exH 0 rfl ?_; rintro ⟨pv, rv, q, lv⟩; simp only [List.cons_append, List.nil_append]
  refine SW.slopen 1 rfl (fun _ hx => absurd hx (flat_ne hp (by decide))) ?_
  intro bp len cap rest hv e1 e2 e3 e4
  subst hv
  have hi := (List.getElem?_eq_some_iff.1 hp).1
  rw [flat_len, show Enc.n Int = 1 from rfl] at e1 e2
  refine SW.seq ?_
  refine SW.reg (l := [.op 0 .e, .op 1 .e, .op 2 .e, .op 3 .e, .op 4 .e, .op 5 .e, .op 6 .e, .op 7 .e]) rfl ?_
  iterate 2 refine rx_s rfl rfl rfl rfl rfl ?_
  refine rx_fa rfl rfl rfl rfl rfl rfl Fa.fo_128_5 ?_
  refine rx_ldH1 rfl rfl rfl rfl rfl rfl (by (repeat first|exact .here|apply Take1.there)) Fa.ag_3 (by rfl) ?_
  refine rx_ar rfl rfl rfl rfl rfl (by omega) ?_
  refine rx_s rfl rfl rfl rfl rfl ?_
  refine rx_fa rfl rfl rfl rfl rfl rfl Fa.fo_128_5 ?_
  refine rx_stp rfl rfl rfl rfl rfl rfl (by (repeat first|exact .here|apply Take1.there)) Fa.sz_3 (vs := [_]) rfl rfl rfl (by rfl) (cl' := [_, _, _, _, _, _, _, _, _, _]) (by rfl) ?_
  refine rx_end0 ?_
  refine SW.seq ?_
  refine SW.reg (l := [.op 0 .e, .op 1 .e, .op 2 .e, .op 3 .e, .op 4 .e, .op 5 .e]) rfl ?_
  iterate 2 refine rx_s rfl rfl rfl rfl rfl ?_
  refine rx_fa rfl rfl rfl rfl rfl rfl Fa.fo_128_2 ?_
  refine rx_s rfl rfl rfl rfl rfl ?_
  refine rx_callH (F := ?FT473) rfl rfl rfl rfl rfl rfl rfl rfl Fa.ca_88 rfl (atI d 6 (dcells q D.tick (.slice (some ⟨bp, 0, none⟩) len cap) rv) 128 (0, 0) bp len cap i rfl h0 (by omega)) ?T473 ?_
  case T473 => (repeat (first|exact Take.nil|refine Take.cons (by (repeat first|exact .here|apply Take1.there)) ?_))
  rintro _ _ ⟨rfl, rfl⟩
  try simp only [List.cons_append, List.nil_append]
  refine rx_s rfl rfl rfl rfl rfl ?_
  refine rx_end0 ?_
  refine SW.seq ?_
  refine SW.reg (l := [.op 0 .e, .op 1 .e]) rfl ?_
  refine rx_s rfl rfl rfl rfl rfl ?_
  refine rx_nenil rfl rfl rfl rfl rfl Fa.pt_173 rfl ?_
  refine rx_end0 ?_
  refine SW.cond (b := true) rfl (fun _ => ?_) (fun h => nomatch h)
  refine SW.reg (l := [.op 0 .e, .op 1 .e, .op 2 .e, .op 3 .e]) rfl ?_
  iterate 3 refine rx_s rfl rfl rfl rfl rfl ?_
  refine rx_stp rfl rfl rfl rfl rfl rfl (by (repeat first|exact .here|apply Take1.there)) Fa.sz_3 (vs := [_]) rfl rfl rfl (by exact flat_fit hp (j := 0) (by decide) rfl rest) (cl' := _) (by exact flat_put (a' := y) hp (j := 0) (Nat.le_of_ble_eq_true rfl) rfl rfl rest) ?_
  refine rx_endL ?_
  exact retK0e (l := [DeskP d { D.tick with pins := D.pins.set i.toNat y }]) .nil ⟨rfl, rfl⟩ (foldP (pv := .slice (some ⟨bp, 0, none⟩) len cap) (D := { D.tick with pins := D.pins.set i.toNat y }) (.one (by (repeat first|exact .here|apply Take1.there)) (slown_mk (xs := flat (D.pins.set i.toNat y)) (rest := rest) (by (repeat first|exact .here|apply Take1.there)) rfl (flat_one _) (by rw [flat_len, List.length_set]; exact e1) (by rw [flat_len, List.length_set]; exact e2) e3 (.one (by (repeat first|exact .here|apply Take1.there)) (.one (by (repeat first|exact .here|apply Take1.there)) (.one (by (repeat first|exact .here|apply Take1.there)) .nil))))))
theorem setReply (d : Nat) (D : Desk) (hD : D.ok) (i : Int) (x : Rep) (y : Ans) (h0 : 0 ≤ i) (hp : D.reps[i.toNat]? = some x) : Sl.Spec Tryz.prog 29 #[.pointer (some ⟨d, 0, none⟩), .int .i64 i, .agg (enc y).toArray] [DeskP d D]
    (fun v l => v = .tuple #[] ∧ l = [DeskP d { D.tick with reps := D.reps.set i.toNat ⟨y, true⟩ }]) := by
  have ha := hD.acc
  refine Spec.enter Tryz.func29 rfl rfl rfl ?_
  refine SW.exH 0 rfl ?_; rintro ⟨pv, rv, q, lv⟩; simp only [List.cons_append, List.nil_append]
  refine SW.slopen 2 rfl (fun _ hx => absurd hx (flat_ne hp (by decide))) ?_
  intro bp len cap rest hv e1 e2 e3 e4
  subst hv
  have hi := (List.getElem?_eq_some_iff.1 hp).1
  rw [flat_len, show Enc.n Rep = 6 from rfl] at e1 e2
  refine SW.seq ?_
  refine SW.reg (l := [.op 0 .e]) rfl ?_
  refine rx_box (.inr rfl) rfl rfl rfl rfl rfl rfl (cl := [_, _, _, _, _]) rfl ?_
  intro b5
  refine rx_end0 ?_
  refine SW.seq ?_
  refine SW.reg (l := [.op 0 .e, .op 1 .e, .op 2 .e, .op 3 .e, .op 4 .e, .op 5 .e, .op 6 .e, .op 7 .e]) rfl ?_
  iterate 2 refine rx_s rfl rfl rfl rfl rfl ?_
  refine rx_fa rfl rfl rfl rfl rfl rfl Fa.fo_128_5 ?_
  refine rx_ldH1 rfl rfl rfl rfl rfl rfl (by (repeat first|exact .here|apply Take1.there)) Fa.ag_3 (by rfl) ?_
  refine rx_ar rfl rfl rfl rfl rfl (by omega) ?_
  refine rx_s rfl rfl rfl rfl rfl ?_
  refine rx_fa rfl rfl rfl rfl rfl rfl Fa.fo_128_5 ?_
  refine rx_stp rfl rfl rfl rfl rfl rfl (by (repeat first|exact .here|apply Take1.there)) Fa.sz_3 (vs := [_]) rfl rfl rfl (by rfl) (cl' := [_, _, _, _, _, _, _, _, _, _]) (by rfl) ?_
  refine rx_end0 ?_
  refine SW.seq ?_
  refine SW.reg (l := [.op 0 .e, .op 1 .e, .op 2 .e, .op 3 .e, .op 4 .e, .op 5 .e]) rfl ?_
  iterate 2 refine rx_s rfl rfl rfl rfl rfl ?_
  refine rx_fa rfl rfl rfl rfl rfl rfl Fa.fo_128_3 ?_
  refine rx_s rfl rfl rfl rfl rfl ?_
  refine rx_callH (F := ?FT474) rfl rfl rfl rfl rfl rfl rfl rfl Fa.ca_70 rfl (atR d 7 (dcells q D.tick pv (.slice (some ⟨bp, 0, none⟩) len cap)) 128 (0, 0) bp len cap i rfl h0 (by omega)) ?T474 ?_
  case T474 => (repeat (first|exact Take.nil|refine Take.cons (by (repeat first|exact .here|apply Take1.there)) ?_))
  rintro _ _ ⟨rfl, rfl⟩
  try simp only [List.cons_append, List.nil_append]
  refine rx_s rfl rfl rfl rfl rfl ?_
  refine rx_end0 ?_
  refine SW.seq ?_
  refine SW.reg (l := [.op 0 .e, .op 1 .e]) rfl ?_
  refine rx_s rfl rfl rfl rfl rfl ?_
  refine rx_nenil rfl rfl rfl rfl rfl Fa.pt_138 rfl ?_
  refine rx_end0 ?_
  refine SW.cond (b := true) rfl (fun _ => ?_) (fun h => nomatch h)
  refine SW.reg (l := [.op 0 .e, .op 1 .e, .op 2 .e, .op 3 .e, .op 4 .e]) rfl ?_
  refine rx_s rfl rfl rfl rfl rfl ?_
  refine rx_ldHA rfl rfl rfl rfl rfl rfl (by (repeat first|exact .here|apply Take1.there)) Fa.ag_28 Fa.sz_28 (vs := [_, _, _, _, _]) (by rfl) rfl ?_
  refine rx_build rfl rfl rfl rfl rfl Fa.st_141 rfl (cs := [_, _, _, _, _, _]) rfl ?_
  refine rx_s rfl rfl rfl rfl rfl ?_
  refine rx_stp rfl rfl rfl rfl rfl rfl (by (repeat first|exact .here|apply Take1.there)) Fa.sz_141 (vs := [_, _, _, _, _, _]) rfl rfl rfl (by exact flat_fit hp (j := 0) (by decide) rfl rest) (cl' := _) (by exact flat_put (a' := (⟨y, true⟩ : Rep)) hp (j := 0) (Nat.le_of_ble_eq_true rfl) rfl rfl rest) ?_
  refine rx_endL ?_
  exact retK0e (l := [DeskP d { D.tick with reps := D.reps.set i.toNat ⟨y, true⟩ }]) .nil ⟨rfl, rfl⟩ (foldP (rv := .slice (some ⟨bp, 0, none⟩) len cap) (D := { D.tick with reps := D.reps.set i.toNat ⟨y, true⟩ }) (.one (by (repeat first|exact .here|apply Take1.there)) (.one (by (repeat first|exact .here|apply Take1.there)) (slown_mk (xs := flat (D.reps.set i.toNat ⟨y, true⟩)) (rest := rest) (by (repeat first|exact .here|apply Take1.there)) rfl (flat_one _) (by rw [flat_len, List.length_set]; exact e1) (by rw [flat_len, List.length_set]; exact e2) e3 (.one (by (repeat first|exact .here|apply Take1.there)) (.one (by (repeat first|exact .here|apply Take1.there)) .nil))))))
theorem has (d : Nat) (D : Desk) (i : Int) (x : Rep) (h0 : 0 ≤ i) (hp : D.reps[i.toNat]? = some x) : Sl.Spec Tryz.prog 30 #[.pointer (some ⟨d, 0, none⟩), .int .i64 i] [DeskP d D] (fun v l => v = .bool x.lies ∧ l = [DeskP d D]) := by
  refine Spec.enter Tryz.func30 rfl rfl rfl ?_
  refine SW.exH 0 rfl ?_; rintro ⟨pv, rv, q, lv⟩; simp only [List.cons_append, List.nil_append]
  refine SW.slopen 2 rfl (fun _ hx => absurd hx (flat_ne hp (by decide))) ?_
  intro bp len cap rest hv e1 e2 e3 e4
  subst hv
  have hi := (List.getElem?_eq_some_iff.1 hp).1
  rw [flat_len, show Enc.n Rep = 6 from rfl] at e1 e2
  refine SW.seq ?_
  refine SW.reg (l := [.op 0 .e]) rfl ?_
  refine rx_s rfl rfl rfl rfl rfl ?_
  refine rx_end0 ?_
  refine SW.seq ?_
  refine SW.reg (l := [.op 0 .e, .op 1 .e, .op 2 .e, .op 3 .e, .op 4 .e, .op 5 .e]) rfl ?_
  iterate 2 refine rx_s rfl rfl rfl rfl rfl ?_
  refine rx_fa rfl rfl rfl rfl rfl rfl Fa.fo_128_3 ?_
  refine rx_s rfl rfl rfl rfl rfl ?_
  refine rx_callH (F := ?FT475) rfl rfl rfl rfl rfl rfl rfl rfl Fa.ca_70 rfl (atR d 7 (dcells q D pv (.slice (some ⟨bp, 0, none⟩) len cap)) 128 (0, 0) bp len cap i rfl h0 (by omega)) ?T475 ?_
  case T475 => (repeat (first|exact Take.nil|refine Take.cons (by (repeat first|exact .here|apply Take1.there)) ?_))
  rintro _ _ ⟨rfl, rfl⟩
  try simp only [List.cons_append, List.nil_append]
  refine rx_s rfl rfl rfl rfl rfl ?_
  refine rx_end0 ?_
  refine SW.seq ?_
  refine SW.reg (l := [.op 0 .e, .op 1 .e, .op 2 .e, .op 3 .e, .op 4 .e, .op 5 .e, .op 6 .e, .op 7 .e, .op 8 .e]) rfl ?_
  refine rx_s rfl rfl rfl rfl rfl ?_
  refine rx_nenil rfl rfl rfl rfl rfl Fa.pt_138 rfl ?_
  iterate 3 refine rx_s rfl rfl rfl rfl rfl ?_
  refine rx_fa rfl rfl rfl rfl rfl rfl Fa.fo_141_1 ?_
  refine rx_ldH1 rfl rfl rfl rfl rfl rfl (by (repeat first|exact .here|apply Take1.there)) Fa.ag_4 (by exact flat_get hp (j := 5) (by decide) rfl rest) ?_
  iterate 2 refine rx_s rfl rfl rfl rfl rfl ?_
  refine rx_end0 ?_
  refine SW.ret ?_
  exact retK1 (l := [DeskP d D]) (.tmp rfl .nil) ⟨rfl, rfl⟩ (foldP (rv := .slice (some ⟨bp, 0, none⟩) len cap) (D := D) (.one (by (repeat first|exact .here|apply Take1.there)) (.one (by (repeat first|exact .here|apply Take1.there)) (slown_mk (xs := flat D.reps) (rest := rest) (by (repeat first|exact .here|apply Take1.there)) rfl e4 (by rw [flat_len]; exact e1) (by rw [flat_len]; exact e2) e3 (.one (by (repeat first|exact .here|apply Take1.there)) (.one (by (repeat first|exact .here|apply Take1.there)) .nil))))))
theorem reply (d : Nat) (D : Desk) (hD : D.ok) (i : Int) (x : Rep) (h0 : 0 ≤ i) (hp : D.reps[i.toNat]? = some x) (hl : x.lies = true) : Sl.Spec Tryz.prog 148 #[.pointer (some ⟨d, 0, none⟩), .int .i64 i] [DeskP d D]
    (fun v l => v = .tuple #[.agg (enc x.a).toArray, .bool true] ∧ l = [DeskP d { D.tick with reps := D.reps.set i.toNat Rep.zero }]) := by
  have ha := hD.acc
  refine Spec.enter Tryz.func148 rfl rfl rfl ?_
  refine SW.exH 0 rfl ?_; rintro ⟨pv, rv, q, lv⟩; simp only [List.cons_append, List.nil_append]
  refine SW.slopen 2 rfl (fun _ hx => absurd hx (flat_ne hp (by decide))) ?_
  intro bp len cap rest hv e1 e2 e3 e4
  subst hv
  have hi := (List.getElem?_eq_some_iff.1 hp).1
  rw [flat_len, show Enc.n Rep = 6 from rfl] at e1 e2
  refine SW.seq ?_
  refine SW.reg (l := [.op 0 .e, .op 1 .e]) rfl ?_
  refine rx_alloc (.inr rfl) rfl rfl rfl rfl rfl Fa.z_28 ?_
  intro b4
  refine rx_s rfl rfl rfl rfl rfl ?_
  refine rx_end0 ?_
  refine SW.seq ?_
  refine SW.reg (l := [.op 0 .e, .op 1 .e, .op 2 .e, .op 3 .e, .op 4 .e, .op 5 .e, .op 6 .e, .op 7 .e]) rfl ?_
  iterate 2 refine rx_s rfl rfl rfl rfl rfl ?_
  refine rx_fa rfl rfl rfl rfl rfl rfl Fa.fo_128_5 ?_
  refine rx_ldH1 rfl rfl rfl rfl rfl rfl (by (repeat first|exact .here|apply Take1.there)) Fa.ag_3 (by rfl) ?_
  refine rx_ar rfl rfl rfl rfl rfl (by omega) ?_
  refine rx_s rfl rfl rfl rfl rfl ?_
  refine rx_fa rfl rfl rfl rfl rfl rfl Fa.fo_128_5 ?_
  refine rx_stp rfl rfl rfl rfl rfl rfl (by (repeat first|exact .here|apply Take1.there)) Fa.sz_3 (vs := [_]) rfl rfl rfl (by rfl) (cl' := [_, _, _, _, _, _, _, _, _, _]) (by rfl) ?_
  refine rx_end0 ?_
  refine SW.seq ?_
  refine SW.reg (l := [.op 0 .e, .op 1 .e, .op 2 .e, .op 3 .e, .op 4 .e, .op 5 .e]) rfl ?_
  iterate 2 refine rx_s rfl rfl rfl rfl rfl ?_
  refine rx_fa rfl rfl rfl rfl rfl rfl Fa.fo_128_3 ?_
  refine rx_s rfl rfl rfl rfl rfl ?_
  refine rx_callH (F := ?FT476) rfl rfl rfl rfl rfl rfl rfl rfl Fa.ca_70 rfl (atR d 7 (dcells q D.tick pv (.slice (some ⟨bp, 0, none⟩) len cap)) 128 (0, 0) bp len cap i rfl h0 (by omega)) ?T476 ?_
  case T476 => (repeat (first|exact Take.nil|refine Take.cons (by (repeat first|exact .here|apply Take1.there)) ?_))
  rintro _ _ ⟨rfl, rfl⟩
  try simp only [List.cons_append, List.nil_append]
  refine rx_s rfl rfl rfl rfl rfl ?_
  refine rx_end0 ?_
  refine SW.seq ?_
  refine SW.seq ?_
  refine SW.reg (l := [.op 0 .e, .op 1 .e, .op 2 .e, .op 3 .e, .op 4 .e, .op 5 .e, .op 6 .e, .op 7 .e, .op 8 .e]) rfl ?_
  refine rx_s rfl rfl rfl rfl rfl ?_
  refine rx_eqnil rfl rfl rfl rfl rfl Fa.pt_138 rfl ?_
  iterate 3 refine rx_s rfl rfl rfl rfl rfl ?_
  refine rx_fa rfl rfl rfl rfl rfl rfl Fa.fo_141_1 ?_
  refine rx_ldH1 rfl rfl rfl rfl rfl rfl (by (repeat first|exact .here|apply Take1.there)) Fa.ag_4 (by exact flat_get hp (j := 5) (by decide) rfl rest) ?_
  iterate 2 refine rx_s rfl rfl rfl rfl rfl ?_
  refine rx_end0 ?_
  refine SW.cond rfl (fun h28 => ?_) (fun h28 => ?_)
  · simp [hl] at h28
  · skip
    refine SW.skip ?_
    try simp only [thenK, blockK, cond_true, cond_false, beq_self_eq_true, Nat.reduceBEq]
    refine SW.seq ?_
    refine SW.reg (l := [.op 0 .e, .op 1 .e, .op 2 .e, .op 3 .e, .op 4 .e, .op 5 .e]) rfl ?_
    iterate 2 refine rx_s rfl rfl rfl rfl rfl ?_
    refine rx_fa rfl rfl rfl rfl rfl rfl Fa.fo_141_0 ?_
    refine rx_ldHA rfl rfl rfl rfl rfl rfl (by (repeat first|exact .here|apply Take1.there)) Fa.ag_28 Fa.sz_28 (vs := [_, _, _, _, _]) (by exact flat_drop hp (j := 0) (by decide) rfl rest) rfl ?_
    refine rx_alloc (.inr rfl) rfl rfl rfl rfl rfl Fa.z_28 ?_
    intro b7
    refine rx_stp rfl rfl rfl rfl rfl rfl (by (repeat first|exact .here|apply Take1.there)) Fa.sz_28 (vs := [_, _, _, _, _]) rfl rfl rfl (by rfl) (cl' := [_, _, _, _, _]) (by rfl) ?_
    refine rx_end0 ?_
    refine SW.seq ?_
    refine SW.reg (l := [.op 0 .e, .op 1 .e, .op 2 .e, .op 3 .e]) rfl ?_
    refine rx_s rfl rfl rfl rfl rfl ?_
    refine rx_build rfl rfl rfl rfl rfl Fa.st_141 rfl (cs := [_, _, _, _, _, _]) rfl ?_
    refine rx_s rfl rfl rfl rfl rfl ?_
    refine rx_stp rfl rfl rfl rfl rfl rfl (by (repeat first|exact .here|apply Take1.there)) Fa.sz_141 (vs := [_, _, _, _, _, _]) rfl rfl rfl (by exact flat_fit hp (j := 0) (by decide) rfl rest) (cl' := _) (by exact flat_put (a' := Rep.zero) hp (j := 0) (Nat.le_of_ble_eq_true rfl) rfl rfl rest) ?_
    refine rx_end0 ?_
    refine SW.seq ?_
    refine SW.reg (l := [.op 0 .e, .op 1 .e, .op 2 .e]) rfl ?_
    refine rx_ldHA rfl rfl rfl rfl rfl rfl (by (repeat first|exact .here|apply Take1.there)) Fa.ag_28 Fa.sz_28 (vs := [_, _, _, _, _]) (by rfl) rfl ?_
    refine rx_stp rfl rfl rfl rfl rfl rfl (by (repeat first|exact .here|apply Take1.there)) Fa.sz_28 (vs := [_, _, _, _, _]) rfl rfl rfl (by rfl) (cl' := [_, _, _, _, _]) (by rfl) ?_
    refine rx_s rfl rfl rfl rfl rfl ?_
    refine rx_end0 ?_
    refine SW.ret ?_
    exact retK2 (l := [DeskP d { D.tick with reps := D.reps.set i.toNat Rep.zero }]) (.cell rfl (by (repeat first|exact .here|apply Take1.there)) (.inr ⟨5, _, Fa.ag_28, Fa.sz_28, rfl, rfl, rfl⟩) (.tmp rfl .nil)) ⟨rfl, rfl⟩ (foldP (rv := .slice (some ⟨bp, 0, none⟩) len cap) (D := { D.tick with reps := D.reps.set i.toNat Rep.zero }) (.one (by (repeat first|exact .here|apply Take1.there)) (.one (by (repeat first|exact .here|apply Take1.there)) (slown_mk (xs := flat (D.reps.set i.toNat Rep.zero)) (rest := rest) (by (repeat first|exact .here|apply Take1.there)) rfl (flat_one _) (by rw [flat_len, List.length_set]; exact e1) (by rw [flat_len, List.length_set]; exact e2) e3 (.one (by (repeat first|exact .here|apply Take1.there)) (.one (by (repeat first|exact .here|apply Take1.there)) .nil))))))

theorem rtake_nil (q : Nat) (r : Ring) (lv : Value) (hr : r.l = []) : Sl.Spec Tryz.prog 69 #[.pointer (some ⟨q, 0, none⟩)] [RB q r lv, SlOwn 49 7 lv (flat r.l)]
    (fun v l => v = .tuple #[.agg (enc Msg.zero).toArray, .bool false] ∧ l = [RB q r lv, SlOwn 49 7 lv (flat r.l)]) := by
  refine Spec.enter Tryz.func69 rfl rfl rfl ?_
  refine SW.slshape 1 rfl ?_
  rintro p1 m1 c1 rfl hm1
  have hm : m1 = 0 := by rw [flat_len, hr, show Enc.n Msg = 7 from rfl] at hm1; simp at hm1; omega
  subst hm
  refine SW.seq ?_
  refine SW.reg (l := [.op 0 .e, .op 1 .e]) rfl ?_
  refine rx_alloc (.inr rfl) rfl rfl rfl rfl rfl Fa.z_49 ?_
  intro b2
  refine rx_s rfl rfl rfl rfl rfl ?_
  refine rx_end0 ?_
  refine SW.seq ?_
  refine SW.reg (l := [.op 0 .e, .op 1 .e, .op 2 .e, .op 3 .e, .op 4 .e, .op 5 .e]) rfl ?_
  iterate 2 refine rx_s rfl rfl rfl rfl rfl ?_
  refine rx_fa rfl rfl rfl rfl rfl rfl Fa.fo_177_1 ?_
  refine rx_ldH1 rfl rfl rfl rfl rfl rfl (by (repeat first|exact .here|apply Take1.there)) Fa.ag_175 (by rfl) ?_
  refine rx_len rfl rfl rfl rfl rfl rfl (lenV_sl Fa.sl_175 _ _ _) ?_
  refine rx_s rfl rfl rfl rfl rfl ?_
  refine rx_end0 ?_
  refine SW.seq ?_
  refine SW.seq ?_
  refine SW.reg (l := [.op 0 .e, .op 1 .e]) rfl ?_
  iterate 2 refine rx_s rfl rfl rfl rfl rfl ?_
  refine rx_end0 ?_
  refine SW.cond (b := true) rfl (fun _ => ?_) (fun h => nomatch h)
  refine SW.seq ?_
  refine SW.reg (l := [.op 0 .e]) rfl ?_
  refine rx_alloc (.inr rfl) rfl rfl rfl rfl rfl Fa.z_49 ?_
  intro b5
  refine rx_end0 ?_
  refine SW.seq ?_
  refine SW.reg (l := [.op 0 .e, .op 1 .e, .op 2 .e]) rfl ?_
  refine rx_ldHA rfl rfl rfl rfl rfl rfl (by (repeat first|exact .here|apply Take1.there)) Fa.ag_49 Fa.sz_49 (vs := [_, _, _, _, _, _, _]) (by rfl) rfl ?_
  refine rx_stp rfl rfl rfl rfl rfl rfl (by (repeat first|exact .here|apply Take1.there)) Fa.sz_49 (vs := [_, _, _, _, _, _, _]) rfl rfl rfl (by rfl) (cl' := [_, _, _, _, _, _, _]) (by rfl) ?_
  refine rx_s rfl rfl rfl rfl rfl ?_
  refine rx_end0 ?_
  refine SW.ret ?_
  exact retK2 (l := [_, _]) (.cell rfl (by (repeat first|exact .here|apply Take1.there)) (.inr ⟨7, _, Fa.ag_49, Fa.sz_49, rfl, rfl, rfl⟩) (.tmp rfl .nil)) ⟨rfl, rfl⟩ (.one (by (repeat first|exact .here|apply Take1.there)) (.one (by (repeat first|exact .here|apply Take1.there)) .nil))
theorem rtake_cons (q : Nat) (r : Ring) (lv : Value) (x : Msg) (xs : List Msg) (hr : r.l = x :: xs) (hn : xs.length ≤ 100000) : Sl.Spec Tryz.prog 69 #[.pointer (some ⟨q, 0, none⟩)] [RB q r lv, SlOwn 49 7 lv (flat r.l)]
    (fun v l => ∃ lv', v = .tuple #[.agg (enc x).toArray, .bool true] ∧ l = [RB q { r with l := xs } lv', SlOwn 49 7 lv' (flat xs)]) := by
  have hx : r.l[0]? = some x := by rw [hr]; rfl
  refine Spec.enter Tryz.func69 rfl rfl rfl ?_
  refine SW.slopen 1 rfl (fun _ hx' => absurd hx' (flat_ne hx (by decide))) ?_
  intro bp len cap rest hv e1 e2 e3 e4
  subst hv
  rw [flat_len, show Enc.n Msg = 7 from rfl, hr] at e1 e2
  have hlen : len = xs.length + 1 := by rw [List.length_cons] at e1; omega
  subst hlen
  refine SW.seq ?_
  refine SW.reg (l := [.op 0 .e, .op 1 .e]) rfl ?_
  refine rx_alloc (.inr rfl) rfl rfl rfl rfl rfl Fa.z_49 ?_
  intro b2
  refine rx_s rfl rfl rfl rfl rfl ?_
  refine rx_end0 ?_
  refine SW.seq ?_
  refine SW.reg (l := [.op 0 .e, .op 1 .e, .op 2 .e, .op 3 .e, .op 4 .e, .op 5 .e]) rfl ?_
  iterate 2 refine rx_s rfl rfl rfl rfl rfl ?_
  refine rx_fa rfl rfl rfl rfl rfl rfl Fa.fo_177_1 ?_
  refine rx_ldH1 rfl rfl rfl rfl rfl rfl (by (repeat first|exact .here|apply Take1.there)) Fa.ag_175 (by rfl) ?_
  refine rx_len rfl rfl rfl rfl rfl rfl (lenV_sl Fa.sl_175 _ _ _) ?_
  refine rx_s rfl rfl rfl rfl rfl ?_
  refine rx_end0 ?_
  refine SW.seq ?_
  refine SW.seq ?_
  refine SW.reg (l := [.op 0 .e, .op 1 .e]) rfl ?_
  iterate 2 refine rx_s rfl rfl rfl rfl rfl ?_
  refine rx_end0 ?_
  refine SW.cond rfl (fun h13 => ?_) (fun h13 => ?_)
  · (simp at h13; omega)
  · skip
    refine SW.skip ?_
    try simp only [thenK, blockK, cond_true, cond_false, beq_self_eq_true, Nat.reduceBEq]
    refine SW.seq ?_
    refine SW.reg (l := [.op 0 .e, .op 1 .e, .op 2 .e, .op 3 .e, .op 4 .e, .op 5 .e, .op 6 .e, .op 7 .e]) rfl ?_
    iterate 2 refine rx_s rfl rfl rfl rfl rfl ?_
    refine rx_fa rfl rfl rfl rfl rfl rfl Fa.fo_177_1 ?_
    refine rx_ldH1 rfl rfl rfl rfl rfl rfl (by (repeat first|exact .here|apply Take1.there)) Fa.ag_175 (by rfl) ?_
    refine rx_ix rfl rfl rfl rfl rfl Fa.sl_175 rfl rfl (by omega) ?_
    refine rx_ldHA rfl rfl rfl rfl rfl rfl (by (repeat first|exact .here|apply Take1.there)) Fa.ag_49 Fa.sz_49 (vs := [_, _, _, _, _, _, _]) (by exact flat_drop hx (j := 0) (by decide) rfl rest) rfl ?_
    refine rx_alloc (.inr rfl) rfl rfl rfl rfl rfl Fa.z_49 ?_
    intro b6
    refine rx_stp rfl rfl rfl rfl rfl rfl (by (repeat first|exact .here|apply Take1.there)) Fa.sz_49 (vs := [_, _, _, _, _, _, _]) rfl rfl rfl (by rfl) (cl' := [_, _, _, _, _, _, _]) (by rfl) ?_
    refine rx_end0 ?_
    refine SW.seq ?_
    refine SW.reg (l := [.op 0 .e, .op 1 .e, .op 2 .e, .op 3 .e, .op 4 .e, .op 5 .e, .op 6 .e, .op 7 .e, .op 8 .e, .op 9 .e, .op 10 .e, .op 11 .e, .op 12 .e]) rfl ?_
    refine rx_s rfl rfl rfl rfl rfl ?_
    refine rx_bslice0 (.inr rfl) rfl rfl rfl rfl rfl Fa.sl_175 ?_
    intro b22
    iterate 2 refine rx_s rfl rfl rfl rfl rfl ?_
    refine rx_fa rfl rfl rfl rfl rfl rfl Fa.fo_177_1 ?_
    refine rx_ldH1 rfl rfl rfl rfl rfl rfl (by (repeat first|exact .here|apply Take1.there)) Fa.ag_175 (by rfl) ?_
    iterate 2 refine rx_s rfl rfl rfl rfl rfl ?_
    refine rx_slfull rfl rfl rfl rfl rfl Fa.sl_175 rfl rfl rfl rfl (by omega) ?_
    intro off29 hoff29
    refine rx_app0 rfl rfl rfl rfl rfl Fa.sl_175 Fa.z_49 rfl rfl rfl rfl rfl (by (repeat first|exact .here|apply Take1.there)) (by (repeat first|exact .here|apply Take1.there)) (ys := flat xs) (by rw [hr]; exact flat_tail x xs rest (by rw [hoff29]; rfl) (by simp; rfl)) (by rw [flat_len]; simp; rfl) (flat_one _) (by rw [flat_len, show Enc.n Msg = 7 from rfl]; omega) ?_
    intro p30 m30 c30 hm30
    refine rx_s rfl rfl rfl rfl rfl ?_
    refine rx_fa rfl rfl rfl rfl rfl rfl Fa.fo_177_1 ?_
    refine rx_stp rfl rfl rfl rfl rfl rfl (by (repeat first|exact .here|apply Take1.there)) Fa.sz_175 (vs := [_]) rfl rfl rfl (by rfl) (cl' := [_, _, _]) (by rfl) ?_
    refine rx_end0 ?_
    refine SW.seq ?_
    refine SW.reg (l := [.op 0 .e, .op 1 .e, .op 2 .e]) rfl ?_
    refine rx_ldHA rfl rfl rfl rfl rfl rfl (by (repeat first|exact .here|apply Take1.there)) Fa.ag_49 Fa.sz_49 (vs := [_, _, _, _, _, _, _]) (by rfl) rfl ?_
    refine rx_stp rfl rfl rfl rfl rfl rfl (by (repeat first|exact .here|apply Take1.there)) Fa.sz_49 (vs := [_, _, _, _, _, _, _]) rfl rfl rfl (by rfl) (cl' := [_, _, _, _, _, _, _]) (by rfl) ?_
    refine rx_s rfl rfl rfl rfl rfl ?_
    refine rx_end0 ?_
    refine SW.ret ?_
    exact retK2 (l := [_, _]) (.cell rfl (by (repeat first|exact .here|apply Take1.there)) (.inr ⟨7, _, Fa.ag_49, Fa.sz_49, rfl, rfl, rfl⟩) (.tmp rfl .nil)) ⟨.slice p30 m30 c30, rfl, rfl⟩ (.one (by (repeat first|exact .here|apply Take1.there)) (.one (by (repeat first|exact .here|apply Take1.there)) .nil))
theorem receive (d : Nat) (D : Desk) (hD : D.ok) (x : Msg) (xs : List Msg) (hr : D.ring.l = x :: xs) : Sl.Spec Tryz.prog 28 #[.pointer (some ⟨d, 0, none⟩)] [DeskP d D]
    (fun v l => v = .tuple #[.agg (enc x).toArray, .bool true] ∧ l = [DeskP d { D.tick with ring := { D.ring with l := xs } }]) := by
  have ha := hD.acc
  have hn := hD.ring
  rw [hr, List.length_cons] at hn
  refine Spec.enter Tryz.func28 rfl rfl rfl ?_
  refine SW.exH 0 rfl ?_; rintro ⟨pv, rv, q, lv⟩; simp only [List.cons_append, List.nil_append]
  refine SW.seq ?_
  refine SW.reg (l := [.op 0 .e, .op 1 .e]) rfl ?_
  refine rx_alloc (.inr rfl) rfl rfl rfl rfl rfl Fa.z_49 ?_
  intro b2
  refine rx_s rfl rfl rfl rfl rfl ?_
  refine rx_end0 ?_
  refine SW.seq ?_
  refine SW.reg (l := [.op 0 .e, .op 1 .e, .op 2 .e, .op 3 .e, .op 4 .e, .op 5 .e, .op 6 .e, .op 7 .e]) rfl ?_
  iterate 2 refine rx_s rfl rfl rfl rfl rfl ?_
  refine rx_fa rfl rfl rfl rfl rfl rfl Fa.fo_128_5 ?_
  refine rx_ldH1 rfl rfl rfl rfl rfl rfl (by (repeat first|exact .here|apply Take1.there)) Fa.ag_3 (by rfl) ?_
  refine rx_ar rfl rfl rfl rfl rfl (by omega) ?_
  refine rx_s rfl rfl rfl rfl rfl ?_
  refine rx_fa rfl rfl rfl rfl rfl rfl Fa.fo_128_5 ?_
  refine rx_stp rfl rfl rfl rfl rfl rfl (by (repeat first|exact .here|apply Take1.there)) Fa.sz_3 (vs := [_]) rfl rfl rfl (by rfl) (cl' := [_, _, _, _, _, _, _, _, _, _]) (by rfl) ?_
  refine rx_end0 ?_
  refine SW.seq ?_
  refine SW.reg (l := [.op 0 .e, .op 1 .e, .op 2 .e, .op 3 .e, .op 4 .e, .op 5 .e, .op 6 .e, .op 7 .e, .op 8 .e]) rfl ?_
  iterate 2 refine rx_s rfl rfl rfl rfl rfl ?_
  refine rx_fa rfl rfl rfl rfl rfl rfl Fa.fo_128_4 ?_
  refine rx_ldH1 rfl rfl rfl rfl rfl rfl (by (repeat first|exact .here|apply Take1.there)) Fa.ag_119 (by rfl) ?_
  refine rx_callH (F := ?FT477) rfl rfl rfl rfl rfl rfl rfl rfl Fa.ca_69 rfl (rtake_cons q D.ring lv x xs hr (by omega)) ?T477 ?_
  case T477 => (repeat (first|exact Take.nil|refine Take.cons (by (repeat first|exact .here|apply Take1.there)) ?_))
  rintro _ _ ⟨lv', rfl, rfl⟩
  try simp only [List.cons_append, List.nil_append]
  iterate 2 refine rx_s rfl rfl rfl rfl rfl ?_
  refine rx_stp rfl rfl rfl rfl rfl rfl (by (repeat first|exact .here|apply Take1.there)) Fa.sz_49 (vs := [_, _, _, _, _, _, _]) rfl rfl rfl (by rfl) (cl' := [_, _, _, _, _, _, _]) (by rfl) ?_
  refine rx_s rfl rfl rfl rfl rfl ?_
  refine rx_end0 ?_
  refine SW.ret ?_
  exact retK2 (l := [DeskP d { D.tick with ring := { D.ring with l := xs } }]) (.cell rfl (by (repeat first|exact .here|apply Take1.there)) (.inr ⟨7, _, Fa.ag_49, Fa.sz_49, rfl, rfl, rfl⟩) (.tmp rfl .nil)) ⟨rfl, rfl⟩ (.cons (.cons (by (repeat first|exact .here|apply Take1.there)) (.cons (by (repeat first|exact .here|apply Take1.there)) (.cons (by (repeat first|exact .here|apply Take1.there)) (.cons (by (repeat first|exact .here|apply Take1.there)) (.cons (by (repeat first|exact .here|apply Take1.there)) .nil))))) (DeskP.mk rfl rfl rfl) .nil)
/-- A new desk. -/
def dnew (c : Nat) (m : Int) : Desk := ⟨⟨0, ⟨0, 0⟩, ⟨0, 0⟩⟩, 0, List.replicate c 0, List.replicate c Rep.zero, ⟨m, [], false⟩, 0⟩
theorem new (c : Nat) (m : Int) (hc : c ≤ 64) (h0 : 0 ≤ m) (h1 : m ≤ 65536) : Sl.Spec Tryz.prog 16 #[.int .i64 c, .int .i64 m] [] (fun v l => ∃ d, v = .pointer (some ⟨d, 0, none⟩) ∧ l = [DeskP d (dnew c m)]) := by
  refine Spec.enter Tryz.func16 rfl rfl rfl ?_
  refine SW.seq ?_
  refine SW.reg (l := [.op 0 .e]) rfl ?_
  refine rx_s rfl rfl rfl rfl rfl ?_
  refine rx_end0 ?_
  refine SW.seq ?_
  refine SW.reg (l := [.op 0 .e, .op 1 .e, .op 2 .e]) rfl ?_
  refine rx_s rfl rfl rfl rfl rfl ?_
  refine rx_callH (F := ?FT478) rfl rfl rfl rfl rfl rfl rfl rfl Fa.ca_59 rfl (rnew m h0 h1) ?T478 ?_
  case T478 => (repeat (first|exact Take.nil|refine Take.cons (by (repeat first|exact .here|apply Take1.there)) ?_))
  rintro _ _ ⟨q, rfl, rfl⟩
  try simp only [List.cons_append, List.nil_append]
  refine rx_s rfl rfl rfl rfl rfl ?_
  refine rx_end0 ?_
  refine SW.seq ?_
  refine SW.seq ?_
  refine SW.reg (l := [.op 0 .e, .op 1 .e, .op 2 .e, .op 3 .e, .op 4 .e, .op 5 .e, .op 6 .e, .op 7 .e, .op 8 .e, .op 9 .e]) rfl ?_
  iterate 3 refine rx_s rfl rfl rfl rfl rfl ?_
  refine rx_split (t := 10) rfl (fun g10 => ?_) (fun g10 => ?_)
  · (simp at g10; omega)
  · skip
    iterate 4 refine rx_s rfl rfl rfl rfl rfl ?_
    refine rx_split (t := 14) rfl (fun g14 => ?_) (fun g14 => ?_)
    · (simp at g14; omega)
    · skip
      refine rx_s rfl rfl rfl rfl rfl ?_
      refine rx_eqnil rfl rfl rfl rfl rfl Fa.pt_119 rfl ?_
      refine rx_s rfl rfl rfl rfl rfl ?_
      refine rx_end0 ?_
      refine SW.cond rfl (fun h17 => ?_) (fun h17 => ?_)
      · simp at h17
      · skip
        refine SW.skip ?_
        try simp only [thenK, blockK, cond_true, cond_false, beq_self_eq_true, Nat.reduceBEq]
        refine SW.seq ?_
        refine SW.drawAll Fa.mix (tp := [0, 1, 3, 0, 8, 24, 0, 127, 255, 511]) (l := [.op 0 .s, .op 3 .s, .op 6 .s, .op 1 .f, .op 2 .s, .op 4 .f, .op 5 .s, .op 7 .s, .op 8 .f, .op 9 .s]) (by kernel_rfl) ?_
        iterate 3 refine rx_s rfl rfl rfl rfl rfl ?_
        refine rx_make (.inl rfl) rfl rfl rfl rfl rfl Fa.sl_121 Fa.z_3 rfl rfl rfl rfl rfl (by omega) (by omega) (by omega) ?_
        intro b19
        refine rx_build rfl rfl rfl rfl rfl Fa.st_123 rfl (cs := [_]) rfl ?_
        refine rx_make (.inl rfl) rfl rfl rfl rfl rfl Fa.sl_124 Fa.z_141 rfl rfl rfl rfl rfl (by omega) (by omega) (by omega) ?_
        intro b22
        refine rx_build rfl rfl rfl rfl rfl Fa.st_126 rfl (cs := [_]) rfl ?_
        refine rx_build rfl rfl rfl rfl rfl Fa.st_128 rfl (cs := [_, _, _, _, _, _, _, _, _, _]) rfl ?_
        refine rx_box (.inl rfl) rfl rfl rfl rfl rfl rfl (cl := [_, _, _, _, _, _, _, _, _, _]) rfl ?_
        intro b26
        refine rx_s rfl rfl rfl rfl rfl ?_
        refine rx_endD ?_
        try simp only [List.cons_append, List.nil_append]
        refine SW.ret ?_
        refine retK1 (l := [_]) (.tmp rfl .nil) ⟨b26, rfl, rfl⟩ (foldP (D := dnew c m) (lv := .slice none 0 0) (.one (by (repeat first|exact .here|apply Take1.there)) (slown_mk (xs := flat (dnew c m).pins) (rest := []) (by (repeat first|exact .here|apply Take1.there)) ?_ (flat_one _) ?_ ?_ (Nat.le_refl _) (slown_mk (xs := flat (dnew c m).reps) (rest := []) (by (repeat first|exact .here|apply Take1.there)) ?_ (flat_one _) ?_ ?_ (Nat.le_refl _) (.one (by (repeat first|exact .here|apply Take1.there)) (slown_nil _ _ .nil))))))
        · rw [List.append_nil]; exact rep_flat (0 : Int) c
        · rw [flat_len]; simp [dnew]; rw [show Enc.n Int = 1 from rfl]; omega
        · rw [flat_len]; simp [dnew]; rw [show Enc.n Int = 1 from rfl]; omega
        · rw [List.append_nil]; exact rep_flat Rep.zero c
        · rw [flat_len]; simp [dnew]; rfl
        · rw [flat_len]; simp [dnew]; rfl
end Dk
end Go.Proofs.YtikkegelplllmaaGreatDoor
/- One who calls: what its steps do. -/
namespace Go.Proofs.YtikkegelplllmaaGreatDoor
open Go Go.Sl Go.Holt Go.Proofs
open Go.Holt.Enc (enc)
namespace Cl
open Dk (DeskP)

/-- A client's block. -/
abbrev ccells (c d s nf : Nat) (cap : Array Value) (C : Cli) (cv av : Value) : List Value := [.pointer (some ⟨d, 0, none⟩), .pointer (some ⟨s, 0, none⟩), .int .i64 C.i, cv, .int .i64 C.at_, .func (.func nf) #[] cap, .func (.func C.next) #[.pointer (some ⟨c, 0, none⟩)] #[], .bool C.waits, .int .i64 C.epoch,
  .int .i64 C.version.n, .int .i64 C.version.kids.slot, .int .i64 C.version.kids.gen, .int .i64 C.version.spots.slot, .int .i64 C.version.spots.gen, .bool C.reads, .pointer C.find, av]
abbrev CB (c d s nf : Nat) (cap : Array Value) (C : Cli) (cv av : Value) : HProp := blk c (ccells c d s nf cap C cv av) 135 (0, 0)
def CliP (c d s nf : Nat) (cap : Array Value) (C : Cli) : HProp := exH fun x : Value × Value => [CB c d s nf cap C x.1 x.2, SlOwn 24 5 x.1 (flat C.calls), SlOwn 28 5 x.2 (flat C.answers)]
theorem CliP.mk {c d s nf : Nat} {cap : Array Value} {C : Cli} {cv av : Value} {xs ys : List Value} (h1 : xs = flat C.calls) (h2 : ys = flat C.answers) :
    EntS (star [CB c d s nf cap C cv av, SlOwn 24 5 cv xs, SlOwn 28 5 av ys]) (CliP c d s nf cap C) := by
  subst h1 h2
  exact exH.mk (fun x : Value × Value => [CB c d s nf cap C x.1 x.2, SlOwn 24 5 x.1 (flat C.calls), SlOwn 28 5 x.2 (flat C.answers)]) (cv, av)
theorem foldC {c d s nf : Nat} {cap : Array Value} {C : Cli} {cv av : Value} {l l' : List HProp} (h : EntL l (CB c d s nf cap C cv av :: SlOwn 24 5 cv (flat C.calls) :: SlOwn 28 5 av (flat C.answers) :: l')) : EntL l (CliP c d s nf cap C :: l') :=
  EntL.fold (ps := [CB c d s nf cap C cv av, SlOwn 24 5 cv (flat C.calls), SlOwn 28 5 av (flat C.answers)]) h (CliP.mk rfl rfl)
section
variable (c d s : Nat) {nf : Nat} {cap : Array Value} {Lg : List Ev → HProp}
theorem tellB (hN : Note Tryz.prog nf cap Lg) (C : Cli) (cv av : Value) (L : List Ev) (hL : L.length ≤ 1000000) (w v : Int) : Sl.Spec Tryz.prog 94 #[.pointer (some ⟨c, 0, none⟩), .int .i64 w, .int .i64 v] [CB c d s nf cap C cv av, Lg L]
    (fun u l => u = .tuple #[] ∧ l = [CB c d s nf cap C cv av, Lg (L ++ [⟨w, C.i, C.at_, v⟩])]) := by
  have hr := hN.run L ⟨w, C.i, C.at_, v⟩ hL
  refine Spec.enter Tryz.func94 rfl rfl rfl ?_
  refine SW.drawT (Hs := [Lg L]) (D0l := []) (Dl := ?DT479) (F := ?FT479) Fa.mix (tp := [0, 1, 3, 7, 0, 0, 32, 96, 224, 0, 512, 1536, 3584, 0, 16368, 32767]) (l := [.op 0 .s, .op 1 .s, .op 2 .s, .op 3 .d, .op 4 .s, .op 5 .s, .op 6 .s, .op 7 .s, .op 8 .d, .op 9 .s, .op 10 .s, .op 11 .s, .op 12 .d, .op 13 .s, .op 14 .s, .op 15 .e]) (by kernel_rfl) ?T479a ?T479b ?_
  case T479a => (repeat (first|exact Take.nil|refine Take.cons (by (repeat first|exact .here|apply Take1.there)) ?_))
  case T479b => (repeat (first|exact Take.nil|refine Take.cons (by (repeat first|exact .here|apply Take1.there)) ?_))
  iterate 2 refine rx_s rfl rfl rfl rfl rfl ?_
  refine rx_fa rfl rfl rfl rfl rfl rfl Fa.fo_135_5 ?_
  refine rx_ldD1 rfl rfl rfl rfl rfl rfl rfl (by (repeat first|exact .here|apply Take1.there)) Fa.ag_42 (by rfl) ?_
  iterate 3 refine rx_s rfl rfl rfl rfl rfl ?_
  refine rx_fa rfl rfl rfl rfl rfl rfl Fa.fo_135_2 ?_
  refine rx_ldD1 rfl rfl rfl rfl rfl rfl rfl (by (repeat first|exact .here|apply Take1.there)) Fa.ag_3 (by rfl) ?_
  iterate 2 refine rx_s rfl rfl rfl rfl rfl ?_
  refine rx_fa rfl rfl rfl rfl rfl rfl Fa.fo_135_4 ?_
  refine rx_ldD1 rfl rfl rfl rfl rfl rfl rfl (by (repeat first|exact .here|apply Take1.there)) Fa.ag_3 (by rfl) ?_
  refine rx_s rfl rfl rfl rfl rfl ?_
  refine rx_build rfl rfl rfl rfl rfl Fa.st_41 rfl (cs := [_, _, _, _]) rfl ?_
  refine rx_callH (F := ?FT480) rfl rfl rfl rfl rfl rfl rfl rfl hN.ca rfl (hr) ?T480 ?_
  case T480 => (repeat (first|exact Take.nil|refine Take.cons (by (repeat first|exact .here|apply Take1.there)) ?_))
  rintro _ _ ⟨rfl, rfl⟩
  try simp only [List.cons_append, List.nil_append]
  refine rx_endL ?_
  try simp only [List.cons_append, List.nil_append]
  exact retK0e (l := [_, _]) .nil ⟨rfl, rfl⟩ (.one (by (repeat first|exact .here|apply Take1.there)) (.one (by (repeat first|exact .here|apply Take1.there)) .nil))
theorem tell (hN : Note Tryz.prog nf cap Lg) (C : Cli) (L : List Ev) (hL : L.length ≤ 1000000) (w v : Int) : Sl.Spec Tryz.prog 94 #[.pointer (some ⟨c, 0, none⟩), .int .i64 w, .int .i64 v] [CliP c d s nf cap C, Lg L]
    (fun u l => u = .tuple #[] ∧ l = [CliP c d s nf cap C, Lg (L ++ [⟨w, C.i, C.at_, v⟩])]) := by
  have hr := hN.run L ⟨w, C.i, C.at_, v⟩ hL
  refine Spec.enter Tryz.func94 rfl rfl rfl ?_
  refine SW.exH 0 rfl ?_; rintro ⟨cv, av⟩; simp only [List.cons_append, List.nil_append]
  refine SW.drawT (Hs := [Lg L]) (D0l := []) (Dl := ?DT481) (F := ?FT481) Fa.mix (tp := [0, 1, 3, 7, 0, 0, 32, 96, 224, 0, 512, 1536, 3584, 0, 16368, 32767]) (l := [.op 0 .s, .op 1 .s, .op 2 .s, .op 3 .d, .op 4 .s, .op 5 .s, .op 6 .s, .op 7 .s, .op 8 .d, .op 9 .s, .op 10 .s, .op 11 .s, .op 12 .d, .op 13 .s, .op 14 .s, .op 15 .e]) (by kernel_rfl) ?T481a ?T481b ?_
  case T481a => (repeat (first|exact Take.nil|refine Take.cons (by (repeat first|exact .here|apply Take1.there)) ?_))
  case T481b => (repeat (first|exact Take.nil|refine Take.cons (by (repeat first|exact .here|apply Take1.there)) ?_))
  iterate 2 refine rx_s rfl rfl rfl rfl rfl ?_
  refine rx_fa rfl rfl rfl rfl rfl rfl Fa.fo_135_5 ?_
  refine rx_ldD1 rfl rfl rfl rfl rfl rfl rfl (by (repeat first|exact .here|apply Take1.there)) Fa.ag_42 (by rfl) ?_
  iterate 3 refine rx_s rfl rfl rfl rfl rfl ?_
  refine rx_fa rfl rfl rfl rfl rfl rfl Fa.fo_135_2 ?_
  refine rx_ldD1 rfl rfl rfl rfl rfl rfl rfl (by (repeat first|exact .here|apply Take1.there)) Fa.ag_3 (by rfl) ?_
  iterate 2 refine rx_s rfl rfl rfl rfl rfl ?_
  refine rx_fa rfl rfl rfl rfl rfl rfl Fa.fo_135_4 ?_
  refine rx_ldD1 rfl rfl rfl rfl rfl rfl rfl (by (repeat first|exact .here|apply Take1.there)) Fa.ag_3 (by rfl) ?_
  refine rx_s rfl rfl rfl rfl rfl ?_
  refine rx_build rfl rfl rfl rfl rfl Fa.st_41 rfl (cs := [_, _, _, _]) rfl ?_
  refine rx_callH (F := ?FT482) rfl rfl rfl rfl rfl rfl rfl rfl hN.ca rfl (hr) ?T482 ?_
  case T482 => (repeat (first|exact Take.nil|refine Take.cons (by (repeat first|exact .here|apply Take1.there)) ?_))
  rintro _ _ ⟨rfl, rfl⟩
  try simp only [List.cons_append, List.nil_append]
  refine rx_endL ?_
  try simp only [List.cons_append, List.nil_append]
  exact retK0e (l := [_, _]) .nil ⟨rfl, rfl⟩ (foldC (.one (by (repeat first|exact .here|apply Take1.there)) (.one (by (repeat first|exact .here|apply Take1.there)) (.one (by (repeat first|exact .here|apply Take1.there)) (.one (by (repeat first|exact .here|apply Take1.there)) .nil)))))
theorem end_ (hN : Note Tryz.prog nf cap Lg) (C : Cli) (hC : C.ok) (L : List Ev) (hL : L.length ≤ 999000) (a : Ans) : Sl.Spec Tryz.prog 98 #[.pointer (some ⟨c, 0, none⟩), .agg (enc a).toArray] [CliP c d s nf cap C, Lg L]
    (fun u l => u = .tuple #[] ∧ l = [CliP c d s nf cap (C.ended 66 a), Lg (L ++ [⟨9, C.i, C.at_, a.version⟩])]) := by
  have h1 := hC.at_
  have h2 := hC.answers
  refine Spec.enter Tryz.func98 rfl rfl rfl ?_
  refine SW.seq ?_
  refine SW.reg (l := [.op 0 .e]) rfl ?_
  refine rx_box (.inr rfl) rfl rfl rfl rfl rfl rfl (cl := [_, _, _, _, _]) rfl ?_
  intro b3
  refine rx_end0 ?_
  refine SW.seq ?_
  refine SW.reg (l := [.op 0 .e, .op 1 .e, .op 2 .e, .op 3 .e]) rfl ?_
  refine rx_s rfl rfl rfl rfl rfl ?_
  refine rx_fa rfl rfl rfl rfl rfl rfl Fa.fo_28_1 ?_
  refine rx_ldH1 rfl rfl rfl rfl rfl rfl (by (repeat first|exact .here|apply Take1.there)) Fa.ag_3 (by rfl) ?_
  refine rx_callH (F := ?FT483) rfl rfl rfl rfl rfl rfl rfl rfl Fa.ca_94 rfl (tell c d s hN C L (by omega) 9 a.version) ?T483 ?_
  case T483 => (repeat (first|exact Take.nil|refine Take.cons (by (repeat first|exact .here|apply Take1.there)) ?_))
  rintro _ _ ⟨rfl, rfl⟩
  try simp only [List.cons_append, List.nil_append]
  refine rx_end0 ?_
  refine SW.seq ?_
  refine SW.exH 0 rfl ?_; rintro ⟨cv, av⟩; simp only [List.cons_append, List.nil_append]
  refine SW.drawT (Hs := [SlOwn 28 5 av (flat C.answers)]) (D0l := []) (Dl := ?DT484) (F := ?FT484) Fa.mix (tp := [0, 0, 2, 6, 14, 0, 32, 126, 255, 511, 1023]) (l := [.op 0 .s, .op 1 .s, .op 2 .s, .op 3 .s, .op 4 .d, .op 5 .d, .op 6 .f, .op 7 .e, .op 8 .s, .op 9 .s, .bar, .op 10 .e]) (by kernel_rfl) ?T484a ?T484b ?_
  case T484a => (repeat (first|exact Take.nil|refine Take.cons (by (repeat first|exact .here|apply Take1.there)) ?_))
  case T484b => (repeat (first|exact Take.nil|refine Take.cons (by (repeat first|exact .here|apply Take1.there)) ?_))
  iterate 3 refine rx_s rfl rfl rfl rfl rfl ?_
  refine rx_fa rfl rfl rfl rfl rfl rfl Fa.fo_135_12 ?_
  refine rx_ldD1 rfl rfl rfl rfl rfl rfl rfl (by (repeat first|exact .here|apply Take1.there)) Fa.ag_45 (by rfl) ?_
  refine rx_ldDA rfl rfl rfl rfl rfl rfl rfl (by (repeat first|exact .here|apply Take1.there)) Fa.ag_28 Fa.sz_28 (vs := [_, _, _, _, _]) (by rfl) rfl ?_
  refine rx_bslice (.inl rfl) rfl rfl rfl rfl rfl Fa.sl_45 Fa.z_28 rfl rfl rfl rfl rfl (cl := [_, _, _, _, _]) rfl ?_
  intro b14
  refine rx_app1 rfl rfl rfl rfl rfl Fa.sl_45 Fa.z_28 rfl rfl rfl rfl rfl (by (repeat first|exact .here|apply Take1.there)) (by (repeat first|exact .here|apply Take1.there)) (ys := [_, _, _, _, _]) (by rfl) rfl rfl (by rw [flat_len, show Enc.n Ans = 5 from rfl]; simp; omega) ?_
  intro p15 m15 c15 hm15
  refine rx_s rfl rfl rfl rfl rfl ?_
  refine rx_fa rfl rfl rfl rfl rfl rfl Fa.fo_135_12 ?_
  refine rx_barAll ?_
  try simp only [List.cons_append, List.nil_append]
  refine rx_stp rfl rfl rfl rfl rfl rfl (by (repeat first|exact .here|apply Take1.there)) Fa.sz_45 (vs := [_]) rfl rfl rfl (by rfl) (cl' := [_, _, _, _, _, _, _, _, _, _, _, _, _, _, _, _, _]) (by rfl) ?_
  refine rx_endD ?_
  try simp only [List.cons_append, List.nil_append]
  refine SW.seq ?_
  refine SW.reg (l := [.op 0 .e, .op 1 .e, .op 2 .e, .op 3 .e, .op 4 .e, .op 5 .e, .op 6 .e, .op 7 .e]) rfl ?_
  iterate 2 refine rx_s rfl rfl rfl rfl rfl ?_
  refine rx_fa rfl rfl rfl rfl rfl rfl Fa.fo_135_4 ?_
  refine rx_ldH1 rfl rfl rfl rfl rfl rfl (by (repeat first|exact .here|apply Take1.there)) Fa.ag_3 (by rfl) ?_
  refine rx_ar rfl rfl rfl rfl rfl (by omega) ?_
  refine rx_s rfl rfl rfl rfl rfl ?_
  refine rx_fa rfl rfl rfl rfl rfl rfl Fa.fo_135_4 ?_
  refine rx_stp rfl rfl rfl rfl rfl rfl (by (repeat first|exact .here|apply Take1.there)) Fa.sz_3 (vs := [_]) rfl rfl rfl (by rfl) (cl' := [_, _, _, _, _, _, _, _, _, _, _, _, _, _, _, _, _]) (by rfl) ?_
  refine rx_end0 ?_
  refine SW.reg (l := [.op 0 .e, .op 1 .e, .op 2 .e, .op 3 .e, .op 4 .e, .op 5 .e]) rfl ?_
  iterate 4 refine rx_s rfl rfl rfl rfl rfl ?_
  refine rx_fa rfl rfl rfl rfl rfl rfl Fa.fo_135_6 ?_
  refine rx_stp rfl rfl rfl rfl rfl rfl (by (repeat first|exact .here|apply Take1.there)) Fa.sz_1 (vs := [_]) rfl rfl rfl (by rfl) (cl' := [_, _, _, _, _, _, _, _, _, _, _, _, _, _, _, _, _]) (by rfl) ?_
  refine rx_endL ?_
  rw [flat_ans]
  exact retK0e (l := [_, _]) .nil ⟨rfl, rfl⟩ (foldC (C := C.ended 66 a) (.one (by (repeat first|exact .here|apply Take1.there)) (.one (by (repeat first|exact .here|apply Take1.there)) (.one (by (repeat first|exact .here|apply Take1.there)) (.one (by (repeat first|exact .here|apply Take1.there)) .nil)))))
theorem ready (C : Cli) (D : Desk) (x : Rep) (hx : D.reps[C.i]? = some x) : Sl.Spec Tryz.prog 26 #[.pointer (some ⟨c, 0, none⟩)] [CliP c d s nf cap C, DeskP d D]
    (fun u l => u = .bool (decide (C.at_ < C.calls.length) && (!C.waits || x.lies)) ∧ l = [CliP c d s nf cap C, DeskP d D]) := by
  refine Spec.enter Tryz.func26 rfl rfl rfl ?_
  refine SW.exH 0 rfl ?_; rintro ⟨cv, av⟩; simp only [List.cons_append, List.nil_append]
  refine SW.slshape 1 rfl ?_
  rintro p1 m1 c1 rfl hm1
  rw [flat_len, show Enc.n Holt.Call = 5 from rfl] at hm1
  have hm : m1 = C.calls.length := by omega
  subst hm
  refine SW.seq ?_
  refine SW.reg (l := [.op 0 .e]) rfl ?_
  refine rx_s rfl rfl rfl rfl rfl ?_
  refine rx_end0 ?_
  refine SW.seq ?_
  refine SW.drawT (Hs := [DeskP d D]) (D0l := []) (Dl := ?DT485) (F := ?FT485) Fa.mix (tp := [0, 1, 3, 7, 0, 16, 48, 112, 240, 511, 1023, 2047, 4095, 8191, 16383, 32767, 65535, 131071, 262143, 524287, 1048575, 131071, 2228223, 6422527, 14811135, 33554431, 67108863, 134217727, 268435455]) (l := [.op 0 .s, .op 1 .s, .op 2 .s, .op 3 .d, .op 4 .s, .op 5 .s, .op 6 .s, .op 7 .d, .op 8 .s, .op 9 .s, .op 10 .s, .op 11 .s, .op 12 .s, .op 13 .s, .op 14 .d, .op 15 .s, .op 16 .s, .op 17 .s, .op 18 .s, .op 19 .s, .op 20 .d, .op 21 .s, .op 22 .s, .op 23 .s, .op 24 .d, .op 25 .e, .op 26 .s, .op 27 .s, .op 28 .s]) (by kernel_rfl) ?T485a ?T485b ?_
  case T485a => (repeat (first|exact Take.nil|refine Take.cons (by (repeat first|exact .here|apply Take1.there)) ?_))
  case T485b => (repeat (first|exact Take.nil|refine Take.cons (by (repeat first|exact .here|apply Take1.there)) ?_))
  iterate 2 refine rx_s rfl rfl rfl rfl rfl ?_
  refine rx_fa rfl rfl rfl rfl rfl rfl Fa.fo_135_4 ?_
  refine rx_ldD1 rfl rfl rfl rfl rfl rfl rfl (by (repeat first|exact .here|apply Take1.there)) Fa.ag_3 (by rfl) ?_
  iterate 2 refine rx_s rfl rfl rfl rfl rfl ?_
  refine rx_fa rfl rfl rfl rfl rfl rfl Fa.fo_135_3 ?_
  refine rx_ldD1 rfl rfl rfl rfl rfl rfl rfl (by (repeat first|exact .here|apply Take1.there)) Fa.ag_31 (by rfl) ?_
  refine rx_len rfl rfl rfl rfl rfl rfl (lenV_sl Fa.sl_31 _ _ _) ?_
  iterate 2 refine rx_s rfl rfl rfl rfl rfl ?_
  refine rx_split (t := 13) rfl (fun g13 => ?_) (fun g13 => ?_)
  · skip
    iterate 2 refine rx_s rfl rfl rfl rfl rfl ?_
    refine rx_fa rfl rfl rfl rfl rfl rfl Fa.fo_135_7 ?_
    refine rx_ldD1 rfl rfl rfl rfl rfl rfl rfl (by (repeat first|exact .here|apply Take1.there)) Fa.ag_4 (by rfl) ?_
    iterate 2 refine rx_s rfl rfl rfl rfl rfl ?_
    refine rx_split (t := 19) rfl (fun g19 => ?_) (fun g19 => ?_)
    · skip
      refine rx_skip rfl rfl rfl rfl ?_
      refine rx_skip rfl rfl rfl rfl ?_
      refine rx_skip rfl rfl rfl rfl ?_
      refine rx_skip rfl rfl rfl rfl ?_
      refine rx_skip rfl rfl rfl rfl ?_
      refine rx_skip rfl rfl rfl rfl ?_
      refine rx_skip rfl rfl rfl rfl ?_
      refine rx_skip rfl rfl rfl rfl ?_
      refine rx_skip rfl rfl rfl rfl ?_
      iterate 3 refine rx_s rfl rfl rfl rfl rfl ?_
      refine rx_endD ?_
      try simp only [List.cons_append, List.nil_append]
      refine SW.ret ?_
      exact retK1 (l := [_, _]) (.tmp rfl .nil) ⟨by simp_all <;> (intros; omega), rfl⟩ (foldC (.one (by (repeat first|exact .here|apply Take1.there)) (.one (by (repeat first|exact .here|apply Take1.there)) (.one (by (repeat first|exact .here|apply Take1.there)) (.one (by (repeat first|exact .here|apply Take1.there)) .nil)))))
    · skip
      iterate 2 refine rx_s rfl rfl rfl rfl rfl ?_
      refine rx_fa rfl rfl rfl rfl rfl rfl Fa.fo_135_0 ?_
      refine rx_ldD1 rfl rfl rfl rfl rfl rfl rfl (by (repeat first|exact .here|apply Take1.there)) Fa.ag_33 (by rfl) ?_
      iterate 2 refine rx_s rfl rfl rfl rfl rfl ?_
      refine rx_fa rfl rfl rfl rfl rfl rfl Fa.fo_135_2 ?_
      refine rx_ldD1 rfl rfl rfl rfl rfl rfl rfl (by (repeat first|exact .here|apply Take1.there)) Fa.ag_3 (by rfl) ?_
      refine rx_callH (F := ?FT486) rfl rfl rfl rfl rfl rfl rfl rfl Fa.ca_30 rfl (Dk.has d D C.i x (Int.natCast_nonneg _) hx) ?T486 ?_
      case T486 => (repeat (first|exact Take.nil|refine Take.cons (by (repeat first|exact .here|apply Take1.there)) ?_))
      rintro _ _ ⟨rfl, rfl⟩
      try simp only [List.cons_append, List.nil_append]
      iterate 3 refine rx_s rfl rfl rfl rfl rfl ?_
      refine rx_endD ?_
      try simp only [List.cons_append, List.nil_append]
      refine SW.ret ?_
      exact retK1 (l := [_, _]) (.tmp rfl .nil) ⟨by simp_all <;> (intros; omega), rfl⟩ (foldC (.one (by (repeat first|exact .here|apply Take1.there)) (.one (by (repeat first|exact .here|apply Take1.there)) (.one (by (repeat first|exact .here|apply Take1.there)) (.one (by (repeat first|exact .here|apply Take1.there)) .nil)))))
  · skip
    refine rx_skip rfl rfl rfl rfl ?_
    refine rx_skip rfl rfl rfl rfl ?_
    refine rx_skip rfl rfl rfl rfl ?_
    refine rx_skip rfl rfl rfl rfl ?_
    refine rx_skip rfl rfl rfl rfl ?_
    refine rx_skip rfl rfl rfl rfl ?_
    refine rx_skip rfl rfl rfl rfl ?_
    refine rx_skip rfl rfl rfl rfl ?_
    refine rx_skip rfl rfl rfl rfl ?_
    refine rx_skip rfl rfl rfl rfl ?_
    refine rx_skip rfl rfl rfl rfl ?_
    refine rx_skip rfl rfl rfl rfl ?_
    refine rx_skip rfl rfl rfl rfl ?_
    refine rx_skip rfl rfl rfl rfl ?_
    refine rx_skip rfl rfl rfl rfl ?_
    refine rx_skip rfl rfl rfl rfl ?_
    iterate 2 refine rx_s rfl rfl rfl rfl rfl ?_
    refine rx_endD ?_
    try simp only [List.cons_append, List.nil_append]
    refine SW.ret ?_
    exact retK1 (l := [_, _]) (.tmp rfl .nil) ⟨by simp_all <;> (intros; omega), rfl⟩ (foldC (.one (by (repeat first|exact .here|apply Take1.there)) (.one (by (repeat first|exact .here|apply Take1.there)) (.one (by (repeat first|exact .here|apply Take1.there)) (.one (by (repeat first|exact .here|apply Take1.there)) .nil)))))
theorem send (hN : Note Tryz.prog nf cap Lg) (C : Cli) (hC : C.ok) (D : Desk) (hD : D.ok) (L : List Ev) (hL : L.length ≤ 900000) (x : Holt.Call) (hx : C.calls[C.at_]? = some x) : Sl.Spec Tryz.prog 97 #[.pointer (some ⟨c, 0, none⟩)] [CliP c d s nf cap C, DeskP d D, Lg L]
    (fun u l => u = .tuple #[] ∧ l = if (D.ring.put ⟨C.i, C.at_, x⟩).2 = 0 then
        [CliP c d s nf cap { C with waits := true, next := 122 }, DeskP d { D.tick with ring := (D.ring.put ⟨C.i, C.at_, x⟩).1 }, Lg (L ++ [⟨1, C.i, C.at_, 0⟩])]
      else [CliP c d s nf cap (C.ended 66 ⟨(D.ring.put ⟨C.i, C.at_, x⟩).2, 0, 0, Sli.none, Sli.none⟩), DeskP d { D.tick with ring := (D.ring.put ⟨C.i, C.at_, x⟩).1 }, Lg (L ++ [⟨2, C.i, C.at_, 0⟩] ++ [⟨9, C.i, C.at_, 0⟩])]) := by
  have h1 := hC.at_
  refine Spec.enter Tryz.func97 rfl rfl rfl ?_
  refine SW.exH 0 rfl ?_; rintro ⟨cv, av⟩; simp only [List.cons_append, List.nil_append]
  refine SW.slopen 1 rfl (fun _ hx' => absurd hx' (flat_ne hx (by decide))) ?_
  intro bp len cap' rest hv e1 e2 e3 e4
  subst hv
  have hlt := (List.getElem?_eq_some_iff.1 hx).1
  rw [flat_len, show Enc.n Holt.Call = 5 from rfl] at e1 e2
  refine SW.seq ?_
  refine SW.seq ?_
  refine SW.drawT (Hs := [DeskP d D]) (D0l := []) (Dl := ?DT487) (F := ?FT487) Fa.mix (tp := [0, 1, 3, 7, 0, 16, 48, 112, 0, 256, 768, 1792, 0, 4096, 12288, 28672, 0, 65536, 196608, 458752, 1044480, 2093056, 4194288, 8388607, 16777215]) (l := [.op 0 .s, .op 1 .s, .op 2 .s, .op 3 .d, .op 4 .s, .op 5 .s, .op 6 .s, .op 7 .d, .op 8 .s, .op 9 .s, .op 10 .s, .op 11 .d, .op 12 .s, .op 13 .s, .op 14 .s, .op 15 .d, .op 16 .s, .op 17 .s, .op 18 .s, .op 19 .d, .op 20 .s, .op 21 .d, .op 22 .s, .op 23 .e, .op 24 .s]) (by kernel_rfl) ?T487a ?T487b ?_
  case T487a => (repeat (first|exact Take.nil|refine Take.cons (by (repeat first|exact .here|apply Take1.there)) ?_))
  case T487b => (repeat (first|exact Take.nil|refine Take.cons (by (repeat first|exact .here|apply Take1.there)) ?_))
  iterate 2 refine rx_s rfl rfl rfl rfl rfl ?_
  refine rx_fa rfl rfl rfl rfl rfl rfl Fa.fo_135_0 ?_
  refine rx_ldD1 rfl rfl rfl rfl rfl rfl rfl (by (repeat first|exact .here|apply Take1.there)) Fa.ag_33 (by rfl) ?_
  iterate 2 refine rx_s rfl rfl rfl rfl rfl ?_
  refine rx_fa rfl rfl rfl rfl rfl rfl Fa.fo_135_2 ?_
  refine rx_ldD1 rfl rfl rfl rfl rfl rfl rfl (by (repeat first|exact .here|apply Take1.there)) Fa.ag_3 (by rfl) ?_
  iterate 2 refine rx_s rfl rfl rfl rfl rfl ?_
  refine rx_fa rfl rfl rfl rfl rfl rfl Fa.fo_135_4 ?_
  refine rx_ldD1 rfl rfl rfl rfl rfl rfl rfl (by (repeat first|exact .here|apply Take1.there)) Fa.ag_3 (by rfl) ?_
  iterate 2 refine rx_s rfl rfl rfl rfl rfl ?_
  refine rx_fa rfl rfl rfl rfl rfl rfl Fa.fo_135_3 ?_
  refine rx_ldD1 rfl rfl rfl rfl rfl rfl rfl (by (repeat first|exact .here|apply Take1.there)) Fa.ag_31 (by rfl) ?_
  iterate 2 refine rx_s rfl rfl rfl rfl rfl ?_
  refine rx_fa rfl rfl rfl rfl rfl rfl Fa.fo_135_4 ?_
  refine rx_ldD1 rfl rfl rfl rfl rfl rfl rfl (by (repeat first|exact .here|apply Take1.there)) Fa.ag_3 (by rfl) ?_
  refine rx_ix rfl rfl rfl rfl rfl Fa.sl_31 rfl rfl (by omega) ?_
  refine rx_ldDA rfl rfl rfl rfl rfl rfl rfl (by (repeat first|exact .here|apply Take1.there)) Fa.ag_24 Fa.sz_24 (vs := [_, _, _, _, _]) (by exact flat_drop hx (j := 0) (s := 5) (off := 0 + (C.at_ : Int).toNat * 5) (by decide) (by simp; rfl) rest) rfl ?_
  refine rx_build rfl rfl rfl rfl rfl Fa.st_49 rfl (cs := [_, _, _, _, _, _, _]) rfl ?_
  refine rx_callH (F := ?FT488) rfl rfl rfl rfl rfl rfl rfl rfl Fa.ca_52 rfl (Dk.send d D hD ⟨C.i, C.at_, x⟩) ?T488 ?_
  case T488 => (repeat (first|exact Take.nil|refine Take.cons (by (repeat first|exact .here|apply Take1.there)) ?_))
  rintro _ _ ⟨rfl, rfl⟩
  try simp only [List.cons_append, List.nil_append]
  refine rx_s rfl rfl rfl rfl rfl ?_
  refine rx_endD ?_
  try simp only [List.cons_append, List.nil_append]
  refine SW.seq ?_
  refine SW.fold (Hl' := [CliP c d s nf cap C, DeskP d { D.tick with ring := (D.ring.put ⟨C.i, C.at_, x⟩).1 }, Lg L]) (foldC (cv := .slice (some ⟨bp, 0, none⟩) len cap') (.one (by (repeat first|exact .here|apply Take1.there)) (slown_mk (xs := flat C.calls) (rest := rest) (by (repeat first|exact .here|apply Take1.there)) rfl e4 (by rw [flat_len]; exact e1) (by rw [flat_len]; exact e2) e3 (.one (by (repeat first|exact .here|apply Take1.there)) (.one (by (repeat first|exact .here|apply Take1.there)) (.one (by (repeat first|exact .here|apply Take1.there)) .nil)))))) ?_
  refine SW.reg (l := [.op 0 .e, .op 1 .e]) rfl ?_
  iterate 2 refine rx_s rfl rfl rfl rfl rfl ?_
  refine rx_end0 ?_
  refine SW.cond rfl (fun h28 => ?_) (fun h28 => ?_)
  · skip
    have hp : ¬ ((D.ring.put ⟨C.i, C.at_, x⟩).2 = 0) := by simpa using h28
    rw [if_neg hp]
    refine SW.seq ?_
    refine SW.reg (l := [.op 0 .e, .op 1 .e]) rfl ?_
    refine rx_s rfl rfl rfl rfl rfl ?_
    refine rx_callH (F := ?FT489) rfl rfl rfl rfl rfl rfl rfl rfl Fa.ca_94 rfl (tell c d s hN C L (by omega) 2 0) ?T489 ?_
    case T489 => (repeat (first|exact Take.nil|refine Take.cons (by (repeat first|exact .here|apply Take1.there)) ?_))
    rintro _ _ ⟨rfl, rfl⟩
    try simp only [List.cons_append, List.nil_append]
    refine rx_end0 ?_
    refine SW.seq ?_
    refine SW.reg (l := [.op 0 .e, .op 1 .e, .op 2 .e, .op 3 .e]) rfl ?_
    iterate 2 refine rx_s rfl rfl rfl rfl rfl ?_
    refine rx_build rfl rfl rfl rfl rfl Fa.st_28 rfl (cs := [_, _, _, _, _]) rfl ?_
    refine rx_callH (F := ?FT490) rfl rfl rfl rfl rfl rfl rfl rfl Fa.ca_98 rfl (end_ c d s hN C hC (L ++ [⟨2, C.i, C.at_, 0⟩]) (by simp; omega) ⟨(D.ring.put ⟨C.i, C.at_, x⟩).2, 0, 0, Sli.none, Sli.none⟩) ?T490 ?_
    case T490 => (repeat (first|exact Take.nil|refine Take.cons (by (repeat first|exact .here|apply Take1.there)) ?_))
    rintro _ _ ⟨rfl, rfl⟩
    try simp only [List.cons_append, List.nil_append]
    refine rx_end0 ?_
    refine SW.ret ?_
    exact retK0 (l := [_, _, _]) .nil ⟨rfl, rfl⟩ (.one (by (repeat first|exact .here|apply Take1.there)) (.one (by (repeat first|exact .here|apply Take1.there)) (.one (by (repeat first|exact .here|apply Take1.there)) .nil)))
  · skip
    have hp : (D.ring.put ⟨C.i, C.at_, x⟩).2 = 0 := by simpa using h28
    rw [if_pos hp]
    refine SW.skip ?_
    try simp only [thenK, blockK, cond_true, cond_false, beq_self_eq_true, Nat.reduceBEq]
    refine SW.seq ?_
    refine SW.reg (l := [.op 0 .e, .op 1 .e]) rfl ?_
    refine rx_s rfl rfl rfl rfl rfl ?_
    refine rx_callH (F := ?FT491) rfl rfl rfl rfl rfl rfl rfl rfl Fa.ca_94 rfl (tell c d s hN C L (by omega) 1 0) ?T491 ?_
    case T491 => (repeat (first|exact Take.nil|refine Take.cons (by (repeat first|exact .here|apply Take1.there)) ?_))
    rintro _ _ ⟨rfl, rfl⟩
    try simp only [List.cons_append, List.nil_append]
    refine rx_end0 ?_
    refine SW.seq ?_
    refine SW.exH 0 rfl ?_; rintro ⟨cv, av⟩; simp only [List.cons_append, List.nil_append]
    refine SW.reg (l := [.op 0 .e, .op 1 .e, .op 2 .e, .op 3 .e]) rfl ?_
    iterate 2 refine rx_s rfl rfl rfl rfl rfl ?_
    refine rx_fa rfl rfl rfl rfl rfl rfl Fa.fo_135_7 ?_
    refine rx_stp rfl rfl rfl rfl rfl rfl (by (repeat first|exact .here|apply Take1.there)) Fa.sz_4 (vs := [_]) rfl rfl rfl (by rfl) (cl' := [_, _, _, _, _, _, _, _, _, _, _, _, _, _, _, _, _]) (by rfl) ?_
    refine rx_end0 ?_
    refine SW.reg (l := [.op 0 .e, .op 1 .e, .op 2 .e, .op 3 .e, .op 4 .e, .op 5 .e]) rfl ?_
    iterate 4 refine rx_s rfl rfl rfl rfl rfl ?_
    refine rx_fa rfl rfl rfl rfl rfl rfl Fa.fo_135_6 ?_
    refine rx_stp rfl rfl rfl rfl rfl rfl (by (repeat first|exact .here|apply Take1.there)) Fa.sz_1 (vs := [_]) rfl rfl rfl (by rfl) (cl' := [_, _, _, _, _, _, _, _, _, _, _, _, _, _, _, _, _]) (by rfl) ?_
    refine rx_endL ?_
    exact retK0e (l := [_, _, _]) .nil ⟨rfl, rfl⟩ (foldC (C := { C with waits := true, next := 122 }) (.one (by (repeat first|exact .here|apply Take1.there)) (.one (by (repeat first|exact .here|apply Take1.there)) (.one (by (repeat first|exact .here|apply Take1.there)) (.one (by (repeat first|exact .here|apply Take1.there)) (.one (by (repeat first|exact .here|apply Take1.there)) .nil))))))
/-- How a call begins that doesn't read. -/
theorem beginW (hN : Note Tryz.prog nf cap Lg) (C : Cli) (hC : C.ok) (D : Desk) (hD : D.ok) (L : List Ev) (hL : L.length ≤ 800000) (x : Holt.Call) (hx : C.calls[C.at_]? = some x) (hk : x.kind = 0 ∨ x.kind = 1 ∨ x.kind = 2 ∨ x.kind = 5 ∨ x.kind = 6 ∨ x.kind = 7) :
    Sl.Spec Tryz.prog 66 #[.pointer (some ⟨c, 0, none⟩)] [CliP c d s nf cap C, DeskP d D, Lg L]
    (fun u l => u = .tuple #[] ∧ l = if (D.ring.put ⟨C.i, C.at_, x⟩).2 = 0 then
        [CliP c d s nf cap { C with waits := true, next := 122 }, DeskP d { D.tick with ring := (D.ring.put ⟨C.i, C.at_, x⟩).1 }, Lg (L ++ [⟨0, C.i, C.at_, 0⟩] ++ [⟨1, C.i, C.at_, 0⟩])]
      else [CliP c d s nf cap (C.ended 66 ⟨(D.ring.put ⟨C.i, C.at_, x⟩).2, 0, 0, Sli.none, Sli.none⟩), DeskP d { D.tick with ring := (D.ring.put ⟨C.i, C.at_, x⟩).1 }, Lg (L ++ [⟨0, C.i, C.at_, 0⟩] ++ [⟨2, C.i, C.at_, 0⟩] ++ [⟨9, C.i, C.at_, 0⟩])]) := by
  have hsend := send c d s hN C hC D hD (L ++ [⟨0, C.i, C.at_, 0⟩]) (by simp; omega) x hx
  refine Spec.enter Tryz.func66 rfl rfl rfl ?_
  refine SW.seq ?_
  refine SW.reg (l := [.op 0 .e, .op 1 .e]) rfl ?_
  refine rx_s rfl rfl rfl rfl rfl ?_
  refine rx_callH (F := ?FT492) rfl rfl rfl rfl rfl rfl rfl rfl Fa.ca_94 rfl (tell c d s hN C L (by omega) 0 0) ?T492 ?_
  case T492 => (repeat (first|exact Take.nil|refine Take.cons (by (repeat first|exact .here|apply Take1.there)) ?_))
  rintro _ _ ⟨rfl, rfl⟩
  try simp only [List.cons_append, List.nil_append]
  refine rx_end0 ?_
  refine SW.seq ?_
  refine SW.exH 0 rfl ?_; rintro ⟨cv, av⟩; simp only [List.cons_append, List.nil_append]
  refine SW.slopen 1 rfl (fun _ hx' => absurd hx' (flat_ne hx (by decide))) ?_
  intro bp len cap' rest hv e1 e2 e3 e4
  subst hv
  have hlt := (List.getElem?_eq_some_iff.1 hx).1
  rw [flat_len, show Enc.n Holt.Call = 5 from rfl] at e1 e2
  refine SW.drawAll Fa.mix (tp := [0, 1, 3, 7, 0, 16, 48, 112, 255, 511, 1023]) (l := [.op 0 .s, .op 1 .s, .op 2 .s, .op 3 .d, .op 4 .s, .op 5 .s, .op 6 .s, .op 7 .d, .op 8 .s, .op 9 .s, .op 10 .d]) (by kernel_rfl) ?_
  iterate 2 refine rx_s rfl rfl rfl rfl rfl ?_
  refine rx_fa rfl rfl rfl rfl rfl rfl Fa.fo_135_3 ?_
  refine rx_ldD1 rfl rfl rfl rfl rfl rfl rfl (by (repeat first|exact .here|apply Take1.there)) Fa.ag_31 (by rfl) ?_
  iterate 2 refine rx_s rfl rfl rfl rfl rfl ?_
  refine rx_fa rfl rfl rfl rfl rfl rfl Fa.fo_135_4 ?_
  refine rx_ldD1 rfl rfl rfl rfl rfl rfl rfl (by (repeat first|exact .here|apply Take1.there)) Fa.ag_3 (by rfl) ?_
  refine rx_ix rfl rfl rfl rfl rfl Fa.sl_31 rfl rfl (by omega) ?_
  refine rx_fa rfl rfl rfl rfl rfl rfl Fa.fo_24_0 ?_
  refine rx_ldD1 rfl rfl rfl rfl rfl rfl rfl (by (repeat first|exact .here|apply Take1.there)) Fa.ag_3 (by exact flat_get hx (j := 0) (off := 0 + (C.at_ : Int).toNat * 5 + 0) (by decide) (by simp; rfl) rest) ?_
  refine rx_endD ?_
  try simp only [List.cons_append, List.nil_append]
  refine SW.fold (Hl' := [CliP c d s nf cap C, DeskP d D, Lg (L ++ [⟨0, C.i, C.at_, 0⟩])]) (foldC (cv := .slice (some ⟨bp, 0, none⟩) len cap') (.one (by (repeat first|exact .here|apply Take1.there)) (slown_mk (xs := flat C.calls) (rest := rest) (by (repeat first|exact .here|apply Take1.there)) rfl e4 (by rw [flat_len]; exact e1) (by rw [flat_len]; exact e2) e3 (.one (by (repeat first|exact .here|apply Take1.there)) (.one (by (repeat first|exact .here|apply Take1.there)) (.one (by (repeat first|exact .here|apply Take1.there)) .nil)))))) ?_
  refine SW.block ?_
  refine SW.seq ?_
  refine SW.seq ?_
  refine SW.reg (l := [.op 0 .e, .op 1 .e]) rfl ?_
  iterate 2 refine rx_s rfl rfl rfl rfl rfl ?_
  refine rx_end0 ?_
  refine SW.cond rfl (fun h18 => ?_) (fun h18 => ?_)
  · (simp at h18; omega)
  · skip
    refine SW.reg (l := [.op 0 .e, .op 1 .e]) rfl ?_
    iterate 2 refine rx_s rfl rfl rfl rfl rfl ?_
    refine rx_end0 ?_
    refine SW.cond rfl (fun h18 => ?_) (fun h18 => ?_)
    · (simp at h18; omega)
    · skip
      refine SW.seq ?_
      refine SW.seq ?_
      refine SW.reg (l := [.op 0 .e, .op 1 .e]) rfl ?_
      iterate 2 refine rx_s rfl rfl rfl rfl rfl ?_
      refine rx_end0 ?_
      refine SW.cond rfl (fun h34 => ?_) (fun h34 => ?_)
      · skip
        refine SW.skip ?_
        try simp only [thenK, blockK, cond_true, cond_false, beq_self_eq_true, Nat.reduceBEq]
        refine SW.cond rfl (fun h34 => ?_) (fun h34 => ?_)
        · skip
          refine SW.reg (l := [.op 0 .e, .op 1 .e]) rfl ?_
          refine rx_s rfl rfl rfl rfl rfl ?_
          refine rx_callH (F := ?FT493) rfl rfl rfl rfl rfl rfl rfl rfl Fa.ca_97 rfl (hsend) ?T493 ?_
          case T493 => (repeat (first|exact Take.nil|refine Take.cons (by (repeat first|exact .here|apply Take1.there)) ?_))
          rintro _ _ ⟨rfl, rfl⟩
          try simp only [List.cons_append, List.nil_append]
          refine rx_endL ?_
          exact retK0e (l := _) .nil ⟨rfl, rfl⟩ (by simp only [List.nil_append, List.append_nil]; exact EntL.refl _)
        · simp_all
      · skip
        refine SW.seq ?_
        refine SW.reg (l := [.op 0 .e, .op 1 .e]) rfl ?_
        iterate 2 refine rx_s rfl rfl rfl rfl rfl ?_
        refine rx_end0 ?_
        refine SW.cond rfl (fun h34 => ?_) (fun h34 => ?_)
        · skip
          refine SW.skip ?_
          try simp only [thenK, blockK, cond_true, cond_false, beq_self_eq_true, Nat.reduceBEq]
          refine SW.cond rfl (fun h34 => ?_) (fun h34 => ?_)
          · skip
            refine SW.reg (l := [.op 0 .e, .op 1 .e]) rfl ?_
            refine rx_s rfl rfl rfl rfl rfl ?_
            refine rx_callH (F := ?FT494) rfl rfl rfl rfl rfl rfl rfl rfl Fa.ca_97 rfl (hsend) ?T494 ?_
            case T494 => (repeat (first|exact Take.nil|refine Take.cons (by (repeat first|exact .here|apply Take1.there)) ?_))
            rintro _ _ ⟨rfl, rfl⟩
            try simp only [List.cons_append, List.nil_append]
            refine rx_endL ?_
            exact retK0e (l := _) .nil ⟨rfl, rfl⟩ (by simp only [List.nil_append, List.append_nil]; exact EntL.refl _)
          · simp_all
        · skip
          refine SW.seq ?_
          refine SW.reg (l := [.op 0 .e, .op 1 .e]) rfl ?_
          iterate 2 refine rx_s rfl rfl rfl rfl rfl ?_
          refine rx_end0 ?_
          refine SW.cond rfl (fun h34 => ?_) (fun h34 => ?_)
          · skip
            refine SW.skip ?_
            try simp only [thenK, blockK, cond_true, cond_false, beq_self_eq_true, Nat.reduceBEq]
            refine SW.cond rfl (fun h34 => ?_) (fun h34 => ?_)
            · skip
              refine SW.reg (l := [.op 0 .e, .op 1 .e]) rfl ?_
              refine rx_s rfl rfl rfl rfl rfl ?_
              refine rx_callH (F := ?FT495) rfl rfl rfl rfl rfl rfl rfl rfl Fa.ca_97 rfl (hsend) ?T495 ?_
              case T495 => (repeat (first|exact Take.nil|refine Take.cons (by (repeat first|exact .here|apply Take1.there)) ?_))
              rintro _ _ ⟨rfl, rfl⟩
              try simp only [List.cons_append, List.nil_append]
              refine rx_endL ?_
              exact retK0e (l := _) .nil ⟨rfl, rfl⟩ (by simp only [List.nil_append, List.append_nil]; exact EntL.refl _)
            · simp_all
          · skip
            refine SW.seq ?_
            refine SW.reg (l := [.op 0 .e, .op 1 .e]) rfl ?_
            iterate 2 refine rx_s rfl rfl rfl rfl rfl ?_
            refine rx_end0 ?_
            refine SW.cond rfl (fun h34 => ?_) (fun h34 => ?_)
            · skip
              refine SW.skip ?_
              try simp only [thenK, blockK, cond_true, cond_false, beq_self_eq_true, Nat.reduceBEq]
              refine SW.cond rfl (fun h34 => ?_) (fun h34 => ?_)
              · skip
                refine SW.reg (l := [.op 0 .e, .op 1 .e]) rfl ?_
                refine rx_s rfl rfl rfl rfl rfl ?_
                refine rx_callH (F := ?FT496) rfl rfl rfl rfl rfl rfl rfl rfl Fa.ca_97 rfl (hsend) ?T496 ?_
                case T496 => (repeat (first|exact Take.nil|refine Take.cons (by (repeat first|exact .here|apply Take1.there)) ?_))
                rintro _ _ ⟨rfl, rfl⟩
                try simp only [List.cons_append, List.nil_append]
                refine rx_endL ?_
                exact retK0e (l := _) .nil ⟨rfl, rfl⟩ (by simp only [List.nil_append, List.append_nil]; exact EntL.refl _)
              · simp_all
            · skip
              refine SW.seq ?_
              refine SW.reg (l := [.op 0 .e, .op 1 .e]) rfl ?_
              iterate 2 refine rx_s rfl rfl rfl rfl rfl ?_
              refine rx_end0 ?_
              refine SW.cond rfl (fun h34 => ?_) (fun h34 => ?_)
              · skip
                refine SW.skip ?_
                try simp only [thenK, blockK, cond_true, cond_false, beq_self_eq_true, Nat.reduceBEq]
                refine SW.cond rfl (fun h34 => ?_) (fun h34 => ?_)
                · skip
                  refine SW.reg (l := [.op 0 .e, .op 1 .e]) rfl ?_
                  refine rx_s rfl rfl rfl rfl rfl ?_
                  refine rx_callH (F := ?FT497) rfl rfl rfl rfl rfl rfl rfl rfl Fa.ca_97 rfl (hsend) ?T497 ?_
                  case T497 => (repeat (first|exact Take.nil|refine Take.cons (by (repeat first|exact .here|apply Take1.there)) ?_))
                  rintro _ _ ⟨rfl, rfl⟩
                  try simp only [List.cons_append, List.nil_append]
                  refine rx_endL ?_
                  exact retK0e (l := _) .nil ⟨rfl, rfl⟩ (by simp only [List.nil_append, List.append_nil]; exact EntL.refl _)
                · simp_all
              · skip
                refine SW.reg (l := [.op 0 .e, .op 1 .e]) rfl ?_
                iterate 2 refine rx_s rfl rfl rfl rfl rfl ?_
                refine rx_end0 ?_
                refine SW.cond rfl (fun h34 => ?_) (fun h34 => ?_)
                · skip
                  refine SW.reg (l := [.op 0 .e, .op 1 .e]) rfl ?_
                  refine rx_s rfl rfl rfl rfl rfl ?_
                  refine rx_callH (F := ?FT498) rfl rfl rfl rfl rfl rfl rfl rfl Fa.ca_97 rfl (hsend) ?T498 ?_
                  case T498 => (repeat (first|exact Take.nil|refine Take.cons (by (repeat first|exact .here|apply Take1.there)) ?_))
                  rintro _ _ ⟨rfl, rfl⟩
                  try simp only [List.cons_append, List.nil_append]
                  refine rx_endL ?_
                  exact retK0e (l := _) .nil ⟨rfl, rfl⟩ (by simp only [List.nil_append, List.append_nil]; exact EntL.refl _)
                · (exfalso; simp_all)
/-- How a call begins that is none. -/
theorem beginX (hN : Note Tryz.prog nf cap Lg) (C : Cli) (hC : C.ok) (L : List Ev) (hL : L.length ≤ 800000) (x : Holt.Call) (hx : C.calls[C.at_]? = some x) (hk : x.kind < 0 ∨ 7 < x.kind) :
    Sl.Spec Tryz.prog 66 #[.pointer (some ⟨c, 0, none⟩)] [CliP c d s nf cap C, Lg L]
    (fun u l => u = .tuple #[] ∧ l = [CliP c d s nf cap (C.ended 66 ⟨1, 0, 0, Sli.none, Sli.none⟩), Lg (L ++ [⟨0, C.i, C.at_, 0⟩] ++ [⟨9, C.i, C.at_, 0⟩])]) := by
  refine Spec.enter Tryz.func66 rfl rfl rfl ?_
  refine SW.seq ?_
  refine SW.reg (l := [.op 0 .e, .op 1 .e]) rfl ?_
  refine rx_s rfl rfl rfl rfl rfl ?_
  refine rx_callH (F := ?FT499) rfl rfl rfl rfl rfl rfl rfl rfl Fa.ca_94 rfl (tell c d s hN C L (by omega) 0 0) ?T499 ?_
  case T499 => (repeat (first|exact Take.nil|refine Take.cons (by (repeat first|exact .here|apply Take1.there)) ?_))
  rintro _ _ ⟨rfl, rfl⟩
  try simp only [List.cons_append, List.nil_append]
  refine rx_end0 ?_
  refine SW.seq ?_
  refine SW.exH 0 rfl ?_; rintro ⟨cv, av⟩; simp only [List.cons_append, List.nil_append]
  refine SW.slopen 1 rfl (fun _ hx' => absurd hx' (flat_ne hx (by decide))) ?_
  intro bp len cap' rest hv e1 e2 e3 e4
  subst hv
  have hlt := (List.getElem?_eq_some_iff.1 hx).1
  rw [flat_len, show Enc.n Holt.Call = 5 from rfl] at e1 e2
  refine SW.drawAll Fa.mix (tp := [0, 1, 3, 7, 0, 16, 48, 112, 255, 511, 1023]) (l := [.op 0 .s, .op 1 .s, .op 2 .s, .op 3 .d, .op 4 .s, .op 5 .s, .op 6 .s, .op 7 .d, .op 8 .s, .op 9 .s, .op 10 .d]) (by kernel_rfl) ?_
  iterate 2 refine rx_s rfl rfl rfl rfl rfl ?_
  refine rx_fa rfl rfl rfl rfl rfl rfl Fa.fo_135_3 ?_
  refine rx_ldD1 rfl rfl rfl rfl rfl rfl rfl (by (repeat first|exact .here|apply Take1.there)) Fa.ag_31 (by rfl) ?_
  iterate 2 refine rx_s rfl rfl rfl rfl rfl ?_
  refine rx_fa rfl rfl rfl rfl rfl rfl Fa.fo_135_4 ?_
  refine rx_ldD1 rfl rfl rfl rfl rfl rfl rfl (by (repeat first|exact .here|apply Take1.there)) Fa.ag_3 (by rfl) ?_
  refine rx_ix rfl rfl rfl rfl rfl Fa.sl_31 rfl rfl (by omega) ?_
  refine rx_fa rfl rfl rfl rfl rfl rfl Fa.fo_24_0 ?_
  refine rx_ldD1 rfl rfl rfl rfl rfl rfl rfl (by (repeat first|exact .here|apply Take1.there)) Fa.ag_3 (by exact flat_get hx (j := 0) (off := 0 + (C.at_ : Int).toNat * 5 + 0) (by decide) (by simp; rfl) rest) ?_
  refine rx_endD ?_
  try simp only [List.cons_append, List.nil_append]
  refine SW.fold (Hl' := [CliP c d s nf cap C, Lg (L ++ [⟨0, C.i, C.at_, 0⟩])]) (foldC (cv := .slice (some ⟨bp, 0, none⟩) len cap') (.one (by (repeat first|exact .here|apply Take1.there)) (slown_mk (xs := flat C.calls) (rest := rest) (by (repeat first|exact .here|apply Take1.there)) rfl e4 (by rw [flat_len]; exact e1) (by rw [flat_len]; exact e2) e3 (.one (by (repeat first|exact .here|apply Take1.there)) (.one (by (repeat first|exact .here|apply Take1.there)) .nil))))) ?_
  refine SW.block ?_
  refine SW.seq ?_
  refine SW.seq ?_
  refine SW.reg (l := [.op 0 .e, .op 1 .e]) rfl ?_
  iterate 2 refine rx_s rfl rfl rfl rfl rfl ?_
  refine rx_end0 ?_
  refine SW.cond rfl (fun h18 => ?_) (fun h18 => ?_)
  · (simp at h18; omega)
  · skip
    refine SW.reg (l := [.op 0 .e, .op 1 .e]) rfl ?_
    iterate 2 refine rx_s rfl rfl rfl rfl rfl ?_
    refine rx_end0 ?_
    refine SW.cond rfl (fun h18 => ?_) (fun h18 => ?_)
    · (simp at h18; omega)
    · skip
      refine SW.seq ?_
      refine SW.seq ?_
      refine SW.reg (l := [.op 0 .e, .op 1 .e]) rfl ?_
      iterate 2 refine rx_s rfl rfl rfl rfl rfl ?_
      refine rx_end0 ?_
      refine SW.cond rfl (fun h34 => ?_) (fun h34 => ?_)
      · (simp at h34; omega)
      · skip
        refine SW.seq ?_
        refine SW.reg (l := [.op 0 .e, .op 1 .e]) rfl ?_
        iterate 2 refine rx_s rfl rfl rfl rfl rfl ?_
        refine rx_end0 ?_
        refine SW.cond rfl (fun h34 => ?_) (fun h34 => ?_)
        · (simp at h34; omega)
        · skip
          refine SW.seq ?_
          refine SW.reg (l := [.op 0 .e, .op 1 .e]) rfl ?_
          iterate 2 refine rx_s rfl rfl rfl rfl rfl ?_
          refine rx_end0 ?_
          refine SW.cond rfl (fun h34 => ?_) (fun h34 => ?_)
          · (simp at h34; omega)
          · skip
            refine SW.seq ?_
            refine SW.reg (l := [.op 0 .e, .op 1 .e]) rfl ?_
            iterate 2 refine rx_s rfl rfl rfl rfl rfl ?_
            refine rx_end0 ?_
            refine SW.cond rfl (fun h34 => ?_) (fun h34 => ?_)
            · (simp at h34; omega)
            · skip
              refine SW.seq ?_
              refine SW.reg (l := [.op 0 .e, .op 1 .e]) rfl ?_
              iterate 2 refine rx_s rfl rfl rfl rfl rfl ?_
              refine rx_end0 ?_
              refine SW.cond rfl (fun h34 => ?_) (fun h34 => ?_)
              · (simp at h34; omega)
              · skip
                refine SW.reg (l := [.op 0 .e, .op 1 .e]) rfl ?_
                iterate 2 refine rx_s rfl rfl rfl rfl rfl ?_
                refine rx_end0 ?_
                refine SW.cond rfl (fun h34 => ?_) (fun h34 => ?_)
                · (simp at h34; omega)
                · skip
                  refine SW.reg (l := [.op 0 .e, .op 1 .e, .op 2 .e]) rfl ?_
                  refine rx_s rfl rfl rfl rfl rfl ?_
                  refine rx_build rfl rfl rfl rfl rfl Fa.st_28 rfl (cs := [_, _, _, _, _]) rfl ?_
                  refine rx_callH (F := ?FT500) rfl rfl rfl rfl rfl rfl rfl rfl Fa.ca_98 rfl (end_ c d s hN C hC (L ++ [⟨0, C.i, C.at_, 0⟩]) (by simp; omega) ⟨1, 0, 0, Sli.none, Sli.none⟩) ?T500 ?_
                  case T500 => (repeat (first|exact Take.nil|refine Take.cons (by (repeat first|exact .here|apply Take1.there)) ?_))
                  rintro _ _ ⟨rfl, rfl⟩
                  try simp only [List.cons_append, List.nil_append]
                  refine rx_endL ?_
                  exact retK0e (l := [_, _]) .nil ⟨rfl, rfl⟩ (.one (by (repeat first|exact .here|apply Take1.there)) (.one (by (repeat first|exact .here|apply Take1.there)) .nil))
/-- 'take' -/
theorem take (hN : Note Tryz.prog nf cap Lg) (C : Cli) (hC : C.ok) (D : Desk) (hD : D.ok) (L : List Ev) (hL : L.length ≤ 900000) (x : Rep) (hx : D.reps[C.i]? = some x) (hl : x.lies = true) :
    Sl.Spec Tryz.prog 122 #[.pointer (some ⟨c, 0, none⟩)] [CliP c d s nf cap C, DeskP d D, Lg L]
    (fun u l => u = .tuple #[] ∧ l = [CliP c d s nf cap ({ C with waits := false }.ended 66 x.a), DeskP d { D.tick with reps := D.reps.set C.i Rep.zero }, Lg (L ++ [⟨9, C.i, C.at_, x.a.version⟩])]) := by
  refine Spec.enter Tryz.func122 rfl rfl rfl ?_
  refine SW.exH 0 rfl ?_; rintro ⟨cv, av⟩; simp only [List.cons_append, List.nil_append]
  refine SW.seq ?_
  refine SW.drawT (Hs := [DeskP d D]) (D0l := []) (Dl := ?DT501) (F := ?FT501) Fa.mix (tp := [0, 1, 3, 7, 0, 16, 48, 112, 255, 511, 1023, 1023, 0, 6143, 16383]) (l := [.op 0 .s, .op 1 .s, .op 2 .s, .op 3 .d, .op 4 .s, .op 5 .s, .op 6 .s, .op 7 .d, .op 8 .e, .op 9 .s, .op 10 .s, .op 11 .s, .op 12 .f, .bar, .op 13 .e, .op 14 .s]) (by kernel_rfl) ?T501a ?T501b ?_
  case T501a => (repeat (first|exact Take.nil|refine Take.cons (by (repeat first|exact .here|apply Take1.there)) ?_))
  case T501b => (repeat (first|exact Take.nil|refine Take.cons (by (repeat first|exact .here|apply Take1.there)) ?_))
  iterate 2 refine rx_s rfl rfl rfl rfl rfl ?_
  refine rx_fa rfl rfl rfl rfl rfl rfl Fa.fo_135_0 ?_
  refine rx_ldD1 rfl rfl rfl rfl rfl rfl rfl (by (repeat first|exact .here|apply Take1.there)) Fa.ag_33 (by rfl) ?_
  iterate 2 refine rx_s rfl rfl rfl rfl rfl ?_
  refine rx_fa rfl rfl rfl rfl rfl rfl Fa.fo_135_2 ?_
  refine rx_ldD1 rfl rfl rfl rfl rfl rfl rfl (by (repeat first|exact .here|apply Take1.there)) Fa.ag_3 (by rfl) ?_
  refine rx_callH (F := ?FT502) rfl rfl rfl rfl rfl rfl rfl rfl Fa.ca_148 rfl (Dk.reply d D hD C.i x (Int.natCast_nonneg _) hx hl) ?T502 ?_
  case T502 => (repeat (first|exact Take.nil|refine Take.cons (by (repeat first|exact .here|apply Take1.there)) ?_))
  rintro _ _ ⟨rfl, rfl⟩
  try simp only [List.cons_append, List.nil_append]
  iterate 3 refine rx_s rfl rfl rfl rfl rfl ?_
  refine rx_alloc (.inl rfl) rfl rfl rfl rfl rfl Fa.z_28 ?_
  intro b2
  refine rx_barAll ?_
  try simp only [List.cons_append, List.nil_append]
  refine rx_stp rfl rfl rfl rfl rfl rfl (by (repeat first|exact .here|apply Take1.there)) Fa.sz_28 (vs := [_, _, _, _, _]) rfl rfl rfl (by rfl) (cl' := [_, _, _, _, _]) (by rfl) ?_
  refine rx_s rfl rfl rfl rfl rfl ?_
  refine rx_endD ?_
  try simp only [List.cons_append, List.nil_append]
  refine SW.seq ?_
  refine SW.reg (l := [.op 0 .e, .op 1 .e, .op 2 .e, .op 3 .e]) rfl ?_
  iterate 2 refine rx_s rfl rfl rfl rfl rfl ?_
  refine rx_fa rfl rfl rfl rfl rfl rfl Fa.fo_135_7 ?_
  refine rx_stp rfl rfl rfl rfl rfl rfl (by (repeat first|exact .here|apply Take1.there)) Fa.sz_4 (vs := [_]) rfl rfl rfl (by rfl) (cl' := [_, _, _, _, _, _, _, _, _, _, _, _, _, _, _, _, _]) (by rfl) ?_
  refine rx_end0 ?_
  refine SW.fold (Hl' := [CliP c d s nf cap { C with waits := false }, DeskP d { D.tick with reps := D.reps.set C.i Rep.zero }, Lg L, blk b2 (enc x.a) 28 (0, 0)]) (foldC (C := { C with waits := false }) (.one (by (repeat first|exact .here|apply Take1.there)) (.one (by (repeat first|exact .here|apply Take1.there)) (.one (by (repeat first|exact .here|apply Take1.there)) (.one (by (repeat first|exact .here|apply Take1.there)) (.one (by (repeat first|exact .here|apply Take1.there)) (.one (by (repeat first|exact .here|apply Take1.there)) .nil))))))) ?_
  simp only [Enc.enc]
  refine SW.reg (l := [.op 0 .e, .op 1 .e, .op 2 .e]) rfl ?_
  refine rx_s rfl rfl rfl rfl rfl ?_
  refine rx_ldHA rfl rfl rfl rfl rfl rfl (by (repeat first|exact .here|apply Take1.there)) Fa.ag_28 Fa.sz_28 (vs := [_, _, _, _, _]) (by rfl) rfl ?_
  refine rx_callH (F := ?FT503) rfl rfl rfl rfl rfl rfl rfl rfl Fa.ca_98 rfl (end_ c d s hN { C with waits := false } ⟨hC.at_, hC.answers⟩ L (by omega) x.a) ?T503 ?_
  case T503 => (repeat (first|exact Take.nil|refine Take.cons (by (repeat first|exact .here|apply Take1.there)) ?_))
  rintro _ _ ⟨rfl, rfl⟩
  try simp only [List.cons_append, List.nil_append]
  refine rx_endL ?_
  exact retK0e (l := [_, _, _]) .nil ⟨rfl, rfl⟩ (.one (by (repeat first|exact .here|apply Take1.there)) (.one (by (repeat first|exact .here|apply Take1.there)) (.one (by (repeat first|exact .here|apply Take1.there)) .nil)))
/-- A step. -/
theorem step (C : Cli) (D : Desk) (x : Rep) (hx : D.reps[C.i]? = some x) (hr : (decide (C.at_ < C.calls.length) && (!C.waits || x.lies)) = true) (L : List Ev) (R : List HProp) (hca : callable Tryz.prog C.next = true)
    (hn : Sl.Spec Tryz.prog C.next #[.pointer (some ⟨c, 0, none⟩)] [CliP c d s nf cap C, DeskP d D, Lg L] (fun v l => v = .tuple #[] ∧ l = R)) :
    Sl.Spec Tryz.prog 21 #[.pointer (some ⟨c, 0, none⟩)] [CliP c d s nf cap C, DeskP d D, Lg L] (fun v l => v = .tuple #[] ∧ l = R) := by
  refine Spec.enter Tryz.func21 rfl rfl rfl ?_
  refine SW.seq ?_
  refine SW.reg (l := [.op 0 .e, .op 1 .e]) rfl ?_
  refine rx_s rfl rfl rfl rfl rfl ?_
  refine rx_callH (F := ?FT504) rfl rfl rfl rfl rfl rfl rfl rfl Fa.ca_26 rfl (ready c d s (nf := nf) (cap := cap) C D x hx) ?T504 ?_
  case T504 => (repeat (first|exact Take.nil|refine Take.cons (by (repeat first|exact .here|apply Take1.there)) ?_))
  rintro _ _ ⟨rfl, rfl⟩
  rw [hr]
  try simp only [List.cons_append, List.nil_append]
  refine rx_end0 ?_
  refine SW.cond (b := true) rfl (fun _ => ?_) (fun h => nomatch h)
  refine SW.exH 0 rfl ?_; rintro ⟨cv, av⟩; simp only [List.cons_append, List.nil_append]
  refine SW.reg (l := [.op 0 .e, .op 1 .e, .op 2 .e, .op 3 .e, .op 4 .e]) rfl ?_
  iterate 2 refine rx_s rfl rfl rfl rfl rfl ?_
  refine rx_fa rfl rfl rfl rfl rfl rfl Fa.fo_135_6 ?_
  refine rx_ldH1 rfl rfl rfl rfl rfl rfl (by (repeat first|exact .here|apply Take1.there)) Fa.ag_1 (by rfl) ?_
  refine rx_callH (F := ?FT505) rfl rfl rfl rfl rfl rfl rfl rfl hca rfl (Sl.Spec.pre (Pre' := [CB c d s nf cap C cv av, SlOwn 24 5 cv (flat C.calls), SlOwn 28 5 av (flat C.answers), DeskP d D, Lg L]) (EntL.ent (foldC (.one .here (.one .here (.one .here (.one .here (.one .here .nil))))))) hn) ?T505 ?_
  case T505 => (repeat (first|exact Take.nil|refine Take.cons (by (repeat first|exact .here|apply Take1.there)) ?_))
  rintro _ _ ⟨rfl, rfl⟩
  try simp only [List.cons_append, List.nil_append]
  refine rx_endL ?_
  exact retK0e (l := _) .nil ⟨rfl, rfl⟩ (by simp only [List.nil_append, List.append_nil]; exact EntL.refl _)
theorem stepIdle (C : Cli) (D : Desk) (x : Rep) (hx : D.reps[C.i]? = some x) (hr : (decide (C.at_ < C.calls.length) && (!C.waits || x.lies)) = false) :
    Sl.Spec Tryz.prog 21 #[.pointer (some ⟨c, 0, none⟩)] [CliP c d s nf cap C, DeskP d D] (fun v l => v = .tuple #[] ∧ l = [CliP c d s nf cap C, DeskP d D]) := by
  refine Spec.enter Tryz.func21 rfl rfl rfl ?_
  refine SW.seq ?_
  refine SW.reg (l := [.op 0 .e, .op 1 .e]) rfl ?_
  refine rx_s rfl rfl rfl rfl rfl ?_
  refine rx_callH (F := ?FT506) rfl rfl rfl rfl rfl rfl rfl rfl Fa.ca_26 rfl (ready c d s (nf := nf) (cap := cap) C D x hx) ?T506 ?_
  case T506 => (repeat (first|exact Take.nil|refine Take.cons (by (repeat first|exact .here|apply Take1.there)) ?_))
  rintro _ _ ⟨rfl, rfl⟩
  rw [hr]
  try simp only [List.cons_append, List.nil_append]
  refine rx_end0 ?_
  refine SW.cond (b := false) rfl (fun h => nomatch h) (fun _ => ?_)
  refine SW.skip ?_
  try simp only [thenK, blockK, cond_true, cond_false, beq_self_eq_true, Nat.reduceBEq]
  exact retK0e (l := [_, _]) .nil ⟨rfl, rfl⟩ (.one (by (repeat first|exact .here|apply Take1.there)) (.one (by (repeat first|exact .here|apply Take1.there)) .nil))
end
end Cl
end Go.Proofs.YtikkegelplllmaaGreatDoor
/- A list is copied. -/
namespace Go.Proofs.YtikkegelplllmaaGreatDoor
open Go Go.Sl Go.Holt Go.Proofs
open Go.Holt.Enc (enc)
namespace CnC
theorem clone (v : Value) (xs : List Value) (hn : xs.length ≤ 1000000000) : Sl.Spec Tryz.prog 65 #[v] [SlOwn 24 5 v xs]
    (fun u l => ∃ p m c, u = .slice p m c ∧ xs.length = m * 5 ∧ l = [SlOwn 24 5 v xs, SlOwn 24 5 (.slice p m c) xs]) := by
  refine Holt.Spec.slopen 0 rfl ?_ ?_
  · rintro rfl rfl
    refine Spec.enter Tryz.func65 rfl rfl rfl ?_
    refine SW.seq ?_
    refine SW.reg (l := [.op 0 .e]) rfl ?_
    refine rx_s rfl rfl rfl rfl rfl ?_
    refine rx_end0 ?_
    refine SW.seq ?_
    refine SW.seq ?_
    refine SW.reg (l := [.op 0 .e, .op 1 .e]) rfl ?_
    refine rx_s rfl rfl rfl rfl rfl ?_
    refine rx_eqnilS rfl rfl rfl rfl rfl Fa.sl_31 rfl ?_
    refine rx_end0 ?_
    refine SW.cond (b := true) rfl (fun _ => ?_) (fun h => nomatch h)
    refine SW.seq ?_
    refine SW.reg (l := [.op 0 .e]) rfl ?_
    refine rx_s rfl rfl rfl rfl rfl ?_
    refine rx_end0 ?_
    refine SW.ret ?_
    exact retK1 (l := [_, _]) (.tmp rfl .nil) ⟨none, 0, 0, rfl, rfl, rfl⟩ (slown_nil _ _ (slown_nil _ _ .nil))
  · rintro b len cap rest rfl e1 e2 e3 e4
    refine Spec.enter Tryz.func65 rfl rfl rfl ?_
    refine SW.seq ?_
    refine SW.reg (l := [.op 0 .e]) rfl ?_
    refine rx_s rfl rfl rfl rfl rfl ?_
    refine rx_end0 ?_
    refine SW.seq ?_
    refine SW.seq ?_
    refine SW.reg (l := [.op 0 .e, .op 1 .e]) rfl ?_
    refine rx_s rfl rfl rfl rfl rfl ?_
    refine rx_eqnilS rfl rfl rfl rfl rfl Fa.sl_31 rfl ?_
    refine rx_end0 ?_
    refine SW.cond (b := false) rfl (fun h => nomatch h) (fun _ => ?_)
    refine SW.skip ?_
    try simp only [thenK, blockK, cond_true, cond_false, beq_self_eq_true, Nat.reduceBEq]
    refine SW.seq ?_
    refine SW.reg (l := [.op 0 .e, .op 1 .e, .op 2 .e, .op 3 .e]) rfl ?_
    refine rx_bslice0 (.inr rfl) rfl rfl rfl rfl rfl Fa.sl_31 ?_
    intro b5
    refine rx_s rfl rfl rfl rfl rfl ?_
    refine rx_app0 rfl rfl rfl rfl rfl Fa.sl_31 Fa.z_24 rfl rfl rfl rfl rfl (by (repeat first|exact .here|apply Take1.there)) (by (repeat first|exact .here|apply Take1.there)) (ys := xs) (by rw [List.drop_zero, ← e1]; simp) (e1) (e4) (hn) ?_
    intro p7 m7 c7 hm7
    refine rx_s rfl rfl rfl rfl rfl ?_
    refine rx_end0 ?_
    refine SW.ret ?_
    exact retK1 (l := [_, _]) (.tmp rfl .nil) ⟨p7, m7, c7, rfl, hm7, rfl⟩ (slown_mk (xs := xs) (rest := rest) (by (repeat first|exact .here|apply Take1.there)) rfl e4 e1 e2 e3 (.one (by (repeat first|exact .here|apply Take1.there)) .nil))
end CnC
end Go.Proofs.YtikkegelplllmaaGreatDoor
/- A list is copied. -/
namespace Go.Proofs.YtikkegelplllmaaGreatDoor
open Go Go.Sl Go.Holt Go.Proofs
open Go.Holt.Enc (enc)
namespace CnA
theorem clone (v : Value) (xs : List Value) (hn : xs.length ≤ 1000000000) : Sl.Spec Tryz.prog 67 #[v] [SlOwn 28 5 v xs]
    (fun u l => ∃ p m c, u = .slice p m c ∧ xs.length = m * 5 ∧ l = [SlOwn 28 5 v xs, SlOwn 28 5 (.slice p m c) xs]) := by
  refine Holt.Spec.slopen 0 rfl ?_ ?_
  · rintro rfl rfl
    refine Spec.enter Tryz.func67 rfl rfl rfl ?_
    refine SW.seq ?_
    refine SW.reg (l := [.op 0 .e]) rfl ?_
    refine rx_s rfl rfl rfl rfl rfl ?_
    refine rx_end0 ?_
    refine SW.seq ?_
    refine SW.seq ?_
    refine SW.reg (l := [.op 0 .e, .op 1 .e]) rfl ?_
    refine rx_s rfl rfl rfl rfl rfl ?_
    refine rx_eqnilS rfl rfl rfl rfl rfl Fa.sl_45 rfl ?_
    refine rx_end0 ?_
    refine SW.cond (b := true) rfl (fun _ => ?_) (fun h => nomatch h)
    refine SW.seq ?_
    refine SW.reg (l := [.op 0 .e]) rfl ?_
    refine rx_s rfl rfl rfl rfl rfl ?_
    refine rx_end0 ?_
    refine SW.ret ?_
    exact retK1 (l := [_, _]) (.tmp rfl .nil) ⟨none, 0, 0, rfl, rfl, rfl⟩ (slown_nil _ _ (slown_nil _ _ .nil))
  · rintro b len cap rest rfl e1 e2 e3 e4
    refine Spec.enter Tryz.func67 rfl rfl rfl ?_
    refine SW.seq ?_
    refine SW.reg (l := [.op 0 .e]) rfl ?_
    refine rx_s rfl rfl rfl rfl rfl ?_
    refine rx_end0 ?_
    refine SW.seq ?_
    refine SW.seq ?_
    refine SW.reg (l := [.op 0 .e, .op 1 .e]) rfl ?_
    refine rx_s rfl rfl rfl rfl rfl ?_
    refine rx_eqnilS rfl rfl rfl rfl rfl Fa.sl_45 rfl ?_
    refine rx_end0 ?_
    refine SW.cond (b := false) rfl (fun h => nomatch h) (fun _ => ?_)
    refine SW.skip ?_
    try simp only [thenK, blockK, cond_true, cond_false, beq_self_eq_true, Nat.reduceBEq]
    refine SW.seq ?_
    refine SW.reg (l := [.op 0 .e, .op 1 .e, .op 2 .e, .op 3 .e]) rfl ?_
    refine rx_bslice0 (.inr rfl) rfl rfl rfl rfl rfl Fa.sl_45 ?_
    intro b5
    refine rx_s rfl rfl rfl rfl rfl ?_
    refine rx_app0 rfl rfl rfl rfl rfl Fa.sl_45 Fa.z_28 rfl rfl rfl rfl rfl (by (repeat first|exact .here|apply Take1.there)) (by (repeat first|exact .here|apply Take1.there)) (ys := xs) (by rw [List.drop_zero, ← e1]; simp) (e1) (e4) (hn) ?_
    intro p7 m7 c7 hm7
    refine rx_s rfl rfl rfl rfl rfl ?_
    refine rx_end0 ?_
    refine SW.ret ?_
    exact retK1 (l := [_, _]) (.tmp rfl .nil) ⟨p7, m7, c7, rfl, hm7, rfl⟩ (slown_mk (xs := xs) (rest := rest) (by (repeat first|exact .here|apply Take1.there)) rfl e4 e1 e2 e3 (.one (by (repeat first|exact .here|apply Take1.there)) .nil))
end CnA
end Go.Proofs.YtikkegelplllmaaGreatDoor
/- One who calls is made; what it has answered; whom events are told. -/
namespace Go.Proofs.YtikkegelplllmaaGreatDoor
open Go Go.Sl Go.Holt Go.Proofs
open Go.Holt.Enc (enc)
namespace Cl
open Dk (DeskP)
/-- One who has done nothing. -/
def cnew (i : Nat) (calls : List Holt.Call) : Cli := ⟨i, calls, 0, 66, false, 0, ⟨0, ⟨0, 0⟩, ⟨0, 0⟩⟩, false, none, []⟩
theorem new (d s i nf : Nat) (cap : Array Value) (cv : Value) (calls : List Holt.Call) (hn : calls.length ≤ 100000) :
    Sl.Spec Tryz.prog 19 #[.pointer (some ⟨d, 0, none⟩), .pointer (some ⟨s, 0, none⟩), .int .i64 i, cv, .func (.func nf) #[] cap] [SlOwn 24 5 cv (flat calls)]
      (fun v l => ∃ c, v = .pointer (some ⟨c, 0, none⟩) ∧ l = [SlOwn 24 5 cv (flat calls), CliP c d s nf cap (cnew i calls)]) := by
  refine Spec.enter Tryz.func19 rfl rfl rfl ?_
  refine SW.seq ?_
  refine SW.reg (l := [.op 0 .e]) rfl ?_
  refine rx_s rfl rfl rfl rfl rfl ?_
  refine rx_end0 ?_
  refine SW.seq ?_
  refine SW.seq ?_
  refine SW.reg (l := [.op 0 .e, .op 1 .e, .op 2 .e, .op 3 .e, .op 4 .e, .op 5 .e, .op 6 .e, .op 7 .e, .op 8 .e, .op 9 .e]) rfl ?_
  refine rx_s rfl rfl rfl rfl rfl ?_
  refine rx_eqnil rfl rfl rfl rfl rfl Fa.pt_33 rfl ?_
  iterate 2 refine rx_s rfl rfl rfl rfl rfl ?_
  refine rx_eqnil rfl rfl rfl rfl rfl Fa.pt_35 rfl ?_
  iterate 3 refine rx_s rfl rfl rfl rfl rfl ?_
  refine rx_eqnilF rfl rfl rfl rfl rfl Fa.ft_42 rfl ?_
  refine rx_s rfl rfl rfl rfl rfl ?_
  refine rx_end0 ?_
  refine SW.cond (b := false) rfl (fun h => nomatch h) (fun _ => ?_)
  refine SW.skip ?_
  try simp only [thenK, blockK, cond_true, cond_false, beq_self_eq_true, Nat.reduceBEq]
  refine SW.seq ?_
  refine SW.reg (l := [.op 0 .e, .op 1 .e, .op 2 .e, .op 3 .e, .op 4 .e, .op 5 .e, .op 6 .e, .op 7 .e, .op 8 .e]) rfl ?_
  iterate 4 refine rx_s rfl rfl rfl rfl rfl ?_
  refine rx_callH (F := ?FT509) rfl rfl rfl rfl rfl rfl rfl rfl Fa.ca_65 rfl (CnC.clone cv (flat calls) (by rw [flat_len, show Enc.n Holt.Call = 5 from rfl]; omega)) ?T509 ?_
  case T509 => (repeat (first|exact Take.nil|refine Take.cons (by (repeat first|exact .here|apply Take1.there)) ?_))
  rintro _ _ ⟨p, m, c', rfl, hm, rfl⟩
  try simp only [List.cons_append, List.nil_append]
  refine rx_s rfl rfl rfl rfl rfl ?_
  refine rx_build rfl rfl rfl rfl rfl Fa.st_135 rfl (cs := [_, _, _, _, _, _, _, _, _, _, _, _, _, _, _, _, _]) rfl ?_
  refine rx_box (.inr rfl) rfl rfl rfl rfl rfl rfl (cl := [_, _, _, _, _, _, _, _, _, _, _, _, _, _, _, _, _]) rfl ?_
  intro b29
  refine rx_s rfl rfl rfl rfl rfl ?_
  refine rx_end0 ?_
  refine SW.seq ?_
  refine SW.reg (l := [.op 0 .e, .op 1 .e, .op 2 .e, .op 3 .e, .op 4 .e, .op 5 .e]) rfl ?_
  iterate 4 refine rx_s rfl rfl rfl rfl rfl ?_
  refine rx_fa rfl rfl rfl rfl rfl rfl Fa.fo_135_6 ?_
  refine rx_stp rfl rfl rfl rfl rfl rfl (by (repeat first|exact .here|apply Take1.there)) Fa.sz_1 (vs := [_]) rfl rfl rfl (by rfl) (cl' := [_, _, _, _, _, _, _, _, _, _, _, _, _, _, _, _, _]) (by rfl) ?_
  refine rx_end0 ?_
  refine SW.seq ?_
  refine SW.reg (l := [.op 0 .e, .op 1 .e]) rfl ?_
  iterate 2 refine rx_s rfl rfl rfl rfl rfl ?_
  refine rx_end0 ?_
  refine SW.ret ?_
  exact retK1 (l := [_, _]) (.tmp rfl .nil) ⟨b29, rfl, rfl⟩ (.one (by (repeat first|exact .here|apply Take1.there)) (foldC (C := cnew i calls) (.one (by (repeat first|exact .here|apply Take1.there)) (.one (by (repeat first|exact .here|apply Take1.there)) (slown_nil _ _ .nil)))))
theorem answers (c d s nf : Nat) (cap : Array Value) (C : Cli) (hn : C.answers.length ≤ 100000) :
    Sl.Spec Tryz.prog 25 #[.pointer (some ⟨c, 0, none⟩)] [CliP c d s nf cap C]
      (fun v l => ∃ p m c', v = .slice p m c' ∧ m = C.answers.length ∧ l = [CliP c d s nf cap C, SlOwn 28 5 (.slice p m c') (flat C.answers)]) := by
  refine Spec.enter Tryz.func25 rfl rfl rfl ?_
  refine SW.exH 0 rfl ?_; rintro ⟨cv, av⟩; simp only [List.cons_append, List.nil_append]
  refine SW.seq ?_
  refine SW.reg (l := [.op 0 .e]) rfl ?_
  refine rx_s rfl rfl rfl rfl rfl ?_
  refine rx_end0 ?_
  refine SW.seq ?_
  refine SW.reg (l := [.op 0 .e, .op 1 .e, .op 2 .e, .op 3 .e, .op 4 .e, .op 5 .e]) rfl ?_
  iterate 2 refine rx_s rfl rfl rfl rfl rfl ?_
  refine rx_fa rfl rfl rfl rfl rfl rfl Fa.fo_135_12 ?_
  refine rx_ldH1 rfl rfl rfl rfl rfl rfl (by (repeat first|exact .here|apply Take1.there)) Fa.ag_45 (by rfl) ?_
  refine rx_callH (F := ?FT510) rfl rfl rfl rfl rfl rfl rfl rfl Fa.ca_67 rfl (CnA.clone av (flat C.answers) (by rw [flat_len, show Enc.n Ans = 5 from rfl]; omega)) ?T510 ?_
  case T510 => (repeat (first|exact Take.nil|refine Take.cons (by (repeat first|exact .here|apply Take1.there)) ?_))
  rintro _ _ ⟨p, m, c', rfl, hm, rfl⟩
  try simp only [List.cons_append, List.nil_append]
  refine rx_s rfl rfl rfl rfl rfl ?_
  refine rx_end0 ?_
  refine SW.ret ?_
  exact retK1 (l := [_, _]) (.tmp rfl .nil) ⟨p, m, c', rfl, by rw [flat_len, show Enc.n Ans = 5 from rfl] at hm; omega, rfl⟩ (foldC (.one (by (repeat first|exact .here|apply Take1.there)) (.one (by (repeat first|exact .here|apply Take1.there)) (.one (by (repeat first|exact .here|apply Take1.there)) (.one (by (repeat first|exact .here|apply Take1.there)) .nil)))))
end Cl
end Go.Proofs.YtikkegelplllmaaGreatDoor
/- Sorting, plain: one after the other is taken down into what is sorted; what is sorted so is the one sorted order. -/
namespace Go.Holt
open Go
section
variable {α : Type} (cf : α → α → Int)
/-- One is taken down into what stands ahead of it (that, from its end). -/
def insR : List α → α → List α → List α
  | [], x, tl => x :: tl
  | y :: r, x, tl => if cf x y < 0 then insR r x (y :: tl) else (y :: r).reverse ++ x :: tl
def insAll : List α → List α → List α
  | dn, [] => dn
  | dn, x :: t => insAll (insR cf dn.reverse x []) t
theorem insR_append (r : List α) (x : α) (tl t : List α) : insR cf r x (tl ++ t) = insR cf r x tl ++ t := by
  induction r generalizing tl with
  | nil => rfl
  | cons y r ih =>
    unfold insR
    split
    · exact ih (y :: tl)
    · simp
theorem insR_length (r : List α) (x : α) (tl : List α) : (insR cf r x tl).length = r.length + 1 + tl.length := by
  induction r generalizing tl with
  | nil => simp [insR]; omega
  | cons y r ih =>
    unfold insR
    split
    · rw [ih]; simp; omega
    · simp; omega
theorem insR_perm (r : List α) (x : α) (tl : List α) : (insR cf r x tl).Perm (r.reverse ++ x :: tl) := by
  induction r generalizing tl with
  | nil => exact .refl _
  | cons y r ih =>
    unfold insR
    split
    · refine (ih _).trans ?_
      rw [List.reverse_cons, List.append_assoc]
      exact List.Perm.append_left _ (.swap _ _ _)
    · exact .refl _
theorem insAll_perm (dn t : List α) : (insAll cf dn t).Perm (dn ++ t) := by
  induction t generalizing dn with
  | nil => simp [insAll]
  | cons x t ih =>
    unfold insAll
    refine (ih _).trans ?_
    have := insR_perm cf dn.reverse x []
    rw [List.reverse_reverse] at this
    refine (this.append_right t).trans ?_
    simp
end
section
variable {α : Type} {cf : α → α → Int}
/-- 'Sorted': none is less than one ahead of it. -/
abbrev Srt (cf : α → α → Int) (l : List α) : Prop := l.Pairwise fun x y => ¬ cf y x < 0
theorem insR_srt (ht : ∀ x y z, ¬ cf y x < 0 → ¬ cf z y < 0 → ¬ cf z x < 0) (ha : ∀ x y, cf x y < 0 → ¬ cf y x < 0) :
    ∀ (r : List α) (x : α) (tl : List α), Srt cf (r.reverse ++ tl) → (∀ z ∈ tl, ¬ cf z x < 0) → Srt cf (insR cf r x tl) := by
  intro r
  induction r with
  | nil => intro x tl h1 h2; exact List.Pairwise.cons h2 h1
  | cons y r ih =>
    intro x tl h1 h2
    unfold insR
    split
    · rename_i hc
      refine ih x (y :: tl) (by simpa using h1) fun z hz => ?_
      rcases List.mem_cons.1 hz with rfl | hz
      · exact ha _ _ hc
      · exact h2 z hz
    · rename_i hc
      unfold Srt at h1 ⊢
      rw [List.pairwise_append] at h1 ⊢
      refine ⟨h1.1, List.Pairwise.cons h2 h1.2.1, fun z hz u hu => ?_⟩
      rcases List.mem_cons.1 hu with rfl | hu
      · rw [List.reverse_cons] at hz h1
        rcases List.mem_append.1 hz with q | q
        · have q2 := (List.pairwise_append.1 h1.1).2.2 z q y (by simp)
          exact ht _ _ _ q2 hc
        · simp at q; subst q; exact hc
      · exact h1.2.2 z hz u hu
theorem insAll_srt (ht : ∀ x y z, ¬ cf y x < 0 → ¬ cf z y < 0 → ¬ cf z x < 0) (ha : ∀ x y, cf x y < 0 → ¬ cf y x < 0) : ∀ (t dn : List α), Srt cf dn → Srt cf (insAll cf dn t) := by
  intro t
  induction t with
  | nil => intro dn h; exact h
  | cons x t ih =>
    intro dn h
    unfold insAll
    exact ih _ (insR_srt ht ha _ _ _ (by simpa using h) (by simp))
theorem srt_unique (hs : ∀ x y, ¬ cf x y < 0 → ¬ cf y x < 0 → x = y) {l l' : List α} (h1 : Srt cf l) (h2 : Srt cf l') (hp : l.Perm l') : l = l' :=
  List.Perm.eq_of_pairwise (fun a b _ _ x y => hs _ _ y x) h1 h2 hp
end
theorem bytesLess_irrefl : ∀ l : List UInt8, Op.bytesLess l l = false := by
  intro l
  induction l with
  | nil => rfl
  | cons a l ih => unfold Op.bytesLess; simp [ih]
theorem bytesLess_trans : ∀ (a b c : List UInt8), Op.bytesLess a b = true → Op.bytesLess b c = true → Op.bytesLess a c = true := by
  intro a
  induction a with
  | nil => intro b c h1 h2; cases b with
    | nil => exact h2
    | cons y b => cases c with
      | nil => simp [Op.bytesLess] at h2
      | cons z c => rfl
  | cons x a ih =>
    intro b c h1 h2
    cases b with
    | nil => simp [Op.bytesLess] at h1
    | cons y b => cases c with
      | nil => simp [Op.bytesLess] at h2
      | cons z c =>
        simp only [Op.bytesLess, Bool.or_eq_true, decide_eq_true_eq, Bool.and_eq_true, beq_iff_eq] at h1 h2 ⊢
        rcases h1 with h1 | ⟨rfl, h1⟩ <;> rcases h2 with h2 | ⟨rfl, h2⟩
        · exact .inl (UInt8.lt_trans h1 h2)
        · exact .inl h1
        · exact .inl h2
        · exact .inr ⟨rfl, ih _ _ h1 h2⟩
theorem bytesLess_tri : ∀ (a b : List UInt8), Op.bytesLess a b = false → Op.bytesLess b a = false → a = b := by
  intro a
  induction a with
  | nil => intro b h1 h2; cases b with
    | nil => rfl
    | cons y b => simp [Op.bytesLess] at h1
  | cons x a ih =>
    intro b h1 h2
    cases b with
    | nil => simp [Op.bytesLess] at h2
    | cons y b =>
      simp only [Op.bytesLess, Bool.or_eq_false_iff, decide_eq_false_iff_not, Bool.and_eq_false_iff, beq_eq_false_iff_ne] at h1 h2
      have : x = y := UInt8.le_antisymm (UInt8.not_lt.1 h2.1) (UInt8.not_lt.1 h1.1)
      subst this
      rw [ih b (by rcases h1.2 with q | q; exact absurd rfl q; exact q) (by rcases h2.2 with q | q; exact absurd rfl q; exact q)]
end Go.Holt
/- What is less: numbers, texts, kids. -/
namespace Go.Holt
open Go
/-- As numbers, texts and kids are compared. -/
def cmpI (a b : Int) : Int := if a < b then -1 else if a > b then 1 else 0
def cmpS (a b : ByteArray) : Int := if Op.bytesLess a.toList b.toList = true then -1 else if (!(Op.bytesLess a.toList b.toList || a.toList == b.toList)) = true then 1 else 0
def orL : List Int → Int
  | [] => 0
  | x :: xs => if x = 0 then orL xs else x
def cmpK (a b : Kid) : Int := orL [cmpI a.to b.to, cmpS a.name b.name, cmpI a.node b.node]
end Go.Holt
namespace Go.Proofs.YtikkegelplllmaaGreatDoor
open Go Go.Sl Go.Holt Go.Proofs
open Go.Holt.Enc (enc)
namespace Cm
theorem isNaNI (x : Int) : Sl.Spec Tryz.prog 93 #[.int .i64 x] [] (fun v l => v = .bool false ∧ l = []) := by
  refine Spec.enter Tryz.func93 rfl rfl rfl ?_
  refine SW.seq ?_
  refine SW.reg (l := [.op 0 .e]) rfl ?_
  refine rx_s rfl rfl rfl rfl rfl ?_
  refine rx_end0 ?_
  refine SW.seq ?_
  refine SW.reg (l := [.op 0 .e, .op 1 .e, .op 2 .e, .op 3 .e]) rfl ?_
  iterate 4 refine rx_s rfl rfl rfl rfl rfl ?_
  refine rx_end0 ?_
  refine SW.ret ?_
  exact retK1 (l := []) (.tmp rfl .nil) ⟨by simp, rfl⟩ .nil
theorem isNaNS (x : ByteArray) : Sl.Spec Tryz.prog 120 #[.string x] [] (fun v l => v = .bool false ∧ l = []) := by
  refine Spec.enter Tryz.func120 rfl rfl rfl ?_
  refine SW.seq ?_
  refine SW.reg (l := [.op 0 .e]) rfl ?_
  refine rx_s rfl rfl rfl rfl rfl ?_
  refine rx_end0 ?_
  refine SW.seq ?_
  refine SW.reg (l := [.op 0 .e, .op 1 .e, .op 2 .e, .op 3 .e]) rfl ?_
  iterate 4 refine rx_s rfl rfl rfl rfl rfl ?_
  refine rx_end0 ?_
  refine SW.ret ?_
  exact retK1 (l := []) (.tmp rfl .nil) ⟨by simp, rfl⟩ .nil
theorem compareI (x y : Int) : Sl.Spec Tryz.prog 63 #[.int .i64 x, .int .i64 y] [] (fun v l => v = .int .i64 (cmpI x y) ∧ l = []) := by
  refine Spec.enter Tryz.func63 rfl rfl rfl ?_
  refine SW.seq ?_
  refine SW.reg (l := [.op 0 .e]) rfl ?_
  refine rx_s rfl rfl rfl rfl rfl ?_
  refine rx_end0 ?_
  refine SW.seq ?_
  refine SW.reg (l := [.op 0 .e, .op 1 .e, .op 2 .e]) rfl ?_
  refine rx_s rfl rfl rfl rfl rfl ?_
  refine rx_callH (F := ?FT49) rfl rfl rfl rfl rfl rfl rfl rfl Fa.ca_93 rfl (isNaNI x) ?T49 ?_
  case T49 => (repeat (first|exact Take.nil|refine Take.cons (by (repeat first|exact .here|apply Take1.there)) ?_))
  rintro _ _ ⟨rfl, rfl⟩
  try simp only [List.cons_append, List.nil_append]
  refine rx_s rfl rfl rfl rfl rfl ?_
  refine rx_end0 ?_
  refine SW.seq ?_
  refine SW.reg (l := [.op 0 .e, .op 1 .e, .op 2 .e]) rfl ?_
  refine rx_s rfl rfl rfl rfl rfl ?_
  refine rx_callH (F := ?FT50) rfl rfl rfl rfl rfl rfl rfl rfl Fa.ca_93 rfl (isNaNI y) ?T50 ?_
  case T50 => (repeat (first|exact Take.nil|refine Take.cons (by (repeat first|exact .here|apply Take1.there)) ?_))
  rintro _ _ ⟨rfl, rfl⟩
  try simp only [List.cons_append, List.nil_append]
  refine rx_s rfl rfl rfl rfl rfl ?_
  refine rx_end0 ?_
  refine SW.seq ?_
  refine SW.seq ?_
  refine SW.reg (l := [.op 0 .e]) rfl ?_
  refine rx_s rfl rfl rfl rfl rfl ?_
  refine rx_end0 ?_
  refine SW.cond (b := false) rfl (fun h => nomatch h) (fun _ => ?_)
  refine SW.skip ?_
  try simp only [thenK, blockK, cond_true, cond_false, beq_self_eq_true, Nat.reduceBEq]
  refine SW.seq ?_
  refine SW.seq ?_
  refine SW.reg (l := [.op 0 .e]) rfl ?_
  refine rx_s rfl rfl rfl rfl rfl ?_
  refine rx_end0 ?_
  refine SW.cond (b := false) rfl (fun h => nomatch h) (fun _ => ?_)
  refine SW.skip ?_
  try simp only [thenK, blockK, cond_true, cond_false, beq_self_eq_true, Nat.reduceBEq]
  refine SW.seq ?_
  refine SW.seq ?_
  refine SW.reg (l := [.op 0 .e, .op 1 .e, .op 2 .e]) rfl ?_
  iterate 3 refine rx_s rfl rfl rfl rfl rfl ?_
  refine rx_end0 ?_
  refine SW.cond rfl (fun h16 => ?_) (fun h16 => ?_)
  · skip
    refine SW.seq ?_
    refine SW.reg (l := [.op 0 .e]) rfl ?_
    refine rx_s rfl rfl rfl rfl rfl ?_
    refine rx_end0 ?_
    refine SW.ret ?_
    exact retK1 (l := []) (.tmp rfl .nil) ⟨by unfold cmpI; rw [if_pos (by simpa using h16)], rfl⟩ .nil
  · skip
    refine SW.skip ?_
    try simp only [thenK, blockK, cond_true, cond_false, beq_self_eq_true, Nat.reduceBEq]
    refine SW.seq ?_
    refine SW.seq ?_
    refine SW.reg (l := [.op 0 .e, .op 1 .e, .op 2 .e]) rfl ?_
    iterate 3 refine rx_s rfl rfl rfl rfl rfl ?_
    refine rx_end0 ?_
    refine SW.cond rfl (fun h19 => ?_) (fun h19 => ?_)
    · skip
      refine SW.seq ?_
      refine SW.reg (l := [.op 0 .e]) rfl ?_
      refine rx_s rfl rfl rfl rfl rfl ?_
      refine rx_end0 ?_
      refine SW.ret ?_
      exact retK1 (l := []) (.tmp rfl .nil) ⟨by unfold cmpI; rw [if_neg (by simpa using h16), if_pos (by simpa using h19)], rfl⟩ .nil
    · skip
      refine SW.skip ?_
      try simp only [thenK, blockK, cond_true, cond_false, beq_self_eq_true, Nat.reduceBEq]
      refine SW.seq ?_
      refine SW.reg (l := [.op 0 .e]) rfl ?_
      refine rx_s rfl rfl rfl rfl rfl ?_
      refine rx_end0 ?_
      refine SW.ret ?_
      exact retK1 (l := []) (.tmp rfl .nil) ⟨by unfold cmpI; rw [if_neg (by simpa using h16), if_neg (by simpa using h19)], rfl⟩ .nil
theorem compareS (x y : ByteArray) : Sl.Spec Tryz.prog 91 #[.string x, .string y] [] (fun v l => v = .int .i64 (cmpS x y) ∧ l = []) := by
  refine Spec.enter Tryz.func91 rfl rfl rfl ?_
  refine SW.seq ?_
  refine SW.reg (l := [.op 0 .e]) rfl ?_
  refine rx_s rfl rfl rfl rfl rfl ?_
  refine rx_end0 ?_
  refine SW.seq ?_
  refine SW.reg (l := [.op 0 .e, .op 1 .e, .op 2 .e]) rfl ?_
  refine rx_s rfl rfl rfl rfl rfl ?_
  refine rx_callH (F := ?FT51) rfl rfl rfl rfl rfl rfl rfl rfl Fa.ca_120 rfl (isNaNS x) ?T51 ?_
  case T51 => (repeat (first|exact Take.nil|refine Take.cons (by (repeat first|exact .here|apply Take1.there)) ?_))
  rintro _ _ ⟨rfl, rfl⟩
  try simp only [List.cons_append, List.nil_append]
  refine rx_s rfl rfl rfl rfl rfl ?_
  refine rx_end0 ?_
  refine SW.seq ?_
  refine SW.reg (l := [.op 0 .e, .op 1 .e, .op 2 .e]) rfl ?_
  refine rx_s rfl rfl rfl rfl rfl ?_
  refine rx_callH (F := ?FT52) rfl rfl rfl rfl rfl rfl rfl rfl Fa.ca_120 rfl (isNaNS y) ?T52 ?_
  case T52 => (repeat (first|exact Take.nil|refine Take.cons (by (repeat first|exact .here|apply Take1.there)) ?_))
  rintro _ _ ⟨rfl, rfl⟩
  try simp only [List.cons_append, List.nil_append]
  refine rx_s rfl rfl rfl rfl rfl ?_
  refine rx_end0 ?_
  refine SW.seq ?_
  refine SW.seq ?_
  refine SW.reg (l := [.op 0 .e]) rfl ?_
  refine rx_s rfl rfl rfl rfl rfl ?_
  refine rx_end0 ?_
  refine SW.cond (b := false) rfl (fun h => nomatch h) (fun _ => ?_)
  refine SW.skip ?_
  try simp only [thenK, blockK, cond_true, cond_false, beq_self_eq_true, Nat.reduceBEq]
  refine SW.seq ?_
  refine SW.seq ?_
  refine SW.reg (l := [.op 0 .e]) rfl ?_
  refine rx_s rfl rfl rfl rfl rfl ?_
  refine rx_end0 ?_
  refine SW.cond (b := false) rfl (fun h => nomatch h) (fun _ => ?_)
  refine SW.skip ?_
  try simp only [thenK, blockK, cond_true, cond_false, beq_self_eq_true, Nat.reduceBEq]
  refine SW.seq ?_
  refine SW.seq ?_
  refine SW.reg (l := [.op 0 .e, .op 1 .e, .op 2 .e]) rfl ?_
  iterate 3 refine rx_s rfl rfl rfl rfl rfl ?_
  refine rx_end0 ?_
  refine SW.cond rfl (fun h16 => ?_) (fun h16 => ?_)
  · skip
    refine SW.seq ?_
    refine SW.reg (l := [.op 0 .e]) rfl ?_
    refine rx_s rfl rfl rfl rfl rfl ?_
    refine rx_end0 ?_
    refine SW.ret ?_
    exact retK1 (l := []) (.tmp rfl .nil) ⟨by unfold cmpS; rw [if_pos h16], rfl⟩ .nil
  · skip
    refine SW.skip ?_
    try simp only [thenK, blockK, cond_true, cond_false, beq_self_eq_true, Nat.reduceBEq]
    refine SW.seq ?_
    refine SW.seq ?_
    refine SW.reg (l := [.op 0 .e, .op 1 .e, .op 2 .e]) rfl ?_
    iterate 3 refine rx_s rfl rfl rfl rfl rfl ?_
    refine rx_end0 ?_
    refine SW.cond rfl (fun h19 => ?_) (fun h19 => ?_)
    · skip
      refine SW.seq ?_
      refine SW.reg (l := [.op 0 .e]) rfl ?_
      refine rx_s rfl rfl rfl rfl rfl ?_
      refine rx_end0 ?_
      refine SW.ret ?_
      exact retK1 (l := []) (.tmp rfl .nil) ⟨by unfold cmpS; rw [if_neg (by simp [h16]), if_pos h19], rfl⟩ .nil
    · skip
      refine SW.skip ?_
      try simp only [thenK, blockK, cond_true, cond_false, beq_self_eq_true, Nat.reduceBEq]
      refine SW.seq ?_
      refine SW.reg (l := [.op 0 .e]) rfl ?_
      refine rx_s rfl rfl rfl rfl rfl ?_
      refine rx_end0 ?_
      refine SW.ret ?_
      exact retK1 (l := []) (.tmp rfl .nil) ⟨by unfold cmpS; rw [if_neg (by simp [h16]), if_neg (by simpa using h19)], rfl⟩ .nil
theorem or (b m : Nat) (xs : List Int) (hm : xs.length = m) (hm2 : m ≤ 100) : Sl.Spec Tryz.prog 90 #[.slice (some ⟨b, 0, none⟩) m m] [blk b (xs.map (.int .i64)) 3 (0, 0)] (fun v l => v = .int .i64 (orL xs) ∧ l = []) := by
  refine Spec.enter Tryz.func90 rfl rfl rfl ?_
  refine SW.seq ?_
  refine SW.reg (l := [.op 0 .e]) rfl ?_
  refine rx_s rfl rfl rfl rfl rfl ?_
  refine rx_end0 ?_
  refine SW.seq ?_
  refine SW.reg (l := [.op 0 .e]) rfl ?_
  refine rx_s rfl rfl rfl rfl rfl ?_
  refine rx_end0 ?_
  refine SW.seq ?_
  refine SW.seq ?_
  refine SW.reg (l := [.op 0 .e, .op 1 .e, .op 2 .e]) rfl ?_
  refine rx_s rfl rfl rfl rfl rfl ?_
  refine rx_len rfl rfl rfl rfl rfl rfl (lenV_sl Fa.sl_121 _ _ _) ?_
  refine rx_s rfl rfl rfl rfl rfl ?_
  refine rx_end0 ?_
  refine SW.block ?_
  refine SW.loop (fun q e' H' => ∃ i : Nat, q = m - i ∧ i ≤ m ∧ orL (xs.drop i) = orL xs ∧ H' = star [blk b (xs.map (.int .i64)) 3 (0, 0)] ∧
    EnvLe (upd (upd (upd (upd noEnv 3 (.int .i64 0)) 6 (.slice (some ⟨b, 0, none⟩) m m)) 7 (.int .i64 m)) 8 (.int .i64 i)) e') m ⟨0, rfl, Nat.zero_le _, rfl, rfl, .cons (.cons (.cons (.cons .nil rfl) rfl) rfl) rfl⟩ ?_
  rintro q e' _ ⟨i, rfl, hi, hor, rfl, hle⟩
  refine SW.forget hle ?_
  refine SW.seq ?_
  refine SW.reg (l := [.op 0 .e]) rfl ?_
  refine rx_s rfl rfl rfl rfl rfl ?_
  refine rx_end0 ?_
  refine SW.seq ?_
  refine SW.cond rfl (fun h9 => ?_) (fun h9 => ?_)
  · skip
    have h9' := of_decide_eq_true h9
    have hx : i < xs.length := by omega
    refine SW.skip ?_
    try simp only [thenK, blockK, cond_true, cond_false, beq_self_eq_true, Nat.reduceBEq]
    refine SW.seq ?_
    refine SW.block ?_
    refine SW.seq ?_
    refine SW.reg (l := [.op 0 .e, .op 1 .e, .op 2 .e]) rfl ?_
    refine rx_ix rfl rfl rfl rfl rfl Fa.sl_121 rfl rfl (by omega) ?_
    refine rx_ldH1 rfl rfl rfl rfl rfl rfl (by (repeat first|exact .here|apply Take1.there)) Fa.ag_3 (by exact show _ = some (Value.int .i64 (xs[i]'hx)) from by simp [hx]) ?_
    refine rx_s rfl rfl rfl rfl rfl ?_
    refine rx_end0 ?_
    refine SW.seq ?_
    refine SW.reg (l := [.op 0 .e, .op 1 .e, .op 2 .e]) rfl ?_
    iterate 3 refine rx_s rfl rfl rfl rfl rfl ?_
    refine rx_end0 ?_
    refine SW.cond rfl (fun h14 => ?_) (fun h14 => ?_)
    · skip
      refine SW.seq ?_
      refine SW.reg (l := [.op 0 .e, .op 1 .e]) rfl ?_
      iterate 2 refine rx_s rfl rfl rfl rfl rfl ?_
      refine rx_end0 ?_
      refine SW.ret ?_
      have h14' : xs[i]'hx ≠ 0 := by simpa using h14
      exact retK1 (l := []) (.tmp rfl .nil) ⟨by rw [← hor, List.drop_eq_getElem_cons hx, orL, if_neg h14'], rfl⟩ .nil
    · skip
      refine SW.skip ?_
      try simp only [thenK, blockK, cond_true, cond_false, beq_self_eq_true, Nat.reduceBEq]
      refine SW.reg (l := [.op 0 .e, .op 1 .e]) rfl ?_
      refine rx_ar rfl rfl rfl rfl rfl (by omega) ?_
      refine rx_s rfl rfl rfl rfl rfl ?_
      refine rx_end0 ?_
      have h14' : xs[i]'hx = 0 := by simpa using h14
      exact ⟨m - (i + 1), by omega, i + 1, rfl, by omega, by rw [← hor, List.drop_eq_getElem_cons hx, orL, if_pos h14'], rfl, .cons (.cons (.cons (.cons .nil rfl) rfl) rfl) rfl⟩
  · skip
    refine SW.exit ?_
    try simp only [thenK, blockK, cond_true, cond_false, beq_self_eq_true, Nat.reduceBEq]
    refine SW.seq ?_
    refine SW.reg (l := [.op 0 .e, .op 1 .e]) rfl ?_
    iterate 2 refine rx_s rfl rfl rfl rfl rfl ?_
    refine rx_end0 ?_
    refine SW.ret ?_
    have h9' : ¬ ((i : Int) < m) := by simpa using h9
    exact retK1 (l := []) (.tmp rfl .nil) ⟨by rw [← hor, List.drop_eq_nil_of_le (by omega)]; rfl, rfl⟩ .nil
theorem kid (x y : Kid) : Sl.Spec Tryz.prog 61 #[.agg #[.int .i64 x.to, .string x.name, .int .i64 x.node], .agg #[.int .i64 y.to, .string y.name, .int .i64 y.node]] [] (fun v l => v = .int .i64 (cmpK x y) ∧ l = []) := by
  refine Spec.enter Tryz.func61 rfl rfl rfl ?_
  refine SW.seq ?_
  refine SW.reg (l := [.op 0 .e, .op 1 .e, .op 2 .e]) rfl ?_
  refine rx_box (.inr rfl) rfl rfl rfl rfl rfl rfl (cl := [_, _, _]) rfl ?_
  intro b2
  refine rx_box (.inr rfl) rfl rfl rfl rfl rfl rfl (cl := [_, _, _]) rfl ?_
  intro b3
  refine rx_s rfl rfl rfl rfl rfl ?_
  refine rx_end0 ?_
  refine SW.seq ?_
  refine SW.drawT (Hs := []) (D0l := []) (Dl := ?DT53) (F := ?FT53) Fa.mix (tp := [0, 1, 0, 4, 15, 0, 32, 0, 128, 511, 0, 1024, 0, 4096, 16383, 32767, 65535, 131071]) (l := [.op 0 .s, .op 1 .d, .op 2 .s, .op 3 .d, .op 4 .e, .op 5 .s, .op 6 .d, .op 7 .s, .op 8 .d, .op 9 .e, .op 10 .s, .op 11 .d, .op 12 .s, .op 13 .d, .op 14 .e, .op 15 .f, .op 16 .e, .op 17 .s]) (by kernel_rfl) ?T53a ?T53b ?_
  case T53a => (repeat (first|exact Take.nil|refine Take.cons (by (repeat first|exact .here|apply Take1.there)) ?_))
  case T53b => (repeat (first|exact Take.nil|refine Take.cons (by (repeat first|exact .here|apply Take1.there)) ?_))
  refine rx_fa rfl rfl rfl rfl rfl rfl Fa.fo_73_0 ?_
  refine rx_ldD1 rfl rfl rfl rfl rfl rfl rfl (by (repeat first|exact .here|apply Take1.there)) Fa.ag_3 (by rfl) ?_
  refine rx_fa rfl rfl rfl rfl rfl rfl Fa.fo_73_0 ?_
  refine rx_ldD1 rfl rfl rfl rfl rfl rfl rfl (by (repeat first|exact .here|apply Take1.there)) Fa.ag_3 (by rfl) ?_
  refine rx_callH (F := ?FT54) rfl rfl rfl rfl rfl rfl rfl rfl Fa.ca_63 rfl (compareI x.to y.to) ?T54 ?_
  case T54 => (repeat (first|exact Take.nil|refine Take.cons (by (repeat first|exact .here|apply Take1.there)) ?_))
  rintro _ _ ⟨rfl, rfl⟩
  try simp only [List.cons_append, List.nil_append]
  refine rx_fa rfl rfl rfl rfl rfl rfl Fa.fo_73_1 ?_
  refine rx_ldD1 rfl rfl rfl rfl rfl rfl rfl (by (repeat first|exact .here|apply Take1.there)) Fa.ag_9 (by rfl) ?_
  refine rx_fa rfl rfl rfl rfl rfl rfl Fa.fo_73_1 ?_
  refine rx_ldD1 rfl rfl rfl rfl rfl rfl rfl (by (repeat first|exact .here|apply Take1.there)) Fa.ag_9 (by rfl) ?_
  refine rx_callH (F := ?FT55) rfl rfl rfl rfl rfl rfl rfl rfl Fa.ca_91 rfl (compareS x.name y.name) ?T55 ?_
  case T55 => (repeat (first|exact Take.nil|refine Take.cons (by (repeat first|exact .here|apply Take1.there)) ?_))
  rintro _ _ ⟨rfl, rfl⟩
  try simp only [List.cons_append, List.nil_append]
  refine rx_fa rfl rfl rfl rfl rfl rfl Fa.fo_73_2 ?_
  refine rx_ldD1 rfl rfl rfl rfl rfl rfl rfl (by (repeat first|exact .here|apply Take1.there)) Fa.ag_3 (by rfl) ?_
  refine rx_fa rfl rfl rfl rfl rfl rfl Fa.fo_73_2 ?_
  refine rx_ldD1 rfl rfl rfl rfl rfl rfl rfl (by (repeat first|exact .here|apply Take1.there)) Fa.ag_3 (by rfl) ?_
  refine rx_callH (F := ?FT56) rfl rfl rfl rfl rfl rfl rfl rfl Fa.ca_63 rfl (compareI x.node y.node) ?T56 ?_
  case T56 => (repeat (first|exact Take.nil|refine Take.cons (by (repeat first|exact .here|apply Take1.there)) ?_))
  rintro _ _ ⟨rfl, rfl⟩
  try simp only [List.cons_append, List.nil_append]
  refine rx_bslice (.inl rfl) rfl rfl rfl rfl rfl Fa.sl_121 Fa.z_3 rfl rfl rfl rfl rfl (cl := [_, _, _]) rfl ?_
  intro b20
  refine rx_callH (F := ?FT57) rfl rfl rfl rfl rfl rfl rfl rfl Fa.ca_90 rfl (or b20 3 [cmpI x.to y.to, cmpS x.name y.name, cmpI x.node y.node] rfl (by omega)) ?T57 ?_
  case T57 => (repeat (first|exact Take.nil|refine Take.cons (by (repeat first|exact .here|apply Take1.there)) ?_))
  rintro _ _ ⟨rfl, rfl⟩
  try simp only [List.cons_append, List.nil_append]
  refine rx_s rfl rfl rfl rfl rfl ?_
  refine rx_endD ?_
  try simp only [List.cons_append, List.nil_append]
  refine SW.ret ?_
  exact retK1 (l := []) (.tmp rfl .nil) ⟨rfl, rfl⟩ .nil
end Cm
end Go.Proofs.YtikkegelplllmaaGreatDoor
/- How kids stand: one order, told three ways. -/
namespace Go.Holt
open Go
theorem cmpI_lt (a b : Int) : cmpI a b < 0 ↔ a < b := by unfold cmpI; split <;> (try split) <;> simp <;> omega
theorem cmpI_gt (a b : Int) : cmpI a b > 0 ↔ b < a := by unfold cmpI; split <;> (try split) <;> simp <;> omega
theorem cmpI_zero (a b : Int) : cmpI a b = 0 ↔ a = b := by unfold cmpI; split <;> (try split) <;> simp <;> omega
def bl (a b : ByteArray) : Prop := Op.bytesLess a.toList b.toList = true
theorem ba_ext {a b : ByteArray} (h : a.toList = b.toList) : a = b := by
  rw [ByteArray.toList_eq, ByteArray.toList_eq] at h
  cases a; cases b; congr; exact Array.toList_inj.1 h
theorem bl_irr (a : ByteArray) : ¬ bl a a := by unfold bl; rw [bytesLess_irrefl]; simp
theorem bl_trans {a b c : ByteArray} : bl a b → bl b c → bl a c := bytesLess_trans _ _ _
theorem bl_tri {a b : ByteArray} (h : ¬ bl a b) (h' : ¬ bl b a) : a = b := ba_ext (bytesLess_tri _ _ (by unfold bl at h; simpa using h) (by unfold bl at h'; simpa using h'))
instance (a b : ByteArray) : Decidable (bl a b) := by unfold bl; infer_instance
theorem cmpS_lt (a b : ByteArray) : cmpS a b < 0 ↔ bl a b := by
  unfold cmpS bl
  by_cases h : Op.bytesLess a.toList b.toList = true
  · rw [if_pos h]; simp [h]
  · rw [if_neg h]
    simp only [h]
    split <;> simp
theorem cmpS_zero (a b : ByteArray) : cmpS a b = 0 ↔ a = b := by
  unfold cmpS
  by_cases h : Op.bytesLess a.toList b.toList = true
  · rw [if_pos h]
    constructor
    · intro q; cases q
    · rintro rfl; exact absurd h (bl_irr a)
  · rw [if_neg h]
    by_cases q : a = b
    · subst q; simp
    · have : ¬ (a.toList = b.toList) := fun e => q (ba_ext e)
      simp [h, this, q]
theorem cmpS_gt (a b : ByteArray) : cmpS a b > 0 ↔ bl b a := by
  have h1 := cmpS_lt a b
  have h2 := cmpS_zero a b
  constructor
  · intro h
    by_cases q : bl b a
    · exact q
    · have : ¬ bl a b := fun e => by have := h1.2 e; omega
      have e := h2.2 (bl_tri this q); omega
  · intro h
    have n1 : ¬ bl a b := fun e => bl_irr a (bl_trans e h)
    have n2 : a ≠ b := by rintro rfl; exact bl_irr _ h
    have m1 : ¬ (cmpS a b < 0) := fun q => n1 (h1.1 q)
    have m2 : ¬ (cmpS a b = 0) := fun q => n2 (h2.1 q)
    omega
/-- One kid stands ahead of another one. -/
def kl (x y : Kid) : Prop := x.to < y.to ∨ (x.to = y.to ∧ (bl x.name y.name ∨ (x.name = y.name ∧ x.node < y.node)))
instance (a b : Kid) : Decidable (kl a b) := by unfold kl; infer_instance
theorem orL3 (a b c : Int) : orL [a, b, c] = if a = 0 then if b = 0 then c else b else a := by
  unfold orL; split
  · unfold orL; split
    · unfold orL; split
      · rename_i h; rw [h]; rfl
      · rfl
    · rfl
  · rfl
theorem cmpK_lt (x y : Kid) : cmpK x y < 0 ↔ kl x y := by
  unfold cmpK kl
  rw [orL3]
  have a1 := cmpI_lt x.to y.to
  have a2 := cmpI_zero x.to y.to
  have b1 := cmpS_lt x.name y.name
  have b2 := cmpS_zero x.name y.name
  have c1 := cmpI_lt x.node y.node
  by_cases h : x.to = y.to
  · rw [if_pos (a2.2 h)]
    by_cases q : x.name = y.name
    · rw [if_pos (b2.2 q), c1]
      simp only [h, q]
      have := bl_irr y.name
      simp [this]
    · rw [if_neg (fun e => q (b2.1 e)), b1]
      simp [h, q]
  · rw [if_neg (fun e => h (a2.1 e)), a1]
    simp [h]
theorem cmpK_zero (x y : Kid) : cmpK x y = 0 ↔ x = y := by
  unfold cmpK
  rw [orL3]
  have a2 := cmpI_zero x.to y.to
  have b2 := cmpS_zero x.name y.name
  have c2 := cmpI_zero x.node y.node
  by_cases h : x.to = y.to
  · rw [if_pos (a2.2 h)]
    by_cases q : x.name = y.name
    · rw [if_pos (b2.2 q), c2]
      cases x; cases y; simp_all
    · rw [if_neg (fun e => q (b2.1 e))]
      constructor
      · intro e; exact absurd (b2.1 e) q
      · rintro rfl; exact absurd rfl q
  · rw [if_neg (fun e => h (a2.1 e))]
    constructor
    · intro e; exact absurd (a2.1 e) h
    · rintro rfl; exact absurd rfl h
theorem kl_irr (x : Kid) : ¬ kl x x := by unfold kl; have := bl_irr x.name; simp [this]
theorem kl_trans {x y z : Kid} (h : kl x y) (h' : kl y z) : kl x z := by
  unfold kl at *
  rcases h with h | ⟨e, h⟩
  · rcases h' with h' | ⟨e', h'⟩
    · exact .inl (by omega)
    · exact .inl (by omega)
  · rcases h' with h' | ⟨e', h'⟩
    · exact .inl (by omega)
    · refine .inr ⟨by omega, ?_⟩
      rcases h with h | ⟨q, h⟩
      · rcases h' with h' | ⟨q', h'⟩
        · exact .inl (bl_trans h h')
        · exact .inl (by rw [← q']; exact h)
      · rcases h' with h' | ⟨q', h'⟩
        · exact .inl (by rw [q]; exact h')
        · exact .inr ⟨q.trans q', by omega⟩
theorem kl_tri {x y : Kid} (h : ¬ kl x y) (h' : ¬ kl y x) : x = y := by
  unfold kl at h h'
  simp only [not_or, not_and] at h h'
  have e1 : x.to = y.to := by omega
  have q := h.2 e1
  have q' := h'.2 e1.symm
  have e2 : x.name = y.name := bl_tri q.1 q'.1
  have e3 : x.node = y.node := by have := q.2 e2; have := q'.2 e2.symm; omega
  cases x; cases y; simp_all
theorem cmpK_gt (x y : Kid) : cmpK x y > 0 ↔ kl y x := by
  have h1 := cmpK_lt x y
  have h2 := cmpK_zero x y
  constructor
  · intro h
    by_cases q : kl y x
    · exact q
    · have : ¬ kl x y := fun e => by have := h1.2 e; omega
      have := h2.2 (kl_tri this q); omega
  · intro h
    have n1 : ¬ kl x y := fun e => kl_irr x (kl_trans e h)
    have n2 : x ≠ y := by rintro rfl; exact kl_irr _ h
    have m1 : ¬ (cmpK x y < 0) := fun q => n1 (h1.1 q)
    have m2 : ¬ (cmpK x y = 0) := fun q => n2 (h2.1 q)
    omega
theorem ck_trans (x y z : Kid) (h : ¬ cmpK y x < 0) (h' : ¬ cmpK z y < 0) : ¬ cmpK z x < 0 := by
  rw [cmpK_lt] at *
  intro q
  by_cases e : kl y z
  · exact h (kl_trans e q)
  · have := kl_tri h' e; subst this; exact h q
theorem ck_asym (x y : Kid) (h : cmpK x y < 0) : ¬ cmpK y x < 0 := by
  rw [cmpK_lt] at *
  intro q; exact kl_irr x (kl_trans h q)
theorem ck_eq (x y : Kid) (h : ¬ cmpK x y < 0) (h' : ¬ cmpK y x < 0) : x = y := by
  rw [cmpK_lt] at h h'; exact kl_tri h h'
theorem sortKids_perm (l : List Kid) : (sortKids cmpK l).Perm l := List.mergeSort_perm _ _
theorem sortKids_srt (l : List Kid) : Srt cmpK (sortKids cmpK l) := by
  have := List.pairwise_mergeSort (le := fun x y => !decide (cmpK y x < 0)) (fun a b c h1 h2 => by
    simp only [Bool.not_eq_true', decide_eq_false_iff_not] at *; exact ck_trans a b c h1 h2) (fun a b => by
    by_cases h : cmpK b a < 0
    · have := ck_asym _ _ h; simp [this]
    · simp [h]) l
  exact this.imp fun h => by simpa using h
theorem insAll_sort (l : List Kid) : insAll cmpK [] l = sortKids cmpK l :=
  srt_unique ck_eq (insAll_srt ck_trans ck_asym _ _ List.Pairwise.nil) (sortKids_srt l) (((insAll_perm cmpK [] l).trans (by simp)).trans (sortKids_perm l).symm)
end Go.Holt
