/- What a claim leans on, part 4: lemmas and contracts. -/
import Derived.Test.YtikkegelplllmaaGreatDoorQ0
import Derived.Test.YtikkegelplllmaaGreatDoorQ1
import Derived.Test.YtikkegelplllmaaGreatDoorQ2
set_option linter.unusedSimpArgs false
set_option linter.unusedVariables false
/- A version's items: what is put, taken out, counted. -/
namespace Go.Proofs.YtikkegelplllmaaGreatDoor
open Go Go.Sl Go.Holt Go.Proofs
open Go.Holt.Enc (enc)
namespace ItK
open ArK (ArP getV)

theorem ipOpen {A : Ar KNode} {h : Handle} {k : Kid} {x : Bool} {l r : TR} {hi : Int} {b : Nat} {pl pr : Option Addr} (hh : h ≠ ⟨0, 0⟩ → (T.node h k x l r hi).holds A) :
    EntS (star [IB b h k x pl pr hi, IP A pl l, IP A pr r]) (IP A (some ⟨b, 0, none⟩) (.node h k x l r hi)) := ItemP.open hh
theorem ipNew {A : Ar KNode} {k : Kid} {x : Bool} {hi : Int} {b : Nat} :
    EntS (star [IB b ⟨0, 0⟩ k x none none hi]) (IP A (some ⟨b, 0, none⟩) (.node ⟨0, 0⟩ k x .nil .nil hi)) := by
  refine EntS.trans ?_ (ipOpen (pl := none) (pr := none) (fun q => absurd rfl q))
  refine EntS.sep (EntS.refl _) ?_
  intro R w h
  have h1 := ipNil (A := A) R w h
  have h2 := ipNil (A := A) _ w (by show Sat (sep emp _) w; rw [emp_sep]; exact h1)
  show Sat (sep (sep _ (sep _ emp)) R) w
  rw [sep_emp, sep_assoc]; exact h2
theorem ipIff {P : Program} {n : Nat} {ds : List Deferred} {e : Env} {c : Code} {KK : Exit → Env → HProp → Prop} {Hl F : List HProp} {A : Ar KNode} {p : Option Addr} {t : TR}
    (hT : Take1 Hl (IP A p t) F) (h : (p = none ↔ t = .nil) → SW P n ds c e (star Hl) KK) : SW P n ds c e (star Hl) KK := SW.itemIff hT h

/-- 'put' -/
theorem put (e m a : Nat) (A : Ar KNode) (hA : A.ok) (k : Kid) (x : Bool) : ∀ (t : TR) (p : Option Addr) (gv : Value) (g : List Handle), t.wf → t.size ≤ 100000 → g.length + 3 * t.size ≤ 800000 →
    Sl.Spec Tryz.prog 144 #[.pointer (some ⟨e, 0, none⟩), .pointer p, .agg #[.int .i64 k.to, .string k.name, .int .i64 k.node], .bool x] [EB e m gv, MB m a, ArP a A, GL gv g, IP A p t]
      (fun v l' => ∃ gv' p', v = .pointer p' ∧ l' = [EB e m gv', MB m a, ArP a A, GL gv' (g ++ (T.put cmpK k x t).2), IP A p' (T.put cmpK k x t).1]) := by
  intro t
  induction t with
  | nil =>
    intro p gv g _ _ _
    refine Holt.Spec.itemNil tk4 ?_
    rintro rfl
    simp only [T.put, List.append_nil]
    refine Spec.enter Tryz.func144 rfl rfl rfl ?_
    refine SW.seq ?_
    refine SW.reg (l := [.op 0 .e, .op 1 .e]) rfl ?_
    refine rx_box (.inr rfl) rfl rfl rfl rfl rfl rfl (cl := [_, _, _]) rfl ?_
    intro b6
    refine rx_s rfl rfl rfl rfl rfl ?_
    refine rx_end0 ?_
    refine SW.seq ?_
    refine SW.seq ?_
    refine SW.reg (l := [.op 0 .e, .op 1 .e]) rfl ?_
    refine rx_s rfl rfl rfl rfl rfl ?_
    refine rx_eqnil rfl rfl rfl rfl rfl Fa.pt_236 rfl ?_
    refine rx_end0 ?_
    refine SW.cond (b := true) rfl (fun _ => ?_) (fun h => nomatch h)
    refine SW.seq ?_
    refine SW.reg (l := [.op 0 .e, .op 1 .e, .op 2 .e, .op 3 .e, .op 4 .e]) rfl ?_
    refine rx_ldHA rfl rfl rfl rfl rfl rfl (by (repeat first|exact .here|apply Take1.there)) Fa.ag_73 Fa.sz_73 (vs := [_, _, _]) (by rfl) rfl ?_
    refine rx_s rfl rfl rfl rfl rfl ?_
    refine rx_build rfl rfl rfl rfl rfl Fa.st_264 rfl (cs := [_, _, _, _, _, _, _, _, _, _]) rfl ?_
    refine rx_box (.inr rfl) rfl rfl rfl rfl rfl rfl (cl := [_, _, _, _, _, _, _, _, _, _]) rfl ?_
    intro b15
    refine rx_s rfl rfl rfl rfl rfl ?_
    refine rx_end0 ?_
    refine SW.ret ?_
    exact retK1 (l := [_, _, _, _, _]) (.tmp rfl .nil) ⟨gv, some ⟨b15, 0, none⟩, rfl, rfl⟩ (.one (by (repeat first|exact .here|apply Take1.there)) (.one (by (repeat first|exact .here|apply Take1.there)) (.one (by (repeat first|exact .here|apply Take1.there)) (.one (by (repeat first|exact .here|apply Take1.there)) (.cons (.cons (by (repeat first|exact .here|apply Take1.there)) .nil) ipNew .nil)))))
  | node h k' x' l r hi il ir =>
    intro p gv g w hs hg
    have ho := opened e m a gv A hA p h k' x' l r hi
    rcases p with _ | p
    · exact Holt.Spec.itemNode tk4 (fun b q => by cases q) (fun b pl pr q => by cases q)
    simp only [T.size] at hs hg
    refine Spec.enter Tryz.func144 rfl rfl rfl ?_
    refine SW.seq ?_
    refine SW.reg (l := [.op 0 .e, .op 1 .e]) rfl ?_
    refine rx_box (.inr rfl) rfl rfl rfl rfl rfl rfl (cl := [_, _, _]) rfl ?_
    intro b6
    refine rx_s rfl rfl rfl rfl rfl ?_
    refine rx_end0 ?_
    refine SW.seq ?_
    refine SW.seq ?_
    refine SW.reg (l := [.op 0 .e, .op 1 .e]) rfl ?_
    refine rx_s rfl rfl rfl rfl rfl ?_
    refine rx_eqnil rfl rfl rfl rfl rfl Fa.pt_236 rfl ?_
    refine rx_end0 ?_
    refine SW.cond (b := false) rfl (fun h => nomatch h) (fun _ => ?_)
    refine SW.skip ?_
    try simp only [thenK, blockK, cond_true, cond_false, beq_self_eq_true, Nat.reduceBEq]
    refine SW.seq ?_
    refine SW.reg (l := [.op 0 .e, .op 1 .e, .op 2 .e, .op 3 .e]) rfl ?_
    iterate 2 refine rx_s rfl rfl rfl rfl rfl ?_
    refine rx_callH (F := ?FT308) rfl rfl rfl rfl rfl rfl rfl rfl Fa.ca_163 rfl (ho) ?T308 ?_
    case T308 => (repeat (first|exact Take.nil|refine Take.cons (by (repeat first|exact .here|apply Take1.there)) ?_))
    rintro _ _ ⟨b, pl, pr, hp, rfl, hh, rfl⟩
    try simp only [List.cons_append, List.nil_append]
    refine rx_s rfl rfl rfl rfl rfl ?_
    refine rx_end0 ?_
    refine SW.seq ?_
    refine SW.drawT (Hs := []) (D0l := []) (Dl := ?DT309) (F := ?FT309) Fa.mix (tp := [0, 1, 3, 7, 15, 31, 63, 0, 0, 256, 768, 1792, 4095, 8191]) (l := [.op 0 .s, .op 1 .s, .op 2 .s, .op 3 .d, .op 4 .s, .op 5 .s, .op 6 .d, .op 7 .d, .op 8 .s, .op 9 .s, .op 10 .s, .op 11 .d, .op 12 .e, .op 13 .s]) (by kernel_rfl) ?T309a ?T309b ?_
    case T309a => (repeat (first|exact Take.nil|refine Take.cons (by (repeat first|exact .here|apply Take1.there)) ?_))
    case T309b => (repeat (first|exact Take.nil|refine Take.cons (by (repeat first|exact .here|apply Take1.there)) ?_))
    iterate 2 refine rx_s rfl rfl rfl rfl rfl ?_
    refine rx_fa rfl rfl rfl rfl rfl rfl Fa.fo_234_0 ?_
    refine rx_ldD1 rfl rfl rfl rfl rfl rfl rfl (by (repeat first|exact .here|apply Take1.there)) Fa.ag_77 (by rfl) ?_
    refine rx_s rfl rfl rfl rfl rfl ?_
    refine rx_fa rfl rfl rfl rfl rfl rfl Fa.fo_164_1 ?_
    refine rx_ldD1 rfl rfl rfl rfl rfl rfl rfl (by (repeat first|exact .here|apply Take1.there)) Fa.ag_130 (by rfl) ?_
    refine rx_ldDA rfl rfl rfl rfl rfl rfl rfl (by (repeat first|exact .here|apply Take1.there)) Fa.ag_73 Fa.sz_73 (vs := [_, _, _]) (by rfl) rfl ?_
    iterate 2 refine rx_s rfl rfl rfl rfl rfl ?_
    refine rx_fa rfl rfl rfl rfl rfl rfl Fa.fo_264_2 ?_
    refine rx_ldDA rfl rfl rfl rfl rfl rfl rfl (by (repeat first|exact .here|apply Take1.there)) Fa.ag_73 Fa.sz_73 (vs := [_, _, _]) (by rfl) rfl ?_
    refine rx_callH (F := ?FT310) rfl rfl rfl rfl rfl rfl rfl rfl Fa.ca_61 rfl (Cm.kid k k') ?T310 ?_
    case T310 => (repeat (first|exact Take.nil|refine Take.cons (by (repeat first|exact .here|apply Take1.there)) ?_))
    rintro _ _ ⟨rfl, rfl⟩
    try simp only [List.cons_append, List.nil_append]
    refine rx_s rfl rfl rfl rfl rfl ?_
    refine rx_endD ?_
    try simp only [List.cons_append, List.nil_append]
    refine SW.seq ?_
    refine SW.block ?_
    refine SW.seq ?_
    refine SW.reg (l := [.op 0 .e, .op 1 .e, .op 2 .e]) rfl ?_
    iterate 3 refine rx_s rfl rfl rfl rfl rfl ?_
    refine rx_end0 ?_
    refine SW.cond rfl (fun h32 => ?_) (fun h32 => ?_)
    · skip
      have hc : cmpK k k' < 0 := of_decide_eq_true h32
      simp only [T.put]
      rw [if_pos hc, ← List.append_assoc]
      refine SW.seq ?_
      refine SW.drawT (Hs := [EB e m gv, MB m a, ArP a A, GL gv g, IP A pl l, IP A pr r]) (D0l := []) (Dl := ?DT311) (F := ?FT311) Fa.mix (tp := [0, 0, 0, 0, 8, 24, 56, 0, 0, 508, 0, 1024, 3072, 7168, 16383, 32767]) (l := [.op 0 .s, .op 1 .s, .op 2 .s, .op 3 .s, .op 4 .s, .op 5 .s, .op 6 .d, .op 7 .d, .op 8 .s, .op 9 .e, .op 10 .s, .op 11 .s, .op 12 .s, .op 13 .d, .op 14 .e, .op 15 .s]) (by kernel_rfl) ?T311a ?T311b ?_
      case T311a => (repeat (first|exact Take.nil|refine Take.cons (by (repeat first|exact .here|apply Take1.there)) ?_))
      case T311b => (repeat (first|exact Take.nil|refine Take.cons (by (repeat first|exact .here|apply Take1.there)) ?_))
      iterate 5 refine rx_s rfl rfl rfl rfl rfl ?_
      refine rx_fa rfl rfl rfl rfl rfl rfl Fa.fo_264_4 ?_
      refine rx_ldD1 rfl rfl rfl rfl rfl rfl rfl (by (repeat first|exact .here|apply Take1.there)) Fa.ag_236 (by rfl) ?_
      refine rx_ldDA rfl rfl rfl rfl rfl rfl rfl (by (repeat first|exact .here|apply Take1.there)) Fa.ag_73 Fa.sz_73 (vs := [_, _, _]) (by rfl) rfl ?_
      refine rx_s rfl rfl rfl rfl rfl ?_
      refine rx_callH (F := ?FT312) rfl rfl rfl rfl rfl rfl rfl rfl Fa.ca_144 rfl (il pl gv g w.2.1 (by omega) (by omega)) ?T312 ?_
      case T312 => (repeat (first|exact Take.nil|refine Take.cons (by (repeat first|exact .here|apply Take1.there)) ?_))
      rintro _ _ ⟨gv1, p1, rfl, rfl⟩
      try simp only [List.cons_append, List.nil_append]
      iterate 2 refine rx_s rfl rfl rfl rfl rfl ?_
      refine rx_fa rfl rfl rfl rfl rfl rfl Fa.fo_264_5 ?_
      refine rx_ldD1 rfl rfl rfl rfl rfl rfl rfl (by (repeat first|exact .here|apply Take1.there)) Fa.ag_236 (by rfl) ?_
      refine rx_call (F := ?FT313) rfl rfl rfl rfl rfl rfl rfl rfl Fa.ca_164 rfl (balance e m a b gv1 (g ++ (T.put cmpK k x l).2) (by have := T.put_len cmpK k x l; simp; omega) A hA h k' x' pl pr hi p1 pr (T.put cmpK k x l).1 r (T.put_wf _ _ _ w.2.1).1 w.2.2 (by have := (T.put_wf cmpK k x w.2.1).2; omega)) ?T313 ?_
      case T313 => (repeat (first|exact Take.nil|refine Take.cons (by (repeat first|exact .here|apply Take1.there)) ?_))
      rintro _ _ ⟨gv2, b2, rfl, rfl⟩
      refine ⟨?HT314, ?T314, ?_⟩
      case T314 => (repeat (first|exact Take.nil|refine Take.cons (by (repeat first|exact .here|apply Take1.there)) ?_))
      try simp only [List.cons_append, List.nil_append]
      refine rx_s rfl rfl rfl rfl rfl ?_
      refine rx_endD ?_
      try simp only [List.cons_append, List.nil_append]
      refine SW.ret ?_
      exact retK1 (l := [_, _, _, _, _]) (.tmp rfl .nil) ⟨gv2, _, rfl, rfl⟩ (.one (by (repeat first|exact .here|apply Take1.there)) (.one (by (repeat first|exact .here|apply Take1.there)) (.one (by (repeat first|exact .here|apply Take1.there)) (.one (by (repeat first|exact .here|apply Take1.there)) (.one (by (repeat first|exact .here|apply Take1.there)) .nil)))))
    · skip
      have hc : ¬ (cmpK k k' < 0) := by simpa using h32
      refine SW.seq ?_
      refine SW.reg (l := [.op 0 .e, .op 1 .e, .op 2 .e]) rfl ?_
      iterate 3 refine rx_s rfl rfl rfl rfl rfl ?_
      refine rx_end0 ?_
      refine SW.cond rfl (fun h50 => ?_) (fun h50 => ?_)
      · skip
        have hc' : cmpK k k' > 0 := of_decide_eq_true h50
        simp only [T.put]
        rw [if_neg hc, if_pos hc', ← List.append_assoc]
        refine SW.seq ?_
        refine SW.drawT (Hs := [EB e m gv, MB m a, ArP a A, GL gv g, IP A pl l, IP A pr r]) (D0l := []) (Dl := ?DT315) (F := ?FT315) Fa.mix (tp := [0, 0, 0, 4, 12, 28, 0, 0, 128, 384, 896, 0, 0, 8128, 16383, 32767]) (l := [.op 0 .s, .op 1 .s, .op 2 .s, .op 3 .s, .op 4 .s, .op 5 .d, .op 6 .s, .op 7 .s, .op 8 .s, .op 9 .s, .op 10 .d, .op 11 .d, .op 12 .s, .op 13 .e, .op 14 .e, .op 15 .s]) (by kernel_rfl) ?T315a ?T315b ?_
        case T315a => (repeat (first|exact Take.nil|refine Take.cons (by (repeat first|exact .here|apply Take1.there)) ?_))
        case T315b => (repeat (first|exact Take.nil|refine Take.cons (by (repeat first|exact .here|apply Take1.there)) ?_))
        iterate 4 refine rx_s rfl rfl rfl rfl rfl ?_
        refine rx_fa rfl rfl rfl rfl rfl rfl Fa.fo_264_4 ?_
        refine rx_ldD1 rfl rfl rfl rfl rfl rfl rfl (by (repeat first|exact .here|apply Take1.there)) Fa.ag_236 (by rfl) ?_
        iterate 3 refine rx_s rfl rfl rfl rfl rfl ?_
        refine rx_fa rfl rfl rfl rfl rfl rfl Fa.fo_264_5 ?_
        refine rx_ldD1 rfl rfl rfl rfl rfl rfl rfl (by (repeat first|exact .here|apply Take1.there)) Fa.ag_236 (by rfl) ?_
        refine rx_ldDA rfl rfl rfl rfl rfl rfl rfl (by (repeat first|exact .here|apply Take1.there)) Fa.ag_73 Fa.sz_73 (vs := [_, _, _]) (by rfl) rfl ?_
        refine rx_s rfl rfl rfl rfl rfl ?_
        refine rx_callH (F := ?FT316) rfl rfl rfl rfl rfl rfl rfl rfl Fa.ca_144 rfl (ir pr gv g w.2.2 (by omega) (by omega)) ?T316 ?_
        case T316 => (repeat (first|exact Take.nil|refine Take.cons (by (repeat first|exact .here|apply Take1.there)) ?_))
        rintro _ _ ⟨gv1, p1, rfl, rfl⟩
        try simp only [List.cons_append, List.nil_append]
        refine rx_call (F := ?FT317) rfl rfl rfl rfl rfl rfl rfl rfl Fa.ca_164 rfl (balance e m a b gv1 (g ++ (T.put cmpK k x r).2) (by have := T.put_len cmpK k x r; simp; omega) A hA h k' x' pl pr hi pl p1 l (T.put cmpK k x r).1 w.2.1 (T.put_wf _ _ _ w.2.2).1 (by have := (T.put_wf cmpK k x w.2.2).2; omega)) ?T317 ?_
        case T317 => (repeat (first|exact Take.nil|refine Take.cons (by (repeat first|exact .here|apply Take1.there)) ?_))
        rintro _ _ ⟨gv2, b2, rfl, rfl⟩
        refine ⟨?HT318, ?T318, ?_⟩
        case T318 => (repeat (first|exact Take.nil|refine Take.cons (by (repeat first|exact .here|apply Take1.there)) ?_))
        try simp only [List.cons_append, List.nil_append]
        refine rx_s rfl rfl rfl rfl rfl ?_
        refine rx_endD ?_
        try simp only [List.cons_append, List.nil_append]
        refine SW.ret ?_
        exact retK1 (l := [_, _, _, _, _]) (.tmp rfl .nil) ⟨gv2, _, rfl, rfl⟩ (.one (by (repeat first|exact .here|apply Take1.there)) (.one (by (repeat first|exact .here|apply Take1.there)) (.one (by (repeat first|exact .here|apply Take1.there)) (.one (by (repeat first|exact .here|apply Take1.there)) (.one (by (repeat first|exact .here|apply Take1.there)) .nil)))))
      · skip
        have hc' : ¬ (cmpK k k' > 0) := by simpa using h50
        simp only [T.put]
        rw [if_neg hc, if_neg hc']
        refine SW.skip ?_
        try simp only [thenK, blockK, cond_true, cond_false, beq_self_eq_true, Nat.reduceBEq]
        refine SW.seq ?_
        refine SW.reg (l := [.op 0 .e, .op 1 .e, .op 2 .e]) rfl ?_
        iterate 2 refine rx_s rfl rfl rfl rfl rfl ?_
        refine rx_callH (F := ?FT319) rfl rfl rfl rfl rfl rfl rfl rfl Fa.ca_165 rfl (leave e m b gv g (by omega) h k' x' pl pr hi) ?T319 ?_
        case T319 => (repeat (first|exact Take.nil|refine Take.cons (by (repeat first|exact .here|apply Take1.there)) ?_))
        rintro _ _ ⟨gv1, rfl, rfl⟩
        try simp only [List.cons_append, List.nil_append]
        refine rx_end0 ?_
        refine SW.seq ?_
        refine SW.drawAll Fa.mix (tp := [0, 0, 0, 4, 12, 28, 0, 64, 192, 448, 0, 1024, 3072, 7168, 16383, 32767, 65535]) (l := [.op 0 .d, .op 1 .s, .op 2 .s, .op 3 .s, .op 4 .s, .op 5 .d, .op 6 .s, .op 7 .s, .op 8 .s, .op 9 .d, .op 10 .s, .op 11 .s, .op 12 .s, .op 13 .d, .op 14 .s, .op 15 .f, .op 16 .s]) (by kernel_rfl) ?_
        refine rx_ldDA rfl rfl rfl rfl rfl rfl rfl (by (repeat first|exact .here|apply Take1.there)) Fa.ag_73 Fa.sz_73 (vs := [_, _, _]) (by rfl) rfl ?_
        iterate 3 refine rx_s rfl rfl rfl rfl rfl ?_
        refine rx_fa rfl rfl rfl rfl rfl rfl Fa.fo_264_4 ?_
        refine rx_ldD1 rfl rfl rfl rfl rfl rfl rfl (by (repeat first|exact .here|apply Take1.there)) Fa.ag_236 (by rfl) ?_
        iterate 2 refine rx_s rfl rfl rfl rfl rfl ?_
        refine rx_fa rfl rfl rfl rfl rfl rfl Fa.fo_264_5 ?_
        refine rx_ldD1 rfl rfl rfl rfl rfl rfl rfl (by (repeat first|exact .here|apply Take1.there)) Fa.ag_236 (by rfl) ?_
        iterate 2 refine rx_s rfl rfl rfl rfl rfl ?_
        refine rx_fa rfl rfl rfl rfl rfl rfl Fa.fo_264_6 ?_
        refine rx_ldD1 rfl rfl rfl rfl rfl rfl rfl (by (repeat first|exact .here|apply Take1.there)) Fa.ag_3 (by rfl) ?_
        refine rx_build rfl rfl rfl rfl rfl Fa.st_264 rfl (cs := [_, _, _, _, _, _, _, _, _, _]) rfl ?_
        refine rx_box (.inl rfl) rfl rfl rfl rfl rfl rfl (cl := [_, _, _, _, _, _, _, _, _, _]) rfl ?_
        intro b86
        refine rx_s rfl rfl rfl rfl rfl ?_
        refine rx_endD ?_
        try simp only [List.cons_append, List.nil_append]
        refine SW.ret ?_
        exact retK1 (l := [_, _, _, _, _]) (.tmp rfl .nil) ⟨gv1, some ⟨b86, 0, none⟩, rfl, rfl⟩ (.one (by (repeat first|exact .here|apply Take1.there)) (.one (by (repeat first|exact .here|apply Take1.there)) (.one (by (repeat first|exact .here|apply Take1.there)) (.one (by (repeat first|exact .here|apply Take1.there)) (.cons (.cons (by (repeat first|exact .here|apply Take1.there)) (.cons (by (repeat first|exact .here|apply Take1.there)) (.cons (by (repeat first|exact .here|apply Take1.there)) .nil))) (ipOpen (h := ⟨0, 0⟩) (fun q => absurd rfl q)) .nil)))))

/-- 'least' -/
theorem least (e m a : Nat) (A : Ar KNode) (hA : A.ok) : ∀ (t : TR) (h : Handle) (k : Kid) (x : Bool) (l r : TR) (hi : Int), t = .node h k x l r hi → ∀ (p : Option Addr) (gv : Value) (g : List Handle), t.wf → t.size ≤ 100000 → g.length + 3 * t.size ≤ 800000 →
    Sl.Spec Tryz.prog 166 #[.pointer (some ⟨e, 0, none⟩), .pointer p] [EB e m gv, MB m a, ArP a A, GL gv g, IP A p t]
      (fun v l' => ∃ gv' b' q1 q2 hi' p', v = .tuple #[.pointer (some ⟨b', 0, none⟩), .pointer p'] ∧ l' = [EB e m gv', MB m a, ArP a A, GL gv' (g ++ (T.least h k x l r).2.2),
        IB b' (T.least h k x l r).1.1 (T.least h k x l r).1.2.1 (T.least h k x l r).1.2.2 q1 q2 hi', IP A p' (T.least h k x l r).2.1]) := by
  intro t
  induction t with
  | nil => intro h k x l r hi q; cases q
  | node h k x l r hi il ir =>
    intro h' k' x' l' r' hi' q p gv g w hs hg
    cases q
    have ho := opened e m a gv A hA p h k x l r hi
    simp only [T.size] at hs hg
    cases l with
    | nil =>
      simp only [T.least, List.append_nil]
      refine Spec.enter Tryz.func166 rfl rfl rfl ?_
      refine SW.seq ?_
      refine SW.reg (l := [.op 0 .e, .op 1 .e]) rfl ?_
      iterate 2 refine rx_s rfl rfl rfl rfl rfl ?_
      refine rx_end0 ?_
      refine SW.seq ?_
      refine SW.reg (l := [.op 0 .e, .op 1 .e, .op 2 .e, .op 3 .e]) rfl ?_
      iterate 2 refine rx_s rfl rfl rfl rfl rfl ?_
      refine rx_callH (F := ?FT320) rfl rfl rfl rfl rfl rfl rfl rfl Fa.ca_163 rfl (ho) ?T320 ?_
      case T320 => (repeat (first|exact Take.nil|refine Take.cons (by (repeat first|exact .here|apply Take1.there)) ?_))
      rintro _ _ ⟨b, pl, pr, hp, rfl, hh, rfl⟩
      try simp only [List.cons_append, List.nil_append]
      refine rx_s rfl rfl rfl rfl rfl ?_
      refine rx_end0 ?_
      refine SW.seq ?_
      refine SW.seq ?_
      refine ipIff (p := pl) (by (repeat first|exact .here|apply Take1.there)) (fun hpl => ?_)
      obtain rfl := hpl.2 rfl
      refine SW.reg (l := [.op 0 .e, .op 1 .e, .op 2 .e, .op 3 .e, .op 4 .e]) rfl ?_
      iterate 2 refine rx_s rfl rfl rfl rfl rfl ?_
      refine rx_fa rfl rfl rfl rfl rfl rfl Fa.fo_264_4 ?_
      refine rx_ldH1 rfl rfl rfl rfl rfl rfl (by (repeat first|exact .here|apply Take1.there)) Fa.ag_236 (by rfl) ?_
      refine rx_eqnil rfl rfl rfl rfl rfl Fa.pt_236 rfl ?_
      refine rx_end0 ?_
      refine SW.cond (b := true) rfl (fun _ => ?_) (fun h => nomatch h)
      refine SW.seq ?_
      refine SW.drawAll Fa.mix (tp := [0, 0, 2, 6, 14, 1, 63]) (l := [.op 0 .s, .op 1 .s, .op 2 .s, .op 3 .s, .op 4 .d, .op 5 .s, .op 6 .s]) (by kernel_rfl) ?_
      iterate 3 refine rx_s rfl rfl rfl rfl rfl ?_
      refine rx_fa rfl rfl rfl rfl rfl rfl Fa.fo_264_5 ?_
      refine rx_ldD1 rfl rfl rfl rfl rfl rfl rfl (by (repeat first|exact .here|apply Take1.there)) Fa.ag_236 (by rfl) ?_
      iterate 2 refine rx_s rfl rfl rfl rfl rfl ?_
      refine rx_endD ?_
      try simp only [List.cons_append, List.nil_append]
      refine SW.ret ?_
      exact retK2 (l := [_, _, _, _, _, _]) (.tmp rfl (.tmp rfl .nil)) ⟨gv, b, none, pr, hi, pr, rfl, rfl⟩ (.one (by (repeat first|exact .here|apply Take1.there)) (.one (by (repeat first|exact .here|apply Take1.there)) (.one (by (repeat first|exact .here|apply Take1.there)) (.one (by (repeat first|exact .here|apply Take1.there)) (.one (by (repeat first|exact .here|apply Take1.there)) (.one (by (repeat first|exact .here|apply Take1.there)) .nil))))))
    | node lh lk lw ll lr lhi =>
      simp only [T.least]
      rw [← List.append_assoc]
      simp only [T.size] at hs hg il
      refine Spec.enter Tryz.func166 rfl rfl rfl ?_
      refine SW.seq ?_
      refine SW.reg (l := [.op 0 .e, .op 1 .e]) rfl ?_
      iterate 2 refine rx_s rfl rfl rfl rfl rfl ?_
      refine rx_end0 ?_
      refine SW.seq ?_
      refine SW.reg (l := [.op 0 .e, .op 1 .e, .op 2 .e, .op 3 .e]) rfl ?_
      iterate 2 refine rx_s rfl rfl rfl rfl rfl ?_
      refine rx_callH (F := ?FT321) rfl rfl rfl rfl rfl rfl rfl rfl Fa.ca_163 rfl (ho) ?T321 ?_
      case T321 => (repeat (first|exact Take.nil|refine Take.cons (by (repeat first|exact .here|apply Take1.there)) ?_))
      rintro _ _ ⟨b, pl, pr, hp, rfl, hh, rfl⟩
      try simp only [List.cons_append, List.nil_append]
      refine rx_s rfl rfl rfl rfl rfl ?_
      refine rx_end0 ?_
      refine SW.seq ?_
      refine SW.seq ?_
      refine ipIff (p := pl) (by (repeat first|exact .here|apply Take1.there)) (fun hpl => ?_)
      rcases pl with _ | pl
      · cases hpl.1 rfl
      refine SW.reg (l := [.op 0 .e, .op 1 .e, .op 2 .e, .op 3 .e, .op 4 .e]) rfl ?_
      iterate 2 refine rx_s rfl rfl rfl rfl rfl ?_
      refine rx_fa rfl rfl rfl rfl rfl rfl Fa.fo_264_4 ?_
      refine rx_ldH1 rfl rfl rfl rfl rfl rfl (by (repeat first|exact .here|apply Take1.there)) Fa.ag_236 (by rfl) ?_
      refine rx_eqnil rfl rfl rfl rfl rfl Fa.pt_236 rfl ?_
      refine rx_end0 ?_
      refine SW.cond (b := false) rfl (fun h => nomatch h) (fun _ => ?_)
      refine SW.skip ?_
      try simp only [thenK, blockK, cond_true, cond_false, beq_self_eq_true, Nat.reduceBEq]
      refine SW.seq ?_
      refine SW.reg (l := [.op 0 .e, .op 1 .e, .op 2 .e, .op 3 .e, .op 4 .e, .op 5 .e, .op 6 .e, .op 7 .e, .op 8 .e, .op 9 .e, .op 10 .e]) rfl ?_
      iterate 3 refine rx_s rfl rfl rfl rfl rfl ?_
      refine rx_fa rfl rfl rfl rfl rfl rfl Fa.fo_264_4 ?_
      refine rx_ldH1 rfl rfl rfl rfl rfl rfl (by (repeat first|exact .here|apply Take1.there)) Fa.ag_236 (by rfl) ?_
      refine rx_callH (F := ?FT322) rfl rfl rfl rfl rfl rfl rfl rfl Fa.ca_166 rfl (il lh lk lw ll lr lhi rfl (some pl) gv g w.2.1 (by omega) (by omega)) ?T322 ?_
      case T322 => (repeat (first|exact Take.nil|refine Take.cons (by (repeat first|exact .here|apply Take1.there)) ?_))
      rintro _ _ ⟨gv1, b1, q1, q2, hi1, p1, rfl, rfl⟩
      try simp only [List.cons_append, List.nil_append]
      iterate 5 refine rx_s rfl rfl rfl rfl rfl ?_
      refine rx_end0 ?_
      refine SW.seq ?_
      refine SW.reg (l := [.op 0 .e, .op 1 .e, .op 2 .e, .op 3 .e, .op 4 .e, .op 5 .e, .op 6 .e, .op 7 .e, .op 8 .e, .op 9 .e, .op 10 .e]) rfl ?_
      iterate 6 refine rx_s rfl rfl rfl rfl rfl ?_
      refine rx_fa rfl rfl rfl rfl rfl rfl Fa.fo_264_5 ?_
      refine rx_ldH1 rfl rfl rfl rfl rfl rfl (by (repeat first|exact .here|apply Take1.there)) Fa.ag_236 (by rfl) ?_
      refine rx_callH (F := ?FT323) rfl rfl rfl rfl rfl rfl rfl rfl Fa.ca_164 rfl (balance e m a b gv1 (g ++ (T.least lh lk lw ll lr).2.2) (by have := T.least_len (h := lh) (k := lk) (v := lw) (l := ll) (r := lr); simp; omega) A hA h k x (some pl) pr hi p1 pr (T.least lh lk lw ll lr).2.1 r (T.least_wf w.2.1.2.1 w.2.1.2.2).1 w.2.2 (by have := (T.least_wf (h := lh) (k := lk) (v := lw) w.2.1.2.1 w.2.1.2.2).2; omega)) ?T323 ?_
      case T323 => (repeat (first|exact Take.nil|refine Take.cons (by (repeat first|exact .here|apply Take1.there)) ?_))
      rintro _ _ ⟨gv2, b2, rfl, rfl⟩
      try simp only [List.cons_append, List.nil_append]
      iterate 2 refine rx_s rfl rfl rfl rfl rfl ?_
      refine rx_end0 ?_
      refine SW.ret ?_
      exact retK2 (l := [_, _, _, _, _, _]) (.tmp rfl (.tmp rfl .nil)) ⟨gv2, b1, q1, q2, hi1, some ⟨b2, 0, none⟩, rfl, rfl⟩ (.one (by (repeat first|exact .here|apply Take1.there)) (.one (by (repeat first|exact .here|apply Take1.there)) (.one (by (repeat first|exact .here|apply Take1.there)) (.one (by (repeat first|exact .here|apply Take1.there)) (.one (by (repeat first|exact .here|apply Take1.there)) (.one (by (repeat first|exact .here|apply Take1.there)) .nil))))))

/-- 'fresh' -/
theorem fresh (v0 : Value) (A : Ar KNode) : ∀ (t : TR) (p : Option Addr), t.size ≤ 100000 →
    Sl.Spec Tryz.prog 160 #[v0, .pointer p] [IP A p t] (fun v l' => v = .int .i64 (t.fresh : Nat) ∧ l' = [IP A p t]) := by
  intro t
  induction t with
  | nil =>
    intro p _
    refine Holt.Spec.itemNil tk0 ?_
    rintro rfl
    refine Spec.enter Tryz.func160 rfl rfl rfl ?_
    refine SW.seq ?_
    refine SW.reg (l := [.op 0 .e]) rfl ?_
    refine rx_s rfl rfl rfl rfl rfl ?_
    refine rx_end0 ?_
    refine SW.seq ?_
    refine SW.seq ?_
    refine SW.reg (l := [.op 0 .e, .op 1 .e, .op 2 .e, .op 3 .e, .op 4 .e, .op 5 .e, .op 6 .e, .op 7 .e, .op 8 .e, .op 9 .e]) rfl ?_
    refine rx_s rfl rfl rfl rfl rfl ?_
    refine rx_eqnil rfl rfl rfl rfl rfl Fa.pt_236 rfl ?_
    refine rx_s rfl rfl rfl rfl rfl ?_
    refine rx_skip rfl rfl rfl rfl ?_
    refine rx_skip rfl rfl rfl rfl ?_
    refine rx_skip rfl rfl rfl rfl ?_
    refine rx_skip rfl rfl rfl rfl ?_
    refine rx_skip rfl rfl rfl rfl ?_
    refine rx_skip rfl rfl rfl rfl ?_
    refine rx_s rfl rfl rfl rfl rfl ?_
    refine rx_end0 ?_
    refine SW.cond (b := true) rfl (fun _ => ?_) (fun h => nomatch h)
    refine SW.seq ?_
    refine SW.reg (l := [.op 0 .e]) rfl ?_
    refine rx_s rfl rfl rfl rfl rfl ?_
    refine rx_end0 ?_
    refine SW.ret ?_
    exact retK1 (l := [_]) (.tmp rfl .nil) ⟨rfl, rfl⟩ (.cons .nil ipNil .nil)
  | node h k x l r hi il ir =>
    intro p hs
    simp only [T.size] at hs
    refine Holt.Spec.itemNode tk0 ?_ ?_
    · rintro b rfl h0 hh
      have hf : (T.node h k x l r hi).fresh = 0 := by simp [T.fresh, h0]
      rw [hf]
      refine Spec.enter Tryz.func160 rfl rfl rfl ?_
      simp only [shutC, enc, Enc.enc, List.cons_append, List.nil_append]
      refine SW.seq ?_
      refine SW.reg (l := [.op 0 .e]) rfl ?_
      refine rx_s rfl rfl rfl rfl rfl ?_
      refine rx_end0 ?_
      refine SW.seq ?_
      refine SW.seq ?_
      refine SW.reg (l := [.op 0 .e, .op 1 .e, .op 2 .e, .op 3 .e, .op 4 .e, .op 5 .e, .op 6 .e, .op 7 .e, .op 8 .e, .op 9 .e]) rfl ?_
      refine rx_s rfl rfl rfl rfl rfl ?_
      refine rx_eqnil rfl rfl rfl rfl rfl Fa.pt_236 rfl ?_
      iterate 3 refine rx_s rfl rfl rfl rfl rfl ?_
      refine rx_fa rfl rfl rfl rfl rfl rfl Fa.fo_264_0 ?_
      refine rx_ldHA rfl rfl rfl rfl rfl rfl (by (repeat first|exact .here|apply Take1.there)) Fa.ag_56 Fa.sz_56 (vs := [_, _]) (by rfl) rfl ?_
      refine rx_build rfl rfl rfl rfl rfl Fa.st_56 rfl (cs := [_, _]) rfl ?_
      refine rx_neS rfl rfl rfl rfl rfl Fa.eq_56 rfl rfl rfl ?_
      refine rx_s rfl rfl rfl rfl rfl ?_
      refine rx_end0 ?_
      refine SW.cond rfl (fun h14 => ?_) (fun h14 => ?_)
      · skip
        refine SW.seq ?_
        refine SW.reg (l := [.op 0 .e]) rfl ?_
        refine rx_s rfl rfl rfl rfl rfl ?_
        refine rx_end0 ?_
        refine SW.ret ?_
        exact retK1 (l := [_]) (.tmp rfl .nil) ⟨rfl, rfl⟩ (.cons (.cons (by (repeat first|exact .here|apply Take1.there)) .nil) (ItemP.shut h0 hh) .nil)
      · (exfalso; apply h0; rcases h with ⟨h1, h2⟩; simp at h14; simp [h14])
    · rintro b pl pr rfl hh
      have hl := T.fresh_size l
      have hr := T.fresh_size r
      refine Spec.enter Tryz.func160 rfl rfl rfl ?_
      simp only [openC, enc, Enc.enc, List.cons_append, List.nil_append]
      refine SW.seq ?_
      refine SW.reg (l := [.op 0 .e]) rfl ?_
      refine rx_s rfl rfl rfl rfl rfl ?_
      refine rx_end0 ?_
      refine SW.seq ?_
      refine SW.seq ?_
      refine SW.reg (l := [.op 0 .e, .op 1 .e, .op 2 .e, .op 3 .e, .op 4 .e, .op 5 .e, .op 6 .e, .op 7 .e, .op 8 .e, .op 9 .e]) rfl ?_
      refine rx_s rfl rfl rfl rfl rfl ?_
      refine rx_eqnil rfl rfl rfl rfl rfl Fa.pt_236 rfl ?_
      iterate 3 refine rx_s rfl rfl rfl rfl rfl ?_
      refine rx_fa rfl rfl rfl rfl rfl rfl Fa.fo_264_0 ?_
      refine rx_ldHA rfl rfl rfl rfl rfl rfl (by (repeat first|exact .here|apply Take1.there)) Fa.ag_56 Fa.sz_56 (vs := [_, _]) (by rfl) rfl ?_
      refine rx_build rfl rfl rfl rfl rfl Fa.st_56 rfl (cs := [_, _]) rfl ?_
      refine rx_neS rfl rfl rfl rfl rfl Fa.eq_56 rfl rfl rfl ?_
      refine rx_s rfl rfl rfl rfl rfl ?_
      refine rx_end0 ?_
      refine SW.cond rfl (fun h14 => ?_) (fun h14 => ?_)
      · skip
        have h0 : h ≠ ⟨0, 0⟩ := by rintro rfl; simp at h14
        have hf : (T.node h k x l r hi).fresh = 0 := by simp [T.fresh, h0]
        rw [hf]
        refine SW.seq ?_
        refine SW.reg (l := [.op 0 .e]) rfl ?_
        refine rx_s rfl rfl rfl rfl rfl ?_
        refine rx_end0 ?_
        refine SW.ret ?_
        exact retK1 (l := [_]) (.tmp rfl .nil) ⟨rfl, rfl⟩ (.cons (.cons (by (repeat first|exact .here|apply Take1.there)) (.cons (by (repeat first|exact .here|apply Take1.there)) (.cons (by (repeat first|exact .here|apply Take1.there)) .nil))) (ipOpen hh) .nil)
      · skip
        have h0 : h = ⟨0, 0⟩ := by rcases h with ⟨h1, h2⟩; simp at h14; simp [h14]
        have hf : (T.node h k x l r hi).fresh = 1 + l.fresh + r.fresh := by simp [T.fresh, h0]
        rw [hf]
        refine SW.skip ?_
        try simp only [thenK, blockK, cond_true, cond_false, beq_self_eq_true, Nat.reduceBEq]
        refine SW.seq ?_
        refine SW.drawT (Hs := [IP A pl l, IP A pr r]) (D0l := []) (Dl := ?DT324) (F := ?FT324) Fa.mix (tp := [0, 0, 2, 6, 14, 31, 63, 0, 0, 256, 768, 1792, 4031, 8191, 16383]) (l := [.op 0 .s, .op 1 .s, .op 2 .s, .op 3 .s, .op 4 .d, .op 5 .e, .op 6 .s, .op 7 .s, .op 8 .s, .op 9 .s, .op 10 .s, .op 11 .d, .op 12 .e, .op 13 .s, .op 14 .s]) (by kernel_rfl) ?T324a ?T324b ?_
        case T324a => (repeat (first|exact Take.nil|refine Take.cons (by (repeat first|exact .here|apply Take1.there)) ?_))
        case T324b => (repeat (first|exact Take.nil|refine Take.cons (by (repeat first|exact .here|apply Take1.there)) ?_))
        iterate 3 refine rx_s rfl rfl rfl rfl rfl ?_
        refine rx_fa rfl rfl rfl rfl rfl rfl Fa.fo_264_4 ?_
        refine rx_ldD1 rfl rfl rfl rfl rfl rfl rfl (by (repeat first|exact .here|apply Take1.there)) Fa.ag_236 (by rfl) ?_
        refine rx_callH (F := ?FT325) rfl rfl rfl rfl rfl rfl rfl rfl Fa.ca_160 rfl (il pl (by omega)) ?T325 ?_
        case T325 => (repeat (first|exact Take.nil|refine Take.cons (by (repeat first|exact .here|apply Take1.there)) ?_))
        rintro _ _ ⟨rfl, rfl⟩
        try simp only [List.cons_append, List.nil_append]
        refine rx_ar rfl rfl rfl rfl rfl (by omega) ?_
        iterate 3 refine rx_s rfl rfl rfl rfl rfl ?_
        refine rx_fa rfl rfl rfl rfl rfl rfl Fa.fo_264_5 ?_
        refine rx_ldD1 rfl rfl rfl rfl rfl rfl rfl (by (repeat first|exact .here|apply Take1.there)) Fa.ag_236 (by rfl) ?_
        refine rx_callH (F := ?FT326) rfl rfl rfl rfl rfl rfl rfl rfl Fa.ca_160 rfl (ir pr (by omega)) ?T326 ?_
        case T326 => (repeat (first|exact Take.nil|refine Take.cons (by (repeat first|exact .here|apply Take1.there)) ?_))
        rintro _ _ ⟨rfl, rfl⟩
        try simp only [List.cons_append, List.nil_append]
        refine rx_ar rfl rfl rfl rfl rfl (by omega) ?_
        refine rx_s rfl rfl rfl rfl rfl ?_
        refine rx_endD ?_
        try simp only [List.cons_append, List.nil_append]
        refine SW.ret ?_
        exact retK1 (l := [_]) (.tmp rfl .nil) ⟨by congr 1, rfl⟩ (.cons (.cons (by (repeat first|exact .here|apply Take1.there)) (.cons (by (repeat first|exact .here|apply Take1.there)) (.cons (by (repeat first|exact .here|apply Take1.there)) .nil))) (ipOpen hh) .nil)

/-- 'del' -/
theorem del (e m a : Nat) (A : Ar KNode) (hA : A.ok) (k : Kid) : ∀ (t : TR) (p : Option Addr) (gv : Value) (g : List Handle), (T.nth cmpK k t).isSome → t.wf → t.size ≤ 100000 → g.length + 4 * t.size ≤ 800000 →
    Sl.Spec Tryz.prog 139 #[.pointer (some ⟨e, 0, none⟩), .pointer p, .agg #[.int .i64 k.to, .string k.name, .int .i64 k.node]] [EB e m gv, MB m a, ArP a A, GL gv g, IP A p t]
      (fun v l' => ∃ gv' p', v = .pointer p' ∧ l' = [EB e m gv', MB m a, ArP a A, GL gv' (g ++ (T.del cmpK k t).2), IP A p' (T.del cmpK k t).1]) := by
  intro t
  induction t with
  | nil => intro p gv g q; simp [T.nth] at q
  | node h k' x' l r hi il ir =>
    intro p gv g hn w hs hg
    have ho := opened e m a gv A hA p h k' x' l r hi
    simp only [T.size] at hs hg
    simp only [T.nth] at hn
    refine Spec.enter Tryz.func139 rfl rfl rfl ?_
    refine SW.seq ?_
    refine SW.reg (l := [.op 0 .e, .op 1 .e]) rfl ?_
    refine rx_box (.inr rfl) rfl rfl rfl rfl rfl rfl (cl := [_, _, _]) rfl ?_
    intro b5
    refine rx_s rfl rfl rfl rfl rfl ?_
    refine rx_end0 ?_
    refine SW.seq ?_
    refine SW.reg (l := [.op 0 .e, .op 1 .e, .op 2 .e, .op 3 .e]) rfl ?_
    iterate 2 refine rx_s rfl rfl rfl rfl rfl ?_
    refine rx_callH (F := ?FT327) rfl rfl rfl rfl rfl rfl rfl rfl Fa.ca_163 rfl (ho) ?T327 ?_
    case T327 => (repeat (first|exact Take.nil|refine Take.cons (by (repeat first|exact .here|apply Take1.there)) ?_))
    rintro _ _ ⟨b, pl, pr, hp, rfl, hh, rfl⟩
    try simp only [List.cons_append, List.nil_append]
    refine rx_s rfl rfl rfl rfl rfl ?_
    refine rx_end0 ?_
    refine SW.seq ?_
    refine SW.drawT (Hs := []) (D0l := []) (Dl := ?DT328) (F := ?FT328) Fa.mix (tp := [0, 1, 3, 7, 15, 31, 63, 0, 0, 256, 768, 1792, 4095, 8191]) (l := [.op 0 .s, .op 1 .s, .op 2 .s, .op 3 .d, .op 4 .s, .op 5 .s, .op 6 .d, .op 7 .d, .op 8 .s, .op 9 .s, .op 10 .s, .op 11 .d, .op 12 .e, .op 13 .s]) (by kernel_rfl) ?T328a ?T328b ?_
    case T328a => (repeat (first|exact Take.nil|refine Take.cons (by (repeat first|exact .here|apply Take1.there)) ?_))
    case T328b => (repeat (first|exact Take.nil|refine Take.cons (by (repeat first|exact .here|apply Take1.there)) ?_))
    iterate 2 refine rx_s rfl rfl rfl rfl rfl ?_
    refine rx_fa rfl rfl rfl rfl rfl rfl Fa.fo_234_0 ?_
    refine rx_ldD1 rfl rfl rfl rfl rfl rfl rfl (by (repeat first|exact .here|apply Take1.there)) Fa.ag_77 (by rfl) ?_
    refine rx_s rfl rfl rfl rfl rfl ?_
    refine rx_fa rfl rfl rfl rfl rfl rfl Fa.fo_164_1 ?_
    refine rx_ldD1 rfl rfl rfl rfl rfl rfl rfl (by (repeat first|exact .here|apply Take1.there)) Fa.ag_130 (by rfl) ?_
    refine rx_ldDA rfl rfl rfl rfl rfl rfl rfl (by (repeat first|exact .here|apply Take1.there)) Fa.ag_73 Fa.sz_73 (vs := [_, _, _]) (by rfl) rfl ?_
    iterate 2 refine rx_s rfl rfl rfl rfl rfl ?_
    refine rx_fa rfl rfl rfl rfl rfl rfl Fa.fo_264_2 ?_
    refine rx_ldDA rfl rfl rfl rfl rfl rfl rfl (by (repeat first|exact .here|apply Take1.there)) Fa.ag_73 Fa.sz_73 (vs := [_, _, _]) (by rfl) rfl ?_
    refine rx_callH (F := ?FT329) rfl rfl rfl rfl rfl rfl rfl rfl Fa.ca_61 rfl (Cm.kid k k') ?T329 ?_
    case T329 => (repeat (first|exact Take.nil|refine Take.cons (by (repeat first|exact .here|apply Take1.there)) ?_))
    rintro _ _ ⟨rfl, rfl⟩
    try simp only [List.cons_append, List.nil_append]
    refine rx_s rfl rfl rfl rfl rfl ?_
    refine rx_endD ?_
    try simp only [List.cons_append, List.nil_append]
    refine SW.seq ?_
    refine SW.block ?_
    refine SW.seq ?_
    refine SW.reg (l := [.op 0 .e, .op 1 .e, .op 2 .e]) rfl ?_
    iterate 3 refine rx_s rfl rfl rfl rfl rfl ?_
    refine rx_end0 ?_
    refine SW.cond rfl (fun h26 => ?_) (fun h26 => ?_)
    · skip
      have hc : cmpK k k' < 0 := of_decide_eq_true h26
      unfold T.del
      rw [if_pos hc, ← List.append_assoc]
      rw [if_pos hc] at hn
      refine SW.seq ?_
      refine SW.drawT (Hs := [EB e m gv, MB m a, ArP a A, GL gv g, IP A pl l, IP A pr r]) (D0l := []) (Dl := ?DT330) (F := ?FT330) Fa.mix (tp := [0, 0, 0, 0, 8, 24, 56, 0, 252, 0, 512, 1536, 3584, 8191, 16383]) (l := [.op 0 .s, .op 1 .s, .op 2 .s, .op 3 .s, .op 4 .s, .op 5 .s, .op 6 .d, .op 7 .d, .op 8 .e, .op 9 .s, .op 10 .s, .op 11 .s, .op 12 .d, .op 13 .e, .op 14 .s]) (by kernel_rfl) ?T330a ?T330b ?_
      case T330a => (repeat (first|exact Take.nil|refine Take.cons (by (repeat first|exact .here|apply Take1.there)) ?_))
      case T330b => (repeat (first|exact Take.nil|refine Take.cons (by (repeat first|exact .here|apply Take1.there)) ?_))
      iterate 5 refine rx_s rfl rfl rfl rfl rfl ?_
      refine rx_fa rfl rfl rfl rfl rfl rfl Fa.fo_264_4 ?_
      refine rx_ldD1 rfl rfl rfl rfl rfl rfl rfl (by (repeat first|exact .here|apply Take1.there)) Fa.ag_236 (by rfl) ?_
      refine rx_ldDA rfl rfl rfl rfl rfl rfl rfl (by (repeat first|exact .here|apply Take1.there)) Fa.ag_73 Fa.sz_73 (vs := [_, _, _]) (by rfl) rfl ?_
      refine rx_callH (F := ?FT331) rfl rfl rfl rfl rfl rfl rfl rfl Fa.ca_139 rfl (il pl gv g hn w.2.1 (by omega) (by omega)) ?T331 ?_
      case T331 => (repeat (first|exact Take.nil|refine Take.cons (by (repeat first|exact .here|apply Take1.there)) ?_))
      rintro _ _ ⟨gv1, p1, rfl, rfl⟩
      try simp only [List.cons_append, List.nil_append]
      iterate 2 refine rx_s rfl rfl rfl rfl rfl ?_
      refine rx_fa rfl rfl rfl rfl rfl rfl Fa.fo_264_5 ?_
      refine rx_ldD1 rfl rfl rfl rfl rfl rfl rfl (by (repeat first|exact .here|apply Take1.there)) Fa.ag_236 (by rfl) ?_
      refine rx_call (F := ?FT332) rfl rfl rfl rfl rfl rfl rfl rfl Fa.ca_164 rfl (balance e m a b gv1 (g ++ (T.del cmpK k l).2) (by have := T.del_len cmpK k l; simp; omega) A hA h k' x' pl pr hi p1 pr (T.del cmpK k l).1 r (T.del_wf _ _ w.2.1).1 w.2.2 (by have := (T.del_wf cmpK k w.2.1).2; omega)) ?T332 ?_
      case T332 => (repeat (first|exact Take.nil|refine Take.cons (by (repeat first|exact .here|apply Take1.there)) ?_))
      rintro _ _ ⟨gv2, b2, rfl, rfl⟩
      refine ⟨?HT333, ?T333, ?_⟩
      case T333 => (repeat (first|exact Take.nil|refine Take.cons (by (repeat first|exact .here|apply Take1.there)) ?_))
      try simp only [List.cons_append, List.nil_append]
      refine rx_s rfl rfl rfl rfl rfl ?_
      refine rx_endD ?_
      try simp only [List.cons_append, List.nil_append]
      refine SW.ret ?_
      exact retK1 (l := [_, _, _, _, _]) (.tmp rfl .nil) ⟨gv2, _, rfl, rfl⟩ (.one (by (repeat first|exact .here|apply Take1.there)) (.one (by (repeat first|exact .here|apply Take1.there)) (.one (by (repeat first|exact .here|apply Take1.there)) (.one (by (repeat first|exact .here|apply Take1.there)) (.one (by (repeat first|exact .here|apply Take1.there)) .nil)))))
    · skip
      have hc : ¬ (cmpK k k' < 0) := by simpa using h26
      rw [if_neg hc] at hn
      refine SW.seq ?_
      refine SW.reg (l := [.op 0 .e, .op 1 .e, .op 2 .e]) rfl ?_
      iterate 3 refine rx_s rfl rfl rfl rfl rfl ?_
      refine rx_end0 ?_
      refine SW.cond rfl (fun h43 => ?_) (fun h43 => ?_)
      · skip
        have hc' : cmpK k k' > 0 := of_decide_eq_true h43
        unfold T.del
        rw [if_neg hc, if_pos hc', ← List.append_assoc]
        rw [if_pos hc'] at hn
        refine SW.seq ?_
        refine SW.drawT (Hs := [EB e m gv, MB m a, ArP a A, GL gv g, IP A pl l, IP A pr r]) (D0l := []) (Dl := ?DT334) (F := ?FT334) Fa.mix (tp := [0, 0, 0, 4, 12, 28, 0, 0, 128, 384, 896, 0, 4032, 8191, 16383]) (l := [.op 0 .s, .op 1 .s, .op 2 .s, .op 3 .s, .op 4 .s, .op 5 .d, .op 6 .s, .op 7 .s, .op 8 .s, .op 9 .s, .op 10 .d, .op 11 .d, .op 12 .e, .op 13 .e, .op 14 .s]) (by kernel_rfl) ?T334a ?T334b ?_
        case T334a => (repeat (first|exact Take.nil|refine Take.cons (by (repeat first|exact .here|apply Take1.there)) ?_))
        case T334b => (repeat (first|exact Take.nil|refine Take.cons (by (repeat first|exact .here|apply Take1.there)) ?_))
        iterate 4 refine rx_s rfl rfl rfl rfl rfl ?_
        refine rx_fa rfl rfl rfl rfl rfl rfl Fa.fo_264_4 ?_
        refine rx_ldD1 rfl rfl rfl rfl rfl rfl rfl (by (repeat first|exact .here|apply Take1.there)) Fa.ag_236 (by rfl) ?_
        iterate 3 refine rx_s rfl rfl rfl rfl rfl ?_
        refine rx_fa rfl rfl rfl rfl rfl rfl Fa.fo_264_5 ?_
        refine rx_ldD1 rfl rfl rfl rfl rfl rfl rfl (by (repeat first|exact .here|apply Take1.there)) Fa.ag_236 (by rfl) ?_
        refine rx_ldDA rfl rfl rfl rfl rfl rfl rfl (by (repeat first|exact .here|apply Take1.there)) Fa.ag_73 Fa.sz_73 (vs := [_, _, _]) (by rfl) rfl ?_
        refine rx_callH (F := ?FT335) rfl rfl rfl rfl rfl rfl rfl rfl Fa.ca_139 rfl (ir pr gv g hn w.2.2 (by omega) (by omega)) ?T335 ?_
        case T335 => (repeat (first|exact Take.nil|refine Take.cons (by (repeat first|exact .here|apply Take1.there)) ?_))
        rintro _ _ ⟨gv1, p1, rfl, rfl⟩
        try simp only [List.cons_append, List.nil_append]
        refine rx_call (F := ?FT336) rfl rfl rfl rfl rfl rfl rfl rfl Fa.ca_164 rfl (balance e m a b gv1 (g ++ (T.del cmpK k r).2) (by have := T.del_len cmpK k r; simp; omega) A hA h k' x' pl pr hi pl p1 l (T.del cmpK k r).1 w.2.1 (T.del_wf _ _ w.2.2).1 (by have := (T.del_wf cmpK k w.2.2).2; omega)) ?T336 ?_
        case T336 => (repeat (first|exact Take.nil|refine Take.cons (by (repeat first|exact .here|apply Take1.there)) ?_))
        rintro _ _ ⟨gv2, b2, rfl, rfl⟩
        refine ⟨?HT337, ?T337, ?_⟩
        case T337 => (repeat (first|exact Take.nil|refine Take.cons (by (repeat first|exact .here|apply Take1.there)) ?_))
        try simp only [List.cons_append, List.nil_append]
        refine rx_s rfl rfl rfl rfl rfl ?_
        refine rx_endD ?_
        try simp only [List.cons_append, List.nil_append]
        refine SW.ret ?_
        exact retK1 (l := [_, _, _, _, _]) (.tmp rfl .nil) ⟨gv2, _, rfl, rfl⟩ (.one (by (repeat first|exact .here|apply Take1.there)) (.one (by (repeat first|exact .here|apply Take1.there)) (.one (by (repeat first|exact .here|apply Take1.there)) (.one (by (repeat first|exact .here|apply Take1.there)) (.one (by (repeat first|exact .here|apply Take1.there)) .nil)))))
      · skip
        have hc' : ¬ (cmpK k k' > 0) := by simpa using h43
        unfold T.del
        rw [if_neg hc, if_neg hc']
        refine SW.skip ?_
        try simp only [thenK, blockK, cond_true, cond_false, beq_self_eq_true, Nat.reduceBEq]
        refine SW.seq ?_
        refine SW.reg (l := [.op 0 .e, .op 1 .e, .op 2 .e]) rfl ?_
        iterate 2 refine rx_s rfl rfl rfl rfl rfl ?_
        refine rx_callH (F := ?FT338) rfl rfl rfl rfl rfl rfl rfl rfl Fa.ca_165 rfl (leave e m b gv g (by omega) h k' x' pl pr hi) ?T338 ?_
        case T338 => (repeat (first|exact Take.nil|refine Take.cons (by (repeat first|exact .here|apply Take1.there)) ?_))
        rintro _ _ ⟨gv1, rfl, rfl⟩
        try simp only [List.cons_append, List.nil_append]
        refine rx_end0 ?_
        refine SW.seq ?_
        refine SW.block ?_
        refine SW.seq ?_
        refine ipIff (p := pl) (by (repeat first|exact .here|apply Take1.there)) (fun hpl => ?_)
        refine ipIff (p := pr) (by (repeat first|exact .here|apply Take1.there)) (fun hpr => ?_)
        refine SW.reg (l := [.op 0 .e, .op 1 .e, .op 2 .e, .op 3 .e, .op 4 .e, .op 5 .e]) rfl ?_
        iterate 2 refine rx_s rfl rfl rfl rfl rfl ?_
        refine rx_fa rfl rfl rfl rfl rfl rfl Fa.fo_264_4 ?_
        refine rx_ldH1 rfl rfl rfl rfl rfl rfl (by (repeat first|exact .here|apply Take1.there)) Fa.ag_236 (by rfl) ?_
        refine rx_eqnil rfl rfl rfl rfl rfl Fa.pt_236 rfl ?_
        refine rx_s rfl rfl rfl rfl rfl ?_
        refine rx_end0 ?_
        refine SW.cond rfl (fun h63 => ?_) (fun h63 => ?_)
        · skip
          obtain rfl : pl = none := by simpa using h63
          obtain rfl := hpl.1 rfl
          simp only
          refine SW.seq ?_
          refine SW.reg (l := [.op 0 .e, .op 1 .e, .op 2 .e, .op 3 .e, .op 4 .e]) rfl ?_
          iterate 2 refine rx_s rfl rfl rfl rfl rfl ?_
          refine rx_fa rfl rfl rfl rfl rfl rfl Fa.fo_264_5 ?_
          refine rx_ldH1 rfl rfl rfl rfl rfl rfl (by (repeat first|exact .here|apply Take1.there)) Fa.ag_236 (by rfl) ?_
          refine rx_s rfl rfl rfl rfl rfl ?_
          refine rx_end0 ?_
          refine SW.ret ?_
          exact retK1 (l := [_, _, _, _, _]) (.tmp rfl .nil) ⟨gv1, pr, rfl, rfl⟩ (.one (by (repeat first|exact .here|apply Take1.there)) (.one (by (repeat first|exact .here|apply Take1.there)) (.one (by (repeat first|exact .here|apply Take1.there)) (.one (by (repeat first|exact .here|apply Take1.there)) (.one (by (repeat first|exact .here|apply Take1.there)) .nil)))))
        · skip
          have hp1 : pl ≠ none := by rintro rfl; simp at h63
          obtain ⟨lh, lk, lw, ll, lr, lhi, rfl⟩ := T.node_of_ne (fun q => hp1 (hpl.2 q))
          refine SW.seq ?_
          refine SW.reg (l := [.op 0 .e, .op 1 .e, .op 2 .e, .op 3 .e, .op 4 .e, .op 5 .e]) rfl ?_
          iterate 2 refine rx_s rfl rfl rfl rfl rfl ?_
          refine rx_fa rfl rfl rfl rfl rfl rfl Fa.fo_264_5 ?_
          refine rx_ldH1 rfl rfl rfl rfl rfl rfl (by (repeat first|exact .here|apply Take1.there)) Fa.ag_236 (by rfl) ?_
          refine rx_eqnil rfl rfl rfl rfl rfl Fa.pt_236 rfl ?_
          refine rx_s rfl rfl rfl rfl rfl ?_
          refine rx_end0 ?_
          refine SW.cond rfl (fun h73 => ?_) (fun h73 => ?_)
          · skip
            obtain rfl : pr = none := by simpa using h73
            obtain rfl := hpr.1 rfl
            simp only
            refine SW.seq ?_
            refine SW.reg (l := [.op 0 .e, .op 1 .e, .op 2 .e, .op 3 .e, .op 4 .e]) rfl ?_
            iterate 2 refine rx_s rfl rfl rfl rfl rfl ?_
            refine rx_fa rfl rfl rfl rfl rfl rfl Fa.fo_264_4 ?_
            refine rx_ldH1 rfl rfl rfl rfl rfl rfl (by (repeat first|exact .here|apply Take1.there)) Fa.ag_236 (by rfl) ?_
            refine rx_s rfl rfl rfl rfl rfl ?_
            refine rx_end0 ?_
            refine SW.ret ?_
            exact retK1 (l := [_, _, _, _, _]) (.tmp rfl .nil) ⟨gv1, pl, rfl, rfl⟩ (.one (by (repeat first|exact .here|apply Take1.there)) (.one (by (repeat first|exact .here|apply Take1.there)) (.one (by (repeat first|exact .here|apply Take1.there)) (.one (by (repeat first|exact .here|apply Take1.there)) (.one (by (repeat first|exact .here|apply Take1.there)) .nil)))))
          · skip
            have hp2 : pr ≠ none := by rintro rfl; simp at h73
            obtain ⟨rh, rk, rw', rl, rr, rhi, rfl⟩ := T.node_of_ne (fun q => hp2 (hpr.2 q))
            simp only
            rw [← List.append_assoc, ← List.append_assoc]
            have hll := T.least_len (h := rh) (k := rk) (v := rw') (l := rl) (r := rr)
            have hlw := T.least_wf (h := rh) (k := rk) (v := rw') w.2.2.2.1 w.2.2.2.2
            have hlv := T.lv_len h
            simp only [T.size] at hs hg hll hlw
            refine SW.skip ?_
            try simp only [thenK, blockK, cond_true, cond_false, beq_self_eq_true, Nat.reduceBEq]
            refine SW.seq ?_
            refine SW.reg (l := [.op 0 .e, .op 1 .e, .op 2 .e, .op 3 .e, .op 4 .e, .op 5 .e, .op 6 .e, .op 7 .e, .op 8 .e, .op 9 .e, .op 10 .e]) rfl ?_
            iterate 3 refine rx_s rfl rfl rfl rfl rfl ?_
            refine rx_fa rfl rfl rfl rfl rfl rfl Fa.fo_264_5 ?_
            refine rx_ldH1 rfl rfl rfl rfl rfl rfl (by (repeat first|exact .here|apply Take1.there)) Fa.ag_236 (by rfl) ?_
            refine rx_callH (F := ?FT339) rfl rfl rfl rfl rfl rfl rfl rfl Fa.ca_166 rfl (least e m a A hA _ rh rk rw' rl rr rhi rfl pr gv1 (g ++ T.lv h) w.2.2 (by simp only [T.size]; omega) (by simp only [T.size, List.length_append]; omega)) ?T339 ?_
            case T339 => (repeat (first|exact Take.nil|refine Take.cons (by (repeat first|exact .here|apply Take1.there)) ?_))
            rintro _ _ ⟨gv2, b2, q1, q2, hi2, p2, rfl, rfl⟩
            try simp only [List.cons_append, List.nil_append]
            iterate 5 refine rx_s rfl rfl rfl rfl rfl ?_
            refine rx_end0 ?_
            refine SW.seq ?_
            refine SW.reg (l := [.op 0 .e, .op 1 .e, .op 2 .e, .op 3 .e, .op 4 .e, .op 5 .e, .op 6 .e, .op 7 .e, .op 8 .e]) rfl ?_
            iterate 4 refine rx_s rfl rfl rfl rfl rfl ?_
            refine rx_fa rfl rfl rfl rfl rfl rfl Fa.fo_264_4 ?_
            refine rx_ldH1 rfl rfl rfl rfl rfl rfl (by (repeat first|exact .here|apply Take1.there)) Fa.ag_236 (by rfl) ?_
            refine rx_s rfl rfl rfl rfl rfl ?_
            refine rx_callH (F := ?FT340) rfl rfl rfl rfl rfl rfl rfl rfl Fa.ca_164 rfl (balance e m a b2 gv2 (g ++ T.lv h ++ (T.least rh rk rw' rl rr).2.2) (by simp only [List.length_append]; omega) A hA (T.least rh rk rw' rl rr).1.1 (T.least rh rk rw' rl rr).1.2.1 (T.least rh rk rw' rl rr).1.2.2 q1 q2 hi2 pl p2 (.node lh lk lw ll lr lhi) (T.least rh rk rw' rl rr).2.1 w.2.1 hlw.1 (by simp only [T.size]; omega)) ?T340 ?_
            case T340 => (repeat (first|exact Take.nil|refine Take.cons (by (repeat first|exact .here|apply Take1.there)) ?_))
            rintro _ _ ⟨gv3, b3, rfl, rfl⟩
            try simp only [List.cons_append, List.nil_append]
            refine rx_s rfl rfl rfl rfl rfl ?_
            refine rx_end0 ?_
            refine SW.ret ?_
            exact retK1 (l := [_, _, _, _, _]) (.tmp rfl .nil) ⟨gv3, _, rfl, rfl⟩ (.one (by (repeat first|exact .here|apply Take1.there)) (.one (by (repeat first|exact .here|apply Take1.there)) (.one (by (repeat first|exact .here|apply Take1.there)) (.one (by (repeat first|exact .here|apply Take1.there)) (.one (by (repeat first|exact .here|apply Take1.there)) .nil)))))
end ItK
end Go.Proofs.YtikkegelplllmaaGreatDoor
/- A version is stored. -/
namespace Go.Proofs.YtikkegelplllmaaGreatDoor
open Go Go.Sl Go.Holt Go.Proofs
open Go.Holt.Enc (enc)
namespace ItK
open ArK (ArP getV)

/-- A change's block. -/
abbrev OB (o : Nat) (rt : Handle) (mv gnv : Value) : HProp := blk o [.int .i64 rt.slot, .int .i64 rt.gen, mv, gnv] 200 (0, 0)
theorem ipMono {P : Program} {n : Nat} {ds : List Deferred} {e : Env} {c : Code} {KK : Exit → Env → HProp → Prop} {Hl F : List HProp} {A A' : Ar KNode} {p : Option Addr} {t : TR}
    (hT : Take1 Hl (IP A p t) F) (hA : ∀ hh x, A.get hh = some x → A'.get hh = some x) (h : SW P n ds c e (star (IP A' p t :: F)) KK) : SW P n ds c e (star Hl) KK := by
  refine SW.weak EnvLe.refl ?_ h
  rw [hT.eq]
  exact EntS.of_ent (Ent.sep (ItemP.mono hA t p) (Ent.refl _))

theorem ipPart {P : Program} {f : FuncId} {args : Array Value} {Post : Value → List HProp → Prop} {Hl F : List HProp} {A : Ar KNode} {p : Option Addr} {t : TR}
    (hT : Take1 Hl (IP A p t) F) (h : T.part A t → Sl.Spec P f args Hl Post) : Sl.Spec P f args Hl Post := by
  intro R w hs
  have hs0 := hs
  rw [hT.eq] at hs
  obtain ⟨g, ⟨f0, r', dj, e1, ⟨f1, f2, d2, e2, hx, hF⟩, hR⟩, z⟩ := hs
  exact h (ItemP.part t p f1 hx) R w hs0

/-- 'store' -/
theorem store (e m a o : Nat) (gv gnv : Value) (rt : Handle) : ∀ (t : TR) (p : Option Addr) (A : Ar KNode) (n : Nat) (mv : Value) (made : List Handle), A.good n → n + t.fresh ≤ 1000000000 → (t.fresh : Int) ≤ A.room → made.length + t.fresh ≤ 1000000 →
    Sl.Spec Tryz.prog 162 #[.pointer (some ⟨e, 0, none⟩), .pointer p, .pointer (some ⟨o, 0, none⟩)] [EB e m gv, MB m a, ArP a A, OB o rt mv gnv, GL mv made, IP A p t]
      (fun v l' => ∃ mv', v = .agg #[.int .i64 (t.store KNode.zero A).2.2.slot, .int .i64 (t.store KNode.zero A).2.2.gen] ∧
        l' = [EB e m gv, MB m a, ArP a (t.store KNode.zero A).1, OB o rt mv' gnv, GL mv' (made ++ (t.store KNode.zero A).2.1)]) := by
  intro t
  induction t with
  | nil =>
    intro p A n mv made _ _ _ _
    refine Holt.Spec.itemNil tk5 ?_
    rintro rfl
    simp only [T.store, List.append_nil]
    refine Spec.enter Tryz.func162 rfl rfl rfl ?_
    refine SW.seq ?_
    refine SW.reg (l := [.op 0 .e]) rfl ?_
    refine rx_alloc (.inr rfl) rfl rfl rfl rfl rfl Fa.z_56 ?_
    intro b6
    refine rx_end0 ?_
    refine SW.seq ?_
    refine SW.seq ?_
    refine SW.reg (l := [.op 0 .e, .op 1 .e]) rfl ?_
    refine rx_s rfl rfl rfl rfl rfl ?_
    refine rx_eqnil rfl rfl rfl rfl rfl Fa.pt_236 rfl ?_
    refine rx_end0 ?_
    refine SW.cond (b := true) rfl (fun _ => ?_) (fun h => nomatch h)
    refine SW.seq ?_
    refine SW.reg (l := [.op 0 .e, .op 1 .e]) rfl ?_
    refine rx_build rfl rfl rfl rfl rfl Fa.st_56 rfl (cs := [_, _]) rfl ?_
    refine rx_stp rfl rfl rfl rfl rfl rfl (by (repeat first|exact .here|apply Take1.there)) Fa.sz_56 (vs := [_, _]) rfl rfl rfl (by rfl) (cl' := [_, _]) (by rfl) ?_
    refine rx_end0 ?_
    refine SW.ret ?_
    exact retK1 (l := [_, _, _, _, _]) (.cell rfl (by (repeat first|exact .here|apply Take1.there)) (.inr ⟨2, _, Fa.ag_56, Fa.sz_56, rfl, rfl, rfl⟩) .nil) ⟨mv, rfl, rfl⟩ (.one (by (repeat first|exact .here|apply Take1.there)) (.one (by (repeat first|exact .here|apply Take1.there)) (.one (by (repeat first|exact .here|apply Take1.there)) (.one (by (repeat first|exact .here|apply Take1.there)) (.one (by (repeat first|exact .here|apply Take1.there)) .nil)))))
  | node h k x l r hi il ir =>
    intro p A n mv made hA hn hr hm
    refine ipPart (t := .node h k x l r hi) (tk5) fun hp => ?_
    refine Holt.Spec.itemNode tk5 ?_ ?_
    · rintro b rfl h0 hh
      have es : (T.node h k x l r hi).store KNode.zero A = (A, [], h) := by rw [T.store, if_neg h0]
      rw [es]
      simp only [List.append_nil]
      refine Spec.enter Tryz.func162 rfl rfl rfl ?_
      simp only [shutC, enc, Enc.enc, List.cons_append, List.nil_append]
      refine SW.seq ?_
      refine SW.reg (l := [.op 0 .e]) rfl ?_
      refine rx_alloc (.inr rfl) rfl rfl rfl rfl rfl Fa.z_56 ?_
      intro b6
      refine rx_end0 ?_
      refine SW.seq ?_
      refine SW.seq ?_
      refine SW.reg (l := [.op 0 .e, .op 1 .e]) rfl ?_
      refine rx_s rfl rfl rfl rfl rfl ?_
      refine rx_eqnil rfl rfl rfl rfl rfl Fa.pt_236 rfl ?_
      refine rx_end0 ?_
      refine SW.cond (b := false) rfl (fun h => nomatch h) (fun _ => ?_)
      refine SW.skip ?_
      try simp only [thenK, blockK, cond_true, cond_false, beq_self_eq_true, Nat.reduceBEq]
      refine SW.seq ?_
      refine SW.seq ?_
      refine SW.reg (l := [.op 0 .e, .op 1 .e, .op 2 .e, .op 3 .e, .op 4 .e, .op 5 .e]) rfl ?_
      iterate 2 refine rx_s rfl rfl rfl rfl rfl ?_
      refine rx_fa rfl rfl rfl rfl rfl rfl Fa.fo_264_0 ?_
      refine rx_ldHA rfl rfl rfl rfl rfl rfl (by (repeat first|exact .here|apply Take1.there)) Fa.ag_56 Fa.sz_56 (vs := [_, _]) (by rfl) rfl ?_
      refine rx_build rfl rfl rfl rfl rfl Fa.st_56 rfl (cs := [_, _]) rfl ?_
      refine rx_neS rfl rfl rfl rfl rfl Fa.eq_56 rfl rfl rfl ?_
      refine rx_end0 ?_
      refine SW.cond rfl (fun h18 => ?_) (fun h18 => ?_)
      · skip
        refine SW.seq ?_
        refine SW.reg (l := [.op 0 .e, .op 1 .e, .op 2 .e, .op 3 .e, .op 4 .e]) rfl ?_
        iterate 2 refine rx_s rfl rfl rfl rfl rfl ?_
        refine rx_fa rfl rfl rfl rfl rfl rfl Fa.fo_264_0 ?_
        refine rx_ldHA rfl rfl rfl rfl rfl rfl (by (repeat first|exact .here|apply Take1.there)) Fa.ag_56 Fa.sz_56 (vs := [_, _]) (by rfl) rfl ?_
        refine rx_stp rfl rfl rfl rfl rfl rfl (by (repeat first|exact .here|apply Take1.there)) Fa.sz_56 (vs := [_, _]) rfl rfl rfl (by rfl) (cl' := [_, _]) (by rfl) ?_
        refine rx_end0 ?_
        refine SW.ret ?_
        exact retK1 (l := [_, _, _, _, _]) (.cell rfl (by (repeat first|exact .here|apply Take1.there)) (.inr ⟨2, _, Fa.ag_56, Fa.sz_56, rfl, rfl, rfl⟩) .nil) ⟨mv, rfl, rfl⟩ (.one (by (repeat first|exact .here|apply Take1.there)) (.one (by (repeat first|exact .here|apply Take1.there)) (.one (by (repeat first|exact .here|apply Take1.there)) (.one (by (repeat first|exact .here|apply Take1.there)) (.one (by (repeat first|exact .here|apply Take1.there)) .nil)))))
      · (exfalso; apply h0; rcases h with ⟨h1, h2⟩; simp at h18; simp [h18])
    · rintro b pl pr rfl hh
      refine Spec.enter Tryz.func162 rfl rfl rfl ?_
      simp only [openC, enc, Enc.enc, List.cons_append, List.nil_append]
      refine SW.seq ?_
      refine SW.reg (l := [.op 0 .e]) rfl ?_
      refine rx_alloc (.inr rfl) rfl rfl rfl rfl rfl Fa.z_56 ?_
      intro b6
      refine rx_end0 ?_
      refine SW.seq ?_
      refine SW.seq ?_
      refine SW.reg (l := [.op 0 .e, .op 1 .e]) rfl ?_
      refine rx_s rfl rfl rfl rfl rfl ?_
      refine rx_eqnil rfl rfl rfl rfl rfl Fa.pt_236 rfl ?_
      refine rx_end0 ?_
      refine SW.cond (b := false) rfl (fun h => nomatch h) (fun _ => ?_)
      refine SW.skip ?_
      try simp only [thenK, blockK, cond_true, cond_false, beq_self_eq_true, Nat.reduceBEq]
      refine SW.seq ?_
      refine SW.seq ?_
      refine SW.reg (l := [.op 0 .e, .op 1 .e, .op 2 .e, .op 3 .e, .op 4 .e, .op 5 .e]) rfl ?_
      iterate 2 refine rx_s rfl rfl rfl rfl rfl ?_
      refine rx_fa rfl rfl rfl rfl rfl rfl Fa.fo_264_0 ?_
      refine rx_ldHA rfl rfl rfl rfl rfl rfl (by (repeat first|exact .here|apply Take1.there)) Fa.ag_56 Fa.sz_56 (vs := [_, _]) (by rfl) rfl ?_
      refine rx_build rfl rfl rfl rfl rfl Fa.st_56 rfl (cs := [_, _]) rfl ?_
      refine rx_neS rfl rfl rfl rfl rfl Fa.eq_56 rfl rfl rfl ?_
      refine rx_end0 ?_
      refine SW.cond rfl (fun h18 => ?_) (fun h18 => ?_)
      · skip
        have h0 : h ≠ ⟨0, 0⟩ := by rintro rfl; simp at h18
        have es : (T.node h k x l r hi).store KNode.zero A = (A, [], h) := by rw [T.store, if_neg h0]
        rw [es]
        simp only [List.append_nil]
        refine SW.seq ?_
        refine SW.reg (l := [.op 0 .e, .op 1 .e, .op 2 .e, .op 3 .e, .op 4 .e]) rfl ?_
        iterate 2 refine rx_s rfl rfl rfl rfl rfl ?_
        refine rx_fa rfl rfl rfl rfl rfl rfl Fa.fo_264_0 ?_
        refine rx_ldHA rfl rfl rfl rfl rfl rfl (by (repeat first|exact .here|apply Take1.there)) Fa.ag_56 Fa.sz_56 (vs := [_, _]) (by rfl) rfl ?_
        refine rx_stp rfl rfl rfl rfl rfl rfl (by (repeat first|exact .here|apply Take1.there)) Fa.sz_56 (vs := [_, _]) rfl rfl rfl (by rfl) (cl' := [_, _]) (by rfl) ?_
        refine rx_end0 ?_
        refine SW.ret ?_
        exact retK1 (l := [_, _, _, _, _]) (.cell rfl (by (repeat first|exact .here|apply Take1.there)) (.inr ⟨2, _, Fa.ag_56, Fa.sz_56, rfl, rfl, rfl⟩) .nil) ⟨mv, rfl, rfl⟩ (.one (by (repeat first|exact .here|apply Take1.there)) (.one (by (repeat first|exact .here|apply Take1.there)) (.one (by (repeat first|exact .here|apply Take1.there)) (.one (by (repeat first|exact .here|apply Take1.there)) (.one (by (repeat first|exact .here|apply Take1.there)) .nil)))))
      · skip
        have h0 : h = ⟨0, 0⟩ := by rcases h with ⟨h1, h2⟩; simp at h18; simp [h18]
        subst h0
        simp only [T.fresh, if_true] at hn hr hm
        have sl := T.store_st KNode.zero l A n hA (by omega) (by omega) (hp.2 rfl).1
        have sr := T.store_st KNode.zero r (l.store KNode.zero A).1 (n + l.fresh) sl.good (by omega) (by rw [sl.room]; omega) (T.part_mono sl.keep (hp.2 rfl).2)
        have hr2 : (r.store KNode.zero (l.store KNode.zero A).1).1.room ≠ 0 := by rw [sr.room, sl.room]; omega
        rw [T.store_node]
        simp only [← List.append_assoc]
        refine SW.skip ?_
        try simp only [thenK, blockK, cond_true, cond_false, beq_self_eq_true, Nat.reduceBEq]
        refine SW.seq ?_
        refine SW.drawAll Fa.mix (tp := [0, 1, 3, 7, 0, 16, 48, 112, 0, 256, 768, 1792, 4095, 0, 16383]) (l := [.op 0 .s, .op 1 .s, .op 2 .s, .op 3 .d, .op 4 .s, .op 5 .s, .op 6 .s, .op 7 .d, .op 8 .s, .op 9 .s, .op 10 .s, .op 11 .d, .op 12 .s, .op 13 .f, .bar, .op 14 .e]) (by kernel_rfl) ?_
        iterate 2 refine rx_s rfl rfl rfl rfl rfl ?_
        refine rx_fa rfl rfl rfl rfl rfl rfl Fa.fo_264_2 ?_
        refine rx_ldDA rfl rfl rfl rfl rfl rfl rfl (by (repeat first|exact .here|apply Take1.there)) Fa.ag_73 Fa.sz_73 (vs := [_, _, _]) (by rfl) rfl ?_
        iterate 2 refine rx_s rfl rfl rfl rfl rfl ?_
        refine rx_fa rfl rfl rfl rfl rfl rfl Fa.fo_264_3 ?_
        refine rx_ldD1 rfl rfl rfl rfl rfl rfl rfl (by (repeat first|exact .here|apply Take1.there)) Fa.ag_4 (by rfl) ?_
        iterate 2 refine rx_s rfl rfl rfl rfl rfl ?_
        refine rx_fa rfl rfl rfl rfl rfl rfl Fa.fo_264_6 ?_
        refine rx_ldD1 rfl rfl rfl rfl rfl rfl rfl (by (repeat first|exact .here|apply Take1.there)) Fa.ag_3 (by rfl) ?_
        refine rx_build rfl rfl rfl rfl rfl Fa.st_75 rfl (cs := [_, _, _, _, _, _, _, _, _]) rfl ?_
        refine rx_alloc (.inl rfl) rfl rfl rfl rfl rfl Fa.z_75 ?_
        intro b7
        refine rx_barAll ?_
        try simp only [List.cons_append, List.nil_append]
        refine rx_stp rfl rfl rfl rfl rfl rfl (by (repeat first|exact .here|apply Take1.there)) Fa.sz_75 (vs := [_, _, _, _, _, _, _, _, _]) rfl rfl rfl (by rfl) (cl' := [_, _, _, _, _, _, _, _, _]) (by rfl) ?_
        refine rx_endD ?_
        try simp only [List.cons_append, List.nil_append]
        refine SW.seq ?_
        refine SW.reg (l := [.op 0 .e, .op 1 .e, .op 2 .e, .op 3 .e, .op 4 .e, .op 5 .e, .op 6 .e, .op 7 .e, .op 8 .e]) rfl ?_
        iterate 3 refine rx_s rfl rfl rfl rfl rfl ?_
        refine rx_fa rfl rfl rfl rfl rfl rfl Fa.fo_264_4 ?_
        refine rx_ldH1 rfl rfl rfl rfl rfl rfl (by (repeat first|exact .here|apply Take1.there)) Fa.ag_236 (by rfl) ?_
        refine rx_s rfl rfl rfl rfl rfl ?_
        refine rx_callH (F := ?FT384) rfl rfl rfl rfl rfl rfl rfl rfl Fa.ca_162 rfl (il pl A n mv made hA (by omega) (by omega) (by omega)) ?T384 ?_
        case T384 => (repeat (first|exact Take.nil|refine Take.cons (by (repeat first|exact .here|apply Take1.there)) ?_))
        rintro _ _ ⟨mv1, rfl, rfl⟩
        try simp only [List.cons_append, List.nil_append]
        refine rx_fa rfl rfl rfl rfl rfl rfl Fa.fo_75_2 ?_
        refine rx_stp rfl rfl rfl rfl rfl rfl (by (repeat first|exact .here|apply Take1.there)) Fa.sz_56 (vs := [_, _]) rfl rfl rfl (by rfl) (cl' := [_, _, _, _, _, _, _, _, _]) (by rfl) ?_
        refine rx_end0 ?_
        refine SW.seq ?_
        refine ipMono (p := pr) (by (repeat first|exact .here|apply Take1.there)) sl.keep ?_
        refine SW.reg (l := [.op 0 .e, .op 1 .e, .op 2 .e, .op 3 .e, .op 4 .e, .op 5 .e, .op 6 .e, .op 7 .e, .op 8 .e]) rfl ?_
        iterate 3 refine rx_s rfl rfl rfl rfl rfl ?_
        refine rx_fa rfl rfl rfl rfl rfl rfl Fa.fo_264_5 ?_
        refine rx_ldH1 rfl rfl rfl rfl rfl rfl (by (repeat first|exact .here|apply Take1.there)) Fa.ag_236 (by rfl) ?_
        refine rx_s rfl rfl rfl rfl rfl ?_
        refine rx_callH (F := ?FT385) rfl rfl rfl rfl rfl rfl rfl rfl Fa.ca_162 rfl (ir pr (l.store KNode.zero A).1 (n + l.fresh) mv1 (made ++ (l.store KNode.zero A).2.1) sl.good (by omega) (by rw [sl.room]; omega) (by have := T.store_len KNode.zero l A; simp; omega)) ?T385 ?_
        case T385 => (repeat (first|exact Take.nil|refine Take.cons (by (repeat first|exact .here|apply Take1.there)) ?_))
        rintro _ _ ⟨mv2, rfl, rfl⟩
        try simp only [List.cons_append, List.nil_append]
        refine rx_fa rfl rfl rfl rfl rfl rfl Fa.fo_75_3 ?_
        refine rx_stp rfl rfl rfl rfl rfl rfl (by (repeat first|exact .here|apply Take1.there)) Fa.sz_56 (vs := [_, _]) rfl rfl rfl (by rfl) (cl' := [_, _, _, _, _, _, _, _, _]) (by rfl) ?_
        refine rx_end0 ?_
        refine SW.seq ?_
        refine SW.drawT (Hs := [ArP a (r.store KNode.zero (l.store KNode.zero A).1).1]) (D0l := []) (Dl := ?DT386) (F := ?FT386) Fa.mix (tp := [0, 1, 3, 7, 15, 31, 63, 0, 255, 511, 1023, 1023, 0, 6143, 16383]) (l := [.op 0 .s, .op 1 .s, .op 2 .s, .op 3 .d, .op 4 .s, .op 5 .s, .op 6 .d, .op 7 .d, .op 8 .e, .op 9 .s, .op 10 .s, .op 11 .s, .op 12 .f, .bar, .op 13 .e, .op 14 .s]) (by kernel_rfl) ?T386a ?T386b ?_
        case T386a => (repeat (first|exact Take.nil|refine Take.cons (by (repeat first|exact .here|apply Take1.there)) ?_))
        case T386b => (repeat (first|exact Take.nil|refine Take.cons (by (repeat first|exact .here|apply Take1.there)) ?_))
        iterate 2 refine rx_s rfl rfl rfl rfl rfl ?_
        refine rx_fa rfl rfl rfl rfl rfl rfl Fa.fo_234_0 ?_
        refine rx_ldD1 rfl rfl rfl rfl rfl rfl rfl (by (repeat first|exact .here|apply Take1.there)) Fa.ag_77 (by rfl) ?_
        refine rx_s rfl rfl rfl rfl rfl ?_
        refine rx_fa rfl rfl rfl rfl rfl rfl Fa.fo_164_0 ?_
        refine rx_ldD1 rfl rfl rfl rfl rfl rfl rfl (by (repeat first|exact .here|apply Take1.there)) Fa.ag_162 (by rfl) ?_
        refine rx_ldDA rfl rfl rfl rfl rfl rfl rfl (by (repeat first|exact .here|apply Take1.there)) Fa.ag_75 Fa.sz_75 (vs := [_, _, _, _, _, _, _, _, _]) (by rfl) rfl ?_
        refine rx_callH (F := ?FT387) rfl rfl rfl rfl rfl rfl rfl rfl Fa.ca_187 rfl (ArK.put a (r.store KNode.zero (l.store KNode.zero A).1).1 ⟨k, x, (l.store KNode.zero A).2.2, (r.store KNode.zero (l.store KNode.zero A).1).2.2, hi⟩ sr.good.ok hr2) ?T387 ?_
        case T387 => (repeat (first|exact Take.nil|refine Take.cons (by (repeat first|exact .here|apply Take1.there)) ?_))
        rintro _ _ ⟨rfl, rfl⟩
        try simp only [List.cons_append, List.nil_append]
        iterate 3 refine rx_s rfl rfl rfl rfl rfl ?_
        refine rx_alloc (.inl rfl) rfl rfl rfl rfl rfl Fa.z_56 ?_
        intro b8
        refine rx_barAll ?_
        try simp only [List.cons_append, List.nil_append]
        refine rx_stp rfl rfl rfl rfl rfl rfl (by (repeat first|exact .here|apply Take1.there)) Fa.sz_56 (vs := [_, _]) rfl rfl rfl (by rfl) (cl' := [_, _]) (by rfl) ?_
        refine rx_s rfl rfl rfl rfl rfl ?_
        refine rx_endD ?_
        try simp only [List.cons_append, List.nil_append]
        refine SW.seq ?_
        refine Holt.SW.slsh (v := mv2) (by (repeat first|exact .here|apply Take1.there)) ?_
        rintro p0 m0 c0 rfl hm0
        rw [flat_len, show Enc.n Handle = 2 from rfl] at hm0
        simp only [List.length_append] at hm0
        have q1 := T.store_len KNode.zero l A
        have q2 := T.store_len KNode.zero r (l.store KNode.zero A).1
        refine SW.drawT (Hs := [GL (.slice p0 m0 c0) (made ++ (l.store KNode.zero A).2.1 ++ (r.store KNode.zero (l.store KNode.zero A).1).2.1)]) (D0l := []) (Dl := ?DT388) (F := ?FT388) Fa.mix (tp := [0, 0, 2, 6, 14, 0, 32, 126, 255, 511, 1023]) (l := [.op 0 .s, .op 1 .s, .op 2 .s, .op 3 .s, .op 4 .d, .op 5 .d, .op 6 .f, .op 7 .e, .op 8 .s, .op 9 .s, .bar, .op 10 .e]) (by kernel_rfl) ?T388a ?T388b ?_
        case T388a => (repeat (first|exact Take.nil|refine Take.cons (by (repeat first|exact .here|apply Take1.there)) ?_))
        case T388b => (repeat (first|exact Take.nil|refine Take.cons (by (repeat first|exact .here|apply Take1.there)) ?_))
        iterate 3 refine rx_s rfl rfl rfl rfl rfl ?_
        refine rx_fa rfl rfl rfl rfl rfl rfl Fa.fo_200_1 ?_
        refine rx_ldD1 rfl rfl rfl rfl rfl rfl rfl (by (repeat first|exact .here|apply Take1.there)) Fa.ag_92 (by rfl) ?_
        refine rx_ldDA rfl rfl rfl rfl rfl rfl rfl (by (repeat first|exact .here|apply Take1.there)) Fa.ag_56 Fa.sz_56 (vs := [_, _]) (by rfl) rfl ?_
        refine rx_bslice (.inl rfl) rfl rfl rfl rfl rfl Fa.sl_92 Fa.z_56 rfl rfl rfl rfl rfl (cl := [_, _]) rfl ?_
        intro b70
        refine rx_app1 rfl rfl rfl rfl rfl Fa.sl_92 Fa.z_56 rfl rfl rfl rfl rfl (by (repeat first|exact .here|apply Take1.there)) (by (repeat first|exact .here|apply Take1.there)) (ys := [_, _]) (by rfl) rfl rfl (by rw [flat_len, show Enc.n Handle = 2 from rfl]; simp; omega) ?_
        intro p71 m71 c71 hm71
        refine rx_s rfl rfl rfl rfl rfl ?_
        refine rx_fa rfl rfl rfl rfl rfl rfl Fa.fo_200_1 ?_
        refine rx_barAll ?_
        try simp only [List.cons_append, List.nil_append]
        refine rx_stp rfl rfl rfl rfl rfl rfl (by (repeat first|exact .here|apply Take1.there)) Fa.sz_92 (vs := [_]) rfl rfl rfl (by rfl) (cl' := [_, _, _, _]) (by rfl) ?_
        refine rx_endD ?_
        try simp only [List.cons_append, List.nil_append]
        refine SW.seq ?_
        refine SW.reg (l := [.op 0 .e, .op 1 .e]) rfl ?_
        refine rx_ldHA rfl rfl rfl rfl rfl rfl (by (repeat first|exact .here|apply Take1.there)) Fa.ag_56 Fa.sz_56 (vs := [_, _]) (by rfl) rfl ?_
        refine rx_stp rfl rfl rfl rfl rfl rfl (by (repeat first|exact .here|apply Take1.there)) Fa.sz_56 (vs := [_, _]) rfl rfl rfl (by rfl) (cl' := [_, _]) (by rfl) ?_
        refine rx_end0 ?_
        refine SW.ret ?_
        rw [flat_handle]
        exact retK1 (l := [_, _, _, _, _]) (.cell rfl (by (repeat first|exact .here|apply Take1.there)) (.inr ⟨2, _, Fa.ag_56, Fa.sz_56, rfl, rfl, rfl⟩) .nil) ⟨.slice p71 m71 c71, rfl, rfl⟩ (.one (by (repeat first|exact .here|apply Take1.there)) (.one (by (repeat first|exact .here|apply Take1.there)) (.one (by (repeat first|exact .here|apply Take1.there)) (.one (by (repeat first|exact .here|apply Take1.there)) (.one (by (repeat first|exact .here|apply Take1.there)) .nil)))))
end ItK
end Go.Proofs.YtikkegelplllmaaGreatDoor
/- Maps: what is put, taken out, looked up, freed. -/
namespace Go.Proofs.YtikkegelplllmaaGreatDoor
open Go Go.Sl Go.Holt Go.Proofs
open Go.Holt.Enc (enc)
namespace ItK
open ArK (ArP getV)

theorem fresh_put (cmp : Kid → Kid → Int) (k : Kid) (x : Bool) (t : TR) (w : t.wf) : (T.put cmp k x t).1.fresh ≤ 1 + t.size := by
  have := T.fresh_size (T.put cmp k x t).1
  have := (T.put_wf cmp k x w).2
  omega
theorem room (m a : Nat) (A : Ar KNode) (hA : A.ok) :
    Sl.Spec Tryz.prog 161 #[.pointer (some ⟨m, 0, none⟩)] [MB m a, ArP a A] (fun v l => v = .int .i64 A.room ∧ l = [MB m a, ArP a A]) := by
  refine Spec.enter Tryz.func161 rfl rfl rfl ?_
  refine SW.seq ?_
  refine SW.reg (l := [.op 0 .e]) rfl ?_
  refine rx_s rfl rfl rfl rfl rfl ?_
  refine rx_end0 ?_
  refine SW.seq ?_
  refine SW.reg (l := [.op 0 .e, .op 1 .e, .op 2 .e, .op 3 .e, .op 4 .e, .op 5 .e]) rfl ?_
  iterate 2 refine rx_s rfl rfl rfl rfl rfl ?_
  refine rx_fa rfl rfl rfl rfl rfl rfl Fa.fo_164_0 ?_
  refine rx_ldH1 rfl rfl rfl rfl rfl rfl (by (repeat first|exact .here|apply Take1.there)) Fa.ag_162 (by rfl) ?_
  refine rx_callH (F := ?FT431) rfl rfl rfl rfl rfl rfl rfl rfl Fa.ca_186 rfl (ArK.room a A hA) ?T431 ?_
  case T431 => (repeat (first|exact Take.nil|refine Take.cons (by (repeat first|exact .here|apply Take1.there)) ?_))
  rintro _ _ ⟨rfl, rfl⟩
  try simp only [List.cons_append, List.nil_append]
  refine rx_s rfl rfl rfl rfl rfl ?_
  refine rx_end0 ?_
  refine SW.ret ?_
  exact retK1 (l := [_, _]) (.tmp rfl .nil) ⟨rfl, rfl⟩ (.one (by (repeat first|exact .here|apply Take1.there)) (.one (by (repeat first|exact .here|apply Take1.there)) .nil))
theorem mfree (m a : Nat) (A : Ar KNode) (h : Handle) (hA : A.ok) :
    Sl.Spec Tryz.prog 157 #[.pointer (some ⟨m, 0, none⟩), .agg #[.int .i64 h.slot, .int .i64 h.gen]] [MB m a, ArP a A]
      (fun v l => v = .bool (A.free KNode.zero h).2 ∧ l = [MB m a, ArP a (A.free KNode.zero h).1]) := by
  refine Spec.enter Tryz.func157 rfl rfl rfl ?_
  refine SW.seq ?_
  refine SW.reg (l := [.op 0 .e, .op 1 .e]) rfl ?_
  refine rx_box (.inr rfl) rfl rfl rfl rfl rfl rfl (cl := [_, _]) rfl ?_
  intro b3
  refine rx_s rfl rfl rfl rfl rfl ?_
  refine rx_end0 ?_
  refine SW.seq ?_
  refine SW.drawT (Hs := [ArP a A]) (D0l := []) (Dl := ?DT432) (F := ?FT432) Fa.mix (tp := [0, 1, 3, 7, 0, 31, 63]) (l := [.op 0 .s, .op 1 .s, .op 2 .s, .op 3 .d, .op 4 .d, .op 5 .e, .op 6 .s]) (by kernel_rfl) ?T432a ?T432b ?_
  case T432a => (repeat (first|exact Take.nil|refine Take.cons (by (repeat first|exact .here|apply Take1.there)) ?_))
  case T432b => (repeat (first|exact Take.nil|refine Take.cons (by (repeat first|exact .here|apply Take1.there)) ?_))
  iterate 2 refine rx_s rfl rfl rfl rfl rfl ?_
  refine rx_fa rfl rfl rfl rfl rfl rfl Fa.fo_164_0 ?_
  refine rx_ldD1 rfl rfl rfl rfl rfl rfl rfl (by (repeat first|exact .here|apply Take1.there)) Fa.ag_162 (by rfl) ?_
  refine rx_ldDA rfl rfl rfl rfl rfl rfl rfl (by (repeat first|exact .here|apply Take1.there)) Fa.ag_56 Fa.sz_56 (vs := [_, _]) (by rfl) rfl ?_
  refine rx_callH (F := ?FT433) rfl rfl rfl rfl rfl rfl rfl rfl Fa.ca_183 rfl (ArK.free a A h hA) ?T433 ?_
  case T433 => (repeat (first|exact Take.nil|refine Take.cons (by (repeat first|exact .here|apply Take1.there)) ?_))
  rintro _ _ ⟨rfl, rfl⟩
  try simp only [List.cons_append, List.nil_append]
  refine rx_s rfl rfl rfl rfl rfl ?_
  refine rx_endD ?_
  try simp only [List.cons_append, List.nil_append]
  refine SW.ret ?_
  exact retK1 (l := [_, _]) (.tmp rfl .nil) ⟨rfl, rfl⟩ (.one (by (repeat first|exact .here|apply Take1.there)) (.one (by (repeat first|exact .here|apply Take1.there)) .nil))
theorem mnew (m : Int) (h0 : 0 ≤ m) (h1 : m ≤ 1048576) :
    Sl.Spec Tryz.prog 60 #[.int .i64 m, .func (.func 61) #[] #[]] [] (fun v l => ∃ b a, v = .pointer (some ⟨b, 0, none⟩) ∧ l = [MB b a, ArP a ⟨m, [], []⟩]) := by
  refine Spec.enter Tryz.func60 rfl rfl rfl ?_
  refine SW.seq ?_
  refine SW.reg (l := [.op 0 .e]) rfl ?_
  refine rx_s rfl rfl rfl rfl rfl ?_
  refine rx_end0 ?_
  refine SW.seq ?_
  refine SW.reg (l := [.op 0 .e, .op 1 .e, .op 2 .e]) rfl ?_
  refine rx_s rfl rfl rfl rfl rfl ?_
  refine rx_callH (F := ?FT434) rfl rfl rfl rfl rfl rfl rfl rfl Fa.ca_89 rfl (ArK.new m h0 h1) ?T434 ?_
  case T434 => (repeat (first|exact Take.nil|refine Take.cons (by (repeat first|exact .here|apply Take1.there)) ?_))
  rintro _ _ ⟨a, rfl, rfl⟩
  try simp only [List.cons_append, List.nil_append]
  refine rx_s rfl rfl rfl rfl rfl ?_
  refine rx_end0 ?_
  refine SW.seq ?_
  refine SW.seq ?_
  refine SW.reg (l := [.op 0 .e, .op 1 .e, .op 2 .e, .op 3 .e, .op 4 .e, .op 5 .e]) rfl ?_
  refine rx_s rfl rfl rfl rfl rfl ?_
  refine rx_eqnil rfl rfl rfl rfl rfl Fa.pt_162 rfl ?_
  iterate 2 refine rx_s rfl rfl rfl rfl rfl ?_
  refine rx_eqnilF rfl rfl rfl rfl rfl Fa.ft_130 rfl ?_
  refine rx_s rfl rfl rfl rfl rfl ?_
  refine rx_end0 ?_
  refine SW.cond (b := false) rfl (fun h => nomatch h) (fun _ => ?_)
  refine SW.skip ?_
  try simp only [thenK, blockK, cond_true, cond_false, beq_self_eq_true, Nat.reduceBEq]
  refine SW.seq ?_
  refine SW.reg (l := [.op 0 .e, .op 1 .e, .op 2 .e, .op 3 .e, .op 4 .e]) rfl ?_
  iterate 2 refine rx_s rfl rfl rfl rfl rfl ?_
  refine rx_build rfl rfl rfl rfl rfl Fa.st_164 rfl (cs := [_, _]) rfl ?_
  refine rx_box (.inr rfl) rfl rfl rfl rfl rfl rfl (cl := [_, _]) rfl ?_
  intro b17
  refine rx_s rfl rfl rfl rfl rfl ?_
  refine rx_end0 ?_
  refine SW.ret ?_
  exact retK1 (l := [_, _]) (.tmp rfl .nil) ⟨b17, a, rfl, rfl⟩ (.one (by (repeat first|exact .here|apply Take1.there)) (.one (by (repeat first|exact .here|apply Take1.there)) .nil))
/-- What a change of a map answers. -/
abbrev EdV (h : Handle) (mv gv : Value) : Value := .tuple #[.agg #[.int .i64 h.slot, .int .i64 h.gen, mv, gv], .bool true]
/-- 'finish' -/
theorem finish (e m a : Nat) (gv : Value) (g : List Handle) (A : Ar KNode) (n : Nat) (t : TR) (p : Option Addr) (hA : A.good n) (hs : t.size ≤ 100000) (hn : n + t.fresh ≤ 1000000000) (hr : (t.fresh : Int) ≤ A.room) :
    Sl.Spec Tryz.prog 138 #[.pointer (some ⟨m, 0, none⟩), .pointer (some ⟨e, 0, none⟩), .pointer p] [EB e m gv, MB m a, ArP a A, GL gv g, IP A p t]
      (fun v l' => ∃ p1 m1 c1 p2 m2 c2, v = EdV (t.store KNode.zero A).2.2 (.slice p1 m1 c1) (.slice p2 m2 c2) ∧
        l' = [MB m a, ArP a (t.store KNode.zero A).1, GL (.slice p1 m1 c1) (t.store KNode.zero A).2.1, GL (.slice p2 m2 c2) g]) := by
  have hf := T.fresh_size t
  refine Spec.enter Tryz.func138 rfl rfl rfl ?_
  refine Holt.SW.slsh (v := gv) (by (repeat first|exact .here|apply Take1.there)) ?_
  rintro p0 m0 c0 rfl hm0
  refine SW.seq ?_
  refine SW.reg (l := [.op 0 .e, .op 1 .e]) rfl ?_
  refine rx_alloc (.inr rfl) rfl rfl rfl rfl rfl Fa.z_200 ?_
  intro b6
  refine rx_s rfl rfl rfl rfl rfl ?_
  refine rx_end0 ?_
  refine SW.seq ?_
  refine SW.seq ?_
  refine SW.reg (l := [.op 0 .e, .op 1 .e, .op 2 .e, .op 3 .e, .op 4 .e, .op 5 .e]) rfl ?_
  iterate 2 refine rx_s rfl rfl rfl rfl rfl ?_
  refine rx_callH (F := ?FT435) rfl rfl rfl rfl rfl rfl rfl rfl Fa.ca_160 rfl (fresh _ A t p hs) ?T435 ?_
  case T435 => (repeat (first|exact Take.nil|refine Take.cons (by (repeat first|exact .here|apply Take1.there)) ?_))
  rintro _ _ ⟨rfl, rfl⟩
  try simp only [List.cons_append, List.nil_append]
  refine rx_s rfl rfl rfl rfl rfl ?_
  refine rx_callH (F := ?FT436) rfl rfl rfl rfl rfl rfl rfl rfl Fa.ca_161 rfl (room m a A hA.ok) ?T436 ?_
  case T436 => (repeat (first|exact Take.nil|refine Take.cons (by (repeat first|exact .here|apply Take1.there)) ?_))
  rintro _ _ ⟨rfl, rfl⟩
  try simp only [List.cons_append, List.nil_append]
  refine rx_s rfl rfl rfl rfl rfl ?_
  refine rx_end0 ?_
  refine SW.cond rfl (fun h14 => ?_) (fun h14 => ?_)
  · (have := of_decide_eq_true h14; omega)
  · skip
    refine SW.skip ?_
    try simp only [thenK, blockK, cond_true, cond_false, beq_self_eq_true, Nat.reduceBEq]
    refine SW.seq ?_
    refine SW.reg (l := [.op 0 .e, .op 1 .e, .op 2 .e, .op 3 .e, .op 4 .e, .op 5 .e, .op 6 .e]) rfl ?_
    iterate 2 refine rx_s rfl rfl rfl rfl rfl ?_
    refine rx_fa rfl rfl rfl rfl rfl rfl Fa.fo_234_1 ?_
    refine rx_ldH1 rfl rfl rfl rfl rfl rfl (by (repeat first|exact .here|apply Take1.there)) Fa.ag_92 (by rfl) ?_
    refine rx_build rfl rfl rfl rfl rfl Fa.st_200 rfl (cs := [_, _, _, _]) rfl ?_
    refine rx_alloc (.inr rfl) rfl rfl rfl rfl rfl Fa.z_200 ?_
    intro b8
    refine rx_stp rfl rfl rfl rfl rfl rfl (by (repeat first|exact .here|apply Take1.there)) Fa.sz_200 (vs := [_, _, _, _]) rfl rfl rfl (by rfl) (cl' := [_, _, _, _]) (by rfl) ?_
    refine rx_end0 ?_
    refine SW.seq ?_
    refine SW.fold (Hl' := [GL (.slice none 0 0) [], OB b8 ⟨0, 0⟩ (.slice none 0 0) (.slice p0 m0 c0), EB e m (.slice p0 m0 c0), MB m a, ArP a A, GL (.slice p0 m0 c0) g, IP A p t, blk b6 [.int .i64 0, .int .i64 0, .slice none 0 0, .slice none 0 0] 200 (0, 0)]) (slown_nil _ _ (.one (by (repeat first|exact .here|apply Take1.there)) (.one (by (repeat first|exact .here|apply Take1.there)) (.one (by (repeat first|exact .here|apply Take1.there)) (.one (by (repeat first|exact .here|apply Take1.there)) (.one (by (repeat first|exact .here|apply Take1.there)) (.one (by (repeat first|exact .here|apply Take1.there)) (.one (by (repeat first|exact .here|apply Take1.there)) .nil)))))))) ?_
    refine SW.reg (l := [.op 0 .e, .op 1 .e, .op 2 .e, .op 3 .e, .op 4 .e]) rfl ?_
    iterate 2 refine rx_s rfl rfl rfl rfl rfl ?_
    refine rx_callH (F := ?FT437) rfl rfl rfl rfl rfl rfl rfl rfl Fa.ca_162 rfl (store e m a b8 (.slice p0 m0 c0) (.slice p0 m0 c0) ⟨0, 0⟩ t p A n (.slice none 0 0) [] hA hn hr (by simp; omega)) ?T437 ?_
    case T437 => (repeat (first|exact Take.nil|refine Take.cons (by (repeat first|exact .here|apply Take1.there)) ?_))
    rintro _ _ ⟨mv, rfl, rfl⟩
    try simp only [List.cons_append, List.nil_append]
    refine rx_fa rfl rfl rfl rfl rfl rfl Fa.fo_200_0 ?_
    refine rx_stp rfl rfl rfl rfl rfl rfl (by (repeat first|exact .here|apply Take1.there)) Fa.sz_56 (vs := [_, _]) rfl rfl rfl (by rfl) (cl' := [_, _, _, _]) (by rfl) ?_
    refine rx_end0 ?_
    refine SW.seq ?_
    refine Holt.SW.slsh (v := mv) (by (repeat first|exact .here|apply Take1.there)) ?_
    rintro p1 m1 c1 rfl hm1
    refine SW.reg (l := [.op 0 .e, .op 1 .e, .op 2 .e]) rfl ?_
    refine rx_ldHA rfl rfl rfl rfl rfl rfl (by (repeat first|exact .here|apply Take1.there)) Fa.ag_200 Fa.sz_200 (vs := [_, _, _, _]) (by rfl) rfl ?_
    refine rx_stp rfl rfl rfl rfl rfl rfl (by (repeat first|exact .here|apply Take1.there)) Fa.sz_200 (vs := [_, _, _, _]) rfl rfl rfl (by rfl) (cl' := [_, _, _, _]) (by rfl) ?_
    refine rx_s rfl rfl rfl rfl rfl ?_
    refine rx_end0 ?_
    refine SW.ret ?_
    exact retK2 (l := [_, _, _, _]) (.cell rfl (by (repeat first|exact .here|apply Take1.there)) (.inr ⟨4, _, Fa.ag_200, Fa.sz_200, rfl, rfl, rfl⟩) (.tmp rfl .nil)) ⟨_, _, _, _, _, _, rfl, rfl⟩ (.one (by (repeat first|exact .here|apply Take1.there)) (.one (by (repeat first|exact .here|apply Take1.there)) (.one (by (repeat first|exact .here|apply Take1.there)) (.one (by (repeat first|exact .here|apply Take1.there)) .nil))))
/-- 'Put' -/
theorem mput (m a : Nat) (A : Ar KNode) (n : Nat) (t : TR) (k : Kid) (x : Bool) (hA : A.good n) (ht : t.holds A) (w : t.wf) (hs : t.size ≤ 90000) (hn : n + (T.put cmpK k x t).1.fresh ≤ 1000000000) (hr : ((T.put cmpK k x t).1.fresh : Int) ≤ A.room) (s g : Int) (e1 : s = t.hd.slot) (e2 : g = t.hd.gen) :
    Sl.Spec Tryz.prog 117 #[.pointer (some ⟨m, 0, none⟩), .agg #[.int .i64 s, .int .i64 g], .agg #[.int .i64 k.to, .string k.name, .int .i64 k.node], .bool x] [MB m a, ArP a A]
      (fun v l' => ∃ p1 m1 c1 p2 m2 c2, v = EdV ((T.put cmpK k x t).1.store KNode.zero A).2.2 (.slice p1 m1 c1) (.slice p2 m2 c2) ∧
        l' = [MB m a, ArP a ((T.put cmpK k x t).1.store KNode.zero A).1, GL (.slice p1 m1 c1) ((T.put cmpK k x t).1.store KNode.zero A).2.1, GL (.slice p2 m2 c2) (T.put cmpK k x t).2]) := by
  have hw := T.put_wf cmpK k x w
  refine Spec.enter Tryz.func117 rfl rfl rfl ?_
  refine SW.seq ?_
  refine SW.reg (l := [.op 0 .e, .op 1 .e, .op 2 .e, .op 3 .e]) rfl ?_
  refine rx_box (.inr rfl) rfl rfl rfl rfl rfl rfl (cl := [_, _]) rfl ?_
  intro b5
  refine rx_box (.inr rfl) rfl rfl rfl rfl rfl rfl (cl := [_, _, _]) rfl ?_
  intro b6
  refine rx_alloc (.inr rfl) rfl rfl rfl rfl rfl Fa.z_200 ?_
  intro b8
  refine rx_s rfl rfl rfl rfl rfl ?_
  refine rx_end0 ?_
  refine SW.seq ?_
  refine SW.reg (l := [.op 0 .e, .op 1 .e, .op 2 .e, .op 3 .e]) rfl ?_
  refine rx_s rfl rfl rfl rfl rfl ?_
  refine rx_build rfl rfl rfl rfl rfl Fa.st_234 rfl (cs := [_, _]) rfl ?_
  refine rx_box (.inr rfl) rfl rfl rfl rfl rfl rfl (cl := [_, _]) rfl ?_
  intro b13
  refine rx_s rfl rfl rfl rfl rfl ?_
  refine rx_end0 ?_
  refine SW.seq ?_
  refine SW.slnil 56 2 ?_
  refine SW.drawT (Hs := [EB b13 m (.slice none 0 0), MB m a, ArP a A, GL (.slice none 0 0) []]) (D0l := []) (Dl := ?DT438) (F := ?FT438) Fa.mix (tp := [0, 0, 0, 0, 0, 24, 0, 0, 252, 511, 1023, 1023, 4095, 8191]) (l := [.op 0 .s, .op 1 .s, .op 2 .s, .op 3 .s, .op 4 .d, .op 5 .e, .op 6 .d, .op 7 .s, .op 8 .e, .op 9 .e, .op 10 .s, .op 11 .s, .bar, .op 12 .e, .op 13 .s]) (by kernel_rfl) ?T438a ?T438b ?_
  case T438a => (repeat (first|exact Take.nil|refine Take.cons (by (repeat first|exact .here|apply Take1.there)) ?_))
  case T438b => (repeat (first|exact Take.nil|refine Take.cons (by (repeat first|exact .here|apply Take1.there)) ?_))
  iterate 4 refine rx_s rfl rfl rfl rfl rfl ?_
  refine rx_ldDA rfl rfl rfl rfl rfl rfl rfl (by (repeat first|exact .here|apply Take1.there)) Fa.ag_56 Fa.sz_56 (vs := [_, _]) (by rfl) rfl ?_
  refine rx_callH (F := ?FT439) rfl rfl rfl rfl rfl rfl rfl rfl Fa.ca_140 rfl (item _ A t ht s g e1 e2) ?T439 ?_
  case T439 => (repeat (first|exact Take.nil|refine Take.cons (by (repeat first|exact .here|apply Take1.there)) ?_))
  rintro _ _ ⟨p, rfl, rfl⟩
  try simp only [List.cons_append, List.nil_append]
  refine rx_ldDA rfl rfl rfl rfl rfl rfl rfl (by (repeat first|exact .here|apply Take1.there)) Fa.ag_73 Fa.sz_73 (vs := [_, _, _]) (by rfl) rfl ?_
  refine rx_s rfl rfl rfl rfl rfl ?_
  refine rx_callH (F := ?FT440) rfl rfl rfl rfl rfl rfl rfl rfl Fa.ca_144 rfl (put b13 m a A hA.ok k x t p (.slice none 0 0) [] w (by omega) (by simp; omega)) ?T440 ?_
  case T440 => (repeat (first|exact Take.nil|refine Take.cons (by (repeat first|exact .here|apply Take1.there)) ?_))
  rintro _ _ ⟨gv1, p1, rfl, rfl⟩
  try simp only [List.cons_append, List.nil_append]
  refine rx_callH (F := ?FT441) rfl rfl rfl rfl rfl rfl rfl rfl Fa.ca_138 rfl (finish b13 m a gv1 (T.put cmpK k x t).2 A n (T.put cmpK k x t).1 p1 hA (by omega) hn hr) ?T441 ?_
  case T441 => (repeat (first|exact Take.nil|refine Take.cons (by (repeat first|exact .here|apply Take1.there)) ?_))
  rintro _ _ ⟨p1, m1, c1, p2, m2, c2, rfl, rfl⟩
  try simp only [List.cons_append, List.nil_append]
  iterate 2 refine rx_s rfl rfl rfl rfl rfl ?_
  refine rx_barAll ?_
  try simp only [List.cons_append, List.nil_append]
  refine rx_stp rfl rfl rfl rfl rfl rfl (by (repeat first|exact .here|apply Take1.there)) Fa.sz_200 (vs := [_, _, _, _]) rfl rfl rfl (by rfl) (cl' := [_, _, _, _]) (by rfl) ?_
  refine rx_s rfl rfl rfl rfl rfl ?_
  refine rx_endD ?_
  try simp only [List.cons_append, List.nil_append]
  refine SW.ret ?_
  exact retK2 (l := [_, _, _, _]) (.cell rfl (by (repeat first|exact .here|apply Take1.there)) (.inr ⟨4, _, Fa.ag_200, Fa.sz_200, rfl, rfl, rfl⟩) (.tmp rfl .nil)) ⟨p1, m1, c1, p2, m2, c2, rfl, rfl⟩ (.one (by (repeat first|exact .here|apply Take1.there)) (.one (by (repeat first|exact .here|apply Take1.there)) (.one (by (repeat first|exact .here|apply Take1.there)) (.one (by (repeat first|exact .here|apply Take1.there)) .nil))))

theorem getV_cases (o : Option KNode) : ∃ (k : Kid) (x : Bool) (l r : Handle) (hi : Int) (q : Bool), getV o = .tuple #[.agg (enc (⟨k, x, l, r, hi⟩ : KNode)).toArray, .bool q] ∧ (q = true → o = some ⟨k, x, l, r, hi⟩) ∧ (q = false → o = none) := by
  rcases o with _ | ⟨k, x, l, r, hi⟩
  · exact ⟨KNode.zero.key, KNode.zero.val, KNode.zero.left, KNode.zero.right, KNode.zero.high, false, rfl, by simp, fun _ => rfl⟩
  · exact ⟨k, x, l, r, hi, true, rfl, fun _ => rfl, by simp⟩
/-- 'Get' -/
theorem mget (m a : Nat) (A : Ar KNode) (hA : A.ok) (t : TR) (ht : t.holds A) (k : Kid) (s g : Int) (e1 : s = t.hd.slot) (e2 : g = t.hd.gen) :
    Sl.Spec Tryz.prog 137 #[.pointer (some ⟨m, 0, none⟩), .agg #[.int .i64 s, .int .i64 g], .agg #[.int .i64 k.to, .string k.name, .int .i64 k.node]] [MB m a, ArP a A]
      (fun v l' => ((∀ x, T.nth cmpK k t = some x → v = .tuple #[.bool x, .bool true]) ∧ (T.nth cmpK k t = none → v = .tuple #[.bool false, .bool false])) ∧ l' = [MB m a, ArP a A]) := by
  subst e1 e2
  refine Spec.enter Tryz.func137 rfl rfl rfl ?_
  refine SW.seq ?_
  refine SW.reg (l := [.op 0 .e, .op 1 .e, .op 2 .e, .op 3 .e]) rfl ?_
  refine rx_box (.inr rfl) rfl rfl rfl rfl rfl rfl (cl := [_, _]) rfl ?_
  intro b4
  refine rx_box (.inr rfl) rfl rfl rfl rfl rfl rfl (cl := [_, _, _]) rfl ?_
  intro b5
  iterate 2 refine rx_s rfl rfl rfl rfl rfl ?_
  refine rx_end0 ?_
  refine SW.block ?_
  refine SW.fold (Hl' := [MB m a, ArP a A, blk b4 [.int .i64 t.hd.slot, .int .i64 t.hd.gen] 56 (0, 0), blk b5 [.int .i64 k.to, .string k.name, .int .i64 k.node] 73 (0, 0)]) (.one (by (repeat first|exact .here|apply Take1.there)) (.one (by (repeat first|exact .here|apply Take1.there)) (.one (by (repeat first|exact .here|apply Take1.there)) (.one (by (repeat first|exact .here|apply Take1.there)) .nil)))) ?_
  refine SW.loop (fun q e' H' => ∃ (t' : TR) (Hl : List HProp), q = t'.size ∧ T.holds A t' ∧ T.nth cmpK k t' = T.nth cmpK k t ∧ H' = star Hl ∧ EntL Hl [MB m a, ArP a A, blk b4 [.int .i64 t'.hd.slot, .int .i64 t'.hd.gen] 56 (0, 0), blk b5 [.int .i64 k.to, .string k.name, .int .i64 k.node] 73 (0, 0)] ∧ EnvLe (upd (upd (upd noEnv 0 (.pointer (some ⟨m, 0, none⟩))) 4 (.pointer (some ⟨b4, 0, none⟩))) 5 (.pointer (some ⟨b5, 0, none⟩))) e') t.size ⟨t, _, rfl, ht, rfl, rfl, (.one (by (repeat first|exact .here|apply Take1.there)) (.one (by (repeat first|exact .here|apply Take1.there)) (.one (by (repeat first|exact .here|apply Take1.there)) (.one (by (repeat first|exact .here|apply Take1.there)) .nil)))), .cons (.cons (.cons .nil rfl) rfl) rfl⟩ ?_
  rintro q e' _ ⟨t', Hl, rfl, ht', hn, rfl, hl, hle⟩
  refine SW.fold hl ?_
  refine SW.forget hle ?_
  obtain ⟨k', x', lh, rh, hi', q, hq, hq1, hq2⟩ := getV_cases (A.get t'.hd)
  refine SW.block ?_
  refine SW.seq ?_
  refine SW.reg (l := [.op 0 .e, .op 1 .e, .op 2 .e, .op 3 .e, .op 4 .e, .op 5 .e, .op 6 .e, .op 7 .e, .op 8 .e]) rfl ?_
  refine rx_s rfl rfl rfl rfl rfl ?_
  refine rx_ldHA rfl rfl rfl rfl rfl rfl (by (repeat first|exact .here|apply Take1.there)) Fa.ag_56 Fa.sz_56 (vs := [_, _]) (by rfl) rfl ?_
  refine rx_callH (F := ?FT442) rfl rfl rfl rfl rfl rfl rfl rfl Fa.ca_40 rfl (load m a A t'.hd hA) ?T442 ?_
  case T442 => (repeat (first|exact Take.nil|refine Take.cons (by (repeat first|exact .here|apply Take1.there)) ?_))
  rintro _ _ ⟨rfl, rfl⟩
  rw [hq]
  try simp only [List.cons_append, List.nil_append]
  iterate 3 refine rx_s rfl rfl rfl rfl rfl ?_
  refine rx_alloc (.inr rfl) rfl rfl rfl rfl rfl Fa.z_75 ?_
  intro b8
  refine rx_stp rfl rfl rfl rfl rfl rfl (by (repeat first|exact .here|apply Take1.there)) Fa.sz_75 (vs := [_, _, _, _, _, _, _, _, _]) rfl rfl rfl (by rfl) (cl' := [_, _, _, _, _, _, _, _, _]) (by rfl) ?_
  refine rx_s rfl rfl rfl rfl rfl ?_
  refine rx_end0 ?_
  refine SW.seq ?_
  refine SW.seq ?_
  refine SW.reg (l := [.op 0 .e, .op 1 .e]) rfl ?_
  iterate 2 refine rx_s rfl rfl rfl rfl rfl ?_
  refine rx_end0 ?_
  refine SW.cond rfl (fun h19 => ?_) (fun h19 => ?_)
  · skip
    obtain rfl : q = false := by simpa using h19
    have hno := hq2 rfl
    have : t' = .nil := by
      cases t' with
      | nil => rfl
      | node h2 k2 x2 l2 r2 hi2 => rw [show T.hd (.node h2 k2 x2 l2 r2 hi2) = h2 from rfl, ht'.1] at hno; cases hno
    subst this
    refine SW.seq ?_
    refine SW.reg (l := [.op 0 .e]) rfl ?_
    refine rx_s rfl rfl rfl rfl rfl ?_
    refine rx_end0 ?_
    refine SW.seq ?_
    refine SW.reg (l := [.op 0 .e, .op 1 .e, .op 2 .e]) rfl ?_
    iterate 3 refine rx_s rfl rfl rfl rfl rfl ?_
    refine rx_end0 ?_
    refine SW.ret ?_
    exact retK2 (l := [_, _]) (.tmp rfl (.tmp rfl .nil)) ⟨⟨fun x hx => (by rw [← hn] at hx; cases hx), fun _ => rfl⟩, rfl⟩ (.one (by (repeat first|exact .here|apply Take1.there)) (.one (by (repeat first|exact .here|apply Take1.there)) .nil))
  · skip
    obtain rfl : q = true := by simpa using h19
    have hno := hq1 rfl
    rcases t' with _ | ⟨h2, k2, x2, l2, r2, hi2⟩
    · rw [show T.hd (.nil : TR) = ⟨0, 0⟩ from rfl, Ar.zero_none] at hno; cases hno
    rw [show T.hd (.node h2 k2 x2 l2 r2 hi2) = h2 from rfl, ht'.1] at hno
    obtain ⟨rfl, rfl, rfl, rfl, rfl⟩ : k2 = k' ∧ x2 = x' ∧ T.hd l2 = lh ∧ T.hd r2 = rh ∧ hi2 = hi' := by simpa using hno
    simp only [T.nth] at hn
    refine SW.skip ?_
    try simp only [thenK, blockK, cond_true, cond_false, beq_self_eq_true, Nat.reduceBEq]
    refine SW.seq ?_
    refine SW.drawT (Hs := []) (D0l := []) (Dl := ?DT443) (F := ?FT443) Fa.mix (tp := [0, 1, 3, 7, 0, 0, 32, 127, 255]) (l := [.op 0 .s, .op 1 .s, .op 2 .s, .op 3 .d, .op 4 .d, .op 5 .s, .op 6 .d, .op 7 .e, .op 8 .s]) (by kernel_rfl) ?T443a ?T443b ?_
    case T443a => (repeat (first|exact Take.nil|refine Take.cons (by (repeat first|exact .here|apply Take1.there)) ?_))
    case T443b => (repeat (first|exact Take.nil|refine Take.cons (by (repeat first|exact .here|apply Take1.there)) ?_))
    iterate 2 refine rx_s rfl rfl rfl rfl rfl ?_
    refine rx_fa rfl rfl rfl rfl rfl rfl Fa.fo_164_1 ?_
    refine rx_ldD1 rfl rfl rfl rfl rfl rfl rfl (by (repeat first|exact .here|apply Take1.there)) Fa.ag_130 (by rfl) ?_
    refine rx_ldDA rfl rfl rfl rfl rfl rfl rfl (by (repeat first|exact .here|apply Take1.there)) Fa.ag_73 Fa.sz_73 (vs := [_, _, _]) (by rfl) rfl ?_
    refine rx_fa rfl rfl rfl rfl rfl rfl Fa.fo_75_0 ?_
    refine rx_ldDA rfl rfl rfl rfl rfl rfl rfl (by (repeat first|exact .here|apply Take1.there)) Fa.ag_73 Fa.sz_73 (vs := [_, _, _]) (by rfl) rfl ?_
    refine rx_callH (F := ?FT444) rfl rfl rfl rfl rfl rfl rfl rfl Fa.ca_61 rfl (Cm.kid k k2) ?T444 ?_
    case T444 => (repeat (first|exact Take.nil|refine Take.cons (by (repeat first|exact .here|apply Take1.there)) ?_))
    rintro _ _ ⟨rfl, rfl⟩
    try simp only [List.cons_append, List.nil_append]
    refine rx_s rfl rfl rfl rfl rfl ?_
    refine rx_endD ?_
    try simp only [List.cons_append, List.nil_append]
    refine SW.block ?_
    refine SW.seq ?_
    refine SW.reg (l := [.op 0 .e, .op 1 .e, .op 2 .e]) rfl ?_
    iterate 3 refine rx_s rfl rfl rfl rfl rfl ?_
    refine rx_end0 ?_
    refine SW.cond rfl (fun h31 => ?_) (fun h31 => ?_)
    · skip
      have hc : cmpK k k2 < 0 := of_decide_eq_true h31
      rw [if_pos hc] at hn
      refine SW.reg (l := [.op 0 .e, .op 1 .e, .op 2 .e]) rfl ?_
      refine rx_fa rfl rfl rfl rfl rfl rfl Fa.fo_75_2 ?_
      refine rx_ldHA rfl rfl rfl rfl rfl rfl (by (repeat first|exact .here|apply Take1.there)) Fa.ag_56 Fa.sz_56 (vs := [_, _]) (by rfl) rfl ?_
      refine rx_stp rfl rfl rfl rfl rfl rfl (by (repeat first|exact .here|apply Take1.there)) Fa.sz_56 (vs := [_, _]) rfl rfl rfl (by rfl) (cl' := [_, _]) (by rfl) ?_
      refine rx_endL ?_
      exact ⟨l2.size, by simp only [T.size]; omega, l2, _, rfl, ht'.2.1, hn, rfl, (.one (by (repeat first|exact .here|apply Take1.there)) (.one (by (repeat first|exact .here|apply Take1.there)) (.one (by (repeat first|exact .here|apply Take1.there)) (.one (by (repeat first|exact .here|apply Take1.there)) .nil)))), .cons (.cons (.cons .nil rfl) rfl) rfl⟩
    · skip
      have hc : ¬ (cmpK k k2 < 0) := by simpa using h31
      rw [if_neg hc] at hn
      refine SW.seq ?_
      refine SW.reg (l := [.op 0 .e, .op 1 .e, .op 2 .e]) rfl ?_
      iterate 3 refine rx_s rfl rfl rfl rfl rfl ?_
      refine rx_end0 ?_
      refine SW.cond rfl (fun h36 => ?_) (fun h36 => ?_)
      · skip
        have hc' : cmpK k k2 > 0 := of_decide_eq_true h36
        rw [if_pos hc'] at hn
        refine SW.reg (l := [.op 0 .e, .op 1 .e, .op 2 .e]) rfl ?_
        refine rx_fa rfl rfl rfl rfl rfl rfl Fa.fo_75_3 ?_
        refine rx_ldHA rfl rfl rfl rfl rfl rfl (by (repeat first|exact .here|apply Take1.there)) Fa.ag_56 Fa.sz_56 (vs := [_, _]) (by rfl) rfl ?_
        refine rx_stp rfl rfl rfl rfl rfl rfl (by (repeat first|exact .here|apply Take1.there)) Fa.sz_56 (vs := [_, _]) rfl rfl rfl (by rfl) (cl' := [_, _]) (by rfl) ?_
        refine rx_endL ?_
        exact ⟨r2.size, by simp only [T.size]; omega, r2, _, rfl, ht'.2.2, hn, rfl, (.one (by (repeat first|exact .here|apply Take1.there)) (.one (by (repeat first|exact .here|apply Take1.there)) (.one (by (repeat first|exact .here|apply Take1.there)) (.one (by (repeat first|exact .here|apply Take1.there)) .nil)))), .cons (.cons (.cons .nil rfl) rfl) rfl⟩
      · skip
        have hc' : ¬ (cmpK k k2 > 0) := by simpa using h36
        rw [if_neg hc'] at hn
        refine SW.seq ?_
        refine SW.reg (l := [.op 0 .e, .op 1 .e, .op 2 .e, .op 3 .e]) rfl ?_
        refine rx_fa rfl rfl rfl rfl rfl rfl Fa.fo_75_1 ?_
        refine rx_ldH1 rfl rfl rfl rfl rfl rfl (by (repeat first|exact .here|apply Take1.there)) Fa.ag_4 (by rfl) ?_
        iterate 2 refine rx_s rfl rfl rfl rfl rfl ?_
        refine rx_end0 ?_
        refine SW.ret ?_
        exact retK2 (l := [_, _]) (.tmp rfl (.tmp rfl .nil)) ⟨⟨fun x hx => (by rw [← hn] at hx; cases hx; rfl), fun q => (by rw [← hn] at q; cases q)⟩, rfl⟩ (.one (by (repeat first|exact .here|apply Take1.there)) (.one (by (repeat first|exact .here|apply Take1.there)) .nil))
/-- 'Del' -/
theorem mdel (m a : Nat) (A : Ar KNode) (n : Nat) (t : TR) (k : Kid) (x : Bool) (hk : T.nth cmpK k t = some x) (hA : A.good n) (ht : t.holds A) (w : t.wf) (hs : t.size ≤ 90000) (hn : n + (T.del cmpK k t).1.fresh ≤ 1000000000) (hr : ((T.del cmpK k t).1.fresh : Int) ≤ A.room) (s g : Int) (e1 : s = t.hd.slot) (e2 : g = t.hd.gen) :
    Sl.Spec Tryz.prog 113 #[.pointer (some ⟨m, 0, none⟩), .agg #[.int .i64 s, .int .i64 g], .agg #[.int .i64 k.to, .string k.name, .int .i64 k.node]] [MB m a, ArP a A]
      (fun v l' => ∃ p1 m1 c1 p2 m2 c2, v = EdV ((T.del cmpK k t).1.store KNode.zero A).2.2 (.slice p1 m1 c1) (.slice p2 m2 c2) ∧
        l' = [MB m a, ArP a ((T.del cmpK k t).1.store KNode.zero A).1, GL (.slice p1 m1 c1) ((T.del cmpK k t).1.store KNode.zero A).2.1, GL (.slice p2 m2 c2) (T.del cmpK k t).2]) := by
  have hw := T.del_wf cmpK k w
  have hg := mget m a A hA.ok t ht k s g e1 e2
  refine Spec.enter Tryz.func113 rfl rfl rfl ?_
  refine SW.seq ?_
  refine SW.reg (l := [.op 0 .e, .op 1 .e, .op 2 .e, .op 3 .e]) rfl ?_
  refine rx_box (.inr rfl) rfl rfl rfl rfl rfl rfl (cl := [_, _]) rfl ?_
  intro b4
  refine rx_box (.inr rfl) rfl rfl rfl rfl rfl rfl (cl := [_, _, _]) rfl ?_
  intro b5
  refine rx_alloc (.inr rfl) rfl rfl rfl rfl rfl Fa.z_200 ?_
  intro b6
  refine rx_s rfl rfl rfl rfl rfl ?_
  refine rx_end0 ?_
  refine SW.seq ?_
  refine SW.seq ?_
  refine SW.reg (l := [.op 0 .e, .op 1 .e, .op 2 .e, .op 3 .e, .op 4 .e, .op 5 .e, .op 6 .e, .op 7 .e, .op 8 .e]) rfl ?_
  refine rx_s rfl rfl rfl rfl rfl ?_
  refine rx_ldHA rfl rfl rfl rfl rfl rfl (by (repeat first|exact .here|apply Take1.there)) Fa.ag_56 Fa.sz_56 (vs := [_, _]) (by rfl) rfl ?_
  refine rx_ldHA rfl rfl rfl rfl rfl rfl (by (repeat first|exact .here|apply Take1.there)) Fa.ag_73 Fa.sz_73 (vs := [_, _, _]) (by rfl) rfl ?_
  refine rx_callH (F := ?FT445) rfl rfl rfl rfl rfl rfl rfl rfl Fa.ca_137 rfl (hg) ?T445 ?_
  case T445 => (repeat (first|exact Take.nil|refine Take.cons (by (repeat first|exact .here|apply Take1.there)) ?_))
  rintro v _ ⟨⟨hv, _⟩, rfl⟩
  obtain rfl := hv x hk
  try simp only [List.cons_append, List.nil_append]
  iterate 5 refine rx_s rfl rfl rfl rfl rfl ?_
  refine rx_end0 ?_
  refine SW.seq ?_
  refine SW.reg (l := [.op 0 .e, .op 1 .e]) rfl ?_
  iterate 2 refine rx_s rfl rfl rfl rfl rfl ?_
  refine rx_end0 ?_
  refine SW.cond (b := false) rfl (fun h => nomatch h) (fun _ => ?_)
  refine SW.skip ?_
  try simp only [thenK, blockK, cond_true, cond_false, beq_self_eq_true, Nat.reduceBEq]
  refine SW.seq ?_
  refine SW.reg (l := [.op 0 .e, .op 1 .e, .op 2 .e, .op 3 .e]) rfl ?_
  refine rx_s rfl rfl rfl rfl rfl ?_
  refine rx_build rfl rfl rfl rfl rfl Fa.st_234 rfl (cs := [_, _]) rfl ?_
  refine rx_box (.inr rfl) rfl rfl rfl rfl rfl rfl (cl := [_, _]) rfl ?_
  intro b23
  refine rx_s rfl rfl rfl rfl rfl ?_
  refine rx_end0 ?_
  refine SW.seq ?_
  refine SW.slnil 56 2 ?_
  refine SW.drawT (Hs := [EB b23 m (.slice none 0 0), MB m a, ArP a A, GL (.slice none 0 0) []]) (D0l := []) (Dl := ?DT446) (F := ?FT446) Fa.mix (tp := [0, 0, 0, 0, 0, 24, 0, 124, 255, 511, 511, 2047, 4095]) (l := [.op 0 .s, .op 1 .s, .op 2 .s, .op 3 .s, .op 4 .d, .op 5 .e, .op 6 .d, .op 7 .e, .op 8 .e, .op 9 .s, .op 10 .s, .bar, .op 11 .e, .op 12 .s]) (by kernel_rfl) ?T446a ?T446b ?_
  case T446a => (repeat (first|exact Take.nil|refine Take.cons (by (repeat first|exact .here|apply Take1.there)) ?_))
  case T446b => (repeat (first|exact Take.nil|refine Take.cons (by (repeat first|exact .here|apply Take1.there)) ?_))
  iterate 4 refine rx_s rfl rfl rfl rfl rfl ?_
  refine rx_ldDA rfl rfl rfl rfl rfl rfl rfl (by (repeat first|exact .here|apply Take1.there)) Fa.ag_56 Fa.sz_56 (vs := [_, _]) (by rfl) rfl ?_
  refine rx_callH (F := ?FT447) rfl rfl rfl rfl rfl rfl rfl rfl Fa.ca_140 rfl (item _ A t ht s g e1 e2) ?T447 ?_
  case T447 => (repeat (first|exact Take.nil|refine Take.cons (by (repeat first|exact .here|apply Take1.there)) ?_))
  rintro _ _ ⟨p, rfl, rfl⟩
  try simp only [List.cons_append, List.nil_append]
  refine rx_ldDA rfl rfl rfl rfl rfl rfl rfl (by (repeat first|exact .here|apply Take1.there)) Fa.ag_73 Fa.sz_73 (vs := [_, _, _]) (by rfl) rfl ?_
  refine rx_callH (F := ?FT448) rfl rfl rfl rfl rfl rfl rfl rfl Fa.ca_139 rfl (del b23 m a A hA.ok k t p (.slice none 0 0) [] (by rw [hk]; rfl) w (by omega) (by simp; omega)) ?T448 ?_
  case T448 => (repeat (first|exact Take.nil|refine Take.cons (by (repeat first|exact .here|apply Take1.there)) ?_))
  rintro _ _ ⟨gv1, p1, rfl, rfl⟩
  try simp only [List.cons_append, List.nil_append]
  refine rx_callH (F := ?FT449) rfl rfl rfl rfl rfl rfl rfl rfl Fa.ca_138 rfl (finish b23 m a gv1 (T.del cmpK k t).2 A n (T.del cmpK k t).1 p1 hA (by omega) hn hr) ?T449 ?_
  case T449 => (repeat (first|exact Take.nil|refine Take.cons (by (repeat first|exact .here|apply Take1.there)) ?_))
  rintro _ _ ⟨p1, m1, c1, p2, m2, c2, rfl, rfl⟩
  try simp only [List.cons_append, List.nil_append]
  iterate 2 refine rx_s rfl rfl rfl rfl rfl ?_
  refine rx_barAll ?_
  try simp only [List.cons_append, List.nil_append]
  refine rx_stp rfl rfl rfl rfl rfl rfl (by (repeat first|exact .here|apply Take1.there)) Fa.sz_200 (vs := [_, _, _, _]) rfl rfl rfl (by rfl) (cl' := [_, _, _, _]) (by rfl) ?_
  refine rx_s rfl rfl rfl rfl rfl ?_
  refine rx_endD ?_
  try simp only [List.cons_append, List.nil_append]
  refine SW.ret ?_
  exact retK2 (l := [_, _, _, _]) (.cell rfl (by (repeat first|exact .here|apply Take1.there)) (.inr ⟨4, _, Fa.ag_200, Fa.sz_200, rfl, rfl, rfl⟩) (.tmp rfl .nil)) ⟨p1, m1, c1, p2, m2, c2, rfl, rfl⟩ (.one (by (repeat first|exact .here|apply Take1.there)) (.one (by (repeat first|exact .here|apply Take1.there)) (.one (by (repeat first|exact .here|apply Take1.there)) (.one (by (repeat first|exact .here|apply Take1.there)) .nil))))
end ItK
end Go.Proofs.YtikkegelplllmaaGreatDoor
/- The arena of SNode: what its functions do. -/
namespace Go.Proofs.YtikkegelplllmaaGreatDoor
open Go Go.Sl Go.Holt Go.Proofs
open Go.Holt.Enc (enc)
namespace ArS

/-- An arena at a block. -/
def ArP (a : Nat) (A : Ar SNode) : HProp := exH fun x : Value × Value =>
  [blk a [.int .i64 A.most, x.1, x.2] 215 (0, 0), SlOwn 281 11 x.1 (flat A.sl), SlOwn 3 1 x.2 (flat A.fr)]

theorem ArP.mk {a : Nat} {A : Ar SNode} {sv fv : Value} {xs ys : List Value} (hx : xs = flat A.sl) (hy : ys = flat A.fr) :
    EntS (star [blk a [.int .i64 A.most, sv, fv] 215 (0, 0), SlOwn 281 11 sv xs, SlOwn 3 1 fv ys]) (ArP a A) := by
  subst hx hy
  exact exH.mk (fun x : Value × Value => [blk a [.int .i64 A.most, x.1, x.2] 215 (0, 0), SlOwn 281 11 x.1 (flat A.sl), SlOwn 3 1 x.2 (flat A.fr)]) (sv, fv)
theorem ArP.nil (a : Nat) (m : Int) : EntS (star [blk a [.int .i64 m, .slice none 0 0, .slice none 0 0] 215 (0, 0)]) (ArP a ⟨m, [], []⟩) := by
  refine EntS.trans ?_ (ArP.mk (sv := .slice none 0 0) (fv := .slice none 0 0) (xs := []) (ys := []) rfl rfl)
  show EntS (sep _ emp) (sep _ (sep _ (sep _ emp)))
  refine EntS.sep (EntS.refl _) ?_
  intro R w h
  rw [emp_sep] at h
  have h1 := SlOwn.nil 3 1 R w (by rw [emp_sep]; exact h)
  have h2 := SlOwn.nil 281 11 _ w (by rw [emp_sep]; exact h1)
  rw [sep_emp, sep_assoc]; exact h2
theorem flen (l : List (Slot SNode)) : (flat l).length = l.length * 11 := flat_len l
theorem ilen (l : List Int) : (flat l).length = l.length * 1 := flat_len l

/-- Folding an arena: of what is held 'S' and the free list come first. -/
theorem foldA {a : Nat} {A : Ar SNode} {sv fv : Value} {xs ys : List Value} {l : List HProp} (h : EntL l [SlOwn 281 11 sv xs, blk a [.int .i64 A.most, sv, fv] 215 (0, 0), SlOwn 3 1 fv ys])
    (hx : xs = flat A.sl) (hy : ys = flat A.fr) : EntL l [ArP a A] :=
  EntL.fold (ps := [blk a [.int .i64 A.most, sv, fv] 215 (0, 0), SlOwn 281 11 sv xs, SlOwn 3 1 fv ys]) (l' := []) (EntL.trans h (.one (.there .here) (.one .here (.one .here .nil)))) (ArP.mk hx hy)
theorem flat_nil {l : List (Slot SNode)} (h : flat l = []) : l = [] := by
  have := flen l
  rw [h] at this
  exact List.eq_nil_of_length_eq_zero (by simp at this; omega)
theorem room (a : Nat) (A : Ar SNode) (hA : A.ok) :
    Sl.Spec Tryz.prog 192 #[.pointer (some ⟨a, 0, none⟩)] [ArP a A] (fun v l => v = .int .i64 A.room ∧ l = [ArP a A]) := by
  have h1 := hA.len
  have h2 := hA.most
  have h3 := hA.frlen
  refine Spec.enter Tryz.func192 rfl rfl rfl ?_
  refine SW.exH 0 rfl ?_
  rintro ⟨sv, fv⟩
  simp only [List.cons_append, List.nil_append]
  refine SW.slshape 1 rfl ?_
  rintro p1 m1 c1 rfl hm1
  refine SW.slshape 2 rfl ?_
  rintro p2 m2 c2 rfl hm2
  rw [flen] at hm1
  rw [ilen] at hm2
  have e1 : m1 = A.sl.length := by omega
  have e2 : m2 = A.fr.length := by omega
  subst e1 e2
  refine SW.seq ?_
  refine SW.reg (l := [.op 0 .e]) rfl ?_
  refine rx_s rfl rfl rfl rfl rfl ?_
  refine rx_end0 ?_
  refine SW.seq ?_
  refine SW.drawAll Fa.mix (tp := [0, 1, 3, 7, 0, 16, 48, 112, 240, 511, 0, 1024, 3072, 7168, 15360, 32767, 65535]) (l := [.op 0 .s, .op 1 .s, .op 2 .s, .op 3 .d, .op 4 .s, .op 5 .s, .op 6 .s, .op 7 .d, .op 8 .s, .op 9 .s, .op 10 .s, .op 11 .s, .op 12 .s, .op 13 .d, .op 14 .s, .op 15 .s, .op 16 .s]) (by kernel_rfl) ?_
  iterate 2 refine rx_s rfl rfl rfl rfl rfl ?_
  refine rx_fa rfl rfl rfl rfl rfl rfl Fa.fo_215_0 ?_
  refine rx_ldD1 rfl rfl rfl rfl rfl rfl rfl (by (repeat first|exact .here|apply Take1.there)) Fa.ag_3 (by rfl) ?_
  iterate 2 refine rx_s rfl rfl rfl rfl rfl ?_
  refine rx_fa rfl rfl rfl rfl rfl rfl Fa.fo_215_1 ?_
  refine rx_ldD1 rfl rfl rfl rfl rfl rfl rfl (by (repeat first|exact .here|apply Take1.there)) Fa.ag_213 (by rfl) ?_
  refine rx_len rfl rfl rfl rfl rfl rfl (lenV_sl Fa.sl_213 _ _ _) ?_
  refine rx_ar rfl rfl rfl rfl rfl (by omega) ?_
  iterate 2 refine rx_s rfl rfl rfl rfl rfl ?_
  refine rx_fa rfl rfl rfl rfl rfl rfl Fa.fo_215_2 ?_
  refine rx_ldD1 rfl rfl rfl rfl rfl rfl rfl (by (repeat first|exact .here|apply Take1.there)) Fa.ag_121 (by rfl) ?_
  refine rx_len rfl rfl rfl rfl rfl rfl (lenV_sl Fa.sl_121 _ _ _) ?_
  refine rx_ar rfl rfl rfl rfl rfl (by omega) ?_
  refine rx_s rfl rfl rfl rfl rfl ?_
  refine rx_endD ?_
  try simp only [List.cons_append, List.nil_append]
  refine SW.ret ?_
  refine retK1 (l := [ArP a A]) (.tmp rfl .nil) ⟨by rfl, rfl⟩ (.cons (.cons (by (repeat first|exact .here|apply Take1.there)) (.cons (by (repeat first|exact .here|apply Take1.there)) (.cons (by (repeat first|exact .here|apply Take1.there)) .nil))) (ArP.mk rfl rfl) .nil)

theorem sget {l : List (Slot SNode)} {i : Nat} {s : Slot SNode} (h : l[i]? = some s) {j off : Nat} (hj : j < 11) (ho : off = i * 11 + j) (rest : List Value) : (flat l ++ rest)[off]? = s.cells[j]? := flat_get h hj ho rest
theorem sdrop {l : List (Slot SNode)} {i : Nat} {s : Slot SNode} (h : l[i]? = some s) {j k off : Nat} (hj : j + k ≤ 11) (ho : off = i * 11 + j) (rest : List Value) : ((flat l ++ rest).drop off).take k = (s.cells.drop j).take k := flat_drop h hj ho rest
theorem sput {l : List (Slot SNode)} {i : Nat} {s s' : Slot SNode} (h : l[i]? = some s) {j off : Nat} {vs : List Value} (hj : j + vs.length ≤ 11) (ho : off = i * 11 + j) (he : putAt s.cells j vs = s'.cells) (rest : List Value) :
    putAt (flat l ++ rest) off vs = flat (l.set i s') ++ rest := flat_put h hj ho he rest

theorem new (m : Int) (h0 : 0 ≤ m) (h1 : m ≤ 1048576) :
    Sl.Spec Tryz.prog 92 #[.int .i64 m] [] (fun v l => ∃ a, v = .pointer (some ⟨a, 0, none⟩) ∧ l = [ArP a ⟨m, [], []⟩]) := by
  refine Spec.enter Tryz.func92 rfl rfl rfl ?_
  refine SW.seq ?_
  refine SW.reg (l := [.op 0 .e]) rfl ?_
  refine rx_s rfl rfl rfl rfl rfl ?_
  refine rx_end0 ?_
  refine SW.seq ?_
  refine SW.seq ?_
  refine SW.reg (l := [.op 0 .e, .op 1 .e, .op 2 .e, .op 3 .e, .op 4 .e, .op 5 .e]) rfl ?_
  iterate 3 refine rx_s rfl rfl rfl rfl rfl ?_
  refine rx_split (t := 5) rfl (fun g5 => ?_) (fun g5 => ?_)
  · (simp at g5; omega)
  · skip
    iterate 3 refine rx_s rfl rfl rfl rfl rfl ?_
    refine rx_end0 ?_
    refine SW.cond rfl (fun h8 => ?_) (fun h8 => ?_)
    · (simp at h8; omega)
    · skip
      refine SW.skip ?_
      try simp only [thenK, blockK, cond_true, cond_false, beq_self_eq_true, Nat.reduceBEq]
      refine SW.seq ?_
      refine SW.reg (l := [.op 0 .e, .op 1 .e, .op 2 .e, .op 3 .e]) rfl ?_
      refine rx_s rfl rfl rfl rfl rfl ?_
      refine rx_build rfl rfl rfl rfl rfl Fa.st_215 rfl (cs := [_, _, _]) rfl ?_
      refine rx_box (.inr rfl) rfl rfl rfl rfl rfl rfl (cl := [_, _, _]) rfl ?_
      intro b11
      refine rx_s rfl rfl rfl rfl rfl ?_
      refine rx_end0 ?_
      refine SW.ret ?_
      exact retK1 (l := [ArP b11 _]) (.tmp rfl .nil) ⟨b11, rfl, rfl⟩ (.cons (.cons (by (repeat first|exact .here|apply Take1.there)) .nil) (ArP.nil _ _) .nil)

theorem find_nil (a : Nat) (m : Int) (fv : Value) (h : Handle) :
    Sl.Spec Tryz.prog 174 #[.pointer (some ⟨a, 0, none⟩), .agg #[.int .i64 h.slot, .int .i64 h.gen]]
      [blk a [.int .i64 m, .slice none 0 0, fv] 215 (0, 0)] (fun v l => v = .pointer none ∧ l = [blk a [.int .i64 m, .slice none 0 0, fv] 215 (0, 0)]) := by
  refine Spec.enter Tryz.func174 rfl rfl rfl ?_
  refine SW.seq ?_
  refine SW.reg (l := [.op 0 .e, .op 1 .e]) rfl ?_
  refine rx_box (.inr rfl) rfl rfl rfl rfl rfl rfl (cl := [_, _]) rfl ?_
  intro b3
  refine rx_s rfl rfl rfl rfl rfl ?_
  refine rx_end0 ?_
  refine SW.seq ?_
  refine SW.seq ?_
  refine SW.drawAll Fa.mix (tp := [0, 1, 3, 7, 15, 31, 15, 79, 207, 463, 975, 2047, 4095]) (l := [.op 0 .s, .op 1 .d, .op 2 .s, .op 3 .s, .op 4 .s, .op 5 .d, .op 6 .s, .op 7 .s, .op 8 .s, .op 9 .d, .op 10 .s, .op 11 .s, .op 12 .s]) (by kernel_rfl) ?_
  refine rx_fa rfl rfl rfl rfl rfl rfl Fa.fo_56_0 ?_
  refine rx_ldD1 rfl rfl rfl rfl rfl rfl rfl (by (repeat first|exact .here|apply Take1.there)) Fa.ag_3 (by rfl) ?_
  iterate 2 refine rx_s rfl rfl rfl rfl rfl ?_
  refine rx_split (t := 9) rfl (fun g9 => ?_) (fun g9 => ?_)
  · skip
    refine rx_skip rfl rfl rfl rfl ?_
    refine rx_skip rfl rfl rfl rfl ?_
    refine rx_skip rfl rfl rfl rfl ?_
    refine rx_skip rfl rfl rfl rfl ?_
    refine rx_skip rfl rfl rfl rfl ?_
    refine rx_skip rfl rfl rfl rfl ?_
    refine rx_skip rfl rfl rfl rfl ?_
    refine rx_skip rfl rfl rfl rfl ?_
    refine rx_s rfl rfl rfl rfl rfl ?_
    refine rx_endD ?_
    try simp only [List.cons_append, List.nil_append]
    refine SW.cond (b := true) rfl (fun _ => ?_) (fun h => nomatch h)
    refine SW.seq ?_
    refine SW.reg (l := [.op 0 .e]) rfl ?_
    refine rx_s rfl rfl rfl rfl rfl ?_
    refine rx_end0 ?_
    refine SW.ret ?_
    exact retK1 (l := [_]) (.tmp rfl .nil) ⟨rfl, rfl⟩ (.one (by (repeat first|exact .here|apply Take1.there)) .nil)
  · skip
    simp at g9
    refine rx_fa rfl rfl rfl rfl rfl rfl Fa.fo_56_0 ?_
    refine rx_ldD1 rfl rfl rfl rfl rfl rfl rfl (by (repeat first|exact .here|apply Take1.there)) Fa.ag_3 (by rfl) ?_
    iterate 2 refine rx_s rfl rfl rfl rfl rfl ?_
    refine rx_fa rfl rfl rfl rfl rfl rfl Fa.fo_215_1 ?_
    refine rx_ldD1 rfl rfl rfl rfl rfl rfl rfl (by (repeat first|exact .here|apply Take1.there)) Fa.ag_213 (by rfl) ?_
    refine rx_len rfl rfl rfl rfl rfl rfl (lenV_sl Fa.sl_213 _ _ _) ?_
    iterate 2 refine rx_s rfl rfl rfl rfl rfl ?_
    refine rx_endD ?_
    try simp only [List.cons_append, List.nil_append]
    refine SW.cond rfl (fun h18 => ?_) (fun h18 => ?_)
    · skip
      refine SW.seq ?_
      refine SW.reg (l := [.op 0 .e]) rfl ?_
      refine rx_s rfl rfl rfl rfl rfl ?_
      refine rx_end0 ?_
      refine SW.ret ?_
      exact retK1 (l := [_]) (.tmp rfl .nil) ⟨rfl, rfl⟩ (.one (by (repeat first|exact .here|apply Take1.there)) .nil)
    · (simp at h18; omega)

def findV (b : Nat) : Option Nat → Value
  | none => .pointer none
  | some i => .pointer (some ⟨b, 0 + i * 11, none⟩)
theorem find_some (a b cap : Nat) (A : Ar SNode) (rest : List Value) (fv : Value) (h : Handle) (hA : A.ok) :
    Sl.Spec Tryz.prog 174 #[.pointer (some ⟨a, 0, none⟩), .agg #[.int .i64 h.slot, .int .i64 h.gen]]
      [blk a [.int .i64 A.most, .slice (some ⟨b, 0, none⟩) A.sl.length cap, fv] 215 (0, 0), blk b (flat A.sl ++ rest) 281 (0, 0)]
      (fun v l => v = findV b (A.find h) ∧ l = [blk a [.int .i64 A.most, .slice (some ⟨b, 0, none⟩) A.sl.length cap, fv] 215 (0, 0), blk b (flat A.sl ++ rest) 281 (0, 0)]) := by
  have q1 := hA.len
  have q2 := hA.most
  refine Spec.enter Tryz.func174 rfl rfl rfl ?_
  refine SW.seq ?_
  refine SW.reg (l := [.op 0 .e, .op 1 .e]) rfl ?_
  refine rx_box (.inr rfl) rfl rfl rfl rfl rfl rfl (cl := [_, _]) rfl ?_
  intro b3
  refine rx_s rfl rfl rfl rfl rfl ?_
  refine rx_end0 ?_
  refine SW.seq ?_
  refine SW.seq ?_
  refine SW.drawAll Fa.mix (tp := [0, 1, 3, 7, 15, 31, 15, 79, 207, 463, 975, 2047, 4095]) (l := [.op 0 .s, .op 1 .d, .op 2 .s, .op 3 .s, .op 4 .s, .op 5 .d, .op 6 .s, .op 7 .s, .op 8 .s, .op 9 .d, .op 10 .s, .op 11 .s, .op 12 .s]) (by kernel_rfl) ?_
  refine rx_fa rfl rfl rfl rfl rfl rfl Fa.fo_56_0 ?_
  refine rx_ldD1 rfl rfl rfl rfl rfl rfl rfl (by (repeat first|exact .here|apply Take1.there)) Fa.ag_3 (by rfl) ?_
  iterate 2 refine rx_s rfl rfl rfl rfl rfl ?_
  refine rx_split (t := 9) rfl (fun g9 => ?_) (fun g9 => ?_)
  · skip
    simp at g9
    refine rx_skip rfl rfl rfl rfl ?_
    refine rx_skip rfl rfl rfl rfl ?_
    refine rx_skip rfl rfl rfl rfl ?_
    refine rx_skip rfl rfl rfl rfl ?_
    refine rx_skip rfl rfl rfl rfl ?_
    refine rx_skip rfl rfl rfl rfl ?_
    refine rx_skip rfl rfl rfl rfl ?_
    refine rx_skip rfl rfl rfl rfl ?_
    refine rx_s rfl rfl rfl rfl rfl ?_
    refine rx_endD ?_
    try simp only [List.cons_append, List.nil_append]
    refine SW.cond (b := true) rfl (fun _ => ?_) (fun h => nomatch h)
    refine SW.seq ?_
    refine SW.reg (l := [.op 0 .e]) rfl ?_
    refine rx_s rfl rfl rfl rfl rfl ?_
    refine rx_end0 ?_
    refine SW.ret ?_
    exact retK1 (l := [_, _]) (.tmp rfl .nil) ⟨by unfold Ar.find; rw [if_pos (.inl g9)]; rfl, rfl⟩ (.one (by (repeat first|exact .here|apply Take1.there)) (.one (by (repeat first|exact .here|apply Take1.there)) .nil))
  · skip
    simp at g9
    refine rx_fa rfl rfl rfl rfl rfl rfl Fa.fo_56_0 ?_
    refine rx_ldD1 rfl rfl rfl rfl rfl rfl rfl (by (repeat first|exact .here|apply Take1.there)) Fa.ag_3 (by rfl) ?_
    iterate 2 refine rx_s rfl rfl rfl rfl rfl ?_
    refine rx_fa rfl rfl rfl rfl rfl rfl Fa.fo_215_1 ?_
    refine rx_ldD1 rfl rfl rfl rfl rfl rfl rfl (by (repeat first|exact .here|apply Take1.there)) Fa.ag_213 (by rfl) ?_
    refine rx_len rfl rfl rfl rfl rfl rfl (lenV_sl Fa.sl_213 _ _ _) ?_
    iterate 2 refine rx_s rfl rfl rfl rfl rfl ?_
    refine rx_endD ?_
    try simp only [List.cons_append, List.nil_append]
    refine SW.cond rfl (fun h18 => ?_) (fun h18 => ?_)
    · skip
      simp at h18
      refine SW.seq ?_
      refine SW.reg (l := [.op 0 .e]) rfl ?_
      refine rx_s rfl rfl rfl rfl rfl ?_
      refine rx_end0 ?_
      refine SW.ret ?_
      exact retK1 (l := [_, _]) (.tmp rfl .nil) ⟨by unfold Ar.find; rw [if_pos (.inr (by omega))]; rfl, rfl⟩ (.one (by (repeat first|exact .here|apply Take1.there)) (.one (by (repeat first|exact .here|apply Take1.there)) .nil))
    · skip
      simp at h18
      obtain ⟨s, hs⟩ : ∃ s, A.sl[(h.slot - 1).toNat]? = some s := ⟨_, List.getElem?_eq_getElem (by omega)⟩
      refine SW.skip ?_
      try simp only [thenK, blockK, cond_true, cond_false, beq_self_eq_true, Nat.reduceBEq]
      refine SW.seq ?_
      refine SW.drawAll Fa.mix (tp := [0, 1, 3, 7, 0, 16, 48, 127, 255]) (l := [.op 0 .s, .op 1 .s, .op 2 .s, .op 3 .d, .op 4 .s, .op 5 .d, .op 6 .s, .op 7 .s, .op 8 .s]) (by kernel_rfl) ?_
      iterate 2 refine rx_s rfl rfl rfl rfl rfl ?_
      refine rx_fa rfl rfl rfl rfl rfl rfl Fa.fo_215_1 ?_
      refine rx_ldD1 rfl rfl rfl rfl rfl rfl rfl (by (repeat first|exact .here|apply Take1.there)) Fa.ag_213 (by rfl) ?_
      refine rx_fa rfl rfl rfl rfl rfl rfl Fa.fo_56_0 ?_
      refine rx_ldD1 rfl rfl rfl rfl rfl rfl rfl (by (repeat first|exact .here|apply Take1.there)) Fa.ag_3 (by rfl) ?_
      refine rx_ar rfl rfl rfl rfl rfl (by omega) ?_
      refine rx_ix rfl rfl rfl rfl rfl Fa.sl_213 rfl rfl (by omega) ?_
      refine rx_s rfl rfl rfl rfl rfl ?_
      refine rx_endD ?_
      try simp only [List.cons_append, List.nil_append]
      refine SW.seq ?_
      refine SW.seq ?_
      refine SW.drawAll Fa.mix (tp := [0, 1, 3, 7, 15, 31, 63, 127, 255, 511, 63, 1087, 4095, 8191]) (l := [.op 0 .s, .op 1 .s, .op 2 .s, .op 3 .d, .op 4 .s, .op 5 .s, .op 6 .s, .op 7 .s, .op 8 .s, .op 9 .d, .op 10 .s, .op 11 .d, .op 12 .s, .op 13 .s]) (by kernel_rfl) ?_
      iterate 2 refine rx_s rfl rfl rfl rfl rfl ?_
      refine rx_fa rfl rfl rfl rfl rfl rfl Fa.fo_281_1 ?_
      refine rx_ldD1 rfl rfl rfl rfl rfl rfl rfl (by (repeat first|exact .here|apply Take1.there)) Fa.ag_4 (by exact sget hs (j := 1) (by omega) (by omega) rest) ?_
      iterate 2 refine rx_s rfl rfl rfl rfl rfl ?_
      refine rx_split (t := 32) rfl (fun g32 => ?_) (fun g32 => ?_)
      · skip
        simp at g32
        refine rx_skip rfl rfl rfl rfl ?_
        refine rx_skip rfl rfl rfl rfl ?_
        refine rx_skip rfl rfl rfl rfl ?_
        refine rx_skip rfl rfl rfl rfl ?_
        refine rx_skip rfl rfl rfl rfl ?_
        refine rx_skip rfl rfl rfl rfl ?_
        refine rx_skip rfl rfl rfl rfl ?_
        refine rx_s rfl rfl rfl rfl rfl ?_
        refine rx_endD ?_
        try simp only [List.cons_append, List.nil_append]
        refine SW.cond (b := true) rfl (fun _ => ?_) (fun h => nomatch h)
        refine SW.seq ?_
        refine SW.reg (l := [.op 0 .e]) rfl ?_
        refine rx_s rfl rfl rfl rfl rfl ?_
        refine rx_end0 ?_
        refine SW.ret ?_
        exact retK1 (l := [_, _]) (.tmp rfl .nil) ⟨by unfold Ar.find; rw [if_neg (by omega), hs]; simp [g32, findV], rfl⟩ (.one (by (repeat first|exact .here|apply Take1.there)) (.one (by (repeat first|exact .here|apply Take1.there)) .nil))
      · skip
        simp at g32
        iterate 2 refine rx_s rfl rfl rfl rfl rfl ?_
        refine rx_fa rfl rfl rfl rfl rfl rfl Fa.fo_281_0 ?_
        refine rx_ldD1 rfl rfl rfl rfl rfl rfl rfl (by (repeat first|exact .here|apply Take1.there)) Fa.ag_3 (by exact sget hs (j := 0) (by omega) (by omega) rest) ?_
        refine rx_fa rfl rfl rfl rfl rfl rfl Fa.fo_56_1 ?_
        refine rx_ldD1 rfl rfl rfl rfl rfl rfl rfl (by (repeat first|exact .here|apply Take1.there)) Fa.ag_3 (by rfl) ?_
        iterate 2 refine rx_s rfl rfl rfl rfl rfl ?_
        refine rx_endD ?_
        try simp only [List.cons_append, List.nil_append]
        refine SW.cond rfl (fun h40 => ?_) (fun h40 => ?_)
        · skip
          simp at h40
          refine SW.seq ?_
          refine SW.reg (l := [.op 0 .e]) rfl ?_
          refine rx_s rfl rfl rfl rfl rfl ?_
          refine rx_end0 ?_
          refine SW.ret ?_
          exact retK1 (l := [_, _]) (.tmp rfl .nil) ⟨by unfold Ar.find; rw [if_neg (by omega), hs]; simp [g32, h40, findV], rfl⟩ (.one (by (repeat first|exact .here|apply Take1.there)) (.one (by (repeat first|exact .here|apply Take1.there)) .nil))
        · skip
          simp at h40
          refine SW.skip ?_
          try simp only [thenK, blockK, cond_true, cond_false, beq_self_eq_true, Nat.reduceBEq]
          refine SW.seq ?_
          refine SW.reg (l := [.op 0 .e, .op 1 .e]) rfl ?_
          iterate 2 refine rx_s rfl rfl rfl rfl rfl ?_
          refine rx_end0 ?_
          refine SW.ret ?_
          exact retK1 (l := [_, _]) (.tmp rfl .nil) ⟨by unfold Ar.find; rw [if_neg (by omega), hs]; simp [g32, h40, findV], rfl⟩ (.one (by (repeat first|exact .here|apply Take1.there)) (.one (by (repeat first|exact .here|apply Take1.there)) .nil))

def getV : Option SNode → Value
  | some x => .tuple #[.agg (enc x).toArray, .bool true]
  | none => .tuple #[.agg (enc SNode.zero).toArray, .bool false]
theorem get_nil (a : Nat) (m : Int) (fv : Value) (h : Handle) :
    Sl.Spec Tryz.prog 146 #[.pointer (some ⟨a, 0, none⟩), .agg #[.int .i64 h.slot, .int .i64 h.gen]] [blk a [.int .i64 m, .slice none 0 0, fv] 215 (0, 0)]
      (fun v l => v = getV none ∧ l = [blk a [.int .i64 m, .slice none 0 0, fv] 215 (0, 0)]) := by
  refine Spec.enter Tryz.func146 rfl rfl rfl ?_
  refine SW.seq ?_
  refine SW.reg (l := [.op 0 .e, .op 1 .e, .op 2 .e]) rfl ?_
  refine rx_box (.inr rfl) rfl rfl rfl rfl rfl rfl (cl := [_, _]) rfl ?_
  intro b3
  refine rx_alloc (.inr rfl) rfl rfl rfl rfl rfl Fa.z_184 ?_
  intro b4
  refine rx_s rfl rfl rfl rfl rfl ?_
  refine rx_end0 ?_
  refine SW.seq ?_
  refine SW.reg (l := [.op 0 .e, .op 1 .e, .op 2 .e, .op 3 .e]) rfl ?_
  refine rx_s rfl rfl rfl rfl rfl ?_
  refine rx_ldHA rfl rfl rfl rfl rfl rfl (by (repeat first|exact .here|apply Take1.there)) Fa.ag_56 Fa.sz_56 (vs := [_, _]) (by rfl) rfl ?_
  refine rx_callH (F := ?FT37) rfl rfl rfl rfl rfl rfl rfl rfl Fa.ca_174 rfl (find_nil a m fv h) ?T37 ?_
  case T37 => (repeat (first|exact Take.nil|refine Take.cons (by (repeat first|exact .here|apply Take1.there)) ?_))
  rintro _ _ ⟨rfl, rfl⟩
  try simp only [List.cons_append, List.nil_append]
  refine rx_s rfl rfl rfl rfl rfl ?_
  refine rx_end0 ?_
  refine SW.seq ?_
  refine SW.seq ?_
  refine SW.reg (l := [.op 0 .e, .op 1 .e]) rfl ?_
  refine rx_s rfl rfl rfl rfl rfl ?_
  refine rx_eqnil rfl rfl rfl rfl rfl Fa.pt_278 rfl ?_
  refine rx_end0 ?_
  refine SW.cond rfl (fun h12 => ?_) (fun h12 => ?_)
  · skip
    refine SW.seq ?_
    refine SW.reg (l := [.op 0 .e]) rfl ?_
    refine rx_alloc (.inr rfl) rfl rfl rfl rfl rfl Fa.z_184 ?_
    intro b7
    refine rx_end0 ?_
    refine SW.seq ?_
    refine SW.reg (l := [.op 0 .e, .op 1 .e, .op 2 .e]) rfl ?_
    refine rx_ldHA rfl rfl rfl rfl rfl rfl (by (repeat first|exact .here|apply Take1.there)) Fa.ag_184 Fa.sz_184 (vs := [_, _, _, _, _, _, _, _, _]) (by rfl) rfl ?_
    refine rx_stp rfl rfl rfl rfl rfl rfl (by (repeat first|exact .here|apply Take1.there)) Fa.sz_184 (vs := [_, _, _, _, _, _, _, _, _]) rfl rfl rfl (by rfl) (cl' := [_, _, _, _, _, _, _, _, _]) (by rfl) ?_
    refine rx_s rfl rfl rfl rfl rfl ?_
    refine rx_end0 ?_
    refine SW.ret ?_
    exact retK2 (l := [_]) (.cell rfl (by (repeat first|exact .here|apply Take1.there)) (.inr ⟨9, _, Fa.ag_184, Fa.sz_184, rfl, rfl, rfl⟩) (.tmp rfl .nil)) ⟨rfl, rfl⟩ (.one (by (repeat first|exact .here|apply Take1.there)) .nil)
  · simp at h12
theorem get_some (a b cap : Nat) (A : Ar SNode) (rest : List Value) (fv : Value) (h : Handle) (hA : A.ok) :
    Sl.Spec Tryz.prog 146 #[.pointer (some ⟨a, 0, none⟩), .agg #[.int .i64 h.slot, .int .i64 h.gen]]
      [blk a [.int .i64 A.most, .slice (some ⟨b, 0, none⟩) A.sl.length cap, fv] 215 (0, 0), blk b (flat A.sl ++ rest) 281 (0, 0)]
      (fun v l => v = getV (A.get h) ∧ l = [blk a [.int .i64 A.most, .slice (some ⟨b, 0, none⟩) A.sl.length cap, fv] 215 (0, 0), blk b (flat A.sl ++ rest) 281 (0, 0)]) := by
  unfold Ar.get
  rcases hf : A.find h with _ | i
  · skip
    refine Spec.enter Tryz.func146 rfl rfl rfl ?_
    refine SW.seq ?_
    refine SW.reg (l := [.op 0 .e, .op 1 .e, .op 2 .e]) rfl ?_
    refine rx_box (.inr rfl) rfl rfl rfl rfl rfl rfl (cl := [_, _]) rfl ?_
    intro b3
    refine rx_alloc (.inr rfl) rfl rfl rfl rfl rfl Fa.z_184 ?_
    intro b4
    refine rx_s rfl rfl rfl rfl rfl ?_
    refine rx_end0 ?_
    refine SW.seq ?_
    refine SW.reg (l := [.op 0 .e, .op 1 .e, .op 2 .e, .op 3 .e]) rfl ?_
    refine rx_s rfl rfl rfl rfl rfl ?_
    refine rx_ldHA rfl rfl rfl rfl rfl rfl (by (repeat first|exact .here|apply Take1.there)) Fa.ag_56 Fa.sz_56 (vs := [_, _]) (by rfl) rfl ?_
    refine rx_callH (F := ?FT38) rfl rfl rfl rfl rfl rfl rfl rfl Fa.ca_174 rfl (find_some a b cap A rest fv h hA) ?T38 ?_
    case T38 => (repeat (first|exact Take.nil|refine Take.cons (by (repeat first|exact .here|apply Take1.there)) ?_))
    rintro _ _ ⟨rfl, rfl⟩
    rw [hf]
    simp only [findV]
    try simp only [List.cons_append, List.nil_append]
    refine rx_s rfl rfl rfl rfl rfl ?_
    refine rx_end0 ?_
    refine SW.seq ?_
    refine SW.seq ?_
    refine SW.reg (l := [.op 0 .e, .op 1 .e]) rfl ?_
    refine rx_s rfl rfl rfl rfl rfl ?_
    refine rx_eqnil rfl rfl rfl rfl rfl Fa.pt_278 rfl ?_
    refine rx_end0 ?_
    refine SW.cond rfl (fun h12 => ?_) (fun h12 => ?_)
    · skip
      refine SW.seq ?_
      refine SW.reg (l := [.op 0 .e]) rfl ?_
      refine rx_alloc (.inr rfl) rfl rfl rfl rfl rfl Fa.z_184 ?_
      intro b7
      refine rx_end0 ?_
      refine SW.seq ?_
      refine SW.reg (l := [.op 0 .e, .op 1 .e, .op 2 .e]) rfl ?_
      refine rx_ldHA rfl rfl rfl rfl rfl rfl (by (repeat first|exact .here|apply Take1.there)) Fa.ag_184 Fa.sz_184 (vs := [_, _, _, _, _, _, _, _, _]) (by rfl) rfl ?_
      refine rx_stp rfl rfl rfl rfl rfl rfl (by (repeat first|exact .here|apply Take1.there)) Fa.sz_184 (vs := [_, _, _, _, _, _, _, _, _]) rfl rfl rfl (by rfl) (cl' := [_, _, _, _, _, _, _, _, _]) (by rfl) ?_
      refine rx_s rfl rfl rfl rfl rfl ?_
      refine rx_end0 ?_
      refine SW.ret ?_
      exact retK2 (l := [_, _]) (.cell rfl (by (repeat first|exact .here|apply Take1.there)) (.inr ⟨9, _, Fa.ag_184, Fa.sz_184, rfl, rfl, rfl⟩) (.tmp rfl .nil)) ⟨rfl, rfl⟩ (.one (by (repeat first|exact .here|apply Take1.there)) (.one (by (repeat first|exact .here|apply Take1.there)) .nil))
    · simp at h12
  · obtain ⟨s, hs, _⟩ := Ar.find_get hf
    simp only [hs, Option.map_some]
    refine Spec.enter Tryz.func146 rfl rfl rfl ?_
    refine SW.seq ?_
    refine SW.reg (l := [.op 0 .e, .op 1 .e, .op 2 .e]) rfl ?_
    refine rx_box (.inr rfl) rfl rfl rfl rfl rfl rfl (cl := [_, _]) rfl ?_
    intro b3
    refine rx_alloc (.inr rfl) rfl rfl rfl rfl rfl Fa.z_184 ?_
    intro b4
    refine rx_s rfl rfl rfl rfl rfl ?_
    refine rx_end0 ?_
    refine SW.seq ?_
    refine SW.reg (l := [.op 0 .e, .op 1 .e, .op 2 .e, .op 3 .e]) rfl ?_
    refine rx_s rfl rfl rfl rfl rfl ?_
    refine rx_ldHA rfl rfl rfl rfl rfl rfl (by (repeat first|exact .here|apply Take1.there)) Fa.ag_56 Fa.sz_56 (vs := [_, _]) (by rfl) rfl ?_
    refine rx_callH (F := ?FT39) rfl rfl rfl rfl rfl rfl rfl rfl Fa.ca_174 rfl (find_some a b cap A rest fv h hA) ?T39 ?_
    case T39 => (repeat (first|exact Take.nil|refine Take.cons (by (repeat first|exact .here|apply Take1.there)) ?_))
    rintro _ _ ⟨rfl, rfl⟩
    rw [hf]
    simp only [findV]
    try simp only [List.cons_append, List.nil_append]
    refine rx_s rfl rfl rfl rfl rfl ?_
    refine rx_end0 ?_
    refine SW.seq ?_
    refine SW.seq ?_
    refine SW.reg (l := [.op 0 .e, .op 1 .e]) rfl ?_
    refine rx_s rfl rfl rfl rfl rfl ?_
    refine rx_eqnil rfl rfl rfl rfl rfl Fa.pt_278 rfl ?_
    refine rx_end0 ?_
    refine SW.cond rfl (fun h12 => ?_) (fun h12 => ?_)
    · simp at h12
    · skip
      refine SW.skip ?_
      try simp only [thenK, blockK, cond_true, cond_false, beq_self_eq_true, Nat.reduceBEq]
      refine SW.seq ?_
      refine SW.reg (l := [.op 0 .e, .op 1 .e, .op 2 .e, .op 3 .e, .op 4 .e, .op 5 .e]) rfl ?_
      iterate 2 refine rx_s rfl rfl rfl rfl rfl ?_
      refine rx_fa rfl rfl rfl rfl rfl rfl Fa.fo_281_2 ?_
      refine rx_ldHA rfl rfl rfl rfl rfl rfl (by (repeat first|exact .here|apply Take1.there)) Fa.ag_184 Fa.sz_184 (vs := [_, _, _, _, _, _, _, _, _]) (by exact sdrop hs (j := 2) (by omega) (by omega) rest) rfl ?_
      refine rx_stp rfl rfl rfl rfl rfl rfl (by (repeat first|exact .here|apply Take1.there)) Fa.sz_184 (vs := [_, _, _, _, _, _, _, _, _]) rfl rfl rfl (by rfl) (cl' := [_, _, _, _, _, _, _, _, _]) (by rfl) ?_
      refine rx_s rfl rfl rfl rfl rfl ?_
      refine rx_end0 ?_
      refine SW.ret ?_
      exact retK2 (l := [_, _]) (.cell rfl (by (repeat first|exact .here|apply Take1.there)) (.inr ⟨9, _, Fa.ag_184, Fa.sz_184, rfl, rfl, rfl⟩) (.tmp rfl .nil)) ⟨rfl, rfl⟩ (.one (by (repeat first|exact .here|apply Take1.there)) (.one (by (repeat first|exact .here|apply Take1.there)) .nil))
/-- 'Get' -/
theorem get (a : Nat) (A : Ar SNode) (h : Handle) (hA : A.ok) :
    Sl.Spec Tryz.prog 146 #[.pointer (some ⟨a, 0, none⟩), .agg #[.int .i64 h.slot, .int .i64 h.gen]] [ArP a A] (fun v l => v = getV (A.get h) ∧ l = [ArP a A]) := by
  refine Holt.Spec.exH 0 rfl ?_
  rintro ⟨sv, fv⟩
  simp only [List.cons_append, List.nil_append]
  refine Holt.Spec.slopen 1 rfl ?_ ?_
  · rintro rfl hx
    have hn : A.sl = [] := flat_nil hx
    have hg : A.get h = none := by unfold Ar.get Ar.find; rw [hn, if_pos (by simp; omega)]
    rw [hg]
    refine Holt.Spec.conseq (Sl.Spec.frame (F := [SlOwn 3 1 fv (flat A.fr)]) (get_nil a A.most fv h)) ?_
    rintro v l ⟨l', ⟨rfl, rfl⟩, rfl⟩
    exact ⟨[_], ⟨rfl, rfl⟩, foldA (slown_nil _ _ (.one .here (.one .here .nil))) (by rw [hn]; rfl) rfl⟩
  · rintro b len cap rest rfl hx hy hlc h1
    rw [flen] at hx
    have e1 : len = A.sl.length := by omega
    subst e1
    refine Sl.Spec.pre (EntL.ent (.one (.there .here) (.one .here (.one .here .nil)))) ?_
    refine Holt.Spec.conseq (Sl.Spec.frame (F := [SlOwn 3 1 fv (flat A.fr)]) (get_some a b cap A rest fv h hA)) ?_
    rintro v l ⟨l', ⟨rfl, rfl⟩, rfl⟩
    exact ⟨[_], ⟨rfl, rfl⟩, foldA (slown_mk (.there .here) rfl h1 (flen _) hy hlc (.one .here (.one .here .nil))) rfl rfl⟩

theorem sfit {l : List (Slot SNode)} {i : Nat} {s : Slot SNode} (h : l[i]? = some s) {j k off : Nat} (hj : j + k ≤ 11) (ho : off = i * 11 + j) (rest : List Value) : Nat.ble (off + k) (flat l ++ rest).length = true := by
  have hi : i < l.length := (List.getElem?_eq_some_iff.1 h).1
  apply Nat.ble_eq_true_of_le
  rw [List.length_append, flen]
  omega
theorem iget {l : List Int} {i : Nat} {s : Int} (h : l[i]? = some s) {off : Nat} (ho : off = i * 1) (rest : List Value) : (flat l ++ rest)[off]? = some (.int .i64 s) := flat_get h (j := 0) (by decide) (by rw [ho]; rfl) rest

/-- 'next', where none was freed -/
theorem next_nil (a : Nat) (A : Ar SNode) (hA : A.ok) (hf : A.fr = []) :
    Sl.Spec Tryz.prog 211 #[.pointer (some ⟨a, 0, none⟩)] [ArP a A] (fun v l => v = .int .i64 (A.next SNode.zero).2 ∧ l = [ArP a (A.next SNode.zero).1]) := by
  have h1 := hA.len
  have h2 := hA.most
  have hn : A.next SNode.zero = ({ A with sl := A.sl ++ [⟨0, false, SNode.zero⟩] }, (A.sl.length + 1 : Int)) := by unfold Ar.next; rw [hf]; rfl
  rw [hn]
  refine Spec.enter Tryz.func211 rfl rfl rfl ?_
  refine SW.exH 0 rfl ?_
  rintro ⟨sv, fv⟩
  simp only [List.cons_append, List.nil_append]
  refine SW.slshape 1 rfl ?_
  rintro p1 m1 c1 rfl hm1
  refine SW.slshape 2 rfl ?_
  rintro p2 m2 c2 rfl hm2
  have e2 : m2 = 0 := by rw [ilen, hf] at hm2; simp at hm2; omega
  subst e2
  refine SW.seq ?_
  refine SW.reg (l := [.op 0 .e]) rfl ?_
  refine rx_s rfl rfl rfl rfl rfl ?_
  refine rx_end0 ?_
  refine SW.seq ?_
  refine SW.reg (l := [.op 0 .e, .op 1 .e, .op 2 .e, .op 3 .e, .op 4 .e, .op 5 .e]) rfl ?_
  iterate 2 refine rx_s rfl rfl rfl rfl rfl ?_
  refine rx_fa rfl rfl rfl rfl rfl rfl Fa.fo_215_2 ?_
  refine rx_ldH1 rfl rfl rfl rfl rfl rfl (by (repeat first|exact .here|apply Take1.there)) Fa.ag_121 (by rfl) ?_
  refine rx_len rfl rfl rfl rfl rfl rfl (lenV_sl Fa.sl_121 _ _ _) ?_
  refine rx_s rfl rfl rfl rfl rfl ?_
  refine rx_end0 ?_
  refine SW.seq ?_
  refine SW.seq ?_
  refine SW.reg (l := [.op 0 .e, .op 1 .e]) rfl ?_
  iterate 2 refine rx_s rfl rfl rfl rfl rfl ?_
  refine rx_end0 ?_
  refine SW.cond rfl (fun h11 => ?_) (fun h11 => ?_)
  · skip
    refine SW.seq ?_
    refine SW.reg (l := [.op 0 .e, .op 1 .e, .op 2 .e, .op 3 .e, .op 4 .e, .op 5 .e, .op 6 .e, .op 7 .e, .op 8 .e, .op 9 .e, .op 10 .e]) rfl ?_
    iterate 3 refine rx_s rfl rfl rfl rfl rfl ?_
    refine rx_fa rfl rfl rfl rfl rfl rfl Fa.fo_215_1 ?_
    refine rx_ldH1 rfl rfl rfl rfl rfl rfl (by (repeat first|exact .here|apply Take1.there)) Fa.ag_213 (by rfl) ?_
    refine rx_build rfl rfl rfl rfl rfl Fa.st_281 rfl (cs := [_, _, _, _, _, _, _, _, _, _, _]) rfl ?_
    refine rx_bslice (.inr rfl) rfl rfl rfl rfl rfl Fa.sl_213 Fa.z_281 rfl rfl rfl rfl rfl (cl := [_, _, _, _, _, _, _, _, _, _, _]) rfl ?_
    intro b18
    refine rx_app1 rfl rfl rfl rfl rfl Fa.sl_213 Fa.z_281 rfl rfl rfl rfl rfl (by (repeat first|exact .here|apply Take1.there)) (by (repeat first|exact .here|apply Take1.there)) (ys := [_, _, _, _, _, _, _, _, _, _, _]) (by rfl) rfl rfl (by rw [flen]; simp; omega) ?_
    intro p19 m19 c19 hm19
    have e1 : m19 = A.sl.length + 1 := by rw [List.length_append, flen] at hm19; simp at hm19; omega
    subst e1
    refine rx_s rfl rfl rfl rfl rfl ?_
    refine rx_fa rfl rfl rfl rfl rfl rfl Fa.fo_215_1 ?_
    refine rx_stp rfl rfl rfl rfl rfl rfl (by (repeat first|exact .here|apply Take1.there)) Fa.sz_213 (vs := [_]) rfl rfl rfl (by rfl) (cl' := [_, _, _]) (by rfl) ?_
    refine rx_end0 ?_
    refine SW.seq ?_
    refine SW.reg (l := [.op 0 .e, .op 1 .e, .op 2 .e, .op 3 .e, .op 4 .e, .op 5 .e]) rfl ?_
    iterate 2 refine rx_s rfl rfl rfl rfl rfl ?_
    refine rx_fa rfl rfl rfl rfl rfl rfl Fa.fo_215_1 ?_
    refine rx_ldH1 rfl rfl rfl rfl rfl rfl (by (repeat first|exact .here|apply Take1.there)) Fa.ag_213 (by rfl) ?_
    refine rx_len rfl rfl rfl rfl rfl rfl (lenV_sl Fa.sl_213 _ _ _) ?_
    refine rx_s rfl rfl rfl rfl rfl ?_
    refine rx_end0 ?_
    refine SW.ret ?_
    exact retK1 (l := [_]) (.tmp rfl .nil) ⟨by simp, rfl⟩ (foldA (.one (by (repeat first|exact .here|apply Take1.there)) (.one (by (repeat first|exact .here|apply Take1.there)) (.one (by (repeat first|exact .here|apply Take1.there)) .nil))) ((flat_append A.sl [(⟨0, false, SNode.zero⟩ : Slot SNode)]).symm) rfl)
  · simp at h11

/-- 'next', where one was freed -/
theorem next_cons (a : Nat) (A : Ar SNode) (hA : A.ok) (fr : List Int) (i : Int) (hf : A.fr = fr ++ [i]) :
    Sl.Spec Tryz.prog 211 #[.pointer (some ⟨a, 0, none⟩)] [ArP a A] (fun v l => v = .int .i64 (A.next SNode.zero).2 ∧ l = [ArP a (A.next SNode.zero).1]) := by
  have h1 := hA.len
  have h2 := hA.most
  have h3 := hA.frlen
  have hn : A.next SNode.zero = ({ A with fr := fr }, i) := by unfold Ar.next; rw [hf]; simp
  rw [hn]
  rw [hf, List.length_append, List.length_singleton] at h3
  refine Spec.enter Tryz.func211 rfl rfl rfl ?_
  refine SW.exH 0 rfl ?_
  rintro ⟨sv, fv⟩
  simp only [List.cons_append, List.nil_append, hf]
  refine SW.slshape 1 rfl ?_
  rintro p1 m1 c1 rfl hm1
  refine SW.slopen 2 rfl (fun _ q => ?_) ?_
  · rw [flat_append] at q; simp [flat, enc, Enc.enc] at q
  rintro fb m2 c2 rest rfl hm2 hc2 hl2 hone
  have e2 : m2 = fr.length + 1 := by rw [ilen] at hm2; simp at hm2; omega
  subst e2
  refine SW.seq ?_
  refine SW.reg (l := [.op 0 .e]) rfl ?_
  refine rx_s rfl rfl rfl rfl rfl ?_
  refine rx_end0 ?_
  refine SW.seq ?_
  refine SW.reg (l := [.op 0 .e, .op 1 .e, .op 2 .e, .op 3 .e, .op 4 .e, .op 5 .e]) rfl ?_
  iterate 2 refine rx_s rfl rfl rfl rfl rfl ?_
  refine rx_fa rfl rfl rfl rfl rfl rfl Fa.fo_215_2 ?_
  refine rx_ldH1 rfl rfl rfl rfl rfl rfl (by (repeat first|exact .here|apply Take1.there)) Fa.ag_121 (by rfl) ?_
  refine rx_len rfl rfl rfl rfl rfl rfl (lenV_sl Fa.sl_121 _ _ _) ?_
  refine rx_s rfl rfl rfl rfl rfl ?_
  refine rx_end0 ?_
  refine SW.seq ?_
  refine SW.seq ?_
  refine SW.reg (l := [.op 0 .e, .op 1 .e]) rfl ?_
  iterate 2 refine rx_s rfl rfl rfl rfl rfl ?_
  refine rx_end0 ?_
  refine SW.cond rfl (fun h11 => ?_) (fun h11 => ?_)
  · (simp at h11; omega)
  · skip
    refine SW.skip ?_
    try simp only [thenK, blockK, cond_true, cond_false, beq_self_eq_true, Nat.reduceBEq]
    refine SW.seq ?_
    refine SW.reg (l := [.op 0 .e, .op 1 .e, .op 2 .e, .op 3 .e, .op 4 .e, .op 5 .e, .op 6 .e, .op 7 .e, .op 8 .e]) rfl ?_
    iterate 2 refine rx_s rfl rfl rfl rfl rfl ?_
    refine rx_fa rfl rfl rfl rfl rfl rfl Fa.fo_215_2 ?_
    refine rx_ldH1 rfl rfl rfl rfl rfl rfl (by (repeat first|exact .here|apply Take1.there)) Fa.ag_121 (by rfl) ?_
    refine rx_s rfl rfl rfl rfl rfl ?_
    refine rx_ar rfl rfl rfl rfl rfl (by simp; omega) ?_
    refine rx_ix rfl rfl rfl rfl rfl Fa.sl_121 rfl rfl (by simp; omega) ?_
    refine rx_ldH1 rfl rfl rfl rfl rfl rfl (by (repeat first|exact .here|apply Take1.there)) Fa.ag_3 (by exact iget (l := fr ++ [i]) (i := fr.length) (s := i) (by simp) (by simp <;> omega) rest) ?_
    refine rx_s rfl rfl rfl rfl rfl ?_
    refine rx_end0 ?_
    refine SW.seq ?_
    refine SW.reg (l := [.op 0 .e, .op 1 .e, .op 2 .e, .op 3 .e, .op 4 .e, .op 5 .e, .op 6 .e, .op 7 .e, .op 8 .e, .op 9 .e, .op 10 .e]) rfl ?_
    iterate 3 refine rx_s rfl rfl rfl rfl rfl ?_
    refine rx_fa rfl rfl rfl rfl rfl rfl Fa.fo_215_2 ?_
    refine rx_ldH1 rfl rfl rfl rfl rfl rfl (by (repeat first|exact .here|apply Take1.there)) Fa.ag_121 (by rfl) ?_
    refine rx_s rfl rfl rfl rfl rfl ?_
    refine rx_ar rfl rfl rfl rfl rfl (by simp; omega) ?_
    refine rx_slhi rfl rfl rfl rfl rfl Fa.sl_121 rfl rfl (by simp; omega) ?_
    refine rx_s rfl rfl rfl rfl rfl ?_
    refine rx_fa rfl rfl rfl rfl rfl rfl Fa.fo_215_2 ?_
    refine rx_stp rfl rfl rfl rfl rfl rfl (by (repeat first|exact .here|apply Take1.there)) Fa.sz_121 (vs := [_]) rfl rfl rfl (by rfl) (cl' := [_, _, _]) (by rfl) ?_
    refine rx_end0 ?_
    refine SW.seq ?_
    refine SW.reg (l := [.op 0 .e, .op 1 .e]) rfl ?_
    iterate 2 refine rx_s rfl rfl rfl rfl rfl ?_
    refine rx_end0 ?_
    refine SW.ret ?_
    refine retK1 (l := [_]) (.tmp rfl .nil) ⟨rfl, rfl⟩ (foldA (.one (by (repeat first|exact .here|apply Take1.there)) (.one (by (repeat first|exact .here|apply Take1.there)) (slown_mk (xs := flat fr) (rest := .int .i64 i :: rest) (by (repeat first|exact .here|apply Take1.there)) ?_ (flat_one fr) ?_ ?_ ?_ .nil))) rfl rfl)
    · rw [flat_append, List.append_assoc]; rfl
    · rw [ilen]; simp
    · rw [ilen] at hc2 ⊢; simp at hc2 ⊢; omega
    · simp; omega
theorem next (a : Nat) (A : Ar SNode) (hA : A.ok) :
    Sl.Spec Tryz.prog 211 #[.pointer (some ⟨a, 0, none⟩)] [ArP a A] (fun v l => v = .int .i64 (A.next SNode.zero).2 ∧ l = [ArP a (A.next SNode.zero).1]) := by
  rcases List.eq_nil_or_concat A.fr with h | ⟨fr, i, h⟩
  · exact next_nil a A hA h
  · exact next_cons a A hA fr i (by rw [h, List.concat_eq_append])

/-- 'Put', where there is no room -/
theorem put_full (a : Nat) (A : Ar SNode) (x : SNode) (hA : A.ok) (hr : A.room = 0) :
    Sl.Spec Tryz.prog 193 #[.pointer (some ⟨a, 0, none⟩), .agg (enc x).toArray] [ArP a A] (fun v l => v = .tuple #[.agg #[.int .i64 0, .int .i64 0], .bool false] ∧ l = [ArP a A]) := by
  refine Spec.enter Tryz.func193 rfl rfl rfl ?_
  refine SW.seq ?_
  refine SW.reg (l := [.op 0 .e, .op 1 .e, .op 2 .e]) rfl ?_
  refine rx_box (.inr rfl) rfl rfl rfl rfl rfl rfl (cl := [_, _, _, _, _, _, _, _, _]) rfl ?_
  intro b3
  refine rx_alloc (.inr rfl) rfl rfl rfl rfl rfl Fa.z_56 ?_
  intro b4
  refine rx_s rfl rfl rfl rfl rfl ?_
  refine rx_end0 ?_
  refine SW.seq ?_
  refine SW.seq ?_
  refine SW.reg (l := [.op 0 .e, .op 1 .e, .op 2 .e]) rfl ?_
  refine rx_s rfl rfl rfl rfl rfl ?_
  refine rx_callH (F := ?FT40) rfl rfl rfl rfl rfl rfl rfl rfl Fa.ca_192 rfl (room a A hA) ?T40 ?_
  case T40 => (repeat (first|exact Take.nil|refine Take.cons (by (repeat first|exact .here|apply Take1.there)) ?_))
  rintro _ _ ⟨rfl, rfl⟩
  try simp only [List.cons_append, List.nil_append]
  refine rx_s rfl rfl rfl rfl rfl ?_
  refine rx_end0 ?_
  refine SW.cond rfl (fun h10 => ?_) (fun h10 => ?_)
  · skip
    refine SW.seq ?_
    refine SW.reg (l := [.op 0 .e, .op 1 .e, .op 2 .e]) rfl ?_
    refine rx_build rfl rfl rfl rfl rfl Fa.st_56 rfl (cs := [_, _]) rfl ?_
    refine rx_stp rfl rfl rfl rfl rfl rfl (by (repeat first|exact .here|apply Take1.there)) Fa.sz_56 (vs := [_, _]) rfl rfl rfl (by rfl) (cl' := [_, _]) (by rfl) ?_
    refine rx_s rfl rfl rfl rfl rfl ?_
    refine rx_end0 ?_
    refine SW.ret ?_
    exact retK2 (l := [_]) (.cell rfl (by (repeat first|exact .here|apply Take1.there)) (.inr ⟨2, _, Fa.ag_56, Fa.sz_56, rfl, rfl, rfl⟩) (.tmp rfl .nil)) ⟨rfl, rfl⟩ (.one (by (repeat first|exact .here|apply Take1.there)) .nil)
  · (rw [hr] at h10; simp at h10)
theorem put (a : Nat) (A : Ar SNode) (x : SNode) (hA : A.ok) (hr : A.room ≠ 0) :
    Sl.Spec Tryz.prog 193 #[.pointer (some ⟨a, 0, none⟩), .agg (enc x).toArray] [ArP a A]
      (fun v l => v = .tuple #[.agg #[.int .i64 (A.put SNode.zero x).2.slot, .int .i64 (A.put SNode.zero x).2.gen], .bool true] ∧ l = [ArP a (A.put SNode.zero x).1]) := by
  obtain ⟨hi1, hi2, hi3, hi4⟩ := Ar.next_in (zero := SNode.zero) hA hr
  unfold Ar.put
  generalize hB : (A.next SNode.zero).1 = B at *
  generalize hI : (A.next SNode.zero).2 = I at *
  obtain ⟨s, hs⟩ : ∃ s, B.sl[(I - 1).toNat]? = some s := ⟨_, List.getElem?_eq_getElem (by omega)⟩
  have hsg := hi3 s (List.mem_of_getElem? hs)
  have hput : B.lay I x = ({ B with sl := B.sl.set (I - 1).toNat ⟨s.gen + 1, true, x⟩ }, ⟨I, s.gen + 1⟩) := by unfold Ar.lay; rw [hs]
  rw [hput]
  have hlt : (I - 1).toNat < B.sl.length := by omega
  have g0 : ∀ t : Slot SNode, (B.sl.set (I - 1).toNat t)[(I - 1).toNat]? = some t := fun t => List.getElem?_set_self hlt
  have g1 : ∀ t u : Slot SNode, ((B.sl.set (I - 1).toNat t).set (I - 1).toNat u)[(I - 1).toNat]? = some u := fun t u => List.getElem?_set_self (by rw [List.length_set]; exact hlt)
  have g2 : ∀ t u r : Slot SNode, (((B.sl.set (I - 1).toNat t).set (I - 1).toNat u).set (I - 1).toNat r)[(I - 1).toNat]? = some r := fun t u r => List.getElem?_set_self (by rw [List.length_set, List.length_set]; exact hlt)
  have nx := next a A hA
  rw [hB, hI] at nx
  refine Spec.enter Tryz.func193 rfl rfl rfl ?_
  refine SW.seq ?_
  refine SW.reg (l := [.op 0 .e, .op 1 .e, .op 2 .e]) rfl ?_
  refine rx_box (.inr rfl) rfl rfl rfl rfl rfl rfl (cl := [_, _, _, _, _, _, _, _, _]) rfl ?_
  intro b3
  refine rx_alloc (.inr rfl) rfl rfl rfl rfl rfl Fa.z_56 ?_
  intro b4
  refine rx_s rfl rfl rfl rfl rfl ?_
  refine rx_end0 ?_
  refine SW.seq ?_
  refine SW.seq ?_
  refine SW.reg (l := [.op 0 .e, .op 1 .e, .op 2 .e]) rfl ?_
  refine rx_s rfl rfl rfl rfl rfl ?_
  refine rx_callH (F := ?FT41) rfl rfl rfl rfl rfl rfl rfl rfl Fa.ca_192 rfl (room a A hA) ?T41 ?_
  case T41 => (repeat (first|exact Take.nil|refine Take.cons (by (repeat first|exact .here|apply Take1.there)) ?_))
  rintro _ _ ⟨rfl, rfl⟩
  try simp only [List.cons_append, List.nil_append]
  refine rx_s rfl rfl rfl rfl rfl ?_
  refine rx_end0 ?_
  refine SW.cond rfl (fun h10 => ?_) (fun h10 => ?_)
  · (simp at h10; exact absurd h10 hr)
  · skip
    refine SW.skip ?_
    try simp only [thenK, blockK, cond_true, cond_false, beq_self_eq_true, Nat.reduceBEq]
    refine SW.seq ?_
    refine SW.reg (l := [.op 0 .e, .op 1 .e, .op 2 .e]) rfl ?_
    refine rx_s rfl rfl rfl rfl rfl ?_
    refine rx_callH (F := ?FT42) rfl rfl rfl rfl rfl rfl rfl rfl Fa.ca_211 rfl (nx) ?T42 ?_
    case T42 => (repeat (first|exact Take.nil|refine Take.cons (by (repeat first|exact .here|apply Take1.there)) ?_))
    rintro _ _ ⟨rfl, rfl⟩
    try simp only [List.cons_append, List.nil_append]
    refine rx_s rfl rfl rfl rfl rfl ?_
    refine rx_end0 ?_
    refine SW.seq ?_
    refine SW.exH 0 rfl ?_
    rintro ⟨sv, fv⟩
    simp only [List.cons_append, List.nil_append]
    refine SW.slopen 1 rfl (fun _ q => ?_) ?_
    · have := flat_nil q; rw [this] at hlt; simp at hlt
    rintro sb m1 c1 rest rfl hm1 hc1 hl1 hone
    have e1 : m1 = B.sl.length := by rw [flen] at hm1; omega
    subst e1
    refine SW.reg (l := [.op 0 .e, .op 1 .e, .op 2 .e, .op 3 .e, .op 4 .e, .op 5 .e, .op 6 .e, .op 7 .e]) rfl ?_
    iterate 2 refine rx_s rfl rfl rfl rfl rfl ?_
    refine rx_fa rfl rfl rfl rfl rfl rfl Fa.fo_215_1 ?_
    refine rx_ldH1 rfl rfl rfl rfl rfl rfl (by (repeat first|exact .here|apply Take1.there)) Fa.ag_213 (by rfl) ?_
    refine rx_s rfl rfl rfl rfl rfl ?_
    refine rx_ar rfl rfl rfl rfl rfl (by omega) ?_
    refine rx_ix rfl rfl rfl rfl rfl Fa.sl_213 rfl rfl (by omega) ?_
    refine rx_s rfl rfl rfl rfl rfl ?_
    refine rx_end0 ?_
    refine SW.seq ?_
    refine SW.drawT (Hs := []) (D0l := [blk b3 (enc x) 184 (0, 0)]) (Dl := ?DT43) (F := ?FT43) Fa.mix (tp := [0, 0, 0, 0, 8, 24, 56, 120, 0, 249, 761, 1785, 3835, 7931, 16123, 32767, 65535, 131071]) (l := [.op 0 .s, .op 1 .s, .op 2 .s, .op 3 .s, .op 4 .s, .op 5 .s, .op 6 .d, .op 7 .s, .op 8 .p, .op 9 .s, .op 10 .s, .bar, .op 11 .e, .op 12 .s, .op 13 .s, .op 14 .e, .op 15 .s, .op 16 .s, .op 17 .e]) (by kernel_rfl) ?T43a ?T43b ?_
    case T43a => (repeat (first|exact Take.nil|refine Take.cons (by (repeat first|exact .here|apply Take1.there)) ?_))
    case T43b => (repeat (first|exact Take.nil|refine Take.cons (by (repeat first|exact .here|apply Take1.there)) ?_))
    iterate 5 refine rx_s rfl rfl rfl rfl rfl ?_
    refine rx_fa rfl rfl rfl rfl rfl rfl Fa.fo_281_0 ?_
    refine rx_ldD1 rfl rfl rfl rfl rfl rfl rfl (by (repeat first|exact .here|apply Take1.there)) Fa.ag_3 (by exact sget hs (j := 0) (by omega) (by omega) rest) ?_
    refine rx_ar rfl rfl rfl rfl rfl (by omega) ?_
    refine rx_ldPA rfl rfl rfl rfl rfl rfl (by (repeat first|exact .here|apply Take1.there)) Fa.ag_184 Fa.sz_184 (vs := [_, _, _, _, _, _, _, _, _]) (by rfl) rfl ?_
    refine rx_s rfl rfl rfl rfl rfl ?_
    refine rx_fa rfl rfl rfl rfl rfl rfl Fa.fo_281_0 ?_
    refine rx_barAll ?_
    try simp only [List.cons_append, List.nil_append]
    refine rx_stp rfl rfl rfl rfl rfl rfl (by (repeat first|exact .here|apply Take1.there)) Fa.sz_3 (vs := [_]) rfl rfl rfl (by exact sfit hs (j := 0) (by decide) (by omega) rest) (cl' := _) (by exact sput (s' := ⟨s.gen + 1, s.used, s.x⟩) hs (j := 0) (Nat.le_of_ble_eq_true rfl) (by omega) rfl rest) ?_
    refine rx_s rfl rfl rfl rfl rfl ?_
    refine rx_fa rfl rfl rfl rfl rfl rfl Fa.fo_281_1 ?_
    refine rx_stp rfl rfl rfl rfl rfl rfl (by (repeat first|exact .here|apply Take1.there)) Fa.sz_4 (vs := [_]) rfl rfl rfl (by exact sfit (g0 _) (j := 1) (by decide) (by omega) rest) (cl' := _) (by exact sput (s' := ⟨s.gen + 1, true, s.x⟩) (g0 _) (j := 1) (Nat.le_of_ble_eq_true rfl) (by omega) rfl rest) ?_
    refine rx_s rfl rfl rfl rfl rfl ?_
    refine rx_fa rfl rfl rfl rfl rfl rfl Fa.fo_281_2 ?_
    refine rx_stp rfl rfl rfl rfl rfl rfl (by (repeat first|exact .here|apply Take1.there)) Fa.sz_184 (vs := [_, _, _, _, _, _, _, _, _]) rfl rfl rfl (by exact sfit (g1 _ _) (j := 2) (by decide) (by omega) rest) (cl' := _) (by exact sput (s' := ⟨s.gen + 1, true, x⟩) (g1 _ _) (j := 2) (Nat.le_of_ble_eq_true rfl) (by omega) rfl rest) ?_
    refine rx_endD ?_
    try simp only [List.cons_append, List.nil_append]
    refine SW.seq ?_
    refine SW.reg (l := [.op 0 .e, .op 1 .e, .op 2 .e, .op 3 .e, .op 4 .e, .op 5 .e, .op 6 .e, .op 7 .e]) rfl ?_
    iterate 3 refine rx_s rfl rfl rfl rfl rfl ?_
    refine rx_fa rfl rfl rfl rfl rfl rfl Fa.fo_281_0 ?_
    refine rx_ldH1 rfl rfl rfl rfl rfl rfl (by (repeat first|exact .here|apply Take1.there)) Fa.ag_3 (by exact sget (g2 _ _ _) (j := 0) (by omega) (by omega) rest) ?_
    refine rx_build rfl rfl rfl rfl rfl Fa.st_56 rfl (cs := [_, _]) rfl ?_
    refine rx_stp rfl rfl rfl rfl rfl rfl (by (repeat first|exact .here|apply Take1.there)) Fa.sz_56 (vs := [_, _]) rfl rfl rfl (by rfl) (cl' := [_, _]) (by rfl) ?_
    refine rx_s rfl rfl rfl rfl rfl ?_
    refine rx_end0 ?_
    refine SW.ret ?_
    refine retK2 (l := [_]) (.cell rfl (by (repeat first|exact .here|apply Take1.there)) (.inr ⟨2, _, Fa.ag_56, Fa.sz_56, rfl, rfl, rfl⟩) (.tmp rfl .nil)) ⟨rfl, rfl⟩ (foldA (slown_mk (xs := flat (B.sl.set (I - 1).toNat ⟨s.gen + 1, true, x⟩)) (rest := rest) (by (repeat first|exact .here|apply Take1.there)) ?_ (flat_one _) ?_ ?_ hl1 (.one (by (repeat first|exact .here|apply Take1.there)) (.one (by (repeat first|exact .here|apply Take1.there)) .nil))) rfl rfl)
    · rw [List.set_set, List.set_set]
    · rw [flen, List.length_set]
    · rw [flen, List.length_set]; rw [flen] at hc1; exact hc1

theorem free_nil (a : Nat) (m : Int) (fv : Value) (h : Handle) :
    Sl.Spec Tryz.prog 184 #[.pointer (some ⟨a, 0, none⟩), .agg #[.int .i64 h.slot, .int .i64 h.gen]] [blk a [.int .i64 m, .slice none 0 0, fv] 215 (0, 0)]
      (fun v l => v = .bool false ∧ l = [blk a [.int .i64 m, .slice none 0 0, fv] 215 (0, 0)]) := by
  refine Spec.enter Tryz.func184 rfl rfl rfl ?_
  refine SW.seq ?_
  refine SW.reg (l := [.op 0 .e, .op 1 .e]) rfl ?_
  refine rx_box (.inr rfl) rfl rfl rfl rfl rfl rfl (cl := [_, _]) rfl ?_
  intro b3
  refine rx_s rfl rfl rfl rfl rfl ?_
  refine rx_end0 ?_
  refine SW.seq ?_
  refine SW.reg (l := [.op 0 .e, .op 1 .e, .op 2 .e, .op 3 .e]) rfl ?_
  refine rx_s rfl rfl rfl rfl rfl ?_
  refine rx_ldHA rfl rfl rfl rfl rfl rfl (by (repeat first|exact .here|apply Take1.there)) Fa.ag_56 Fa.sz_56 (vs := [_, _]) (by rfl) rfl ?_
  refine rx_callH (F := ?FT44) rfl rfl rfl rfl rfl rfl rfl rfl Fa.ca_174 rfl (find_nil a m fv h) ?T44 ?_
  case T44 => (repeat (first|exact Take.nil|refine Take.cons (by (repeat first|exact .here|apply Take1.there)) ?_))
  rintro _ _ ⟨rfl, rfl⟩
  try simp only [List.cons_append, List.nil_append]
  refine rx_s rfl rfl rfl rfl rfl ?_
  refine rx_end0 ?_
  refine SW.seq ?_
  refine SW.seq ?_
  refine SW.reg (l := [.op 0 .e, .op 1 .e]) rfl ?_
  refine rx_s rfl rfl rfl rfl rfl ?_
  refine rx_eqnil rfl rfl rfl rfl rfl Fa.pt_278 rfl ?_
  refine rx_end0 ?_
  refine SW.cond rfl (fun h11 => ?_) (fun h11 => ?_)
  · skip
    refine SW.seq ?_
    refine SW.reg (l := [.op 0 .e]) rfl ?_
    refine rx_s rfl rfl rfl rfl rfl ?_
    refine rx_end0 ?_
    refine SW.ret ?_
    exact retK1 (l := [_]) (.tmp rfl .nil) ⟨rfl, rfl⟩ (.one (by (repeat first|exact .here|apply Take1.there)) .nil)
  · simp at h11
theorem free_none (a b cap : Nat) (A : Ar SNode) (rest : List Value) (fv : Value) (h : Handle) (hA : A.ok) (hf : A.find h = none) :
    Sl.Spec Tryz.prog 184 #[.pointer (some ⟨a, 0, none⟩), .agg #[.int .i64 h.slot, .int .i64 h.gen]]
      [blk a [.int .i64 A.most, .slice (some ⟨b, 0, none⟩) A.sl.length cap, fv] 215 (0, 0), blk b (flat A.sl ++ rest) 281 (0, 0)]
      (fun v l => v = .bool false ∧ l = [blk a [.int .i64 A.most, .slice (some ⟨b, 0, none⟩) A.sl.length cap, fv] 215 (0, 0), blk b (flat A.sl ++ rest) 281 (0, 0)]) := by
  refine Spec.enter Tryz.func184 rfl rfl rfl ?_
  refine SW.seq ?_
  refine SW.reg (l := [.op 0 .e, .op 1 .e]) rfl ?_
  refine rx_box (.inr rfl) rfl rfl rfl rfl rfl rfl (cl := [_, _]) rfl ?_
  intro b3
  refine rx_s rfl rfl rfl rfl rfl ?_
  refine rx_end0 ?_
  refine SW.seq ?_
  refine SW.reg (l := [.op 0 .e, .op 1 .e, .op 2 .e, .op 3 .e]) rfl ?_
  refine rx_s rfl rfl rfl rfl rfl ?_
  refine rx_ldHA rfl rfl rfl rfl rfl rfl (by (repeat first|exact .here|apply Take1.there)) Fa.ag_56 Fa.sz_56 (vs := [_, _]) (by rfl) rfl ?_
  refine rx_callH (F := ?FT45) rfl rfl rfl rfl rfl rfl rfl rfl Fa.ca_174 rfl (find_some a b cap A rest fv h hA) ?T45 ?_
  case T45 => (repeat (first|exact Take.nil|refine Take.cons (by (repeat first|exact .here|apply Take1.there)) ?_))
  rintro _ _ ⟨rfl, rfl⟩
  rw [hf]
  simp only [findV]
  try simp only [List.cons_append, List.nil_append]
  refine rx_s rfl rfl rfl rfl rfl ?_
  refine rx_end0 ?_
  refine SW.seq ?_
  refine SW.seq ?_
  refine SW.reg (l := [.op 0 .e, .op 1 .e]) rfl ?_
  refine rx_s rfl rfl rfl rfl rfl ?_
  refine rx_eqnil rfl rfl rfl rfl rfl Fa.pt_278 rfl ?_
  refine rx_end0 ?_
  refine SW.cond rfl (fun h11 => ?_) (fun h11 => ?_)
  · skip
    refine SW.seq ?_
    refine SW.reg (l := [.op 0 .e]) rfl ?_
    refine rx_s rfl rfl rfl rfl rfl ?_
    refine rx_end0 ?_
    refine SW.ret ?_
    exact retK1 (l := [_, _]) (.tmp rfl .nil) ⟨rfl, rfl⟩ (.one (by (repeat first|exact .here|apply Take1.there)) (.one (by (repeat first|exact .here|apply Take1.there)) .nil))
  · simp at h11
theorem free_some (a b cap cap2 m2 : Nat) (p2 : Option Addr) (A : Ar SNode) (rest : List Value) (h : Handle) (hA : A.ok) (i : Nat) (s : Slot SNode) (hf : A.find h = some i) (hs : A.sl[i]? = some s)
    (hc : (flat A.sl).length + rest.length = cap * 11) (hl : A.sl.length ≤ cap) :
    Sl.Spec Tryz.prog 184 #[.pointer (some ⟨a, 0, none⟩), .agg #[.int .i64 h.slot, .int .i64 h.gen]]
      [blk a [.int .i64 A.most, .slice (some ⟨b, 0, none⟩) A.sl.length cap, .slice p2 m2 cap2] 215 (0, 0), blk b (flat A.sl ++ rest) 281 (0, 0), SlOwn 3 1 (.slice p2 m2 cap2) (flat A.fr)]
      (fun v l => v = .bool true ∧ l = [ArP a { A with sl := A.sl.set i ⟨s.gen, false, SNode.zero⟩, fr := A.fr ++ [h.slot] }]) := by
  have h1 := hA.len
  have h2 := hA.most
  have h3 := hA.frlen
  have hlt : i < A.sl.length := (List.getElem?_eq_some_iff.1 hs).1
  have g0 : ∀ t : Slot SNode, (A.sl.set i t)[i]? = some t := fun t => List.getElem?_set_self hlt
  refine Spec.enter Tryz.func184 rfl rfl rfl ?_
  refine SW.seq ?_
  refine SW.reg (l := [.op 0 .e, .op 1 .e]) rfl ?_
  refine rx_box (.inr rfl) rfl rfl rfl rfl rfl rfl (cl := [_, _]) rfl ?_
  intro b3
  refine rx_s rfl rfl rfl rfl rfl ?_
  refine rx_end0 ?_
  refine SW.seq ?_
  refine SW.reg (l := [.op 0 .e, .op 1 .e, .op 2 .e, .op 3 .e]) rfl ?_
  refine rx_s rfl rfl rfl rfl rfl ?_
  refine rx_ldHA rfl rfl rfl rfl rfl rfl (by (repeat first|exact .here|apply Take1.there)) Fa.ag_56 Fa.sz_56 (vs := [_, _]) (by rfl) rfl ?_
  refine rx_callH (F := ?FT46) rfl rfl rfl rfl rfl rfl rfl rfl Fa.ca_174 rfl (find_some a b cap A rest (.slice p2 m2 cap2) h hA) ?T46 ?_
  case T46 => (repeat (first|exact Take.nil|refine Take.cons (by (repeat first|exact .here|apply Take1.there)) ?_))
  rintro _ _ ⟨rfl, rfl⟩
  rw [hf]
  simp only [findV]
  try simp only [List.cons_append, List.nil_append]
  refine rx_s rfl rfl rfl rfl rfl ?_
  refine rx_end0 ?_
  refine SW.seq ?_
  refine SW.seq ?_
  refine SW.reg (l := [.op 0 .e, .op 1 .e]) rfl ?_
  refine rx_s rfl rfl rfl rfl rfl ?_
  refine rx_eqnil rfl rfl rfl rfl rfl Fa.pt_278 rfl ?_
  refine rx_end0 ?_
  refine SW.cond rfl (fun h11 => ?_) (fun h11 => ?_)
  · simp at h11
  · skip
    refine SW.skip ?_
    try simp only [thenK, blockK, cond_true, cond_false, beq_self_eq_true, Nat.reduceBEq]
    refine SW.seq ?_
    refine SW.reg (l := [.op 0 .e]) rfl ?_
    refine rx_alloc (.inr rfl) rfl rfl rfl rfl rfl Fa.z_184 ?_
    intro b6
    refine rx_end0 ?_
    refine SW.seq ?_
    refine SW.drawT (Hs := []) (D0l := [blk b6 (enc SNode.zero) 184 (0, 0)]) (Dl := ?DT47) (F := ?FT47) Fa.mix (tp := [0, 0, 0, 1, 9, 25, 63, 127, 255]) (l := [.op 0 .s, .op 1 .s, .op 2 .p, .op 3 .s, .op 4 .s, .bar, .op 5 .e, .op 6 .s, .op 7 .s, .op 8 .e]) (by kernel_rfl) ?T47a ?T47b ?_
    case T47a => (repeat (first|exact Take.nil|refine Take.cons (by (repeat first|exact .here|apply Take1.there)) ?_))
    case T47b => (repeat (first|exact Take.nil|refine Take.cons (by (repeat first|exact .here|apply Take1.there)) ?_))
    iterate 2 refine rx_s rfl rfl rfl rfl rfl ?_
    refine rx_ldPA rfl rfl rfl rfl rfl rfl (by (repeat first|exact .here|apply Take1.there)) Fa.ag_184 Fa.sz_184 (vs := [_, _, _, _, _, _, _, _, _]) (by rfl) rfl ?_
    refine rx_s rfl rfl rfl rfl rfl ?_
    refine rx_fa rfl rfl rfl rfl rfl rfl Fa.fo_281_1 ?_
    refine rx_barAll ?_
    try simp only [List.cons_append, List.nil_append]
    refine rx_stp rfl rfl rfl rfl rfl rfl (by (repeat first|exact .here|apply Take1.there)) Fa.sz_4 (vs := [_]) rfl rfl rfl (by exact sfit hs (k := 1) (j := 1) (by decide) (by omega) rest) (cl' := _) (by exact sput (s' := ⟨s.gen, false, s.x⟩) hs (j := 1) (Nat.le_of_ble_eq_true rfl) (by omega) rfl rest) ?_
    refine rx_s rfl rfl rfl rfl rfl ?_
    refine rx_fa rfl rfl rfl rfl rfl rfl Fa.fo_281_2 ?_
    refine rx_stp rfl rfl rfl rfl rfl rfl (by (repeat first|exact .here|apply Take1.there)) Fa.sz_184 (vs := [_, _, _, _, _, _, _, _, _]) rfl rfl rfl (by exact sfit (g0 _) (k := 9) (j := 2) (by decide) (by omega) rest) (cl' := _) (by exact sput (s' := ⟨s.gen, false, SNode.zero⟩) (g0 _) (j := 2) (Nat.le_of_ble_eq_true rfl) (by omega) rfl rest) ?_
    refine rx_endD ?_
    try simp only [List.cons_append, List.nil_append]
    refine SW.seq ?_
    refine SW.drawT (Hs := [SlOwn 3 1 (.slice p2 m2 cap2) (flat A.fr)]) (D0l := []) (Dl := ?DT48) (F := ?FT48) Fa.mix (tp := [0, 0, 2, 6, 14, 0, 32, 96, 254, 511, 1023, 2047]) (l := [.op 0 .s, .op 1 .s, .op 2 .s, .op 3 .s, .op 4 .d, .op 5 .s, .op 6 .d, .op 7 .f, .op 8 .e, .op 9 .s, .op 10 .s, .bar, .op 11 .e]) (by kernel_rfl) ?T48a ?T48b ?_
    case T48a => (repeat (first|exact Take.nil|refine Take.cons (by (repeat first|exact .here|apply Take1.there)) ?_))
    case T48b => (repeat (first|exact Take.nil|refine Take.cons (by (repeat first|exact .here|apply Take1.there)) ?_))
    iterate 3 refine rx_s rfl rfl rfl rfl rfl ?_
    refine rx_fa rfl rfl rfl rfl rfl rfl Fa.fo_215_2 ?_
    refine rx_ldD1 rfl rfl rfl rfl rfl rfl rfl (by (repeat first|exact .here|apply Take1.there)) Fa.ag_121 (by rfl) ?_
    refine rx_fa rfl rfl rfl rfl rfl rfl Fa.fo_56_0 ?_
    refine rx_ldD1 rfl rfl rfl rfl rfl rfl rfl (by (repeat first|exact .here|apply Take1.there)) Fa.ag_3 (by rfl) ?_
    refine rx_bslice (.inl rfl) rfl rfl rfl rfl rfl Fa.sl_121 Fa.z_3 rfl rfl rfl rfl rfl (cl := [_]) rfl ?_
    intro b26
    refine rx_app1 rfl rfl rfl rfl rfl Fa.sl_121 Fa.z_3 rfl rfl rfl rfl rfl (by (repeat first|exact .here|apply Take1.there)) (by (repeat first|exact .here|apply Take1.there)) (ys := [_]) (by rfl) rfl rfl (by rw [ilen]; simp; omega) ?_
    intro p27 m27 c27 hm27
    refine rx_s rfl rfl rfl rfl rfl ?_
    refine rx_fa rfl rfl rfl rfl rfl rfl Fa.fo_215_2 ?_
    refine rx_barAll ?_
    try simp only [List.cons_append, List.nil_append]
    refine rx_stp rfl rfl rfl rfl rfl rfl (by (repeat first|exact .here|apply Take1.there)) Fa.sz_121 (vs := [_]) rfl rfl rfl (by rfl) (cl' := [_, _, _]) (by rfl) ?_
    refine rx_endD ?_
    try simp only [List.cons_append, List.nil_append]
    refine SW.seq ?_
    refine SW.reg (l := [.op 0 .e]) rfl ?_
    refine rx_s rfl rfl rfl rfl rfl ?_
    refine rx_end0 ?_
    refine SW.ret ?_
    refine retK1 (l := [_]) (.tmp rfl .nil) ⟨rfl, rfl⟩ (foldA (slown_mk (xs := flat (A.sl.set i ⟨s.gen, false, SNode.zero⟩)) (rest := rest) (by (repeat first|exact .here|apply Take1.there)) ?_ (flat_one _) ?_ ?_ hl (.one (by (repeat first|exact .here|apply Take1.there)) (.one (by (repeat first|exact .here|apply Take1.there)) .nil))) rfl ?_)
    · rw [List.set_set]
    · rw [flen, List.length_set]
    · rw [flen, List.length_set]; rw [flen] at hc; exact hc
    · exact (flat_append A.fr [h.slot]).symm
/-- 'Free' -/
theorem free (a : Nat) (A : Ar SNode) (h : Handle) (hA : A.ok) :
    Sl.Spec Tryz.prog 184 #[.pointer (some ⟨a, 0, none⟩), .agg #[.int .i64 h.slot, .int .i64 h.gen]] [ArP a A]
      (fun v l => v = .bool (A.free SNode.zero h).2 ∧ l = [ArP a (A.free SNode.zero h).1]) := by
  refine Holt.Spec.exH 0 rfl ?_
  rintro ⟨sv, fv⟩
  simp only [List.cons_append, List.nil_append]
  refine Holt.Spec.slshape 2 rfl ?_
  rintro p2 m2 c2 rfl hm2
  refine Holt.Spec.slopen 1 rfl ?_ ?_
  · rintro rfl hx
    have hn : A.sl = [] := flat_nil hx
    have hg : A.find h = none := by unfold Ar.find; rw [hn, if_pos (by simp; omega)]
    have hfr : A.free SNode.zero h = (A, false) := by unfold Ar.free; rw [hg]
    rw [hfr]
    refine Holt.Spec.conseq (Sl.Spec.frame (F := [SlOwn 3 1 (.slice p2 m2 c2) (flat A.fr)]) (free_nil a A.most _ h)) ?_
    rintro v l ⟨l', ⟨rfl, rfl⟩, rfl⟩
    exact ⟨[_], ⟨rfl, rfl⟩, foldA (slown_nil _ _ (.one .here (.one .here .nil))) (by rw [hn]; rfl) rfl⟩
  · rintro b len cap rest rfl hx hy hlc h1
    rw [flen] at hx
    have e1 : len = A.sl.length := by omega
    subst e1
    rcases hf : A.find h with _ | i
    · have hfr : A.free SNode.zero h = (A, false) := by unfold Ar.free; rw [hf]
      rw [hfr]
      refine Sl.Spec.pre (EntL.ent (.one (.there .here) (.one .here (.one .here .nil)))) ?_
      refine Holt.Spec.conseq (Sl.Spec.frame (F := [SlOwn 3 1 (.slice p2 m2 c2) (flat A.fr)]) (free_none a b cap A rest _ h hA hf)) ?_
      rintro v l ⟨l', ⟨rfl, rfl⟩, rfl⟩
      exact ⟨[_], ⟨rfl, rfl⟩, foldA (slown_mk (.there .here) rfl h1 (flen _) hy hlc (.one .here (.one .here .nil))) rfl rfl⟩
    · obtain ⟨s, hs, _⟩ := Ar.find_get hf
      have hfr : A.free SNode.zero h = ({ A with sl := A.sl.set i ⟨s.gen, false, SNode.zero⟩, fr := A.fr ++ [h.slot] }, true) := by unfold Ar.free; rw [hf]; simp only [hs]
      rw [hfr]
      exact Sl.Spec.pre (EntL.ent (.one (.there .here) (.one .here (.one .here .nil)))) (free_some a b cap c2 m2 p2 A rest h hA i s hf hs hy hlc)
end ArS
end Go.Proofs.YtikkegelplllmaaGreatDoor
/- A version while it is made, of SNode: items. -/
namespace Go.Proofs.YtikkegelplllmaaGreatDoor
open Go Go.Sl Go.Holt Go.Proofs
open Go.Holt.Enc (enc)
namespace ItS
open ArS (ArP getV)

abbrev TR := T Int Spot
/-- An item. -/
def IP (A : Ar SNode) (p : Option Addr) (t : TR) : HProp := ItemP 273 ((0 : Int) : Int) (⟨false, 0, ⟨#[]⟩⟩ : Spot) A p t
/-- A map's block; an edit's block. -/
abbrev MB (m a : Nat) : HProp := blk m [.pointer (some ⟨a, 0, none⟩), .func (.func 63) #[] #[]] 186 (0, 0)
abbrev EB (e m : Nat) (gv : Value) : HProp := blk e [.pointer (some ⟨m, 0, none⟩), gv] 241 (0, 0)
abbrev IB (b : Nat) (h : Handle) (k : Int) (v : Spot) (pl pr : Option Addr) (hi : Int) : HProp := blk b (openC h k v pl pr hi) 273 (0, 0)

/-- 'Load' -/
theorem load (m a : Nat) (A : Ar SNode) (h : Handle) (hA : A.ok) :
    Sl.Spec Tryz.prog 119 #[.pointer (some ⟨m, 0, none⟩), .agg #[.int .i64 h.slot, .int .i64 h.gen]] [MB m a, ArP a A]
      (fun v l => v = getV (A.get h) ∧ l = [MB m a, ArP a A]) := by
  have hc : ∃ x q, getV (A.get h) = .tuple #[.agg (enc (x : SNode)).toArray, .bool q] := by
    unfold getV; split <;> exact ⟨_, _, rfl⟩
  obtain ⟨x, q, hc⟩ := hc
  have hg := ArS.get a A h hA
  rw [hc] at hg ⊢
  refine Spec.enter Tryz.func119 rfl rfl rfl ?_
  refine SW.seq ?_
  refine SW.reg (l := [.op 0 .e, .op 1 .e, .op 2 .e]) rfl ?_
  refine rx_box (.inr rfl) rfl rfl rfl rfl rfl rfl (cl := [_, _]) rfl ?_
  intro b3
  refine rx_alloc (.inr rfl) rfl rfl rfl rfl rfl Fa.z_184 ?_
  intro b4
  refine rx_s rfl rfl rfl rfl rfl ?_
  refine rx_end0 ?_
  refine SW.seq ?_
  refine SW.drawT (Hs := [ArP a A]) (D0l := []) (Dl := ?DT196) (F := ?FT196) Fa.mix (tp := [0, 1, 3, 7, 0, 31, 63, 63, 255, 511]) (l := [.op 0 .s, .op 1 .s, .op 2 .s, .op 3 .d, .op 4 .d, .op 5 .e, .op 6 .s, .op 7 .s, .bar, .op 8 .e, .op 9 .s]) (by kernel_rfl) ?T196a ?T196b ?_
  case T196a => (repeat (first|exact Take.nil|refine Take.cons (by (repeat first|exact .here|apply Take1.there)) ?_))
  case T196b => (repeat (first|exact Take.nil|refine Take.cons (by (repeat first|exact .here|apply Take1.there)) ?_))
  iterate 2 refine rx_s rfl rfl rfl rfl rfl ?_
  refine rx_fa rfl rfl rfl rfl rfl rfl Fa.fo_186_0 ?_
  refine rx_ldD1 rfl rfl rfl rfl rfl rfl rfl (by (repeat first|exact .here|apply Take1.there)) Fa.ag_181 (by rfl) ?_
  refine rx_ldDA rfl rfl rfl rfl rfl rfl rfl (by (repeat first|exact .here|apply Take1.there)) Fa.ag_56 Fa.sz_56 (vs := [_, _]) (by rfl) rfl ?_
  refine rx_callH (F := ?FT197) rfl rfl rfl rfl rfl rfl rfl rfl Fa.ca_146 rfl (hg) ?T197 ?_
  case T197 => (repeat (first|exact Take.nil|refine Take.cons (by (repeat first|exact .here|apply Take1.there)) ?_))
  rintro _ _ ⟨rfl, rfl⟩
  try simp only [List.cons_append, List.nil_append]
  iterate 2 refine rx_s rfl rfl rfl rfl rfl ?_
  refine rx_barAll ?_
  try simp only [List.cons_append, List.nil_append]
  refine rx_stp rfl rfl rfl rfl rfl rfl (by (repeat first|exact .here|apply Take1.there)) Fa.sz_184 (vs := [_, _, _, _, _, _, _, _, _]) rfl rfl rfl (by rfl) (cl' := [_, _, _, _, _, _, _, _, _]) (by rfl) ?_
  refine rx_s rfl rfl rfl rfl rfl ?_
  refine rx_endD ?_
  try simp only [List.cons_append, List.nil_append]
  refine SW.ret ?_
  exact retK2 (l := [_, _]) (.cell rfl (by (repeat first|exact .here|apply Take1.there)) (.inr ⟨9, _, Fa.ag_184, Fa.sz_184, rfl, rfl, rfl⟩) (.tmp rfl .nil)) ⟨rfl, rfl⟩ (.one (by (repeat first|exact .here|apply Take1.there)) (.one (by (repeat first|exact .here|apply Take1.there)) .nil))

theorem item_nil (v0 : Value) (A : Ar SNode) :
    Sl.Spec Tryz.prog 143 #[v0, .agg #[.int .i64 0, .int .i64 0]] [] (fun v l => v = .pointer none ∧ l = [IP A none .nil]) := by
  refine Spec.enter Tryz.func143 rfl rfl rfl ?_
  refine SW.seq ?_
  refine SW.reg (l := [.op 0 .e, .op 1 .e]) rfl ?_
  refine rx_box (.inr rfl) rfl rfl rfl rfl rfl rfl (cl := [_, _]) rfl ?_
  intro b3
  refine rx_s rfl rfl rfl rfl rfl ?_
  refine rx_end0 ?_
  refine SW.seq ?_
  refine SW.seq ?_
  refine SW.reg (l := [.op 0 .e, .op 1 .e, .op 2 .e]) rfl ?_
  refine rx_ldHA rfl rfl rfl rfl rfl rfl (by (repeat first|exact .here|apply Take1.there)) Fa.ag_56 Fa.sz_56 (vs := [_, _]) (by rfl) rfl ?_
  refine rx_build rfl rfl rfl rfl rfl Fa.st_56 rfl (cs := [_, _]) rfl ?_
  refine rx_eqS rfl rfl rfl rfl rfl Fa.eq_56 rfl rfl rfl ?_
  refine rx_end0 ?_
  refine SW.cond (b := true) rfl (fun _ => ?_) (fun h => nomatch h)
  refine SW.seq ?_
  refine SW.reg (l := [.op 0 .e]) rfl ?_
  refine rx_s rfl rfl rfl rfl rfl ?_
  refine rx_end0 ?_
  refine SW.ret ?_
  exact retK1 (l := [_]) (.tmp rfl .nil) ⟨rfl, rfl⟩ (.cons .nil ItemP.nil .nil)
theorem item_node (v0 : Value) (A : Ar SNode) (h : Handle) (k : Int) (x : Spot) (l r : TR) (hi : Int) (h0 : h ≠ ⟨0, 0⟩) (hh : (T.node h k x l r hi).holds A) :
    Sl.Spec Tryz.prog 143 #[v0, .agg #[.int .i64 h.slot, .int .i64 h.gen]] [] (fun v l' => ∃ p, v = .pointer p ∧ l' = [IP A p (.node h k x l r hi)]) := by
  refine Spec.enter Tryz.func143 rfl rfl rfl ?_
  refine SW.seq ?_
  refine SW.reg (l := [.op 0 .e, .op 1 .e]) rfl ?_
  refine rx_box (.inr rfl) rfl rfl rfl rfl rfl rfl (cl := [_, _]) rfl ?_
  intro b3
  refine rx_s rfl rfl rfl rfl rfl ?_
  refine rx_end0 ?_
  refine SW.seq ?_
  refine SW.seq ?_
  refine SW.reg (l := [.op 0 .e, .op 1 .e, .op 2 .e]) rfl ?_
  refine rx_ldHA rfl rfl rfl rfl rfl rfl (by (repeat first|exact .here|apply Take1.there)) Fa.ag_56 Fa.sz_56 (vs := [_, _]) (by rfl) rfl ?_
  refine rx_build rfl rfl rfl rfl rfl Fa.st_56 rfl (cs := [_, _]) rfl ?_
  refine rx_eqS rfl rfl rfl rfl rfl Fa.eq_56 rfl rfl rfl ?_
  refine rx_end0 ?_
  refine SW.cond rfl (fun h7 => ?_) (fun h7 => ?_)
  · (exfalso; apply h0; simp at h7; rcases h with ⟨h1, h2⟩; simp at h7; simp [h7])
  · skip
    refine SW.skip ?_
    try simp only [thenK, blockK, cond_true, cond_false, beq_self_eq_true, Nat.reduceBEq]
    refine SW.seq ?_
    refine SW.reg (l := [.op 0 .e, .op 1 .e, .op 2 .e, .op 3 .e]) rfl ?_
    refine rx_ldHA rfl rfl rfl rfl rfl rfl (by (repeat first|exact .here|apply Take1.there)) Fa.ag_56 Fa.sz_56 (vs := [_, _]) (by rfl) rfl ?_
    refine rx_build rfl rfl rfl rfl rfl Fa.st_273 rfl (cs := [_, _, _, _, _, _, _, _, _, _]) rfl ?_
    refine rx_box (.inr rfl) rfl rfl rfl rfl rfl rfl (cl := [_, _, _, _, _, _, _, _, _, _]) rfl ?_
    intro b10
    refine rx_s rfl rfl rfl rfl rfl ?_
    refine rx_end0 ?_
    refine SW.ret ?_
    exact retK1 (l := [_]) (.tmp rfl .nil) ⟨some ⟨b10, 0, none⟩, rfl, rfl⟩ (.cons (.cons (by (repeat first|exact .here|apply Take1.there)) .nil) (ItemP.shut h0 hh) .nil)
theorem item (v0 : Value) (A : Ar SNode) (t : TR) (ht : t.holds A) (s g : Int) (e1 : s = t.hd.slot) (e2 : g = t.hd.gen) :
    Sl.Spec Tryz.prog 143 #[v0, .agg #[.int .i64 s, .int .i64 g]] [] (fun v l => ∃ p, v = .pointer p ∧ l = [IP A p t]) := by
  subst e1 e2
  cases t with
  | nil => exact (item_nil v0 A).mono fun v l ⟨a, b⟩ => ⟨none, a, b⟩
  | node h k x l r hi => exact item_node v0 A h k x l r hi (fun q => by have := Ar.get_slot ht.1; rw [q] at this; simp at this) ht

/-- 'opened' -/
theorem opened (e m a : Nat) (gv : Value) (A : Ar SNode) (hA : A.ok) (p : Option Addr) (h : Handle) (k : Int) (x : Spot) (l r : TR) (hi : Int) :
    Sl.Spec Tryz.prog 170 #[.pointer (some ⟨e, 0, none⟩), .pointer p] [EB e m gv, MB m a, ArP a A, IP A p (.node h k x l r hi)]
      (fun v l' => ∃ b pl pr, p = some ⟨b, 0, none⟩ ∧ v = .pointer (some ⟨b, 0, none⟩) ∧ (h ≠ ⟨0, 0⟩ → (T.node h k x l r hi).holds A) ∧
        l' = [EB e m gv, MB m a, ArP a A, IB b h k x pl pr hi, IP A pl l, IP A pr r]) := by
  refine Holt.Spec.itemNode (tk3) ?_ ?_
  · rintro b rfl h0 hh
    have hg := hh.1
    have hl := load m a A h hA
    rw [hg] at hl
    refine Spec.enter Tryz.func170 rfl rfl rfl ?_
    simp only [shutC, enc, Enc.enc, List.cons_append, List.nil_append]
    refine SW.seq ?_
    refine SW.reg (l := [.op 0 .e]) rfl ?_
    refine rx_s rfl rfl rfl rfl rfl ?_
    refine rx_end0 ?_
    refine SW.seq ?_
    refine SW.seq ?_
    refine SW.reg (l := [.op 0 .e, .op 1 .e, .op 2 .e, .op 3 .e]) rfl ?_
    iterate 2 refine rx_s rfl rfl rfl rfl rfl ?_
    refine rx_fa rfl rfl rfl rfl rfl rfl Fa.fo_273_1 ?_
    refine rx_ldH1 rfl rfl rfl rfl rfl rfl (by (repeat first|exact .here|apply Take1.there)) Fa.ag_4 (by rfl) ?_
    refine rx_end0 ?_
    refine SW.cond (b := false) rfl (fun h => nomatch h) (fun _ => ?_)
    refine SW.skip ?_
    try simp only [thenK, blockK, cond_true, cond_false, beq_self_eq_true, Nat.reduceBEq]
    refine SW.seq ?_
    refine SW.drawT (Hs := [MB m a, ArP a A]) (D0l := []) (Dl := ?DT198) (F := ?FT198) Fa.mix (tp := [0, 1, 3, 7, 0, 16, 48, 112, 255, 511, 1023, 1023, 0, 6143, 16383]) (l := [.op 0 .s, .op 1 .s, .op 2 .s, .op 3 .d, .op 4 .s, .op 5 .s, .op 6 .s, .op 7 .d, .op 8 .e, .op 9 .s, .op 10 .s, .op 11 .s, .op 12 .f, .bar, .op 13 .e, .op 14 .s]) (by kernel_rfl) ?T198a ?T198b ?_
    case T198a => (repeat (first|exact Take.nil|refine Take.cons (by (repeat first|exact .here|apply Take1.there)) ?_))
    case T198b => (repeat (first|exact Take.nil|refine Take.cons (by (repeat first|exact .here|apply Take1.there)) ?_))
    iterate 2 refine rx_s rfl rfl rfl rfl rfl ?_
    refine rx_fa rfl rfl rfl rfl rfl rfl Fa.fo_241_0 ?_
    refine rx_ldD1 rfl rfl rfl rfl rfl rfl rfl (by (repeat first|exact .here|apply Take1.there)) Fa.ag_78 (by rfl) ?_
    iterate 2 refine rx_s rfl rfl rfl rfl rfl ?_
    refine rx_fa rfl rfl rfl rfl rfl rfl Fa.fo_273_0 ?_
    refine rx_ldDA rfl rfl rfl rfl rfl rfl rfl (by (repeat first|exact .here|apply Take1.there)) Fa.ag_56 Fa.sz_56 (vs := [_, _]) (by rfl) rfl ?_
    refine rx_callH (F := ?FT199) rfl rfl rfl rfl rfl rfl rfl rfl Fa.ca_119 rfl (hl) ?T199 ?_
    case T199 => (repeat (first|exact Take.nil|refine Take.cons (by (repeat first|exact .here|apply Take1.there)) ?_))
    rintro _ _ ⟨rfl, rfl⟩
    simp only [getV]
    try simp only [List.cons_append, List.nil_append]
    iterate 3 refine rx_s rfl rfl rfl rfl rfl ?_
    refine rx_alloc (.inl rfl) rfl rfl rfl rfl rfl Fa.z_184 ?_
    intro b5
    refine rx_barAll ?_
    try simp only [List.cons_append, List.nil_append]
    refine rx_stp rfl rfl rfl rfl rfl rfl (by (repeat first|exact .here|apply Take1.there)) Fa.sz_184 (vs := [_, _, _, _, _, _, _, _, _]) rfl rfl rfl (by rfl) (cl' := [_, _, _, _, _, _, _, _, _]) (by rfl) ?_
    refine rx_s rfl rfl rfl rfl rfl ?_
    refine rx_endD ?_
    try simp only [List.cons_append, List.nil_append]
    refine SW.seq ?_
    refine SW.drawT (Hs := []) (D0l := [blk b5 (enc (⟨k, x, l.hd, r.hd, hi⟩ : SNode)) 184 (0, 0)]) (Dl := ?DT200) (F := ?FT200) Fa.mix (tp := [0, 0, 0, 0, 0, 16, 0, 64, 0, 256, 1, 1025, 3073, 7219, 15411, 31795, 64759, 130295, 261367, 524287, 1048575, 2097151]) (l := [.op 0 .s, .op 1 .s, .op 2 .s, .op 3 .s, .op 4 .s, .op 5 .p, .op 6 .s, .op 7 .p, .op 8 .s, .op 9 .p, .op 10 .s, .op 11 .s, .bar, .op 12 .e, .op 13 .s, .op 14 .s, .op 15 .e, .op 16 .s, .op 17 .s, .op 18 .e, .op 19 .s, .op 20 .s, .op 21 .e]) (by kernel_rfl) ?T200a ?T200b ?_
    case T200a => (repeat (first|exact Take.nil|refine Take.cons (by (repeat first|exact .here|apply Take1.there)) ?_))
    case T200b => (repeat (first|exact Take.nil|refine Take.cons (by (repeat first|exact .here|apply Take1.there)) ?_))
    iterate 4 refine rx_s rfl rfl rfl rfl rfl ?_
    refine rx_fa rfl rfl rfl rfl rfl rfl Fa.fo_184_0 ?_
    refine rx_ldP1 rfl rfl rfl rfl rfl rfl (by (repeat first|exact .here|apply Take1.there)) Fa.ag_3 (by rfl) ?_
    refine rx_fa rfl rfl rfl rfl rfl rfl Fa.fo_184_1 ?_
    refine rx_ldPA rfl rfl rfl rfl rfl rfl (by (repeat first|exact .here|apply Take1.there)) Fa.ag_98 Fa.sz_98 (vs := [_, _, _]) (by rfl) rfl ?_
    refine rx_fa rfl rfl rfl rfl rfl rfl Fa.fo_184_4 ?_
    refine rx_ldP1 rfl rfl rfl rfl rfl rfl (by (repeat first|exact .here|apply Take1.there)) Fa.ag_3 (by rfl) ?_
    refine rx_s rfl rfl rfl rfl rfl ?_
    refine rx_fa rfl rfl rfl rfl rfl rfl Fa.fo_273_1 ?_
    refine rx_barAll ?_
    try simp only [List.cons_append, List.nil_append]
    refine rx_stp rfl rfl rfl rfl rfl rfl (by (repeat first|exact .here|apply Take1.there)) Fa.sz_4 (vs := [_]) rfl rfl rfl (by rfl) (cl' := [_, _, _, _, _, _, _, _, _, _]) (by rfl) ?_
    refine rx_s rfl rfl rfl rfl rfl ?_
    refine rx_fa rfl rfl rfl rfl rfl rfl Fa.fo_273_2 ?_
    refine rx_stp rfl rfl rfl rfl rfl rfl (by (repeat first|exact .here|apply Take1.there)) Fa.sz_3 (vs := [_]) rfl rfl rfl (by rfl) (cl' := [_, _, _, _, _, _, _, _, _, _]) (by rfl) ?_
    refine rx_s rfl rfl rfl rfl rfl ?_
    refine rx_fa rfl rfl rfl rfl rfl rfl Fa.fo_273_3 ?_
    refine rx_stp rfl rfl rfl rfl rfl rfl (by (repeat first|exact .here|apply Take1.there)) Fa.sz_98 (vs := [_, _, _]) rfl rfl rfl (by rfl) (cl' := [_, _, _, _, _, _, _, _, _, _]) (by rfl) ?_
    refine rx_s rfl rfl rfl rfl rfl ?_
    refine rx_fa rfl rfl rfl rfl rfl rfl Fa.fo_273_6 ?_
    refine rx_stp rfl rfl rfl rfl rfl rfl (by (repeat first|exact .here|apply Take1.there)) Fa.sz_3 (vs := [_]) rfl rfl rfl (by rfl) (cl' := [_, _, _, _, _, _, _, _, _, _]) (by rfl) ?_
    refine rx_endD ?_
    try simp only [List.cons_append, List.nil_append]
    refine SW.seq ?_
    refine SW.drawAll Fa.mix (tp := [0, 0, 0, 0, 8, 28, 0, 0, 128, 508, 1021, 2045, 4093, 8191, 16383, 32767]) (l := [.op 0 .s, .op 1 .s, .op 2 .s, .op 3 .s, .op 4 .d, .op 5 .e, .op 6 .s, .op 7 .s, .op 8 .d, .op 9 .e, .op 10 .s, .op 11 .s, .bar, .op 12 .e, .op 13 .s, .op 14 .s, .op 15 .e]) (by kernel_rfl) ?_
    iterate 3 refine rx_s rfl rfl rfl rfl rfl ?_
    refine rx_fa rfl rfl rfl rfl rfl rfl Fa.fo_184_2 ?_
    refine rx_ldDA rfl rfl rfl rfl rfl rfl rfl (by (repeat first|exact .here|apply Take1.there)) Fa.ag_56 Fa.sz_56 (vs := [_, _]) (by rfl) rfl ?_
    refine rx_callH (F := ?FT201) rfl rfl rfl rfl rfl rfl rfl rfl Fa.ca_143 rfl (item _ A l hh.2.1 _ _ rfl rfl) ?T201 ?_
    case T201 => (repeat (first|exact Take.nil|refine Take.cons (by (repeat first|exact .here|apply Take1.there)) ?_))
    rintro _ _ ⟨pl, rfl, rfl⟩
    try simp only [List.cons_append, List.nil_append]
    refine rx_s rfl rfl rfl rfl rfl ?_
    refine rx_fa rfl rfl rfl rfl rfl rfl Fa.fo_184_3 ?_
    refine rx_ldDA rfl rfl rfl rfl rfl rfl rfl (by (repeat first|exact .here|apply Take1.there)) Fa.ag_56 Fa.sz_56 (vs := [_, _]) (by rfl) rfl ?_
    refine rx_callH (F := ?FT202) rfl rfl rfl rfl rfl rfl rfl rfl Fa.ca_143 rfl (item _ A r hh.2.2 _ _ rfl rfl) ?T202 ?_
    case T202 => (repeat (first|exact Take.nil|refine Take.cons (by (repeat first|exact .here|apply Take1.there)) ?_))
    rintro _ _ ⟨pr, rfl, rfl⟩
    try simp only [List.cons_append, List.nil_append]
    refine rx_s rfl rfl rfl rfl rfl ?_
    refine rx_fa rfl rfl rfl rfl rfl rfl Fa.fo_273_4 ?_
    refine rx_barAll ?_
    try simp only [List.cons_append, List.nil_append]
    refine rx_stp rfl rfl rfl rfl rfl rfl (by (repeat first|exact .here|apply Take1.there)) Fa.sz_243 (vs := [_]) rfl rfl rfl (by rfl) (cl' := [_, _, _, _, _, _, _, _, _, _]) (by rfl) ?_
    refine rx_s rfl rfl rfl rfl rfl ?_
    refine rx_fa rfl rfl rfl rfl rfl rfl Fa.fo_273_5 ?_
    refine rx_stp rfl rfl rfl rfl rfl rfl (by (repeat first|exact .here|apply Take1.there)) Fa.sz_243 (vs := [_]) rfl rfl rfl (by rfl) (cl' := [_, _, _, _, _, _, _, _, _, _]) (by rfl) ?_
    refine rx_endD ?_
    try simp only [List.cons_append, List.nil_append]
    refine SW.seq ?_
    refine SW.reg (l := [.op 0 .e, .op 1 .e]) rfl ?_
    iterate 2 refine rx_s rfl rfl rfl rfl rfl ?_
    refine rx_end0 ?_
    refine SW.ret ?_
    exact retK1 (l := [_, _, _, _, _, _]) (.tmp rfl .nil) ⟨b, pl, pr, rfl, rfl, fun _ => hh, rfl⟩ (.one (by (repeat first|exact .here|apply Take1.there)) (.one (by (repeat first|exact .here|apply Take1.there)) (.one (by (repeat first|exact .here|apply Take1.there)) (.one (by (repeat first|exact .here|apply Take1.there)) (.one (by (repeat first|exact .here|apply Take1.there)) (.one (by (repeat first|exact .here|apply Take1.there)) .nil))))))
  · rintro b pl pr rfl hh
    refine Spec.enter Tryz.func170 rfl rfl rfl ?_
    simp only [openC, enc, Enc.enc, List.cons_append, List.nil_append]
    refine SW.seq ?_
    refine SW.reg (l := [.op 0 .e]) rfl ?_
    refine rx_s rfl rfl rfl rfl rfl ?_
    refine rx_end0 ?_
    refine SW.seq ?_
    refine SW.seq ?_
    refine SW.reg (l := [.op 0 .e, .op 1 .e, .op 2 .e, .op 3 .e]) rfl ?_
    iterate 2 refine rx_s rfl rfl rfl rfl rfl ?_
    refine rx_fa rfl rfl rfl rfl rfl rfl Fa.fo_273_1 ?_
    refine rx_ldH1 rfl rfl rfl rfl rfl rfl (by (repeat first|exact .here|apply Take1.there)) Fa.ag_4 (by rfl) ?_
    refine rx_end0 ?_
    refine SW.cond (b := true) rfl (fun _ => ?_) (fun h => nomatch h)
    refine SW.seq ?_
    refine SW.reg (l := [.op 0 .e, .op 1 .e]) rfl ?_
    iterate 2 refine rx_s rfl rfl rfl rfl rfl ?_
    refine rx_end0 ?_
    refine SW.ret ?_
    exact retK1 (l := [_, _, _, _, _, _]) (.tmp rfl .nil) ⟨b, pl, pr, rfl, rfl, hh, rfl⟩ (.one (by (repeat first|exact .here|apply Take1.there)) (.one (by (repeat first|exact .here|apply Take1.there)) (.one (by (repeat first|exact .here|apply Take1.there)) (.one (by (repeat first|exact .here|apply Take1.there)) (.one (by (repeat first|exact .here|apply Take1.there)) (.one (by (repeat first|exact .here|apply Take1.there)) .nil))))))

def IQ (A : Ar SNode) (p : Option Addr) (t : TR) : HProp := ItemO 273 ((0 : Int) : Int) (⟨false, 0, ⟨#[]⟩⟩ : Spot) A p t
abbrev GL (gv : Value) (g : List Handle) : HProp := SlOwn 56 2 gv (flat g)
theorem ioNil {A : Ar SNode} : EntS (star []) (IQ A none .nil) := ItemP.nil (ty := 273) (zk := ((0 : Int) : Int)) (zv := (⟨false, 0, ⟨#[]⟩⟩ : Spot)) (A := A)
theorem ipNil {A : Ar SNode} : EntS (star []) (IP A none .nil) := ItemP.nil (ty := 273) (zk := ((0 : Int) : Int)) (zv := (⟨false, 0, ⟨#[]⟩⟩ : Spot)) (A := A)
theorem ioOpen {A : Ar SNode} {h : Handle} {k : Int} {x : Spot} {l r : TR} {hi : Int} {b : Nat} {pl pr : Option Addr} (hh : h ≠ ⟨0, 0⟩ → (T.node h k x l r hi).holds A) :
    EntS (star [IB b h k x pl pr hi, IQ A pl l, IQ A pr r]) (IP A (some ⟨b, 0, none⟩) (.node h k x l r hi)) := by
  refine EntS.trans ?_ (ItemP.open (pl := pl) (pr := pr) hh)
  exact EntS.sep (EntS.refl _) (EntS.sep (EntS.of_ent ItemO.weak) (EntS.sep (EntS.of_ent ItemO.weak) (EntS.refl _)))

/-- 'high' -/
theorem high (e m a : Nat) (gv : Value) (A : Ar SNode) (hA : A.ok) (p : Option Addr) (t : TR) :
    Sl.Spec Tryz.prog 194 #[.pointer (some ⟨e, 0, none⟩), .pointer p] [EB e m gv, MB m a, ArP a A, IP A p t]
      (fun v l' => v = .int .i64 t.hgt ∧ l' = [EB e m gv, MB m a, ArP a A, IQ A p t]) := by
  cases t with
  | nil =>
    refine Holt.Spec.itemNil tk3 ?_
    rintro rfl
    refine Spec.enter Tryz.func194 rfl rfl rfl ?_
    refine SW.seq ?_
    refine SW.reg (l := [.op 0 .e]) rfl ?_
    refine rx_s rfl rfl rfl rfl rfl ?_
    refine rx_end0 ?_
    refine SW.seq ?_
    refine SW.seq ?_
    refine SW.reg (l := [.op 0 .e, .op 1 .e]) rfl ?_
    refine rx_s rfl rfl rfl rfl rfl ?_
    refine rx_eqnil rfl rfl rfl rfl rfl Fa.pt_243 rfl ?_
    refine rx_end0 ?_
    refine SW.cond (b := true) rfl (fun _ => ?_) (fun h => nomatch h)
    refine SW.seq ?_
    refine SW.reg (l := [.op 0 .e]) rfl ?_
    refine rx_s rfl rfl rfl rfl rfl ?_
    refine rx_end0 ?_
    refine SW.ret ?_
    exact retK1 (l := [_, _, _, _]) (.tmp rfl .nil) ⟨rfl, rfl⟩ (.one (by (repeat first|exact .here|apply Take1.there)) (.one (by (repeat first|exact .here|apply Take1.there)) (.one (by (repeat first|exact .here|apply Take1.there)) (.cons .nil ioNil .nil))))
  | node h k x l r hi =>
    have ho := opened e m a gv A hA p h k x l r hi
    rcases p with _ | p
    · exact Holt.Spec.itemNode tk3 (fun b q => by cases q) (fun b pl pr q => by cases q)
    refine Spec.enter Tryz.func194 rfl rfl rfl ?_
    refine SW.seq ?_
    refine SW.reg (l := [.op 0 .e]) rfl ?_
    refine rx_s rfl rfl rfl rfl rfl ?_
    refine rx_end0 ?_
    refine SW.seq ?_
    refine SW.seq ?_
    refine SW.reg (l := [.op 0 .e, .op 1 .e]) rfl ?_
    refine rx_s rfl rfl rfl rfl rfl ?_
    refine rx_eqnil rfl rfl rfl rfl rfl Fa.pt_243 rfl ?_
    refine rx_end0 ?_
    refine SW.cond (b := false) rfl (fun h => nomatch h) (fun _ => ?_)
    refine SW.skip ?_
    try simp only [thenK, blockK, cond_true, cond_false, beq_self_eq_true, Nat.reduceBEq]
    refine SW.seq ?_
    refine SW.reg (l := [.op 0 .e, .op 1 .e, .op 2 .e, .op 3 .e, .op 4 .e, .op 5 .e, .op 6 .e]) rfl ?_
    iterate 2 refine rx_s rfl rfl rfl rfl rfl ?_
    refine rx_callH (F := ?FT203) rfl rfl rfl rfl rfl rfl rfl rfl Fa.ca_170 rfl (ho) ?T203 ?_
    case T203 => (repeat (first|exact Take.nil|refine Take.cons (by (repeat first|exact .here|apply Take1.there)) ?_))
    rintro _ _ ⟨b, pl, pr, hp, rfl, hh, rfl⟩
    try simp only [List.cons_append, List.nil_append]
    refine rx_s rfl rfl rfl rfl rfl ?_
    refine rx_fa rfl rfl rfl rfl rfl rfl Fa.fo_273_6 ?_
    refine rx_ldH1 rfl rfl rfl rfl rfl rfl (by (repeat first|exact .here|apply Take1.there)) Fa.ag_3 (by rfl) ?_
    refine rx_s rfl rfl rfl rfl rfl ?_
    refine rx_end0 ?_
    refine SW.ret ?_
    refine retK1 (l := [_, _, _, _]) (.tmp rfl .nil) ⟨rfl, rfl⟩ (.one (by (repeat first|exact .here|apply Take1.there)) (.one (by (repeat first|exact .here|apply Take1.there)) (.one (by (repeat first|exact .here|apply Take1.there)) (.cons (.cons (by (repeat first|exact .here|apply Take1.there)) (.cons (by (repeat first|exact .here|apply Take1.there)) (.cons (by (repeat first|exact .here|apply Take1.there)) .nil))) ?_ .nil))))
    rw [hp]; exact ItemO.mk hh

/-- 'leave' -/
theorem leave (e m b : Nat) (gv : Value) (g : List Handle) (hg : g.length ≤ 1000000) (h : Handle) (k : Int) (x : Spot) (pl pr : Option Addr) (hi : Int) :
    Sl.Spec Tryz.prog 172 #[.pointer (some ⟨e, 0, none⟩), .pointer (some ⟨b, 0, none⟩)] [EB e m gv, GL gv g, IB b h k x pl pr hi]
      (fun v l => ∃ gv', v = .tuple #[] ∧ l = [EB e m gv', GL gv' (g ++ T.lv h), IB b h k x pl pr hi]) := by
  refine Holt.Spec.slshape 1 rfl ?_
  rintro p0 m0 c0 rfl hm0
  have hfl : (flat g).length = g.length * 2 := flat_len g
  refine Spec.enter Tryz.func172 rfl rfl rfl ?_
  simp only [IB, openC, enc, Enc.enc, List.cons_append, List.nil_append]
  refine SW.seq ?_
  refine SW.reg (l := [.op 0 .e, .op 1 .e, .op 2 .e, .op 3 .e, .op 4 .e, .op 5 .e, .op 6 .e, .op 7 .e, .op 8 .e, .op 9 .e]) rfl ?_
  refine rx_s rfl rfl rfl rfl rfl ?_
  refine rx_nenil rfl rfl rfl rfl rfl Fa.pt_243 rfl ?_
  iterate 3 refine rx_s rfl rfl rfl rfl rfl ?_
  refine rx_fa rfl rfl rfl rfl rfl rfl Fa.fo_273_0 ?_
  refine rx_ldHA rfl rfl rfl rfl rfl rfl (by (repeat first|exact .here|apply Take1.there)) Fa.ag_56 Fa.sz_56 (vs := [_, _]) (by rfl) rfl ?_
  refine rx_build rfl rfl rfl rfl rfl Fa.st_56 rfl (cs := [_, _]) rfl ?_
  refine rx_neS rfl rfl rfl rfl rfl Fa.eq_56 rfl rfl rfl ?_
  refine rx_s rfl rfl rfl rfl rfl ?_
  refine rx_end0 ?_
  refine SW.cond rfl (fun h13 => ?_) (fun h13 => ?_)
  · skip
    have h0 : h ≠ ⟨0, 0⟩ := by rintro rfl; simp at h13
    have hl : T.lv h = [h] := by unfold T.lv; rw [if_neg h0]
    rw [hl]
    refine SW.drawT (Hs := [GL (.slice p0 m0 c0) g]) (D0l := []) (Dl := ?DT204) (F := ?FT204) Fa.mix (tp := [0, 0, 2, 6, 14, 0, 32, 96, 224, 480, 1022, 2047, 4095, 8191]) (l := [.op 0 .s, .op 1 .s, .op 2 .s, .op 3 .s, .op 4 .d, .op 5 .s, .op 6 .s, .op 7 .s, .op 8 .d, .op 9 .f, .op 10 .e, .op 11 .s, .op 12 .s, .bar, .op 13 .e]) (by kernel_rfl) ?T204a ?T204b ?_
    case T204a => (repeat (first|exact Take.nil|refine Take.cons (by (repeat first|exact .here|apply Take1.there)) ?_))
    case T204b => (repeat (first|exact Take.nil|refine Take.cons (by (repeat first|exact .here|apply Take1.there)) ?_))
    iterate 3 refine rx_s rfl rfl rfl rfl rfl ?_
    refine rx_fa rfl rfl rfl rfl rfl rfl Fa.fo_241_1 ?_
    refine rx_ldD1 rfl rfl rfl rfl rfl rfl rfl (by (repeat first|exact .here|apply Take1.there)) Fa.ag_92 (by rfl) ?_
    iterate 2 refine rx_s rfl rfl rfl rfl rfl ?_
    refine rx_fa rfl rfl rfl rfl rfl rfl Fa.fo_273_0 ?_
    refine rx_ldDA rfl rfl rfl rfl rfl rfl rfl (by (repeat first|exact .here|apply Take1.there)) Fa.ag_56 Fa.sz_56 (vs := [_, _]) (by rfl) rfl ?_
    refine rx_bslice (.inl rfl) rfl rfl rfl rfl rfl Fa.sl_92 Fa.z_56 rfl rfl rfl rfl rfl (cl := [_, _]) rfl ?_
    intro b23
    refine rx_app1 rfl rfl rfl rfl rfl Fa.sl_92 Fa.z_56 rfl rfl rfl rfl rfl (by (repeat first|exact .here|apply Take1.there)) (by (repeat first|exact .here|apply Take1.there)) (ys := [_, _]) (by rfl) rfl rfl (by rw [hfl]; simp; omega) ?_
    intro p24 m24 c24 hm24
    refine rx_s rfl rfl rfl rfl rfl ?_
    refine rx_fa rfl rfl rfl rfl rfl rfl Fa.fo_241_1 ?_
    refine rx_barAll ?_
    try simp only [List.cons_append, List.nil_append]
    refine rx_stp rfl rfl rfl rfl rfl rfl (by (repeat first|exact .here|apply Take1.there)) Fa.sz_92 (vs := [_]) rfl rfl rfl (by rfl) (cl' := [_, _]) (by rfl) ?_
    refine rx_endL ?_
    try simp only [List.cons_append, List.nil_append]
    rw [← show flat (g ++ [h]) = flat g ++ [.int .i64 h.slot, .int .i64 h.gen] from flat_append g [h]]
    exact retK0e (l := [_, _, _]) .nil ⟨.slice p24 m24 c24, rfl, rfl⟩ (.one (by (repeat first|exact .here|apply Take1.there)) (.one (by (repeat first|exact .here|apply Take1.there)) (.one (by (repeat first|exact .here|apply Take1.there)) .nil)))
  · skip
    have h0 : h = ⟨0, 0⟩ := by rcases h with ⟨h1, h2⟩; simp at h13; simp [h13]
    have hl : T.lv h = [] := by unfold T.lv; rw [if_pos h0]
    rw [hl, List.append_nil]
    refine SW.skip ?_
    try simp only [thenK, blockK, cond_true, cond_false, beq_self_eq_true, Nat.reduceBEq]
    exact retK0e (l := [_, _, _]) .nil ⟨_, rfl, rfl⟩ (.one (by (repeat first|exact .here|apply Take1.there)) (.one (by (repeat first|exact .here|apply Take1.there)) (.one (by (repeat first|exact .here|apply Take1.there)) .nil)))

/-- 'node' -/
theorem node (e m a b : Nat) (gv : Value) (g : List Handle) (hg : g.length ≤ 1000000) (A : Ar SNode) (hA : A.ok) (h : Handle) (k : Int) (x : Spot) (q1 q2 : Option Addr) (hi : Int) (pl pr : Option Addr) (l r : TR) (wl : l.wf) (wr : r.wf) (sl : l.size ≤ 1000000) (sr : r.size ≤ 1000000) :
    Sl.Spec Tryz.prog 197 #[.pointer (some ⟨e, 0, none⟩), .pointer (some ⟨b, 0, none⟩), .pointer pl, .pointer pr]
      [EB e m gv, MB m a, ArP a A, GL gv g, IB b h k x q1 q2 hi, IP A pl l, IP A pr r]
      (fun v l' => ∃ gv' b', v = .pointer (some ⟨b', 0, none⟩) ∧ l' = [EB e m gv', MB m a, ArP a A, GL gv' (g ++ T.lv h), IB b h k x q1 q2 hi, IP A (some ⟨b', 0, none⟩) (T.mk k x l r)]) := by
  have h1 := T.hgt_nonneg wl
  have h2 := T.hgt_nonneg wr
  have h3 := T.hgt_size wl
  have h4 := T.hgt_size wr
  refine Spec.enter Tryz.func197 rfl rfl rfl ?_
  refine SW.seq ?_
  refine SW.reg (l := [.op 0 .e]) rfl ?_
  refine rx_s rfl rfl rfl rfl rfl ?_
  refine rx_end0 ?_
  refine SW.seq ?_
  refine SW.reg (l := [.op 0 .e, .op 1 .e, .op 2 .e]) rfl ?_
  iterate 2 refine rx_s rfl rfl rfl rfl rfl ?_
  refine rx_callH (F := ?FT205) rfl rfl rfl rfl rfl rfl rfl rfl Fa.ca_172 rfl (leave e m b gv g hg h k x q1 q2 hi) ?T205 ?_
  case T205 => (repeat (first|exact Take.nil|refine Take.cons (by (repeat first|exact .here|apply Take1.there)) ?_))
  rintro _ _ ⟨gv', rfl, rfl⟩
  try simp only [List.cons_append, List.nil_append]
  refine rx_end0 ?_
  refine SW.seq ?_
  refine SW.drawT (Hs := [EB e m gv', MB m a, ArP a A, IP A pl l, IP A pr r]) (D0l := []) (Dl := ?DT206) (F := ?FT206) Fa.mix (tp := [0, 1, 3, 7, 0, 16, 48, 112, 0, 0, 0, 0, 3072, 0, 0, 31744, 64512, 130048, 262143, 524287, 1048575]) (l := [.op 0 .s, .op 1 .s, .op 2 .s, .op 3 .d, .op 4 .s, .op 5 .s, .op 6 .s, .op 7 .d, .op 8 .s, .op 9 .s, .op 10 .s, .op 11 .s, .op 12 .e, .op 13 .s, .op 14 .s, .op 15 .e, .op 16 .s, .op 17 .s, .op 18 .s, .op 19 .f, .op 20 .s]) (by kernel_rfl) ?T206a ?T206b ?_
  case T206a => (repeat (first|exact Take.nil|refine Take.cons (by (repeat first|exact .here|apply Take1.there)) ?_))
  case T206b => (repeat (first|exact Take.nil|refine Take.cons (by (repeat first|exact .here|apply Take1.there)) ?_))
  iterate 2 refine rx_s rfl rfl rfl rfl rfl ?_
  refine rx_fa rfl rfl rfl rfl rfl rfl Fa.fo_273_2 ?_
  refine rx_ldD1 rfl rfl rfl rfl rfl rfl rfl (by (repeat first|exact .here|apply Take1.there)) Fa.ag_3 (by rfl) ?_
  iterate 2 refine rx_s rfl rfl rfl rfl rfl ?_
  refine rx_fa rfl rfl rfl rfl rfl rfl Fa.fo_273_3 ?_
  refine rx_ldDA rfl rfl rfl rfl rfl rfl rfl (by (repeat first|exact .here|apply Take1.there)) Fa.ag_98 Fa.sz_98 (vs := [_, _, _]) (by rfl) rfl ?_
  iterate 4 refine rx_s rfl rfl rfl rfl rfl ?_
  refine rx_callH (F := ?FT207) rfl rfl rfl rfl rfl rfl rfl rfl Fa.ca_194 rfl (high e m a gv' A hA pl l) ?T207 ?_
  case T207 => (repeat (first|exact Take.nil|refine Take.cons (by (repeat first|exact .here|apply Take1.there)) ?_))
  rintro _ _ ⟨rfl, rfl⟩
  try simp only [List.cons_append, List.nil_append]
  iterate 2 refine rx_s rfl rfl rfl rfl rfl ?_
  refine rx_callH (F := ?FT208) rfl rfl rfl rfl rfl rfl rfl rfl Fa.ca_194 rfl (high e m a gv' A hA pr r) ?T208 ?_
  case T208 => (repeat (first|exact Take.nil|refine Take.cons (by (repeat first|exact .here|apply Take1.there)) ?_))
  rintro _ _ ⟨rfl, rfl⟩
  try simp only [List.cons_append, List.nil_append]
  refine rx_max rfl rfl rfl rfl rfl rfl rfl ?_
  refine rx_ar rfl rfl rfl rfl rfl (by omega) ?_
  refine rx_build rfl rfl rfl rfl rfl Fa.st_273 rfl (cs := [_, _, _, _, _, _, _, _, _, _]) rfl ?_
  refine rx_box (.inl rfl) rfl rfl rfl rfl rfl rfl (cl := [_, _, _, _, _, _, _, _, _, _]) rfl ?_
  intro b31
  refine rx_s rfl rfl rfl rfl rfl ?_
  refine rx_endD ?_
  try simp only [List.cons_append, List.nil_append]
  refine SW.ret ?_
  exact retK1 (l := [_, _, _, _, _, _]) (.tmp rfl .nil) ⟨gv', b31, rfl, rfl⟩ (.one (by (repeat first|exact .here|apply Take1.there)) (.one (by (repeat first|exact .here|apply Take1.there)) (.one (by (repeat first|exact .here|apply Take1.there)) (.one (by (repeat first|exact .here|apply Take1.there)) (.one (by (repeat first|exact .here|apply Take1.there)) (.cons (.cons (by (repeat first|exact .here|apply Take1.there)) (.cons (by (repeat first|exact .here|apply Take1.there)) (.cons (by (repeat first|exact .here|apply Take1.there)) .nil))) (ioOpen (h := ⟨0, 0⟩) (fun q => absurd rfl q)) .nil))))))

theorem ioP {P : Program} {n : Nat} {ds : List Deferred} {e : Env} {c : Code} {KK : Exit → Env → HProp → Prop} {Hl F : List HProp} {A : Ar SNode} {p : Option Addr} {t : TR}
    (hT : Take1 Hl (IQ A p t) F) (h : SW P n ds c e (star (IP A p t :: F)) KK) : SW P n ds c e (star Hl) KK := SW.ioP hT h
theorem ioO {P : Program} {n : Nat} {ds : List Deferred} {e : Env} {c : Code} {KK : Exit → Env → HProp → Prop} {Hl F : List HProp} {A : Ar SNode} {p : Option Addr} {h : Handle} {k : Int} {v : Spot} {l r : TR} {hi : Int}
    (hT : Take1 Hl (IQ A p (.node h k v l r hi)) F)
    (h2 : ∀ b pl pr, p = some ⟨b, 0, none⟩ → (h ≠ ⟨0, 0⟩ → (T.node h k v l r hi).holds A) → SW P n ds c e (star (IB b h k v pl pr hi :: IP A pl l :: IP A pr r :: F)) KK) :
    SW P n ds c e (star Hl) KK := SW.itemO hT h2

/-- 'fromLeft' -/
theorem fromLeft (e m a b bl : Nat) (gv : Value) (g : List Handle) (hg : g.length ≤ 900000) (A : Ar SNode) (hA : A.ok) (h : Handle) (k : Int) (x : Spot) (q1 q2 : Option Addr) (hi : Int)
    (lh : Handle) (lk : Int) (lw : Spot) (ll lr : TR) (lhi : Int) (p1 p2 pr : Option Addr) (r : TR) (wl : (T.node lh lk lw ll lr lhi).wf) (wr : r.wf) (hs : (T.node lh lk lw ll lr lhi).size + r.size ≤ 900000)
    (hd : (T.node lh lk lw ll lr lhi).hgt - r.hgt > 1) :
    Sl.Spec Tryz.prog 195 #[.pointer (some ⟨e, 0, none⟩), .pointer (some ⟨b, 0, none⟩), .pointer (some ⟨bl, 0, none⟩), .pointer pr]
      [EB e m gv, MB m a, ArP a A, GL gv g, IB b h k x q1 q2 hi, IB bl lh lk lw p1 p2 lhi, IP A p1 ll, IP A p2 lr, IP A pr r]
      (fun v l' => ∃ gv' b', v = .pointer (some ⟨b', 0, none⟩) ∧ l' = [EB e m gv', MB m a, ArP a A, GL gv' (g ++ (T.fromLeft h k x (.node lh lk lw ll lr lhi) r).2), IB b h k x q1 q2 hi,
        IP A (some ⟨b', 0, none⟩) (T.fromLeft h k x (.node lh lk lw ll lr lhi) r).1]) := by
  have h0 := T.hgt_nonneg wr
  have h1 := T.hgt_nonneg wl.2.1
  have h2 := T.hgt_nonneg wl.2.2
  have h3 := wl.1
  simp only [T.size] at hs
  change lhi - r.hgt > 1 at hd
  refine Spec.enter Tryz.func195 rfl rfl rfl ?_
  refine SW.seq ?_
  refine SW.reg (l := [.op 0 .e]) rfl ?_
  refine rx_s rfl rfl rfl rfl rfl ?_
  refine rx_end0 ?_
  refine SW.seq ?_
  refine SW.seq ?_
  refine SW.drawT (Hs := [EB e m gv, MB m a, ArP a A, IP A p1 ll, IP A p2 lr]) (D0l := []) (Dl := ?DT209) (F := ?FT209) Fa.mix (tp := [0, 0, 2, 6, 14, 31, 0, 0, 128, 384, 896, 2047, 4095]) (l := [.op 0 .s, .op 1 .s, .op 2 .s, .op 3 .s, .op 4 .d, .op 5 .e, .op 6 .s, .op 7 .s, .op 8 .s, .op 9 .s, .op 10 .d, .op 11 .e, .op 12 .s]) (by kernel_rfl) ?T209a ?T209b ?_
  case T209a => (repeat (first|exact Take.nil|refine Take.cons (by (repeat first|exact .here|apply Take1.there)) ?_))
  case T209b => (repeat (first|exact Take.nil|refine Take.cons (by (repeat first|exact .here|apply Take1.there)) ?_))
  iterate 3 refine rx_s rfl rfl rfl rfl rfl ?_
  refine rx_fa rfl rfl rfl rfl rfl rfl Fa.fo_273_4 ?_
  refine rx_ldD1 rfl rfl rfl rfl rfl rfl rfl (by (repeat first|exact .here|apply Take1.there)) Fa.ag_243 (by rfl) ?_
  refine rx_callH (F := ?FT210) rfl rfl rfl rfl rfl rfl rfl rfl Fa.ca_194 rfl (high e m a gv A hA p1 ll) ?T210 ?_
  case T210 => (repeat (first|exact Take.nil|refine Take.cons (by (repeat first|exact .here|apply Take1.there)) ?_))
  rintro _ _ ⟨rfl, rfl⟩
  try simp only [List.cons_append, List.nil_append]
  iterate 3 refine rx_s rfl rfl rfl rfl rfl ?_
  refine rx_fa rfl rfl rfl rfl rfl rfl Fa.fo_273_5 ?_
  refine rx_ldD1 rfl rfl rfl rfl rfl rfl rfl (by (repeat first|exact .here|apply Take1.there)) Fa.ag_243 (by rfl) ?_
  refine rx_callH (F := ?FT211) rfl rfl rfl rfl rfl rfl rfl rfl Fa.ca_194 rfl (high e m a gv A hA p2 lr) ?T211 ?_
  case T211 => (repeat (first|exact Take.nil|refine Take.cons (by (repeat first|exact .here|apply Take1.there)) ?_))
  rintro _ _ ⟨rfl, rfl⟩
  try simp only [List.cons_append, List.nil_append]
  refine rx_s rfl rfl rfl rfl rfl ?_
  refine rx_endD ?_
  try simp only [List.cons_append, List.nil_append]
  refine SW.cond rfl (fun h22 => ?_) (fun h22 => ?_)
  · skip
    refine SW.seq ?_
    refine ioP (p := p1) (by (repeat first|exact .here|apply Take1.there)) ?_
    refine ioP (p := p2) (by (repeat first|exact .here|apply Take1.there)) ?_
    simp only [T.fromLeft]
    rw [if_pos (by simpa using h22)]
    rw [← List.append_assoc]
    refine SW.drawT (Hs := [EB e m gv, MB m a, ArP a A, GL gv g, IB b h k x q1 q2 hi, IP A p1 ll, IP A p2 lr, IP A pr r]) (D0l := []) (Dl := ?DT212) (F := ?FT212) Fa.mix (tp := [0, 0, 0, 4, 12, 28, 0, 0, 0, 256, 768, 1792, 0, 8128, 16383, 32767]) (l := [.op 0 .s, .op 1 .s, .op 2 .s, .op 3 .s, .op 4 .s, .op 5 .d, .op 6 .s, .op 7 .s, .op 8 .s, .op 9 .s, .op 10 .s, .op 11 .d, .op 12 .s, .op 13 .e, .op 14 .e, .op 15 .s]) (by kernel_rfl) ?T212a ?T212b ?_
    case T212a => (repeat (first|exact Take.nil|refine Take.cons (by (repeat first|exact .here|apply Take1.there)) ?_))
    case T212b => (repeat (first|exact Take.nil|refine Take.cons (by (repeat first|exact .here|apply Take1.there)) ?_))
    iterate 4 refine rx_s rfl rfl rfl rfl rfl ?_
    refine rx_fa rfl rfl rfl rfl rfl rfl Fa.fo_273_4 ?_
    refine rx_ldD1 rfl rfl rfl rfl rfl rfl rfl (by (repeat first|exact .here|apply Take1.there)) Fa.ag_243 (by rfl) ?_
    iterate 4 refine rx_s rfl rfl rfl rfl rfl ?_
    refine rx_fa rfl rfl rfl rfl rfl rfl Fa.fo_273_5 ?_
    refine rx_ldD1 rfl rfl rfl rfl rfl rfl rfl (by (repeat first|exact .here|apply Take1.there)) Fa.ag_243 (by rfl) ?_
    refine rx_s rfl rfl rfl rfl rfl ?_
    refine rx_callH (F := ?FT213) rfl rfl rfl rfl rfl rfl rfl rfl Fa.ca_197 rfl (node e m a b gv g (by omega) A hA h k x q1 q2 hi p2 pr lr r wl.2.2 wr (by omega) (by omega)) ?T213 ?_
    case T213 => (repeat (first|exact Take.nil|refine Take.cons (by (repeat first|exact .here|apply Take1.there)) ?_))
    rintro _ _ ⟨gv1, b1, rfl, rfl⟩
    try simp only [List.cons_append, List.nil_append]
    refine rx_call (F := ?FT214) rfl rfl rfl rfl rfl rfl rfl rfl Fa.ca_197 rfl (node e m a bl gv1 (g ++ T.lv h) (by have := T.lv_len h; simp; omega) A hA lh lk lw p1 p2 lhi p1 (some ⟨b1, 0, none⟩) ll (T.mk k x lr r) wl.2.1 (T.wf_mk wl.2.2 wr) (by omega) (by simp only [T.mk, T.size]; omega)) ?T214 ?_
    case T214 => (repeat (first|exact Take.nil|refine Take.cons (by (repeat first|exact .here|apply Take1.there)) ?_))
    rintro _ _ ⟨gv2, b2, rfl, rfl⟩
    refine ⟨?HT215, ?T215, ?_⟩
    case T215 => (repeat (first|exact Take.nil|refine Take.cons (by (repeat first|exact .here|apply Take1.there)) ?_))
    try simp only [List.cons_append, List.nil_append]
    refine rx_s rfl rfl rfl rfl rfl ?_
    refine rx_endD ?_
    try simp only [List.cons_append, List.nil_append]
    refine SW.ret ?_
    exact retK1 (l := [_, _, _, _, _, _]) (.tmp rfl .nil) ⟨gv2, b2, rfl, rfl⟩ (.one (by (repeat first|exact .here|apply Take1.there)) (.one (by (repeat first|exact .here|apply Take1.there)) (.one (by (repeat first|exact .here|apply Take1.there)) (.one (by (repeat first|exact .here|apply Take1.there)) (.one (by (repeat first|exact .here|apply Take1.there)) (.one (by (repeat first|exact .here|apply Take1.there)) .nil))))))
  · skip
    refine SW.skip ?_
    try simp only [thenK, blockK, cond_true, cond_false, beq_self_eq_true, Nat.reduceBEq]
    refine SW.seq ?_
    obtain ⟨mh, mk', mv, ml, mr, mhi, rfl⟩ := T.node_of_hgt (t := lr) (by simp at h22; omega)
    simp only [T.size] at hs
    refine ioP (p := p1) (by (repeat first|exact .here|apply Take1.there)) ?_
    refine ioP (p := p2) (by (repeat first|exact .here|apply Take1.there)) ?_
    simp only [T.fromLeft]
    rw [if_neg (by simpa using h22)]
    rw [← List.append_assoc, ← List.append_assoc]
    refine SW.reg (l := [.op 0 .e, .op 1 .e, .op 2 .e, .op 3 .e, .op 4 .e, .op 5 .e, .op 6 .e]) rfl ?_
    iterate 3 refine rx_s rfl rfl rfl rfl rfl ?_
    refine rx_fa rfl rfl rfl rfl rfl rfl Fa.fo_273_5 ?_
    refine rx_ldH1 rfl rfl rfl rfl rfl rfl (by (repeat first|exact .here|apply Take1.there)) Fa.ag_243 (by rfl) ?_
    refine rx_callH (F := ?FT216) rfl rfl rfl rfl rfl rfl rfl rfl Fa.ca_170 rfl (opened e m a gv A hA p2 mh mk' mv ml mr mhi) ?T216 ?_
    case T216 => (repeat (first|exact Take.nil|refine Take.cons (by (repeat first|exact .here|apply Take1.there)) ?_))
    rintro _ _ ⟨bm, m1, m2, rfl, rfl, hh, rfl⟩
    try simp only [List.cons_append, List.nil_append]
    refine rx_s rfl rfl rfl rfl rfl ?_
    refine rx_end0 ?_
    refine SW.seq ?_
    refine SW.drawT (Hs := [EB e m gv, MB m a, ArP a A, GL gv g, IB b h k x q1 q2 hi, IP A p1 ll, IP A m1 ml, IP A m2 mr, IP A pr r]) (D0l := []) (Dl := ?DT217) (F := ?FT217) Fa.mix (tp := [0, 0, 0, 0, 0, 16, 48, 112, 0, 256, 768, 1792, 4092, 0, 0, 0, 32768, 98304, 229376, 0, 1048572, 2097151, 4194303]) (l := [.op 0 .s, .op 1 .s, .op 2 .s, .op 3 .s, .op 4 .s, .op 5 .s, .op 6 .s, .op 7 .d, .op 8 .s, .op 9 .s, .op 10 .s, .op 11 .d, .op 12 .e, .op 13 .s, .op 14 .s, .op 15 .s, .op 16 .s, .op 17 .s, .op 18 .d, .op 19 .s, .op 20 .e, .op 21 .e, .op 22 .s]) (by kernel_rfl) ?T217a ?T217b ?_
    case T217a => (repeat (first|exact Take.nil|refine Take.cons (by (repeat first|exact .here|apply Take1.there)) ?_))
    case T217b => (repeat (first|exact Take.nil|refine Take.cons (by (repeat first|exact .here|apply Take1.there)) ?_))
    iterate 6 refine rx_s rfl rfl rfl rfl rfl ?_
    refine rx_fa rfl rfl rfl rfl rfl rfl Fa.fo_273_4 ?_
    refine rx_ldD1 rfl rfl rfl rfl rfl rfl rfl (by (repeat first|exact .here|apply Take1.there)) Fa.ag_243 (by rfl) ?_
    iterate 2 refine rx_s rfl rfl rfl rfl rfl ?_
    refine rx_fa rfl rfl rfl rfl rfl rfl Fa.fo_273_4 ?_
    refine rx_ldD1 rfl rfl rfl rfl rfl rfl rfl (by (repeat first|exact .here|apply Take1.there)) Fa.ag_243 (by rfl) ?_
    refine rx_call (F := ?FT218) rfl rfl rfl rfl rfl rfl rfl rfl Fa.ca_197 rfl (node e m a bl gv g (by omega) A hA lh lk lw p1 (some ⟨bm, 0, none⟩) lhi p1 m1 ll ml wl.2.1 wl.2.2.2.1 (by omega) (by omega)) ?T218 ?_
    case T218 => (repeat (first|exact Take.nil|refine Take.cons (by (repeat first|exact .here|apply Take1.there)) ?_))
    rintro _ _ ⟨gv1, b1, rfl, rfl⟩
    refine ⟨?HT219, ?T219, ?_⟩
    case T219 => (repeat (first|exact Take.nil|refine Take.cons (by (repeat first|exact .here|apply Take1.there)) ?_))
    try simp only [List.cons_append, List.nil_append]
    iterate 4 refine rx_s rfl rfl rfl rfl rfl ?_
    refine rx_fa rfl rfl rfl rfl rfl rfl Fa.fo_273_5 ?_
    refine rx_ldD1 rfl rfl rfl rfl rfl rfl rfl (by (repeat first|exact .here|apply Take1.there)) Fa.ag_243 (by rfl) ?_
    refine rx_s rfl rfl rfl rfl rfl ?_
    refine rx_callH (F := ?FT220) rfl rfl rfl rfl rfl rfl rfl rfl Fa.ca_197 rfl (node e m a b gv1 (g ++ T.lv lh) (by have := T.lv_len lh; simp; omega) A hA h k x q1 q2 hi m2 pr mr r wl.2.2.2.2 wr (by omega) (by omega)) ?T220 ?_
    case T220 => (repeat (first|exact Take.nil|refine Take.cons (by (repeat first|exact .here|apply Take1.there)) ?_))
    rintro _ _ ⟨gv2, b2, rfl, rfl⟩
    try simp only [List.cons_append, List.nil_append]
    refine rx_call (F := ?FT221) rfl rfl rfl rfl rfl rfl rfl rfl Fa.ca_197 rfl (node e m a bm gv2 (g ++ T.lv lh ++ T.lv h) (by have := T.lv_len lh; have := T.lv_len h; simp; omega) A hA mh mk' mv m1 m2 mhi (some ⟨b1, 0, none⟩) (some ⟨b2, 0, none⟩) (T.mk lk lw ll ml) (T.mk k x mr r) (T.wf_mk wl.2.1 wl.2.2.2.1) (T.wf_mk wl.2.2.2.2 wr) (by simp only [T.mk, T.size]; omega) (by simp only [T.mk, T.size]; omega)) ?T221 ?_
    case T221 => (repeat (first|exact Take.nil|refine Take.cons (by (repeat first|exact .here|apply Take1.there)) ?_))
    rintro _ _ ⟨gv3, b3, rfl, rfl⟩
    refine ⟨?HT222, ?T222, ?_⟩
    case T222 => (repeat (first|exact Take.nil|refine Take.cons (by (repeat first|exact .here|apply Take1.there)) ?_))
    try simp only [List.cons_append, List.nil_append]
    refine rx_s rfl rfl rfl rfl rfl ?_
    refine rx_endD ?_
    try simp only [List.cons_append, List.nil_append]
    refine SW.ret ?_
    exact retK1 (l := [_, _, _, _, _, _]) (.tmp rfl .nil) ⟨gv3, b3, rfl, rfl⟩ (.one (by (repeat first|exact .here|apply Take1.there)) (.one (by (repeat first|exact .here|apply Take1.there)) (.one (by (repeat first|exact .here|apply Take1.there)) (.one (by (repeat first|exact .here|apply Take1.there)) (.one (by (repeat first|exact .here|apply Take1.there)) (.one (by (repeat first|exact .here|apply Take1.there)) .nil))))))
/-- 'fromRight' -/
theorem fromRight (e m a b br : Nat) (gv : Value) (g : List Handle) (hg : g.length ≤ 900000) (A : Ar SNode) (hA : A.ok) (h : Handle) (k : Int) (x : Spot) (q1 q2 : Option Addr) (hi : Int)
    (rh : Handle) (rk : Int) (rw' : Spot) (rl rr : TR) (rhi : Int) (p1 p2 pl : Option Addr) (l : TR) (wl : l.wf) (wr : (T.node rh rk rw' rl rr rhi).wf) (hs : l.size + (T.node rh rk rw' rl rr rhi).size ≤ 900000)
    (hd : l.hgt - (T.node rh rk rw' rl rr rhi).hgt < -1) :
    Sl.Spec Tryz.prog 196 #[.pointer (some ⟨e, 0, none⟩), .pointer (some ⟨b, 0, none⟩), .pointer pl, .pointer (some ⟨br, 0, none⟩)]
      [EB e m gv, MB m a, ArP a A, GL gv g, IB b h k x q1 q2 hi, IB br rh rk rw' p1 p2 rhi, IP A p1 rl, IP A p2 rr, IP A pl l]
      (fun v l' => ∃ gv' b', v = .pointer (some ⟨b', 0, none⟩) ∧ l' = [EB e m gv', MB m a, ArP a A, GL gv' (g ++ (T.fromRight h k x l (.node rh rk rw' rl rr rhi)).2), IB b h k x q1 q2 hi,
        IP A (some ⟨b', 0, none⟩) (T.fromRight h k x l (.node rh rk rw' rl rr rhi)).1]) := by
  have h0 := T.hgt_nonneg wl
  have h1 := T.hgt_nonneg wr.2.1
  have h2 := T.hgt_nonneg wr.2.2
  have h3 := wr.1
  simp only [T.size] at hs
  change l.hgt - rhi < -1 at hd
  refine Spec.enter Tryz.func196 rfl rfl rfl ?_
  refine SW.seq ?_
  refine SW.reg (l := [.op 0 .e]) rfl ?_
  refine rx_s rfl rfl rfl rfl rfl ?_
  refine rx_end0 ?_
  refine SW.seq ?_
  refine SW.seq ?_
  refine SW.drawT (Hs := [EB e m gv, MB m a, ArP a A, IP A p1 rl, IP A p2 rr]) (D0l := []) (Dl := ?DT223) (F := ?FT223) Fa.mix (tp := [0, 0, 2, 6, 14, 31, 0, 0, 128, 384, 896, 2047, 4095]) (l := [.op 0 .s, .op 1 .s, .op 2 .s, .op 3 .s, .op 4 .d, .op 5 .e, .op 6 .s, .op 7 .s, .op 8 .s, .op 9 .s, .op 10 .d, .op 11 .e, .op 12 .s]) (by kernel_rfl) ?T223a ?T223b ?_
  case T223a => (repeat (first|exact Take.nil|refine Take.cons (by (repeat first|exact .here|apply Take1.there)) ?_))
  case T223b => (repeat (first|exact Take.nil|refine Take.cons (by (repeat first|exact .here|apply Take1.there)) ?_))
  iterate 3 refine rx_s rfl rfl rfl rfl rfl ?_
  refine rx_fa rfl rfl rfl rfl rfl rfl Fa.fo_273_5 ?_
  refine rx_ldD1 rfl rfl rfl rfl rfl rfl rfl (by (repeat first|exact .here|apply Take1.there)) Fa.ag_243 (by rfl) ?_
  refine rx_callH (F := ?FT224) rfl rfl rfl rfl rfl rfl rfl rfl Fa.ca_194 rfl (high e m a gv A hA p2 rr) ?T224 ?_
  case T224 => (repeat (first|exact Take.nil|refine Take.cons (by (repeat first|exact .here|apply Take1.there)) ?_))
  rintro _ _ ⟨rfl, rfl⟩
  try simp only [List.cons_append, List.nil_append]
  iterate 3 refine rx_s rfl rfl rfl rfl rfl ?_
  refine rx_fa rfl rfl rfl rfl rfl rfl Fa.fo_273_4 ?_
  refine rx_ldD1 rfl rfl rfl rfl rfl rfl rfl (by (repeat first|exact .here|apply Take1.there)) Fa.ag_243 (by rfl) ?_
  refine rx_callH (F := ?FT225) rfl rfl rfl rfl rfl rfl rfl rfl Fa.ca_194 rfl (high e m a gv A hA p1 rl) ?T225 ?_
  case T225 => (repeat (first|exact Take.nil|refine Take.cons (by (repeat first|exact .here|apply Take1.there)) ?_))
  rintro _ _ ⟨rfl, rfl⟩
  try simp only [List.cons_append, List.nil_append]
  refine rx_s rfl rfl rfl rfl rfl ?_
  refine rx_endD ?_
  try simp only [List.cons_append, List.nil_append]
  refine SW.cond rfl (fun h22 => ?_) (fun h22 => ?_)
  · skip
    refine SW.seq ?_
    refine ioP (p := p1) (by (repeat first|exact .here|apply Take1.there)) ?_
    refine ioP (p := p2) (by (repeat first|exact .here|apply Take1.there)) ?_
    simp only [T.fromRight]
    rw [if_pos (by simpa using h22)]
    rw [← List.append_assoc]
    refine SW.drawT (Hs := [EB e m gv, MB m a, ArP a A, GL gv g, IB b h k x q1 q2 hi, IP A p1 rl, IP A p2 rr, IP A pl l]) (D0l := []) (Dl := ?DT226) (F := ?FT226) Fa.mix (tp := [0, 0, 0, 0, 0, 0, 32, 96, 224, 508, 0, 1024, 3072, 7168, 16383, 32767]) (l := [.op 0 .s, .op 1 .s, .op 2 .s, .op 3 .s, .op 4 .s, .op 5 .s, .op 6 .s, .op 7 .s, .op 8 .d, .op 9 .e, .op 10 .s, .op 11 .s, .op 12 .s, .op 13 .d, .op 14 .e, .op 15 .s]) (by kernel_rfl) ?T226a ?T226b ?_
    case T226a => (repeat (first|exact Take.nil|refine Take.cons (by (repeat first|exact .here|apply Take1.there)) ?_))
    case T226b => (repeat (first|exact Take.nil|refine Take.cons (by (repeat first|exact .here|apply Take1.there)) ?_))
    iterate 7 refine rx_s rfl rfl rfl rfl rfl ?_
    refine rx_fa rfl rfl rfl rfl rfl rfl Fa.fo_273_4 ?_
    refine rx_ldD1 rfl rfl rfl rfl rfl rfl rfl (by (repeat first|exact .here|apply Take1.there)) Fa.ag_243 (by rfl) ?_
    refine rx_callH (F := ?FT227) rfl rfl rfl rfl rfl rfl rfl rfl Fa.ca_197 rfl (node e m a b gv g (by omega) A hA h k x q1 q2 hi pl p1 l rl wl wr.2.1 (by omega) (by omega)) ?T227 ?_
    case T227 => (repeat (first|exact Take.nil|refine Take.cons (by (repeat first|exact .here|apply Take1.there)) ?_))
    rintro _ _ ⟨gv1, b1, rfl, rfl⟩
    try simp only [List.cons_append, List.nil_append]
    iterate 2 refine rx_s rfl rfl rfl rfl rfl ?_
    refine rx_fa rfl rfl rfl rfl rfl rfl Fa.fo_273_5 ?_
    refine rx_ldD1 rfl rfl rfl rfl rfl rfl rfl (by (repeat first|exact .here|apply Take1.there)) Fa.ag_243 (by rfl) ?_
    refine rx_call (F := ?FT228) rfl rfl rfl rfl rfl rfl rfl rfl Fa.ca_197 rfl (node e m a br gv1 (g ++ T.lv h) (by have := T.lv_len h; simp; omega) A hA rh rk rw' p1 p2 rhi (some ⟨b1, 0, none⟩) p2 (T.mk k x l rl) rr (T.wf_mk wl wr.2.1) wr.2.2 (by simp only [T.mk, T.size]; omega) (by omega)) ?T228 ?_
    case T228 => (repeat (first|exact Take.nil|refine Take.cons (by (repeat first|exact .here|apply Take1.there)) ?_))
    rintro _ _ ⟨gv2, b2, rfl, rfl⟩
    refine ⟨?HT229, ?T229, ?_⟩
    case T229 => (repeat (first|exact Take.nil|refine Take.cons (by (repeat first|exact .here|apply Take1.there)) ?_))
    try simp only [List.cons_append, List.nil_append]
    refine rx_s rfl rfl rfl rfl rfl ?_
    refine rx_endD ?_
    try simp only [List.cons_append, List.nil_append]
    refine SW.ret ?_
    exact retK1 (l := [_, _, _, _, _, _]) (.tmp rfl .nil) ⟨gv2, b2, rfl, rfl⟩ (.one (by (repeat first|exact .here|apply Take1.there)) (.one (by (repeat first|exact .here|apply Take1.there)) (.one (by (repeat first|exact .here|apply Take1.there)) (.one (by (repeat first|exact .here|apply Take1.there)) (.one (by (repeat first|exact .here|apply Take1.there)) (.one (by (repeat first|exact .here|apply Take1.there)) .nil))))))
  · skip
    refine SW.skip ?_
    try simp only [thenK, blockK, cond_true, cond_false, beq_self_eq_true, Nat.reduceBEq]
    refine SW.seq ?_
    obtain ⟨mh, mk', mv, ml, mr, mhi, rfl⟩ := T.node_of_hgt (t := rl) (by simp at h22; omega)
    simp only [T.size] at hs
    refine ioP (p := p1) (by (repeat first|exact .here|apply Take1.there)) ?_
    refine ioP (p := p2) (by (repeat first|exact .here|apply Take1.there)) ?_
    simp only [T.fromRight]
    rw [if_neg (by simpa using h22)]
    rw [← List.append_assoc, ← List.append_assoc]
    refine SW.reg (l := [.op 0 .e, .op 1 .e, .op 2 .e, .op 3 .e, .op 4 .e, .op 5 .e, .op 6 .e]) rfl ?_
    iterate 3 refine rx_s rfl rfl rfl rfl rfl ?_
    refine rx_fa rfl rfl rfl rfl rfl rfl Fa.fo_273_4 ?_
    refine rx_ldH1 rfl rfl rfl rfl rfl rfl (by (repeat first|exact .here|apply Take1.there)) Fa.ag_243 (by rfl) ?_
    refine rx_callH (F := ?FT230) rfl rfl rfl rfl rfl rfl rfl rfl Fa.ca_170 rfl (opened e m a gv A hA p1 mh mk' mv ml mr mhi) ?T230 ?_
    case T230 => (repeat (first|exact Take.nil|refine Take.cons (by (repeat first|exact .here|apply Take1.there)) ?_))
    rintro _ _ ⟨bm, m1, m2, rfl, rfl, hh, rfl⟩
    try simp only [List.cons_append, List.nil_append]
    refine rx_s rfl rfl rfl rfl rfl ?_
    refine rx_end0 ?_
    refine SW.seq ?_
    refine SW.drawT (Hs := [EB e m gv, MB m a, ArP a A, GL gv g, IB b h k x q1 q2 hi, IP A p2 rr, IP A m1 ml, IP A m2 mr, IP A pl l]) (D0l := []) (Dl := ?DT231) (F := ?FT231) Fa.mix (tp := [0, 0, 0, 0, 0, 0, 32, 96, 224, 508, 0, 0, 0, 4096, 12288, 28672, 0, 65536, 196608, 458752, 1048572, 2097151, 4194303]) (l := [.op 0 .s, .op 1 .s, .op 2 .s, .op 3 .s, .op 4 .s, .op 5 .s, .op 6 .s, .op 7 .s, .op 8 .d, .op 9 .e, .op 10 .s, .op 11 .s, .op 12 .s, .op 13 .s, .op 14 .s, .op 15 .d, .op 16 .s, .op 17 .s, .op 18 .s, .op 19 .d, .op 20 .e, .op 21 .e, .op 22 .s]) (by kernel_rfl) ?T231a ?T231b ?_
    case T231a => (repeat (first|exact Take.nil|refine Take.cons (by (repeat first|exact .here|apply Take1.there)) ?_))
    case T231b => (repeat (first|exact Take.nil|refine Take.cons (by (repeat first|exact .here|apply Take1.there)) ?_))
    iterate 7 refine rx_s rfl rfl rfl rfl rfl ?_
    refine rx_fa rfl rfl rfl rfl rfl rfl Fa.fo_273_4 ?_
    refine rx_ldD1 rfl rfl rfl rfl rfl rfl rfl (by (repeat first|exact .here|apply Take1.there)) Fa.ag_243 (by rfl) ?_
    refine rx_callH (F := ?FT232) rfl rfl rfl rfl rfl rfl rfl rfl Fa.ca_197 rfl (node e m a b gv g (by omega) A hA h k x q1 q2 hi pl m1 l ml wl wr.2.1.2.1 (by omega) (by omega)) ?T232 ?_
    case T232 => (repeat (first|exact Take.nil|refine Take.cons (by (repeat first|exact .here|apply Take1.there)) ?_))
    rintro _ _ ⟨gv1, b1, rfl, rfl⟩
    try simp only [List.cons_append, List.nil_append]
    iterate 4 refine rx_s rfl rfl rfl rfl rfl ?_
    refine rx_fa rfl rfl rfl rfl rfl rfl Fa.fo_273_5 ?_
    refine rx_ldD1 rfl rfl rfl rfl rfl rfl rfl (by (repeat first|exact .here|apply Take1.there)) Fa.ag_243 (by rfl) ?_
    iterate 2 refine rx_s rfl rfl rfl rfl rfl ?_
    refine rx_fa rfl rfl rfl rfl rfl rfl Fa.fo_273_5 ?_
    refine rx_ldD1 rfl rfl rfl rfl rfl rfl rfl (by (repeat first|exact .here|apply Take1.there)) Fa.ag_243 (by rfl) ?_
    refine rx_call (F := ?FT233) rfl rfl rfl rfl rfl rfl rfl rfl Fa.ca_197 rfl (node e m a br gv1 (g ++ T.lv h) (by have := T.lv_len h; simp; omega) A hA rh rk rw' (some ⟨bm, 0, none⟩) p2 rhi m2 p2 mr rr wr.2.1.2.2 wr.2.2 (by omega) (by omega)) ?T233 ?_
    case T233 => (repeat (first|exact Take.nil|refine Take.cons (by (repeat first|exact .here|apply Take1.there)) ?_))
    rintro _ _ ⟨gv2, b2, rfl, rfl⟩
    refine ⟨?HT234, ?T234, ?_⟩
    case T234 => (repeat (first|exact Take.nil|refine Take.cons (by (repeat first|exact .here|apply Take1.there)) ?_))
    try simp only [List.cons_append, List.nil_append]
    refine rx_call (F := ?FT235) rfl rfl rfl rfl rfl rfl rfl rfl Fa.ca_197 rfl (node e m a bm gv2 (g ++ T.lv h ++ T.lv rh) (by have := T.lv_len rh; have := T.lv_len h; simp; omega) A hA mh mk' mv m1 m2 mhi (some ⟨b1, 0, none⟩) (some ⟨b2, 0, none⟩) (T.mk k x l ml) (T.mk rk rw' mr rr) (T.wf_mk wl wr.2.1.2.1) (T.wf_mk wr.2.1.2.2 wr.2.2) (by simp only [T.mk, T.size]; omega) (by simp only [T.mk, T.size]; omega)) ?T235 ?_
    case T235 => (repeat (first|exact Take.nil|refine Take.cons (by (repeat first|exact .here|apply Take1.there)) ?_))
    rintro _ _ ⟨gv3, b3, rfl, rfl⟩
    refine ⟨?HT236, ?T236, ?_⟩
    case T236 => (repeat (first|exact Take.nil|refine Take.cons (by (repeat first|exact .here|apply Take1.there)) ?_))
    try simp only [List.cons_append, List.nil_append]
    refine rx_s rfl rfl rfl rfl rfl ?_
    refine rx_endD ?_
    try simp only [List.cons_append, List.nil_append]
    refine SW.ret ?_
    exact retK1 (l := [_, _, _, _, _, _]) (.tmp rfl .nil) ⟨gv3, b3, rfl, rfl⟩ (.one (by (repeat first|exact .here|apply Take1.there)) (.one (by (repeat first|exact .here|apply Take1.there)) (.one (by (repeat first|exact .here|apply Take1.there)) (.one (by (repeat first|exact .here|apply Take1.there)) (.one (by (repeat first|exact .here|apply Take1.there)) (.one (by (repeat first|exact .here|apply Take1.there)) .nil))))))

/-- 'balance' -/
theorem balance (e m a b : Nat) (gv : Value) (g : List Handle) (hg : g.length ≤ 900000) (A : Ar SNode) (hA : A.ok) (h : Handle) (k : Int) (x : Spot) (q1 q2 : Option Addr) (hi : Int)
    (pl pr : Option Addr) (l r : TR) (wl : l.wf) (wr : r.wf) (hs : l.size + r.size ≤ 900000) :
    Sl.Spec Tryz.prog 171 #[.pointer (some ⟨e, 0, none⟩), .pointer (some ⟨b, 0, none⟩), .pointer pl, .pointer pr]
      [EB e m gv, MB m a, ArP a A, GL gv g, IB b h k x q1 q2 hi, IP A pl l, IP A pr r]
      (fun v l' => ∃ gv' b', v = .pointer (some ⟨b', 0, none⟩) ∧ l' = [EB e m gv', MB m a, ArP a A, GL gv' (g ++ (T.bal h k x l r).2), IB b h k x q1 q2 hi,
        IP A (some ⟨b', 0, none⟩) (T.bal h k x l r).1]) := by
  have h0 := T.hgt_nonneg wl
  have h1 := T.hgt_nonneg wr
  have h2 := T.hgt_size wl
  have h3 := T.hgt_size wr
  refine Spec.enter Tryz.func171 rfl rfl rfl ?_
  refine SW.seq ?_
  refine SW.reg (l := [.op 0 .e]) rfl ?_
  refine rx_s rfl rfl rfl rfl rfl ?_
  refine rx_end0 ?_
  refine SW.seq ?_
  refine SW.seq ?_
  refine SW.reg (l := [.op 0 .e, .op 1 .e, .op 2 .e, .op 3 .e, .op 4 .e, .op 5 .e, .op 6 .e, .op 7 .e]) rfl ?_
  iterate 2 refine rx_s rfl rfl rfl rfl rfl ?_
  refine rx_callH (F := ?FT237) rfl rfl rfl rfl rfl rfl rfl rfl Fa.ca_194 rfl (high e m a gv A hA pl l) ?T237 ?_
  case T237 => (repeat (first|exact Take.nil|refine Take.cons (by (repeat first|exact .here|apply Take1.there)) ?_))
  rintro _ _ ⟨rfl, rfl⟩
  try simp only [List.cons_append, List.nil_append]
  iterate 2 refine rx_s rfl rfl rfl rfl rfl ?_
  refine rx_callH (F := ?FT238) rfl rfl rfl rfl rfl rfl rfl rfl Fa.ca_194 rfl (high e m a gv A hA pr r) ?T238 ?_
  case T238 => (repeat (first|exact Take.nil|refine Take.cons (by (repeat first|exact .here|apply Take1.there)) ?_))
  rintro _ _ ⟨rfl, rfl⟩
  try simp only [List.cons_append, List.nil_append]
  refine rx_ar rfl rfl rfl rfl rfl (by omega) ?_
  refine rx_s rfl rfl rfl rfl rfl ?_
  refine rx_end0 ?_
  refine SW.block ?_
  refine SW.seq ?_
  refine SW.reg (l := [.op 0 .e, .op 1 .e, .op 2 .e]) rfl ?_
  iterate 3 refine rx_s rfl rfl rfl rfl rfl ?_
  refine rx_end0 ?_
  refine SW.cond rfl (fun h17 => ?_) (fun h17 => ?_)
  · skip
    have hc : l.hgt - r.hgt > 1 := of_decide_eq_true h17
    have hb : T.bal h k x l r = T.fromLeft h k x l r := by unfold T.bal; rw [if_pos hc]
    rw [hb]
    obtain ⟨lh, lk, lw, ll, lr, lhi, rfl⟩ := T.node_of_hgt (t := l) (by omega)
    refine ioP (p := pr) (by (repeat first|exact .here|apply Take1.there)) ?_
    refine ioO (p := pl) (by (repeat first|exact .here|apply Take1.there)) ?_
    rintro bl p1 p2 rfl hh
    refine SW.seq ?_
    refine SW.reg (l := [.op 0 .e, .op 1 .e, .op 2 .e, .op 3 .e, .op 4 .e, .op 5 .e]) rfl ?_
    iterate 4 refine rx_s rfl rfl rfl rfl rfl ?_
    refine rx_callH (F := ?FT239) rfl rfl rfl rfl rfl rfl rfl rfl Fa.ca_195 rfl (fromLeft e m a b bl gv g hg A hA h k x q1 q2 hi lh lk lw ll lr lhi p1 p2 pr r wl wr hs hc) ?T239 ?_
    case T239 => (repeat (first|exact Take.nil|refine Take.cons (by (repeat first|exact .here|apply Take1.there)) ?_))
    rintro _ _ ⟨gv1, b1, rfl, rfl⟩
    try simp only [List.cons_append, List.nil_append]
    refine rx_s rfl rfl rfl rfl rfl ?_
    refine rx_end0 ?_
    refine SW.ret ?_
    exact retK1 (l := [_, _, _, _, _, _]) (.tmp rfl .nil) ⟨gv1, b1, rfl, rfl⟩ (.one (by (repeat first|exact .here|apply Take1.there)) (.one (by (repeat first|exact .here|apply Take1.there)) (.one (by (repeat first|exact .here|apply Take1.there)) (.one (by (repeat first|exact .here|apply Take1.there)) (.one (by (repeat first|exact .here|apply Take1.there)) (.one (by (repeat first|exact .here|apply Take1.there)) .nil))))))
  · skip
    have hc : ¬ (l.hgt - r.hgt > 1) := by simpa using h17
    refine SW.seq ?_
    refine SW.reg (l := [.op 0 .e, .op 1 .e, .op 2 .e]) rfl ?_
    iterate 3 refine rx_s rfl rfl rfl rfl rfl ?_
    refine rx_end0 ?_
    refine SW.cond rfl (fun h25 => ?_) (fun h25 => ?_)
    · skip
      have hc' : l.hgt - r.hgt < -1 := of_decide_eq_true h25
      have hb : T.bal h k x l r = T.fromRight h k x l r := by unfold T.bal; rw [if_neg hc, if_pos hc']
      rw [hb]
      obtain ⟨rh, rk, rw', rl, rr, rhi, rfl⟩ := T.node_of_hgt (t := r) (by omega)
      refine ioP (p := pl) (by (repeat first|exact .here|apply Take1.there)) ?_
      refine ioO (p := pr) (by (repeat first|exact .here|apply Take1.there)) ?_
      rintro br p1 p2 rfl hh
      refine SW.seq ?_
      refine SW.reg (l := [.op 0 .e, .op 1 .e, .op 2 .e, .op 3 .e, .op 4 .e, .op 5 .e]) rfl ?_
      iterate 4 refine rx_s rfl rfl rfl rfl rfl ?_
      refine rx_callH (F := ?FT240) rfl rfl rfl rfl rfl rfl rfl rfl Fa.ca_196 rfl (fromRight e m a b br gv g hg A hA h k x q1 q2 hi rh rk rw' rl rr rhi p1 p2 pl l wl wr hs hc') ?T240 ?_
      case T240 => (repeat (first|exact Take.nil|refine Take.cons (by (repeat first|exact .here|apply Take1.there)) ?_))
      rintro _ _ ⟨gv1, b1, rfl, rfl⟩
      try simp only [List.cons_append, List.nil_append]
      refine rx_s rfl rfl rfl rfl rfl ?_
      refine rx_end0 ?_
      refine SW.ret ?_
      exact retK1 (l := [_, _, _, _, _, _]) (.tmp rfl .nil) ⟨gv1, b1, rfl, rfl⟩ (.one (by (repeat first|exact .here|apply Take1.there)) (.one (by (repeat first|exact .here|apply Take1.there)) (.one (by (repeat first|exact .here|apply Take1.there)) (.one (by (repeat first|exact .here|apply Take1.there)) (.one (by (repeat first|exact .here|apply Take1.there)) (.one (by (repeat first|exact .here|apply Take1.there)) .nil))))))
    · skip
      have hc' : ¬ (l.hgt - r.hgt < -1) := by simpa using h25
      have hb : T.bal h k x l r = (T.mk k x l r, T.lv h) := by unfold T.bal; rw [if_neg hc, if_neg hc']
      rw [hb]
      refine ioP (p := pl) (by (repeat first|exact .here|apply Take1.there)) ?_
      refine ioP (p := pr) (by (repeat first|exact .here|apply Take1.there)) ?_
      refine SW.skip ?_
      try simp only [thenK, blockK, cond_true, cond_false, beq_self_eq_true, Nat.reduceBEq]
      refine SW.seq ?_
      refine SW.reg (l := [.op 0 .e, .op 1 .e, .op 2 .e, .op 3 .e, .op 4 .e, .op 5 .e]) rfl ?_
      iterate 4 refine rx_s rfl rfl rfl rfl rfl ?_
      refine rx_callH (F := ?FT241) rfl rfl rfl rfl rfl rfl rfl rfl Fa.ca_197 rfl (node e m a b gv g (by omega) A hA h k x q1 q2 hi pl pr l r wl wr (by omega) (by omega)) ?T241 ?_
      case T241 => (repeat (first|exact Take.nil|refine Take.cons (by (repeat first|exact .here|apply Take1.there)) ?_))
      rintro _ _ ⟨gv1, b1, rfl, rfl⟩
      try simp only [List.cons_append, List.nil_append]
      refine rx_s rfl rfl rfl rfl rfl ?_
      refine rx_end0 ?_
      refine SW.ret ?_
      exact retK1 (l := [_, _, _, _, _, _]) (.tmp rfl .nil) ⟨gv1, b1, rfl, rfl⟩ (.one (by (repeat first|exact .here|apply Take1.there)) (.one (by (repeat first|exact .here|apply Take1.there)) (.one (by (repeat first|exact .here|apply Take1.there)) (.one (by (repeat first|exact .here|apply Take1.there)) (.one (by (repeat first|exact .here|apply Take1.there)) (.one (by (repeat first|exact .here|apply Take1.there)) .nil))))))
end ItS
end Go.Proofs.YtikkegelplllmaaGreatDoor
/- A version's items: what is put, taken out, counted. -/
namespace Go.Proofs.YtikkegelplllmaaGreatDoor
open Go Go.Sl Go.Holt Go.Proofs
open Go.Holt.Enc (enc)
namespace ItS
open ArS (ArP getV)

theorem ipOpen {A : Ar SNode} {h : Handle} {k : Int} {x : Spot} {l r : TR} {hi : Int} {b : Nat} {pl pr : Option Addr} (hh : h ≠ ⟨0, 0⟩ → (T.node h k x l r hi).holds A) :
    EntS (star [IB b h k x pl pr hi, IP A pl l, IP A pr r]) (IP A (some ⟨b, 0, none⟩) (.node h k x l r hi)) := ItemP.open hh
theorem ipNew {A : Ar SNode} {k : Int} {x : Spot} {hi : Int} {b : Nat} :
    EntS (star [IB b ⟨0, 0⟩ k x none none hi]) (IP A (some ⟨b, 0, none⟩) (.node ⟨0, 0⟩ k x .nil .nil hi)) := by
  refine EntS.trans ?_ (ipOpen (pl := none) (pr := none) (fun q => absurd rfl q))
  refine EntS.sep (EntS.refl _) ?_
  intro R w h
  have h1 := ipNil (A := A) R w h
  have h2 := ipNil (A := A) _ w (by show Sat (sep emp _) w; rw [emp_sep]; exact h1)
  show Sat (sep (sep _ (sep _ emp)) R) w
  rw [sep_emp, sep_assoc]; exact h2
theorem ipIff {P : Program} {n : Nat} {ds : List Deferred} {e : Env} {c : Code} {KK : Exit → Env → HProp → Prop} {Hl F : List HProp} {A : Ar SNode} {p : Option Addr} {t : TR}
    (hT : Take1 Hl (IP A p t) F) (h : (p = none ↔ t = .nil) → SW P n ds c e (star Hl) KK) : SW P n ds c e (star Hl) KK := SW.itemIff hT h

/-- 'put' -/
theorem put (e m a : Nat) (A : Ar SNode) (hA : A.ok) (k : Int) (x : Spot) : ∀ (t : TR) (p : Option Addr) (gv : Value) (g : List Handle), t.wf → t.size ≤ 100000 → g.length + 3 * t.size ≤ 800000 →
    Sl.Spec Tryz.prog 145 #[.pointer (some ⟨e, 0, none⟩), .pointer p, .int .i64 k, .agg #[.bool x.is, .int .i64 x.to, .string x.name]] [EB e m gv, MB m a, ArP a A, GL gv g, IP A p t]
      (fun v l' => ∃ gv' p', v = .pointer p' ∧ l' = [EB e m gv', MB m a, ArP a A, GL gv' (g ++ (T.put cmpI k x t).2), IP A p' (T.put cmpI k x t).1]) := by
  intro t
  induction t with
  | nil =>
    intro p gv g _ _ _
    refine Holt.Spec.itemNil tk4 ?_
    rintro rfl
    simp only [T.put, List.append_nil]
    refine Spec.enter Tryz.func145 rfl rfl rfl ?_
    refine SW.seq ?_
    refine SW.reg (l := [.op 0 .e, .op 1 .e]) rfl ?_
    refine rx_box (.inr rfl) rfl rfl rfl rfl rfl rfl (cl := [_, _, _]) rfl ?_
    intro b7
    refine rx_s rfl rfl rfl rfl rfl ?_
    refine rx_end0 ?_
    refine SW.seq ?_
    refine SW.seq ?_
    refine SW.reg (l := [.op 0 .e, .op 1 .e]) rfl ?_
    refine rx_s rfl rfl rfl rfl rfl ?_
    refine rx_eqnil rfl rfl rfl rfl rfl Fa.pt_243 rfl ?_
    refine rx_end0 ?_
    refine SW.cond (b := true) rfl (fun _ => ?_) (fun h => nomatch h)
    refine SW.seq ?_
    refine SW.reg (l := [.op 0 .e, .op 1 .e, .op 2 .e, .op 3 .e, .op 4 .e]) rfl ?_
    refine rx_s rfl rfl rfl rfl rfl ?_
    refine rx_ldHA rfl rfl rfl rfl rfl rfl (by (repeat first|exact .here|apply Take1.there)) Fa.ag_98 Fa.sz_98 (vs := [_, _, _]) (by rfl) rfl ?_
    refine rx_build rfl rfl rfl rfl rfl Fa.st_273 rfl (cs := [_, _, _, _, _, _, _, _, _, _]) rfl ?_
    refine rx_box (.inr rfl) rfl rfl rfl rfl rfl rfl (cl := [_, _, _, _, _, _, _, _, _, _]) rfl ?_
    intro b15
    refine rx_s rfl rfl rfl rfl rfl ?_
    refine rx_end0 ?_
    refine SW.ret ?_
    exact retK1 (l := [_, _, _, _, _]) (.tmp rfl .nil) ⟨gv, some ⟨b15, 0, none⟩, rfl, rfl⟩ (.one (by (repeat first|exact .here|apply Take1.there)) (.one (by (repeat first|exact .here|apply Take1.there)) (.one (by (repeat first|exact .here|apply Take1.there)) (.one (by (repeat first|exact .here|apply Take1.there)) (.cons (.cons (by (repeat first|exact .here|apply Take1.there)) .nil) ipNew .nil)))))
  | node h k' x' l r hi il ir =>
    intro p gv g w hs hg
    have ho := opened e m a gv A hA p h k' x' l r hi
    rcases p with _ | p
    · exact Holt.Spec.itemNode tk4 (fun b q => by cases q) (fun b pl pr q => by cases q)
    simp only [T.size] at hs hg
    refine Spec.enter Tryz.func145 rfl rfl rfl ?_
    refine SW.seq ?_
    refine SW.reg (l := [.op 0 .e, .op 1 .e]) rfl ?_
    refine rx_box (.inr rfl) rfl rfl rfl rfl rfl rfl (cl := [_, _, _]) rfl ?_
    intro b7
    refine rx_s rfl rfl rfl rfl rfl ?_
    refine rx_end0 ?_
    refine SW.seq ?_
    refine SW.seq ?_
    refine SW.reg (l := [.op 0 .e, .op 1 .e]) rfl ?_
    refine rx_s rfl rfl rfl rfl rfl ?_
    refine rx_eqnil rfl rfl rfl rfl rfl Fa.pt_243 rfl ?_
    refine rx_end0 ?_
    refine SW.cond (b := false) rfl (fun h => nomatch h) (fun _ => ?_)
    refine SW.skip ?_
    try simp only [thenK, blockK, cond_true, cond_false, beq_self_eq_true, Nat.reduceBEq]
    refine SW.seq ?_
    refine SW.reg (l := [.op 0 .e, .op 1 .e, .op 2 .e, .op 3 .e]) rfl ?_
    iterate 2 refine rx_s rfl rfl rfl rfl rfl ?_
    refine rx_callH (F := ?FT341) rfl rfl rfl rfl rfl rfl rfl rfl Fa.ca_170 rfl (ho) ?T341 ?_
    case T341 => (repeat (first|exact Take.nil|refine Take.cons (by (repeat first|exact .here|apply Take1.there)) ?_))
    rintro _ _ ⟨b, pl, pr, hp, rfl, hh, rfl⟩
    try simp only [List.cons_append, List.nil_append]
    refine rx_s rfl rfl rfl rfl rfl ?_
    refine rx_end0 ?_
    refine SW.seq ?_
    refine SW.drawT (Hs := []) (D0l := []) (Dl := ?DT342) (F := ?FT342) Fa.mix (tp := [0, 1, 3, 7, 15, 31, 63, 0, 0, 256, 768, 1792, 4095, 8191]) (l := [.op 0 .s, .op 1 .s, .op 2 .s, .op 3 .d, .op 4 .s, .op 5 .s, .op 6 .d, .op 7 .s, .op 8 .s, .op 9 .s, .op 10 .s, .op 11 .d, .op 12 .e, .op 13 .s]) (by kernel_rfl) ?T342a ?T342b ?_
    case T342a => (repeat (first|exact Take.nil|refine Take.cons (by (repeat first|exact .here|apply Take1.there)) ?_))
    case T342b => (repeat (first|exact Take.nil|refine Take.cons (by (repeat first|exact .here|apply Take1.there)) ?_))
    iterate 2 refine rx_s rfl rfl rfl rfl rfl ?_
    refine rx_fa rfl rfl rfl rfl rfl rfl Fa.fo_241_0 ?_
    refine rx_ldD1 rfl rfl rfl rfl rfl rfl rfl (by (repeat first|exact .here|apply Take1.there)) Fa.ag_78 (by rfl) ?_
    refine rx_s rfl rfl rfl rfl rfl ?_
    refine rx_fa rfl rfl rfl rfl rfl rfl Fa.fo_186_1 ?_
    refine rx_ldD1 rfl rfl rfl rfl rfl rfl rfl (by (repeat first|exact .here|apply Take1.there)) Fa.ag_132 (by rfl) ?_
    iterate 3 refine rx_s rfl rfl rfl rfl rfl ?_
    refine rx_fa rfl rfl rfl rfl rfl rfl Fa.fo_273_2 ?_
    refine rx_ldD1 rfl rfl rfl rfl rfl rfl rfl (by (repeat first|exact .here|apply Take1.there)) Fa.ag_3 (by rfl) ?_
    refine rx_callH (F := ?FT343) rfl rfl rfl rfl rfl rfl rfl rfl Fa.ca_63 rfl (Cm.compareI k k') ?T343 ?_
    case T343 => (repeat (first|exact Take.nil|refine Take.cons (by (repeat first|exact .here|apply Take1.there)) ?_))
    rintro _ _ ⟨rfl, rfl⟩
    try simp only [List.cons_append, List.nil_append]
    refine rx_s rfl rfl rfl rfl rfl ?_
    refine rx_endD ?_
    try simp only [List.cons_append, List.nil_append]
    refine SW.seq ?_
    refine SW.block ?_
    refine SW.seq ?_
    refine SW.reg (l := [.op 0 .e, .op 1 .e, .op 2 .e]) rfl ?_
    iterate 3 refine rx_s rfl rfl rfl rfl rfl ?_
    refine rx_end0 ?_
    refine SW.cond rfl (fun h32 => ?_) (fun h32 => ?_)
    · skip
      have hc : cmpI k k' < 0 := of_decide_eq_true h32
      simp only [T.put]
      rw [if_pos hc, ← List.append_assoc]
      refine SW.seq ?_
      refine SW.drawT (Hs := [EB e m gv, MB m a, ArP a A, GL gv g, IP A pl l, IP A pr r]) (D0l := []) (Dl := ?DT344) (F := ?FT344) Fa.mix (tp := [0, 0, 0, 0, 8, 24, 56, 0, 0, 508, 0, 1024, 3072, 7168, 16383, 32767]) (l := [.op 0 .s, .op 1 .s, .op 2 .s, .op 3 .s, .op 4 .s, .op 5 .s, .op 6 .d, .op 7 .s, .op 8 .d, .op 9 .e, .op 10 .s, .op 11 .s, .op 12 .s, .op 13 .d, .op 14 .e, .op 15 .s]) (by kernel_rfl) ?T344a ?T344b ?_
      case T344a => (repeat (first|exact Take.nil|refine Take.cons (by (repeat first|exact .here|apply Take1.there)) ?_))
      case T344b => (repeat (first|exact Take.nil|refine Take.cons (by (repeat first|exact .here|apply Take1.there)) ?_))
      iterate 5 refine rx_s rfl rfl rfl rfl rfl ?_
      refine rx_fa rfl rfl rfl rfl rfl rfl Fa.fo_273_4 ?_
      refine rx_ldD1 rfl rfl rfl rfl rfl rfl rfl (by (repeat first|exact .here|apply Take1.there)) Fa.ag_243 (by rfl) ?_
      refine rx_s rfl rfl rfl rfl rfl ?_
      refine rx_ldDA rfl rfl rfl rfl rfl rfl rfl (by (repeat first|exact .here|apply Take1.there)) Fa.ag_98 Fa.sz_98 (vs := [_, _, _]) (by rfl) rfl ?_
      refine rx_callH (F := ?FT345) rfl rfl rfl rfl rfl rfl rfl rfl Fa.ca_145 rfl (il pl gv g w.2.1 (by omega) (by omega)) ?T345 ?_
      case T345 => (repeat (first|exact Take.nil|refine Take.cons (by (repeat first|exact .here|apply Take1.there)) ?_))
      rintro _ _ ⟨gv1, p1, rfl, rfl⟩
      try simp only [List.cons_append, List.nil_append]
      iterate 2 refine rx_s rfl rfl rfl rfl rfl ?_
      refine rx_fa rfl rfl rfl rfl rfl rfl Fa.fo_273_5 ?_
      refine rx_ldD1 rfl rfl rfl rfl rfl rfl rfl (by (repeat first|exact .here|apply Take1.there)) Fa.ag_243 (by rfl) ?_
      refine rx_call (F := ?FT346) rfl rfl rfl rfl rfl rfl rfl rfl Fa.ca_171 rfl (balance e m a b gv1 (g ++ (T.put cmpI k x l).2) (by have := T.put_len cmpI k x l; simp; omega) A hA h k' x' pl pr hi p1 pr (T.put cmpI k x l).1 r (T.put_wf _ _ _ w.2.1).1 w.2.2 (by have := (T.put_wf cmpI k x w.2.1).2; omega)) ?T346 ?_
      case T346 => (repeat (first|exact Take.nil|refine Take.cons (by (repeat first|exact .here|apply Take1.there)) ?_))
      rintro _ _ ⟨gv2, b2, rfl, rfl⟩
      refine ⟨?HT347, ?T347, ?_⟩
      case T347 => (repeat (first|exact Take.nil|refine Take.cons (by (repeat first|exact .here|apply Take1.there)) ?_))
      try simp only [List.cons_append, List.nil_append]
      refine rx_s rfl rfl rfl rfl rfl ?_
      refine rx_endD ?_
      try simp only [List.cons_append, List.nil_append]
      refine SW.ret ?_
      exact retK1 (l := [_, _, _, _, _]) (.tmp rfl .nil) ⟨gv2, _, rfl, rfl⟩ (.one (by (repeat first|exact .here|apply Take1.there)) (.one (by (repeat first|exact .here|apply Take1.there)) (.one (by (repeat first|exact .here|apply Take1.there)) (.one (by (repeat first|exact .here|apply Take1.there)) (.one (by (repeat first|exact .here|apply Take1.there)) .nil)))))
    · skip
      have hc : ¬ (cmpI k k' < 0) := by simpa using h32
      refine SW.seq ?_
      refine SW.reg (l := [.op 0 .e, .op 1 .e, .op 2 .e]) rfl ?_
      iterate 3 refine rx_s rfl rfl rfl rfl rfl ?_
      refine rx_end0 ?_
      refine SW.cond rfl (fun h50 => ?_) (fun h50 => ?_)
      · skip
        have hc' : cmpI k k' > 0 := of_decide_eq_true h50
        simp only [T.put]
        rw [if_neg hc, if_pos hc', ← List.append_assoc]
        refine SW.seq ?_
        refine SW.drawT (Hs := [EB e m gv, MB m a, ArP a A, GL gv g, IP A pl l, IP A pr r]) (D0l := []) (Dl := ?DT348) (F := ?FT348) Fa.mix (tp := [0, 0, 0, 4, 12, 28, 0, 0, 128, 384, 896, 0, 0, 8128, 16383, 32767]) (l := [.op 0 .s, .op 1 .s, .op 2 .s, .op 3 .s, .op 4 .s, .op 5 .d, .op 6 .s, .op 7 .s, .op 8 .s, .op 9 .s, .op 10 .d, .op 11 .s, .op 12 .d, .op 13 .e, .op 14 .e, .op 15 .s]) (by kernel_rfl) ?T348a ?T348b ?_
        case T348a => (repeat (first|exact Take.nil|refine Take.cons (by (repeat first|exact .here|apply Take1.there)) ?_))
        case T348b => (repeat (first|exact Take.nil|refine Take.cons (by (repeat first|exact .here|apply Take1.there)) ?_))
        iterate 4 refine rx_s rfl rfl rfl rfl rfl ?_
        refine rx_fa rfl rfl rfl rfl rfl rfl Fa.fo_273_4 ?_
        refine rx_ldD1 rfl rfl rfl rfl rfl rfl rfl (by (repeat first|exact .here|apply Take1.there)) Fa.ag_243 (by rfl) ?_
        iterate 3 refine rx_s rfl rfl rfl rfl rfl ?_
        refine rx_fa rfl rfl rfl rfl rfl rfl Fa.fo_273_5 ?_
        refine rx_ldD1 rfl rfl rfl rfl rfl rfl rfl (by (repeat first|exact .here|apply Take1.there)) Fa.ag_243 (by rfl) ?_
        refine rx_s rfl rfl rfl rfl rfl ?_
        refine rx_ldDA rfl rfl rfl rfl rfl rfl rfl (by (repeat first|exact .here|apply Take1.there)) Fa.ag_98 Fa.sz_98 (vs := [_, _, _]) (by rfl) rfl ?_
        refine rx_callH (F := ?FT349) rfl rfl rfl rfl rfl rfl rfl rfl Fa.ca_145 rfl (ir pr gv g w.2.2 (by omega) (by omega)) ?T349 ?_
        case T349 => (repeat (first|exact Take.nil|refine Take.cons (by (repeat first|exact .here|apply Take1.there)) ?_))
        rintro _ _ ⟨gv1, p1, rfl, rfl⟩
        try simp only [List.cons_append, List.nil_append]
        refine rx_call (F := ?FT350) rfl rfl rfl rfl rfl rfl rfl rfl Fa.ca_171 rfl (balance e m a b gv1 (g ++ (T.put cmpI k x r).2) (by have := T.put_len cmpI k x r; simp; omega) A hA h k' x' pl pr hi pl p1 l (T.put cmpI k x r).1 w.2.1 (T.put_wf _ _ _ w.2.2).1 (by have := (T.put_wf cmpI k x w.2.2).2; omega)) ?T350 ?_
        case T350 => (repeat (first|exact Take.nil|refine Take.cons (by (repeat first|exact .here|apply Take1.there)) ?_))
        rintro _ _ ⟨gv2, b2, rfl, rfl⟩
        refine ⟨?HT351, ?T351, ?_⟩
        case T351 => (repeat (first|exact Take.nil|refine Take.cons (by (repeat first|exact .here|apply Take1.there)) ?_))
        try simp only [List.cons_append, List.nil_append]
        refine rx_s rfl rfl rfl rfl rfl ?_
        refine rx_endD ?_
        try simp only [List.cons_append, List.nil_append]
        refine SW.ret ?_
        exact retK1 (l := [_, _, _, _, _]) (.tmp rfl .nil) ⟨gv2, _, rfl, rfl⟩ (.one (by (repeat first|exact .here|apply Take1.there)) (.one (by (repeat first|exact .here|apply Take1.there)) (.one (by (repeat first|exact .here|apply Take1.there)) (.one (by (repeat first|exact .here|apply Take1.there)) (.one (by (repeat first|exact .here|apply Take1.there)) .nil)))))
      · skip
        have hc' : ¬ (cmpI k k' > 0) := by simpa using h50
        simp only [T.put]
        rw [if_neg hc, if_neg hc']
        refine SW.skip ?_
        try simp only [thenK, blockK, cond_true, cond_false, beq_self_eq_true, Nat.reduceBEq]
        refine SW.seq ?_
        refine SW.reg (l := [.op 0 .e, .op 1 .e, .op 2 .e]) rfl ?_
        iterate 2 refine rx_s rfl rfl rfl rfl rfl ?_
        refine rx_callH (F := ?FT352) rfl rfl rfl rfl rfl rfl rfl rfl Fa.ca_172 rfl (leave e m b gv g (by omega) h k' x' pl pr hi) ?T352 ?_
        case T352 => (repeat (first|exact Take.nil|refine Take.cons (by (repeat first|exact .here|apply Take1.there)) ?_))
        rintro _ _ ⟨gv1, rfl, rfl⟩
        try simp only [List.cons_append, List.nil_append]
        refine rx_end0 ?_
        refine SW.seq ?_
        refine SW.drawAll Fa.mix (tp := [0, 0, 0, 4, 12, 28, 0, 64, 192, 448, 0, 1024, 3072, 7168, 16383, 32767, 65535]) (l := [.op 0 .s, .op 1 .d, .op 2 .s, .op 3 .s, .op 4 .s, .op 5 .d, .op 6 .s, .op 7 .s, .op 8 .s, .op 9 .d, .op 10 .s, .op 11 .s, .op 12 .s, .op 13 .d, .op 14 .s, .op 15 .f, .op 16 .s]) (by kernel_rfl) ?_
        refine rx_s rfl rfl rfl rfl rfl ?_
        refine rx_ldDA rfl rfl rfl rfl rfl rfl rfl (by (repeat first|exact .here|apply Take1.there)) Fa.ag_98 Fa.sz_98 (vs := [_, _, _]) (by rfl) rfl ?_
        iterate 2 refine rx_s rfl rfl rfl rfl rfl ?_
        refine rx_fa rfl rfl rfl rfl rfl rfl Fa.fo_273_4 ?_
        refine rx_ldD1 rfl rfl rfl rfl rfl rfl rfl (by (repeat first|exact .here|apply Take1.there)) Fa.ag_243 (by rfl) ?_
        iterate 2 refine rx_s rfl rfl rfl rfl rfl ?_
        refine rx_fa rfl rfl rfl rfl rfl rfl Fa.fo_273_5 ?_
        refine rx_ldD1 rfl rfl rfl rfl rfl rfl rfl (by (repeat first|exact .here|apply Take1.there)) Fa.ag_243 (by rfl) ?_
        iterate 2 refine rx_s rfl rfl rfl rfl rfl ?_
        refine rx_fa rfl rfl rfl rfl rfl rfl Fa.fo_273_6 ?_
        refine rx_ldD1 rfl rfl rfl rfl rfl rfl rfl (by (repeat first|exact .here|apply Take1.there)) Fa.ag_3 (by rfl) ?_
        refine rx_build rfl rfl rfl rfl rfl Fa.st_273 rfl (cs := [_, _, _, _, _, _, _, _, _, _]) rfl ?_
        refine rx_box (.inl rfl) rfl rfl rfl rfl rfl rfl (cl := [_, _, _, _, _, _, _, _, _, _]) rfl ?_
        intro b86
        refine rx_s rfl rfl rfl rfl rfl ?_
        refine rx_endD ?_
        try simp only [List.cons_append, List.nil_append]
        refine SW.ret ?_
        exact retK1 (l := [_, _, _, _, _]) (.tmp rfl .nil) ⟨gv1, some ⟨b86, 0, none⟩, rfl, rfl⟩ (.one (by (repeat first|exact .here|apply Take1.there)) (.one (by (repeat first|exact .here|apply Take1.there)) (.one (by (repeat first|exact .here|apply Take1.there)) (.one (by (repeat first|exact .here|apply Take1.there)) (.cons (.cons (by (repeat first|exact .here|apply Take1.there)) (.cons (by (repeat first|exact .here|apply Take1.there)) (.cons (by (repeat first|exact .here|apply Take1.there)) .nil))) (ipOpen (h := ⟨0, 0⟩) (fun q => absurd rfl q)) .nil)))))

/-- 'least' -/
theorem least (e m a : Nat) (A : Ar SNode) (hA : A.ok) : ∀ (t : TR) (h : Handle) (k : Int) (x : Spot) (l r : TR) (hi : Int), t = .node h k x l r hi → ∀ (p : Option Addr) (gv : Value) (g : List Handle), t.wf → t.size ≤ 100000 → g.length + 3 * t.size ≤ 800000 →
    Sl.Spec Tryz.prog 173 #[.pointer (some ⟨e, 0, none⟩), .pointer p] [EB e m gv, MB m a, ArP a A, GL gv g, IP A p t]
      (fun v l' => ∃ gv' b' q1 q2 hi' p', v = .tuple #[.pointer (some ⟨b', 0, none⟩), .pointer p'] ∧ l' = [EB e m gv', MB m a, ArP a A, GL gv' (g ++ (T.least h k x l r).2.2),
        IB b' (T.least h k x l r).1.1 (T.least h k x l r).1.2.1 (T.least h k x l r).1.2.2 q1 q2 hi', IP A p' (T.least h k x l r).2.1]) := by
  intro t
  induction t with
  | nil => intro h k x l r hi q; cases q
  | node h k x l r hi il ir =>
    intro h' k' x' l' r' hi' q p gv g w hs hg
    cases q
    have ho := opened e m a gv A hA p h k x l r hi
    simp only [T.size] at hs hg
    cases l with
    | nil =>
      simp only [T.least, List.append_nil]
      refine Spec.enter Tryz.func173 rfl rfl rfl ?_
      refine SW.seq ?_
      refine SW.reg (l := [.op 0 .e, .op 1 .e]) rfl ?_
      iterate 2 refine rx_s rfl rfl rfl rfl rfl ?_
      refine rx_end0 ?_
      refine SW.seq ?_
      refine SW.reg (l := [.op 0 .e, .op 1 .e, .op 2 .e, .op 3 .e]) rfl ?_
      iterate 2 refine rx_s rfl rfl rfl rfl rfl ?_
      refine rx_callH (F := ?FT353) rfl rfl rfl rfl rfl rfl rfl rfl Fa.ca_170 rfl (ho) ?T353 ?_
      case T353 => (repeat (first|exact Take.nil|refine Take.cons (by (repeat first|exact .here|apply Take1.there)) ?_))
      rintro _ _ ⟨b, pl, pr, hp, rfl, hh, rfl⟩
      try simp only [List.cons_append, List.nil_append]
      refine rx_s rfl rfl rfl rfl rfl ?_
      refine rx_end0 ?_
      refine SW.seq ?_
      refine SW.seq ?_
      refine ipIff (p := pl) (by (repeat first|exact .here|apply Take1.there)) (fun hpl => ?_)
      obtain rfl := hpl.2 rfl
      refine SW.reg (l := [.op 0 .e, .op 1 .e, .op 2 .e, .op 3 .e, .op 4 .e]) rfl ?_
      iterate 2 refine rx_s rfl rfl rfl rfl rfl ?_
      refine rx_fa rfl rfl rfl rfl rfl rfl Fa.fo_273_4 ?_
      refine rx_ldH1 rfl rfl rfl rfl rfl rfl (by (repeat first|exact .here|apply Take1.there)) Fa.ag_243 (by rfl) ?_
      refine rx_eqnil rfl rfl rfl rfl rfl Fa.pt_243 rfl ?_
      refine rx_end0 ?_
      refine SW.cond (b := true) rfl (fun _ => ?_) (fun h => nomatch h)
      refine SW.seq ?_
      refine SW.drawAll Fa.mix (tp := [0, 0, 2, 6, 14, 1, 63]) (l := [.op 0 .s, .op 1 .s, .op 2 .s, .op 3 .s, .op 4 .d, .op 5 .s, .op 6 .s]) (by kernel_rfl) ?_
      iterate 3 refine rx_s rfl rfl rfl rfl rfl ?_
      refine rx_fa rfl rfl rfl rfl rfl rfl Fa.fo_273_5 ?_
      refine rx_ldD1 rfl rfl rfl rfl rfl rfl rfl (by (repeat first|exact .here|apply Take1.there)) Fa.ag_243 (by rfl) ?_
      iterate 2 refine rx_s rfl rfl rfl rfl rfl ?_
      refine rx_endD ?_
      try simp only [List.cons_append, List.nil_append]
      refine SW.ret ?_
      exact retK2 (l := [_, _, _, _, _, _]) (.tmp rfl (.tmp rfl .nil)) ⟨gv, b, none, pr, hi, pr, rfl, rfl⟩ (.one (by (repeat first|exact .here|apply Take1.there)) (.one (by (repeat first|exact .here|apply Take1.there)) (.one (by (repeat first|exact .here|apply Take1.there)) (.one (by (repeat first|exact .here|apply Take1.there)) (.one (by (repeat first|exact .here|apply Take1.there)) (.one (by (repeat first|exact .here|apply Take1.there)) .nil))))))
    | node lh lk lw ll lr lhi =>
      simp only [T.least]
      rw [← List.append_assoc]
      simp only [T.size] at hs hg il
      refine Spec.enter Tryz.func173 rfl rfl rfl ?_
      refine SW.seq ?_
      refine SW.reg (l := [.op 0 .e, .op 1 .e]) rfl ?_
      iterate 2 refine rx_s rfl rfl rfl rfl rfl ?_
      refine rx_end0 ?_
      refine SW.seq ?_
      refine SW.reg (l := [.op 0 .e, .op 1 .e, .op 2 .e, .op 3 .e]) rfl ?_
      iterate 2 refine rx_s rfl rfl rfl rfl rfl ?_
      refine rx_callH (F := ?FT354) rfl rfl rfl rfl rfl rfl rfl rfl Fa.ca_170 rfl (ho) ?T354 ?_
      case T354 => (repeat (first|exact Take.nil|refine Take.cons (by (repeat first|exact .here|apply Take1.there)) ?_))
      rintro _ _ ⟨b, pl, pr, hp, rfl, hh, rfl⟩
      try simp only [List.cons_append, List.nil_append]
      refine rx_s rfl rfl rfl rfl rfl ?_
      refine rx_end0 ?_
      refine SW.seq ?_
      refine SW.seq ?_
      refine ipIff (p := pl) (by (repeat first|exact .here|apply Take1.there)) (fun hpl => ?_)
      rcases pl with _ | pl
      · cases hpl.1 rfl
      refine SW.reg (l := [.op 0 .e, .op 1 .e, .op 2 .e, .op 3 .e, .op 4 .e]) rfl ?_
      iterate 2 refine rx_s rfl rfl rfl rfl rfl ?_
      refine rx_fa rfl rfl rfl rfl rfl rfl Fa.fo_273_4 ?_
      refine rx_ldH1 rfl rfl rfl rfl rfl rfl (by (repeat first|exact .here|apply Take1.there)) Fa.ag_243 (by rfl) ?_
      refine rx_eqnil rfl rfl rfl rfl rfl Fa.pt_243 rfl ?_
      refine rx_end0 ?_
      refine SW.cond (b := false) rfl (fun h => nomatch h) (fun _ => ?_)
      refine SW.skip ?_
      try simp only [thenK, blockK, cond_true, cond_false, beq_self_eq_true, Nat.reduceBEq]
      refine SW.seq ?_
      refine SW.reg (l := [.op 0 .e, .op 1 .e, .op 2 .e, .op 3 .e, .op 4 .e, .op 5 .e, .op 6 .e, .op 7 .e, .op 8 .e, .op 9 .e, .op 10 .e]) rfl ?_
      iterate 3 refine rx_s rfl rfl rfl rfl rfl ?_
      refine rx_fa rfl rfl rfl rfl rfl rfl Fa.fo_273_4 ?_
      refine rx_ldH1 rfl rfl rfl rfl rfl rfl (by (repeat first|exact .here|apply Take1.there)) Fa.ag_243 (by rfl) ?_
      refine rx_callH (F := ?FT355) rfl rfl rfl rfl rfl rfl rfl rfl Fa.ca_173 rfl (il lh lk lw ll lr lhi rfl (some pl) gv g w.2.1 (by omega) (by omega)) ?T355 ?_
      case T355 => (repeat (first|exact Take.nil|refine Take.cons (by (repeat first|exact .here|apply Take1.there)) ?_))
      rintro _ _ ⟨gv1, b1, q1, q2, hi1, p1, rfl, rfl⟩
      try simp only [List.cons_append, List.nil_append]
      iterate 5 refine rx_s rfl rfl rfl rfl rfl ?_
      refine rx_end0 ?_
      refine SW.seq ?_
      refine SW.reg (l := [.op 0 .e, .op 1 .e, .op 2 .e, .op 3 .e, .op 4 .e, .op 5 .e, .op 6 .e, .op 7 .e, .op 8 .e, .op 9 .e, .op 10 .e]) rfl ?_
      iterate 6 refine rx_s rfl rfl rfl rfl rfl ?_
      refine rx_fa rfl rfl rfl rfl rfl rfl Fa.fo_273_5 ?_
      refine rx_ldH1 rfl rfl rfl rfl rfl rfl (by (repeat first|exact .here|apply Take1.there)) Fa.ag_243 (by rfl) ?_
      refine rx_callH (F := ?FT356) rfl rfl rfl rfl rfl rfl rfl rfl Fa.ca_171 rfl (balance e m a b gv1 (g ++ (T.least lh lk lw ll lr).2.2) (by have := T.least_len (h := lh) (k := lk) (v := lw) (l := ll) (r := lr); simp; omega) A hA h k x (some pl) pr hi p1 pr (T.least lh lk lw ll lr).2.1 r (T.least_wf w.2.1.2.1 w.2.1.2.2).1 w.2.2 (by have := (T.least_wf (h := lh) (k := lk) (v := lw) w.2.1.2.1 w.2.1.2.2).2; omega)) ?T356 ?_
      case T356 => (repeat (first|exact Take.nil|refine Take.cons (by (repeat first|exact .here|apply Take1.there)) ?_))
      rintro _ _ ⟨gv2, b2, rfl, rfl⟩
      try simp only [List.cons_append, List.nil_append]
      iterate 2 refine rx_s rfl rfl rfl rfl rfl ?_
      refine rx_end0 ?_
      refine SW.ret ?_
      exact retK2 (l := [_, _, _, _, _, _]) (.tmp rfl (.tmp rfl .nil)) ⟨gv2, b1, q1, q2, hi1, some ⟨b2, 0, none⟩, rfl, rfl⟩ (.one (by (repeat first|exact .here|apply Take1.there)) (.one (by (repeat first|exact .here|apply Take1.there)) (.one (by (repeat first|exact .here|apply Take1.there)) (.one (by (repeat first|exact .here|apply Take1.there)) (.one (by (repeat first|exact .here|apply Take1.there)) (.one (by (repeat first|exact .here|apply Take1.there)) .nil))))))

/-- 'fresh' -/
theorem fresh (v0 : Value) (A : Ar SNode) : ∀ (t : TR) (p : Option Addr), t.size ≤ 100000 →
    Sl.Spec Tryz.prog 167 #[v0, .pointer p] [IP A p t] (fun v l' => v = .int .i64 (t.fresh : Nat) ∧ l' = [IP A p t]) := by
  intro t
  induction t with
  | nil =>
    intro p _
    refine Holt.Spec.itemNil tk0 ?_
    rintro rfl
    refine Spec.enter Tryz.func167 rfl rfl rfl ?_
    refine SW.seq ?_
    refine SW.reg (l := [.op 0 .e]) rfl ?_
    refine rx_s rfl rfl rfl rfl rfl ?_
    refine rx_end0 ?_
    refine SW.seq ?_
    refine SW.seq ?_
    refine SW.reg (l := [.op 0 .e, .op 1 .e, .op 2 .e, .op 3 .e, .op 4 .e, .op 5 .e, .op 6 .e, .op 7 .e, .op 8 .e, .op 9 .e]) rfl ?_
    refine rx_s rfl rfl rfl rfl rfl ?_
    refine rx_eqnil rfl rfl rfl rfl rfl Fa.pt_243 rfl ?_
    refine rx_s rfl rfl rfl rfl rfl ?_
    refine rx_skip rfl rfl rfl rfl ?_
    refine rx_skip rfl rfl rfl rfl ?_
    refine rx_skip rfl rfl rfl rfl ?_
    refine rx_skip rfl rfl rfl rfl ?_
    refine rx_skip rfl rfl rfl rfl ?_
    refine rx_skip rfl rfl rfl rfl ?_
    refine rx_s rfl rfl rfl rfl rfl ?_
    refine rx_end0 ?_
    refine SW.cond (b := true) rfl (fun _ => ?_) (fun h => nomatch h)
    refine SW.seq ?_
    refine SW.reg (l := [.op 0 .e]) rfl ?_
    refine rx_s rfl rfl rfl rfl rfl ?_
    refine rx_end0 ?_
    refine SW.ret ?_
    exact retK1 (l := [_]) (.tmp rfl .nil) ⟨rfl, rfl⟩ (.cons .nil ipNil .nil)
  | node h k x l r hi il ir =>
    intro p hs
    simp only [T.size] at hs
    refine Holt.Spec.itemNode tk0 ?_ ?_
    · rintro b rfl h0 hh
      have hf : (T.node h k x l r hi).fresh = 0 := by simp [T.fresh, h0]
      rw [hf]
      refine Spec.enter Tryz.func167 rfl rfl rfl ?_
      simp only [shutC, enc, Enc.enc, List.cons_append, List.nil_append]
      refine SW.seq ?_
      refine SW.reg (l := [.op 0 .e]) rfl ?_
      refine rx_s rfl rfl rfl rfl rfl ?_
      refine rx_end0 ?_
      refine SW.seq ?_
      refine SW.seq ?_
      refine SW.reg (l := [.op 0 .e, .op 1 .e, .op 2 .e, .op 3 .e, .op 4 .e, .op 5 .e, .op 6 .e, .op 7 .e, .op 8 .e, .op 9 .e]) rfl ?_
      refine rx_s rfl rfl rfl rfl rfl ?_
      refine rx_eqnil rfl rfl rfl rfl rfl Fa.pt_243 rfl ?_
      iterate 3 refine rx_s rfl rfl rfl rfl rfl ?_
      refine rx_fa rfl rfl rfl rfl rfl rfl Fa.fo_273_0 ?_
      refine rx_ldHA rfl rfl rfl rfl rfl rfl (by (repeat first|exact .here|apply Take1.there)) Fa.ag_56 Fa.sz_56 (vs := [_, _]) (by rfl) rfl ?_
      refine rx_build rfl rfl rfl rfl rfl Fa.st_56 rfl (cs := [_, _]) rfl ?_
      refine rx_neS rfl rfl rfl rfl rfl Fa.eq_56 rfl rfl rfl ?_
      refine rx_s rfl rfl rfl rfl rfl ?_
      refine rx_end0 ?_
      refine SW.cond rfl (fun h14 => ?_) (fun h14 => ?_)
      · skip
        refine SW.seq ?_
        refine SW.reg (l := [.op 0 .e]) rfl ?_
        refine rx_s rfl rfl rfl rfl rfl ?_
        refine rx_end0 ?_
        refine SW.ret ?_
        exact retK1 (l := [_]) (.tmp rfl .nil) ⟨rfl, rfl⟩ (.cons (.cons (by (repeat first|exact .here|apply Take1.there)) .nil) (ItemP.shut h0 hh) .nil)
      · (exfalso; apply h0; rcases h with ⟨h1, h2⟩; simp at h14; simp [h14])
    · rintro b pl pr rfl hh
      have hl := T.fresh_size l
      have hr := T.fresh_size r
      refine Spec.enter Tryz.func167 rfl rfl rfl ?_
      simp only [openC, enc, Enc.enc, List.cons_append, List.nil_append]
      refine SW.seq ?_
      refine SW.reg (l := [.op 0 .e]) rfl ?_
      refine rx_s rfl rfl rfl rfl rfl ?_
      refine rx_end0 ?_
      refine SW.seq ?_
      refine SW.seq ?_
      refine SW.reg (l := [.op 0 .e, .op 1 .e, .op 2 .e, .op 3 .e, .op 4 .e, .op 5 .e, .op 6 .e, .op 7 .e, .op 8 .e, .op 9 .e]) rfl ?_
      refine rx_s rfl rfl rfl rfl rfl ?_
      refine rx_eqnil rfl rfl rfl rfl rfl Fa.pt_243 rfl ?_
      iterate 3 refine rx_s rfl rfl rfl rfl rfl ?_
      refine rx_fa rfl rfl rfl rfl rfl rfl Fa.fo_273_0 ?_
      refine rx_ldHA rfl rfl rfl rfl rfl rfl (by (repeat first|exact .here|apply Take1.there)) Fa.ag_56 Fa.sz_56 (vs := [_, _]) (by rfl) rfl ?_
      refine rx_build rfl rfl rfl rfl rfl Fa.st_56 rfl (cs := [_, _]) rfl ?_
      refine rx_neS rfl rfl rfl rfl rfl Fa.eq_56 rfl rfl rfl ?_
      refine rx_s rfl rfl rfl rfl rfl ?_
      refine rx_end0 ?_
      refine SW.cond rfl (fun h14 => ?_) (fun h14 => ?_)
      · skip
        have h0 : h ≠ ⟨0, 0⟩ := by rintro rfl; simp at h14
        have hf : (T.node h k x l r hi).fresh = 0 := by simp [T.fresh, h0]
        rw [hf]
        refine SW.seq ?_
        refine SW.reg (l := [.op 0 .e]) rfl ?_
        refine rx_s rfl rfl rfl rfl rfl ?_
        refine rx_end0 ?_
        refine SW.ret ?_
        exact retK1 (l := [_]) (.tmp rfl .nil) ⟨rfl, rfl⟩ (.cons (.cons (by (repeat first|exact .here|apply Take1.there)) (.cons (by (repeat first|exact .here|apply Take1.there)) (.cons (by (repeat first|exact .here|apply Take1.there)) .nil))) (ipOpen hh) .nil)
      · skip
        have h0 : h = ⟨0, 0⟩ := by rcases h with ⟨h1, h2⟩; simp at h14; simp [h14]
        have hf : (T.node h k x l r hi).fresh = 1 + l.fresh + r.fresh := by simp [T.fresh, h0]
        rw [hf]
        refine SW.skip ?_
        try simp only [thenK, blockK, cond_true, cond_false, beq_self_eq_true, Nat.reduceBEq]
        refine SW.seq ?_
        refine SW.drawT (Hs := [IP A pl l, IP A pr r]) (D0l := []) (Dl := ?DT357) (F := ?FT357) Fa.mix (tp := [0, 0, 2, 6, 14, 31, 63, 0, 0, 256, 768, 1792, 4031, 8191, 16383]) (l := [.op 0 .s, .op 1 .s, .op 2 .s, .op 3 .s, .op 4 .d, .op 5 .e, .op 6 .s, .op 7 .s, .op 8 .s, .op 9 .s, .op 10 .s, .op 11 .d, .op 12 .e, .op 13 .s, .op 14 .s]) (by kernel_rfl) ?T357a ?T357b ?_
        case T357a => (repeat (first|exact Take.nil|refine Take.cons (by (repeat first|exact .here|apply Take1.there)) ?_))
        case T357b => (repeat (first|exact Take.nil|refine Take.cons (by (repeat first|exact .here|apply Take1.there)) ?_))
        iterate 3 refine rx_s rfl rfl rfl rfl rfl ?_
        refine rx_fa rfl rfl rfl rfl rfl rfl Fa.fo_273_4 ?_
        refine rx_ldD1 rfl rfl rfl rfl rfl rfl rfl (by (repeat first|exact .here|apply Take1.there)) Fa.ag_243 (by rfl) ?_
        refine rx_callH (F := ?FT358) rfl rfl rfl rfl rfl rfl rfl rfl Fa.ca_167 rfl (il pl (by omega)) ?T358 ?_
        case T358 => (repeat (first|exact Take.nil|refine Take.cons (by (repeat first|exact .here|apply Take1.there)) ?_))
        rintro _ _ ⟨rfl, rfl⟩
        try simp only [List.cons_append, List.nil_append]
        refine rx_ar rfl rfl rfl rfl rfl (by omega) ?_
        iterate 3 refine rx_s rfl rfl rfl rfl rfl ?_
        refine rx_fa rfl rfl rfl rfl rfl rfl Fa.fo_273_5 ?_
        refine rx_ldD1 rfl rfl rfl rfl rfl rfl rfl (by (repeat first|exact .here|apply Take1.there)) Fa.ag_243 (by rfl) ?_
        refine rx_callH (F := ?FT359) rfl rfl rfl rfl rfl rfl rfl rfl Fa.ca_167 rfl (ir pr (by omega)) ?T359 ?_
        case T359 => (repeat (first|exact Take.nil|refine Take.cons (by (repeat first|exact .here|apply Take1.there)) ?_))
        rintro _ _ ⟨rfl, rfl⟩
        try simp only [List.cons_append, List.nil_append]
        refine rx_ar rfl rfl rfl rfl rfl (by omega) ?_
        refine rx_s rfl rfl rfl rfl rfl ?_
        refine rx_endD ?_
        try simp only [List.cons_append, List.nil_append]
        refine SW.ret ?_
        exact retK1 (l := [_]) (.tmp rfl .nil) ⟨by congr 1, rfl⟩ (.cons (.cons (by (repeat first|exact .here|apply Take1.there)) (.cons (by (repeat first|exact .here|apply Take1.there)) (.cons (by (repeat first|exact .here|apply Take1.there)) .nil))) (ipOpen hh) .nil)

/-- 'del' -/
theorem del (e m a : Nat) (A : Ar SNode) (hA : A.ok) (k : Int) : ∀ (t : TR) (p : Option Addr) (gv : Value) (g : List Handle), (T.nth cmpI k t).isSome → t.wf → t.size ≤ 100000 → g.length + 4 * t.size ≤ 800000 →
    Sl.Spec Tryz.prog 142 #[.pointer (some ⟨e, 0, none⟩), .pointer p, .int .i64 k] [EB e m gv, MB m a, ArP a A, GL gv g, IP A p t]
      (fun v l' => ∃ gv' p', v = .pointer p' ∧ l' = [EB e m gv', MB m a, ArP a A, GL gv' (g ++ (T.del cmpI k t).2), IP A p' (T.del cmpI k t).1]) := by
  intro t
  induction t with
  | nil => intro p gv g q; simp [T.nth] at q
  | node h k' x' l r hi il ir =>
    intro p gv g hn w hs hg
    have ho := opened e m a gv A hA p h k' x' l r hi
    simp only [T.size] at hs hg
    simp only [T.nth] at hn
    refine Spec.enter Tryz.func142 rfl rfl rfl ?_
    refine SW.seq ?_
    refine SW.reg (l := [.op 0 .e]) rfl ?_
    refine rx_s rfl rfl rfl rfl rfl ?_
    refine rx_end0 ?_
    refine SW.seq ?_
    refine SW.reg (l := [.op 0 .e, .op 1 .e, .op 2 .e, .op 3 .e]) rfl ?_
    iterate 2 refine rx_s rfl rfl rfl rfl rfl ?_
    refine rx_callH (F := ?FT360) rfl rfl rfl rfl rfl rfl rfl rfl Fa.ca_170 rfl (ho) ?T360 ?_
    case T360 => (repeat (first|exact Take.nil|refine Take.cons (by (repeat first|exact .here|apply Take1.there)) ?_))
    rintro _ _ ⟨b, pl, pr, hp, rfl, hh, rfl⟩
    try simp only [List.cons_append, List.nil_append]
    refine rx_s rfl rfl rfl rfl rfl ?_
    refine rx_end0 ?_
    refine SW.seq ?_
    refine SW.drawT (Hs := []) (D0l := []) (Dl := ?DT361) (F := ?FT361) Fa.mix (tp := [0, 1, 3, 7, 15, 31, 63, 0, 0, 256, 768, 1792, 4095, 8191]) (l := [.op 0 .s, .op 1 .s, .op 2 .s, .op 3 .d, .op 4 .s, .op 5 .s, .op 6 .d, .op 7 .s, .op 8 .s, .op 9 .s, .op 10 .s, .op 11 .d, .op 12 .e, .op 13 .s]) (by kernel_rfl) ?T361a ?T361b ?_
    case T361a => (repeat (first|exact Take.nil|refine Take.cons (by (repeat first|exact .here|apply Take1.there)) ?_))
    case T361b => (repeat (first|exact Take.nil|refine Take.cons (by (repeat first|exact .here|apply Take1.there)) ?_))
    iterate 2 refine rx_s rfl rfl rfl rfl rfl ?_
    refine rx_fa rfl rfl rfl rfl rfl rfl Fa.fo_241_0 ?_
    refine rx_ldD1 rfl rfl rfl rfl rfl rfl rfl (by (repeat first|exact .here|apply Take1.there)) Fa.ag_78 (by rfl) ?_
    refine rx_s rfl rfl rfl rfl rfl ?_
    refine rx_fa rfl rfl rfl rfl rfl rfl Fa.fo_186_1 ?_
    refine rx_ldD1 rfl rfl rfl rfl rfl rfl rfl (by (repeat first|exact .here|apply Take1.there)) Fa.ag_132 (by rfl) ?_
    iterate 3 refine rx_s rfl rfl rfl rfl rfl ?_
    refine rx_fa rfl rfl rfl rfl rfl rfl Fa.fo_273_2 ?_
    refine rx_ldD1 rfl rfl rfl rfl rfl rfl rfl (by (repeat first|exact .here|apply Take1.there)) Fa.ag_3 (by rfl) ?_
    refine rx_callH (F := ?FT362) rfl rfl rfl rfl rfl rfl rfl rfl Fa.ca_63 rfl (Cm.compareI k k') ?T362 ?_
    case T362 => (repeat (first|exact Take.nil|refine Take.cons (by (repeat first|exact .here|apply Take1.there)) ?_))
    rintro _ _ ⟨rfl, rfl⟩
    try simp only [List.cons_append, List.nil_append]
    refine rx_s rfl rfl rfl rfl rfl ?_
    refine rx_endD ?_
    try simp only [List.cons_append, List.nil_append]
    refine SW.seq ?_
    refine SW.block ?_
    refine SW.seq ?_
    refine SW.reg (l := [.op 0 .e, .op 1 .e, .op 2 .e]) rfl ?_
    iterate 3 refine rx_s rfl rfl rfl rfl rfl ?_
    refine rx_end0 ?_
    refine SW.cond rfl (fun h26 => ?_) (fun h26 => ?_)
    · skip
      have hc : cmpI k k' < 0 := of_decide_eq_true h26
      unfold T.del
      rw [if_pos hc, ← List.append_assoc]
      rw [if_pos hc] at hn
      refine SW.seq ?_
      refine SW.drawT (Hs := [EB e m gv, MB m a, ArP a A, GL gv g, IP A pl l, IP A pr r]) (D0l := []) (Dl := ?DT363) (F := ?FT363) Fa.mix (tp := [0, 0, 0, 0, 8, 24, 56, 0, 252, 0, 512, 1536, 3584, 8191, 16383]) (l := [.op 0 .s, .op 1 .s, .op 2 .s, .op 3 .s, .op 4 .s, .op 5 .s, .op 6 .d, .op 7 .s, .op 8 .e, .op 9 .s, .op 10 .s, .op 11 .s, .op 12 .d, .op 13 .e, .op 14 .s]) (by kernel_rfl) ?T363a ?T363b ?_
      case T363a => (repeat (first|exact Take.nil|refine Take.cons (by (repeat first|exact .here|apply Take1.there)) ?_))
      case T363b => (repeat (first|exact Take.nil|refine Take.cons (by (repeat first|exact .here|apply Take1.there)) ?_))
      iterate 5 refine rx_s rfl rfl rfl rfl rfl ?_
      refine rx_fa rfl rfl rfl rfl rfl rfl Fa.fo_273_4 ?_
      refine rx_ldD1 rfl rfl rfl rfl rfl rfl rfl (by (repeat first|exact .here|apply Take1.there)) Fa.ag_243 (by rfl) ?_
      refine rx_s rfl rfl rfl rfl rfl ?_
      refine rx_callH (F := ?FT364) rfl rfl rfl rfl rfl rfl rfl rfl Fa.ca_142 rfl (il pl gv g hn w.2.1 (by omega) (by omega)) ?T364 ?_
      case T364 => (repeat (first|exact Take.nil|refine Take.cons (by (repeat first|exact .here|apply Take1.there)) ?_))
      rintro _ _ ⟨gv1, p1, rfl, rfl⟩
      try simp only [List.cons_append, List.nil_append]
      iterate 2 refine rx_s rfl rfl rfl rfl rfl ?_
      refine rx_fa rfl rfl rfl rfl rfl rfl Fa.fo_273_5 ?_
      refine rx_ldD1 rfl rfl rfl rfl rfl rfl rfl (by (repeat first|exact .here|apply Take1.there)) Fa.ag_243 (by rfl) ?_
      refine rx_call (F := ?FT365) rfl rfl rfl rfl rfl rfl rfl rfl Fa.ca_171 rfl (balance e m a b gv1 (g ++ (T.del cmpI k l).2) (by have := T.del_len cmpI k l; simp; omega) A hA h k' x' pl pr hi p1 pr (T.del cmpI k l).1 r (T.del_wf _ _ w.2.1).1 w.2.2 (by have := (T.del_wf cmpI k w.2.1).2; omega)) ?T365 ?_
      case T365 => (repeat (first|exact Take.nil|refine Take.cons (by (repeat first|exact .here|apply Take1.there)) ?_))
      rintro _ _ ⟨gv2, b2, rfl, rfl⟩
      refine ⟨?HT366, ?T366, ?_⟩
      case T366 => (repeat (first|exact Take.nil|refine Take.cons (by (repeat first|exact .here|apply Take1.there)) ?_))
      try simp only [List.cons_append, List.nil_append]
      refine rx_s rfl rfl rfl rfl rfl ?_
      refine rx_endD ?_
      try simp only [List.cons_append, List.nil_append]
      refine SW.ret ?_
      exact retK1 (l := [_, _, _, _, _]) (.tmp rfl .nil) ⟨gv2, _, rfl, rfl⟩ (.one (by (repeat first|exact .here|apply Take1.there)) (.one (by (repeat first|exact .here|apply Take1.there)) (.one (by (repeat first|exact .here|apply Take1.there)) (.one (by (repeat first|exact .here|apply Take1.there)) (.one (by (repeat first|exact .here|apply Take1.there)) .nil)))))
    · skip
      have hc : ¬ (cmpI k k' < 0) := by simpa using h26
      rw [if_neg hc] at hn
      refine SW.seq ?_
      refine SW.reg (l := [.op 0 .e, .op 1 .e, .op 2 .e]) rfl ?_
      iterate 3 refine rx_s rfl rfl rfl rfl rfl ?_
      refine rx_end0 ?_
      refine SW.cond rfl (fun h43 => ?_) (fun h43 => ?_)
      · skip
        have hc' : cmpI k k' > 0 := of_decide_eq_true h43
        unfold T.del
        rw [if_neg hc, if_pos hc', ← List.append_assoc]
        rw [if_pos hc'] at hn
        refine SW.seq ?_
        refine SW.drawT (Hs := [EB e m gv, MB m a, ArP a A, GL gv g, IP A pl l, IP A pr r]) (D0l := []) (Dl := ?DT367) (F := ?FT367) Fa.mix (tp := [0, 0, 0, 4, 12, 28, 0, 0, 128, 384, 896, 0, 4032, 8191, 16383]) (l := [.op 0 .s, .op 1 .s, .op 2 .s, .op 3 .s, .op 4 .s, .op 5 .d, .op 6 .s, .op 7 .s, .op 8 .s, .op 9 .s, .op 10 .d, .op 11 .s, .op 12 .e, .op 13 .e, .op 14 .s]) (by kernel_rfl) ?T367a ?T367b ?_
        case T367a => (repeat (first|exact Take.nil|refine Take.cons (by (repeat first|exact .here|apply Take1.there)) ?_))
        case T367b => (repeat (first|exact Take.nil|refine Take.cons (by (repeat first|exact .here|apply Take1.there)) ?_))
        iterate 4 refine rx_s rfl rfl rfl rfl rfl ?_
        refine rx_fa rfl rfl rfl rfl rfl rfl Fa.fo_273_4 ?_
        refine rx_ldD1 rfl rfl rfl rfl rfl rfl rfl (by (repeat first|exact .here|apply Take1.there)) Fa.ag_243 (by rfl) ?_
        iterate 3 refine rx_s rfl rfl rfl rfl rfl ?_
        refine rx_fa rfl rfl rfl rfl rfl rfl Fa.fo_273_5 ?_
        refine rx_ldD1 rfl rfl rfl rfl rfl rfl rfl (by (repeat first|exact .here|apply Take1.there)) Fa.ag_243 (by rfl) ?_
        refine rx_s rfl rfl rfl rfl rfl ?_
        refine rx_callH (F := ?FT368) rfl rfl rfl rfl rfl rfl rfl rfl Fa.ca_142 rfl (ir pr gv g hn w.2.2 (by omega) (by omega)) ?T368 ?_
        case T368 => (repeat (first|exact Take.nil|refine Take.cons (by (repeat first|exact .here|apply Take1.there)) ?_))
        rintro _ _ ⟨gv1, p1, rfl, rfl⟩
        try simp only [List.cons_append, List.nil_append]
        refine rx_call (F := ?FT369) rfl rfl rfl rfl rfl rfl rfl rfl Fa.ca_171 rfl (balance e m a b gv1 (g ++ (T.del cmpI k r).2) (by have := T.del_len cmpI k r; simp; omega) A hA h k' x' pl pr hi pl p1 l (T.del cmpI k r).1 w.2.1 (T.del_wf _ _ w.2.2).1 (by have := (T.del_wf cmpI k w.2.2).2; omega)) ?T369 ?_
        case T369 => (repeat (first|exact Take.nil|refine Take.cons (by (repeat first|exact .here|apply Take1.there)) ?_))
        rintro _ _ ⟨gv2, b2, rfl, rfl⟩
        refine ⟨?HT370, ?T370, ?_⟩
        case T370 => (repeat (first|exact Take.nil|refine Take.cons (by (repeat first|exact .here|apply Take1.there)) ?_))
        try simp only [List.cons_append, List.nil_append]
        refine rx_s rfl rfl rfl rfl rfl ?_
        refine rx_endD ?_
        try simp only [List.cons_append, List.nil_append]
        refine SW.ret ?_
        exact retK1 (l := [_, _, _, _, _]) (.tmp rfl .nil) ⟨gv2, _, rfl, rfl⟩ (.one (by (repeat first|exact .here|apply Take1.there)) (.one (by (repeat first|exact .here|apply Take1.there)) (.one (by (repeat first|exact .here|apply Take1.there)) (.one (by (repeat first|exact .here|apply Take1.there)) (.one (by (repeat first|exact .here|apply Take1.there)) .nil)))))
      · skip
        have hc' : ¬ (cmpI k k' > 0) := by simpa using h43
        unfold T.del
        rw [if_neg hc, if_neg hc']
        refine SW.skip ?_
        try simp only [thenK, blockK, cond_true, cond_false, beq_self_eq_true, Nat.reduceBEq]
        refine SW.seq ?_
        refine SW.reg (l := [.op 0 .e, .op 1 .e, .op 2 .e]) rfl ?_
        iterate 2 refine rx_s rfl rfl rfl rfl rfl ?_
        refine rx_callH (F := ?FT371) rfl rfl rfl rfl rfl rfl rfl rfl Fa.ca_172 rfl (leave e m b gv g (by omega) h k' x' pl pr hi) ?T371 ?_
        case T371 => (repeat (first|exact Take.nil|refine Take.cons (by (repeat first|exact .here|apply Take1.there)) ?_))
        rintro _ _ ⟨gv1, rfl, rfl⟩
        try simp only [List.cons_append, List.nil_append]
        refine rx_end0 ?_
        refine SW.seq ?_
        refine SW.block ?_
        refine SW.seq ?_
        refine ipIff (p := pl) (by (repeat first|exact .here|apply Take1.there)) (fun hpl => ?_)
        refine ipIff (p := pr) (by (repeat first|exact .here|apply Take1.there)) (fun hpr => ?_)
        refine SW.reg (l := [.op 0 .e, .op 1 .e, .op 2 .e, .op 3 .e, .op 4 .e, .op 5 .e]) rfl ?_
        iterate 2 refine rx_s rfl rfl rfl rfl rfl ?_
        refine rx_fa rfl rfl rfl rfl rfl rfl Fa.fo_273_4 ?_
        refine rx_ldH1 rfl rfl rfl rfl rfl rfl (by (repeat first|exact .here|apply Take1.there)) Fa.ag_243 (by rfl) ?_
        refine rx_eqnil rfl rfl rfl rfl rfl Fa.pt_243 rfl ?_
        refine rx_s rfl rfl rfl rfl rfl ?_
        refine rx_end0 ?_
        refine SW.cond rfl (fun h63 => ?_) (fun h63 => ?_)
        · skip
          obtain rfl : pl = none := by simpa using h63
          obtain rfl := hpl.1 rfl
          simp only
          refine SW.seq ?_
          refine SW.reg (l := [.op 0 .e, .op 1 .e, .op 2 .e, .op 3 .e, .op 4 .e]) rfl ?_
          iterate 2 refine rx_s rfl rfl rfl rfl rfl ?_
          refine rx_fa rfl rfl rfl rfl rfl rfl Fa.fo_273_5 ?_
          refine rx_ldH1 rfl rfl rfl rfl rfl rfl (by (repeat first|exact .here|apply Take1.there)) Fa.ag_243 (by rfl) ?_
          refine rx_s rfl rfl rfl rfl rfl ?_
          refine rx_end0 ?_
          refine SW.ret ?_
          exact retK1 (l := [_, _, _, _, _]) (.tmp rfl .nil) ⟨gv1, pr, rfl, rfl⟩ (.one (by (repeat first|exact .here|apply Take1.there)) (.one (by (repeat first|exact .here|apply Take1.there)) (.one (by (repeat first|exact .here|apply Take1.there)) (.one (by (repeat first|exact .here|apply Take1.there)) (.one (by (repeat first|exact .here|apply Take1.there)) .nil)))))
        · skip
          have hp1 : pl ≠ none := by rintro rfl; simp at h63
          obtain ⟨lh, lk, lw, ll, lr, lhi, rfl⟩ := T.node_of_ne (fun q => hp1 (hpl.2 q))
          refine SW.seq ?_
          refine SW.reg (l := [.op 0 .e, .op 1 .e, .op 2 .e, .op 3 .e, .op 4 .e, .op 5 .e]) rfl ?_
          iterate 2 refine rx_s rfl rfl rfl rfl rfl ?_
          refine rx_fa rfl rfl rfl rfl rfl rfl Fa.fo_273_5 ?_
          refine rx_ldH1 rfl rfl rfl rfl rfl rfl (by (repeat first|exact .here|apply Take1.there)) Fa.ag_243 (by rfl) ?_
          refine rx_eqnil rfl rfl rfl rfl rfl Fa.pt_243 rfl ?_
          refine rx_s rfl rfl rfl rfl rfl ?_
          refine rx_end0 ?_
          refine SW.cond rfl (fun h73 => ?_) (fun h73 => ?_)
          · skip
            obtain rfl : pr = none := by simpa using h73
            obtain rfl := hpr.1 rfl
            simp only
            refine SW.seq ?_
            refine SW.reg (l := [.op 0 .e, .op 1 .e, .op 2 .e, .op 3 .e, .op 4 .e]) rfl ?_
            iterate 2 refine rx_s rfl rfl rfl rfl rfl ?_
            refine rx_fa rfl rfl rfl rfl rfl rfl Fa.fo_273_4 ?_
            refine rx_ldH1 rfl rfl rfl rfl rfl rfl (by (repeat first|exact .here|apply Take1.there)) Fa.ag_243 (by rfl) ?_
            refine rx_s rfl rfl rfl rfl rfl ?_
            refine rx_end0 ?_
            refine SW.ret ?_
            exact retK1 (l := [_, _, _, _, _]) (.tmp rfl .nil) ⟨gv1, pl, rfl, rfl⟩ (.one (by (repeat first|exact .here|apply Take1.there)) (.one (by (repeat first|exact .here|apply Take1.there)) (.one (by (repeat first|exact .here|apply Take1.there)) (.one (by (repeat first|exact .here|apply Take1.there)) (.one (by (repeat first|exact .here|apply Take1.there)) .nil)))))
          · skip
            have hp2 : pr ≠ none := by rintro rfl; simp at h73
            obtain ⟨rh, rk, rw', rl, rr, rhi, rfl⟩ := T.node_of_ne (fun q => hp2 (hpr.2 q))
            simp only
            rw [← List.append_assoc, ← List.append_assoc]
            have hll := T.least_len (h := rh) (k := rk) (v := rw') (l := rl) (r := rr)
            have hlw := T.least_wf (h := rh) (k := rk) (v := rw') w.2.2.2.1 w.2.2.2.2
            have hlv := T.lv_len h
            simp only [T.size] at hs hg hll hlw
            refine SW.skip ?_
            try simp only [thenK, blockK, cond_true, cond_false, beq_self_eq_true, Nat.reduceBEq]
            refine SW.seq ?_
            refine SW.reg (l := [.op 0 .e, .op 1 .e, .op 2 .e, .op 3 .e, .op 4 .e, .op 5 .e, .op 6 .e, .op 7 .e, .op 8 .e, .op 9 .e, .op 10 .e]) rfl ?_
            iterate 3 refine rx_s rfl rfl rfl rfl rfl ?_
            refine rx_fa rfl rfl rfl rfl rfl rfl Fa.fo_273_5 ?_
            refine rx_ldH1 rfl rfl rfl rfl rfl rfl (by (repeat first|exact .here|apply Take1.there)) Fa.ag_243 (by rfl) ?_
            refine rx_callH (F := ?FT372) rfl rfl rfl rfl rfl rfl rfl rfl Fa.ca_173 rfl (least e m a A hA _ rh rk rw' rl rr rhi rfl pr gv1 (g ++ T.lv h) w.2.2 (by simp only [T.size]; omega) (by simp only [T.size, List.length_append]; omega)) ?T372 ?_
            case T372 => (repeat (first|exact Take.nil|refine Take.cons (by (repeat first|exact .here|apply Take1.there)) ?_))
            rintro _ _ ⟨gv2, b2, q1, q2, hi2, p2, rfl, rfl⟩
            try simp only [List.cons_append, List.nil_append]
            iterate 5 refine rx_s rfl rfl rfl rfl rfl ?_
            refine rx_end0 ?_
            refine SW.seq ?_
            refine SW.reg (l := [.op 0 .e, .op 1 .e, .op 2 .e, .op 3 .e, .op 4 .e, .op 5 .e, .op 6 .e, .op 7 .e, .op 8 .e]) rfl ?_
            iterate 4 refine rx_s rfl rfl rfl rfl rfl ?_
            refine rx_fa rfl rfl rfl rfl rfl rfl Fa.fo_273_4 ?_
            refine rx_ldH1 rfl rfl rfl rfl rfl rfl (by (repeat first|exact .here|apply Take1.there)) Fa.ag_243 (by rfl) ?_
            refine rx_s rfl rfl rfl rfl rfl ?_
            refine rx_callH (F := ?FT373) rfl rfl rfl rfl rfl rfl rfl rfl Fa.ca_171 rfl (balance e m a b2 gv2 (g ++ T.lv h ++ (T.least rh rk rw' rl rr).2.2) (by simp only [List.length_append]; omega) A hA (T.least rh rk rw' rl rr).1.1 (T.least rh rk rw' rl rr).1.2.1 (T.least rh rk rw' rl rr).1.2.2 q1 q2 hi2 pl p2 (.node lh lk lw ll lr lhi) (T.least rh rk rw' rl rr).2.1 w.2.1 hlw.1 (by simp only [T.size]; omega)) ?T373 ?_
            case T373 => (repeat (first|exact Take.nil|refine Take.cons (by (repeat first|exact .here|apply Take1.there)) ?_))
            rintro _ _ ⟨gv3, b3, rfl, rfl⟩
            try simp only [List.cons_append, List.nil_append]
            refine rx_s rfl rfl rfl rfl rfl ?_
            refine rx_end0 ?_
            refine SW.ret ?_
            exact retK1 (l := [_, _, _, _, _]) (.tmp rfl .nil) ⟨gv3, _, rfl, rfl⟩ (.one (by (repeat first|exact .here|apply Take1.there)) (.one (by (repeat first|exact .here|apply Take1.there)) (.one (by (repeat first|exact .here|apply Take1.there)) (.one (by (repeat first|exact .here|apply Take1.there)) (.one (by (repeat first|exact .here|apply Take1.there)) .nil)))))
end ItS
end Go.Proofs.YtikkegelplllmaaGreatDoor
