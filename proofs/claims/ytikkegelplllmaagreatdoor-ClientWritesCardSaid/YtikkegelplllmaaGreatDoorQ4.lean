/- What is proved: holtlaw19.ClientWrites returns true at every input, and each argument reads afterwards as it read before. Its conditions: as the row says, two of Go's tables (unicode/utf8.first, acceptRanges) lie as the program's text lays them; the card ties that to the program's text. -/
import Derived.Test.YtikkegelplllmaaGreatDoorTie
import Derived.Test.YtikkegelplllmaaGreatDoorCards
import Derived.PinnedBridge
import Derived.Lay
import Derived.SevenTiedAt
import Derived.Stop.Joined
import Derived.Test.YtikkegelplllmaaGreatDoorQ0
import Derived.Test.YtikkegelplllmaaGreatDoorQ1
import Derived.Test.YtikkegelplllmaaGreatDoorQ2
import Derived.Test.YtikkegelplllmaaGreatDoorQ3
set_option linter.unusedSimpArgs false
set_option linter.unusedVariables false
/- A version is stored. -/
namespace Go.Proofs.YtikkegelplllmaaGreatDoor
open Go Go.Sl Go.Holt Go.Proofs
open Go.Holt.Enc (enc)
namespace ItS
open ArS (ArP getV)

/-- A change's block. -/
abbrev OB (o : Nat) (rt : Handle) (mv gnv : Value) : HProp := blk o [.int .i64 rt.slot, .int .i64 rt.gen, mv, gnv] 200 (0, 0)
theorem ipMono {P : Program} {n : Nat} {ds : List Deferred} {e : Env} {c : Code} {KK : Exit → Env → HProp → Prop} {Hl F : List HProp} {A A' : Ar SNode} {p : Option Addr} {t : TR}
    (hT : Take1 Hl (IP A p t) F) (hA : ∀ hh x, A.get hh = some x → A'.get hh = some x) (h : SW P n ds c e (star (IP A' p t :: F)) KK) : SW P n ds c e (star Hl) KK := by
  refine SW.weak EnvLe.refl ?_ h
  rw [hT.eq]
  exact EntS.of_ent (Ent.sep (ItemP.mono hA t p) (Ent.refl _))

theorem ipPart {P : Program} {f : FuncId} {args : Array Value} {Post : Value → List HProp → Prop} {Hl F : List HProp} {A : Ar SNode} {p : Option Addr} {t : TR}
    (hT : Take1 Hl (IP A p t) F) (h : T.part A t → Sl.Spec P f args Hl Post) : Sl.Spec P f args Hl Post := by
  intro R w hs
  have hs0 := hs
  rw [hT.eq] at hs
  obtain ⟨g, ⟨f0, r', dj, e1, ⟨f1, f2, d2, e2, hx, hF⟩, hR⟩, z⟩ := hs
  exact h (ItemP.part t p f1 hx) R w hs0

/-- 'store' -/
theorem store (e m a o : Nat) (gv gnv : Value) (rt : Handle) : ∀ (t : TR) (p : Option Addr) (A : Ar SNode) (n : Nat) (mv : Value) (made : List Handle), A.good n → n + t.fresh ≤ 1000000000 → (t.fresh : Int) ≤ A.room → made.length + t.fresh ≤ 1000000 →
    Sl.Spec Tryz.prog 169 #[.pointer (some ⟨e, 0, none⟩), .pointer p, .pointer (some ⟨o, 0, none⟩)] [EB e m gv, MB m a, ArP a A, OB o rt mv gnv, GL mv made, IP A p t]
      (fun v l' => ∃ mv', v = .agg #[.int .i64 (t.store SNode.zero A).2.2.slot, .int .i64 (t.store SNode.zero A).2.2.gen] ∧
        l' = [EB e m gv, MB m a, ArP a (t.store SNode.zero A).1, OB o rt mv' gnv, GL mv' (made ++ (t.store SNode.zero A).2.1)]) := by
  intro t
  induction t with
  | nil =>
    intro p A n mv made _ _ _ _
    refine Holt.Spec.itemNil tk5 ?_
    rintro rfl
    simp only [T.store, List.append_nil]
    refine Spec.enter Tryz.func169 rfl rfl rfl ?_
    refine SW.seq ?_
    refine SW.reg (l := [.op 0 .e]) rfl ?_
    refine rx_alloc (.inr rfl) rfl rfl rfl rfl rfl Fa.z_56 ?_
    intro b6
    refine rx_end0 ?_
    refine SW.seq ?_
    refine SW.seq ?_
    refine SW.reg (l := [.op 0 .e, .op 1 .e]) rfl ?_
    refine rx_s rfl rfl rfl rfl rfl ?_
    refine rx_eqnil rfl rfl rfl rfl rfl Fa.pt_243 rfl ?_
    refine rx_end0 ?_
    refine SW.cond (b := true) rfl (fun _ => ?_) (fun h => nomatch h)
    refine SW.seq ?_
    refine SW.reg (l := [.op 0 .e, .op 1 .e]) rfl ?_
    refine rx_build rfl rfl rfl rfl rfl Fa.st_56 rfl (cs := [_, _]) rfl ?_
    refine rx_stp rfl rfl rfl rfl rfl rfl (by (repeat first|exact .here|apply Take1.there)) Fa.sz_56 (vs := [_, _]) rfl rfl rfl (by rfl) (cl' := [_, _]) (by rfl) ?_
    refine rx_end0 ?_
    refine SW.ret ?_
    exact retK1 (l := [_, _, _, _, _]) (.cell rfl (by (repeat first|exact .here|apply Take1.there)) (.inr ⟨2, _, Fa.ag_56, Fa.sz_56, rfl, rfl, rfl⟩) .nil) ⟨mv, rfl, rfl⟩ (.one (by (repeat first|exact .here|apply Take1.there)) (.one (by (repeat first|exact .here|apply Take1.there)) (.one (by (repeat first|exact .here|apply Take1.there)) (.one (by (repeat first|exact .here|apply Take1.there)) (.one (by (repeat first|exact .here|apply Take1.there)) .nil)))))
  | node h k x l r hi il ir =>
    intro p A n mv made hA hn hr hm
    refine ipPart (t := .node h k x l r hi) (tk5) fun hp => ?_
    refine Holt.Spec.itemNode tk5 ?_ ?_
    · rintro b rfl h0 hh
      have es : (T.node h k x l r hi).store SNode.zero A = (A, [], h) := by rw [T.store, if_neg h0]
      rw [es]
      simp only [List.append_nil]
      refine Spec.enter Tryz.func169 rfl rfl rfl ?_
      simp only [shutC, enc, Enc.enc, List.cons_append, List.nil_append]
      refine SW.seq ?_
      refine SW.reg (l := [.op 0 .e]) rfl ?_
      refine rx_alloc (.inr rfl) rfl rfl rfl rfl rfl Fa.z_56 ?_
      intro b6
      refine rx_end0 ?_
      refine SW.seq ?_
      refine SW.seq ?_
      refine SW.reg (l := [.op 0 .e, .op 1 .e]) rfl ?_
      refine rx_s rfl rfl rfl rfl rfl ?_
      refine rx_eqnil rfl rfl rfl rfl rfl Fa.pt_243 rfl ?_
      refine rx_end0 ?_
      refine SW.cond (b := false) rfl (fun h => nomatch h) (fun _ => ?_)
      refine SW.skip ?_
      try simp only [thenK, blockK, cond_true, cond_false, beq_self_eq_true, Nat.reduceBEq]
      refine SW.seq ?_
      refine SW.seq ?_
      refine SW.reg (l := [.op 0 .e, .op 1 .e, .op 2 .e, .op 3 .e, .op 4 .e, .op 5 .e]) rfl ?_
      iterate 2 refine rx_s rfl rfl rfl rfl rfl ?_
      refine rx_fa rfl rfl rfl rfl rfl rfl Fa.fo_273_0 ?_
      refine rx_ldHA rfl rfl rfl rfl rfl rfl (by (repeat first|exact .here|apply Take1.there)) Fa.ag_56 Fa.sz_56 (vs := [_, _]) (by rfl) rfl ?_
      refine rx_build rfl rfl rfl rfl rfl Fa.st_56 rfl (cs := [_, _]) rfl ?_
      refine rx_neS rfl rfl rfl rfl rfl Fa.eq_56 rfl rfl rfl ?_
      refine rx_end0 ?_
      refine SW.cond rfl (fun h18 => ?_) (fun h18 => ?_)
      · skip
        refine SW.seq ?_
        refine SW.reg (l := [.op 0 .e, .op 1 .e, .op 2 .e, .op 3 .e, .op 4 .e]) rfl ?_
        iterate 2 refine rx_s rfl rfl rfl rfl rfl ?_
        refine rx_fa rfl rfl rfl rfl rfl rfl Fa.fo_273_0 ?_
        refine rx_ldHA rfl rfl rfl rfl rfl rfl (by (repeat first|exact .here|apply Take1.there)) Fa.ag_56 Fa.sz_56 (vs := [_, _]) (by rfl) rfl ?_
        refine rx_stp rfl rfl rfl rfl rfl rfl (by (repeat first|exact .here|apply Take1.there)) Fa.sz_56 (vs := [_, _]) rfl rfl rfl (by rfl) (cl' := [_, _]) (by rfl) ?_
        refine rx_end0 ?_
        refine SW.ret ?_
        exact retK1 (l := [_, _, _, _, _]) (.cell rfl (by (repeat first|exact .here|apply Take1.there)) (.inr ⟨2, _, Fa.ag_56, Fa.sz_56, rfl, rfl, rfl⟩) .nil) ⟨mv, rfl, rfl⟩ (.one (by (repeat first|exact .here|apply Take1.there)) (.one (by (repeat first|exact .here|apply Take1.there)) (.one (by (repeat first|exact .here|apply Take1.there)) (.one (by (repeat first|exact .here|apply Take1.there)) (.one (by (repeat first|exact .here|apply Take1.there)) .nil)))))
      · (exfalso; apply h0; rcases h with ⟨h1, h2⟩; simp at h18; simp [h18])
    · rintro b pl pr rfl hh
      refine Spec.enter Tryz.func169 rfl rfl rfl ?_
      simp only [openC, enc, Enc.enc, List.cons_append, List.nil_append]
      refine SW.seq ?_
      refine SW.reg (l := [.op 0 .e]) rfl ?_
      refine rx_alloc (.inr rfl) rfl rfl rfl rfl rfl Fa.z_56 ?_
      intro b6
      refine rx_end0 ?_
      refine SW.seq ?_
      refine SW.seq ?_
      refine SW.reg (l := [.op 0 .e, .op 1 .e]) rfl ?_
      refine rx_s rfl rfl rfl rfl rfl ?_
      refine rx_eqnil rfl rfl rfl rfl rfl Fa.pt_243 rfl ?_
      refine rx_end0 ?_
      refine SW.cond (b := false) rfl (fun h => nomatch h) (fun _ => ?_)
      refine SW.skip ?_
      try simp only [thenK, blockK, cond_true, cond_false, beq_self_eq_true, Nat.reduceBEq]
      refine SW.seq ?_
      refine SW.seq ?_
      refine SW.reg (l := [.op 0 .e, .op 1 .e, .op 2 .e, .op 3 .e, .op 4 .e, .op 5 .e]) rfl ?_
      iterate 2 refine rx_s rfl rfl rfl rfl rfl ?_
      refine rx_fa rfl rfl rfl rfl rfl rfl Fa.fo_273_0 ?_
      refine rx_ldHA rfl rfl rfl rfl rfl rfl (by (repeat first|exact .here|apply Take1.there)) Fa.ag_56 Fa.sz_56 (vs := [_, _]) (by rfl) rfl ?_
      refine rx_build rfl rfl rfl rfl rfl Fa.st_56 rfl (cs := [_, _]) rfl ?_
      refine rx_neS rfl rfl rfl rfl rfl Fa.eq_56 rfl rfl rfl ?_
      refine rx_end0 ?_
      refine SW.cond rfl (fun h18 => ?_) (fun h18 => ?_)
      · skip
        have h0 : h ≠ ⟨0, 0⟩ := by rintro rfl; simp at h18
        have es : (T.node h k x l r hi).store SNode.zero A = (A, [], h) := by rw [T.store, if_neg h0]
        rw [es]
        simp only [List.append_nil]
        refine SW.seq ?_
        refine SW.reg (l := [.op 0 .e, .op 1 .e, .op 2 .e, .op 3 .e, .op 4 .e]) rfl ?_
        iterate 2 refine rx_s rfl rfl rfl rfl rfl ?_
        refine rx_fa rfl rfl rfl rfl rfl rfl Fa.fo_273_0 ?_
        refine rx_ldHA rfl rfl rfl rfl rfl rfl (by (repeat first|exact .here|apply Take1.there)) Fa.ag_56 Fa.sz_56 (vs := [_, _]) (by rfl) rfl ?_
        refine rx_stp rfl rfl rfl rfl rfl rfl (by (repeat first|exact .here|apply Take1.there)) Fa.sz_56 (vs := [_, _]) rfl rfl rfl (by rfl) (cl' := [_, _]) (by rfl) ?_
        refine rx_end0 ?_
        refine SW.ret ?_
        exact retK1 (l := [_, _, _, _, _]) (.cell rfl (by (repeat first|exact .here|apply Take1.there)) (.inr ⟨2, _, Fa.ag_56, Fa.sz_56, rfl, rfl, rfl⟩) .nil) ⟨mv, rfl, rfl⟩ (.one (by (repeat first|exact .here|apply Take1.there)) (.one (by (repeat first|exact .here|apply Take1.there)) (.one (by (repeat first|exact .here|apply Take1.there)) (.one (by (repeat first|exact .here|apply Take1.there)) (.one (by (repeat first|exact .here|apply Take1.there)) .nil)))))
      · skip
        have h0 : h = ⟨0, 0⟩ := by rcases h with ⟨h1, h2⟩; simp at h18; simp [h18]
        subst h0
        simp only [T.fresh, if_true] at hn hr hm
        have sl := T.store_st SNode.zero l A n hA (by omega) (by omega) (hp.2 rfl).1
        have sr := T.store_st SNode.zero r (l.store SNode.zero A).1 (n + l.fresh) sl.good (by omega) (by rw [sl.room]; omega) (T.part_mono sl.keep (hp.2 rfl).2)
        have hr2 : (r.store SNode.zero (l.store SNode.zero A).1).1.room ≠ 0 := by rw [sr.room, sl.room]; omega
        rw [T.store_node]
        simp only [← List.append_assoc]
        refine SW.skip ?_
        try simp only [thenK, blockK, cond_true, cond_false, beq_self_eq_true, Nat.reduceBEq]
        refine SW.seq ?_
        refine SW.drawAll Fa.mix (tp := [0, 1, 3, 7, 0, 16, 48, 112, 0, 256, 768, 1792, 4095, 0, 16383]) (l := [.op 0 .s, .op 1 .s, .op 2 .s, .op 3 .d, .op 4 .s, .op 5 .s, .op 6 .s, .op 7 .d, .op 8 .s, .op 9 .s, .op 10 .s, .op 11 .d, .op 12 .s, .op 13 .f, .bar, .op 14 .e]) (by kernel_rfl) ?_
        iterate 2 refine rx_s rfl rfl rfl rfl rfl ?_
        refine rx_fa rfl rfl rfl rfl rfl rfl Fa.fo_273_2 ?_
        refine rx_ldD1 rfl rfl rfl rfl rfl rfl rfl (by (repeat first|exact .here|apply Take1.there)) Fa.ag_3 (by rfl) ?_
        iterate 2 refine rx_s rfl rfl rfl rfl rfl ?_
        refine rx_fa rfl rfl rfl rfl rfl rfl Fa.fo_273_3 ?_
        refine rx_ldDA rfl rfl rfl rfl rfl rfl rfl (by (repeat first|exact .here|apply Take1.there)) Fa.ag_98 Fa.sz_98 (vs := [_, _, _]) (by rfl) rfl ?_
        iterate 2 refine rx_s rfl rfl rfl rfl rfl ?_
        refine rx_fa rfl rfl rfl rfl rfl rfl Fa.fo_273_6 ?_
        refine rx_ldD1 rfl rfl rfl rfl rfl rfl rfl (by (repeat first|exact .here|apply Take1.there)) Fa.ag_3 (by rfl) ?_
        refine rx_build rfl rfl rfl rfl rfl Fa.st_184 rfl (cs := [_, _, _, _, _, _, _, _, _]) rfl ?_
        refine rx_alloc (.inl rfl) rfl rfl rfl rfl rfl Fa.z_184 ?_
        intro b7
        refine rx_barAll ?_
        try simp only [List.cons_append, List.nil_append]
        refine rx_stp rfl rfl rfl rfl rfl rfl (by (repeat first|exact .here|apply Take1.there)) Fa.sz_184 (vs := [_, _, _, _, _, _, _, _, _]) rfl rfl rfl (by rfl) (cl' := [_, _, _, _, _, _, _, _, _]) (by rfl) ?_
        refine rx_endD ?_
        try simp only [List.cons_append, List.nil_append]
        refine SW.seq ?_
        refine SW.reg (l := [.op 0 .e, .op 1 .e, .op 2 .e, .op 3 .e, .op 4 .e, .op 5 .e, .op 6 .e, .op 7 .e, .op 8 .e]) rfl ?_
        iterate 3 refine rx_s rfl rfl rfl rfl rfl ?_
        refine rx_fa rfl rfl rfl rfl rfl rfl Fa.fo_273_4 ?_
        refine rx_ldH1 rfl rfl rfl rfl rfl rfl (by (repeat first|exact .here|apply Take1.there)) Fa.ag_243 (by rfl) ?_
        refine rx_s rfl rfl rfl rfl rfl ?_
        refine rx_callH (F := ?FT389) rfl rfl rfl rfl rfl rfl rfl rfl Fa.ca_169 rfl (il pl A n mv made hA (by omega) (by omega) (by omega)) ?T389 ?_
        case T389 => (repeat (first|exact Take.nil|refine Take.cons (by (repeat first|exact .here|apply Take1.there)) ?_))
        rintro _ _ ⟨mv1, rfl, rfl⟩
        try simp only [List.cons_append, List.nil_append]
        refine rx_fa rfl rfl rfl rfl rfl rfl Fa.fo_184_2 ?_
        refine rx_stp rfl rfl rfl rfl rfl rfl (by (repeat first|exact .here|apply Take1.there)) Fa.sz_56 (vs := [_, _]) rfl rfl rfl (by rfl) (cl' := [_, _, _, _, _, _, _, _, _]) (by rfl) ?_
        refine rx_end0 ?_
        refine SW.seq ?_
        refine ipMono (p := pr) (by (repeat first|exact .here|apply Take1.there)) sl.keep ?_
        refine SW.reg (l := [.op 0 .e, .op 1 .e, .op 2 .e, .op 3 .e, .op 4 .e, .op 5 .e, .op 6 .e, .op 7 .e, .op 8 .e]) rfl ?_
        iterate 3 refine rx_s rfl rfl rfl rfl rfl ?_
        refine rx_fa rfl rfl rfl rfl rfl rfl Fa.fo_273_5 ?_
        refine rx_ldH1 rfl rfl rfl rfl rfl rfl (by (repeat first|exact .here|apply Take1.there)) Fa.ag_243 (by rfl) ?_
        refine rx_s rfl rfl rfl rfl rfl ?_
        refine rx_callH (F := ?FT390) rfl rfl rfl rfl rfl rfl rfl rfl Fa.ca_169 rfl (ir pr (l.store SNode.zero A).1 (n + l.fresh) mv1 (made ++ (l.store SNode.zero A).2.1) sl.good (by omega) (by rw [sl.room]; omega) (by have := T.store_len SNode.zero l A; simp; omega)) ?T390 ?_
        case T390 => (repeat (first|exact Take.nil|refine Take.cons (by (repeat first|exact .here|apply Take1.there)) ?_))
        rintro _ _ ⟨mv2, rfl, rfl⟩
        try simp only [List.cons_append, List.nil_append]
        refine rx_fa rfl rfl rfl rfl rfl rfl Fa.fo_184_3 ?_
        refine rx_stp rfl rfl rfl rfl rfl rfl (by (repeat first|exact .here|apply Take1.there)) Fa.sz_56 (vs := [_, _]) rfl rfl rfl (by rfl) (cl' := [_, _, _, _, _, _, _, _, _]) (by rfl) ?_
        refine rx_end0 ?_
        refine SW.seq ?_
        refine SW.drawT (Hs := [ArP a (r.store SNode.zero (l.store SNode.zero A).1).1]) (D0l := []) (Dl := ?DT391) (F := ?FT391) Fa.mix (tp := [0, 1, 3, 7, 15, 31, 63, 0, 255, 511, 1023, 1023, 0, 6143, 16383]) (l := [.op 0 .s, .op 1 .s, .op 2 .s, .op 3 .d, .op 4 .s, .op 5 .s, .op 6 .d, .op 7 .d, .op 8 .e, .op 9 .s, .op 10 .s, .op 11 .s, .op 12 .f, .bar, .op 13 .e, .op 14 .s]) (by kernel_rfl) ?T391a ?T391b ?_
        case T391a => (repeat (first|exact Take.nil|refine Take.cons (by (repeat first|exact .here|apply Take1.there)) ?_))
        case T391b => (repeat (first|exact Take.nil|refine Take.cons (by (repeat first|exact .here|apply Take1.there)) ?_))
        iterate 2 refine rx_s rfl rfl rfl rfl rfl ?_
        refine rx_fa rfl rfl rfl rfl rfl rfl Fa.fo_241_0 ?_
        refine rx_ldD1 rfl rfl rfl rfl rfl rfl rfl (by (repeat first|exact .here|apply Take1.there)) Fa.ag_78 (by rfl) ?_
        refine rx_s rfl rfl rfl rfl rfl ?_
        refine rx_fa rfl rfl rfl rfl rfl rfl Fa.fo_186_0 ?_
        refine rx_ldD1 rfl rfl rfl rfl rfl rfl rfl (by (repeat first|exact .here|apply Take1.there)) Fa.ag_181 (by rfl) ?_
        refine rx_ldDA rfl rfl rfl rfl rfl rfl rfl (by (repeat first|exact .here|apply Take1.there)) Fa.ag_184 Fa.sz_184 (vs := [_, _, _, _, _, _, _, _, _]) (by rfl) rfl ?_
        refine rx_callH (F := ?FT392) rfl rfl rfl rfl rfl rfl rfl rfl Fa.ca_193 rfl (ArS.put a (r.store SNode.zero (l.store SNode.zero A).1).1 ⟨k, x, (l.store SNode.zero A).2.2, (r.store SNode.zero (l.store SNode.zero A).1).2.2, hi⟩ sr.good.ok hr2) ?T392 ?_
        case T392 => (repeat (first|exact Take.nil|refine Take.cons (by (repeat first|exact .here|apply Take1.there)) ?_))
        rintro _ _ ⟨rfl, rfl⟩
        try simp only [List.cons_append, List.nil_append]
        iterate 3 refine rx_s rfl rfl rfl rfl rfl ?_
        refine rx_alloc (.inl rfl) rfl rfl rfl rfl rfl Fa.z_56 ?_
        intro b8
        refine rx_barAll ?_
        try simp only [List.cons_append, List.nil_append]
        refine rx_stp rfl rfl rfl rfl rfl rfl (by (repeat first|exact .here|apply Take1.there)) Fa.sz_56 (vs := [_, _]) rfl rfl rfl (by rfl) (cl' := [_, _]) (by rfl) ?_
        refine rx_s rfl rfl rfl rfl rfl ?_
        refine rx_endD ?_
        try simp only [List.cons_append, List.nil_append]
        refine SW.seq ?_
        refine Holt.SW.slsh (v := mv2) (by (repeat first|exact .here|apply Take1.there)) ?_
        rintro p0 m0 c0 rfl hm0
        rw [flat_len, show Enc.n Handle = 2 from rfl] at hm0
        simp only [List.length_append] at hm0
        have q1 := T.store_len SNode.zero l A
        have q2 := T.store_len SNode.zero r (l.store SNode.zero A).1
        refine SW.drawT (Hs := [GL (.slice p0 m0 c0) (made ++ (l.store SNode.zero A).2.1 ++ (r.store SNode.zero (l.store SNode.zero A).1).2.1)]) (D0l := []) (Dl := ?DT393) (F := ?FT393) Fa.mix (tp := [0, 0, 2, 6, 14, 0, 32, 126, 255, 511, 1023]) (l := [.op 0 .s, .op 1 .s, .op 2 .s, .op 3 .s, .op 4 .d, .op 5 .d, .op 6 .f, .op 7 .e, .op 8 .s, .op 9 .s, .bar, .op 10 .e]) (by kernel_rfl) ?T393a ?T393b ?_
        case T393a => (repeat (first|exact Take.nil|refine Take.cons (by (repeat first|exact .here|apply Take1.there)) ?_))
        case T393b => (repeat (first|exact Take.nil|refine Take.cons (by (repeat first|exact .here|apply Take1.there)) ?_))
        iterate 3 refine rx_s rfl rfl rfl rfl rfl ?_
        refine rx_fa rfl rfl rfl rfl rfl rfl Fa.fo_200_1 ?_
        refine rx_ldD1 rfl rfl rfl rfl rfl rfl rfl (by (repeat first|exact .here|apply Take1.there)) Fa.ag_92 (by rfl) ?_
        refine rx_ldDA rfl rfl rfl rfl rfl rfl rfl (by (repeat first|exact .here|apply Take1.there)) Fa.ag_56 Fa.sz_56 (vs := [_, _]) (by rfl) rfl ?_
        refine rx_bslice (.inl rfl) rfl rfl rfl rfl rfl Fa.sl_92 Fa.z_56 rfl rfl rfl rfl rfl (cl := [_, _]) rfl ?_
        intro b70
        refine rx_app1 rfl rfl rfl rfl rfl Fa.sl_92 Fa.z_56 rfl rfl rfl rfl rfl (by (repeat first|exact .here|apply Take1.there)) (by (repeat first|exact .here|apply Take1.there)) (ys := [_, _]) (by rfl) rfl rfl (by rw [flat_len, show Enc.n Handle = 2 from rfl]; simp; omega) ?_
        intro p71 m71 c71 hm71
        refine rx_s rfl rfl rfl rfl rfl ?_
        refine rx_fa rfl rfl rfl rfl rfl rfl Fa.fo_200_1 ?_
        refine rx_barAll ?_
        try simp only [List.cons_append, List.nil_append]
        refine rx_stp rfl rfl rfl rfl rfl rfl (by (repeat first|exact .here|apply Take1.there)) Fa.sz_92 (vs := [_]) rfl rfl rfl (by rfl) (cl' := [_, _, _, _]) (by rfl) ?_
        refine rx_endD ?_
        try simp only [List.cons_append, List.nil_append]
        refine SW.seq ?_
        refine SW.reg (l := [.op 0 .e, .op 1 .e]) rfl ?_
        refine rx_ldHA rfl rfl rfl rfl rfl rfl (by (repeat first|exact .here|apply Take1.there)) Fa.ag_56 Fa.sz_56 (vs := [_, _]) (by rfl) rfl ?_
        refine rx_stp rfl rfl rfl rfl rfl rfl (by (repeat first|exact .here|apply Take1.there)) Fa.sz_56 (vs := [_, _]) rfl rfl rfl (by rfl) (cl' := [_, _]) (by rfl) ?_
        refine rx_end0 ?_
        refine SW.ret ?_
        rw [flat_handle]
        exact retK1 (l := [_, _, _, _, _]) (.cell rfl (by (repeat first|exact .here|apply Take1.there)) (.inr ⟨2, _, Fa.ag_56, Fa.sz_56, rfl, rfl, rfl⟩) .nil) ⟨.slice p71 m71 c71, rfl, rfl⟩ (.one (by (repeat first|exact .here|apply Take1.there)) (.one (by (repeat first|exact .here|apply Take1.there)) (.one (by (repeat first|exact .here|apply Take1.there)) (.one (by (repeat first|exact .here|apply Take1.there)) (.one (by (repeat first|exact .here|apply Take1.there)) .nil)))))
end ItS
end Go.Proofs.YtikkegelplllmaaGreatDoor
/- Maps: what is put, taken out, looked up, freed. -/
namespace Go.Proofs.YtikkegelplllmaaGreatDoor
open Go Go.Sl Go.Holt Go.Proofs
open Go.Holt.Enc (enc)
namespace ItS
open ArS (ArP getV)

theorem fresh_put (cmp : Int → Int → Int) (k : Int) (x : Spot) (t : TR) (w : t.wf) : (T.put cmp k x t).1.fresh ≤ 1 + t.size := by
  have := T.fresh_size (T.put cmp k x t).1
  have := (T.put_wf cmp k x w).2
  omega
theorem room (m a : Nat) (A : Ar SNode) (hA : A.ok) :
    Sl.Spec Tryz.prog 168 #[.pointer (some ⟨m, 0, none⟩)] [MB m a, ArP a A] (fun v l => v = .int .i64 A.room ∧ l = [MB m a, ArP a A]) := by
  refine Spec.enter Tryz.func168 rfl rfl rfl ?_
  refine SW.seq ?_
  refine SW.reg (l := [.op 0 .e]) rfl ?_
  refine rx_s rfl rfl rfl rfl rfl ?_
  refine rx_end0 ?_
  refine SW.seq ?_
  refine SW.reg (l := [.op 0 .e, .op 1 .e, .op 2 .e, .op 3 .e, .op 4 .e, .op 5 .e]) rfl ?_
  iterate 2 refine rx_s rfl rfl rfl rfl rfl ?_
  refine rx_fa rfl rfl rfl rfl rfl rfl Fa.fo_186_0 ?_
  refine rx_ldH1 rfl rfl rfl rfl rfl rfl (by (repeat first|exact .here|apply Take1.there)) Fa.ag_181 (by rfl) ?_
  refine rx_callH (F := ?FT450) rfl rfl rfl rfl rfl rfl rfl rfl Fa.ca_192 rfl (ArS.room a A hA) ?T450 ?_
  case T450 => (repeat (first|exact Take.nil|refine Take.cons (by (repeat first|exact .here|apply Take1.there)) ?_))
  rintro _ _ ⟨rfl, rfl⟩
  try simp only [List.cons_append, List.nil_append]
  refine rx_s rfl rfl rfl rfl rfl ?_
  refine rx_end0 ?_
  refine SW.ret ?_
  exact retK1 (l := [_, _]) (.tmp rfl .nil) ⟨rfl, rfl⟩ (.one (by (repeat first|exact .here|apply Take1.there)) (.one (by (repeat first|exact .here|apply Take1.there)) .nil))
theorem mfree (m a : Nat) (A : Ar SNode) (h : Handle) (hA : A.ok) :
    Sl.Spec Tryz.prog 158 #[.pointer (some ⟨m, 0, none⟩), .agg #[.int .i64 h.slot, .int .i64 h.gen]] [MB m a, ArP a A]
      (fun v l => v = .bool (A.free SNode.zero h).2 ∧ l = [MB m a, ArP a (A.free SNode.zero h).1]) := by
  refine Spec.enter Tryz.func158 rfl rfl rfl ?_
  refine SW.seq ?_
  refine SW.reg (l := [.op 0 .e, .op 1 .e]) rfl ?_
  refine rx_box (.inr rfl) rfl rfl rfl rfl rfl rfl (cl := [_, _]) rfl ?_
  intro b3
  refine rx_s rfl rfl rfl rfl rfl ?_
  refine rx_end0 ?_
  refine SW.seq ?_
  refine SW.drawT (Hs := [ArP a A]) (D0l := []) (Dl := ?DT451) (F := ?FT451) Fa.mix (tp := [0, 1, 3, 7, 0, 31, 63]) (l := [.op 0 .s, .op 1 .s, .op 2 .s, .op 3 .d, .op 4 .d, .op 5 .e, .op 6 .s]) (by kernel_rfl) ?T451a ?T451b ?_
  case T451a => (repeat (first|exact Take.nil|refine Take.cons (by (repeat first|exact .here|apply Take1.there)) ?_))
  case T451b => (repeat (first|exact Take.nil|refine Take.cons (by (repeat first|exact .here|apply Take1.there)) ?_))
  iterate 2 refine rx_s rfl rfl rfl rfl rfl ?_
  refine rx_fa rfl rfl rfl rfl rfl rfl Fa.fo_186_0 ?_
  refine rx_ldD1 rfl rfl rfl rfl rfl rfl rfl (by (repeat first|exact .here|apply Take1.there)) Fa.ag_181 (by rfl) ?_
  refine rx_ldDA rfl rfl rfl rfl rfl rfl rfl (by (repeat first|exact .here|apply Take1.there)) Fa.ag_56 Fa.sz_56 (vs := [_, _]) (by rfl) rfl ?_
  refine rx_callH (F := ?FT452) rfl rfl rfl rfl rfl rfl rfl rfl Fa.ca_184 rfl (ArS.free a A h hA) ?T452 ?_
  case T452 => (repeat (first|exact Take.nil|refine Take.cons (by (repeat first|exact .here|apply Take1.there)) ?_))
  rintro _ _ ⟨rfl, rfl⟩
  try simp only [List.cons_append, List.nil_append]
  refine rx_s rfl rfl rfl rfl rfl ?_
  refine rx_endD ?_
  try simp only [List.cons_append, List.nil_append]
  refine SW.ret ?_
  exact retK1 (l := [_, _]) (.tmp rfl .nil) ⟨rfl, rfl⟩ (.one (by (repeat first|exact .here|apply Take1.there)) (.one (by (repeat first|exact .here|apply Take1.there)) .nil))
theorem mnew (m : Int) (h0 : 0 ≤ m) (h1 : m ≤ 1048576) :
    Sl.Spec Tryz.prog 62 #[.int .i64 m, .func (.func 63) #[] #[]] [] (fun v l => ∃ b a, v = .pointer (some ⟨b, 0, none⟩) ∧ l = [MB b a, ArP a ⟨m, [], []⟩]) := by
  refine Spec.enter Tryz.func62 rfl rfl rfl ?_
  refine SW.seq ?_
  refine SW.reg (l := [.op 0 .e]) rfl ?_
  refine rx_s rfl rfl rfl rfl rfl ?_
  refine rx_end0 ?_
  refine SW.seq ?_
  refine SW.reg (l := [.op 0 .e, .op 1 .e, .op 2 .e]) rfl ?_
  refine rx_s rfl rfl rfl rfl rfl ?_
  refine rx_callH (F := ?FT453) rfl rfl rfl rfl rfl rfl rfl rfl Fa.ca_92 rfl (ArS.new m h0 h1) ?T453 ?_
  case T453 => (repeat (first|exact Take.nil|refine Take.cons (by (repeat first|exact .here|apply Take1.there)) ?_))
  rintro _ _ ⟨a, rfl, rfl⟩
  try simp only [List.cons_append, List.nil_append]
  refine rx_s rfl rfl rfl rfl rfl ?_
  refine rx_end0 ?_
  refine SW.seq ?_
  refine SW.seq ?_
  refine SW.reg (l := [.op 0 .e, .op 1 .e, .op 2 .e, .op 3 .e, .op 4 .e, .op 5 .e]) rfl ?_
  refine rx_s rfl rfl rfl rfl rfl ?_
  refine rx_eqnil rfl rfl rfl rfl rfl Fa.pt_181 rfl ?_
  iterate 2 refine rx_s rfl rfl rfl rfl rfl ?_
  refine rx_eqnilF rfl rfl rfl rfl rfl Fa.ft_132 rfl ?_
  refine rx_s rfl rfl rfl rfl rfl ?_
  refine rx_end0 ?_
  refine SW.cond (b := false) rfl (fun h => nomatch h) (fun _ => ?_)
  refine SW.skip ?_
  try simp only [thenK, blockK, cond_true, cond_false, beq_self_eq_true, Nat.reduceBEq]
  refine SW.seq ?_
  refine SW.reg (l := [.op 0 .e, .op 1 .e, .op 2 .e, .op 3 .e, .op 4 .e]) rfl ?_
  iterate 2 refine rx_s rfl rfl rfl rfl rfl ?_
  refine rx_build rfl rfl rfl rfl rfl Fa.st_186 rfl (cs := [_, _]) rfl ?_
  refine rx_box (.inr rfl) rfl rfl rfl rfl rfl rfl (cl := [_, _]) rfl ?_
  intro b17
  refine rx_s rfl rfl rfl rfl rfl ?_
  refine rx_end0 ?_
  refine SW.ret ?_
  exact retK1 (l := [_, _]) (.tmp rfl .nil) ⟨b17, a, rfl, rfl⟩ (.one (by (repeat first|exact .here|apply Take1.there)) (.one (by (repeat first|exact .here|apply Take1.there)) .nil))
/-- What a change of a map answers. -/
abbrev EdV (h : Handle) (mv gv : Value) : Value := .tuple #[.agg #[.int .i64 h.slot, .int .i64 h.gen, mv, gv], .bool true]
/-- 'finish' -/
theorem finish (e m a : Nat) (gv : Value) (g : List Handle) (A : Ar SNode) (n : Nat) (t : TR) (p : Option Addr) (hA : A.good n) (hs : t.size ≤ 100000) (hn : n + t.fresh ≤ 1000000000) (hr : (t.fresh : Int) ≤ A.room) :
    Sl.Spec Tryz.prog 141 #[.pointer (some ⟨m, 0, none⟩), .pointer (some ⟨e, 0, none⟩), .pointer p] [EB e m gv, MB m a, ArP a A, GL gv g, IP A p t]
      (fun v l' => ∃ p1 m1 c1 p2 m2 c2, v = EdV (t.store SNode.zero A).2.2 (.slice p1 m1 c1) (.slice p2 m2 c2) ∧
        l' = [MB m a, ArP a (t.store SNode.zero A).1, GL (.slice p1 m1 c1) (t.store SNode.zero A).2.1, GL (.slice p2 m2 c2) g]) := by
  have hf := T.fresh_size t
  refine Spec.enter Tryz.func141 rfl rfl rfl ?_
  refine Holt.SW.slsh (v := gv) (by (repeat first|exact .here|apply Take1.there)) ?_
  rintro p0 m0 c0 rfl hm0
  refine SW.seq ?_
  refine SW.reg (l := [.op 0 .e, .op 1 .e]) rfl ?_
  refine rx_alloc (.inr rfl) rfl rfl rfl rfl rfl Fa.z_200 ?_
  intro b6
  refine rx_s rfl rfl rfl rfl rfl ?_
  refine rx_end0 ?_
  refine SW.seq ?_
  refine SW.seq ?_
  refine SW.reg (l := [.op 0 .e, .op 1 .e, .op 2 .e, .op 3 .e, .op 4 .e, .op 5 .e]) rfl ?_
  iterate 2 refine rx_s rfl rfl rfl rfl rfl ?_
  refine rx_callH (F := ?FT454) rfl rfl rfl rfl rfl rfl rfl rfl Fa.ca_167 rfl (fresh _ A t p hs) ?T454 ?_
  case T454 => (repeat (first|exact Take.nil|refine Take.cons (by (repeat first|exact .here|apply Take1.there)) ?_))
  rintro _ _ ⟨rfl, rfl⟩
  try simp only [List.cons_append, List.nil_append]
  refine rx_s rfl rfl rfl rfl rfl ?_
  refine rx_callH (F := ?FT455) rfl rfl rfl rfl rfl rfl rfl rfl Fa.ca_168 rfl (room m a A hA.ok) ?T455 ?_
  case T455 => (repeat (first|exact Take.nil|refine Take.cons (by (repeat first|exact .here|apply Take1.there)) ?_))
  rintro _ _ ⟨rfl, rfl⟩
  try simp only [List.cons_append, List.nil_append]
  refine rx_s rfl rfl rfl rfl rfl ?_
  refine rx_end0 ?_
  refine SW.cond rfl (fun h14 => ?_) (fun h14 => ?_)
  · (have := of_decide_eq_true h14; omega)
  · skip
    refine SW.skip ?_
    try simp only [thenK, blockK, cond_true, cond_false, beq_self_eq_true, Nat.reduceBEq]
    refine SW.seq ?_
    refine SW.reg (l := [.op 0 .e, .op 1 .e, .op 2 .e, .op 3 .e, .op 4 .e, .op 5 .e, .op 6 .e]) rfl ?_
    iterate 2 refine rx_s rfl rfl rfl rfl rfl ?_
    refine rx_fa rfl rfl rfl rfl rfl rfl Fa.fo_241_1 ?_
    refine rx_ldH1 rfl rfl rfl rfl rfl rfl (by (repeat first|exact .here|apply Take1.there)) Fa.ag_92 (by rfl) ?_
    refine rx_build rfl rfl rfl rfl rfl Fa.st_200 rfl (cs := [_, _, _, _]) rfl ?_
    refine rx_alloc (.inr rfl) rfl rfl rfl rfl rfl Fa.z_200 ?_
    intro b8
    refine rx_stp rfl rfl rfl rfl rfl rfl (by (repeat first|exact .here|apply Take1.there)) Fa.sz_200 (vs := [_, _, _, _]) rfl rfl rfl (by rfl) (cl' := [_, _, _, _]) (by rfl) ?_
    refine rx_end0 ?_
    refine SW.seq ?_
    refine SW.fold (Hl' := [GL (.slice none 0 0) [], OB b8 ⟨0, 0⟩ (.slice none 0 0) (.slice p0 m0 c0), EB e m (.slice p0 m0 c0), MB m a, ArP a A, GL (.slice p0 m0 c0) g, IP A p t, blk b6 [.int .i64 0, .int .i64 0, .slice none 0 0, .slice none 0 0] 200 (0, 0)]) (slown_nil _ _ (.one (by (repeat first|exact .here|apply Take1.there)) (.one (by (repeat first|exact .here|apply Take1.there)) (.one (by (repeat first|exact .here|apply Take1.there)) (.one (by (repeat first|exact .here|apply Take1.there)) (.one (by (repeat first|exact .here|apply Take1.there)) (.one (by (repeat first|exact .here|apply Take1.there)) (.one (by (repeat first|exact .here|apply Take1.there)) .nil)))))))) ?_
    refine SW.reg (l := [.op 0 .e, .op 1 .e, .op 2 .e, .op 3 .e, .op 4 .e]) rfl ?_
    iterate 2 refine rx_s rfl rfl rfl rfl rfl ?_
    refine rx_callH (F := ?FT456) rfl rfl rfl rfl rfl rfl rfl rfl Fa.ca_169 rfl (store e m a b8 (.slice p0 m0 c0) (.slice p0 m0 c0) ⟨0, 0⟩ t p A n (.slice none 0 0) [] hA hn hr (by simp; omega)) ?T456 ?_
    case T456 => (repeat (first|exact Take.nil|refine Take.cons (by (repeat first|exact .here|apply Take1.there)) ?_))
    rintro _ _ ⟨mv, rfl, rfl⟩
    try simp only [List.cons_append, List.nil_append]
    refine rx_fa rfl rfl rfl rfl rfl rfl Fa.fo_200_0 ?_
    refine rx_stp rfl rfl rfl rfl rfl rfl (by (repeat first|exact .here|apply Take1.there)) Fa.sz_56 (vs := [_, _]) rfl rfl rfl (by rfl) (cl' := [_, _, _, _]) (by rfl) ?_
    refine rx_end0 ?_
    refine SW.seq ?_
    refine Holt.SW.slsh (v := mv) (by (repeat first|exact .here|apply Take1.there)) ?_
    rintro p1 m1 c1 rfl hm1
    refine SW.reg (l := [.op 0 .e, .op 1 .e, .op 2 .e]) rfl ?_
    refine rx_ldHA rfl rfl rfl rfl rfl rfl (by (repeat first|exact .here|apply Take1.there)) Fa.ag_200 Fa.sz_200 (vs := [_, _, _, _]) (by rfl) rfl ?_
    refine rx_stp rfl rfl rfl rfl rfl rfl (by (repeat first|exact .here|apply Take1.there)) Fa.sz_200 (vs := [_, _, _, _]) rfl rfl rfl (by rfl) (cl' := [_, _, _, _]) (by rfl) ?_
    refine rx_s rfl rfl rfl rfl rfl ?_
    refine rx_end0 ?_
    refine SW.ret ?_
    exact retK2 (l := [_, _, _, _]) (.cell rfl (by (repeat first|exact .here|apply Take1.there)) (.inr ⟨4, _, Fa.ag_200, Fa.sz_200, rfl, rfl, rfl⟩) (.tmp rfl .nil)) ⟨_, _, _, _, _, _, rfl, rfl⟩ (.one (by (repeat first|exact .here|apply Take1.there)) (.one (by (repeat first|exact .here|apply Take1.there)) (.one (by (repeat first|exact .here|apply Take1.there)) (.one (by (repeat first|exact .here|apply Take1.there)) .nil))))
/-- 'Put' -/
theorem mput (m a : Nat) (A : Ar SNode) (n : Nat) (t : TR) (k : Int) (x : Spot) (hA : A.good n) (ht : t.holds A) (w : t.wf) (hs : t.size ≤ 90000) (hn : n + (T.put cmpI k x t).1.fresh ≤ 1000000000) (hr : ((T.put cmpI k x t).1.fresh : Int) ≤ A.room) (s g : Int) (e1 : s = t.hd.slot) (e2 : g = t.hd.gen) :
    Sl.Spec Tryz.prog 118 #[.pointer (some ⟨m, 0, none⟩), .agg #[.int .i64 s, .int .i64 g], .int .i64 k, .agg #[.bool x.is, .int .i64 x.to, .string x.name]] [MB m a, ArP a A]
      (fun v l' => ∃ p1 m1 c1 p2 m2 c2, v = EdV ((T.put cmpI k x t).1.store SNode.zero A).2.2 (.slice p1 m1 c1) (.slice p2 m2 c2) ∧
        l' = [MB m a, ArP a ((T.put cmpI k x t).1.store SNode.zero A).1, GL (.slice p1 m1 c1) ((T.put cmpI k x t).1.store SNode.zero A).2.1, GL (.slice p2 m2 c2) (T.put cmpI k x t).2]) := by
  have hw := T.put_wf cmpI k x w
  refine Spec.enter Tryz.func118 rfl rfl rfl ?_
  refine SW.seq ?_
  refine SW.reg (l := [.op 0 .e, .op 1 .e, .op 2 .e, .op 3 .e]) rfl ?_
  refine rx_box (.inr rfl) rfl rfl rfl rfl rfl rfl (cl := [_, _]) rfl ?_
  intro b5
  refine rx_box (.inr rfl) rfl rfl rfl rfl rfl rfl (cl := [_, _, _]) rfl ?_
  intro b7
  refine rx_alloc (.inr rfl) rfl rfl rfl rfl rfl Fa.z_200 ?_
  intro b8
  refine rx_s rfl rfl rfl rfl rfl ?_
  refine rx_end0 ?_
  refine SW.seq ?_
  refine SW.reg (l := [.op 0 .e, .op 1 .e, .op 2 .e, .op 3 .e]) rfl ?_
  refine rx_s rfl rfl rfl rfl rfl ?_
  refine rx_build rfl rfl rfl rfl rfl Fa.st_241 rfl (cs := [_, _]) rfl ?_
  refine rx_box (.inr rfl) rfl rfl rfl rfl rfl rfl (cl := [_, _]) rfl ?_
  intro b13
  refine rx_s rfl rfl rfl rfl rfl ?_
  refine rx_end0 ?_
  refine SW.seq ?_
  refine SW.slnil 56 2 ?_
  refine SW.drawT (Hs := [EB b13 m (.slice none 0 0), MB m a, ArP a A, GL (.slice none 0 0) []]) (D0l := []) (Dl := ?DT457) (F := ?FT457) Fa.mix (tp := [0, 0, 0, 0, 0, 24, 0, 0, 252, 511, 1023, 1023, 4095, 8191]) (l := [.op 0 .s, .op 1 .s, .op 2 .s, .op 3 .s, .op 4 .d, .op 5 .e, .op 6 .s, .op 7 .d, .op 8 .e, .op 9 .e, .op 10 .s, .op 11 .s, .bar, .op 12 .e, .op 13 .s]) (by kernel_rfl) ?T457a ?T457b ?_
  case T457a => (repeat (first|exact Take.nil|refine Take.cons (by (repeat first|exact .here|apply Take1.there)) ?_))
  case T457b => (repeat (first|exact Take.nil|refine Take.cons (by (repeat first|exact .here|apply Take1.there)) ?_))
  iterate 4 refine rx_s rfl rfl rfl rfl rfl ?_
  refine rx_ldDA rfl rfl rfl rfl rfl rfl rfl (by (repeat first|exact .here|apply Take1.there)) Fa.ag_56 Fa.sz_56 (vs := [_, _]) (by rfl) rfl ?_
  refine rx_callH (F := ?FT458) rfl rfl rfl rfl rfl rfl rfl rfl Fa.ca_143 rfl (item _ A t ht s g e1 e2) ?T458 ?_
  case T458 => (repeat (first|exact Take.nil|refine Take.cons (by (repeat first|exact .here|apply Take1.there)) ?_))
  rintro _ _ ⟨p, rfl, rfl⟩
  try simp only [List.cons_append, List.nil_append]
  refine rx_s rfl rfl rfl rfl rfl ?_
  refine rx_ldDA rfl rfl rfl rfl rfl rfl rfl (by (repeat first|exact .here|apply Take1.there)) Fa.ag_98 Fa.sz_98 (vs := [_, _, _]) (by rfl) rfl ?_
  refine rx_callH (F := ?FT459) rfl rfl rfl rfl rfl rfl rfl rfl Fa.ca_145 rfl (put b13 m a A hA.ok k x t p (.slice none 0 0) [] w (by omega) (by simp; omega)) ?T459 ?_
  case T459 => (repeat (first|exact Take.nil|refine Take.cons (by (repeat first|exact .here|apply Take1.there)) ?_))
  rintro _ _ ⟨gv1, p1, rfl, rfl⟩
  try simp only [List.cons_append, List.nil_append]
  refine rx_callH (F := ?FT460) rfl rfl rfl rfl rfl rfl rfl rfl Fa.ca_141 rfl (finish b13 m a gv1 (T.put cmpI k x t).2 A n (T.put cmpI k x t).1 p1 hA (by omega) hn hr) ?T460 ?_
  case T460 => (repeat (first|exact Take.nil|refine Take.cons (by (repeat first|exact .here|apply Take1.there)) ?_))
  rintro _ _ ⟨p1, m1, c1, p2, m2, c2, rfl, rfl⟩
  try simp only [List.cons_append, List.nil_append]
  iterate 2 refine rx_s rfl rfl rfl rfl rfl ?_
  refine rx_barAll ?_
  try simp only [List.cons_append, List.nil_append]
  refine rx_stp rfl rfl rfl rfl rfl rfl (by (repeat first|exact .here|apply Take1.there)) Fa.sz_200 (vs := [_, _, _, _]) rfl rfl rfl (by rfl) (cl' := [_, _, _, _]) (by rfl) ?_
  refine rx_s rfl rfl rfl rfl rfl ?_
  refine rx_endD ?_
  try simp only [List.cons_append, List.nil_append]
  refine SW.ret ?_
  exact retK2 (l := [_, _, _, _]) (.cell rfl (by (repeat first|exact .here|apply Take1.there)) (.inr ⟨4, _, Fa.ag_200, Fa.sz_200, rfl, rfl, rfl⟩) (.tmp rfl .nil)) ⟨p1, m1, c1, p2, m2, c2, rfl, rfl⟩ (.one (by (repeat first|exact .here|apply Take1.there)) (.one (by (repeat first|exact .here|apply Take1.there)) (.one (by (repeat first|exact .here|apply Take1.there)) (.one (by (repeat first|exact .here|apply Take1.there)) .nil))))

theorem getV_cases (o : Option SNode) : ∃ (k : Int) (x : Spot) (l r : Handle) (hi : Int) (q : Bool), getV o = .tuple #[.agg (enc (⟨k, x, l, r, hi⟩ : SNode)).toArray, .bool q] ∧ (q = true → o = some ⟨k, x, l, r, hi⟩) ∧ (q = false → o = none) := by
  rcases o with _ | ⟨k, x, l, r, hi⟩
  · exact ⟨SNode.zero.key, SNode.zero.val, SNode.zero.left, SNode.zero.right, SNode.zero.high, false, rfl, by simp, fun _ => rfl⟩
  · exact ⟨k, x, l, r, hi, true, rfl, fun _ => rfl, by simp⟩
/-- 'Get' -/
theorem mget (m a : Nat) (A : Ar SNode) (hA : A.ok) (t : TR) (ht : t.holds A) (k : Int) (s g : Int) (e1 : s = t.hd.slot) (e2 : g = t.hd.gen) :
    Sl.Spec Tryz.prog 86 #[.pointer (some ⟨m, 0, none⟩), .agg #[.int .i64 s, .int .i64 g], .int .i64 k] [MB m a, ArP a A]
      (fun v l' => ((∀ x, T.nth cmpI k t = some x → v = .tuple #[.agg #[.bool x.is, .int .i64 x.to, .string x.name], .bool true]) ∧ (T.nth cmpI k t = none → v = .tuple #[.agg #[.bool false, .int .i64 0, .string ⟨#[]⟩], .bool false])) ∧ l' = [MB m a, ArP a A]) := by
  subst e1 e2
  refine Spec.enter Tryz.func86 rfl rfl rfl ?_
  refine SW.seq ?_
  refine SW.reg (l := [.op 0 .e, .op 1 .e, .op 2 .e]) rfl ?_
  refine rx_box (.inr rfl) rfl rfl rfl rfl rfl rfl (cl := [_, _]) rfl ?_
  intro b4
  refine rx_alloc (.inr rfl) rfl rfl rfl rfl rfl Fa.z_98 ?_
  intro b6
  refine rx_s rfl rfl rfl rfl rfl ?_
  refine rx_end0 ?_
  refine SW.block ?_
  refine SW.fold (Hl' := [MB m a, ArP a A, blk b4 [.int .i64 t.hd.slot, .int .i64 t.hd.gen] 56 (0, 0), blk b6 [.bool false, .int .i64 0, .string ⟨#[]⟩] 98 (0, 0)]) (.one (by (repeat first|exact .here|apply Take1.there)) (.one (by (repeat first|exact .here|apply Take1.there)) (.one (by (repeat first|exact .here|apply Take1.there)) (.one (by (repeat first|exact .here|apply Take1.there)) .nil)))) ?_
  refine SW.loop (fun q e' H' => ∃ (t' : TR) (Hl : List HProp), q = t'.size ∧ T.holds A t' ∧ T.nth cmpI k t' = T.nth cmpI k t ∧ H' = star Hl ∧ EntL Hl [MB m a, ArP a A, blk b4 [.int .i64 t'.hd.slot, .int .i64 t'.hd.gen] 56 (0, 0), blk b6 [.bool false, .int .i64 0, .string ⟨#[]⟩] 98 (0, 0)] ∧ EnvLe (upd (upd (upd (upd noEnv 0 (.pointer (some ⟨m, 0, none⟩))) 2 (.int .i64 k)) 4 (.pointer (some ⟨b4, 0, none⟩))) 6 (.pointer (some ⟨b6, 0, none⟩))) e') t.size ⟨t, _, rfl, ht, rfl, rfl, (.one (by (repeat first|exact .here|apply Take1.there)) (.one (by (repeat first|exact .here|apply Take1.there)) (.one (by (repeat first|exact .here|apply Take1.there)) (.one (by (repeat first|exact .here|apply Take1.there)) .nil)))), .cons (.cons (.cons (.cons .nil rfl) rfl) rfl) rfl⟩ ?_
  rintro q e' _ ⟨t', Hl, rfl, ht', hn, rfl, hl, hle⟩
  refine SW.fold hl ?_
  refine SW.forget hle ?_
  obtain ⟨k', x', lh, rh, hi', q, hq, hq1, hq2⟩ := getV_cases (A.get t'.hd)
  refine SW.block ?_
  refine SW.seq ?_
  refine SW.reg (l := [.op 0 .e, .op 1 .e, .op 2 .e, .op 3 .e, .op 4 .e, .op 5 .e, .op 6 .e, .op 7 .e, .op 8 .e]) rfl ?_
  refine rx_s rfl rfl rfl rfl rfl ?_
  refine rx_ldHA rfl rfl rfl rfl rfl rfl (by (repeat first|exact .here|apply Take1.there)) Fa.ag_56 Fa.sz_56 (vs := [_, _]) (by rfl) rfl ?_
  refine rx_callH (F := ?FT461) rfl rfl rfl rfl rfl rfl rfl rfl Fa.ca_119 rfl (load m a A t'.hd hA) ?T461 ?_
  case T461 => (repeat (first|exact Take.nil|refine Take.cons (by (repeat first|exact .here|apply Take1.there)) ?_))
  rintro _ _ ⟨rfl, rfl⟩
  rw [hq]
  try simp only [List.cons_append, List.nil_append]
  iterate 3 refine rx_s rfl rfl rfl rfl rfl ?_
  refine rx_alloc (.inr rfl) rfl rfl rfl rfl rfl Fa.z_184 ?_
  intro b8
  refine rx_stp rfl rfl rfl rfl rfl rfl (by (repeat first|exact .here|apply Take1.there)) Fa.sz_184 (vs := [_, _, _, _, _, _, _, _, _]) rfl rfl rfl (by rfl) (cl' := [_, _, _, _, _, _, _, _, _]) (by rfl) ?_
  refine rx_s rfl rfl rfl rfl rfl ?_
  refine rx_end0 ?_
  refine SW.seq ?_
  refine SW.seq ?_
  refine SW.reg (l := [.op 0 .e, .op 1 .e]) rfl ?_
  iterate 2 refine rx_s rfl rfl rfl rfl rfl ?_
  refine rx_end0 ?_
  refine SW.cond rfl (fun h19 => ?_) (fun h19 => ?_)
  · skip
    obtain rfl : q = false := by simpa using h19
    have hno := hq2 rfl
    have : t' = .nil := by
      cases t' with
      | nil => rfl
      | node h2 k2 x2 l2 r2 hi2 => rw [show T.hd (.node h2 k2 x2 l2 r2 hi2) = h2 from rfl, ht'.1] at hno; cases hno
    subst this
    refine SW.seq ?_
    refine SW.reg (l := [.op 0 .e]) rfl ?_
    refine rx_alloc (.inr rfl) rfl rfl rfl rfl rfl Fa.z_98 ?_
    intro b10
    refine rx_end0 ?_
    refine SW.seq ?_
    refine SW.reg (l := [.op 0 .e, .op 1 .e, .op 2 .e]) rfl ?_
    refine rx_ldHA rfl rfl rfl rfl rfl rfl (by (repeat first|exact .here|apply Take1.there)) Fa.ag_98 Fa.sz_98 (vs := [_, _, _]) (by rfl) rfl ?_
    refine rx_stp rfl rfl rfl rfl rfl rfl (by (repeat first|exact .here|apply Take1.there)) Fa.sz_98 (vs := [_, _, _]) rfl rfl rfl (by rfl) (cl' := [_, _, _]) (by rfl) ?_
    refine rx_s rfl rfl rfl rfl rfl ?_
    refine rx_end0 ?_
    refine SW.ret ?_
    exact retK2 (l := [_, _]) (.cell rfl (by (repeat first|exact .here|apply Take1.there)) (.inr ⟨3, _, Fa.ag_98, Fa.sz_98, rfl, rfl, rfl⟩) (.tmp rfl .nil)) ⟨⟨fun x hx => (by rw [← hn] at hx; cases hx), fun _ => rfl⟩, rfl⟩ (.one (by (repeat first|exact .here|apply Take1.there)) (.one (by (repeat first|exact .here|apply Take1.there)) .nil))
  · skip
    obtain rfl : q = true := by simpa using h19
    have hno := hq1 rfl
    rcases t' with _ | ⟨h2, k2, x2, l2, r2, hi2⟩
    · rw [show T.hd (.nil : TR) = ⟨0, 0⟩ from rfl, Ar.zero_none] at hno; cases hno
    rw [show T.hd (.node h2 k2 x2 l2 r2 hi2) = h2 from rfl, ht'.1] at hno
    obtain ⟨rfl, rfl, rfl, rfl, rfl⟩ : k2 = k' ∧ x2 = x' ∧ T.hd l2 = lh ∧ T.hd r2 = rh ∧ hi2 = hi' := by simpa using hno
    simp only [T.nth] at hn
    refine SW.skip ?_
    try simp only [thenK, blockK, cond_true, cond_false, beq_self_eq_true, Nat.reduceBEq]
    refine SW.seq ?_
    refine SW.drawT (Hs := []) (D0l := []) (Dl := ?DT462) (F := ?FT462) Fa.mix (tp := [0, 1, 3, 7, 0, 0, 32, 127, 255]) (l := [.op 0 .s, .op 1 .s, .op 2 .s, .op 3 .d, .op 4 .s, .op 5 .s, .op 6 .d, .op 7 .e, .op 8 .s]) (by kernel_rfl) ?T462a ?T462b ?_
    case T462a => (repeat (first|exact Take.nil|refine Take.cons (by (repeat first|exact .here|apply Take1.there)) ?_))
    case T462b => (repeat (first|exact Take.nil|refine Take.cons (by (repeat first|exact .here|apply Take1.there)) ?_))
    iterate 2 refine rx_s rfl rfl rfl rfl rfl ?_
    refine rx_fa rfl rfl rfl rfl rfl rfl Fa.fo_186_1 ?_
    refine rx_ldD1 rfl rfl rfl rfl rfl rfl rfl (by (repeat first|exact .here|apply Take1.there)) Fa.ag_132 (by rfl) ?_
    refine rx_s rfl rfl rfl rfl rfl ?_
    refine rx_fa rfl rfl rfl rfl rfl rfl Fa.fo_184_0 ?_
    refine rx_ldD1 rfl rfl rfl rfl rfl rfl rfl (by (repeat first|exact .here|apply Take1.there)) Fa.ag_3 (by rfl) ?_
    refine rx_callH (F := ?FT463) rfl rfl rfl rfl rfl rfl rfl rfl Fa.ca_63 rfl (Cm.compareI k k2) ?T463 ?_
    case T463 => (repeat (first|exact Take.nil|refine Take.cons (by (repeat first|exact .here|apply Take1.there)) ?_))
    rintro _ _ ⟨rfl, rfl⟩
    try simp only [List.cons_append, List.nil_append]
    refine rx_s rfl rfl rfl rfl rfl ?_
    refine rx_endD ?_
    try simp only [List.cons_append, List.nil_append]
    refine SW.block ?_
    refine SW.seq ?_
    refine SW.reg (l := [.op 0 .e, .op 1 .e, .op 2 .e]) rfl ?_
    iterate 3 refine rx_s rfl rfl rfl rfl rfl ?_
    refine rx_end0 ?_
    refine SW.cond rfl (fun h31 => ?_) (fun h31 => ?_)
    · skip
      have hc : cmpI k k2 < 0 := of_decide_eq_true h31
      rw [if_pos hc] at hn
      refine SW.reg (l := [.op 0 .e, .op 1 .e, .op 2 .e]) rfl ?_
      refine rx_fa rfl rfl rfl rfl rfl rfl Fa.fo_184_2 ?_
      refine rx_ldHA rfl rfl rfl rfl rfl rfl (by (repeat first|exact .here|apply Take1.there)) Fa.ag_56 Fa.sz_56 (vs := [_, _]) (by rfl) rfl ?_
      refine rx_stp rfl rfl rfl rfl rfl rfl (by (repeat first|exact .here|apply Take1.there)) Fa.sz_56 (vs := [_, _]) rfl rfl rfl (by rfl) (cl' := [_, _]) (by rfl) ?_
      refine rx_endL ?_
      exact ⟨l2.size, by simp only [T.size]; omega, l2, _, rfl, ht'.2.1, hn, rfl, (.one (by (repeat first|exact .here|apply Take1.there)) (.one (by (repeat first|exact .here|apply Take1.there)) (.one (by (repeat first|exact .here|apply Take1.there)) (.one (by (repeat first|exact .here|apply Take1.there)) .nil)))), .cons (.cons (.cons (.cons .nil rfl) rfl) rfl) rfl⟩
    · skip
      have hc : ¬ (cmpI k k2 < 0) := by simpa using h31
      rw [if_neg hc] at hn
      refine SW.seq ?_
      refine SW.reg (l := [.op 0 .e, .op 1 .e, .op 2 .e]) rfl ?_
      iterate 3 refine rx_s rfl rfl rfl rfl rfl ?_
      refine rx_end0 ?_
      refine SW.cond rfl (fun h36 => ?_) (fun h36 => ?_)
      · skip
        have hc' : cmpI k k2 > 0 := of_decide_eq_true h36
        rw [if_pos hc'] at hn
        refine SW.reg (l := [.op 0 .e, .op 1 .e, .op 2 .e]) rfl ?_
        refine rx_fa rfl rfl rfl rfl rfl rfl Fa.fo_184_3 ?_
        refine rx_ldHA rfl rfl rfl rfl rfl rfl (by (repeat first|exact .here|apply Take1.there)) Fa.ag_56 Fa.sz_56 (vs := [_, _]) (by rfl) rfl ?_
        refine rx_stp rfl rfl rfl rfl rfl rfl (by (repeat first|exact .here|apply Take1.there)) Fa.sz_56 (vs := [_, _]) rfl rfl rfl (by rfl) (cl' := [_, _]) (by rfl) ?_
        refine rx_endL ?_
        exact ⟨r2.size, by simp only [T.size]; omega, r2, _, rfl, ht'.2.2, hn, rfl, (.one (by (repeat first|exact .here|apply Take1.there)) (.one (by (repeat first|exact .here|apply Take1.there)) (.one (by (repeat first|exact .here|apply Take1.there)) (.one (by (repeat first|exact .here|apply Take1.there)) .nil)))), .cons (.cons (.cons (.cons .nil rfl) rfl) rfl) rfl⟩
      · skip
        have hc' : ¬ (cmpI k k2 > 0) := by simpa using h36
        rw [if_neg hc'] at hn
        refine SW.seq ?_
        refine SW.reg (l := [.op 0 .e, .op 1 .e, .op 2 .e, .op 3 .e]) rfl ?_
        refine rx_fa rfl rfl rfl rfl rfl rfl Fa.fo_184_1 ?_
        refine rx_ldHA rfl rfl rfl rfl rfl rfl (by (repeat first|exact .here|apply Take1.there)) Fa.ag_98 Fa.sz_98 (vs := [_, _, _]) (by rfl) rfl ?_
        refine rx_stp rfl rfl rfl rfl rfl rfl (by (repeat first|exact .here|apply Take1.there)) Fa.sz_98 (vs := [_, _, _]) rfl rfl rfl (by rfl) (cl' := [_, _, _]) (by rfl) ?_
        refine rx_s rfl rfl rfl rfl rfl ?_
        refine rx_end0 ?_
        refine SW.ret ?_
        exact retK2 (l := [_, _]) (.cell rfl (by (repeat first|exact .here|apply Take1.there)) (.inr ⟨3, _, Fa.ag_98, Fa.sz_98, rfl, rfl, rfl⟩) (.tmp rfl .nil)) ⟨⟨fun x hx => (by rw [← hn] at hx; cases hx; rfl), fun q => (by rw [← hn] at q; cases q)⟩, rfl⟩ (.one (by (repeat first|exact .here|apply Take1.there)) (.one (by (repeat first|exact .here|apply Take1.there)) .nil))
/-- 'Del' -/
theorem mdel (m a : Nat) (A : Ar SNode) (n : Nat) (t : TR) (k : Int) (x : Spot) (hk : T.nth cmpI k t = some x) (hA : A.good n) (ht : t.holds A) (w : t.wf) (hs : t.size ≤ 90000) (hn : n + (T.del cmpI k t).1.fresh ≤ 1000000000) (hr : ((T.del cmpI k t).1.fresh : Int) ≤ A.room) (s g : Int) (e1 : s = t.hd.slot) (e2 : g = t.hd.gen) :
    Sl.Spec Tryz.prog 116 #[.pointer (some ⟨m, 0, none⟩), .agg #[.int .i64 s, .int .i64 g], .int .i64 k] [MB m a, ArP a A]
      (fun v l' => ∃ p1 m1 c1 p2 m2 c2, v = EdV ((T.del cmpI k t).1.store SNode.zero A).2.2 (.slice p1 m1 c1) (.slice p2 m2 c2) ∧
        l' = [MB m a, ArP a ((T.del cmpI k t).1.store SNode.zero A).1, GL (.slice p1 m1 c1) ((T.del cmpI k t).1.store SNode.zero A).2.1, GL (.slice p2 m2 c2) (T.del cmpI k t).2]) := by
  have hw := T.del_wf cmpI k w
  have hg := mget m a A hA.ok t ht k s g e1 e2
  refine Spec.enter Tryz.func116 rfl rfl rfl ?_
  refine SW.seq ?_
  refine SW.reg (l := [.op 0 .e, .op 1 .e, .op 2 .e]) rfl ?_
  refine rx_box (.inr rfl) rfl rfl rfl rfl rfl rfl (cl := [_, _]) rfl ?_
  intro b4
  refine rx_alloc (.inr rfl) rfl rfl rfl rfl rfl Fa.z_200 ?_
  intro b6
  refine rx_s rfl rfl rfl rfl rfl ?_
  refine rx_end0 ?_
  refine SW.seq ?_
  refine SW.seq ?_
  refine SW.reg (l := [.op 0 .e, .op 1 .e, .op 2 .e, .op 3 .e, .op 4 .e, .op 5 .e, .op 6 .e, .op 7 .e, .op 8 .e, .op 9 .e]) rfl ?_
  refine rx_s rfl rfl rfl rfl rfl ?_
  refine rx_ldHA rfl rfl rfl rfl rfl rfl (by (repeat first|exact .here|apply Take1.there)) Fa.ag_56 Fa.sz_56 (vs := [_, _]) (by rfl) rfl ?_
  refine rx_s rfl rfl rfl rfl rfl ?_
  refine rx_callH (F := ?FT464) rfl rfl rfl rfl rfl rfl rfl rfl Fa.ca_86 rfl (hg) ?T464 ?_
  case T464 => (repeat (first|exact Take.nil|refine Take.cons (by (repeat first|exact .here|apply Take1.there)) ?_))
  rintro v _ ⟨⟨hv, _⟩, rfl⟩
  obtain rfl := hv x hk
  try simp only [List.cons_append, List.nil_append]
  iterate 3 refine rx_s rfl rfl rfl rfl rfl ?_
  refine rx_alloc (.inr rfl) rfl rfl rfl rfl rfl Fa.z_98 ?_
  intro b8
  refine rx_stp rfl rfl rfl rfl rfl rfl (by (repeat first|exact .here|apply Take1.there)) Fa.sz_98 (vs := [_, _, _]) rfl rfl rfl (by rfl) (cl' := [_, _, _]) (by rfl) ?_
  refine rx_s rfl rfl rfl rfl rfl ?_
  refine rx_end0 ?_
  refine SW.seq ?_
  refine SW.reg (l := [.op 0 .e, .op 1 .e]) rfl ?_
  iterate 2 refine rx_s rfl rfl rfl rfl rfl ?_
  refine rx_end0 ?_
  refine SW.cond (b := false) rfl (fun h => nomatch h) (fun _ => ?_)
  refine SW.skip ?_
  try simp only [thenK, blockK, cond_true, cond_false, beq_self_eq_true, Nat.reduceBEq]
  refine SW.seq ?_
  skip
  refine SW.reg (l := [.op 0 .e, .op 1 .e, .op 2 .e, .op 3 .e]) rfl ?_
  refine rx_s rfl rfl rfl rfl rfl ?_
  refine rx_build rfl rfl rfl rfl rfl Fa.st_241 rfl (cs := [_, _]) rfl ?_
  refine rx_box (.inr rfl) rfl rfl rfl rfl rfl rfl (cl := [_, _]) rfl ?_
  intro b23
  refine rx_s rfl rfl rfl rfl rfl ?_
  refine rx_end0 ?_
  refine SW.seq ?_
  refine SW.slnil 56 2 ?_
  refine SW.reg (l := [.op 0 .e, .op 1 .e, .op 2 .e, .op 3 .e, .op 4 .e, .op 5 .e, .op 6 .e, .op 7 .e, .op 8 .e, .op 9 .e, .op 10 .e, .op 11 .e, .op 12 .e]) rfl ?_
  iterate 4 refine rx_s rfl rfl rfl rfl rfl ?_
  refine rx_ldHA rfl rfl rfl rfl rfl rfl (by (repeat first|exact .here|apply Take1.there)) Fa.ag_56 Fa.sz_56 (vs := [_, _]) (by rfl) rfl ?_
  refine rx_callH (F := ?FT465) rfl rfl rfl rfl rfl rfl rfl rfl Fa.ca_143 rfl (item _ A t ht s g e1 e2) ?T465 ?_
  case T465 => (repeat (first|exact Take.nil|refine Take.cons (by (repeat first|exact .here|apply Take1.there)) ?_))
  rintro _ _ ⟨p, rfl, rfl⟩
  try simp only [List.cons_append, List.nil_append]
  refine rx_s rfl rfl rfl rfl rfl ?_
  refine rx_callH (F := ?FT466) rfl rfl rfl rfl rfl rfl rfl rfl Fa.ca_142 rfl (del b23 m a A hA.ok k t p (.slice none 0 0) [] (by rw [hk]; rfl) w (by omega) (by simp; omega)) ?T466 ?_
  case T466 => (repeat (first|exact Take.nil|refine Take.cons (by (repeat first|exact .here|apply Take1.there)) ?_))
  rintro _ _ ⟨gv1, p1, rfl, rfl⟩
  try simp only [List.cons_append, List.nil_append]
  refine rx_callH (F := ?FT467) rfl rfl rfl rfl rfl rfl rfl rfl Fa.ca_141 rfl (finish b23 m a gv1 (T.del cmpI k t).2 A n (T.del cmpI k t).1 p1 hA (by omega) hn hr) ?T467 ?_
  case T467 => (repeat (first|exact Take.nil|refine Take.cons (by (repeat first|exact .here|apply Take1.there)) ?_))
  rintro _ _ ⟨p1, m1, c1, p2, m2, c2, rfl, rfl⟩
  try simp only [List.cons_append, List.nil_append]
  iterate 2 refine rx_s rfl rfl rfl rfl rfl ?_
  refine rx_stp rfl rfl rfl rfl rfl rfl (by (repeat first|exact .here|apply Take1.there)) Fa.sz_200 (vs := [_, _, _, _]) rfl rfl rfl (by rfl) (cl' := [_, _, _, _]) (by rfl) ?_
  refine rx_s rfl rfl rfl rfl rfl ?_
  refine rx_end0 ?_
  refine SW.ret ?_
  exact retK2 (l := [_, _, _, _]) (.cell rfl (by (repeat first|exact .here|apply Take1.there)) (.inr ⟨4, _, Fa.ag_200, Fa.sz_200, rfl, rfl, rfl⟩) (.tmp rfl .nil)) ⟨p1, m1, c1, p2, m2, c2, rfl, rfl⟩ (.one (by (repeat first|exact .here|apply Take1.there)) (.one (by (repeat first|exact .here|apply Take1.there)) (.one (by (repeat first|exact .here|apply Take1.there)) (.one (by (repeat first|exact .here|apply Take1.there)) .nil))))
end ItS
end Go.Proofs.YtikkegelplllmaaGreatDoor
/- A new store of versions. -/
namespace Go.Proofs.YtikkegelplllmaaGreatDoor
open Go Go.Sl Go.Holt Go.Proofs
open Go.Holt.Enc (enc)
namespace Vw
/-- A store's block. -/
abbrev SB (s k p : Nat) : HProp := blk s [.pointer (some ⟨k, 0, none⟩), .pointer (some ⟨p, 0, none⟩)] 80 (0, 0)
theorem new (m : Int) (h0 : 0 ≤ m) (h1 : m ≤ 1048576) : Sl.Spec Tryz.prog 17 #[.int .i64 m] []
    (fun v l => ∃ s k a p b, v = .pointer (some ⟨s, 0, none⟩) ∧ l = [SB s k p, ItK.MB k a, ArK.ArP a ⟨m, [], []⟩, ItS.MB p b, ArS.ArP b ⟨m, [], []⟩]) := by
  refine Spec.enter Tryz.func17 rfl rfl rfl ?_
  refine SW.seq ?_
  refine SW.reg (l := [.op 0 .e]) rfl ?_
  refine rx_s rfl rfl rfl rfl rfl ?_
  refine rx_end0 ?_
  refine SW.seq ?_
  refine SW.reg (l := [.op 0 .e, .op 1 .e, .op 2 .e]) rfl ?_
  refine rx_s rfl rfl rfl rfl rfl ?_
  refine rx_callH (F := ?FT507) rfl rfl rfl rfl rfl rfl rfl rfl Fa.ca_60 rfl (ItK.mnew m h0 h1) ?T507 ?_
  case T507 => (repeat (first|exact Take.nil|refine Take.cons (by (repeat first|exact .here|apply Take1.there)) ?_))
  rintro _ _ ⟨k, a, rfl, rfl⟩
  try simp only [List.cons_append, List.nil_append]
  refine rx_s rfl rfl rfl rfl rfl ?_
  refine rx_end0 ?_
  refine SW.seq ?_
  refine SW.seq ?_
  refine SW.reg (l := [.op 0 .e, .op 1 .e]) rfl ?_
  refine rx_s rfl rfl rfl rfl rfl ?_
  refine rx_eqnil rfl rfl rfl rfl rfl Fa.pt_77 rfl ?_
  refine rx_end0 ?_
  refine SW.cond (b := false) rfl (fun h => nomatch h) (fun _ => ?_)
  refine SW.skip ?_
  try simp only [thenK, blockK, cond_true, cond_false, beq_self_eq_true, Nat.reduceBEq]
  refine SW.seq ?_
  refine SW.reg (l := [.op 0 .e, .op 1 .e, .op 2 .e, .op 3 .e, .op 4 .e, .op 5 .e]) rfl ?_
  iterate 2 refine rx_s rfl rfl rfl rfl rfl ?_
  refine rx_callH (F := ?FT508) rfl rfl rfl rfl rfl rfl rfl rfl Fa.ca_62 rfl (ItS.mnew m h0 h1) ?T508 ?_
  case T508 => (repeat (first|exact Take.nil|refine Take.cons (by (repeat first|exact .here|apply Take1.there)) ?_))
  rintro _ _ ⟨p, b, rfl, rfl⟩
  try simp only [List.cons_append, List.nil_append]
  refine rx_build rfl rfl rfl rfl rfl Fa.st_80 rfl (cs := [_, _]) rfl ?_
  refine rx_box (.inr rfl) rfl rfl rfl rfl rfl rfl (cl := [_, _]) rfl ?_
  intro b12
  refine rx_s rfl rfl rfl rfl rfl ?_
  refine rx_end0 ?_
  refine SW.ret ?_
  exact retK1 (l := [_, _, _, _, _]) (.tmp rfl .nil) ⟨b12, k, a, p, b, rfl, rfl⟩ (.one (by (repeat first|exact .here|apply Take1.there)) (.one (by (repeat first|exact .here|apply Take1.there)) (.one (by (repeat first|exact .here|apply Take1.there)) (.one (by (repeat first|exact .here|apply Take1.there)) (.one (by (repeat first|exact .here|apply Take1.there)) .nil)))))
end Vw
end Go.Proofs.YtikkegelplllmaaGreatDoor
/- One who calls: how a read goes. -/
namespace Go.Proofs.YtikkegelplllmaaGreatDoor
open Go Go.Sl Go.Holt Go.Proofs
open Go.Holt.Enc (enc)
namespace Cl
open Dk (DeskP)
open Fi (FiP)
section
variable (c d s : Nat) {nf : Nat} {cap : Array Value} {Lg : List Ev → HProp}
/-- How a call begins that reads. -/
theorem beginR (hN : Note Tryz.prog nf cap Lg) (C : Cli) (D : Desk) (hD : D.ok) (L : List Ev) (hL : L.length ≤ 800000) (x : Holt.Call) (hx : C.calls[C.at_]? = some x) (hk : x.kind = 3 ∨ x.kind = 4) :
    Sl.Spec Tryz.prog 66 #[.pointer (some ⟨c, 0, none⟩)] [CliP c d s nf cap C, DeskP d D, Lg L]
    (fun u l => u = .tuple #[] ∧ l = [CliP c d s nf cap { C with epoch := D.epoch, next := 96 }, DeskP d D.tick, Lg (L ++ [⟨0, C.i, C.at_, 0⟩])]) := by
  refine Spec.enter Tryz.func66 rfl rfl rfl ?_
  refine SW.seq ?_
  refine SW.reg (l := [.op 0 .e, .op 1 .e]) rfl ?_
  refine rx_s rfl rfl rfl rfl rfl ?_
  refine rx_callH (F := ?FT1) rfl rfl rfl rfl rfl rfl rfl rfl Fa.ca_94 rfl (tell c d s hN C L (by omega) 0 0) ?T1 ?_
  case T1 => (repeat (first|exact Take.nil|refine Take.cons (by (repeat first|exact .here|apply Take1.there)) ?_))
  rintro _ _ ⟨rfl, rfl⟩
  try simp only [List.cons_append, List.nil_append]
  refine rx_end0 ?_
  refine SW.seq ?_
  refine SW.exH 0 rfl ?_; rintro ⟨cv, av⟩; simp only [List.cons_append, List.nil_append]
  refine SW.slopen 1 rfl (fun _ hx' => absurd hx' (flat_ne hx (by decide))) ?_
  intro bp len cap' rest hv e1 e2 e3 e4
  subst hv
  have hlt := (List.getElem?_eq_some_iff.1 hx).1
  rw [flat_len, show Enc.n Holt.Call = 5 from rfl] at e1 e2
  refine SW.drawAll Fa.mix (tp := [0, 1, 3, 7, 0, 16, 48, 112, 255, 511, 1023]) (l := [.op 0 .s, .op 1 .s, .op 2 .s, .op 3 .d, .op 4 .s, .op 5 .s, .op 6 .s, .op 7 .d, .op 8 .s, .op 9 .s, .op 10 .d]) (by kernel_rfl) ?_
  iterate 2 refine rx_s rfl rfl rfl rfl rfl ?_
  refine rx_fa rfl rfl rfl rfl rfl rfl Fa.fo_135_3 ?_
  refine rx_ldD1 rfl rfl rfl rfl rfl rfl rfl (by (repeat first|exact .here|apply Take1.there)) Fa.ag_31 (by rfl) ?_
  iterate 2 refine rx_s rfl rfl rfl rfl rfl ?_
  refine rx_fa rfl rfl rfl rfl rfl rfl Fa.fo_135_4 ?_
  refine rx_ldD1 rfl rfl rfl rfl rfl rfl rfl (by (repeat first|exact .here|apply Take1.there)) Fa.ag_3 (by rfl) ?_
  refine rx_ix rfl rfl rfl rfl rfl Fa.sl_31 rfl rfl (by omega) ?_
  refine rx_fa rfl rfl rfl rfl rfl rfl Fa.fo_24_0 ?_
  refine rx_ldD1 rfl rfl rfl rfl rfl rfl rfl (by (repeat first|exact .here|apply Take1.there)) Fa.ag_3 (by exact flat_get hx (j := 0) (off := 0 + (C.at_ : Int).toNat * 5 + 0) (by decide) (by simp; rfl) rest) ?_
  refine rx_endD ?_
  try simp only [List.cons_append, List.nil_append]
  refine SW.fold (Hl' := [CliP c d s nf cap C, DeskP d D, Lg (L ++ [⟨0, C.i, C.at_, 0⟩])]) (foldC (cv := .slice (some ⟨bp, 0, none⟩) len cap') (.one (by (repeat first|exact .here|apply Take1.there)) (slown_mk (xs := flat C.calls) (rest := rest) (by (repeat first|exact .here|apply Take1.there)) rfl e4 (by rw [flat_len]; exact e1) (by rw [flat_len]; exact e2) e3 (.one (by (repeat first|exact .here|apply Take1.there)) (.one (by (repeat first|exact .here|apply Take1.there)) (.one (by (repeat first|exact .here|apply Take1.there)) .nil)))))) ?_
  refine SW.block ?_
  refine SW.seq ?_
  refine SW.seq ?_
  refine SW.reg (l := [.op 0 .e, .op 1 .e]) rfl ?_
  iterate 2 refine rx_s rfl rfl rfl rfl rfl ?_
  refine rx_end0 ?_
  refine SW.cond rfl (fun h18 => ?_) (fun h18 => ?_)
  · skip
    refine SW.skip ?_
    try simp only [thenK, blockK, cond_true, cond_false, beq_self_eq_true, Nat.reduceBEq]
    refine SW.cond rfl (fun h18 => ?_) (fun h18 => ?_)
    · skip
      refine SW.seq ?_
      refine SW.exH 0 rfl ?_; rintro ⟨cv, av⟩; simp only [List.cons_append, List.nil_append]
      refine SW.reg (l := [.op 0 .e, .op 1 .e, .op 2 .e, .op 3 .e, .op 4 .e, .op 5 .e, .op 6 .e, .op 7 .e, .op 8 .e]) rfl ?_
      iterate 3 refine rx_s rfl rfl rfl rfl rfl ?_
      refine rx_fa rfl rfl rfl rfl rfl rfl Fa.fo_135_0 ?_
      refine rx_ldH1 rfl rfl rfl rfl rfl rfl (by (repeat first|exact .here|apply Take1.there)) Fa.ag_33 (by rfl) ?_
      refine rx_callH (F := ?FT2) rfl rfl rfl rfl rfl rfl rfl rfl Fa.ca_95 rfl (Dk.epoch d D hD) ?T2 ?_
      case T2 => (repeat (first|exact Take.nil|refine Take.cons (by (repeat first|exact .here|apply Take1.there)) ?_))
      rintro _ _ ⟨rfl, rfl⟩
      try simp only [List.cons_append, List.nil_append]
      refine rx_s rfl rfl rfl rfl rfl ?_
      refine rx_fa rfl rfl rfl rfl rfl rfl Fa.fo_135_8 ?_
      refine rx_stp rfl rfl rfl rfl rfl rfl (by (repeat first|exact .here|apply Take1.there)) Fa.sz_3 (vs := [_]) rfl rfl rfl (by rfl) (cl' := [_, _, _, _, _, _, _, _, _, _, _, _, _, _, _, _, _]) (by rfl) ?_
      refine rx_end0 ?_
      refine SW.reg (l := [.op 0 .e, .op 1 .e, .op 2 .e, .op 3 .e, .op 4 .e, .op 5 .e]) rfl ?_
      iterate 4 refine rx_s rfl rfl rfl rfl rfl ?_
      refine rx_fa rfl rfl rfl rfl rfl rfl Fa.fo_135_6 ?_
      refine rx_stp rfl rfl rfl rfl rfl rfl (by (repeat first|exact .here|apply Take1.there)) Fa.sz_1 (vs := [_]) rfl rfl rfl (by rfl) (cl' := [_, _, _, _, _, _, _, _, _, _, _, _, _, _, _, _, _]) (by rfl) ?_
      refine rx_endL ?_
      try simp only [thenK, blockK, cond_true, cond_false, beq_self_eq_true, Nat.reduceBEq]
      exact retK0e (l := [_, _, _]) .nil ⟨rfl, rfl⟩ (foldC (C := { C with epoch := D.epoch, next := 96 }) (.one (by (repeat first|exact .here|apply Take1.there)) (.one (by (repeat first|exact .here|apply Take1.there)) (.one (by (repeat first|exact .here|apply Take1.there)) (.one (by (repeat first|exact .here|apply Take1.there)) (.one (by (repeat first|exact .here|apply Take1.there)) .nil))))))
    · simp_all
  · skip
    refine SW.reg (l := [.op 0 .e, .op 1 .e]) rfl ?_
    iterate 2 refine rx_s rfl rfl rfl rfl rfl ?_
    refine rx_end0 ?_
    refine SW.cond rfl (fun h18 => ?_) (fun h18 => ?_)
    · skip
      refine SW.seq ?_
      refine SW.exH 0 rfl ?_; rintro ⟨cv, av⟩; simp only [List.cons_append, List.nil_append]
      refine SW.reg (l := [.op 0 .e, .op 1 .e, .op 2 .e, .op 3 .e, .op 4 .e, .op 5 .e, .op 6 .e, .op 7 .e, .op 8 .e]) rfl ?_
      iterate 3 refine rx_s rfl rfl rfl rfl rfl ?_
      refine rx_fa rfl rfl rfl rfl rfl rfl Fa.fo_135_0 ?_
      refine rx_ldH1 rfl rfl rfl rfl rfl rfl (by (repeat first|exact .here|apply Take1.there)) Fa.ag_33 (by rfl) ?_
      refine rx_callH (F := ?FT3) rfl rfl rfl rfl rfl rfl rfl rfl Fa.ca_95 rfl (Dk.epoch d D hD) ?T3 ?_
      case T3 => (repeat (first|exact Take.nil|refine Take.cons (by (repeat first|exact .here|apply Take1.there)) ?_))
      rintro _ _ ⟨rfl, rfl⟩
      try simp only [List.cons_append, List.nil_append]
      refine rx_s rfl rfl rfl rfl rfl ?_
      refine rx_fa rfl rfl rfl rfl rfl rfl Fa.fo_135_8 ?_
      refine rx_stp rfl rfl rfl rfl rfl rfl (by (repeat first|exact .here|apply Take1.there)) Fa.sz_3 (vs := [_]) rfl rfl rfl (by rfl) (cl' := [_, _, _, _, _, _, _, _, _, _, _, _, _, _, _, _, _]) (by rfl) ?_
      refine rx_end0 ?_
      refine SW.reg (l := [.op 0 .e, .op 1 .e, .op 2 .e, .op 3 .e, .op 4 .e, .op 5 .e]) rfl ?_
      iterate 4 refine rx_s rfl rfl rfl rfl rfl ?_
      refine rx_fa rfl rfl rfl rfl rfl rfl Fa.fo_135_6 ?_
      refine rx_stp rfl rfl rfl rfl rfl rfl (by (repeat first|exact .here|apply Take1.there)) Fa.sz_1 (vs := [_]) rfl rfl rfl (by rfl) (cl' := [_, _, _, _, _, _, _, _, _, _, _, _, _, _, _, _, _]) (by rfl) ?_
      refine rx_endL ?_
      try simp only [thenK, blockK, cond_true, cond_false, beq_self_eq_true, Nat.reduceBEq]
      exact retK0e (l := [_, _, _]) .nil ⟨rfl, rfl⟩ (foldC (C := { C with epoch := D.epoch, next := 96 }) (.one (by (repeat first|exact .here|apply Take1.there)) (.one (by (repeat first|exact .here|apply Take1.there)) (.one (by (repeat first|exact .here|apply Take1.there)) (.one (by (repeat first|exact .here|apply Take1.there)) (.one (by (repeat first|exact .here|apply Take1.there)) .nil))))))
    · (exfalso; simp_all)
theorem pin (C : Cli) (D : Desk) (hD : D.ok) (he : -1000000 ≤ C.epoch ∧ C.epoch ≤ 1000000) (y : Int) (hy : D.pins[C.i]? = some y) :
    Sl.Spec Tryz.prog 96 #[.pointer (some ⟨c, 0, none⟩)] [CliP c d s nf cap C, DeskP d D]
    (fun u l => u = .tuple #[] ∧ l = [CliP c d s nf cap { C with next := 121 }, DeskP d { D.tick with pins := D.pins.set C.i (C.epoch + 1) }]) := by
  refine Spec.enter Tryz.func96 rfl rfl rfl ?_
  refine SW.exH 0 rfl ?_; rintro ⟨cv, av⟩; simp only [List.cons_append, List.nil_append]
  refine SW.seq ?_
  refine SW.drawT (Hs := [DeskP d D]) (D0l := []) (Dl := ?DT4) (F := ?FT4) Fa.mix (tp := [0, 1, 3, 7, 0, 16, 48, 112, 0, 256, 768, 1792, 3840, 8191]) (l := [.op 0 .s, .op 1 .s, .op 2 .s, .op 3 .d, .op 4 .s, .op 5 .s, .op 6 .s, .op 7 .d, .op 8 .s, .op 9 .s, .op 10 .s, .op 11 .d, .op 12 .s, .op 13 .e]) (by kernel_rfl) ?T4a ?T4b ?_
  case T4a => (repeat (first|exact Take.nil|refine Take.cons (by (repeat first|exact .here|apply Take1.there)) ?_))
  case T4b => (repeat (first|exact Take.nil|refine Take.cons (by (repeat first|exact .here|apply Take1.there)) ?_))
  iterate 2 refine rx_s rfl rfl rfl rfl rfl ?_
  refine rx_fa rfl rfl rfl rfl rfl rfl Fa.fo_135_0 ?_
  refine rx_ldD1 rfl rfl rfl rfl rfl rfl rfl (by (repeat first|exact .here|apply Take1.there)) Fa.ag_33 (by rfl) ?_
  iterate 2 refine rx_s rfl rfl rfl rfl rfl ?_
  refine rx_fa rfl rfl rfl rfl rfl rfl Fa.fo_135_2 ?_
  refine rx_ldD1 rfl rfl rfl rfl rfl rfl rfl (by (repeat first|exact .here|apply Take1.there)) Fa.ag_3 (by rfl) ?_
  iterate 2 refine rx_s rfl rfl rfl rfl rfl ?_
  refine rx_fa rfl rfl rfl rfl rfl rfl Fa.fo_135_8 ?_
  refine rx_ldD1 rfl rfl rfl rfl rfl rfl rfl (by (repeat first|exact .here|apply Take1.there)) Fa.ag_3 (by rfl) ?_
  refine rx_ar rfl rfl rfl rfl rfl (by omega) ?_
  refine rx_callH (F := ?FT5) rfl rfl rfl rfl rfl rfl rfl rfl Fa.ca_53 rfl (Dk.setPin d D hD C.i y (C.epoch + 1) (Int.natCast_nonneg _) hy) ?T5 ?_
  case T5 => (repeat (first|exact Take.nil|refine Take.cons (by (repeat first|exact .here|apply Take1.there)) ?_))
  rintro _ _ ⟨rfl, rfl⟩
  try simp only [List.cons_append, List.nil_append]
  refine rx_endD ?_
  try simp only [List.cons_append, List.nil_append]
  refine SW.reg (l := [.op 0 .e, .op 1 .e, .op 2 .e, .op 3 .e, .op 4 .e, .op 5 .e]) rfl ?_
  iterate 4 refine rx_s rfl rfl rfl rfl rfl ?_
  refine rx_fa rfl rfl rfl rfl rfl rfl Fa.fo_135_6 ?_
  refine rx_stp rfl rfl rfl rfl rfl rfl (by (repeat first|exact .here|apply Take1.there)) Fa.sz_1 (vs := [_]) rfl rfl rfl (by rfl) (cl' := [_, _, _, _, _, _, _, _, _, _, _, _, _, _, _, _, _]) (by rfl) ?_
  refine rx_endL ?_
  exact retK0e (l := [_, _]) .nil ⟨rfl, rfl⟩ (foldC (C := { C with next := 121 }) (.one (by (repeat first|exact .here|apply Take1.there)) (.one (by (repeat first|exact .here|apply Take1.there)) (.one (by (repeat first|exact .here|apply Take1.there)) (.one (by (repeat first|exact .here|apply Take1.there)) .nil)))))
/-- 'load' -/
theorem load (hN : Note Tryz.prog nf cap Lg) (C : Cli) (D : Desk) (hD : D.ok) (L : List Ev) (hL : L.length ≤ 900000) (x : Holt.Call) (hx : C.calls[C.at_]? = some x) (r : Option (List ByteArray)) (w0 : World)
    (hsp : Sl.Spec Tryz.prog 38 #[.string x.text] [OLD w0 []] (fun u l => ∃ nv, u = .tuple #[nv, .int .i64 (if r.isSome = true then 0 else 4)] ∧ l = [SlRo 9 1 nv (flat (r.getD [])), OLD w0 []])) :
    Sl.Spec Tryz.prog 121 #[.pointer (some ⟨c, 0, none⟩)] [CliP c d s nf cap C, DeskP d D, Lg L, OLD w0 []]
    (fun u l => ∃ f, u = .tuple #[] ∧ l = [CliP c d s nf cap { C with version := D.root, reads := true, find := some ⟨f, 0, none⟩, next := 147 }, DeskP d D.tick, Lg (L ++ [⟨8, C.i, C.at_, D.root.n⟩]),
      FiP f (Holt.Fi.start cmpK 102 103 D.root (x.kind == 4) r), OLD w0 []]) := by
  have hn := Fi.new (x.kind == 4) x.text D.root r w0 hsp
  refine Spec.enter Tryz.func121 rfl rfl rfl ?_
  refine SW.exH 0 rfl ?_; rintro ⟨cv, av⟩; simp only [List.cons_append, List.nil_append]
  refine SW.slopen 1 rfl (fun _ hx' => absurd hx' (flat_ne hx (by decide))) ?_
  intro bp len cap' rest hv e1 e2 e3 e4
  subst hv
  have hlt := (List.getElem?_eq_some_iff.1 hx).1
  rw [flat_len, show Enc.n Holt.Call = 5 from rfl] at e1 e2
  refine SW.seq ?_
  refine SW.drawT (Hs := []) (D0l := []) (Dl := ?DT6) (F := ?FT6) Fa.mix (tp := [0, 1, 3, 7, 0, 16, 48, 112, 255, 511, 0, 2047]) (l := [.op 0 .s, .op 1 .s, .op 2 .s, .op 3 .d, .op 4 .s, .op 5 .s, .op 6 .s, .op 7 .d, .op 8 .s, .op 9 .d, .op 10 .f, .bar, .op 11 .e]) (by kernel_rfl) ?T6a ?T6b ?_
  case T6a => (repeat (first|exact Take.nil|refine Take.cons (by (repeat first|exact .here|apply Take1.there)) ?_))
  case T6b => (repeat (first|exact Take.nil|refine Take.cons (by (repeat first|exact .here|apply Take1.there)) ?_))
  iterate 2 refine rx_s rfl rfl rfl rfl rfl ?_
  refine rx_fa rfl rfl rfl rfl rfl rfl Fa.fo_135_3 ?_
  refine rx_ldD1 rfl rfl rfl rfl rfl rfl rfl (by (repeat first|exact .here|apply Take1.there)) Fa.ag_31 (by rfl) ?_
  iterate 2 refine rx_s rfl rfl rfl rfl rfl ?_
  refine rx_fa rfl rfl rfl rfl rfl rfl Fa.fo_135_4 ?_
  refine rx_ldD1 rfl rfl rfl rfl rfl rfl rfl (by (repeat first|exact .here|apply Take1.there)) Fa.ag_3 (by rfl) ?_
  refine rx_ix rfl rfl rfl rfl rfl Fa.sl_31 rfl rfl (by omega) ?_
  refine rx_ldDA rfl rfl rfl rfl rfl rfl rfl (by (repeat first|exact .here|apply Take1.there)) Fa.ag_24 Fa.sz_24 (vs := [_, _, _, _, _]) (by exact flat_drop hx (j := 0) (s := 5) (off := 0 + (C.at_ : Int).toNat * 5) (by decide) (by simp; rfl) rest) rfl ?_
  refine rx_alloc (.inl rfl) rfl rfl rfl rfl rfl Fa.z_24 ?_
  intro b2
  refine rx_barAll ?_
  try simp only [List.cons_append, List.nil_append]
  refine rx_stp rfl rfl rfl rfl rfl rfl (by (repeat first|exact .here|apply Take1.there)) Fa.sz_24 (vs := [_, _, _, _, _]) rfl rfl rfl (by rfl) (cl' := [_, _, _, _, _]) (by rfl) ?_
  refine rx_endD ?_
  try simp only [List.cons_append, List.nil_append]
  refine SW.seq ?_
  refine SW.reg (l := [.op 0 .e, .op 1 .e, .op 2 .e, .op 3 .e, .op 4 .e, .op 5 .e, .op 6 .e, .op 7 .e, .op 8 .e, .op 9 .e, .op 10 .e, .op 11 .e, .op 12 .e]) rfl ?_
  iterate 4 refine rx_s rfl rfl rfl rfl rfl ?_
  refine rx_fa rfl rfl rfl rfl rfl rfl Fa.fo_135_0 ?_
  refine rx_ldH1 rfl rfl rfl rfl rfl rfl (by (repeat first|exact .here|apply Take1.there)) Fa.ag_33 (by rfl) ?_
  refine rx_callH (F := ?FT7) rfl rfl rfl rfl rfl rfl rfl rfl Fa.ca_49 rfl (Dk.root d D hD) ?T7 ?_
  case T7 => (repeat (first|exact Take.nil|refine Take.cons (by (repeat first|exact .here|apply Take1.there)) ?_))
  rintro _ _ ⟨rfl, rfl⟩
  try simp only [List.cons_append, List.nil_append]
  refine rx_s rfl rfl rfl rfl rfl ?_
  refine rx_fa rfl rfl rfl rfl rfl rfl Fa.fo_135_9 ?_
  refine rx_stp rfl rfl rfl rfl rfl rfl (by (repeat first|exact .here|apply Take1.there)) Fa.sz_58 (vs := [_, _, _, _, _]) rfl rfl rfl (by rfl) (cl' := [_, _, _, _, _, _, _, _, _, _, _, _, _, _, _, _, _]) (by rfl) ?_
  refine rx_s rfl rfl rfl rfl rfl ?_
  refine rx_fa rfl rfl rfl rfl rfl rfl Fa.fo_135_10 ?_
  refine rx_stp rfl rfl rfl rfl rfl rfl (by (repeat first|exact .here|apply Take1.there)) Fa.sz_4 (vs := [_]) rfl rfl rfl (by rfl) (cl' := [_, _, _, _, _, _, _, _, _, _, _, _, _, _, _, _, _]) (by rfl) ?_
  refine rx_end0 ?_
  refine SW.seq ?_
  refine SW.reg (l := [.op 0 .e, .op 1 .e, .op 2 .e, .op 3 .e, .op 4 .e, .op 5 .e, .op 6 .e]) rfl ?_
  iterate 3 refine rx_s rfl rfl rfl rfl rfl ?_
  refine rx_fa rfl rfl rfl rfl rfl rfl Fa.fo_135_9 ?_
  refine rx_fa rfl rfl rfl rfl rfl rfl Fa.fo_58_0 ?_
  refine rx_ldH1 rfl rfl rfl rfl rfl rfl (by (repeat first|exact .here|apply Take1.there)) Fa.ag_3 (by rfl) ?_
  refine rx_callH (F := ?FT8) rfl rfl rfl rfl rfl rfl rfl rfl Fa.ca_94 rfl (tellB c d s hN { C with version := D.root, reads := true } (.slice (some ⟨bp, 0, none⟩) len cap') av L (by omega) 8 D.root.n) ?T8 ?_
  case T8 => (repeat (first|exact Take.nil|refine Take.cons (by (repeat first|exact .here|apply Take1.there)) ?_))
  rintro _ _ ⟨rfl, rfl⟩
  try simp only [List.cons_append, List.nil_append]
  refine rx_end0 ?_
  refine SW.seq ?_
  refine SW.drawT (Hs := [OLD w0 []]) (D0l := []) (Dl := ?DT9) (F := ?FT9) Fa.mix (tp := [0, 0, 2, 6, 0, 16, 0, 64, 192, 448, 1022, 2047, 4095, 8191]) (l := [.op 0 .s, .op 1 .s, .op 2 .d, .op 3 .s, .op 4 .s, .op 5 .d, .op 6 .s, .op 7 .s, .op 8 .s, .op 9 .d, .op 10 .e, .op 11 .s, .op 12 .s, .bar, .op 13 .e]) (by kernel_rfl) ?T9a ?T9b ?_
  case T9a => (repeat (first|exact Take.nil|refine Take.cons (by (repeat first|exact .here|apply Take1.there)) ?_))
  case T9b => (repeat (first|exact Take.nil|refine Take.cons (by (repeat first|exact .here|apply Take1.there)) ?_))
  refine rx_s rfl rfl rfl rfl rfl ?_
  refine rx_fa rfl rfl rfl rfl rfl rfl Fa.fo_24_0 ?_
  refine rx_ldD1 rfl rfl rfl rfl rfl rfl rfl (by (repeat first|exact .here|apply Take1.there)) Fa.ag_3 (by rfl) ?_
  refine rx_s rfl rfl rfl rfl rfl ?_
  refine rx_fa rfl rfl rfl rfl rfl rfl Fa.fo_24_3 ?_
  refine rx_ldD1 rfl rfl rfl rfl rfl rfl rfl (by (repeat first|exact .here|apply Take1.there)) Fa.ag_9 (by rfl) ?_
  iterate 2 refine rx_s rfl rfl rfl rfl rfl ?_
  refine rx_fa rfl rfl rfl rfl rfl rfl Fa.fo_135_9 ?_
  refine rx_ldDA rfl rfl rfl rfl rfl rfl rfl (by (repeat first|exact .here|apply Take1.there)) Fa.ag_58 Fa.sz_58 (vs := [_, _, _, _, _]) (by rfl) rfl ?_
  refine rx_callH (F := ?FT10) rfl rfl rfl rfl rfl rfl rfl rfl Fa.ca_33 rfl (hn) ?T10 ?_
  case T10 => (repeat (first|exact Take.nil|refine Take.cons (by (repeat first|exact .here|apply Take1.there)) ?_))
  rintro _ _ ⟨f, rfl, rfl⟩
  try simp only [List.cons_append, List.nil_append]
  refine rx_s rfl rfl rfl rfl rfl ?_
  refine rx_fa rfl rfl rfl rfl rfl rfl Fa.fo_135_11 ?_
  refine rx_barAll ?_
  try simp only [List.cons_append, List.nil_append]
  refine rx_stp rfl rfl rfl rfl rfl rfl (by (repeat first|exact .here|apply Take1.there)) Fa.sz_61 (vs := [_]) rfl rfl rfl (by rfl) (cl' := [_, _, _, _, _, _, _, _, _, _, _, _, _, _, _, _, _]) (by rfl) ?_
  refine rx_endD ?_
  try simp only [List.cons_append, List.nil_append]
  refine SW.reg (l := [.op 0 .e, .op 1 .e, .op 2 .e, .op 3 .e, .op 4 .e, .op 5 .e]) rfl ?_
  iterate 4 refine rx_s rfl rfl rfl rfl rfl ?_
  refine rx_fa rfl rfl rfl rfl rfl rfl Fa.fo_135_6 ?_
  refine rx_stp rfl rfl rfl rfl rfl rfl (by (repeat first|exact .here|apply Take1.there)) Fa.sz_1 (vs := [_]) rfl rfl rfl (by rfl) (cl' := [_, _, _, _, _, _, _, _, _, _, _, _, _, _, _, _, _]) (by rfl) ?_
  refine rx_endL ?_
  exact retK0e (l := [_, _, _, _, _]) .nil ⟨f, rfl, rfl⟩ (foldC (C := { C with version := D.root, reads := true, find := some ⟨f, 0, none⟩, next := 147 }) (cv := .slice (some ⟨bp, 0, none⟩) len cap') (.one (by (repeat first|exact .here|apply Take1.there)) (slown_mk (xs := flat C.calls) (rest := rest) (by (repeat first|exact .here|apply Take1.there)) rfl e4 (by rw [flat_len]; exact e1) (by rw [flat_len]; exact e2) e3 (.one (by (repeat first|exact .here|apply Take1.there)) (.one (by (repeat first|exact .here|apply Take1.there)) (.one (by (repeat first|exact .here|apply Take1.there)) (.one (by (repeat first|exact .here|apply Take1.there)) (.one (by (repeat first|exact .here|apply Take1.there)) .nil))))))))
/-- 'node', where one is wanted. -/
theorem nodeG (C : Cli) (f k p a g : Nat) (F R : Holt.Fi) (A : Ar KNode) (hA : A.ok) (hg : F.next = some g)
    (hgive : ∀ (x : KNode) (q : Bool), ArK.getV (A.get F.want) = .tuple #[.agg (enc x).toArray, .bool q] → Sl.Spec Tryz.prog 41 #[.pointer (some ⟨f, 0, none⟩), .agg (enc x).toArray, .bool q] [FiP f F] (fun v l => v = .tuple #[] ∧ l = [FiP f R])) :
    Sl.Spec Tryz.prog 147 #[.pointer (some ⟨c, 0, none⟩)] [CliP c d s nf cap { C with find := some ⟨f, 0, none⟩ }, FiP f F, Vw.SB s k p, ItK.MB k a, ArK.ArP a A]
    (fun u l => u = .tuple #[] ∧ l = [CliP c d s nf cap { C with find := some ⟨f, 0, none⟩ }, FiP f R, Vw.SB s k p, ItK.MB k a, ArK.ArP a A]) := by
  have hc : ∃ (k : Kid) (x : Bool) (l r : Handle) (hi : Int) (q : Bool), ArK.getV (A.get F.want) = .tuple #[.agg (enc (⟨k, x, l, r, hi⟩ : KNode)).toArray, .bool q] := by
    obtain ⟨k, x, l, r, hi, q, h, _⟩ := ItK.getV_cases (A.get F.want)
    exact ⟨k, x, l, r, hi, q, h⟩
  obtain ⟨ky, xv, lh, rh, hi, q, hc⟩ := hc
  have hl := ItK.load k a A F.want hA
  rw [hc] at hl
  have hgv := hgive _ _ hc
  have hs : F.next.isSome = true := by rw [hg]; rfl
  refine Spec.enter Tryz.func147 rfl rfl rfl ?_
  refine SW.exH 0 rfl ?_; rintro ⟨cv, av⟩; simp only [List.cons_append, List.nil_append]
  refine SW.seq ?_
  refine SW.reg (l := [.op 0 .e, .op 1 .e, .op 2 .e, .op 3 .e, .op 4 .e, .op 5 .e, .op 6 .e, .op 7 .e, .op 8 .e, .op 9 .e, .op 10 .e]) rfl ?_
  iterate 2 refine rx_s rfl rfl rfl rfl rfl ?_
  refine rx_fa rfl rfl rfl rfl rfl rfl Fa.fo_135_11 ?_
  refine rx_ldH1 rfl rfl rfl rfl rfl rfl (by (repeat first|exact .here|apply Take1.there)) Fa.ag_61 (by rfl) ?_
  refine rx_callH (F := ?FT11) rfl rfl rfl rfl rfl rfl rfl rfl Fa.ca_35 rfl (Fi.want f F) ?T11 ?_
  case T11 => (repeat (first|exact Take.nil|refine Take.cons (by (repeat first|exact .here|apply Take1.there)) ?_))
  rintro _ _ ⟨rfl, rfl⟩
  rw [hs]
  try simp only [List.cons_append, List.nil_append]
  iterate 3 refine rx_s rfl rfl rfl rfl rfl ?_
  refine rx_alloc (.inr rfl) rfl rfl rfl rfl rfl Fa.z_56 ?_
  intro b2
  refine rx_stp rfl rfl rfl rfl rfl rfl (by (repeat first|exact .here|apply Take1.there)) Fa.sz_56 (vs := [_, _]) rfl rfl rfl (by rfl) (cl' := [_, _]) (by rfl) ?_
  refine rx_s rfl rfl rfl rfl rfl ?_
  refine rx_end0 ?_
  refine SW.seq ?_
  refine SW.seq ?_
  refine SW.reg (l := [.op 0 .e]) rfl ?_
  refine rx_s rfl rfl rfl rfl rfl ?_
  refine rx_end0 ?_
  refine SW.cond (b := true) rfl (fun _ => ?_) (fun h => nomatch h)
  refine SW.seq ?_
  refine SW.drawT (Hs := [ItK.MB k a, ArK.ArP a A]) (D0l := []) (Dl := ?DT12) (F := ?FT12) Fa.mix (tp := [0, 1, 3, 7, 15, 31, 63, 0, 255, 511, 1023, 1023, 0, 6143, 16383]) (l := [.op 0 .s, .op 1 .s, .op 2 .s, .op 3 .d, .op 4 .s, .op 5 .s, .op 6 .d, .op 7 .d, .op 8 .e, .op 9 .s, .op 10 .s, .op 11 .s, .op 12 .f, .bar, .op 13 .e, .op 14 .s]) (by kernel_rfl) ?T12a ?T12b ?_
  case T12a => (repeat (first|exact Take.nil|refine Take.cons (by (repeat first|exact .here|apply Take1.there)) ?_))
  case T12b => (repeat (first|exact Take.nil|refine Take.cons (by (repeat first|exact .here|apply Take1.there)) ?_))
  iterate 2 refine rx_s rfl rfl rfl rfl rfl ?_
  refine rx_fa rfl rfl rfl rfl rfl rfl Fa.fo_135_1 ?_
  refine rx_ldD1 rfl rfl rfl rfl rfl rfl rfl (by (repeat first|exact .here|apply Take1.there)) Fa.ag_35 (by rfl) ?_
  refine rx_s rfl rfl rfl rfl rfl ?_
  refine rx_fa rfl rfl rfl rfl rfl rfl Fa.fo_80_0 ?_
  refine rx_ldD1 rfl rfl rfl rfl rfl rfl rfl (by (repeat first|exact .here|apply Take1.there)) Fa.ag_77 (by rfl) ?_
  refine rx_ldDA rfl rfl rfl rfl rfl rfl rfl (by (repeat first|exact .here|apply Take1.there)) Fa.ag_56 Fa.sz_56 (vs := [_, _]) (by rfl) rfl ?_
  refine rx_callH (F := ?FT13) rfl rfl rfl rfl rfl rfl rfl rfl Fa.ca_40 rfl (hl) ?T13 ?_
  case T13 => (repeat (first|exact Take.nil|refine Take.cons (by (repeat first|exact .here|apply Take1.there)) ?_))
  rintro _ _ ⟨rfl, rfl⟩
  try simp only [List.cons_append, List.nil_append]
  iterate 3 refine rx_s rfl rfl rfl rfl rfl ?_
  refine rx_alloc (.inl rfl) rfl rfl rfl rfl rfl Fa.z_75 ?_
  intro b4
  refine rx_barAll ?_
  try simp only [List.cons_append, List.nil_append]
  refine rx_stp rfl rfl rfl rfl rfl rfl (by (repeat first|exact .here|apply Take1.there)) Fa.sz_75 (vs := [_, _, _, _, _, _, _, _, _]) rfl rfl rfl (by rfl) (cl' := [_, _, _, _, _, _, _, _, _]) (by rfl) ?_
  refine rx_s rfl rfl rfl rfl rfl ?_
  refine rx_endD ?_
  try simp only [List.cons_append, List.nil_append]
  refine SW.seq ?_
  refine SW.drawT (Hs := [FiP f F]) (D0l := []) (Dl := ?DT14) (F := ?FT14) Fa.mix (tp := [0, 1, 3, 7, 0, 0, 63]) (l := [.op 0 .s, .op 1 .s, .op 2 .s, .op 3 .d, .op 4 .d, .op 5 .s, .op 6 .e]) (by kernel_rfl) ?T14a ?T14b ?_
  case T14a => (repeat (first|exact Take.nil|refine Take.cons (by (repeat first|exact .here|apply Take1.there)) ?_))
  case T14b => (repeat (first|exact Take.nil|refine Take.cons (by (repeat first|exact .here|apply Take1.there)) ?_))
  iterate 2 refine rx_s rfl rfl rfl rfl rfl ?_
  refine rx_fa rfl rfl rfl rfl rfl rfl Fa.fo_135_11 ?_
  refine rx_ldD1 rfl rfl rfl rfl rfl rfl rfl (by (repeat first|exact .here|apply Take1.there)) Fa.ag_61 (by rfl) ?_
  refine rx_ldDA rfl rfl rfl rfl rfl rfl rfl (by (repeat first|exact .here|apply Take1.there)) Fa.ag_75 Fa.sz_75 (vs := [_, _, _, _, _, _, _, _, _]) (by rfl) rfl ?_
  refine rx_s rfl rfl rfl rfl rfl ?_
  refine rx_callH (F := ?FT15) rfl rfl rfl rfl rfl rfl rfl rfl Fa.ca_41 rfl (hgv) ?T15 ?_
  case T15 => (repeat (first|exact Take.nil|refine Take.cons (by (repeat first|exact .here|apply Take1.there)) ?_))
  rintro _ _ ⟨rfl, rfl⟩
  try simp only [List.cons_append, List.nil_append]
  refine rx_endD ?_
  try simp only [List.cons_append, List.nil_append]
  refine SW.ret ?_
  exact retK0 (l := [_, _, _, _, _]) .nil ⟨rfl, rfl⟩ (foldC (C := { C with find := some ⟨f, 0, none⟩ }) (.one (by (repeat first|exact .here|apply Take1.there)) (.one (by (repeat first|exact .here|apply Take1.there)) (.one (by (repeat first|exact .here|apply Take1.there)) (.one (by (repeat first|exact .here|apply Take1.there)) (.one (by (repeat first|exact .here|apply Take1.there)) (.one (by (repeat first|exact .here|apply Take1.there)) (.one (by (repeat first|exact .here|apply Take1.there)) .nil))))))))
/-- 'node', where the end has come. -/
theorem nodeE (hN : Note Tryz.prog nf cap Lg) (C : Cli) (hC : C.ok) (D : Desk) (hD : D.ok) (L : List Ev) (hL : L.length ≤ 900000) (f : Nat) (F : Holt.Fi) (hg : F.next = none) (hk : F.kids.length ≤ 100000) (y : Int) (hy : D.pins[C.i]? = some y) :
    Sl.Spec Tryz.prog 147 #[.pointer (some ⟨c, 0, none⟩)] [CliP c d s nf cap { C with find := some ⟨f, 0, none⟩ }, DeskP d D, Lg L, FiP f F]
    (fun u l => ∃ q m c', u = .tuple #[] ∧ m = F.kids.length ∧ l = [CliP c d s nf cap ({ C with find := some ⟨f, 0, none⟩, version := ⟨0, ⟨0, 0⟩, ⟨0, 0⟩⟩, reads := false }.ended 66 ⟨F.e, F.version, F.node, ⟨q, m, c'⟩, Sli.none⟩),
      DeskP d { D.tick with pins := D.pins.set C.i 0 }, Lg (L ++ [⟨9, C.i, C.at_, F.version⟩]), FiP f F, SlOwn 73 3 (.slice q m c') (flat F.kids)]) := by
  have hs : F.next.isSome = false := by rw [hg]; rfl
  refine Spec.enter Tryz.func147 rfl rfl rfl ?_
  refine SW.exH 0 rfl ?_; rintro ⟨cv, av⟩; simp only [List.cons_append, List.nil_append]
  refine SW.seq ?_
  refine SW.reg (l := [.op 0 .e, .op 1 .e, .op 2 .e, .op 3 .e, .op 4 .e, .op 5 .e, .op 6 .e, .op 7 .e, .op 8 .e, .op 9 .e, .op 10 .e]) rfl ?_
  iterate 2 refine rx_s rfl rfl rfl rfl rfl ?_
  refine rx_fa rfl rfl rfl rfl rfl rfl Fa.fo_135_11 ?_
  refine rx_ldH1 rfl rfl rfl rfl rfl rfl (by (repeat first|exact .here|apply Take1.there)) Fa.ag_61 (by rfl) ?_
  refine rx_callH (F := ?FT16) rfl rfl rfl rfl rfl rfl rfl rfl Fa.ca_35 rfl (Fi.want f F) ?T16 ?_
  case T16 => (repeat (first|exact Take.nil|refine Take.cons (by (repeat first|exact .here|apply Take1.there)) ?_))
  rintro _ _ ⟨rfl, rfl⟩
  rw [hs]
  try simp only [List.cons_append, List.nil_append]
  iterate 3 refine rx_s rfl rfl rfl rfl rfl ?_
  refine rx_alloc (.inr rfl) rfl rfl rfl rfl rfl Fa.z_56 ?_
  intro b2
  refine rx_stp rfl rfl rfl rfl rfl rfl (by (repeat first|exact .here|apply Take1.there)) Fa.sz_56 (vs := [_, _]) rfl rfl rfl (by rfl) (cl' := [_, _]) (by rfl) ?_
  refine rx_s rfl rfl rfl rfl rfl ?_
  refine rx_end0 ?_
  refine SW.seq ?_
  refine SW.seq ?_
  refine SW.reg (l := [.op 0 .e]) rfl ?_
  refine rx_s rfl rfl rfl rfl rfl ?_
  refine rx_end0 ?_
  refine SW.cond (b := false) rfl (fun h => nomatch h) (fun _ => ?_)
  refine SW.skip ?_
  try simp only [thenK, blockK, cond_true, cond_false, beq_self_eq_true, Nat.reduceBEq]
  refine SW.seq ?_
  refine SW.drawT (Hs := [DeskP d D]) (D0l := []) (Dl := ?DT17) (F := ?FT17) Fa.mix (tp := [0, 1, 3, 7, 0, 16, 48, 112, 255]) (l := [.op 0 .s, .op 1 .s, .op 2 .s, .op 3 .d, .op 4 .s, .op 5 .s, .op 6 .s, .op 7 .d, .op 8 .e]) (by kernel_rfl) ?T17a ?T17b ?_
  case T17a => (repeat (first|exact Take.nil|refine Take.cons (by (repeat first|exact .here|apply Take1.there)) ?_))
  case T17b => (repeat (first|exact Take.nil|refine Take.cons (by (repeat first|exact .here|apply Take1.there)) ?_))
  iterate 2 refine rx_s rfl rfl rfl rfl rfl ?_
  refine rx_fa rfl rfl rfl rfl rfl rfl Fa.fo_135_0 ?_
  refine rx_ldD1 rfl rfl rfl rfl rfl rfl rfl (by (repeat first|exact .here|apply Take1.there)) Fa.ag_33 (by rfl) ?_
  iterate 2 refine rx_s rfl rfl rfl rfl rfl ?_
  refine rx_fa rfl rfl rfl rfl rfl rfl Fa.fo_135_2 ?_
  refine rx_ldD1 rfl rfl rfl rfl rfl rfl rfl (by (repeat first|exact .here|apply Take1.there)) Fa.ag_3 (by rfl) ?_
  refine rx_callH (F := ?FT18) rfl rfl rfl rfl rfl rfl rfl rfl Fa.ca_53 rfl (Dk.setPin d D hD C.i y 0 (Int.natCast_nonneg _) hy) ?T18 ?_
  case T18 => (repeat (first|exact Take.nil|refine Take.cons (by (repeat first|exact .here|apply Take1.there)) ?_))
  rintro _ _ ⟨rfl, rfl⟩
  try simp only [List.cons_append, List.nil_append]
  refine rx_endD ?_
  try simp only [List.cons_append, List.nil_append]
  refine SW.seq ?_
  refine SW.reg (l := [.op 0 .e, .op 1 .e, .op 2 .e, .op 3 .e, .op 4 .e, .op 5 .e, .op 6 .e, .op 7 .e, .op 8 .e]) rfl ?_
  iterate 2 refine rx_s rfl rfl rfl rfl rfl ?_
  refine rx_build rfl rfl rfl rfl rfl Fa.st_58 rfl (cs := [_, _, _, _, _]) rfl ?_
  refine rx_s rfl rfl rfl rfl rfl ?_
  refine rx_fa rfl rfl rfl rfl rfl rfl Fa.fo_135_9 ?_
  refine rx_stp rfl rfl rfl rfl rfl rfl (by (repeat first|exact .here|apply Take1.there)) Fa.sz_58 (vs := [_, _, _, _, _]) rfl rfl rfl (by rfl) (cl' := [_, _, _, _, _, _, _, _, _, _, _, _, _, _, _, _, _]) (by rfl) ?_
  refine rx_s rfl rfl rfl rfl rfl ?_
  refine rx_fa rfl rfl rfl rfl rfl rfl Fa.fo_135_10 ?_
  refine rx_stp rfl rfl rfl rfl rfl rfl (by (repeat first|exact .here|apply Take1.there)) Fa.sz_4 (vs := [_]) rfl rfl rfl (by rfl) (cl' := [_, _, _, _, _, _, _, _, _, _, _, _, _, _, _, _, _]) (by rfl) ?_
  refine rx_end0 ?_
  refine SW.reg (l := [.op 0 .e, .op 1 .e, .op 2 .e, .op 3 .e, .op 4 .e, .op 5 .e, .op 6 .e]) rfl ?_
  iterate 3 refine rx_s rfl rfl rfl rfl rfl ?_
  refine rx_fa rfl rfl rfl rfl rfl rfl Fa.fo_135_11 ?_
  refine rx_ldH1 rfl rfl rfl rfl rfl rfl (by (repeat first|exact .here|apply Take1.there)) Fa.ag_61 (by rfl) ?_
  refine rx_callH (F := ?FT19) rfl rfl rfl rfl rfl rfl rfl rfl Fa.ca_36 rfl (Fi.answer f F hg hk) ?T19 ?_
  case T19 => (repeat (first|exact Take.nil|refine Take.cons (by (repeat first|exact .here|apply Take1.there)) ?_))
  rintro _ _ ⟨q, m, c', rfl, hm, rfl⟩
  try simp only [List.cons_append, List.nil_append]
  refine rx_callH (F := ?FT20) rfl rfl rfl rfl rfl rfl rfl rfl Fa.ca_98 rfl (Sl.Spec.pre (Pre' := [CB c d s nf cap { C with find := some ⟨f, 0, none⟩, version := ⟨0, ⟨0, 0⟩, ⟨0, 0⟩⟩, reads := false } cv av, SlOwn 24 5 cv (flat C.calls), SlOwn 28 5 av (flat C.answers), Lg L]) (EntL.ent (foldC (.one .here (.one .here (.one .here (.one .here .nil)))))) (end_ c d s hN { C with find := some ⟨f, 0, none⟩, version := ⟨0, ⟨0, 0⟩, ⟨0, 0⟩⟩, reads := false } ⟨hC.at_, hC.answers⟩ L (by omega) ⟨F.e, F.version, F.node, ⟨q, m, c'⟩, Sli.none⟩)) ?T20 ?_
  case T20 => (repeat (first|exact Take.nil|refine Take.cons (by (repeat first|exact .here|apply Take1.there)) ?_))
  rintro _ _ ⟨rfl, rfl⟩
  try simp only [List.cons_append, List.nil_append]
  refine rx_endL ?_
  exact retK0e (l := [_, _, _, _, _]) .nil ⟨q, m, c', rfl, hm, rfl⟩ (.one (by (repeat first|exact .here|apply Take1.there)) (.one (by (repeat first|exact .here|apply Take1.there)) (.one (by (repeat first|exact .here|apply Take1.there)) (.one (by (repeat first|exact .here|apply Take1.there)) (.one (by (repeat first|exact .here|apply Take1.there)) .nil)))))
/-- A step, whatever else is held. -/
theorem stepH (C : Cli) (D : Desk) (x : Rep) (hx : D.reps[C.i]? = some x) (hr : (decide (C.at_ < C.calls.length) && (!C.waits || x.lies)) = true) (G : HProp) (Post : Value → List HProp → Prop) (hP : ∀ v l, Post v l → v = .tuple #[])
    (hca : callable Tryz.prog C.next = true) (hn : Sl.Spec Tryz.prog C.next #[.pointer (some ⟨c, 0, none⟩)] [CliP c d s nf cap C, DeskP d D, G] Post) :
    Sl.Spec Tryz.prog 21 #[.pointer (some ⟨c, 0, none⟩)] [CliP c d s nf cap C, DeskP d D, G] Post := by
  refine Spec.enter Tryz.func21 rfl rfl rfl ?_
  refine SW.seq ?_
  refine SW.reg (l := [.op 0 .e, .op 1 .e]) rfl ?_
  refine rx_s rfl rfl rfl rfl rfl ?_
  refine rx_callH (F := ?FT21) rfl rfl rfl rfl rfl rfl rfl rfl Fa.ca_26 rfl (ready c d s (nf := nf) (cap := cap) C D x hx) ?T21 ?_
  case T21 => (repeat (first|exact Take.nil|refine Take.cons (by (repeat first|exact .here|apply Take1.there)) ?_))
  rintro _ _ ⟨rfl, rfl⟩
  rw [hr]
  try simp only [List.cons_append, List.nil_append]
  refine rx_end0 ?_
  refine SW.cond (b := true) rfl (fun _ => ?_) (fun h => nomatch h)
  refine SW.exH 0 rfl ?_; rintro ⟨cv, av⟩; simp only [List.cons_append, List.nil_append]
  refine SW.reg (l := [.op 0 .e, .op 1 .e, .op 2 .e, .op 3 .e, .op 4 .e]) rfl ?_
  iterate 2 refine rx_s rfl rfl rfl rfl rfl ?_
  refine rx_fa rfl rfl rfl rfl rfl rfl Fa.fo_135_6 ?_
  refine rx_ldH1 rfl rfl rfl rfl rfl rfl (by (repeat first|exact .here|apply Take1.there)) Fa.ag_1 (by rfl) ?_
  refine rx_callH (F := ?FT22) rfl rfl rfl rfl rfl rfl rfl rfl hca rfl (Sl.Spec.pre (Pre' := [CB c d s nf cap C cv av, SlOwn 24 5 cv (flat C.calls), SlOwn 28 5 av (flat C.answers), DeskP d D, G]) (EntL.ent (foldC (.one .here (.one .here (.one .here (.one .here (.one .here .nil))))))) hn) ?T22 ?_
  case T22 => (repeat (first|exact Take.nil|refine Take.cons (by (repeat first|exact .here|apply Take1.there)) ?_))
  intro v Hn hp
  obtain rfl := hP _ _ hp
  try simp only [List.cons_append, List.nil_append]
  refine rx_endL ?_
  exact retK0e (l := Hn) .nil hp (by simp only [List.append_nil]; exact EntL.refl _)
theorem stepG (C : Cli) (D : Desk) (x : Rep) (hx : D.reps[C.i]? = some x) (hr : (decide (C.at_ < C.calls.length) && (!C.waits || x.lies)) = true) (G : List HProp) {Post : Value → List HProp → Prop} (hP : ∀ v l, Post v l → v = .tuple #[])
    (hca : callable Tryz.prog C.next = true) (hn : Sl.Spec Tryz.prog C.next #[.pointer (some ⟨c, 0, none⟩)] (CliP c d s nf cap C :: DeskP d D :: G) Post) :
    Sl.Spec Tryz.prog 21 #[.pointer (some ⟨c, 0, none⟩)] (CliP c d s nf cap C :: DeskP d D :: G) Post := by
  have e : star (CliP c d s nf cap C :: DeskP d D :: G) = star [CliP c d s nf cap C, DeskP d D, star G] := by
    show sep _ (sep _ (star G)) = sep _ (sep _ (sep (star G) emp))
    rw [sep_emp]
  exact Sl.Spec.pre (EntS.of_ent (Ent.of_eq e)) (stepH c d s C D x hx hr (star G) Post hP hca (Sl.Spec.pre (EntS.of_ent (Ent.of_eq e.symm)) hn))
end
end Cl
end Go.Proofs.YtikkegelplllmaaGreatDoor
/- A log: a variable to which events are appended. -/
namespace Go.Proofs.YtikkegelplllmaaGreatDoor
open Go Go.Sl Go.Holt Go.Proofs
open Go.Holt.Enc (enc)
namespace LoA
def LogP (b : Nat) (L : List Ev) : HProp := exH fun v : Value => [blk b [v] 37 (0, 0), SlOff 41 4 v (flat L)]
theorem LogP.mk {b : Nat} {L : List Ev} {v : Value} {xs : List Value} (h : xs = flat L) : EntS (star [blk b [v] 37 (0, 0), SlOff 41 4 v xs]) (LogP b L) := by
  subst h
  exact exH.mk (fun v : Value => [blk b [v] 37 (0, 0), SlOff 41 4 v (flat L)]) v
theorem foldL {b : Nat} {L : List Ev} {v : Value} {l l' : List HProp} (h : EntL l (blk b [v] 37 (0, 0) :: SlOff 41 4 v (flat L) :: l')) : EntL l (LogP b L :: l') :=
  EntL.fold (ps := [blk b [v] 37 (0, 0), SlOff 41 4 v (flat L)]) h (LogP.mk rfl)
theorem note (b : Nat) (L : List Ev) (e : Ev) (hL : L.length ≤ 1000000) : Sl.Spec Tryz.prog 58 #[.agg (enc e).toArray, .pointer (some ⟨b, 0, none⟩)] [LogP b L] (fun v l => v = .tuple #[] ∧ l = [LogP b (L ++ [e])]) := by
  refine Spec.enter Tryz.func58 rfl rfl rfl ?_
  refine SW.exH 0 rfl ?_; rintro lv; simp only [List.cons_append, List.nil_append]
  refine SW.seq ?_
  refine SW.reg (l := [.op 0 .e]) rfl ?_
  refine rx_box (.inr rfl) rfl rfl rfl rfl rfl rfl (cl := [_, _, _, _]) rfl ?_
  intro b2
  refine rx_end0 ?_
  refine SW.reg (l := [.op 0 .e, .op 1 .e, .op 2 .e, .op 3 .e, .op 4 .e]) rfl ?_
  refine rx_ldH1 rfl rfl rfl rfl rfl rfl (by (repeat first|exact .here|apply Take1.there)) Fa.ag_37 (by rfl) ?_
  refine rx_ldHA rfl rfl rfl rfl rfl rfl (by (repeat first|exact .here|apply Take1.there)) Fa.ag_41 Fa.sz_41 (vs := [_, _, _, _]) (by rfl) rfl ?_
  refine rx_bslice (.inr rfl) rfl rfl rfl rfl rfl Fa.sl_37 Fa.z_41 rfl rfl rfl rfl rfl (cl := [_, _, _, _]) rfl ?_
  intro b5
  refine rx_appO1 rfl rfl rfl rfl rfl Fa.sl_37 Fa.z_41 rfl rfl rfl rfl rfl (by (repeat first|exact .here|apply Take1.there)) (by (repeat first|exact .here|apply Take1.there)) (ys := [_, _, _, _]) (by rfl) rfl rfl (by rw [flat_len, show Enc.n Ev = 4 from rfl]; simp; omega) ?_
  intro p6 m6 c6 hm6
  refine rx_stp rfl rfl rfl rfl rfl rfl (by (repeat first|exact .here|apply Take1.there)) Fa.sz_37 (vs := [_]) rfl rfl rfl (by rfl) (cl' := _) (by rfl) ?_
  refine rx_endL ?_
  exact retK0e (l := [_]) .nil ⟨rfl, rfl⟩ (.cons (.cons (by (repeat first|exact .here|apply Take1.there)) (.cons (by (repeat first|exact .here|apply Take1.there)) .nil)) (LogP.mk (flat_append' L e).symm) .nil)
theorem isNote (b : Nat) : Note Tryz.prog 58 #[.pointer (some ⟨b, 0, none⟩)] (LogP b) := ⟨Fa.ca_58, fun l e h => note b l e h⟩
end LoA
end Go.Proofs.YtikkegelplllmaaGreatDoor
/- What the references tell of kinds, events and calls. -/
namespace Go.Proofs.YtikkegelplllmaaGreatDoor
open Go Go.Sl Go.Holt Go.Proofs
open Go.Holt.Enc (enc)
namespace Rf
theorem reads (k : Int) : Sl.Spec Tryz.prog 15 #[.int .i64 k] [] (fun v l => v = .bool (decide (k = 3 ∨ k = 4)) ∧ l = []) := by
  refine Spec.enter Tryz.func15 rfl rfl rfl ?_
  refine SW.seq ?_
  refine SW.reg (l := [.op 0 .e]) rfl ?_
  refine rx_s rfl rfl rfl rfl rfl ?_
  refine rx_end0 ?_
  refine SW.seq ?_
  refine SW.reg (l := [.op 0 .e, .op 1 .e, .op 2 .e, .op 3 .e, .op 4 .e, .op 5 .e, .op 6 .e]) rfl ?_
  iterate 3 refine rx_s rfl rfl rfl rfl rfl ?_
  refine rx_split (t := 5) rfl (fun g5 => ?_) (fun g5 => ?_)
  · skip
    refine rx_skip rfl rfl rfl rfl ?_
    refine rx_skip rfl rfl rfl rfl ?_
    iterate 2 refine rx_s rfl rfl rfl rfl rfl ?_
    refine rx_end0 ?_
    refine SW.ret ?_
    exact retK1 (l := []) (.tmp rfl .nil) ⟨by simp_all <;> first | rfl | (intros; omega), rfl⟩ .nil
  · skip
    iterate 4 refine rx_s rfl rfl rfl rfl rfl ?_
    refine rx_end0 ?_
    refine SW.ret ?_
    exact retK1 (l := []) (.tmp rfl .nil) ⟨by simp_all <;> first | rfl | (intros; omega), rfl⟩ .nil
theorem writes (k : Int) : Sl.Spec Tryz.prog 24 #[.int .i64 k] [] (fun v l => v = .bool (decide (0 ≤ k ∧ k ≤ 7 ∧ k ≠ 3 ∧ k ≠ 4)) ∧ l = []) := by
  refine Spec.enter Tryz.func24 rfl rfl rfl ?_
  refine SW.seq ?_
  refine SW.reg (l := [.op 0 .e]) rfl ?_
  refine rx_s rfl rfl rfl rfl rfl ?_
  refine rx_end0 ?_
  refine SW.seq ?_
  refine SW.reg (l := [.op 0 .e, .op 1 .e, .op 2 .e, .op 3 .e, .op 4 .e, .op 5 .e, .op 6 .e, .op 7 .e, .op 8 .e, .op 9 .e, .op 10 .e, .op 11 .e, .op 12 .e, .op 13 .e, .op 14 .e]) rfl ?_
  iterate 3 refine rx_s rfl rfl rfl rfl rfl ?_
  refine rx_split (t := 5) rfl (fun g5 => ?_) (fun g5 => ?_)
  · skip
    iterate 4 refine rx_s rfl rfl rfl rfl rfl ?_
    refine rx_split (t := 9) rfl (fun g9 => ?_) (fun g9 => ?_)
    · skip
      iterate 4 refine rx_s rfl rfl rfl rfl rfl ?_
      refine rx_split (t := 13) rfl (fun g13 => ?_) (fun g13 => ?_)
      · skip
        iterate 4 refine rx_s rfl rfl rfl rfl rfl ?_
        refine rx_end0 ?_
        refine SW.ret ?_
        exact retK1 (l := []) (.tmp rfl .nil) ⟨by simp_all <;> first | rfl | (intros; omega), rfl⟩ .nil
      · skip
        refine rx_skip rfl rfl rfl rfl ?_
        refine rx_skip rfl rfl rfl rfl ?_
        iterate 2 refine rx_s rfl rfl rfl rfl rfl ?_
        refine rx_end0 ?_
        refine SW.ret ?_
        exact retK1 (l := []) (.tmp rfl .nil) ⟨by simp_all <;> first | rfl | (intros; omega), rfl⟩ .nil
    · skip
      refine rx_skip rfl rfl rfl rfl ?_
      refine rx_skip rfl rfl rfl rfl ?_
      iterate 2 refine rx_s rfl rfl rfl rfl rfl ?_
      refine rx_split (t := 13) rfl (fun g13 => ?_) (fun g13 => ?_)
      · skip
        iterate 4 refine rx_s rfl rfl rfl rfl rfl ?_
        refine rx_end0 ?_
        refine SW.ret ?_
        exact retK1 (l := []) (.tmp rfl .nil) ⟨by simp_all <;> first | rfl | (intros; omega), rfl⟩ .nil
      · skip
        refine rx_skip rfl rfl rfl rfl ?_
        refine rx_skip rfl rfl rfl rfl ?_
        iterate 2 refine rx_s rfl rfl rfl rfl rfl ?_
        refine rx_end0 ?_
        refine SW.ret ?_
        exact retK1 (l := []) (.tmp rfl .nil) ⟨by simp_all <;> first | rfl | (intros; omega), rfl⟩ .nil
  · skip
    refine rx_skip rfl rfl rfl rfl ?_
    refine rx_skip rfl rfl rfl rfl ?_
    iterate 2 refine rx_s rfl rfl rfl rfl rfl ?_
    refine rx_split (t := 9) rfl (fun g9 => ?_) (fun g9 => ?_)
    · skip
      iterate 4 refine rx_s rfl rfl rfl rfl rfl ?_
      refine rx_split (t := 13) rfl (fun g13 => ?_) (fun g13 => ?_)
      · skip
        iterate 4 refine rx_s rfl rfl rfl rfl rfl ?_
        refine rx_end0 ?_
        refine SW.ret ?_
        exact retK1 (l := []) (.tmp rfl .nil) ⟨by simp_all <;> first | rfl | (intros; omega), rfl⟩ .nil
      · skip
        refine rx_skip rfl rfl rfl rfl ?_
        refine rx_skip rfl rfl rfl rfl ?_
        iterate 2 refine rx_s rfl rfl rfl rfl rfl ?_
        refine rx_end0 ?_
        refine SW.ret ?_
        exact retK1 (l := []) (.tmp rfl .nil) ⟨by simp_all <;> first | rfl | (intros; omega), rfl⟩ .nil
    · skip
      refine rx_skip rfl rfl rfl rfl ?_
      refine rx_skip rfl rfl rfl rfl ?_
      iterate 2 refine rx_s rfl rfl rfl rfl rfl ?_
      refine rx_split (t := 13) rfl (fun g13 => ?_) (fun g13 => ?_)
      · skip
        iterate 4 refine rx_s rfl rfl rfl rfl rfl ?_
        refine rx_end0 ?_
        refine SW.ret ?_
        exact retK1 (l := []) (.tmp rfl .nil) ⟨by simp_all <;> first | rfl | (intros; omega), rfl⟩ .nil
      · skip
        refine rx_skip rfl rfl rfl rfl ?_
        refine rx_skip rfl rfl rfl rfl ?_
        iterate 2 refine rx_s rfl rfl rfl rfl rfl ?_
        refine rx_end0 ?_
        refine SW.ret ?_
        exact retK1 (l := []) (.tmp rfl .nil) ⟨by simp_all <;> first | rfl | (intros; omega), rfl⟩ .nil
/-- Two lists of events that lie in blocks. -/
theorem events (b1 b2 o1 o2 c1 c2 : Nat) (cl1 cl2 : List Value) (T1 T2 : TypeId) (f1 f2 : Nat × Nat) (L1 L2 : List Ev) (hn : L1.length ≤ 1000000)
    (h1 : ∀ i e, L1[i]? = some e → (cl1.drop (o1 + i * 4)).take 4 = enc e) (h2 : ∀ i e, L2[i]? = some e → (cl2.drop (o2 + i * 4)).take 4 = enc e) :
    Sl.Spec Tryz.prog 22 #[.slice (some ⟨b1, o1, none⟩) L1.length c1, .slice (some ⟨b2, o2, none⟩) L2.length c2] [blk b1 cl1 T1 f1, blk b2 cl2 T2 f2]
      (fun v l => v = .bool (decide (L1 = L2)) ∧ l = [blk b1 cl1 T1 f1, blk b2 cl2 T2 f2]) := by
  refine Spec.enter Tryz.func22 rfl rfl rfl ?_
  refine SW.seq ?_
  refine SW.reg (l := [.op 0 .e]) rfl ?_
  refine rx_s rfl rfl rfl rfl rfl ?_
  refine rx_end0 ?_
  refine SW.seq ?_
  refine SW.seq ?_
  refine SW.reg (l := [.op 0 .e, .op 1 .e, .op 2 .e, .op 3 .e, .op 4 .e]) rfl ?_
  refine rx_s rfl rfl rfl rfl rfl ?_
  refine rx_len rfl rfl rfl rfl rfl rfl (lenV_sl Fa.sl_37 _ _ _) ?_
  refine rx_s rfl rfl rfl rfl rfl ?_
  refine rx_len rfl rfl rfl rfl rfl rfl (lenV_sl Fa.sl_37 _ _ _) ?_
  refine rx_s rfl rfl rfl rfl rfl ?_
  refine rx_end0 ?_
  refine SW.cond rfl (fun h10 => ?_) (fun h10 => ?_)
  · skip
    have hne : L1 ≠ L2 := by rintro rfl; simp at h10
    refine SW.seq ?_
    refine SW.reg (l := [.op 0 .e]) rfl ?_
    refine rx_s rfl rfl rfl rfl rfl ?_
    refine rx_end0 ?_
    refine SW.ret ?_
    exact retK1 (l := [_, _]) (.tmp rfl .nil) ⟨by simp [hne], rfl⟩ (.one (by (repeat first|exact .here|apply Take1.there)) (.one (by (repeat first|exact .here|apply Take1.there)) .nil))
  · skip
    have hlen : L1.length = L2.length := by simp at h10; omega
    refine SW.skip ?_
    try simp only [thenK, blockK, cond_true, cond_false, beq_self_eq_true, Nat.reduceBEq]
    refine SW.seq ?_
    refine SW.seq ?_
    refine SW.reg (l := [.op 0 .e]) rfl ?_
    refine rx_s rfl rfl rfl rfl rfl ?_
    refine rx_end0 ?_
    refine SW.block ?_
    refine SW.loop (fun q e' H' => ∃ (i : Nat) (Hl : List HProp), q = L1.length - i ∧ i ≤ L1.length ∧ L1.take i = L2.take i ∧ H' = star Hl ∧ EntL Hl [blk b1 cl1 T1 f1, blk b2 cl2 T2 f2] ∧
      EnvLe (upd (upd (upd noEnv 0 (.slice (some ⟨b1, o1, none⟩) L1.length c1)) 1 (.slice (some ⟨b2, o2, none⟩) L2.length c2)) 5 (.int .i64 i)) e') L1.length ⟨0, _, rfl, Nat.zero_le _, rfl, rfl, EntL.refl _, .cons (.cons (.cons .nil rfl) rfl) rfl⟩ ?_
    rintro q e' _ ⟨i, Hl, rfl, hi, htk, rfl, hl, hle⟩
    refine SW.fold hl ?_
    refine SW.forget hle ?_
    refine SW.seq ?_
    refine SW.seq ?_
    refine SW.reg (l := [.op 0 .e, .op 1 .e, .op 2 .e, .op 3 .e]) rfl ?_
    iterate 2 refine rx_s rfl rfl rfl rfl rfl ?_
    refine rx_len rfl rfl rfl rfl rfl rfl (lenV_sl Fa.sl_37 _ _ _) ?_
    refine rx_s rfl rfl rfl rfl rfl ?_
    refine rx_end0 ?_
    refine SW.cond rfl (fun h14 => ?_) (fun h14 => ?_)
    · skip
      have hi' : i < L1.length := by have := of_decide_eq_true h14; omega
      have hi2 : i < L2.length := by omega
      have g1 := h1 i _ (List.getElem?_eq_getElem hi')
      have g2 := h2 i _ (List.getElem?_eq_getElem hi2)
      refine SW.skip ?_
      try simp only [thenK, blockK, cond_true, cond_false, beq_self_eq_true, Nat.reduceBEq]
      refine SW.seq ?_
      refine SW.block ?_
      refine SW.seq ?_
      refine SW.drawAll Fa.mix (tp := [0, 0, 3, 7, 0, 0, 48, 112, 255]) (l := [.op 0 .s, .op 1 .s, .op 2 .s, .op 3 .d, .op 4 .s, .op 5 .s, .op 6 .s, .op 7 .d, .op 8 .s]) (by kernel_rfl) ?_
      iterate 2 refine rx_s rfl rfl rfl rfl rfl ?_
      refine rx_ix rfl rfl rfl rfl rfl Fa.sl_37 rfl rfl (by omega) ?_
      refine rx_ldDA rfl rfl rfl rfl rfl rfl rfl (by (repeat first|exact .here|apply Take1.there)) Fa.ag_41 Fa.sz_41 (vs := [_, _, _, _]) (by rw [show (i : Int).toNat = i from rfl]; exact g1) rfl ?_
      iterate 2 refine rx_s rfl rfl rfl rfl rfl ?_
      refine rx_ix rfl rfl rfl rfl rfl Fa.sl_37 rfl rfl (by omega) ?_
      refine rx_ldDA rfl rfl rfl rfl rfl rfl rfl (by (repeat first|exact .here|apply Take1.there)) Fa.ag_41 Fa.sz_41 (vs := [_, _, _, _]) (by rw [show (i : Int).toNat = i from rfl]; exact g2) rfl ?_
      refine rx_neS rfl rfl rfl rfl rfl Fa.eq_41 rfl rfl rfl ?_
      refine rx_endD ?_
      try simp only [List.cons_append, List.nil_append]
      refine SW.cond rfl (fun h25 => ?_) (fun h25 => ?_)
      · skip
        refine SW.seq ?_
        refine SW.reg (l := [.op 0 .e]) rfl ?_
        refine rx_s rfl rfl rfl rfl rfl ?_
        refine rx_end0 ?_
        refine SW.ret ?_
        have hne : L1 ≠ L2 := by rintro rfl; simp at h25
        exact retK1 (l := [_, _]) (.tmp rfl .nil) ⟨by simp [hne], rfl⟩ (.one (by (repeat first|exact .here|apply Take1.there)) (.one (by (repeat first|exact .here|apply Take1.there)) .nil))
      · skip
        refine SW.skip ?_
        try simp only [thenK, blockK, cond_true, cond_false, beq_self_eq_true, Nat.reduceBEq]
        refine SW.reg (l := [.op 0 .e, .op 1 .e, .op 2 .e]) rfl ?_
        refine rx_s rfl rfl rfl rfl rfl ?_
        refine rx_ar rfl rfl rfl rfl rfl (by omega) ?_
        refine rx_s rfl rfl rfl rfl rfl ?_
        refine rx_end0 ?_
        have he : L1[i] = L2[i] := by have h := h25; revert h; generalize L1[i] = x; generalize L2[i] = y; rcases x with ⟨a, b, c, d⟩; rcases y with ⟨a', b', c', d'⟩; intro h; simp at h; simp [h]
        exact ⟨L1.length - (i + 1), by omega, i + 1, _, rfl, by omega, by rw [List.take_succ_eq_append_getElem hi', List.take_succ_eq_append_getElem hi2, htk, he], rfl, .one (by (repeat first|exact .here|apply Take1.there)) (.one (by (repeat first|exact .here|apply Take1.there)) .nil), .cons (.cons (.cons .nil rfl) rfl) rfl⟩
    · skip
      have hi' : i = L1.length := by simp at h14; omega
      refine SW.exit ?_
      try simp only [thenK, blockK, cond_true, cond_false, beq_self_eq_true, Nat.reduceBEq]
      refine SW.seq ?_
      refine SW.reg (l := [.op 0 .e]) rfl ?_
      refine rx_s rfl rfl rfl rfl rfl ?_
      refine rx_end0 ?_
      refine SW.ret ?_
      exact retK1 (l := [_, _]) (.tmp rfl .nil) ⟨by rw [hi', List.take_length, hlen, List.take_length] at htk; simp [htk], rfl⟩ (.one (by (repeat first|exact .here|apply Take1.there)) (.one (by (repeat first|exact .here|apply Take1.there)) .nil))
theorem flat_drop1 {α : Type} [Enc α] {l : List α} (rest : List Value) : ∀ (i : Nat) (a : α), l[i]? = some a → ((flat l ++ rest).drop (0 + i * Enc.n α)).take (Enc.n α) = enc a := fun i a h => by
  rw [flat_drop h (j := 0) (s := Enc.n α) (by omega) (by omega) rest, List.drop_zero, List.take_of_length_le (by rw [Enc.len]; exact Nat.le_refl _)]
theorem flat_dropO {α : Type} [Enc α] {l : List α} (pre rest : List Value) {off : Nat} (ho : off = pre.length) : ∀ (i : Nat) (a : α), l[i]? = some a → ((pre ++ flat l ++ rest).drop (off + i * Enc.n α)).take (Enc.n α) = enc a := fun i a h => by
  subst ho
  rw [List.append_assoc, List.drop_append, List.drop_of_length_le (by omega), List.nil_append, Nat.add_sub_cancel_left]
  have := flat_drop1 rest i a h
  rwa [Nat.zero_add] at this
theorem flat_drop0 {α : Type} [Enc α] {l : List α} : ∀ (i : Nat) (a : α), l[i]? = some a → ((flat l).drop (0 + i * Enc.n α)).take (Enc.n α) = enc a := fun i a h => by
  have := flat_drop1 [] i a h; rwa [List.append_nil] at this
/-- Calls that are small enough. -/
theorem few (b o c : Nat) (cl : List Value) (T : TypeId) (f : Nat × Nat) (L : List Holt.Call) (hn : L.length ≤ 1000000) (h1 : ∀ i x, L[i]? = some x → ∀ j, j < 5 → cl[o + i * 5 + j]? = (enc x)[j]?) :
    Sl.Spec Tryz.prog 14 #[.slice (some ⟨b, o, none⟩) L.length c] [blk b cl T f]
      (fun v l => v = .bool (decide (∀ x ∈ L, x.text.size ≤ 450 ∧ x.data.m ≤ 400)) ∧ l = [blk b cl T f]) := by
  refine Spec.enter Tryz.func14 rfl rfl rfl ?_
  refine SW.seq ?_
  refine SW.reg (l := [.op 0 .e]) rfl ?_
  refine rx_s rfl rfl rfl rfl rfl ?_
  refine rx_end0 ?_
  refine SW.seq ?_
  refine SW.seq ?_
  refine SW.reg (l := [.op 0 .e]) rfl ?_
  refine rx_s rfl rfl rfl rfl rfl ?_
  refine rx_end0 ?_
  refine SW.block ?_
  refine SW.loop (fun q e' H' => ∃ (i : Nat) (Hl : List HProp), q = L.length - i ∧ i ≤ L.length ∧ (∀ x ∈ L.take i, x.text.size ≤ 450 ∧ x.data.m ≤ 400) ∧ H' = star Hl ∧ EntL Hl [blk b cl T f] ∧
    EnvLe (upd (upd noEnv 0 (.slice (some ⟨b, o, none⟩) L.length c)) 3 (.int .i64 i)) e') L.length ⟨0, _, rfl, Nat.zero_le _, by simp, rfl, EntL.refl _, .cons (.cons .nil rfl) rfl⟩ ?_
  rintro q e' _ ⟨i, Hl, rfl, hi, htk, rfl, hl, hle⟩
  refine SW.fold hl ?_
  refine SW.forget hle ?_
  refine SW.seq ?_
  refine SW.seq ?_
  refine SW.reg (l := [.op 0 .e, .op 1 .e, .op 2 .e, .op 3 .e]) rfl ?_
  iterate 2 refine rx_s rfl rfl rfl rfl rfl ?_
  refine rx_len rfl rfl rfl rfl rfl rfl (lenV_sl Fa.sl_31 _ _ _) ?_
  refine rx_s rfl rfl rfl rfl rfl ?_
  refine rx_end0 ?_
  refine SW.cond rfl (fun h7 => ?_) (fun h7 => ?_)
  · skip
    have hi' : i < L.length := by have := of_decide_eq_true h7; omega
    have g0 := List.getElem?_eq_getElem hi'
    have hm : L[i] ∈ L := List.getElem_mem hi'
    generalize L[i] = x at g0 hm
    have g3 := h1 i x g0 3 (by decide)
    have g4 := h1 i x g0 4 (by decide)
    refine SW.skip ?_
    try simp only [thenK, blockK, cond_true, cond_false, beq_self_eq_true, Nat.reduceBEq]
    refine SW.seq ?_
    refine SW.block ?_
    refine SW.seq ?_
    refine SW.reg (l := [.op 0 .e, .op 1 .e, .op 2 .e, .op 3 .e, .op 4 .e, .op 5 .e, .op 6 .e, .op 7 .e, .op 8 .e, .op 9 .e, .op 10 .e, .op 11 .e, .op 12 .e, .op 13 .e, .op 14 .e, .op 15 .e]) rfl ?_
    iterate 2 refine rx_s rfl rfl rfl rfl rfl ?_
    refine rx_ix rfl rfl rfl rfl rfl Fa.sl_31 rfl rfl (by omega) ?_
    refine rx_fa rfl rfl rfl rfl rfl rfl Fa.fo_24_3 ?_
    refine rx_ldH1 rfl rfl rfl rfl rfl rfl (by (repeat first|exact .here|apply Take1.there)) Fa.ag_9 (by rw [show (i : Int).toNat = i from rfl]; exact g3) ?_
    refine rx_len rfl rfl rfl rfl rfl rfl (lenV_str Fa.ss_9 _) ?_
    iterate 2 refine rx_s rfl rfl rfl rfl rfl ?_
    refine rx_split (t := 17) rfl (fun g17 => ?_) (fun g17 => ?_)
    · skip
      refine rx_skip rfl rfl rfl rfl ?_
      refine rx_skip rfl rfl rfl rfl ?_
      refine rx_skip rfl rfl rfl rfl ?_
      refine rx_skip rfl rfl rfl rfl ?_
      refine rx_skip rfl rfl rfl rfl ?_
      refine rx_skip rfl rfl rfl rfl ?_
      refine rx_skip rfl rfl rfl rfl ?_
      refine rx_s rfl rfl rfl rfl rfl ?_
      refine rx_end0 ?_
      refine SW.cond rfl (fun h25 => ?_) (fun h25 => ?_)
      · skip
        refine SW.seq ?_
        refine SW.reg (l := [.op 0 .e]) rfl ?_
        refine rx_s rfl rfl rfl rfl rfl ?_
        refine rx_end0 ?_
        refine SW.ret ?_
        have hx : ¬ (x.text.size ≤ 450) := by simp at g17; omega
        exact retK1 (l := [_]) (.tmp rfl .nil) ⟨by simp; exact ⟨x, hm, fun q => absurd q hx⟩, rfl⟩ (.one (by (repeat first|exact .here|apply Take1.there)) .nil)
      · (simp_all)
    · skip
      iterate 2 refine rx_s rfl rfl rfl rfl rfl ?_
      refine rx_ix rfl rfl rfl rfl rfl Fa.sl_31 rfl rfl (by omega) ?_
      refine rx_fa rfl rfl rfl rfl rfl rfl Fa.fo_24_4 ?_
      refine rx_ldH1 rfl rfl rfl rfl rfl rfl (by (repeat first|exact .here|apply Take1.there)) Fa.ag_22 (by rw [show (i : Int).toNat = i from rfl]; exact g4) ?_
      refine rx_len rfl rfl rfl rfl rfl rfl (lenV_sl Fa.sl_22 _ _ _) ?_
      iterate 2 refine rx_s rfl rfl rfl rfl rfl ?_
      refine rx_end0 ?_
      refine SW.cond rfl (fun h25 => ?_) (fun h25 => ?_)
      · skip
        refine SW.seq ?_
        refine SW.reg (l := [.op 0 .e]) rfl ?_
        refine rx_s rfl rfl rfl rfl rfl ?_
        refine rx_end0 ?_
        refine SW.ret ?_
        have hx : ¬ (x.data.m ≤ 400) := by simp at h25; omega
        exact retK1 (l := [_]) (.tmp rfl .nil) ⟨by simp; exact ⟨x, hm, fun _ => by omega⟩, rfl⟩ (.one (by (repeat first|exact .here|apply Take1.there)) .nil)
      · skip
        refine SW.skip ?_
        try simp only [thenK, blockK, cond_true, cond_false, beq_self_eq_true, Nat.reduceBEq]
        refine SW.reg (l := [.op 0 .e, .op 1 .e, .op 2 .e]) rfl ?_
        refine rx_s rfl rfl rfl rfl rfl ?_
        refine rx_ar rfl rfl rfl rfl rfl (by omega) ?_
        refine rx_s rfl rfl rfl rfl rfl ?_
        refine rx_end0 ?_
        have hx : x.text.size ≤ 450 ∧ x.data.m ≤ 400 := by simp at g17 h25; omega
        exact ⟨L.length - (i + 1), by omega, i + 1, _, rfl, by omega, by rw [List.take_add_one, g0]; intro y hy; rcases List.mem_append.1 hy with q | q; exact htk y q; simp at q; subst q; exact hx, rfl, .one (by (repeat first|exact .here|apply Take1.there)) .nil, .cons (.cons .nil rfl) rfl⟩
  · skip
    have hi' : i = L.length := by simp at h7; omega
    refine SW.exit ?_
    try simp only [thenK, blockK, cond_true, cond_false, beq_self_eq_true, Nat.reduceBEq]
    refine SW.seq ?_
    refine SW.reg (l := [.op 0 .e]) rfl ?_
    refine rx_s rfl rfl rfl rfl rfl ?_
    refine rx_end0 ?_
    refine SW.ret ?_
    exact retK1 (l := [_]) (.tmp rfl .nil) ⟨by rw [hi', List.take_length] at htk; simp; exact htk, rfl⟩ (.one (by (repeat first|exact .here|apply Take1.there)) .nil)
end Rf
end Go.Proofs.YtikkegelplllmaaGreatDoor
/- The chapter's example: a read of the root. -/
namespace Go.Proofs.YtikkegelplllmaaGreatDoor
open Go Go.Sl Go.Holt Go.Proofs
open Go.Holt.Enc (enc)
namespace Ak
open Dk (DeskP)
open Fi (FiP)
open Cl (CliP)
theorem prefix_ (s p : ByteArray) (Pre : List HProp) : Sl.Spec Tryz.prog 79 #[.string s, .string p] Pre (fun v l => v = .bool (Lib.hasPrefix s.data.toList p.data.toList) ∧ l = Pre) :=
  Spec.of_same fun _ w _ => Tryz.strings_HasPrefix s p w
theorem splitRoot (w0 : World) : Sl.Spec Tryz.prog 38 #[.string ⟨#[47]⟩] [OLD w0 []] (fun u l => ∃ nv, u = .tuple #[nv, .int .i64 (if (some ([] : List ByteArray)).isSome = true then 0 else 4)] ∧ l = [SlRo 9 1 nv (flat ((some ([] : List ByteArray)).getD [])), OLD w0 []]) := by
  refine Spec.enter Tryz.func38 rfl rfl rfl ?_
  refine SW.seq ?_
  refine SW.reg (l := [.op 0 .e, .op 1 .e]) rfl ?_
  iterate 2 refine rx_s rfl rfl rfl rfl rfl ?_
  refine rx_end0 ?_
  refine SW.seq ?_
  refine SW.seq ?_
  refine SW.reg (l := [.op 0 .e, .op 1 .e, .op 2 .e, .op 3 .e, .op 4 .e, .op 5 .e, .op 6 .e, .op 7 .e]) rfl ?_
  refine rx_s rfl rfl rfl rfl rfl ?_
  refine rx_len rfl rfl rfl rfl rfl rfl (lenV_str Fa.ss_9 _) ?_
  iterate 3 refine rx_s rfl rfl rfl rfl rfl ?_
  refine rx_callH (F := ?FT1) rfl rfl rfl rfl rfl rfl rfl rfl Fa.ca_79 rfl (prefix_ ⟨#[47]⟩ ⟨#[47]⟩ []) ?T1 ?_
  case T1 => (repeat (first|exact Take.nil|refine Take.cons (by (repeat first|exact .here|apply Take1.there)) ?_))
  rintro _ _ ⟨rfl, rfl⟩
  try simp only [List.cons_append, List.nil_append]
  iterate 2 refine rx_s rfl rfl rfl rfl rfl ?_
  refine rx_end0 ?_
  refine SW.cond (b := false) rfl (fun h => nomatch h) (fun _ => ?_)
  refine SW.skip ?_
  try simp only [thenK, blockK, cond_true, cond_false, beq_self_eq_true, Nat.reduceBEq]
  refine SW.seq ?_
  refine SW.seq ?_
  refine SW.reg (l := [.op 0 .e, .op 1 .e]) rfl ?_
  iterate 2 refine rx_s rfl rfl rfl rfl rfl ?_
  refine rx_end0 ?_
  refine SW.cond rfl (fun h16 => ?_) (fun h16 => ?_)
  · skip
    refine SW.seq ?_
    refine SW.reg (l := [.op 0 .e, .op 1 .e]) rfl ?_
    iterate 2 refine rx_s rfl rfl rfl rfl rfl ?_
    refine rx_end0 ?_
    refine SW.ret ?_
    exact retK2 (l := [_, _]) (.tmp rfl (.tmp rfl .nil)) ⟨_, rfl, rfl⟩ (slro_nil _ _ (.one (by (repeat first|exact .here|apply Take1.there)) .nil))
  · simp at h16
/-- The one call: a read of the root. -/
abbrev x0 : Holt.Call := ⟨3, 0, 0, ⟨#[47]⟩, Sli.none⟩
abbrev z0 : Ver := ⟨0, ⟨0, 0⟩, ⟨0, 0⟩⟩
abbrev C0 : Cli := Cl.cnew 0 [x0]
abbrev C1 : Cli := { C0 with epoch := 0, next := 96 }
abbrev C2 : Cli := { C1 with next := 121 }
abbrev C3 (f : Nat) : Cli := { C2 with version := z0, reads := true, find := some ⟨f, 0, none⟩, next := 147 }
abbrev C4 (f : Nat) (q : Option Addr) (m c' : Nat) : Cli := ({ C3 f with version := z0, reads := false } : Cli).ended 66 ⟨0, 0, 0, ⟨q, m, c'⟩, Sli.none⟩
abbrev D0 : Desk := Dk.dnew 1 1
abbrev D1 : Desk := D0.tick
abbrev D2 : Desk := { D1.tick with pins := [1] }
abbrev D3 : Desk := D2.tick
abbrev D4 : Desk := { D3.tick with pins := [0] }
abbrev L3 : List Ev := [⟨0, 0, 0, 0⟩, ⟨8, 0, 0, 0⟩, ⟨9, 0, 0, 0⟩]
abbrev F0 : Holt.Fi := ({ Holt.Fi.new z0 false [] with met := 0, found := false } : Holt.Fi).end_ 0
section
variable (c d s b : Nat)
abbrev CP (C : Cli) : HProp := CliP c d s 58 #[.pointer (some ⟨b, 0, none⟩)] C
abbrev sp (Pre : List HProp) (Post : Value → List HProp → Prop) : Prop := Sl.Spec Tryz.prog 21 #[.pointer (some ⟨c, 0, none⟩)] Pre Post
theorem s1 : sp c [CP c d s b C0, DeskP d D0, LoA.LogP b []] (fun v l => v = .tuple #[] ∧ l = [CP c d s b C1, DeskP d D1, LoA.LogP b [⟨0, 0, 0, 0⟩]]) :=
  Cl.step c d s C0 D0 Rep.zero rfl rfl [] _ Fa.ca_66 (Cl.beginR c d s (LoA.isNote b) C0 D0 ⟨by simp [Dk.dnew], by simp [Dk.dnew]⟩ [] (by simp) x0 rfl (.inl rfl))
theorem s2 (L : List Ev) : sp c [CP c d s b C1, DeskP d D1, LoA.LogP b L] (fun v l => v = .tuple #[] ∧ l = [CP c d s b C2, DeskP d D2, LoA.LogP b L]) :=
  Cl.stepG c d s C1 D1 Rep.zero rfl rfl [LoA.LogP b L] (fun _ _ h => h.1) Fa.ca_96
    (Holt.Spec.conseq (Sl.Spec.frame (F := [LoA.LogP b L]) (Cl.pin c d s C1 D1 ⟨by simp [Dk.dnew, Desk.tick], by simp [Dk.dnew, Desk.tick]⟩ (by decide) 0 rfl)) (by rintro _ _ ⟨_, ⟨rfl, rfl⟩, rfl⟩; exact ⟨_, ⟨rfl, rfl⟩, EntL.refl _⟩))
theorem s3 (L : List Ev) (hL : L.length ≤ 900000) (w0 : World) : sp c [CP c d s b C2, DeskP d D2, LoA.LogP b L, OLD w0 []] (fun v l => ∃ f, v = .tuple #[] ∧ l = [CP c d s b (C3 f), DeskP d D3, LoA.LogP b (L ++ [⟨8, 0, 0, 0⟩]), FiP f F0, OLD w0 []]) :=
  Cl.stepG c d s C2 D2 Rep.zero rfl rfl [LoA.LogP b L, OLD w0 []] (fun _ _ ⟨_, h⟩ => h.1) Fa.ca_121 (Cl.load c d s (LoA.isNote b) C2 D2 ⟨by simp [Dk.dnew, Desk.tick], by simp [Dk.dnew, Desk.tick]⟩ L hL x0 rfl (some []) w0 (splitRoot w0))
theorem s4 (L : List Ev) (hL : L.length ≤ 900000) (f : Nat) : sp c [CP c d s b (C3 f), DeskP d D3, LoA.LogP b L, FiP f F0] (fun v l => ∃ q m c', v = .tuple #[] ∧ m = 0 ∧ l = [CP c d s b (C4 f q m c'), DeskP d D4, LoA.LogP b (L ++ [⟨9, 0, 0, 0⟩]), FiP f F0, SlOwn 73 3 (.slice q m c') []]) :=
  Cl.stepG c d s (C3 f) D3 Rep.zero rfl rfl [LoA.LogP b L, FiP f F0] (fun _ _ ⟨_, _, _, h⟩ => h.1) Fa.ca_147 (Cl.nodeE c d s (LoA.isNote b) (C3 f) ⟨by simp [Cl.cnew], by simp [Cl.cnew]⟩ D3 ⟨by simp [Dk.dnew, Desk.tick], by simp [Dk.dnew, Desk.tick]⟩ L hL f F0 rfl (by decide) 1 rfl)
end
theorem awake (w0 : World) : Sl.Spec Tryz.prog 13 #[] [OLD w0 []] (fun v l => v = .bool true ∧ l = [OLD w0 []]) := by
  refine Spec.enter Tryz.func13 rfl rfl rfl ?_
  refine SW.seq ?_
  refine SW.reg (l := [.op 0 .e]) rfl ?_
  refine rx_s rfl rfl rfl rfl rfl ?_
  refine rx_end0 ?_
  refine SW.seq ?_
  refine SW.reg (l := [.op 0 .e]) rfl ?_
  refine rx_alloc (.inr rfl) rfl rfl rfl rfl rfl Fa.z_37 ?_
  intro b1
  refine rx_end0 ?_
  refine SW.seq ?_
  refine SW.reg (l := [.op 0 .e, .op 1 .e]) rfl ?_
  refine rx_callH (F := ?FT2) rfl rfl rfl rfl rfl rfl rfl rfl Fa.ca_16 rfl (Dk.new 1 1 (by omega) (by omega) (by omega)) ?T2 ?_
  case T2 => (repeat (first|exact Take.nil|refine Take.cons (by (repeat first|exact .here|apply Take1.there)) ?_))
  rintro _ _ ⟨d, rfl, rfl⟩
  try simp only [List.cons_append, List.nil_append]
  refine rx_s rfl rfl rfl rfl rfl ?_
  refine rx_end0 ?_
  refine SW.seq ?_
  refine SW.reg (l := [.op 0 .e, .op 1 .e]) rfl ?_
  refine rx_callH (F := ?FT3) rfl rfl rfl rfl rfl rfl rfl rfl Fa.ca_17 rfl (Vw.new 10 (by omega) (by omega)) ?T3 ?_
  case T3 => (repeat (first|exact Take.nil|refine Take.cons (by (repeat first|exact .here|apply Take1.there)) ?_))
  rintro _ _ ⟨s, k, a, p, b, rfl, rfl⟩
  try simp only [List.cons_append, List.nil_append]
  refine rx_s rfl rfl rfl rfl rfl ?_
  refine rx_end0 ?_
  refine SW.seq ?_
  refine SW.seq ?_
  refine SW.reg (l := [.op 0 .e, .op 1 .e, .op 2 .e, .op 3 .e, .op 4 .e, .op 5 .e]) rfl ?_
  refine rx_s rfl rfl rfl rfl rfl ?_
  refine rx_eqnil rfl rfl rfl rfl rfl Fa.pt_33 rfl ?_
  iterate 2 refine rx_s rfl rfl rfl rfl rfl ?_
  refine rx_eqnil rfl rfl rfl rfl rfl Fa.pt_35 rfl ?_
  refine rx_s rfl rfl rfl rfl rfl ?_
  refine rx_end0 ?_
  refine SW.cond (b := false) rfl (fun h => nomatch h) (fun _ => ?_)
  refine SW.skip ?_
  try simp only [thenK, blockK, cond_true, cond_false, beq_self_eq_true, Nat.reduceBEq]
  refine SW.seq ?_
  refine SW.reg (l := [.op 0 .e, .op 1 .e, .op 2 .e, .op 3 .e, .op 4 .e, .op 5 .e, .op 6 .e]) rfl ?_
  iterate 2 refine rx_s rfl rfl rfl rfl rfl ?_
  refine rx_build rfl rfl rfl rfl rfl Fa.st_24 rfl (cs := [_, _, _, _, _]) rfl ?_
  refine rx_bslice (.inr rfl) rfl rfl rfl rfl rfl Fa.sl_31 Fa.z_24 rfl rfl rfl rfl rfl (cl := [_, _, _, _, _]) rfl ?_
  intro b17
  refine rx_s rfl rfl rfl rfl rfl ?_
  refine rx_callH (F := ?FT4) rfl rfl rfl rfl rfl rfl rfl rfl Fa.ca_19 rfl (Sl.Spec.pre (Pre' := [blk b17 (flat [x0]) 24 (0, 0)]) (EntL.ent (slown_mk (xs := flat [x0]) (rest := []) (len := 1) (cap := 1) .here rfl (flat_one _) rfl rfl (Nat.le_refl _) .nil)) (Cl.new d s 0 58 #[.pointer (some ⟨b1, 0, none⟩)] _ [x0] (by simp))) ?T4 ?_
  case T4 => (repeat (first|exact Take.nil|refine Take.cons (by (repeat first|exact .here|apply Take1.there)) ?_))
  rintro _ _ ⟨c, rfl, rfl⟩
  try simp only [List.cons_append, List.nil_append]
  refine rx_s rfl rfl rfl rfl rfl ?_
  refine rx_end0 ?_
  refine SW.seq ?_
  refine SW.seq ?_
  refine SW.reg (l := [.op 0 .e, .op 1 .e]) rfl ?_
  refine rx_s rfl rfl rfl rfl rfl ?_
  refine rx_eqnil rfl rfl rfl rfl rfl Fa.pt_38 rfl ?_
  refine rx_end0 ?_
  refine SW.cond (b := false) rfl (fun h => nomatch h) (fun _ => ?_)
  refine SW.skip ?_
  try simp only [thenK, blockK, cond_true, cond_false, beq_self_eq_true, Nat.reduceBEq]
  refine SW.seq ?_
  refine SW.fold (Hl' := [CP c d s b1 C0, DeskP d D0, LoA.LogP b1 [], OLD w0 []]) (.one (by (repeat first|exact .here|apply Take1.there)) (.one (by (repeat first|exact .here|apply Take1.there)) (LoA.foldL (.one (by (repeat first|exact .here|apply Take1.there)) (sloff_nil _ _ (.one (by (repeat first|exact .here|apply Take1.there)) .nil)))))) ?_
  refine SW.reg (l := [.op 0 .e]) rfl ?_
  refine rx_s rfl rfl rfl rfl rfl ?_
  refine rx_end0 ?_
  refine SW.seq ?_
  refine SW.block ?_
  refine SW.rounds 5 ?_
  refine SW.round ?_
  refine SW.seq ?_
  refine SW.seq ?_
  refine SW.reg (l := [.op 0 .e, .op 1 .e, .op 2 .e, .op 3 .e, .op 4 .e, .op 5 .e]) rfl ?_
  refine rx_s rfl rfl rfl rfl rfl ?_
  refine rx_callH (F := ?FT5) rfl rfl rfl rfl rfl rfl rfl rfl Fa.ca_26 rfl (Cl.ready c d s (nf := 58) (cap := #[.pointer (some ⟨b1, 0, none⟩)]) C0 D0 Rep.zero rfl) ?T5 ?_
  case T5 => (repeat (first|exact Take.nil|refine Take.cons (by (repeat first|exact .here|apply Take1.there)) ?_))
  rintro _ _ ⟨rfl, rfl⟩
  try simp only [List.cons_append, List.nil_append]
  iterate 4 refine rx_s rfl rfl rfl rfl rfl ?_
  refine rx_end0 ?_
  refine SW.cond (b := true) rfl (fun _ => ?_) (fun h => nomatch h)
  refine SW.skip ?_
  try simp only [thenK, blockK, cond_true, cond_false, beq_self_eq_true, Nat.reduceBEq]
  refine SW.block ?_
  refine SW.seq ?_
  refine SW.reg (l := [.op 0 .e, .op 1 .e]) rfl ?_
  refine rx_s rfl rfl rfl rfl rfl ?_
  refine rx_callH (F := ?FT6) rfl rfl rfl rfl rfl rfl rfl rfl Fa.ca_21 rfl (s1 c d s b1) ?T6 ?_
  case T6 => (repeat (first|exact Take.nil|refine Take.cons (by (repeat first|exact .here|apply Take1.there)) ?_))
  rintro _ _ ⟨rfl, rfl⟩
  try simp only [List.cons_append, List.nil_append]
  refine rx_end0 ?_
  refine SW.reg (l := [.op 0 .e, .op 1 .e, .op 2 .e]) rfl ?_
  refine rx_s rfl rfl rfl rfl rfl ?_
  refine rx_ar rfl rfl rfl rfl rfl (by omega) ?_
  refine rx_s rfl rfl rfl rfl rfl ?_
  refine rx_endL ?_
  try simp only [thenK, blockK, cond_true, cond_false, beq_self_eq_true, Nat.reduceBEq]
  refine SW.round ?_
  refine SW.seq ?_
  refine SW.seq ?_
  refine SW.reg (l := [.op 0 .e, .op 1 .e, .op 2 .e, .op 3 .e, .op 4 .e, .op 5 .e]) rfl ?_
  refine rx_s rfl rfl rfl rfl rfl ?_
  refine rx_callH (F := ?FT7) rfl rfl rfl rfl rfl rfl rfl rfl Fa.ca_26 rfl (Cl.ready c d s (nf := 58) (cap := #[.pointer (some ⟨b1, 0, none⟩)]) C1 D1 Rep.zero rfl) ?T7 ?_
  case T7 => (repeat (first|exact Take.nil|refine Take.cons (by (repeat first|exact .here|apply Take1.there)) ?_))
  rintro _ _ ⟨rfl, rfl⟩
  try simp only [List.cons_append, List.nil_append]
  iterate 4 refine rx_s rfl rfl rfl rfl rfl ?_
  refine rx_end0 ?_
  refine SW.cond (b := true) rfl (fun _ => ?_) (fun h => nomatch h)
  refine SW.skip ?_
  try simp only [thenK, blockK, cond_true, cond_false, beq_self_eq_true, Nat.reduceBEq]
  refine SW.block ?_
  refine SW.seq ?_
  refine SW.reg (l := [.op 0 .e, .op 1 .e]) rfl ?_
  refine rx_s rfl rfl rfl rfl rfl ?_
  refine rx_callH (F := ?FT8) rfl rfl rfl rfl rfl rfl rfl rfl Fa.ca_21 rfl (s2 c d s b1 [⟨0, 0, 0, 0⟩]) ?T8 ?_
  case T8 => (repeat (first|exact Take.nil|refine Take.cons (by (repeat first|exact .here|apply Take1.there)) ?_))
  rintro _ _ ⟨rfl, rfl⟩
  try simp only [List.cons_append, List.nil_append]
  refine rx_end0 ?_
  refine SW.reg (l := [.op 0 .e, .op 1 .e, .op 2 .e]) rfl ?_
  refine rx_s rfl rfl rfl rfl rfl ?_
  refine rx_ar rfl rfl rfl rfl rfl (by omega) ?_
  refine rx_s rfl rfl rfl rfl rfl ?_
  refine rx_endL ?_
  try simp only [thenK, blockK, cond_true, cond_false, beq_self_eq_true, Nat.reduceBEq]
  refine SW.round ?_
  refine SW.seq ?_
  refine SW.seq ?_
  refine SW.reg (l := [.op 0 .e, .op 1 .e, .op 2 .e, .op 3 .e, .op 4 .e, .op 5 .e]) rfl ?_
  refine rx_s rfl rfl rfl rfl rfl ?_
  refine rx_callH (F := ?FT9) rfl rfl rfl rfl rfl rfl rfl rfl Fa.ca_26 rfl (Cl.ready c d s (nf := 58) (cap := #[.pointer (some ⟨b1, 0, none⟩)]) C2 D2 Rep.zero rfl) ?T9 ?_
  case T9 => (repeat (first|exact Take.nil|refine Take.cons (by (repeat first|exact .here|apply Take1.there)) ?_))
  rintro _ _ ⟨rfl, rfl⟩
  try simp only [List.cons_append, List.nil_append]
  iterate 4 refine rx_s rfl rfl rfl rfl rfl ?_
  refine rx_end0 ?_
  refine SW.cond (b := true) rfl (fun _ => ?_) (fun h => nomatch h)
  refine SW.skip ?_
  try simp only [thenK, blockK, cond_true, cond_false, beq_self_eq_true, Nat.reduceBEq]
  refine SW.block ?_
  refine SW.seq ?_
  refine SW.reg (l := [.op 0 .e, .op 1 .e]) rfl ?_
  refine rx_s rfl rfl rfl rfl rfl ?_
  refine rx_callH (F := ?FT10) rfl rfl rfl rfl rfl rfl rfl rfl Fa.ca_21 rfl (s3 c d s b1 [⟨0, 0, 0, 0⟩] (by simp) w0) ?T10 ?_
  case T10 => (repeat (first|exact Take.nil|refine Take.cons (by (repeat first|exact .here|apply Take1.there)) ?_))
  rintro _ _ ⟨f, rfl, rfl⟩
  try simp only [List.cons_append, List.nil_append]
  refine rx_end0 ?_
  refine SW.reg (l := [.op 0 .e, .op 1 .e, .op 2 .e]) rfl ?_
  refine rx_s rfl rfl rfl rfl rfl ?_
  refine rx_ar rfl rfl rfl rfl rfl (by omega) ?_
  refine rx_s rfl rfl rfl rfl rfl ?_
  refine rx_endL ?_
  try simp only [thenK, blockK, cond_true, cond_false, beq_self_eq_true, Nat.reduceBEq]
  refine SW.round ?_
  refine SW.seq ?_
  refine SW.seq ?_
  refine SW.reg (l := [.op 0 .e, .op 1 .e, .op 2 .e, .op 3 .e, .op 4 .e, .op 5 .e]) rfl ?_
  refine rx_s rfl rfl rfl rfl rfl ?_
  refine rx_callH (F := ?FT11) rfl rfl rfl rfl rfl rfl rfl rfl Fa.ca_26 rfl (Cl.ready c d s (nf := 58) (cap := #[.pointer (some ⟨b1, 0, none⟩)]) (C3 f) D3 Rep.zero rfl) ?T11 ?_
  case T11 => (repeat (first|exact Take.nil|refine Take.cons (by (repeat first|exact .here|apply Take1.there)) ?_))
  rintro _ _ ⟨rfl, rfl⟩
  try simp only [List.cons_append, List.nil_append]
  iterate 4 refine rx_s rfl rfl rfl rfl rfl ?_
  refine rx_end0 ?_
  refine SW.cond (b := true) rfl (fun _ => ?_) (fun h => nomatch h)
  refine SW.skip ?_
  try simp only [thenK, blockK, cond_true, cond_false, beq_self_eq_true, Nat.reduceBEq]
  refine SW.block ?_
  refine SW.seq ?_
  refine SW.reg (l := [.op 0 .e, .op 1 .e]) rfl ?_
  refine rx_s rfl rfl rfl rfl rfl ?_
  refine rx_callH (F := ?FT12) rfl rfl rfl rfl rfl rfl rfl rfl Fa.ca_21 rfl (s4 c d s b1 [⟨0, 0, 0, 0⟩, ⟨8, 0, 0, 0⟩] (by simp) f) ?T12 ?_
  case T12 => (repeat (first|exact Take.nil|refine Take.cons (by (repeat first|exact .here|apply Take1.there)) ?_))
  rintro _ _ ⟨q, m, c', rfl, rfl, rfl⟩
  try simp only [List.cons_append, List.nil_append]
  refine rx_end0 ?_
  refine SW.reg (l := [.op 0 .e, .op 1 .e, .op 2 .e]) rfl ?_
  refine rx_s rfl rfl rfl rfl rfl ?_
  refine rx_ar rfl rfl rfl rfl rfl (by omega) ?_
  refine rx_s rfl rfl rfl rfl rfl ?_
  refine rx_endL ?_
  try simp only [thenK, blockK, cond_true, cond_false, beq_self_eq_true, Nat.reduceBEq]
  refine SW.round ?_
  refine SW.seq ?_
  refine SW.seq ?_
  refine SW.reg (l := [.op 0 .e, .op 1 .e, .op 2 .e, .op 3 .e, .op 4 .e, .op 5 .e]) rfl ?_
  refine rx_s rfl rfl rfl rfl rfl ?_
  refine rx_callH (F := ?FT13) rfl rfl rfl rfl rfl rfl rfl rfl Fa.ca_26 rfl (Cl.ready c d s (nf := 58) (cap := #[.pointer (some ⟨b1, 0, none⟩)]) (C4 f q 0 c') D4 Rep.zero rfl) ?T13 ?_
  case T13 => (repeat (first|exact Take.nil|refine Take.cons (by (repeat first|exact .here|apply Take1.there)) ?_))
  rintro _ _ ⟨rfl, rfl⟩
  try simp only [List.cons_append, List.nil_append]
  refine rx_s rfl rfl rfl rfl rfl ?_
  refine rx_skip rfl rfl rfl rfl ?_
  refine rx_skip rfl rfl rfl rfl ?_
  refine rx_s rfl rfl rfl rfl rfl ?_
  refine rx_end0 ?_
  refine SW.cond (b := false) rfl (fun h => nomatch h) (fun _ => ?_)
  refine SW.exit ?_
  try simp only [thenK, blockK, cond_true, cond_false, beq_self_eq_true, Nat.reduceBEq]
  refine SW.seq ?_
  refine SW.fold (Hl' := [LoA.LogP b1 [⟨0, 0, 0, 0⟩, ⟨8, 0, 0, 0⟩, ⟨9, 0, 0, 0⟩], CP c d s b1 (C4 f q 0 c'), OLD w0 []]) (.one (by (repeat first|exact .here|apply Take1.there)) (.one (by (repeat first|exact .here|apply Take1.there)) (.one (by (repeat first|exact .here|apply Take1.there)) .nil))) ?_
  refine SW.exH 0 rfl ?_; rintro lv; simp only [List.cons_append, List.nil_append]
  refine SW.sloff 1 rfl (fun _ q => by simp [flat, enc, Enc.enc] at q) ?_
  intro lb off len cap' pre rest hv e1 e2 e3 e4 e5
  subst hv
  obtain rfl : len = 3 := by simp [flat, enc, Enc.enc] at e1; omega
  refine SW.reg (l := [.op 0 .e, .op 1 .e, .op 2 .e, .op 3 .e, .op 4 .e, .op 5 .e, .op 6 .e, .op 7 .e, .op 8 .e, .op 9 .e, .op 10 .e, .op 11 .e, .op 12 .e, .op 13 .e, .op 14 .e, .op 15 .e, .op 16 .e]) rfl ?_
  iterate 3 refine rx_s rfl rfl rfl rfl rfl ?_
  refine rx_ldH1 rfl rfl rfl rfl rfl rfl (by (repeat first|exact .here|apply Take1.there)) Fa.ag_37 (by rfl) ?_
  refine rx_build rfl rfl rfl rfl rfl Fa.st_41 rfl (cs := [_, _, _, _]) rfl ?_
  refine rx_build rfl rfl rfl rfl rfl Fa.st_41 rfl (cs := [_, _, _, _]) rfl ?_
  refine rx_build rfl rfl rfl rfl rfl Fa.st_41 rfl (cs := [_, _, _, _]) rfl ?_
  refine rx_bslice (.inr rfl) rfl rfl rfl rfl rfl Fa.sl_37 Fa.z_41 rfl rfl rfl rfl rfl (cl := [_, _, _, _, _, _, _, _, _, _, _, _]) rfl ?_
  intro b39
  refine rx_callH (F := ?FT14) rfl rfl rfl rfl rfl rfl rfl rfl Fa.ca_22 rfl (Rf.events lb b39 off 0 cap' 3 (pre ++ flat L3 ++ rest) (flat L3) 41 41 (0, 0) (0, 0) L3 L3 (by simp) (Rf.flat_dropO pre rest (e4 (by omega))) Rf.flat_drop0) ?T14 ?_
  case T14 => (repeat (first|exact Take.nil|refine Take.cons (by (repeat first|exact .here|apply Take1.there)) ?_))
  rintro _ _ ⟨rfl, rfl⟩
  try simp only [List.cons_append, List.nil_append]
  iterate 3 refine rx_s rfl rfl rfl rfl rfl ?_
  refine rx_callH (F := ?FT15) rfl rfl rfl rfl rfl rfl rfl rfl Fa.ca_25 rfl (Cl.answers c d s 58 #[.pointer (some ⟨b1, 0, none⟩)] (C4 f q 0 c') (by simp [Cl.cnew, Cli.ended])) ?T15 ?_
  case T15 => (repeat (first|exact Take.nil|refine Take.cons (by (repeat first|exact .here|apply Take1.there)) ?_))
  rintro _ _ ⟨pa, ma, ca, rfl, hm, rfl⟩
  obtain rfl : ma = 1 := hm
  try simp only [List.cons_append, List.nil_append]
  refine rx_len rfl rfl rfl rfl rfl rfl (lenV_sl Fa.sl_45 _ _ _) ?_
  iterate 3 refine rx_s rfl rfl rfl rfl rfl ?_
  refine rx_end0 ?_
  refine SW.ret ?_
  exact retK1 (l := [_]) (.tmp rfl .nil) ⟨rfl, rfl⟩ (.one (by (repeat first|exact .here|apply Take1.there)) .nil)
end Ak
end Go.Proofs.YtikkegelplllmaaGreatDoor
/- A log: a variable to which events are appended. -/
namespace Go.Proofs.YtikkegelplllmaaGreatDoor
open Go Go.Sl Go.Holt Go.Proofs
open Go.Holt.Enc (enc)
namespace LoW
def LogP (b : Nat) (L : List Ev) : HProp := exH fun v : Value => [blk b [v] 37 (0, 0), SlOff 41 4 v (flat L)]
theorem LogP.mk {b : Nat} {L : List Ev} {v : Value} {xs : List Value} (h : xs = flat L) : EntS (star [blk b [v] 37 (0, 0), SlOff 41 4 v xs]) (LogP b L) := by
  subst h
  exact exH.mk (fun v : Value => [blk b [v] 37 (0, 0), SlOff 41 4 v (flat L)]) v
theorem foldL {b : Nat} {L : List Ev} {v : Value} {l l' : List HProp} (h : EntL l (blk b [v] 37 (0, 0) :: SlOff 41 4 v (flat L) :: l')) : EntL l (LogP b L :: l') :=
  EntL.fold (ps := [blk b [v] 37 (0, 0), SlOff 41 4 v (flat L)]) h (LogP.mk rfl)
theorem note (b : Nat) (L : List Ev) (e : Ev) (hL : L.length ≤ 1000000) : Sl.Spec Tryz.prog 20 #[.agg (enc e).toArray, .pointer (some ⟨b, 0, none⟩)] [LogP b L] (fun v l => v = .tuple #[] ∧ l = [LogP b (L ++ [e])]) := by
  refine Spec.enter Tryz.func20 rfl rfl rfl ?_
  refine SW.exH 0 rfl ?_; rintro lv; simp only [List.cons_append, List.nil_append]
  refine SW.seq ?_
  refine SW.reg (l := [.op 0 .e]) rfl ?_
  refine rx_box (.inr rfl) rfl rfl rfl rfl rfl rfl (cl := [_, _, _, _]) rfl ?_
  intro b2
  refine rx_end0 ?_
  refine SW.reg (l := [.op 0 .e, .op 1 .e, .op 2 .e, .op 3 .e, .op 4 .e]) rfl ?_
  refine rx_ldH1 rfl rfl rfl rfl rfl rfl (by (repeat first|exact .here|apply Take1.there)) Fa.ag_37 (by rfl) ?_
  refine rx_ldHA rfl rfl rfl rfl rfl rfl (by (repeat first|exact .here|apply Take1.there)) Fa.ag_41 Fa.sz_41 (vs := [_, _, _, _]) (by rfl) rfl ?_
  refine rx_bslice (.inr rfl) rfl rfl rfl rfl rfl Fa.sl_37 Fa.z_41 rfl rfl rfl rfl rfl (cl := [_, _, _, _]) rfl ?_
  intro b5
  refine rx_appO1 rfl rfl rfl rfl rfl Fa.sl_37 Fa.z_41 rfl rfl rfl rfl rfl (by (repeat first|exact .here|apply Take1.there)) (by (repeat first|exact .here|apply Take1.there)) (ys := [_, _, _, _]) (by rfl) rfl rfl (by rw [flat_len, show Enc.n Ev = 4 from rfl]; simp; omega) ?_
  intro p6 m6 c6 hm6
  refine rx_stp rfl rfl rfl rfl rfl rfl (by (repeat first|exact .here|apply Take1.there)) Fa.sz_37 (vs := [_]) rfl rfl rfl (by rfl) (cl' := _) (by rfl) ?_
  refine rx_endL ?_
  exact retK0e (l := [_]) .nil ⟨rfl, rfl⟩ (.cons (.cons (by (repeat first|exact .here|apply Take1.there)) (.cons (by (repeat first|exact .here|apply Take1.there)) .nil)) (LogP.mk (flat_append' L e).symm) .nil)
theorem isNote (b : Nat) : Note Tryz.prog 20 #[.pointer (some ⟨b, 0, none⟩)] (LogP b) := ⟨Fa.ca_20, fun l e h => note b l e h⟩
end LoW
end Go.Proofs.YtikkegelplllmaaGreatDoor
/- Are two answers one? -/
namespace Go.Proofs.YtikkegelplllmaaGreatDoor
open Go Go.Sl Go.Holt Go.Proofs Go.RowKit
open Go.Holt.Enc (enc)
namespace Sm
theorem kids (S : HProp) (p1 p2 : Option Addr) (c1 c2 : Nat) (k1 k2 : List Kid) (h1 : Rd S p1 (flat k1)) (h2 : Rd S p2 (flat k2)) (hn : k1.length ≤ 1000000) :
    Sl.Spec Tryz.prog 68 #[.slice p1 k1.length c1, .slice p2 k2.length c2] [S] (fun v l => v = .bool (decide (k1 = k2)) ∧ l = [S]) := by
  refine Spec.enter Tryz.func68 rfl rfl rfl ?_
  refine SW.seq ?_
  refine SW.reg (l := [.op 0 .e]) rfl ?_
  refine rx_s rfl rfl rfl rfl rfl ?_
  refine rx_end0 ?_
  refine SW.seq ?_
  refine SW.seq ?_
  refine SW.reg (l := [.op 0 .e, .op 1 .e, .op 2 .e, .op 3 .e, .op 4 .e]) rfl ?_
  refine rx_s rfl rfl rfl rfl rfl ?_
  refine rx_len rfl rfl rfl rfl rfl rfl (lenV_sl Fa.sl_26 _ _ _) ?_
  refine rx_s rfl rfl rfl rfl rfl ?_
  refine rx_len rfl rfl rfl rfl rfl rfl (lenV_sl Fa.sl_26 _ _ _) ?_
  refine rx_s rfl rfl rfl rfl rfl ?_
  refine rx_end0 ?_
  refine SW.cond rfl (fun h10 => ?_) (fun h10 => ?_)
  · skip
    have hne : k1 ≠ k2 := by rintro rfl; simp at h10
    refine SW.seq ?_
    refine SW.reg (l := [.op 0 .e]) rfl ?_
    refine rx_s rfl rfl rfl rfl rfl ?_
    refine rx_end0 ?_
    refine SW.ret ?_
    exact retK1 (l := [_]) (.tmp rfl .nil) ⟨by simp [hne], rfl⟩ (.one (by (repeat first|exact .here|apply Take1.there)) .nil)
  · skip
    have hlen : k1.length = k2.length := by simp at h10; omega
    refine SW.skip ?_
    try simp only [thenK, blockK, cond_true, cond_false, beq_self_eq_true, Nat.reduceBEq]
    refine SW.seq ?_
    refine SW.seq ?_
    refine SW.reg (l := [.op 0 .e]) rfl ?_
    refine rx_s rfl rfl rfl rfl rfl ?_
    refine rx_end0 ?_
    refine SW.block ?_
    refine SW.loop (fun q e' H' => ∃ (i : Nat), q = k1.length - i ∧ i ≤ k1.length ∧ k1.take i = k2.take i ∧ H' = star [S] ∧
      EnvLe (upd (upd (upd noEnv 0 (.slice p1 k1.length c1)) 1 (.slice p2 k2.length c2)) 5 (.int .i64 i)) e') k1.length ⟨0, rfl, Nat.zero_le _, rfl, rfl, .cons (.cons (.cons .nil rfl) rfl) rfl⟩ ?_
    rintro q e' _ ⟨i, rfl, hi, htk, rfl, hle⟩
    refine SW.forget hle ?_
    refine SW.seq ?_
    refine SW.seq ?_
    refine SW.reg (l := [.op 0 .e, .op 1 .e, .op 2 .e, .op 3 .e]) rfl ?_
    iterate 2 refine rx_s rfl rfl rfl rfl rfl ?_
    refine rx_len rfl rfl rfl rfl rfl rfl (lenV_sl Fa.sl_26 _ _ _) ?_
    refine rx_s rfl rfl rfl rfl rfl ?_
    refine rx_end0 ?_
    refine SW.cond rfl (fun h14 => ?_) (fun h14 => ?_)
    · skip
      have hi' : i < k1.length := by have := of_decide_eq_true h14; omega
      have hi2 : i < k2.length := by omega
      have n1 : flat k1 ≠ [] := flat_ne (List.getElem?_eq_getElem hi') (by decide)
      have n2 : flat k2 ≠ [] := flat_ne (List.getElem?_eq_getElem hi2) (by decide)
      obtain ⟨b1, o1, e1, r1⟩ := h1.at n1
      obtain ⟨b2, o2, e2, r2⟩ := h2.at n2
      subst e1 e2
      have g1 := r1.elem (List.getElem?_eq_getElem hi')
      have g2 := r2.elem (List.getElem?_eq_getElem hi2)
      refine SW.skip ?_
      try simp only [thenK, blockK, cond_true, cond_false, beq_self_eq_true, Nat.reduceBEq]
      refine SW.seq ?_
      refine SW.block ?_
      refine SW.seq ?_
      refine SW.drawAll Fa.mix (tp := [0, 0, 3, 7, 0, 0, 48, 112, 255]) (l := [.op 0 .s, .op 1 .s, .op 2 .s, .op 3 .d, .op 4 .s, .op 5 .s, .op 6 .s, .op 7 .d, .op 8 .s]) (by kernel_rfl) ?_
      iterate 2 refine rx_s rfl rfl rfl rfl rfl ?_
      refine rx_ix rfl rfl rfl rfl rfl Fa.sl_26 rfl rfl (by omega) ?_
      refine rx_rdDA rfl rfl rfl rfl rfl rfl rfl (by rw [show (i : Int).toNat = i from rfl]; exact g1) (by (repeat first|exact .here|apply Take1.there)) Fa.ag_73 Fa.sz_73 (by rfl) ?_
      iterate 2 refine rx_s rfl rfl rfl rfl rfl ?_
      refine rx_ix rfl rfl rfl rfl rfl Fa.sl_26 rfl rfl (by omega) ?_
      refine rx_rdDA rfl rfl rfl rfl rfl rfl rfl (by rw [show (i : Int).toNat = i from rfl]; exact g2) (by (repeat first|exact .here|apply Take1.there)) Fa.ag_73 Fa.sz_73 (by rfl) ?_
      refine rx_neS rfl rfl rfl rfl rfl Fa.eq_73 rfl rfl rfl ?_
      refine rx_endD ?_
      try simp only [List.cons_append, List.nil_append]
      refine SW.cond rfl (fun h25 => ?_) (fun h25 => ?_)
      · skip
        refine SW.seq ?_
        refine SW.reg (l := [.op 0 .e]) rfl ?_
        refine rx_s rfl rfl rfl rfl rfl ?_
        refine rx_end0 ?_
        refine SW.ret ?_
        have hne : k1 ≠ k2 := by rintro rfl; simp at h25
        exact retK1 (l := [_]) (.tmp rfl .nil) ⟨by simp [hne], rfl⟩ (.one (by (repeat first|exact .here|apply Take1.there)) .nil)
      · skip
        refine SW.skip ?_
        try simp only [thenK, blockK, cond_true, cond_false, beq_self_eq_true, Nat.reduceBEq]
        refine SW.reg (l := [.op 0 .e, .op 1 .e, .op 2 .e]) rfl ?_
        refine rx_s rfl rfl rfl rfl rfl ?_
        refine rx_ar rfl rfl rfl rfl rfl (by omega) ?_
        refine rx_s rfl rfl rfl rfl rfl ?_
        refine rx_end0 ?_
        have he : k1[i] = k2[i] := by have h := h25; revert h; generalize k1[i] = x; generalize k2[i] = y; rcases x with ⟨a, b, c⟩; rcases y with ⟨a', b', c'⟩; intro h; simp at h; simp [h.1, ba_ext h.2.1, h.2.2]
        exact ⟨k1.length - (i + 1), by omega, i + 1, rfl, by omega, by rw [List.take_succ_eq_append_getElem hi', List.take_succ_eq_append_getElem hi2, htk, he], rfl, .cons (.cons (.cons .nil rfl) rfl) rfl⟩
    · skip
      have hi' : i = k1.length := by simp at h14; omega
      refine SW.exit ?_
      try simp only [thenK, blockK, cond_true, cond_false, beq_self_eq_true, Nat.reduceBEq]
      refine SW.seq ?_
      refine SW.reg (l := [.op 0 .e]) rfl ?_
      refine rx_s rfl rfl rfl rfl rfl ?_
      refine rx_end0 ?_
      refine SW.ret ?_
      exact retK1 (l := [_]) (.tmp rfl .nil) ⟨by rw [hi', List.take_length, hlen, List.take_length] at htk; simp [htk], rfl⟩ (.one (by (repeat first|exact .here|apply Take1.there)) .nil)
theorem str_beq (s t : ByteArray) : (s.toList == t.toList) = decide (s = t) := by
  by_cases h : s = t
  · subst h; simp
  · rw [decide_eq_false h]
    have : ¬ s.toList = t.toList := fun e => h (ba_ext e)
    simpa using this
/-- What is known of an answer's bytes. -/
def BytesAt (S : HProp) (s : Sli) (d : List Int) : Prop := d.length = s.m ∧ (d = [] ∨ ∃ b off, s.p = some ⟨b, off, none⟩ ∧ RdAt S b off (d.map (.int .u8)))
theorem bytesNil (S : HProp) : BytesAt S Sli.none [] := ⟨rfl, .inl rfl⟩
theorem BytesAt.sepL {S T : HProp} {s : Sli} {d : List Int} (h : BytesAt S s d) : BytesAt (sep S T) s d := ⟨h.1, h.2.imp id fun ⟨b, o, e, q⟩ => ⟨b, o, e, q.sepL⟩⟩
theorem BytesAt.sepR {S T : HProp} {s : Sli} {d : List Int} (h : BytesAt S s d) : BytesAt (sep T S) s d := ⟨h.1, h.2.imp id fun ⟨b, o, e, q⟩ => ⟨b, o, e, q.sepR⟩⟩
theorem answers (S : HProp) (a b : Ans) (k1 k2 : List Kid) (d1 d2 : List Int) (h1 : Rd S a.kids.p (flat k1)) (m1 : a.kids.m = k1.length) (h2 : Rd S b.kids.p (flat k2)) (m2 : b.kids.m = k2.length) (hn : k1.length ≤ 1000000)
    (g1 : BytesAt S a.data d1) (g2 : BytesAt S b.data d2) :
    Sl.Spec Tryz.prog 27 #[.agg (enc a).toArray, .agg (enc b).toArray] [S]
      (fun v l => v = .bool (decide (k1 = k2 ∧ a.e = b.e ∧ a.version = b.version ∧ a.node = b.node ∧ strOfNums d1 = strOfNums d2)) ∧ l = [S]) := by
  have hs := kids S a.kids.p b.kids.p a.kids.c b.kids.c k1 k2 h1 h2 hn
  rw [← m1, ← m2] at hs
  refine Spec.enter Tryz.func27 rfl rfl rfl ?_
  refine SW.seq ?_
  refine SW.reg (l := [.op 0 .e, .op 1 .e, .op 2 .e]) rfl ?_
  refine rx_box (.inr rfl) rfl rfl rfl rfl rfl rfl (cl := [_, _, _, _, _]) rfl ?_
  intro b2
  refine rx_box (.inr rfl) rfl rfl rfl rfl rfl rfl (cl := [_, _, _, _, _]) rfl ?_
  intro b3
  refine rx_s rfl rfl rfl rfl rfl ?_
  refine rx_end0 ?_
  refine SW.seq ?_
  refine SW.reg (l := [.op 0 .e, .op 1 .e, .op 2 .e, .op 3 .e, .op 4 .e, .op 5 .e]) rfl ?_
  refine rx_fa rfl rfl rfl rfl rfl rfl Fa.fo_28_3 ?_
  refine rx_ldH1 rfl rfl rfl rfl rfl rfl (by (repeat first|exact .here|apply Take1.there)) Fa.ag_26 (by rfl) ?_
  refine rx_fa rfl rfl rfl rfl rfl rfl Fa.fo_28_3 ?_
  refine rx_ldH1 rfl rfl rfl rfl rfl rfl (by (repeat first|exact .here|apply Take1.there)) Fa.ag_26 (by rfl) ?_
  refine rx_callH (F := ?FT1) rfl rfl rfl rfl rfl rfl rfl rfl Fa.ca_68 rfl (hs) ?T1 ?_
  case T1 => (repeat (first|exact Take.nil|refine Take.cons (by (repeat first|exact .here|apply Take1.there)) ?_))
  rintro _ _ ⟨rfl, rfl⟩
  try simp only [List.cons_append, List.nil_append]
  refine rx_s rfl rfl rfl rfl rfl ?_
  refine rx_end0 ?_
  refine SW.seq ?_
  refine SW.reg (l := [.op 0 .e, .op 1 .e, .op 2 .e, .op 3 .e, .op 4 .e, .op 5 .e, .op 6 .e, .op 7 .e, .op 8 .e, .op 9 .e, .op 10 .e, .op 11 .e, .op 12 .e, .op 13 .e, .op 14 .e, .op 15 .e, .op 16 .e, .op 17 .e, .op 18 .e, .op 19 .e, .op 20 .e, .op 21 .e, .op 22 .e, .op 23 .e, .op 24 .e, .op 25 .e, .op 26 .e, .op 27 .e, .op 28 .e, .op 29 .e, .op 30 .e, .op 31 .e]) rfl ?_
  iterate 2 refine rx_s rfl rfl rfl rfl rfl ?_
  refine rx_split (t := 12) rfl (fun g12 => ?_) (fun g12 => ?_)
  · skip
    refine rx_fa rfl rfl rfl rfl rfl rfl Fa.fo_28_0 ?_
    refine rx_ldH1 rfl rfl rfl rfl rfl rfl (by (repeat first|exact .here|apply Take1.there)) Fa.ag_25 (by rfl) ?_
    refine rx_fa rfl rfl rfl rfl rfl rfl Fa.fo_28_0 ?_
    refine rx_ldH1 rfl rfl rfl rfl rfl rfl (by (repeat first|exact .here|apply Take1.there)) Fa.ag_25 (by rfl) ?_
    iterate 3 refine rx_s rfl rfl rfl rfl rfl ?_
    refine rx_split (t := 19) rfl (fun g19 => ?_) (fun g19 => ?_)
    · skip
      refine rx_fa rfl rfl rfl rfl rfl rfl Fa.fo_28_1 ?_
      refine rx_ldH1 rfl rfl rfl rfl rfl rfl (by (repeat first|exact .here|apply Take1.there)) Fa.ag_3 (by rfl) ?_
      refine rx_fa rfl rfl rfl rfl rfl rfl Fa.fo_28_1 ?_
      refine rx_ldH1 rfl rfl rfl rfl rfl rfl (by (repeat first|exact .here|apply Take1.there)) Fa.ag_3 (by rfl) ?_
      iterate 3 refine rx_s rfl rfl rfl rfl rfl ?_
      refine rx_split (t := 26) rfl (fun g26 => ?_) (fun g26 => ?_)
      · skip
        refine rx_fa rfl rfl rfl rfl rfl rfl Fa.fo_28_2 ?_
        refine rx_ldH1 rfl rfl rfl rfl rfl rfl (by (repeat first|exact .here|apply Take1.there)) Fa.ag_3 (by rfl) ?_
        refine rx_fa rfl rfl rfl rfl rfl rfl Fa.fo_28_2 ?_
        refine rx_ldH1 rfl rfl rfl rfl rfl rfl (by (repeat first|exact .here|apply Take1.there)) Fa.ag_3 (by rfl) ?_
        iterate 3 refine rx_s rfl rfl rfl rfl rfl ?_
        refine rx_split (t := 33) rfl (fun g33 => ?_) (fun g33 => ?_)
        · skip
          refine rx_fa rfl rfl rfl rfl rfl rfl Fa.fo_28_4 ?_
          refine rx_ldH1 rfl rfl rfl rfl rfl rfl (by (repeat first|exact .here|apply Take1.there)) Fa.ag_22 (by rfl) ?_
          refine rx_b2sR rfl rfl rfl rfl rfl Fa.by_22 Fa.ss_9 rfl (xs := d1) (g1.1) (g1.2) (by (repeat first|exact .here|apply Take1.there)) ?_
          refine rx_fa rfl rfl rfl rfl rfl rfl Fa.fo_28_4 ?_
          refine rx_ldH1 rfl rfl rfl rfl rfl rfl (by (repeat first|exact .here|apply Take1.there)) Fa.ag_22 (by rfl) ?_
          refine rx_b2sR rfl rfl rfl rfl rfl Fa.by_22 Fa.ss_9 rfl (xs := d2) (g2.1) (g2.2) (by (repeat first|exact .here|apply Take1.there)) ?_
          iterate 3 refine rx_s rfl rfl rfl rfl rfl ?_
          refine rx_end0 ?_
          refine SW.ret ?_
          exact retK1 (l := [_]) (.tmp rfl .nil) ⟨by simp_all <;> exact str_beq _ _, rfl⟩ (.one (by (repeat first|exact .here|apply Take1.there)) .nil)
        · skip
          refine rx_skip rfl rfl rfl rfl ?_
          refine rx_skip rfl rfl rfl rfl ?_
          refine rx_skip rfl rfl rfl rfl ?_
          refine rx_skip rfl rfl rfl rfl ?_
          refine rx_skip rfl rfl rfl rfl ?_
          refine rx_skip rfl rfl rfl rfl ?_
          refine rx_skip rfl rfl rfl rfl ?_
          iterate 2 refine rx_s rfl rfl rfl rfl rfl ?_
          refine rx_end0 ?_
          refine SW.ret ?_
          exact retK1 (l := [_]) (.tmp rfl .nil) ⟨by simp_all <;> exact str_beq _ _, rfl⟩ (.one (by (repeat first|exact .here|apply Take1.there)) .nil)
      · skip
        refine rx_skip rfl rfl rfl rfl ?_
        refine rx_skip rfl rfl rfl rfl ?_
        refine rx_skip rfl rfl rfl rfl ?_
        refine rx_skip rfl rfl rfl rfl ?_
        refine rx_skip rfl rfl rfl rfl ?_
        iterate 2 refine rx_s rfl rfl rfl rfl rfl ?_
        refine rx_split (t := 33) rfl (fun g33 => ?_) (fun g33 => ?_)
        · skip
          refine rx_fa rfl rfl rfl rfl rfl rfl Fa.fo_28_4 ?_
          refine rx_ldH1 rfl rfl rfl rfl rfl rfl (by (repeat first|exact .here|apply Take1.there)) Fa.ag_22 (by rfl) ?_
          refine rx_b2sR rfl rfl rfl rfl rfl Fa.by_22 Fa.ss_9 rfl (xs := d1) (g1.1) (g1.2) (by (repeat first|exact .here|apply Take1.there)) ?_
          refine rx_fa rfl rfl rfl rfl rfl rfl Fa.fo_28_4 ?_
          refine rx_ldH1 rfl rfl rfl rfl rfl rfl (by (repeat first|exact .here|apply Take1.there)) Fa.ag_22 (by rfl) ?_
          refine rx_b2sR rfl rfl rfl rfl rfl Fa.by_22 Fa.ss_9 rfl (xs := d2) (g2.1) (g2.2) (by (repeat first|exact .here|apply Take1.there)) ?_
          iterate 3 refine rx_s rfl rfl rfl rfl rfl ?_
          refine rx_end0 ?_
          refine SW.ret ?_
          exact retK1 (l := [_]) (.tmp rfl .nil) ⟨by simp_all <;> exact str_beq _ _, rfl⟩ (.one (by (repeat first|exact .here|apply Take1.there)) .nil)
        · skip
          refine rx_skip rfl rfl rfl rfl ?_
          refine rx_skip rfl rfl rfl rfl ?_
          refine rx_skip rfl rfl rfl rfl ?_
          refine rx_skip rfl rfl rfl rfl ?_
          refine rx_skip rfl rfl rfl rfl ?_
          refine rx_skip rfl rfl rfl rfl ?_
          refine rx_skip rfl rfl rfl rfl ?_
          iterate 2 refine rx_s rfl rfl rfl rfl rfl ?_
          refine rx_end0 ?_
          refine SW.ret ?_
          exact retK1 (l := [_]) (.tmp rfl .nil) ⟨by simp_all <;> exact str_beq _ _, rfl⟩ (.one (by (repeat first|exact .here|apply Take1.there)) .nil)
    · skip
      refine rx_skip rfl rfl rfl rfl ?_
      refine rx_skip rfl rfl rfl rfl ?_
      refine rx_skip rfl rfl rfl rfl ?_
      refine rx_skip rfl rfl rfl rfl ?_
      refine rx_skip rfl rfl rfl rfl ?_
      iterate 2 refine rx_s rfl rfl rfl rfl rfl ?_
      refine rx_split (t := 26) rfl (fun g26 => ?_) (fun g26 => ?_)
      · skip
        refine rx_fa rfl rfl rfl rfl rfl rfl Fa.fo_28_2 ?_
        refine rx_ldH1 rfl rfl rfl rfl rfl rfl (by (repeat first|exact .here|apply Take1.there)) Fa.ag_3 (by rfl) ?_
        refine rx_fa rfl rfl rfl rfl rfl rfl Fa.fo_28_2 ?_
        refine rx_ldH1 rfl rfl rfl rfl rfl rfl (by (repeat first|exact .here|apply Take1.there)) Fa.ag_3 (by rfl) ?_
        iterate 3 refine rx_s rfl rfl rfl rfl rfl ?_
        refine rx_split (t := 33) rfl (fun g33 => ?_) (fun g33 => ?_)
        · skip
          refine rx_fa rfl rfl rfl rfl rfl rfl Fa.fo_28_4 ?_
          refine rx_ldH1 rfl rfl rfl rfl rfl rfl (by (repeat first|exact .here|apply Take1.there)) Fa.ag_22 (by rfl) ?_
          refine rx_b2sR rfl rfl rfl rfl rfl Fa.by_22 Fa.ss_9 rfl (xs := d1) (g1.1) (g1.2) (by (repeat first|exact .here|apply Take1.there)) ?_
          refine rx_fa rfl rfl rfl rfl rfl rfl Fa.fo_28_4 ?_
          refine rx_ldH1 rfl rfl rfl rfl rfl rfl (by (repeat first|exact .here|apply Take1.there)) Fa.ag_22 (by rfl) ?_
          refine rx_b2sR rfl rfl rfl rfl rfl Fa.by_22 Fa.ss_9 rfl (xs := d2) (g2.1) (g2.2) (by (repeat first|exact .here|apply Take1.there)) ?_
          iterate 3 refine rx_s rfl rfl rfl rfl rfl ?_
          refine rx_end0 ?_
          refine SW.ret ?_
          exact retK1 (l := [_]) (.tmp rfl .nil) ⟨by simp_all <;> exact str_beq _ _, rfl⟩ (.one (by (repeat first|exact .here|apply Take1.there)) .nil)
        · skip
          refine rx_skip rfl rfl rfl rfl ?_
          refine rx_skip rfl rfl rfl rfl ?_
          refine rx_skip rfl rfl rfl rfl ?_
          refine rx_skip rfl rfl rfl rfl ?_
          refine rx_skip rfl rfl rfl rfl ?_
          refine rx_skip rfl rfl rfl rfl ?_
          refine rx_skip rfl rfl rfl rfl ?_
          iterate 2 refine rx_s rfl rfl rfl rfl rfl ?_
          refine rx_end0 ?_
          refine SW.ret ?_
          exact retK1 (l := [_]) (.tmp rfl .nil) ⟨by simp_all <;> exact str_beq _ _, rfl⟩ (.one (by (repeat first|exact .here|apply Take1.there)) .nil)
      · skip
        refine rx_skip rfl rfl rfl rfl ?_
        refine rx_skip rfl rfl rfl rfl ?_
        refine rx_skip rfl rfl rfl rfl ?_
        refine rx_skip rfl rfl rfl rfl ?_
        refine rx_skip rfl rfl rfl rfl ?_
        iterate 2 refine rx_s rfl rfl rfl rfl rfl ?_
        refine rx_split (t := 33) rfl (fun g33 => ?_) (fun g33 => ?_)
        · skip
          refine rx_fa rfl rfl rfl rfl rfl rfl Fa.fo_28_4 ?_
          refine rx_ldH1 rfl rfl rfl rfl rfl rfl (by (repeat first|exact .here|apply Take1.there)) Fa.ag_22 (by rfl) ?_
          refine rx_b2sR rfl rfl rfl rfl rfl Fa.by_22 Fa.ss_9 rfl (xs := d1) (g1.1) (g1.2) (by (repeat first|exact .here|apply Take1.there)) ?_
          refine rx_fa rfl rfl rfl rfl rfl rfl Fa.fo_28_4 ?_
          refine rx_ldH1 rfl rfl rfl rfl rfl rfl (by (repeat first|exact .here|apply Take1.there)) Fa.ag_22 (by rfl) ?_
          refine rx_b2sR rfl rfl rfl rfl rfl Fa.by_22 Fa.ss_9 rfl (xs := d2) (g2.1) (g2.2) (by (repeat first|exact .here|apply Take1.there)) ?_
          iterate 3 refine rx_s rfl rfl rfl rfl rfl ?_
          refine rx_end0 ?_
          refine SW.ret ?_
          exact retK1 (l := [_]) (.tmp rfl .nil) ⟨by simp_all <;> exact str_beq _ _, rfl⟩ (.one (by (repeat first|exact .here|apply Take1.there)) .nil)
        · skip
          refine rx_skip rfl rfl rfl rfl ?_
          refine rx_skip rfl rfl rfl rfl ?_
          refine rx_skip rfl rfl rfl rfl ?_
          refine rx_skip rfl rfl rfl rfl ?_
          refine rx_skip rfl rfl rfl rfl ?_
          refine rx_skip rfl rfl rfl rfl ?_
          refine rx_skip rfl rfl rfl rfl ?_
          iterate 2 refine rx_s rfl rfl rfl rfl rfl ?_
          refine rx_end0 ?_
          refine SW.ret ?_
          exact retK1 (l := [_]) (.tmp rfl .nil) ⟨by simp_all <;> exact str_beq _ _, rfl⟩ (.one (by (repeat first|exact .here|apply Take1.there)) .nil)
  · skip
    refine rx_skip rfl rfl rfl rfl ?_
    refine rx_skip rfl rfl rfl rfl ?_
    refine rx_skip rfl rfl rfl rfl ?_
    refine rx_skip rfl rfl rfl rfl ?_
    refine rx_skip rfl rfl rfl rfl ?_
    iterate 2 refine rx_s rfl rfl rfl rfl rfl ?_
    refine rx_split (t := 19) rfl (fun g19 => ?_) (fun g19 => ?_)
    · skip
      refine rx_fa rfl rfl rfl rfl rfl rfl Fa.fo_28_1 ?_
      refine rx_ldH1 rfl rfl rfl rfl rfl rfl (by (repeat first|exact .here|apply Take1.there)) Fa.ag_3 (by rfl) ?_
      refine rx_fa rfl rfl rfl rfl rfl rfl Fa.fo_28_1 ?_
      refine rx_ldH1 rfl rfl rfl rfl rfl rfl (by (repeat first|exact .here|apply Take1.there)) Fa.ag_3 (by rfl) ?_
      iterate 3 refine rx_s rfl rfl rfl rfl rfl ?_
      refine rx_split (t := 26) rfl (fun g26 => ?_) (fun g26 => ?_)
      · skip
        refine rx_fa rfl rfl rfl rfl rfl rfl Fa.fo_28_2 ?_
        refine rx_ldH1 rfl rfl rfl rfl rfl rfl (by (repeat first|exact .here|apply Take1.there)) Fa.ag_3 (by rfl) ?_
        refine rx_fa rfl rfl rfl rfl rfl rfl Fa.fo_28_2 ?_
        refine rx_ldH1 rfl rfl rfl rfl rfl rfl (by (repeat first|exact .here|apply Take1.there)) Fa.ag_3 (by rfl) ?_
        iterate 3 refine rx_s rfl rfl rfl rfl rfl ?_
        refine rx_split (t := 33) rfl (fun g33 => ?_) (fun g33 => ?_)
        · skip
          refine rx_fa rfl rfl rfl rfl rfl rfl Fa.fo_28_4 ?_
          refine rx_ldH1 rfl rfl rfl rfl rfl rfl (by (repeat first|exact .here|apply Take1.there)) Fa.ag_22 (by rfl) ?_
          refine rx_b2sR rfl rfl rfl rfl rfl Fa.by_22 Fa.ss_9 rfl (xs := d1) (g1.1) (g1.2) (by (repeat first|exact .here|apply Take1.there)) ?_
          refine rx_fa rfl rfl rfl rfl rfl rfl Fa.fo_28_4 ?_
          refine rx_ldH1 rfl rfl rfl rfl rfl rfl (by (repeat first|exact .here|apply Take1.there)) Fa.ag_22 (by rfl) ?_
          refine rx_b2sR rfl rfl rfl rfl rfl Fa.by_22 Fa.ss_9 rfl (xs := d2) (g2.1) (g2.2) (by (repeat first|exact .here|apply Take1.there)) ?_
          iterate 3 refine rx_s rfl rfl rfl rfl rfl ?_
          refine rx_end0 ?_
          refine SW.ret ?_
          exact retK1 (l := [_]) (.tmp rfl .nil) ⟨by simp_all <;> exact str_beq _ _, rfl⟩ (.one (by (repeat first|exact .here|apply Take1.there)) .nil)
        · skip
          refine rx_skip rfl rfl rfl rfl ?_
          refine rx_skip rfl rfl rfl rfl ?_
          refine rx_skip rfl rfl rfl rfl ?_
          refine rx_skip rfl rfl rfl rfl ?_
          refine rx_skip rfl rfl rfl rfl ?_
          refine rx_skip rfl rfl rfl rfl ?_
          refine rx_skip rfl rfl rfl rfl ?_
          iterate 2 refine rx_s rfl rfl rfl rfl rfl ?_
          refine rx_end0 ?_
          refine SW.ret ?_
          exact retK1 (l := [_]) (.tmp rfl .nil) ⟨by simp_all <;> exact str_beq _ _, rfl⟩ (.one (by (repeat first|exact .here|apply Take1.there)) .nil)
      · skip
        refine rx_skip rfl rfl rfl rfl ?_
        refine rx_skip rfl rfl rfl rfl ?_
        refine rx_skip rfl rfl rfl rfl ?_
        refine rx_skip rfl rfl rfl rfl ?_
        refine rx_skip rfl rfl rfl rfl ?_
        iterate 2 refine rx_s rfl rfl rfl rfl rfl ?_
        refine rx_split (t := 33) rfl (fun g33 => ?_) (fun g33 => ?_)
        · skip
          refine rx_fa rfl rfl rfl rfl rfl rfl Fa.fo_28_4 ?_
          refine rx_ldH1 rfl rfl rfl rfl rfl rfl (by (repeat first|exact .here|apply Take1.there)) Fa.ag_22 (by rfl) ?_
          refine rx_b2sR rfl rfl rfl rfl rfl Fa.by_22 Fa.ss_9 rfl (xs := d1) (g1.1) (g1.2) (by (repeat first|exact .here|apply Take1.there)) ?_
          refine rx_fa rfl rfl rfl rfl rfl rfl Fa.fo_28_4 ?_
          refine rx_ldH1 rfl rfl rfl rfl rfl rfl (by (repeat first|exact .here|apply Take1.there)) Fa.ag_22 (by rfl) ?_
          refine rx_b2sR rfl rfl rfl rfl rfl Fa.by_22 Fa.ss_9 rfl (xs := d2) (g2.1) (g2.2) (by (repeat first|exact .here|apply Take1.there)) ?_
          iterate 3 refine rx_s rfl rfl rfl rfl rfl ?_
          refine rx_end0 ?_
          refine SW.ret ?_
          exact retK1 (l := [_]) (.tmp rfl .nil) ⟨by simp_all <;> exact str_beq _ _, rfl⟩ (.one (by (repeat first|exact .here|apply Take1.there)) .nil)
        · skip
          refine rx_skip rfl rfl rfl rfl ?_
          refine rx_skip rfl rfl rfl rfl ?_
          refine rx_skip rfl rfl rfl rfl ?_
          refine rx_skip rfl rfl rfl rfl ?_
          refine rx_skip rfl rfl rfl rfl ?_
          refine rx_skip rfl rfl rfl rfl ?_
          refine rx_skip rfl rfl rfl rfl ?_
          iterate 2 refine rx_s rfl rfl rfl rfl rfl ?_
          refine rx_end0 ?_
          refine SW.ret ?_
          exact retK1 (l := [_]) (.tmp rfl .nil) ⟨by simp_all <;> exact str_beq _ _, rfl⟩ (.one (by (repeat first|exact .here|apply Take1.there)) .nil)
    · skip
      refine rx_skip rfl rfl rfl rfl ?_
      refine rx_skip rfl rfl rfl rfl ?_
      refine rx_skip rfl rfl rfl rfl ?_
      refine rx_skip rfl rfl rfl rfl ?_
      refine rx_skip rfl rfl rfl rfl ?_
      iterate 2 refine rx_s rfl rfl rfl rfl rfl ?_
      refine rx_split (t := 26) rfl (fun g26 => ?_) (fun g26 => ?_)
      · skip
        refine rx_fa rfl rfl rfl rfl rfl rfl Fa.fo_28_2 ?_
        refine rx_ldH1 rfl rfl rfl rfl rfl rfl (by (repeat first|exact .here|apply Take1.there)) Fa.ag_3 (by rfl) ?_
        refine rx_fa rfl rfl rfl rfl rfl rfl Fa.fo_28_2 ?_
        refine rx_ldH1 rfl rfl rfl rfl rfl rfl (by (repeat first|exact .here|apply Take1.there)) Fa.ag_3 (by rfl) ?_
        iterate 3 refine rx_s rfl rfl rfl rfl rfl ?_
        refine rx_split (t := 33) rfl (fun g33 => ?_) (fun g33 => ?_)
        · skip
          refine rx_fa rfl rfl rfl rfl rfl rfl Fa.fo_28_4 ?_
          refine rx_ldH1 rfl rfl rfl rfl rfl rfl (by (repeat first|exact .here|apply Take1.there)) Fa.ag_22 (by rfl) ?_
          refine rx_b2sR rfl rfl rfl rfl rfl Fa.by_22 Fa.ss_9 rfl (xs := d1) (g1.1) (g1.2) (by (repeat first|exact .here|apply Take1.there)) ?_
          refine rx_fa rfl rfl rfl rfl rfl rfl Fa.fo_28_4 ?_
          refine rx_ldH1 rfl rfl rfl rfl rfl rfl (by (repeat first|exact .here|apply Take1.there)) Fa.ag_22 (by rfl) ?_
          refine rx_b2sR rfl rfl rfl rfl rfl Fa.by_22 Fa.ss_9 rfl (xs := d2) (g2.1) (g2.2) (by (repeat first|exact .here|apply Take1.there)) ?_
          iterate 3 refine rx_s rfl rfl rfl rfl rfl ?_
          refine rx_end0 ?_
          refine SW.ret ?_
          exact retK1 (l := [_]) (.tmp rfl .nil) ⟨by simp_all <;> exact str_beq _ _, rfl⟩ (.one (by (repeat first|exact .here|apply Take1.there)) .nil)
        · skip
          refine rx_skip rfl rfl rfl rfl ?_
          refine rx_skip rfl rfl rfl rfl ?_
          refine rx_skip rfl rfl rfl rfl ?_
          refine rx_skip rfl rfl rfl rfl ?_
          refine rx_skip rfl rfl rfl rfl ?_
          refine rx_skip rfl rfl rfl rfl ?_
          refine rx_skip rfl rfl rfl rfl ?_
          iterate 2 refine rx_s rfl rfl rfl rfl rfl ?_
          refine rx_end0 ?_
          refine SW.ret ?_
          exact retK1 (l := [_]) (.tmp rfl .nil) ⟨by simp_all <;> exact str_beq _ _, rfl⟩ (.one (by (repeat first|exact .here|apply Take1.there)) .nil)
      · skip
        refine rx_skip rfl rfl rfl rfl ?_
        refine rx_skip rfl rfl rfl rfl ?_
        refine rx_skip rfl rfl rfl rfl ?_
        refine rx_skip rfl rfl rfl rfl ?_
        refine rx_skip rfl rfl rfl rfl ?_
        iterate 2 refine rx_s rfl rfl rfl rfl rfl ?_
        refine rx_split (t := 33) rfl (fun g33 => ?_) (fun g33 => ?_)
        · skip
          refine rx_fa rfl rfl rfl rfl rfl rfl Fa.fo_28_4 ?_
          refine rx_ldH1 rfl rfl rfl rfl rfl rfl (by (repeat first|exact .here|apply Take1.there)) Fa.ag_22 (by rfl) ?_
          refine rx_b2sR rfl rfl rfl rfl rfl Fa.by_22 Fa.ss_9 rfl (xs := d1) (g1.1) (g1.2) (by (repeat first|exact .here|apply Take1.there)) ?_
          refine rx_fa rfl rfl rfl rfl rfl rfl Fa.fo_28_4 ?_
          refine rx_ldH1 rfl rfl rfl rfl rfl rfl (by (repeat first|exact .here|apply Take1.there)) Fa.ag_22 (by rfl) ?_
          refine rx_b2sR rfl rfl rfl rfl rfl Fa.by_22 Fa.ss_9 rfl (xs := d2) (g2.1) (g2.2) (by (repeat first|exact .here|apply Take1.there)) ?_
          iterate 3 refine rx_s rfl rfl rfl rfl rfl ?_
          refine rx_end0 ?_
          refine SW.ret ?_
          exact retK1 (l := [_]) (.tmp rfl .nil) ⟨by simp_all <;> exact str_beq _ _, rfl⟩ (.one (by (repeat first|exact .here|apply Take1.there)) .nil)
        · skip
          refine rx_skip rfl rfl rfl rfl ?_
          refine rx_skip rfl rfl rfl rfl ?_
          refine rx_skip rfl rfl rfl rfl ?_
          refine rx_skip rfl rfl rfl rfl ?_
          refine rx_skip rfl rfl rfl rfl ?_
          refine rx_skip rfl rfl rfl rfl ?_
          refine rx_skip rfl rfl rfl rfl ?_
          iterate 2 refine rx_s rfl rfl rfl rfl rfl ?_
          refine rx_end0 ?_
          refine SW.ret ?_
          exact retK1 (l := [_]) (.tmp rfl .nil) ⟨by simp_all <;> exact str_beq _ _, rfl⟩ (.one (by (repeat first|exact .here|apply Take1.there)) .nil)
end Sm
end Go.Proofs.YtikkegelplllmaaGreatDoor
/- ClientWrites, walked: what is sent waits for its reply, which is the answer. -/
namespace Go.Proofs.YtikkegelplllmaaGreatDoor
open Go Go.Sl Go.Holt Go.Proofs
open Go.Holt.Enc (enc)
namespace Wr
open Dk (DeskP)
open Cl (CliP)
abbrev k99 : Holt.Call := ⟨99, 0, 0, ⟨#[]⟩, Sli.none⟩
abbrev eA (e : Int) : Ans := ⟨e, 0, 0, Sli.none, Sli.none⟩
abbrev C0 (x : Holt.Call) : Cli := Cl.cnew 2 [k99, x]
abbrev C1 (x : Holt.Call) : Cli := (C0 x).ended 66 (eA 1)
def qn (full : Bool) : Int := if full = true then 0 else 1
def D0 (full closed : Bool) : Desk := { Dk.dnew 3 (qn full) with acc := if closed = true then 1 else 0, ring := ⟨qn full, [], closed⟩ }
def eN (full closed : Bool) : Int := if closed = true then 8 else if full = true then 7 else 0
theorem D0ok (full closed : Bool) : (D0 full closed).ok := ⟨by cases closed <;> simp [D0], by simp [D0]⟩
theorem put0 (full closed : Bool) (m : Msg) : ((D0 full closed).ring.put m) = (if eN full closed = 0 then ⟨qn full, [m], closed⟩ else ⟨qn full, [], closed⟩, eN full closed) := by
  cases full <;> cases closed <;> simp [D0, Ring.put, eN, qn]
abbrev L1 : List Ev := [⟨0, 2, 0, 0⟩, ⟨9, 2, 0, 0⟩]
abbrev LR : List Ev := [⟨0, 2, 1, 0⟩, ⟨2, 2, 1, 0⟩, ⟨9, 2, 1, 0⟩]
abbrev LO (a : Ans) : List Ev := [⟨0, 2, 1, 0⟩, ⟨1, 2, 1, 0⟩, ⟨9, 2, 1, a.version⟩]
section
variable (x : Holt.Call) (a : Ans)
abbrev DA : Desk := { (D0 false false).tick with ring := ⟨qn false, [⟨2, 1, x⟩], false⟩ }
abbrev DB : Desk := { (DA x).tick with ring := { (DA x).ring with l := [] } }
abbrev DC : Desk := { (DB x).tick with reps := (DB x).reps.set (2 : Int).toNat ⟨a, true⟩ }
abbrev DX : Desk := { (DC x a).tick with reps := (DC x a).reps.set (1 : Int).toNat ⟨⟨0, 0, 7, Sli.none, Sli.none⟩, true⟩ }
abbrev DE : Desk := { (DX x a).tick with reps := (DX x a).reps.set 2 Rep.zero }
abbrev CA : Cli := { C1 x with waits := true, next := 122 }
abbrev CB : Cli := ({ CA x with waits := false } : Cli).ended 66 a
theorem okA : (DA x).ok := ⟨by simp [D0, Desk.tick], by simp⟩
theorem okB : (DB x).ok := ⟨by simp [D0, Desk.tick], by simp⟩
theorem okC : (DC x a).ok := ⟨by simp [D0, Desk.tick], by show ([] : List Msg).length ≤ 100000; simp⟩
theorem okX : (DX x a).ok := ⟨by simp [D0, Desk.tick], by show ([] : List Msg).length ≤ 100000; simp⟩
end
section
variable (c d s b : Nat) (x : Holt.Call) (full closed : Bool)
abbrev CP (C : Cli) : HProp := CliP c d s 20 #[.pointer (some ⟨b, 0, none⟩)] C
abbrev sp (Pre : List HProp) (Post : Value → List HProp → Prop) : Prop := Sl.Spec Tryz.prog 21 #[.pointer (some ⟨c, 0, none⟩)] Pre Post
theorem bx (C : Cli) (hC : C.ok) (D : Desk) (L : List Ev) (hL : L.length ≤ 800000) (y : Holt.Call) (hy : C.calls[C.at_]? = some y) (hk : y.kind < 0 ∨ 7 < y.kind) (hr : D.reps[C.i]? = some Rep.zero) (hrd : (decide (C.at_ < C.calls.length) && (!C.waits || Rep.zero.lies)) = true) (hn : C.next = 66) :
    sp c [CP c d s b C, DeskP d D, LoW.LogP b L] (fun v l => v = .tuple #[] ∧ l = [CP c d s b (C.ended 66 (eA 1)), DeskP d D, LoW.LogP b (L ++ [⟨0, C.i, C.at_, 0⟩] ++ [⟨9, C.i, C.at_, 0⟩])]) := by
  refine Cl.stepG c d s C D Rep.zero hr hrd [LoW.LogP b L] (fun _ _ h => h.1) (by rw [hn]; exact Fa.ca_66) ?_
  rw [hn]
  have h1 := Sl.Spec.frame (F := [DeskP d D]) (Cl.beginX c d s (LoW.isNote b) C hC L hL y hy hk)
  refine Holt.Spec.conseq (Sl.Spec.pre (EntL.ent (.one .here (.one (.there .here) (.one .here .nil)))) h1) ?_
  rintro _ _ ⟨_, ⟨rfl, rfl⟩, rfl⟩
  exact ⟨_, ⟨rfl, rfl⟩, .one .here (.one (.there .here) (.one .here .nil))⟩
theorem s1 (D : Desk) (hr : D.reps[2]? = some Rep.zero) : sp c [CP c d s b (C0 x), DeskP d D, LoW.LogP b []] (fun v l => v = .tuple #[] ∧ l = [CP c d s b (C1 x), DeskP d D, LoW.LogP b L1]) :=
  bx c d s b (C0 x) ⟨by simp [Cl.cnew], by simp [Cl.cnew]⟩ D [] (by simp) k99 rfl (.inr (by decide)) hr rfl rfl
theorem s2 (hk : ¬ (x.kind = 3 ∨ x.kind = 4)) : ∃ (C2 : Cli) (D2 : Desk) (T : List Ev),
    sp c [CP c d s b (C1 x), DeskP d (D0 full closed), LoW.LogP b L1] (fun v l => v = .tuple #[] ∧ l = [CP c d s b C2, DeskP d D2, LoW.LogP b (L1 ++ T)]) ∧
    (¬ (0 ≤ x.kind ∧ x.kind ≤ 7) → C2 = (C1 x).ended 66 (eA 1) ∧ D2 = D0 full closed ∧ T = [⟨0, 2, 1, 0⟩, ⟨9, 2, 1, 0⟩]) ∧
    (0 ≤ x.kind ∧ x.kind ≤ 7 → eN full closed ≠ 0 → C2 = (C1 x).ended 66 (eA (eN full closed)) ∧ D2 = { (D0 full closed).tick with ring := ⟨qn full, [], closed⟩ } ∧ T = [⟨0, 2, 1, 0⟩, ⟨2, 2, 1, 0⟩, ⟨9, 2, 1, 0⟩]) ∧
    (0 ≤ x.kind ∧ x.kind ≤ 7 → eN full closed = 0 → C2 = { C1 x with waits := true, next := 122 } ∧ D2 = { (D0 full closed).tick with ring := ⟨qn full, [⟨2, 1, x⟩], closed⟩ } ∧ T = [⟨0, 2, 1, 0⟩, ⟨1, 2, 1, 0⟩]) := by
  by_cases hw : 0 ≤ x.kind ∧ x.kind ≤ 7
  · have hb := Cl.beginW c d s (LoW.isNote b) (C1 x) ⟨by simp [Cl.cnew, Cli.ended], by simp [Cl.cnew, Cli.ended]⟩ (D0 full closed) (D0ok full closed) L1 (by simp) x rfl (by omega)
    rw [put0] at hb
    by_cases he : eN full closed = 0
    · rw [if_pos he, if_pos he] at hb
      exact ⟨_, _, [⟨0, 2, 1, 0⟩, ⟨1, 2, 1, 0⟩], Cl.step c d s (C1 x) (D0 full closed) Rep.zero rfl rfl L1 _ Fa.ca_66 hb, fun h => absurd hw h, fun _ h => absurd he h, fun _ _ => ⟨rfl, rfl, rfl⟩⟩
    · rw [if_neg he, if_neg he] at hb
      exact ⟨_, _, [⟨0, 2, 1, 0⟩, ⟨2, 2, 1, 0⟩, ⟨9, 2, 1, 0⟩], Cl.step c d s (C1 x) (D0 full closed) Rep.zero rfl rfl L1 _ Fa.ca_66 hb, fun h => absurd hw h, fun _ _ => ⟨rfl, rfl, rfl⟩, fun _ h => absurd h he⟩
  · exact ⟨_, _, [⟨0, 2, 1, 0⟩, ⟨9, 2, 1, 0⟩], bx c d s b (C1 x) ⟨by simp [Cl.cnew, Cli.ended], by simp [Cl.cnew, Cli.ended]⟩ (D0 full closed) L1 (by simp) x rfl (by omega) rfl rfl rfl, fun _ => ⟨rfl, rfl, rfl⟩, fun h => absurd h hw, fun h => absurd h hw⟩
end
theorem law (w0 : World) (x : Holt.Call) (a : Ans) (full closed : Bool) (xd ad : List Int) (ak : List Kid) (hxd : Sm.BytesAt (OLD w0 []) x.data xd) (had : Sm.BytesAt (OLD w0 []) a.data ad) (hak : Rd (OLD w0 []) a.kids.p (flat ak)) (hkm : a.kids.m = ak.length) :
    Sl.Spec Tryz.prog 3 #[.agg (enc x).toArray, .agg (enc a).toArray, .bool full, .bool closed] [OLD w0 []] (fun v l => v = .bool true ∧ l = [OLD w0 []]) := by
  refine Spec.enter Tryz.func3 rfl rfl rfl ?_
  refine SW.seq ?_
  refine SW.reg (l := [.op 0 .e, .op 1 .e, .op 2 .e]) rfl ?_
  refine rx_box (.inr rfl) rfl rfl rfl rfl rfl rfl (cl := [_, _, _, _, _]) rfl ?_
  intro b4
  refine rx_box (.inr rfl) rfl rfl rfl rfl rfl rfl (cl := [_, _, _, _, _]) rfl ?_
  intro b5
  refine rx_s rfl rfl rfl rfl rfl ?_
  refine rx_end0 ?_
  refine SW.seq ?_
  refine SW.reg (l := [.op 0 .e, .op 1 .e]) rfl ?_
  refine rx_callH (F := ?FT2) rfl rfl rfl rfl rfl rfl rfl rfl Fa.ca_13 rfl (Ak.awake w0) ?T2 ?_
  case T2 => (repeat (first|exact Take.nil|refine Take.cons (by (repeat first|exact .here|apply Take1.there)) ?_))
  rintro _ _ ⟨rfl, rfl⟩
  try simp only [List.cons_append, List.nil_append]
  refine rx_s rfl rfl rfl rfl rfl ?_
  refine rx_end0 ?_
  refine SW.seq ?_
  refine SW.reg (l := [.op 0 .e, .op 1 .e, .op 2 .e, .op 3 .e]) rfl ?_
  refine rx_ldHA rfl rfl rfl rfl rfl rfl (by (repeat first|exact .here|apply Take1.there)) Fa.ag_24 Fa.sz_24 (vs := [_, _, _, _, _]) (by rfl) rfl ?_
  refine rx_bslice (.inr rfl) rfl rfl rfl rfl rfl Fa.sl_31 Fa.z_24 rfl rfl rfl rfl rfl (cl := [_, _, _, _, _]) rfl ?_
  intro b28
  refine rx_callH (F := ?FT3) rfl rfl rfl rfl rfl rfl rfl rfl Fa.ca_14 rfl (Rf.few b28 0 1 (enc x) 24 (0, 0) [x] (by simp) (by intro i y hy j hj; cases i with | zero => simp at hy; subst hy; rw [Nat.zero_mul, Nat.zero_add] | succ i => simp at hy)) ?T3 ?_
  case T3 => (repeat (first|exact Take.nil|refine Take.cons (by (repeat first|exact .here|apply Take1.there)) ?_))
  rintro _ _ ⟨rfl, rfl⟩
  try simp only [List.cons_append, List.nil_append]
  refine rx_s rfl rfl rfl rfl rfl ?_
  refine rx_end0 ?_
  refine SW.seq ?_
  refine SW.seq ?_
  refine SW.reg (l := [.op 0 .e, .op 1 .e, .op 2 .e, .op 3 .e, .op 4 .e, .op 5 .e, .op 6 .e, .op 7 .e, .op 8 .e, .op 9 .e, .op 10 .e, .op 11 .e, .op 12 .e, .op 13 .e, .op 14 .e, .op 15 .e, .op 16 .e, .op 17 .e, .op 18 .e]) rfl ?_
  iterate 3 refine rx_s rfl rfl rfl rfl rfl ?_
  refine rx_split (t := 32) rfl (fun g32 => ?_) (fun g32 => ?_)
  · skip
    refine rx_skip rfl rfl rfl rfl ?_
    refine rx_skip rfl rfl rfl rfl ?_
    refine rx_skip rfl rfl rfl rfl ?_
    refine rx_skip rfl rfl rfl rfl ?_
    iterate 2 refine rx_s rfl rfl rfl rfl rfl ?_
    refine rx_skip rfl rfl rfl rfl ?_
    refine rx_skip rfl rfl rfl rfl ?_
    refine rx_skip rfl rfl rfl rfl ?_
    refine rx_skip rfl rfl rfl rfl ?_
    iterate 2 refine rx_s rfl rfl rfl rfl rfl ?_
    refine rx_skip rfl rfl rfl rfl ?_
    refine rx_skip rfl rfl rfl rfl ?_
    refine rx_skip rfl rfl rfl rfl ?_
    refine rx_s rfl rfl rfl rfl rfl ?_
    refine rx_end0 ?_
    refine SW.cond (b := true) rfl (fun _ => ?_) (fun h => nomatch h)
    refine SW.seq ?_
    refine SW.reg (l := [.op 0 .e, .op 1 .e]) rfl ?_
    iterate 2 refine rx_s rfl rfl rfl rfl rfl ?_
    refine rx_end0 ?_
    refine SW.ret ?_
    exact retK1 (l := [_]) (.tmp rfl .nil) ⟨rfl, rfl⟩ (.one (by (repeat first|exact .here|apply Take1.there)) .nil)
  · skip
    refine rx_fa rfl rfl rfl rfl rfl rfl Fa.fo_28_3 ?_
    refine rx_ldH1 rfl rfl rfl rfl rfl rfl (by (repeat first|exact .here|apply Take1.there)) Fa.ag_26 (by rfl) ?_
    refine rx_len rfl rfl rfl rfl rfl rfl (lenV_sl Fa.sl_26 _ _ _) ?_
    iterate 3 refine rx_s rfl rfl rfl rfl rfl ?_
    refine rx_split (t := 38) rfl (fun g38 => ?_) (fun g38 => ?_)
    · skip
      refine rx_skip rfl rfl rfl rfl ?_
      refine rx_skip rfl rfl rfl rfl ?_
      refine rx_skip rfl rfl rfl rfl ?_
      refine rx_skip rfl rfl rfl rfl ?_
      iterate 2 refine rx_s rfl rfl rfl rfl rfl ?_
      refine rx_skip rfl rfl rfl rfl ?_
      refine rx_skip rfl rfl rfl rfl ?_
      refine rx_skip rfl rfl rfl rfl ?_
      refine rx_s rfl rfl rfl rfl rfl ?_
      refine rx_end0 ?_
      refine SW.cond (b := true) rfl (fun _ => ?_) (fun h => nomatch h)
      refine SW.seq ?_
      refine SW.reg (l := [.op 0 .e, .op 1 .e]) rfl ?_
      iterate 2 refine rx_s rfl rfl rfl rfl rfl ?_
      refine rx_end0 ?_
      refine SW.ret ?_
      exact retK1 (l := [_]) (.tmp rfl .nil) ⟨rfl, rfl⟩ (.one (by (repeat first|exact .here|apply Take1.there)) .nil)
    · skip
      refine rx_fa rfl rfl rfl rfl rfl rfl Fa.fo_28_4 ?_
      refine rx_ldH1 rfl rfl rfl rfl rfl rfl (by (repeat first|exact .here|apply Take1.there)) Fa.ag_22 (by rfl) ?_
      refine rx_len rfl rfl rfl rfl rfl rfl (lenV_sl Fa.sl_22 _ _ _) ?_
      iterate 3 refine rx_s rfl rfl rfl rfl rfl ?_
      refine rx_split (t := 44) rfl (fun g44 => ?_) (fun g44 => ?_)
      · skip
        refine rx_skip rfl rfl rfl rfl ?_
        refine rx_skip rfl rfl rfl rfl ?_
        refine rx_skip rfl rfl rfl rfl ?_
        refine rx_s rfl rfl rfl rfl rfl ?_
        refine rx_end0 ?_
        refine SW.cond (b := true) rfl (fun _ => ?_) (fun h => nomatch h)
        refine SW.seq ?_
        refine SW.reg (l := [.op 0 .e, .op 1 .e]) rfl ?_
        iterate 2 refine rx_s rfl rfl rfl rfl rfl ?_
        refine rx_end0 ?_
        refine SW.ret ?_
        exact retK1 (l := [_]) (.tmp rfl .nil) ⟨rfl, rfl⟩ (.one (by (repeat first|exact .here|apply Take1.there)) .nil)
      · skip
        refine rx_fa rfl rfl rfl rfl rfl rfl Fa.fo_24_0 ?_
        refine rx_ldH1 rfl rfl rfl rfl rfl rfl (by (repeat first|exact .here|apply Take1.there)) Fa.ag_3 (by rfl) ?_
        refine rx_callH (F := ?FT4) rfl rfl rfl rfl rfl rfl rfl rfl Fa.ca_15 rfl (Rf.reads x.kind) ?T4 ?_
        case T4 => (repeat (first|exact Take.nil|refine Take.cons (by (repeat first|exact .here|apply Take1.there)) ?_))
        rintro _ _ ⟨rfl, rfl⟩
        try simp only [List.cons_append, List.nil_append]
        refine rx_s rfl rfl rfl rfl rfl ?_
        refine rx_end0 ?_
        refine SW.cond rfl (fun h48 => ?_) (fun h48 => ?_)
        · skip
          refine SW.seq ?_
          refine SW.reg (l := [.op 0 .e, .op 1 .e]) rfl ?_
          iterate 2 refine rx_s rfl rfl rfl rfl rfl ?_
          refine rx_end0 ?_
          refine SW.ret ?_
          exact retK1 (l := [_]) (.tmp rfl .nil) ⟨rfl, rfl⟩ (.one (by (repeat first|exact .here|apply Take1.there)) .nil)
        · skip
          have hk : ¬ (x.kind = 3 ∨ x.kind = 4) := of_decide_eq_false h48
          have hka : ak.length ≤ 12 := by rw [hkm] at g38; simp at g38; omega
          refine SW.skip ?_
          try simp only [thenK, blockK, cond_true, cond_false, beq_self_eq_true, Nat.reduceBEq]
          refine SW.seq ?_
          refine SW.reg (l := [.op 0 .e]) rfl ?_
          refine rx_s rfl rfl rfl rfl rfl ?_
          refine rx_end0 ?_
          refine SW.join (fun e' H' => ∃ Hl, H' = star Hl ∧ EntL Hl [blk b4 (enc x) 24 (0, 0), blk b5 (enc a) 28 (0, 0), OLD w0 []] ∧ EnvLe (upd (upd (upd (upd (upd (upd noEnv 2 (.bool full)) 3 (.bool closed)) 4 (.pointer (some ⟨b4, 0, none⟩))) 5 (.pointer (some ⟨b5, 0, none⟩))) 9 (.bool true)) 11 (.int .i64 (qn full))) e') ?_ ?_
          · skip
            refine SW.seq ?_
            refine SW.reg (l := [.op 0 .e]) rfl ?_
            refine rx_s rfl rfl rfl rfl rfl ?_
            refine rx_end0 ?_
            refine SW.cond rfl (fun h50 => ?_) (fun h50 => ?_)
            · skip
              refine SW.reg (l := [.op 0 .e]) rfl ?_
              refine rx_s rfl rfl rfl rfl rfl ?_
              refine rx_end0 ?_
              subst h50
              exact ⟨_, rfl, (.one (by (repeat first|exact .here|apply Take1.there)) (.one (by (repeat first|exact .here|apply Take1.there)) (.one (by (repeat first|exact .here|apply Take1.there)) .nil))), .cons (.cons (.cons (.cons (.cons (.cons .nil rfl) rfl) rfl) rfl) rfl) rfl⟩
            · skip
              refine SW.skip ?_
              try simp only [thenK, blockK, cond_true, cond_false, beq_self_eq_true, Nat.reduceBEq]
              subst h50
              exact ⟨_, rfl, (.one (by (repeat first|exact .here|apply Take1.there)) (.one (by (repeat first|exact .here|apply Take1.there)) (.one (by (repeat first|exact .here|apply Take1.there)) .nil))), .cons (.cons (.cons (.cons (.cons (.cons .nil rfl) rfl) rfl) rfl) rfl) rfl⟩
          · rintro e' _ ⟨Hl, rfl, hl, hle⟩
            refine SW.fold hl ?_
            refine SW.forget hle ?_
            refine SW.seq ?_
            refine SW.reg (l := [.op 0 .e, .op 1 .e, .op 2 .e]) rfl ?_
            refine rx_s rfl rfl rfl rfl rfl ?_
            refine rx_callH (F := ?FT5) rfl rfl rfl rfl rfl rfl rfl rfl Fa.ca_16 rfl (Dk.new 3 (qn full) (by omega) (by unfold qn; split <;> omega) (by unfold qn; split <;> omega)) ?T5 ?_
            case T5 => (repeat (first|exact Take.nil|refine Take.cons (by (repeat first|exact .here|apply Take1.there)) ?_))
            rintro _ _ ⟨d, rfl, rfl⟩
            try simp only [List.cons_append, List.nil_append]
            refine rx_s rfl rfl rfl rfl rfl ?_
            refine rx_end0 ?_
            refine SW.seq ?_
            refine SW.reg (l := [.op 0 .e, .op 1 .e]) rfl ?_
            refine rx_callH (F := ?FT6) rfl rfl rfl rfl rfl rfl rfl rfl Fa.ca_17 rfl (Vw.new 10 (by omega) (by omega)) ?T6 ?_
            case T6 => (repeat (first|exact Take.nil|refine Take.cons (by (repeat first|exact .here|apply Take1.there)) ?_))
            rintro _ _ ⟨s, k, ar, p, br, rfl, rfl⟩
            try simp only [List.cons_append, List.nil_append]
            refine rx_s rfl rfl rfl rfl rfl ?_
            refine rx_end0 ?_
            refine SW.seq ?_
            refine SW.seq ?_
            refine SW.reg (l := [.op 0 .e, .op 1 .e, .op 2 .e, .op 3 .e, .op 4 .e, .op 5 .e]) rfl ?_
            refine rx_s rfl rfl rfl rfl rfl ?_
            refine rx_eqnil rfl rfl rfl rfl rfl Fa.pt_33 rfl ?_
            iterate 2 refine rx_s rfl rfl rfl rfl rfl ?_
            refine rx_eqnil rfl rfl rfl rfl rfl Fa.pt_35 rfl ?_
            refine rx_s rfl rfl rfl rfl rfl ?_
            refine rx_end0 ?_
            refine SW.cond (b := false) rfl (fun h => nomatch h) (fun _ => ?_)
            refine SW.skip ?_
            try simp only [thenK, blockK, cond_true, cond_false, beq_self_eq_true, Nat.reduceBEq]
            refine SW.join (fun e' H' => ∃ Hl, H' = star Hl ∧ EntL Hl [DeskP d (D0 full closed), blk b4 (enc x) 24 (0, 0), blk b5 (enc a) 28 (0, 0), OLD w0 []] ∧ EnvLe (upd (upd (upd (upd (upd (upd (upd noEnv 2 (.bool full)) 3 (.bool closed)) 4 (.pointer (some ⟨b4, 0, none⟩))) 5 (.pointer (some ⟨b5, 0, none⟩))) 9 (.bool true)) 12 (.pointer (some ⟨d, 0, none⟩))) 13 (.pointer (some ⟨s, 0, none⟩))) e') ?_ ?_
            · skip
              refine SW.seq ?_
              refine SW.reg (l := [.op 0 .e]) rfl ?_
              refine rx_s rfl rfl rfl rfl rfl ?_
              refine rx_end0 ?_
              refine SW.cond rfl (fun h60 => ?_) (fun h60 => ?_)
              · skip
                refine SW.reg (l := [.op 0 .e, .op 1 .e]) rfl ?_
                refine rx_s rfl rfl rfl rfl rfl ?_
                refine rx_callH (F := ?FT7) rfl rfl rfl rfl rfl rfl rfl rfl Fa.ca_18 rfl (Dk.shut d (Dk.dnew 3 (qn full)) ⟨by simp [Dk.dnew], by simp [Dk.dnew]⟩) ?T7 ?_
                case T7 => (repeat (first|exact Take.nil|refine Take.cons (by (repeat first|exact .here|apply Take1.there)) ?_))
                rintro _ _ ⟨rfl, rfl⟩
                try simp only [List.cons_append, List.nil_append]
                refine rx_end0 ?_
                subst h60
                exact ⟨_, rfl, (.one (by (repeat first|exact .here|apply Take1.there)) (.one (by (repeat first|exact .here|apply Take1.there)) (.one (by (repeat first|exact .here|apply Take1.there)) (.one (by (repeat first|exact .here|apply Take1.there)) .nil)))), .cons (.cons (.cons (.cons (.cons (.cons (.cons .nil rfl) rfl) rfl) rfl) rfl) rfl) rfl⟩
              · skip
                refine SW.skip ?_
                try simp only [thenK, blockK, cond_true, cond_false, beq_self_eq_true, Nat.reduceBEq]
                subst h60
                exact ⟨_, rfl, (.one (by (repeat first|exact .here|apply Take1.there)) (.one (by (repeat first|exact .here|apply Take1.there)) (.one (by (repeat first|exact .here|apply Take1.there)) (.one (by (repeat first|exact .here|apply Take1.there)) .nil)))), .cons (.cons (.cons (.cons (.cons (.cons (.cons .nil rfl) rfl) rfl) rfl) rfl) rfl) rfl⟩
            · rintro e' _ ⟨Hl, rfl, hl, hle⟩
              refine SW.fold hl ?_
              refine SW.forget hle ?_
              refine SW.seq ?_
              refine SW.reg (l := [.op 0 .e]) rfl ?_
              refine rx_alloc (.inr rfl) rfl rfl rfl rfl rfl Fa.z_37 ?_
              intro b14
              refine rx_end0 ?_
              refine SW.seq ?_
              refine SW.reg (l := [.op 0 .e, .op 1 .e, .op 2 .e, .op 3 .e, .op 4 .e, .op 5 .e, .op 6 .e, .op 7 .e]) rfl ?_
              iterate 2 refine rx_s rfl rfl rfl rfl rfl ?_
              refine rx_build rfl rfl rfl rfl rfl Fa.st_24 rfl (cs := [_, _, _, _, _]) rfl ?_
              refine rx_ldHA rfl rfl rfl rfl rfl rfl (by (repeat first|exact .here|apply Take1.there)) Fa.ag_24 Fa.sz_24 (vs := [_, _, _, _, _]) (by rfl) rfl ?_
              refine rx_bslice (.inr rfl) rfl rfl rfl rfl rfl Fa.sl_31 Fa.z_24 rfl rfl rfl rfl rfl (cl := [_, _, _, _, _, _, _, _, _, _]) rfl ?_
              intro b67
              refine rx_s rfl rfl rfl rfl rfl ?_
              refine rx_callH (F := ?FT8) rfl rfl rfl rfl rfl rfl rfl rfl Fa.ca_19 rfl (Sl.Spec.pre (Pre' := [blk b67 (flat [k99, x]) 24 (0, 0)]) (EntL.ent (slown_mk (xs := flat [k99, x]) (rest := []) (len := 2) (cap := 2) .here rfl (flat_one _) rfl rfl (Nat.le_refl _) .nil)) (Cl.new d s 2 20 #[.pointer (some ⟨b14, 0, none⟩)] _ [k99, x] (by simp))) ?T8 ?_
              case T8 => (repeat (first|exact Take.nil|refine Take.cons (by (repeat first|exact .here|apply Take1.there)) ?_))
              rintro _ _ ⟨c, rfl, rfl⟩
              try simp only [List.cons_append, List.nil_append]
              refine rx_s rfl rfl rfl rfl rfl ?_
              refine rx_end0 ?_
              refine SW.seq ?_
              refine SW.seq ?_
              refine SW.reg (l := [.op 0 .e, .op 1 .e]) rfl ?_
              refine rx_s rfl rfl rfl rfl rfl ?_
              refine rx_eqnil rfl rfl rfl rfl rfl Fa.pt_38 rfl ?_
              refine rx_end0 ?_
              refine SW.cond (b := false) rfl (fun h => nomatch h) (fun _ => ?_)
              refine SW.skip ?_
              try simp only [thenK, blockK, cond_true, cond_false, beq_self_eq_true, Nat.reduceBEq]
              refine SW.seq ?_
              refine SW.fold (Hl' := [CP c d s b14 (C0 x), DeskP d (D0 full closed), LoW.LogP b14 [], blk b4 (enc x) 24 (0, 0), blk b5 (enc a) 28 (0, 0), OLD w0 []]) (.one (by (repeat first|exact .here|apply Take1.there)) (.one (by (repeat first|exact .here|apply Take1.there)) (LoW.foldL (.one (by (repeat first|exact .here|apply Take1.there)) (sloff_nil _ _ (.one (by (repeat first|exact .here|apply Take1.there)) (.one (by (repeat first|exact .here|apply Take1.there)) (.one (by (repeat first|exact .here|apply Take1.there)) .nil)))))))) ?_
              refine SW.reg (l := [.op 0 .e, .op 1 .e]) rfl ?_
              refine rx_s rfl rfl rfl rfl rfl ?_
              refine rx_callH (F := ?FT9) rfl rfl rfl rfl rfl rfl rfl rfl Fa.ca_21 rfl (s1 c d s b14 x (D0 full closed) rfl) ?T9 ?_
              case T9 => (repeat (first|exact Take.nil|refine Take.cons (by (repeat first|exact .here|apply Take1.there)) ?_))
              rintro _ _ ⟨rfl, rfl⟩
              try simp only [List.cons_append, List.nil_append]
              refine rx_end0 ?_
              refine SW.seq ?_
              refine SW.seq ?_
              refine SW.exH 2 rfl ?_; rintro lv; simp only [List.cons_append, List.nil_append]
              refine SW.sloff 1 rfl (fun _ q => by simp [flat, enc, Enc.enc] at q) ?_
              intro lb off len cap' pre rest hv e1 e2 e3 e4 e5
              subst hv
              obtain rfl : len = 2 := by simp [flat, enc, Enc.enc] at e1; omega
              refine SW.reg (l := [.op 0 .e, .op 1 .e, .op 2 .e, .op 3 .e, .op 4 .e, .op 5 .e]) rfl ?_
              refine rx_ldH1 rfl rfl rfl rfl rfl rfl (by (repeat first|exact .here|apply Take1.there)) Fa.ag_37 (by rfl) ?_
              refine rx_build rfl rfl rfl rfl rfl Fa.st_41 rfl (cs := [_, _, _, _]) rfl ?_
              refine rx_build rfl rfl rfl rfl rfl Fa.st_41 rfl (cs := [_, _, _, _]) rfl ?_
              refine rx_bslice (.inr rfl) rfl rfl rfl rfl rfl Fa.sl_37 Fa.z_41 rfl rfl rfl rfl rfl (cl := [_, _, _, _, _, _, _, _]) rfl ?_
              intro b77
              refine rx_callH (F := ?FT10) rfl rfl rfl rfl rfl rfl rfl rfl Fa.ca_22 rfl (Rf.events lb b77 off 0 cap' 2 (pre ++ flat L1 ++ rest) (flat L1) 41 41 (0, 0) (0, 0) L1 L1 (by simp) (Rf.flat_dropO pre rest (e4 (by omega))) Rf.flat_drop0) ?T10 ?_
              case T10 => (repeat (first|exact Take.nil|refine Take.cons (by (repeat first|exact .here|apply Take1.there)) ?_))
              rintro _ _ ⟨rfl, rfl⟩
              try simp only [List.cons_append, List.nil_append]
              refine rx_s rfl rfl rfl rfl rfl ?_
              refine rx_end0 ?_
              refine SW.cond (b := false) rfl (fun h => nomatch h) (fun _ => ?_)
              refine SW.skip ?_
              try simp only [thenK, blockK, cond_true, cond_false, beq_self_eq_true, Nat.reduceBEq]
              refine SW.seq ?_
              obtain ⟨C2, D2, T, hst, hX, hR, hO⟩ := s2 c d s b14 x full closed hk
              have hT : T ≠ [] := by
                by_cases hw : 0 ≤ x.kind ∧ x.kind ≤ 7
                · by_cases he : eN full closed = 0
                  · rw [(hO hw he).2.2]; simp
                  · rw [(hR hw he).2.2]; simp
                · rw [(hX hw).2.2]; simp
              have hac : 0 ≤ (D0 full closed).acc ∧ (D0 full closed).acc ≤ 1 ∧ D2.acc = (D0 full closed).acc + (if 0 ≤ x.kind ∧ x.kind ≤ 7 then 1 else 0) := by
                have h0 : 0 ≤ (D0 full closed).acc ∧ (D0 full closed).acc ≤ 1 := by cases closed <;> simp [D0]
                refine ⟨h0.1, h0.2, ?_⟩
                by_cases hw : 0 ≤ x.kind ∧ x.kind ≤ 7
                · rw [if_pos hw]
                  by_cases he : eN full closed = 0
                  · rw [(hO hw he).2.1]; rfl
                  · rw [(hR hw he).2.1]; rfl
                · rw [if_neg hw, (hX hw).2.1, Int.add_zero]
              refine SW.fold (Hl' := [CP c d s b14 (C1 x), DeskP d (D0 full closed), LoW.LogP b14 L1, blk b4 (enc x) 24 (0, 0), blk b5 (enc a) 28 (0, 0), OLD w0 []]) (.one (by (repeat first|exact .here|apply Take1.there)) (.one (by (repeat first|exact .here|apply Take1.there)) (LoW.foldL (.one (by (repeat first|exact .here|apply Take1.there)) (sloff_mk (by (repeat first|exact .here|apply Take1.there)) rfl e5 e1 e2 e3 e4 (.one (by (repeat first|exact .here|apply Take1.there)) (.one (by (repeat first|exact .here|apply Take1.there)) (.one (by (repeat first|exact .here|apply Take1.there)) .nil)))))))) ?_
              refine SW.reg (l := [.op 0 .e, .op 1 .e, .op 2 .e]) rfl ?_
              refine rx_s rfl rfl rfl rfl rfl ?_
              refine rx_callH (F := ?FT11) rfl rfl rfl rfl rfl rfl rfl rfl Fa.ca_23 rfl (Dk.accesses d (D0 full closed)) ?T11 ?_
              case T11 => (repeat (first|exact Take.nil|refine Take.cons (by (repeat first|exact .here|apply Take1.there)) ?_))
              rintro _ _ ⟨rfl, rfl⟩
              try simp only [List.cons_append, List.nil_append]
              refine rx_s rfl rfl rfl rfl rfl ?_
              refine rx_end0 ?_
              refine SW.seq ?_
              refine SW.reg (l := [.op 0 .e, .op 1 .e]) rfl ?_
              refine rx_s rfl rfl rfl rfl rfl ?_
              refine rx_callH (F := ?FT12) rfl rfl rfl rfl rfl rfl rfl rfl Fa.ca_21 rfl (hst) ?T12 ?_
              case T12 => (repeat (first|exact Take.nil|refine Take.cons (by (repeat first|exact .here|apply Take1.there)) ?_))
              rintro _ _ ⟨rfl, rfl⟩
              try simp only [List.cons_append, List.nil_append]
              refine rx_end0 ?_
              refine SW.seq ?_
              refine SW.reg (l := [.op 0 .e, .op 1 .e, .op 2 .e, .op 3 .e, .op 4 .e]) rfl ?_
              refine rx_s rfl rfl rfl rfl rfl ?_
              refine rx_callH (F := ?FT13) rfl rfl rfl rfl rfl rfl rfl rfl Fa.ca_23 rfl (Dk.accesses d D2) ?T13 ?_
              case T13 => (repeat (first|exact Take.nil|refine Take.cons (by (repeat first|exact .here|apply Take1.there)) ?_))
              rintro _ _ ⟨rfl, rfl⟩
              try simp only [List.cons_append, List.nil_append]
              refine rx_s rfl rfl rfl rfl rfl ?_
              refine rx_ar rfl rfl rfl rfl rfl (by split at hac <;> omega) ?_
              refine rx_s rfl rfl rfl rfl rfl ?_
              refine rx_end0 ?_
              refine SW.seq ?_
              refine SW.exH 2 rfl ?_; rintro lv; simp only [List.cons_append, List.nil_append]
              refine SW.sloff 1 rfl (fun _ q => by simp [flat, enc, Enc.enc] at q) ?_
              intro lb2 off2 len2 cap2 pre2 rest2 hv f1 f2 f3 f4 f5
              subst hv
              rw [flat_len, show Enc.n Ev = 4 from rfl] at f1 f2
              have hTl : 0 < T.length := List.length_pos_iff.2 hT
              simp only [List.length_append, List.length_cons, List.length_nil] at f1 f2
              refine SW.reg (l := [.op 0 .e, .op 1 .e, .op 2 .e]) rfl ?_
              refine rx_ldH1 rfl rfl rfl rfl rfl rfl (by (repeat first|exact .here|apply Take1.there)) Fa.ag_37 (by rfl) ?_
              refine rx_sllo rfl rfl rfl rfl rfl Fa.sl_37 rfl rfl (by omega) ?_
              intro off89 hoff89
              refine rx_stp rfl rfl rfl rfl rfl rfl (by (repeat first|exact .here|apply Take1.there)) Fa.sz_37 (vs := [_]) rfl rfl rfl (by rfl) (cl' := [_]) (by rfl) ?_
              refine rx_end0 ?_
              refine SW.fold (Hl' := [LoW.LogP b14 T, CP c d s b14 C2, DeskP d D2, blk b4 (enc x) 24 (0, 0), blk b5 (enc a) 28 (0, 0), OLD w0 []]) (LoW.foldL (.one (by (repeat first|exact .here|apply Take1.there)) (sloff_mk (pre := pre2 ++ flat L1) (rest := rest2) (by (repeat first|exact .here|apply Take1.there)) (by simp [flat, List.append_assoc]) (flat_one _) (by rw [flat_len, show Enc.n Ev = 4 from rfl]; omega) (by rw [flat_len, show Enc.n Ev = 4 from rfl]; omega) (by omega) (fun q => by rw [hoff89 (by omega), f4 (by omega), List.length_append]; rfl) (.one (by (repeat first|exact .here|apply Take1.there)) (.one (by (repeat first|exact .here|apply Take1.there)) (.one (by (repeat first|exact .here|apply Take1.there)) (.one (by (repeat first|exact .here|apply Take1.there)) (.one (by (repeat first|exact .here|apply Take1.there)) .nil)))))))) ?_
              refine SW.seq ?_
              refine SW.seq ?_
              refine SW.reg (l := [.op 0 .e, .op 1 .e, .op 2 .e, .op 3 .e]) rfl ?_
              refine rx_fa rfl rfl rfl rfl rfl rfl Fa.fo_24_0 ?_
              refine rx_ldH1 rfl rfl rfl rfl rfl rfl (by (repeat first|exact .here|apply Take1.there)) Fa.ag_3 (by rfl) ?_
              refine rx_callH (F := ?FT14) rfl rfl rfl rfl rfl rfl rfl rfl Fa.ca_24 rfl (Rf.writes x.kind) ?T14 ?_
              case T14 => (repeat (first|exact Take.nil|refine Take.cons (by (repeat first|exact .here|apply Take1.there)) ?_))
              rintro _ _ ⟨rfl, rfl⟩
              try simp only [List.cons_append, List.nil_append]
              refine rx_s rfl rfl rfl rfl rfl ?_
              refine rx_end0 ?_
              refine SW.cond rfl (fun h93 => ?_) (fun h93 => ?_)
              · skip
                have hw : ¬ (0 ≤ x.kind ∧ x.kind ≤ 7) := fun q => by simp at h93; omega
                obtain ⟨rfl, rfl, rfl⟩ := hX hw
                rw [if_neg hw] at hac
                refine SW.seq ?_
                refine SW.reg (l := [.op 0 .e, .op 1 .e, .op 2 .e]) rfl ?_
                refine rx_s rfl rfl rfl rfl rfl ?_
                refine rx_callH (F := ?FT15) rfl rfl rfl rfl rfl rfl rfl rfl Fa.ca_25 rfl (Cl.answers c d s 20 #[.pointer (some ⟨b14, 0, none⟩)] ((C1 x).ended 66 (eA 1)) (by simp [Cl.cnew, Cli.ended])) ?T15 ?_
                case T15 => (repeat (first|exact Take.nil|refine Take.cons (by (repeat first|exact .here|apply Take1.there)) ?_))
                rintro _ _ ⟨pa, ma, ca, rfl, hm, rfl⟩
                obtain rfl : ma = 2 := hm
                try simp only [List.cons_append, List.nil_append]
                refine rx_s rfl rfl rfl rfl rfl ?_
                refine rx_end0 ?_
                refine SW.seq ?_
                refine SW.slopen 1 rfl (fun _ q => by simp [Cl.cnew, Cli.ended, flat, enc, Enc.enc] at q) ?_
                intro ab alen acap arest hv q1 q2 q3 q4
                cases hv
                refine SW.reg (l := [.op 0 .e, .op 1 .e, .op 2 .e, .op 3 .e, .op 4 .e, .op 5 .e, .op 6 .e, .op 7 .e, .op 8 .e, .op 9 .e, .op 10 .e, .op 11 .e, .op 12 .e, .op 13 .e, .op 14 .e, .op 15 .e, .op 16 .e, .op 17 .e, .op 18 .e, .op 19 .e, .op 20 .e, .op 21 .e, .op 22 .e]) rfl ?_
                iterate 6 refine rx_s rfl rfl rfl rfl rfl ?_
                refine rx_split (t := 101) rfl (fun g101 => ?_) (fun g101 => ?_)
                · skip
                  refine rx_s rfl rfl rfl rfl rfl ?_
                  refine rx_len rfl rfl rfl rfl rfl rfl (lenV_sl Fa.sl_45 _ _ _) ?_
                  iterate 4 refine rx_s rfl rfl rfl rfl rfl ?_
                  refine rx_ix rfl rfl rfl rfl rfl Fa.sl_45 rfl rfl (by omega) ?_
                  refine rx_fa rfl rfl rfl rfl rfl rfl Fa.fo_28_0 ?_
                  refine rx_ldH1 rfl rfl rfl rfl rfl rfl (by (repeat first|exact .here|apply Take1.there)) Fa.ag_25 (by exact flat_get (l := [eA 1, eA 1]) (i := 1) rfl (j := 0) (off := 0 + (1 : Int).toNat * 5 + 0) (by decide) rfl arest) ?_
                  iterate 4 refine rx_s rfl rfl rfl rfl rfl ?_
                  refine rx_callH (F := ?FT16) rfl rfl rfl rfl rfl rfl rfl rfl Fa.ca_26 rfl (Cl.ready c d s (nf := 20) (cap := #[.pointer (some ⟨b14, 0, none⟩)]) ((C1 x).ended 66 (eA 1)) (D0 full closed) Rep.zero rfl) ?T16 ?_
                  case T16 => (repeat (first|exact Take.nil|refine Take.cons (by (repeat first|exact .here|apply Take1.there)) ?_))
                  rintro _ _ ⟨rfl, rfl⟩
                  try simp only [List.cons_append, List.nil_append]
                  iterate 3 refine rx_s rfl rfl rfl rfl rfl ?_
                  refine rx_end0 ?_
                  refine SW.ret ?_
                  exact retK1 (l := [_]) (.tmp rfl .nil) ⟨rfl, rfl⟩ (.one (by (repeat first|exact .here|apply Take1.there)) .nil)
                · (simp at g101)
              · skip
                have hw : 0 ≤ x.kind ∧ x.kind ≤ 7 := by simp at h93; omega
                rw [if_pos hw] at hac
                have hu : D2.acc - (D0 full closed).acc = 1 := by omega
                refine SW.skip ?_
                try simp only [thenK, blockK, cond_true, cond_false, beq_self_eq_true, Nat.reduceBEq]
                refine SW.seq ?_
                refine SW.reg (l := [.op 0 .e]) rfl ?_
                refine rx_s rfl rfl rfl rfl rfl ?_
                refine rx_end0 ?_
                refine SW.join (fun e' H' => ∃ Hl, H' = star Hl ∧ EntL Hl [LoW.LogP b14 T, CP c d s b14 C2, DeskP d D2, blk b4 (enc x) 24 (0, 0), blk b5 (enc a) 28 (0, 0), OLD w0 []] ∧ EnvLe (upd (upd (upd (upd (upd (upd (upd (upd (upd (upd noEnv 2 (.bool full)) 3 (.bool closed)) 4 (.pointer (some ⟨b4, 0, none⟩))) 5 (.pointer (some ⟨b5, 0, none⟩))) 9 (.bool true)) 12 (.pointer (some ⟨d, 0, none⟩))) 14 (.pointer (some ⟨b14, 0, none⟩))) 15 (.pointer (some ⟨c, 0, none⟩))) 17 (.int .i64 (D2.acc - (D0 full closed).acc))) 19 (.int .i64 (if full = true then 7 else 0))) e') ?_ ?_
                · skip
                  refine SW.seq ?_
                  refine SW.reg (l := [.op 0 .e]) rfl ?_
                  refine rx_s rfl rfl rfl rfl rfl ?_
                  refine rx_end0 ?_
                  refine SW.cond rfl (fun h118 => ?_) (fun h118 => ?_)
                  · skip
                    refine SW.reg (l := [.op 0 .e]) rfl ?_
                    refine rx_s rfl rfl rfl rfl rfl ?_
                    refine rx_end0 ?_
                    exact ⟨_, rfl, EntL.refl _, by rw [if_pos h118]; exact .cons (.cons (.cons (.cons (.cons (.cons (.cons (.cons (.cons (.cons .nil rfl) rfl) rfl) rfl) rfl) rfl) rfl) rfl) rfl) rfl⟩
                  · skip
                    refine SW.skip ?_
                    try simp only [thenK, blockK, cond_true, cond_false, beq_self_eq_true, Nat.reduceBEq]
                    exact ⟨_, rfl, EntL.refl _, by rw [if_neg (by simp [h118])]; exact .cons (.cons (.cons (.cons (.cons (.cons (.cons (.cons (.cons (.cons .nil rfl) rfl) rfl) rfl) rfl) rfl) rfl) rfl) rfl) rfl⟩
                · rintro e' _ ⟨Hl, rfl, hl, hle⟩
                  refine SW.fold hl ?_
                  refine SW.forget hle ?_
                  refine SW.join (fun e' H' => ∃ Hl, H' = star Hl ∧ EntL Hl [LoW.LogP b14 T, CP c d s b14 C2, DeskP d D2, blk b4 (enc x) 24 (0, 0), blk b5 (enc a) 28 (0, 0), OLD w0 []] ∧ EnvLe (upd (upd (upd (upd (upd (upd (upd (upd (upd (upd noEnv 2 (.bool full)) 3 (.bool closed)) 4 (.pointer (some ⟨b4, 0, none⟩))) 5 (.pointer (some ⟨b5, 0, none⟩))) 9 (.bool true)) 12 (.pointer (some ⟨d, 0, none⟩))) 14 (.pointer (some ⟨b14, 0, none⟩))) 15 (.pointer (some ⟨c, 0, none⟩))) 17 (.int .i64 (D2.acc - (D0 full closed).acc))) 19 (.int .i64 (eN full closed))) e') ?_ ?_
                  · skip
                    refine SW.seq ?_
                    refine SW.reg (l := [.op 0 .e]) rfl ?_
                    refine rx_s rfl rfl rfl rfl rfl ?_
                    refine rx_end0 ?_
                    refine SW.cond rfl (fun h119 => ?_) (fun h119 => ?_)
                    · skip
                      refine SW.reg (l := [.op 0 .e]) rfl ?_
                      refine rx_s rfl rfl rfl rfl rfl ?_
                      refine rx_end0 ?_
                      exact ⟨_, rfl, EntL.refl _, by unfold eN; rw [if_pos h119]; exact .cons (.cons (.cons (.cons (.cons (.cons (.cons (.cons (.cons (.cons .nil rfl) rfl) rfl) rfl) rfl) rfl) rfl) rfl) rfl) rfl⟩
                    · skip
                      refine SW.skip ?_
                      try simp only [thenK, blockK, cond_true, cond_false, beq_self_eq_true, Nat.reduceBEq]
                      exact ⟨_, rfl, EntL.refl _, by unfold eN; rw [if_neg (show ¬ closed = true by simp [h119])]; exact .cons (.cons (.cons (.cons (.cons (.cons (.cons (.cons (.cons (.cons .nil rfl) rfl) rfl) rfl) rfl) rfl) rfl) rfl) rfl) rfl⟩
                  · rintro e' _ ⟨Hl, rfl, hl, hle⟩
                    refine SW.fold hl ?_
                    refine SW.forget hle ?_
                    refine SW.seq ?_
                    refine SW.seq ?_
                    refine SW.reg (l := [.op 0 .e, .op 1 .e]) rfl ?_
                    iterate 2 refine rx_s rfl rfl rfl rfl rfl ?_
                    refine rx_end0 ?_
                    refine SW.cond rfl (fun h121 => ?_) (fun h121 => ?_)
                    · skip
                      have he : eN full closed ≠ 0 := by simpa using h121
                      obtain ⟨rfl, rfl, rfl⟩ := hR hw he
                      refine SW.seq ?_
                      refine SW.reg (l := [.op 0 .e, .op 1 .e, .op 2 .e]) rfl ?_
                      refine rx_s rfl rfl rfl rfl rfl ?_
                      refine rx_callH (F := ?FT17) rfl rfl rfl rfl rfl rfl rfl rfl Fa.ca_25 rfl (Cl.answers c d s 20 #[.pointer (some ⟨b14, 0, none⟩)] ((C1 x).ended 66 (eA (eN full closed))) (by simp [Cl.cnew, Cli.ended])) ?T17 ?_
                      case T17 => (repeat (first|exact Take.nil|refine Take.cons (by (repeat first|exact .here|apply Take1.there)) ?_))
                      rintro _ _ ⟨pa, ma, ca, rfl, hm, rfl⟩
                      obtain rfl : ma = 2 := hm
                      try simp only [List.cons_append, List.nil_append]
                      refine rx_s rfl rfl rfl rfl rfl ?_
                      refine rx_end0 ?_
                      refine SW.seq ?_
                      refine SW.seq ?_
                      refine SW.reg (l := [.op 0 .e, .op 1 .e, .op 2 .e]) rfl ?_
                      refine rx_s rfl rfl rfl rfl rfl ?_
                      refine rx_len rfl rfl rfl rfl rfl rfl (lenV_sl Fa.sl_45 _ _ _) ?_
                      refine rx_s rfl rfl rfl rfl rfl ?_
                      refine rx_end0 ?_
                      refine SW.cond (b := false) rfl (fun h => nomatch h) (fun _ => ?_)
                      refine SW.skip ?_
                      try simp only [thenK, blockK, cond_true, cond_false, beq_self_eq_true, Nat.reduceBEq]
                      refine SW.seq ?_
                      refine SW.slopen 1 rfl (fun _ q => by simp [Cl.cnew, Cli.ended, flat, enc, Enc.enc] at q) ?_
                      intro ab alen acap arest hv q1 q2 q3 q4
                      cases hv
                      refine SW.exH 2 rfl ?_; rintro lv3; simp only [List.cons_append, List.nil_append]
                      refine SW.sloff 1 rfl (fun _ q => by simp [flat, enc, Enc.enc] at q) ?_
                      intro lb off len cap' pre rest hv e1' e2' e3' e4' e5'
                      subst hv
                      obtain rfl : len = 3 := by simp [flat, enc, Enc.enc] at e1'; omega
                      refine SW.reg (l := [.op 0 .e, .op 1 .e, .op 2 .e, .op 3 .e, .op 4 .e, .op 5 .e, .op 6 .e, .op 7 .e, .op 8 .e, .op 9 .e, .op 10 .e, .op 11 .e, .op 12 .e, .op 13 .e, .op 14 .e, .op 15 .e, .op 16 .e, .op 17 .e, .op 18 .e, .op 19 .e, .op 20 .e, .op 21 .e, .op 22 .e, .op 23 .e, .op 24 .e, .op 25 .e, .op 26 .e]) rfl ?_
                      iterate 6 refine rx_s rfl rfl rfl rfl rfl ?_
                      refine rx_split (t := 132) rfl (fun g132 => ?_) (fun g132 => ?_)
                      · skip
                        refine rx_s rfl rfl rfl rfl rfl ?_
                        refine rx_ix rfl rfl rfl rfl rfl Fa.sl_45 rfl rfl (by omega) ?_
                        refine rx_ldHA rfl rfl rfl rfl rfl rfl (by (repeat first|exact .here|apply Take1.there)) Fa.ag_28 Fa.sz_28 (vs := [_, _, _, _, _]) (by exact flat_drop (l := [eA 1, eA (eN full closed)]) (i := 1) rfl (j := 0) (s := 5) (off := 0 + (1 : Int).toNat * 5) (by decide) rfl arest) rfl ?_
                        refine rx_s rfl rfl rfl rfl rfl ?_
                        refine rx_build rfl rfl rfl rfl rfl Fa.st_28 rfl (cs := [_, _, _, _, _]) rfl ?_
                        refine rx_callH (F := ?FT18) rfl rfl rfl rfl rfl rfl rfl rfl Fa.ca_27 rfl (Sm.answers (OLD w0 []) (eA (eN full closed)) (eA (eN full closed)) [] [] [] [] (.inl rfl) rfl (.inl rfl) rfl (by simp) (Sm.bytesNil _) (Sm.bytesNil _)) ?T18 ?_
                        case T18 => (repeat (first|exact Take.nil|refine Take.cons (by (repeat first|exact .here|apply Take1.there)) ?_))
                        rintro _ _ ⟨rfl, rfl⟩
                        try simp only [List.cons_append, List.nil_append]
                        iterate 2 refine rx_s rfl rfl rfl rfl rfl ?_
                        refine rx_split (t := 140) rfl (fun g140 => ?_) (fun g140 => ?_)
                        · skip
                          refine rx_s rfl rfl rfl rfl rfl ?_
                          refine rx_callH (F := ?FT19) rfl rfl rfl rfl rfl rfl rfl rfl Fa.ca_26 rfl (Cl.ready c d s (nf := 20) (cap := #[.pointer (some ⟨b14, 0, none⟩)]) ((C1 x).ended 66 (eA (eN full closed))) { (D0 full closed).tick with ring := ⟨qn full, [], closed⟩ } Rep.zero rfl) ?T19 ?_
                          case T19 => (repeat (first|exact Take.nil|refine Take.cons (by (repeat first|exact .here|apply Take1.there)) ?_))
                          rintro _ _ ⟨rfl, rfl⟩
                          try simp only [List.cons_append, List.nil_append]
                          iterate 3 refine rx_s rfl rfl rfl rfl rfl ?_
                          refine rx_ldH1 rfl rfl rfl rfl rfl rfl (by (repeat first|exact .here|apply Take1.there)) Fa.ag_37 (by rfl) ?_
                          refine rx_build rfl rfl rfl rfl rfl Fa.st_41 rfl (cs := [_, _, _, _]) rfl ?_
                          refine rx_build rfl rfl rfl rfl rfl Fa.st_41 rfl (cs := [_, _, _, _]) rfl ?_
                          refine rx_build rfl rfl rfl rfl rfl Fa.st_41 rfl (cs := [_, _, _, _]) rfl ?_
                          refine rx_bslice (.inr rfl) rfl rfl rfl rfl rfl Fa.sl_37 Fa.z_41 rfl rfl rfl rfl rfl (cl := [_, _, _, _, _, _, _, _, _, _, _, _]) rfl ?_
                          intro b150
                          refine rx_callH (F := ?FT20) rfl rfl rfl rfl rfl rfl rfl rfl Fa.ca_22 rfl (Rf.events lb b150 off 0 cap' 3 (pre ++ flat LR ++ rest) (flat LR) 41 41 (0, 0) (0, 0) LR LR (by simp) (Rf.flat_dropO pre rest (e4' (by omega))) Rf.flat_drop0) ?T20 ?_
                          case T20 => (repeat (first|exact Take.nil|refine Take.cons (by (repeat first|exact .here|apply Take1.there)) ?_))
                          rintro _ _ ⟨rfl, rfl⟩
                          try simp only [List.cons_append, List.nil_append]
                          iterate 2 refine rx_s rfl rfl rfl rfl rfl ?_
                          refine rx_end0 ?_
                          refine SW.ret ?_
                          exact retK1 (l := [_]) (.tmp rfl .nil) ⟨rfl, rfl⟩ (.one (by (repeat first|exact .here|apply Take1.there)) .nil)
                        · (simp at g140)
                      · exact absurd hu (by simpa using g132)
                    · skip
                      have he : eN full closed = 0 := by simpa using h121
                      obtain ⟨rfl, rfl, rfl⟩ := hO hw he
                      obtain ⟨rfl, rfl⟩ : closed = false ∧ full = false := by revert he; unfold eN; cases closed <;> cases full <;> simp
                      refine SW.skip ?_
                      try simp only [thenK, blockK, cond_true, cond_false, beq_self_eq_true, Nat.reduceBEq]
                      refine SW.seq ?_
                      refine SW.reg (l := [.op 0 .e, .op 1 .e, .op 2 .e, .op 3 .e, .op 4 .e, .op 5 .e, .op 6 .e, .op 7 .e]) rfl ?_
                      refine rx_s rfl rfl rfl rfl rfl ?_
                      refine rx_callH (F := ?FT21) rfl rfl rfl rfl rfl rfl rfl rfl Fa.ca_28 rfl (Dk.receive d (DA x) (okA x) ⟨2, 1, x⟩ [] rfl) ?T21 ?_
                      case T21 => (repeat (first|exact Take.nil|refine Take.cons (by (repeat first|exact .here|apply Take1.there)) ?_))
                      rintro _ _ ⟨rfl, rfl⟩
                      try simp only [List.cons_append, List.nil_append]
                      iterate 3 refine rx_s rfl rfl rfl rfl rfl ?_
                      refine rx_alloc (.inr rfl) rfl rfl rfl rfl rfl Fa.z_49 ?_
                      intro b21
                      refine rx_stp rfl rfl rfl rfl rfl rfl (by (repeat first|exact .here|apply Take1.there)) Fa.sz_49 (vs := [_, _, _, _, _, _, _]) rfl rfl rfl (by rfl) (cl' := [_, _, _, _, _, _, _]) (by rfl) ?_
                      refine rx_s rfl rfl rfl rfl rfl ?_
                      refine rx_end0 ?_
                      refine SW.seq ?_
                      refine SW.reg (l := [.op 0 .e, .op 1 .e, .op 2 .e]) rfl ?_
                      refine rx_s rfl rfl rfl rfl rfl ?_
                      refine rx_callH (F := ?FT22) rfl rfl rfl rfl rfl rfl rfl rfl Fa.ca_26 rfl (Cl.ready c d s (nf := 20) (cap := #[.pointer (some ⟨b14, 0, none⟩)]) (CA x) (DB x) Rep.zero rfl) ?T22 ?_
                      case T22 => (repeat (first|exact Take.nil|refine Take.cons (by (repeat first|exact .here|apply Take1.there)) ?_))
                      rintro _ _ ⟨rfl, rfl⟩
                      try simp only [List.cons_append, List.nil_append]
                      refine rx_s rfl rfl rfl rfl rfl ?_
                      refine rx_end0 ?_
                      refine SW.seq ?_
                      refine SW.reg (l := [.op 0 .e, .op 1 .e]) rfl ?_
                      refine rx_s rfl rfl rfl rfl rfl ?_
                      refine rx_callH (F := ?FT23) rfl rfl rfl rfl rfl rfl rfl rfl Fa.ca_21 rfl (Cl.stepIdle c d s (nf := 20) (cap := #[.pointer (some ⟨b14, 0, none⟩)]) (CA x) (DB x) Rep.zero rfl rfl) ?T23 ?_
                      case T23 => (repeat (first|exact Take.nil|refine Take.cons (by (repeat first|exact .here|apply Take1.there)) ?_))
                      rintro _ _ ⟨rfl, rfl⟩
                      try simp only [List.cons_append, List.nil_append]
                      refine rx_end0 ?_
                      refine SW.seq ?_
                      refine SW.seq ?_
                      refine SW.reg (l := [.op 0 .e, .op 1 .e, .op 2 .e, .op 3 .e, .op 4 .e, .op 5 .e, .op 6 .e, .op 7 .e, .op 8 .e, .op 9 .e, .op 10 .e, .op 11 .e, .op 12 .e, .op 13 .e, .op 14 .e, .op 15 .e, .op 16 .e, .op 17 .e, .op 18 .e, .op 19 .e, .op 20 .e, .op 21 .e, .op 22 .e, .op 23 .e, .op 24 .e, .op 25 .e, .op 26 .e, .op 27 .e, .op 28 .e, .op 29 .e, .op 30 .e, .op 31 .e, .op 32 .e, .op 33 .e, .op 34 .e, .op 35 .e, .op 36 .e, .op 37 .e, .op 38 .e, .op 39 .e, .op 40 .e, .op 41 .e, .op 42 .e, .op 43 .e, .op 44 .e, .op 45 .e, .op 46 .e, .op 47 .e, .op 48 .e, .op 49 .e, .op 50 .e, .op 51 .e, .op 52 .e, .op 53 .e, .op 54 .e, .op 55 .e, .op 56 .e, .op 57 .e, .op 58 .e, .op 59 .e, .op 60 .e, .op 61 .e, .op 62 .e]) rfl ?_
                      refine rx_s rfl rfl rfl rfl rfl ?_
                      refine rx_callH (F := ?FT24) rfl rfl rfl rfl rfl rfl rfl rfl Fa.ca_25 rfl (Cl.answers c d s 20 #[.pointer (some ⟨b14, 0, none⟩)] (CA x) (by simp [Cl.cnew, Cli.ended])) ?T24 ?_
                      case T24 => (repeat (first|exact Take.nil|refine Take.cons (by (repeat first|exact .here|apply Take1.there)) ?_))
                      rintro _ _ ⟨pa, ma, ca, rfl, hm, rfl⟩
                      obtain rfl : ma = 1 := hm
                      try simp only [List.cons_append, List.nil_append]
                      refine rx_len rfl rfl rfl rfl rfl rfl (lenV_sl Fa.sl_45 _ _ _) ?_
                      iterate 9 refine rx_s rfl rfl rfl rfl rfl ?_
                      refine rx_fa rfl rfl rfl rfl rfl rfl Fa.fo_49_0 ?_
                      refine rx_ldH1 rfl rfl rfl rfl rfl rfl (by (repeat first|exact .here|apply Take1.there)) Fa.ag_3 (by rfl) ?_
                      iterate 3 refine rx_s rfl rfl rfl rfl rfl ?_
                      refine rx_fa rfl rfl rfl rfl rfl rfl Fa.fo_49_1 ?_
                      refine rx_ldH1 rfl rfl rfl rfl rfl rfl (by (repeat first|exact .here|apply Take1.there)) Fa.ag_3 (by rfl) ?_
                      iterate 3 refine rx_s rfl rfl rfl rfl rfl ?_
                      refine rx_fa rfl rfl rfl rfl rfl rfl Fa.fo_49_2 ?_
                      refine rx_fa rfl rfl rfl rfl rfl rfl Fa.fo_24_0 ?_
                      refine rx_ldH1 rfl rfl rfl rfl rfl rfl (by (repeat first|exact .here|apply Take1.there)) Fa.ag_3 (by rfl) ?_
                      refine rx_fa rfl rfl rfl rfl rfl rfl Fa.fo_24_0 ?_
                      refine rx_ldH1 rfl rfl rfl rfl rfl rfl (by (repeat first|exact .here|apply Take1.there)) Fa.ag_3 (by rfl) ?_
                      iterate 3 refine rx_s rfl rfl rfl rfl rfl ?_
                      refine rx_split (t := 191) rfl (fun g191 => ?_) (fun g191 => ?_)
                      · simp at g191
                      · skip
                        refine rx_fa rfl rfl rfl rfl rfl rfl Fa.fo_49_2 ?_
                        refine rx_fa rfl rfl rfl rfl rfl rfl Fa.fo_24_3 ?_
                        refine rx_ldH1 rfl rfl rfl rfl rfl rfl (by (repeat first|exact .here|apply Take1.there)) Fa.ag_9 (by rfl) ?_
                        refine rx_fa rfl rfl rfl rfl rfl rfl Fa.fo_24_3 ?_
                        refine rx_ldH1 rfl rfl rfl rfl rfl rfl (by (repeat first|exact .here|apply Take1.there)) Fa.ag_9 (by rfl) ?_
                        iterate 3 refine rx_s rfl rfl rfl rfl rfl ?_
                        refine rx_split (t := 199) rfl (fun g199 => ?_) (fun g199 => ?_)
                        · simp at g199
                        · skip
                          refine rx_fa rfl rfl rfl rfl rfl rfl Fa.fo_49_2 ?_
                          refine rx_fa rfl rfl rfl rfl rfl rfl Fa.fo_24_1 ?_
                          refine rx_ldH1 rfl rfl rfl rfl rfl rfl (by (repeat first|exact .here|apply Take1.there)) Fa.ag_3 (by rfl) ?_
                          refine rx_fa rfl rfl rfl rfl rfl rfl Fa.fo_24_1 ?_
                          refine rx_ldH1 rfl rfl rfl rfl rfl rfl (by (repeat first|exact .here|apply Take1.there)) Fa.ag_3 (by rfl) ?_
                          iterate 3 refine rx_s rfl rfl rfl rfl rfl ?_
                          refine rx_split (t := 207) rfl (fun g207 => ?_) (fun g207 => ?_)
                          · simp at g207
                          · skip
                            refine rx_fa rfl rfl rfl rfl rfl rfl Fa.fo_49_2 ?_
                            refine rx_fa rfl rfl rfl rfl rfl rfl Fa.fo_24_2 ?_
                            refine rx_ldH1 rfl rfl rfl rfl rfl rfl (by (repeat first|exact .here|apply Take1.there)) Fa.ag_3 (by rfl) ?_
                            refine rx_fa rfl rfl rfl rfl rfl rfl Fa.fo_24_2 ?_
                            refine rx_ldH1 rfl rfl rfl rfl rfl rfl (by (repeat first|exact .here|apply Take1.there)) Fa.ag_3 (by rfl) ?_
                            iterate 3 refine rx_s rfl rfl rfl rfl rfl ?_
                            refine rx_split (t := 215) rfl (fun g215 => ?_) (fun g215 => ?_)
                            · simp at g215
                            · skip
                              refine rx_fa rfl rfl rfl rfl rfl rfl Fa.fo_49_2 ?_
                              refine rx_fa rfl rfl rfl rfl rfl rfl Fa.fo_24_4 ?_
                              refine rx_ldH1 rfl rfl rfl rfl rfl rfl (by (repeat first|exact .here|apply Take1.there)) Fa.ag_22 (by rfl) ?_
                              refine rx_b2sR rfl rfl rfl rfl rfl Fa.by_22 Fa.ss_9 rfl (xs := xd) (hxd.1) (hxd.2) (by (repeat first|exact .here|apply Take1.there)) ?_
                              refine rx_fa rfl rfl rfl rfl rfl rfl Fa.fo_24_4 ?_
                              refine rx_ldH1 rfl rfl rfl rfl rfl rfl (by (repeat first|exact .here|apply Take1.there)) Fa.ag_22 (by rfl) ?_
                              refine rx_b2sR rfl rfl rfl rfl rfl Fa.by_22 Fa.ss_9 rfl (xs := xd) (hxd.1) (hxd.2) (by (repeat first|exact .here|apply Take1.there)) ?_
                              iterate 2 refine rx_s rfl rfl rfl rfl rfl ?_
                              refine rx_end0 ?_
                              refine SW.cond rfl (fun h224 => ?_) (fun h224 => ?_)
                              · simp at h224
                              · skip
                                refine SW.skip ?_
                                try simp only [thenK, blockK, cond_true, cond_false, beq_self_eq_true, Nat.reduceBEq]
                                refine SW.seq ?_
                                refine SW.reg (l := [.op 0 .e, .op 1 .e, .op 2 .e]) rfl ?_
                                refine rx_s rfl rfl rfl rfl rfl ?_
                                refine rx_ldHA rfl rfl rfl rfl rfl rfl (by (repeat first|exact .here|apply Take1.there)) Fa.ag_28 Fa.sz_28 (vs := [_, _, _, _, _]) (by rfl) rfl ?_
                                refine rx_callH (F := ?FT25) rfl rfl rfl rfl rfl rfl rfl rfl Fa.ca_29 rfl (Dk.setReply d (DB x) (okB x) 2 Rep.zero a (by omega) rfl) ?T25 ?_
                                case T25 => (repeat (first|exact Take.nil|refine Take.cons (by (repeat first|exact .here|apply Take1.there)) ?_))
                                rintro _ _ ⟨rfl, rfl⟩
                                try simp only [List.cons_append, List.nil_append]
                                refine rx_end0 ?_
                                refine SW.seq ?_
                                refine SW.reg (l := [.op 0 .e, .op 1 .e, .op 2 .e]) rfl ?_
                                refine rx_s rfl rfl rfl rfl rfl ?_
                                refine rx_build rfl rfl rfl rfl rfl Fa.st_28 rfl (cs := [_, _, _, _, _]) rfl ?_
                                refine rx_callH (F := ?FT26) rfl rfl rfl rfl rfl rfl rfl rfl Fa.ca_29 rfl (Dk.setReply d (DC x a) (okC x a) 1 Rep.zero ⟨0, 0, 7, Sli.none, Sli.none⟩ (by omega) rfl) ?T26 ?_
                                case T26 => (repeat (first|exact Take.nil|refine Take.cons (by (repeat first|exact .here|apply Take1.there)) ?_))
                                rintro _ _ ⟨rfl, rfl⟩
                                try simp only [List.cons_append, List.nil_append]
                                refine rx_end0 ?_
                                refine SW.seq ?_
                                refine SW.reg (l := [.op 0 .e, .op 1 .e, .op 2 .e]) rfl ?_
                                refine rx_s rfl rfl rfl rfl rfl ?_
                                refine rx_callH (F := ?FT27) rfl rfl rfl rfl rfl rfl rfl rfl Fa.ca_26 rfl (Cl.ready c d s (nf := 20) (cap := #[.pointer (some ⟨b14, 0, none⟩)]) (CA x) (DX x a) ⟨a, true⟩ rfl) ?T27 ?_
                                case T27 => (repeat (first|exact Take.nil|refine Take.cons (by (repeat first|exact .here|apply Take1.there)) ?_))
                                rintro _ _ ⟨rfl, rfl⟩
                                try simp only [List.cons_append, List.nil_append]
                                refine rx_s rfl rfl rfl rfl rfl ?_
                                refine rx_end0 ?_
                                refine SW.seq ?_
                                refine SW.reg (l := [.op 0 .e, .op 1 .e]) rfl ?_
                                refine rx_s rfl rfl rfl rfl rfl ?_
                                refine rx_callH (F := ?FT28) rfl rfl rfl rfl rfl rfl rfl rfl Fa.ca_21 rfl (Cl.step c d s (CA x) (DX x a) ⟨a, true⟩ rfl rfl [⟨0, 2, 1, 0⟩, ⟨1, 2, 1, 0⟩] _ Fa.ca_122 (Cl.take c d s (LoW.isNote b14) (CA x) ⟨by simp [Cl.cnew, Cli.ended], by simp [Cl.cnew, Cli.ended]⟩ (DX x a) (okX x a) [⟨0, 2, 1, 0⟩, ⟨1, 2, 1, 0⟩] (by simp) ⟨a, true⟩ rfl rfl)) ?T28 ?_
                                case T28 => (repeat (first|exact Take.nil|refine Take.cons (by (repeat first|exact .here|apply Take1.there)) ?_))
                                rintro _ _ ⟨rfl, rfl⟩
                                try simp only [List.cons_append, List.nil_append]
                                refine rx_end0 ?_
                                refine SW.seq ?_
                                refine SW.reg (l := [.op 0 .e, .op 1 .e, .op 2 .e]) rfl ?_
                                refine rx_s rfl rfl rfl rfl rfl ?_
                                refine rx_callH (F := ?FT29) rfl rfl rfl rfl rfl rfl rfl rfl Fa.ca_25 rfl (Cl.answers c d s 20 #[.pointer (some ⟨b14, 0, none⟩)] (CB x a) (by simp [Cl.cnew, Cli.ended])) ?T29 ?_
                                case T29 => (repeat (first|exact Take.nil|refine Take.cons (by (repeat first|exact .here|apply Take1.there)) ?_))
                                rintro _ _ ⟨pa2, ma2, ca2, rfl, hm2, rfl⟩
                                obtain rfl : ma2 = 2 := hm2
                                try simp only [List.cons_append, List.nil_append]
                                refine rx_s rfl rfl rfl rfl rfl ?_
                                refine rx_end0 ?_
                                refine SW.seq ?_
                                refine SW.seq ?_
                                refine SW.reg (l := [.op 0 .e, .op 1 .e, .op 2 .e]) rfl ?_
                                refine rx_s rfl rfl rfl rfl rfl ?_
                                refine rx_len rfl rfl rfl rfl rfl rfl (lenV_sl Fa.sl_45 _ _ _) ?_
                                refine rx_s rfl rfl rfl rfl rfl ?_
                                refine rx_end0 ?_
                                refine SW.cond (b := false) rfl (fun h => nomatch h) (fun _ => ?_)
                                refine SW.skip ?_
                                try simp only [thenK, blockK, cond_true, cond_false, beq_self_eq_true, Nat.reduceBEq]
                                refine SW.seq ?_
                                refine SW.slopen 1 rfl (fun _ q => by simp [Cl.cnew, Cli.ended, flat, enc, Enc.enc] at q) ?_
                                intro ab alen acap arest hv q1 q2 q3 q4
                                cases hv
                                refine SW.exH 3 rfl ?_; rintro lv3; simp only [List.cons_append, List.nil_append]
                                refine SW.sloff 1 rfl (fun _ q => by simp [flat, enc, Enc.enc] at q) ?_
                                intro lb off len cap' pre rest hv e1' e2' e3' e4' e5'
                                subst hv
                                obtain rfl : len = 3 := by simp [flat, enc, Enc.enc] at e1'; omega
                                refine SW.drawT (Hs := [OLD w0 [], CP c d s b14 (CB x a), DeskP d (DE x a), blk lb (pre ++ flat (LO a) ++ rest) 41 (0, 0)]) (D0l := []) (Dl := ?DT30) (F := ?FT30) Fa.mix (tp := [0, 1, 3, 7, 15, 31, 63, 127, 255, 511, 1023, 2047, 511, 8191, 16383, 32767, 65535, 131071, 262143, 524287, 1048575, 2097151, 4194303, 8388607, 16777215, 33554431, 67108863, 134217727, 268435455, 536870911, 1073741823, 1073741823, 1073741823, 1073741823, 9663676415, 26843545599, 67645734911, 137438953471, 274877906943, 549755813887]) (l := [.op 0 .s, .op 1 .s, .op 2 .s, .op 3 .s, .op 4 .s, .op 5 .s, .op 6 .s, .op 7 .s, .op 8 .s, .op 9 .s, .op 10 .s, .op 11 .d, .op 12 .d, .op 13 .e, .op 14 .s, .op 15 .s, .op 16 .s, .op 17 .e, .op 18 .s, .op 19 .s, .op 20 .s, .op 21 .s, .op 22 .e, .op 23 .s, .op 24 .s, .op 25 .s, .op 26 .s, .op 27 .e, .op 28 .s, .op 29 .s, .op 30 .d, .op 31 .s, .op 32 .s, .op 33 .s, .op 34 .d, .op 35 .s, .op 36 .f, .op 37 .e, .op 38 .s, .op 39 .s]) (by kernel_rfl) ?T30a ?T30b ?_
                                case T30a => (repeat (first|exact Take.nil|refine Take.cons (by (repeat first|exact .here|apply Take1.there)) ?_))
                                case T30b => (repeat (first|exact Take.nil|refine Take.cons (by (repeat first|exact .here|apply Take1.there)) ?_))
                                iterate 6 refine rx_s rfl rfl rfl rfl rfl ?_
                                refine rx_split (t := 245) rfl (fun g245 => ?_) (fun g245 => ?_)
                                · skip
                                  iterate 4 refine rx_s rfl rfl rfl rfl rfl ?_
                                  refine rx_ix rfl rfl rfl rfl rfl Fa.sl_45 rfl rfl (by omega) ?_
                                  refine rx_ldDA rfl rfl rfl rfl rfl rfl rfl (by (repeat first|exact .here|apply Take1.there)) Fa.ag_28 Fa.sz_28 (vs := [_, _, _, _, _]) (by exact flat_drop (l := [eA 1, a]) (i := 1) rfl (j := 0) (s := 5) (off := 0 + (1 : Int).toNat * 5) (by decide) rfl arest) rfl ?_
                                  refine rx_ldDA rfl rfl rfl rfl rfl rfl rfl (by (repeat first|exact .here|apply Take1.there)) Fa.ag_28 Fa.sz_28 (vs := [_, _, _, _, _]) (by rfl) rfl ?_
                                  refine rx_callH (F := ?FT31) rfl rfl rfl rfl rfl rfl rfl rfl Fa.ca_27 rfl (Sm.answers (OLD w0 []) a a ak ak ad ad hak hkm hak hkm (by omega) had had) ?T31 ?_
                                  case T31 => (repeat (first|exact Take.nil|refine Take.cons (by (repeat first|exact .here|apply Take1.there)) ?_))
                                  rintro _ _ ⟨rfl, rfl⟩
                                  try simp only [List.cons_append, List.nil_append]
                                  iterate 2 refine rx_s rfl rfl rfl rfl rfl ?_
                                  refine rx_split (t := 255) rfl (fun g255 => ?_) (fun g255 => ?_)
                                  · skip
                                    refine rx_s rfl rfl rfl rfl rfl ?_
                                    refine rx_callH (F := ?FT32) rfl rfl rfl rfl rfl rfl rfl rfl Fa.ca_26 rfl (Cl.ready c d s (nf := 20) (cap := #[.pointer (some ⟨b14, 0, none⟩)]) (CB x a) (DE x a) Rep.zero rfl) ?T32 ?_
                                    case T32 => (repeat (first|exact Take.nil|refine Take.cons (by (repeat first|exact .here|apply Take1.there)) ?_))
                                    rintro _ _ ⟨rfl, rfl⟩
                                    try simp only [List.cons_append, List.nil_append]
                                    iterate 4 refine rx_s rfl rfl rfl rfl rfl ?_
                                    refine rx_callH (F := ?FT33) rfl rfl rfl rfl rfl rfl rfl rfl Fa.ca_30 rfl (Dk.has d (DE x a) 2 Rep.zero (by omega) rfl) ?T33 ?_
                                    case T33 => (repeat (first|exact Take.nil|refine Take.cons (by (repeat first|exact .here|apply Take1.there)) ?_))
                                    rintro _ _ ⟨rfl, rfl⟩
                                    try simp only [List.cons_append, List.nil_append]
                                    iterate 4 refine rx_s rfl rfl rfl rfl rfl ?_
                                    refine rx_callH (F := ?FT34) rfl rfl rfl rfl rfl rfl rfl rfl Fa.ca_30 rfl (Dk.has d (DE x a) 1 ⟨⟨0, 0, 7, Sli.none, Sli.none⟩, true⟩ (by omega) rfl) ?T34 ?_
                                    case T34 => (repeat (first|exact Take.nil|refine Take.cons (by (repeat first|exact .here|apply Take1.there)) ?_))
                                    rintro _ _ ⟨rfl, rfl⟩
                                    try simp only [List.cons_append, List.nil_append]
                                    iterate 2 refine rx_s rfl rfl rfl rfl rfl ?_
                                    refine rx_ldD1 rfl rfl rfl rfl rfl rfl rfl (by (repeat first|exact .here|apply Take1.there)) Fa.ag_37 (by rfl) ?_
                                    refine rx_build rfl rfl rfl rfl rfl Fa.st_41 rfl (cs := [_, _, _, _]) rfl ?_
                                    refine rx_build rfl rfl rfl rfl rfl Fa.st_41 rfl (cs := [_, _, _, _]) rfl ?_
                                    refine rx_fa rfl rfl rfl rfl rfl rfl Fa.fo_28_1 ?_
                                    refine rx_ldD1 rfl rfl rfl rfl rfl rfl rfl (by (repeat first|exact .here|apply Take1.there)) Fa.ag_3 (by rfl) ?_
                                    refine rx_build rfl rfl rfl rfl rfl Fa.st_41 rfl (cs := [_, _, _, _]) rfl ?_
                                    refine rx_bslice (.inl rfl) rfl rfl rfl rfl rfl Fa.sl_37 Fa.z_41 rfl rfl rfl rfl rfl (cl := [_, _, _, _, _, _, _, _, _, _, _, _]) rfl ?_
                                    intro b276
                                    refine rx_callH (F := ?FT35) rfl rfl rfl rfl rfl rfl rfl rfl Fa.ca_22 rfl (Rf.events lb b276 off 0 cap' 3 (pre ++ flat (LO a) ++ rest) (flat (LO a)) 41 41 (0, 0) (0, 0) (LO a) (LO a) (by simp) (Rf.flat_dropO pre rest (e4' (by omega))) Rf.flat_drop0) ?T35 ?_
                                    case T35 => (repeat (first|exact Take.nil|refine Take.cons (by (repeat first|exact .here|apply Take1.there)) ?_))
                                    rintro _ _ ⟨rfl, rfl⟩
                                    try simp only [List.cons_append, List.nil_append]
                                    iterate 2 refine rx_s rfl rfl rfl rfl rfl ?_
                                    refine rx_endD ?_
                                    try simp only [List.cons_append, List.nil_append]
                                    refine SW.ret ?_
                                    exact retK1 (l := [_]) (.tmp rfl .nil) ⟨by simp, rfl⟩ (.one (by (repeat first|exact .here|apply Take1.there)) .nil)
                                  · (simp at g255)
                                · exact absurd hu (by simpa using g245)
end Wr
end Go.Proofs.YtikkegelplllmaaGreatDoor
namespace Go.Proofs.YtikkegelplllmaaGreatDoor
open Go Go.Sl Go.Holt Go.Proofs Go.ChangeShapes Go.WideShapes Go.ChangeAt Go.RowKit
open Go.Holt.Enc (enc)
namespace Cw
theorem bytesAt {w0 : World} {s : Sli} {l : List U8} (h : ListAt w0 s l) : Sm.BytesAt (OLD w0 []) s (l.map (·.n)) := by
  refine ⟨by rw [List.length_map]; exact h.1.symm, ?_⟩
  rcases h.2 with rfl | ⟨b, off, hp, hc⟩
  · exact .inl rfl
  · exact .inr ⟨b, off, hp, by rw [← flat_u8]; exact RdAt.of_old hc⟩
theorem laidOut : laidOutB Tryz.prog = true := by kernel_rfl
theorem own : ownKnob Tryz.prog.godebug = none := by kernel_rfl
def laid : List (String × DataW Unit) := [("unicode/utf8.acceptRanges", Rows.laid_unicode_utf8_acceptRanges), ("unicode/utf8.first", Rows.laid_unicode_utf8_first)]
set_option maxRecDepth 100000 in
theorem lifted (os : Os) (started : os.Started) (H : Type) (ec : TypeId × Value → H) :
    ReturnsInHanded {} Tryz.checked os 3 .any (fun w args => (Rows.clientWritesSpec.pre ec Tryz.prog Tryz.f3 [] false w args ∧ laidMetH Tryz.prog laid w) ∧ sizedMet ec Tryz.prog Tryz.f3 (OpenSpec.ofChange Rows.clientWritesSpec) false w args)
      (Rows.clientWritesSpec.post ec Tryz.prog Tryz.f3 false true false false) := by
  refine returnsInHanded_of_change_and (C := Tryz.checked) (X := fun w _ => laidMetH Tryz.prog laid w) (fun _ _ _ hh h => h.of_heap hh) own started (by kernel_rfl) Tryz.func3
    (ChangeSpec.witness_shaped (enc := ec) (C := Tryz.checked) (os := os) (X := fun w _ => laidMetH Tryz.prog laid w) false (World.laidAll Tryz.prog os laid) #[.agg #[.int .i64 0, .int .i64 0, .int .i64 0, .string ⟨#[]⟩, .slice none 0 0], .agg #[.int .i64 0, .int .i64 0, .int .i64 0, .slice none 0 0, .slice none 0 0], .bool false, .bool false] 8 (World.laidAll_os _ _ _)
      (World.shaped_of_ZipB (by kernel_rfl) (by kernel_rfl)) (by kernel_rfl) (by kernel_rfl) (by kernel_rfl)
      (by rw [MakeChecks.laidMetH_plain _ _ _ (by kernel_rfl)]; exact laidMet_laidAll _ (by kernel_rfl) (by kernel_rfl))) ?_
  intro W base args ds gs before hval0 hW _ _ hL _
  have hval : ∀ (j : Nat) t v, Tryz.f3.params[j]? = some t → args[j]? = some v → Value.okWide Tryz.prog W .any base t v := hval0
  have hW' := hW
  obtain ⟨p, q, hA0, hV, rfl, _, _⟩ := hW
  have hA : DataW.TrodAll ec Tryz.prog W 0 (fun _ => true) true Tryz.f3.params.toList args.toList ds p := hA0
  rw [Tryz.params3] at hA hval
  obtain ⟨v0, v1, v2, v3, d0, d1, d2, d3, p0, p1, p2, p3, rfl, rfl, rfl, h0, h1, h2, h3⟩ := trodAll_four hA
  obtain ⟨rfl, rfl⟩ := trodVars_none hV
  have lt : ∀ x ∈ p0 ++ p1 ++ p2 ++ p3, x.block < W.heap.size := fun x hx => by simpa using hW'.lt x (by simpa using hx)
  have k0 := h0
  have k1 := h1
  obtain ⟨c, lc, rfl, hc, hcn⟩ := Rs.call (hval 0 _ _ rfl rfl) h0
  obtain ⟨a, ka, la, rfl, hk, ha, han⟩ := Rs.answer (hval 1 _ _ rfl rfl) h1
  obtain ⟨b2, rfl, rfl, rfl⟩ := open_bool Tryz.underlying4 (hval 2 _ _ rfl rfl) h2
  obtain ⟨b3, rfl, rfl, rfl⟩ := open_bool Tryz.underlying4 (hval 3 _ _ rfl rfl) h3
  refine (Holt.Spec.enter (Wr.law W c a b2 b3 _ _ ka (bytesAt hc) (bytesAt ha) hk.rd hk.1)).mono fun e W' ⟨he, hb⟩ => ?_
  subst he
  refine ⟨_, rfl, _, _, _, [], _, [], hW', trodAll_mk1 (shut_bool Tryz.underlying4 _),
    trodAll_mk4 (Below.trod laidOut (by kernel_rfl) (of_decide_eq_true (by kernel_rfl)) k0 hb (fun x hx => lt x (by simp [hx]))) (Below.trod laidOut (by kernel_rfl) (of_decide_eq_true (by kernel_rfl)) k1 hb (fun x hx => lt x (by simp [hx]))) (shut_bool Tryz.underlying4 _) (shut_bool Tryz.underlying4 _), rfl, hb.frame _, fun h => by cases h⟩
theorem said : Rows.ClientWritesSaid :=
  OpenClaim.holds_of_wide 3 Tryz.f3 rfl rfl rfl rfl rfl rfl rfl ⟨rfl, rfl, rfl, rfl, rfl⟩ rfl rfl rfl rfl rfl (by kernel_rfl) Tryz.func3 (by kernel_rfl)
    (of_decide_eq_true (by kernel_rfl)) (by unfold Func.isWrapper; first | (rw [if_pos (by decide +kernel)]; kernel_rfl) | (rw [if_neg (by decide +kernel)]; exact ⟨rfl, rfl⟩))
    (fun os started H enc _ => lifted os started H enc)
end Cw
/-- The card of ClientWrites. -/
theorem clientWrites_holds : Rows.ClientWritesCardSaid :=
  Claim7.holds_tied_plain_at .later [] [.data, .pinned] true (true, "f4eec98776588dca81ef620558350302ef699c962e32c7f46b816f5a4ad8ed4f") false
    Cw.said (fun _ h => by cases h) (by kernel_rfl) (fun _ h => by cases h) clientWrites_row_tie rfl ⟨rfl, rfl⟩ (by kernel_rfl) rfl
    (fun f fn hf hfn => by
      obtain rfl : f = 3 := Option.some.inj ((show Tryz.prog.funcNamed "holt/holtlaw19.ClientWrites" = some 3 by kernel_rfl).symm.trans hf) |>.symm
      obtain rfl : fn = Tryz.f3 := (Option.some.inj (Tryz.func3.symm.trans hfn)).symm
      exact ⟨by kernel_rfl, fun j t ht => by
        rw [Tryz.params3] at ht
        have hm : t ∈ [24, 28, 4, 4] := by simpa using Array.mem_of_getElem? ht
        have hall : ([24, 28, 4, 4].all fun u => !Tryz.prog.wantsStandIn u) = true := by kernel_rfl
        exact (show Tryz.prog.wantsStandIn t = false by simpa using List.all_eq_true.1 hall t hm)⟩)
    (by kernel_rfl)
#print axioms clientWrites_holds
end Go.Proofs.YtikkegelplllmaaGreatDoor
