/- What a claim leans on, part 3: lemmas and contracts. -/
import Derived.Shelf.Small.Bits
import Derived.Shelf.LaysM
import Derived.Shelf.Strings.Prefix
import Derived.Shelf.Strings.Split
import Derived.Shelf.Strings.SplitShaped
import Derived.Ground.NamesProg
import Derived.Shelf.Unicode.ValidAny
import Derived.Test.YtikkegelplllmaaGreatDoorProg
import Derived.Test.YtikkegelplllmaaGreatDoorQ0
import Derived.Test.YtikkegelplllmaaGreatDoorQ1
set_option linter.unusedSimpArgs false
set_option linter.unusedVariables false
/-
  DERIVED: THE SHELF's CONTRACTS AT THIS DUMP, IN PLAIN WORDS (tools/lay-plain.mjs out of 'TryzShelf.lean', which tools/lay-shelf.mjs wrote): THE SAME DECLARATIONS UNDER THE SAME NAMES: 'import', 'namespace', 'open', 'def', 'theorem' AND NOTHING ELSE: no command of the shelf's: FOR A HAND-IN. Each laying: the table of numbers ('.._ren') and one theorem, a field a fact of the dump's own or the kernel's comparison; each contract: ONE APPLICATION.
-/
namespace Go.Proofs
open Go.Shelf
def Tryz.lays125_ren : Go.Shelf.Ren := ⟨fun | 125 => 176 | 128 => 206 | 129 => 207 | n => n, fun | 46 => 226 | 3 => 3 | 51 => 298 | 53 => 256 | 4 => 4 | 5 => 5 | 9 => 9 | n => n, fun | n => n⟩
theorem Tryz.lays125 : Go.Proofs.Lays.n125 Tryz.prog Tryz.lays125_ren := {
  mixed := by kernel_rfl
  f125 := Tryz.func176.trans (congrArg some (by kernel_rfl))
  f128 := Tryz.func206.trans (congrArg some (by kernel_rfl))
  f129 := Tryz.func207.trans (congrArg some (by kernel_rfl))
  t3 := Tryz.underlying3
  a3 := Tryz.isAgg3
  z3 := Tryz.sizeOf3
  v3 := Tryz.zeroValue3
  t4 := Tryz.underlying4
  a4 := Tryz.isAgg4
  z4 := Tryz.sizeOf4
  v4 := Tryz.zeroValue4
  t5 := Tryz.underlying5
  a5 := Tryz.isAgg5
  z5 := Tryz.sizeOf5
  v5 := Tryz.zeroValue5
  t9 := Tryz.underlying9
  a9 := Tryz.isAgg9
  z9 := Tryz.sizeOf9
  v9 := Tryz.zeroValue9
  t46 := Tryz.underlying226
  a46 := Tryz.isAgg226
  z46 := Tryz.sizeOf226
  v46 := Tryz.zeroValue226
  t51 := Tryz.underlying298
  a51 := Tryz.isAgg298
  z51 := Tryz.sizeOf298
  v51 := Tryz.zeroValue298
  t53 := Tryz.underlying256
  a53 := Tryz.isAgg256
  z53 := Tryz.sizeOf256
  v53 := Tryz.zeroValue256 }
/-- bits.Len: "Len returns the minimum number of bits required to represent x; the result is 0 for x == 0.": IT RETURNS 'Lib.bitLen x'; the world is as it was. (A uint has 64 bits in the model.) ITS CALLEE bits.Len64 IS MET BY ITS OWN CONTRACT OFF THE SHELF (lay that first). (LAID: no walk: one application.) -/
theorem Tryz.bits_Len (x : Int) (w : World) (h0 : 0 ≤ x) (h1 : x ≤ 18446744073709551615) :
    Calls Tryz.prog 176 #[.int .u64 x] w fun e w' => e = .returned (.int .i64 (Lib.bitLen x.toNat)) ∧ w' = w := Any.bits_Len Tryz.lays125 x w h0 h1
def Tryz.lays99_ren : Go.Shelf.Ren := ⟨fun | 99 => 79 | 206 => 106 | n => n, fun | 9 => 9 | 4 => 4 | 3 => 3 | n => n, fun | n => n⟩
theorem Tryz.lays99 : Go.Proofs.Lays.n99 Tryz.prog Tryz.lays99_ren := {
  mixed := by kernel_rfl
  f99 := Tryz.func79.trans (congrArg some (by kernel_rfl))
  f206 := Tryz.func106.trans (congrArg some (by kernel_rfl))
  t3 := Tryz.underlying3
  a3 := Tryz.isAgg3
  z3 := Tryz.sizeOf3
  v3 := Tryz.zeroValue3
  t4 := Tryz.underlying4
  a4 := Tryz.isAgg4
  z4 := Tryz.sizeOf4
  v4 := Tryz.zeroValue4
  t9 := Tryz.underlying9
  a9 := Tryz.isAgg9
  z9 := Tryz.sizeOf9
  v9 := Tryz.zeroValue9 }
open Go.RowKit Go.Lib in
/-- strings.HasPrefix: "HasPrefix reports whether the string s begins with prefix.": IT RETURNS 'Lib.hasPrefix s prefix'; the world is as it was. (LAID: no walk: one application.) -/
theorem Tryz.strings_HasPrefix (s p : ByteArray) (w : World) :
    Calls Tryz.prog 79 #[.string s, .string p] w fun e w' => e = .returned (.bool (Lib.hasPrefix s.data.toList p.data.toList)) ∧ w' = w := Any.strings_HasPrefix Tryz.lays99 s p w
def Tryz.lays146_ren : Go.Shelf.Ren := ⟨fun | 146 => 80 | 221 => 107 | 268 => 131 | 138 => 132 | 143 => 133 | 195 => 153 | 197 => 154 | 218 => 155 | 219 => 156 | 260 => 178 | 217 => 179 | 225 => 180 | 224 => 181 | 267 => 182 | 266 => 208 | 314 => 209 | n => n, fun | 9 => 9 | 31 => 69 | 3 => 3 | 4 => 4 | 0 => 0 | 105 => 253 | 21 => 21 | 5 => 5 | 46 => 226 | 119 => 222 | 139 => 225 | 138 => 224 | 146 => 300 | 51 => 298 | n => n, fun | 1 => 2 | 3 => 0 | 4 => 1 | n => n⟩
theorem Tryz.lays146 : Go.Proofs.Lays.n146 Tryz.prog Tryz.lays146_ren := {
  mixed := by kernel_rfl
  f138 := Tryz.func132.trans (congrArg some (by kernel_rfl))
  f143 := Tryz.func133.trans (congrArg some (by kernel_rfl))
  f146 := Tryz.func80.trans (congrArg some (by kernel_rfl))
  f195 := Tryz.func153.trans (congrArg some (by kernel_rfl))
  f197 := Tryz.func154.trans (congrArg some (by kernel_rfl))
  f217 := Tryz.func179.trans (congrArg some (by kernel_rfl))
  f218 := Tryz.func155.trans (congrArg some (by kernel_rfl))
  f219 := Tryz.func156.trans (congrArg some (by kernel_rfl))
  f221 := Tryz.func107.trans (congrArg some (by kernel_rfl))
  f224 := Tryz.func181.trans (congrArg some (by kernel_rfl))
  f225 := Tryz.func180.trans (congrArg some (by kernel_rfl))
  f260 := Tryz.func178.trans (congrArg some (by kernel_rfl))
  f266 := Tryz.func208.trans (congrArg some (by kernel_rfl))
  f267 := Tryz.func182.trans (congrArg some (by kernel_rfl))
  f268 := Tryz.func131.trans (congrArg some (by kernel_rfl))
  f314 := Tryz.func209.trans (congrArg some (by kernel_rfl))
  t0 := Tryz.underlying0
  a0 := Tryz.isAgg0
  z0 := Tryz.sizeOf0
  v0 := Tryz.zeroValue0
  t3 := Tryz.underlying3
  a3 := Tryz.isAgg3
  z3 := Tryz.sizeOf3
  v3 := Tryz.zeroValue3
  t4 := Tryz.underlying4
  a4 := Tryz.isAgg4
  z4 := Tryz.sizeOf4
  v4 := Tryz.zeroValue4
  t5 := Tryz.underlying5
  a5 := Tryz.isAgg5
  z5 := Tryz.sizeOf5
  v5 := Tryz.zeroValue5
  t9 := Tryz.underlying9
  a9 := Tryz.isAgg9
  z9 := Tryz.sizeOf9
  v9 := Tryz.zeroValue9
  t21 := Tryz.underlying21
  a21 := Tryz.isAgg21
  z21 := Tryz.sizeOf21
  v21 := Tryz.zeroValue21
  t31 := Tryz.underlying69
  a31 := Tryz.isAgg69
  z31 := Tryz.sizeOf69
  v31 := Tryz.zeroValue69
  t46 := Tryz.underlying226
  a46 := Tryz.isAgg226
  z46 := Tryz.sizeOf226
  v46 := Tryz.zeroValue226
  t51 := Tryz.underlying298
  a51 := Tryz.isAgg298
  z51 := Tryz.sizeOf298
  v51 := Tryz.zeroValue298
  t105 := Tryz.underlying253
  a105 := Tryz.isAgg253
  z105 := Tryz.sizeOf253
  v105 := Tryz.zeroValue253
  t119 := Tryz.underlying222
  a119 := Tryz.isAgg222
  z119 := Tryz.sizeOf222
  t138 := Tryz.underlying224
  a138 := Tryz.isAgg224
  z138 := Tryz.sizeOf224
  v138 := Tryz.zeroValue224
  t139 := Tryz.underlying225
  a139 := Tryz.isAgg225
  z139 := Tryz.sizeOf225
  v139 := Tryz.zeroValue225
  t146 := Tryz.underlying300
  a146 := Tryz.isAgg300
  z146 := Tryz.sizeOf300
  v146 := Tryz.zeroValue300
  g1 := by kernel_rfl
  g3 := by kernel_rfl
  g4 := by kernel_rfl }
open Go.RowKit Go.Lib in
/-- strings.Split. (LAID: no walk: one application.) -/
theorem Tryz.strings_Split (s sep : ByteArray) (m : Int) (w : World) (hs : s.size < 4294967281) (hm : w.cell? ⟨2, 0, none⟩ = some (.int .i64 m)) (h1 : 1 ≤ sep.size) :
    Calls Tryz.prog 80 #[.string s, .string sep] w fun e w' =>
      e = .returned (.slice (some ⟨w.heap.size, 0, none⟩) (Lib.countB s sep + 1) (Lib.countB s sep + 1)) ∧ w' = w.alloc (.cells ((Lib.splitB sep 0 (Lib.countB s sep) s).map Value.string).toArray 9) := Any.strings_Split Tryz.lays146 (by kernel_rfl) s sep m w hs hm h1
def Tryz.laysM146_ren : Go.Shelf.Ren := ⟨fun | 146 => 80 | 221 => 107 | 268 => 131 | 138 => 132 | 143 => 133 | 195 => 153 | 197 => 154 | 218 => 155 | 219 => 156 | 260 => 178 | 217 => 179 | 225 => 180 | 224 => 181 | 267 => 182 | 266 => 208 | 314 => 209 | n => n, fun | 9 => 9 | 31 => 69 | 3 => 3 | 4 => 4 | 0 => 0 | 105 => 253 | 21 => 21 | 5 => 5 | 46 => 226 | 119 => 222 | 139 => 225 | 138 => 224 | 146 => 300 | 51 => 298 | n => n, fun | 1 => 2 | 3 => 0 | 4 => 1 | n => n⟩
theorem Tryz.laysM146 : Go.Proofs.LaysM.n146 Tryz.prog Tryz.laysM146_ren := {
  mixed := by kernel_rfl
  f138 := Tryz.func132.trans (congrArg some (by kernel_rfl))
  f143 := Tryz.func133.trans (congrArg some (by kernel_rfl))
  f146 := Tryz.func80.trans (congrArg some (by kernel_rfl))
  f195 := Tryz.func153.trans (congrArg some (by kernel_rfl))
  f197 := Tryz.func154.trans (congrArg some (by kernel_rfl))
  f217 := Tryz.func179.trans (congrArg some (by kernel_rfl))
  f218 := Tryz.func155.trans (congrArg some (by kernel_rfl))
  f219 := Tryz.func156.trans (congrArg some (by kernel_rfl))
  f221 := Tryz.func107.trans (congrArg some (by kernel_rfl))
  f224 := Tryz.func181.trans (congrArg some (by kernel_rfl))
  f225 := Tryz.func180.trans (congrArg some (by kernel_rfl))
  f260 := Tryz.func178.trans (congrArg some (by kernel_rfl))
  f266 := Tryz.func208.trans (congrArg some (by kernel_rfl))
  f267 := Tryz.func182.trans (congrArg some (by kernel_rfl))
  f268 := Tryz.func131.trans (congrArg some (by kernel_rfl))
  f314 := Tryz.func209.trans (congrArg some (by kernel_rfl))
  t0 := Tryz.underlying0
  a0 := Tryz.isAgg0
  z0 := Tryz.sizeOf0
  v0 := Tryz.zeroValue0
  t3 := Tryz.underlying3
  a3 := Tryz.isAgg3
  z3 := Tryz.sizeOf3
  v3 := Tryz.zeroValue3
  t4 := Tryz.underlying4
  a4 := Tryz.isAgg4
  z4 := Tryz.sizeOf4
  v4 := Tryz.zeroValue4
  t5 := Tryz.underlying5
  a5 := Tryz.isAgg5
  z5 := Tryz.sizeOf5
  v5 := Tryz.zeroValue5
  t9 := Tryz.underlying9
  a9 := Tryz.isAgg9
  z9 := Tryz.sizeOf9
  v9 := Tryz.zeroValue9
  t21 := Tryz.underlying21
  a21 := Tryz.isAgg21
  z21 := Tryz.sizeOf21
  v21 := Tryz.zeroValue21
  t31 := Tryz.underlying69
  a31 := Tryz.isAgg69
  z31 := Tryz.sizeOf69
  v31 := Tryz.zeroValue69
  t46 := Tryz.underlying226
  a46 := Tryz.isAgg226
  z46 := Tryz.sizeOf226
  v46 := Tryz.zeroValue226
  t51 := Tryz.underlying298
  a51 := Tryz.isAgg298
  z51 := Tryz.sizeOf298
  v51 := Tryz.zeroValue298
  t105 := Tryz.underlying253
  a105 := Tryz.isAgg253
  z105 := Tryz.sizeOf253
  v105 := Tryz.zeroValue253
  t119 := Tryz.underlying222
  a119 := Tryz.isAgg222
  z119 := Tryz.sizeOf222
  t138 := Tryz.underlying224
  a138 := Tryz.isAgg224
  z138 := Tryz.sizeOf224
  v138 := Tryz.zeroValue224
  t139 := Tryz.underlying225
  a139 := Tryz.isAgg225
  z139 := Tryz.sizeOf225
  v139 := Tryz.zeroValue225
  t146 := Tryz.underlying300
  a146 := Tryz.isAgg300
  z146 := Tryz.sizeOf300
  v146 := Tryz.zeroValue300
  g1 := by kernel_rfl
  g3 := by kernel_rfl
  g4 := by kernel_rfl
  i0 := by kernel_rfl
  i3 := by kernel_rfl
  i4 := by kernel_rfl
  i5 := by kernel_rfl
  i9 := by kernel_rfl
  i21 := by kernel_rfl
  i31 := by kernel_rfl
  i46 := by kernel_rfl
  i51 := by kernel_rfl
  i105 := by kernel_rfl
  i138 := by kernel_rfl
  i139 := by kernel_rfl
  i146 := by kernel_rfl
  m1 := by kernel_rfl
  s1_3 := fun w h => Go.Proofs.cell_of_shapedOpen_int (zero := #[.int .i64 0]) (t := 3) h (of_decide_eq_true (by kernel_rfl)) (by kernel_rfl) rfl (by kernel_rfl) (by kernel_rfl) Tryz.underlying3
  m3 := by kernel_rfl
  m4 := by kernel_rfl }
def Tryz.lays196_ren : Go.Shelf.Ren := ⟨fun | 196 => 109 | 259 => 134 | n => n, fun | 9 => 9 | 4 => 4 | 3 => 3 | 5 => 5 | 12 => 12 | 119 => 222 | 0 => 0 | 46 => 226 | 139 => 225 | 138 => 224 | 53 => 256 | n => n, fun | 3 => 0 | 4 => 1 | n => n⟩
theorem Tryz.lays196 : Go.Proofs.Lays.n196 Tryz.prog Tryz.lays196_ren := {
  mixed := by kernel_rfl
  f196 := Tryz.func109.trans (congrArg some (by kernel_rfl))
  f259 := Tryz.func134.trans (congrArg some (by kernel_rfl))
  t0 := Tryz.underlying0
  a0 := Tryz.isAgg0
  z0 := Tryz.sizeOf0
  v0 := Tryz.zeroValue0
  t3 := Tryz.underlying3
  a3 := Tryz.isAgg3
  z3 := Tryz.sizeOf3
  v3 := Tryz.zeroValue3
  t4 := Tryz.underlying4
  a4 := Tryz.isAgg4
  z4 := Tryz.sizeOf4
  v4 := Tryz.zeroValue4
  t5 := Tryz.underlying5
  a5 := Tryz.isAgg5
  z5 := Tryz.sizeOf5
  v5 := Tryz.zeroValue5
  t9 := Tryz.underlying9
  a9 := Tryz.isAgg9
  z9 := Tryz.sizeOf9
  v9 := Tryz.zeroValue9
  t12 := Tryz.underlying12
  a12 := Tryz.isAgg12
  z12 := Tryz.sizeOf12
  v12 := Tryz.zeroValue12
  t46 := Tryz.underlying226
  a46 := Tryz.isAgg226
  z46 := Tryz.sizeOf226
  v46 := Tryz.zeroValue226
  t53 := Tryz.underlying256
  a53 := Tryz.isAgg256
  z53 := Tryz.sizeOf256
  v53 := Tryz.zeroValue256
  t119 := Tryz.underlying222
  a119 := Tryz.isAgg222
  z119 := Tryz.sizeOf222
  t138 := Tryz.underlying224
  a138 := Tryz.isAgg224
  z138 := Tryz.sizeOf224
  v138 := Tryz.zeroValue224
  t139 := Tryz.underlying225
  a139 := Tryz.isAgg225
  z139 := Tryz.sizeOf225
  v139 := Tryz.zeroValue225
  g3 := by kernel_rfl
  g4 := by kernel_rfl }
end Go.Proofs
/- Few kids are sorted by the library. -/
namespace Go.Proofs.YtikkegelplllmaaGreatDoor
open Go Go.Sl Go.Holt Go.Proofs
open Go.Holt.Enc (enc)
namespace So
theorem insertionB (b m c : Nat) (ks : List Kid) (rest : List Value) (hm : ks.length = m) (hm2 : m ≤ 1000) : Sl.Spec Tryz.prog 198 #[.slice (some ⟨b, 0, none⟩) m c, .int .i64 0, .int .i64 m, .func (.func 61) #[] #[]] [blk b (flat ks ++ rest) 73 (0, 0)]
    (fun v l => v = .tuple #[] ∧ l = [blk b (flat (sortKids cmpK ks) ++ rest) 73 (0, 0)]) := by
  rw [← insAll_sort]
  refine Spec.enter Tryz.func198 rfl rfl rfl ?_
  refine SW.seq ?_
  refine SW.reg (l := [.op 0 .e, .op 1 .e, .op 2 .e]) rfl ?_
  refine rx_s rfl rfl rfl rfl rfl ?_
  refine rx_ar rfl rfl rfl rfl rfl (by omega) ?_
  refine rx_s rfl rfl rfl rfl rfl ?_
  refine rx_end0 ?_
  refine SW.block ?_
  refine SW.loop (fun q e' H' => ∃ (i : Nat) (dn td : List Kid), q = m - i ∧ dn.length ≤ i ∧ (i = dn.length ∨ td = []) ∧ dn.length + td.length = m ∧ insAll cmpK dn td = insAll cmpK [] ks ∧ H' = star [blk b (flat (dn ++ td) ++ rest) 73 (0, 0)] ∧
    EnvLe (upd (upd (upd (upd (upd noEnv 0 (.slice (some ⟨b, 0, none⟩) m c)) 1 (.int .i64 0)) 2 (.int .i64 m)) 3 (.func (.func 61) #[] #[])) 8 (.int .i64 i)) e') (m - 1) ?_ ?_
  · cases ks with
    | nil => exact ⟨1, [], [], by simp, by simp, .inr rfl, by simpa using hm, rfl, rfl, .cons (.cons (.cons (.cons (.cons .nil rfl) rfl) rfl) rfl) rfl⟩
    | cons k ks => exact ⟨1, [k], ks, by simp, by simp, .inl rfl, by simpa [Nat.add_comm] using hm, rfl, rfl, .cons (.cons (.cons (.cons (.cons .nil rfl) rfl) rfl) rfl) rfl⟩
  rintro q e' _ ⟨i, dn, td, rfl, hi, hd, hn, hall, rfl, hle⟩
  refine SW.forget hle ?_
  refine SW.seq ?_
  refine SW.seq ?_
  refine SW.reg (l := [.op 0 .e, .op 1 .e, .op 2 .e]) rfl ?_
  iterate 3 refine rx_s rfl rfl rfl rfl rfl ?_
  refine rx_end0 ?_
  refine SW.cond rfl (fun h14 => ?_) (fun h14 => ?_)
  · skip
    have hi' : i < m := by have := of_decide_eq_true h14; omega
    obtain rfl : i = dn.length := by rcases hd with h | h; exact h; subst h; simp at hn; omega
    obtain ⟨x, td, rfl⟩ : ∃ x t, td = x :: t := List.exists_cons_of_length_pos (by omega)
    simp only [insAll] at hall
    simp only [List.length_cons] at hn
    refine SW.skip ?_
    try simp only [thenK, blockK, cond_true, cond_false, beq_self_eq_true, Nat.reduceBEq]
    refine SW.seq ?_
    refine SW.block ?_
    refine SW.seq ?_
    refine SW.reg (l := [.op 0 .e, .op 1 .e]) rfl ?_
    iterate 2 refine rx_s rfl rfl rfl rfl rfl ?_
    refine rx_end0 ?_
    refine SW.block ?_
    refine SW.loop (fun q e' H' => ∃ (r tl : List Kid), q = r.length ∧ r.length + 1 + tl.length = m ∧ insR cmpK r x tl = insR cmpK dn.reverse x [] ++ td ∧ H' = star [blk b (flat (r.reverse ++ x :: tl) ++ rest) 73 (0, 0)] ∧
      EnvLe (upd (upd (upd (upd (upd (upd noEnv 0 (.slice (some ⟨b, 0, none⟩) m c)) 1 (.int .i64 0)) 2 (.int .i64 m)) 3 (.func (.func 61) #[] #[])) 8 (.int .i64 dn.length)) 9 (.int .i64 r.length)) e') dn.length
      ⟨dn.reverse, td, by simp, by simp; omega, by rw [← insR_append]; rfl, by simp, .cons (.cons (.cons (.cons (.cons (.cons .nil rfl) rfl) rfl) rfl) rfl) (by simp; rfl)⟩ ?_
    rintro q e'' _ ⟨r, tl, rfl, hrn, hins, rfl, hle'⟩
    refine SW.forget hle' ?_
    have hx : (r.reverse ++ x :: tl)[r.length]? = some x := by simp
    refine SW.seq ?_
    refine SW.seq ?_
    refine SW.drawT (Hs := []) (D0l := []) (Dl := ?DT1) (F := ?FT1) Fa.mix (tp := [0, 0, 3, 7, 15, 15, 15, 111, 239, 15, 15, 1039, 3599, 7695, 16383, 32767, 65535]) (l := [.op 0 .s, .op 1 .s, .op 2 .s, .op 3 .s, .op 4 .s, .op 5 .s, .op 6 .s, .op 7 .s, .op 8 .d, .op 9 .s, .op 10 .s, .op 11 .s, .op 12 .s, .op 13 .d, .op 14 .e, .op 15 .s, .op 16 .s]) (by kernel_rfl) ?T1a ?T1b ?_
    case T1a => (repeat (first|exact Take.nil|refine Take.cons (by (repeat first|exact .here|apply Take1.there)) ?_))
    case T1b => (repeat (first|exact Take.nil|refine Take.cons (by (repeat first|exact .here|apply Take1.there)) ?_))
    iterate 4 refine rx_s rfl rfl rfl rfl rfl ?_
    refine rx_split (t := 21) rfl (fun g21 => ?_) (fun g21 => ?_)
    · skip
      have hr : 0 < r.length := by have := of_decide_eq_true g21; omega
      obtain ⟨y, r, rfl⟩ : ∃ y t, r = y :: t := List.exists_cons_of_length_pos hr
      have hy : ((y :: r).reverse ++ x :: tl)[r.length]? = some y := by simp
      have hsw : (((y :: r).reverse ++ x :: tl).set (y :: r).length y).set r.length x = r.reverse ++ x :: (y :: tl) := by simp [List.set_append]
      have hy2 : (((y :: r).reverse ++ x :: tl).set (y :: r).length y)[r.length]? = some y := by rw [List.getElem?_set_ne (by simp)]; exact hy
      have hL : (y :: r).length = r.length + 1 := rfl
      iterate 3 refine rx_s rfl rfl rfl rfl rfl ?_
      refine rx_ix rfl rfl rfl rfl rfl Fa.sl_26 rfl rfl (by simp at hrn ⊢; omega) ?_
      refine rx_ldDA rfl rfl rfl rfl rfl rfl rfl (by (repeat first|exact .here|apply Take1.there)) Fa.ag_73 Fa.sz_73 (vs := [_, _, _]) (by exact flat_drop hx (j := 0) (s := 3) (by decide) (by simp; rfl) rest) rfl ?_
      iterate 2 refine rx_s rfl rfl rfl rfl rfl ?_
      refine rx_ar rfl rfl rfl rfl rfl (by omega) ?_
      refine rx_ix rfl rfl rfl rfl rfl Fa.sl_26 rfl rfl (by simp at hrn ⊢; omega) ?_
      refine rx_ldDA rfl rfl rfl rfl rfl rfl rfl (by (repeat first|exact .here|apply Take1.there)) Fa.ag_73 Fa.sz_73 (vs := [_, _, _]) (by exact flat_drop hy (j := 0) (s := 3) (by decide) (by simp; rfl) rest) rfl ?_
      refine rx_callH (F := ?FT2) rfl rfl rfl rfl rfl rfl rfl rfl Fa.ca_61 rfl (Cm.kid x y) ?T2 ?_
      case T2 => (repeat (first|exact Take.nil|refine Take.cons (by (repeat first|exact .here|apply Take1.there)) ?_))
      rintro _ _ ⟨rfl, rfl⟩
      try simp only [List.cons_append, List.nil_append]
      iterate 2 refine rx_s rfl rfl rfl rfl rfl ?_
      refine rx_endD ?_
      try simp only [List.cons_append, List.nil_append]
      refine SW.cond rfl (fun h34 => ?_) (fun h34 => ?_)
      · skip
        have hc : cmpK x y < 0 := of_decide_eq_true h34
        rw [insR, if_pos hc] at hins
        refine SW.skip ?_
        try simp only [thenK, blockK, cond_true, cond_false, beq_self_eq_true, Nat.reduceBEq]
        refine SW.seq ?_
        refine SW.block ?_
        refine SW.drawAll Fa.mix (tp := [0, 0, 0, 0, 8, 0, 0, 64, 224, 480, 0, 0, 3072, 7168, 16355, 32739, 65535, 131071]) (l := [.op 0 .s, .op 1 .s, .op 2 .s, .op 3 .s, .op 4 .s, .op 5 .s, .op 6 .s, .op 7 .s, .op 8 .s, .op 9 .d, .op 10 .s, .op 11 .s, .op 12 .s, .op 13 .d, .op 14 .s, .bar, .op 15 .e, .op 16 .s, .op 17 .e]) (by kernel_rfl) ?_
        iterate 4 refine rx_s rfl rfl rfl rfl rfl ?_
        refine rx_ar rfl rfl rfl rfl rfl (by omega) ?_
        iterate 2 refine rx_s rfl rfl rfl rfl rfl ?_
        refine rx_ar rfl rfl rfl rfl rfl (by omega) ?_
        refine rx_ix rfl rfl rfl rfl rfl Fa.sl_26 rfl rfl (by simp at hrn ⊢; omega) ?_
        refine rx_ldDA rfl rfl rfl rfl rfl rfl rfl (by (repeat first|exact .here|apply Take1.there)) Fa.ag_73 Fa.sz_73 (vs := [_, _, _]) (by exact flat_drop hy (j := 0) (s := 3) (by decide) (by simp; rfl) rest) rfl ?_
        iterate 2 refine rx_s rfl rfl rfl rfl rfl ?_
        refine rx_ix rfl rfl rfl rfl rfl Fa.sl_26 rfl rfl (by simp at hrn ⊢; omega) ?_
        refine rx_ldDA rfl rfl rfl rfl rfl rfl rfl (by (repeat first|exact .here|apply Take1.there)) Fa.ag_73 Fa.sz_73 (vs := [_, _, _]) (by exact flat_drop hx (j := 0) (s := 3) (by decide) (by simp; rfl) rest) rfl ?_
        refine rx_ix rfl rfl rfl rfl rfl Fa.sl_26 rfl rfl (by simp at hrn ⊢; omega) ?_
        refine rx_barAll ?_
        try simp only [List.cons_append, List.nil_append]
        refine rx_stp rfl rfl rfl rfl rfl rfl (by (repeat first|exact .here|apply Take1.there)) Fa.sz_73 (vs := [_, _, _]) rfl rfl rfl (by exact flat_fit hx (j := 0) (by decide) (by simp; rfl) rest) (cl' := _) (by exact flat_put (a' := y) hx (j := 0) (Nat.le_of_ble_eq_true rfl) (by simp; rfl) rfl rest) ?_
        refine rx_ix rfl rfl rfl rfl rfl Fa.sl_26 rfl rfl (by simp at hrn ⊢; omega) ?_
        refine rx_stp rfl rfl rfl rfl rfl rfl (by (repeat first|exact .here|apply Take1.there)) Fa.sz_73 (vs := [_, _, _]) rfl rfl rfl (by exact flat_fit hy2 (j := 0) (by decide) (by simp; rfl) rest) (cl' := _) (by exact flat_put (a' := x) hy2 (j := 0) (Nat.le_of_ble_eq_true rfl) (by simp; rfl) rfl rest) ?_
        refine rx_endL ?_
        try simp only [List.cons_append, List.nil_append]
        try simp only [thenK, blockK, cond_true, cond_false, beq_self_eq_true, Nat.reduceBEq]
        rw [hsw]
        refine SW.reg (l := [.op 0 .e, .op 1 .e, .op 2 .e]) rfl ?_
        refine rx_s rfl rfl rfl rfl rfl ?_
        refine rx_ar rfl rfl rfl rfl rfl (by omega) ?_
        refine rx_s rfl rfl rfl rfl rfl ?_
        refine rx_end0 ?_
        exact ⟨r.length, by simp, r, y :: tl, rfl, by simp at hrn ⊢; omega, hins, rfl, .cons (.cons (.cons (.cons (.cons (.cons .nil rfl) rfl) rfl) rfl) rfl) (by simp; rfl)⟩
      · skip
        have hc : ¬ (cmpK x y < 0) := by simpa using h34
        have hfin : insR cmpK (y :: r) x tl = (y :: r).reverse ++ x :: tl := by rw [insR, if_neg hc]
        rw [hfin] at hins
        refine SW.exit ?_
        try simp only [thenK, blockK, cond_true, cond_false, beq_self_eq_true, Nat.reduceBEq]
        refine SW.reg (l := [.op 0 .e, .op 1 .e, .op 2 .e]) rfl ?_
        refine rx_s rfl rfl rfl rfl rfl ?_
        refine rx_ar rfl rfl rfl rfl rfl (by omega) ?_
        refine rx_s rfl rfl rfl rfl rfl ?_
        refine rx_end0 ?_
        exact ⟨m - (dn.length + 1), by omega, dn.length + 1, insR cmpK dn.reverse x [], td, rfl, by rw [insR_length]; simp, .inl (by rw [insR_length]; simp), by rw [insR_length]; simp; omega, hall, by rw [← hins], .cons (.cons (.cons (.cons (.cons .nil rfl) rfl) rfl) rfl) rfl⟩
    · skip
      have hr0 : r = [] := by have q : ¬ ((r.length : Int) > 0) := (by simpa using g21); exact List.eq_nil_of_length_eq_zero (by omega)
      subst hr0
      have hfin : insR cmpK [] x tl = [].reverse ++ x :: tl := rfl
      rw [hfin] at hins
      refine rx_skip rfl rfl rfl rfl ?_
      refine rx_skip rfl rfl rfl rfl ?_
      refine rx_skip rfl rfl rfl rfl ?_
      refine rx_skip rfl rfl rfl rfl ?_
      refine rx_skip rfl rfl rfl rfl ?_
      refine rx_skip rfl rfl rfl rfl ?_
      refine rx_skip rfl rfl rfl rfl ?_
      refine rx_skip rfl rfl rfl rfl ?_
      refine rx_skip rfl rfl rfl rfl ?_
      refine rx_skip rfl rfl rfl rfl ?_
      refine rx_skip rfl rfl rfl rfl ?_
      refine rx_skip rfl rfl rfl rfl ?_
      refine rx_s rfl rfl rfl rfl rfl ?_
      refine rx_endD ?_
      try simp only [List.cons_append, List.nil_append]
      refine SW.cond (b := false) rfl (fun h => nomatch h) (fun _ => ?_)
      refine SW.exit ?_
      try simp only [thenK, blockK, cond_true, cond_false, beq_self_eq_true, Nat.reduceBEq]
      refine SW.reg (l := [.op 0 .e, .op 1 .e, .op 2 .e]) rfl ?_
      refine rx_s rfl rfl rfl rfl rfl ?_
      refine rx_ar rfl rfl rfl rfl rfl (by omega) ?_
      refine rx_s rfl rfl rfl rfl rfl ?_
      refine rx_end0 ?_
      exact ⟨m - (dn.length + 1), by omega, dn.length + 1, insR cmpK dn.reverse x [], td, rfl, by rw [insR_length]; simp, .inl (by rw [insR_length]; simp), by rw [insR_length]; simp; omega, hall, by rw [← hins], .cons (.cons (.cons (.cons (.cons .nil rfl) rfl) rfl) rfl) rfl⟩
  · skip
    have hi' : m ≤ i := by have q : ¬ ((i : Int) < m) := (by simpa using h14); omega
    obtain rfl : td = [] := by rcases hd with h | h; exact List.eq_nil_of_length_eq_zero (by omega); exact h
    simp only [insAll] at hall
    refine SW.exit ?_
    try simp only [thenK, blockK, cond_true, cond_false, beq_self_eq_true, Nat.reduceBEq]
    exact retK0e (l := [_]) .nil ⟨rfl, rfl⟩ (.one (by rw [← hall, List.append_nil]; exact .here) .nil)
theorem insertion0 (p : Option Addr) (c : Nat) (fv : Value) : Sl.Spec Tryz.prog 198 #[.slice p 0 c, .int .i64 0, .int .i64 0, fv] [] (fun v l => v = .tuple #[] ∧ l = []) := by
  refine Spec.enter Tryz.func198 rfl rfl rfl ?_
  refine SW.seq ?_
  refine SW.reg (l := [.op 0 .e, .op 1 .e, .op 2 .e]) rfl ?_
  refine rx_s rfl rfl rfl rfl rfl ?_
  refine rx_ar rfl rfl rfl rfl rfl (by omega) ?_
  refine rx_s rfl rfl rfl rfl rfl ?_
  refine rx_end0 ?_
  refine SW.block ?_
  refine SW.loop (fun q e' H' => H' = star [] ∧ EnvLe (upd (upd noEnv 2 (.int .i64 0)) 8 (.int .i64 1)) e') 0 ⟨rfl, .cons (.cons .nil rfl) rfl⟩ ?_
  rintro q e' _ ⟨rfl, hle⟩
  refine SW.forget hle ?_
  refine SW.seq ?_
  refine SW.seq ?_
  refine SW.reg (l := [.op 0 .e, .op 1 .e, .op 2 .e]) rfl ?_
  iterate 3 refine rx_s rfl rfl rfl rfl rfl ?_
  refine rx_end0 ?_
  refine SW.cond (b := false) rfl (fun h => nomatch h) (fun _ => ?_)
  refine SW.exit ?_
  try simp only [thenK, blockK, cond_true, cond_false, beq_self_eq_true, Nat.reduceBEq]
  exact retK0e (l := []) .nil ⟨rfl, rfl⟩ .nil
theorem insertion (v : Value) (m : Nat) (ks : List Kid) (hm : ks.length = m) (hm2 : m ≤ 1000) (p : Option Addr) (c : Nat) (hv : v = .slice p m c) : Sl.Spec Tryz.prog 198 #[v, .int .i64 0, .int .i64 m, .func (.func 61) #[] #[]] [SlOwn 73 3 v (flat ks)]
    (fun u l => u = .tuple #[] ∧ l = [SlOwn 73 3 v (flat (sortKids cmpK ks))]) := by
  have hl := (sortKids_perm ks).length_eq
  refine Holt.Spec.slopen 0 rfl (fun h0 hx => ?_) (fun b len cap rest h1 h2 h3 h4 _ => ?_)
  · subst hv
    cases h0
    obtain rfl : ks = [] := List.eq_nil_of_length_eq_zero hm
    refine Holt.Spec.conseq (insertion0 none 0 _) ?_
    rintro _ _ ⟨rfl, rfl⟩
    refine ⟨_, ⟨rfl, rfl⟩, ?_⟩
    rw [show sortKids cmpK [] = [] by simp [sortKids]]
    exact slown_nil _ _ .nil
  · subst h1
    cases hv
    rw [flat_len, show Enc.n Kid = 3 from rfl] at h2 h3
    refine Holt.Spec.conseq (insertionB b m c ks rest hm hm2) ?_
    rintro _ _ ⟨rfl, rfl⟩
    refine ⟨_, ⟨rfl, rfl⟩, slown_mk (xs := flat (sortKids cmpK ks)) (rest := rest) .here rfl (flat_one _) ?_ ?_ h4 .nil⟩
    · rw [flat_len, show Enc.n Kid = 3 from rfl, hl]; exact h2
    · rw [flat_len, show Enc.n Kid = 3 from rfl, hl]; exact h3
theorem pdq (m : Nat) (ks : List Kid) (hm : ks.length = m) (hm2 : m ≤ 12) (p : Option Addr) (c : Nat) (li : Int) : Sl.Spec Tryz.prog 175 #[.slice p m c, .int .i64 0, .int .i64 m, .int .i64 li, .func (.func 61) #[] #[]] [SlOwn 73 3 (.slice p m c) (flat ks)]
    (fun u l => u = .tuple #[] ∧ l = [SlOwn 73 3 (.slice p m c) (flat (sortKids cmpK ks))]) := by
  have hi := insertion (.slice p m c) m ks hm (by omega) p c rfl
  refine Spec.enter Tryz.func175 rfl rfl rfl ?_
  refine SW.seq ?_
  refine SW.reg (l := [.op 0 .e]) rfl ?_
  refine rx_s rfl rfl rfl rfl rfl ?_
  refine rx_end0 ?_
  refine SW.seq ?_
  refine SW.reg (l := [.op 0 .e]) rfl ?_
  refine rx_s rfl rfl rfl rfl rfl ?_
  refine rx_end0 ?_
  refine SW.block ?_
  refine SW.loop (fun q e' H' => H' = star [SlOwn 73 3 (.slice p m c) (flat ks)] ∧ EnvLe (upd (upd (upd (upd noEnv 0 (.slice p m c)) 1 (.int .i64 0)) 2 (.int .i64 m)) 4 (.func (.func 61) #[] #[])) e') 0 ⟨rfl, .cons (.cons (.cons (.cons .nil rfl) rfl) rfl) rfl⟩ ?_
  rintro q e' _ ⟨rfl, hle⟩
  refine SW.forget hle ?_
  refine SW.block ?_
  refine SW.seq ?_
  refine SW.reg (l := [.op 0 .e, .op 1 .e, .op 2 .e, .op 3 .e]) rfl ?_
  iterate 2 refine rx_s rfl rfl rfl rfl rfl ?_
  refine rx_ar rfl rfl rfl rfl rfl (by omega) ?_
  refine rx_s rfl rfl rfl rfl rfl ?_
  refine rx_end0 ?_
  refine SW.seq ?_
  refine SW.seq ?_
  refine SW.reg (l := [.op 0 .e, .op 1 .e]) rfl ?_
  iterate 2 refine rx_s rfl rfl rfl rfl rfl ?_
  refine rx_end0 ?_
  refine SW.cond rfl (fun h25 => ?_) (fun h25 => ?_)
  · skip
    refine SW.seq ?_
    refine SW.reg (l := [.op 0 .e, .op 1 .e, .op 2 .e, .op 3 .e, .op 4 .e]) rfl ?_
    iterate 4 refine rx_s rfl rfl rfl rfl rfl ?_
    refine rx_callH (F := ?FT3) rfl rfl rfl rfl rfl rfl rfl rfl Fa.ca_198 rfl (hi) ?T3 ?_
    case T3 => (repeat (first|exact Take.nil|refine Take.cons (by (repeat first|exact .here|apply Take1.there)) ?_))
    rintro _ _ ⟨rfl, rfl⟩
    try simp only [List.cons_append, List.nil_append]
    refine rx_end0 ?_
    refine SW.ret ?_
    exact retK0 (l := [_]) .nil ⟨rfl, rfl⟩ (.one (by (repeat first|exact .here|apply Take1.there)) .nil)
  · (simp at h25; omega)
theorem bitsLen (x : Int) (h0 : 0 ≤ x) (h1 : x ≤ 18446744073709551615) : Sl.Spec Tryz.prog 176 #[.int .u64 x] [] (fun v l => v = .int .i64 (Lib.bitLen x.toNat) ∧ l = []) :=
  Spec.of_same fun _ w _ => Tryz.bits_Len x w h0 h1
theorem sort (ks : List Kid) (hk : ks.length ≤ 12) (v : Value) : Sl.Spec Tryz.prog 151 #[v, .func (.func 61) #[] #[]] [SlOwn 73 3 v (flat ks)]
    (fun u l => u = .tuple #[] ∧ l = [SlOwn 73 3 v (flat (sortKids cmpK ks))]) := by
  refine Holt.Spec.slshape 0 rfl ?_
  rintro p m c rfl hm
  rw [flat_len, show Enc.n Kid = 3 from rfl] at hm
  have hm' : ks.length = m := by omega
  have hw : IntKind.u64.wrap (m : Int) = m := by simp [IntKind.wrap, IntKind.bits, IntKind.signed]; omega
  have hb := bitsLen (m : Int) (by omega) (by omega)
  refine Spec.enter Tryz.func151 rfl rfl rfl ?_
  refine SW.seq ?_
  refine SW.reg (l := [.op 0 .e, .op 1 .e, .op 2 .e]) rfl ?_
  refine rx_s rfl rfl rfl rfl rfl ?_
  refine rx_len rfl rfl rfl rfl rfl rfl (lenV_sl Fa.sl_26 _ _ _) ?_
  refine rx_s rfl rfl rfl rfl rfl ?_
  refine rx_end0 ?_
  refine SW.reg (l := [.op 0 .e, .op 1 .e, .op 2 .e, .op 3 .e, .op 4 .e, .op 5 .e, .op 6 .e]) rfl ?_
  iterate 3 refine rx_s rfl rfl rfl rfl rfl ?_
  refine rx_conv rfl rfl rfl rfl rfl Fa.is_3 Fa.ik_226 rfl ?_
  rw [hw]
  refine rx_callH (F := ?FT4) rfl rfl rfl rfl rfl rfl rfl rfl Fa.ca_176 rfl (hb) ?T4 ?_
  case T4 => (repeat (first|exact Take.nil|refine Take.cons (by (repeat first|exact .here|apply Take1.there)) ?_))
  rintro _ _ ⟨rfl, rfl⟩
  try simp only [List.cons_append, List.nil_append]
  refine rx_s rfl rfl rfl rfl rfl ?_
  refine rx_callH (F := ?FT5) rfl rfl rfl rfl rfl rfl rfl rfl Fa.ca_175 rfl (pdq m ks hm' (by omega) p c _) ?T5 ?_
  case T5 => (repeat (first|exact Take.nil|refine Take.cons (by (repeat first|exact .here|apply Take1.there)) ?_))
  rintro _ _ ⟨rfl, rfl⟩
  try simp only [List.cons_append, List.nil_append]
  refine rx_endL ?_
  exact retK0e (l := [_]) .nil ⟨rfl, rfl⟩ (.one (by (repeat first|exact .here|apply Take1.there)) .nil)
end So
end Go.Proofs.YtikkegelplllmaaGreatDoor
/- A list is copied. -/
namespace Go.Proofs.YtikkegelplllmaaGreatDoor
open Go Go.Sl Go.Holt Go.Proofs
open Go.Holt.Enc (enc)
namespace CnK
theorem clone (v : Value) (xs : List Value) (hn : xs.length ≤ 1000000000) : Sl.Spec Tryz.prog 76 #[v] [SlOwn 73 3 v xs]
    (fun u l => ∃ p m c, u = .slice p m c ∧ xs.length = m * 3 ∧ l = [SlOwn 73 3 v xs, SlOwn 73 3 (.slice p m c) xs]) := by
  refine Holt.Spec.slopen 0 rfl ?_ ?_
  · rintro rfl rfl
    refine Spec.enter Tryz.func76 rfl rfl rfl ?_
    refine SW.seq ?_
    refine SW.reg (l := [.op 0 .e]) rfl ?_
    refine rx_s rfl rfl rfl rfl rfl ?_
    refine rx_end0 ?_
    refine SW.seq ?_
    refine SW.seq ?_
    refine SW.reg (l := [.op 0 .e, .op 1 .e]) rfl ?_
    refine rx_s rfl rfl rfl rfl rfl ?_
    refine rx_eqnilS rfl rfl rfl rfl rfl Fa.sl_26 rfl ?_
    refine rx_end0 ?_
    refine SW.cond (b := true) rfl (fun _ => ?_) (fun h => nomatch h)
    refine SW.seq ?_
    refine SW.reg (l := [.op 0 .e]) rfl ?_
    refine rx_s rfl rfl rfl rfl rfl ?_
    refine rx_end0 ?_
    refine SW.ret ?_
    exact retK1 (l := [_, _]) (.tmp rfl .nil) ⟨none, 0, 0, rfl, rfl, rfl⟩ (slown_nil _ _ (slown_nil _ _ .nil))
  · rintro b len cap rest rfl e1 e2 e3 e4
    refine Spec.enter Tryz.func76 rfl rfl rfl ?_
    refine SW.seq ?_
    refine SW.reg (l := [.op 0 .e]) rfl ?_
    refine rx_s rfl rfl rfl rfl rfl ?_
    refine rx_end0 ?_
    refine SW.seq ?_
    refine SW.seq ?_
    refine SW.reg (l := [.op 0 .e, .op 1 .e]) rfl ?_
    refine rx_s rfl rfl rfl rfl rfl ?_
    refine rx_eqnilS rfl rfl rfl rfl rfl Fa.sl_26 rfl ?_
    refine rx_end0 ?_
    refine SW.cond (b := false) rfl (fun h => nomatch h) (fun _ => ?_)
    refine SW.skip ?_
    try simp only [thenK, blockK, cond_true, cond_false, beq_self_eq_true, Nat.reduceBEq]
    refine SW.seq ?_
    refine SW.reg (l := [.op 0 .e, .op 1 .e, .op 2 .e, .op 3 .e]) rfl ?_
    refine rx_bslice0 (.inr rfl) rfl rfl rfl rfl rfl Fa.sl_26 ?_
    intro b5
    refine rx_s rfl rfl rfl rfl rfl ?_
    refine rx_app0 rfl rfl rfl rfl rfl Fa.sl_26 Fa.z_73 rfl rfl rfl rfl rfl (by (repeat first|exact .here|apply Take1.there)) (by (repeat first|exact .here|apply Take1.there)) (ys := xs) (by rw [List.drop_zero, ← e1]; simp) (e1) (e4) (hn) ?_
    intro p7 m7 c7 hm7
    refine rx_s rfl rfl rfl rfl rfl ?_
    refine rx_end0 ?_
    refine SW.ret ?_
    exact retK1 (l := [_, _]) (.tmp rfl .nil) ⟨p7, m7, c7, rfl, hm7, rfl⟩ (slown_mk (xs := xs) (rest := rest) (by (repeat first|exact .here|apply Take1.there)) rfl e4 e1 e2 e3 (.one (by (repeat first|exact .here|apply Take1.there)) .nil))
end CnK
end Go.Proofs.YtikkegelplllmaaGreatDoor
/- One who goes down a path: what its functions do. -/
namespace Go.Proofs.YtikkegelplllmaaGreatDoor
open Go Go.Sl Go.Holt Go.Proofs
open Go.Holt.Enc (enc)
namespace Fi
abbrev fcells (f : Nat) (F : Holt.Fi) (nv sv kv : Value) : List Value := [.int .i64 F.v.n, .int .i64 F.v.kids.slot, .int .i64 F.v.kids.gen, .int .i64 F.v.spots.slot, .int .i64 F.v.spots.gen, .bool F.list, nv, .int .i64 F.at_, .int .i64 F.want.slot, .int .i64 F.want.gen,
  fnV f F.next, .int .i64 F.met, .bool F.found, sv, .int .i64 F.e, .int .i64 F.version, .int .i64 F.node, kv, .slice none 0 0, .int .i64 F.loads]
abbrev FB (f : Nat) (F : Holt.Fi) (nv sv kv : Value) : HProp := blk f (fcells f F nv sv kv) 153 (0, 0)
def FiP (f : Nat) (F : Holt.Fi) : HProp := exH fun x : Value × Value × Value => [FB f F x.1 x.2.1 x.2.2, SlRo 9 1 x.1 (flat F.names), SlOwn 56 2 x.2.1 (flat F.stack), SlOwn 73 3 x.2.2 (flat F.kids)]
theorem foldF {f : Nat} {F : Holt.Fi} {nv sv kv : Value} {l l' : List HProp} (h : EntL l (FB f F nv sv kv :: SlRo 9 1 nv (flat F.names) :: SlOwn 56 2 sv (flat F.stack) :: SlOwn 73 3 kv (flat F.kids) :: l')) : EntL l (FiP f F :: l') :=
  EntL.fold (ps := [FB f F nv sv kv, SlRo 9 1 nv (flat F.names), SlOwn 56 2 sv (flat F.stack), SlOwn 73 3 kv (flat F.kids)]) h
    (exH.mk (fun x : Value × Value × Value => [FB f F x.1 x.2.1 x.2.2, SlRo 9 1 x.1 (flat F.names), SlOwn 56 2 x.2.1 (flat F.stack), SlOwn 73 3 x.2.2 (flat F.kids)]) (nv, sv, kv))
theorem openPre {P : Program} {g : FuncId} {args : Array Value} {Post : Value → List HProp → Prop} {f : Nat} {F : Holt.Fi} {nv sv kv : Value} (h : Sl.Spec P g args [FiP f F] Post) :
    Sl.Spec P g args [FB f F nv sv kv, SlRo 9 1 nv (flat F.names), SlOwn 56 2 sv (flat F.stack), SlOwn 73 3 kv (flat F.kids)] Post :=
  Sl.Spec.pre (EntL.ent (foldF (.one .here (.one .here (.one .here (.one .here .nil)))))) h
/-- 'end' -/
theorem end_ (f : Nat) (F : Holt.Fi) (e : Int) : Sl.Spec Tryz.prog 74 #[.pointer (some ⟨f, 0, none⟩), .int .i64 e] [FiP f F] (fun v l => v = .tuple #[] ∧ l = [FiP f (F.end_ e)]) := by
  unfold Holt.Fi.end_
  refine Spec.enter Tryz.func74 rfl rfl rfl ?_
  refine SW.exH 0 rfl ?_; rintro ⟨nv, sv, kv⟩; simp only [List.cons_append, List.nil_append]
  refine SW.seq ?_
  refine SW.reg (l := [.op 0 .e, .op 1 .e, .op 2 .e, .op 3 .e, .op 4 .e, .op 5 .e, .op 6 .e, .op 7 .e, .op 8 .e]) rfl ?_
  iterate 2 refine rx_s rfl rfl rfl rfl rfl ?_
  refine rx_build rfl rfl rfl rfl rfl Fa.st_56 rfl (cs := [_, _]) rfl ?_
  refine rx_s rfl rfl rfl rfl rfl ?_
  refine rx_fa rfl rfl rfl rfl rfl rfl Fa.fo_153_4 ?_
  refine rx_stp rfl rfl rfl rfl rfl rfl (by (repeat first|exact .here|apply Take1.there)) Fa.sz_56 (vs := [_, _]) rfl rfl rfl (by rfl) (cl' := [_, _, _, _, _, _, _, _, _, _, _, _, _, _, _, _, _, _, _, _]) (by rfl) ?_
  refine rx_s rfl rfl rfl rfl rfl ?_
  refine rx_fa rfl rfl rfl rfl rfl rfl Fa.fo_153_5 ?_
  refine rx_stp rfl rfl rfl rfl rfl rfl (by (repeat first|exact .here|apply Take1.there)) Fa.sz_151 (vs := [_]) rfl rfl rfl (by rfl) (cl' := [_, _, _, _, _, _, _, _, _, _, _, _, _, _, _, _, _, _, _, _]) (by rfl) ?_
  refine rx_end0 ?_
  refine SW.seq ?_
  refine SW.reg (l := [.op 0 .e, .op 1 .e, .op 2 .e, .op 3 .e, .op 4 .e, .op 5 .e]) rfl ?_
  iterate 3 refine rx_s rfl rfl rfl rfl rfl ?_
  refine rx_fa rfl rfl rfl rfl rfl rfl Fa.fo_153_9 ?_
  refine rx_fa rfl rfl rfl rfl rfl rfl Fa.fo_28_0 ?_
  refine rx_stp rfl rfl rfl rfl rfl rfl (by (repeat first|exact .here|apply Take1.there)) Fa.sz_25 (vs := [_]) rfl rfl rfl (by rfl) (cl' := [_, _, _, _, _, _, _, _, _, _, _, _, _, _, _, _, _, _, _, _]) (by rfl) ?_
  refine rx_end0 ?_
  refine SW.seq ?_
  refine SW.seq ?_
  refine SW.reg (l := [.op 0 .e, .op 1 .e]) rfl ?_
  iterate 2 refine rx_s rfl rfl rfl rfl rfl ?_
  refine rx_end0 ?_
  refine SW.cond rfl (fun h17 => ?_) (fun h17 => ?_)
  · skip
    rw [if_pos (by simpa using h17)]
    obtain rfl : e = 11 := by simpa using h17
    refine SW.seq ?_
    refine SW.reg (l := [.op 0 .e, .op 1 .e, .op 2 .e, .op 3 .e, .op 4 .e, .op 5 .e]) rfl ?_
    iterate 2 refine rx_s rfl rfl rfl rfl rfl ?_
    refine rx_build rfl rfl rfl rfl rfl Fa.st_28 rfl (cs := [_, _, _, _, _]) rfl ?_
    refine rx_s rfl rfl rfl rfl rfl ?_
    refine rx_fa rfl rfl rfl rfl rfl rfl Fa.fo_153_9 ?_
    refine rx_stp rfl rfl rfl rfl rfl rfl (by (repeat first|exact .here|apply Take1.there)) Fa.sz_28 (vs := [_, _, _, _, _]) rfl rfl rfl (by rfl) (cl' := [_, _, _, _, _, _, _, _, _, _, _, _, _, _, _, _, _, _, _, _]) (by rfl) ?_
    refine rx_end0 ?_
    refine SW.ret ?_
    exact retK0 (l := [_]) .nil ⟨rfl, rfl⟩ (foldF (.one (by (repeat first|exact .here|apply Take1.there)) (.one (by (repeat first|exact .here|apply Take1.there)) (.one (by (repeat first|exact .here|apply Take1.there)) (slown_nil _ _ .nil)))))
  · skip
    rw [if_neg (by simpa using h17)]
    refine SW.skip ?_
    try simp only [thenK, blockK, cond_true, cond_false, beq_self_eq_true, Nat.reduceBEq]
    refine SW.seq ?_
    refine SW.reg (l := [.op 0 .e, .op 1 .e, .op 2 .e, .op 3 .e, .op 4 .e, .op 5 .e, .op 6 .e, .op 7 .e, .op 8 .e, .op 9 .e]) rfl ?_
    iterate 3 refine rx_s rfl rfl rfl rfl rfl ?_
    refine rx_fa rfl rfl rfl rfl rfl rfl Fa.fo_153_0 ?_
    refine rx_fa rfl rfl rfl rfl rfl rfl Fa.fo_58_0 ?_
    refine rx_ldH1 rfl rfl rfl rfl rfl rfl (by (repeat first|exact .here|apply Take1.there)) Fa.ag_3 (by rfl) ?_
    refine rx_s rfl rfl rfl rfl rfl ?_
    refine rx_fa rfl rfl rfl rfl rfl rfl Fa.fo_153_9 ?_
    refine rx_fa rfl rfl rfl rfl rfl rfl Fa.fo_28_1 ?_
    refine rx_stp rfl rfl rfl rfl rfl rfl (by (repeat first|exact .here|apply Take1.there)) Fa.sz_3 (vs := [_]) rfl rfl rfl (by rfl) (cl' := [_, _, _, _, _, _, _, _, _, _, _, _, _, _, _, _, _, _, _, _]) (by rfl) ?_
    refine rx_end0 ?_
    refine SW.seq ?_
    refine SW.reg (l := [.op 0 .e, .op 1 .e]) rfl ?_
    iterate 2 refine rx_s rfl rfl rfl rfl rfl ?_
    refine rx_end0 ?_
    refine SW.cond rfl (fun h33 => ?_) (fun h33 => ?_)
    · skip
      rw [if_pos (by simpa using h33)]
      refine SW.reg (l := [.op 0 .e, .op 1 .e, .op 2 .e, .op 3 .e, .op 4 .e, .op 5 .e, .op 6 .e, .op 7 .e, .op 8 .e]) rfl ?_
      iterate 3 refine rx_s rfl rfl rfl rfl rfl ?_
      refine rx_fa rfl rfl rfl rfl rfl rfl Fa.fo_153_3 ?_
      refine rx_ldH1 rfl rfl rfl rfl rfl rfl (by (repeat first|exact .here|apply Take1.there)) Fa.ag_3 (by rfl) ?_
      refine rx_s rfl rfl rfl rfl rfl ?_
      refine rx_fa rfl rfl rfl rfl rfl rfl Fa.fo_153_9 ?_
      refine rx_fa rfl rfl rfl rfl rfl rfl Fa.fo_28_2 ?_
      refine rx_stp rfl rfl rfl rfl rfl rfl (by (repeat first|exact .here|apply Take1.there)) Fa.sz_3 (vs := [_]) rfl rfl rfl (by rfl) (cl' := [_, _, _, _, _, _, _, _, _, _, _, _, _, _, _, _, _, _, _, _]) (by rfl) ?_
      refine rx_endL ?_
      exact retK0e (l := [_]) .nil ⟨rfl, rfl⟩ (foldF (.one (by (repeat first|exact .here|apply Take1.there)) (.one (by (repeat first|exact .here|apply Take1.there)) (.one (by (repeat first|exact .here|apply Take1.there)) (.one (by (repeat first|exact .here|apply Take1.there)) .nil)))))
    · skip
      rw [if_neg (by simpa using h33)]
      refine SW.skip ?_
      try simp only [thenK, blockK, cond_true, cond_false, beq_self_eq_true, Nat.reduceBEq]
      exact retK0e (l := [_]) .nil ⟨rfl, rfl⟩ (foldF (.one (by (repeat first|exact .here|apply Take1.there)) (.one (by (repeat first|exact .here|apply Take1.there)) (.one (by (repeat first|exact .here|apply Take1.there)) (.one (by (repeat first|exact .here|apply Take1.there)) .nil)))))
/-- 'rest' -/
theorem rest (f : Nat) (F : Holt.Fi) (hF : F.ok) : Sl.Spec Tryz.prog 128 #[.pointer (some ⟨f, 0, none⟩)] [FiP f F] (fun v l => v = .tuple #[] ∧ l = [FiP f (F.rest cmpK 103)]) := by
  refine Spec.enter Tryz.func128 rfl rfl rfl ?_
  refine SW.seq ?_
  refine SW.block ?_
  refine SW.loop (fun q e' H' => ∃ (st : List Handle) (Hl : List HProp), q = st.length ∧ st.length ≤ 100000 ∧ ({ F with stack := st } : Holt.Fi).rest cmpK 103 = F.rest cmpK 103 ∧ H' = star Hl ∧ EntL Hl [FiP f { F with stack := st }] ∧
    EnvLe (upd noEnv 0 (.pointer (some ⟨f, 0, none⟩))) e') F.stack.length ⟨F.stack, _, rfl, hF.stack, rfl, rfl, EntL.refl _, .cons .nil rfl⟩ ?_
  rintro q e' _ ⟨st, Hl, rfl, hst, hre, rfl, hl, hle⟩
  refine SW.fold hl ?_
  refine SW.forget hle ?_
  refine SW.exH 0 rfl ?_; rintro ⟨nv, sv, kv⟩; simp only [List.cons_append, List.nil_append]
  refine SW.slshape 2 rfl ?_
  rintro p1 m1 c1 rfl hm1
  rw [flat_len, show Enc.n Handle = 2 from rfl] at hm1
  obtain rfl : m1 = st.length := by omega
  refine SW.seq ?_
  refine SW.seq ?_
  refine SW.reg (l := [.op 0 .e, .op 1 .e, .op 2 .e, .op 3 .e, .op 4 .e, .op 5 .e]) rfl ?_
  iterate 2 refine rx_s rfl rfl rfl rfl rfl ?_
  refine rx_fa rfl rfl rfl rfl rfl rfl Fa.fo_153_8 ?_
  refine rx_ldH1 rfl rfl rfl rfl rfl rfl (by (repeat first|exact .here|apply Take1.there)) Fa.ag_92 (by rfl) ?_
  refine rx_len rfl rfl rfl rfl rfl rfl (lenV_sl Fa.sl_92 _ _ _) ?_
  refine rx_s rfl rfl rfl rfl rfl ?_
  refine rx_end0 ?_
  refine SW.cond rfl (fun h9 => ?_) (fun h9 => ?_)
  · skip
    have hne : st ≠ [] := by rintro rfl; simp at h9
    obtain ⟨st', h, rfl⟩ : ∃ l x, st = l ++ [x] := ⟨st.dropLast, st.getLast hne, (List.dropLast_concat_getLast hne).symm⟩
    refine SW.slopen 2 rfl (fun _ q => ?_) ?_
    · rw [flat_append] at q; simp [flat, enc, Enc.enc] at q
    intro sb m2 c2 rs hv hm2 hc2 hl2 hone
    cases hv
    rw [flat_len, show Enc.n Handle = 2 from rfl] at hm2 hc2
    have hlen : (st' ++ [h]).length = st'.length + 1 := by simp
    rw [hlen] at hst
    have hget : (st' ++ [h])[st'.length]? = some h := by simp
    refine SW.skip ?_
    try simp only [thenK, blockK, cond_true, cond_false, beq_self_eq_true, Nat.reduceBEq]
    refine SW.block ?_
    refine SW.seq ?_
    refine SW.reg (l := [.op 0 .e, .op 1 .e, .op 2 .e, .op 3 .e, .op 4 .e, .op 5 .e, .op 6 .e]) rfl ?_
    iterate 2 refine rx_s rfl rfl rfl rfl rfl ?_
    refine rx_fa rfl rfl rfl rfl rfl rfl Fa.fo_153_8 ?_
    refine rx_ldH1 rfl rfl rfl rfl rfl rfl (by (repeat first|exact .here|apply Take1.there)) Fa.ag_92 (by rfl) ?_
    refine rx_len rfl rfl rfl rfl rfl rfl (lenV_sl Fa.sl_92 _ _ _) ?_
    refine rx_ar rfl rfl rfl rfl rfl (by simp at hlen ⊢; omega) ?_
    refine rx_s rfl rfl rfl rfl rfl ?_
    refine rx_end0 ?_
    refine SW.seq ?_
    refine SW.reg (l := [.op 0 .e, .op 1 .e, .op 2 .e, .op 3 .e, .op 4 .e, .op 5 .e, .op 6 .e, .op 7 .e, .op 8 .e]) rfl ?_
    iterate 2 refine rx_s rfl rfl rfl rfl rfl ?_
    refine rx_fa rfl rfl rfl rfl rfl rfl Fa.fo_153_8 ?_
    refine rx_ldH1 rfl rfl rfl rfl rfl rfl (by (repeat first|exact .here|apply Take1.there)) Fa.ag_92 (by rfl) ?_
    refine rx_s rfl rfl rfl rfl rfl ?_
    refine rx_ix rfl rfl rfl rfl rfl Fa.sl_92 rfl rfl (by omega) ?_
    refine rx_ldHA rfl rfl rfl rfl rfl rfl (by (repeat first|exact .here|apply Take1.there)) Fa.ag_56 Fa.sz_56 (vs := [_, _]) (by exact flat_drop hget (j := 0) (s := 2) (by decide) (by simp; rfl) rs) rfl ?_
    refine rx_alloc (.inr rfl) rfl rfl rfl rfl rfl Fa.z_56 ?_
    intro b3
    refine rx_stp rfl rfl rfl rfl rfl rfl (by (repeat first|exact .here|apply Take1.there)) Fa.sz_56 (vs := [_, _]) rfl rfl rfl (by rfl) (cl' := [_, _]) (by rfl) ?_
    refine rx_end0 ?_
    refine SW.seq ?_
    refine SW.reg (l := [.op 0 .e, .op 1 .e, .op 2 .e, .op 3 .e, .op 4 .e, .op 5 .e, .op 6 .e, .op 7 .e, .op 8 .e, .op 9 .e]) rfl ?_
    iterate 3 refine rx_s rfl rfl rfl rfl rfl ?_
    refine rx_fa rfl rfl rfl rfl rfl rfl Fa.fo_153_8 ?_
    refine rx_ldH1 rfl rfl rfl rfl rfl rfl (by (repeat first|exact .here|apply Take1.there)) Fa.ag_92 (by rfl) ?_
    refine rx_s rfl rfl rfl rfl rfl ?_
    refine rx_slhi rfl rfl rfl rfl rfl Fa.sl_92 rfl rfl (by omega) ?_
    refine rx_s rfl rfl rfl rfl rfl ?_
    refine rx_fa rfl rfl rfl rfl rfl rfl Fa.fo_153_8 ?_
    refine rx_stp rfl rfl rfl rfl rfl rfl (by (repeat first|exact .here|apply Take1.there)) Fa.sz_92 (vs := [_]) rfl rfl rfl (by rfl) (cl' := [_, _, _, _, _, _, _, _, _, _, _, _, _, _, _, _, _, _, _, _]) (by rfl) ?_
    refine rx_end0 ?_
    refine SW.seq ?_
    refine SW.reg (l := [.op 0 .e, .op 1 .e, .op 2 .e]) rfl ?_
    refine rx_ldHA rfl rfl rfl rfl rfl rfl (by (repeat first|exact .here|apply Take1.there)) Fa.ag_56 Fa.sz_56 (vs := [_, _]) (by rfl) rfl ?_
    refine rx_build rfl rfl rfl rfl rfl Fa.st_56 rfl (cs := [_, _]) rfl ?_
    refine rx_neS rfl rfl rfl rfl rfl Fa.eq_56 rfl rfl rfl ?_
    refine rx_end0 ?_
    refine SW.cond rfl (fun h34 => ?_) (fun h34 => ?_)
    · skip
      have h0 : h ≠ ⟨0, 0⟩ := by rintro rfl; simp at h34
      rw [← hre, show ({ F with stack := st' ++ [h] } : Holt.Fi).rest cmpK 103 = { F with stack := st', want := h, next := some 103 } by unfold Holt.Fi.rest; simp only [Holt.Fi.pop_concat, if_neg h0]]
      refine SW.seq ?_
      refine SW.reg (l := [.op 0 .e, .op 1 .e, .op 2 .e, .op 3 .e, .op 4 .e, .op 5 .e, .op 6 .e, .op 7 .e, .op 8 .e, .op 9 .e, .op 10 .e]) rfl ?_
      iterate 2 refine rx_s rfl rfl rfl rfl rfl ?_
      refine rx_ldHA rfl rfl rfl rfl rfl rfl (by (repeat first|exact .here|apply Take1.there)) Fa.ag_56 Fa.sz_56 (vs := [_, _]) (by rfl) rfl ?_
      iterate 3 refine rx_s rfl rfl rfl rfl rfl ?_
      refine rx_fa rfl rfl rfl rfl rfl rfl Fa.fo_153_4 ?_
      refine rx_stp rfl rfl rfl rfl rfl rfl (by (repeat first|exact .here|apply Take1.there)) Fa.sz_56 (vs := [_, _]) rfl rfl rfl (by rfl) (cl' := [_, _, _, _, _, _, _, _, _, _, _, _, _, _, _, _, _, _, _, _]) (by rfl) ?_
      refine rx_s rfl rfl rfl rfl rfl ?_
      refine rx_fa rfl rfl rfl rfl rfl rfl Fa.fo_153_5 ?_
      refine rx_stp rfl rfl rfl rfl rfl rfl (by (repeat first|exact .here|apply Take1.there)) Fa.sz_151 (vs := [_]) rfl rfl rfl (by rfl) (cl' := [_, _, _, _, _, _, _, _, _, _, _, _, _, _, _, _, _, _, _, _]) (by rfl) ?_
      refine rx_end0 ?_
      refine SW.ret ?_
      refine retK0 (l := [_]) .nil ⟨rfl, rfl⟩ (foldF (.one (by (repeat first|exact .here|apply Take1.there)) (.one (by (repeat first|exact .here|apply Take1.there)) (slown_mk (xs := flat st') (rest := enc h ++ rs) (by (repeat first|exact .here|apply Take1.there)) ?_ (flat_one st') ?_ ?_ ?_ (.one (by (repeat first|exact .here|apply Take1.there)) .nil)))))
      · rw [flat_append, List.append_assoc]; rfl
      · rw [flat_len]; simp; rfl
      · rw [flat_len, show Enc.n Handle = 2 from rfl, List.length_append, Enc.len, show Enc.n Handle = 2 from rfl]; omega
      · simp; omega
    · skip
      have h0 : h = ⟨0, 0⟩ := by rcases h with ⟨h1, h2⟩; simp at h34; simp [h34]
      refine SW.skip ?_
      try simp only [thenK, blockK, cond_true, cond_false, beq_self_eq_true, Nat.reduceBEq]
      refine ⟨st'.length, by simp, st', _, rfl, by omega, by rw [← hre]; unfold Holt.Fi.rest; simp only [Holt.Fi.pop_concat, if_pos h0], rfl, foldF (F := { F with stack := st' }) (.one (by (repeat first|exact .here|apply Take1.there)) (.one (by (repeat first|exact .here|apply Take1.there)) (slown_mk (xs := flat st') (rest := enc h ++ rs) (by (repeat first|exact .here|apply Take1.there)) ?_ (flat_one st') ?_ ?_ ?_ (.one (by (repeat first|exact .here|apply Take1.there)) .nil)))), .cons .nil rfl⟩
      · rw [flat_append, List.append_assoc]; rfl
      · rw [flat_len]; simp; rfl
      · rw [flat_len, show Enc.n Handle = 2 from rfl, List.length_append, Enc.len, show Enc.n Handle = 2 from rfl]; omega
      · simp; omega
  · skip
    obtain rfl : st = [] := by simpa using h9
    rw [← hre, show ({ F with stack := [] } : Holt.Fi).rest cmpK 103 = ({ F with stack := [], kids := sortKids cmpK F.kids } : Holt.Fi).end_ 0 from rfl]
    refine SW.exit ?_
    try simp only [thenK, blockK, cond_true, cond_false, beq_self_eq_true, Nat.reduceBEq]
    refine SW.seq ?_
    refine SW.reg (l := [.op 0 .e, .op 1 .e, .op 2 .e, .op 3 .e, .op 4 .e, .op 5 .e]) rfl ?_
    iterate 2 refine rx_s rfl rfl rfl rfl rfl ?_
    refine rx_fa rfl rfl rfl rfl rfl rfl Fa.fo_153_9 ?_
    refine rx_fa rfl rfl rfl rfl rfl rfl Fa.fo_28_3 ?_
    refine rx_ldH1 rfl rfl rfl rfl rfl rfl (by (repeat first|exact .here|apply Take1.there)) Fa.ag_26 (by rfl) ?_
    refine rx_callH (F := ?FT1) rfl rfl rfl rfl rfl rfl rfl rfl Fa.ca_151 rfl (So.sort F.kids hF.kids kv) ?T1 ?_
    case T1 => (repeat (first|exact Take.nil|refine Take.cons (by (repeat first|exact .here|apply Take1.there)) ?_))
    rintro _ _ ⟨rfl, rfl⟩
    try simp only [List.cons_append, List.nil_append]
    refine rx_end0 ?_
    refine SW.fold (Hl' := [FiP f { F with stack := [], kids := sortKids cmpK F.kids }]) (foldF (.one (by (repeat first|exact .here|apply Take1.there)) (.one (by (repeat first|exact .here|apply Take1.there)) (.one (by (repeat first|exact .here|apply Take1.there)) (.one (by (repeat first|exact .here|apply Take1.there)) .nil))))) ?_
    refine SW.reg (l := [.op 0 .e, .op 1 .e]) rfl ?_
    refine rx_s rfl rfl rfl rfl rfl ?_
    refine rx_callH (F := ?FT2) rfl rfl rfl rfl rfl rfl rfl rfl Fa.ca_74 rfl (end_ f { F with stack := [], kids := sortKids cmpK F.kids } 0) ?T2 ?_
    case T2 => (repeat (first|exact Take.nil|refine Take.cons (by (repeat first|exact .here|apply Take1.there)) ?_))
    rintro _ _ ⟨rfl, rfl⟩
    try simp only [List.cons_append, List.nil_append]
    refine rx_endL ?_
    exact retK0e (l := [_]) .nil ⟨rfl, rfl⟩ (.one (by (repeat first|exact .here|apply Take1.there)) .nil)
/-- 'bottom', where 'segment' is known. -/
theorem bottomG (f : Nat) (F : Holt.Fi) (hF : F.ok)
    (hs : F.names ≠ [] → F.found = true → Sl.Spec Tryz.prog 75 #[.pointer (some ⟨f, 0, none⟩)] [FiP f { F with at_ := F.met, names := F.names.tail }] (fun v l => v = .tuple #[] ∧ l = [FiP f (({ F with at_ := F.met, names := F.names.tail } : Holt.Fi).seg cmpK 102 103)])) :
    Sl.Spec Tryz.prog 127 #[.pointer (some ⟨f, 0, none⟩)] [FiP f F] (fun v l => v = .tuple #[] ∧ l = [FiP f (F.bottom cmpK 102 103)]) := by
  unfold Holt.Fi.bottom
  refine Spec.enter Tryz.func127 rfl rfl rfl ?_
  refine SW.exH 0 rfl ?_; rintro ⟨nv, sv, kv⟩; simp only [List.cons_append, List.nil_append]
  refine SW.slroShape 1 rfl ?_
  rintro p1 m1 c1 rfl hm1
  rw [flat_len, show Enc.n ByteArray = 1 from rfl] at hm1
  obtain rfl : m1 = F.names.length := by omega
  refine SW.seq ?_
  refine SW.seq ?_
  refine SW.reg (l := [.op 0 .e, .op 1 .e, .op 2 .e, .op 3 .e, .op 4 .e, .op 5 .e]) rfl ?_
  iterate 2 refine rx_s rfl rfl rfl rfl rfl ?_
  refine rx_fa rfl rfl rfl rfl rfl rfl Fa.fo_153_2 ?_
  refine rx_ldH1 rfl rfl rfl rfl rfl rfl (by (repeat first|exact .here|apply Take1.there)) Fa.ag_69 (by rfl) ?_
  refine rx_len rfl rfl rfl rfl rfl rfl (lenV_sl Fa.sl_69 _ _ _) ?_
  refine rx_s rfl rfl rfl rfl rfl ?_
  refine rx_end0 ?_
  refine SW.cond rfl (fun h7 => ?_) (fun h7 => ?_)
  · skip
    have hn : F.names = [] := by simpa using h7
    rw [if_pos hn]
    refine SW.seq ?_
    refine SW.fold (Hl' := [FiP f F]) (foldF (.one (by (repeat first|exact .here|apply Take1.there)) (.one (by (repeat first|exact .here|apply Take1.there)) (.one (by (repeat first|exact .here|apply Take1.there)) (.one (by (repeat first|exact .here|apply Take1.there)) .nil))))) ?_
    refine SW.reg (l := [.op 0 .e, .op 1 .e]) rfl ?_
    refine rx_s rfl rfl rfl rfl rfl ?_
    refine rx_callH (F := ?FT3) rfl rfl rfl rfl rfl rfl rfl rfl Fa.ca_128 rfl (rest f F hF) ?T3 ?_
    case T3 => (repeat (first|exact Take.nil|refine Take.cons (by (repeat first|exact .here|apply Take1.there)) ?_))
    rintro _ _ ⟨rfl, rfl⟩
    try simp only [List.cons_append, List.nil_append]
    refine rx_end0 ?_
    refine SW.ret ?_
    exact retK0 (l := [_]) .nil ⟨rfl, rfl⟩ (.one (by (repeat first|exact .here|apply Take1.there)) .nil)
  · skip
    have hn : F.names ≠ [] := by simpa using h7
    rw [if_neg hn]
    refine SW.skip ?_
    try simp only [thenK, blockK, cond_true, cond_false, beq_self_eq_true, Nat.reduceBEq]
    refine SW.seq ?_
    refine SW.seq ?_
    refine SW.reg (l := [.op 0 .e, .op 1 .e, .op 2 .e, .op 3 .e, .op 4 .e]) rfl ?_
    iterate 2 refine rx_s rfl rfl rfl rfl rfl ?_
    refine rx_fa rfl rfl rfl rfl rfl rfl Fa.fo_153_7 ?_
    refine rx_ldH1 rfl rfl rfl rfl rfl rfl (by (repeat first|exact .here|apply Take1.there)) Fa.ag_4 (by rfl) ?_
    refine rx_s rfl rfl rfl rfl rfl ?_
    refine rx_end0 ?_
    refine SW.cond rfl (fun h14 => ?_) (fun h14 => ?_)
    · skip
      have hf : ¬ (F.found = true) := by simpa using h14
      rw [if_neg hf]
      refine SW.seq ?_
      refine SW.fold (Hl' := [FiP f F]) (foldF (.one (by (repeat first|exact .here|apply Take1.there)) (.one (by (repeat first|exact .here|apply Take1.there)) (.one (by (repeat first|exact .here|apply Take1.there)) (.one (by (repeat first|exact .here|apply Take1.there)) .nil))))) ?_
      refine SW.reg (l := [.op 0 .e, .op 1 .e]) rfl ?_
      refine rx_s rfl rfl rfl rfl rfl ?_
      refine rx_callH (F := ?FT4) rfl rfl rfl rfl rfl rfl rfl rfl Fa.ca_74 rfl (end_ f F 9) ?T4 ?_
      case T4 => (repeat (first|exact Take.nil|refine Take.cons (by (repeat first|exact .here|apply Take1.there)) ?_))
      rintro _ _ ⟨rfl, rfl⟩
      try simp only [List.cons_append, List.nil_append]
      refine rx_end0 ?_
      refine SW.ret ?_
      exact retK0 (l := [_]) .nil ⟨rfl, rfl⟩ (.one (by (repeat first|exact .here|apply Take1.there)) .nil)
    · skip
      have hf : F.found = true := by simpa using h14
      rw [if_pos hf]
      have hs' := hs hn hf
      obtain ⟨x, ns, hx⟩ : ∃ x l, F.names = x :: l := List.exists_cons_of_ne_nil hn
      refine SW.slro 1 rfl (fun _ q => absurd q (by rw [hx]; simp [flat, enc, Enc.enc])) ?_
      intro nb off len cap cl fz hv e1 e2 e3
      cases hv
      rw [flat_len, show Enc.n ByteArray = 1 from rfl] at e1
      have hlen : F.names.length = ns.length + 1 := by rw [hx]; rfl
      refine SW.skip ?_
      try simp only [thenK, blockK, cond_true, cond_false, beq_self_eq_true, Nat.reduceBEq]
      refine SW.seq ?_
      refine SW.drawAll Fa.mix (tp := [0, 0, 0, 4, 12, 28, 0, 64, 192, 448, 960, 1021, 3069, 7165, 16383, 32767, 65535]) (l := [.op 0 .s, .op 1 .s, .op 2 .s, .op 3 .s, .op 4 .s, .op 5 .d, .op 6 .s, .op 7 .s, .op 8 .s, .op 9 .d, .op 10 .s, .op 11 .s, .op 12 .s, .bar, .op 13 .e, .op 14 .s, .op 15 .s, .op 16 .e]) (by kernel_rfl) ?_
      iterate 4 refine rx_s rfl rfl rfl rfl rfl ?_
      refine rx_fa rfl rfl rfl rfl rfl rfl Fa.fo_153_6 ?_
      refine rx_ldD1 rfl rfl rfl rfl rfl rfl rfl (by (repeat first|exact .here|apply Take1.there)) Fa.ag_3 (by rfl) ?_
      iterate 2 refine rx_s rfl rfl rfl rfl rfl ?_
      refine rx_fa rfl rfl rfl rfl rfl rfl Fa.fo_153_2 ?_
      refine rx_ldD1 rfl rfl rfl rfl rfl rfl rfl (by (repeat first|exact .here|apply Take1.there)) Fa.ag_69 (by rfl) ?_
      refine rx_sllo rfl rfl rfl rfl rfl Fa.sl_69 rfl rfl (by omega) ?_
      intro off27 hoff27
      refine rx_s rfl rfl rfl rfl rfl ?_
      refine rx_fa rfl rfl rfl rfl rfl rfl Fa.fo_153_3 ?_
      refine rx_barAll ?_
      try simp only [List.cons_append, List.nil_append]
      refine rx_stp rfl rfl rfl rfl rfl rfl (by (repeat first|exact .here|apply Take1.there)) Fa.sz_3 (vs := [_]) rfl rfl rfl (by rfl) (cl' := [_, _, _, _, _, _, _, _, _, _, _, _, _, _, _, _, _, _, _, _]) (by rfl) ?_
      refine rx_s rfl rfl rfl rfl rfl ?_
      refine rx_fa rfl rfl rfl rfl rfl rfl Fa.fo_153_2 ?_
      refine rx_stp rfl rfl rfl rfl rfl rfl (by (repeat first|exact .here|apply Take1.there)) Fa.sz_69 (vs := [_]) rfl rfl rfl (by rfl) (cl' := [_, _, _, _, _, _, _, _, _, _, _, _, _, _, _, _, _, _, _, _]) (by rfl) ?_
      refine rx_endD ?_
      try simp only [List.cons_append, List.nil_append]
      rw [hx] at e3
      refine SW.fold (Hl' := [FiP f { F with at_ := F.met, names := F.names.tail }]) (foldF (F := { F with at_ := F.met, names := F.names.tail }) (.one (by (repeat first|exact .here|apply Take1.there)) (slro_mk (xs := flat F.names.tail) (by (repeat first|exact .here|apply Take1.there)) (by rw [hx, flat_len, show Enc.n ByteArray = 1 from rfl]; simp) (by omega) (by rw [hx]; exact ro_tail e3 fun q => (hoff27 (by have q' : 0 < ns.length := List.length_pos_iff.2 q; omega))) (.one (by (repeat first|exact .here|apply Take1.there)) (.one (by (repeat first|exact .here|apply Take1.there)) .nil))))) ?_
      refine SW.reg (l := [.op 0 .e, .op 1 .e]) rfl ?_
      refine rx_s rfl rfl rfl rfl rfl ?_
      refine rx_callH (F := ?FT5) rfl rfl rfl rfl rfl rfl rfl rfl Fa.ca_75 rfl (hs') ?T5 ?_
      case T5 => (repeat (first|exact Take.nil|refine Take.cons (by (repeat first|exact .here|apply Take1.there)) ?_))
      rintro _ _ ⟨rfl, rfl⟩
      try simp only [List.cons_append, List.nil_append]
      refine rx_endL ?_
      exact retK0e (l := [_]) .nil ⟨rfl, rfl⟩ (.one (by (repeat first|exact .here|apply Take1.there)) .nil)
/-- 'go1', where 'bottom' is known. -/
theorem go1G (f : Nat) (F R : Holt.Fi) (h : Handle) (g : Nat)
    (hb : h = ⟨0, 0⟩ → Sl.Spec Tryz.prog 127 #[.pointer (some ⟨f, 0, none⟩)] [FiP f { F with want := h, next := some g }] (fun v l => v = .tuple #[] ∧ l = [FiP f R])) :
    Sl.Spec Tryz.prog 101 #[.pointer (some ⟨f, 0, none⟩), .agg #[.int .i64 h.slot, .int .i64 h.gen], .func (.func g) #[.pointer (some ⟨f, 0, none⟩)] #[]] [FiP f F]
      (fun v l => v = .tuple #[] ∧ l = [FiP f (if h = ⟨0, 0⟩ then R else { F with want := h, next := some g })]) := by
  refine Spec.enter Tryz.func101 rfl rfl rfl ?_
  refine SW.exH 0 rfl ?_; rintro ⟨nv, sv, kv⟩; simp only [List.cons_append, List.nil_append]
  refine SW.seq ?_
  refine SW.reg (l := [.op 0 .e]) rfl ?_
  refine rx_box (.inr rfl) rfl rfl rfl rfl rfl rfl (cl := [_, _]) rfl ?_
  intro b4
  refine rx_end0 ?_
  refine SW.seq ?_
  refine SW.reg (l := [.op 0 .e, .op 1 .e, .op 2 .e, .op 3 .e, .op 4 .e, .op 5 .e, .op 6 .e, .op 7 .e, .op 8 .e, .op 9 .e]) rfl ?_
  iterate 2 refine rx_s rfl rfl rfl rfl rfl ?_
  refine rx_ldHA rfl rfl rfl rfl rfl rfl (by (repeat first|exact .here|apply Take1.there)) Fa.ag_56 Fa.sz_56 (vs := [_, _]) (by rfl) rfl ?_
  iterate 2 refine rx_s rfl rfl rfl rfl rfl ?_
  refine rx_fa rfl rfl rfl rfl rfl rfl Fa.fo_153_4 ?_
  refine rx_stp rfl rfl rfl rfl rfl rfl (by (repeat first|exact .here|apply Take1.there)) Fa.sz_56 (vs := [_, _]) rfl rfl rfl (by rfl) (cl' := [_, _, _, _, _, _, _, _, _, _, _, _, _, _, _, _, _, _, _, _]) (by rfl) ?_
  refine rx_s rfl rfl rfl rfl rfl ?_
  refine rx_fa rfl rfl rfl rfl rfl rfl Fa.fo_153_5 ?_
  refine rx_stp rfl rfl rfl rfl rfl rfl (by (repeat first|exact .here|apply Take1.there)) Fa.sz_151 (vs := [_]) rfl rfl rfl (by rfl) (cl' := [_, _, _, _, _, _, _, _, _, _, _, _, _, _, _, _, _, _, _, _]) (by rfl) ?_
  refine rx_end0 ?_
  refine SW.seq ?_
  refine SW.reg (l := [.op 0 .e, .op 1 .e, .op 2 .e]) rfl ?_
  refine rx_ldHA rfl rfl rfl rfl rfl rfl (by (repeat first|exact .here|apply Take1.there)) Fa.ag_56 Fa.sz_56 (vs := [_, _]) (by rfl) rfl ?_
  refine rx_build rfl rfl rfl rfl rfl Fa.st_56 rfl (cs := [_, _]) rfl ?_
  refine rx_eqS rfl rfl rfl rfl rfl Fa.eq_56 rfl rfl rfl ?_
  refine rx_end0 ?_
  refine SW.cond rfl (fun h16 => ?_) (fun h16 => ?_)
  · skip
    have h0 : h = ⟨0, 0⟩ := by rcases h with ⟨h1, h2⟩; simp at h16; simp [h16]
    rw [if_pos h0]
    have hb' := hb h0
    refine SW.fold (Hl' := [FiP f { F with want := h, next := some g }]) (foldF (F := { F with want := h, next := some g }) (.one (by (repeat first|exact .here|apply Take1.there)) (.one (by (repeat first|exact .here|apply Take1.there)) (.one (by (repeat first|exact .here|apply Take1.there)) (.one (by (repeat first|exact .here|apply Take1.there)) .nil))))) ?_
    refine SW.reg (l := [.op 0 .e, .op 1 .e]) rfl ?_
    refine rx_s rfl rfl rfl rfl rfl ?_
    refine rx_callH (F := ?FT6) rfl rfl rfl rfl rfl rfl rfl rfl Fa.ca_127 rfl (hb') ?T6 ?_
    case T6 => (repeat (first|exact Take.nil|refine Take.cons (by (repeat first|exact .here|apply Take1.there)) ?_))
    rintro _ _ ⟨rfl, rfl⟩
    try simp only [List.cons_append, List.nil_append]
    refine rx_endL ?_
    exact retK0e (l := [_]) .nil ⟨rfl, rfl⟩ (.one (by (repeat first|exact .here|apply Take1.there)) .nil)
  · skip
    have h0 : h ≠ ⟨0, 0⟩ := by rintro rfl; simp at h16
    rw [if_neg h0]
    refine SW.skip ?_
    try simp only [thenK, blockK, cond_true, cond_false, beq_self_eq_true, Nat.reduceBEq]
    exact retK0e (l := [_]) .nil ⟨rfl, rfl⟩ (foldF (F := { F with want := h, next := some g }) (.one (by (repeat first|exact .here|apply Take1.there)) (.one (by (repeat first|exact .here|apply Take1.there)) (.one (by (repeat first|exact .here|apply Take1.there)) (.one (by (repeat first|exact .here|apply Take1.there)) .nil)))))
/-- 'segment' -/
theorem seg (f : Nat) (F : Holt.Fi) (hF : F.ok) : Sl.Spec Tryz.prog 75 #[.pointer (some ⟨f, 0, none⟩)] [FiP f F] (fun v l => v = .tuple #[] ∧ l = [FiP f (F.seg cmpK 102 103)]) := by
  have hd := go1G f { F with met := 0, found := false } (({ F with met := 0, found := false, want := F.v.kids, next := some 102 } : Holt.Fi).bottom cmpK 102 103) F.v.kids 102 (fun _ => bottomG f { F with met := 0, found := false, want := F.v.kids, next := some 102 } ⟨hF.stack, hF.kids⟩ (fun _ q => by cases q))
  have ht := go1G f { F with met := 0, found := false } (({ F with met := 0, found := false, want := F.v.kids, next := some 103 } : Holt.Fi).bottom cmpK 102 103) F.v.kids 103 (fun _ => bottomG f { F with met := 0, found := false, want := F.v.kids, next := some 103 } ⟨hF.stack, hF.kids⟩ (fun _ q => by cases q))
  unfold Holt.Fi.seg
  unfold Holt.Fi.bottom at hd ht
  refine Spec.enter Tryz.func75 rfl rfl rfl ?_
  refine SW.exH 0 rfl ?_; rintro ⟨nv, sv, kv⟩; simp only [List.cons_append, List.nil_append]
  refine SW.slroShape 1 rfl ?_
  rintro p1 m1 c1 rfl hm1
  rw [flat_len, show Enc.n ByteArray = 1 from rfl] at hm1
  obtain rfl : m1 = F.names.length := by omega
  refine SW.seq ?_
  refine SW.reg (l := [.op 0 .e, .op 1 .e, .op 2 .e, .op 3 .e, .op 4 .e, .op 5 .e, .op 6 .e, .op 7 .e]) rfl ?_
  iterate 3 refine rx_s rfl rfl rfl rfl rfl ?_
  refine rx_fa rfl rfl rfl rfl rfl rfl Fa.fo_153_6 ?_
  refine rx_stp rfl rfl rfl rfl rfl rfl (by (repeat first|exact .here|apply Take1.there)) Fa.sz_3 (vs := [_]) rfl rfl rfl (by rfl) (cl' := [_, _, _, _, _, _, _, _, _, _, _, _, _, _, _, _, _, _, _, _]) (by rfl) ?_
  refine rx_s rfl rfl rfl rfl rfl ?_
  refine rx_fa rfl rfl rfl rfl rfl rfl Fa.fo_153_7 ?_
  refine rx_stp rfl rfl rfl rfl rfl rfl (by (repeat first|exact .here|apply Take1.there)) Fa.sz_4 (vs := [_]) rfl rfl rfl (by rfl) (cl' := [_, _, _, _, _, _, _, _, _, _, _, _, _, _, _, _, _, _, _, _]) (by rfl) ?_
  refine rx_end0 ?_
  refine SW.block ?_
  refine SW.seq ?_
  refine SW.reg (l := [.op 0 .e, .op 1 .e, .op 2 .e, .op 3 .e, .op 4 .e, .op 5 .e, .op 6 .e]) rfl ?_
  iterate 2 refine rx_s rfl rfl rfl rfl rfl ?_
  refine rx_fa rfl rfl rfl rfl rfl rfl Fa.fo_153_2 ?_
  refine rx_ldH1 rfl rfl rfl rfl rfl rfl (by (repeat first|exact .here|apply Take1.there)) Fa.ag_69 (by rfl) ?_
  refine rx_len rfl rfl rfl rfl rfl rfl (lenV_sl Fa.sl_69 _ _ _) ?_
  iterate 2 refine rx_s rfl rfl rfl rfl rfl ?_
  refine rx_end0 ?_
  refine SW.cond rfl (fun h10 => ?_) (fun h10 => ?_)
  · skip
    have hn : F.names ≠ [] := by rintro q; rw [q] at h10; simp at h10
    rw [if_neg hn]
    rw [if_neg hn] at hd
    refine SW.reg (l := [.op 0 .e, .op 1 .e, .op 2 .e, .op 3 .e, .op 4 .e, .op 5 .e, .op 6 .e, .op 7 .e, .op 8 .e]) rfl ?_
    iterate 3 refine rx_s rfl rfl rfl rfl rfl ?_
    refine rx_fa rfl rfl rfl rfl rfl rfl Fa.fo_153_0 ?_
    refine rx_fa rfl rfl rfl rfl rfl rfl Fa.fo_58_1 ?_
    refine rx_ldHA rfl rfl rfl rfl rfl rfl (by (repeat first|exact .here|apply Take1.there)) Fa.ag_56 Fa.sz_56 (vs := [_, _]) (by rfl) rfl ?_
    iterate 2 refine rx_s rfl rfl rfl rfl rfl ?_
    refine rx_callH (F := ?FT7) rfl rfl rfl rfl rfl rfl rfl rfl Fa.ca_101 rfl (openPre (nv := .slice p1 F.names.length c1) (sv := sv) (kv := kv) hd) ?T7 ?_
    case T7 => (repeat (first|exact Take.nil|refine Take.cons (by (repeat first|exact .here|apply Take1.there)) ?_))
    rintro _ _ ⟨rfl, rfl⟩
    try simp only [List.cons_append, List.nil_append]
    refine rx_endL ?_
    try simp only [thenK, blockK, cond_true, cond_false, beq_self_eq_true, Nat.reduceBEq]
    exact retK0e (l := [_]) .nil ⟨rfl, rfl⟩ (.one (by (repeat first|exact .here|apply Take1.there)) .nil)
  · skip
    have hn : F.names = [] := by simpa using h10
    rw [if_pos hn]
    rw [if_pos hn] at ht
    refine SW.seq ?_
    refine SW.reg (l := [.op 0 .e, .op 1 .e, .op 2 .e, .op 3 .e, .op 4 .e]) rfl ?_
    iterate 2 refine rx_s rfl rfl rfl rfl rfl ?_
    refine rx_fa rfl rfl rfl rfl rfl rfl Fa.fo_153_1 ?_
    refine rx_ldH1 rfl rfl rfl rfl rfl rfl (by (repeat first|exact .here|apply Take1.there)) Fa.ag_4 (by rfl) ?_
    refine rx_s rfl rfl rfl rfl rfl ?_
    refine rx_end0 ?_
    refine SW.cond rfl (fun h26 => ?_) (fun h26 => ?_)
    · skip
      rw [if_pos h26]
      refine SW.reg (l := [.op 0 .e, .op 1 .e, .op 2 .e, .op 3 .e, .op 4 .e, .op 5 .e, .op 6 .e, .op 7 .e, .op 8 .e]) rfl ?_
      iterate 3 refine rx_s rfl rfl rfl rfl rfl ?_
      refine rx_fa rfl rfl rfl rfl rfl rfl Fa.fo_153_0 ?_
      refine rx_fa rfl rfl rfl rfl rfl rfl Fa.fo_58_1 ?_
      refine rx_ldHA rfl rfl rfl rfl rfl rfl (by (repeat first|exact .here|apply Take1.there)) Fa.ag_56 Fa.sz_56 (vs := [_, _]) (by rfl) rfl ?_
      iterate 2 refine rx_s rfl rfl rfl rfl rfl ?_
      refine rx_callH (F := ?FT8) rfl rfl rfl rfl rfl rfl rfl rfl Fa.ca_101 rfl (openPre (nv := .slice p1 F.names.length c1) (sv := sv) (kv := kv) ht) ?T8 ?_
      case T8 => (repeat (first|exact Take.nil|refine Take.cons (by (repeat first|exact .here|apply Take1.there)) ?_))
      rintro _ _ ⟨rfl, rfl⟩
      try simp only [List.cons_append, List.nil_append]
      refine rx_endL ?_
      try simp only [thenK, blockK, cond_true, cond_false, beq_self_eq_true, Nat.reduceBEq]
      exact retK0e (l := [_]) .nil ⟨rfl, rfl⟩ (.one (by (repeat first|exact .here|apply Take1.there)) .nil)
    · skip
      rw [if_neg (by simp [h26])]
      refine SW.reg (l := [.op 0 .e, .op 1 .e]) rfl ?_
      refine rx_s rfl rfl rfl rfl rfl ?_
      refine rx_callH (F := ?FT9) rfl rfl rfl rfl rfl rfl rfl rfl Fa.ca_74 rfl (openPre (F := { F with met := 0, found := false }) (nv := .slice p1 F.names.length c1) (sv := sv) (kv := kv) (end_ f { F with met := 0, found := false } 0)) ?T9 ?_
      case T9 => (repeat (first|exact Take.nil|refine Take.cons (by (repeat first|exact .here|apply Take1.there)) ?_))
      rintro _ _ ⟨rfl, rfl⟩
      try simp only [List.cons_append, List.nil_append]
      refine rx_endL ?_
      try simp only [thenK, blockK, cond_true, cond_false, beq_self_eq_true, Nat.reduceBEq]
      exact retK0e (l := [_]) .nil ⟨rfl, rfl⟩ (.one (by (repeat first|exact .here|apply Take1.there)) .nil)
theorem bottom (f : Nat) (F : Holt.Fi) (hF : F.ok) : Sl.Spec Tryz.prog 127 #[.pointer (some ⟨f, 0, none⟩)] [FiP f F] (fun v l => v = .tuple #[] ∧ l = [FiP f (F.bottom cmpK 102 103)]) :=
  bottomG f F hF fun _ _ => seg f { F with at_ := F.met, names := F.names.tail } ⟨hF.stack, hF.kids⟩
theorem go1 (f : Nat) (F : Holt.Fi) (hF : F.ok) (h : Handle) (g : Nat) : Sl.Spec Tryz.prog 101 #[.pointer (some ⟨f, 0, none⟩), .agg #[.int .i64 h.slot, .int .i64 h.gen], .func (.func g) #[.pointer (some ⟨f, 0, none⟩)] #[]] [FiP f F]
      (fun v l => v = .tuple #[] ∧ l = [FiP f (F.go1 cmpK 102 103 h g)]) :=
  go1G f F _ h g fun _ => bottom f { F with want := h, next := some g } ⟨hF.stack, hF.kids⟩
/-- 'Want' -/
theorem want (f : Nat) (F : Holt.Fi) : Sl.Spec Tryz.prog 35 #[.pointer (some ⟨f, 0, none⟩)] [FiP f F] (fun v l => v = .tuple #[.agg (enc F.want).toArray, .bool F.next.isSome] ∧ l = [FiP f F]) := by
  have hb : F.next.isSome = !F.next.isNone := by cases F.next <;> rfl
  rw [hb]
  refine Spec.enter Tryz.func35 rfl rfl rfl ?_
  refine SW.exH 0 rfl ?_; rintro ⟨nv, sv, kv⟩; simp only [List.cons_append, List.nil_append]
  refine SW.seq ?_
  refine SW.reg (l := [.op 0 .e, .op 1 .e]) rfl ?_
  refine rx_alloc (.inr rfl) rfl rfl rfl rfl rfl Fa.z_56 ?_
  intro b2
  refine rx_s rfl rfl rfl rfl rfl ?_
  refine rx_end0 ?_
  refine SW.seq ?_
  refine SW.drawT (Hs := [blk b2 [.int .i64 0, .int .i64 0] 56 (0, 0)]) (D0l := [FB f F nv sv kv]) (Dl := ?DT10) (F := ?FT10) Fa.mix (tp := [0, 1, 3, 7, 0, 16, 48, 112, 240, 15, 1023]) (l := [.op 0 .s, .op 1 .s, .op 2 .s, .op 3 .p, .op 4 .s, .op 5 .s, .op 6 .s, .op 7 .p, .op 8 .s, .bar, .op 9 .e, .op 10 .s]) (by kernel_rfl) ?T10a ?T10b ?_
  case T10a => (repeat (first|exact Take.nil|refine Take.cons (by (repeat first|exact .here|apply Take1.there)) ?_))
  case T10b => (repeat (first|exact Take.nil|refine Take.cons (by (repeat first|exact .here|apply Take1.there)) ?_))
  iterate 2 refine rx_s rfl rfl rfl rfl rfl ?_
  refine rx_fa rfl rfl rfl rfl rfl rfl Fa.fo_153_4 ?_
  refine rx_ldPA rfl rfl rfl rfl rfl rfl (by (repeat first|exact .here|apply Take1.there)) Fa.ag_56 Fa.sz_56 (vs := [_, _]) (by rfl) rfl ?_
  iterate 2 refine rx_s rfl rfl rfl rfl rfl ?_
  refine rx_fa rfl rfl rfl rfl rfl rfl Fa.fo_153_5 ?_
  refine rx_ldP1 rfl rfl rfl rfl rfl rfl (by (repeat first|exact .here|apply Take1.there)) Fa.ag_151 (by rfl) ?_
  refine rx_nilG rfl rfl rfl rfl rfl Fa.ft_151 rfl (isNil_fnV f F.next) (.inr ⟨rfl, rfl⟩) ?_
  refine rx_barAll ?_
  try simp only [List.cons_append, List.nil_append]
  refine rx_stp rfl rfl rfl rfl rfl rfl (by (repeat first|exact .here|apply Take1.there)) Fa.sz_56 (vs := [_, _]) rfl rfl rfl (by rfl) (cl' := [_, _]) (by rfl) ?_
  refine rx_s rfl rfl rfl rfl rfl ?_
  refine rx_endD ?_
  try simp only [List.cons_append, List.nil_append]
  refine SW.ret ?_
  exact retK2 (l := [_]) (.cell rfl (by (repeat first|exact .here|apply Take1.there)) (.inr ⟨2, _, Fa.ag_56, Fa.sz_56, rfl, rfl, rfl⟩) (.tmp rfl .nil)) ⟨rfl, rfl⟩ (foldF (.one (by (repeat first|exact .here|apply Take1.there)) (.one (by (repeat first|exact .here|apply Take1.there)) (.one (by (repeat first|exact .here|apply Take1.there)) (.one (by (repeat first|exact .here|apply Take1.there)) .nil)))))
theorem loads (f : Nat) (F : Holt.Fi) : Sl.Spec Tryz.prog 39 #[.pointer (some ⟨f, 0, none⟩)] [FiP f F] (fun v l => v = .int .i64 F.loads ∧ l = [FiP f F]) := by
  refine Spec.enter Tryz.func39 rfl rfl rfl ?_
  refine SW.exH 0 rfl ?_; rintro ⟨nv, sv, kv⟩; simp only [List.cons_append, List.nil_append]
  refine SW.seq ?_
  refine SW.reg (l := [.op 0 .e]) rfl ?_
  refine rx_s rfl rfl rfl rfl rfl ?_
  refine rx_end0 ?_
  refine SW.seq ?_
  refine SW.reg (l := [.op 0 .e, .op 1 .e, .op 2 .e, .op 3 .e, .op 4 .e]) rfl ?_
  iterate 2 refine rx_s rfl rfl rfl rfl rfl ?_
  refine rx_fa rfl rfl rfl rfl rfl rfl Fa.fo_153_10 ?_
  refine rx_ldH1 rfl rfl rfl rfl rfl rfl (by (repeat first|exact .here|apply Take1.there)) Fa.ag_3 (by rfl) ?_
  refine rx_s rfl rfl rfl rfl rfl ?_
  refine rx_end0 ?_
  refine SW.ret ?_
  exact retK1 (l := [_]) (.tmp rfl .nil) ⟨rfl, rfl⟩ (foldF (.one (by (repeat first|exact .here|apply Take1.there)) (.one (by (repeat first|exact .here|apply Take1.there)) (.one (by (repeat first|exact .here|apply Take1.there)) (.one (by (repeat first|exact .here|apply Take1.there)) .nil)))))
/-- 'down' -/
theorem down (f : Nat) (F : Holt.Fi) (hF : F.ok) (n : KNode) (x : ByteArray) (ns : List ByteArray) (hx : F.names = x :: ns) : Sl.Spec Tryz.prog 102 #[.pointer (some ⟨f, 0, none⟩), .agg (enc n).toArray] [FiP f F]
    (fun v l => v = .tuple #[] ∧ l = [FiP f (F.down cmpK 102 103 n)]) := by
  have hxl : F.names.length = ns.length + 1 := by rw [hx]; rfl
  have g1 := go1 f F hF n.right 102
  have g2 := go1 f { F with met := n.key.node, found := true } ⟨hF.stack, hF.kids⟩ n.left 102
  have g3 := go1 f F hF n.left 102
  unfold Holt.Fi.down
  rw [show F.names.headD ⟨#[]⟩ = x by rw [hx]; rfl]
  refine Spec.enter Tryz.func102 rfl rfl rfl ?_
  refine SW.exH 0 rfl ?_; rintro ⟨nv, sv, kv⟩; simp only [List.cons_append, List.nil_append]
  refine SW.slro 1 rfl (fun _ q => absurd q (by rw [hx]; simp [flat, enc, Enc.enc])) ?_
  intro nb off len cap cl fz hv e1 e2 e3
  subst hv
  rw [flat_len, show Enc.n ByteArray = 1 from rfl] at e1
  have hn0 : cl[off + 0]? = some (.string x) := ro_get e3 (by rw [hx]; rfl)
  refine SW.seq ?_
  refine SW.reg (l := [.op 0 .e]) rfl ?_
  refine rx_box (.inr rfl) rfl rfl rfl rfl rfl rfl (cl := [_, _, _, _, _, _, _, _, _]) rfl ?_
  intro b3
  refine rx_end0 ?_
  refine SW.seq ?_
  refine SW.seq ?_
  refine SW.drawT (Hs := []) (D0l := []) (Dl := ?DT11) (F := ?FT11) Fa.mix (tp := [0, 1, 0, 4, 12, 28, 0, 64, 192, 448, 960, 1984, 4092, 8191, 16383]) (l := [.op 0 .s, .op 1 .d, .op 2 .s, .op 3 .s, .op 4 .s, .op 5 .d, .op 6 .s, .op 7 .s, .op 8 .s, .op 9 .d, .op 10 .s, .op 11 .d, .op 12 .s, .op 13 .e, .op 14 .s]) (by kernel_rfl) ?T11a ?T11b ?_
  case T11a => (repeat (first|exact Take.nil|refine Take.cons (by (repeat first|exact .here|apply Take1.there)) ?_))
  case T11b => (repeat (first|exact Take.nil|refine Take.cons (by (repeat first|exact .here|apply Take1.there)) ?_))
  refine rx_fa rfl rfl rfl rfl rfl rfl Fa.fo_75_0 ?_
  refine rx_ldDA rfl rfl rfl rfl rfl rfl rfl (by (repeat first|exact .here|apply Take1.there)) Fa.ag_73 Fa.sz_73 (vs := [_, _, _]) (by rfl) rfl ?_
  iterate 2 refine rx_s rfl rfl rfl rfl rfl ?_
  refine rx_fa rfl rfl rfl rfl rfl rfl Fa.fo_153_3 ?_
  refine rx_ldD1 rfl rfl rfl rfl rfl rfl rfl (by (repeat first|exact .here|apply Take1.there)) Fa.ag_3 (by rfl) ?_
  iterate 2 refine rx_s rfl rfl rfl rfl rfl ?_
  refine rx_fa rfl rfl rfl rfl rfl rfl Fa.fo_153_2 ?_
  refine rx_ldD1 rfl rfl rfl rfl rfl rfl rfl (by (repeat first|exact .here|apply Take1.there)) Fa.ag_69 (by rfl) ?_
  refine rx_ix rfl rfl rfl rfl rfl Fa.sl_69 rfl rfl (by omega) ?_
  refine rx_ldD1 rfl rfl rfl rfl rfl rfl rfl (by (repeat first|exact .here|apply Take1.there)) Fa.ag_9 (by simpa using hn0) ?_
  refine rx_build rfl rfl rfl rfl rfl Fa.st_73 rfl (cs := [_, _, _]) rfl ?_
  refine rx_callH (F := ?FT12) rfl rfl rfl rfl rfl rfl rfl rfl Fa.ca_61 rfl (Cm.kid n.key ⟨F.at_, x, 0⟩) ?T12 ?_
  case T12 => (repeat (first|exact Take.nil|refine Take.cons (by (repeat first|exact .here|apply Take1.there)) ?_))
  rintro _ _ ⟨rfl, rfl⟩
  try simp only [List.cons_append, List.nil_append]
  refine rx_s rfl rfl rfl rfl rfl ?_
  refine rx_endD ?_
  try simp only [List.cons_append, List.nil_append]
  refine SW.cond rfl (fun h18 => ?_) (fun h18 => ?_)
  · skip
    rw [if_pos (of_decide_eq_true h18)]
    refine SW.fold (Hl' := [FB f F (.slice (some ⟨nb, off, none⟩) len cap) sv kv, SlRo 9 1 (.slice (some ⟨nb, off, none⟩) len cap) (flat F.names), SlOwn 56 2 sv (flat F.stack), SlOwn 73 3 kv (flat F.kids), blk b3 (enc n) 75 (0, 0)]) (.one (by (repeat first|exact .here|apply Take1.there)) (slro_mk (by (repeat first|exact .here|apply Take1.there)) (by rw [flat_len]; exact e1) e2 e3 (.one (by (repeat first|exact .here|apply Take1.there)) (.one (by (repeat first|exact .here|apply Take1.there)) (.one (by (repeat first|exact .here|apply Take1.there)) .nil))))) ?_
    refine SW.seq ?_
    refine SW.reg (l := [.op 0 .e, .op 1 .e, .op 2 .e, .op 3 .e, .op 4 .e, .op 5 .e]) rfl ?_
    refine rx_s rfl rfl rfl rfl rfl ?_
    refine rx_fa rfl rfl rfl rfl rfl rfl Fa.fo_75_3 ?_
    refine rx_ldHA rfl rfl rfl rfl rfl rfl (by (repeat first|exact .here|apply Take1.there)) Fa.ag_56 Fa.sz_56 (vs := [_, _]) (by rfl) rfl ?_
    iterate 2 refine rx_s rfl rfl rfl rfl rfl ?_
    refine rx_callH (F := ?FT13) rfl rfl rfl rfl rfl rfl rfl rfl Fa.ca_101 rfl (openPre (nv := .slice (some ⟨nb, off, none⟩) len cap) (sv := sv) (kv := kv) g1) ?T13 ?_
    case T13 => (repeat (first|exact Take.nil|refine Take.cons (by (repeat first|exact .here|apply Take1.there)) ?_))
    rintro _ _ ⟨rfl, rfl⟩
    try simp only [List.cons_append, List.nil_append]
    refine rx_end0 ?_
    refine SW.ret ?_
    exact retK0 (l := [_]) .nil ⟨rfl, rfl⟩ (.one (by (repeat first|exact .here|apply Take1.there)) .nil)
  · skip
    rw [if_neg (of_decide_eq_false h18)]
    refine SW.skip ?_
    try simp only [thenK, blockK, cond_true, cond_false, beq_self_eq_true, Nat.reduceBEq]
    refine SW.seq ?_
    refine SW.seq ?_
    refine SW.drawAll Fa.mix (tp := [0, 1, 3, 0, 8, 24, 56, 127, 255, 511, 1023, 2047, 511, 4607, 12799, 29183, 61951, 127487, 262143, 524287]) (l := [.op 0 .s, .op 1 .s, .op 2 .d, .op 3 .s, .op 4 .s, .op 5 .s, .op 6 .d, .op 7 .s, .op 8 .s, .op 9 .s, .op 10 .s, .op 11 .d, .op 12 .s, .op 13 .s, .op 14 .s, .op 15 .d, .op 16 .s, .op 17 .d, .op 18 .s, .op 19 .s]) (by kernel_rfl) ?_
    refine rx_fa rfl rfl rfl rfl rfl rfl Fa.fo_75_0 ?_
    refine rx_fa rfl rfl rfl rfl rfl rfl Fa.fo_73_0 ?_
    refine rx_ldD1 rfl rfl rfl rfl rfl rfl rfl (by (repeat first|exact .here|apply Take1.there)) Fa.ag_3 (by rfl) ?_
    iterate 2 refine rx_s rfl rfl rfl rfl rfl ?_
    refine rx_fa rfl rfl rfl rfl rfl rfl Fa.fo_153_3 ?_
    refine rx_ldD1 rfl rfl rfl rfl rfl rfl rfl (by (repeat first|exact .here|apply Take1.there)) Fa.ag_3 (by rfl) ?_
    iterate 2 refine rx_s rfl rfl rfl rfl rfl ?_
    refine rx_split (t := 33) rfl (fun g33 => ?_) (fun g33 => ?_)
    · skip
      refine rx_fa rfl rfl rfl rfl rfl rfl Fa.fo_75_0 ?_
      refine rx_fa rfl rfl rfl rfl rfl rfl Fa.fo_73_1 ?_
      refine rx_ldD1 rfl rfl rfl rfl rfl rfl rfl (by (repeat first|exact .here|apply Take1.there)) Fa.ag_9 (by rfl) ?_
      iterate 2 refine rx_s rfl rfl rfl rfl rfl ?_
      refine rx_fa rfl rfl rfl rfl rfl rfl Fa.fo_153_2 ?_
      refine rx_ldD1 rfl rfl rfl rfl rfl rfl rfl (by (repeat first|exact .here|apply Take1.there)) Fa.ag_69 (by rfl) ?_
      refine rx_ix rfl rfl rfl rfl rfl Fa.sl_69 rfl rfl (by omega) ?_
      refine rx_ldD1 rfl rfl rfl rfl rfl rfl rfl (by (repeat first|exact .here|apply Take1.there)) Fa.ag_9 (by simpa using hn0) ?_
      iterate 2 refine rx_s rfl rfl rfl rfl rfl ?_
      refine rx_endD ?_
      try simp only [List.cons_append, List.nil_append]
      refine SW.cond rfl (fun h44 => ?_) (fun h44 => ?_)
      · skip
        have hk : n.key.to = F.at_ ∧ n.key.name = x := ⟨by simpa using g33, ba_ext (by simpa using h44)⟩
        rw [if_pos hk]
        refine SW.reg (l := [.op 0 .e, .op 1 .e, .op 2 .e, .op 3 .e, .op 4 .e, .op 5 .e, .op 6 .e, .op 7 .e, .op 8 .e, .op 9 .e, .op 10 .e]) rfl ?_
        iterate 2 refine rx_s rfl rfl rfl rfl rfl ?_
        refine rx_fa rfl rfl rfl rfl rfl rfl Fa.fo_75_0 ?_
        refine rx_fa rfl rfl rfl rfl rfl rfl Fa.fo_73_2 ?_
        refine rx_ldH1 rfl rfl rfl rfl rfl rfl (by (repeat first|exact .here|apply Take1.there)) Fa.ag_3 (by rfl) ?_
        refine rx_s rfl rfl rfl rfl rfl ?_
        refine rx_fa rfl rfl rfl rfl rfl rfl Fa.fo_153_6 ?_
        refine rx_stp rfl rfl rfl rfl rfl rfl (by (repeat first|exact .here|apply Take1.there)) Fa.sz_3 (vs := [_]) rfl rfl rfl (by rfl) (cl' := [_, _, _, _, _, _, _, _, _, _, _, _, _, _, _, _, _, _, _, _]) (by rfl) ?_
        refine rx_s rfl rfl rfl rfl rfl ?_
        refine rx_fa rfl rfl rfl rfl rfl rfl Fa.fo_153_7 ?_
        refine rx_stp rfl rfl rfl rfl rfl rfl (by (repeat first|exact .here|apply Take1.there)) Fa.sz_4 (vs := [_]) rfl rfl rfl (by rfl) (cl' := [_, _, _, _, _, _, _, _, _, _, _, _, _, _, _, _, _, _, _, _]) (by rfl) ?_
        refine rx_end0 ?_
        refine SW.fold (Hl' := [FB f { F with met := n.key.node, found := true } (.slice (some ⟨nb, off, none⟩) len cap) sv kv, SlRo 9 1 (.slice (some ⟨nb, off, none⟩) len cap) (flat F.names), SlOwn 56 2 sv (flat F.stack), SlOwn 73 3 kv (flat F.kids), blk b3 (enc n) 75 (0, 0)]) (.one (by (repeat first|exact .here|apply Take1.there)) (slro_mk (by (repeat first|exact .here|apply Take1.there)) (by rw [flat_len]; exact e1) e2 e3 (.one (by (repeat first|exact .here|apply Take1.there)) (.one (by (repeat first|exact .here|apply Take1.there)) (.one (by (repeat first|exact .here|apply Take1.there)) .nil))))) ?_
        refine SW.reg (l := [.op 0 .e, .op 1 .e, .op 2 .e, .op 3 .e, .op 4 .e, .op 5 .e]) rfl ?_
        refine rx_s rfl rfl rfl rfl rfl ?_
        refine rx_fa rfl rfl rfl rfl rfl rfl Fa.fo_75_2 ?_
        refine rx_ldHA rfl rfl rfl rfl rfl rfl (by (repeat first|exact .here|apply Take1.there)) Fa.ag_56 Fa.sz_56 (vs := [_, _]) (by rfl) rfl ?_
        iterate 2 refine rx_s rfl rfl rfl rfl rfl ?_
        refine rx_callH (F := ?FT14) rfl rfl rfl rfl rfl rfl rfl rfl Fa.ca_101 rfl (openPre (F := { F with met := n.key.node, found := true }) (nv := .slice (some ⟨nb, off, none⟩) len cap) (sv := sv) (kv := kv) g2) ?T14 ?_
        case T14 => (repeat (first|exact Take.nil|refine Take.cons (by (repeat first|exact .here|apply Take1.there)) ?_))
        rintro _ _ ⟨rfl, rfl⟩
        try simp only [List.cons_append, List.nil_append]
        refine rx_endL ?_
        exact retK0e (l := [_]) .nil ⟨rfl, rfl⟩ (.one (by (repeat first|exact .here|apply Take1.there)) .nil)
      · skip
        have hk : ¬ (n.key.to = F.at_ ∧ n.key.name = x) := fun q => by simp [q.2] at h44
        rw [if_neg hk]
        refine SW.skip ?_
        try simp only [thenK, blockK, cond_true, cond_false, beq_self_eq_true, Nat.reduceBEq]
        refine SW.fold (Hl' := [FB f F (.slice (some ⟨nb, off, none⟩) len cap) sv kv, SlRo 9 1 (.slice (some ⟨nb, off, none⟩) len cap) (flat F.names), SlOwn 56 2 sv (flat F.stack), SlOwn 73 3 kv (flat F.kids), blk b3 (enc n) 75 (0, 0)]) (.one (by (repeat first|exact .here|apply Take1.there)) (slro_mk (by (repeat first|exact .here|apply Take1.there)) (by rw [flat_len]; exact e1) e2 e3 (.one (by (repeat first|exact .here|apply Take1.there)) (.one (by (repeat first|exact .here|apply Take1.there)) (.one (by (repeat first|exact .here|apply Take1.there)) .nil))))) ?_
        refine SW.reg (l := [.op 0 .e, .op 1 .e, .op 2 .e, .op 3 .e, .op 4 .e, .op 5 .e]) rfl ?_
        refine rx_s rfl rfl rfl rfl rfl ?_
        refine rx_fa rfl rfl rfl rfl rfl rfl Fa.fo_75_2 ?_
        refine rx_ldHA rfl rfl rfl rfl rfl rfl (by (repeat first|exact .here|apply Take1.there)) Fa.ag_56 Fa.sz_56 (vs := [_, _]) (by rfl) rfl ?_
        iterate 2 refine rx_s rfl rfl rfl rfl rfl ?_
        refine rx_callH (F := ?FT15) rfl rfl rfl rfl rfl rfl rfl rfl Fa.ca_101 rfl (openPre (nv := .slice (some ⟨nb, off, none⟩) len cap) (sv := sv) (kv := kv) g3) ?T15 ?_
        case T15 => (repeat (first|exact Take.nil|refine Take.cons (by (repeat first|exact .here|apply Take1.there)) ?_))
        rintro _ _ ⟨rfl, rfl⟩
        try simp only [List.cons_append, List.nil_append]
        refine rx_endL ?_
        exact retK0e (l := [_]) .nil ⟨rfl, rfl⟩ (.one (by (repeat first|exact .here|apply Take1.there)) .nil)
    · skip
      have hk : ¬ (n.key.to = F.at_ ∧ n.key.name = x) := fun q => by simp [q.1] at g33
      rw [if_neg hk]
      refine rx_skip rfl rfl rfl rfl ?_
      refine rx_skip rfl rfl rfl rfl ?_
      refine rx_skip rfl rfl rfl rfl ?_
      refine rx_skip rfl rfl rfl rfl ?_
      refine rx_skip rfl rfl rfl rfl ?_
      refine rx_skip rfl rfl rfl rfl ?_
      refine rx_skip rfl rfl rfl rfl ?_
      refine rx_skip rfl rfl rfl rfl ?_
      refine rx_skip rfl rfl rfl rfl ?_
      refine rx_skip rfl rfl rfl rfl ?_
      refine rx_s rfl rfl rfl rfl rfl ?_
      refine rx_endD ?_
      try simp only [List.cons_append, List.nil_append]
      refine SW.cond (b := false) rfl (fun h => nomatch h) (fun _ => ?_)
      refine SW.skip ?_
      try simp only [thenK, blockK, cond_true, cond_false, beq_self_eq_true, Nat.reduceBEq]
      refine SW.fold (Hl' := [FB f F (.slice (some ⟨nb, off, none⟩) len cap) sv kv, SlRo 9 1 (.slice (some ⟨nb, off, none⟩) len cap) (flat F.names), SlOwn 56 2 sv (flat F.stack), SlOwn 73 3 kv (flat F.kids), blk b3 (enc n) 75 (0, 0)]) (.one (by (repeat first|exact .here|apply Take1.there)) (slro_mk (by (repeat first|exact .here|apply Take1.there)) (by rw [flat_len]; exact e1) e2 e3 (.one (by (repeat first|exact .here|apply Take1.there)) (.one (by (repeat first|exact .here|apply Take1.there)) (.one (by (repeat first|exact .here|apply Take1.there)) .nil))))) ?_
      refine SW.reg (l := [.op 0 .e, .op 1 .e, .op 2 .e, .op 3 .e, .op 4 .e, .op 5 .e]) rfl ?_
      refine rx_s rfl rfl rfl rfl rfl ?_
      refine rx_fa rfl rfl rfl rfl rfl rfl Fa.fo_75_2 ?_
      refine rx_ldHA rfl rfl rfl rfl rfl rfl (by (repeat first|exact .here|apply Take1.there)) Fa.ag_56 Fa.sz_56 (vs := [_, _]) (by rfl) rfl ?_
      iterate 2 refine rx_s rfl rfl rfl rfl rfl ?_
      refine rx_callH (F := ?FT16) rfl rfl rfl rfl rfl rfl rfl rfl Fa.ca_101 rfl (openPre (nv := .slice (some ⟨nb, off, none⟩) len cap) (sv := sv) (kv := kv) g3) ?T16 ?_
      case T16 => (repeat (first|exact Take.nil|refine Take.cons (by (repeat first|exact .here|apply Take1.there)) ?_))
      rintro _ _ ⟨rfl, rfl⟩
      try simp only [List.cons_append, List.nil_append]
      refine rx_endL ?_
      exact retK0e (l := [_]) .nil ⟨rfl, rfl⟩ (.one (by (repeat first|exact .here|apply Take1.there)) .nil)
/-- 'through' -/
theorem through (f : Nat) (F : Holt.Fi) (n : KNode) (hs : F.stack.length ≤ 90000) (hk : F.kids.length ≤ 11) : Sl.Spec Tryz.prog 103 #[.pointer (some ⟨f, 0, none⟩), .agg (enc n).toArray] [FiP f F]
    (fun v l => v = .tuple #[] ∧ l = [FiP f (F.through cmpK 103 n)]) := by
  unfold Holt.Fi.through
  obtain ⟨K, hK⟩ : ∃ K, K = if n.key.to = F.at_ then F.kids ++ [n.key] else F.kids := ⟨_, rfl⟩
  obtain ⟨S1, hS1⟩ : ∃ S, S = F.stack ++ (if n.key.to ≥ F.at_ then [n.left] else []) := ⟨_, rfl⟩
  obtain ⟨S2, hS2⟩ : ∃ S, S = S1 ++ (if n.key.to ≤ F.at_ then [n.right] else []) := ⟨_, rfl⟩
  have hT : F.through1 n = { F with kids := K, stack := S2 } := by rw [hS2, hS1, hK]; rfl
  have hKl : K.length ≤ 12 := by rw [hK]; split; (simp; omega); omega
  have hS1l : S1.length ≤ 90001 := by rw [hS1]; split; (simp; omega); (simp; omega)
  have hS2l : S2.length ≤ 90002 := by rw [hS2]; split; (simp; omega); (simp; omega)
  rw [hT]
  refine Spec.enter Tryz.func103 rfl rfl rfl ?_
  refine SW.exH 0 rfl ?_; rintro ⟨nv, sv, kv⟩; simp only [List.cons_append, List.nil_append]
  refine SW.seq ?_
  refine SW.reg (l := [.op 0 .e]) rfl ?_
  refine rx_box (.inr rfl) rfl rfl rfl rfl rfl rfl (cl := [_, _, _, _, _, _, _, _, _]) rfl ?_
  intro b3
  refine rx_end0 ?_
  refine SW.seq ?_
  refine SW.seq ?_
  refine SW.drawAll Fa.mix (tp := [0, 1, 3, 0, 8, 24, 56, 127]) (l := [.op 0 .s, .op 1 .s, .op 2 .d, .op 3 .s, .op 4 .s, .op 5 .s, .op 6 .d, .op 7 .s]) (by kernel_rfl) ?_
  refine rx_fa rfl rfl rfl rfl rfl rfl Fa.fo_75_0 ?_
  refine rx_fa rfl rfl rfl rfl rfl rfl Fa.fo_73_0 ?_
  refine rx_ldD1 rfl rfl rfl rfl rfl rfl rfl (by (repeat first|exact .here|apply Take1.there)) Fa.ag_3 (by rfl) ?_
  iterate 2 refine rx_s rfl rfl rfl rfl rfl ?_
  refine rx_fa rfl rfl rfl rfl rfl rfl Fa.fo_153_3 ?_
  refine rx_ldD1 rfl rfl rfl rfl rfl rfl rfl (by (repeat first|exact .here|apply Take1.there)) Fa.ag_3 (by rfl) ?_
  refine rx_s rfl rfl rfl rfl rfl ?_
  refine rx_endD ?_
  try simp only [List.cons_append, List.nil_append]
  refine SW.cond rfl (fun h11 => ?_) (fun h11 => ?_)
  · skip
    have q1 : n.key.to = F.at_ := by simpa using h11
    refine SW.drawT (Hs := [SlOwn 73 3 kv (flat F.kids)]) (D0l := []) (Dl := ?DT17) (F := ?FT17) Fa.mix (tp := [0, 0, 2, 6, 14, 30, 0, 64, 192, 510, 1023, 2047, 4095, 8191]) (l := [.op 0 .s, .op 1 .s, .op 2 .s, .op 3 .s, .op 4 .s, .op 5 .d, .op 6 .s, .op 7 .d, .op 8 .f, .op 9 .e, .op 10 .s, .op 11 .s, .op 12 .s, .bar, .op 13 .e]) (by kernel_rfl) ?T17a ?T17b ?_
    case T17a => (repeat (first|exact Take.nil|refine Take.cons (by (repeat first|exact .here|apply Take1.there)) ?_))
    case T17b => (repeat (first|exact Take.nil|refine Take.cons (by (repeat first|exact .here|apply Take1.there)) ?_))
    iterate 3 refine rx_s rfl rfl rfl rfl rfl ?_
    refine rx_fa rfl rfl rfl rfl rfl rfl Fa.fo_153_9 ?_
    refine rx_fa rfl rfl rfl rfl rfl rfl Fa.fo_28_3 ?_
    refine rx_ldD1 rfl rfl rfl rfl rfl rfl rfl (by (repeat first|exact .here|apply Take1.there)) Fa.ag_26 (by rfl) ?_
    refine rx_fa rfl rfl rfl rfl rfl rfl Fa.fo_75_0 ?_
    refine rx_ldDA rfl rfl rfl rfl rfl rfl rfl (by (repeat first|exact .here|apply Take1.there)) Fa.ag_73 Fa.sz_73 (vs := [_, _, _]) (by rfl) rfl ?_
    refine rx_bslice (.inl rfl) rfl rfl rfl rfl rfl Fa.sl_26 Fa.z_73 rfl rfl rfl rfl rfl (cl := [_, _, _]) rfl ?_
    intro b20
    refine rx_app1 rfl rfl rfl rfl rfl Fa.sl_26 Fa.z_73 rfl rfl rfl rfl rfl (by (repeat first|exact .here|apply Take1.there)) (by (repeat first|exact .here|apply Take1.there)) (ys := [_, _, _]) (by rfl) rfl rfl (by rw [flat_len, show Enc.n Kid = 3 from rfl]; simp; omega) ?_
    intro p21 m21 c21 hm21
    refine rx_s rfl rfl rfl rfl rfl ?_
    refine rx_fa rfl rfl rfl rfl rfl rfl Fa.fo_153_9 ?_
    refine rx_fa rfl rfl rfl rfl rfl rfl Fa.fo_28_3 ?_
    refine rx_barAll ?_
    try simp only [List.cons_append, List.nil_append]
    refine rx_stp rfl rfl rfl rfl rfl rfl (by (repeat first|exact .here|apply Take1.there)) Fa.sz_26 (vs := [_]) rfl rfl rfl (by rfl) (cl' := [_, _, _, _, _, _, _, _, _, _, _, _, _, _, _, _, _, _, _, _]) (by rfl) ?_
    refine rx_endD ?_
    try simp only [List.cons_append, List.nil_append]
    rw [show flat F.kids ++ [.int .i64 n.key.to, .string n.key.name, .int .i64 n.key.node] = flat K by rw [hK, if_pos q1]; exact (flat_append' F.kids n.key).symm]
    refine SW.seq ?_
    refine SW.seq ?_
    refine SW.drawAll Fa.mix (tp := [0, 1, 3, 0, 8, 24, 56, 127]) (l := [.op 0 .s, .op 1 .s, .op 2 .d, .op 3 .s, .op 4 .s, .op 5 .s, .op 6 .d, .op 7 .s]) (by kernel_rfl) ?_
    refine rx_fa rfl rfl rfl rfl rfl rfl Fa.fo_75_0 ?_
    refine rx_fa rfl rfl rfl rfl rfl rfl Fa.fo_73_0 ?_
    refine rx_ldD1 rfl rfl rfl rfl rfl rfl rfl (by (repeat first|exact .here|apply Take1.there)) Fa.ag_3 (by rfl) ?_
    iterate 2 refine rx_s rfl rfl rfl rfl rfl ?_
    refine rx_fa rfl rfl rfl rfl rfl rfl Fa.fo_153_3 ?_
    refine rx_ldD1 rfl rfl rfl rfl rfl rfl rfl (by (repeat first|exact .here|apply Take1.there)) Fa.ag_3 (by rfl) ?_
    refine rx_s rfl rfl rfl rfl rfl ?_
    refine rx_endD ?_
    try simp only [List.cons_append, List.nil_append]
    refine SW.cond rfl (fun h32 => ?_) (fun h32 => ?_)
    · skip
      have q2 : n.key.to ≥ F.at_ := of_decide_eq_true h32
      refine SW.drawT (Hs := [SlOwn 56 2 sv (flat F.stack)]) (D0l := []) (Dl := ?DT18) (F := ?FT18) Fa.mix (tp := [0, 0, 2, 6, 14, 0, 32, 96, 254, 511, 1023, 2047]) (l := [.op 0 .s, .op 1 .s, .op 2 .s, .op 3 .s, .op 4 .d, .op 5 .s, .op 6 .d, .op 7 .f, .op 8 .e, .op 9 .s, .op 10 .s, .bar, .op 11 .e]) (by kernel_rfl) ?T18a ?T18b ?_
      case T18a => (repeat (first|exact Take.nil|refine Take.cons (by (repeat first|exact .here|apply Take1.there)) ?_))
      case T18b => (repeat (first|exact Take.nil|refine Take.cons (by (repeat first|exact .here|apply Take1.there)) ?_))
      iterate 3 refine rx_s rfl rfl rfl rfl rfl ?_
      refine rx_fa rfl rfl rfl rfl rfl rfl Fa.fo_153_8 ?_
      refine rx_ldD1 rfl rfl rfl rfl rfl rfl rfl (by (repeat first|exact .here|apply Take1.there)) Fa.ag_92 (by rfl) ?_
      refine rx_fa rfl rfl rfl rfl rfl rfl Fa.fo_75_2 ?_
      refine rx_ldDA rfl rfl rfl rfl rfl rfl rfl (by (repeat first|exact .here|apply Take1.there)) Fa.ag_56 Fa.sz_56 (vs := [_, _]) (by rfl) rfl ?_
      refine rx_bslice (.inl rfl) rfl rfl rfl rfl rfl Fa.sl_92 Fa.z_56 rfl rfl rfl rfl rfl (cl := [_, _]) rfl ?_
      intro b40
      refine rx_app1 rfl rfl rfl rfl rfl Fa.sl_92 Fa.z_56 rfl rfl rfl rfl rfl (by (repeat first|exact .here|apply Take1.there)) (by (repeat first|exact .here|apply Take1.there)) (ys := [_, _]) (by rfl) rfl rfl (by rw [flat_len, show Enc.n Handle = 2 from rfl]; simp; omega) ?_
      intro p41 m41 c41 hm41
      refine rx_s rfl rfl rfl rfl rfl ?_
      refine rx_fa rfl rfl rfl rfl rfl rfl Fa.fo_153_8 ?_
      refine rx_barAll ?_
      try simp only [List.cons_append, List.nil_append]
      refine rx_stp rfl rfl rfl rfl rfl rfl (by (repeat first|exact .here|apply Take1.there)) Fa.sz_92 (vs := [_]) rfl rfl rfl (by rfl) (cl' := [_, _, _, _, _, _, _, _, _, _, _, _, _, _, _, _, _, _, _, _]) (by rfl) ?_
      refine rx_endD ?_
      try simp only [List.cons_append, List.nil_append]
      rw [show flat F.stack ++ [.int .i64 n.left.slot, .int .i64 n.left.gen] = flat S1 by rw [hS1, if_pos q2]; exact (flat_append' F.stack n.left).symm]
      refine SW.seq ?_
      refine SW.seq ?_
      refine SW.drawAll Fa.mix (tp := [0, 1, 3, 0, 8, 24, 56, 127]) (l := [.op 0 .s, .op 1 .s, .op 2 .d, .op 3 .s, .op 4 .s, .op 5 .s, .op 6 .d, .op 7 .s]) (by kernel_rfl) ?_
      refine rx_fa rfl rfl rfl rfl rfl rfl Fa.fo_75_0 ?_
      refine rx_fa rfl rfl rfl rfl rfl rfl Fa.fo_73_0 ?_
      refine rx_ldD1 rfl rfl rfl rfl rfl rfl rfl (by (repeat first|exact .here|apply Take1.there)) Fa.ag_3 (by rfl) ?_
      iterate 2 refine rx_s rfl rfl rfl rfl rfl ?_
      refine rx_fa rfl rfl rfl rfl rfl rfl Fa.fo_153_3 ?_
      refine rx_ldD1 rfl rfl rfl rfl rfl rfl rfl (by (repeat first|exact .here|apply Take1.there)) Fa.ag_3 (by rfl) ?_
      refine rx_s rfl rfl rfl rfl rfl ?_
      refine rx_endD ?_
      try simp only [List.cons_append, List.nil_append]
      refine SW.cond rfl (fun h51 => ?_) (fun h51 => ?_)
      · skip
        have q3 : n.key.to ≤ F.at_ := of_decide_eq_true h51
        refine SW.drawT (Hs := [SlOwn 56 2 (.slice p41 m41 c41) (flat S1)]) (D0l := []) (Dl := ?DT19) (F := ?FT19) Fa.mix (tp := [0, 0, 2, 6, 14, 0, 32, 96, 254, 511, 1023, 2047]) (l := [.op 0 .s, .op 1 .s, .op 2 .s, .op 3 .s, .op 4 .d, .op 5 .s, .op 6 .d, .op 7 .f, .op 8 .e, .op 9 .s, .op 10 .s, .bar, .op 11 .e]) (by kernel_rfl) ?T19a ?T19b ?_
        case T19a => (repeat (first|exact Take.nil|refine Take.cons (by (repeat first|exact .here|apply Take1.there)) ?_))
        case T19b => (repeat (first|exact Take.nil|refine Take.cons (by (repeat first|exact .here|apply Take1.there)) ?_))
        iterate 3 refine rx_s rfl rfl rfl rfl rfl ?_
        refine rx_fa rfl rfl rfl rfl rfl rfl Fa.fo_153_8 ?_
        refine rx_ldD1 rfl rfl rfl rfl rfl rfl rfl (by (repeat first|exact .here|apply Take1.there)) Fa.ag_92 (by rfl) ?_
        refine rx_fa rfl rfl rfl rfl rfl rfl Fa.fo_75_3 ?_
        refine rx_ldDA rfl rfl rfl rfl rfl rfl rfl (by (repeat first|exact .here|apply Take1.there)) Fa.ag_56 Fa.sz_56 (vs := [_, _]) (by rfl) rfl ?_
        refine rx_bslice (.inl rfl) rfl rfl rfl rfl rfl Fa.sl_92 Fa.z_56 rfl rfl rfl rfl rfl (cl := [_, _]) rfl ?_
        intro b59
        refine rx_app1 rfl rfl rfl rfl rfl Fa.sl_92 Fa.z_56 rfl rfl rfl rfl rfl (by (repeat first|exact .here|apply Take1.there)) (by (repeat first|exact .here|apply Take1.there)) (ys := [_, _]) (by rfl) rfl rfl (by rw [flat_len, show Enc.n Handle = 2 from rfl]; simp; omega) ?_
        intro p60 m60 c60 hm60
        refine rx_s rfl rfl rfl rfl rfl ?_
        refine rx_fa rfl rfl rfl rfl rfl rfl Fa.fo_153_8 ?_
        refine rx_barAll ?_
        try simp only [List.cons_append, List.nil_append]
        refine rx_stp rfl rfl rfl rfl rfl rfl (by (repeat first|exact .here|apply Take1.there)) Fa.sz_92 (vs := [_]) rfl rfl rfl (by rfl) (cl' := [_, _, _, _, _, _, _, _, _, _, _, _, _, _, _, _, _, _, _, _]) (by rfl) ?_
        refine rx_endD ?_
        try simp only [List.cons_append, List.nil_append]
        rw [show flat S1 ++ [.int .i64 n.right.slot, .int .i64 n.right.gen] = flat S2 by rw [hS2, if_pos q3]; exact (flat_append' S1 n.right).symm]
        refine SW.fold (Hl' := [FiP f { F with kids := K, stack := S2 }]) (foldF (F := { F with kids := K, stack := S2 }) (.one (by (repeat first|exact .here|apply Take1.there)) (.one (by (repeat first|exact .here|apply Take1.there)) (.one (by (repeat first|exact .here|apply Take1.there)) (.one (by (repeat first|exact .here|apply Take1.there)) .nil))))) ?_
        refine SW.reg (l := [.op 0 .e, .op 1 .e]) rfl ?_
        refine rx_s rfl rfl rfl rfl rfl ?_
        refine rx_callH (F := ?FT20) rfl rfl rfl rfl rfl rfl rfl rfl Fa.ca_128 rfl (rest f { F with kids := K, stack := S2 } ⟨by show S2.length ≤ 100000; omega, hKl⟩) ?T20 ?_
        case T20 => (repeat (first|exact Take.nil|refine Take.cons (by (repeat first|exact .here|apply Take1.there)) ?_))
        rintro _ _ ⟨rfl, rfl⟩
        try simp only [List.cons_append, List.nil_append]
        refine rx_endL ?_
        exact retK0e (l := [_]) .nil ⟨rfl, rfl⟩ (.one (by (repeat first|exact .here|apply Take1.there)) .nil)
      · skip
        have q3 : ¬ (n.key.to ≤ F.at_) := of_decide_eq_false h51
        rw [show S1 = S2 by rw [hS2, if_neg q3, List.append_nil]]
        refine SW.skip ?_
        try simp only [thenK, blockK, cond_true, cond_false, beq_self_eq_true, Nat.reduceBEq]
        refine SW.fold (Hl' := [FiP f { F with kids := K, stack := S2 }]) (foldF (F := { F with kids := K, stack := S2 }) (.one (by (repeat first|exact .here|apply Take1.there)) (.one (by (repeat first|exact .here|apply Take1.there)) (.one (by (repeat first|exact .here|apply Take1.there)) (.one (by (repeat first|exact .here|apply Take1.there)) .nil))))) ?_
        refine SW.reg (l := [.op 0 .e, .op 1 .e]) rfl ?_
        refine rx_s rfl rfl rfl rfl rfl ?_
        refine rx_callH (F := ?FT21) rfl rfl rfl rfl rfl rfl rfl rfl Fa.ca_128 rfl (rest f { F with kids := K, stack := S2 } ⟨by show S2.length ≤ 100000; omega, hKl⟩) ?T21 ?_
        case T21 => (repeat (first|exact Take.nil|refine Take.cons (by (repeat first|exact .here|apply Take1.there)) ?_))
        rintro _ _ ⟨rfl, rfl⟩
        try simp only [List.cons_append, List.nil_append]
        refine rx_endL ?_
        exact retK0e (l := [_]) .nil ⟨rfl, rfl⟩ (.one (by (repeat first|exact .here|apply Take1.there)) .nil)
    · skip
      have q2 : ¬ (n.key.to ≥ F.at_) := of_decide_eq_false h32
      rw [show F.stack = S1 by rw [hS1, if_neg q2, List.append_nil]]
      refine SW.skip ?_
      try simp only [thenK, blockK, cond_true, cond_false, beq_self_eq_true, Nat.reduceBEq]
      refine SW.seq ?_
      refine SW.seq ?_
      refine SW.drawAll Fa.mix (tp := [0, 1, 3, 0, 8, 24, 56, 127]) (l := [.op 0 .s, .op 1 .s, .op 2 .d, .op 3 .s, .op 4 .s, .op 5 .s, .op 6 .d, .op 7 .s]) (by kernel_rfl) ?_
      refine rx_fa rfl rfl rfl rfl rfl rfl Fa.fo_75_0 ?_
      refine rx_fa rfl rfl rfl rfl rfl rfl Fa.fo_73_0 ?_
      refine rx_ldD1 rfl rfl rfl rfl rfl rfl rfl (by (repeat first|exact .here|apply Take1.there)) Fa.ag_3 (by rfl) ?_
      iterate 2 refine rx_s rfl rfl rfl rfl rfl ?_
      refine rx_fa rfl rfl rfl rfl rfl rfl Fa.fo_153_3 ?_
      refine rx_ldD1 rfl rfl rfl rfl rfl rfl rfl (by (repeat first|exact .here|apply Take1.there)) Fa.ag_3 (by rfl) ?_
      refine rx_s rfl rfl rfl rfl rfl ?_
      refine rx_endD ?_
      try simp only [List.cons_append, List.nil_append]
      refine SW.cond rfl (fun h51 => ?_) (fun h51 => ?_)
      · skip
        have q3 : n.key.to ≤ F.at_ := of_decide_eq_true h51
        refine SW.drawT (Hs := [SlOwn 56 2 sv (flat S1)]) (D0l := []) (Dl := ?DT22) (F := ?FT22) Fa.mix (tp := [0, 0, 2, 6, 14, 0, 32, 96, 254, 511, 1023, 2047]) (l := [.op 0 .s, .op 1 .s, .op 2 .s, .op 3 .s, .op 4 .d, .op 5 .s, .op 6 .d, .op 7 .f, .op 8 .e, .op 9 .s, .op 10 .s, .bar, .op 11 .e]) (by kernel_rfl) ?T22a ?T22b ?_
        case T22a => (repeat (first|exact Take.nil|refine Take.cons (by (repeat first|exact .here|apply Take1.there)) ?_))
        case T22b => (repeat (first|exact Take.nil|refine Take.cons (by (repeat first|exact .here|apply Take1.there)) ?_))
        iterate 3 refine rx_s rfl rfl rfl rfl rfl ?_
        refine rx_fa rfl rfl rfl rfl rfl rfl Fa.fo_153_8 ?_
        refine rx_ldD1 rfl rfl rfl rfl rfl rfl rfl (by (repeat first|exact .here|apply Take1.there)) Fa.ag_92 (by rfl) ?_
        refine rx_fa rfl rfl rfl rfl rfl rfl Fa.fo_75_3 ?_
        refine rx_ldDA rfl rfl rfl rfl rfl rfl rfl (by (repeat first|exact .here|apply Take1.there)) Fa.ag_56 Fa.sz_56 (vs := [_, _]) (by rfl) rfl ?_
        refine rx_bslice (.inl rfl) rfl rfl rfl rfl rfl Fa.sl_92 Fa.z_56 rfl rfl rfl rfl rfl (cl := [_, _]) rfl ?_
        intro b59
        refine rx_app1 rfl rfl rfl rfl rfl Fa.sl_92 Fa.z_56 rfl rfl rfl rfl rfl (by (repeat first|exact .here|apply Take1.there)) (by (repeat first|exact .here|apply Take1.there)) (ys := [_, _]) (by rfl) rfl rfl (by rw [flat_len, show Enc.n Handle = 2 from rfl]; simp; omega) ?_
        intro p60 m60 c60 hm60
        refine rx_s rfl rfl rfl rfl rfl ?_
        refine rx_fa rfl rfl rfl rfl rfl rfl Fa.fo_153_8 ?_
        refine rx_barAll ?_
        try simp only [List.cons_append, List.nil_append]
        refine rx_stp rfl rfl rfl rfl rfl rfl (by (repeat first|exact .here|apply Take1.there)) Fa.sz_92 (vs := [_]) rfl rfl rfl (by rfl) (cl' := [_, _, _, _, _, _, _, _, _, _, _, _, _, _, _, _, _, _, _, _]) (by rfl) ?_
        refine rx_endD ?_
        try simp only [List.cons_append, List.nil_append]
        rw [show flat S1 ++ [.int .i64 n.right.slot, .int .i64 n.right.gen] = flat S2 by rw [hS2, if_pos q3]; exact (flat_append' S1 n.right).symm]
        refine SW.fold (Hl' := [FiP f { F with kids := K, stack := S2 }]) (foldF (F := { F with kids := K, stack := S2 }) (.one (by (repeat first|exact .here|apply Take1.there)) (.one (by (repeat first|exact .here|apply Take1.there)) (.one (by (repeat first|exact .here|apply Take1.there)) (.one (by (repeat first|exact .here|apply Take1.there)) .nil))))) ?_
        refine SW.reg (l := [.op 0 .e, .op 1 .e]) rfl ?_
        refine rx_s rfl rfl rfl rfl rfl ?_
        refine rx_callH (F := ?FT23) rfl rfl rfl rfl rfl rfl rfl rfl Fa.ca_128 rfl (rest f { F with kids := K, stack := S2 } ⟨by show S2.length ≤ 100000; omega, hKl⟩) ?T23 ?_
        case T23 => (repeat (first|exact Take.nil|refine Take.cons (by (repeat first|exact .here|apply Take1.there)) ?_))
        rintro _ _ ⟨rfl, rfl⟩
        try simp only [List.cons_append, List.nil_append]
        refine rx_endL ?_
        exact retK0e (l := [_]) .nil ⟨rfl, rfl⟩ (.one (by (repeat first|exact .here|apply Take1.there)) .nil)
      · skip
        have q3 : ¬ (n.key.to ≤ F.at_) := of_decide_eq_false h51
        rw [show S1 = S2 by rw [hS2, if_neg q3, List.append_nil]]
        refine SW.skip ?_
        try simp only [thenK, blockK, cond_true, cond_false, beq_self_eq_true, Nat.reduceBEq]
        refine SW.fold (Hl' := [FiP f { F with kids := K, stack := S2 }]) (foldF (F := { F with kids := K, stack := S2 }) (.one (by (repeat first|exact .here|apply Take1.there)) (.one (by (repeat first|exact .here|apply Take1.there)) (.one (by (repeat first|exact .here|apply Take1.there)) (.one (by (repeat first|exact .here|apply Take1.there)) .nil))))) ?_
        refine SW.reg (l := [.op 0 .e, .op 1 .e]) rfl ?_
        refine rx_s rfl rfl rfl rfl rfl ?_
        refine rx_callH (F := ?FT24) rfl rfl rfl rfl rfl rfl rfl rfl Fa.ca_128 rfl (rest f { F with kids := K, stack := S2 } ⟨by show S2.length ≤ 100000; omega, hKl⟩) ?T24 ?_
        case T24 => (repeat (first|exact Take.nil|refine Take.cons (by (repeat first|exact .here|apply Take1.there)) ?_))
        rintro _ _ ⟨rfl, rfl⟩
        try simp only [List.cons_append, List.nil_append]
        refine rx_endL ?_
        exact retK0e (l := [_]) .nil ⟨rfl, rfl⟩ (.one (by (repeat first|exact .here|apply Take1.there)) .nil)
  · skip
    have q1 : ¬ (n.key.to = F.at_) := by simpa using h11
    rw [show F.kids = K by rw [hK, if_neg q1]]
    refine SW.skip ?_
    try simp only [thenK, blockK, cond_true, cond_false, beq_self_eq_true, Nat.reduceBEq]
    refine SW.seq ?_
    refine SW.seq ?_
    refine SW.drawAll Fa.mix (tp := [0, 1, 3, 0, 8, 24, 56, 127]) (l := [.op 0 .s, .op 1 .s, .op 2 .d, .op 3 .s, .op 4 .s, .op 5 .s, .op 6 .d, .op 7 .s]) (by kernel_rfl) ?_
    refine rx_fa rfl rfl rfl rfl rfl rfl Fa.fo_75_0 ?_
    refine rx_fa rfl rfl rfl rfl rfl rfl Fa.fo_73_0 ?_
    refine rx_ldD1 rfl rfl rfl rfl rfl rfl rfl (by (repeat first|exact .here|apply Take1.there)) Fa.ag_3 (by rfl) ?_
    iterate 2 refine rx_s rfl rfl rfl rfl rfl ?_
    refine rx_fa rfl rfl rfl rfl rfl rfl Fa.fo_153_3 ?_
    refine rx_ldD1 rfl rfl rfl rfl rfl rfl rfl (by (repeat first|exact .here|apply Take1.there)) Fa.ag_3 (by rfl) ?_
    refine rx_s rfl rfl rfl rfl rfl ?_
    refine rx_endD ?_
    try simp only [List.cons_append, List.nil_append]
    refine SW.cond rfl (fun h32 => ?_) (fun h32 => ?_)
    · skip
      have q2 : n.key.to ≥ F.at_ := of_decide_eq_true h32
      refine SW.drawT (Hs := [SlOwn 56 2 sv (flat F.stack)]) (D0l := []) (Dl := ?DT25) (F := ?FT25) Fa.mix (tp := [0, 0, 2, 6, 14, 0, 32, 96, 254, 511, 1023, 2047]) (l := [.op 0 .s, .op 1 .s, .op 2 .s, .op 3 .s, .op 4 .d, .op 5 .s, .op 6 .d, .op 7 .f, .op 8 .e, .op 9 .s, .op 10 .s, .bar, .op 11 .e]) (by kernel_rfl) ?T25a ?T25b ?_
      case T25a => (repeat (first|exact Take.nil|refine Take.cons (by (repeat first|exact .here|apply Take1.there)) ?_))
      case T25b => (repeat (first|exact Take.nil|refine Take.cons (by (repeat first|exact .here|apply Take1.there)) ?_))
      iterate 3 refine rx_s rfl rfl rfl rfl rfl ?_
      refine rx_fa rfl rfl rfl rfl rfl rfl Fa.fo_153_8 ?_
      refine rx_ldD1 rfl rfl rfl rfl rfl rfl rfl (by (repeat first|exact .here|apply Take1.there)) Fa.ag_92 (by rfl) ?_
      refine rx_fa rfl rfl rfl rfl rfl rfl Fa.fo_75_2 ?_
      refine rx_ldDA rfl rfl rfl rfl rfl rfl rfl (by (repeat first|exact .here|apply Take1.there)) Fa.ag_56 Fa.sz_56 (vs := [_, _]) (by rfl) rfl ?_
      refine rx_bslice (.inl rfl) rfl rfl rfl rfl rfl Fa.sl_92 Fa.z_56 rfl rfl rfl rfl rfl (cl := [_, _]) rfl ?_
      intro b40
      refine rx_app1 rfl rfl rfl rfl rfl Fa.sl_92 Fa.z_56 rfl rfl rfl rfl rfl (by (repeat first|exact .here|apply Take1.there)) (by (repeat first|exact .here|apply Take1.there)) (ys := [_, _]) (by rfl) rfl rfl (by rw [flat_len, show Enc.n Handle = 2 from rfl]; simp; omega) ?_
      intro p41 m41 c41 hm41
      refine rx_s rfl rfl rfl rfl rfl ?_
      refine rx_fa rfl rfl rfl rfl rfl rfl Fa.fo_153_8 ?_
      refine rx_barAll ?_
      try simp only [List.cons_append, List.nil_append]
      refine rx_stp rfl rfl rfl rfl rfl rfl (by (repeat first|exact .here|apply Take1.there)) Fa.sz_92 (vs := [_]) rfl rfl rfl (by rfl) (cl' := [_, _, _, _, _, _, _, _, _, _, _, _, _, _, _, _, _, _, _, _]) (by rfl) ?_
      refine rx_endD ?_
      try simp only [List.cons_append, List.nil_append]
      rw [show flat F.stack ++ [.int .i64 n.left.slot, .int .i64 n.left.gen] = flat S1 by rw [hS1, if_pos q2]; exact (flat_append' F.stack n.left).symm]
      refine SW.seq ?_
      refine SW.seq ?_
      refine SW.drawAll Fa.mix (tp := [0, 1, 3, 0, 8, 24, 56, 127]) (l := [.op 0 .s, .op 1 .s, .op 2 .d, .op 3 .s, .op 4 .s, .op 5 .s, .op 6 .d, .op 7 .s]) (by kernel_rfl) ?_
      refine rx_fa rfl rfl rfl rfl rfl rfl Fa.fo_75_0 ?_
      refine rx_fa rfl rfl rfl rfl rfl rfl Fa.fo_73_0 ?_
      refine rx_ldD1 rfl rfl rfl rfl rfl rfl rfl (by (repeat first|exact .here|apply Take1.there)) Fa.ag_3 (by rfl) ?_
      iterate 2 refine rx_s rfl rfl rfl rfl rfl ?_
      refine rx_fa rfl rfl rfl rfl rfl rfl Fa.fo_153_3 ?_
      refine rx_ldD1 rfl rfl rfl rfl rfl rfl rfl (by (repeat first|exact .here|apply Take1.there)) Fa.ag_3 (by rfl) ?_
      refine rx_s rfl rfl rfl rfl rfl ?_
      refine rx_endD ?_
      try simp only [List.cons_append, List.nil_append]
      refine SW.cond rfl (fun h51 => ?_) (fun h51 => ?_)
      · skip
        have q3 : n.key.to ≤ F.at_ := of_decide_eq_true h51
        refine SW.drawT (Hs := [SlOwn 56 2 (.slice p41 m41 c41) (flat S1)]) (D0l := []) (Dl := ?DT26) (F := ?FT26) Fa.mix (tp := [0, 0, 2, 6, 14, 0, 32, 96, 254, 511, 1023, 2047]) (l := [.op 0 .s, .op 1 .s, .op 2 .s, .op 3 .s, .op 4 .d, .op 5 .s, .op 6 .d, .op 7 .f, .op 8 .e, .op 9 .s, .op 10 .s, .bar, .op 11 .e]) (by kernel_rfl) ?T26a ?T26b ?_
        case T26a => (repeat (first|exact Take.nil|refine Take.cons (by (repeat first|exact .here|apply Take1.there)) ?_))
        case T26b => (repeat (first|exact Take.nil|refine Take.cons (by (repeat first|exact .here|apply Take1.there)) ?_))
        iterate 3 refine rx_s rfl rfl rfl rfl rfl ?_
        refine rx_fa rfl rfl rfl rfl rfl rfl Fa.fo_153_8 ?_
        refine rx_ldD1 rfl rfl rfl rfl rfl rfl rfl (by (repeat first|exact .here|apply Take1.there)) Fa.ag_92 (by rfl) ?_
        refine rx_fa rfl rfl rfl rfl rfl rfl Fa.fo_75_3 ?_
        refine rx_ldDA rfl rfl rfl rfl rfl rfl rfl (by (repeat first|exact .here|apply Take1.there)) Fa.ag_56 Fa.sz_56 (vs := [_, _]) (by rfl) rfl ?_
        refine rx_bslice (.inl rfl) rfl rfl rfl rfl rfl Fa.sl_92 Fa.z_56 rfl rfl rfl rfl rfl (cl := [_, _]) rfl ?_
        intro b59
        refine rx_app1 rfl rfl rfl rfl rfl Fa.sl_92 Fa.z_56 rfl rfl rfl rfl rfl (by (repeat first|exact .here|apply Take1.there)) (by (repeat first|exact .here|apply Take1.there)) (ys := [_, _]) (by rfl) rfl rfl (by rw [flat_len, show Enc.n Handle = 2 from rfl]; simp; omega) ?_
        intro p60 m60 c60 hm60
        refine rx_s rfl rfl rfl rfl rfl ?_
        refine rx_fa rfl rfl rfl rfl rfl rfl Fa.fo_153_8 ?_
        refine rx_barAll ?_
        try simp only [List.cons_append, List.nil_append]
        refine rx_stp rfl rfl rfl rfl rfl rfl (by (repeat first|exact .here|apply Take1.there)) Fa.sz_92 (vs := [_]) rfl rfl rfl (by rfl) (cl' := [_, _, _, _, _, _, _, _, _, _, _, _, _, _, _, _, _, _, _, _]) (by rfl) ?_
        refine rx_endD ?_
        try simp only [List.cons_append, List.nil_append]
        rw [show flat S1 ++ [.int .i64 n.right.slot, .int .i64 n.right.gen] = flat S2 by rw [hS2, if_pos q3]; exact (flat_append' S1 n.right).symm]
        refine SW.fold (Hl' := [FiP f { F with kids := K, stack := S2 }]) (foldF (F := { F with kids := K, stack := S2 }) (.one (by (repeat first|exact .here|apply Take1.there)) (.one (by (repeat first|exact .here|apply Take1.there)) (.one (by (repeat first|exact .here|apply Take1.there)) (.one (by (repeat first|exact .here|apply Take1.there)) .nil))))) ?_
        refine SW.reg (l := [.op 0 .e, .op 1 .e]) rfl ?_
        refine rx_s rfl rfl rfl rfl rfl ?_
        refine rx_callH (F := ?FT27) rfl rfl rfl rfl rfl rfl rfl rfl Fa.ca_128 rfl (rest f { F with kids := K, stack := S2 } ⟨by show S2.length ≤ 100000; omega, hKl⟩) ?T27 ?_
        case T27 => (repeat (first|exact Take.nil|refine Take.cons (by (repeat first|exact .here|apply Take1.there)) ?_))
        rintro _ _ ⟨rfl, rfl⟩
        try simp only [List.cons_append, List.nil_append]
        refine rx_endL ?_
        exact retK0e (l := [_]) .nil ⟨rfl, rfl⟩ (.one (by (repeat first|exact .here|apply Take1.there)) .nil)
      · skip
        have q3 : ¬ (n.key.to ≤ F.at_) := of_decide_eq_false h51
        rw [show S1 = S2 by rw [hS2, if_neg q3, List.append_nil]]
        refine SW.skip ?_
        try simp only [thenK, blockK, cond_true, cond_false, beq_self_eq_true, Nat.reduceBEq]
        refine SW.fold (Hl' := [FiP f { F with kids := K, stack := S2 }]) (foldF (F := { F with kids := K, stack := S2 }) (.one (by (repeat first|exact .here|apply Take1.there)) (.one (by (repeat first|exact .here|apply Take1.there)) (.one (by (repeat first|exact .here|apply Take1.there)) (.one (by (repeat first|exact .here|apply Take1.there)) .nil))))) ?_
        refine SW.reg (l := [.op 0 .e, .op 1 .e]) rfl ?_
        refine rx_s rfl rfl rfl rfl rfl ?_
        refine rx_callH (F := ?FT28) rfl rfl rfl rfl rfl rfl rfl rfl Fa.ca_128 rfl (rest f { F with kids := K, stack := S2 } ⟨by show S2.length ≤ 100000; omega, hKl⟩) ?T28 ?_
        case T28 => (repeat (first|exact Take.nil|refine Take.cons (by (repeat first|exact .here|apply Take1.there)) ?_))
        rintro _ _ ⟨rfl, rfl⟩
        try simp only [List.cons_append, List.nil_append]
        refine rx_endL ?_
        exact retK0e (l := [_]) .nil ⟨rfl, rfl⟩ (.one (by (repeat first|exact .here|apply Take1.there)) .nil)
    · skip
      have q2 : ¬ (n.key.to ≥ F.at_) := of_decide_eq_false h32
      rw [show F.stack = S1 by rw [hS1, if_neg q2, List.append_nil]]
      refine SW.skip ?_
      try simp only [thenK, blockK, cond_true, cond_false, beq_self_eq_true, Nat.reduceBEq]
      refine SW.seq ?_
      refine SW.seq ?_
      refine SW.drawAll Fa.mix (tp := [0, 1, 3, 0, 8, 24, 56, 127]) (l := [.op 0 .s, .op 1 .s, .op 2 .d, .op 3 .s, .op 4 .s, .op 5 .s, .op 6 .d, .op 7 .s]) (by kernel_rfl) ?_
      refine rx_fa rfl rfl rfl rfl rfl rfl Fa.fo_75_0 ?_
      refine rx_fa rfl rfl rfl rfl rfl rfl Fa.fo_73_0 ?_
      refine rx_ldD1 rfl rfl rfl rfl rfl rfl rfl (by (repeat first|exact .here|apply Take1.there)) Fa.ag_3 (by rfl) ?_
      iterate 2 refine rx_s rfl rfl rfl rfl rfl ?_
      refine rx_fa rfl rfl rfl rfl rfl rfl Fa.fo_153_3 ?_
      refine rx_ldD1 rfl rfl rfl rfl rfl rfl rfl (by (repeat first|exact .here|apply Take1.there)) Fa.ag_3 (by rfl) ?_
      refine rx_s rfl rfl rfl rfl rfl ?_
      refine rx_endD ?_
      try simp only [List.cons_append, List.nil_append]
      refine SW.cond rfl (fun h51 => ?_) (fun h51 => ?_)
      · skip
        have q3 : n.key.to ≤ F.at_ := of_decide_eq_true h51
        refine SW.drawT (Hs := [SlOwn 56 2 sv (flat S1)]) (D0l := []) (Dl := ?DT29) (F := ?FT29) Fa.mix (tp := [0, 0, 2, 6, 14, 0, 32, 96, 254, 511, 1023, 2047]) (l := [.op 0 .s, .op 1 .s, .op 2 .s, .op 3 .s, .op 4 .d, .op 5 .s, .op 6 .d, .op 7 .f, .op 8 .e, .op 9 .s, .op 10 .s, .bar, .op 11 .e]) (by kernel_rfl) ?T29a ?T29b ?_
        case T29a => (repeat (first|exact Take.nil|refine Take.cons (by (repeat first|exact .here|apply Take1.there)) ?_))
        case T29b => (repeat (first|exact Take.nil|refine Take.cons (by (repeat first|exact .here|apply Take1.there)) ?_))
        iterate 3 refine rx_s rfl rfl rfl rfl rfl ?_
        refine rx_fa rfl rfl rfl rfl rfl rfl Fa.fo_153_8 ?_
        refine rx_ldD1 rfl rfl rfl rfl rfl rfl rfl (by (repeat first|exact .here|apply Take1.there)) Fa.ag_92 (by rfl) ?_
        refine rx_fa rfl rfl rfl rfl rfl rfl Fa.fo_75_3 ?_
        refine rx_ldDA rfl rfl rfl rfl rfl rfl rfl (by (repeat first|exact .here|apply Take1.there)) Fa.ag_56 Fa.sz_56 (vs := [_, _]) (by rfl) rfl ?_
        refine rx_bslice (.inl rfl) rfl rfl rfl rfl rfl Fa.sl_92 Fa.z_56 rfl rfl rfl rfl rfl (cl := [_, _]) rfl ?_
        intro b59
        refine rx_app1 rfl rfl rfl rfl rfl Fa.sl_92 Fa.z_56 rfl rfl rfl rfl rfl (by (repeat first|exact .here|apply Take1.there)) (by (repeat first|exact .here|apply Take1.there)) (ys := [_, _]) (by rfl) rfl rfl (by rw [flat_len, show Enc.n Handle = 2 from rfl]; simp; omega) ?_
        intro p60 m60 c60 hm60
        refine rx_s rfl rfl rfl rfl rfl ?_
        refine rx_fa rfl rfl rfl rfl rfl rfl Fa.fo_153_8 ?_
        refine rx_barAll ?_
        try simp only [List.cons_append, List.nil_append]
        refine rx_stp rfl rfl rfl rfl rfl rfl (by (repeat first|exact .here|apply Take1.there)) Fa.sz_92 (vs := [_]) rfl rfl rfl (by rfl) (cl' := [_, _, _, _, _, _, _, _, _, _, _, _, _, _, _, _, _, _, _, _]) (by rfl) ?_
        refine rx_endD ?_
        try simp only [List.cons_append, List.nil_append]
        rw [show flat S1 ++ [.int .i64 n.right.slot, .int .i64 n.right.gen] = flat S2 by rw [hS2, if_pos q3]; exact (flat_append' S1 n.right).symm]
        refine SW.fold (Hl' := [FiP f { F with kids := K, stack := S2 }]) (foldF (F := { F with kids := K, stack := S2 }) (.one (by (repeat first|exact .here|apply Take1.there)) (.one (by (repeat first|exact .here|apply Take1.there)) (.one (by (repeat first|exact .here|apply Take1.there)) (.one (by (repeat first|exact .here|apply Take1.there)) .nil))))) ?_
        refine SW.reg (l := [.op 0 .e, .op 1 .e]) rfl ?_
        refine rx_s rfl rfl rfl rfl rfl ?_
        refine rx_callH (F := ?FT30) rfl rfl rfl rfl rfl rfl rfl rfl Fa.ca_128 rfl (rest f { F with kids := K, stack := S2 } ⟨by show S2.length ≤ 100000; omega, hKl⟩) ?T30 ?_
        case T30 => (repeat (first|exact Take.nil|refine Take.cons (by (repeat first|exact .here|apply Take1.there)) ?_))
        rintro _ _ ⟨rfl, rfl⟩
        try simp only [List.cons_append, List.nil_append]
        refine rx_endL ?_
        exact retK0e (l := [_]) .nil ⟨rfl, rfl⟩ (.one (by (repeat first|exact .here|apply Take1.there)) .nil)
      · skip
        have q3 : ¬ (n.key.to ≤ F.at_) := of_decide_eq_false h51
        rw [show S1 = S2 by rw [hS2, if_neg q3, List.append_nil]]
        refine SW.skip ?_
        try simp only [thenK, blockK, cond_true, cond_false, beq_self_eq_true, Nat.reduceBEq]
        refine SW.fold (Hl' := [FiP f { F with kids := K, stack := S2 }]) (foldF (F := { F with kids := K, stack := S2 }) (.one (by (repeat first|exact .here|apply Take1.there)) (.one (by (repeat first|exact .here|apply Take1.there)) (.one (by (repeat first|exact .here|apply Take1.there)) (.one (by (repeat first|exact .here|apply Take1.there)) .nil))))) ?_
        refine SW.reg (l := [.op 0 .e, .op 1 .e]) rfl ?_
        refine rx_s rfl rfl rfl rfl rfl ?_
        refine rx_callH (F := ?FT31) rfl rfl rfl rfl rfl rfl rfl rfl Fa.ca_128 rfl (rest f { F with kids := K, stack := S2 } ⟨by show S2.length ≤ 100000; omega, hKl⟩) ?T31 ?_
        case T31 => (repeat (first|exact Take.nil|refine Take.cons (by (repeat first|exact .here|apply Take1.there)) ?_))
        rintro _ _ ⟨rfl, rfl⟩
        try simp only [List.cons_append, List.nil_append]
        refine rx_endL ?_
        exact retK0e (l := [_]) .nil ⟨rfl, rfl⟩ (.one (by (repeat first|exact .here|apply Take1.there)) .nil)
/-- 'Give', where none is wanted. -/
theorem giveIdle (f : Nat) (F : Holt.Fi) (n : KNode) (ok : Bool) (hn : F.next = none) : Sl.Spec Tryz.prog 41 #[.pointer (some ⟨f, 0, none⟩), .agg (enc n).toArray, .bool ok] [FiP f F]
    (fun v l => v = .tuple #[] ∧ l = [FiP f F]) := by
  refine Spec.enter Tryz.func41 rfl rfl rfl ?_
  refine SW.exH 0 rfl ?_; rintro ⟨nv, sv, kv⟩; simp only [List.cons_append, List.nil_append]
  refine SW.seq ?_
  refine SW.reg (l := [.op 0 .e]) rfl ?_
  refine rx_box (.inr rfl) rfl rfl rfl rfl rfl rfl (cl := [_, _, _, _, _, _, _, _, _]) rfl ?_
  intro b4
  refine rx_end0 ?_
  refine SW.seq ?_
  refine SW.seq ?_
  refine SW.reg (l := [.op 0 .e, .op 1 .e, .op 2 .e, .op 3 .e, .op 4 .e]) rfl ?_
  iterate 2 refine rx_s rfl rfl rfl rfl rfl ?_
  refine rx_fa rfl rfl rfl rfl rfl rfl Fa.fo_153_5 ?_
  refine rx_ldH1 rfl rfl rfl rfl rfl rfl (by (repeat first|exact .here|apply Take1.there)) Fa.ag_151 (by rfl) ?_
  refine rx_nilG rfl rfl rfl rfl rfl Fa.ft_151 rfl (isNil_fnV f F.next) (.inl ⟨rfl, rfl⟩) ?_
  refine rx_end0 ?_
  refine SW.cond rfl (fun h10 => ?_) (fun h10 => ?_)
  · skip
    refine SW.ret ?_
    exact retK0 (l := [_]) .nil ⟨rfl, rfl⟩ (foldF (.one (by (repeat first|exact .here|apply Take1.there)) (.one (by (repeat first|exact .here|apply Take1.there)) (.one (by (repeat first|exact .here|apply Take1.there)) (.one (by (repeat first|exact .here|apply Take1.there)) .nil)))))
  · (rw [hn] at h10; cases h10)
/-- 'Give', where none is there. -/
theorem giveNone (f : Nat) (F : Holt.Fi) (n : KNode) (g : Nat) (hn : F.next = some g) (hl : 0 ≤ F.loads ∧ F.loads ≤ 1000000) : Sl.Spec Tryz.prog 41 #[.pointer (some ⟨f, 0, none⟩), .agg (enc n).toArray, .bool false] [FiP f F]
    (fun v l => v = .tuple #[] ∧ l = [FiP f (({ F with loads := F.loads + 1 } : Holt.Fi).end_ 11)]) := by
  refine Spec.enter Tryz.func41 rfl rfl rfl ?_
  refine SW.exH 0 rfl ?_; rintro ⟨nv, sv, kv⟩; simp only [List.cons_append, List.nil_append]
  refine SW.seq ?_
  refine SW.reg (l := [.op 0 .e]) rfl ?_
  refine rx_box (.inr rfl) rfl rfl rfl rfl rfl rfl (cl := [_, _, _, _, _, _, _, _, _]) rfl ?_
  intro b4
  refine rx_end0 ?_
  refine SW.seq ?_
  refine SW.seq ?_
  refine SW.reg (l := [.op 0 .e, .op 1 .e, .op 2 .e, .op 3 .e, .op 4 .e]) rfl ?_
  iterate 2 refine rx_s rfl rfl rfl rfl rfl ?_
  refine rx_fa rfl rfl rfl rfl rfl rfl Fa.fo_153_5 ?_
  refine rx_ldH1 rfl rfl rfl rfl rfl rfl (by (repeat first|exact .here|apply Take1.there)) Fa.ag_151 (by rfl) ?_
  refine rx_nilG rfl rfl rfl rfl rfl Fa.ft_151 rfl (isNil_fnV f F.next) (.inl ⟨rfl, rfl⟩) ?_
  refine rx_end0 ?_
  refine SW.cond rfl (fun h10 => ?_) (fun h10 => ?_)
  · (rw [hn] at h10; cases h10)
  · skip
    refine SW.skip ?_
    try simp only [thenK, blockK, cond_true, cond_false, beq_self_eq_true, Nat.reduceBEq]
    refine SW.seq ?_
    refine SW.reg (l := [.op 0 .e, .op 1 .e, .op 2 .e, .op 3 .e, .op 4 .e, .op 5 .e, .op 6 .e, .op 7 .e]) rfl ?_
    iterate 2 refine rx_s rfl rfl rfl rfl rfl ?_
    refine rx_fa rfl rfl rfl rfl rfl rfl Fa.fo_153_10 ?_
    refine rx_ldH1 rfl rfl rfl rfl rfl rfl (by (repeat first|exact .here|apply Take1.there)) Fa.ag_3 (by rfl) ?_
    refine rx_ar rfl rfl rfl rfl rfl (by omega) ?_
    refine rx_s rfl rfl rfl rfl rfl ?_
    refine rx_fa rfl rfl rfl rfl rfl rfl Fa.fo_153_10 ?_
    refine rx_stp rfl rfl rfl rfl rfl rfl (by (repeat first|exact .here|apply Take1.there)) Fa.sz_3 (vs := [_]) rfl rfl rfl (by rfl) (cl' := [_, _, _, _, _, _, _, _, _, _, _, _, _, _, _, _, _, _, _, _]) (by rfl) ?_
    refine rx_end0 ?_
    refine SW.seq ?_
    refine SW.seq ?_
    refine SW.reg (l := [.op 0 .e, .op 1 .e]) rfl ?_
    iterate 2 refine rx_s rfl rfl rfl rfl rfl ?_
    refine rx_end0 ?_
    refine SW.cond (b := true) rfl (fun _ => ?_) (fun h => nomatch h)
    refine SW.seq ?_
    refine SW.fold (Hl' := [FiP f { F with loads := F.loads + 1 }]) (foldF (F := { F with loads := F.loads + 1 }) (.one (by (repeat first|exact .here|apply Take1.there)) (.one (by (repeat first|exact .here|apply Take1.there)) (.one (by (repeat first|exact .here|apply Take1.there)) (.one (by (repeat first|exact .here|apply Take1.there)) .nil))))) ?_
    refine SW.reg (l := [.op 0 .e, .op 1 .e]) rfl ?_
    refine rx_s rfl rfl rfl rfl rfl ?_
    refine rx_callH (F := ?FT32) rfl rfl rfl rfl rfl rfl rfl rfl Fa.ca_74 rfl (end_ f { F with loads := F.loads + 1 } 11) ?T32 ?_
    case T32 => (repeat (first|exact Take.nil|refine Take.cons (by (repeat first|exact .here|apply Take1.there)) ?_))
    rintro _ _ ⟨rfl, rfl⟩
    try simp only [List.cons_append, List.nil_append]
    refine rx_end0 ?_
    refine SW.ret ?_
    exact retK0 (l := [_]) .nil ⟨rfl, rfl⟩ (.one (by (repeat first|exact .here|apply Take1.there)) .nil)
/-- 'Give', where one is. -/
theorem giveG (f : Nat) (F R : Holt.Fi) (n : KNode) (g : Nat) (hn : F.next = some g) (hl : 0 ≤ F.loads ∧ F.loads ≤ 1000000) (hc : callable Tryz.prog g = true)
    (hr : Sl.Spec Tryz.prog g #[.pointer (some ⟨f, 0, none⟩), .agg (enc n).toArray] [FiP f { F with loads := F.loads + 1 }] (fun v l => v = .tuple #[] ∧ l = [FiP f R])) :
    Sl.Spec Tryz.prog 41 #[.pointer (some ⟨f, 0, none⟩), .agg (enc n).toArray, .bool true] [FiP f F] (fun v l => v = .tuple #[] ∧ l = [FiP f R]) := by
  refine Spec.enter Tryz.func41 rfl rfl rfl ?_
  refine SW.exH 0 rfl ?_; rintro ⟨nv, sv, kv⟩; simp only [List.cons_append, List.nil_append]
  refine SW.seq ?_
  refine SW.reg (l := [.op 0 .e]) rfl ?_
  refine rx_box (.inr rfl) rfl rfl rfl rfl rfl rfl (cl := [_, _, _, _, _, _, _, _, _]) rfl ?_
  intro b4
  refine rx_end0 ?_
  refine SW.seq ?_
  refine SW.seq ?_
  refine SW.reg (l := [.op 0 .e, .op 1 .e, .op 2 .e, .op 3 .e, .op 4 .e]) rfl ?_
  iterate 2 refine rx_s rfl rfl rfl rfl rfl ?_
  refine rx_fa rfl rfl rfl rfl rfl rfl Fa.fo_153_5 ?_
  refine rx_ldH1 rfl rfl rfl rfl rfl rfl (by (repeat first|exact .here|apply Take1.there)) Fa.ag_151 (by rfl) ?_
  refine rx_nilG rfl rfl rfl rfl rfl Fa.ft_151 rfl (isNil_fnV f F.next) (.inl ⟨rfl, rfl⟩) ?_
  refine rx_end0 ?_
  refine SW.cond rfl (fun h10 => ?_) (fun h10 => ?_)
  · (rw [hn] at h10; cases h10)
  · skip
    refine SW.skip ?_
    try simp only [thenK, blockK, cond_true, cond_false, beq_self_eq_true, Nat.reduceBEq]
    refine SW.seq ?_
    refine SW.reg (l := [.op 0 .e, .op 1 .e, .op 2 .e, .op 3 .e, .op 4 .e, .op 5 .e, .op 6 .e, .op 7 .e]) rfl ?_
    iterate 2 refine rx_s rfl rfl rfl rfl rfl ?_
    refine rx_fa rfl rfl rfl rfl rfl rfl Fa.fo_153_10 ?_
    refine rx_ldH1 rfl rfl rfl rfl rfl rfl (by (repeat first|exact .here|apply Take1.there)) Fa.ag_3 (by rfl) ?_
    refine rx_ar rfl rfl rfl rfl rfl (by omega) ?_
    refine rx_s rfl rfl rfl rfl rfl ?_
    refine rx_fa rfl rfl rfl rfl rfl rfl Fa.fo_153_10 ?_
    refine rx_stp rfl rfl rfl rfl rfl rfl (by (repeat first|exact .here|apply Take1.there)) Fa.sz_3 (vs := [_]) rfl rfl rfl (by rfl) (cl' := [_, _, _, _, _, _, _, _, _, _, _, _, _, _, _, _, _, _, _, _]) (by rfl) ?_
    refine rx_end0 ?_
    refine SW.seq ?_
    refine SW.seq ?_
    refine SW.reg (l := [.op 0 .e, .op 1 .e]) rfl ?_
    iterate 2 refine rx_s rfl rfl rfl rfl rfl ?_
    refine rx_end0 ?_
    refine SW.cond (b := false) rfl (fun h => nomatch h) (fun _ => ?_)
    refine SW.skip ?_
    try simp only [thenK, blockK, cond_true, cond_false, beq_self_eq_true, Nat.reduceBEq]
    rw [hn]
    refine SW.drawAll Fa.mix (tp := [0, 1, 3, 7, 0, 31]) (l := [.op 0 .s, .op 1 .s, .op 2 .s, .op 3 .d, .op 4 .d, .bar, .op 5 .e]) (by kernel_rfl) ?_
    iterate 2 refine rx_s rfl rfl rfl rfl rfl ?_
    refine rx_fa rfl rfl rfl rfl rfl rfl Fa.fo_153_5 ?_
    refine rx_ldD1 rfl rfl rfl rfl rfl rfl rfl (by (repeat first|exact .here|apply Take1.there)) Fa.ag_151 (by rfl) ?_
    refine rx_ldDA rfl rfl rfl rfl rfl rfl rfl (by (repeat first|exact .here|apply Take1.there)) Fa.ag_75 Fa.sz_75 (vs := [_, _, _, _, _, _, _, _, _]) (by rfl) rfl ?_
    refine rx_barAll ?_
    try simp only [List.cons_append, List.nil_append]
    refine rx_callH (F := ?FT33) rfl rfl rfl rfl rfl rfl rfl rfl hc rfl (openPre (F := { F with loads := F.loads + 1, next := some g }) (nv := nv) (sv := sv) (kv := kv) (by rw [show ({ F with loads := F.loads + 1, next := some g } : Holt.Fi) = { F with loads := F.loads + 1 } by rw [← hn]]; exact hr)) ?T33 ?_
    case T33 => (repeat (first|exact Take.nil|refine Take.cons (by (repeat first|exact .here|apply Take1.there)) ?_))
    rintro _ _ ⟨rfl, rfl⟩
    try simp only [List.cons_append, List.nil_append]
    refine rx_endL ?_
    try simp only [List.cons_append, List.nil_append]
    exact retK0e (l := [_]) .nil ⟨rfl, rfl⟩ (.one (by (repeat first|exact .here|apply Take1.there)) .nil)
/-- What is answered while one is wanted. -/
theorem answerNot (f : Nat) (F : Holt.Fi) (g : Nat) (hn : F.next = some g) : Sl.Spec Tryz.prog 36 #[.pointer (some ⟨f, 0, none⟩)] [FiP f F]
    (fun v l => v = .agg (enc (⟨11, 0, 0, Sli.none, Sli.none⟩ : Ans)).toArray ∧ l = [FiP f F]) := by
  refine Spec.enter Tryz.func36 rfl rfl rfl ?_
  refine SW.exH 0 rfl ?_; rintro ⟨nv, sv, kv⟩; simp only [List.cons_append, List.nil_append]
  refine SW.seq ?_
  refine SW.reg (l := [.op 0 .e]) rfl ?_
  refine rx_alloc (.inr rfl) rfl rfl rfl rfl rfl Fa.z_28 ?_
  intro b2
  refine rx_end0 ?_
  refine SW.seq ?_
  refine SW.seq ?_
  refine SW.reg (l := [.op 0 .e, .op 1 .e, .op 2 .e, .op 3 .e, .op 4 .e]) rfl ?_
  iterate 2 refine rx_s rfl rfl rfl rfl rfl ?_
  refine rx_fa rfl rfl rfl rfl rfl rfl Fa.fo_153_5 ?_
  refine rx_ldH1 rfl rfl rfl rfl rfl rfl (by (repeat first|exact .here|apply Take1.there)) Fa.ag_151 (by rfl) ?_
  refine rx_nilG rfl rfl rfl rfl rfl Fa.ft_151 rfl (isNil_fnV f F.next) (.inr ⟨rfl, rfl⟩) ?_
  refine rx_end0 ?_
  refine SW.cond rfl (fun h8 => ?_) (fun h8 => ?_)
  · skip
    refine SW.seq ?_
    refine SW.reg (l := [.op 0 .e, .op 1 .e]) rfl ?_
    refine rx_build rfl rfl rfl rfl rfl Fa.st_28 rfl (cs := [_, _, _, _, _]) rfl ?_
    refine rx_stp rfl rfl rfl rfl rfl rfl (by (repeat first|exact .here|apply Take1.there)) Fa.sz_28 (vs := [_, _, _, _, _]) rfl rfl rfl (by rfl) (cl' := [_, _, _, _, _]) (by rfl) ?_
    refine rx_end0 ?_
    refine SW.ret ?_
    exact retK1 (l := [_]) (.cell rfl (by (repeat first|exact .here|apply Take1.there)) (.inr ⟨5, _, Fa.ag_28, Fa.sz_28, rfl, rfl, rfl⟩) .nil) ⟨rfl, rfl⟩ (foldF (.one (by (repeat first|exact .here|apply Take1.there)) (.one (by (repeat first|exact .here|apply Take1.there)) (.one (by (repeat first|exact .here|apply Take1.there)) (.one (by (repeat first|exact .here|apply Take1.there)) .nil)))))
  · (rw [hn] at h8; cases h8)
theorem answer (f : Nat) (F : Holt.Fi) (hn : F.next = none) (hk : F.kids.length ≤ 100000) : Sl.Spec Tryz.prog 36 #[.pointer (some ⟨f, 0, none⟩)] [FiP f F]
    (fun v l => ∃ p m c, v = .agg (enc (⟨F.e, F.version, F.node, ⟨p, m, c⟩, Sli.none⟩ : Ans)).toArray ∧ m = F.kids.length ∧ l = [FiP f F, SlOwn 73 3 (.slice p m c) (flat F.kids)]) := by
  refine Spec.enter Tryz.func36 rfl rfl rfl ?_
  refine SW.exH 0 rfl ?_; rintro ⟨nv, sv, kv⟩; simp only [List.cons_append, List.nil_append]
  refine SW.slshape 3 rfl ?_
  rintro p1 m1 c1 rfl hm1
  refine SW.seq ?_
  refine SW.reg (l := [.op 0 .e]) rfl ?_
  refine rx_alloc (.inr rfl) rfl rfl rfl rfl rfl Fa.z_28 ?_
  intro b2
  refine rx_end0 ?_
  refine SW.seq ?_
  refine SW.seq ?_
  refine SW.reg (l := [.op 0 .e, .op 1 .e, .op 2 .e, .op 3 .e, .op 4 .e]) rfl ?_
  iterate 2 refine rx_s rfl rfl rfl rfl rfl ?_
  refine rx_fa rfl rfl rfl rfl rfl rfl Fa.fo_153_5 ?_
  refine rx_ldH1 rfl rfl rfl rfl rfl rfl (by (repeat first|exact .here|apply Take1.there)) Fa.ag_151 (by rfl) ?_
  refine rx_nilG rfl rfl rfl rfl rfl Fa.ft_151 rfl (isNil_fnV f F.next) (.inr ⟨rfl, rfl⟩) ?_
  refine rx_end0 ?_
  refine SW.cond rfl (fun h8 => ?_) (fun h8 => ?_)
  · (rw [hn] at h8; cases h8)
  · skip
    refine SW.skip ?_
    try simp only [thenK, blockK, cond_true, cond_false, beq_self_eq_true, Nat.reduceBEq]
    refine SW.seq ?_
    refine SW.reg (l := [.op 0 .e, .op 1 .e, .op 2 .e, .op 3 .e, .op 4 .e, .op 5 .e]) rfl ?_
    iterate 2 refine rx_s rfl rfl rfl rfl rfl ?_
    refine rx_fa rfl rfl rfl rfl rfl rfl Fa.fo_153_9 ?_
    refine rx_ldHA rfl rfl rfl rfl rfl rfl (by (repeat first|exact .here|apply Take1.there)) Fa.ag_28 Fa.sz_28 (vs := [_, _, _, _, _]) (by rfl) rfl ?_
    refine rx_alloc (.inr rfl) rfl rfl rfl rfl rfl Fa.z_28 ?_
    intro b3
    refine rx_stp rfl rfl rfl rfl rfl rfl (by (repeat first|exact .here|apply Take1.there)) Fa.sz_28 (vs := [_, _, _, _, _]) rfl rfl rfl (by rfl) (cl' := [_, _, _, _, _]) (by rfl) ?_
    refine rx_end0 ?_
    refine SW.seq ?_
    refine SW.reg (l := [.op 0 .e, .op 1 .e, .op 2 .e, .op 3 .e, .op 4 .e]) rfl ?_
    refine rx_fa rfl rfl rfl rfl rfl rfl Fa.fo_28_3 ?_
    refine rx_ldH1 rfl rfl rfl rfl rfl rfl (by (repeat first|exact .here|apply Take1.there)) Fa.ag_26 (by rfl) ?_
    refine rx_callH (F := ?FT34) rfl rfl rfl rfl rfl rfl rfl rfl Fa.ca_76 rfl (CnK.clone (.slice p1 m1 c1) (flat F.kids) (by rw [flat_len, show Enc.n Kid = 3 from rfl]; omega)) ?T34 ?_
    case T34 => (repeat (first|exact Take.nil|refine Take.cons (by (repeat first|exact .here|apply Take1.there)) ?_))
    rintro _ _ ⟨p, m, c', rfl, hm, rfl⟩
    try simp only [List.cons_append, List.nil_append]
    refine rx_fa rfl rfl rfl rfl rfl rfl Fa.fo_28_3 ?_
    refine rx_stp rfl rfl rfl rfl rfl rfl (by (repeat first|exact .here|apply Take1.there)) Fa.sz_26 (vs := [_]) rfl rfl rfl (by rfl) (cl' := [_, _, _, _, _]) (by rfl) ?_
    refine rx_end0 ?_
    refine SW.seq ?_
    refine SW.reg (l := [.op 0 .e, .op 1 .e]) rfl ?_
    refine rx_ldHA rfl rfl rfl rfl rfl rfl (by (repeat first|exact .here|apply Take1.there)) Fa.ag_28 Fa.sz_28 (vs := [_, _, _, _, _]) (by rfl) rfl ?_
    refine rx_stp rfl rfl rfl rfl rfl rfl (by (repeat first|exact .here|apply Take1.there)) Fa.sz_28 (vs := [_, _, _, _, _]) rfl rfl rfl (by rfl) (cl' := [_, _, _, _, _]) (by rfl) ?_
    refine rx_end0 ?_
    refine SW.ret ?_
    exact retK1 (l := [_, _]) (.cell rfl (by (repeat first|exact .here|apply Take1.there)) (.inr ⟨5, _, Fa.ag_28, Fa.sz_28, rfl, rfl, rfl⟩) .nil) ⟨p, m, c', rfl, by rw [flat_len, show Enc.n Kid = 3 from rfl] at hm; omega, rfl⟩ (foldF (.one (by (repeat first|exact .here|apply Take1.there)) (.one (by (repeat first|exact .here|apply Take1.there)) (.one (by (repeat first|exact .here|apply Take1.there)) (.one (by (repeat first|exact .here|apply Take1.there)) (.one (by (repeat first|exact .here|apply Take1.there)) .nil))))))
/-- 'New', where 'Split' is known. -/
theorem new (list : Bool) (path : ByteArray) (v : Ver) (r : Option (List ByteArray)) (w0 : World)
    (hsp : Sl.Spec Tryz.prog 38 #[.string path] [OLD w0 []] (fun u l => ∃ nv, u = .tuple #[nv, .int .i64 (if r.isSome = true then 0 else 4)] ∧ l = [SlRo 9 1 nv (flat (r.getD [])), OLD w0 []])) :
    Sl.Spec Tryz.prog 33 #[.bool list, .string path, .agg (enc v).toArray] [OLD w0 []]
      (fun u l => ∃ f, u = .pointer (some ⟨f, 0, none⟩) ∧ l = [FiP f (Holt.Fi.start cmpK 102 103 v list r), OLD w0 []]) := by
  refine Spec.enter Tryz.func33 rfl rfl rfl ?_
  refine SW.seq ?_
  refine SW.reg (l := [.op 0 .e, .op 1 .e]) rfl ?_
  refine rx_box (.inr rfl) rfl rfl rfl rfl rfl rfl (cl := [_, _, _, _, _]) rfl ?_
  intro b5
  refine rx_s rfl rfl rfl rfl rfl ?_
  refine rx_end0 ?_
  refine SW.seq ?_
  refine SW.reg (l := [.op 0 .e, .op 1 .e, .op 2 .e, .op 3 .e, .op 4 .e]) rfl ?_
  refine rx_ldHA rfl rfl rfl rfl rfl rfl (by (repeat first|exact .here|apply Take1.there)) Fa.ag_58 Fa.sz_58 (vs := [_, _, _, _, _]) (by rfl) rfl ?_
  refine rx_s rfl rfl rfl rfl rfl ?_
  refine rx_build rfl rfl rfl rfl rfl Fa.st_153 rfl (cs := [_, _, _, _, _, _, _, _, _, _, _, _, _, _, _, _, _, _, _, _]) rfl ?_
  refine rx_box (.inr rfl) rfl rfl rfl rfl rfl rfl (cl := [_, _, _, _, _, _, _, _, _, _, _, _, _, _, _, _, _, _, _, _]) rfl ?_
  intro b13
  refine rx_s rfl rfl rfl rfl rfl ?_
  refine rx_end0 ?_
  refine SW.seq ?_
  refine SW.reg (l := [.op 0 .e, .op 1 .e, .op 2 .e, .op 3 .e, .op 4 .e, .op 5 .e, .op 6 .e]) rfl ?_
  refine rx_s rfl rfl rfl rfl rfl ?_
  refine rx_callH (F := ?FT35) rfl rfl rfl rfl rfl rfl rfl rfl Fa.ca_38 rfl (hsp) ?T35 ?_
  case T35 => (repeat (first|exact Take.nil|refine Take.cons (by (repeat first|exact .here|apply Take1.there)) ?_))
  rintro _ _ ⟨nv, rfl, rfl⟩
  try simp only [List.cons_append, List.nil_append]
  iterate 5 refine rx_s rfl rfl rfl rfl rfl ?_
  refine rx_end0 ?_
  refine SW.slroShape 0 rfl ?_
  rintro p1 m1 c1 rfl hm1
  refine SW.seq ?_
  refine SW.reg (l := [.op 0 .e, .op 1 .e, .op 2 .e, .op 3 .e, .op 4 .e]) rfl ?_
  iterate 3 refine rx_s rfl rfl rfl rfl rfl ?_
  refine rx_fa rfl rfl rfl rfl rfl rfl Fa.fo_153_2 ?_
  refine rx_stp rfl rfl rfl rfl rfl rfl (by (repeat first|exact .here|apply Take1.there)) Fa.sz_69 (vs := [_]) rfl rfl rfl (by rfl) (cl' := [_, _, _, _, _, _, _, _, _, _, _, _, _, _, _, _, _, _, _, _]) (by rfl) ?_
  refine rx_end0 ?_
  refine SW.fold (Hl' := [FiP b13 (Holt.Fi.new v list (r.getD [])), OLD w0 []]) (foldF (F := Holt.Fi.new v list (r.getD [])) (.one (by (repeat first|exact .here|apply Take1.there)) (.one (by (repeat first|exact .here|apply Take1.there)) (slown_nil _ _ (slown_nil _ _ (.one (by (repeat first|exact .here|apply Take1.there)) .nil)))))) ?_
  refine SW.seq ?_
  refine SW.seq ?_
  refine SW.reg (l := [.op 0 .e, .op 1 .e]) rfl ?_
  iterate 2 refine rx_s rfl rfl rfl rfl rfl ?_
  refine rx_end0 ?_
  refine SW.cond rfl (fun h24 => ?_) (fun h24 => ?_)
  · skip
    have hr : r = none := by cases r with
      | none => rfl
      | some x => simp at h24
    subst hr
    refine SW.seq ?_
    refine SW.reg (l := [.op 0 .e, .op 1 .e, .op 2 .e]) rfl ?_
    iterate 2 refine rx_s rfl rfl rfl rfl rfl ?_
    refine rx_callH (F := ?FT36) rfl rfl rfl rfl rfl rfl rfl rfl Fa.ca_74 rfl (end_ b13 (Holt.Fi.new v list []) 4) ?T36 ?_
    case T36 => (repeat (first|exact Take.nil|refine Take.cons (by (repeat first|exact .here|apply Take1.there)) ?_))
    rintro _ _ ⟨rfl, rfl⟩
    try simp only [List.cons_append, List.nil_append]
    refine rx_end0 ?_
    refine SW.seq ?_
    refine SW.reg (l := [.op 0 .e, .op 1 .e]) rfl ?_
    iterate 2 refine rx_s rfl rfl rfl rfl rfl ?_
    refine rx_end0 ?_
    refine SW.ret ?_
    exact retK1 (l := [_, _]) (.tmp rfl .nil) ⟨b13, rfl, rfl⟩ (.one (by (repeat first|exact .here|apply Take1.there)) (.one (by (repeat first|exact .here|apply Take1.there)) .nil))
  · skip
    obtain ⟨x, hr⟩ : ∃ x, r = some x := by cases r with
      | none => simp at h24
      | some x => exact ⟨x, rfl⟩
    subst hr
    refine SW.skip ?_
    try simp only [thenK, blockK, cond_true, cond_false, beq_self_eq_true, Nat.reduceBEq]
    refine SW.seq ?_
    refine SW.reg (l := [.op 0 .e, .op 1 .e]) rfl ?_
    refine rx_s rfl rfl rfl rfl rfl ?_
    refine rx_callH (F := ?FT37) rfl rfl rfl rfl rfl rfl rfl rfl Fa.ca_75 rfl (seg b13 (Holt.Fi.new v list x) ⟨Nat.zero_le _, Nat.zero_le _⟩) ?T37 ?_
    case T37 => (repeat (first|exact Take.nil|refine Take.cons (by (repeat first|exact .here|apply Take1.there)) ?_))
    rintro _ _ ⟨rfl, rfl⟩
    try simp only [List.cons_append, List.nil_append]
    refine rx_end0 ?_
    refine SW.seq ?_
    refine SW.reg (l := [.op 0 .e, .op 1 .e]) rfl ?_
    iterate 2 refine rx_s rfl rfl rfl rfl rfl ?_
    refine rx_end0 ?_
    refine SW.ret ?_
    exact retK1 (l := [_, _]) (.tmp rfl .nil) ⟨b13, rfl, rfl⟩ (.one (by (repeat first|exact .here|apply Take1.there)) (.one (by (repeat first|exact .here|apply Take1.there)) .nil))
end Fi
end Go.Proofs.YtikkegelplllmaaGreatDoor
/- The arena of KNode: what its functions do. -/
namespace Go.Proofs.YtikkegelplllmaaGreatDoor
open Go Go.Sl Go.Holt Go.Proofs
open Go.Holt.Enc (enc)
namespace ArK

/-- An arena at a block. -/
def ArP (a : Nat) (A : Ar KNode) : HProp := exH fun x : Value × Value =>
  [blk a [.int .i64 A.most, x.1, x.2] 212 (0, 0), SlOwn 197 11 x.1 (flat A.sl), SlOwn 3 1 x.2 (flat A.fr)]

theorem ArP.mk {a : Nat} {A : Ar KNode} {sv fv : Value} {xs ys : List Value} (hx : xs = flat A.sl) (hy : ys = flat A.fr) :
    EntS (star [blk a [.int .i64 A.most, sv, fv] 212 (0, 0), SlOwn 197 11 sv xs, SlOwn 3 1 fv ys]) (ArP a A) := by
  subst hx hy
  exact exH.mk (fun x : Value × Value => [blk a [.int .i64 A.most, x.1, x.2] 212 (0, 0), SlOwn 197 11 x.1 (flat A.sl), SlOwn 3 1 x.2 (flat A.fr)]) (sv, fv)
theorem ArP.nil (a : Nat) (m : Int) : EntS (star [blk a [.int .i64 m, .slice none 0 0, .slice none 0 0] 212 (0, 0)]) (ArP a ⟨m, [], []⟩) := by
  refine EntS.trans ?_ (ArP.mk (sv := .slice none 0 0) (fv := .slice none 0 0) (xs := []) (ys := []) rfl rfl)
  show EntS (sep _ emp) (sep _ (sep _ (sep _ emp)))
  refine EntS.sep (EntS.refl _) ?_
  intro R w h
  rw [emp_sep] at h
  have h1 := SlOwn.nil 3 1 R w (by rw [emp_sep]; exact h)
  have h2 := SlOwn.nil 197 11 _ w (by rw [emp_sep]; exact h1)
  rw [sep_emp, sep_assoc]; exact h2
theorem flen (l : List (Slot KNode)) : (flat l).length = l.length * 11 := flat_len l
theorem ilen (l : List Int) : (flat l).length = l.length * 1 := flat_len l

/-- Folding an arena: of what is held 'S' and the free list come first. -/
theorem foldA {a : Nat} {A : Ar KNode} {sv fv : Value} {xs ys : List Value} {l : List HProp} (h : EntL l [SlOwn 197 11 sv xs, blk a [.int .i64 A.most, sv, fv] 212 (0, 0), SlOwn 3 1 fv ys])
    (hx : xs = flat A.sl) (hy : ys = flat A.fr) : EntL l [ArP a A] :=
  EntL.fold (ps := [blk a [.int .i64 A.most, sv, fv] 212 (0, 0), SlOwn 197 11 sv xs, SlOwn 3 1 fv ys]) (l' := []) (EntL.trans h (.one (.there .here) (.one .here (.one .here .nil)))) (ArP.mk hx hy)
theorem flat_nil {l : List (Slot KNode)} (h : flat l = []) : l = [] := by
  have := flen l
  rw [h] at this
  exact List.eq_nil_of_length_eq_zero (by simp at this; omega)
theorem room (a : Nat) (A : Ar KNode) (hA : A.ok) :
    Sl.Spec Tryz.prog 186 #[.pointer (some ⟨a, 0, none⟩)] [ArP a A] (fun v l => v = .int .i64 A.room ∧ l = [ArP a A]) := by
  have h1 := hA.len
  have h2 := hA.most
  have h3 := hA.frlen
  refine Spec.enter Tryz.func186 rfl rfl rfl ?_
  refine SW.exH 0 rfl ?_
  rintro ⟨sv, fv⟩
  simp only [List.cons_append, List.nil_append]
  refine SW.slshape 1 rfl ?_
  rintro p1 m1 c1 rfl hm1
  refine SW.slshape 2 rfl ?_
  rintro p2 m2 c2 rfl hm2
  rw [flen] at hm1
  rw [ilen] at hm2
  have e1 : m1 = A.sl.length := by omega
  have e2 : m2 = A.fr.length := by omega
  subst e1 e2
  refine SW.seq ?_
  refine SW.reg (l := [.op 0 .e]) rfl ?_
  refine rx_s rfl rfl rfl rfl rfl ?_
  refine rx_end0 ?_
  refine SW.seq ?_
  refine SW.drawAll Fa.mix (tp := [0, 1, 3, 7, 0, 16, 48, 112, 240, 511, 0, 1024, 3072, 7168, 15360, 32767, 65535]) (l := [.op 0 .s, .op 1 .s, .op 2 .s, .op 3 .d, .op 4 .s, .op 5 .s, .op 6 .s, .op 7 .d, .op 8 .s, .op 9 .s, .op 10 .s, .op 11 .s, .op 12 .s, .op 13 .d, .op 14 .s, .op 15 .s, .op 16 .s]) (by kernel_rfl) ?_
  iterate 2 refine rx_s rfl rfl rfl rfl rfl ?_
  refine rx_fa rfl rfl rfl rfl rfl rfl Fa.fo_212_0 ?_
  refine rx_ldD1 rfl rfl rfl rfl rfl rfl rfl (by (repeat first|exact .here|apply Take1.there)) Fa.ag_3 (by rfl) ?_
  iterate 2 refine rx_s rfl rfl rfl rfl rfl ?_
  refine rx_fa rfl rfl rfl rfl rfl rfl Fa.fo_212_1 ?_
  refine rx_ldD1 rfl rfl rfl rfl rfl rfl rfl (by (repeat first|exact .here|apply Take1.there)) Fa.ag_210 (by rfl) ?_
  refine rx_len rfl rfl rfl rfl rfl rfl (lenV_sl Fa.sl_210 _ _ _) ?_
  refine rx_ar rfl rfl rfl rfl rfl (by omega) ?_
  iterate 2 refine rx_s rfl rfl rfl rfl rfl ?_
  refine rx_fa rfl rfl rfl rfl rfl rfl Fa.fo_212_2 ?_
  refine rx_ldD1 rfl rfl rfl rfl rfl rfl rfl (by (repeat first|exact .here|apply Take1.there)) Fa.ag_121 (by rfl) ?_
  refine rx_len rfl rfl rfl rfl rfl rfl (lenV_sl Fa.sl_121 _ _ _) ?_
  refine rx_ar rfl rfl rfl rfl rfl (by omega) ?_
  refine rx_s rfl rfl rfl rfl rfl ?_
  refine rx_endD ?_
  try simp only [List.cons_append, List.nil_append]
  refine SW.ret ?_
  refine retK1 (l := [ArP a A]) (.tmp rfl .nil) ⟨by rfl, rfl⟩ (.cons (.cons (by (repeat first|exact .here|apply Take1.there)) (.cons (by (repeat first|exact .here|apply Take1.there)) (.cons (by (repeat first|exact .here|apply Take1.there)) .nil))) (ArP.mk rfl rfl) .nil)

theorem sget {l : List (Slot KNode)} {i : Nat} {s : Slot KNode} (h : l[i]? = some s) {j off : Nat} (hj : j < 11) (ho : off = i * 11 + j) (rest : List Value) : (flat l ++ rest)[off]? = s.cells[j]? := flat_get h hj ho rest
theorem sdrop {l : List (Slot KNode)} {i : Nat} {s : Slot KNode} (h : l[i]? = some s) {j k off : Nat} (hj : j + k ≤ 11) (ho : off = i * 11 + j) (rest : List Value) : ((flat l ++ rest).drop off).take k = (s.cells.drop j).take k := flat_drop h hj ho rest
theorem sput {l : List (Slot KNode)} {i : Nat} {s s' : Slot KNode} (h : l[i]? = some s) {j off : Nat} {vs : List Value} (hj : j + vs.length ≤ 11) (ho : off = i * 11 + j) (he : putAt s.cells j vs = s'.cells) (rest : List Value) :
    putAt (flat l ++ rest) off vs = flat (l.set i s') ++ rest := flat_put h hj ho he rest

theorem new (m : Int) (h0 : 0 ≤ m) (h1 : m ≤ 1048576) :
    Sl.Spec Tryz.prog 89 #[.int .i64 m] [] (fun v l => ∃ a, v = .pointer (some ⟨a, 0, none⟩) ∧ l = [ArP a ⟨m, [], []⟩]) := by
  refine Spec.enter Tryz.func89 rfl rfl rfl ?_
  refine SW.seq ?_
  refine SW.reg (l := [.op 0 .e]) rfl ?_
  refine rx_s rfl rfl rfl rfl rfl ?_
  refine rx_end0 ?_
  refine SW.seq ?_
  refine SW.seq ?_
  refine SW.reg (l := [.op 0 .e, .op 1 .e, .op 2 .e, .op 3 .e, .op 4 .e, .op 5 .e]) rfl ?_
  iterate 3 refine rx_s rfl rfl rfl rfl rfl ?_
  refine rx_split (t := 5) rfl (fun g5 => ?_) (fun g5 => ?_)
  · (simp at g5; omega)
  · skip
    iterate 3 refine rx_s rfl rfl rfl rfl rfl ?_
    refine rx_end0 ?_
    refine SW.cond rfl (fun h8 => ?_) (fun h8 => ?_)
    · (simp at h8; omega)
    · skip
      refine SW.skip ?_
      try simp only [thenK, blockK, cond_true, cond_false, beq_self_eq_true, Nat.reduceBEq]
      refine SW.seq ?_
      refine SW.reg (l := [.op 0 .e, .op 1 .e, .op 2 .e, .op 3 .e]) rfl ?_
      refine rx_s rfl rfl rfl rfl rfl ?_
      refine rx_build rfl rfl rfl rfl rfl Fa.st_212 rfl (cs := [_, _, _]) rfl ?_
      refine rx_box (.inr rfl) rfl rfl rfl rfl rfl rfl (cl := [_, _, _]) rfl ?_
      intro b11
      refine rx_s rfl rfl rfl rfl rfl ?_
      refine rx_end0 ?_
      refine SW.ret ?_
      exact retK1 (l := [ArP b11 _]) (.tmp rfl .nil) ⟨b11, rfl, rfl⟩ (.cons (.cons (by (repeat first|exact .here|apply Take1.there)) .nil) (ArP.nil _ _) .nil)

theorem find_nil (a : Nat) (m : Int) (fv : Value) (h : Handle) :
    Sl.Spec Tryz.prog 110 #[.pointer (some ⟨a, 0, none⟩), .agg #[.int .i64 h.slot, .int .i64 h.gen]]
      [blk a [.int .i64 m, .slice none 0 0, fv] 212 (0, 0)] (fun v l => v = .pointer none ∧ l = [blk a [.int .i64 m, .slice none 0 0, fv] 212 (0, 0)]) := by
  refine Spec.enter Tryz.func110 rfl rfl rfl ?_
  refine SW.seq ?_
  refine SW.reg (l := [.op 0 .e, .op 1 .e]) rfl ?_
  refine rx_box (.inr rfl) rfl rfl rfl rfl rfl rfl (cl := [_, _]) rfl ?_
  intro b3
  refine rx_s rfl rfl rfl rfl rfl ?_
  refine rx_end0 ?_
  refine SW.seq ?_
  refine SW.seq ?_
  refine SW.drawAll Fa.mix (tp := [0, 1, 3, 7, 15, 31, 15, 79, 207, 463, 975, 2047, 4095]) (l := [.op 0 .s, .op 1 .d, .op 2 .s, .op 3 .s, .op 4 .s, .op 5 .d, .op 6 .s, .op 7 .s, .op 8 .s, .op 9 .d, .op 10 .s, .op 11 .s, .op 12 .s]) (by kernel_rfl) ?_
  refine rx_fa rfl rfl rfl rfl rfl rfl Fa.fo_56_0 ?_
  refine rx_ldD1 rfl rfl rfl rfl rfl rfl rfl (by (repeat first|exact .here|apply Take1.there)) Fa.ag_3 (by rfl) ?_
  iterate 2 refine rx_s rfl rfl rfl rfl rfl ?_
  refine rx_split (t := 9) rfl (fun g9 => ?_) (fun g9 => ?_)
  · skip
    refine rx_skip rfl rfl rfl rfl ?_
    refine rx_skip rfl rfl rfl rfl ?_
    refine rx_skip rfl rfl rfl rfl ?_
    refine rx_skip rfl rfl rfl rfl ?_
    refine rx_skip rfl rfl rfl rfl ?_
    refine rx_skip rfl rfl rfl rfl ?_
    refine rx_skip rfl rfl rfl rfl ?_
    refine rx_skip rfl rfl rfl rfl ?_
    refine rx_s rfl rfl rfl rfl rfl ?_
    refine rx_endD ?_
    try simp only [List.cons_append, List.nil_append]
    refine SW.cond (b := true) rfl (fun _ => ?_) (fun h => nomatch h)
    refine SW.seq ?_
    refine SW.reg (l := [.op 0 .e]) rfl ?_
    refine rx_s rfl rfl rfl rfl rfl ?_
    refine rx_end0 ?_
    refine SW.ret ?_
    exact retK1 (l := [_]) (.tmp rfl .nil) ⟨rfl, rfl⟩ (.one (by (repeat first|exact .here|apply Take1.there)) .nil)
  · skip
    simp at g9
    refine rx_fa rfl rfl rfl rfl rfl rfl Fa.fo_56_0 ?_
    refine rx_ldD1 rfl rfl rfl rfl rfl rfl rfl (by (repeat first|exact .here|apply Take1.there)) Fa.ag_3 (by rfl) ?_
    iterate 2 refine rx_s rfl rfl rfl rfl rfl ?_
    refine rx_fa rfl rfl rfl rfl rfl rfl Fa.fo_212_1 ?_
    refine rx_ldD1 rfl rfl rfl rfl rfl rfl rfl (by (repeat first|exact .here|apply Take1.there)) Fa.ag_210 (by rfl) ?_
    refine rx_len rfl rfl rfl rfl rfl rfl (lenV_sl Fa.sl_210 _ _ _) ?_
    iterate 2 refine rx_s rfl rfl rfl rfl rfl ?_
    refine rx_endD ?_
    try simp only [List.cons_append, List.nil_append]
    refine SW.cond rfl (fun h18 => ?_) (fun h18 => ?_)
    · skip
      refine SW.seq ?_
      refine SW.reg (l := [.op 0 .e]) rfl ?_
      refine rx_s rfl rfl rfl rfl rfl ?_
      refine rx_end0 ?_
      refine SW.ret ?_
      exact retK1 (l := [_]) (.tmp rfl .nil) ⟨rfl, rfl⟩ (.one (by (repeat first|exact .here|apply Take1.there)) .nil)
    · (simp at h18; omega)

def findV (b : Nat) : Option Nat → Value
  | none => .pointer none
  | some i => .pointer (some ⟨b, 0 + i * 11, none⟩)
theorem find_some (a b cap : Nat) (A : Ar KNode) (rest : List Value) (fv : Value) (h : Handle) (hA : A.ok) :
    Sl.Spec Tryz.prog 110 #[.pointer (some ⟨a, 0, none⟩), .agg #[.int .i64 h.slot, .int .i64 h.gen]]
      [blk a [.int .i64 A.most, .slice (some ⟨b, 0, none⟩) A.sl.length cap, fv] 212 (0, 0), blk b (flat A.sl ++ rest) 197 (0, 0)]
      (fun v l => v = findV b (A.find h) ∧ l = [blk a [.int .i64 A.most, .slice (some ⟨b, 0, none⟩) A.sl.length cap, fv] 212 (0, 0), blk b (flat A.sl ++ rest) 197 (0, 0)]) := by
  have q1 := hA.len
  have q2 := hA.most
  refine Spec.enter Tryz.func110 rfl rfl rfl ?_
  refine SW.seq ?_
  refine SW.reg (l := [.op 0 .e, .op 1 .e]) rfl ?_
  refine rx_box (.inr rfl) rfl rfl rfl rfl rfl rfl (cl := [_, _]) rfl ?_
  intro b3
  refine rx_s rfl rfl rfl rfl rfl ?_
  refine rx_end0 ?_
  refine SW.seq ?_
  refine SW.seq ?_
  refine SW.drawAll Fa.mix (tp := [0, 1, 3, 7, 15, 31, 15, 79, 207, 463, 975, 2047, 4095]) (l := [.op 0 .s, .op 1 .d, .op 2 .s, .op 3 .s, .op 4 .s, .op 5 .d, .op 6 .s, .op 7 .s, .op 8 .s, .op 9 .d, .op 10 .s, .op 11 .s, .op 12 .s]) (by kernel_rfl) ?_
  refine rx_fa rfl rfl rfl rfl rfl rfl Fa.fo_56_0 ?_
  refine rx_ldD1 rfl rfl rfl rfl rfl rfl rfl (by (repeat first|exact .here|apply Take1.there)) Fa.ag_3 (by rfl) ?_
  iterate 2 refine rx_s rfl rfl rfl rfl rfl ?_
  refine rx_split (t := 9) rfl (fun g9 => ?_) (fun g9 => ?_)
  · skip
    simp at g9
    refine rx_skip rfl rfl rfl rfl ?_
    refine rx_skip rfl rfl rfl rfl ?_
    refine rx_skip rfl rfl rfl rfl ?_
    refine rx_skip rfl rfl rfl rfl ?_
    refine rx_skip rfl rfl rfl rfl ?_
    refine rx_skip rfl rfl rfl rfl ?_
    refine rx_skip rfl rfl rfl rfl ?_
    refine rx_skip rfl rfl rfl rfl ?_
    refine rx_s rfl rfl rfl rfl rfl ?_
    refine rx_endD ?_
    try simp only [List.cons_append, List.nil_append]
    refine SW.cond (b := true) rfl (fun _ => ?_) (fun h => nomatch h)
    refine SW.seq ?_
    refine SW.reg (l := [.op 0 .e]) rfl ?_
    refine rx_s rfl rfl rfl rfl rfl ?_
    refine rx_end0 ?_
    refine SW.ret ?_
    exact retK1 (l := [_, _]) (.tmp rfl .nil) ⟨by unfold Ar.find; rw [if_pos (.inl g9)]; rfl, rfl⟩ (.one (by (repeat first|exact .here|apply Take1.there)) (.one (by (repeat first|exact .here|apply Take1.there)) .nil))
  · skip
    simp at g9
    refine rx_fa rfl rfl rfl rfl rfl rfl Fa.fo_56_0 ?_
    refine rx_ldD1 rfl rfl rfl rfl rfl rfl rfl (by (repeat first|exact .here|apply Take1.there)) Fa.ag_3 (by rfl) ?_
    iterate 2 refine rx_s rfl rfl rfl rfl rfl ?_
    refine rx_fa rfl rfl rfl rfl rfl rfl Fa.fo_212_1 ?_
    refine rx_ldD1 rfl rfl rfl rfl rfl rfl rfl (by (repeat first|exact .here|apply Take1.there)) Fa.ag_210 (by rfl) ?_
    refine rx_len rfl rfl rfl rfl rfl rfl (lenV_sl Fa.sl_210 _ _ _) ?_
    iterate 2 refine rx_s rfl rfl rfl rfl rfl ?_
    refine rx_endD ?_
    try simp only [List.cons_append, List.nil_append]
    refine SW.cond rfl (fun h18 => ?_) (fun h18 => ?_)
    · skip
      simp at h18
      refine SW.seq ?_
      refine SW.reg (l := [.op 0 .e]) rfl ?_
      refine rx_s rfl rfl rfl rfl rfl ?_
      refine rx_end0 ?_
      refine SW.ret ?_
      exact retK1 (l := [_, _]) (.tmp rfl .nil) ⟨by unfold Ar.find; rw [if_pos (.inr (by omega))]; rfl, rfl⟩ (.one (by (repeat first|exact .here|apply Take1.there)) (.one (by (repeat first|exact .here|apply Take1.there)) .nil))
    · skip
      simp at h18
      obtain ⟨s, hs⟩ : ∃ s, A.sl[(h.slot - 1).toNat]? = some s := ⟨_, List.getElem?_eq_getElem (by omega)⟩
      refine SW.skip ?_
      try simp only [thenK, blockK, cond_true, cond_false, beq_self_eq_true, Nat.reduceBEq]
      refine SW.seq ?_
      refine SW.drawAll Fa.mix (tp := [0, 1, 3, 7, 0, 16, 48, 127, 255]) (l := [.op 0 .s, .op 1 .s, .op 2 .s, .op 3 .d, .op 4 .s, .op 5 .d, .op 6 .s, .op 7 .s, .op 8 .s]) (by kernel_rfl) ?_
      iterate 2 refine rx_s rfl rfl rfl rfl rfl ?_
      refine rx_fa rfl rfl rfl rfl rfl rfl Fa.fo_212_1 ?_
      refine rx_ldD1 rfl rfl rfl rfl rfl rfl rfl (by (repeat first|exact .here|apply Take1.there)) Fa.ag_210 (by rfl) ?_
      refine rx_fa rfl rfl rfl rfl rfl rfl Fa.fo_56_0 ?_
      refine rx_ldD1 rfl rfl rfl rfl rfl rfl rfl (by (repeat first|exact .here|apply Take1.there)) Fa.ag_3 (by rfl) ?_
      refine rx_ar rfl rfl rfl rfl rfl (by omega) ?_
      refine rx_ix rfl rfl rfl rfl rfl Fa.sl_210 rfl rfl (by omega) ?_
      refine rx_s rfl rfl rfl rfl rfl ?_
      refine rx_endD ?_
      try simp only [List.cons_append, List.nil_append]
      refine SW.seq ?_
      refine SW.seq ?_
      refine SW.drawAll Fa.mix (tp := [0, 1, 3, 7, 15, 31, 63, 127, 255, 511, 63, 1087, 4095, 8191]) (l := [.op 0 .s, .op 1 .s, .op 2 .s, .op 3 .d, .op 4 .s, .op 5 .s, .op 6 .s, .op 7 .s, .op 8 .s, .op 9 .d, .op 10 .s, .op 11 .d, .op 12 .s, .op 13 .s]) (by kernel_rfl) ?_
      iterate 2 refine rx_s rfl rfl rfl rfl rfl ?_
      refine rx_fa rfl rfl rfl rfl rfl rfl Fa.fo_197_1 ?_
      refine rx_ldD1 rfl rfl rfl rfl rfl rfl rfl (by (repeat first|exact .here|apply Take1.there)) Fa.ag_4 (by exact sget hs (j := 1) (by omega) (by omega) rest) ?_
      iterate 2 refine rx_s rfl rfl rfl rfl rfl ?_
      refine rx_split (t := 32) rfl (fun g32 => ?_) (fun g32 => ?_)
      · skip
        simp at g32
        refine rx_skip rfl rfl rfl rfl ?_
        refine rx_skip rfl rfl rfl rfl ?_
        refine rx_skip rfl rfl rfl rfl ?_
        refine rx_skip rfl rfl rfl rfl ?_
        refine rx_skip rfl rfl rfl rfl ?_
        refine rx_skip rfl rfl rfl rfl ?_
        refine rx_skip rfl rfl rfl rfl ?_
        refine rx_s rfl rfl rfl rfl rfl ?_
        refine rx_endD ?_
        try simp only [List.cons_append, List.nil_append]
        refine SW.cond (b := true) rfl (fun _ => ?_) (fun h => nomatch h)
        refine SW.seq ?_
        refine SW.reg (l := [.op 0 .e]) rfl ?_
        refine rx_s rfl rfl rfl rfl rfl ?_
        refine rx_end0 ?_
        refine SW.ret ?_
        exact retK1 (l := [_, _]) (.tmp rfl .nil) ⟨by unfold Ar.find; rw [if_neg (by omega), hs]; simp [g32, findV], rfl⟩ (.one (by (repeat first|exact .here|apply Take1.there)) (.one (by (repeat first|exact .here|apply Take1.there)) .nil))
      · skip
        simp at g32
        iterate 2 refine rx_s rfl rfl rfl rfl rfl ?_
        refine rx_fa rfl rfl rfl rfl rfl rfl Fa.fo_197_0 ?_
        refine rx_ldD1 rfl rfl rfl rfl rfl rfl rfl (by (repeat first|exact .here|apply Take1.there)) Fa.ag_3 (by exact sget hs (j := 0) (by omega) (by omega) rest) ?_
        refine rx_fa rfl rfl rfl rfl rfl rfl Fa.fo_56_1 ?_
        refine rx_ldD1 rfl rfl rfl rfl rfl rfl rfl (by (repeat first|exact .here|apply Take1.there)) Fa.ag_3 (by rfl) ?_
        iterate 2 refine rx_s rfl rfl rfl rfl rfl ?_
        refine rx_endD ?_
        try simp only [List.cons_append, List.nil_append]
        refine SW.cond rfl (fun h40 => ?_) (fun h40 => ?_)
        · skip
          simp at h40
          refine SW.seq ?_
          refine SW.reg (l := [.op 0 .e]) rfl ?_
          refine rx_s rfl rfl rfl rfl rfl ?_
          refine rx_end0 ?_
          refine SW.ret ?_
          exact retK1 (l := [_, _]) (.tmp rfl .nil) ⟨by unfold Ar.find; rw [if_neg (by omega), hs]; simp [g32, h40, findV], rfl⟩ (.one (by (repeat first|exact .here|apply Take1.there)) (.one (by (repeat first|exact .here|apply Take1.there)) .nil))
        · skip
          simp at h40
          refine SW.skip ?_
          try simp only [thenK, blockK, cond_true, cond_false, beq_self_eq_true, Nat.reduceBEq]
          refine SW.seq ?_
          refine SW.reg (l := [.op 0 .e, .op 1 .e]) rfl ?_
          iterate 2 refine rx_s rfl rfl rfl rfl rfl ?_
          refine rx_end0 ?_
          refine SW.ret ?_
          exact retK1 (l := [_, _]) (.tmp rfl .nil) ⟨by unfold Ar.find; rw [if_neg (by omega), hs]; simp [g32, h40, findV], rfl⟩ (.one (by (repeat first|exact .here|apply Take1.there)) (.one (by (repeat first|exact .here|apply Take1.there)) .nil))

def getV : Option KNode → Value
  | some x => .tuple #[.agg (enc x).toArray, .bool true]
  | none => .tuple #[.agg (enc KNode.zero).toArray, .bool false]
theorem get_nil (a : Nat) (m : Int) (fv : Value) (h : Handle) :
    Sl.Spec Tryz.prog 82 #[.pointer (some ⟨a, 0, none⟩), .agg #[.int .i64 h.slot, .int .i64 h.gen]] [blk a [.int .i64 m, .slice none 0 0, fv] 212 (0, 0)]
      (fun v l => v = getV none ∧ l = [blk a [.int .i64 m, .slice none 0 0, fv] 212 (0, 0)]) := by
  refine Spec.enter Tryz.func82 rfl rfl rfl ?_
  refine SW.seq ?_
  refine SW.reg (l := [.op 0 .e, .op 1 .e, .op 2 .e]) rfl ?_
  refine rx_box (.inr rfl) rfl rfl rfl rfl rfl rfl (cl := [_, _]) rfl ?_
  intro b3
  refine rx_alloc (.inr rfl) rfl rfl rfl rfl rfl Fa.z_75 ?_
  intro b4
  refine rx_s rfl rfl rfl rfl rfl ?_
  refine rx_end0 ?_
  refine SW.seq ?_
  refine SW.reg (l := [.op 0 .e, .op 1 .e, .op 2 .e, .op 3 .e]) rfl ?_
  refine rx_s rfl rfl rfl rfl rfl ?_
  refine rx_ldHA rfl rfl rfl rfl rfl rfl (by (repeat first|exact .here|apply Take1.there)) Fa.ag_56 Fa.sz_56 (vs := [_, _]) (by rfl) rfl ?_
  refine rx_callH (F := ?FT25) rfl rfl rfl rfl rfl rfl rfl rfl Fa.ca_110 rfl (find_nil a m fv h) ?T25 ?_
  case T25 => (repeat (first|exact Take.nil|refine Take.cons (by (repeat first|exact .here|apply Take1.there)) ?_))
  rintro _ _ ⟨rfl, rfl⟩
  try simp only [List.cons_append, List.nil_append]
  refine rx_s rfl rfl rfl rfl rfl ?_
  refine rx_end0 ?_
  refine SW.seq ?_
  refine SW.seq ?_
  refine SW.reg (l := [.op 0 .e, .op 1 .e]) rfl ?_
  refine rx_s rfl rfl rfl rfl rfl ?_
  refine rx_eqnil rfl rfl rfl rfl rfl Fa.pt_194 rfl ?_
  refine rx_end0 ?_
  refine SW.cond rfl (fun h12 => ?_) (fun h12 => ?_)
  · skip
    refine SW.seq ?_
    refine SW.reg (l := [.op 0 .e]) rfl ?_
    refine rx_alloc (.inr rfl) rfl rfl rfl rfl rfl Fa.z_75 ?_
    intro b7
    refine rx_end0 ?_
    refine SW.seq ?_
    refine SW.reg (l := [.op 0 .e, .op 1 .e, .op 2 .e]) rfl ?_
    refine rx_ldHA rfl rfl rfl rfl rfl rfl (by (repeat first|exact .here|apply Take1.there)) Fa.ag_75 Fa.sz_75 (vs := [_, _, _, _, _, _, _, _, _]) (by rfl) rfl ?_
    refine rx_stp rfl rfl rfl rfl rfl rfl (by (repeat first|exact .here|apply Take1.there)) Fa.sz_75 (vs := [_, _, _, _, _, _, _, _, _]) rfl rfl rfl (by rfl) (cl' := [_, _, _, _, _, _, _, _, _]) (by rfl) ?_
    refine rx_s rfl rfl rfl rfl rfl ?_
    refine rx_end0 ?_
    refine SW.ret ?_
    exact retK2 (l := [_]) (.cell rfl (by (repeat first|exact .here|apply Take1.there)) (.inr ⟨9, _, Fa.ag_75, Fa.sz_75, rfl, rfl, rfl⟩) (.tmp rfl .nil)) ⟨rfl, rfl⟩ (.one (by (repeat first|exact .here|apply Take1.there)) .nil)
  · simp at h12
theorem get_some (a b cap : Nat) (A : Ar KNode) (rest : List Value) (fv : Value) (h : Handle) (hA : A.ok) :
    Sl.Spec Tryz.prog 82 #[.pointer (some ⟨a, 0, none⟩), .agg #[.int .i64 h.slot, .int .i64 h.gen]]
      [blk a [.int .i64 A.most, .slice (some ⟨b, 0, none⟩) A.sl.length cap, fv] 212 (0, 0), blk b (flat A.sl ++ rest) 197 (0, 0)]
      (fun v l => v = getV (A.get h) ∧ l = [blk a [.int .i64 A.most, .slice (some ⟨b, 0, none⟩) A.sl.length cap, fv] 212 (0, 0), blk b (flat A.sl ++ rest) 197 (0, 0)]) := by
  unfold Ar.get
  rcases hf : A.find h with _ | i
  · skip
    refine Spec.enter Tryz.func82 rfl rfl rfl ?_
    refine SW.seq ?_
    refine SW.reg (l := [.op 0 .e, .op 1 .e, .op 2 .e]) rfl ?_
    refine rx_box (.inr rfl) rfl rfl rfl rfl rfl rfl (cl := [_, _]) rfl ?_
    intro b3
    refine rx_alloc (.inr rfl) rfl rfl rfl rfl rfl Fa.z_75 ?_
    intro b4
    refine rx_s rfl rfl rfl rfl rfl ?_
    refine rx_end0 ?_
    refine SW.seq ?_
    refine SW.reg (l := [.op 0 .e, .op 1 .e, .op 2 .e, .op 3 .e]) rfl ?_
    refine rx_s rfl rfl rfl rfl rfl ?_
    refine rx_ldHA rfl rfl rfl rfl rfl rfl (by (repeat first|exact .here|apply Take1.there)) Fa.ag_56 Fa.sz_56 (vs := [_, _]) (by rfl) rfl ?_
    refine rx_callH (F := ?FT26) rfl rfl rfl rfl rfl rfl rfl rfl Fa.ca_110 rfl (find_some a b cap A rest fv h hA) ?T26 ?_
    case T26 => (repeat (first|exact Take.nil|refine Take.cons (by (repeat first|exact .here|apply Take1.there)) ?_))
    rintro _ _ ⟨rfl, rfl⟩
    rw [hf]
    simp only [findV]
    try simp only [List.cons_append, List.nil_append]
    refine rx_s rfl rfl rfl rfl rfl ?_
    refine rx_end0 ?_
    refine SW.seq ?_
    refine SW.seq ?_
    refine SW.reg (l := [.op 0 .e, .op 1 .e]) rfl ?_
    refine rx_s rfl rfl rfl rfl rfl ?_
    refine rx_eqnil rfl rfl rfl rfl rfl Fa.pt_194 rfl ?_
    refine rx_end0 ?_
    refine SW.cond rfl (fun h12 => ?_) (fun h12 => ?_)
    · skip
      refine SW.seq ?_
      refine SW.reg (l := [.op 0 .e]) rfl ?_
      refine rx_alloc (.inr rfl) rfl rfl rfl rfl rfl Fa.z_75 ?_
      intro b7
      refine rx_end0 ?_
      refine SW.seq ?_
      refine SW.reg (l := [.op 0 .e, .op 1 .e, .op 2 .e]) rfl ?_
      refine rx_ldHA rfl rfl rfl rfl rfl rfl (by (repeat first|exact .here|apply Take1.there)) Fa.ag_75 Fa.sz_75 (vs := [_, _, _, _, _, _, _, _, _]) (by rfl) rfl ?_
      refine rx_stp rfl rfl rfl rfl rfl rfl (by (repeat first|exact .here|apply Take1.there)) Fa.sz_75 (vs := [_, _, _, _, _, _, _, _, _]) rfl rfl rfl (by rfl) (cl' := [_, _, _, _, _, _, _, _, _]) (by rfl) ?_
      refine rx_s rfl rfl rfl rfl rfl ?_
      refine rx_end0 ?_
      refine SW.ret ?_
      exact retK2 (l := [_, _]) (.cell rfl (by (repeat first|exact .here|apply Take1.there)) (.inr ⟨9, _, Fa.ag_75, Fa.sz_75, rfl, rfl, rfl⟩) (.tmp rfl .nil)) ⟨rfl, rfl⟩ (.one (by (repeat first|exact .here|apply Take1.there)) (.one (by (repeat first|exact .here|apply Take1.there)) .nil))
    · simp at h12
  · obtain ⟨s, hs, _⟩ := Ar.find_get hf
    simp only [hs, Option.map_some]
    refine Spec.enter Tryz.func82 rfl rfl rfl ?_
    refine SW.seq ?_
    refine SW.reg (l := [.op 0 .e, .op 1 .e, .op 2 .e]) rfl ?_
    refine rx_box (.inr rfl) rfl rfl rfl rfl rfl rfl (cl := [_, _]) rfl ?_
    intro b3
    refine rx_alloc (.inr rfl) rfl rfl rfl rfl rfl Fa.z_75 ?_
    intro b4
    refine rx_s rfl rfl rfl rfl rfl ?_
    refine rx_end0 ?_
    refine SW.seq ?_
    refine SW.reg (l := [.op 0 .e, .op 1 .e, .op 2 .e, .op 3 .e]) rfl ?_
    refine rx_s rfl rfl rfl rfl rfl ?_
    refine rx_ldHA rfl rfl rfl rfl rfl rfl (by (repeat first|exact .here|apply Take1.there)) Fa.ag_56 Fa.sz_56 (vs := [_, _]) (by rfl) rfl ?_
    refine rx_callH (F := ?FT27) rfl rfl rfl rfl rfl rfl rfl rfl Fa.ca_110 rfl (find_some a b cap A rest fv h hA) ?T27 ?_
    case T27 => (repeat (first|exact Take.nil|refine Take.cons (by (repeat first|exact .here|apply Take1.there)) ?_))
    rintro _ _ ⟨rfl, rfl⟩
    rw [hf]
    simp only [findV]
    try simp only [List.cons_append, List.nil_append]
    refine rx_s rfl rfl rfl rfl rfl ?_
    refine rx_end0 ?_
    refine SW.seq ?_
    refine SW.seq ?_
    refine SW.reg (l := [.op 0 .e, .op 1 .e]) rfl ?_
    refine rx_s rfl rfl rfl rfl rfl ?_
    refine rx_eqnil rfl rfl rfl rfl rfl Fa.pt_194 rfl ?_
    refine rx_end0 ?_
    refine SW.cond rfl (fun h12 => ?_) (fun h12 => ?_)
    · simp at h12
    · skip
      refine SW.skip ?_
      try simp only [thenK, blockK, cond_true, cond_false, beq_self_eq_true, Nat.reduceBEq]
      refine SW.seq ?_
      refine SW.reg (l := [.op 0 .e, .op 1 .e, .op 2 .e, .op 3 .e, .op 4 .e, .op 5 .e]) rfl ?_
      iterate 2 refine rx_s rfl rfl rfl rfl rfl ?_
      refine rx_fa rfl rfl rfl rfl rfl rfl Fa.fo_197_2 ?_
      refine rx_ldHA rfl rfl rfl rfl rfl rfl (by (repeat first|exact .here|apply Take1.there)) Fa.ag_75 Fa.sz_75 (vs := [_, _, _, _, _, _, _, _, _]) (by exact sdrop hs (j := 2) (by omega) (by omega) rest) rfl ?_
      refine rx_stp rfl rfl rfl rfl rfl rfl (by (repeat first|exact .here|apply Take1.there)) Fa.sz_75 (vs := [_, _, _, _, _, _, _, _, _]) rfl rfl rfl (by rfl) (cl' := [_, _, _, _, _, _, _, _, _]) (by rfl) ?_
      refine rx_s rfl rfl rfl rfl rfl ?_
      refine rx_end0 ?_
      refine SW.ret ?_
      exact retK2 (l := [_, _]) (.cell rfl (by (repeat first|exact .here|apply Take1.there)) (.inr ⟨9, _, Fa.ag_75, Fa.sz_75, rfl, rfl, rfl⟩) (.tmp rfl .nil)) ⟨rfl, rfl⟩ (.one (by (repeat first|exact .here|apply Take1.there)) (.one (by (repeat first|exact .here|apply Take1.there)) .nil))
/-- 'Get' -/
theorem get (a : Nat) (A : Ar KNode) (h : Handle) (hA : A.ok) :
    Sl.Spec Tryz.prog 82 #[.pointer (some ⟨a, 0, none⟩), .agg #[.int .i64 h.slot, .int .i64 h.gen]] [ArP a A] (fun v l => v = getV (A.get h) ∧ l = [ArP a A]) := by
  refine Holt.Spec.exH 0 rfl ?_
  rintro ⟨sv, fv⟩
  simp only [List.cons_append, List.nil_append]
  refine Holt.Spec.slopen 1 rfl ?_ ?_
  · rintro rfl hx
    have hn : A.sl = [] := flat_nil hx
    have hg : A.get h = none := by unfold Ar.get Ar.find; rw [hn, if_pos (by simp; omega)]
    rw [hg]
    refine Holt.Spec.conseq (Sl.Spec.frame (F := [SlOwn 3 1 fv (flat A.fr)]) (get_nil a A.most fv h)) ?_
    rintro v l ⟨l', ⟨rfl, rfl⟩, rfl⟩
    exact ⟨[_], ⟨rfl, rfl⟩, foldA (slown_nil _ _ (.one .here (.one .here .nil))) (by rw [hn]; rfl) rfl⟩
  · rintro b len cap rest rfl hx hy hlc h1
    rw [flen] at hx
    have e1 : len = A.sl.length := by omega
    subst e1
    refine Sl.Spec.pre (EntL.ent (.one (.there .here) (.one .here (.one .here .nil)))) ?_
    refine Holt.Spec.conseq (Sl.Spec.frame (F := [SlOwn 3 1 fv (flat A.fr)]) (get_some a b cap A rest fv h hA)) ?_
    rintro v l ⟨l', ⟨rfl, rfl⟩, rfl⟩
    exact ⟨[_], ⟨rfl, rfl⟩, foldA (slown_mk (.there .here) rfl h1 (flen _) hy hlc (.one .here (.one .here .nil))) rfl rfl⟩

theorem sfit {l : List (Slot KNode)} {i : Nat} {s : Slot KNode} (h : l[i]? = some s) {j k off : Nat} (hj : j + k ≤ 11) (ho : off = i * 11 + j) (rest : List Value) : Nat.ble (off + k) (flat l ++ rest).length = true := by
  have hi : i < l.length := (List.getElem?_eq_some_iff.1 h).1
  apply Nat.ble_eq_true_of_le
  rw [List.length_append, flen]
  omega
theorem iget {l : List Int} {i : Nat} {s : Int} (h : l[i]? = some s) {off : Nat} (ho : off = i * 1) (rest : List Value) : (flat l ++ rest)[off]? = some (.int .i64 s) := flat_get h (j := 0) (by decide) (by rw [ho]; rfl) rest

/-- 'next', where none was freed -/
theorem next_nil (a : Nat) (A : Ar KNode) (hA : A.ok) (hf : A.fr = []) :
    Sl.Spec Tryz.prog 210 #[.pointer (some ⟨a, 0, none⟩)] [ArP a A] (fun v l => v = .int .i64 (A.next KNode.zero).2 ∧ l = [ArP a (A.next KNode.zero).1]) := by
  have h1 := hA.len
  have h2 := hA.most
  have hn : A.next KNode.zero = ({ A with sl := A.sl ++ [⟨0, false, KNode.zero⟩] }, (A.sl.length + 1 : Int)) := by unfold Ar.next; rw [hf]; rfl
  rw [hn]
  refine Spec.enter Tryz.func210 rfl rfl rfl ?_
  refine SW.exH 0 rfl ?_
  rintro ⟨sv, fv⟩
  simp only [List.cons_append, List.nil_append]
  refine SW.slshape 1 rfl ?_
  rintro p1 m1 c1 rfl hm1
  refine SW.slshape 2 rfl ?_
  rintro p2 m2 c2 rfl hm2
  have e2 : m2 = 0 := by rw [ilen, hf] at hm2; simp at hm2; omega
  subst e2
  refine SW.seq ?_
  refine SW.reg (l := [.op 0 .e]) rfl ?_
  refine rx_s rfl rfl rfl rfl rfl ?_
  refine rx_end0 ?_
  refine SW.seq ?_
  refine SW.reg (l := [.op 0 .e, .op 1 .e, .op 2 .e, .op 3 .e, .op 4 .e, .op 5 .e]) rfl ?_
  iterate 2 refine rx_s rfl rfl rfl rfl rfl ?_
  refine rx_fa rfl rfl rfl rfl rfl rfl Fa.fo_212_2 ?_
  refine rx_ldH1 rfl rfl rfl rfl rfl rfl (by (repeat first|exact .here|apply Take1.there)) Fa.ag_121 (by rfl) ?_
  refine rx_len rfl rfl rfl rfl rfl rfl (lenV_sl Fa.sl_121 _ _ _) ?_
  refine rx_s rfl rfl rfl rfl rfl ?_
  refine rx_end0 ?_
  refine SW.seq ?_
  refine SW.seq ?_
  refine SW.reg (l := [.op 0 .e, .op 1 .e]) rfl ?_
  iterate 2 refine rx_s rfl rfl rfl rfl rfl ?_
  refine rx_end0 ?_
  refine SW.cond rfl (fun h11 => ?_) (fun h11 => ?_)
  · skip
    refine SW.seq ?_
    refine SW.reg (l := [.op 0 .e, .op 1 .e, .op 2 .e, .op 3 .e, .op 4 .e, .op 5 .e, .op 6 .e, .op 7 .e, .op 8 .e, .op 9 .e, .op 10 .e]) rfl ?_
    iterate 3 refine rx_s rfl rfl rfl rfl rfl ?_
    refine rx_fa rfl rfl rfl rfl rfl rfl Fa.fo_212_1 ?_
    refine rx_ldH1 rfl rfl rfl rfl rfl rfl (by (repeat first|exact .here|apply Take1.there)) Fa.ag_210 (by rfl) ?_
    refine rx_build rfl rfl rfl rfl rfl Fa.st_197 rfl (cs := [_, _, _, _, _, _, _, _, _, _, _]) rfl ?_
    refine rx_bslice (.inr rfl) rfl rfl rfl rfl rfl Fa.sl_210 Fa.z_197 rfl rfl rfl rfl rfl (cl := [_, _, _, _, _, _, _, _, _, _, _]) rfl ?_
    intro b18
    refine rx_app1 rfl rfl rfl rfl rfl Fa.sl_210 Fa.z_197 rfl rfl rfl rfl rfl (by (repeat first|exact .here|apply Take1.there)) (by (repeat first|exact .here|apply Take1.there)) (ys := [_, _, _, _, _, _, _, _, _, _, _]) (by rfl) rfl rfl (by rw [flen]; simp; omega) ?_
    intro p19 m19 c19 hm19
    have e1 : m19 = A.sl.length + 1 := by rw [List.length_append, flen] at hm19; simp at hm19; omega
    subst e1
    refine rx_s rfl rfl rfl rfl rfl ?_
    refine rx_fa rfl rfl rfl rfl rfl rfl Fa.fo_212_1 ?_
    refine rx_stp rfl rfl rfl rfl rfl rfl (by (repeat first|exact .here|apply Take1.there)) Fa.sz_210 (vs := [_]) rfl rfl rfl (by rfl) (cl' := [_, _, _]) (by rfl) ?_
    refine rx_end0 ?_
    refine SW.seq ?_
    refine SW.reg (l := [.op 0 .e, .op 1 .e, .op 2 .e, .op 3 .e, .op 4 .e, .op 5 .e]) rfl ?_
    iterate 2 refine rx_s rfl rfl rfl rfl rfl ?_
    refine rx_fa rfl rfl rfl rfl rfl rfl Fa.fo_212_1 ?_
    refine rx_ldH1 rfl rfl rfl rfl rfl rfl (by (repeat first|exact .here|apply Take1.there)) Fa.ag_210 (by rfl) ?_
    refine rx_len rfl rfl rfl rfl rfl rfl (lenV_sl Fa.sl_210 _ _ _) ?_
    refine rx_s rfl rfl rfl rfl rfl ?_
    refine rx_end0 ?_
    refine SW.ret ?_
    exact retK1 (l := [_]) (.tmp rfl .nil) ⟨by simp, rfl⟩ (foldA (.one (by (repeat first|exact .here|apply Take1.there)) (.one (by (repeat first|exact .here|apply Take1.there)) (.one (by (repeat first|exact .here|apply Take1.there)) .nil))) ((flat_append A.sl [(⟨0, false, KNode.zero⟩ : Slot KNode)]).symm) rfl)
  · simp at h11

/-- 'next', where one was freed -/
theorem next_cons (a : Nat) (A : Ar KNode) (hA : A.ok) (fr : List Int) (i : Int) (hf : A.fr = fr ++ [i]) :
    Sl.Spec Tryz.prog 210 #[.pointer (some ⟨a, 0, none⟩)] [ArP a A] (fun v l => v = .int .i64 (A.next KNode.zero).2 ∧ l = [ArP a (A.next KNode.zero).1]) := by
  have h1 := hA.len
  have h2 := hA.most
  have h3 := hA.frlen
  have hn : A.next KNode.zero = ({ A with fr := fr }, i) := by unfold Ar.next; rw [hf]; simp
  rw [hn]
  rw [hf, List.length_append, List.length_singleton] at h3
  refine Spec.enter Tryz.func210 rfl rfl rfl ?_
  refine SW.exH 0 rfl ?_
  rintro ⟨sv, fv⟩
  simp only [List.cons_append, List.nil_append, hf]
  refine SW.slshape 1 rfl ?_
  rintro p1 m1 c1 rfl hm1
  refine SW.slopen 2 rfl (fun _ q => ?_) ?_
  · rw [flat_append] at q; simp [flat, enc, Enc.enc] at q
  rintro fb m2 c2 rest rfl hm2 hc2 hl2 hone
  have e2 : m2 = fr.length + 1 := by rw [ilen] at hm2; simp at hm2; omega
  subst e2
  refine SW.seq ?_
  refine SW.reg (l := [.op 0 .e]) rfl ?_
  refine rx_s rfl rfl rfl rfl rfl ?_
  refine rx_end0 ?_
  refine SW.seq ?_
  refine SW.reg (l := [.op 0 .e, .op 1 .e, .op 2 .e, .op 3 .e, .op 4 .e, .op 5 .e]) rfl ?_
  iterate 2 refine rx_s rfl rfl rfl rfl rfl ?_
  refine rx_fa rfl rfl rfl rfl rfl rfl Fa.fo_212_2 ?_
  refine rx_ldH1 rfl rfl rfl rfl rfl rfl (by (repeat first|exact .here|apply Take1.there)) Fa.ag_121 (by rfl) ?_
  refine rx_len rfl rfl rfl rfl rfl rfl (lenV_sl Fa.sl_121 _ _ _) ?_
  refine rx_s rfl rfl rfl rfl rfl ?_
  refine rx_end0 ?_
  refine SW.seq ?_
  refine SW.seq ?_
  refine SW.reg (l := [.op 0 .e, .op 1 .e]) rfl ?_
  iterate 2 refine rx_s rfl rfl rfl rfl rfl ?_
  refine rx_end0 ?_
  refine SW.cond rfl (fun h11 => ?_) (fun h11 => ?_)
  · (simp at h11; omega)
  · skip
    refine SW.skip ?_
    try simp only [thenK, blockK, cond_true, cond_false, beq_self_eq_true, Nat.reduceBEq]
    refine SW.seq ?_
    refine SW.reg (l := [.op 0 .e, .op 1 .e, .op 2 .e, .op 3 .e, .op 4 .e, .op 5 .e, .op 6 .e, .op 7 .e, .op 8 .e]) rfl ?_
    iterate 2 refine rx_s rfl rfl rfl rfl rfl ?_
    refine rx_fa rfl rfl rfl rfl rfl rfl Fa.fo_212_2 ?_
    refine rx_ldH1 rfl rfl rfl rfl rfl rfl (by (repeat first|exact .here|apply Take1.there)) Fa.ag_121 (by rfl) ?_
    refine rx_s rfl rfl rfl rfl rfl ?_
    refine rx_ar rfl rfl rfl rfl rfl (by simp; omega) ?_
    refine rx_ix rfl rfl rfl rfl rfl Fa.sl_121 rfl rfl (by simp; omega) ?_
    refine rx_ldH1 rfl rfl rfl rfl rfl rfl (by (repeat first|exact .here|apply Take1.there)) Fa.ag_3 (by exact iget (l := fr ++ [i]) (i := fr.length) (s := i) (by simp) (by simp <;> omega) rest) ?_
    refine rx_s rfl rfl rfl rfl rfl ?_
    refine rx_end0 ?_
    refine SW.seq ?_
    refine SW.reg (l := [.op 0 .e, .op 1 .e, .op 2 .e, .op 3 .e, .op 4 .e, .op 5 .e, .op 6 .e, .op 7 .e, .op 8 .e, .op 9 .e, .op 10 .e]) rfl ?_
    iterate 3 refine rx_s rfl rfl rfl rfl rfl ?_
    refine rx_fa rfl rfl rfl rfl rfl rfl Fa.fo_212_2 ?_
    refine rx_ldH1 rfl rfl rfl rfl rfl rfl (by (repeat first|exact .here|apply Take1.there)) Fa.ag_121 (by rfl) ?_
    refine rx_s rfl rfl rfl rfl rfl ?_
    refine rx_ar rfl rfl rfl rfl rfl (by simp; omega) ?_
    refine rx_slhi rfl rfl rfl rfl rfl Fa.sl_121 rfl rfl (by simp; omega) ?_
    refine rx_s rfl rfl rfl rfl rfl ?_
    refine rx_fa rfl rfl rfl rfl rfl rfl Fa.fo_212_2 ?_
    refine rx_stp rfl rfl rfl rfl rfl rfl (by (repeat first|exact .here|apply Take1.there)) Fa.sz_121 (vs := [_]) rfl rfl rfl (by rfl) (cl' := [_, _, _]) (by rfl) ?_
    refine rx_end0 ?_
    refine SW.seq ?_
    refine SW.reg (l := [.op 0 .e, .op 1 .e]) rfl ?_
    iterate 2 refine rx_s rfl rfl rfl rfl rfl ?_
    refine rx_end0 ?_
    refine SW.ret ?_
    refine retK1 (l := [_]) (.tmp rfl .nil) ⟨rfl, rfl⟩ (foldA (.one (by (repeat first|exact .here|apply Take1.there)) (.one (by (repeat first|exact .here|apply Take1.there)) (slown_mk (xs := flat fr) (rest := .int .i64 i :: rest) (by (repeat first|exact .here|apply Take1.there)) ?_ (flat_one fr) ?_ ?_ ?_ .nil))) rfl rfl)
    · rw [flat_append, List.append_assoc]; rfl
    · rw [ilen]; simp
    · rw [ilen] at hc2 ⊢; simp at hc2 ⊢; omega
    · simp; omega
theorem next (a : Nat) (A : Ar KNode) (hA : A.ok) :
    Sl.Spec Tryz.prog 210 #[.pointer (some ⟨a, 0, none⟩)] [ArP a A] (fun v l => v = .int .i64 (A.next KNode.zero).2 ∧ l = [ArP a (A.next KNode.zero).1]) := by
  rcases List.eq_nil_or_concat A.fr with h | ⟨fr, i, h⟩
  · exact next_nil a A hA h
  · exact next_cons a A hA fr i (by rw [h, List.concat_eq_append])

/-- 'Put', where there is no room -/
theorem put_full (a : Nat) (A : Ar KNode) (x : KNode) (hA : A.ok) (hr : A.room = 0) :
    Sl.Spec Tryz.prog 187 #[.pointer (some ⟨a, 0, none⟩), .agg (enc x).toArray] [ArP a A] (fun v l => v = .tuple #[.agg #[.int .i64 0, .int .i64 0], .bool false] ∧ l = [ArP a A]) := by
  refine Spec.enter Tryz.func187 rfl rfl rfl ?_
  refine SW.seq ?_
  refine SW.reg (l := [.op 0 .e, .op 1 .e, .op 2 .e]) rfl ?_
  refine rx_box (.inr rfl) rfl rfl rfl rfl rfl rfl (cl := [_, _, _, _, _, _, _, _, _]) rfl ?_
  intro b3
  refine rx_alloc (.inr rfl) rfl rfl rfl rfl rfl Fa.z_56 ?_
  intro b4
  refine rx_s rfl rfl rfl rfl rfl ?_
  refine rx_end0 ?_
  refine SW.seq ?_
  refine SW.seq ?_
  refine SW.reg (l := [.op 0 .e, .op 1 .e, .op 2 .e]) rfl ?_
  refine rx_s rfl rfl rfl rfl rfl ?_
  refine rx_callH (F := ?FT28) rfl rfl rfl rfl rfl rfl rfl rfl Fa.ca_186 rfl (room a A hA) ?T28 ?_
  case T28 => (repeat (first|exact Take.nil|refine Take.cons (by (repeat first|exact .here|apply Take1.there)) ?_))
  rintro _ _ ⟨rfl, rfl⟩
  try simp only [List.cons_append, List.nil_append]
  refine rx_s rfl rfl rfl rfl rfl ?_
  refine rx_end0 ?_
  refine SW.cond rfl (fun h10 => ?_) (fun h10 => ?_)
  · skip
    refine SW.seq ?_
    refine SW.reg (l := [.op 0 .e, .op 1 .e, .op 2 .e]) rfl ?_
    refine rx_build rfl rfl rfl rfl rfl Fa.st_56 rfl (cs := [_, _]) rfl ?_
    refine rx_stp rfl rfl rfl rfl rfl rfl (by (repeat first|exact .here|apply Take1.there)) Fa.sz_56 (vs := [_, _]) rfl rfl rfl (by rfl) (cl' := [_, _]) (by rfl) ?_
    refine rx_s rfl rfl rfl rfl rfl ?_
    refine rx_end0 ?_
    refine SW.ret ?_
    exact retK2 (l := [_]) (.cell rfl (by (repeat first|exact .here|apply Take1.there)) (.inr ⟨2, _, Fa.ag_56, Fa.sz_56, rfl, rfl, rfl⟩) (.tmp rfl .nil)) ⟨rfl, rfl⟩ (.one (by (repeat first|exact .here|apply Take1.there)) .nil)
  · (rw [hr] at h10; simp at h10)
theorem put (a : Nat) (A : Ar KNode) (x : KNode) (hA : A.ok) (hr : A.room ≠ 0) :
    Sl.Spec Tryz.prog 187 #[.pointer (some ⟨a, 0, none⟩), .agg (enc x).toArray] [ArP a A]
      (fun v l => v = .tuple #[.agg #[.int .i64 (A.put KNode.zero x).2.slot, .int .i64 (A.put KNode.zero x).2.gen], .bool true] ∧ l = [ArP a (A.put KNode.zero x).1]) := by
  obtain ⟨hi1, hi2, hi3, hi4⟩ := Ar.next_in (zero := KNode.zero) hA hr
  unfold Ar.put
  generalize hB : (A.next KNode.zero).1 = B at *
  generalize hI : (A.next KNode.zero).2 = I at *
  obtain ⟨s, hs⟩ : ∃ s, B.sl[(I - 1).toNat]? = some s := ⟨_, List.getElem?_eq_getElem (by omega)⟩
  have hsg := hi3 s (List.mem_of_getElem? hs)
  have hput : B.lay I x = ({ B with sl := B.sl.set (I - 1).toNat ⟨s.gen + 1, true, x⟩ }, ⟨I, s.gen + 1⟩) := by unfold Ar.lay; rw [hs]
  rw [hput]
  have hlt : (I - 1).toNat < B.sl.length := by omega
  have g0 : ∀ t : Slot KNode, (B.sl.set (I - 1).toNat t)[(I - 1).toNat]? = some t := fun t => List.getElem?_set_self hlt
  have g1 : ∀ t u : Slot KNode, ((B.sl.set (I - 1).toNat t).set (I - 1).toNat u)[(I - 1).toNat]? = some u := fun t u => List.getElem?_set_self (by rw [List.length_set]; exact hlt)
  have g2 : ∀ t u r : Slot KNode, (((B.sl.set (I - 1).toNat t).set (I - 1).toNat u).set (I - 1).toNat r)[(I - 1).toNat]? = some r := fun t u r => List.getElem?_set_self (by rw [List.length_set, List.length_set]; exact hlt)
  have nx := next a A hA
  rw [hB, hI] at nx
  refine Spec.enter Tryz.func187 rfl rfl rfl ?_
  refine SW.seq ?_
  refine SW.reg (l := [.op 0 .e, .op 1 .e, .op 2 .e]) rfl ?_
  refine rx_box (.inr rfl) rfl rfl rfl rfl rfl rfl (cl := [_, _, _, _, _, _, _, _, _]) rfl ?_
  intro b3
  refine rx_alloc (.inr rfl) rfl rfl rfl rfl rfl Fa.z_56 ?_
  intro b4
  refine rx_s rfl rfl rfl rfl rfl ?_
  refine rx_end0 ?_
  refine SW.seq ?_
  refine SW.seq ?_
  refine SW.reg (l := [.op 0 .e, .op 1 .e, .op 2 .e]) rfl ?_
  refine rx_s rfl rfl rfl rfl rfl ?_
  refine rx_callH (F := ?FT29) rfl rfl rfl rfl rfl rfl rfl rfl Fa.ca_186 rfl (room a A hA) ?T29 ?_
  case T29 => (repeat (first|exact Take.nil|refine Take.cons (by (repeat first|exact .here|apply Take1.there)) ?_))
  rintro _ _ ⟨rfl, rfl⟩
  try simp only [List.cons_append, List.nil_append]
  refine rx_s rfl rfl rfl rfl rfl ?_
  refine rx_end0 ?_
  refine SW.cond rfl (fun h10 => ?_) (fun h10 => ?_)
  · (simp at h10; exact absurd h10 hr)
  · skip
    refine SW.skip ?_
    try simp only [thenK, blockK, cond_true, cond_false, beq_self_eq_true, Nat.reduceBEq]
    refine SW.seq ?_
    refine SW.reg (l := [.op 0 .e, .op 1 .e, .op 2 .e]) rfl ?_
    refine rx_s rfl rfl rfl rfl rfl ?_
    refine rx_callH (F := ?FT30) rfl rfl rfl rfl rfl rfl rfl rfl Fa.ca_210 rfl (nx) ?T30 ?_
    case T30 => (repeat (first|exact Take.nil|refine Take.cons (by (repeat first|exact .here|apply Take1.there)) ?_))
    rintro _ _ ⟨rfl, rfl⟩
    try simp only [List.cons_append, List.nil_append]
    refine rx_s rfl rfl rfl rfl rfl ?_
    refine rx_end0 ?_
    refine SW.seq ?_
    refine SW.exH 0 rfl ?_
    rintro ⟨sv, fv⟩
    simp only [List.cons_append, List.nil_append]
    refine SW.slopen 1 rfl (fun _ q => ?_) ?_
    · have := flat_nil q; rw [this] at hlt; simp at hlt
    rintro sb m1 c1 rest rfl hm1 hc1 hl1 hone
    have e1 : m1 = B.sl.length := by rw [flen] at hm1; omega
    subst e1
    refine SW.reg (l := [.op 0 .e, .op 1 .e, .op 2 .e, .op 3 .e, .op 4 .e, .op 5 .e, .op 6 .e, .op 7 .e]) rfl ?_
    iterate 2 refine rx_s rfl rfl rfl rfl rfl ?_
    refine rx_fa rfl rfl rfl rfl rfl rfl Fa.fo_212_1 ?_
    refine rx_ldH1 rfl rfl rfl rfl rfl rfl (by (repeat first|exact .here|apply Take1.there)) Fa.ag_210 (by rfl) ?_
    refine rx_s rfl rfl rfl rfl rfl ?_
    refine rx_ar rfl rfl rfl rfl rfl (by omega) ?_
    refine rx_ix rfl rfl rfl rfl rfl Fa.sl_210 rfl rfl (by omega) ?_
    refine rx_s rfl rfl rfl rfl rfl ?_
    refine rx_end0 ?_
    refine SW.seq ?_
    refine SW.drawT (Hs := []) (D0l := [blk b3 (enc x) 75 (0, 0)]) (Dl := ?DT31) (F := ?FT31) Fa.mix (tp := [0, 0, 0, 0, 8, 24, 56, 120, 0, 249, 761, 1785, 3835, 7931, 16123, 32767, 65535, 131071]) (l := [.op 0 .s, .op 1 .s, .op 2 .s, .op 3 .s, .op 4 .s, .op 5 .s, .op 6 .d, .op 7 .s, .op 8 .p, .op 9 .s, .op 10 .s, .bar, .op 11 .e, .op 12 .s, .op 13 .s, .op 14 .e, .op 15 .s, .op 16 .s, .op 17 .e]) (by kernel_rfl) ?T31a ?T31b ?_
    case T31a => (repeat (first|exact Take.nil|refine Take.cons (by (repeat first|exact .here|apply Take1.there)) ?_))
    case T31b => (repeat (first|exact Take.nil|refine Take.cons (by (repeat first|exact .here|apply Take1.there)) ?_))
    iterate 5 refine rx_s rfl rfl rfl rfl rfl ?_
    refine rx_fa rfl rfl rfl rfl rfl rfl Fa.fo_197_0 ?_
    refine rx_ldD1 rfl rfl rfl rfl rfl rfl rfl (by (repeat first|exact .here|apply Take1.there)) Fa.ag_3 (by exact sget hs (j := 0) (by omega) (by omega) rest) ?_
    refine rx_ar rfl rfl rfl rfl rfl (by omega) ?_
    refine rx_ldPA rfl rfl rfl rfl rfl rfl (by (repeat first|exact .here|apply Take1.there)) Fa.ag_75 Fa.sz_75 (vs := [_, _, _, _, _, _, _, _, _]) (by rfl) rfl ?_
    refine rx_s rfl rfl rfl rfl rfl ?_
    refine rx_fa rfl rfl rfl rfl rfl rfl Fa.fo_197_0 ?_
    refine rx_barAll ?_
    try simp only [List.cons_append, List.nil_append]
    refine rx_stp rfl rfl rfl rfl rfl rfl (by (repeat first|exact .here|apply Take1.there)) Fa.sz_3 (vs := [_]) rfl rfl rfl (by exact sfit hs (j := 0) (by decide) (by omega) rest) (cl' := _) (by exact sput (s' := ⟨s.gen + 1, s.used, s.x⟩) hs (j := 0) (Nat.le_of_ble_eq_true rfl) (by omega) rfl rest) ?_
    refine rx_s rfl rfl rfl rfl rfl ?_
    refine rx_fa rfl rfl rfl rfl rfl rfl Fa.fo_197_1 ?_
    refine rx_stp rfl rfl rfl rfl rfl rfl (by (repeat first|exact .here|apply Take1.there)) Fa.sz_4 (vs := [_]) rfl rfl rfl (by exact sfit (g0 _) (j := 1) (by decide) (by omega) rest) (cl' := _) (by exact sput (s' := ⟨s.gen + 1, true, s.x⟩) (g0 _) (j := 1) (Nat.le_of_ble_eq_true rfl) (by omega) rfl rest) ?_
    refine rx_s rfl rfl rfl rfl rfl ?_
    refine rx_fa rfl rfl rfl rfl rfl rfl Fa.fo_197_2 ?_
    refine rx_stp rfl rfl rfl rfl rfl rfl (by (repeat first|exact .here|apply Take1.there)) Fa.sz_75 (vs := [_, _, _, _, _, _, _, _, _]) rfl rfl rfl (by exact sfit (g1 _ _) (j := 2) (by decide) (by omega) rest) (cl' := _) (by exact sput (s' := ⟨s.gen + 1, true, x⟩) (g1 _ _) (j := 2) (Nat.le_of_ble_eq_true rfl) (by omega) rfl rest) ?_
    refine rx_endD ?_
    try simp only [List.cons_append, List.nil_append]
    refine SW.seq ?_
    refine SW.reg (l := [.op 0 .e, .op 1 .e, .op 2 .e, .op 3 .e, .op 4 .e, .op 5 .e, .op 6 .e, .op 7 .e]) rfl ?_
    iterate 3 refine rx_s rfl rfl rfl rfl rfl ?_
    refine rx_fa rfl rfl rfl rfl rfl rfl Fa.fo_197_0 ?_
    refine rx_ldH1 rfl rfl rfl rfl rfl rfl (by (repeat first|exact .here|apply Take1.there)) Fa.ag_3 (by exact sget (g2 _ _ _) (j := 0) (by omega) (by omega) rest) ?_
    refine rx_build rfl rfl rfl rfl rfl Fa.st_56 rfl (cs := [_, _]) rfl ?_
    refine rx_stp rfl rfl rfl rfl rfl rfl (by (repeat first|exact .here|apply Take1.there)) Fa.sz_56 (vs := [_, _]) rfl rfl rfl (by rfl) (cl' := [_, _]) (by rfl) ?_
    refine rx_s rfl rfl rfl rfl rfl ?_
    refine rx_end0 ?_
    refine SW.ret ?_
    refine retK2 (l := [_]) (.cell rfl (by (repeat first|exact .here|apply Take1.there)) (.inr ⟨2, _, Fa.ag_56, Fa.sz_56, rfl, rfl, rfl⟩) (.tmp rfl .nil)) ⟨rfl, rfl⟩ (foldA (slown_mk (xs := flat (B.sl.set (I - 1).toNat ⟨s.gen + 1, true, x⟩)) (rest := rest) (by (repeat first|exact .here|apply Take1.there)) ?_ (flat_one _) ?_ ?_ hl1 (.one (by (repeat first|exact .here|apply Take1.there)) (.one (by (repeat first|exact .here|apply Take1.there)) .nil))) rfl rfl)
    · rw [List.set_set, List.set_set]
    · rw [flen, List.length_set]
    · rw [flen, List.length_set]; rw [flen] at hc1; exact hc1

theorem free_nil (a : Nat) (m : Int) (fv : Value) (h : Handle) :
    Sl.Spec Tryz.prog 183 #[.pointer (some ⟨a, 0, none⟩), .agg #[.int .i64 h.slot, .int .i64 h.gen]] [blk a [.int .i64 m, .slice none 0 0, fv] 212 (0, 0)]
      (fun v l => v = .bool false ∧ l = [blk a [.int .i64 m, .slice none 0 0, fv] 212 (0, 0)]) := by
  refine Spec.enter Tryz.func183 rfl rfl rfl ?_
  refine SW.seq ?_
  refine SW.reg (l := [.op 0 .e, .op 1 .e]) rfl ?_
  refine rx_box (.inr rfl) rfl rfl rfl rfl rfl rfl (cl := [_, _]) rfl ?_
  intro b3
  refine rx_s rfl rfl rfl rfl rfl ?_
  refine rx_end0 ?_
  refine SW.seq ?_
  refine SW.reg (l := [.op 0 .e, .op 1 .e, .op 2 .e, .op 3 .e]) rfl ?_
  refine rx_s rfl rfl rfl rfl rfl ?_
  refine rx_ldHA rfl rfl rfl rfl rfl rfl (by (repeat first|exact .here|apply Take1.there)) Fa.ag_56 Fa.sz_56 (vs := [_, _]) (by rfl) rfl ?_
  refine rx_callH (F := ?FT32) rfl rfl rfl rfl rfl rfl rfl rfl Fa.ca_110 rfl (find_nil a m fv h) ?T32 ?_
  case T32 => (repeat (first|exact Take.nil|refine Take.cons (by (repeat first|exact .here|apply Take1.there)) ?_))
  rintro _ _ ⟨rfl, rfl⟩
  try simp only [List.cons_append, List.nil_append]
  refine rx_s rfl rfl rfl rfl rfl ?_
  refine rx_end0 ?_
  refine SW.seq ?_
  refine SW.seq ?_
  refine SW.reg (l := [.op 0 .e, .op 1 .e]) rfl ?_
  refine rx_s rfl rfl rfl rfl rfl ?_
  refine rx_eqnil rfl rfl rfl rfl rfl Fa.pt_194 rfl ?_
  refine rx_end0 ?_
  refine SW.cond rfl (fun h11 => ?_) (fun h11 => ?_)
  · skip
    refine SW.seq ?_
    refine SW.reg (l := [.op 0 .e]) rfl ?_
    refine rx_s rfl rfl rfl rfl rfl ?_
    refine rx_end0 ?_
    refine SW.ret ?_
    exact retK1 (l := [_]) (.tmp rfl .nil) ⟨rfl, rfl⟩ (.one (by (repeat first|exact .here|apply Take1.there)) .nil)
  · simp at h11
theorem free_none (a b cap : Nat) (A : Ar KNode) (rest : List Value) (fv : Value) (h : Handle) (hA : A.ok) (hf : A.find h = none) :
    Sl.Spec Tryz.prog 183 #[.pointer (some ⟨a, 0, none⟩), .agg #[.int .i64 h.slot, .int .i64 h.gen]]
      [blk a [.int .i64 A.most, .slice (some ⟨b, 0, none⟩) A.sl.length cap, fv] 212 (0, 0), blk b (flat A.sl ++ rest) 197 (0, 0)]
      (fun v l => v = .bool false ∧ l = [blk a [.int .i64 A.most, .slice (some ⟨b, 0, none⟩) A.sl.length cap, fv] 212 (0, 0), blk b (flat A.sl ++ rest) 197 (0, 0)]) := by
  refine Spec.enter Tryz.func183 rfl rfl rfl ?_
  refine SW.seq ?_
  refine SW.reg (l := [.op 0 .e, .op 1 .e]) rfl ?_
  refine rx_box (.inr rfl) rfl rfl rfl rfl rfl rfl (cl := [_, _]) rfl ?_
  intro b3
  refine rx_s rfl rfl rfl rfl rfl ?_
  refine rx_end0 ?_
  refine SW.seq ?_
  refine SW.reg (l := [.op 0 .e, .op 1 .e, .op 2 .e, .op 3 .e]) rfl ?_
  refine rx_s rfl rfl rfl rfl rfl ?_
  refine rx_ldHA rfl rfl rfl rfl rfl rfl (by (repeat first|exact .here|apply Take1.there)) Fa.ag_56 Fa.sz_56 (vs := [_, _]) (by rfl) rfl ?_
  refine rx_callH (F := ?FT33) rfl rfl rfl rfl rfl rfl rfl rfl Fa.ca_110 rfl (find_some a b cap A rest fv h hA) ?T33 ?_
  case T33 => (repeat (first|exact Take.nil|refine Take.cons (by (repeat first|exact .here|apply Take1.there)) ?_))
  rintro _ _ ⟨rfl, rfl⟩
  rw [hf]
  simp only [findV]
  try simp only [List.cons_append, List.nil_append]
  refine rx_s rfl rfl rfl rfl rfl ?_
  refine rx_end0 ?_
  refine SW.seq ?_
  refine SW.seq ?_
  refine SW.reg (l := [.op 0 .e, .op 1 .e]) rfl ?_
  refine rx_s rfl rfl rfl rfl rfl ?_
  refine rx_eqnil rfl rfl rfl rfl rfl Fa.pt_194 rfl ?_
  refine rx_end0 ?_
  refine SW.cond rfl (fun h11 => ?_) (fun h11 => ?_)
  · skip
    refine SW.seq ?_
    refine SW.reg (l := [.op 0 .e]) rfl ?_
    refine rx_s rfl rfl rfl rfl rfl ?_
    refine rx_end0 ?_
    refine SW.ret ?_
    exact retK1 (l := [_, _]) (.tmp rfl .nil) ⟨rfl, rfl⟩ (.one (by (repeat first|exact .here|apply Take1.there)) (.one (by (repeat first|exact .here|apply Take1.there)) .nil))
  · simp at h11
theorem free_some (a b cap cap2 m2 : Nat) (p2 : Option Addr) (A : Ar KNode) (rest : List Value) (h : Handle) (hA : A.ok) (i : Nat) (s : Slot KNode) (hf : A.find h = some i) (hs : A.sl[i]? = some s)
    (hc : (flat A.sl).length + rest.length = cap * 11) (hl : A.sl.length ≤ cap) :
    Sl.Spec Tryz.prog 183 #[.pointer (some ⟨a, 0, none⟩), .agg #[.int .i64 h.slot, .int .i64 h.gen]]
      [blk a [.int .i64 A.most, .slice (some ⟨b, 0, none⟩) A.sl.length cap, .slice p2 m2 cap2] 212 (0, 0), blk b (flat A.sl ++ rest) 197 (0, 0), SlOwn 3 1 (.slice p2 m2 cap2) (flat A.fr)]
      (fun v l => v = .bool true ∧ l = [ArP a { A with sl := A.sl.set i ⟨s.gen, false, KNode.zero⟩, fr := A.fr ++ [h.slot] }]) := by
  have h1 := hA.len
  have h2 := hA.most
  have h3 := hA.frlen
  have hlt : i < A.sl.length := (List.getElem?_eq_some_iff.1 hs).1
  have g0 : ∀ t : Slot KNode, (A.sl.set i t)[i]? = some t := fun t => List.getElem?_set_self hlt
  refine Spec.enter Tryz.func183 rfl rfl rfl ?_
  refine SW.seq ?_
  refine SW.reg (l := [.op 0 .e, .op 1 .e]) rfl ?_
  refine rx_box (.inr rfl) rfl rfl rfl rfl rfl rfl (cl := [_, _]) rfl ?_
  intro b3
  refine rx_s rfl rfl rfl rfl rfl ?_
  refine rx_end0 ?_
  refine SW.seq ?_
  refine SW.reg (l := [.op 0 .e, .op 1 .e, .op 2 .e, .op 3 .e]) rfl ?_
  refine rx_s rfl rfl rfl rfl rfl ?_
  refine rx_ldHA rfl rfl rfl rfl rfl rfl (by (repeat first|exact .here|apply Take1.there)) Fa.ag_56 Fa.sz_56 (vs := [_, _]) (by rfl) rfl ?_
  refine rx_callH (F := ?FT34) rfl rfl rfl rfl rfl rfl rfl rfl Fa.ca_110 rfl (find_some a b cap A rest (.slice p2 m2 cap2) h hA) ?T34 ?_
  case T34 => (repeat (first|exact Take.nil|refine Take.cons (by (repeat first|exact .here|apply Take1.there)) ?_))
  rintro _ _ ⟨rfl, rfl⟩
  rw [hf]
  simp only [findV]
  try simp only [List.cons_append, List.nil_append]
  refine rx_s rfl rfl rfl rfl rfl ?_
  refine rx_end0 ?_
  refine SW.seq ?_
  refine SW.seq ?_
  refine SW.reg (l := [.op 0 .e, .op 1 .e]) rfl ?_
  refine rx_s rfl rfl rfl rfl rfl ?_
  refine rx_eqnil rfl rfl rfl rfl rfl Fa.pt_194 rfl ?_
  refine rx_end0 ?_
  refine SW.cond rfl (fun h11 => ?_) (fun h11 => ?_)
  · simp at h11
  · skip
    refine SW.skip ?_
    try simp only [thenK, blockK, cond_true, cond_false, beq_self_eq_true, Nat.reduceBEq]
    refine SW.seq ?_
    refine SW.reg (l := [.op 0 .e]) rfl ?_
    refine rx_alloc (.inr rfl) rfl rfl rfl rfl rfl Fa.z_75 ?_
    intro b6
    refine rx_end0 ?_
    refine SW.seq ?_
    refine SW.drawT (Hs := []) (D0l := [blk b6 (enc KNode.zero) 75 (0, 0)]) (Dl := ?DT35) (F := ?FT35) Fa.mix (tp := [0, 0, 0, 1, 9, 25, 63, 127, 255]) (l := [.op 0 .s, .op 1 .s, .op 2 .p, .op 3 .s, .op 4 .s, .bar, .op 5 .e, .op 6 .s, .op 7 .s, .op 8 .e]) (by kernel_rfl) ?T35a ?T35b ?_
    case T35a => (repeat (first|exact Take.nil|refine Take.cons (by (repeat first|exact .here|apply Take1.there)) ?_))
    case T35b => (repeat (first|exact Take.nil|refine Take.cons (by (repeat first|exact .here|apply Take1.there)) ?_))
    iterate 2 refine rx_s rfl rfl rfl rfl rfl ?_
    refine rx_ldPA rfl rfl rfl rfl rfl rfl (by (repeat first|exact .here|apply Take1.there)) Fa.ag_75 Fa.sz_75 (vs := [_, _, _, _, _, _, _, _, _]) (by rfl) rfl ?_
    refine rx_s rfl rfl rfl rfl rfl ?_
    refine rx_fa rfl rfl rfl rfl rfl rfl Fa.fo_197_1 ?_
    refine rx_barAll ?_
    try simp only [List.cons_append, List.nil_append]
    refine rx_stp rfl rfl rfl rfl rfl rfl (by (repeat first|exact .here|apply Take1.there)) Fa.sz_4 (vs := [_]) rfl rfl rfl (by exact sfit hs (k := 1) (j := 1) (by decide) (by omega) rest) (cl' := _) (by exact sput (s' := ⟨s.gen, false, s.x⟩) hs (j := 1) (Nat.le_of_ble_eq_true rfl) (by omega) rfl rest) ?_
    refine rx_s rfl rfl rfl rfl rfl ?_
    refine rx_fa rfl rfl rfl rfl rfl rfl Fa.fo_197_2 ?_
    refine rx_stp rfl rfl rfl rfl rfl rfl (by (repeat first|exact .here|apply Take1.there)) Fa.sz_75 (vs := [_, _, _, _, _, _, _, _, _]) rfl rfl rfl (by exact sfit (g0 _) (k := 9) (j := 2) (by decide) (by omega) rest) (cl' := _) (by exact sput (s' := ⟨s.gen, false, KNode.zero⟩) (g0 _) (j := 2) (Nat.le_of_ble_eq_true rfl) (by omega) rfl rest) ?_
    refine rx_endD ?_
    try simp only [List.cons_append, List.nil_append]
    refine SW.seq ?_
    refine SW.drawT (Hs := [SlOwn 3 1 (.slice p2 m2 cap2) (flat A.fr)]) (D0l := []) (Dl := ?DT36) (F := ?FT36) Fa.mix (tp := [0, 0, 2, 6, 14, 0, 32, 96, 254, 511, 1023, 2047]) (l := [.op 0 .s, .op 1 .s, .op 2 .s, .op 3 .s, .op 4 .d, .op 5 .s, .op 6 .d, .op 7 .f, .op 8 .e, .op 9 .s, .op 10 .s, .bar, .op 11 .e]) (by kernel_rfl) ?T36a ?T36b ?_
    case T36a => (repeat (first|exact Take.nil|refine Take.cons (by (repeat first|exact .here|apply Take1.there)) ?_))
    case T36b => (repeat (first|exact Take.nil|refine Take.cons (by (repeat first|exact .here|apply Take1.there)) ?_))
    iterate 3 refine rx_s rfl rfl rfl rfl rfl ?_
    refine rx_fa rfl rfl rfl rfl rfl rfl Fa.fo_212_2 ?_
    refine rx_ldD1 rfl rfl rfl rfl rfl rfl rfl (by (repeat first|exact .here|apply Take1.there)) Fa.ag_121 (by rfl) ?_
    refine rx_fa rfl rfl rfl rfl rfl rfl Fa.fo_56_0 ?_
    refine rx_ldD1 rfl rfl rfl rfl rfl rfl rfl (by (repeat first|exact .here|apply Take1.there)) Fa.ag_3 (by rfl) ?_
    refine rx_bslice (.inl rfl) rfl rfl rfl rfl rfl Fa.sl_121 Fa.z_3 rfl rfl rfl rfl rfl (cl := [_]) rfl ?_
    intro b26
    refine rx_app1 rfl rfl rfl rfl rfl Fa.sl_121 Fa.z_3 rfl rfl rfl rfl rfl (by (repeat first|exact .here|apply Take1.there)) (by (repeat first|exact .here|apply Take1.there)) (ys := [_]) (by rfl) rfl rfl (by rw [ilen]; simp; omega) ?_
    intro p27 m27 c27 hm27
    refine rx_s rfl rfl rfl rfl rfl ?_
    refine rx_fa rfl rfl rfl rfl rfl rfl Fa.fo_212_2 ?_
    refine rx_barAll ?_
    try simp only [List.cons_append, List.nil_append]
    refine rx_stp rfl rfl rfl rfl rfl rfl (by (repeat first|exact .here|apply Take1.there)) Fa.sz_121 (vs := [_]) rfl rfl rfl (by rfl) (cl' := [_, _, _]) (by rfl) ?_
    refine rx_endD ?_
    try simp only [List.cons_append, List.nil_append]
    refine SW.seq ?_
    refine SW.reg (l := [.op 0 .e]) rfl ?_
    refine rx_s rfl rfl rfl rfl rfl ?_
    refine rx_end0 ?_
    refine SW.ret ?_
    refine retK1 (l := [_]) (.tmp rfl .nil) ⟨rfl, rfl⟩ (foldA (slown_mk (xs := flat (A.sl.set i ⟨s.gen, false, KNode.zero⟩)) (rest := rest) (by (repeat first|exact .here|apply Take1.there)) ?_ (flat_one _) ?_ ?_ hl (.one (by (repeat first|exact .here|apply Take1.there)) (.one (by (repeat first|exact .here|apply Take1.there)) .nil))) rfl ?_)
    · rw [List.set_set]
    · rw [flen, List.length_set]
    · rw [flen, List.length_set]; rw [flen] at hc; exact hc
    · exact (flat_append A.fr [h.slot]).symm
/-- 'Free' -/
theorem free (a : Nat) (A : Ar KNode) (h : Handle) (hA : A.ok) :
    Sl.Spec Tryz.prog 183 #[.pointer (some ⟨a, 0, none⟩), .agg #[.int .i64 h.slot, .int .i64 h.gen]] [ArP a A]
      (fun v l => v = .bool (A.free KNode.zero h).2 ∧ l = [ArP a (A.free KNode.zero h).1]) := by
  refine Holt.Spec.exH 0 rfl ?_
  rintro ⟨sv, fv⟩
  simp only [List.cons_append, List.nil_append]
  refine Holt.Spec.slshape 2 rfl ?_
  rintro p2 m2 c2 rfl hm2
  refine Holt.Spec.slopen 1 rfl ?_ ?_
  · rintro rfl hx
    have hn : A.sl = [] := flat_nil hx
    have hg : A.find h = none := by unfold Ar.find; rw [hn, if_pos (by simp; omega)]
    have hfr : A.free KNode.zero h = (A, false) := by unfold Ar.free; rw [hg]
    rw [hfr]
    refine Holt.Spec.conseq (Sl.Spec.frame (F := [SlOwn 3 1 (.slice p2 m2 c2) (flat A.fr)]) (free_nil a A.most _ h)) ?_
    rintro v l ⟨l', ⟨rfl, rfl⟩, rfl⟩
    exact ⟨[_], ⟨rfl, rfl⟩, foldA (slown_nil _ _ (.one .here (.one .here .nil))) (by rw [hn]; rfl) rfl⟩
  · rintro b len cap rest rfl hx hy hlc h1
    rw [flen] at hx
    have e1 : len = A.sl.length := by omega
    subst e1
    rcases hf : A.find h with _ | i
    · have hfr : A.free KNode.zero h = (A, false) := by unfold Ar.free; rw [hf]
      rw [hfr]
      refine Sl.Spec.pre (EntL.ent (.one (.there .here) (.one .here (.one .here .nil)))) ?_
      refine Holt.Spec.conseq (Sl.Spec.frame (F := [SlOwn 3 1 (.slice p2 m2 c2) (flat A.fr)]) (free_none a b cap A rest _ h hA hf)) ?_
      rintro v l ⟨l', ⟨rfl, rfl⟩, rfl⟩
      exact ⟨[_], ⟨rfl, rfl⟩, foldA (slown_mk (.there .here) rfl h1 (flen _) hy hlc (.one .here (.one .here .nil))) rfl rfl⟩
    · obtain ⟨s, hs, _⟩ := Ar.find_get hf
      have hfr : A.free KNode.zero h = ({ A with sl := A.sl.set i ⟨s.gen, false, KNode.zero⟩, fr := A.fr ++ [h.slot] }, true) := by unfold Ar.free; rw [hf]; simp only [hs]
      rw [hfr]
      exact Sl.Spec.pre (EntL.ent (.one (.there .here) (.one .here (.one .here .nil)))) (free_some a b cap c2 m2 p2 A rest h hA i s hf hs hy hlc)
end ArK
end Go.Proofs.YtikkegelplllmaaGreatDoor
/- A version while it is made, of KNode: items. -/
namespace Go.Proofs.YtikkegelplllmaaGreatDoor
open Go Go.Sl Go.Holt Go.Proofs
open Go.Holt.Enc (enc)
namespace ItK
open ArK (ArP getV)

abbrev TR := T Kid Bool
/-- An item. -/
def IP (A : Ar KNode) (p : Option Addr) (t : TR) : HProp := ItemP 264 (⟨0, ⟨#[]⟩, 0⟩ : Kid) (false : Bool) A p t
/-- A map's block; an edit's block. -/
abbrev MB (m a : Nat) : HProp := blk m [.pointer (some ⟨a, 0, none⟩), .func (.func 61) #[] #[]] 164 (0, 0)
abbrev EB (e m : Nat) (gv : Value) : HProp := blk e [.pointer (some ⟨m, 0, none⟩), gv] 234 (0, 0)
abbrev IB (b : Nat) (h : Handle) (k : Kid) (v : Bool) (pl pr : Option Addr) (hi : Int) : HProp := blk b (openC h k v pl pr hi) 264 (0, 0)

/-- 'Load' -/
theorem load (m a : Nat) (A : Ar KNode) (h : Handle) (hA : A.ok) :
    Sl.Spec Tryz.prog 40 #[.pointer (some ⟨m, 0, none⟩), .agg #[.int .i64 h.slot, .int .i64 h.gen]] [MB m a, ArP a A]
      (fun v l => v = getV (A.get h) ∧ l = [MB m a, ArP a A]) := by
  have hc : ∃ x q, getV (A.get h) = .tuple #[.agg (enc (x : KNode)).toArray, .bool q] := by
    unfold getV; split <;> exact ⟨_, _, rfl⟩
  obtain ⟨x, q, hc⟩ := hc
  have hg := ArK.get a A h hA
  rw [hc] at hg ⊢
  refine Spec.enter Tryz.func40 rfl rfl rfl ?_
  refine SW.seq ?_
  refine SW.reg (l := [.op 0 .e, .op 1 .e, .op 2 .e]) rfl ?_
  refine rx_box (.inr rfl) rfl rfl rfl rfl rfl rfl (cl := [_, _]) rfl ?_
  intro b3
  refine rx_alloc (.inr rfl) rfl rfl rfl rfl rfl Fa.z_75 ?_
  intro b4
  refine rx_s rfl rfl rfl rfl rfl ?_
  refine rx_end0 ?_
  refine SW.seq ?_
  refine SW.drawT (Hs := [ArP a A]) (D0l := []) (Dl := ?DT150) (F := ?FT150) Fa.mix (tp := [0, 1, 3, 7, 0, 31, 63, 63, 255, 511]) (l := [.op 0 .s, .op 1 .s, .op 2 .s, .op 3 .d, .op 4 .d, .op 5 .e, .op 6 .s, .op 7 .s, .bar, .op 8 .e, .op 9 .s]) (by kernel_rfl) ?T150a ?T150b ?_
  case T150a => (repeat (first|exact Take.nil|refine Take.cons (by (repeat first|exact .here|apply Take1.there)) ?_))
  case T150b => (repeat (first|exact Take.nil|refine Take.cons (by (repeat first|exact .here|apply Take1.there)) ?_))
  iterate 2 refine rx_s rfl rfl rfl rfl rfl ?_
  refine rx_fa rfl rfl rfl rfl rfl rfl Fa.fo_164_0 ?_
  refine rx_ldD1 rfl rfl rfl rfl rfl rfl rfl (by (repeat first|exact .here|apply Take1.there)) Fa.ag_162 (by rfl) ?_
  refine rx_ldDA rfl rfl rfl rfl rfl rfl rfl (by (repeat first|exact .here|apply Take1.there)) Fa.ag_56 Fa.sz_56 (vs := [_, _]) (by rfl) rfl ?_
  refine rx_callH (F := ?FT151) rfl rfl rfl rfl rfl rfl rfl rfl Fa.ca_82 rfl (hg) ?T151 ?_
  case T151 => (repeat (first|exact Take.nil|refine Take.cons (by (repeat first|exact .here|apply Take1.there)) ?_))
  rintro _ _ ⟨rfl, rfl⟩
  try simp only [List.cons_append, List.nil_append]
  iterate 2 refine rx_s rfl rfl rfl rfl rfl ?_
  refine rx_barAll ?_
  try simp only [List.cons_append, List.nil_append]
  refine rx_stp rfl rfl rfl rfl rfl rfl (by (repeat first|exact .here|apply Take1.there)) Fa.sz_75 (vs := [_, _, _, _, _, _, _, _, _]) rfl rfl rfl (by rfl) (cl' := [_, _, _, _, _, _, _, _, _]) (by rfl) ?_
  refine rx_s rfl rfl rfl rfl rfl ?_
  refine rx_endD ?_
  try simp only [List.cons_append, List.nil_append]
  refine SW.ret ?_
  exact retK2 (l := [_, _]) (.cell rfl (by (repeat first|exact .here|apply Take1.there)) (.inr ⟨9, _, Fa.ag_75, Fa.sz_75, rfl, rfl, rfl⟩) (.tmp rfl .nil)) ⟨rfl, rfl⟩ (.one (by (repeat first|exact .here|apply Take1.there)) (.one (by (repeat first|exact .here|apply Take1.there)) .nil))

theorem item_nil (v0 : Value) (A : Ar KNode) :
    Sl.Spec Tryz.prog 140 #[v0, .agg #[.int .i64 0, .int .i64 0]] [] (fun v l => v = .pointer none ∧ l = [IP A none .nil]) := by
  refine Spec.enter Tryz.func140 rfl rfl rfl ?_
  refine SW.seq ?_
  refine SW.reg (l := [.op 0 .e, .op 1 .e]) rfl ?_
  refine rx_box (.inr rfl) rfl rfl rfl rfl rfl rfl (cl := [_, _]) rfl ?_
  intro b3
  refine rx_s rfl rfl rfl rfl rfl ?_
  refine rx_end0 ?_
  refine SW.seq ?_
  refine SW.seq ?_
  refine SW.reg (l := [.op 0 .e, .op 1 .e, .op 2 .e]) rfl ?_
  refine rx_ldHA rfl rfl rfl rfl rfl rfl (by (repeat first|exact .here|apply Take1.there)) Fa.ag_56 Fa.sz_56 (vs := [_, _]) (by rfl) rfl ?_
  refine rx_build rfl rfl rfl rfl rfl Fa.st_56 rfl (cs := [_, _]) rfl ?_
  refine rx_eqS rfl rfl rfl rfl rfl Fa.eq_56 rfl rfl rfl ?_
  refine rx_end0 ?_
  refine SW.cond (b := true) rfl (fun _ => ?_) (fun h => nomatch h)
  refine SW.seq ?_
  refine SW.reg (l := [.op 0 .e]) rfl ?_
  refine rx_s rfl rfl rfl rfl rfl ?_
  refine rx_end0 ?_
  refine SW.ret ?_
  exact retK1 (l := [_]) (.tmp rfl .nil) ⟨rfl, rfl⟩ (.cons .nil ItemP.nil .nil)
theorem item_node (v0 : Value) (A : Ar KNode) (h : Handle) (k : Kid) (x : Bool) (l r : TR) (hi : Int) (h0 : h ≠ ⟨0, 0⟩) (hh : (T.node h k x l r hi).holds A) :
    Sl.Spec Tryz.prog 140 #[v0, .agg #[.int .i64 h.slot, .int .i64 h.gen]] [] (fun v l' => ∃ p, v = .pointer p ∧ l' = [IP A p (.node h k x l r hi)]) := by
  refine Spec.enter Tryz.func140 rfl rfl rfl ?_
  refine SW.seq ?_
  refine SW.reg (l := [.op 0 .e, .op 1 .e]) rfl ?_
  refine rx_box (.inr rfl) rfl rfl rfl rfl rfl rfl (cl := [_, _]) rfl ?_
  intro b3
  refine rx_s rfl rfl rfl rfl rfl ?_
  refine rx_end0 ?_
  refine SW.seq ?_
  refine SW.seq ?_
  refine SW.reg (l := [.op 0 .e, .op 1 .e, .op 2 .e]) rfl ?_
  refine rx_ldHA rfl rfl rfl rfl rfl rfl (by (repeat first|exact .here|apply Take1.there)) Fa.ag_56 Fa.sz_56 (vs := [_, _]) (by rfl) rfl ?_
  refine rx_build rfl rfl rfl rfl rfl Fa.st_56 rfl (cs := [_, _]) rfl ?_
  refine rx_eqS rfl rfl rfl rfl rfl Fa.eq_56 rfl rfl rfl ?_
  refine rx_end0 ?_
  refine SW.cond rfl (fun h7 => ?_) (fun h7 => ?_)
  · (exfalso; apply h0; simp at h7; rcases h with ⟨h1, h2⟩; simp at h7; simp [h7])
  · skip
    refine SW.skip ?_
    try simp only [thenK, blockK, cond_true, cond_false, beq_self_eq_true, Nat.reduceBEq]
    refine SW.seq ?_
    refine SW.reg (l := [.op 0 .e, .op 1 .e, .op 2 .e, .op 3 .e]) rfl ?_
    refine rx_ldHA rfl rfl rfl rfl rfl rfl (by (repeat first|exact .here|apply Take1.there)) Fa.ag_56 Fa.sz_56 (vs := [_, _]) (by rfl) rfl ?_
    refine rx_build rfl rfl rfl rfl rfl Fa.st_264 rfl (cs := [_, _, _, _, _, _, _, _, _, _]) rfl ?_
    refine rx_box (.inr rfl) rfl rfl rfl rfl rfl rfl (cl := [_, _, _, _, _, _, _, _, _, _]) rfl ?_
    intro b10
    refine rx_s rfl rfl rfl rfl rfl ?_
    refine rx_end0 ?_
    refine SW.ret ?_
    exact retK1 (l := [_]) (.tmp rfl .nil) ⟨some ⟨b10, 0, none⟩, rfl, rfl⟩ (.cons (.cons (by (repeat first|exact .here|apply Take1.there)) .nil) (ItemP.shut h0 hh) .nil)
theorem item (v0 : Value) (A : Ar KNode) (t : TR) (ht : t.holds A) (s g : Int) (e1 : s = t.hd.slot) (e2 : g = t.hd.gen) :
    Sl.Spec Tryz.prog 140 #[v0, .agg #[.int .i64 s, .int .i64 g]] [] (fun v l => ∃ p, v = .pointer p ∧ l = [IP A p t]) := by
  subst e1 e2
  cases t with
  | nil => exact (item_nil v0 A).mono fun v l ⟨a, b⟩ => ⟨none, a, b⟩
  | node h k x l r hi => exact item_node v0 A h k x l r hi (fun q => by have := Ar.get_slot ht.1; rw [q] at this; simp at this) ht

/-- 'opened' -/
theorem opened (e m a : Nat) (gv : Value) (A : Ar KNode) (hA : A.ok) (p : Option Addr) (h : Handle) (k : Kid) (x : Bool) (l r : TR) (hi : Int) :
    Sl.Spec Tryz.prog 163 #[.pointer (some ⟨e, 0, none⟩), .pointer p] [EB e m gv, MB m a, ArP a A, IP A p (.node h k x l r hi)]
      (fun v l' => ∃ b pl pr, p = some ⟨b, 0, none⟩ ∧ v = .pointer (some ⟨b, 0, none⟩) ∧ (h ≠ ⟨0, 0⟩ → (T.node h k x l r hi).holds A) ∧
        l' = [EB e m gv, MB m a, ArP a A, IB b h k x pl pr hi, IP A pl l, IP A pr r]) := by
  refine Holt.Spec.itemNode (tk3) ?_ ?_
  · rintro b rfl h0 hh
    have hg := hh.1
    have hl := load m a A h hA
    rw [hg] at hl
    refine Spec.enter Tryz.func163 rfl rfl rfl ?_
    simp only [shutC, enc, Enc.enc, List.cons_append, List.nil_append]
    refine SW.seq ?_
    refine SW.reg (l := [.op 0 .e]) rfl ?_
    refine rx_s rfl rfl rfl rfl rfl ?_
    refine rx_end0 ?_
    refine SW.seq ?_
    refine SW.seq ?_
    refine SW.reg (l := [.op 0 .e, .op 1 .e, .op 2 .e, .op 3 .e]) rfl ?_
    iterate 2 refine rx_s rfl rfl rfl rfl rfl ?_
    refine rx_fa rfl rfl rfl rfl rfl rfl Fa.fo_264_1 ?_
    refine rx_ldH1 rfl rfl rfl rfl rfl rfl (by (repeat first|exact .here|apply Take1.there)) Fa.ag_4 (by rfl) ?_
    refine rx_end0 ?_
    refine SW.cond (b := false) rfl (fun h => nomatch h) (fun _ => ?_)
    refine SW.skip ?_
    try simp only [thenK, blockK, cond_true, cond_false, beq_self_eq_true, Nat.reduceBEq]
    refine SW.seq ?_
    refine SW.drawT (Hs := [MB m a, ArP a A]) (D0l := []) (Dl := ?DT152) (F := ?FT152) Fa.mix (tp := [0, 1, 3, 7, 0, 16, 48, 112, 255, 511, 1023, 1023, 0, 6143, 16383]) (l := [.op 0 .s, .op 1 .s, .op 2 .s, .op 3 .d, .op 4 .s, .op 5 .s, .op 6 .s, .op 7 .d, .op 8 .e, .op 9 .s, .op 10 .s, .op 11 .s, .op 12 .f, .bar, .op 13 .e, .op 14 .s]) (by kernel_rfl) ?T152a ?T152b ?_
    case T152a => (repeat (first|exact Take.nil|refine Take.cons (by (repeat first|exact .here|apply Take1.there)) ?_))
    case T152b => (repeat (first|exact Take.nil|refine Take.cons (by (repeat first|exact .here|apply Take1.there)) ?_))
    iterate 2 refine rx_s rfl rfl rfl rfl rfl ?_
    refine rx_fa rfl rfl rfl rfl rfl rfl Fa.fo_234_0 ?_
    refine rx_ldD1 rfl rfl rfl rfl rfl rfl rfl (by (repeat first|exact .here|apply Take1.there)) Fa.ag_77 (by rfl) ?_
    iterate 2 refine rx_s rfl rfl rfl rfl rfl ?_
    refine rx_fa rfl rfl rfl rfl rfl rfl Fa.fo_264_0 ?_
    refine rx_ldDA rfl rfl rfl rfl rfl rfl rfl (by (repeat first|exact .here|apply Take1.there)) Fa.ag_56 Fa.sz_56 (vs := [_, _]) (by rfl) rfl ?_
    refine rx_callH (F := ?FT153) rfl rfl rfl rfl rfl rfl rfl rfl Fa.ca_40 rfl (hl) ?T153 ?_
    case T153 => (repeat (first|exact Take.nil|refine Take.cons (by (repeat first|exact .here|apply Take1.there)) ?_))
    rintro _ _ ⟨rfl, rfl⟩
    simp only [getV]
    try simp only [List.cons_append, List.nil_append]
    iterate 3 refine rx_s rfl rfl rfl rfl rfl ?_
    refine rx_alloc (.inl rfl) rfl rfl rfl rfl rfl Fa.z_75 ?_
    intro b5
    refine rx_barAll ?_
    try simp only [List.cons_append, List.nil_append]
    refine rx_stp rfl rfl rfl rfl rfl rfl (by (repeat first|exact .here|apply Take1.there)) Fa.sz_75 (vs := [_, _, _, _, _, _, _, _, _]) rfl rfl rfl (by rfl) (cl' := [_, _, _, _, _, _, _, _, _]) (by rfl) ?_
    refine rx_s rfl rfl rfl rfl rfl ?_
    refine rx_endD ?_
    try simp only [List.cons_append, List.nil_append]
    refine SW.seq ?_
    refine SW.drawT (Hs := []) (D0l := [blk b5 (enc (⟨k, x, l.hd, r.hd, hi⟩ : KNode)) 75 (0, 0)]) (Dl := ?DT154) (F := ?FT154) Fa.mix (tp := [0, 0, 0, 0, 0, 16, 0, 64, 0, 256, 1, 1025, 3073, 7219, 15411, 31795, 64759, 130295, 261367, 524287, 1048575, 2097151]) (l := [.op 0 .s, .op 1 .s, .op 2 .s, .op 3 .s, .op 4 .s, .op 5 .p, .op 6 .s, .op 7 .p, .op 8 .s, .op 9 .p, .op 10 .s, .op 11 .s, .bar, .op 12 .e, .op 13 .s, .op 14 .s, .op 15 .e, .op 16 .s, .op 17 .s, .op 18 .e, .op 19 .s, .op 20 .s, .op 21 .e]) (by kernel_rfl) ?T154a ?T154b ?_
    case T154a => (repeat (first|exact Take.nil|refine Take.cons (by (repeat first|exact .here|apply Take1.there)) ?_))
    case T154b => (repeat (first|exact Take.nil|refine Take.cons (by (repeat first|exact .here|apply Take1.there)) ?_))
    iterate 4 refine rx_s rfl rfl rfl rfl rfl ?_
    refine rx_fa rfl rfl rfl rfl rfl rfl Fa.fo_75_0 ?_
    refine rx_ldPA rfl rfl rfl rfl rfl rfl (by (repeat first|exact .here|apply Take1.there)) Fa.ag_73 Fa.sz_73 (vs := [_, _, _]) (by rfl) rfl ?_
    refine rx_fa rfl rfl rfl rfl rfl rfl Fa.fo_75_1 ?_
    refine rx_ldP1 rfl rfl rfl rfl rfl rfl (by (repeat first|exact .here|apply Take1.there)) Fa.ag_4 (by rfl) ?_
    refine rx_fa rfl rfl rfl rfl rfl rfl Fa.fo_75_4 ?_
    refine rx_ldP1 rfl rfl rfl rfl rfl rfl (by (repeat first|exact .here|apply Take1.there)) Fa.ag_3 (by rfl) ?_
    refine rx_s rfl rfl rfl rfl rfl ?_
    refine rx_fa rfl rfl rfl rfl rfl rfl Fa.fo_264_1 ?_
    refine rx_barAll ?_
    try simp only [List.cons_append, List.nil_append]
    refine rx_stp rfl rfl rfl rfl rfl rfl (by (repeat first|exact .here|apply Take1.there)) Fa.sz_4 (vs := [_]) rfl rfl rfl (by rfl) (cl' := [_, _, _, _, _, _, _, _, _, _]) (by rfl) ?_
    refine rx_s rfl rfl rfl rfl rfl ?_
    refine rx_fa rfl rfl rfl rfl rfl rfl Fa.fo_264_2 ?_
    refine rx_stp rfl rfl rfl rfl rfl rfl (by (repeat first|exact .here|apply Take1.there)) Fa.sz_73 (vs := [_, _, _]) rfl rfl rfl (by rfl) (cl' := [_, _, _, _, _, _, _, _, _, _]) (by rfl) ?_
    refine rx_s rfl rfl rfl rfl rfl ?_
    refine rx_fa rfl rfl rfl rfl rfl rfl Fa.fo_264_3 ?_
    refine rx_stp rfl rfl rfl rfl rfl rfl (by (repeat first|exact .here|apply Take1.there)) Fa.sz_4 (vs := [_]) rfl rfl rfl (by rfl) (cl' := [_, _, _, _, _, _, _, _, _, _]) (by rfl) ?_
    refine rx_s rfl rfl rfl rfl rfl ?_
    refine rx_fa rfl rfl rfl rfl rfl rfl Fa.fo_264_6 ?_
    refine rx_stp rfl rfl rfl rfl rfl rfl (by (repeat first|exact .here|apply Take1.there)) Fa.sz_3 (vs := [_]) rfl rfl rfl (by rfl) (cl' := [_, _, _, _, _, _, _, _, _, _]) (by rfl) ?_
    refine rx_endD ?_
    try simp only [List.cons_append, List.nil_append]
    refine SW.seq ?_
    refine SW.drawAll Fa.mix (tp := [0, 0, 0, 0, 8, 28, 0, 0, 128, 508, 1021, 2045, 4093, 8191, 16383, 32767]) (l := [.op 0 .s, .op 1 .s, .op 2 .s, .op 3 .s, .op 4 .d, .op 5 .e, .op 6 .s, .op 7 .s, .op 8 .d, .op 9 .e, .op 10 .s, .op 11 .s, .bar, .op 12 .e, .op 13 .s, .op 14 .s, .op 15 .e]) (by kernel_rfl) ?_
    iterate 3 refine rx_s rfl rfl rfl rfl rfl ?_
    refine rx_fa rfl rfl rfl rfl rfl rfl Fa.fo_75_2 ?_
    refine rx_ldDA rfl rfl rfl rfl rfl rfl rfl (by (repeat first|exact .here|apply Take1.there)) Fa.ag_56 Fa.sz_56 (vs := [_, _]) (by rfl) rfl ?_
    refine rx_callH (F := ?FT155) rfl rfl rfl rfl rfl rfl rfl rfl Fa.ca_140 rfl (item _ A l hh.2.1 _ _ rfl rfl) ?T155 ?_
    case T155 => (repeat (first|exact Take.nil|refine Take.cons (by (repeat first|exact .here|apply Take1.there)) ?_))
    rintro _ _ ⟨pl, rfl, rfl⟩
    try simp only [List.cons_append, List.nil_append]
    refine rx_s rfl rfl rfl rfl rfl ?_
    refine rx_fa rfl rfl rfl rfl rfl rfl Fa.fo_75_3 ?_
    refine rx_ldDA rfl rfl rfl rfl rfl rfl rfl (by (repeat first|exact .here|apply Take1.there)) Fa.ag_56 Fa.sz_56 (vs := [_, _]) (by rfl) rfl ?_
    refine rx_callH (F := ?FT156) rfl rfl rfl rfl rfl rfl rfl rfl Fa.ca_140 rfl (item _ A r hh.2.2 _ _ rfl rfl) ?T156 ?_
    case T156 => (repeat (first|exact Take.nil|refine Take.cons (by (repeat first|exact .here|apply Take1.there)) ?_))
    rintro _ _ ⟨pr, rfl, rfl⟩
    try simp only [List.cons_append, List.nil_append]
    refine rx_s rfl rfl rfl rfl rfl ?_
    refine rx_fa rfl rfl rfl rfl rfl rfl Fa.fo_264_4 ?_
    refine rx_barAll ?_
    try simp only [List.cons_append, List.nil_append]
    refine rx_stp rfl rfl rfl rfl rfl rfl (by (repeat first|exact .here|apply Take1.there)) Fa.sz_236 (vs := [_]) rfl rfl rfl (by rfl) (cl' := [_, _, _, _, _, _, _, _, _, _]) (by rfl) ?_
    refine rx_s rfl rfl rfl rfl rfl ?_
    refine rx_fa rfl rfl rfl rfl rfl rfl Fa.fo_264_5 ?_
    refine rx_stp rfl rfl rfl rfl rfl rfl (by (repeat first|exact .here|apply Take1.there)) Fa.sz_236 (vs := [_]) rfl rfl rfl (by rfl) (cl' := [_, _, _, _, _, _, _, _, _, _]) (by rfl) ?_
    refine rx_endD ?_
    try simp only [List.cons_append, List.nil_append]
    refine SW.seq ?_
    refine SW.reg (l := [.op 0 .e, .op 1 .e]) rfl ?_
    iterate 2 refine rx_s rfl rfl rfl rfl rfl ?_
    refine rx_end0 ?_
    refine SW.ret ?_
    exact retK1 (l := [_, _, _, _, _, _]) (.tmp rfl .nil) ⟨b, pl, pr, rfl, rfl, fun _ => hh, rfl⟩ (.one (by (repeat first|exact .here|apply Take1.there)) (.one (by (repeat first|exact .here|apply Take1.there)) (.one (by (repeat first|exact .here|apply Take1.there)) (.one (by (repeat first|exact .here|apply Take1.there)) (.one (by (repeat first|exact .here|apply Take1.there)) (.one (by (repeat first|exact .here|apply Take1.there)) .nil))))))
  · rintro b pl pr rfl hh
    refine Spec.enter Tryz.func163 rfl rfl rfl ?_
    simp only [openC, enc, Enc.enc, List.cons_append, List.nil_append]
    refine SW.seq ?_
    refine SW.reg (l := [.op 0 .e]) rfl ?_
    refine rx_s rfl rfl rfl rfl rfl ?_
    refine rx_end0 ?_
    refine SW.seq ?_
    refine SW.seq ?_
    refine SW.reg (l := [.op 0 .e, .op 1 .e, .op 2 .e, .op 3 .e]) rfl ?_
    iterate 2 refine rx_s rfl rfl rfl rfl rfl ?_
    refine rx_fa rfl rfl rfl rfl rfl rfl Fa.fo_264_1 ?_
    refine rx_ldH1 rfl rfl rfl rfl rfl rfl (by (repeat first|exact .here|apply Take1.there)) Fa.ag_4 (by rfl) ?_
    refine rx_end0 ?_
    refine SW.cond (b := true) rfl (fun _ => ?_) (fun h => nomatch h)
    refine SW.seq ?_
    refine SW.reg (l := [.op 0 .e, .op 1 .e]) rfl ?_
    iterate 2 refine rx_s rfl rfl rfl rfl rfl ?_
    refine rx_end0 ?_
    refine SW.ret ?_
    exact retK1 (l := [_, _, _, _, _, _]) (.tmp rfl .nil) ⟨b, pl, pr, rfl, rfl, hh, rfl⟩ (.one (by (repeat first|exact .here|apply Take1.there)) (.one (by (repeat first|exact .here|apply Take1.there)) (.one (by (repeat first|exact .here|apply Take1.there)) (.one (by (repeat first|exact .here|apply Take1.there)) (.one (by (repeat first|exact .here|apply Take1.there)) (.one (by (repeat first|exact .here|apply Take1.there)) .nil))))))

def IQ (A : Ar KNode) (p : Option Addr) (t : TR) : HProp := ItemO 264 (⟨0, ⟨#[]⟩, 0⟩ : Kid) (false : Bool) A p t
abbrev GL (gv : Value) (g : List Handle) : HProp := SlOwn 56 2 gv (flat g)
theorem ioNil {A : Ar KNode} : EntS (star []) (IQ A none .nil) := ItemP.nil (ty := 264) (zk := (⟨0, ⟨#[]⟩, 0⟩ : Kid)) (zv := (false : Bool)) (A := A)
theorem ipNil {A : Ar KNode} : EntS (star []) (IP A none .nil) := ItemP.nil (ty := 264) (zk := (⟨0, ⟨#[]⟩, 0⟩ : Kid)) (zv := (false : Bool)) (A := A)
theorem ioOpen {A : Ar KNode} {h : Handle} {k : Kid} {x : Bool} {l r : TR} {hi : Int} {b : Nat} {pl pr : Option Addr} (hh : h ≠ ⟨0, 0⟩ → (T.node h k x l r hi).holds A) :
    EntS (star [IB b h k x pl pr hi, IQ A pl l, IQ A pr r]) (IP A (some ⟨b, 0, none⟩) (.node h k x l r hi)) := by
  refine EntS.trans ?_ (ItemP.open (pl := pl) (pr := pr) hh)
  exact EntS.sep (EntS.refl _) (EntS.sep (EntS.of_ent ItemO.weak) (EntS.sep (EntS.of_ent ItemO.weak) (EntS.refl _)))

/-- 'high' -/
theorem high (e m a : Nat) (gv : Value) (A : Ar KNode) (hA : A.ok) (p : Option Addr) (t : TR) :
    Sl.Spec Tryz.prog 188 #[.pointer (some ⟨e, 0, none⟩), .pointer p] [EB e m gv, MB m a, ArP a A, IP A p t]
      (fun v l' => v = .int .i64 t.hgt ∧ l' = [EB e m gv, MB m a, ArP a A, IQ A p t]) := by
  cases t with
  | nil =>
    refine Holt.Spec.itemNil tk3 ?_
    rintro rfl
    refine Spec.enter Tryz.func188 rfl rfl rfl ?_
    refine SW.seq ?_
    refine SW.reg (l := [.op 0 .e]) rfl ?_
    refine rx_s rfl rfl rfl rfl rfl ?_
    refine rx_end0 ?_
    refine SW.seq ?_
    refine SW.seq ?_
    refine SW.reg (l := [.op 0 .e, .op 1 .e]) rfl ?_
    refine rx_s rfl rfl rfl rfl rfl ?_
    refine rx_eqnil rfl rfl rfl rfl rfl Fa.pt_236 rfl ?_
    refine rx_end0 ?_
    refine SW.cond (b := true) rfl (fun _ => ?_) (fun h => nomatch h)
    refine SW.seq ?_
    refine SW.reg (l := [.op 0 .e]) rfl ?_
    refine rx_s rfl rfl rfl rfl rfl ?_
    refine rx_end0 ?_
    refine SW.ret ?_
    exact retK1 (l := [_, _, _, _]) (.tmp rfl .nil) ⟨rfl, rfl⟩ (.one (by (repeat first|exact .here|apply Take1.there)) (.one (by (repeat first|exact .here|apply Take1.there)) (.one (by (repeat first|exact .here|apply Take1.there)) (.cons .nil ioNil .nil))))
  | node h k x l r hi =>
    have ho := opened e m a gv A hA p h k x l r hi
    rcases p with _ | p
    · exact Holt.Spec.itemNode tk3 (fun b q => by cases q) (fun b pl pr q => by cases q)
    refine Spec.enter Tryz.func188 rfl rfl rfl ?_
    refine SW.seq ?_
    refine SW.reg (l := [.op 0 .e]) rfl ?_
    refine rx_s rfl rfl rfl rfl rfl ?_
    refine rx_end0 ?_
    refine SW.seq ?_
    refine SW.seq ?_
    refine SW.reg (l := [.op 0 .e, .op 1 .e]) rfl ?_
    refine rx_s rfl rfl rfl rfl rfl ?_
    refine rx_eqnil rfl rfl rfl rfl rfl Fa.pt_236 rfl ?_
    refine rx_end0 ?_
    refine SW.cond (b := false) rfl (fun h => nomatch h) (fun _ => ?_)
    refine SW.skip ?_
    try simp only [thenK, blockK, cond_true, cond_false, beq_self_eq_true, Nat.reduceBEq]
    refine SW.seq ?_
    refine SW.reg (l := [.op 0 .e, .op 1 .e, .op 2 .e, .op 3 .e, .op 4 .e, .op 5 .e, .op 6 .e]) rfl ?_
    iterate 2 refine rx_s rfl rfl rfl rfl rfl ?_
    refine rx_callH (F := ?FT157) rfl rfl rfl rfl rfl rfl rfl rfl Fa.ca_163 rfl (ho) ?T157 ?_
    case T157 => (repeat (first|exact Take.nil|refine Take.cons (by (repeat first|exact .here|apply Take1.there)) ?_))
    rintro _ _ ⟨b, pl, pr, hp, rfl, hh, rfl⟩
    try simp only [List.cons_append, List.nil_append]
    refine rx_s rfl rfl rfl rfl rfl ?_
    refine rx_fa rfl rfl rfl rfl rfl rfl Fa.fo_264_6 ?_
    refine rx_ldH1 rfl rfl rfl rfl rfl rfl (by (repeat first|exact .here|apply Take1.there)) Fa.ag_3 (by rfl) ?_
    refine rx_s rfl rfl rfl rfl rfl ?_
    refine rx_end0 ?_
    refine SW.ret ?_
    refine retK1 (l := [_, _, _, _]) (.tmp rfl .nil) ⟨rfl, rfl⟩ (.one (by (repeat first|exact .here|apply Take1.there)) (.one (by (repeat first|exact .here|apply Take1.there)) (.one (by (repeat first|exact .here|apply Take1.there)) (.cons (.cons (by (repeat first|exact .here|apply Take1.there)) (.cons (by (repeat first|exact .here|apply Take1.there)) (.cons (by (repeat first|exact .here|apply Take1.there)) .nil))) ?_ .nil))))
    rw [hp]; exact ItemO.mk hh

/-- 'leave' -/
theorem leave (e m b : Nat) (gv : Value) (g : List Handle) (hg : g.length ≤ 1000000) (h : Handle) (k : Kid) (x : Bool) (pl pr : Option Addr) (hi : Int) :
    Sl.Spec Tryz.prog 165 #[.pointer (some ⟨e, 0, none⟩), .pointer (some ⟨b, 0, none⟩)] [EB e m gv, GL gv g, IB b h k x pl pr hi]
      (fun v l => ∃ gv', v = .tuple #[] ∧ l = [EB e m gv', GL gv' (g ++ T.lv h), IB b h k x pl pr hi]) := by
  refine Holt.Spec.slshape 1 rfl ?_
  rintro p0 m0 c0 rfl hm0
  have hfl : (flat g).length = g.length * 2 := flat_len g
  refine Spec.enter Tryz.func165 rfl rfl rfl ?_
  simp only [IB, openC, enc, Enc.enc, List.cons_append, List.nil_append]
  refine SW.seq ?_
  refine SW.reg (l := [.op 0 .e, .op 1 .e, .op 2 .e, .op 3 .e, .op 4 .e, .op 5 .e, .op 6 .e, .op 7 .e, .op 8 .e, .op 9 .e]) rfl ?_
  refine rx_s rfl rfl rfl rfl rfl ?_
  refine rx_nenil rfl rfl rfl rfl rfl Fa.pt_236 rfl ?_
  iterate 3 refine rx_s rfl rfl rfl rfl rfl ?_
  refine rx_fa rfl rfl rfl rfl rfl rfl Fa.fo_264_0 ?_
  refine rx_ldHA rfl rfl rfl rfl rfl rfl (by (repeat first|exact .here|apply Take1.there)) Fa.ag_56 Fa.sz_56 (vs := [_, _]) (by rfl) rfl ?_
  refine rx_build rfl rfl rfl rfl rfl Fa.st_56 rfl (cs := [_, _]) rfl ?_
  refine rx_neS rfl rfl rfl rfl rfl Fa.eq_56 rfl rfl rfl ?_
  refine rx_s rfl rfl rfl rfl rfl ?_
  refine rx_end0 ?_
  refine SW.cond rfl (fun h13 => ?_) (fun h13 => ?_)
  · skip
    have h0 : h ≠ ⟨0, 0⟩ := by rintro rfl; simp at h13
    have hl : T.lv h = [h] := by unfold T.lv; rw [if_neg h0]
    rw [hl]
    refine SW.drawT (Hs := [GL (.slice p0 m0 c0) g]) (D0l := []) (Dl := ?DT158) (F := ?FT158) Fa.mix (tp := [0, 0, 2, 6, 14, 0, 32, 96, 224, 480, 1022, 2047, 4095, 8191]) (l := [.op 0 .s, .op 1 .s, .op 2 .s, .op 3 .s, .op 4 .d, .op 5 .s, .op 6 .s, .op 7 .s, .op 8 .d, .op 9 .f, .op 10 .e, .op 11 .s, .op 12 .s, .bar, .op 13 .e]) (by kernel_rfl) ?T158a ?T158b ?_
    case T158a => (repeat (first|exact Take.nil|refine Take.cons (by (repeat first|exact .here|apply Take1.there)) ?_))
    case T158b => (repeat (first|exact Take.nil|refine Take.cons (by (repeat first|exact .here|apply Take1.there)) ?_))
    iterate 3 refine rx_s rfl rfl rfl rfl rfl ?_
    refine rx_fa rfl rfl rfl rfl rfl rfl Fa.fo_234_1 ?_
    refine rx_ldD1 rfl rfl rfl rfl rfl rfl rfl (by (repeat first|exact .here|apply Take1.there)) Fa.ag_92 (by rfl) ?_
    iterate 2 refine rx_s rfl rfl rfl rfl rfl ?_
    refine rx_fa rfl rfl rfl rfl rfl rfl Fa.fo_264_0 ?_
    refine rx_ldDA rfl rfl rfl rfl rfl rfl rfl (by (repeat first|exact .here|apply Take1.there)) Fa.ag_56 Fa.sz_56 (vs := [_, _]) (by rfl) rfl ?_
    refine rx_bslice (.inl rfl) rfl rfl rfl rfl rfl Fa.sl_92 Fa.z_56 rfl rfl rfl rfl rfl (cl := [_, _]) rfl ?_
    intro b23
    refine rx_app1 rfl rfl rfl rfl rfl Fa.sl_92 Fa.z_56 rfl rfl rfl rfl rfl (by (repeat first|exact .here|apply Take1.there)) (by (repeat first|exact .here|apply Take1.there)) (ys := [_, _]) (by rfl) rfl rfl (by rw [hfl]; simp; omega) ?_
    intro p24 m24 c24 hm24
    refine rx_s rfl rfl rfl rfl rfl ?_
    refine rx_fa rfl rfl rfl rfl rfl rfl Fa.fo_234_1 ?_
    refine rx_barAll ?_
    try simp only [List.cons_append, List.nil_append]
    refine rx_stp rfl rfl rfl rfl rfl rfl (by (repeat first|exact .here|apply Take1.there)) Fa.sz_92 (vs := [_]) rfl rfl rfl (by rfl) (cl' := [_, _]) (by rfl) ?_
    refine rx_endL ?_
    try simp only [List.cons_append, List.nil_append]
    rw [← show flat (g ++ [h]) = flat g ++ [.int .i64 h.slot, .int .i64 h.gen] from flat_append g [h]]
    exact retK0e (l := [_, _, _]) .nil ⟨.slice p24 m24 c24, rfl, rfl⟩ (.one (by (repeat first|exact .here|apply Take1.there)) (.one (by (repeat first|exact .here|apply Take1.there)) (.one (by (repeat first|exact .here|apply Take1.there)) .nil)))
  · skip
    have h0 : h = ⟨0, 0⟩ := by rcases h with ⟨h1, h2⟩; simp at h13; simp [h13]
    have hl : T.lv h = [] := by unfold T.lv; rw [if_pos h0]
    rw [hl, List.append_nil]
    refine SW.skip ?_
    try simp only [thenK, blockK, cond_true, cond_false, beq_self_eq_true, Nat.reduceBEq]
    exact retK0e (l := [_, _, _]) .nil ⟨_, rfl, rfl⟩ (.one (by (repeat first|exact .here|apply Take1.there)) (.one (by (repeat first|exact .here|apply Take1.there)) (.one (by (repeat first|exact .here|apply Take1.there)) .nil)))

/-- 'node' -/
theorem node (e m a b : Nat) (gv : Value) (g : List Handle) (hg : g.length ≤ 1000000) (A : Ar KNode) (hA : A.ok) (h : Handle) (k : Kid) (x : Bool) (q1 q2 : Option Addr) (hi : Int) (pl pr : Option Addr) (l r : TR) (wl : l.wf) (wr : r.wf) (sl : l.size ≤ 1000000) (sr : r.size ≤ 1000000) :
    Sl.Spec Tryz.prog 191 #[.pointer (some ⟨e, 0, none⟩), .pointer (some ⟨b, 0, none⟩), .pointer pl, .pointer pr]
      [EB e m gv, MB m a, ArP a A, GL gv g, IB b h k x q1 q2 hi, IP A pl l, IP A pr r]
      (fun v l' => ∃ gv' b', v = .pointer (some ⟨b', 0, none⟩) ∧ l' = [EB e m gv', MB m a, ArP a A, GL gv' (g ++ T.lv h), IB b h k x q1 q2 hi, IP A (some ⟨b', 0, none⟩) (T.mk k x l r)]) := by
  have h1 := T.hgt_nonneg wl
  have h2 := T.hgt_nonneg wr
  have h3 := T.hgt_size wl
  have h4 := T.hgt_size wr
  refine Spec.enter Tryz.func191 rfl rfl rfl ?_
  refine SW.seq ?_
  refine SW.reg (l := [.op 0 .e]) rfl ?_
  refine rx_s rfl rfl rfl rfl rfl ?_
  refine rx_end0 ?_
  refine SW.seq ?_
  refine SW.reg (l := [.op 0 .e, .op 1 .e, .op 2 .e]) rfl ?_
  iterate 2 refine rx_s rfl rfl rfl rfl rfl ?_
  refine rx_callH (F := ?FT159) rfl rfl rfl rfl rfl rfl rfl rfl Fa.ca_165 rfl (leave e m b gv g hg h k x q1 q2 hi) ?T159 ?_
  case T159 => (repeat (first|exact Take.nil|refine Take.cons (by (repeat first|exact .here|apply Take1.there)) ?_))
  rintro _ _ ⟨gv', rfl, rfl⟩
  try simp only [List.cons_append, List.nil_append]
  refine rx_end0 ?_
  refine SW.seq ?_
  refine SW.drawT (Hs := [EB e m gv', MB m a, ArP a A, IP A pl l, IP A pr r]) (D0l := []) (Dl := ?DT160) (F := ?FT160) Fa.mix (tp := [0, 1, 3, 7, 0, 16, 48, 112, 0, 0, 0, 0, 3072, 0, 0, 31744, 64512, 130048, 262143, 524287, 1048575]) (l := [.op 0 .s, .op 1 .s, .op 2 .s, .op 3 .d, .op 4 .s, .op 5 .s, .op 6 .s, .op 7 .d, .op 8 .s, .op 9 .s, .op 10 .s, .op 11 .s, .op 12 .e, .op 13 .s, .op 14 .s, .op 15 .e, .op 16 .s, .op 17 .s, .op 18 .s, .op 19 .f, .op 20 .s]) (by kernel_rfl) ?T160a ?T160b ?_
  case T160a => (repeat (first|exact Take.nil|refine Take.cons (by (repeat first|exact .here|apply Take1.there)) ?_))
  case T160b => (repeat (first|exact Take.nil|refine Take.cons (by (repeat first|exact .here|apply Take1.there)) ?_))
  iterate 2 refine rx_s rfl rfl rfl rfl rfl ?_
  refine rx_fa rfl rfl rfl rfl rfl rfl Fa.fo_264_2 ?_
  refine rx_ldDA rfl rfl rfl rfl rfl rfl rfl (by (repeat first|exact .here|apply Take1.there)) Fa.ag_73 Fa.sz_73 (vs := [_, _, _]) (by rfl) rfl ?_
  iterate 2 refine rx_s rfl rfl rfl rfl rfl ?_
  refine rx_fa rfl rfl rfl rfl rfl rfl Fa.fo_264_3 ?_
  refine rx_ldD1 rfl rfl rfl rfl rfl rfl rfl (by (repeat first|exact .here|apply Take1.there)) Fa.ag_4 (by rfl) ?_
  iterate 4 refine rx_s rfl rfl rfl rfl rfl ?_
  refine rx_callH (F := ?FT161) rfl rfl rfl rfl rfl rfl rfl rfl Fa.ca_188 rfl (high e m a gv' A hA pl l) ?T161 ?_
  case T161 => (repeat (first|exact Take.nil|refine Take.cons (by (repeat first|exact .here|apply Take1.there)) ?_))
  rintro _ _ ⟨rfl, rfl⟩
  try simp only [List.cons_append, List.nil_append]
  iterate 2 refine rx_s rfl rfl rfl rfl rfl ?_
  refine rx_callH (F := ?FT162) rfl rfl rfl rfl rfl rfl rfl rfl Fa.ca_188 rfl (high e m a gv' A hA pr r) ?T162 ?_
  case T162 => (repeat (first|exact Take.nil|refine Take.cons (by (repeat first|exact .here|apply Take1.there)) ?_))
  rintro _ _ ⟨rfl, rfl⟩
  try simp only [List.cons_append, List.nil_append]
  refine rx_max rfl rfl rfl rfl rfl rfl rfl ?_
  refine rx_ar rfl rfl rfl rfl rfl (by omega) ?_
  refine rx_build rfl rfl rfl rfl rfl Fa.st_264 rfl (cs := [_, _, _, _, _, _, _, _, _, _]) rfl ?_
  refine rx_box (.inl rfl) rfl rfl rfl rfl rfl rfl (cl := [_, _, _, _, _, _, _, _, _, _]) rfl ?_
  intro b31
  refine rx_s rfl rfl rfl rfl rfl ?_
  refine rx_endD ?_
  try simp only [List.cons_append, List.nil_append]
  refine SW.ret ?_
  exact retK1 (l := [_, _, _, _, _, _]) (.tmp rfl .nil) ⟨gv', b31, rfl, rfl⟩ (.one (by (repeat first|exact .here|apply Take1.there)) (.one (by (repeat first|exact .here|apply Take1.there)) (.one (by (repeat first|exact .here|apply Take1.there)) (.one (by (repeat first|exact .here|apply Take1.there)) (.one (by (repeat first|exact .here|apply Take1.there)) (.cons (.cons (by (repeat first|exact .here|apply Take1.there)) (.cons (by (repeat first|exact .here|apply Take1.there)) (.cons (by (repeat first|exact .here|apply Take1.there)) .nil))) (ioOpen (h := ⟨0, 0⟩) (fun q => absurd rfl q)) .nil))))))

theorem ioP {P : Program} {n : Nat} {ds : List Deferred} {e : Env} {c : Code} {KK : Exit → Env → HProp → Prop} {Hl F : List HProp} {A : Ar KNode} {p : Option Addr} {t : TR}
    (hT : Take1 Hl (IQ A p t) F) (h : SW P n ds c e (star (IP A p t :: F)) KK) : SW P n ds c e (star Hl) KK := SW.ioP hT h
theorem ioO {P : Program} {n : Nat} {ds : List Deferred} {e : Env} {c : Code} {KK : Exit → Env → HProp → Prop} {Hl F : List HProp} {A : Ar KNode} {p : Option Addr} {h : Handle} {k : Kid} {v : Bool} {l r : TR} {hi : Int}
    (hT : Take1 Hl (IQ A p (.node h k v l r hi)) F)
    (h2 : ∀ b pl pr, p = some ⟨b, 0, none⟩ → (h ≠ ⟨0, 0⟩ → (T.node h k v l r hi).holds A) → SW P n ds c e (star (IB b h k v pl pr hi :: IP A pl l :: IP A pr r :: F)) KK) :
    SW P n ds c e (star Hl) KK := SW.itemO hT h2

/-- 'fromLeft' -/
theorem fromLeft (e m a b bl : Nat) (gv : Value) (g : List Handle) (hg : g.length ≤ 900000) (A : Ar KNode) (hA : A.ok) (h : Handle) (k : Kid) (x : Bool) (q1 q2 : Option Addr) (hi : Int)
    (lh : Handle) (lk : Kid) (lw : Bool) (ll lr : TR) (lhi : Int) (p1 p2 pr : Option Addr) (r : TR) (wl : (T.node lh lk lw ll lr lhi).wf) (wr : r.wf) (hs : (T.node lh lk lw ll lr lhi).size + r.size ≤ 900000)
    (hd : (T.node lh lk lw ll lr lhi).hgt - r.hgt > 1) :
    Sl.Spec Tryz.prog 189 #[.pointer (some ⟨e, 0, none⟩), .pointer (some ⟨b, 0, none⟩), .pointer (some ⟨bl, 0, none⟩), .pointer pr]
      [EB e m gv, MB m a, ArP a A, GL gv g, IB b h k x q1 q2 hi, IB bl lh lk lw p1 p2 lhi, IP A p1 ll, IP A p2 lr, IP A pr r]
      (fun v l' => ∃ gv' b', v = .pointer (some ⟨b', 0, none⟩) ∧ l' = [EB e m gv', MB m a, ArP a A, GL gv' (g ++ (T.fromLeft h k x (.node lh lk lw ll lr lhi) r).2), IB b h k x q1 q2 hi,
        IP A (some ⟨b', 0, none⟩) (T.fromLeft h k x (.node lh lk lw ll lr lhi) r).1]) := by
  have h0 := T.hgt_nonneg wr
  have h1 := T.hgt_nonneg wl.2.1
  have h2 := T.hgt_nonneg wl.2.2
  have h3 := wl.1
  simp only [T.size] at hs
  change lhi - r.hgt > 1 at hd
  refine Spec.enter Tryz.func189 rfl rfl rfl ?_
  refine SW.seq ?_
  refine SW.reg (l := [.op 0 .e]) rfl ?_
  refine rx_s rfl rfl rfl rfl rfl ?_
  refine rx_end0 ?_
  refine SW.seq ?_
  refine SW.seq ?_
  refine SW.drawT (Hs := [EB e m gv, MB m a, ArP a A, IP A p1 ll, IP A p2 lr]) (D0l := []) (Dl := ?DT163) (F := ?FT163) Fa.mix (tp := [0, 0, 2, 6, 14, 31, 0, 0, 128, 384, 896, 2047, 4095]) (l := [.op 0 .s, .op 1 .s, .op 2 .s, .op 3 .s, .op 4 .d, .op 5 .e, .op 6 .s, .op 7 .s, .op 8 .s, .op 9 .s, .op 10 .d, .op 11 .e, .op 12 .s]) (by kernel_rfl) ?T163a ?T163b ?_
  case T163a => (repeat (first|exact Take.nil|refine Take.cons (by (repeat first|exact .here|apply Take1.there)) ?_))
  case T163b => (repeat (first|exact Take.nil|refine Take.cons (by (repeat first|exact .here|apply Take1.there)) ?_))
  iterate 3 refine rx_s rfl rfl rfl rfl rfl ?_
  refine rx_fa rfl rfl rfl rfl rfl rfl Fa.fo_264_4 ?_
  refine rx_ldD1 rfl rfl rfl rfl rfl rfl rfl (by (repeat first|exact .here|apply Take1.there)) Fa.ag_236 (by rfl) ?_
  refine rx_callH (F := ?FT164) rfl rfl rfl rfl rfl rfl rfl rfl Fa.ca_188 rfl (high e m a gv A hA p1 ll) ?T164 ?_
  case T164 => (repeat (first|exact Take.nil|refine Take.cons (by (repeat first|exact .here|apply Take1.there)) ?_))
  rintro _ _ ⟨rfl, rfl⟩
  try simp only [List.cons_append, List.nil_append]
  iterate 3 refine rx_s rfl rfl rfl rfl rfl ?_
  refine rx_fa rfl rfl rfl rfl rfl rfl Fa.fo_264_5 ?_
  refine rx_ldD1 rfl rfl rfl rfl rfl rfl rfl (by (repeat first|exact .here|apply Take1.there)) Fa.ag_236 (by rfl) ?_
  refine rx_callH (F := ?FT165) rfl rfl rfl rfl rfl rfl rfl rfl Fa.ca_188 rfl (high e m a gv A hA p2 lr) ?T165 ?_
  case T165 => (repeat (first|exact Take.nil|refine Take.cons (by (repeat first|exact .here|apply Take1.there)) ?_))
  rintro _ _ ⟨rfl, rfl⟩
  try simp only [List.cons_append, List.nil_append]
  refine rx_s rfl rfl rfl rfl rfl ?_
  refine rx_endD ?_
  try simp only [List.cons_append, List.nil_append]
  refine SW.cond rfl (fun h22 => ?_) (fun h22 => ?_)
  · skip
    refine SW.seq ?_
    refine ioP (p := p1) (by (repeat first|exact .here|apply Take1.there)) ?_
    refine ioP (p := p2) (by (repeat first|exact .here|apply Take1.there)) ?_
    simp only [T.fromLeft]
    rw [if_pos (by simpa using h22)]
    rw [← List.append_assoc]
    refine SW.drawT (Hs := [EB e m gv, MB m a, ArP a A, GL gv g, IB b h k x q1 q2 hi, IP A p1 ll, IP A p2 lr, IP A pr r]) (D0l := []) (Dl := ?DT166) (F := ?FT166) Fa.mix (tp := [0, 0, 0, 4, 12, 28, 0, 0, 0, 256, 768, 1792, 0, 8128, 16383, 32767]) (l := [.op 0 .s, .op 1 .s, .op 2 .s, .op 3 .s, .op 4 .s, .op 5 .d, .op 6 .s, .op 7 .s, .op 8 .s, .op 9 .s, .op 10 .s, .op 11 .d, .op 12 .s, .op 13 .e, .op 14 .e, .op 15 .s]) (by kernel_rfl) ?T166a ?T166b ?_
    case T166a => (repeat (first|exact Take.nil|refine Take.cons (by (repeat first|exact .here|apply Take1.there)) ?_))
    case T166b => (repeat (first|exact Take.nil|refine Take.cons (by (repeat first|exact .here|apply Take1.there)) ?_))
    iterate 4 refine rx_s rfl rfl rfl rfl rfl ?_
    refine rx_fa rfl rfl rfl rfl rfl rfl Fa.fo_264_4 ?_
    refine rx_ldD1 rfl rfl rfl rfl rfl rfl rfl (by (repeat first|exact .here|apply Take1.there)) Fa.ag_236 (by rfl) ?_
    iterate 4 refine rx_s rfl rfl rfl rfl rfl ?_
    refine rx_fa rfl rfl rfl rfl rfl rfl Fa.fo_264_5 ?_
    refine rx_ldD1 rfl rfl rfl rfl rfl rfl rfl (by (repeat first|exact .here|apply Take1.there)) Fa.ag_236 (by rfl) ?_
    refine rx_s rfl rfl rfl rfl rfl ?_
    refine rx_callH (F := ?FT167) rfl rfl rfl rfl rfl rfl rfl rfl Fa.ca_191 rfl (node e m a b gv g (by omega) A hA h k x q1 q2 hi p2 pr lr r wl.2.2 wr (by omega) (by omega)) ?T167 ?_
    case T167 => (repeat (first|exact Take.nil|refine Take.cons (by (repeat first|exact .here|apply Take1.there)) ?_))
    rintro _ _ ⟨gv1, b1, rfl, rfl⟩
    try simp only [List.cons_append, List.nil_append]
    refine rx_call (F := ?FT168) rfl rfl rfl rfl rfl rfl rfl rfl Fa.ca_191 rfl (node e m a bl gv1 (g ++ T.lv h) (by have := T.lv_len h; simp; omega) A hA lh lk lw p1 p2 lhi p1 (some ⟨b1, 0, none⟩) ll (T.mk k x lr r) wl.2.1 (T.wf_mk wl.2.2 wr) (by omega) (by simp only [T.mk, T.size]; omega)) ?T168 ?_
    case T168 => (repeat (first|exact Take.nil|refine Take.cons (by (repeat first|exact .here|apply Take1.there)) ?_))
    rintro _ _ ⟨gv2, b2, rfl, rfl⟩
    refine ⟨?HT169, ?T169, ?_⟩
    case T169 => (repeat (first|exact Take.nil|refine Take.cons (by (repeat first|exact .here|apply Take1.there)) ?_))
    try simp only [List.cons_append, List.nil_append]
    refine rx_s rfl rfl rfl rfl rfl ?_
    refine rx_endD ?_
    try simp only [List.cons_append, List.nil_append]
    refine SW.ret ?_
    exact retK1 (l := [_, _, _, _, _, _]) (.tmp rfl .nil) ⟨gv2, b2, rfl, rfl⟩ (.one (by (repeat first|exact .here|apply Take1.there)) (.one (by (repeat first|exact .here|apply Take1.there)) (.one (by (repeat first|exact .here|apply Take1.there)) (.one (by (repeat first|exact .here|apply Take1.there)) (.one (by (repeat first|exact .here|apply Take1.there)) (.one (by (repeat first|exact .here|apply Take1.there)) .nil))))))
  · skip
    refine SW.skip ?_
    try simp only [thenK, blockK, cond_true, cond_false, beq_self_eq_true, Nat.reduceBEq]
    refine SW.seq ?_
    obtain ⟨mh, mk', mv, ml, mr, mhi, rfl⟩ := T.node_of_hgt (t := lr) (by simp at h22; omega)
    simp only [T.size] at hs
    refine ioP (p := p1) (by (repeat first|exact .here|apply Take1.there)) ?_
    refine ioP (p := p2) (by (repeat first|exact .here|apply Take1.there)) ?_
    simp only [T.fromLeft]
    rw [if_neg (by simpa using h22)]
    rw [← List.append_assoc, ← List.append_assoc]
    refine SW.reg (l := [.op 0 .e, .op 1 .e, .op 2 .e, .op 3 .e, .op 4 .e, .op 5 .e, .op 6 .e]) rfl ?_
    iterate 3 refine rx_s rfl rfl rfl rfl rfl ?_
    refine rx_fa rfl rfl rfl rfl rfl rfl Fa.fo_264_5 ?_
    refine rx_ldH1 rfl rfl rfl rfl rfl rfl (by (repeat first|exact .here|apply Take1.there)) Fa.ag_236 (by rfl) ?_
    refine rx_callH (F := ?FT170) rfl rfl rfl rfl rfl rfl rfl rfl Fa.ca_163 rfl (opened e m a gv A hA p2 mh mk' mv ml mr mhi) ?T170 ?_
    case T170 => (repeat (first|exact Take.nil|refine Take.cons (by (repeat first|exact .here|apply Take1.there)) ?_))
    rintro _ _ ⟨bm, m1, m2, rfl, rfl, hh, rfl⟩
    try simp only [List.cons_append, List.nil_append]
    refine rx_s rfl rfl rfl rfl rfl ?_
    refine rx_end0 ?_
    refine SW.seq ?_
    refine SW.drawT (Hs := [EB e m gv, MB m a, ArP a A, GL gv g, IB b h k x q1 q2 hi, IP A p1 ll, IP A m1 ml, IP A m2 mr, IP A pr r]) (D0l := []) (Dl := ?DT171) (F := ?FT171) Fa.mix (tp := [0, 0, 0, 0, 0, 16, 48, 112, 0, 256, 768, 1792, 4092, 0, 0, 0, 32768, 98304, 229376, 0, 1048572, 2097151, 4194303]) (l := [.op 0 .s, .op 1 .s, .op 2 .s, .op 3 .s, .op 4 .s, .op 5 .s, .op 6 .s, .op 7 .d, .op 8 .s, .op 9 .s, .op 10 .s, .op 11 .d, .op 12 .e, .op 13 .s, .op 14 .s, .op 15 .s, .op 16 .s, .op 17 .s, .op 18 .d, .op 19 .s, .op 20 .e, .op 21 .e, .op 22 .s]) (by kernel_rfl) ?T171a ?T171b ?_
    case T171a => (repeat (first|exact Take.nil|refine Take.cons (by (repeat first|exact .here|apply Take1.there)) ?_))
    case T171b => (repeat (first|exact Take.nil|refine Take.cons (by (repeat first|exact .here|apply Take1.there)) ?_))
    iterate 6 refine rx_s rfl rfl rfl rfl rfl ?_
    refine rx_fa rfl rfl rfl rfl rfl rfl Fa.fo_264_4 ?_
    refine rx_ldD1 rfl rfl rfl rfl rfl rfl rfl (by (repeat first|exact .here|apply Take1.there)) Fa.ag_236 (by rfl) ?_
    iterate 2 refine rx_s rfl rfl rfl rfl rfl ?_
    refine rx_fa rfl rfl rfl rfl rfl rfl Fa.fo_264_4 ?_
    refine rx_ldD1 rfl rfl rfl rfl rfl rfl rfl (by (repeat first|exact .here|apply Take1.there)) Fa.ag_236 (by rfl) ?_
    refine rx_call (F := ?FT172) rfl rfl rfl rfl rfl rfl rfl rfl Fa.ca_191 rfl (node e m a bl gv g (by omega) A hA lh lk lw p1 (some ⟨bm, 0, none⟩) lhi p1 m1 ll ml wl.2.1 wl.2.2.2.1 (by omega) (by omega)) ?T172 ?_
    case T172 => (repeat (first|exact Take.nil|refine Take.cons (by (repeat first|exact .here|apply Take1.there)) ?_))
    rintro _ _ ⟨gv1, b1, rfl, rfl⟩
    refine ⟨?HT173, ?T173, ?_⟩
    case T173 => (repeat (first|exact Take.nil|refine Take.cons (by (repeat first|exact .here|apply Take1.there)) ?_))
    try simp only [List.cons_append, List.nil_append]
    iterate 4 refine rx_s rfl rfl rfl rfl rfl ?_
    refine rx_fa rfl rfl rfl rfl rfl rfl Fa.fo_264_5 ?_
    refine rx_ldD1 rfl rfl rfl rfl rfl rfl rfl (by (repeat first|exact .here|apply Take1.there)) Fa.ag_236 (by rfl) ?_
    refine rx_s rfl rfl rfl rfl rfl ?_
    refine rx_callH (F := ?FT174) rfl rfl rfl rfl rfl rfl rfl rfl Fa.ca_191 rfl (node e m a b gv1 (g ++ T.lv lh) (by have := T.lv_len lh; simp; omega) A hA h k x q1 q2 hi m2 pr mr r wl.2.2.2.2 wr (by omega) (by omega)) ?T174 ?_
    case T174 => (repeat (first|exact Take.nil|refine Take.cons (by (repeat first|exact .here|apply Take1.there)) ?_))
    rintro _ _ ⟨gv2, b2, rfl, rfl⟩
    try simp only [List.cons_append, List.nil_append]
    refine rx_call (F := ?FT175) rfl rfl rfl rfl rfl rfl rfl rfl Fa.ca_191 rfl (node e m a bm gv2 (g ++ T.lv lh ++ T.lv h) (by have := T.lv_len lh; have := T.lv_len h; simp; omega) A hA mh mk' mv m1 m2 mhi (some ⟨b1, 0, none⟩) (some ⟨b2, 0, none⟩) (T.mk lk lw ll ml) (T.mk k x mr r) (T.wf_mk wl.2.1 wl.2.2.2.1) (T.wf_mk wl.2.2.2.2 wr) (by simp only [T.mk, T.size]; omega) (by simp only [T.mk, T.size]; omega)) ?T175 ?_
    case T175 => (repeat (first|exact Take.nil|refine Take.cons (by (repeat first|exact .here|apply Take1.there)) ?_))
    rintro _ _ ⟨gv3, b3, rfl, rfl⟩
    refine ⟨?HT176, ?T176, ?_⟩
    case T176 => (repeat (first|exact Take.nil|refine Take.cons (by (repeat first|exact .here|apply Take1.there)) ?_))
    try simp only [List.cons_append, List.nil_append]
    refine rx_s rfl rfl rfl rfl rfl ?_
    refine rx_endD ?_
    try simp only [List.cons_append, List.nil_append]
    refine SW.ret ?_
    exact retK1 (l := [_, _, _, _, _, _]) (.tmp rfl .nil) ⟨gv3, b3, rfl, rfl⟩ (.one (by (repeat first|exact .here|apply Take1.there)) (.one (by (repeat first|exact .here|apply Take1.there)) (.one (by (repeat first|exact .here|apply Take1.there)) (.one (by (repeat first|exact .here|apply Take1.there)) (.one (by (repeat first|exact .here|apply Take1.there)) (.one (by (repeat first|exact .here|apply Take1.there)) .nil))))))
/-- 'fromRight' -/
theorem fromRight (e m a b br : Nat) (gv : Value) (g : List Handle) (hg : g.length ≤ 900000) (A : Ar KNode) (hA : A.ok) (h : Handle) (k : Kid) (x : Bool) (q1 q2 : Option Addr) (hi : Int)
    (rh : Handle) (rk : Kid) (rw' : Bool) (rl rr : TR) (rhi : Int) (p1 p2 pl : Option Addr) (l : TR) (wl : l.wf) (wr : (T.node rh rk rw' rl rr rhi).wf) (hs : l.size + (T.node rh rk rw' rl rr rhi).size ≤ 900000)
    (hd : l.hgt - (T.node rh rk rw' rl rr rhi).hgt < -1) :
    Sl.Spec Tryz.prog 190 #[.pointer (some ⟨e, 0, none⟩), .pointer (some ⟨b, 0, none⟩), .pointer pl, .pointer (some ⟨br, 0, none⟩)]
      [EB e m gv, MB m a, ArP a A, GL gv g, IB b h k x q1 q2 hi, IB br rh rk rw' p1 p2 rhi, IP A p1 rl, IP A p2 rr, IP A pl l]
      (fun v l' => ∃ gv' b', v = .pointer (some ⟨b', 0, none⟩) ∧ l' = [EB e m gv', MB m a, ArP a A, GL gv' (g ++ (T.fromRight h k x l (.node rh rk rw' rl rr rhi)).2), IB b h k x q1 q2 hi,
        IP A (some ⟨b', 0, none⟩) (T.fromRight h k x l (.node rh rk rw' rl rr rhi)).1]) := by
  have h0 := T.hgt_nonneg wl
  have h1 := T.hgt_nonneg wr.2.1
  have h2 := T.hgt_nonneg wr.2.2
  have h3 := wr.1
  simp only [T.size] at hs
  change l.hgt - rhi < -1 at hd
  refine Spec.enter Tryz.func190 rfl rfl rfl ?_
  refine SW.seq ?_
  refine SW.reg (l := [.op 0 .e]) rfl ?_
  refine rx_s rfl rfl rfl rfl rfl ?_
  refine rx_end0 ?_
  refine SW.seq ?_
  refine SW.seq ?_
  refine SW.drawT (Hs := [EB e m gv, MB m a, ArP a A, IP A p1 rl, IP A p2 rr]) (D0l := []) (Dl := ?DT177) (F := ?FT177) Fa.mix (tp := [0, 0, 2, 6, 14, 31, 0, 0, 128, 384, 896, 2047, 4095]) (l := [.op 0 .s, .op 1 .s, .op 2 .s, .op 3 .s, .op 4 .d, .op 5 .e, .op 6 .s, .op 7 .s, .op 8 .s, .op 9 .s, .op 10 .d, .op 11 .e, .op 12 .s]) (by kernel_rfl) ?T177a ?T177b ?_
  case T177a => (repeat (first|exact Take.nil|refine Take.cons (by (repeat first|exact .here|apply Take1.there)) ?_))
  case T177b => (repeat (first|exact Take.nil|refine Take.cons (by (repeat first|exact .here|apply Take1.there)) ?_))
  iterate 3 refine rx_s rfl rfl rfl rfl rfl ?_
  refine rx_fa rfl rfl rfl rfl rfl rfl Fa.fo_264_5 ?_
  refine rx_ldD1 rfl rfl rfl rfl rfl rfl rfl (by (repeat first|exact .here|apply Take1.there)) Fa.ag_236 (by rfl) ?_
  refine rx_callH (F := ?FT178) rfl rfl rfl rfl rfl rfl rfl rfl Fa.ca_188 rfl (high e m a gv A hA p2 rr) ?T178 ?_
  case T178 => (repeat (first|exact Take.nil|refine Take.cons (by (repeat first|exact .here|apply Take1.there)) ?_))
  rintro _ _ ⟨rfl, rfl⟩
  try simp only [List.cons_append, List.nil_append]
  iterate 3 refine rx_s rfl rfl rfl rfl rfl ?_
  refine rx_fa rfl rfl rfl rfl rfl rfl Fa.fo_264_4 ?_
  refine rx_ldD1 rfl rfl rfl rfl rfl rfl rfl (by (repeat first|exact .here|apply Take1.there)) Fa.ag_236 (by rfl) ?_
  refine rx_callH (F := ?FT179) rfl rfl rfl rfl rfl rfl rfl rfl Fa.ca_188 rfl (high e m a gv A hA p1 rl) ?T179 ?_
  case T179 => (repeat (first|exact Take.nil|refine Take.cons (by (repeat first|exact .here|apply Take1.there)) ?_))
  rintro _ _ ⟨rfl, rfl⟩
  try simp only [List.cons_append, List.nil_append]
  refine rx_s rfl rfl rfl rfl rfl ?_
  refine rx_endD ?_
  try simp only [List.cons_append, List.nil_append]
  refine SW.cond rfl (fun h22 => ?_) (fun h22 => ?_)
  · skip
    refine SW.seq ?_
    refine ioP (p := p1) (by (repeat first|exact .here|apply Take1.there)) ?_
    refine ioP (p := p2) (by (repeat first|exact .here|apply Take1.there)) ?_
    simp only [T.fromRight]
    rw [if_pos (by simpa using h22)]
    rw [← List.append_assoc]
    refine SW.drawT (Hs := [EB e m gv, MB m a, ArP a A, GL gv g, IB b h k x q1 q2 hi, IP A p1 rl, IP A p2 rr, IP A pl l]) (D0l := []) (Dl := ?DT180) (F := ?FT180) Fa.mix (tp := [0, 0, 0, 0, 0, 0, 32, 96, 224, 508, 0, 1024, 3072, 7168, 16383, 32767]) (l := [.op 0 .s, .op 1 .s, .op 2 .s, .op 3 .s, .op 4 .s, .op 5 .s, .op 6 .s, .op 7 .s, .op 8 .d, .op 9 .e, .op 10 .s, .op 11 .s, .op 12 .s, .op 13 .d, .op 14 .e, .op 15 .s]) (by kernel_rfl) ?T180a ?T180b ?_
    case T180a => (repeat (first|exact Take.nil|refine Take.cons (by (repeat first|exact .here|apply Take1.there)) ?_))
    case T180b => (repeat (first|exact Take.nil|refine Take.cons (by (repeat first|exact .here|apply Take1.there)) ?_))
    iterate 7 refine rx_s rfl rfl rfl rfl rfl ?_
    refine rx_fa rfl rfl rfl rfl rfl rfl Fa.fo_264_4 ?_
    refine rx_ldD1 rfl rfl rfl rfl rfl rfl rfl (by (repeat first|exact .here|apply Take1.there)) Fa.ag_236 (by rfl) ?_
    refine rx_callH (F := ?FT181) rfl rfl rfl rfl rfl rfl rfl rfl Fa.ca_191 rfl (node e m a b gv g (by omega) A hA h k x q1 q2 hi pl p1 l rl wl wr.2.1 (by omega) (by omega)) ?T181 ?_
    case T181 => (repeat (first|exact Take.nil|refine Take.cons (by (repeat first|exact .here|apply Take1.there)) ?_))
    rintro _ _ ⟨gv1, b1, rfl, rfl⟩
    try simp only [List.cons_append, List.nil_append]
    iterate 2 refine rx_s rfl rfl rfl rfl rfl ?_
    refine rx_fa rfl rfl rfl rfl rfl rfl Fa.fo_264_5 ?_
    refine rx_ldD1 rfl rfl rfl rfl rfl rfl rfl (by (repeat first|exact .here|apply Take1.there)) Fa.ag_236 (by rfl) ?_
    refine rx_call (F := ?FT182) rfl rfl rfl rfl rfl rfl rfl rfl Fa.ca_191 rfl (node e m a br gv1 (g ++ T.lv h) (by have := T.lv_len h; simp; omega) A hA rh rk rw' p1 p2 rhi (some ⟨b1, 0, none⟩) p2 (T.mk k x l rl) rr (T.wf_mk wl wr.2.1) wr.2.2 (by simp only [T.mk, T.size]; omega) (by omega)) ?T182 ?_
    case T182 => (repeat (first|exact Take.nil|refine Take.cons (by (repeat first|exact .here|apply Take1.there)) ?_))
    rintro _ _ ⟨gv2, b2, rfl, rfl⟩
    refine ⟨?HT183, ?T183, ?_⟩
    case T183 => (repeat (first|exact Take.nil|refine Take.cons (by (repeat first|exact .here|apply Take1.there)) ?_))
    try simp only [List.cons_append, List.nil_append]
    refine rx_s rfl rfl rfl rfl rfl ?_
    refine rx_endD ?_
    try simp only [List.cons_append, List.nil_append]
    refine SW.ret ?_
    exact retK1 (l := [_, _, _, _, _, _]) (.tmp rfl .nil) ⟨gv2, b2, rfl, rfl⟩ (.one (by (repeat first|exact .here|apply Take1.there)) (.one (by (repeat first|exact .here|apply Take1.there)) (.one (by (repeat first|exact .here|apply Take1.there)) (.one (by (repeat first|exact .here|apply Take1.there)) (.one (by (repeat first|exact .here|apply Take1.there)) (.one (by (repeat first|exact .here|apply Take1.there)) .nil))))))
  · skip
    refine SW.skip ?_
    try simp only [thenK, blockK, cond_true, cond_false, beq_self_eq_true, Nat.reduceBEq]
    refine SW.seq ?_
    obtain ⟨mh, mk', mv, ml, mr, mhi, rfl⟩ := T.node_of_hgt (t := rl) (by simp at h22; omega)
    simp only [T.size] at hs
    refine ioP (p := p1) (by (repeat first|exact .here|apply Take1.there)) ?_
    refine ioP (p := p2) (by (repeat first|exact .here|apply Take1.there)) ?_
    simp only [T.fromRight]
    rw [if_neg (by simpa using h22)]
    rw [← List.append_assoc, ← List.append_assoc]
    refine SW.reg (l := [.op 0 .e, .op 1 .e, .op 2 .e, .op 3 .e, .op 4 .e, .op 5 .e, .op 6 .e]) rfl ?_
    iterate 3 refine rx_s rfl rfl rfl rfl rfl ?_
    refine rx_fa rfl rfl rfl rfl rfl rfl Fa.fo_264_4 ?_
    refine rx_ldH1 rfl rfl rfl rfl rfl rfl (by (repeat first|exact .here|apply Take1.there)) Fa.ag_236 (by rfl) ?_
    refine rx_callH (F := ?FT184) rfl rfl rfl rfl rfl rfl rfl rfl Fa.ca_163 rfl (opened e m a gv A hA p1 mh mk' mv ml mr mhi) ?T184 ?_
    case T184 => (repeat (first|exact Take.nil|refine Take.cons (by (repeat first|exact .here|apply Take1.there)) ?_))
    rintro _ _ ⟨bm, m1, m2, rfl, rfl, hh, rfl⟩
    try simp only [List.cons_append, List.nil_append]
    refine rx_s rfl rfl rfl rfl rfl ?_
    refine rx_end0 ?_
    refine SW.seq ?_
    refine SW.drawT (Hs := [EB e m gv, MB m a, ArP a A, GL gv g, IB b h k x q1 q2 hi, IP A p2 rr, IP A m1 ml, IP A m2 mr, IP A pl l]) (D0l := []) (Dl := ?DT185) (F := ?FT185) Fa.mix (tp := [0, 0, 0, 0, 0, 0, 32, 96, 224, 508, 0, 0, 0, 4096, 12288, 28672, 0, 65536, 196608, 458752, 1048572, 2097151, 4194303]) (l := [.op 0 .s, .op 1 .s, .op 2 .s, .op 3 .s, .op 4 .s, .op 5 .s, .op 6 .s, .op 7 .s, .op 8 .d, .op 9 .e, .op 10 .s, .op 11 .s, .op 12 .s, .op 13 .s, .op 14 .s, .op 15 .d, .op 16 .s, .op 17 .s, .op 18 .s, .op 19 .d, .op 20 .e, .op 21 .e, .op 22 .s]) (by kernel_rfl) ?T185a ?T185b ?_
    case T185a => (repeat (first|exact Take.nil|refine Take.cons (by (repeat first|exact .here|apply Take1.there)) ?_))
    case T185b => (repeat (first|exact Take.nil|refine Take.cons (by (repeat first|exact .here|apply Take1.there)) ?_))
    iterate 7 refine rx_s rfl rfl rfl rfl rfl ?_
    refine rx_fa rfl rfl rfl rfl rfl rfl Fa.fo_264_4 ?_
    refine rx_ldD1 rfl rfl rfl rfl rfl rfl rfl (by (repeat first|exact .here|apply Take1.there)) Fa.ag_236 (by rfl) ?_
    refine rx_callH (F := ?FT186) rfl rfl rfl rfl rfl rfl rfl rfl Fa.ca_191 rfl (node e m a b gv g (by omega) A hA h k x q1 q2 hi pl m1 l ml wl wr.2.1.2.1 (by omega) (by omega)) ?T186 ?_
    case T186 => (repeat (first|exact Take.nil|refine Take.cons (by (repeat first|exact .here|apply Take1.there)) ?_))
    rintro _ _ ⟨gv1, b1, rfl, rfl⟩
    try simp only [List.cons_append, List.nil_append]
    iterate 4 refine rx_s rfl rfl rfl rfl rfl ?_
    refine rx_fa rfl rfl rfl rfl rfl rfl Fa.fo_264_5 ?_
    refine rx_ldD1 rfl rfl rfl rfl rfl rfl rfl (by (repeat first|exact .here|apply Take1.there)) Fa.ag_236 (by rfl) ?_
    iterate 2 refine rx_s rfl rfl rfl rfl rfl ?_
    refine rx_fa rfl rfl rfl rfl rfl rfl Fa.fo_264_5 ?_
    refine rx_ldD1 rfl rfl rfl rfl rfl rfl rfl (by (repeat first|exact .here|apply Take1.there)) Fa.ag_236 (by rfl) ?_
    refine rx_call (F := ?FT187) rfl rfl rfl rfl rfl rfl rfl rfl Fa.ca_191 rfl (node e m a br gv1 (g ++ T.lv h) (by have := T.lv_len h; simp; omega) A hA rh rk rw' (some ⟨bm, 0, none⟩) p2 rhi m2 p2 mr rr wr.2.1.2.2 wr.2.2 (by omega) (by omega)) ?T187 ?_
    case T187 => (repeat (first|exact Take.nil|refine Take.cons (by (repeat first|exact .here|apply Take1.there)) ?_))
    rintro _ _ ⟨gv2, b2, rfl, rfl⟩
    refine ⟨?HT188, ?T188, ?_⟩
    case T188 => (repeat (first|exact Take.nil|refine Take.cons (by (repeat first|exact .here|apply Take1.there)) ?_))
    try simp only [List.cons_append, List.nil_append]
    refine rx_call (F := ?FT189) rfl rfl rfl rfl rfl rfl rfl rfl Fa.ca_191 rfl (node e m a bm gv2 (g ++ T.lv h ++ T.lv rh) (by have := T.lv_len rh; have := T.lv_len h; simp; omega) A hA mh mk' mv m1 m2 mhi (some ⟨b1, 0, none⟩) (some ⟨b2, 0, none⟩) (T.mk k x l ml) (T.mk rk rw' mr rr) (T.wf_mk wl wr.2.1.2.1) (T.wf_mk wr.2.1.2.2 wr.2.2) (by simp only [T.mk, T.size]; omega) (by simp only [T.mk, T.size]; omega)) ?T189 ?_
    case T189 => (repeat (first|exact Take.nil|refine Take.cons (by (repeat first|exact .here|apply Take1.there)) ?_))
    rintro _ _ ⟨gv3, b3, rfl, rfl⟩
    refine ⟨?HT190, ?T190, ?_⟩
    case T190 => (repeat (first|exact Take.nil|refine Take.cons (by (repeat first|exact .here|apply Take1.there)) ?_))
    try simp only [List.cons_append, List.nil_append]
    refine rx_s rfl rfl rfl rfl rfl ?_
    refine rx_endD ?_
    try simp only [List.cons_append, List.nil_append]
    refine SW.ret ?_
    exact retK1 (l := [_, _, _, _, _, _]) (.tmp rfl .nil) ⟨gv3, b3, rfl, rfl⟩ (.one (by (repeat first|exact .here|apply Take1.there)) (.one (by (repeat first|exact .here|apply Take1.there)) (.one (by (repeat first|exact .here|apply Take1.there)) (.one (by (repeat first|exact .here|apply Take1.there)) (.one (by (repeat first|exact .here|apply Take1.there)) (.one (by (repeat first|exact .here|apply Take1.there)) .nil))))))

/-- 'balance' -/
theorem balance (e m a b : Nat) (gv : Value) (g : List Handle) (hg : g.length ≤ 900000) (A : Ar KNode) (hA : A.ok) (h : Handle) (k : Kid) (x : Bool) (q1 q2 : Option Addr) (hi : Int)
    (pl pr : Option Addr) (l r : TR) (wl : l.wf) (wr : r.wf) (hs : l.size + r.size ≤ 900000) :
    Sl.Spec Tryz.prog 164 #[.pointer (some ⟨e, 0, none⟩), .pointer (some ⟨b, 0, none⟩), .pointer pl, .pointer pr]
      [EB e m gv, MB m a, ArP a A, GL gv g, IB b h k x q1 q2 hi, IP A pl l, IP A pr r]
      (fun v l' => ∃ gv' b', v = .pointer (some ⟨b', 0, none⟩) ∧ l' = [EB e m gv', MB m a, ArP a A, GL gv' (g ++ (T.bal h k x l r).2), IB b h k x q1 q2 hi,
        IP A (some ⟨b', 0, none⟩) (T.bal h k x l r).1]) := by
  have h0 := T.hgt_nonneg wl
  have h1 := T.hgt_nonneg wr
  have h2 := T.hgt_size wl
  have h3 := T.hgt_size wr
  refine Spec.enter Tryz.func164 rfl rfl rfl ?_
  refine SW.seq ?_
  refine SW.reg (l := [.op 0 .e]) rfl ?_
  refine rx_s rfl rfl rfl rfl rfl ?_
  refine rx_end0 ?_
  refine SW.seq ?_
  refine SW.seq ?_
  refine SW.reg (l := [.op 0 .e, .op 1 .e, .op 2 .e, .op 3 .e, .op 4 .e, .op 5 .e, .op 6 .e, .op 7 .e]) rfl ?_
  iterate 2 refine rx_s rfl rfl rfl rfl rfl ?_
  refine rx_callH (F := ?FT191) rfl rfl rfl rfl rfl rfl rfl rfl Fa.ca_188 rfl (high e m a gv A hA pl l) ?T191 ?_
  case T191 => (repeat (first|exact Take.nil|refine Take.cons (by (repeat first|exact .here|apply Take1.there)) ?_))
  rintro _ _ ⟨rfl, rfl⟩
  try simp only [List.cons_append, List.nil_append]
  iterate 2 refine rx_s rfl rfl rfl rfl rfl ?_
  refine rx_callH (F := ?FT192) rfl rfl rfl rfl rfl rfl rfl rfl Fa.ca_188 rfl (high e m a gv A hA pr r) ?T192 ?_
  case T192 => (repeat (first|exact Take.nil|refine Take.cons (by (repeat first|exact .here|apply Take1.there)) ?_))
  rintro _ _ ⟨rfl, rfl⟩
  try simp only [List.cons_append, List.nil_append]
  refine rx_ar rfl rfl rfl rfl rfl (by omega) ?_
  refine rx_s rfl rfl rfl rfl rfl ?_
  refine rx_end0 ?_
  refine SW.block ?_
  refine SW.seq ?_
  refine SW.reg (l := [.op 0 .e, .op 1 .e, .op 2 .e]) rfl ?_
  iterate 3 refine rx_s rfl rfl rfl rfl rfl ?_
  refine rx_end0 ?_
  refine SW.cond rfl (fun h17 => ?_) (fun h17 => ?_)
  · skip
    have hc : l.hgt - r.hgt > 1 := of_decide_eq_true h17
    have hb : T.bal h k x l r = T.fromLeft h k x l r := by unfold T.bal; rw [if_pos hc]
    rw [hb]
    obtain ⟨lh, lk, lw, ll, lr, lhi, rfl⟩ := T.node_of_hgt (t := l) (by omega)
    refine ioP (p := pr) (by (repeat first|exact .here|apply Take1.there)) ?_
    refine ioO (p := pl) (by (repeat first|exact .here|apply Take1.there)) ?_
    rintro bl p1 p2 rfl hh
    refine SW.seq ?_
    refine SW.reg (l := [.op 0 .e, .op 1 .e, .op 2 .e, .op 3 .e, .op 4 .e, .op 5 .e]) rfl ?_
    iterate 4 refine rx_s rfl rfl rfl rfl rfl ?_
    refine rx_callH (F := ?FT193) rfl rfl rfl rfl rfl rfl rfl rfl Fa.ca_189 rfl (fromLeft e m a b bl gv g hg A hA h k x q1 q2 hi lh lk lw ll lr lhi p1 p2 pr r wl wr hs hc) ?T193 ?_
    case T193 => (repeat (first|exact Take.nil|refine Take.cons (by (repeat first|exact .here|apply Take1.there)) ?_))
    rintro _ _ ⟨gv1, b1, rfl, rfl⟩
    try simp only [List.cons_append, List.nil_append]
    refine rx_s rfl rfl rfl rfl rfl ?_
    refine rx_end0 ?_
    refine SW.ret ?_
    exact retK1 (l := [_, _, _, _, _, _]) (.tmp rfl .nil) ⟨gv1, b1, rfl, rfl⟩ (.one (by (repeat first|exact .here|apply Take1.there)) (.one (by (repeat first|exact .here|apply Take1.there)) (.one (by (repeat first|exact .here|apply Take1.there)) (.one (by (repeat first|exact .here|apply Take1.there)) (.one (by (repeat first|exact .here|apply Take1.there)) (.one (by (repeat first|exact .here|apply Take1.there)) .nil))))))
  · skip
    have hc : ¬ (l.hgt - r.hgt > 1) := by simpa using h17
    refine SW.seq ?_
    refine SW.reg (l := [.op 0 .e, .op 1 .e, .op 2 .e]) rfl ?_
    iterate 3 refine rx_s rfl rfl rfl rfl rfl ?_
    refine rx_end0 ?_
    refine SW.cond rfl (fun h25 => ?_) (fun h25 => ?_)
    · skip
      have hc' : l.hgt - r.hgt < -1 := of_decide_eq_true h25
      have hb : T.bal h k x l r = T.fromRight h k x l r := by unfold T.bal; rw [if_neg hc, if_pos hc']
      rw [hb]
      obtain ⟨rh, rk, rw', rl, rr, rhi, rfl⟩ := T.node_of_hgt (t := r) (by omega)
      refine ioP (p := pl) (by (repeat first|exact .here|apply Take1.there)) ?_
      refine ioO (p := pr) (by (repeat first|exact .here|apply Take1.there)) ?_
      rintro br p1 p2 rfl hh
      refine SW.seq ?_
      refine SW.reg (l := [.op 0 .e, .op 1 .e, .op 2 .e, .op 3 .e, .op 4 .e, .op 5 .e]) rfl ?_
      iterate 4 refine rx_s rfl rfl rfl rfl rfl ?_
      refine rx_callH (F := ?FT194) rfl rfl rfl rfl rfl rfl rfl rfl Fa.ca_190 rfl (fromRight e m a b br gv g hg A hA h k x q1 q2 hi rh rk rw' rl rr rhi p1 p2 pl l wl wr hs hc') ?T194 ?_
      case T194 => (repeat (first|exact Take.nil|refine Take.cons (by (repeat first|exact .here|apply Take1.there)) ?_))
      rintro _ _ ⟨gv1, b1, rfl, rfl⟩
      try simp only [List.cons_append, List.nil_append]
      refine rx_s rfl rfl rfl rfl rfl ?_
      refine rx_end0 ?_
      refine SW.ret ?_
      exact retK1 (l := [_, _, _, _, _, _]) (.tmp rfl .nil) ⟨gv1, b1, rfl, rfl⟩ (.one (by (repeat first|exact .here|apply Take1.there)) (.one (by (repeat first|exact .here|apply Take1.there)) (.one (by (repeat first|exact .here|apply Take1.there)) (.one (by (repeat first|exact .here|apply Take1.there)) (.one (by (repeat first|exact .here|apply Take1.there)) (.one (by (repeat first|exact .here|apply Take1.there)) .nil))))))
    · skip
      have hc' : ¬ (l.hgt - r.hgt < -1) := by simpa using h25
      have hb : T.bal h k x l r = (T.mk k x l r, T.lv h) := by unfold T.bal; rw [if_neg hc, if_neg hc']
      rw [hb]
      refine ioP (p := pl) (by (repeat first|exact .here|apply Take1.there)) ?_
      refine ioP (p := pr) (by (repeat first|exact .here|apply Take1.there)) ?_
      refine SW.skip ?_
      try simp only [thenK, blockK, cond_true, cond_false, beq_self_eq_true, Nat.reduceBEq]
      refine SW.seq ?_
      refine SW.reg (l := [.op 0 .e, .op 1 .e, .op 2 .e, .op 3 .e, .op 4 .e, .op 5 .e]) rfl ?_
      iterate 4 refine rx_s rfl rfl rfl rfl rfl ?_
      refine rx_callH (F := ?FT195) rfl rfl rfl rfl rfl rfl rfl rfl Fa.ca_191 rfl (node e m a b gv g (by omega) A hA h k x q1 q2 hi pl pr l r wl wr (by omega) (by omega)) ?T195 ?_
      case T195 => (repeat (first|exact Take.nil|refine Take.cons (by (repeat first|exact .here|apply Take1.there)) ?_))
      rintro _ _ ⟨gv1, b1, rfl, rfl⟩
      try simp only [List.cons_append, List.nil_append]
      refine rx_s rfl rfl rfl rfl rfl ?_
      refine rx_end0 ?_
      refine SW.ret ?_
      exact retK1 (l := [_, _, _, _, _, _]) (.tmp rfl .nil) ⟨gv1, b1, rfl, rfl⟩ (.one (by (repeat first|exact .here|apply Take1.there)) (.one (by (repeat first|exact .here|apply Take1.there)) (.one (by (repeat first|exact .here|apply Take1.there)) (.one (by (repeat first|exact .here|apply Take1.there)) (.one (by (repeat first|exact .here|apply Take1.there)) (.one (by (repeat first|exact .here|apply Take1.there)) .nil))))))
end ItK
end Go.Proofs.YtikkegelplllmaaGreatDoor
