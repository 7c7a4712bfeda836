/- The statement Rows.TimecodeOrderSaid, proved: for every input the law TimecodeOrder returns true, and each argument reads afterwards as it read before. No condition.
   The walk is YtgllekaanaikhaaWOrder3.Tb.Order_walk; the rest is the guide's frame for a row, written by a program (gen.py). -/
import Derived.Test.YtgllekaanaikhaaRows
import Derived.Test.YtgllekaanaikhaaOpen
import Derived.Test.YtgllekaanaikhaaWOrder3
import Derived.WalkKit
import Derived.ProofKit
import Derived.OpenShut
import Derived.ShutString
import Derived.ChangeOld
import Derived.Below
namespace Go.Proofs.Ytgllekaanaikhaa.timecodeOrderP
open Go.ChangeShapes Go.WideShapes Go.ChangeAt Go.RowKit
set_option linter.unusedVariables false

theorem own : ownKnob Try.prog.godebug = none := by kernel_rfl
theorem laidOut : laidOutB Try.prog = true := by kernel_rfl

set_option maxRecDepth 100000 in
theorem lifted (os : Os) (started : os.Started) (H : Type) (enc : TypeId × Value → H) :
    ReturnsInHanded {} Try.checked os 11 .any (Rows.timecodeOrderSpec.pre6 enc Try.prog Try.f11 Rows.timecodeOrderRow.domain false) (Rows.timecodeOrderSpec.post enc Try.prog Try.f11 false true false false) := by
  refine returnsInHanded_of_change (C := Try.checked) own started (by kernel_rfl) Try.func11
    (ChangeSpec.witness6 (enc := enc) (C := Try.checked) false ⟨#[], #[.int .u8 0, .agg #[.int .i64 0, .int .i64 0, .int .i64 0, .int .i64 0, .bool false]], []⟩ 8 (by kernel_rfl) (by kernel_rfl) (by kernel_rfl) (by kernel_rfl)) ?_
  intro W base args ds gs before hval0 hW hcnd _
  have hval : ∀ (j : Nat) t v, Try.f11.params[j]? = some t → args[j]? = some v → Value.okWide Try.prog W .any base t v := hval0
  have hW' := hW
  obtain ⟨p, q, hA0, hV, rfl, hfz, hnd⟩ := hW
  have hA : DataW.TrodAll enc Try.prog W 0 (fun _ => true) true Try.f11.params.toList args.toList ds p := hA0
  rw [Try.params11] at hA hval
  obtain ⟨v0, vs0, d0, ds0, p0, q0, hargs, rfl, rfl, h0, r0⟩ := trodAll_cons hA
  obtain ⟨v1, vs1, d1, ds1, p1, q1, rfl, rfl, rfl, h1, r1⟩ := trodAll_cons r0
  obtain ⟨rfl, rfl, rfl⟩ := trodAll_nil r1
  obtain rfl : args = #[v0, v1] := by cases args; simp_all
  obtain ⟨rfl, rfl⟩ := trodVars_none hV
  have k0 := h0
  have lt0 : ∀ x ∈ p0, x.block < W.heap.size := by obtain ⟨m, hm⟩ := k0; exact DataW.trod_lt m _ _ _ hm
  have k1 := h1
  have lt1 : ∀ x ∈ p1, x.block < W.heap.size := by obtain ⟨m, hm⟩ := k1; exact DataW.trod_lt m _ _ _ hm
  obtain ⟨a0, rfl, i0⟩ := Op.one_u8 Try.underlying22 (hval 0 22 v0 rfl rfl)
  obtain ⟨l1, rfl, hl1_0⟩ := Op.ok_list (ts := [3, 3, 3, 3, 4]) (.inl ⟨_, Try.underlying25⟩) (by kernel_rfl) (by kernel_rfl) (hval 1 25 v1 rfl rfl)
  obtain ⟨c1_0, m1_0, rfl, ho1_0, hl1_1⟩ := hl1_0.cons
  obtain ⟨a1_0, rfl, i1_0⟩ := Op.ok_i64 Try.underlying3 ho1_0
  obtain ⟨c1_1, m1_1, rfl, ho1_1, hl1_2⟩ := hl1_1.cons
  obtain ⟨a1_1, rfl, i1_1⟩ := Op.ok_i64 Try.underlying3 ho1_1
  obtain ⟨c1_2, m1_2, rfl, ho1_2, hl1_3⟩ := hl1_2.cons
  obtain ⟨a1_2, rfl, i1_2⟩ := Op.ok_i64 Try.underlying3 ho1_2
  obtain ⟨c1_3, m1_3, rfl, ho1_3, hl1_4⟩ := hl1_3.cons
  obtain ⟨a1_3, rfl, i1_3⟩ := Op.ok_i64 Try.underlying3 ho1_3
  obtain ⟨c1_4, m1_4, rfl, ho1_4, hl1_5⟩ := hl1_4.cons
  obtain ⟨a1_4, rfl⟩ := Op.ok_bool Try.underlying4 ho1_4
  obtain rfl := hl1_5.nil
  clear hA0 hval0
  refine (Tb.Order_walk W a0 a1_0 a1_1 a1_2 a1_3 a1_4 i0 i1_0 i1_1 i1_2 i1_3).mono fun e W' ⟨he, bel⟩ => ?_
  subst he
  exact ⟨_, rfl, _, _, _, [], _, [], hW', trodAll_mk1 (shut_bool Try.underlying4 _), (trodAll_cons_mk (Below.trod laidOut (by kernel_rfl) (of_decide_eq_true (by kernel_rfl)) k0 bel lt0) (trodAll_cons_mk (Below.trod laidOut (by kernel_rfl) (of_decide_eq_true (by kernel_rfl)) k1 bel lt1) trodAll_mk0)), rfl, bel.frame _, fun h => by cases h⟩

theorem over : Rows.timecodeOrderRow.holds Try.pinned (OpenSpec.ofChange Rows.timecodeOrderSpec) :=
  OpenClaim.holds_of_wide 11 Try.f11 rfl rfl rfl rfl rfl rfl rfl ⟨rfl, rfl, rfl, rfl, rfl⟩ rfl rfl rfl rfl rfl (by kernel_rfl) Try.func11 (by kernel_rfl)
    (of_decide_eq_true (by kernel_rfl)) (by unfold Func.isWrapper; first | (rw [if_pos (by decide +kernel)]; kernel_rfl) | (rw [if_neg (by decide +kernel)]; exact ⟨rfl, rfl⟩))
    (fun os started H enc _ => lifted os started H enc)

theorem proved : Rows.TimecodeOrderSaid := over
#print axioms proved
end Go.Proofs.Ytgllekaanaikhaa.timecodeOrderP
