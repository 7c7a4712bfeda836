/- The statement Rows.TopPulldownSaid, proved: for every input the law TopPulldown returns true, and each argument reads afterwards as it read before. No condition.
   The walk is YtcpepenhebipbaaQy.Qi.Top_walk; the rest is the guide's frame for a row, written by a program (gen.py). -/
import Derived.Test.YtcpepenhebipbaaRows
import Derived.Test.YtcpepenhebipbaaOpen
import Derived.Test.YtcpepenhebipbaaQy
import Derived.WalkKit
import Derived.ProofKit
import Derived.OpenShut
import Derived.ShutString
import Derived.ChangeOld
import Derived.Below
namespace Go.Proofs.Ytcpepenhebipbaa.topPulldownP
open Go.ChangeShapes Go.WideShapes Go.ChangeAt Go.RowKit
set_option linter.unusedVariables false

theorem own : ownKnob Try.prog.godebug = none := by kernel_rfl
theorem laidOut : laidOutB Try.prog = true := by kernel_rfl

set_option maxRecDepth 100000 in
theorem lifted (os : Os) (started : os.Started) (H : Type) (enc : TypeId × Value → H) :
    ReturnsInHanded {} Try.checked os 3 .any (Rows.topPulldownSpec.pre6 enc Try.prog Try.f3 Rows.topPulldownRow.domain false) (Rows.topPulldownSpec.post enc Try.prog Try.f3 false true false false) := by
  refine returnsInHanded_of_change (C := Try.checked) own started (by kernel_rfl) Try.func3
    (ChangeSpec.witness6 (enc := enc) (C := Try.checked) false ⟨#[], #[.int .i64 0, .agg #[.int .i64 0, .int .i64 0]], []⟩ 8 (by kernel_rfl) (by kernel_rfl) (by kernel_rfl) (by kernel_rfl)) ?_
  intro W base args ds gs before hval0 hW hcnd _
  have hval : ∀ (j : Nat) t v, Try.f3.params[j]? = some t → args[j]? = some v → Value.okWide Try.prog W .any base t v := hval0
  have hW' := hW
  obtain ⟨p, q, hA0, hV, rfl, hfz, hnd⟩ := hW
  have hA : DataW.TrodAll enc Try.prog W 0 (fun _ => true) true Try.f3.params.toList args.toList ds p := hA0
  rw [Try.params3] at hA hval
  obtain ⟨v0, vs0, d0, ds0, p0, q0, hargs, rfl, rfl, h0, r0⟩ := trodAll_cons hA
  obtain ⟨v1, vs1, d1, ds1, p1, q1, rfl, rfl, rfl, h1, r1⟩ := trodAll_cons r0
  obtain ⟨rfl, rfl, rfl⟩ := trodAll_nil r1
  obtain rfl : args = #[v0, v1] := by cases args; simp_all
  obtain ⟨rfl, rfl⟩ := trodVars_none hV
  have k0 := h0
  have lt0 : ∀ x ∈ p0, x.block < W.heap.size := by obtain ⟨m, hm⟩ := k0; exact DataW.trod_lt m _ _ _ hm
  have k1 := h1
  have lt1 : ∀ x ∈ p1, x.block < W.heap.size := by obtain ⟨m, hm⟩ := k1; exact DataW.trod_lt m _ _ _ hm
  obtain ⟨a0, rfl, i0⟩ := Op.one_i64 Try.underlying3 (hval 0 3 v0 rfl rfl)
  obtain ⟨l1, rfl, hl1_0⟩ := Op.ok_list (ts := [2, 2]) (.inl ⟨_, Try.underlying23⟩) (by kernel_rfl) (by kernel_rfl) (hval 1 23 v1 rfl rfl)
  obtain ⟨c1_0, m1_0, rfl, ho1_0, hl1_1⟩ := hl1_0.cons
  obtain ⟨a1_0, rfl, i1_0⟩ := Op.ok_i64 Try.underlying2 ho1_0
  obtain ⟨c1_1, m1_1, rfl, ho1_1, hl1_2⟩ := hl1_1.cons
  obtain ⟨a1_1, rfl, i1_1⟩ := Op.ok_i64 Try.underlying2 ho1_1
  obtain rfl := hl1_2.nil
  clear hA0 hval0
  refine (Qi.Top_walk W a0 a1_0 a1_1 i0 i1_0 i1_1).mono fun e W' ⟨he, bel⟩ => ?_
  subst he
  exact ⟨_, rfl, _, _, _, [], _, [], hW', trodAll_mk1 (shut_bool Try.underlying4 _), (trodAll_cons_mk (Below.trod laidOut (by kernel_rfl) (of_decide_eq_true (by kernel_rfl)) k0 bel lt0) (trodAll_cons_mk (Below.trod laidOut (by kernel_rfl) (of_decide_eq_true (by kernel_rfl)) k1 bel lt1) trodAll_mk0)), rfl, bel.frame _, fun h => by cases h⟩

theorem over : Rows.topPulldownRow.holds Try.pinned (OpenSpec.ofChange Rows.topPulldownSpec) :=
  OpenClaim.holds_of_wide 3 Try.f3 rfl rfl rfl rfl rfl rfl rfl ⟨rfl, rfl, rfl, rfl, rfl⟩ rfl rfl rfl rfl rfl (by kernel_rfl) Try.func3 (by kernel_rfl)
    (of_decide_eq_true (by kernel_rfl)) (by unfold Func.isWrapper; first | (rw [if_pos (by decide +kernel)]; kernel_rfl) | (rw [if_neg (by decide +kernel)]; exact ⟨rfl, rfl⟩))
    (fun os started H enc _ => lifted os started H enc)

theorem proved : Rows.TopPulldownSaid := over
#print axioms proved
end Go.Proofs.Ytcpepenhebipbaa.topPulldownP
