/- Digits appended to a row of bytes, and a row of bytes read as a text. -/
import Derived.Test.YtgllekaanaikhaaChecked
import Derived.Test.YtgllekaanaikhaaBase
import Derived.Laws.AppendOwn
import Derived.Laws.BytesArg
namespace Go.Proofs.Ytgllekaanaikhaa.Tb
open Go.RowKit Ba
set_option linter.unusedVariables false
set_option linter.unusedSimpArgs false

theorem info_u8 : (Try.prog.info? 5).map (fun i => (i.zero, i.size, i.bytes)) = some (some (.int .u8 0), 1, 1) := by kernel_rfl
def Grew (w : World) (base k : Nat) (xs : List Value) (e : Ending) (w' : World) : Prop := ∃ v', e = .returned v' ∧ w'.ownsRow base 5 1 v' k xs ∧ Below base w w'
theorem below_grown {w w' : World} {base k : Nat} {v : Value} {xs : List Value} {e : TypeId} {z : Nat} (hg : w.grownBy w' v.ownBlock) (ho : w.ownsRow base e z v k xs) (hb : base ≤ w.heap.size) : Below base w w' :=
  ⟨hg.os, hg.tape, hg.output, hg.size, fun j hj => hg.block j (Nat.lt_of_lt_of_le hj hb) (fun h => by have := (ho.lt j h.symm).1; omega)⟩
theorem digits_ok (v : Value) (k : Nat) (xs : List Value) (n : Int) (base : Nat) (w : World) (hb : base ≤ w.heap.size) (hown : w.ownsRow base 5 1 v k xs) (hk : k ≤ 20) (n0 : 0 ≤ n) (n1 : n ≤ 99) :
    Calls Try.prog 40 #[v, .int .i64 n] w (Grew w base (k + 2) (xs ++ [.int .u8 (48 + n / 10), .int .u8 (48 + n % 10)])) := by
  obtain ⟨i0, hi, hz0, hz1, hz2⟩ := info_parts info_u8
  go_enter Try.func40, Try.ntmps40
  go_wp2_with (at_builtin; refine wpList_append_own _ rfl _ _ 52 rfl base 5 i0 (.int .u8 0) 1 1 Try.underlying52 hi hz0 hz1 hz2 rfl (by decide) v k xs rfl (hown.alloc _) ⟨w.heap.size, 0, none⟩ 2 2 [.int .u8 (48 + n / 10), .int .u8 (48 + n % 10)] rfl rfl ?c1 ?c2 ?c3 ?c4 ?c5 ?_)
  case c1 =>
    intro j u hj
    match j, hj with
    | 0, hj => simp at hj; subst hj; simp [Addr.add]
    | 1, hj => simp at hj; subst hj; simp [Addr.add]
    | (j + 2), hj => simp at hj
  case c2 => simp [Value.oneCell']
  case c3 => unfold maxLen; omega
  case c4 => omega
  case c5 => simp; omega
  intro v' w1 hown' hgrow _
  go_wp2_with fail
  go_ret
  exact ⟨v', rfl, hown', Below.grown ((Below.refl _ _).alloc hb _) hgrow (by simp; omega) (fun j hj => (hown.lt j hj).1)⟩
end Go.Proofs.Ytgllekaanaikhaa.Tb
