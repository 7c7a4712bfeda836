/- The statement TopPulldown: all ways together. -/
import Derived.Test.YtcpepenhebipbaaChecked
import Derived.Test.YtcpepenhebipbaaBase
import Derived.Test.YtcpepenhebipbaaQx
namespace Go.Proofs.Ytcpepenhebipbaa.Qi
open Go.RowKit Ba Pu Pc
set_option linter.unusedVariables false
set_option linter.unusedSimpArgs false

/-- The fields of the j-th film frame of a span. -/
def fF (p a : Int) (j : Nat) : Int × Int := (fld p (a + j), fld p (a + j + 1))
theorem fld_lt (p s t : Int) (h : s < t) : fld p s < fld p t := by unfold fld; omega
theorem tiles_f (p a : Int) : Tiles (fF p a) where
  lt i := fld_lt p _ _ (by omega)
  next i := by show fld p (a + ((i + 1 : Nat) : Int)) = fld p (a + i + 1); congr 1; omega
  up i j h := fld_lt p _ _ (by omega)
theorem cl_dec (p n : Int) : cl p n = decide (2 * n + 1 < fld p (sn p (2 * n) + 1)) := by
  rw [Bool.eq_iff_iff, cl_iff, decide_eq_true_eq]
  obtain ⟨h1, h2⟩ := fld_sn p (2 * n)
  obtain ⟨h3, h4⟩ := fld_sn p (2 * n + 1)
  constructor
  · intro h; rw [h] at h4; exact h4
  · intro h; exact sn_of p (2 * n + 1) _ (by omega) h
theorem Top_long (w : World) (p a b : Int) (h0 : 0 ≤ p) (h1 : p < 4) (hab : a < b) (ha : 0 ≤ a) (hs : b - a ≤ 200) (hb : b < 2592000) :
    Calls Try.prog 3 #[.int .i64 p, .agg #[.int .i64 a, .int .i64 b]] w fun e w' => e = .returned (.bool true) ∧ Below w.heap.size w w' := by
  obtain ⟨len, hl⟩ : ∃ len : Nat, b = a + len := ⟨(b - a).toNat, by omega⟩
  have hp : p % 2 = 0 ∨ p % 2 = 1 := by omega
  have A0 : 0 ≤ fld p a := by unfold fld; omega
  have E1 : fld p b ≤ 6480001 := by unfold fld; omega
  have AE := fld_lt p a b hab
  have hend : ∀ j : Int, j = b → fld p j = fld p b := fun j h => by rw [h]
  refine Top_k w p a b (fld p a / 2) ((fld p b + 1) / 2) len (fF p a) ha hl (by omega) (by omega) hb (Lib.hid (span_fit p a b h0 h1 hab ha (by omega)))
    (Lib.hid fun k hk => fields_fit p (a + k) h0 h1 (by omega) (by omega)) (Lib.hid (tiles_f p a)) (fld p a) (fld p b) A0 (by omega) AE (Int.tdiv_eq_ediv_of_nonneg A0) (Int.tdiv_eq_ediv_of_nonneg (by omega)) rfl rfl
    (by show fld p (a + ((0 : Nat) : Int)) = fld p a; congr 1; omega) (Lib.hid (hend _ (by omega))) (by omega) (by omega) (Lib.hid ?_) (Lib.hid ?_) (Lib.hid ?_)
  · intro n n0 n1
    obtain ⟨g1, g2⟩ := fld_sn p (2 * n)
    have hn0 : 0 ≤ n := by omega
    obtain ⟨b0, b1⟩ := sn_bd p (2 * n) (by omega)
    have hsn : sn p (2 * n) ≤ 5184000 := by unfold fld at g1; omega
    refine ⟨_, _, _, _, back_fit p n h0 h1 hn0 (by omega), fields_fit p _ h0 h1 b0 hsn, g1, g2, cl_dec p n, fun k1 k2 => ⟨?_, ?_⟩⟩
    · by_cases h : a ≤ sn p (2 * n)
      · exact h
      · have := fld_mono p (sn p (2 * n) + 1) a (by omega)
        omega
    · by_cases h : sn p (2 * n) < b
      · exact h
      · have := fld_mono p b (sn p (2 * n)) (by omega)
        omega
  · intro j hj
    exact ⟨fld_mono p a _ (by omega), fld_mono p _ b (by omega)⟩
  · intro g c w' hg hA
    have h := Norm_ok g len c (fF p a) (by omega) (by omega) (tiles_f p a) (fun j hj => ⟨Int.le_trans A0 (fld_mono p a _ (by omega)), Int.le_trans (fld_mono p (a + j + 1) b (by omega)) (by omega)⟩) w' hg hA
    have e0 : (fF p a 0).1 = fld p a := by show fld p (a + ((0 : Nat) : Int)) = fld p a; congr 1; omega
    have e1 : (fF p a (len - 1)).2 = fld p b := hend _ (by omega)
    rw [e0, e1] at h
    exact h
theorem Top_walk (w : World) (a0 : Int) (a1_0 : Int) (a1_1 : Int) (i0 : -9223372036854775808 ≤ a0 ∧ a0 ≤ 9223372036854775807) (i1_0 : -9223372036854775808 ≤ a1_0 ∧ a1_0 ≤ 9223372036854775807) (i1_1 : -9223372036854775808 ≤ a1_1 ∧ a1_1 ≤ 9223372036854775807) :
    Calls Try.prog 3 #[.int .i64 a0, .agg #[.int .i64 a1_0, .int .i64 a1_1]] w fun e w' => e = .returned (.bool true) ∧ Below w.heap.size w w' := by
  by_cases c1 : a0 < 0 ∨ 4 ≤ a0 ∨ a1_1 ≤ a1_0
  · exact Top_e w a0 a1_0 a1_1 1 i0 i1_0 i1_1 (by decide) (Lib.hid (span_arg _ _ _ c1))
  by_cases c2 : a1_0 < 0 ∨ 5184000 < a1_1
  · exact Top_e w a0 a1_0 a1_1 2 i0 i1_0 i1_1 (by decide) (Lib.hid (span_rng _ _ _ (by omega) (by omega) (by omega) c2))
  have hS := span_fit a0 a1_0 a1_1 (by omega) (by omega) (by omega) (by omega) (by omega)
  by_cases c3 : 200 < a1_1 - a1_0
  · exact Top_g1 w a0 a1_0 a1_1 _ _ (by omega) (by omega) (by omega) c3 (Lib.hid hS)
  by_cases c4 : 2592000 ≤ a1_1
  · exact Top_g2 w a0 a1_0 a1_1 _ _ (by omega) (by omega) (by omega) ⟨by omega, c4⟩ (Lib.hid hS)
  exact Top_long w a0 a1_0 a1_1 (by omega) (by omega) (by omega) (by omega) (by omega) (by omega)
end Go.Proofs.Ytcpepenhebipbaa.Qi
