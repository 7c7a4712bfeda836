/- Parse of both packages, whole. -/
import Derived.Test.YtgllekaanaikhaaChecked
import Derived.Test.YtgllekaanaikhaaBase
import Derived.Test.YtgllekaanaikhaaLq
import Derived.Test.YtgllekaanaikhaaLr
import Derived.Test.YtgllekaanaikhaaLs
import Derived.Test.YtgllekaanaikhaaLk
import Derived.Test.YtgllekaanaikhaaLl
import Derived.Test.YtgllekaanaikhaaLm
import Derived.Test.YtgllekaanaikhaaLn
import Derived.Test.YtgllekaanaikhaaLg
import Derived.Test.YtgllekaanaikhaaLh
import Derived.Test.YtgllekaanaikhaaLp
import Derived.Handy
import Derived.Deep.RegionHeld3
namespace Go.Proofs.Ytgllekaanaikhaa.Tb
open Go.RowKit Ba
set_option linter.unusedVariables false
set_option linter.unusedSimpArgs false

theorem Parse_any (r : Int) (w : World) (s : ByteArray) (r0 : 0 ≤ r) (r1 : r ≤ 255) (hz : s.size ≤ 9223372036854775807) :
    Calls Try.prog 18 #[.int .u8 r, .string s] w fun e' w' => e' = .returned (labV (prsR r s)) ∧ Below w.heap.size w w' := by
  rcases va_cases r with hv | hv
  · by_cases hs : s.size = 11
    · by_cases h2 : bt s 2 = 58
      · by_cases h5 : bt s 5 = 58
        · have q2 : (bt s 2 != 58) = false := by simpa using h2
          have q5 : (bt s 5 != 58) = false := by simpa using h5
          by_cases h8 : bt s 8 = 58 ∨ bt s 8 = 59
          · have h89 : (bt s 8 != 58) = false ∨ ((bt s 8 != 58) = true ∧ (bt s 8 != 59) = false) := by
              rcases h8 with h | h
              · left; simpa using h
              · right; rw [h]; decide
            by_cases d0 : bt s 0 < 48 ∨ 57 < bt s 0 ∨ bt s 1 < 48 ∨ 57 < bt s 1
            · rw [prs_bad r s hv (by unfold badS; exact .inr (.inr (.inr (.inr (.inl d0)))))]
              rcases h89 with q8 | ⟨q8, q9⟩
              · exact Parse_f00 r w s r0 r1 hv hs (bt s 0) (bt s 1) (bt s 2) (bt s 3) (bt s 4) (bt s 5) (bt s 6) (bt s 7) (bt s 8) (bt s 9) (bt s 10) (bt_at s 0) (bt_lo s 0) (bt_hi s 0) (bt_at s 1) (bt_lo s 1) (bt_hi s 1) (bt_at s 2) (bt_lo s 2) (bt_hi s 2) (bt_at s 3) (bt_lo s 3) (bt_hi s 3) (bt_at s 4) (bt_lo s 4) (bt_hi s 4) (bt_at s 5) (bt_lo s 5) (bt_hi s 5) (bt_at s 6) (bt_lo s 6) (bt_hi s 6) (bt_at s 7) (bt_lo s 7) (bt_hi s 7) (bt_at s 8) (bt_lo s 8) (bt_hi s 8) (bt_at s 9) (bt_lo s 9) (bt_hi s 9) (bt_at s 10) (bt_lo s 10) (bt_hi s 10) q2 q5 q8 d0
              · exact Parse_f01 r w s r0 r1 hv hs (bt s 0) (bt s 1) (bt s 2) (bt s 3) (bt s 4) (bt s 5) (bt s 6) (bt s 7) (bt s 8) (bt s 9) (bt s 10) (bt_at s 0) (bt_lo s 0) (bt_hi s 0) (bt_at s 1) (bt_lo s 1) (bt_hi s 1) (bt_at s 2) (bt_lo s 2) (bt_hi s 2) (bt_at s 3) (bt_lo s 3) (bt_hi s 3) (bt_at s 4) (bt_lo s 4) (bt_hi s 4) (bt_at s 5) (bt_lo s 5) (bt_hi s 5) (bt_at s 6) (bt_lo s 6) (bt_hi s 6) (bt_at s 7) (bt_lo s 7) (bt_hi s 7) (bt_at s 8) (bt_lo s 8) (bt_hi s 8) (bt_at s 9) (bt_lo s 9) (bt_hi s 9) (bt_at s 10) (bt_lo s 10) (bt_hi s 10) q2 q5 q8 q9 d0
            by_cases d1 : bt s 3 < 48 ∨ 57 < bt s 3 ∨ bt s 4 < 48 ∨ 57 < bt s 4
            · rw [prs_bad r s hv (by unfold badS; exact .inr (.inr (.inr (.inr (.inr (.inl d1))))))]
              rcases h89 with q8 | ⟨q8, q9⟩
              · exact Parse_f10 r w s r0 r1 hv hs (bt s 0) (bt s 1) (bt s 2) (bt s 3) (bt s 4) (bt s 5) (bt s 6) (bt s 7) (bt s 8) (bt s 9) (bt s 10) (bt_at s 0) (bt_lo s 0) (bt_hi s 0) (bt_at s 1) (bt_lo s 1) (bt_hi s 1) (bt_at s 2) (bt_lo s 2) (bt_hi s 2) (bt_at s 3) (bt_lo s 3) (bt_hi s 3) (bt_at s 4) (bt_lo s 4) (bt_hi s 4) (bt_at s 5) (bt_lo s 5) (bt_hi s 5) (bt_at s 6) (bt_lo s 6) (bt_hi s 6) (bt_at s 7) (bt_lo s 7) (bt_hi s 7) (bt_at s 8) (bt_lo s 8) (bt_hi s 8) (bt_at s 9) (bt_lo s 9) (bt_hi s 9) (bt_at s 10) (bt_lo s 10) (bt_hi s 10) q2 q5 q8 ⟨by omega, by omega, by omega, by omega, d1⟩
              · exact Parse_f11 r w s r0 r1 hv hs (bt s 0) (bt s 1) (bt s 2) (bt s 3) (bt s 4) (bt s 5) (bt s 6) (bt s 7) (bt s 8) (bt s 9) (bt s 10) (bt_at s 0) (bt_lo s 0) (bt_hi s 0) (bt_at s 1) (bt_lo s 1) (bt_hi s 1) (bt_at s 2) (bt_lo s 2) (bt_hi s 2) (bt_at s 3) (bt_lo s 3) (bt_hi s 3) (bt_at s 4) (bt_lo s 4) (bt_hi s 4) (bt_at s 5) (bt_lo s 5) (bt_hi s 5) (bt_at s 6) (bt_lo s 6) (bt_hi s 6) (bt_at s 7) (bt_lo s 7) (bt_hi s 7) (bt_at s 8) (bt_lo s 8) (bt_hi s 8) (bt_at s 9) (bt_lo s 9) (bt_hi s 9) (bt_at s 10) (bt_lo s 10) (bt_hi s 10) q2 q5 q8 q9 ⟨by omega, by omega, by omega, by omega, d1⟩
            by_cases d2 : bt s 6 < 48 ∨ 57 < bt s 6 ∨ bt s 7 < 48 ∨ 57 < bt s 7
            · rw [prs_bad r s hv (by unfold badS; exact .inr (.inr (.inr (.inr (.inr (.inr (.inl d2)))))))]
              rcases h89 with q8 | ⟨q8, q9⟩
              · exact Parse_f20 r w s r0 r1 hv hs (bt s 0) (bt s 1) (bt s 2) (bt s 3) (bt s 4) (bt s 5) (bt s 6) (bt s 7) (bt s 8) (bt s 9) (bt s 10) (bt_at s 0) (bt_lo s 0) (bt_hi s 0) (bt_at s 1) (bt_lo s 1) (bt_hi s 1) (bt_at s 2) (bt_lo s 2) (bt_hi s 2) (bt_at s 3) (bt_lo s 3) (bt_hi s 3) (bt_at s 4) (bt_lo s 4) (bt_hi s 4) (bt_at s 5) (bt_lo s 5) (bt_hi s 5) (bt_at s 6) (bt_lo s 6) (bt_hi s 6) (bt_at s 7) (bt_lo s 7) (bt_hi s 7) (bt_at s 8) (bt_lo s 8) (bt_hi s 8) (bt_at s 9) (bt_lo s 9) (bt_hi s 9) (bt_at s 10) (bt_lo s 10) (bt_hi s 10) q2 q5 q8 ⟨by omega, by omega, by omega, by omega, by omega, by omega, by omega, by omega, d2⟩
              · exact Parse_f21 r w s r0 r1 hv hs (bt s 0) (bt s 1) (bt s 2) (bt s 3) (bt s 4) (bt s 5) (bt s 6) (bt s 7) (bt s 8) (bt s 9) (bt s 10) (bt_at s 0) (bt_lo s 0) (bt_hi s 0) (bt_at s 1) (bt_lo s 1) (bt_hi s 1) (bt_at s 2) (bt_lo s 2) (bt_hi s 2) (bt_at s 3) (bt_lo s 3) (bt_hi s 3) (bt_at s 4) (bt_lo s 4) (bt_hi s 4) (bt_at s 5) (bt_lo s 5) (bt_hi s 5) (bt_at s 6) (bt_lo s 6) (bt_hi s 6) (bt_at s 7) (bt_lo s 7) (bt_hi s 7) (bt_at s 8) (bt_lo s 8) (bt_hi s 8) (bt_at s 9) (bt_lo s 9) (bt_hi s 9) (bt_at s 10) (bt_lo s 10) (bt_hi s 10) q2 q5 q8 q9 ⟨by omega, by omega, by omega, by omega, by omega, by omega, by omega, by omega, d2⟩
            by_cases d3 : bt s 9 < 48 ∨ 57 < bt s 9 ∨ bt s 10 < 48 ∨ 57 < bt s 10
            · rw [prs_bad r s hv (by unfold badS; exact .inr (.inr (.inr (.inr (.inr (.inr (.inr (d3))))))))]
              rcases h89 with q8 | ⟨q8, q9⟩
              · exact Parse_f30 r w s r0 r1 hv hs (bt s 0) (bt s 1) (bt s 2) (bt s 3) (bt s 4) (bt s 5) (bt s 6) (bt s 7) (bt s 8) (bt s 9) (bt s 10) (bt_at s 0) (bt_lo s 0) (bt_hi s 0) (bt_at s 1) (bt_lo s 1) (bt_hi s 1) (bt_at s 2) (bt_lo s 2) (bt_hi s 2) (bt_at s 3) (bt_lo s 3) (bt_hi s 3) (bt_at s 4) (bt_lo s 4) (bt_hi s 4) (bt_at s 5) (bt_lo s 5) (bt_hi s 5) (bt_at s 6) (bt_lo s 6) (bt_hi s 6) (bt_at s 7) (bt_lo s 7) (bt_hi s 7) (bt_at s 8) (bt_lo s 8) (bt_hi s 8) (bt_at s 9) (bt_lo s 9) (bt_hi s 9) (bt_at s 10) (bt_lo s 10) (bt_hi s 10) q2 q5 q8 ⟨by omega, by omega, by omega, by omega, by omega, by omega, by omega, by omega, by omega, by omega, by omega, by omega, d3⟩
              · exact Parse_f31 r w s r0 r1 hv hs (bt s 0) (bt s 1) (bt s 2) (bt s 3) (bt s 4) (bt s 5) (bt s 6) (bt s 7) (bt s 8) (bt s 9) (bt s 10) (bt_at s 0) (bt_lo s 0) (bt_hi s 0) (bt_at s 1) (bt_lo s 1) (bt_hi s 1) (bt_at s 2) (bt_lo s 2) (bt_hi s 2) (bt_at s 3) (bt_lo s 3) (bt_hi s 3) (bt_at s 4) (bt_lo s 4) (bt_hi s 4) (bt_at s 5) (bt_lo s 5) (bt_hi s 5) (bt_at s 6) (bt_lo s 6) (bt_hi s 6) (bt_at s 7) (bt_lo s 7) (bt_hi s 7) (bt_at s 8) (bt_lo s 8) (bt_hi s 8) (bt_at s 9) (bt_lo s 9) (bt_hi s 9) (bt_at s 10) (bt_lo s 10) (bt_hi s 10) q2 q5 q8 q9 ⟨by omega, by omega, by omega, by omega, by omega, by omega, by omega, by omega, by omega, by omega, by omega, by omega, d3⟩
            have hb : ¬ badS s := by unfold badS; omega
            by_cases hc : chk r (10 * (bt s 0 - 48) + (bt s 1 - 48)) (10 * (bt s 3 - 48) + (bt s 4 - 48)) (10 * (bt s 6 - 48) + (bt s 7 - 48)) (10 * (bt s 9 - 48) + (bt s 10 - 48)) (bt s 8 == 59) = 0
            · rw [prs_ok r s hv hb hc]
              rcases h89 with q8 | ⟨q8, q9⟩
              · exact Parse_k01 r w s r0 r1 hv hs (bt s 0) (bt s 1) (bt s 2) (bt s 3) (bt s 4) (bt s 5) (bt s 6) (bt s 7) (bt s 8) (bt s 9) (bt s 10) 0 (bt_at s 0) (bt_lo s 0) (bt_hi s 0) (bt_at s 1) (bt_lo s 1) (bt_hi s 1) (bt_at s 2) (bt_lo s 2) (bt_hi s 2) (bt_at s 3) (bt_lo s 3) (bt_hi s 3) (bt_at s 4) (bt_lo s 4) (bt_hi s 4) (bt_at s 5) (bt_lo s 5) (bt_hi s 5) (bt_at s 6) (bt_lo s 6) (bt_hi s 6) (bt_at s 7) (bt_lo s 7) (bt_hi s 7) (bt_at s 8) (bt_lo s 8) (bt_hi s 8) (bt_at s 9) (bt_lo s 9) (bt_hi s 9) (bt_at s 10) (bt_lo s 10) (bt_hi s 10) q2 q5 q8 ⟨by omega, by omega, by omega, by omega, by omega, by omega, by omega, by omega, by omega, by omega, by omega, by omega, by omega, by omega, by omega, by omega⟩ (Lib.hid hc) (by simp)
              · exact Parse_k11 r w s r0 r1 hv hs (bt s 0) (bt s 1) (bt s 2) (bt s 3) (bt s 4) (bt s 5) (bt s 6) (bt s 7) (bt s 8) (bt s 9) (bt s 10) 0 (bt_at s 0) (bt_lo s 0) (bt_hi s 0) (bt_at s 1) (bt_lo s 1) (bt_hi s 1) (bt_at s 2) (bt_lo s 2) (bt_hi s 2) (bt_at s 3) (bt_lo s 3) (bt_hi s 3) (bt_at s 4) (bt_lo s 4) (bt_hi s 4) (bt_at s 5) (bt_lo s 5) (bt_hi s 5) (bt_at s 6) (bt_lo s 6) (bt_hi s 6) (bt_at s 7) (bt_lo s 7) (bt_hi s 7) (bt_at s 8) (bt_lo s 8) (bt_hi s 8) (bt_at s 9) (bt_lo s 9) (bt_hi s 9) (bt_at s 10) (bt_lo s 10) (bt_hi s 10) q2 q5 q8 q9 ⟨by omega, by omega, by omega, by omega, by omega, by omega, by omega, by omega, by omega, by omega, by omega, by omega, by omega, by omega, by omega, by omega⟩ (Lib.hid hc) (by simp)
            · rw [prs_chk r s hv hb hc]
              rcases h89 with q8 | ⟨q8, q9⟩
              · exact Parse_k00 r w s r0 r1 hv hs (bt s 0) (bt s 1) (bt s 2) (bt s 3) (bt s 4) (bt s 5) (bt s 6) (bt s 7) (bt s 8) (bt s 9) (bt s 10) _ (bt_at s 0) (bt_lo s 0) (bt_hi s 0) (bt_at s 1) (bt_lo s 1) (bt_hi s 1) (bt_at s 2) (bt_lo s 2) (bt_hi s 2) (bt_at s 3) (bt_lo s 3) (bt_hi s 3) (bt_at s 4) (bt_lo s 4) (bt_hi s 4) (bt_at s 5) (bt_lo s 5) (bt_hi s 5) (bt_at s 6) (bt_lo s 6) (bt_hi s 6) (bt_at s 7) (bt_lo s 7) (bt_hi s 7) (bt_at s 8) (bt_lo s 8) (bt_hi s 8) (bt_at s 9) (bt_lo s 9) (bt_hi s 9) (bt_at s 10) (bt_lo s 10) (bt_hi s 10) q2 q5 q8 ⟨by omega, by omega, by omega, by omega, by omega, by omega, by omega, by omega, by omega, by omega, by omega, by omega, by omega, by omega, by omega, by omega⟩ (Lib.hid rfl) (by simpa using hc)
              · exact Parse_k10 r w s r0 r1 hv hs (bt s 0) (bt s 1) (bt s 2) (bt s 3) (bt s 4) (bt s 5) (bt s 6) (bt s 7) (bt s 8) (bt s 9) (bt s 10) _ (bt_at s 0) (bt_lo s 0) (bt_hi s 0) (bt_at s 1) (bt_lo s 1) (bt_hi s 1) (bt_at s 2) (bt_lo s 2) (bt_hi s 2) (bt_at s 3) (bt_lo s 3) (bt_hi s 3) (bt_at s 4) (bt_lo s 4) (bt_hi s 4) (bt_at s 5) (bt_lo s 5) (bt_hi s 5) (bt_at s 6) (bt_lo s 6) (bt_hi s 6) (bt_at s 7) (bt_lo s 7) (bt_hi s 7) (bt_at s 8) (bt_lo s 8) (bt_hi s 8) (bt_at s 9) (bt_lo s 9) (bt_hi s 9) (bt_at s 10) (bt_lo s 10) (bt_hi s 10) q2 q5 q8 q9 ⟨by omega, by omega, by omega, by omega, by omega, by omega, by omega, by omega, by omega, by omega, by omega, by omega, by omega, by omega, by omega, by omega⟩ (Lib.hid rfl) (by simpa using hc)
          · rw [prs_bad r s hv (by unfold badS; omega)]
            exact Parse_x8 r w s r0 r1 hv hs (bt s 0) (bt s 1) (bt s 2) (bt s 3) (bt s 4) (bt s 5) (bt s 6) (bt s 7) (bt s 8) (bt s 9) (bt s 10) (bt_at s 0) (bt_lo s 0) (bt_hi s 0) (bt_at s 1) (bt_lo s 1) (bt_hi s 1) (bt_at s 2) (bt_lo s 2) (bt_hi s 2) (bt_at s 3) (bt_lo s 3) (bt_hi s 3) (bt_at s 4) (bt_lo s 4) (bt_hi s 4) (bt_at s 5) (bt_lo s 5) (bt_hi s 5) (bt_at s 6) (bt_lo s 6) (bt_hi s 6) (bt_at s 7) (bt_lo s 7) (bt_hi s 7) (bt_at s 8) (bt_lo s 8) (bt_hi s 8) (bt_at s 9) (bt_lo s 9) (bt_hi s 9) (bt_at s 10) (bt_lo s 10) (bt_hi s 10) q2 q5 (by simp; omega) (by simp; omega)
        · rw [prs_bad r s hv (by unfold badS; omega)]
          exact Parse_x5 r w s r0 r1 hv hs (bt s 0) (bt s 1) (bt s 2) (bt s 3) (bt s 4) (bt s 5) (bt s 6) (bt s 7) (bt s 8) (bt s 9) (bt s 10) (bt_at s 0) (bt_lo s 0) (bt_hi s 0) (bt_at s 1) (bt_lo s 1) (bt_hi s 1) (bt_at s 2) (bt_lo s 2) (bt_hi s 2) (bt_at s 3) (bt_lo s 3) (bt_hi s 3) (bt_at s 4) (bt_lo s 4) (bt_hi s 4) (bt_at s 5) (bt_lo s 5) (bt_hi s 5) (bt_at s 6) (bt_lo s 6) (bt_hi s 6) (bt_at s 7) (bt_lo s 7) (bt_hi s 7) (bt_at s 8) (bt_lo s 8) (bt_hi s 8) (bt_at s 9) (bt_lo s 9) (bt_hi s 9) (bt_at s 10) (bt_lo s 10) (bt_hi s 10) (by simpa using h2) (by simpa using h5)
      · rw [prs_bad r s hv (by unfold badS; omega)]
        exact Parse_x2 r w s r0 r1 hv hs (bt s 0) (bt s 1) (bt s 2) (bt s 3) (bt s 4) (bt s 5) (bt s 6) (bt s 7) (bt s 8) (bt s 9) (bt s 10) (bt_at s 0) (bt_lo s 0) (bt_hi s 0) (bt_at s 1) (bt_lo s 1) (bt_hi s 1) (bt_at s 2) (bt_lo s 2) (bt_hi s 2) (bt_at s 3) (bt_lo s 3) (bt_hi s 3) (bt_at s 4) (bt_lo s 4) (bt_hi s 4) (bt_at s 5) (bt_lo s 5) (bt_hi s 5) (bt_at s 6) (bt_lo s 6) (bt_hi s 6) (bt_at s 7) (bt_lo s 7) (bt_hi s 7) (bt_at s 8) (bt_lo s 8) (bt_hi s 8) (bt_at s 9) (bt_lo s 9) (bt_hi s 9) (bt_at s 10) (bt_lo s 10) (bt_hi s 10) (by simpa using h2)
    · rw [prs_bad r s hv (by unfold badS; omega)]
      exact Parse_n r w s r0 r1 hv hz (by simp; omega)
  · have hx : prsR r s = (0, 0, 0, 0, false, 3) := by unfold prsR; rw [if_pos hv]
    rw [hx]
    exact Parse_v r w s r0 r1 hv
theorem RParse_any (r : Int) (w : World) (s : ByteArray) (r0 : 0 ≤ r) (r1 : r ≤ 255) (hz : s.size ≤ 9223372036854775807) :
    Calls Try.prog 26 #[.int .u8 r, .string s] w fun e' w' => e' = .returned (labV (prsR r s)) ∧ Below w.heap.size w w' := by
  rcases va_cases r with hv | hv
  · by_cases hs : s.size = 11
    · by_cases h2 : bt s 2 = 58
      · by_cases h5 : bt s 5 = 58
        · have q2 : (bt s 2 != 58) = false := by simpa using h2
          have q5 : (bt s 5 != 58) = false := by simpa using h5
          by_cases h8 : bt s 8 = 58 ∨ bt s 8 = 59
          · have h89 : (bt s 8 != 58) = false ∨ ((bt s 8 != 58) = true ∧ (bt s 8 != 59) = false) := by
              rcases h8 with h | h
              · left; simpa using h
              · right; rw [h]; decide
            by_cases d0 : bt s 0 < 48 ∨ 57 < bt s 0 ∨ bt s 1 < 48 ∨ 57 < bt s 1
            · rw [prs_bad r s hv (by unfold badS; exact .inr (.inr (.inr (.inr (.inl d0)))))]
              rcases h89 with q8 | ⟨q8, q9⟩
              · exact RParse_f00 r w s r0 r1 hv hs (bt s 0) (bt s 1) (bt s 2) (bt s 3) (bt s 4) (bt s 5) (bt s 6) (bt s 7) (bt s 8) (bt s 9) (bt s 10) (bt_at s 0) (bt_lo s 0) (bt_hi s 0) (bt_at s 1) (bt_lo s 1) (bt_hi s 1) (bt_at s 2) (bt_lo s 2) (bt_hi s 2) (bt_at s 3) (bt_lo s 3) (bt_hi s 3) (bt_at s 4) (bt_lo s 4) (bt_hi s 4) (bt_at s 5) (bt_lo s 5) (bt_hi s 5) (bt_at s 6) (bt_lo s 6) (bt_hi s 6) (bt_at s 7) (bt_lo s 7) (bt_hi s 7) (bt_at s 8) (bt_lo s 8) (bt_hi s 8) (bt_at s 9) (bt_lo s 9) (bt_hi s 9) (bt_at s 10) (bt_lo s 10) (bt_hi s 10) q2 q5 q8 d0
              · exact RParse_f01 r w s r0 r1 hv hs (bt s 0) (bt s 1) (bt s 2) (bt s 3) (bt s 4) (bt s 5) (bt s 6) (bt s 7) (bt s 8) (bt s 9) (bt s 10) (bt_at s 0) (bt_lo s 0) (bt_hi s 0) (bt_at s 1) (bt_lo s 1) (bt_hi s 1) (bt_at s 2) (bt_lo s 2) (bt_hi s 2) (bt_at s 3) (bt_lo s 3) (bt_hi s 3) (bt_at s 4) (bt_lo s 4) (bt_hi s 4) (bt_at s 5) (bt_lo s 5) (bt_hi s 5) (bt_at s 6) (bt_lo s 6) (bt_hi s 6) (bt_at s 7) (bt_lo s 7) (bt_hi s 7) (bt_at s 8) (bt_lo s 8) (bt_hi s 8) (bt_at s 9) (bt_lo s 9) (bt_hi s 9) (bt_at s 10) (bt_lo s 10) (bt_hi s 10) q2 q5 q8 q9 d0
            by_cases d1 : bt s 3 < 48 ∨ 57 < bt s 3 ∨ bt s 4 < 48 ∨ 57 < bt s 4
            · rw [prs_bad r s hv (by unfold badS; exact .inr (.inr (.inr (.inr (.inr (.inl d1))))))]
              rcases h89 with q8 | ⟨q8, q9⟩
              · exact RParse_f10 r w s r0 r1 hv hs (bt s 0) (bt s 1) (bt s 2) (bt s 3) (bt s 4) (bt s 5) (bt s 6) (bt s 7) (bt s 8) (bt s 9) (bt s 10) (bt_at s 0) (bt_lo s 0) (bt_hi s 0) (bt_at s 1) (bt_lo s 1) (bt_hi s 1) (bt_at s 2) (bt_lo s 2) (bt_hi s 2) (bt_at s 3) (bt_lo s 3) (bt_hi s 3) (bt_at s 4) (bt_lo s 4) (bt_hi s 4) (bt_at s 5) (bt_lo s 5) (bt_hi s 5) (bt_at s 6) (bt_lo s 6) (bt_hi s 6) (bt_at s 7) (bt_lo s 7) (bt_hi s 7) (bt_at s 8) (bt_lo s 8) (bt_hi s 8) (bt_at s 9) (bt_lo s 9) (bt_hi s 9) (bt_at s 10) (bt_lo s 10) (bt_hi s 10) q2 q5 q8 ⟨by omega, by omega, by omega, by omega, d1⟩
              · exact RParse_f11 r w s r0 r1 hv hs (bt s 0) (bt s 1) (bt s 2) (bt s 3) (bt s 4) (bt s 5) (bt s 6) (bt s 7) (bt s 8) (bt s 9) (bt s 10) (bt_at s 0) (bt_lo s 0) (bt_hi s 0) (bt_at s 1) (bt_lo s 1) (bt_hi s 1) (bt_at s 2) (bt_lo s 2) (bt_hi s 2) (bt_at s 3) (bt_lo s 3) (bt_hi s 3) (bt_at s 4) (bt_lo s 4) (bt_hi s 4) (bt_at s 5) (bt_lo s 5) (bt_hi s 5) (bt_at s 6) (bt_lo s 6) (bt_hi s 6) (bt_at s 7) (bt_lo s 7) (bt_hi s 7) (bt_at s 8) (bt_lo s 8) (bt_hi s 8) (bt_at s 9) (bt_lo s 9) (bt_hi s 9) (bt_at s 10) (bt_lo s 10) (bt_hi s 10) q2 q5 q8 q9 ⟨by omega, by omega, by omega, by omega, d1⟩
            by_cases d2 : bt s 6 < 48 ∨ 57 < bt s 6 ∨ bt s 7 < 48 ∨ 57 < bt s 7
            · rw [prs_bad r s hv (by unfold badS; exact .inr (.inr (.inr (.inr (.inr (.inr (.inl d2)))))))]
              rcases h89 with q8 | ⟨q8, q9⟩
              · exact RParse_f20 r w s r0 r1 hv hs (bt s 0) (bt s 1) (bt s 2) (bt s 3) (bt s 4) (bt s 5) (bt s 6) (bt s 7) (bt s 8) (bt s 9) (bt s 10) (bt_at s 0) (bt_lo s 0) (bt_hi s 0) (bt_at s 1) (bt_lo s 1) (bt_hi s 1) (bt_at s 2) (bt_lo s 2) (bt_hi s 2) (bt_at s 3) (bt_lo s 3) (bt_hi s 3) (bt_at s 4) (bt_lo s 4) (bt_hi s 4) (bt_at s 5) (bt_lo s 5) (bt_hi s 5) (bt_at s 6) (bt_lo s 6) (bt_hi s 6) (bt_at s 7) (bt_lo s 7) (bt_hi s 7) (bt_at s 8) (bt_lo s 8) (bt_hi s 8) (bt_at s 9) (bt_lo s 9) (bt_hi s 9) (bt_at s 10) (bt_lo s 10) (bt_hi s 10) q2 q5 q8 ⟨by omega, by omega, by omega, by omega, by omega, by omega, by omega, by omega, d2⟩
              · exact RParse_f21 r w s r0 r1 hv hs (bt s 0) (bt s 1) (bt s 2) (bt s 3) (bt s 4) (bt s 5) (bt s 6) (bt s 7) (bt s 8) (bt s 9) (bt s 10) (bt_at s 0) (bt_lo s 0) (bt_hi s 0) (bt_at s 1) (bt_lo s 1) (bt_hi s 1) (bt_at s 2) (bt_lo s 2) (bt_hi s 2) (bt_at s 3) (bt_lo s 3) (bt_hi s 3) (bt_at s 4) (bt_lo s 4) (bt_hi s 4) (bt_at s 5) (bt_lo s 5) (bt_hi s 5) (bt_at s 6) (bt_lo s 6) (bt_hi s 6) (bt_at s 7) (bt_lo s 7) (bt_hi s 7) (bt_at s 8) (bt_lo s 8) (bt_hi s 8) (bt_at s 9) (bt_lo s 9) (bt_hi s 9) (bt_at s 10) (bt_lo s 10) (bt_hi s 10) q2 q5 q8 q9 ⟨by omega, by omega, by omega, by omega, by omega, by omega, by omega, by omega, d2⟩
            by_cases d3 : bt s 9 < 48 ∨ 57 < bt s 9 ∨ bt s 10 < 48 ∨ 57 < bt s 10
            · rw [prs_bad r s hv (by unfold badS; exact .inr (.inr (.inr (.inr (.inr (.inr (.inr (d3))))))))]
              rcases h89 with q8 | ⟨q8, q9⟩
              · exact RParse_f30 r w s r0 r1 hv hs (bt s 0) (bt s 1) (bt s 2) (bt s 3) (bt s 4) (bt s 5) (bt s 6) (bt s 7) (bt s 8) (bt s 9) (bt s 10) (bt_at s 0) (bt_lo s 0) (bt_hi s 0) (bt_at s 1) (bt_lo s 1) (bt_hi s 1) (bt_at s 2) (bt_lo s 2) (bt_hi s 2) (bt_at s 3) (bt_lo s 3) (bt_hi s 3) (bt_at s 4) (bt_lo s 4) (bt_hi s 4) (bt_at s 5) (bt_lo s 5) (bt_hi s 5) (bt_at s 6) (bt_lo s 6) (bt_hi s 6) (bt_at s 7) (bt_lo s 7) (bt_hi s 7) (bt_at s 8) (bt_lo s 8) (bt_hi s 8) (bt_at s 9) (bt_lo s 9) (bt_hi s 9) (bt_at s 10) (bt_lo s 10) (bt_hi s 10) q2 q5 q8 ⟨by omega, by omega, by omega, by omega, by omega, by omega, by omega, by omega, by omega, by omega, by omega, by omega, d3⟩
              · exact RParse_f31 r w s r0 r1 hv hs (bt s 0) (bt s 1) (bt s 2) (bt s 3) (bt s 4) (bt s 5) (bt s 6) (bt s 7) (bt s 8) (bt s 9) (bt s 10) (bt_at s 0) (bt_lo s 0) (bt_hi s 0) (bt_at s 1) (bt_lo s 1) (bt_hi s 1) (bt_at s 2) (bt_lo s 2) (bt_hi s 2) (bt_at s 3) (bt_lo s 3) (bt_hi s 3) (bt_at s 4) (bt_lo s 4) (bt_hi s 4) (bt_at s 5) (bt_lo s 5) (bt_hi s 5) (bt_at s 6) (bt_lo s 6) (bt_hi s 6) (bt_at s 7) (bt_lo s 7) (bt_hi s 7) (bt_at s 8) (bt_lo s 8) (bt_hi s 8) (bt_at s 9) (bt_lo s 9) (bt_hi s 9) (bt_at s 10) (bt_lo s 10) (bt_hi s 10) q2 q5 q8 q9 ⟨by omega, by omega, by omega, by omega, by omega, by omega, by omega, by omega, by omega, by omega, by omega, by omega, d3⟩
            have hb : ¬ badS s := by unfold badS; omega
            by_cases hc : chk r (10 * (bt s 0 - 48) + (bt s 1 - 48)) (10 * (bt s 3 - 48) + (bt s 4 - 48)) (10 * (bt s 6 - 48) + (bt s 7 - 48)) (10 * (bt s 9 - 48) + (bt s 10 - 48)) (bt s 8 == 59) = 0
            · rw [prs_ok r s hv hb hc]
              simp only [show 10 * (bt s 0 - 48) + (bt s 1 - 48) = (bt s 0 - 48) * 10 + (bt s 1 - 48) from by omega, show 10 * (bt s 3 - 48) + (bt s 4 - 48) = (bt s 3 - 48) * 10 + (bt s 4 - 48) from by omega, show 10 * (bt s 6 - 48) + (bt s 7 - 48) = (bt s 6 - 48) * 10 + (bt s 7 - 48) from by omega, show 10 * (bt s 9 - 48) + (bt s 10 - 48) = (bt s 9 - 48) * 10 + (bt s 10 - 48) from by omega] at hc ⊢
              rcases h89 with q8 | ⟨q8, q9⟩
              · exact RParse_k01 r w s r0 r1 hv hs (bt s 0) (bt s 1) (bt s 2) (bt s 3) (bt s 4) (bt s 5) (bt s 6) (bt s 7) (bt s 8) (bt s 9) (bt s 10) 0 (bt_at s 0) (bt_lo s 0) (bt_hi s 0) (bt_at s 1) (bt_lo s 1) (bt_hi s 1) (bt_at s 2) (bt_lo s 2) (bt_hi s 2) (bt_at s 3) (bt_lo s 3) (bt_hi s 3) (bt_at s 4) (bt_lo s 4) (bt_hi s 4) (bt_at s 5) (bt_lo s 5) (bt_hi s 5) (bt_at s 6) (bt_lo s 6) (bt_hi s 6) (bt_at s 7) (bt_lo s 7) (bt_hi s 7) (bt_at s 8) (bt_lo s 8) (bt_hi s 8) (bt_at s 9) (bt_lo s 9) (bt_hi s 9) (bt_at s 10) (bt_lo s 10) (bt_hi s 10) q2 q5 q8 ⟨by omega, by omega, by omega, by omega, by omega, by omega, by omega, by omega, by omega, by omega, by omega, by omega, by omega, by omega, by omega, by omega⟩ (Lib.hid hc) (by simp)
              · exact RParse_k11 r w s r0 r1 hv hs (bt s 0) (bt s 1) (bt s 2) (bt s 3) (bt s 4) (bt s 5) (bt s 6) (bt s 7) (bt s 8) (bt s 9) (bt s 10) 0 (bt_at s 0) (bt_lo s 0) (bt_hi s 0) (bt_at s 1) (bt_lo s 1) (bt_hi s 1) (bt_at s 2) (bt_lo s 2) (bt_hi s 2) (bt_at s 3) (bt_lo s 3) (bt_hi s 3) (bt_at s 4) (bt_lo s 4) (bt_hi s 4) (bt_at s 5) (bt_lo s 5) (bt_hi s 5) (bt_at s 6) (bt_lo s 6) (bt_hi s 6) (bt_at s 7) (bt_lo s 7) (bt_hi s 7) (bt_at s 8) (bt_lo s 8) (bt_hi s 8) (bt_at s 9) (bt_lo s 9) (bt_hi s 9) (bt_at s 10) (bt_lo s 10) (bt_hi s 10) q2 q5 q8 q9 ⟨by omega, by omega, by omega, by omega, by omega, by omega, by omega, by omega, by omega, by omega, by omega, by omega, by omega, by omega, by omega, by omega⟩ (Lib.hid hc) (by simp)
            · rw [prs_chk r s hv hb hc]
              simp only [show 10 * (bt s 0 - 48) + (bt s 1 - 48) = (bt s 0 - 48) * 10 + (bt s 1 - 48) from by omega, show 10 * (bt s 3 - 48) + (bt s 4 - 48) = (bt s 3 - 48) * 10 + (bt s 4 - 48) from by omega, show 10 * (bt s 6 - 48) + (bt s 7 - 48) = (bt s 6 - 48) * 10 + (bt s 7 - 48) from by omega, show 10 * (bt s 9 - 48) + (bt s 10 - 48) = (bt s 9 - 48) * 10 + (bt s 10 - 48) from by omega] at hc ⊢
              rcases h89 with q8 | ⟨q8, q9⟩
              · exact RParse_k00 r w s r0 r1 hv hs (bt s 0) (bt s 1) (bt s 2) (bt s 3) (bt s 4) (bt s 5) (bt s 6) (bt s 7) (bt s 8) (bt s 9) (bt s 10) _ (bt_at s 0) (bt_lo s 0) (bt_hi s 0) (bt_at s 1) (bt_lo s 1) (bt_hi s 1) (bt_at s 2) (bt_lo s 2) (bt_hi s 2) (bt_at s 3) (bt_lo s 3) (bt_hi s 3) (bt_at s 4) (bt_lo s 4) (bt_hi s 4) (bt_at s 5) (bt_lo s 5) (bt_hi s 5) (bt_at s 6) (bt_lo s 6) (bt_hi s 6) (bt_at s 7) (bt_lo s 7) (bt_hi s 7) (bt_at s 8) (bt_lo s 8) (bt_hi s 8) (bt_at s 9) (bt_lo s 9) (bt_hi s 9) (bt_at s 10) (bt_lo s 10) (bt_hi s 10) q2 q5 q8 ⟨by omega, by omega, by omega, by omega, by omega, by omega, by omega, by omega, by omega, by omega, by omega, by omega, by omega, by omega, by omega, by omega⟩ (Lib.hid rfl) (by simpa using hc)
              · exact RParse_k10 r w s r0 r1 hv hs (bt s 0) (bt s 1) (bt s 2) (bt s 3) (bt s 4) (bt s 5) (bt s 6) (bt s 7) (bt s 8) (bt s 9) (bt s 10) _ (bt_at s 0) (bt_lo s 0) (bt_hi s 0) (bt_at s 1) (bt_lo s 1) (bt_hi s 1) (bt_at s 2) (bt_lo s 2) (bt_hi s 2) (bt_at s 3) (bt_lo s 3) (bt_hi s 3) (bt_at s 4) (bt_lo s 4) (bt_hi s 4) (bt_at s 5) (bt_lo s 5) (bt_hi s 5) (bt_at s 6) (bt_lo s 6) (bt_hi s 6) (bt_at s 7) (bt_lo s 7) (bt_hi s 7) (bt_at s 8) (bt_lo s 8) (bt_hi s 8) (bt_at s 9) (bt_lo s 9) (bt_hi s 9) (bt_at s 10) (bt_lo s 10) (bt_hi s 10) q2 q5 q8 q9 ⟨by omega, by omega, by omega, by omega, by omega, by omega, by omega, by omega, by omega, by omega, by omega, by omega, by omega, by omega, by omega, by omega⟩ (Lib.hid rfl) (by simpa using hc)
          · rw [prs_bad r s hv (by unfold badS; omega)]
            exact RParse_x8 r w s r0 r1 hv hs (bt s 0) (bt s 1) (bt s 2) (bt s 3) (bt s 4) (bt s 5) (bt s 6) (bt s 7) (bt s 8) (bt s 9) (bt s 10) (bt_at s 0) (bt_lo s 0) (bt_hi s 0) (bt_at s 1) (bt_lo s 1) (bt_hi s 1) (bt_at s 2) (bt_lo s 2) (bt_hi s 2) (bt_at s 3) (bt_lo s 3) (bt_hi s 3) (bt_at s 4) (bt_lo s 4) (bt_hi s 4) (bt_at s 5) (bt_lo s 5) (bt_hi s 5) (bt_at s 6) (bt_lo s 6) (bt_hi s 6) (bt_at s 7) (bt_lo s 7) (bt_hi s 7) (bt_at s 8) (bt_lo s 8) (bt_hi s 8) (bt_at s 9) (bt_lo s 9) (bt_hi s 9) (bt_at s 10) (bt_lo s 10) (bt_hi s 10) q2 q5 (by simp; omega) (by simp; omega)
        · rw [prs_bad r s hv (by unfold badS; omega)]
          exact RParse_x5 r w s r0 r1 hv hs (bt s 0) (bt s 1) (bt s 2) (bt s 3) (bt s 4) (bt s 5) (bt s 6) (bt s 7) (bt s 8) (bt s 9) (bt s 10) (bt_at s 0) (bt_lo s 0) (bt_hi s 0) (bt_at s 1) (bt_lo s 1) (bt_hi s 1) (bt_at s 2) (bt_lo s 2) (bt_hi s 2) (bt_at s 3) (bt_lo s 3) (bt_hi s 3) (bt_at s 4) (bt_lo s 4) (bt_hi s 4) (bt_at s 5) (bt_lo s 5) (bt_hi s 5) (bt_at s 6) (bt_lo s 6) (bt_hi s 6) (bt_at s 7) (bt_lo s 7) (bt_hi s 7) (bt_at s 8) (bt_lo s 8) (bt_hi s 8) (bt_at s 9) (bt_lo s 9) (bt_hi s 9) (bt_at s 10) (bt_lo s 10) (bt_hi s 10) (by simpa using h2) (by simpa using h5)
      · rw [prs_bad r s hv (by unfold badS; omega)]
        exact RParse_x2 r w s r0 r1 hv hs (bt s 0) (bt s 1) (bt s 2) (bt s 3) (bt s 4) (bt s 5) (bt s 6) (bt s 7) (bt s 8) (bt s 9) (bt s 10) (bt_at s 0) (bt_lo s 0) (bt_hi s 0) (bt_at s 1) (bt_lo s 1) (bt_hi s 1) (bt_at s 2) (bt_lo s 2) (bt_hi s 2) (bt_at s 3) (bt_lo s 3) (bt_hi s 3) (bt_at s 4) (bt_lo s 4) (bt_hi s 4) (bt_at s 5) (bt_lo s 5) (bt_hi s 5) (bt_at s 6) (bt_lo s 6) (bt_hi s 6) (bt_at s 7) (bt_lo s 7) (bt_hi s 7) (bt_at s 8) (bt_lo s 8) (bt_hi s 8) (bt_at s 9) (bt_lo s 9) (bt_hi s 9) (bt_at s 10) (bt_lo s 10) (bt_hi s 10) (by simpa using h2)
    · rw [prs_bad r s hv (by unfold badS; omega)]
      exact RParse_n r w s r0 r1 hv hz (by simp; omega)
  · have hx : prsR r s = (0, 0, 0, 0, false, 3) := by unfold prsR; rw [if_pos hv]
    rw [hx]
    exact RParse_v r w s r0 r1 hv
end Go.Proofs.Ytgllekaanaikhaa.Tb
