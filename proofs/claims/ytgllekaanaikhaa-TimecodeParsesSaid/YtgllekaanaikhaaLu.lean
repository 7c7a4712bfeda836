/- Parse at an accepted label's own text, with a semicolon. -/
import Derived.Test.YtgllekaanaikhaaChecked
import Derived.Test.YtgllekaanaikhaaBase
import Derived.Test.YtgllekaanaikhaaLq
import Derived.Test.YtgllekaanaikhaaPt
import Derived.Handy
import Derived.Deep.RegionHeld3
namespace Go.Proofs.Ytgllekaanaikhaa.Tb
open Go.RowKit Ba
set_option linter.unusedVariables false
set_option linter.unusedSimpArgs false

/-- Parse at an accepted label's own text. -/
theorem Parse_true (r h m s f : Int) (w : World) (r0 : 0 ≤ r) (r1 : r ≤ 255) (hv : va r = true) (hc : chk r h m s f true = 0) :
    Calls Try.prog 18 #[.int .u8 r, .string (txt h m s f true)] w fun e' w' => e' = .returned (labV (h, m, s, f, true, 0)) ∧ Below w.heap.size w w' := by
  obtain ⟨h0, h1, m0, m1, s0, s1, f0, f1⟩ := chk_99 r h m s f true hc
  obtain ⟨b0, b1, b2, b3, b4, b5, b6, b7, b8, b9, b10⟩ := txt_bt h m s f true h0 h1 m0 m1 s0 s1 f0 f1
  have hd : (bt (txt h m s f true) 8 == 59) = true := by rw [b8]; rfl
  have e0 : 10 * (bt (txt h m s f true) 0 - 48) + (bt (txt h m s f true) 1 - 48) = h := by omega
  have e1 : 10 * (bt (txt h m s f true) 3 - 48) + (bt (txt h m s f true) 4 - 48) = m := by omega
  have e2 : 10 * (bt (txt h m s f true) 6 - 48) + (bt (txt h m s f true) 7 - 48) = s := by omega
  have e3 : 10 * (bt (txt h m s f true) 9 - 48) + (bt (txt h m s f true) 10 - 48) = f := by omega
  have h8 : bt (txt h m s f true) 8 = 59 := b8
  have z := Parse_k11 r w (txt h m s f true) r0 r1 hv (txt_size h m s f true) (bt (txt h m s f true) 0) (bt (txt h m s f true) 1) (bt (txt h m s f true) 2) (bt (txt h m s f true) 3) (bt (txt h m s f true) 4) (bt (txt h m s f true) 5) (bt (txt h m s f true) 6) (bt (txt h m s f true) 7) (bt (txt h m s f true) 8) (bt (txt h m s f true) 9) (bt (txt h m s f true) 10) 0 (bt_at _ 0) (bt_lo _ 0) (bt_hi _ 0) (bt_at _ 1) (bt_lo _ 1) (bt_hi _ 1) (bt_at _ 2) (bt_lo _ 2) (bt_hi _ 2) (bt_at _ 3) (bt_lo _ 3) (bt_hi _ 3) (bt_at _ 4) (bt_lo _ 4) (bt_hi _ 4) (bt_at _ 5) (bt_lo _ 5) (bt_hi _ 5) (bt_at _ 6) (bt_lo _ 6) (bt_hi _ 6) (bt_at _ 7) (bt_lo _ 7) (bt_hi _ 7) (bt_at _ 8) (bt_lo _ 8) (bt_hi _ 8) (bt_at _ 9) (bt_lo _ 9) (bt_hi _ 9) (bt_at _ 10) (bt_lo _ 10) (bt_hi _ 10) (by simp [b2]) (by simp [b5]) (by simp [h8]) (by simp [h8]) ⟨by omega, by omega, by omega, by omega, by omega, by omega, by omega, by omega, by omega, by omega, by omega, by omega, by omega, by omega, by omega, by omega⟩ (Lib.hid (by rw [e0, e1, e2, e3, hd]; exact hc)) (by simp)
  rw [e0, e1, e2, e3, hd] at z
  exact z
end Go.Proofs.Ytgllekaanaikhaa.Tb
