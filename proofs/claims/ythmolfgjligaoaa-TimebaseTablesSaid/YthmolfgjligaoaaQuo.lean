/- The rounded quotient: plain arithmetic, and the contracts of ratio.Quotient and of its reference for a numerator not below 0, a denominator above 0, a known mode. -/
import Derived.Test.YthmolfgjligaoaaChecked
import Derived.Test.YthmolfgjligaoaaBase
namespace Go.Proofs.Ythmolfgjligaoaa.Qu
open Go.RowKit Ba
set_option linter.unusedVariables false
set_option linter.unusedSimpArgs false

/-- 0 or 1: is the quotient rounded up? -/
def up (r d m : Int) : Int := if r = 0 then 0 else if m = 1 then 0 else if m = 3 then 1 else if d ≤ 2 * r then 1 else 0
def quo (n d m : Int) : Int := n / d + up (n % d) d m

theorem up_01 (r d m : Int) : up r d m = 0 ∨ up r d m = 1 := by unfold up; (repeat' split) <;> simp

theorem size_ok (n : Int) (w : World) (h0 : 0 ≤ n) (h1 : n ≤ 4611686018427387904) :
    Calls Try.prog 46 #[.int .i64 n] w fun e w' => e = .returned (.int .u64 n) ∧ w = w' := by
  have t1 : decide (n < 0) = false := decide_eq_false (by omega)
  go_enter Try.func46, Try.ntmps46
  go_wp2
  go_ret
  exact ⟨rfl, rfl⟩

theorem neg_ok (n : Int) (w : World) (h0 : 0 ≤ n) (h1 : n ≤ 4611686018427387904) :
    Calls Try.prog 48 #[.int .i64 n] w fun e w' => e = .returned (.int .i64 (-n)) ∧ w = w' := by
  by_cases c : n = 0
  · subst c
    go_enter Try.func48, Try.ntmps48
    go_wp2
    go_ret
    exact ⟨rfl, rfl⟩
  · have t2 : decide (0 < n) = true := decide_eq_true (by omega)
    go_enter Try.func48, Try.ntmps48
    go_wp2
    go_ret
    exact ⟨rfl, rfl⟩

theorem away_ok (r d m : Int) (w : World) (h0 : 0 ≤ r) (h1 : r < d) (h2 : d ≤ 4611686018427387904) (h3 : 1 ≤ m) (h4 : m ≤ 3) :
    Calls Try.prog 47 #[.bool false, .int .u64 r, .int .u64 d, .int .u8 m] w fun e w' => e = .returned (.bool (decide (up r d m = 1))) ∧ w = w' := by
  by_cases c0 : r = 0
  · subst c0
    have hu : up 0 d m = 0 := by unfold up; simp
    rw [hu]; clear hu
    go_enter Try.func47, Try.ntmps47
    go_wp2
    go_ret
    exact ⟨rfl, rfl⟩
  have t1 : (r == 0) = false := by simpa using c0
  by_cases c1 : m = 1
  · subst c1
    have hu : up r d 1 = 0 := by unfold up; simp
    rw [hu]; clear hu
    go_enter Try.func47, Try.ntmps47
    go_wp2
    go_ret
    exact ⟨rfl, rfl⟩
  have t2 : (m == 1) = false := by simpa using c1
  by_cases c3 : m = 3
  · subst c3
    have hu : up r d 3 = 1 := by unfold up; simp [c0]
    rw [hu]; clear hu
    go_enter Try.func47, Try.ntmps47
    go_wp2
    go_ret
    exact ⟨rfl, rfl⟩
  have t3 : (m == 3) = false := by simpa using c3
  by_cases c : d ≤ 2 * r
  · have hu : up r d m = 1 := by unfold up; simp [c0, c1, c3, c]
    rw [hu]; clear hu
    clear c0 c1 c3
    by_cases c4 : d - r < r
    · have t4 : decide (d - r < r) = true := decide_eq_true c4
      go_enter Try.func47, Try.ntmps47
      go_wp2
      go_ret
      exact ⟨rfl, rfl⟩
    · have t4 : decide (d - r < r) = false := decide_eq_false c4
      have t5 : (r == d - r) = true := by simp; omega
      go_enter Try.func47, Try.ntmps47
      go_wp2
      go_ret
      exact ⟨rfl, rfl⟩
  · have hu : up r d m = 0 := by unfold up; simp [c0, c1, c3, c]
    rw [hu]; clear hu
    have t4 : decide (d - r < r) = false := decide_eq_false (by omega)
    have t5 : (r == d - r) = false := by simp; omega
    clear c0 c1 c3
    go_enter Try.func47, Try.ntmps47
    go_wp2
    go_ret
    exact ⟨rfl, rfl⟩

theorem Quot_core (n d m q r : Int) (w : World) (hn : 0 ≤ n) (hn2 : n ≤ 4611686018427387903) (hd : 0 < d) (hd2 : d ≤ 4611686018427387904) (hm : 1 ≤ m) (hm2 : m ≤ 3)
    (hq : n / d = q) (hr : n % d = r) (q0 : 0 ≤ q) (q1 : q ≤ 4611686018427387903) (r0 : 0 ≤ r) (r1 : r < d) :
    Calls Try.prog 42 #[.int .i64 n, .int .i64 d, .int .u8 m] w fun e w' => e = .returned (ret2 (q + up r d m, 0)) ∧ ∃ k, w' = w.drewN k := by
  have e1 : n.tdiv d = q := by rw [Int.tdiv_eq_ediv_of_nonneg hn, hq]
  have e2 : n.tmod d = r := by rw [Int.tmod_eq_emod_of_nonneg hn, hr]
  have e3 : IntKind.u64.wrap q = q := by rw [IntKind.wrap_u64]; omega
  have e4 : IntKind.u64.wrap r = r := by rw [IntKind.wrap_u64]; omega
  have hd0 : (d == 0) = false := by simp; omega
  have t3 : decide (1 ≤ m) = true := decide_eq_true (by omega)
  have t4 : decide (m ≤ 3) = true := decide_eq_true (by omega)
  have t5 : decide (n < 0) = false := decide_eq_false (by omega)
  have t6 : decide (d < 0) = false := decide_eq_false (by omega)
  rcases up_01 r d m with hu | hu
  all_goals
    go_enter Try.func42, Try.ntmps42
    go_wp2
    go_quiet ((go_at_call 46; exact Calls.quiet_of_same (sm (size_ok _ _ (by omega) (by omega)))))
    go_wp2_with (first | (go_at_call 47; refine (away_ok r d m _ (by omega) (by omega) (by omega) (by omega) (by omega)).mono ?_; rintro e w' ⟨rfl, rfl⟩; rw [hu]) | go_in)
    go_ret2
    exact ⟨by rw [hu]; simp [ret2], _, rfl⟩

theorem RQuot_core (n d m q r : Int) (w : World) (hn : 0 ≤ n) (hn2 : n ≤ 4611686018427387903) (hd : 0 < d) (hd2 : d ≤ 4611686018427387904) (hm : 1 ≤ m) (hm2 : m ≤ 3)
    (hq : n / d = q) (hr : n % d = r) (q0 : 0 ≤ q) (q1 : q ≤ 4611686018427387903) (r0 : 0 ≤ r) (r1 : r < d) :
    Calls Try.prog 44 #[.int .i64 n, .int .i64 d, .int .u8 m] w fun e w' => e = .returned (ret2 (q + up r d m, 0)) ∧ ∃ k, w' = w.drewN k := by
  have e1 : n.tdiv d = q := by rw [Int.tdiv_eq_ediv_of_nonneg hn, hq]
  have e2 : n.tmod d = r := by rw [Int.tmod_eq_emod_of_nonneg hn, hr]
  have e3 : IntKind.i64.wrap q = q := by rw [IntKind.wrap_i64]; omega
  have e4 : IntKind.i64.wrap r = r := by rw [IntKind.wrap_i64]; omega
  have hd0 : (d == 0) = false := by simp; omega
  have hl : (n == -9223372036854775808) = false := by simp; omega
  have hd00 : 0 ≤ d := by omega
  have t7 : decide (1 ≤ m) = true := decide_eq_true (by omega)
  have t8 : decide (m ≤ 3) = true := decide_eq_true (by omega)
  have t9 : decide (r < 0) = false := decide_eq_false (by omega)
  have t10 : decide (d < 0) = false := decide_eq_false (by omega)
  have t11 : decide (0 ≤ d) = true := decide_eq_true (by omega)
  by_cases c0 : r = 0
  · have hu : up r d m = 0 := by unfold up; simp [c0]
    have x1 : (r == 0) = true := by simpa using c0
    have y1 : (r != 0) = false := by simpa using c0
    rw [hu]; clear hu c0
    go_enter Try.func44, Try.ntmps44
    go_wp2
    go_quiet (fail)
    go_wp2
    go_ret2
    exact ⟨by simp [ret2], _, rfl⟩
  have x1 : (r == 0) = false := by simpa using c0
  have y1 : (r != 0) = true := by simpa using c0
  by_cases c1 : m = 1
  · have hu : up r d m = 0 := by unfold up; simp [c1]
    have x2 : (m == 1) = true := by simpa using c1
    rw [hu]; clear hu c1
    go_enter Try.func44, Try.ntmps44
    go_wp2
    go_quiet (fail)
    go_wp2
    go_ret2
    exact ⟨by simp [ret2], _, rfl⟩
  have x2 : (m == 1) = false := by simpa using c1
  by_cases c3 : m = 3
  · have hu : up r d m = 1 := by unfold up; simp [c0, c3]
    have x3 : (m == 3) = true := by simpa using c3
    rw [hu]; clear hu c0 c1 c3
    go_enter Try.func44, Try.ntmps44
    go_wp2
    go_quiet (fail)
    go_wp2
    go_ret2
    exact ⟨by simp [ret2], _, rfl⟩
  have x3 : (m == 3) = false := by simpa using c3
  by_cases c : d ≤ 2 * r
  · have hu : up r d m = 1 := by unfold up; simp [c0, c1, c3, c]
    have x4 : decide (-r ≤ -d + r) = true := decide_eq_true (by omega)
    rw [hu]; clear hu c0 c1 c3 c
    go_enter Try.func44, Try.ntmps44
    go_wp2
    go_quiet (fail)
    go_wp2_with (first | (go_at_call 48; refine (neg_ok _ _ (by omega) (by omega)).mono ?_; rintro e w' ⟨rfl, rfl⟩) | go_in)
    go_ret2
    exact ⟨by simp [ret2], _, rfl⟩
  · have hu : up r d m = 0 := by unfold up; simp [c0, c1, c3, c]
    have x4 : decide (-r ≤ -d + r) = false := decide_eq_false (by omega)
    rw [hu]; clear hu c0 c1 c3 c
    go_enter Try.func44, Try.ntmps44
    go_wp2
    go_quiet (fail)
    go_wp2_with (first | (go_at_call 48; refine (neg_ok _ _ (by omega) (by omega)).mono ?_; rintro e w' ⟨rfl, rfl⟩) | go_in)
    go_ret2
    exact ⟨by simp [ret2], _, rfl⟩

/-- The bounds of quotient and remainder, and the two contracts at n / d. -/
theorem div_bd (n d : Int) (hn : 0 ≤ n) (hd : 0 < d) : 0 ≤ n / d ∧ n / d ≤ n ∧ 0 ≤ n % d ∧ n % d < d :=
  ⟨Int.ediv_nonneg hn (by omega), Int.ediv_le_self d hn, Int.emod_nonneg n (by omega), Int.emod_lt_of_pos n hd⟩

theorem Quot_ok (n d m : Int) (w : World) (hn : 0 ≤ n) (hn2 : n ≤ 4611686018427387903) (hd : 0 < d) (hd2 : d ≤ 4611686018427387904) (hm : 1 ≤ m) (hm2 : m ≤ 3) :
    Calls Try.prog 42 #[.int .i64 n, .int .i64 d, .int .u8 m] w fun e w' => e = .returned (ret2 (quo n d m, 0)) ∧ ∃ k, w' = w.drewN k := by
  obtain ⟨b0, b1, b2, b3⟩ := div_bd n d hn hd
  exact Quot_core n d m _ _ w hn hn2 hd hd2 hm hm2 rfl rfl b0 (by omega) b2 b3
theorem RQuot_ok (n d m : Int) (w : World) (hn : 0 ≤ n) (hn2 : n ≤ 4611686018427387903) (hd : 0 < d) (hd2 : d ≤ 4611686018427387904) (hm : 1 ≤ m) (hm2 : m ≤ 3) :
    Calls Try.prog 44 #[.int .i64 n, .int .i64 d, .int .u8 m] w fun e w' => e = .returned (ret2 (quo n d m, 0)) ∧ ∃ k, w' = w.drewN k := by
  obtain ⟨b0, b1, b2, b3⟩ := div_bd n d hn hd
  exact RQuot_core n d m _ _ w hn hn2 hd hd2 hm hm2 rfl rfl b0 (by omega) b2 b3
theorem quo_bd (n d m : Int) (hn : 0 ≤ n) (hd : 0 < d) : 0 ≤ quo n d m ∧ quo n d m ≤ n + 1 := by
  obtain ⟨b0, b1, b2, b3⟩ := div_bd n d hn hd
  unfold quo
  rcases up_01 (n % d) d m with h | h <;> rw [h] <;> omega
end Go.Proofs.Ythmolfgjligaoaa.Qu
