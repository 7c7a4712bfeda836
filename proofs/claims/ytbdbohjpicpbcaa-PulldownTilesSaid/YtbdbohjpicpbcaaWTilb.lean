/- Contracts of layer 4 (pulldown) and of its reference: what each function returns, in integers. No condition but those that each theorem names. -/
import Derived.Test.YtbdbohjpicpbcaaChecked
import Derived.Test.YtbdbohjpicpbcaaPull
import Derived.Test.YtbdbohjpicpbcaaBase
import Derived.Test.YtbdbohjpicpbcaaPd
import Derived.Test.YtbdbohjpicpbcaaPf
import Derived.Test.YtbdbohjpicpbcaaPw
import Derived.Test.YtbdbohjpicpbcaaPe
import Derived.Test.YtbdbohjpicpbcaaOpen
namespace Go.Proofs.Ytbdbohjpicpbcaa.Pc
open Go.RowKit Pu Ba
set_option linter.unusedVariables false
set_option linter.unusedSimpArgs false

set_option maxRecDepth 100000 in
set_option maxHeartbeats 1000000 in
theorem Tiles_2zi (w : World) (p n A : Int) (p0 : 0 ≤ p) (p1 : p < 4) (n0 : 0 ≤ n) (n1 : n ≤ 5184000) (A0 : 0 ≤ A) (A1 : A ≤ 12960000) (f1 : fieldsR p n = (A, A + 2, 0)) (f2 : fieldsR p (n + 1) = (A + 2, A + 5, 0)) (hp : ((n + p) % 2 == 1) = false) (hz : (n == 0) = true) (hA : (A != 0) = false) (hs : ∀ i, A ≤ i → i < A + 2 → i ≤ 10368000 → filmR p i = (n, 0)) (ho : ∀ i, 10368000 < i → filmR p i = (0, 2)) :
    Calls Try.prog 7 #[.int .i64 p, .int .i64 n] w fun e w' => e = .returned (.bool true) ∧ Below w.heap.size w w' := by
  have F1 := Lib.hid f1
  have F2 := Lib.hid f2
  have HS := Lib.hid hs
  have HO := Lib.hid ho
  clear f1 f2 hs ho
  have x1 : (A + 5 - A != 5) = false := by rw [bne_eq_false_iff_eq]; omega
  go_enter Try.func7, Try.ntmps7
  go_wp2_with (first | (go_at_call 11; refine (awake_ok _).mono ?_; rintro e w1 ⟨rfl, hb1⟩; obtain ⟨hc1, hf1, hz1⟩ := bcell hb1; (try simp at hz1)))
  refine (Fields_any _ _ _).mono ?_
  rintro e w2 ⟨rfl, hb2⟩
  rw [F1.out]
  obtain ⟨hc2, hf2, hz2⟩ := bcell hb2
  go_wp2_with fail
  refine (Fields_any _ _ _).mono ?_
  rintro e w3 ⟨rfl, hb3⟩
  rw [F2.out]
  obtain ⟨hc3, hf3, hz3⟩ := bcell hb3
  simp at hz3
  have y32 : w2.heap.size < w3.heap.size := by omega
  go_wp2
  go_loop [4, 10] (fun r v => r = .bool false ∧ ∃ i : Int, A ≤ i ∧ i ≤ A + 2 ∧ v = .int .i64 i) (fun _ v => (A + 2 - intOf v).toNat)
  case atStart => exact ⟨rfl, A, by omega, by omega, rfl⟩
  case round =>
    obtain ⟨rfl, i, i0, i1, rfl⟩ := hrel
    by_cases hlt : i < A + 2
    · have t1 : decide (i < A + 2) = true := decide_eq_true (by omega)
      by_cases hr : i ≤ 10368000
      · have HI := Lib.hid (HS.out i i0 hlt hr)
        go_wp2_with (go_at_call 19; refine (Film_any _ _ _).mono ?_; rintro e w' ⟨rfl, rfl⟩; rw [HI.out])
        go_round
        case rel => exact ⟨rfl, i + 1, by omega, by omega, rfl⟩
        case measure => simp [intOf]; omega
      · have HI := Lib.hid (HO.out i (by omega))
        go_wp2_with (go_at_call 19; refine (Film_any _ _ _).mono ?_; rintro e w' ⟨rfl, rfl⟩; rw [HI.out])
        go_round
        case rel => exact ⟨rfl, i + 1, by omega, by omega, rfl⟩
        case measure => simp [intOf]; omega
    · have t2 : decide (i < A + 2) = false := decide_eq_false (by omega)
      go_wp2
      go_ret
      refine ⟨rfl, ?_⟩
      (repeat (first | exact Below.refl _ _ | assumption | refine Ba.below_step (by assumption) (by first | exact Nat.le_refl _ | omega | (simp; done) | (simp; omega)) ?_ | apply Below.drew | apply Ba.below_drewN | refine Below.alloc ?_ (by first | exact Nat.le_refl _ | omega | (simp; done) | (simp; omega)) _ | refine Below.setCell ?_ (by first | exact Nat.le_refl _ | omega | (simp; done) | (simp; omega)) _))

set_option maxRecDepth 100000 in
set_option maxHeartbeats 1000000 in
theorem Tiles_2ni (w : World) (p n A : Int) (p0 : 0 ≤ p) (p1 : p < 4) (n0 : 0 ≤ n) (n1 : n ≤ 5184000) (A0 : 0 ≤ A) (A1 : A ≤ 12960000) (f1 : fieldsR p n = (A, A + 2, 0)) (f2 : fieldsR p (n + 1) = (A + 2, A + 5, 0)) (hp : ((n + p) % 2 == 1) = false) (hz : (n == 0) = false) (hs : ∀ i, A ≤ i → i < A + 2 → i ≤ 10368000 → filmR p i = (n, 0)) (ho : ∀ i, 10368000 < i → filmR p i = (0, 2)) :
    Calls Try.prog 7 #[.int .i64 p, .int .i64 n] w fun e w' => e = .returned (.bool true) ∧ Below w.heap.size w w' := by
  have F1 := Lib.hid f1
  have F2 := Lib.hid f2
  have HS := Lib.hid hs
  have HO := Lib.hid ho
  clear f1 f2 hs ho
  have x1 : (A + 5 - A != 5) = false := by rw [bne_eq_false_iff_eq]; omega
  go_enter Try.func7, Try.ntmps7
  go_wp2_with (first | (go_at_call 11; refine (awake_ok _).mono ?_; rintro e w1 ⟨rfl, hb1⟩; obtain ⟨hc1, hf1, hz1⟩ := bcell hb1; (try simp at hz1)))
  refine (Fields_any _ _ _).mono ?_
  rintro e w2 ⟨rfl, hb2⟩
  rw [F1.out]
  obtain ⟨hc2, hf2, hz2⟩ := bcell hb2
  go_wp2_with fail
  refine (Fields_any _ _ _).mono ?_
  rintro e w3 ⟨rfl, hb3⟩
  rw [F2.out]
  obtain ⟨hc3, hf3, hz3⟩ := bcell hb3
  simp at hz3
  have y32 : w2.heap.size < w3.heap.size := by omega
  go_wp2
  go_loop [4, 10] (fun r v => r = .bool false ∧ ∃ i : Int, A ≤ i ∧ i ≤ A + 2 ∧ v = .int .i64 i) (fun _ v => (A + 2 - intOf v).toNat)
  case atStart => exact ⟨rfl, A, by omega, by omega, rfl⟩
  case round =>
    obtain ⟨rfl, i, i0, i1, rfl⟩ := hrel
    by_cases hlt : i < A + 2
    · have t3 : decide (i < A + 2) = true := decide_eq_true (by omega)
      by_cases hr : i ≤ 10368000
      · have HI := Lib.hid (HS.out i i0 hlt hr)
        go_wp2_with (go_at_call 19; refine (Film_any _ _ _).mono ?_; rintro e w' ⟨rfl, rfl⟩; rw [HI.out])
        go_round
        case rel => exact ⟨rfl, i + 1, by omega, by omega, rfl⟩
        case measure => simp [intOf]; omega
      · have HI := Lib.hid (HO.out i (by omega))
        go_wp2_with (go_at_call 19; refine (Film_any _ _ _).mono ?_; rintro e w' ⟨rfl, rfl⟩; rw [HI.out])
        go_round
        case rel => exact ⟨rfl, i + 1, by omega, by omega, rfl⟩
        case measure => simp [intOf]; omega
    · have t4 : decide (i < A + 2) = false := decide_eq_false (by omega)
      go_wp2
      go_ret
      refine ⟨rfl, ?_⟩
      (repeat (first | exact Below.refl _ _ | assumption | refine Ba.below_step (by assumption) (by first | exact Nat.le_refl _ | omega | (simp; done) | (simp; omega)) ?_ | apply Below.drew | apply Ba.below_drewN | refine Below.alloc ?_ (by first | exact Nat.le_refl _ | omega | (simp; done) | (simp; omega)) _ | refine Below.setCell ?_ (by first | exact Nat.le_refl _ | omega | (simp; done) | (simp; omega)) _))

set_option maxRecDepth 100000 in
set_option maxHeartbeats 1000000 in
theorem Tiles_2no (w : World) (p n A : Int) (p0 : 0 ≤ p) (p1 : p < 4) (n0 : 0 ≤ n) (n1 : n ≤ 5184000) (A0 : 0 ≤ A) (A1 : A ≤ 12960000) (f1 : fieldsR p n = (A, A + 2, 0)) (f2 : fieldsR p (n + 1) = (0, 0, 2)) (hp : ((n + p) % 2 == 1) = false) (hz : (n == 0) = false) (hs : ∀ i, A ≤ i → i < A + 2 → i ≤ 10368000 → filmR p i = (n, 0)) (ho : ∀ i, 10368000 < i → filmR p i = (0, 2)) :
    Calls Try.prog 7 #[.int .i64 p, .int .i64 n] w fun e w' => e = .returned (.bool true) ∧ Below w.heap.size w w' := by
  have F1 := Lib.hid f1
  have F2 := Lib.hid f2
  have HS := Lib.hid hs
  have HO := Lib.hid ho
  clear f1 f2 hs ho
  have x1 : (A + 5 - A != 5) = false := by rw [bne_eq_false_iff_eq]; omega
  go_enter Try.func7, Try.ntmps7
  go_wp2_with (first | (go_at_call 11; refine (awake_ok _).mono ?_; rintro e w1 ⟨rfl, hb1⟩; obtain ⟨hc1, hf1, hz1⟩ := bcell hb1; (try simp at hz1)))
  refine (Fields_any _ _ _).mono ?_
  rintro e w2 ⟨rfl, hb2⟩
  rw [F1.out]
  obtain ⟨hc2, hf2, hz2⟩ := bcell hb2
  go_wp2_with fail
  refine (Fields_any _ _ _).mono ?_
  rintro e w3 ⟨rfl, hb3⟩
  rw [F2.out]
  obtain ⟨hc3, hf3, hz3⟩ := bcell hb3
  simp at hz3
  have y32 : w2.heap.size < w3.heap.size := by omega
  go_wp2
  go_loop [4, 10] (fun r v => r = .bool false ∧ ∃ i : Int, A ≤ i ∧ i ≤ A + 2 ∧ v = .int .i64 i) (fun _ v => (A + 2 - intOf v).toNat)
  case atStart => exact ⟨rfl, A, by omega, by omega, rfl⟩
  case round =>
    obtain ⟨rfl, i, i0, i1, rfl⟩ := hrel
    by_cases hlt : i < A + 2
    · have t5 : decide (i < A + 2) = true := decide_eq_true (by omega)
      by_cases hr : i ≤ 10368000
      · have HI := Lib.hid (HS.out i i0 hlt hr)
        go_wp2_with (go_at_call 19; refine (Film_any _ _ _).mono ?_; rintro e w' ⟨rfl, rfl⟩; rw [HI.out])
        go_round
        case rel => exact ⟨rfl, i + 1, by omega, by omega, rfl⟩
        case measure => simp [intOf]; omega
      · have HI := Lib.hid (HO.out i (by omega))
        go_wp2_with (go_at_call 19; refine (Film_any _ _ _).mono ?_; rintro e w' ⟨rfl, rfl⟩; rw [HI.out])
        go_round
        case rel => exact ⟨rfl, i + 1, by omega, by omega, rfl⟩
        case measure => simp [intOf]; omega
    · have t6 : decide (i < A + 2) = false := decide_eq_false (by omega)
      go_wp2
      go_ret
      refine ⟨rfl, ?_⟩
      (repeat (first | exact Below.refl _ _ | assumption | refine Ba.below_step (by assumption) (by first | exact Nat.le_refl _ | omega | (simp; done) | (simp; omega)) ?_ | apply Below.drew | apply Ba.below_drewN | refine Below.alloc ?_ (by first | exact Nat.le_refl _ | omega | (simp; done) | (simp; omega)) _ | refine Below.setCell ?_ (by first | exact Nat.le_refl _ | omega | (simp; done) | (simp; omega)) _))

set_option maxRecDepth 100000 in
set_option maxHeartbeats 1000000 in
theorem Tiles_3zi (w : World) (p n A : Int) (p0 : 0 ≤ p) (p1 : p < 4) (n0 : 0 ≤ n) (n1 : n ≤ 5184000) (A0 : 0 ≤ A) (A1 : A ≤ 12960000) (f1 : fieldsR p n = (A, A + 3, 0)) (f2 : fieldsR p (n + 1) = (A + 3, A + 5, 0)) (hp : ((n + p) % 2 == 1) = true) (hz : (n == 0) = true) (hA : (A != 0) = false) (hs : ∀ i, A ≤ i → i < A + 3 → i ≤ 10368000 → filmR p i = (n, 0)) (ho : ∀ i, 10368000 < i → filmR p i = (0, 2)) :
    Calls Try.prog 7 #[.int .i64 p, .int .i64 n] w fun e w' => e = .returned (.bool true) ∧ Below w.heap.size w w' := by
  have F1 := Lib.hid f1
  have F2 := Lib.hid f2
  have HS := Lib.hid hs
  have HO := Lib.hid ho
  clear f1 f2 hs ho
  have x1 : (A + 5 - A != 5) = false := by rw [bne_eq_false_iff_eq]; omega
  go_enter Try.func7, Try.ntmps7
  go_wp2_with (first | (go_at_call 11; refine (awake_ok _).mono ?_; rintro e w1 ⟨rfl, hb1⟩; obtain ⟨hc1, hf1, hz1⟩ := bcell hb1; (try simp at hz1)))
  refine (Fields_any _ _ _).mono ?_
  rintro e w2 ⟨rfl, hb2⟩
  rw [F1.out]
  obtain ⟨hc2, hf2, hz2⟩ := bcell hb2
  go_wp2_with fail
  refine (Fields_any _ _ _).mono ?_
  rintro e w3 ⟨rfl, hb3⟩
  rw [F2.out]
  obtain ⟨hc3, hf3, hz3⟩ := bcell hb3
  simp at hz3
  have y32 : w2.heap.size < w3.heap.size := by omega
  go_wp2
  go_loop [4, 10] (fun r v => r = .bool false ∧ ∃ i : Int, A ≤ i ∧ i ≤ A + 3 ∧ v = .int .i64 i) (fun _ v => (A + 3 - intOf v).toNat)
  case atStart => exact ⟨rfl, A, by omega, by omega, rfl⟩
  case round =>
    obtain ⟨rfl, i, i0, i1, rfl⟩ := hrel
    by_cases hlt : i < A + 3
    · have t7 : decide (i < A + 3) = true := decide_eq_true (by omega)
      by_cases hr : i ≤ 10368000
      · have HI := Lib.hid (HS.out i i0 hlt hr)
        go_wp2_with (go_at_call 19; refine (Film_any _ _ _).mono ?_; rintro e w' ⟨rfl, rfl⟩; rw [HI.out])
        go_round
        case rel => exact ⟨rfl, i + 1, by omega, by omega, rfl⟩
        case measure => simp [intOf]; omega
      · have HI := Lib.hid (HO.out i (by omega))
        go_wp2_with (go_at_call 19; refine (Film_any _ _ _).mono ?_; rintro e w' ⟨rfl, rfl⟩; rw [HI.out])
        go_round
        case rel => exact ⟨rfl, i + 1, by omega, by omega, rfl⟩
        case measure => simp [intOf]; omega
    · have t8 : decide (i < A + 3) = false := decide_eq_false (by omega)
      go_wp2
      go_ret
      refine ⟨rfl, ?_⟩
      (repeat (first | exact Below.refl _ _ | assumption | refine Ba.below_step (by assumption) (by first | exact Nat.le_refl _ | omega | (simp; done) | (simp; omega)) ?_ | apply Below.drew | apply Ba.below_drewN | refine Below.alloc ?_ (by first | exact Nat.le_refl _ | omega | (simp; done) | (simp; omega)) _ | refine Below.setCell ?_ (by first | exact Nat.le_refl _ | omega | (simp; done) | (simp; omega)) _))

set_option maxRecDepth 100000 in
set_option maxHeartbeats 1000000 in
theorem Tiles_3ni (w : World) (p n A : Int) (p0 : 0 ≤ p) (p1 : p < 4) (n0 : 0 ≤ n) (n1 : n ≤ 5184000) (A0 : 0 ≤ A) (A1 : A ≤ 12960000) (f1 : fieldsR p n = (A, A + 3, 0)) (f2 : fieldsR p (n + 1) = (A + 3, A + 5, 0)) (hp : ((n + p) % 2 == 1) = true) (hz : (n == 0) = false) (hs : ∀ i, A ≤ i → i < A + 3 → i ≤ 10368000 → filmR p i = (n, 0)) (ho : ∀ i, 10368000 < i → filmR p i = (0, 2)) :
    Calls Try.prog 7 #[.int .i64 p, .int .i64 n] w fun e w' => e = .returned (.bool true) ∧ Below w.heap.size w w' := by
  have F1 := Lib.hid f1
  have F2 := Lib.hid f2
  have HS := Lib.hid hs
  have HO := Lib.hid ho
  clear f1 f2 hs ho
  have x1 : (A + 5 - A != 5) = false := by rw [bne_eq_false_iff_eq]; omega
  go_enter Try.func7, Try.ntmps7
  go_wp2_with (first | (go_at_call 11; refine (awake_ok _).mono ?_; rintro e w1 ⟨rfl, hb1⟩; obtain ⟨hc1, hf1, hz1⟩ := bcell hb1; (try simp at hz1)))
  refine (Fields_any _ _ _).mono ?_
  rintro e w2 ⟨rfl, hb2⟩
  rw [F1.out]
  obtain ⟨hc2, hf2, hz2⟩ := bcell hb2
  go_wp2_with fail
  refine (Fields_any _ _ _).mono ?_
  rintro e w3 ⟨rfl, hb3⟩
  rw [F2.out]
  obtain ⟨hc3, hf3, hz3⟩ := bcell hb3
  simp at hz3
  have y32 : w2.heap.size < w3.heap.size := by omega
  go_wp2
  go_loop [4, 10] (fun r v => r = .bool false ∧ ∃ i : Int, A ≤ i ∧ i ≤ A + 3 ∧ v = .int .i64 i) (fun _ v => (A + 3 - intOf v).toNat)
  case atStart => exact ⟨rfl, A, by omega, by omega, rfl⟩
  case round =>
    obtain ⟨rfl, i, i0, i1, rfl⟩ := hrel
    by_cases hlt : i < A + 3
    · have t9 : decide (i < A + 3) = true := decide_eq_true (by omega)
      by_cases hr : i ≤ 10368000
      · have HI := Lib.hid (HS.out i i0 hlt hr)
        go_wp2_with (go_at_call 19; refine (Film_any _ _ _).mono ?_; rintro e w' ⟨rfl, rfl⟩; rw [HI.out])
        go_round
        case rel => exact ⟨rfl, i + 1, by omega, by omega, rfl⟩
        case measure => simp [intOf]; omega
      · have HI := Lib.hid (HO.out i (by omega))
        go_wp2_with (go_at_call 19; refine (Film_any _ _ _).mono ?_; rintro e w' ⟨rfl, rfl⟩; rw [HI.out])
        go_round
        case rel => exact ⟨rfl, i + 1, by omega, by omega, rfl⟩
        case measure => simp [intOf]; omega
    · have t10 : decide (i < A + 3) = false := decide_eq_false (by omega)
      go_wp2
      go_ret
      refine ⟨rfl, ?_⟩
      (repeat (first | exact Below.refl _ _ | assumption | refine Ba.below_step (by assumption) (by first | exact Nat.le_refl _ | omega | (simp; done) | (simp; omega)) ?_ | apply Below.drew | apply Ba.below_drewN | refine Below.alloc ?_ (by first | exact Nat.le_refl _ | omega | (simp; done) | (simp; omega)) _ | refine Below.setCell ?_ (by first | exact Nat.le_refl _ | omega | (simp; done) | (simp; omega)) _))

set_option maxRecDepth 100000 in
set_option maxHeartbeats 1000000 in
theorem Tiles_3no (w : World) (p n A : Int) (p0 : 0 ≤ p) (p1 : p < 4) (n0 : 0 ≤ n) (n1 : n ≤ 5184000) (A0 : 0 ≤ A) (A1 : A ≤ 12960000) (f1 : fieldsR p n = (A, A + 3, 0)) (f2 : fieldsR p (n + 1) = (0, 0, 2)) (hp : ((n + p) % 2 == 1) = true) (hz : (n == 0) = false) (hs : ∀ i, A ≤ i → i < A + 3 → i ≤ 10368000 → filmR p i = (n, 0)) (ho : ∀ i, 10368000 < i → filmR p i = (0, 2)) :
    Calls Try.prog 7 #[.int .i64 p, .int .i64 n] w fun e w' => e = .returned (.bool true) ∧ Below w.heap.size w w' := by
  have F1 := Lib.hid f1
  have F2 := Lib.hid f2
  have HS := Lib.hid hs
  have HO := Lib.hid ho
  clear f1 f2 hs ho
  have x1 : (A + 5 - A != 5) = false := by rw [bne_eq_false_iff_eq]; omega
  go_enter Try.func7, Try.ntmps7
  go_wp2_with (first | (go_at_call 11; refine (awake_ok _).mono ?_; rintro e w1 ⟨rfl, hb1⟩; obtain ⟨hc1, hf1, hz1⟩ := bcell hb1; (try simp at hz1)))
  refine (Fields_any _ _ _).mono ?_
  rintro e w2 ⟨rfl, hb2⟩
  rw [F1.out]
  obtain ⟨hc2, hf2, hz2⟩ := bcell hb2
  go_wp2_with fail
  refine (Fields_any _ _ _).mono ?_
  rintro e w3 ⟨rfl, hb3⟩
  rw [F2.out]
  obtain ⟨hc3, hf3, hz3⟩ := bcell hb3
  simp at hz3
  have y32 : w2.heap.size < w3.heap.size := by omega
  go_wp2
  go_loop [4, 10] (fun r v => r = .bool false ∧ ∃ i : Int, A ≤ i ∧ i ≤ A + 3 ∧ v = .int .i64 i) (fun _ v => (A + 3 - intOf v).toNat)
  case atStart => exact ⟨rfl, A, by omega, by omega, rfl⟩
  case round =>
    obtain ⟨rfl, i, i0, i1, rfl⟩ := hrel
    by_cases hlt : i < A + 3
    · have t11 : decide (i < A + 3) = true := decide_eq_true (by omega)
      by_cases hr : i ≤ 10368000
      · have HI := Lib.hid (HS.out i i0 hlt hr)
        go_wp2_with (go_at_call 19; refine (Film_any _ _ _).mono ?_; rintro e w' ⟨rfl, rfl⟩; rw [HI.out])
        go_round
        case rel => exact ⟨rfl, i + 1, by omega, by omega, rfl⟩
        case measure => simp [intOf]; omega
      · have HI := Lib.hid (HO.out i (by omega))
        go_wp2_with (go_at_call 19; refine (Film_any _ _ _).mono ?_; rintro e w' ⟨rfl, rfl⟩; rw [HI.out])
        go_round
        case rel => exact ⟨rfl, i + 1, by omega, by omega, rfl⟩
        case measure => simp [intOf]; omega
    · have t12 : decide (i < A + 3) = false := decide_eq_false (by omega)
      go_wp2
      go_ret
      refine ⟨rfl, ?_⟩
      (repeat (first | exact Below.refl _ _ | assumption | refine Ba.below_step (by assumption) (by first | exact Nat.le_refl _ | omega | (simp; done) | (simp; omega)) ?_ | apply Below.drew | apply Ba.below_drewN | refine Below.alloc ?_ (by first | exact Nat.le_refl _ | omega | (simp; done) | (simp; omega)) _ | refine Below.setCell ?_ (by first | exact Nat.le_refl _ | omega | (simp; done) | (simp; omega)) _))

end Go.Proofs.Ytbdbohjpicpbcaa.Pc
