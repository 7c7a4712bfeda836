/- The table of the seven rates, in integers, and the contracts of the functions that read it (timebase) and of their references. No condition but that a rate is a byte. -/
import Derived.Test.YthmolfgjligaoaaChecked
import Derived.Test.YthmolfgjligaoaaBase
import Derived.Test.YthmolfgjligaoaaTim
import Derived.Test.YthmolfgjligaoaaQuo
import Derived.Test.YthmolfgjligaoaaTcv
import Derived.Test.YthmolfgjligaoaaTpl
import Derived.WalkLawsBesides
namespace Go.Proofs.Ythmolfgjligaoaa.Tb
open Go.RowKit Ba Qu
set_option linter.unusedVariables false
set_option linter.unusedSimpArgs false

/-- The box of the argument and that of the result, in a world. -/
def RS (B : Nat) (i o : Int) (W : World) : Prop :=
  W.cell? ⟨B, 0, none⟩ = some (.int .i64 i) ∧ W.cell? ⟨B, 1, none⟩ = some (.int .i64 o) ∧ W.cell? ⟨B + 1, 0, none⟩ = some (.int .i64 0) ∧ W.cell? ⟨B + 1, 1, none⟩ = some (.int .i64 0) ∧
    W.frozen? ⟨B + 1, 0, none⟩ = false ∧ W.frozen? ⟨B + 1, 1, none⟩ = false ∧ B < W.heap.size ∧ B + 1 < W.heap.size
theorem RS.step {B : Nat} {i o : Int} {W W' : World} (h : RS B i o W) (hb : Below W.heap.size W W') : RS B i o W' := by
  obtain ⟨c0, c1, d0, d1, f0, f1, y0, y1⟩ := h
  exact ⟨(hb.cell (p := ⟨B, 0, none⟩) y0).trans c0, (hb.cell (p := ⟨B, 1, none⟩) y0).trans c1, (hb.cell (p := ⟨B + 1, 0, none⟩) y1).trans d0, (hb.cell (p := ⟨B + 1, 1, none⟩) y1).trans d1,
    (hb.frozen (p := ⟨B + 1, 0, none⟩) y1).trans f0, (hb.frozen (p := ⟨B + 1, 1, none⟩) y1).trans f1, Nat.lt_of_lt_of_le y0 hb.size, Nat.lt_of_lt_of_le y1 hb.size⟩
theorem RS.of (w : World) (i o : Int) : RS w.heap.size i o ((w.alloc (.cells #[.int .i64 i, .int .i64 o] 30)).alloc (.cells #[.int .i64 0, .int .i64 0] 30)) := by
  unfold RS
  refine ⟨?_, ?_, ?_, ?_, ?_, ?_, ?_, ?_⟩ <;> simp [go_sem]

def mx2 (y x : Int) : Int := if y < x + 1 then x + 1 else y
def reR (a b i o : Int) : Int × Int × Int :=
  if va a = false ∨ va b = false then (0, 0, 3) else if o ≤ i then (0, 0, 1) else if i < 0 ∨ 5184000 < o then (0, 0, 2)
  else if (convR a b i 2).2 ≠ 0 then (0, 0, (convR a b i 2).2) else if (convR a b o 2).2 ≠ 0 then (0, 0, (convR a b o 2).2)
  else if 5184000 < mx2 (convR a b o 2).1 (convR a b i 2).1 then (0, 0, 2) else ((convR a b i 2).1, mx2 (convR a b o 2).1 (convR a b i 2).1, 0)

theorem Re_t1 (a b i o : Int) (w : World) (a0 : 0 ≤ a) (a1 : a ≤ 255) (b0 : 0 ≤ b) (b1 : b ≤ 255) (ha : va a = false) :
    Calls Try.prog 14 #[.int .u8 a, .int .u8 b, .agg #[.int .i64 i, .int .i64 o], .int .u8 1] w fun e w' => e = .returned (ret3 (0, 0, 3)) ∧ Below w.heap.size w w' := by
  have HS := Lib.hid (RS.of w i o)
  go_enter Try.func14, Try.ntmps14
  go_wp2_with (first | (go_at_call 20; refine (Valid_ok _ _ (by omega) (by omega)).mono ?_; rintro e w1 ⟨rfl, hb1⟩; obtain ⟨c0, c1, d0, d1, f0, f1, y0, y1⟩ := HS.out.step hb1; have HS := Lib.hid (HS.out.step hb1); have hz1 := hb1.size; (try simp at hz1)) | go_in)
  refine bodyPost_ret (v := ret3 (0, 0, 3)) (by simp [results, Try.results14, go_sem, ret3, *]) rfl ⟨rfl, ?_⟩
  (repeat (first | exact Below.refl _ _ | assumption | refine Ba.below_step (by assumption) (by first | exact Nat.le_refl _ | omega | (simp; done) | (simp; omega)) ?_ | apply Below.drew | apply Ba.below_drewN | refine Below.alloc ?_ (by first | exact Nat.le_refl _ | omega | (simp; done) | (simp; omega)) _ | refine Below.setCell ?_ (by first | exact Nat.le_refl _ | omega | (simp; done) | (simp; omega)) _))
theorem Re_t2 (a b i o : Int) (w : World) (a0 : 0 ≤ a) (a1 : a ≤ 255) (b0 : 0 ≤ b) (b1 : b ≤ 255) (ha : va a = true) (hb : va b = false) :
    Calls Try.prog 14 #[.int .u8 a, .int .u8 b, .agg #[.int .i64 i, .int .i64 o], .int .u8 1] w fun e w' => e = .returned (ret3 (0, 0, 3)) ∧ Below w.heap.size w w' := by
  have HS := Lib.hid (RS.of w i o)
  go_enter Try.func14, Try.ntmps14
  go_wp2_with (first | (go_at_call 20; refine (Valid_ok _ _ (by omega) (by omega)).mono ?_; rintro e w1 ⟨rfl, hb1⟩; obtain ⟨c0, c1, d0, d1, f0, f1, y0, y1⟩ := HS.out.step hb1; have HS := Lib.hid (HS.out.step hb1); have hz1 := hb1.size; (try simp at hz1)) | go_in)
  refine bodyPost_ret (v := ret3 (0, 0, 3)) (by simp [results, Try.results14, go_sem, ret3, *]) rfl ⟨rfl, ?_⟩
  (repeat (first | exact Below.refl _ _ | assumption | refine Ba.below_step (by assumption) (by first | exact Nat.le_refl _ | omega | (simp; done) | (simp; omega)) ?_ | apply Below.drew | apply Ba.below_drewN | refine Below.alloc ?_ (by first | exact Nat.le_refl _ | omega | (simp; done) | (simp; omega)) _ | refine Below.setCell ?_ (by first | exact Nat.le_refl _ | omega | (simp; done) | (simp; omega)) _))
theorem Re_g (a b i o : Int) (w : World) (a0 : 0 ≤ a) (a1 : a ≤ 255) (b0 : 0 ≤ b) (b1 : b ≤ 255) (ha : va a = true) (hb : va b = true) (hi : o ≤ i) :
    Calls Try.prog 14 #[.int .u8 a, .int .u8 b, .agg #[.int .i64 i, .int .i64 o], .int .u8 1] w fun e w' => e = .returned (ret3 (0, 0, 1)) ∧ Below w.heap.size w w' := by
  have HS := Lib.hid (RS.of w i o)
  have t1 : decide (o ≤ i) = true := decide_eq_true (by omega)
  go_enter Try.func14, Try.ntmps14
  go_wp2_with (first | (go_at_call 20; refine (Valid_ok _ _ (by omega) (by omega)).mono ?_; rintro e w1 ⟨rfl, hb1⟩; obtain ⟨c0, c1, d0, d1, f0, f1, y0, y1⟩ := HS.out.step hb1; have HS := Lib.hid (HS.out.step hb1); have hz1 := hb1.size; (try simp at hz1)) | go_in)
  refine bodyPost_ret (v := ret3 (0, 0, 1)) (by simp [results, Try.results14, go_sem, ret3, *]) rfl ⟨rfl, ?_⟩
  (repeat (first | exact Below.refl _ _ | assumption | refine Ba.below_step (by assumption) (by first | exact Nat.le_refl _ | omega | (simp; done) | (simp; omega)) ?_ | apply Below.drew | apply Ba.below_drewN | refine Below.alloc ?_ (by first | exact Nat.le_refl _ | omega | (simp; done) | (simp; omega)) _ | refine Below.setCell ?_ (by first | exact Nat.le_refl _ | omega | (simp; done) | (simp; omega)) _))
theorem Re_r1 (a b i o : Int) (w : World) (a0 : 0 ≤ a) (a1 : a ≤ 255) (b0 : 0 ≤ b) (b1 : b ≤ 255) (ha : va a = true) (hb : va b = true) (hi : i < o) (h0 : i < 0) :
    Calls Try.prog 14 #[.int .u8 a, .int .u8 b, .agg #[.int .i64 i, .int .i64 o], .int .u8 1] w fun e w' => e = .returned (ret3 (0, 0, 2)) ∧ Below w.heap.size w w' := by
  have HS := Lib.hid (RS.of w i o)
  have t2 : decide (o ≤ i) = false := decide_eq_false (by omega)
  have t3 : decide (i < 0) = true := decide_eq_true (by omega)
  go_enter Try.func14, Try.ntmps14
  go_wp2_with (first | (go_at_call 20; refine (Valid_ok _ _ (by omega) (by omega)).mono ?_; rintro e w1 ⟨rfl, hb1⟩; obtain ⟨c0, c1, d0, d1, f0, f1, y0, y1⟩ := HS.out.step hb1; have HS := Lib.hid (HS.out.step hb1); have hz1 := hb1.size; (try simp at hz1)) | go_in)
  refine bodyPost_ret (v := ret3 (0, 0, 2)) (by simp [results, Try.results14, go_sem, ret3, *]) rfl ⟨rfl, ?_⟩
  (repeat (first | exact Below.refl _ _ | assumption | refine Ba.below_step (by assumption) (by first | exact Nat.le_refl _ | omega | (simp; done) | (simp; omega)) ?_ | apply Below.drew | apply Ba.below_drewN | refine Below.alloc ?_ (by first | exact Nat.le_refl _ | omega | (simp; done) | (simp; omega)) _ | refine Below.setCell ?_ (by first | exact Nat.le_refl _ | omega | (simp; done) | (simp; omega)) _))
theorem Re_r2 (a b i o : Int) (w : World) (a0 : 0 ≤ a) (a1 : a ≤ 255) (b0 : 0 ≤ b) (b1 : b ≤ 255) (ha : va a = true) (hb : va b = true) (hi : i < o) (h0 : 0 ≤ i) (h1 : 5184000 < o) :
    Calls Try.prog 14 #[.int .u8 a, .int .u8 b, .agg #[.int .i64 i, .int .i64 o], .int .u8 1] w fun e w' => e = .returned (ret3 (0, 0, 2)) ∧ Below w.heap.size w w' := by
  have HS := Lib.hid (RS.of w i o)
  have t4 : decide (o ≤ i) = false := decide_eq_false (by omega)
  have t5 : decide (i < 0) = false := decide_eq_false (by omega)
  have t6 : decide (5184000 < o) = true := decide_eq_true (by omega)
  go_enter Try.func14, Try.ntmps14
  go_wp2_with (first | (go_at_call 20; refine (Valid_ok _ _ (by omega) (by omega)).mono ?_; rintro e w1 ⟨rfl, hb1⟩; obtain ⟨c0, c1, d0, d1, f0, f1, y0, y1⟩ := HS.out.step hb1; have HS := Lib.hid (HS.out.step hb1); have hz1 := hb1.size; (try simp at hz1)) | go_in)
  refine bodyPost_ret (v := ret3 (0, 0, 2)) (by simp [results, Try.results14, go_sem, ret3, *]) rfl ⟨rfl, ?_⟩
  (repeat (first | exact Below.refl _ _ | assumption | refine Ba.below_step (by assumption) (by first | exact Nat.le_refl _ | omega | (simp; done) | (simp; omega)) ?_ | apply Below.drew | apply Ba.below_drewN | refine Below.alloc ?_ (by first | exact Nat.le_refl _ | omega | (simp; done) | (simp; omega)) _ | refine Below.setCell ?_ (by first | exact Nat.le_refl _ | omega | (simp; done) | (simp; omega)) _))
theorem Re_x (a b i o : Int) (w : World) (a0 : 0 ≤ a) (a1 : a ≤ 255) (b0 : 0 ≤ b) (b1 : b ≤ 255) (ha : va a = true) (hb : va b = true) (hi : i < o) (h0 : 0 ≤ i) (h1 : o ≤ 5184000) (x y : Int × Int) (hx : convR a b i 2 = x) (hy : convR a b o 2 = y) (e1 : (x.2 != 0) = true) :
    Calls Try.prog 14 #[.int .u8 a, .int .u8 b, .agg #[.int .i64 i, .int .i64 o], .int .u8 1] w fun e w' => e = .returned (ret3 (0, 0, x.2)) ∧ Below w.heap.size w w' := by
  have HX := Lib.hid hx
  have HY := Lib.hid hy
  clear hx hy
  have HS := Lib.hid (RS.of w i o)
  have t7 : decide (o ≤ i) = false := decide_eq_false (by omega)
  have t8 : decide (i < 0) = false := decide_eq_false (by omega)
  have t9 : decide (5184000 < o) = false := decide_eq_false (by omega)
  go_enter Try.func14, Try.ntmps14
  go_wp2_with (first | (go_at_call 20; refine (Valid_ok _ _ (by omega) (by omega)).mono ?_; rintro e w1 ⟨rfl, hb1⟩; obtain ⟨c0, c1, d0, d1, f0, f1, y0, y1⟩ := HS.out.step hb1; have HS := Lib.hid (HS.out.step hb1); have hz1 := hb1.size; (try simp at hz1)) | ((go_at_call 12; refine (Convert_any _ _ _ _ _ (by omega) (by omega) (by omega) (by omega) (by omega) (by omega)).mono ?_; rintro e w1 ⟨rfl, hb1⟩; obtain ⟨c0, c1, d0, d1, f0, f1, y0, y1⟩ := HS.out.step hb1; have HS := Lib.hid (HS.out.step hb1); have hz1 := hb1.size; (try simp at hz1)); first | rw [HX.out] | rw [HY.out]) | go_in)
  refine bodyPost_ret (v := ret3 (0, 0, x.2)) (by simp [results, Try.results14, go_sem, ret3, *]) rfl ⟨rfl, ?_⟩
  (repeat (first | exact Below.refl _ _ | assumption | refine Ba.below_step (by assumption) (by first | exact Nat.le_refl _ | omega | (simp; done) | (simp; omega)) ?_ | apply Below.drew | apply Ba.below_drewN | refine Below.alloc ?_ (by first | exact Nat.le_refl _ | omega | (simp; done) | (simp; omega)) _ | refine Below.setCell ?_ (by first | exact Nat.le_refl _ | omega | (simp; done) | (simp; omega)) _))
theorem Re_y (a b i o : Int) (w : World) (a0 : 0 ≤ a) (a1 : a ≤ 255) (b0 : 0 ≤ b) (b1 : b ≤ 255) (ha : va a = true) (hb : va b = true) (hi : i < o) (h0 : 0 ≤ i) (h1 : o ≤ 5184000) (x y : Int × Int) (hx : convR a b i 2 = x) (hy : convR a b o 2 = y) (e1 : (x.2 != 0) = false) (e2 : (y.2 != 0) = true) :
    Calls Try.prog 14 #[.int .u8 a, .int .u8 b, .agg #[.int .i64 i, .int .i64 o], .int .u8 1] w fun e w' => e = .returned (ret3 (0, 0, y.2)) ∧ Below w.heap.size w w' := by
  have HX := Lib.hid hx
  have HY := Lib.hid hy
  clear hx hy
  have HS := Lib.hid (RS.of w i o)
  have t10 : decide (o ≤ i) = false := decide_eq_false (by omega)
  have t11 : decide (i < 0) = false := decide_eq_false (by omega)
  have t12 : decide (5184000 < o) = false := decide_eq_false (by omega)
  go_enter Try.func14, Try.ntmps14
  go_wp2_with (first | (go_at_call 20; refine (Valid_ok _ _ (by omega) (by omega)).mono ?_; rintro e w1 ⟨rfl, hb1⟩; obtain ⟨c0, c1, d0, d1, f0, f1, y0, y1⟩ := HS.out.step hb1; have HS := Lib.hid (HS.out.step hb1); have hz1 := hb1.size; (try simp at hz1)) | ((go_at_call 12; refine (Convert_any _ _ _ _ _ (by omega) (by omega) (by omega) (by omega) (by omega) (by omega)).mono ?_; rintro e w1 ⟨rfl, hb1⟩; obtain ⟨c0, c1, d0, d1, f0, f1, y0, y1⟩ := HS.out.step hb1; have HS := Lib.hid (HS.out.step hb1); have hz1 := hb1.size; (try simp at hz1)); first | rw [HX.out] | rw [HY.out]) | go_in)
  refine bodyPost_ret (v := ret3 (0, 0, y.2)) (by simp [results, Try.results14, go_sem, ret3, *]) rfl ⟨rfl, ?_⟩
  (repeat (first | exact Below.refl _ _ | assumption | refine Ba.below_step (by assumption) (by first | exact Nat.le_refl _ | omega | (simp; done) | (simp; omega)) ?_ | apply Below.drew | apply Ba.below_drewN | refine Below.alloc ?_ (by first | exact Nat.le_refl _ | omega | (simp; done) | (simp; omega)) _ | refine Below.setCell ?_ (by first | exact Nat.le_refl _ | omega | (simp; done) | (simp; omega)) _))
theorem Re_ma (a b i o : Int) (w : World) (a0 : 0 ≤ a) (a1 : a ≤ 255) (b0 : 0 ≤ b) (b1 : b ≤ 255) (ha : va a = true) (hb : va b = true) (hi : i < o) (h0 : 0 ≤ i) (h1 : o ≤ 5184000) (x y : Int × Int) (hx : convR a b i 2 = x) (hy : convR a b o 2 = y) (e1 : (x.2 != 0) = false) (e2 : (y.2 != 0) = false) (xb : 0 ≤ x.1) (xc : x.1 ≤ 5184000) (yb : 0 ≤ y.1) (yc : y.1 ≤ 5184000) (hm : y.1 < x.1 + 1) (hh : 5184000 < x.1 + 1) :
    Calls Try.prog 14 #[.int .u8 a, .int .u8 b, .agg #[.int .i64 i, .int .i64 o], .int .u8 1] w fun e w' => e = .returned (ret3 (0, 0, 2)) ∧ Below w.heap.size w w' := by
  have HX := Lib.hid hx
  have HY := Lib.hid hy
  clear hx hy
  have HS := Lib.hid (RS.of w i o)
  have t13 : decide (o ≤ i) = false := decide_eq_false (by omega)
  have t14 : decide (i < 0) = false := decide_eq_false (by omega)
  have t15 : decide (5184000 < o) = false := decide_eq_false (by omega)
  have t16 : decide (5184000 < x.1 + 1) = true := decide_eq_true (by omega)
  go_enter Try.func14, Try.ntmps14
  go_wp2_with (first | (go_at_call 20; refine (Valid_ok _ _ (by omega) (by omega)).mono ?_; rintro e w1 ⟨rfl, hb1⟩; obtain ⟨c0, c1, d0, d1, f0, f1, y0, y1⟩ := HS.out.step hb1; have HS := Lib.hid (HS.out.step hb1); have hz1 := hb1.size; (try simp at hz1)) | ((go_at_call 12; refine (Convert_any _ _ _ _ _ (by omega) (by omega) (by omega) (by omega) (by omega) (by omega)).mono ?_; rintro e w1 ⟨rfl, hb1⟩; obtain ⟨c0, c1, d0, d1, f0, f1, y0, y1⟩ := HS.out.step hb1; have HS := Lib.hid (HS.out.step hb1); have hz1 := hb1.size; (try simp at hz1)); first | rw [HX.out] | rw [HY.out]) | go_in)
  refine bodyPost_ret (v := ret3 (0, 0, 2)) (by simp [results, Try.results14, go_sem, ret3, *]) rfl ⟨rfl, ?_⟩
  (repeat (first | exact Below.refl _ _ | assumption | refine Ba.below_step (by assumption) (by first | exact Nat.le_refl _ | omega | (simp; done) | (simp; omega)) ?_ | apply Below.drew | apply Ba.below_drewN | refine Below.alloc ?_ (by first | exact Nat.le_refl _ | omega | (simp; done) | (simp; omega)) _ | refine Below.setCell ?_ (by first | exact Nat.le_refl _ | omega | (simp; done) | (simp; omega)) _))
theorem Re_fa (a b i o : Int) (w : World) (a0 : 0 ≤ a) (a1 : a ≤ 255) (b0 : 0 ≤ b) (b1 : b ≤ 255) (ha : va a = true) (hb : va b = true) (hi : i < o) (h0 : 0 ≤ i) (h1 : o ≤ 5184000) (x y : Int × Int) (hx : convR a b i 2 = x) (hy : convR a b o 2 = y) (e1 : (x.2 != 0) = false) (e2 : (y.2 != 0) = false) (xb : 0 ≤ x.1) (xc : x.1 ≤ 5184000) (yb : 0 ≤ y.1) (yc : y.1 ≤ 5184000) (hm : y.1 < x.1 + 1) (hh : x.1 + 1 ≤ 5184000) :
    Calls Try.prog 14 #[.int .u8 a, .int .u8 b, .agg #[.int .i64 i, .int .i64 o], .int .u8 1] w fun e w' => e = .returned (ret3 (x.1, x.1 + 1, 0)) ∧ Below w.heap.size w w' := by
  have HX := Lib.hid hx
  have HY := Lib.hid hy
  clear hx hy
  have HS := Lib.hid (RS.of w i o)
  have t17 : decide (o ≤ i) = false := decide_eq_false (by omega)
  have t18 : decide (i < 0) = false := decide_eq_false (by omega)
  have t19 : decide (5184000 < o) = false := decide_eq_false (by omega)
  have t20 : decide (5184000 < x.1 + 1) = false := decide_eq_false (by omega)
  go_enter Try.func14, Try.ntmps14
  go_wp2_with (first | (go_at_call 20; refine (Valid_ok _ _ (by omega) (by omega)).mono ?_; rintro e w1 ⟨rfl, hb1⟩; obtain ⟨c0, c1, d0, d1, f0, f1, y0, y1⟩ := HS.out.step hb1; have HS := Lib.hid (HS.out.step hb1); have hz1 := hb1.size; (try simp at hz1)) | ((go_at_call 12; refine (Convert_any _ _ _ _ _ (by omega) (by omega) (by omega) (by omega) (by omega) (by omega)).mono ?_; rintro e w1 ⟨rfl, hb1⟩; obtain ⟨c0, c1, d0, d1, f0, f1, y0, y1⟩ := HS.out.step hb1; have HS := Lib.hid (HS.out.step hb1); have hz1 := hb1.size; (try simp at hz1)); first | rw [HX.out] | rw [HY.out]) | go_in)
  refine bodyPost_ret (v := ret3 (x.1, x.1 + 1, 0)) (by simp [results, Try.results14, go_sem, ret3, *]) rfl ⟨rfl, ?_⟩
  (repeat (first | exact Below.refl _ _ | assumption | refine Ba.below_step (by assumption) (by first | exact Nat.le_refl _ | omega | (simp; done) | (simp; omega)) ?_ | apply Below.drew | apply Ba.below_drewN | refine Below.alloc ?_ (by first | exact Nat.le_refl _ | omega | (simp; done) | (simp; omega)) _ | refine Below.setCell ?_ (by first | exact Nat.le_refl _ | omega | (simp; done) | (simp; omega)) _))
theorem Re_fb (a b i o : Int) (w : World) (a0 : 0 ≤ a) (a1 : a ≤ 255) (b0 : 0 ≤ b) (b1 : b ≤ 255) (ha : va a = true) (hb : va b = true) (hi : i < o) (h0 : 0 ≤ i) (h1 : o ≤ 5184000) (x y : Int × Int) (hx : convR a b i 2 = x) (hy : convR a b o 2 = y) (e1 : (x.2 != 0) = false) (e2 : (y.2 != 0) = false) (xb : 0 ≤ x.1) (xc : x.1 ≤ 5184000) (yb : 0 ≤ y.1) (yc : y.1 ≤ 5184000) (hm : x.1 + 1 ≤ y.1) (hn : ¬ y.1 < x.1 + 1) :
    Calls Try.prog 14 #[.int .u8 a, .int .u8 b, .agg #[.int .i64 i, .int .i64 o], .int .u8 1] w fun e w' => e = .returned (ret3 (x.1, y.1, 0)) ∧ Below w.heap.size w w' := by
  have HX := Lib.hid hx
  have HY := Lib.hid hy
  clear hx hy
  have HS := Lib.hid (RS.of w i o)
  have t21 : decide (o ≤ i) = false := decide_eq_false (by omega)
  have t22 : decide (i < 0) = false := decide_eq_false (by omega)
  have t23 : decide (5184000 < o) = false := decide_eq_false (by omega)
  have t24 : decide (5184000 < y.1) = false := decide_eq_false (by omega)
  go_enter Try.func14, Try.ntmps14
  go_wp2_with (first | (go_at_call 20; refine (Valid_ok _ _ (by omega) (by omega)).mono ?_; rintro e w1 ⟨rfl, hb1⟩; obtain ⟨c0, c1, d0, d1, f0, f1, y0, y1⟩ := HS.out.step hb1; have HS := Lib.hid (HS.out.step hb1); have hz1 := hb1.size; (try simp at hz1)) | ((go_at_call 12; refine (Convert_any _ _ _ _ _ (by omega) (by omega) (by omega) (by omega) (by omega) (by omega)).mono ?_; rintro e w1 ⟨rfl, hb1⟩; obtain ⟨c0, c1, d0, d1, f0, f1, y0, y1⟩ := HS.out.step hb1; have HS := Lib.hid (HS.out.step hb1); have hz1 := hb1.size; (try simp at hz1)); first | rw [HX.out] | rw [HY.out]) | go_in)
  refine bodyPost_ret (v := ret3 (x.1, y.1, 0)) (by simp [results, Try.results14, go_sem, ret3, *]) rfl ⟨rfl, ?_⟩
  (repeat (first | exact Below.refl _ _ | assumption | refine Ba.below_step (by assumption) (by first | exact Nat.le_refl _ | omega | (simp; done) | (simp; omega)) ?_ | apply Below.drew | apply Ba.below_drewN | refine Below.alloc ?_ (by first | exact Nat.le_refl _ | omega | (simp; done) | (simp; omega)) _ | refine Below.setCell ?_ (by first | exact Nat.le_refl _ | omega | (simp; done) | (simp; omega)) _))

theorem Re_any (a b i o : Int) (w : World) (a0 : 0 ≤ a) (a1 : a ≤ 255) (b0 : 0 ≤ b) (b1 : b ≤ 255) :
    Calls Try.prog 14 #[.int .u8 a, .int .u8 b, .agg #[.int .i64 i, .int .i64 o], .int .u8 1] w fun e w' => e = .returned (ret3 (reR a b i o)) ∧ Below w.heap.size w w' := by
  rcases va_cases a with ha | ha
  · rcases va_cases b with hb | hb
    · by_cases c1 : o ≤ i
      · have : reR a b i o = (0, 0, 1) := by unfold reR; rw [if_neg (by simp [ha, hb]), if_pos c1]
        rw [this]; exact Re_g a b i o w a0 a1 b0 b1 ha hb c1
      by_cases c2 : i < 0
      · have : reR a b i o = (0, 0, 2) := by unfold reR; rw [if_neg (by simp [ha, hb]), if_neg c1, if_pos (.inl c2)]
        rw [this]; exact Re_r1 a b i o w a0 a1 b0 b1 ha hb (by omega) c2
      by_cases c3 : 5184000 < o
      · have : reR a b i o = (0, 0, 2) := by unfold reR; rw [if_neg (by simp [ha, hb]), if_neg c1, if_pos (.inr c3)]
        rw [this]; exact Re_r2 a b i o w a0 a1 b0 b1 ha hb (by omega) (by omega) c3
      have xb := convR_bd a b i 2
      have yb := convR_bd a b o 2
      by_cases c4 : (convR a b i 2).2 = 0
      · by_cases c5 : (convR a b o 2).2 = 0
        · have base : reR a b i o = if 5184000 < mx2 (convR a b o 2).1 (convR a b i 2).1 then (0, 0, 2) else ((convR a b i 2).1, mx2 (convR a b o 2).1 (convR a b i 2).1, 0) := by
            unfold reR; rw [if_neg (by simp [ha, hb]), if_neg c1, if_neg (by omega), if_neg (by simpa using c4), if_neg (by simpa using c5)]
          by_cases c6 : (convR a b o 2).1 < (convR a b i 2).1 + 1
          · have hm : mx2 (convR a b o 2).1 (convR a b i 2).1 = (convR a b i 2).1 + 1 := by unfold mx2; rw [if_pos c6]
            rw [hm] at base
            by_cases c7 : 5184000 < (convR a b i 2).1 + 1
            · rw [base, if_pos c7]; exact Re_ma a b i o w a0 a1 b0 b1 ha hb (by omega) (by omega) (by omega) _ _ rfl rfl (by simpa using c4) (by simpa using c5) xb.1 xb.2 yb.1 yb.2 c6 c7
            · rw [base, if_neg c7]; exact Re_fa a b i o w a0 a1 b0 b1 ha hb (by omega) (by omega) (by omega) _ _ rfl rfl (by simpa using c4) (by simpa using c5) xb.1 xb.2 yb.1 yb.2 c6 (by omega)
          · have hm : mx2 (convR a b o 2).1 (convR a b i 2).1 = (convR a b o 2).1 := by unfold mx2; rw [if_neg c6]
            rw [hm, if_neg (by omega)] at base
            rw [base]; exact Re_fb a b i o w a0 a1 b0 b1 ha hb (by omega) (by omega) (by omega) _ _ rfl rfl (by simpa using c4) (by simpa using c5) xb.1 xb.2 yb.1 yb.2 (by omega) c6
        · have base : reR a b i o = (0, 0, (convR a b o 2).2) := by
            unfold reR; rw [if_neg (by simp [ha, hb]), if_neg c1, if_neg (by omega), if_neg (by simpa using c4), if_pos (by simpa using c5)]
          rw [base]; exact Re_y a b i o w a0 a1 b0 b1 ha hb (by omega) (by omega) (by omega) _ _ rfl rfl (by simpa using c4) (by simpa using c5)
      · have base : reR a b i o = (0, 0, (convR a b i 2).2) := by
          unfold reR; rw [if_neg (by simp [ha, hb]), if_neg c1, if_neg (by omega), if_pos (by simpa using c4)]
        rw [base]; exact Re_x a b i o w a0 a1 b0 b1 ha hb (by omega) (by omega) (by omega) _ _ rfl rfl (by simpa using c4)
    · have : reR a b i o = (0, 0, 3) := by unfold reR; rw [if_pos (.inr hb)]
      rw [this]; exact Re_t2 a b i o w a0 a1 b0 b1 ha hb
  · have : reR a b i o = (0, 0, 3) := by unfold reR; rw [if_pos (.inl ha)]
    rw [this]; exact Re_t1 a b i o w a0 a1 b0 b1 ha
end Go.Proofs.Ythmolfgjligaoaa.Tb
