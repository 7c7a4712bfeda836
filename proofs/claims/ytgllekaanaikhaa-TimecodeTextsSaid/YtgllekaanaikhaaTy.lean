/- Text of the reference: two digits at a time, put together. -/
import Derived.Test.YtgllekaanaikhaaChecked
import Derived.Test.YtgllekaanaikhaaBase
import Derived.Test.YtgllekaanaikhaaTx
import Derived.Test.YtgllekaanaikhaaExt
namespace Go.Proofs.Ytgllekaanaikhaa.Tb
open Go.RowKit Ba
set_option linter.unusedVariables false
set_option linter.unusedSimpArgs false

theorem two_ok (n : Int) (w : World) (n0 : 0 ≤ n) (n1 : n ≤ 99) :
    Calls Try.prog 50 #[.int .i64 n] w fun e w' => e = .returned (.string (strOfNums [48 + n / 10, 48 + n % 10])) ∧ Below w.heap.size w w' := by
  have hc := run_convert_bytes_arg (P := Try.prog) (w.alloc (.cells #[.int .u8 (48 + n / 10), .int .u8 (48 + n % 10)] 5)) 52 5 Try.underlying52 Try.underlying5 w.heap.size 0 2 2 [48 + n / 10, 48 + n % 10] rfl (by
    intro i hi
    match i, hi with
    | 0, _ => simp
    | 1, _ => simp) 9 Try.underlying9
  go_enter Try.func50, Try.ntmps50
  go_wp2_with fail
  go_ret
  exact ⟨rfl, by (repeat (first | exact Below.refl _ _ | assumption | refine Ba.below_step (by assumption) (by first | exact Nat.le_refl _ | omega | (simp; done) | (simp; omega)) ?_ | apply Below.drew | apply Ba.below_drewN | refine Below.alloc ?_ (by first | exact Nat.le_refl _ | omega | (simp; done) | (simp; omega)) _ | refine Below.setCell ?_ (by first | exact Nat.le_refl _ | omega | (simp; done) | (simp; omega)) _))⟩
theorem str_app (xs ys : List Int) : strOfNums xs ++ strOfNums ys = strOfNums (xs ++ ys) := by
  apply ByteArray.ext
  simp [strOfNums]
theorem add_ok (xs ys zs : List Int) (hl : xs.length + ys.length ≤ 100) (hz : xs ++ ys = zs) (w : World) : (Op.stringOp .add (strOfNums xs) (strOfNums ys)).run Try.prog w = .ok (.string (strOfNums zs)) w := by
  rw [run_string_add_sum w _ _ (by rw [strOfNums_size, strOfNums_size]; omega), str_app, hz]
theorem add_58 (xs zs : List Int) (hl : xs.length ≤ 90) (hz : xs ++ [58] = zs) (w : World) : (Op.stringOp .add (strOfNums xs) ⟨#[58]⟩).run Try.prog w = .ok (.string (strOfNums zs)) w := add_ok xs [58] zs (by simp; omega) hz w
theorem add_59 (xs zs : List Int) (hl : xs.length ≤ 90) (hz : xs ++ [59] = zs) (w : World) : (Op.stringOp .add (strOfNums xs) ⟨#[59]⟩).run Try.prog w = .ok (.string (strOfNums zs)) w := add_ok xs [59] zs (by simp; omega) hz w
theorem RText_e (r h m s f : Int) (d : Bool) (w : World) (r0 : 0 ≤ r) (r1 : r ≤ 255) (c : Int) (hx : (c != 0) = true) (H : Hid (chk r h m s f d = c)) :
    Calls Try.prog 30 #[.int .u8 r, .agg #[.int .i64 h, .int .i64 m, .int .i64 s, .int .i64 f, .bool d]] w fun e' w' => e' = .returned (.tuple #[.string ⟨#[]⟩, .int .i64 c]) ∧ Below w.heap.size w w' := by
  go_enter Try.func30, Try.ntmps30
  go_wp2_with (first | (((go_at_call 29; refine (RCheck_any _ _ _ _ _ _ _ r0 r1).mono ?_; rintro e w1 ⟨rfl, hb1⟩; obtain ⟨hc1, hf1, hz1⟩ := bcell hb1; (try simp at hz1))); rw [H.out]) | fail)
  go_ret2
  exact ⟨rfl, by (repeat (first | exact Below.refl _ _ | assumption | refine Ba.below_step (by assumption) (by first | exact Nat.le_refl _ | omega | (simp; done) | (simp; omega)) ?_ | apply Below.drew | apply Ba.below_drewN | refine Below.alloc ?_ (by first | exact Nat.le_refl _ | omega | (simp; done) | (simp; omega)) _ | refine Below.setCell ?_ (by first | exact Nat.le_refl _ | omega | (simp; done) | (simp; omega)) _))⟩
set_option maxHeartbeats 1000000 in
theorem RText_false (r h m s f : Int) (w : World) (r0 : 0 ≤ r) (r1 : r ≤ 255) (H : Hid (chk r h m s f false = 0)) (h0 : 0 ≤ h) (h1 : h ≤ 99) (m0 : 0 ≤ m) (m1 : m ≤ 99) (s0 : 0 ≤ s) (s1 : s ≤ 99) (f0 : 0 ≤ f) (f1 : f ≤ 99) :
    Calls Try.prog 30 #[.int .u8 r, .agg #[.int .i64 h, .int .i64 m, .int .i64 s, .int .i64 f, .bool false]] w fun e' w' => e' = .returned (.tuple #[.string (txt h m s f false), .int .i64 0]) ∧ Below w.heap.size w w' := by
  have u1 := add_58 [48 + h / 10, 48 + h % 10] [48 + h / 10, 48 + h % 10, 58] (by simp) rfl
  have u2 := add_ok [48 + h / 10, 48 + h % 10, 58] [48 + m / 10, 48 + m % 10] [48 + h / 10, 48 + h % 10, 58, 48 + m / 10, 48 + m % 10] (by simp) rfl
  have u3 := add_58 [48 + h / 10, 48 + h % 10, 58, 48 + m / 10, 48 + m % 10] [48 + h / 10, 48 + h % 10, 58, 48 + m / 10, 48 + m % 10, 58] (by simp) rfl
  have u4 := add_ok [48 + h / 10, 48 + h % 10, 58, 48 + m / 10, 48 + m % 10, 58] [48 + s / 10, 48 + s % 10] [48 + h / 10, 48 + h % 10, 58, 48 + m / 10, 48 + m % 10, 58, 48 + s / 10, 48 + s % 10] (by simp) rfl
  have u5 := add_58 [48 + h / 10, 48 + h % 10, 58, 48 + m / 10, 48 + m % 10, 58, 48 + s / 10, 48 + s % 10] [48 + h / 10, 48 + h % 10, 58, 48 + m / 10, 48 + m % 10, 58, 48 + s / 10, 48 + s % 10, 58] (by simp) rfl
  have u6 := add_ok [48 + h / 10, 48 + h % 10, 58, 48 + m / 10, 48 + m % 10, 58, 48 + s / 10, 48 + s % 10, 58] [48 + f / 10, 48 + f % 10] [48 + h / 10, 48 + h % 10, 58, 48 + m / 10, 48 + m % 10, 58, 48 + s / 10, 48 + s % 10, 58, 48 + f / 10, 48 + f % 10] (by simp) rfl
  go_enter Try.func30, Try.ntmps30
  go_wp2_with (first | (((go_at_call 29; refine (RCheck_any _ _ _ _ _ _ _ r0 r1).mono ?_; rintro e w1 ⟨rfl, hb1⟩; obtain ⟨hc1, hf1, hz1⟩ := bcell hb1; (try simp at hz1))); rw [H.out]) | fail)
  have c0 : w1.cell? ⟨w.heap.size, 0, none⟩ = some (.int .i64 h) := by rw [hc1 _ _ (by simp)]; simp
  have c1 : w1.cell? ⟨w.heap.size, 1, none⟩ = some (.int .i64 m) := by rw [hc1 _ _ (by simp)]; simp
  have c2 : w1.cell? ⟨w.heap.size, 2, none⟩ = some (.int .i64 s) := by rw [hc1 _ _ (by simp)]; simp
  have c3 : w1.cell? ⟨w.heap.size, 3, none⟩ = some (.int .i64 f) := by rw [hc1 _ _ (by simp)]; simp
  have y10 : w.heap.size < w1.heap.size := by omega
  clear hc1 hf1 hz1
  haveI : Nonempty (Ext w1.heap.size w1) := Ext.ne _ _
  have g0 := Ext.cell (B := w1.heap.size) w.heap.size 0 _ y10 c0
  have g1 := Ext.cell (B := w1.heap.size) w.heap.size 1 _ y10 c1
  have g2 := Ext.cell (B := w1.heap.size) w.heap.size 2 _ y10 c2
  have g3 := Ext.cell (B := w1.heap.size) w.heap.size 3 _ y10 c3
  refine region_ext w1.heap.size (by kernel_rfl) (by kernel_rfl) ?_
  repeat (first | go_big_quiet_step (first | (go_at_call 50; refine ext_call (Nat.le_refl _) (two_ok _ _ (by assumption) (by assumption)))) | quiet_step (first | (go_at_call 50; refine ext_call (Nat.le_refl _) (two_ok _ _ (by assumption) (by assumption)))))
  refine ext_nil ?_
  intro w2 hb2
  clear g0 g1 g2 g3 this
  go_wp2_with fail
  go_ret2
  exact ⟨rfl, by (repeat (first | exact Below.refl _ _ | assumption | refine Ba.below_step (by assumption) (by first | exact Nat.le_refl _ | omega | (simp; done) | (simp; omega)) ?_ | apply Below.drew | apply Ba.below_drewN | refine Below.alloc ?_ (by first | exact Nat.le_refl _ | omega | (simp; done) | (simp; omega)) _ | refine Below.setCell ?_ (by first | exact Nat.le_refl _ | omega | (simp; done) | (simp; omega)) _))⟩

set_option maxHeartbeats 1000000 in
theorem RText_true (r h m s f : Int) (w : World) (r0 : 0 ≤ r) (r1 : r ≤ 255) (H : Hid (chk r h m s f true = 0)) (h0 : 0 ≤ h) (h1 : h ≤ 99) (m0 : 0 ≤ m) (m1 : m ≤ 99) (s0 : 0 ≤ s) (s1 : s ≤ 99) (f0 : 0 ≤ f) (f1 : f ≤ 99) :
    Calls Try.prog 30 #[.int .u8 r, .agg #[.int .i64 h, .int .i64 m, .int .i64 s, .int .i64 f, .bool true]] w fun e' w' => e' = .returned (.tuple #[.string (txt h m s f true), .int .i64 0]) ∧ Below w.heap.size w w' := by
  have u1 := add_58 [48 + h / 10, 48 + h % 10] [48 + h / 10, 48 + h % 10, 58] (by simp) rfl
  have u2 := add_ok [48 + h / 10, 48 + h % 10, 58] [48 + m / 10, 48 + m % 10] [48 + h / 10, 48 + h % 10, 58, 48 + m / 10, 48 + m % 10] (by simp) rfl
  have u3 := add_58 [48 + h / 10, 48 + h % 10, 58, 48 + m / 10, 48 + m % 10] [48 + h / 10, 48 + h % 10, 58, 48 + m / 10, 48 + m % 10, 58] (by simp) rfl
  have u4 := add_ok [48 + h / 10, 48 + h % 10, 58, 48 + m / 10, 48 + m % 10, 58] [48 + s / 10, 48 + s % 10] [48 + h / 10, 48 + h % 10, 58, 48 + m / 10, 48 + m % 10, 58, 48 + s / 10, 48 + s % 10] (by simp) rfl
  have u5 := add_59 [48 + h / 10, 48 + h % 10, 58, 48 + m / 10, 48 + m % 10, 58, 48 + s / 10, 48 + s % 10] [48 + h / 10, 48 + h % 10, 58, 48 + m / 10, 48 + m % 10, 58, 48 + s / 10, 48 + s % 10, 59] (by simp) rfl
  have u6 := add_ok [48 + h / 10, 48 + h % 10, 58, 48 + m / 10, 48 + m % 10, 58, 48 + s / 10, 48 + s % 10, 59] [48 + f / 10, 48 + f % 10] [48 + h / 10, 48 + h % 10, 58, 48 + m / 10, 48 + m % 10, 58, 48 + s / 10, 48 + s % 10, 59, 48 + f / 10, 48 + f % 10] (by simp) rfl
  go_enter Try.func30, Try.ntmps30
  go_wp2_with (first | (((go_at_call 29; refine (RCheck_any _ _ _ _ _ _ _ r0 r1).mono ?_; rintro e w1 ⟨rfl, hb1⟩; obtain ⟨hc1, hf1, hz1⟩ := bcell hb1; (try simp at hz1))); rw [H.out]) | fail)
  have c0 : w1.cell? ⟨w.heap.size, 0, none⟩ = some (.int .i64 h) := by rw [hc1 _ _ (by simp)]; simp
  have c1 : w1.cell? ⟨w.heap.size, 1, none⟩ = some (.int .i64 m) := by rw [hc1 _ _ (by simp)]; simp
  have c2 : w1.cell? ⟨w.heap.size, 2, none⟩ = some (.int .i64 s) := by rw [hc1 _ _ (by simp)]; simp
  have c3 : w1.cell? ⟨w.heap.size, 3, none⟩ = some (.int .i64 f) := by rw [hc1 _ _ (by simp)]; simp
  have y10 : w.heap.size < w1.heap.size := by omega
  clear hc1 hf1 hz1
  haveI : Nonempty (Ext w1.heap.size w1) := Ext.ne _ _
  have g0 := Ext.cell (B := w1.heap.size) w.heap.size 0 _ y10 c0
  have g1 := Ext.cell (B := w1.heap.size) w.heap.size 1 _ y10 c1
  have g2 := Ext.cell (B := w1.heap.size) w.heap.size 2 _ y10 c2
  have g3 := Ext.cell (B := w1.heap.size) w.heap.size 3 _ y10 c3
  refine region_ext w1.heap.size (by kernel_rfl) (by kernel_rfl) ?_
  repeat (first | go_big_quiet_step (first | (go_at_call 50; refine ext_call (Nat.le_refl _) (two_ok _ _ (by assumption) (by assumption)))) | quiet_step (first | (go_at_call 50; refine ext_call (Nat.le_refl _) (two_ok _ _ (by assumption) (by assumption)))))
  refine ext_nil ?_
  intro w2 hb2
  clear g0 g1 g2 g3 this
  go_wp2_with fail
  go_ret2
  exact ⟨rfl, by (repeat (first | exact Below.refl _ _ | assumption | refine Ba.below_step (by assumption) (by first | exact Nat.le_refl _ | omega | (simp; done) | (simp; omega)) ?_ | apply Below.drew | apply Ba.below_drewN | refine Below.alloc ?_ (by first | exact Nat.le_refl _ | omega | (simp; done) | (simp; omega)) _ | refine Below.setCell ?_ (by first | exact Nat.le_refl _ | omega | (simp; done) | (simp; omega)) _))⟩

theorem RText_any (r h m s f : Int) (d : Bool) (w : World) (r0 : 0 ≤ r) (r1 : r ≤ 255) :
    Calls Try.prog 30 #[.int .u8 r, .agg #[.int .i64 h, .int .i64 m, .int .i64 s, .int .i64 f, .bool d]] w fun e' w' => e' = .returned (.tuple #[.string (txtR r h m s f d).1, .int .i64 (txtR r h m s f d).2]) ∧ Below w.heap.size w w' := by
  by_cases hc : chk r h m s f d = 0
  · rw [txt_0 r h m s f d hc]
    obtain ⟨h0, h1, m0, m1, s0, s1, f0, f1⟩ := chk_99 r h m s f d hc
    cases d
    · exact RText_false r h m s f w r0 r1 (Lib.hid hc) h0 h1 m0 m1 s0 s1 f0 f1
    · exact RText_true r h m s f w r0 r1 (Lib.hid hc) h0 h1 m0 m1 s0 s1 f0 f1
  · rw [txt_e r h m s f d hc]
    exact RText_e r h m s f d w r0 r1 _ (by simpa using hc) (Lib.hid rfl)
end Go.Proofs.Ytgllekaanaikhaa.Tb
