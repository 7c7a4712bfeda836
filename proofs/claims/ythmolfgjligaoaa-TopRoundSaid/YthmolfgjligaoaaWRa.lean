/- The table of the seven rates, in integers, and the contracts of the functions that read it (timebase) and of their references. No condition but that a rate is a byte. -/
import Derived.Test.YthmolfgjligaoaaChecked
import Derived.Test.YthmolfgjligaoaaBase
import Derived.Test.YthmolfgjligaoaaTim
import Derived.Test.YthmolfgjligaoaaQuo
import Derived.Test.YthmolfgjligaoaaTcv
import Derived.Test.YthmolfgjligaoaaTpl
import Derived.Test.YthmolfgjligaoaaTsp
import Derived.Test.YthmolfgjligaoaaTrd
import Derived.Test.YthmolfgjligaoaaExt
import Derived.WalkLawsBesides
namespace Go.Proofs.Ythmolfgjligaoaa.Tb
open Go.RowKit Ba Qu
set_option linter.unusedVariables false
set_option linter.unusedSimpArgs false

theorem Rnd_gt_facts (a0_0 a0_1 a1 a2 : Int) (hlh : a2 ≤ a1) :
    (((convR a0_0 a0_1 a2 2).2 != 0) = true ∨ ((convR a0_0 a0_1 a2 2).2 != 0) = false ∧ ((convR a0_0 a0_1 a1 2).2 != 0) = true ∨ ((convR a0_0 a0_1 a2 2).2 != 0) = false ∧ ((convR a0_0 a0_1 a1 2).2 != 0) = false ∧ ((convR a0_0 a0_1 a2 1).2 != 0) = true ∨ ((convR a0_0 a0_1 a2 2).2 != 0) = false ∧ ((convR a0_0 a0_1 a1 2).2 != 0) = false ∧ ((convR a0_0 a0_1 a2 1).2 != 0) = false ∧ ((convR a0_0 a0_1 a2 3).2 != 0) = true ∨ ((convR a0_0 a0_1 a2 2).2 != 0) = false ∧ ((convR a0_0 a0_1 a1 2).2 != 0) = false ∧ ((convR a0_0 a0_1 a2 1).2 != 0) = false ∧ ((convR a0_0 a0_1 a2 3).2 != 0) = false ∧ decide ((convR a0_0 a0_1 a1 2).1 < (convR a0_0 a0_1 a2 2).1) = false ∧ decide ((convR a0_0 a0_1 a2 2).1 < (convR a0_0 a0_1 a2 1).1) = false ∧ decide ((convR a0_0 a0_1 a2 3).1 < (convR a0_0 a0_1 a2 2).1) = false ∧ decide ((convR a0_0 a0_1 a2 1).1 + 1 < (convR a0_0 a0_1 a2 3).1) = false) ∧ (((convR a0_0 a0_1 a2 2).2 != 0) = false → (decide (tk a0_0 < tk a0_1) = false → ((convR a0_1 a0_0 (convR a0_0 a0_1 a2 2).1 2).2 != 0) = true ∨ ((convR a0_1 a0_0 (convR a0_0 a0_1 a2 2).1 2).2 != 0) = false ∧ ((convR a0_1 a0_0 (convR a0_0 a0_1 a2 2).1 2).1 == a2) = true)) ∧ (((convR a0_0 a0_1 a2 2).2 != 0) = false → (decide (tk a0_0 < tk a0_1) = false → ((reR a0_0 a0_1 a2 a1).2.2 != 0) = true ∨ ((reR a0_0 a0_1 a2 a1).2.2 != 0) = false ∧ ((reR a0_0 a0_1 a2 a1).1 == (convR a0_0 a0_1 a2 2).1) = true ∧ (((reR a0_1 a0_0 (reR a0_0 a0_1 a2 a1).1 (reR a0_0 a0_1 a2 a1).2.1).2.2 != 0) = true ∨ ((reR a0_1 a0_0 (reR a0_0 a0_1 a2 a1).1 (reR a0_0 a0_1 a2 a1).2.1).2.2 != 0) = false ∧ ((reR a0_1 a0_0 (reR a0_0 a0_1 a2 a1).1 (reR a0_0 a0_1 a2 a1).2.1).1 == a2) = true ∧ ((reR a0_1 a0_0 (reR a0_0 a0_1 a2 a1).1 (reR a0_0 a0_1 a2 a1).2.1).2.1 == a1) = true))) := by
  refine ⟨?_, fun hx hd => ?_, fun hx hd => ?_⟩
  · by_cases x1 : (convR a0_0 a0_1 a2 2).2 = 0
    · by_cases x2 : (convR a0_0 a0_1 a1 2).2 = 0
      · by_cases x3 : (convR a0_0 a0_1 a2 1).2 = 0
        · by_cases x4 : (convR a0_0 a0_1 a2 3).2 = 0
          · have t := conv_three _ _ _ x3 x1 x4
            have m := conv_mono _ _ _ _ _ hlh x1 x2
            exact .inr (.inr (.inr (.inr ⟨by simpa using x1, by simpa using x2, by simpa using x3, by simpa using x4, decide_eq_false (by omega), decide_eq_false (by omega), decide_eq_false (by omega), decide_eq_false (by omega)⟩)))
          · exact .inr (.inr (.inr (.inl ⟨by simpa using x1, by simpa using x2, by simpa using x3, by simpa using x4⟩)))
        · exact .inr (.inr (.inl ⟨by simpa using x1, by simpa using x2, by simpa using x3⟩))
      · exact .inr (.inl ⟨by simpa using x1, by simpa using x2⟩)
    · exact .inl (by simpa using x1)
  · have hl := Int.not_lt.1 (of_decide_eq_false hd)
    by_cases z1 : (convR a0_1 a0_0 (convR a0_0 a0_1 a2 2).1 2).2 = 0
    · exact .inr ⟨by simpa using z1, by simpa using conv_back _ _ _ _ hl (by simpa using hx) rfl z1⟩
    · exact .inl (by simpa using z1)
  · have hl := Int.not_lt.1 (of_decide_eq_false hd)
    by_cases s1 : (reR a0_0 a0_1 a2 a1).2.2 = 0
    · obtain ⟨_, _, _, e1, _⟩ := re_ok _ _ _ _ s1
      refine .inr ⟨by simpa using s1, by rw [e1]; simp, ?_⟩
      by_cases t1 : (reR a0_1 a0_0 (reR a0_0 a0_1 a2 a1).1 (reR a0_0 a0_1 a2 a1).2.1).2.2 = 0
      · obtain ⟨k1, k2⟩ := re_back _ _ _ _ hl s1 t1
        exact .inr ⟨by simpa using t1, by simpa using k1, by simpa using k2⟩
      · exact .inl (by simpa using t1)
    · exact .inl (by simpa using s1)
set_option maxRecDepth 100000 in
set_option maxHeartbeats 4000000 in
theorem Rnd_gt (w : World) (a0_0 a0_1 a1 a2 : Int) (i0_0 : 0 ≤ a0_0 ∧ a0_0 ≤ 255) (i0_1 : 0 ≤ a0_1 ∧ a0_1 ≤ 255) (h : a2 < a1) :
    Calls Try.prog 3 #[.agg #[.int .u8 a0_0, .int .u8 a0_1], .int .i64 a1, .int .i64 a2] w fun e w' => e = .returned (.bool true) ∧ Below w.heap.size w w' := by
  have HA := Lib.hid (Rnd_gt_facts a0_0 a0_1 a1 a2 (by omega))
  have h0 : convR 1 4 4 1 = (5, 0) := by decide
  have H0 := Lib.hid h0
  have hl := convR_bd a0_0 a0_1 a2 1
  clear h0
  go_enter Try.func3, Try.ntmps3
  go_wp2_with fail
  refine (Convert_any _ _ _ _ _ (by omega) (by omega) (by omega) (by omega) (by omega) (by omega)).mono ?_
  rintro e w1 ⟨rfl, hb1⟩
  rw [H0.out]
  have z1 := hb1.size
  simp at z1
  have y10 : w.heap.size < w1.heap.size := by omega
  have c0 : w1.cell? ⟨w.heap.size, 0, none⟩ = some (.int .u8 a0_0) := (hb1.cell (p := ⟨w.heap.size, 0, none⟩) (by simp)).trans (by simp)
  have c1 : w1.cell? ⟨w.heap.size, 1, none⟩ = some (.int .u8 a0_1) := (hb1.cell (p := ⟨w.heap.size, 1, none⟩) (by simp)).trans (by simp)
  go_wp2_with fail
  refine (Convert_any _ _ _ _ _ i0_0.1 i0_0.2 i0_1.1 i0_1.2 (by omega) (by omega)).mono ?_
  rintro e w2 ⟨rfl, hb2⟩
  have d0 : w2.cell? ⟨w.heap.size, 0, none⟩ = some (.int .u8 a0_0) := (hb2.cell (p := ⟨w.heap.size, 0, none⟩) (by simp; omega)).trans (by simp [go_sem, c0, y10])
  have d1 : w2.cell? ⟨w.heap.size, 1, none⟩ = some (.int .u8 a0_1) := (hb2.cell (p := ⟨w.heap.size, 1, none⟩) (by simp; omega)).trans (by simp [go_sem, c1, y10])
  have z2 := hb2.size
  (try simp at z2)
  have y20 : w.heap.size < w2.heap.size := by omega
  clear c0 c1
  go_wp2_with fail
  refine (Convert_any _ _ _ _ _ i0_0.1 i0_0.2 i0_1.1 i0_1.2 (by omega) (by omega)).mono ?_
  rintro e w3 ⟨rfl, hb3⟩
  have e0 : w3.cell? ⟨w.heap.size, 0, none⟩ = some (.int .u8 a0_0) := (hb3.cell (p := ⟨w.heap.size, 0, none⟩) (by simp; omega)).trans (by simp [go_sem, d0, y20])
  have e1 : w3.cell? ⟨w.heap.size, 1, none⟩ = some (.int .u8 a0_1) := (hb3.cell (p := ⟨w.heap.size, 1, none⟩) (by simp; omega)).trans (by simp [go_sem, d1, y20])
  have z3 := hb3.size
  (try simp at z3)
  have y30 : w.heap.size < w3.heap.size := by omega
  clear d0 d1
  go_wp2_with fail
  refine (Convert_any _ _ _ _ _ i0_0.1 i0_0.2 i0_1.1 i0_1.2 (by omega) (by omega)).mono ?_
  rintro e w4 ⟨rfl, hb4⟩
  have f0 : w4.cell? ⟨w.heap.size, 0, none⟩ = some (.int .u8 a0_0) := (hb4.cell (p := ⟨w.heap.size, 0, none⟩) (by simp; omega)).trans (by simp [go_sem, e0, y30])
  have f1 : w4.cell? ⟨w.heap.size, 1, none⟩ = some (.int .u8 a0_1) := (hb4.cell (p := ⟨w.heap.size, 1, none⟩) (by simp; omega)).trans (by simp [go_sem, e1, y30])
  have z4 := hb4.size
  (try simp at z4)
  have y40 : w.heap.size < w4.heap.size := by omega
  clear e0 e1
  go_wp2_with fail
  refine (Convert_any _ _ _ _ _ i0_0.1 i0_0.2 i0_1.1 i0_1.2 (by omega) (by omega)).mono ?_
  rintro e w5 ⟨rfl, hb5⟩
  have g0 : w5.cell? ⟨w.heap.size, 0, none⟩ = some (.int .u8 a0_0) := (hb5.cell (p := ⟨w.heap.size, 0, none⟩) (by simp; omega)).trans (by simp [go_sem, f0, y40])
  have g1 : w5.cell? ⟨w.heap.size, 1, none⟩ = some (.int .u8 a0_1) := (hb5.cell (p := ⟨w.heap.size, 1, none⟩) (by simp; omega)).trans (by simp [go_sem, f1, y40])
  have z5 := hb5.size
  (try simp at z5)
  have y50 : w.heap.size < w5.heap.size := by omega
  clear f0 f1
  rcases HA.out.1 with x1 | ⟨x1, x2⟩ | ⟨x1, x2, x3⟩ | ⟨x1, x2, x3, x4⟩ | ⟨x1, x2, x3, x4, x5, x6, x7, x8⟩
  · go_wp2
    go_ret
    refine ⟨rfl, ?_⟩
    (repeat (first | exact Below.refl _ _ | assumption | refine Ba.below_step (by assumption) (by first | exact Nat.le_refl _ | omega | (simp; done) | (simp; omega)) ?_ | apply Below.drew | apply Ba.below_drewN | refine Below.alloc ?_ (by first | exact Nat.le_refl _ | omega | (simp; done) | (simp; omega)) _ | refine Below.setCell ?_ (by first | exact Nat.le_refl _ | omega | (simp; done) | (simp; omega)) _))
  · go_wp2
    go_ret
    refine ⟨rfl, ?_⟩
    (repeat (first | exact Below.refl _ _ | assumption | refine Ba.below_step (by assumption) (by first | exact Nat.le_refl _ | omega | (simp; done) | (simp; omega)) ?_ | apply Below.drew | apply Ba.below_drewN | refine Below.alloc ?_ (by first | exact Nat.le_refl _ | omega | (simp; done) | (simp; omega)) _ | refine Below.setCell ?_ (by first | exact Nat.le_refl _ | omega | (simp; done) | (simp; omega)) _))
  · go_wp2
    go_ret
    refine ⟨rfl, ?_⟩
    (repeat (first | exact Below.refl _ _ | assumption | refine Ba.below_step (by assumption) (by first | exact Nat.le_refl _ | omega | (simp; done) | (simp; omega)) ?_ | apply Below.drew | apply Ba.below_drewN | refine Below.alloc ?_ (by first | exact Nat.le_refl _ | omega | (simp; done) | (simp; omega)) _ | refine Below.setCell ?_ (by first | exact Nat.le_refl _ | omega | (simp; done) | (simp; omega)) _))
  · go_wp2
    go_ret
    refine ⟨rfl, ?_⟩
    (repeat (first | exact Below.refl _ _ | assumption | refine Ba.below_step (by assumption) (by first | exact Nat.le_refl _ | omega | (simp; done) | (simp; omega)) ?_ | apply Below.drew | apply Ba.below_drewN | refine Below.alloc ?_ (by first | exact Nat.le_refl _ | omega | (simp; done) | (simp; omega)) _ | refine Below.setCell ?_ (by first | exact Nat.le_refl _ | omega | (simp; done) | (simp; omega)) _))
  have HZ := Lib.hid (HA.out.2.1 x1)
  have HS := Lib.hid (HA.out.2.2 x1)
  go_wp2
  haveI : Nonempty (Ext w5.heap.size w5) := Ext.ne _ _
  have k0 := Ext.cell (B := w5.heap.size) w.heap.size 0 _ y50 g0
  have k1 := Ext.cell (B := w5.heap.size) w.heap.size 1 _ y50 g1
  refine region_ext w5.heap.size (by kernel_rfl) (by kernel_rfl) ?_
  repeat (quiet_step ((go_at_call 13; refine ext_call (Nat.le_refl _) (Ticks_ok _ _ (by omega) (by omega)))))
  clear k0 k1 this
  refine ext_nil ?_
  intro w6 hb6
  have m0 : w6.cell? ⟨w.heap.size, 0, none⟩ = some (.int .u8 a0_0) := (hb6.cell (p := ⟨w.heap.size, 0, none⟩) (by simp; omega)).trans (by simp [go_sem, g0, y50])
  have m1 : w6.cell? ⟨w.heap.size, 1, none⟩ = some (.int .u8 a0_1) := (hb6.cell (p := ⟨w.heap.size, 1, none⟩) (by simp; omega)).trans (by simp [go_sem, g1, y50])
  have z6 := hb6.size
  (try simp at z6)
  have y60 : w.heap.size < w6.heap.size := by omega
  clear g0 g1
  by_cases hd : tk a0_0 < tk a0_1
  · have hd2 := decide_eq_true hd
    go_wp2
    go_ret
    refine ⟨rfl, ?_⟩
    (repeat (first | exact Below.refl _ _ | assumption | refine Ba.below_step (by assumption) (by first | exact Nat.le_refl _ | omega | (simp; done) | (simp; omega)) ?_ | apply Below.drew | apply Ba.below_drewN | refine Below.alloc ?_ (by first | exact Nat.le_refl _ | omega | (simp; done) | (simp; omega)) _ | refine Below.setCell ?_ (by first | exact Nat.le_refl _ | omega | (simp; done) | (simp; omega)) _))
  have hd2 := decide_eq_false hd
  have hd3 := Int.not_lt.1 hd
  have HZ := Lib.hid (HZ.out hd2)
  have HS := Lib.hid (HS.out hd2)
  clear hd
  go_wp2_with fail
  refine (Convert_any _ _ _ _ _ i0_1.1 i0_1.2 i0_0.1 i0_0.2 (by omega) (by omega)).mono ?_
  rintro e w7 ⟨rfl, hb7⟩
  have n0 : w7.cell? ⟨w.heap.size, 0, none⟩ = some (.int .u8 a0_0) := (hb7.cell (p := ⟨w.heap.size, 0, none⟩) (by simp; omega)).trans (by simp [go_sem, m0, y60])
  have n1 : w7.cell? ⟨w.heap.size, 1, none⟩ = some (.int .u8 a0_1) := (hb7.cell (p := ⟨w.heap.size, 1, none⟩) (by simp; omega)).trans (by simp [go_sem, m1, y60])
  have z7 := hb7.size
  (try simp at z7)
  have y70 : w.heap.size < w7.heap.size := by omega
  clear m0 m1
  go_wp2_with fail
  refine (Re_any _ _ _ _ _ i0_0.1 i0_0.2 i0_1.1 i0_1.2).mono ?_
  rintro e w8 ⟨rfl, hb8⟩
  have p0 : w8.cell? ⟨w.heap.size, 0, none⟩ = some (.int .u8 a0_0) := (hb8.cell (p := ⟨w.heap.size, 0, none⟩) (by simp; omega)).trans (by simp [go_sem, n0, y70])
  have p1 : w8.cell? ⟨w.heap.size, 1, none⟩ = some (.int .u8 a0_1) := (hb8.cell (p := ⟨w.heap.size, 1, none⟩) (by simp; omega)).trans (by simp [go_sem, n1, y70])
  have z8 := hb8.size
  (try simp at z8)
  have y80 : w.heap.size < w8.heap.size := by omega
  clear n0 n1
  rcases HS.out with s1 | ⟨s1, s2, s3⟩
  · rcases HZ.out with q1 | ⟨q1, q2⟩
    all_goals
      go_wp2
      go_ret
      refine ⟨rfl, ?_⟩
      (repeat (first | exact Below.refl _ _ | assumption | refine Ba.below_step (by assumption) (by first | exact Nat.le_refl _ | omega | (simp; done) | (simp; omega)) ?_ | apply Below.drew | apply Ba.below_drewN | refine Below.alloc ?_ (by first | exact Nat.le_refl _ | omega | (simp; done) | (simp; omega)) _ | refine Below.setCell ?_ (by first | exact Nat.le_refl _ | omega | (simp; done) | (simp; omega)) _))
  go_wp2_with fail
  refine (Re_any _ _ _ _ _ i0_1.1 i0_1.2 i0_0.1 i0_0.2).mono ?_
  rintro e w9 ⟨rfl, hb9⟩
  obtain ⟨hc9, hf9, z9⟩ := bcell hb9
  simp at z9
  have y98 : w8.heap.size < w9.heap.size := by omega
  clear p0 p1
  rcases HZ.out with q1 | ⟨q1, q2⟩
  all_goals
    rcases s3 with t1 | ⟨t1, t2, t3⟩
    all_goals
      go_wp2
      go_ret
      refine ⟨rfl, ?_⟩
      (repeat (first | exact Below.refl _ _ | assumption | refine Ba.below_step (by assumption) (by first | exact Nat.le_refl _ | omega | (simp; done) | (simp; omega)) ?_ | apply Below.drew | apply Ba.below_drewN | refine Below.alloc ?_ (by first | exact Nat.le_refl _ | omega | (simp; done) | (simp; omega)) _ | refine Below.setCell ?_ (by first | exact Nat.le_refl _ | omega | (simp; done) | (simp; omega)) _))

end Go.Proofs.Ythmolfgjligaoaa.Tb
