/- The law TimecodeOrder, walked. -/
import Derived.Test.YtgllekaanaikhaaChecked
import Derived.Test.YtgllekaanaikhaaBase
import Derived.Test.YtgllekaanaikhaaWA
import Derived.Test.YtgllekaanaikhaaSh
import Derived.Test.YtgllekaanaikhaaTs
import Derived.Test.YtgllekaanaikhaaExt
import Derived.Handy
namespace Go.Proofs.Ytgllekaanaikhaa.Tb
open Go.RowKit Ba
set_option linter.unusedVariables false
set_option linter.unusedSimpArgs false

theorem rank_ok (h m s f : Int) (d : Bool) (w : World) (h0 : 0 ≤ h) (h1 : h ≤ 99) (m0 : 0 ≤ m) (m1 : m ≤ 99) (s0 : 0 ≤ s) (s1 : s ≤ 99) (f0 : 0 ≤ f) (f1 : f ≤ 99) :
    Calls Try.prog 32 #[.agg #[.int .i64 h, .int .i64 m, .int .i64 s, .int .i64 f, .bool d]] w fun e w' => e = .returned (.int .i64 (((h * 60 + m) * 60 + s) * 60 + f)) ∧ Below w.heap.size w w' := by
  go_enter Try.func32, Try.ntmps32
  go_wp2_with fail
  go_ret
  exact ⟨rfl, by (repeat (first | exact Below.refl _ _ | assumption | refine Ba.below_step (by assumption) (by first | exact Nat.le_refl _ | omega | (simp; done) | (simp; omega)) ?_ | apply Below.drew | apply Ba.below_drewN | refine Below.alloc ?_ (by first | exact Nat.le_refl _ | omega | (simp; done) | (simp; omega)) _ | refine Below.setCell ?_ (by first | exact Nat.le_refl _ | omega | (simp; done) | (simp; omega)) _))⟩
theorem Order_e (w : World) (a0 : Int) (a1_0 : Int) (a1_1 : Int) (a1_2 : Int) (a1_3 : Int) (a1_4 : Bool) (i0 : 0 ≤ a0 ∧ a0 ≤ 255) (c : Int) (hc : (c != 0) = true) (HG : Hid (frmR a0 a1_0 a1_1 a1_2 a1_3 a1_4 = (0, c))) :
    Calls Try.prog 11 #[.int .u8 a0, .agg #[.int .i64 a1_0, .int .i64 a1_1, .int .i64 a1_2, .int .i64 a1_3, .bool a1_4]] w fun e w' => e = .returned (.bool true) ∧ Below w.heap.size w w' := by
  go_enter Try.func11, Try.ntmps11
  go_wp2_with (first | (have _t := hz1; clear _t; ((go_at_call 16; refine (Frame_any _ _ _ _ _ _ _ i0.1 i0.2).mono ?_; rintro e w2 ⟨rfl, hb2⟩; obtain ⟨hc2, hf2, hz2⟩ := bcell hb2; (try simp at hz2))); rw [HG.out]; (try have y21 : w1.heap.size < w2.heap.size := (by omega)); (try have y20 : w.heap.size < w2.heap.size := (by omega))) | (((go_at_call 22; refine (awake_ok _).mono ?_; rintro e w1 ⟨rfl, hb1⟩; obtain ⟨hc1, hf1, hz1⟩ := bcell hb1; (try simp at hz1))); (try have y10 : w.heap.size < w1.heap.size := (by omega))) | fail)
  go_ret
  exact ⟨rfl, by (repeat (first | exact Below.refl _ _ | assumption | refine Ba.below_step (by assumption) (by first | exact Nat.le_refl _ | omega | (simp; done) | (simp; omega)) ?_ | apply Below.drew | apply Ba.below_drewN | refine Below.alloc ?_ (by first | exact Nat.le_refl _ | omega | (simp; done) | (simp; omega)) _ | refine Below.setCell ?_ (by first | exact Nat.le_refl _ | omega | (simp; done) | (simp; omega)) _))⟩
theorem Order_l (w : World) (a0 : Int) (a1_0 : Int) (a1_1 : Int) (a1_2 : Int) (a1_3 : Int) (a1_4 : Bool) (i0 : 0 ≤ a0 ∧ a0 ≤ 255) (x D : Int) (x0 : 0 ≤ x) (x1 : x ≤ 5184000) (hx : (x + 1 == D) = true) (HG : Hid (frmR a0 a1_0 a1_1 a1_2 a1_3 a1_4 = (x, 0))) (HN : Hid (shfR a0 a1_0 a1_1 a1_2 a1_3 a1_4 1 = (0, 0, 0, 0, a1_4, 0))) (HD : Hid (day a0 a1_4 = D)) :
    Calls Try.prog 11 #[.int .u8 a0, .agg #[.int .i64 a1_0, .int .i64 a1_1, .int .i64 a1_2, .int .i64 a1_3, .bool a1_4]] w fun e w' => e = .returned (.bool true) ∧ Below w.heap.size w w' := by
  go_enter Try.func11, Try.ntmps11
  go_wp2_with (first | (have _t := hz3; clear _t; ((go_at_call 14; refine (Day_any _ _ _ i0.1 i0.2).mono ?_; rintro e w4 ⟨rfl, hb4⟩; obtain ⟨hc4, hf4, hz4⟩ := bcell hb4; (try simp at hz4))); rw [HD.out]; (try have y43 : w3.heap.size < w4.heap.size := (by omega)); (try have y42 : w2.heap.size < w4.heap.size := (by omega)); (try have y41 : w1.heap.size < w4.heap.size := (by omega)); (try have y40 : w.heap.size < w4.heap.size := (by omega))) | (have _t := hz2; clear _t; ((go_at_call 31; refine (Next_any _ _ _ _ _ _ _ i0.1 i0.2).mono ?_; rintro e w3 ⟨rfl, hb3⟩; obtain ⟨hc3, hf3, hz3⟩ := bcell hb3; (try simp at hz3))); rw [HN.out]; (try have y32 : w2.heap.size < w3.heap.size := (by omega)); (try have y31 : w1.heap.size < w3.heap.size := (by omega)); (try have y30 : w.heap.size < w3.heap.size := (by omega))) | (have _t := hz1; clear _t; ((go_at_call 16; refine (Frame_any _ _ _ _ _ _ _ i0.1 i0.2).mono ?_; rintro e w2 ⟨rfl, hb2⟩; obtain ⟨hc2, hf2, hz2⟩ := bcell hb2; (try simp at hz2))); rw [HG.out]; (try have y21 : w1.heap.size < w2.heap.size := (by omega)); (try have y20 : w.heap.size < w2.heap.size := (by omega))) | (((go_at_call 22; refine (awake_ok _).mono ?_; rintro e w1 ⟨rfl, hb1⟩; obtain ⟨hc1, hf1, hz1⟩ := bcell hb1; (try simp at hz1))); (try have y10 : w.heap.size < w1.heap.size := (by omega))) | fail)
  go_ret
  exact ⟨rfl, by (repeat (first | exact Below.refl _ _ | assumption | refine Ba.below_step (by assumption) (by first | exact Nat.le_refl _ | omega | (simp; done) | (simp; omega)) ?_ | apply Below.drew | apply Ba.below_drewN | refine Below.alloc ?_ (by first | exact Nat.le_refl _ | omega | (simp; done) | (simp; omega)) _ | refine Below.setCell ?_ (by first | exact Nat.le_refl _ | omega | (simp; done) | (simp; omega)) _))⟩
theorem cell_new (w : World) (o : Obj) (b k : Nat) (hb : b < w.heap.size) : (w.alloc o).cell? ⟨b, k, none⟩ = w.cell? ⟨b, k, none⟩ := ((Below.refl w.heap.size w).alloc (Nat.le_refl _) o).cell (p := ⟨b, k, none⟩) hb
theorem Order_m (w : World) (a0 : Int) (a1_0 : Int) (a1_1 : Int) (a1_2 : Int) (a1_3 : Int) (a1_4 : Bool) (i0 : 0 ≤ a0 ∧ a0 ≤ 255) (x D H M S F : Int) (x0 : 0 ≤ x) (x1 : x ≤ 5184000) (hx : (x + 1 == D) = false) (HG : Hid (frmR a0 a1_0 a1_1 a1_2 a1_3 a1_4 = (x, 0))) (HN : Hid (shfR a0 a1_0 a1_1 a1_2 a1_3 a1_4 1 = (H, M, S, F, a1_4, 0))) (HD : Hid (day a0 a1_4 = D)) (HF : Hid (frmR a0 H M S F a1_4 = (x + 1, 0))) (h0 : 0 ≤ a1_0) (h1 : a1_0 ≤ 99) (m0 : 0 ≤ a1_1) (m1 : a1_1 ≤ 99) (s0 : 0 ≤ a1_2) (s1 : a1_2 ≤ 99) (f0 : 0 ≤ a1_3) (f1 : a1_3 ≤ 99) (p0 : 0 ≤ H) (p1 : H ≤ 99) (q0 : 0 ≤ M) (q1 : M ≤ 99) (r0 : 0 ≤ S) (r1 : S ≤ 99) (t0 : 0 ≤ F) (t1 : F ≤ 99) (hr : decide (((a1_0 * 60 + a1_1) * 60 + a1_2) * 60 + a1_3 < ((H * 60 + M) * 60 + S) * 60 + F) = true) :
    Calls Try.prog 11 #[.int .u8 a0, .agg #[.int .i64 a1_0, .int .i64 a1_1, .int .i64 a1_2, .int .i64 a1_3, .bool a1_4]] w fun e w' => e = .returned (.bool true) ∧ Below w.heap.size w w' := by
  go_enter Try.func11, Try.ntmps11
  go_wp2_with (first | (have _t := hz4; clear _t; ((go_at_call 16; refine (Frame_any _ _ _ _ _ _ _ i0.1 i0.2).mono ?_; rintro e w5 ⟨rfl, hb5⟩; obtain ⟨hc5, hf5, hz5⟩ := bcell hb5; (try simp at hz5))); rw [HF.out]; (try have y54 : w4.heap.size < w5.heap.size := (by omega)); (try have y53 : w3.heap.size < w5.heap.size := (by omega)); (try have y52 : w2.heap.size < w5.heap.size := (by omega)); (try have y51 : w1.heap.size < w5.heap.size := (by omega)); (try have y50 : w.heap.size < w5.heap.size := (by omega))) | (have _t := hz3; clear _t; ((go_at_call 14; refine (Day_any _ _ _ i0.1 i0.2).mono ?_; rintro e w4 ⟨rfl, hb4⟩; obtain ⟨hc4, hf4, hz4⟩ := bcell hb4; (try simp at hz4))); rw [HD.out]; (try have y43 : w3.heap.size < w4.heap.size := (by omega)); (try have y42 : w2.heap.size < w4.heap.size := (by omega)); (try have y41 : w1.heap.size < w4.heap.size := (by omega)); (try have y40 : w.heap.size < w4.heap.size := (by omega))) | (have _t := hz2; clear _t; ((go_at_call 31; refine (Next_any _ _ _ _ _ _ _ i0.1 i0.2).mono ?_; rintro e w3 ⟨rfl, hb3⟩; obtain ⟨hc3, hf3, hz3⟩ := bcell hb3; (try simp at hz3))); rw [HN.out]; (try have y32 : w2.heap.size < w3.heap.size := (by omega)); (try have y31 : w1.heap.size < w3.heap.size := (by omega)); (try have y30 : w.heap.size < w3.heap.size := (by omega))) | (have _t := hz1; clear _t; ((go_at_call 16; refine (Frame_any _ _ _ _ _ _ _ i0.1 i0.2).mono ?_; rintro e w2 ⟨rfl, hb2⟩; obtain ⟨hc2, hf2, hz2⟩ := bcell hb2; (try simp at hz2))); rw [HG.out]; (try have y21 : w1.heap.size < w2.heap.size := (by omega)); (try have y20 : w.heap.size < w2.heap.size := (by omega))) | (((go_at_call 22; refine (awake_ok _).mono ?_; rintro e w1 ⟨rfl, hb1⟩; obtain ⟨hc1, hf1, hz1⟩ := bcell hb1; (try simp at hz1))); (try have y10 : w.heap.size < w1.heap.size := (by omega))) | fail)
  have c0 : w5.cell? ⟨w.heap.size, 0, none⟩ = some (.int .i64 a1_0) := (hc5 _ _ (by omega)).trans ((hc4 _ _ (by first | (simp; done) | (simp; omega))).trans ((cell_new _ _ _ _ (by omega)).trans ((hc3 _ _ (by omega)).trans ((hc2 _ _ (by omega)).trans ((hc1 _ _ (by simp)).trans (by simp))))))
  have c1 : w5.cell? ⟨w.heap.size, 1, none⟩ = some (.int .i64 a1_1) := (hc5 _ _ (by omega)).trans ((hc4 _ _ (by first | (simp; done) | (simp; omega))).trans ((cell_new _ _ _ _ (by omega)).trans ((hc3 _ _ (by omega)).trans ((hc2 _ _ (by omega)).trans ((hc1 _ _ (by simp)).trans (by simp))))))
  have c2 : w5.cell? ⟨w.heap.size, 2, none⟩ = some (.int .i64 a1_2) := (hc5 _ _ (by omega)).trans ((hc4 _ _ (by first | (simp; done) | (simp; omega))).trans ((cell_new _ _ _ _ (by omega)).trans ((hc3 _ _ (by omega)).trans ((hc2 _ _ (by omega)).trans ((hc1 _ _ (by simp)).trans (by simp))))))
  have c3 : w5.cell? ⟨w.heap.size, 3, none⟩ = some (.int .i64 a1_3) := (hc5 _ _ (by omega)).trans ((hc4 _ _ (by first | (simp; done) | (simp; omega))).trans ((cell_new _ _ _ _ (by omega)).trans ((hc3 _ _ (by omega)).trans ((hc2 _ _ (by omega)).trans ((hc1 _ _ (by simp)).trans (by simp))))))
  have c4 : w5.cell? ⟨w.heap.size, 4, none⟩ = some (.bool a1_4) := (hc5 _ _ (by omega)).trans ((hc4 _ _ (by first | (simp; done) | (simp; omega))).trans ((cell_new _ _ _ _ (by omega)).trans ((hc3 _ _ (by omega)).trans ((hc2 _ _ (by omega)).trans ((hc1 _ _ (by simp)).trans (by simp))))))
  have c5 : w5.cell? ⟨w3.heap.size, 0, none⟩ = some (.int .i64 H) := (hc5 _ _ (by omega)).trans ((hc4 _ _ (by first | (simp; done) | (simp; omega))).trans (by simp))
  have c6 : w5.cell? ⟨w3.heap.size, 1, none⟩ = some (.int .i64 M) := (hc5 _ _ (by omega)).trans ((hc4 _ _ (by first | (simp; done) | (simp; omega))).trans (by simp))
  have c7 : w5.cell? ⟨w3.heap.size, 2, none⟩ = some (.int .i64 S) := (hc5 _ _ (by omega)).trans ((hc4 _ _ (by first | (simp; done) | (simp; omega))).trans (by simp))
  have c8 : w5.cell? ⟨w3.heap.size, 3, none⟩ = some (.int .i64 F) := (hc5 _ _ (by omega)).trans ((hc4 _ _ (by first | (simp; done) | (simp; omega))).trans (by simp))
  have c9 : w5.cell? ⟨w3.heap.size, 4, none⟩ = some (.bool a1_4) := (hc5 _ _ (by omega)).trans ((hc4 _ _ (by first | (simp; done) | (simp; omega))).trans (by simp))
  haveI : Nonempty (Ext w5.heap.size w5) := Ext.ne _ _
  have g0 := Ext.cell (B := w5.heap.size) (w.heap.size) 0 _ (by omega) c0
  have g1 := Ext.cell (B := w5.heap.size) (w.heap.size) 1 _ (by omega) c1
  have g2 := Ext.cell (B := w5.heap.size) (w.heap.size) 2 _ (by omega) c2
  have g3 := Ext.cell (B := w5.heap.size) (w.heap.size) 3 _ (by omega) c3
  have g4 := Ext.cell (B := w5.heap.size) (w.heap.size) 4 _ (by omega) c4
  have g5 := Ext.cell (B := w5.heap.size) (w3.heap.size) 0 _ (by omega) c5
  have g6 := Ext.cell (B := w5.heap.size) (w3.heap.size) 1 _ (by omega) c6
  have g7 := Ext.cell (B := w5.heap.size) (w3.heap.size) 2 _ (by omega) c7
  have g8 := Ext.cell (B := w5.heap.size) (w3.heap.size) 3 _ (by omega) c8
  have g9 := Ext.cell (B := w5.heap.size) (w3.heap.size) 4 _ (by omega) c9
  refine region_ext w5.heap.size (by kernel_rfl) (by kernel_rfl) ?_
  repeat (first | go_big_quiet_step (first | (go_at_call 32; refine ext_call (Nat.le_refl _) (rank_ok _ _ _ _ _ _ (by assumption) (by assumption) (by assumption) (by assumption) (by assumption) (by assumption) (by assumption) (by assumption)))) | quiet_step (first | (go_at_call 32; refine ext_call (Nat.le_refl _) (rank_ok _ _ _ _ _ _ (by assumption) (by assumption) (by assumption) (by assumption) (by assumption) (by assumption) (by assumption) (by assumption)))))
  refine ext_nil ?_
  intro w6 hb6
  clear this g0 g1 g2 g3 g4 g5 g6 g7 g8 g9
  go_wp2_with fail
  go_ret
  exact ⟨rfl, by (repeat (first | exact Below.refl _ _ | assumption | refine Ba.below_step (by assumption) (by first | exact Nat.le_refl _ | omega | (simp; done) | (simp; omega)) ?_ | apply Below.drew | apply Ba.below_drewN | refine Below.alloc ?_ (by first | exact Nat.le_refl _ | omega | (simp; done) | (simp; omega)) _ | refine Below.setCell ?_ (by first | exact Nat.le_refl _ | omega | (simp; done) | (simp; omega)) _))⟩
theorem Order_walk (w : World) (a0 : Int) (a1_0 : Int) (a1_1 : Int) (a1_2 : Int) (a1_3 : Int) (a1_4 : Bool) (i0 : 0 ≤ a0 ∧ a0 ≤ 255) (i1_0 : -9223372036854775808 ≤ a1_0 ∧ a1_0 ≤ 9223372036854775807) (i1_1 : -9223372036854775808 ≤ a1_1 ∧ a1_1 ≤ 9223372036854775807) (i1_2 : -9223372036854775808 ≤ a1_2 ∧ a1_2 ≤ 9223372036854775807) (i1_3 : -9223372036854775808 ≤ a1_3 ∧ a1_3 ≤ 9223372036854775807) :
    Calls Try.prog 11 #[.int .u8 a0, .agg #[.int .i64 a1_0, .int .i64 a1_1, .int .i64 a1_2, .int .i64 a1_3, .bool a1_4]] w fun e w' => e = .returned (.bool true) ∧ Below w.heap.size w w' := by
  by_cases hc : chk a0 a1_0 a1_1 a1_2 a1_3 a1_4 = 0
  · obtain ⟨x0, x1, D1⟩ := fr_bd a0 a1_0 a1_1 a1_2 a1_3 a1_4 hc
    have hs := shf_0 a0 a1_0 a1_1 a1_2 a1_3 a1_4 1 hc
    by_cases hl : fr a0 a1_0 a1_1 a1_2 a1_3 a1_4 + 1 = day a0 a1_4
    · have hz : shfR a0 a1_0 a1_1 a1_2 a1_3 a1_4 1 = (0, 0, 0, 0, a1_4, 0) := by
        rw [hs, hl, Int.emod_self]
        have hk := chk_0 a0 a1_0 a1_1 a1_2 a1_3 a1_4 hc
        unfold labR
        rw [if_neg (by omega), if_neg (by omega)]
        unfold split4
        have hn : num (nm a0) (dp a0 a1_4) 0 = 0 := by
          unfold num
          have := nm_bd a0 (rerr_ok _ _ hk.1).1
          rw [Int.zero_ediv, Int.zero_emod, if_neg (by omega)]
          omega
        rw [hn]
        simp
      exact Order_l w a0 a1_0 a1_1 a1_2 a1_3 a1_4 i0 _ _ x0 (by omega) (by simpa using hl) (Lib.hid (frm_0 _ _ _ _ _ _ hc)) (Lib.hid hz) (Lib.hid rfl)
    · have he : (fr a0 a1_0 a1_1 a1_2 a1_3 a1_4 + 1) % day a0 a1_4 = fr a0 a1_0 a1_1 a1_2 a1_3 a1_4 + 1 := Int.emod_eq_of_lt (by omega) (by omega)
      rw [he] at hs
      rcases lab_is a0 a1_4 (fr a0 a1_0 a1_1 a1_2 a1_3 a1_4 + 1) with ⟨e, hl', he'⟩ | ⟨H, M, S, F, hl', _⟩
      · exfalso
        have hk := chk_0 a0 a1_0 a1_1 a1_2 a1_3 a1_4 hc
        unfold labR at hl'
        rw [if_neg (by omega), if_neg (by omega)] at hl'
        unfold split4 at hl'
        simp only [Prod.mk.injEq] at hl'
        omega
      · obtain ⟨hk, hf, _⟩ := lab_back _ _ _ _ _ _ _ hl'
        obtain ⟨h0, h1, m0, m1, s0, s1, f0, f1⟩ := chk_99 _ _ _ _ _ _ hc
        obtain ⟨p0, p1, q0, q1, r0, r1, t0, t1⟩ := chk_99 _ _ _ _ _ _ hk
        have hr := rank_of a0 a1_0 a1_1 a1_2 a1_3 H M S F a1_4 hc hk (by omega)
        exact Order_m w a0 a1_0 a1_1 a1_2 a1_3 a1_4 i0 _ _ H M S F x0 (by omega) (by simpa using hl) (Lib.hid (frm_0 _ _ _ _ _ _ hc)) (Lib.hid (hs.trans hl')) (Lib.hid rfl) (Lib.hid (by rw [frm_0 _ _ _ _ _ _ hk, hf])) h0 h1 m0 m1 s0 s1 f0 f1 p0 p1 q0 q1 r0 r1 t0 t1 (decide_eq_true hr)
  · exact Order_e w a0 a1_0 a1_1 a1_2 a1_3 a1_4 i0 _ (by simpa using hc) (Lib.hid (frm_e _ _ _ _ _ _ hc))
end Go.Proofs.Ytgllekaanaikhaa.Tb
