/- Lag of both packages. -/
import Derived.Test.YtgllekaanaikhaaChecked
import Derived.Test.YtgllekaanaikhaaBase
import Derived.Test.YtgllekaanaikhaaLd
import Derived.Test.YtgllekaanaikhaaExt
namespace Go.Proofs.Ytgllekaanaikhaa.Tb
open Go.RowKit Ba
set_option linter.unusedVariables false
set_option linter.unusedSimpArgs false

theorem region_gen {P : Program} {id : Nat} {Q : Exit → Act → World → Prop} {a : Act} {w : World} {l : List Oper} (B : Nat) (hm : P.follows .mixedOrders = true) (hB : Region.lexB .any l.toArray = true)
    (h : ∀ W, W = w → wpQuiet P l.toArray (fun w' => ∃ n : Ext B W, w' = n.val) (fun a' => ∀ w', (∃ n : Ext B W, w' = n.val) → Q .normal a' w') l a) : (Code.region id l.toArray true).wp P Q a w :=
  region_ext B hm hB (h w rfl)
theorem wr64 (n : Int) (h0 : -9223372036854775808 ≤ n) (h1 : n ≤ 9223372036854775807) : IntKind.i64.wrap n = n := by rw [IntKind.wrap_i64]; omega
theorem div_bd (n F : Int) (hk : n = 24 ∨ n = 25 ∨ n = 30 ∨ n = 50 ∨ n = 60) (h0 : 0 ≤ F) (h1 : F < n) : 0 ≤ 120000 * F / n ∧ 120000 * F / n ≤ 120000 ∧ F * (120000 / n) = 120000 * F / n ∧ 0 ≤ 120000 / n ∧ 120000 / n ≤ 5000 := by
  rcases hk with h | h | h | h | h <;> subst h <;> omega
theorem mul_bd (r f : Int) (hv : va r = true) (h0 : 0 ≤ f) (h1 : f ≤ 5184000) : 0 ≤ f * tk r ∧ f * tk r ≤ 25945920000 := by
  obtain ⟨t0, t1⟩ := tk_bd r hv
  exact ⟨Int.mul_nonneg h0 (by omega), Int.le_trans (Int.mul_le_mul h1 t1 (by omega) (by omega)) (by decide)⟩

theorem Lag_e (r : Int) (d : Bool) (f e : Int) (w : World) (r0 : 0 ≤ r) (r1 : r ≤ 255) (hl : labR r d f = (0, 0, 0, 0, false, e)) (he : e = 2 ∨ e = 3 ∨ e = 13) :
    Calls Try.prog 19 #[.int .u8 r, .bool d, .int .i64 f] w fun e' w' => e' = .returned (.tuple #[.int .i64 0, .int .i64 e]) ∧ Below w.heap.size w w' := by
  have hx : (e != 0) = true := by simp; omega
  go_enter Try.func19, Try.ntmps19
  go_wp2_with (first | (((go_at_call 15; refine (Label_any _ _ _ _ r0 r1).mono ?_; rintro e w1 ⟨rfl, hb1⟩; obtain ⟨hc1, hf1, hz1⟩ := bcell hb1; (try simp at hz1))); rw [hl]) | (((go_at_call 23; refine (RLabel_any _ _ _ _ r0 r1).mono ?_; rintro e w1 ⟨rfl, hb1⟩; obtain ⟨hc1, hf1, hz1⟩ := bcell hb1; (try simp at hz1))); rw [hl]) | go_in)
  go_ret2
  exact ⟨rfl, by (repeat (first | exact Below.refl _ _ | assumption | refine Ba.below_step (by assumption) (by first | exact Nat.le_refl _ | omega | (simp; done) | (simp; omega)) ?_ | apply Below.drew | apply Ba.below_drewN | refine Below.alloc ?_ (by first | exact Nat.le_refl _ | omega | (simp; done) | (simp; omega)) _ | refine Below.setCell ?_ (by first | exact Nat.le_refl _ | omega | (simp; done) | (simp; omega)) _))⟩

theorem RLag_e (r : Int) (d : Bool) (f e : Int) (w : World) (r0 : 0 ≤ r) (r1 : r ≤ 255) (hl : labR r d f = (0, 0, 0, 0, false, e)) (he : e = 2 ∨ e = 3 ∨ e = 13) :
    Calls Try.prog 25 #[.int .u8 r, .bool d, .int .i64 f] w fun e' w' => e' = .returned (.tuple #[.int .i64 0, .int .i64 e]) ∧ Below w.heap.size w w' := by
  have hx : (e != 0) = true := by simp; omega
  go_enter Try.func25, Try.ntmps25
  go_wp2_with (first | (((go_at_call 15; refine (Label_any _ _ _ _ r0 r1).mono ?_; rintro e w1 ⟨rfl, hb1⟩; obtain ⟨hc1, hf1, hz1⟩ := bcell hb1; (try simp at hz1))); rw [hl]) | (((go_at_call 23; refine (RLabel_any _ _ _ _ r0 r1).mono ?_; rintro e w1 ⟨rfl, hb1⟩; obtain ⟨hc1, hf1, hz1⟩ := bcell hb1; (try simp at hz1))); rw [hl]) | go_in)
  go_ret2
  exact ⟨rfl, by (repeat (first | exact Below.refl _ _ | assumption | refine Ba.below_step (by assumption) (by first | exact Nat.le_refl _ | omega | (simp; done) | (simp; omega)) ?_ | apply Below.drew | apply Ba.below_drewN | refine Below.alloc ?_ (by first | exact Nat.le_refl _ | omega | (simp; done) | (simp; omega)) _ | refine Below.setCell ?_ (by first | exact Nat.le_refl _ | omega | (simp; done) | (simp; omega)) _))⟩

theorem Lag_k (r : Int) (d : Bool) (f H M S F : Int) (w : World) (r0 : 0 ≤ r) (r1 : r ≤ 255) (hl : labR r d f = (H, M, S, F, d, 0)) (n0 : 24 ≤ nm r) (n1 : nm r ≤ 60) (H0 : 0 ≤ H) (H1 : H ≤ 23) (M0 : 0 ≤ M) (M1 : M ≤ 59) (S0 : 0 ≤ S) (S1 : S ≤ 59) (F0 : 0 ≤ F) (F1 : F < nm r)
    (q0 : 0 ≤ 120000 * F / nm r) (q1 : 120000 * F / nm r ≤ 120000) (qe : F * (120000 / nm r) = 120000 * F / nm r) (u0 : 0 ≤ 120000 / nm r) (u1 : 120000 / nm r ≤ 5000) (p0 : 0 ≤ f * tk r) (p1 : f * tk r ≤ 25945920000) :
    Calls Try.prog 19 #[.int .u8 r, .bool d, .int .i64 f] w fun e' w' => e' = .returned (.tuple #[.int .i64 (f * tk r - ((3600 * H + 60 * M + S) * 120000 + 120000 * F / nm r)), .int .i64 0]) ∧ Below w.heap.size w w' := by
  go_enter Try.func19, Try.ntmps19
  have nz : nm r ≠ 0 := by omega
  have nz' : (nm r == 0) = false := by simpa using nz
  have nt : (120000 * F).tdiv (nm r) = 120000 * F / nm r := Int.tdiv_eq_ediv_of_nonneg (by omega)
  have nt' : (F * 120000).tdiv (nm r) = 120000 * F / nm r := by rw [Int.mul_comm F]; exact nt
  have nt2 : Int.tdiv 120000 (nm r) = 120000 / nm r := Int.tdiv_eq_ediv_of_nonneg (by omega)
  go_wp2_with (first | (((go_at_call 15; refine (Label_any _ _ _ _ r0 r1).mono ?_; rintro e w1 ⟨rfl, hb1⟩; obtain ⟨hc1, hf1, hz1⟩ := bcell hb1; (try simp at hz1))); rw [hl]) | (((go_at_call 23; refine (RLabel_any _ _ _ _ r0 r1).mono ?_; rintro e w1 ⟨rfl, hb1⟩; obtain ⟨hc1, hf1, hz1⟩ := bcell hb1; (try simp at hz1))); rw [hl]) | go_in)
  clear hc1 hf1
  refine region_gen (w1.heap.size + 1) (by kernel_rfl) (by kernel_rfl) ?_
  intro W hW
  have c0 : W.cell? ⟨w1.heap.size, 0, none⟩ = some (.int .i64 H) := by rw [hW]; simp
  have c1 : W.cell? ⟨w1.heap.size, 1, none⟩ = some (.int .i64 M) := by rw [hW]; simp
  have c2 : W.cell? ⟨w1.heap.size, 2, none⟩ = some (.int .i64 S) := by rw [hW]; simp
  have c3 : W.cell? ⟨w1.heap.size, 3, none⟩ = some (.int .i64 F) := by rw [hW]; simp
  have hs : w1.heap.size + 1 ≤ W.heap.size := by rw [hW]; simp
  have hbW : Below w.heap.size w W := by rw [hW]; (repeat (first | (with_reducible exact Below.refl _ _) | (with_reducible assumption) | refine Below.setCell ?_ (by first | exact Nat.le_refl _ | omega | (simp; done) | (simp; omega)) _ | refine Ba.below_step (by assumption) (by first | exact Nat.le_refl _ | omega | (simp; done) | (simp; omega)) ?_ | apply Below.drew | apply Ba.below_drewN | refine Below.alloc ?_ (by first | exact Nat.le_refl _ | omega | (simp; done) | (simp; omega)) _ | refine Below.setCell ?_ (by first | exact Nat.le_refl _ | omega | (simp; done) | (simp; omega)) _))
  clear hW
  haveI : Nonempty (Ext (w1.heap.size + 1) W) := Ext.ne _ _
  have g0 := Ext.cell (B := w1.heap.size + 1) w1.heap.size 0 _ (by omega) c0
  have g1 := Ext.cell (B := w1.heap.size + 1) w1.heap.size 1 _ (by omega) c1
  have g2 := Ext.cell (B := w1.heap.size + 1) w1.heap.size 2 _ (by omega) c2
  have g3 := Ext.cell (B := w1.heap.size + 1) w1.heap.size 3 _ (by omega) c3
  repeat ((first | go_big_quiet_step (first | (go_at_call 21; refine ext_call hs (Nominal_ok _ _ r0 r1)) | (go_at_call 45; refine ext_call hs (RNominal_ok _ _ r0 r1)) | (go_at_call 49; refine ext_call hs (RTicks_ok _ _ r0 r1))) | quiet_step (first | (go_at_call 21; refine ext_call hs (Nominal_ok _ _ r0 r1)) | (go_at_call 45; refine ext_call hs (RNominal_ok _ _ r0 r1)) | (go_at_call 49; refine ext_call hs (RTicks_ok _ _ r0 r1)))); (try simp (disch := omega) only [wr64]))
  refine ext_nil ?_
  intro w2 hb2
  clear g0 g1 g2 g3 this
  have hs2 := hb2.size
  go_wp2_with (first | (go_at_call 42; refine (Ticks_ok _ _ r0 r1).mono ?_; rintro e w3 ⟨rfl, hb3⟩; obtain ⟨hc3, hf3, hz3⟩ := bcell hb3; (try simp at hz3)) | go_in)
  go_ret2
  exact ⟨rfl, by (repeat (first | exact Below.refl _ _ | assumption | refine Ba.below_step (by assumption) (by first | exact Nat.le_refl _ | omega | (simp; done) | (simp; omega)) ?_ | apply Below.drew | apply Ba.below_drewN | refine Below.alloc ?_ (by first | exact Nat.le_refl _ | omega | (simp; done) | (simp; omega)) _ | refine Below.setCell ?_ (by first | exact Nat.le_refl _ | omega | (simp; done) | (simp; omega)) _))⟩

theorem RLag_k (r : Int) (d : Bool) (f H M S F : Int) (w : World) (r0 : 0 ≤ r) (r1 : r ≤ 255) (hl : labR r d f = (H, M, S, F, d, 0)) (n0 : 24 ≤ nm r) (n1 : nm r ≤ 60) (H0 : 0 ≤ H) (H1 : H ≤ 23) (M0 : 0 ≤ M) (M1 : M ≤ 59) (S0 : 0 ≤ S) (S1 : S ≤ 59) (F0 : 0 ≤ F) (F1 : F < nm r)
    (q0 : 0 ≤ 120000 * F / nm r) (q1 : 120000 * F / nm r ≤ 120000) (qe : F * (120000 / nm r) = 120000 * F / nm r) (u0 : 0 ≤ 120000 / nm r) (u1 : 120000 / nm r ≤ 5000) (p0 : 0 ≤ f * tk r) (p1 : f * tk r ≤ 25945920000) :
    Calls Try.prog 25 #[.int .u8 r, .bool d, .int .i64 f] w fun e' w' => e' = .returned (.tuple #[.int .i64 (f * tk r - ((3600 * H + 60 * M + S) * 120000 + 120000 * F / nm r)), .int .i64 0]) ∧ Below w.heap.size w w' := by
  go_enter Try.func25, Try.ntmps25
  have nz : nm r ≠ 0 := by omega
  have nz' : (nm r == 0) = false := by simpa using nz
  have nt : (120000 * F).tdiv (nm r) = 120000 * F / nm r := Int.tdiv_eq_ediv_of_nonneg (by omega)
  have nt' : (F * 120000).tdiv (nm r) = 120000 * F / nm r := by rw [Int.mul_comm F]; exact nt
  have nt2 : Int.tdiv 120000 (nm r) = 120000 / nm r := Int.tdiv_eq_ediv_of_nonneg (by omega)
  go_wp2_with (first | (((go_at_call 15; refine (Label_any _ _ _ _ r0 r1).mono ?_; rintro e w1 ⟨rfl, hb1⟩; obtain ⟨hc1, hf1, hz1⟩ := bcell hb1; (try simp at hz1))); rw [hl]) | (((go_at_call 23; refine (RLabel_any _ _ _ _ r0 r1).mono ?_; rintro e w1 ⟨rfl, hb1⟩; obtain ⟨hc1, hf1, hz1⟩ := bcell hb1; (try simp at hz1))); rw [hl]) | go_in)
  clear hc1 hf1
  refine region_gen (w1.heap.size + 1) (by kernel_rfl) (by kernel_rfl) ?_
  intro W hW
  have c0 : W.cell? ⟨w1.heap.size, 0, none⟩ = some (.int .i64 H) := by rw [hW]; simp
  have c1 : W.cell? ⟨w1.heap.size, 1, none⟩ = some (.int .i64 M) := by rw [hW]; simp
  have c2 : W.cell? ⟨w1.heap.size, 2, none⟩ = some (.int .i64 S) := by rw [hW]; simp
  have c3 : W.cell? ⟨w1.heap.size, 3, none⟩ = some (.int .i64 F) := by rw [hW]; simp
  have hs : w1.heap.size + 1 ≤ W.heap.size := by rw [hW]; simp
  have hbW : Below w.heap.size w W := by rw [hW]; (repeat (first | (with_reducible exact Below.refl _ _) | (with_reducible assumption) | refine Below.setCell ?_ (by first | exact Nat.le_refl _ | omega | (simp; done) | (simp; omega)) _ | refine Ba.below_step (by assumption) (by first | exact Nat.le_refl _ | omega | (simp; done) | (simp; omega)) ?_ | apply Below.drew | apply Ba.below_drewN | refine Below.alloc ?_ (by first | exact Nat.le_refl _ | omega | (simp; done) | (simp; omega)) _ | refine Below.setCell ?_ (by first | exact Nat.le_refl _ | omega | (simp; done) | (simp; omega)) _))
  clear hW
  haveI : Nonempty (Ext (w1.heap.size + 1) W) := Ext.ne _ _
  have g0 := Ext.cell (B := w1.heap.size + 1) w1.heap.size 0 _ (by omega) c0
  have g1 := Ext.cell (B := w1.heap.size + 1) w1.heap.size 1 _ (by omega) c1
  have g2 := Ext.cell (B := w1.heap.size + 1) w1.heap.size 2 _ (by omega) c2
  have g3 := Ext.cell (B := w1.heap.size + 1) w1.heap.size 3 _ (by omega) c3
  repeat ((first | go_big_quiet_step (first | (go_at_call 21; refine ext_call hs (Nominal_ok _ _ r0 r1)) | (go_at_call 45; refine ext_call hs (RNominal_ok _ _ r0 r1)) | (go_at_call 49; refine ext_call hs (RTicks_ok _ _ r0 r1))) | quiet_step (first | (go_at_call 21; refine ext_call hs (Nominal_ok _ _ r0 r1)) | (go_at_call 45; refine ext_call hs (RNominal_ok _ _ r0 r1)) | (go_at_call 49; refine ext_call hs (RTicks_ok _ _ r0 r1)))); (try simp (disch := omega) only [wr64]))
  refine ext_nil ?_
  intro w2 hb2
  clear g0 g1 g2 g3 this
  have hs2 := hb2.size
  go_wp2_with (first | (go_at_call 42; refine (Ticks_ok _ _ r0 r1).mono ?_; rintro e w3 ⟨rfl, hb3⟩; obtain ⟨hc3, hf3, hz3⟩ := bcell hb3; (try simp at hz3)) | go_in)
  go_ret2
  exact ⟨(congrArg (fun z => Ending.returned (.tuple #[.int .i64 z, .int .i64 0])) (show f * tk r - (H * 3600 + M * 60 + S) * 120000 - 120000 * F / nm r = f * tk r - ((3600 * H + 60 * M + S) * 120000 + 120000 * F / nm r) from by omega)), by (repeat (first | exact Below.refl _ _ | assumption | refine Ba.below_step (by assumption) (by first | exact Nat.le_refl _ | omega | (simp; done) | (simp; omega)) ?_ | apply Below.drew | apply Ba.below_drewN | refine Below.alloc ?_ (by first | exact Nat.le_refl _ | omega | (simp; done) | (simp; omega)) _ | refine Below.setCell ?_ (by first | exact Nat.le_refl _ | omega | (simp; done) | (simp; omega)) _))⟩

theorem Lag_any (r : Int) (d : Bool) (f : Int) (w : World) (r0 : 0 ≤ r) (r1 : r ≤ 255) :
    Calls Try.prog 19 #[.int .u8 r, .bool d, .int .i64 f] w fun e' w' => e' = .returned (.tuple #[.int .i64 (lagR r d f).1, .int .i64 (lagR r d f).2]) ∧ Below w.heap.size w w' := by
  rcases lab_is r d f with ⟨e, hl, he⟩ | ⟨H, M, S, F, hl, he, f0, f1, H0, H1, M0, M1, S0, S1, F0, F1, _, _⟩
  · have hx : lagR r d f = (0, e) := by unfold lagR; rw [hl]; simp; omega
    rw [hx]
    exact Lag_e r d f e w r0 r1 hl he
  · have hx : lagR r d f = (f * tk r - ((3600 * H + 60 * M + S) * 120000 + 120000 * F / nm r), 0) := by unfold lagR; rw [hl]; simp
    rw [hx]
    have hv := (rerr_ok r d he).1
    have hn := nm_bd r hv
    have hq := div_bd (nm r) F (kinds_n r d he) F0 F1
    have hp := mul_bd r f hv f0 (by have := (day_bd r d).2; omega)
    exact Lag_k r d f H M S F w r0 r1 hl hn.1 hn.2 H0 H1 M0 M1 S0 S1 F0 F1 hq.1 hq.2.1 hq.2.2.1 hq.2.2.2.1 hq.2.2.2.2 hp.1 hp.2

theorem RLag_any (r : Int) (d : Bool) (f : Int) (w : World) (r0 : 0 ≤ r) (r1 : r ≤ 255) :
    Calls Try.prog 25 #[.int .u8 r, .bool d, .int .i64 f] w fun e' w' => e' = .returned (.tuple #[.int .i64 (lagR r d f).1, .int .i64 (lagR r d f).2]) ∧ Below w.heap.size w w' := by
  rcases lab_is r d f with ⟨e, hl, he⟩ | ⟨H, M, S, F, hl, he, f0, f1, H0, H1, M0, M1, S0, S1, F0, F1, _, _⟩
  · have hx : lagR r d f = (0, e) := by unfold lagR; rw [hl]; simp; omega
    rw [hx]
    exact RLag_e r d f e w r0 r1 hl he
  · have hx : lagR r d f = (f * tk r - ((3600 * H + 60 * M + S) * 120000 + 120000 * F / nm r), 0) := by unfold lagR; rw [hl]; simp
    rw [hx]
    have hv := (rerr_ok r d he).1
    have hn := nm_bd r hv
    have hq := div_bd (nm r) F (kinds_n r d he) F0 F1
    have hp := mul_bd r f hv f0 (by have := (day_bd r d).2; omega)
    exact RLag_k r d f H M S F w r0 r1 hl hn.1 hn.2 H0 H1 M0 M1 S0 S1 F0 F1 hq.1 hq.2.1 hq.2.2.1 hq.2.2.2.1 hq.2.2.2.2 hp.1 hp.2

end Go.Proofs.Ytgllekaanaikhaa.Tb
