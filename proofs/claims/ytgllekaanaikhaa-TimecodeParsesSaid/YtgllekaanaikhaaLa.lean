/- The table of the seven rates, in integers, and the contracts of the functions that read it (timebase) and of their references. No condition but that a rate is a byte. -/
import Derived.Test.YtgllekaanaikhaaChecked
import Derived.Test.YtgllekaanaikhaaBase
import Derived.Test.YtgllekaanaikhaaTad
namespace Go.Proofs.Ytgllekaanaikhaa.Tb
open Go.RowKit Ba
set_option linter.unusedVariables false
set_option linter.unusedSimpArgs false

/-! ### Kinds of labels, days -/
def rerr (r : Int) (d : Bool) : Int := if va r = false then 3 else if d = true ∧ dr r = false then 13 else 0
def dp (r : Int) (d : Bool) : Int := if d = true then (if r = 7 then 4 else 2) else 0
def day (r : Int) (d : Bool) : Int := if rerr r d = 0 then 86400 * nm r - 1296 * dp r d else 0
theorem dp_bd (r : Int) (d : Bool) : 0 ≤ dp r d ∧ dp r d ≤ 4 := by unfold dp; (repeat' split) <;> omega
theorem rerr_v (r : Int) (d : Bool) (h : va r = false) : rerr r d = 3 := by unfold rerr; rw [if_pos h]
theorem rerr_d (r : Int) (h : va r = true) (hd : dr r = false) : rerr r true = 13 := by unfold rerr; rw [if_neg (by simp [h]), if_pos ⟨rfl, hd⟩]
theorem rerr_0 (r : Int) (d : Bool) (h : va r = true) (hd : d = false ∨ dr r = true) : rerr r d = 0 := by
  unfold rerr; rw [if_neg (by simp [h]), if_neg]
  rintro ⟨h1, h2⟩
  rcases hd with hd | hd <;> simp_all
theorem rerr_ok (r : Int) (d : Bool) (h : rerr r d = 0) : va r = true ∧ (d = false ∨ dr r = true) := by
  unfold rerr at h
  split at h
  · omega
  · split at h
    · omega
    · rename_i h1 h2
      refine ⟨by simpa using h1, ?_⟩
      cases d
      · exact .inl rfl
      · right; simpa using h2
theorem day_bd (r : Int) (d : Bool) : 0 ≤ day r d ∧ day r d ≤ 5184000 := by
  unfold day
  split
  · rename_i h
    obtain ⟨hv, _⟩ := rerr_ok r d h
    have := nm_bd r hv
    have := dp_bd r d
    omega
  · omega

theorem rateError_ok (r : Int) (d : Bool) (w : World) (r0 : 0 ≤ r) (r1 : r ≤ 255) :
    Calls Try.prog 38 #[.int .u8 r, .bool d] w fun e w' => e = .returned (.int .i64 (rerr r d)) ∧ Below w.heap.size w w' := by
  rcases va_cases r with hv | hv
  · cases d
    · rw [rerr_0 r false hv (.inl rfl)]
      go_enter Try.func38, Try.ntmps38
      go_wp2_with (first | (go_at_call 41; refine (Valid_ok _ _ r0 r1).mono ?_; rintro e w1 ⟨rfl, hb1⟩; have hz1 := hb1.size; (try simp at hz1)) | (go_at_call 47; refine (RValid_ok _ _ r0 r1).mono ?_; rintro e w' ⟨rfl, rfl⟩) | (go_at_call 52; refine (CanDrop_ok _ _ r0 r1).mono ?_; rintro e w1 ⟨rfl, hb1⟩; have hz1 := hb1.size; (try simp at hz1)) | (go_at_call 48; refine (RCanDrop_ok _ _ r0 r1).mono ?_; rintro e w' ⟨rfl, rfl⟩) | go_in)
      go_ret
      exact ⟨rfl, by (repeat (first | exact Below.refl _ _ | assumption | refine Ba.below_step (by assumption) (by first | exact Nat.le_refl _ | omega | (simp; done) | (simp; omega)) ?_ | apply Below.drew | apply Ba.below_drewN | refine Below.alloc ?_ (by first | exact Nat.le_refl _ | omega | (simp; done) | (simp; omega)) _ | refine Below.setCell ?_ (by first | exact Nat.le_refl _ | omega | (simp; done) | (simp; omega)) _))⟩
    · cases hd : dr r
      · rw [rerr_d r hv hd]
        go_enter Try.func38, Try.ntmps38
        go_wp2_with (first | (go_at_call 41; refine (Valid_ok _ _ r0 r1).mono ?_; rintro e w1 ⟨rfl, hb1⟩; have hz1 := hb1.size; (try simp at hz1)) | (go_at_call 47; refine (RValid_ok _ _ r0 r1).mono ?_; rintro e w' ⟨rfl, rfl⟩) | (go_at_call 52; refine (CanDrop_ok _ _ r0 r1).mono ?_; rintro e w1 ⟨rfl, hb1⟩; have hz1 := hb1.size; (try simp at hz1)) | (go_at_call 48; refine (RCanDrop_ok _ _ r0 r1).mono ?_; rintro e w' ⟨rfl, rfl⟩) | go_in)
        go_ret
        exact ⟨rfl, by (repeat (first | exact Below.refl _ _ | assumption | refine Ba.below_step (by assumption) (by first | exact Nat.le_refl _ | omega | (simp; done) | (simp; omega)) ?_ | apply Below.drew | apply Ba.below_drewN | refine Below.alloc ?_ (by first | exact Nat.le_refl _ | omega | (simp; done) | (simp; omega)) _ | refine Below.setCell ?_ (by first | exact Nat.le_refl _ | omega | (simp; done) | (simp; omega)) _))⟩
      · rw [rerr_0 r true hv (.inr hd)]
        go_enter Try.func38, Try.ntmps38
        go_wp2_with (first | (go_at_call 41; refine (Valid_ok _ _ r0 r1).mono ?_; rintro e w1 ⟨rfl, hb1⟩; have hz1 := hb1.size; (try simp at hz1)) | (go_at_call 47; refine (RValid_ok _ _ r0 r1).mono ?_; rintro e w' ⟨rfl, rfl⟩) | (go_at_call 52; refine (CanDrop_ok _ _ r0 r1).mono ?_; rintro e w1 ⟨rfl, hb1⟩; have hz1 := hb1.size; (try simp at hz1)) | (go_at_call 48; refine (RCanDrop_ok _ _ r0 r1).mono ?_; rintro e w' ⟨rfl, rfl⟩) | go_in)
        go_ret
        exact ⟨rfl, by (repeat (first | exact Below.refl _ _ | assumption | refine Ba.below_step (by assumption) (by first | exact Nat.le_refl _ | omega | (simp; done) | (simp; omega)) ?_ | apply Below.drew | apply Ba.below_drewN | refine Below.alloc ?_ (by first | exact Nat.le_refl _ | omega | (simp; done) | (simp; omega)) _ | refine Below.setCell ?_ (by first | exact Nat.le_refl _ | omega | (simp; done) | (simp; omega)) _))⟩
  · rw [rerr_v r d hv]
    go_enter Try.func38, Try.ntmps38
    go_wp2_with (first | (go_at_call 41; refine (Valid_ok _ _ r0 r1).mono ?_; rintro e w1 ⟨rfl, hb1⟩; have hz1 := hb1.size; (try simp at hz1)) | (go_at_call 47; refine (RValid_ok _ _ r0 r1).mono ?_; rintro e w' ⟨rfl, rfl⟩) | (go_at_call 52; refine (CanDrop_ok _ _ r0 r1).mono ?_; rintro e w1 ⟨rfl, hb1⟩; have hz1 := hb1.size; (try simp at hz1)) | (go_at_call 48; refine (RCanDrop_ok _ _ r0 r1).mono ?_; rintro e w' ⟨rfl, rfl⟩) | go_in)
    go_ret
    exact ⟨rfl, by (repeat (first | exact Below.refl _ _ | assumption | refine Ba.below_step (by assumption) (by first | exact Nat.le_refl _ | omega | (simp; done) | (simp; omega)) ?_ | apply Below.drew | apply Ba.below_drewN | refine Below.alloc ?_ (by first | exact Nat.le_refl _ | omega | (simp; done) | (simp; omega)) _ | refine Below.setCell ?_ (by first | exact Nat.le_refl _ | omega | (simp; done) | (simp; omega)) _))⟩

theorem kind_ok (r : Int) (d : Bool) (w : World) (r0 : 0 ≤ r) (r1 : r ≤ 255) :
    Calls Try.prog 44 #[.int .u8 r, .bool d] w fun e w' => e = .returned (.int .i64 (rerr r d)) ∧ Below w.heap.size w w' := by
  rcases va_cases r with hv | hv
  · cases d
    · rw [rerr_0 r false hv (.inl rfl)]
      go_enter Try.func44, Try.ntmps44
      go_wp2_with (first | (go_at_call 41; refine (Valid_ok _ _ r0 r1).mono ?_; rintro e w1 ⟨rfl, hb1⟩; have hz1 := hb1.size; (try simp at hz1)) | (go_at_call 47; refine (RValid_ok _ _ r0 r1).mono ?_; rintro e w' ⟨rfl, rfl⟩) | (go_at_call 52; refine (CanDrop_ok _ _ r0 r1).mono ?_; rintro e w1 ⟨rfl, hb1⟩; have hz1 := hb1.size; (try simp at hz1)) | (go_at_call 48; refine (RCanDrop_ok _ _ r0 r1).mono ?_; rintro e w' ⟨rfl, rfl⟩) | go_in)
      go_ret
      exact ⟨rfl, by (repeat (first | exact Below.refl _ _ | assumption | refine Ba.below_step (by assumption) (by first | exact Nat.le_refl _ | omega | (simp; done) | (simp; omega)) ?_ | apply Below.drew | apply Ba.below_drewN | refine Below.alloc ?_ (by first | exact Nat.le_refl _ | omega | (simp; done) | (simp; omega)) _ | refine Below.setCell ?_ (by first | exact Nat.le_refl _ | omega | (simp; done) | (simp; omega)) _))⟩
    · cases hd : dr r
      · rw [rerr_d r hv hd]
        go_enter Try.func44, Try.ntmps44
        go_wp2_with (first | (go_at_call 41; refine (Valid_ok _ _ r0 r1).mono ?_; rintro e w1 ⟨rfl, hb1⟩; have hz1 := hb1.size; (try simp at hz1)) | (go_at_call 47; refine (RValid_ok _ _ r0 r1).mono ?_; rintro e w' ⟨rfl, rfl⟩) | (go_at_call 52; refine (CanDrop_ok _ _ r0 r1).mono ?_; rintro e w1 ⟨rfl, hb1⟩; have hz1 := hb1.size; (try simp at hz1)) | (go_at_call 48; refine (RCanDrop_ok _ _ r0 r1).mono ?_; rintro e w' ⟨rfl, rfl⟩) | go_in)
        go_ret
        exact ⟨rfl, by (repeat (first | exact Below.refl _ _ | assumption | refine Ba.below_step (by assumption) (by first | exact Nat.le_refl _ | omega | (simp; done) | (simp; omega)) ?_ | apply Below.drew | apply Ba.below_drewN | refine Below.alloc ?_ (by first | exact Nat.le_refl _ | omega | (simp; done) | (simp; omega)) _ | refine Below.setCell ?_ (by first | exact Nat.le_refl _ | omega | (simp; done) | (simp; omega)) _))⟩
      · rw [rerr_0 r true hv (.inr hd)]
        go_enter Try.func44, Try.ntmps44
        go_wp2_with (first | (go_at_call 41; refine (Valid_ok _ _ r0 r1).mono ?_; rintro e w1 ⟨rfl, hb1⟩; have hz1 := hb1.size; (try simp at hz1)) | (go_at_call 47; refine (RValid_ok _ _ r0 r1).mono ?_; rintro e w' ⟨rfl, rfl⟩) | (go_at_call 52; refine (CanDrop_ok _ _ r0 r1).mono ?_; rintro e w1 ⟨rfl, hb1⟩; have hz1 := hb1.size; (try simp at hz1)) | (go_at_call 48; refine (RCanDrop_ok _ _ r0 r1).mono ?_; rintro e w' ⟨rfl, rfl⟩) | go_in)
        go_ret
        exact ⟨rfl, by (repeat (first | exact Below.refl _ _ | assumption | refine Ba.below_step (by assumption) (by first | exact Nat.le_refl _ | omega | (simp; done) | (simp; omega)) ?_ | apply Below.drew | apply Ba.below_drewN | refine Below.alloc ?_ (by first | exact Nat.le_refl _ | omega | (simp; done) | (simp; omega)) _ | refine Below.setCell ?_ (by first | exact Nat.le_refl _ | omega | (simp; done) | (simp; omega)) _))⟩
  · rw [rerr_v r d hv]
    go_enter Try.func44, Try.ntmps44
    go_wp2_with (first | (go_at_call 41; refine (Valid_ok _ _ r0 r1).mono ?_; rintro e w1 ⟨rfl, hb1⟩; have hz1 := hb1.size; (try simp at hz1)) | (go_at_call 47; refine (RValid_ok _ _ r0 r1).mono ?_; rintro e w' ⟨rfl, rfl⟩) | (go_at_call 52; refine (CanDrop_ok _ _ r0 r1).mono ?_; rintro e w1 ⟨rfl, hb1⟩; have hz1 := hb1.size; (try simp at hz1)) | (go_at_call 48; refine (RCanDrop_ok _ _ r0 r1).mono ?_; rintro e w' ⟨rfl, rfl⟩) | go_in)
    go_ret
    exact ⟨rfl, by (repeat (first | exact Below.refl _ _ | assumption | refine Ba.below_step (by assumption) (by first | exact Nat.le_refl _ | omega | (simp; done) | (simp; omega)) ?_ | apply Below.drew | apply Ba.below_drewN | refine Below.alloc ?_ (by first | exact Nat.le_refl _ | omega | (simp; done) | (simp; omega)) _ | refine Below.setCell ?_ (by first | exact Nat.le_refl _ | omega | (simp; done) | (simp; omega)) _))⟩


theorem dropped_ok (r : Int) (d : Bool) (w : World) (r0 : 0 ≤ r) (r1 : r ≤ 255) :
    Calls Try.prog 39 #[.int .u8 r, .bool d] w fun e w' => e = .returned (.int .i64 (dp r d)) ∧ w = w' := by
  cases d
  · go_enter Try.func39, Try.ntmps39
    go_wp2
    go_ret
    exact ⟨rfl, rfl⟩
  · by_cases h : r = 7
    · subst h
      go_enter Try.func39, Try.ntmps39
      go_wp2
      go_ret
      exact ⟨rfl, rfl⟩
    · have hd : dp r true = 2 := by unfold dp; simp [h]
      have h7 : (r == 7) = false := by simpa using h
      rw [hd]
      clear hd h
      go_enter Try.func39, Try.ntmps39
      go_wp2
      go_ret
      exact ⟨rfl, rfl⟩
theorem Dropped_ok (r : Int) (w : World) (r0 : 0 ≤ r) (r1 : r ≤ 255) :
    Calls Try.prog 46 #[.int .u8 r] w fun e w' => e = .returned (.int .i64 (dp r true)) ∧ w = w' := by
  by_cases h : r = 7
  · subst h
    go_enter Try.func46, Try.ntmps46
    go_wp2
    go_ret
    exact ⟨rfl, rfl⟩
  · have hd : dp r true = 2 := by unfold dp; simp [h]
    have h7 : (r == 7) = false := by simpa using h
    rw [hd]
    clear hd h
    go_enter Try.func46, Try.ntmps46
    go_wp2
    go_ret
    exact ⟨rfl, rfl⟩

theorem Day_any (r : Int) (d : Bool) (w : World) (r0 : 0 ≤ r) (r1 : r ≤ 255) :
    Calls Try.prog 14 #[.int .u8 r, .bool d] w fun e w' => e = .returned (.int .i64 (day r d)) ∧ Below w.heap.size w w' := by
  by_cases h : rerr r d = 0
  · obtain ⟨hv, _⟩ := rerr_ok r d h
    obtain ⟨n0, n1⟩ := nm_bd r hv
    obtain ⟨d0, d1⟩ := dp_bd r d
    have hd : day r d = 86400 * nm r - 1296 * dp r d := by unfold day; rw [if_pos h]
    rw [hd]
    clear hd
    go_enter Try.func14, Try.ntmps14
    go_wp2_with (first | (go_at_call 38; refine (rateError_ok _ _ _ r0 r1).mono ?_; rintro e w1 ⟨rfl, hb1⟩; have hz1 := hb1.size; (try simp at hz1)) | (go_at_call 21; refine (Nominal_ok _ _ r0 r1).mono ?_; rintro e w1 ⟨rfl, hb1⟩; have hz1 := hb1.size; (try simp at hz1)) | (go_at_call 45; refine (RNominal_ok _ _ r0 r1).mono ?_; rintro e w1 ⟨rfl, hb1⟩; have hz1 := hb1.size; (try simp at hz1)) | (go_at_call 39; refine (dropped_ok _ _ _ r0 r1).mono ?_; rintro e w' ⟨rfl, rfl⟩) | go_in)
    go_ret
    exact ⟨rfl, by (repeat (first | exact Below.refl _ _ | assumption | refine Ba.below_step (by assumption) (by first | exact Nat.le_refl _ | omega | (simp; done) | (simp; omega)) ?_ | apply Below.drew | apply Ba.below_drewN | refine Below.alloc ?_ (by first | exact Nat.le_refl _ | omega | (simp; done) | (simp; omega)) _ | refine Below.setCell ?_ (by first | exact Nat.le_refl _ | omega | (simp; done) | (simp; omega)) _))⟩
  · have hd : day r d = 0 := by unfold day; rw [if_neg h]
    have h1 : (rerr r d != 0) = true := by simpa using h
    rw [hd]
    clear hd h
    go_enter Try.func14, Try.ntmps14
    go_wp2_with (first | (go_at_call 38; refine (rateError_ok _ _ _ r0 r1).mono ?_; rintro e w1 ⟨rfl, hb1⟩; have hz1 := hb1.size; (try simp at hz1)) | go_in)
    go_ret
    exact ⟨rfl, by (repeat (first | exact Below.refl _ _ | assumption | refine Ba.below_step (by assumption) (by first | exact Nat.le_refl _ | omega | (simp; done) | (simp; omega)) ?_ | apply Below.drew | apply Ba.below_drewN | refine Below.alloc ?_ (by first | exact Nat.le_refl _ | omega | (simp; done) | (simp; omega)) _ | refine Below.setCell ?_ (by first | exact Nat.le_refl _ | omega | (simp; done) | (simp; omega)) _))⟩
theorem RDay_any (r : Int) (d : Bool) (w : World) (r0 : 0 ≤ r) (r1 : r ≤ 255) :
    Calls Try.prog 24 #[.int .u8 r, .bool d] w fun e w' => e = .returned (.int .i64 (day r d)) ∧ Below w.heap.size w w' := by
  rcases va_cases r with hv | hv
  · obtain ⟨n0, n1⟩ := nm_bd r hv
    cases d
    · have hd : day r false = 86400 * nm r := by unfold day; rw [if_pos (rerr_0 r false hv (.inl rfl))]; unfold dp; simp
      rw [hd]
      clear hd
      go_enter Try.func24, Try.ntmps24
      go_wp2_with (first | (go_at_call 41; refine (Valid_ok _ _ r0 r1).mono ?_; rintro e w1 ⟨rfl, hb1⟩; have hz1 := hb1.size; (try simp at hz1)) | (go_at_call 47; refine (RValid_ok _ _ r0 r1).mono ?_; rintro e w' ⟨rfl, rfl⟩) | (go_at_call 52; refine (CanDrop_ok _ _ r0 r1).mono ?_; rintro e w1 ⟨rfl, hb1⟩; have hz1 := hb1.size; (try simp at hz1)) | (go_at_call 48; refine (RCanDrop_ok _ _ r0 r1).mono ?_; rintro e w' ⟨rfl, rfl⟩) | (go_at_call 21; refine (Nominal_ok _ _ r0 r1).mono ?_; rintro e w1 ⟨rfl, hb1⟩; have hz1 := hb1.size; (try simp at hz1)) | (go_at_call 45; refine (RNominal_ok _ _ r0 r1).mono ?_; rintro e w1 ⟨rfl, hb1⟩; have hz1 := hb1.size; (try simp at hz1)) | go_in)
      go_ret
      exact ⟨rfl, by (repeat (first | exact Below.refl _ _ | assumption | refine Ba.below_step (by assumption) (by first | exact Nat.le_refl _ | omega | (simp; done) | (simp; omega)) ?_ | apply Below.drew | apply Ba.below_drewN | refine Below.alloc ?_ (by first | exact Nat.le_refl _ | omega | (simp; done) | (simp; omega)) _ | refine Below.setCell ?_ (by first | exact Nat.le_refl _ | omega | (simp; done) | (simp; omega)) _))⟩
    · obtain ⟨d0, d1⟩ := dp_bd r true
      cases hdr : dr r
      · have hd : day r true = 0 := by unfold day; rw [if_neg (by rw [rerr_d r hv hdr]; omega)]
        rw [hd]
        clear hd
        go_enter Try.func24, Try.ntmps24
        go_wp2_with (first | (go_at_call 41; refine (Valid_ok _ _ r0 r1).mono ?_; rintro e w1 ⟨rfl, hb1⟩; have hz1 := hb1.size; (try simp at hz1)) | (go_at_call 47; refine (RValid_ok _ _ r0 r1).mono ?_; rintro e w' ⟨rfl, rfl⟩) | (go_at_call 52; refine (CanDrop_ok _ _ r0 r1).mono ?_; rintro e w1 ⟨rfl, hb1⟩; have hz1 := hb1.size; (try simp at hz1)) | (go_at_call 48; refine (RCanDrop_ok _ _ r0 r1).mono ?_; rintro e w' ⟨rfl, rfl⟩) | (go_at_call 21; refine (Nominal_ok _ _ r0 r1).mono ?_; rintro e w1 ⟨rfl, hb1⟩; have hz1 := hb1.size; (try simp at hz1)) | (go_at_call 45; refine (RNominal_ok _ _ r0 r1).mono ?_; rintro e w1 ⟨rfl, hb1⟩; have hz1 := hb1.size; (try simp at hz1)) | go_in)
        go_ret
        exact ⟨rfl, by (repeat (first | exact Below.refl _ _ | assumption | refine Ba.below_step (by assumption) (by first | exact Nat.le_refl _ | omega | (simp; done) | (simp; omega)) ?_ | apply Below.drew | apply Ba.below_drewN | refine Below.alloc ?_ (by first | exact Nat.le_refl _ | omega | (simp; done) | (simp; omega)) _ | refine Below.setCell ?_ (by first | exact Nat.le_refl _ | omega | (simp; done) | (simp; omega)) _))⟩
      · have hd : day r true = 86400 * nm r - dp r true * 1296 := by unfold day; rw [if_pos (rerr_0 r true hv (.inr hdr))]; omega
        rw [hd]
        clear hd
        go_enter Try.func24, Try.ntmps24
        go_wp2_with (first | (go_at_call 41; refine (Valid_ok _ _ r0 r1).mono ?_; rintro e w1 ⟨rfl, hb1⟩; have hz1 := hb1.size; (try simp at hz1)) | (go_at_call 47; refine (RValid_ok _ _ r0 r1).mono ?_; rintro e w' ⟨rfl, rfl⟩) | (go_at_call 52; refine (CanDrop_ok _ _ r0 r1).mono ?_; rintro e w1 ⟨rfl, hb1⟩; have hz1 := hb1.size; (try simp at hz1)) | (go_at_call 48; refine (RCanDrop_ok _ _ r0 r1).mono ?_; rintro e w' ⟨rfl, rfl⟩) | (go_at_call 21; refine (Nominal_ok _ _ r0 r1).mono ?_; rintro e w1 ⟨rfl, hb1⟩; have hz1 := hb1.size; (try simp at hz1)) | (go_at_call 45; refine (RNominal_ok _ _ r0 r1).mono ?_; rintro e w1 ⟨rfl, hb1⟩; have hz1 := hb1.size; (try simp at hz1)) | (go_at_call 46; refine (Dropped_ok _ _ r0 r1).mono ?_; rintro e w' ⟨rfl, rfl⟩) | go_in)
        go_ret
        exact ⟨rfl, by (repeat (first | exact Below.refl _ _ | assumption | refine Ba.below_step (by assumption) (by first | exact Nat.le_refl _ | omega | (simp; done) | (simp; omega)) ?_ | apply Below.drew | apply Ba.below_drewN | refine Below.alloc ?_ (by first | exact Nat.le_refl _ | omega | (simp; done) | (simp; omega)) _ | refine Below.setCell ?_ (by first | exact Nat.le_refl _ | omega | (simp; done) | (simp; omega)) _))⟩
  · have hd : day r d = 0 := by unfold day; rw [if_neg (by rw [rerr_v r d hv]; omega)]
    rw [hd]
    clear hd
    go_enter Try.func24, Try.ntmps24
    go_wp2_with (first | (go_at_call 41; refine (Valid_ok _ _ r0 r1).mono ?_; rintro e w1 ⟨rfl, hb1⟩; have hz1 := hb1.size; (try simp at hz1)) | (go_at_call 47; refine (RValid_ok _ _ r0 r1).mono ?_; rintro e w' ⟨rfl, rfl⟩) | (go_at_call 52; refine (CanDrop_ok _ _ r0 r1).mono ?_; rintro e w1 ⟨rfl, hb1⟩; have hz1 := hb1.size; (try simp at hz1)) | (go_at_call 48; refine (RCanDrop_ok _ _ r0 r1).mono ?_; rintro e w' ⟨rfl, rfl⟩) | (go_at_call 21; refine (Nominal_ok _ _ r0 r1).mono ?_; rintro e w1 ⟨rfl, hb1⟩; have hz1 := hb1.size; (try simp at hz1)) | (go_at_call 45; refine (RNominal_ok _ _ r0 r1).mono ?_; rintro e w1 ⟨rfl, hb1⟩; have hz1 := hb1.size; (try simp at hz1)) | go_in)
    go_ret
    exact ⟨rfl, by (repeat (first | exact Below.refl _ _ | assumption | refine Ba.below_step (by assumption) (by first | exact Nat.le_refl _ | omega | (simp; done) | (simp; omega)) ?_ | apply Below.drew | apply Ba.below_drewN | refine Below.alloc ?_ (by first | exact Nat.le_refl _ | omega | (simp; done) | (simp; omega)) _ | refine Below.setCell ?_ (by first | exact Nat.le_refl _ | omega | (simp; done) | (simp; omega)) _))⟩
end Go.Proofs.Ytgllekaanaikhaa.Tb
