/- The table of the seven rates, in integers, and the contracts of the functions that read it (timebase) and of their references. No condition but that a rate is a byte. -/
import Derived.Test.YthmolfgjligaoaaChecked
import Derived.Test.YthmolfgjligaoaaBase
import Derived.Test.YthmolfgjligaoaaTim
import Derived.Test.YthmolfgjligaoaaQuo
import Derived.Test.YthmolfgjligaoaaTcv
namespace Go.Proofs.Ythmolfgjligaoaa.Tb
open Go.RowKit Ba Qu
set_option linter.unusedVariables false
set_option linter.unusedSimpArgs false

/-! ### The plain law of conversions -/
theorem quo_mono (t u d m : Int) (hd : 0 < d) (h : t ≤ u) : quo t d m ≤ quo u d m := by
  have h1 := Int.mul_ediv_add_emod t d
  have h2 := Int.mul_ediv_add_emod u d
  have r1 := Int.emod_nonneg t (show d ≠ 0 by omega)
  have r2 := Int.emod_nonneg u (show d ≠ 0 by omega)
  have s1 := Int.emod_lt_of_pos t hd
  have s2 := Int.emod_lt_of_pos u hd
  have hq : t / d ≤ u / d := Int.ediv_le_ediv hd h
  have o1 := up_01 (t % d) d m
  have o2 := up_01 (u % d) d m
  unfold quo
  by_cases he : t / d = u / d
  · rw [← he] at h2 ⊢
    have hr : t % d ≤ u % d := by omega
    have : up (t % d) d m ≤ up (u % d) d m := by
      unfold up
      (repeat' split) <;> omega
    omega
  · omega
theorem quo_12 (t d : Int) (hd : 0 < d) : quo t d 1 ≤ quo t d 2 ∧ quo t d 2 ≤ quo t d 3 ∧ quo t d 3 - quo t d 1 ≤ 1 := by
  unfold quo up
  (repeat' split) <;> omega
/-- The nearest quotient: twice the distance from the number is at most the denominator. -/
theorem quo_near (t d : Int) (hd : 0 < d) : 2 * (quo t d 2 * d) ≤ 2 * t + d ∧ 2 * t < 2 * (quo t d 2 * d) + d + 1 - (if t % d = 0 then 0 else 0) := by
  have h1 := Int.mul_ediv_add_emod t d
  have r1 := Int.emod_nonneg t (show d ≠ 0 by omega)
  have s1 := Int.emod_lt_of_pos t hd
  have hm : t / d * d = d * (t / d) := Int.mul_comm _ _
  unfold quo
  rw [Int.add_mul]
  unfold up
  (repeat' split) <;> omega
/-- What comes within half a denominator is rounded back. -/
theorem quo_back (x d a : Int) (hd : 0 < d) (h1 : 2 * (a * d) - d ≤ 2 * x) (h2 : 2 * x < 2 * (a * d) + d) : quo x d 2 = a := by
  have e1 := Int.mul_ediv_add_emod x d
  have r1 := Int.emod_nonneg x (show d ≠ 0 by omega)
  have s1 := Int.emod_lt_of_pos x hd
  have hc : d * (x / d) = (x / d) * d := Int.mul_comm _ _
  -- q is a or a - 1
  have l1 : a - 1 ≤ x / d := by
    rw [Int.le_ediv_iff_mul_le hd, Int.sub_mul]; omega
  have l2 : x / d < a + 1 := by
    rw [Int.ediv_lt_iff_lt_mul hd, Int.add_mul]; omega
  unfold quo
  have hq : x / d = a ∨ x / d = a - 1 := by omega
  rcases hq with hq | hq
  · rw [hq] at hc e1 ⊢
    have : up (x % d) d 2 = 0 := by
      unfold up
      (repeat' split) <;> omega
    omega
  · rw [hq, Int.sub_mul] at hc
    rw [hq] at e1 ⊢
    have : up (x % d) d 2 = 1 := by
      unfold up
      (repeat' split) <;> omega
    omega

theorem conv_val (a b f m : Int) (h : (convR a b f m).2 = 0) :
    va a = true ∧ va b = true ∧ 1 ≤ m ∧ m ≤ 3 ∧ 0 ≤ f ∧ f ≤ 10378368000 / tk a ∧ (convR a b f m).1 = quo (f * tk a) (tk b) m ∧ quo (f * tk a) (tk b) m * tk b ≤ 10378368000 := by
  unfold convR at h ⊢
  split at h
  · simp at h
  · rename_i h1
    rw [if_neg h1]
    have ha : va a = true := by cases hh : va a <;> simp_all
    have hb : va b = true := by cases hh : va b <;> simp_all
    split at h
    · rename_i h2
      rw [if_pos h2]
      have hf : ¬ (f < 0 ∨ 10378368000 / tk a < f) := fun hc => by rw [time_rng a f ha hc] at h2; simp at h2
      have ht := time_fit a f ha (by omega) (by omega)
      rw [ht] at h ⊢
      simp only at h ⊢
      obtain ⟨p0, p1⟩ := time_bd a f ha (by omega) (by omega)
      have hq : ¬ 10378368000 < quo (f * tk a) (tk b) m * tk b := fun hc => by
        rw [frame_hi b _ m hb (by omega) (by omega) p0 p1 hc] at h; simp at h
      rw [frame_fit b _ m hb (by omega) (by omega) p0 p1 (by omega)]
      exact ⟨ha, hb, by omega, by omega, by omega, by omega, rfl, by omega⟩
    · rename_i h2
      exact absurd h h2
theorem conv_mono (a b f g m : Int) (hf : f ≤ g) (h1 : (convR a b f m).2 = 0) (h2 : (convR a b g m).2 = 0) : (convR a b f m).1 ≤ (convR a b g m).1 := by
  obtain ⟨ha, hb, _, _, f0, _, e1, _⟩ := conv_val _ _ _ _ h1
  obtain ⟨_, _, _, _, g0, _, e2, _⟩ := conv_val _ _ _ _ h2
  rw [e1, e2]
  have b1 := tk_bd b hb
  have b2 := tk_bd a ha
  exact quo_mono _ _ _ _ (by omega) (Int.mul_le_mul_of_nonneg_right hf (by omega))
theorem conv_three (a b f : Int) (h1 : (convR a b f 1).2 = 0) (h2 : (convR a b f 2).2 = 0) (h3 : (convR a b f 3).2 = 0) :
    (convR a b f 1).1 ≤ (convR a b f 2).1 ∧ (convR a b f 2).1 ≤ (convR a b f 3).1 ∧ (convR a b f 3).1 - (convR a b f 1).1 ≤ 1 := by
  obtain ⟨ha, hb, _, _, f0, _, e1, _⟩ := conv_val _ _ _ _ h1
  obtain ⟨_, _, _, _, _, _, e2, _⟩ := conv_val _ _ _ _ h2
  obtain ⟨_, _, _, _, _, _, e3, _⟩ := conv_val _ _ _ _ h3
  rw [e1, e2, e3]
  have b1 := tk_bd b hb
  exact quo_12 _ _ (by omega)
theorem convR_bd (a b f m : Int) : 0 ≤ (convR a b f m).1 ∧ (convR a b f m).1 ≤ 5184000 := by
  by_cases h : (convR a b f m).2 = 0
  · obtain ⟨ha, hb, _, _, f0, f1, e1, h2⟩ := conv_val _ _ _ _ h
    rw [e1]
    have b1 := tk_bd b hb
    have t0 := time_bd a f ha f0 f1
    have q0 := quo_bd (f * tk a) (tk b) m t0.1 (by omega)
    have : quo (f * tk a) (tk b) m * 2002 ≤ quo (f * tk a) (tk b) m * tk b := Int.mul_le_mul_of_nonneg_left (by omega) q0.1
    omega
  · unfold convR at h ⊢
    split at h
    · rename_i h1; rw [if_pos h1]; simp
    · rename_i h1
      rw [if_neg h1]
      split at h
      · rename_i h2
        rw [if_pos h2]
        have hz : (frameR b (timeR a f).1 m).1 = 0 := by
          unfold frameR at h ⊢
          split at h
          · rename_i h3; rw [if_pos h3]
          · rename_i h3
            rw [if_neg h3]
            split at h
            · rename_i h4; rw [if_pos h4]
            · rename_i h4
              rw [if_neg h4]
              split at h
              · rename_i h5; rw [if_pos h5]
              · simp at h
        rw [hz]; omega
      · rename_i h2; rw [if_neg h2]; simp
/-- A frame comes back from a rate whose frames are not longer. -/
theorem conv_back (a b f g : Int) (hl : tk b ≤ tk a) (h1 : (convR a b f 2).2 = 0) (hg : (convR a b f 2).1 = g) (h2 : (convR b a g 2).2 = 0) : (convR b a g 2).1 = f := by
  obtain ⟨ha, hb, _, _, f0, f1, e1, _⟩ := conv_val _ _ _ _ h1
  obtain ⟨_, _, _, _, g0, g1, e2, _⟩ := conv_val _ _ _ _ h2
  rw [e2]
  have b1 := tk_bd b hb
  have b2 := tk_bd a ha
  rw [hg] at e1
  have hn := quo_near (f * tk a) (tk b) (by omega)
  rw [← e1] at hn
  by_cases he : tk a = tk b
  · rw [he] at e1 hn ⊢
    have : g = f := by
      have hm : f * tk b % tk b = 0 := Int.mul_emod_left _ _
      have hdv : f * tk b / tk b = f := Int.mul_ediv_cancel _ (by omega)
      rw [e1]
      unfold quo
      rw [hm, hdv]
      unfold up
      simp
    subst this
    exact quo_back _ _ _ (by omega) (by omega) (by omega)
  · exact quo_back _ _ _ (by omega) (by simp at hn; omega) (by simp at hn; omega)
end Go.Proofs.Ythmolfgjligaoaa.Tb
