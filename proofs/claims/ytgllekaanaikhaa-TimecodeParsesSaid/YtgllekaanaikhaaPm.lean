/- Labels and frames lead back to each other: plain laws on integers, and what Frame, Shift and Between compute. No program in sight but the tables. -/
import Derived.Test.YtgllekaanaikhaaChecked
import Derived.Test.YtgllekaanaikhaaBase
import Derived.Test.YtgllekaanaikhaaLc
import Derived.Test.YtgllekaanaikhaaLd
namespace Go.Proofs.Ytgllekaanaikhaa.Tb
open Go.RowKit Ba
set_option linter.unusedVariables false
set_option linter.unusedSimpArgs false

theorem num_0 (n f : Int) : num n 0 f = f := by unfold num; split <;> omega
theorem back1_0 (n f H M S F : Int) (hk : n = 24 ∨ n = 25 ∨ n = 30 ∨ n = 50 ∨ n = 60) (hF : 0 ≤ F)
  (e1 : 3600*H+60*M+S = f / n) (e2 : F = f % n) : ((H*60+M)*60+S)*n+F = f := by
  rcases hk with h | h | h | h | h <;> subst h <;> omega
theorem back1_30 (f H M S F : Int) (f0 : 0 ≤ f) (f1 : f < 86400*30-1296*2) (H0 : 0 ≤ H) (M0 : 0 ≤ M) (M1 : M ≤ 59) (S0 : 0 ≤ S) (S1 : S ≤ 59) (F0 : 0 ≤ F) (F1 : F < 30)
   (e1 : 3600*H+60*M+S = num 30 2 f / 30) (e2 : F = num 30 2 f % 30) :
   ((H*60+M)*60+S)*30+F - 2*((H*60+M) - (H*60+M)/10) = f ∧ ¬ (S = 0 ∧ M % 10 ≠ 0 ∧ F < 2) := by
  have hN : ((H*60+M)*60+S)*30+F = num 30 2 f := by omega
  clear e1 e2
  unfold num at hN
  have hq : f = 17982 * (f / 17982) + f % 17982 := by omega
  generalize hqq : f / (600*30-9*2) = q at hN
  generalize hrr : f % (600*30-9*2) = s at hN
  have hf : f = 17982 * q + s := by omega
  have s0 : 0 ≤ s := by omega
  have s1 : s < 17982 := by omega
  split at hN
  · generalize hkk : (s - 60*30) / (60*30-2) = k at hN
    have k1 : 1798 * k ≤ s - 1800 := by omega
    have k2 : s - 1800 < 1798 * k + 1798 := by omega
    have hT : H*60+M = 10*q+1+k := by omega
    rw [hT]
    refine ⟨by omega, ?_⟩
    rintro ⟨a, b, c⟩
    omega
  · have hT : H*60+M = 10*q := by omega
    rw [hT]
    refine ⟨by omega, ?_⟩
    rintro ⟨a, b, c⟩
    omega
theorem back1_60 (f H M S F : Int) (f0 : 0 ≤ f) (f1 : f < 86400*60-1296*4) (H0 : 0 ≤ H) (M0 : 0 ≤ M) (M1 : M ≤ 59) (S0 : 0 ≤ S) (S1 : S ≤ 59) (F0 : 0 ≤ F) (F1 : F < 60)
   (e1 : 3600*H+60*M+S = num 60 4 f / 60) (e2 : F = num 60 4 f % 60) :
   ((H*60+M)*60+S)*60+F - 4*((H*60+M) - (H*60+M)/10) = f ∧ ¬ (S = 0 ∧ M % 10 ≠ 0 ∧ F < 4) := by
  have hN : ((H*60+M)*60+S)*60+F = num 60 4 f := by omega
  clear e1 e2
  unfold num at hN
  generalize hqq : f / (600*60-9*4) = q at hN
  generalize hrr : f % (600*60-9*4) = s at hN
  have hf : f = 35964 * q + s := by omega
  have s0 : 0 ≤ s := by omega
  have s1 : s < 35964 := by omega
  split at hN
  · generalize hkk : (s - 60*60) / (60*60-4) = k at hN
    have k1 : 3596 * k ≤ s - 3600 := by omega
    have k2 : s - 3600 < 3596 * k + 3596 := by omega
    have hT : H*60+M = 10*q+1+k := by omega
    rw [hT]
    refine ⟨by omega, ?_⟩
    rintro ⟨a, b, c⟩
    omega
  · have hT : H*60+M = 10*q := by omega
    rw [hT]
    refine ⟨by omega, ?_⟩
    rintro ⟨a, b, c⟩
    omega
theorem num_30 (q s : Int) (s0 : 0 ≤ s) (s1 : s < 17982) : num 30 2 (17982 * q + s) = if 1800 ≤ s then 17982 * q + s + 18 * q + 2 * ((s - 1800) / 1798 + 1) else 17982 * q + s + 18 * q := by
  unfold num
  have h1 : (17982 * q + s) / (600*30-9*2) = q := by omega
  have h2 : (17982 * q + s) % (600*30-9*2) = s := by omega
  rw [h1, h2]
  split <;> split <;> omega
theorem back2_30 (H M S F : Int) (H0 : 0 ≤ H) (H1 : H ≤ 23) (M0 : 0 ≤ M) (M1 : M ≤ 59) (S0 : 0 ≤ S) (S1 : S ≤ 59) (F0 : 0 ≤ F) (F1 : F < 30)
   (hh : ¬ (S = 0 ∧ M % 10 ≠ 0 ∧ F < 2)) (f : Int) (hf : f = ((H*60+M)*60+S)*30+F - 2*((H*60+M) - (H*60+M)/10)) :
   0 ≤ f ∧ f < 86400*30-1296*2 ∧ num 30 2 f = ((H*60+M)*60+S)*30+F := by
  generalize hT : H*60+M = T at hf ⊢
  generalize hP : S * 30 + F = P
  have hx : (T*60+S)*30+F = 1800 * T + P := by omega
  rw [hx] at hf ⊢
  have hM : M % 10 = T % 10 := by omega
  generalize hq : T / 10 = q at hf
  generalize hj : T % 10 = j at hM
  have hTq : T = 10 * q + j := by omega
  have t0 : 0 ≤ T := by omega
  have t1 : T ≤ 1439 := by omega
  have p0 : 0 ≤ P := by omega
  have p1 : P < 1800 := by omega
  have hp : j = 0 ∨ 2 ≤ P := by omega
  clear hT hP hx hM hh H0 H1 M0 M1 S0 S1 F0 F1
  have hs : f = 17982 * q + (1798 * j + P) := by omega
  have hs1 : 0 ≤ 1798 * j + P ∧ 1798 * j + P < 17982 := by omega
  refine ⟨by omega, by omega, ?_⟩
  rw [hs, num_30 q _ hs1.1 hs1.2]
  split
  · have : (1798 * j + P - 1800) / 1798 = j - 1 := by omega
    omega
  · omega
theorem num_60 (q s : Int) (s0 : 0 ≤ s) (s1 : s < 35964) : num 60 4 (35964 * q + s) = if 3600 ≤ s then 35964 * q + s + 36 * q + 4 * ((s - 3600) / 3596 + 1) else 35964 * q + s + 36 * q := by
  unfold num
  have h1 : (35964 * q + s) / (600*60-9*4) = q := by omega
  have h2 : (35964 * q + s) % (600*60-9*4) = s := by omega
  rw [h1, h2]
  split <;> split <;> omega
theorem back2_60 (H M S F : Int) (H0 : 0 ≤ H) (H1 : H ≤ 23) (M0 : 0 ≤ M) (M1 : M ≤ 59) (S0 : 0 ≤ S) (S1 : S ≤ 59) (F0 : 0 ≤ F) (F1 : F < 60)
   (hh : ¬ (S = 0 ∧ M % 10 ≠ 0 ∧ F < 4)) (f : Int) (hf : f = ((H*60+M)*60+S)*60+F - 4*((H*60+M) - (H*60+M)/10)) :
   0 ≤ f ∧ f < 86400*60-1296*4 ∧ num 60 4 f = ((H*60+M)*60+S)*60+F := by
  generalize hT : H*60+M = T at hf ⊢
  generalize hP : S * 60 + F = P
  have hx : (T*60+S)*60+F = 3600 * T + P := by omega
  rw [hx] at hf ⊢
  have hM : M % 10 = T % 10 := by omega
  generalize hq : T / 10 = q at hf
  generalize hj : T % 10 = j at hM
  have hTq : T = 10 * q + j := by omega
  have t0 : 0 ≤ T := by omega
  have t1 : T ≤ 1439 := by omega
  have p0 : 0 ≤ P := by omega
  have p1 : P < 3600 := by omega
  have hp : j = 0 ∨ 4 ≤ P := by omega
  clear hT hP hx hM hh H0 H1 M0 M1 S0 S1 F0 F1
  have hs : f = 35964 * q + (3596 * j + P) := by omega
  have hs1 : 0 ≤ 3596 * j + P ∧ 3596 * j + P < 35964 := by omega
  refine ⟨by omega, by omega, ?_⟩
  rw [hs, num_60 q _ hs1.1 hs1.2]
  split
  · have : (3596 * j + P - 3600) / 3596 = j - 1 := by omega
    omega
  · omega

def Kinds (n d : Int) : Prop := (n = 24 ∧ d = 0) ∨ (n = 25 ∧ d = 0) ∨ (n = 30 ∧ d = 0) ∨ (n = 50 ∧ d = 0) ∨ (n = 60 ∧ d = 0) ∨ (n = 30 ∧ d = 2) ∨ (n = 60 ∧ d = 4)
/-- The frame that a label says, by its parts. -/
def frN (n d H M S F : Int) : Int := ((H * 60 + M) * 60 + S) * n + F - d * (H * 60 + M - (H * 60 + M) / 10)
theorem back1 (n d f H M S F : Int) (hk : Kinds n d) (f0 : 0 ≤ f) (f1 : f < 86400 * n - 1296 * d) (H0 : 0 ≤ H) (M0 : 0 ≤ M) (M1 : M ≤ 59) (S0 : 0 ≤ S) (S1 : S ≤ 59) (F0 : 0 ≤ F) (F1 : F < n)
    (e1 : 3600 * H + 60 * M + S = num n d f / n) (e2 : F = num n d f % n) : frN n d H M S F = f ∧ ¬ (S = 0 ∧ M % 10 ≠ 0 ∧ F < d) := by
  unfold frN
  rcases hk with ⟨h1, h2⟩ | ⟨h1, h2⟩ | ⟨h1, h2⟩ | ⟨h1, h2⟩ | ⟨h1, h2⟩ | ⟨h1, h2⟩ | ⟨h1, h2⟩ <;> subst h1 h2
  · rw [num_0] at e1 e2; exact ⟨by omega, by omega⟩
  · rw [num_0] at e1 e2; exact ⟨by omega, by omega⟩
  · rw [num_0] at e1 e2; exact ⟨by omega, by omega⟩
  · rw [num_0] at e1 e2; exact ⟨by omega, by omega⟩
  · rw [num_0] at e1 e2; exact ⟨by omega, by omega⟩
  · exact back1_30 f H M S F f0 f1 H0 M0 M1 S0 S1 F0 F1 e1 e2
  · exact back1_60 f H M S F f0 f1 H0 M0 M1 S0 S1 F0 F1 e1 e2
theorem back2 (n d H M S F : Int) (hk : Kinds n d) (H0 : 0 ≤ H) (H1 : H ≤ 23) (M0 : 0 ≤ M) (M1 : M ≤ 59) (S0 : 0 ≤ S) (S1 : S ≤ 59) (F0 : 0 ≤ F) (F1 : F < n)
    (hh : ¬ (S = 0 ∧ M % 10 ≠ 0 ∧ F < d)) : 0 ≤ frN n d H M S F ∧ frN n d H M S F < 86400 * n - 1296 * d ∧ num n d (frN n d H M S F) = ((H * 60 + M) * 60 + S) * n + F := by
  unfold frN
  rcases hk with ⟨h1, h2⟩ | ⟨h1, h2⟩ | ⟨h1, h2⟩ | ⟨h1, h2⟩ | ⟨h1, h2⟩ | ⟨h1, h2⟩ | ⟨h1, h2⟩ <;> subst h1 h2
  · rw [num_0]; exact ⟨by omega, by omega, by omega⟩
  · rw [num_0]; exact ⟨by omega, by omega, by omega⟩
  · rw [num_0]; exact ⟨by omega, by omega, by omega⟩
  · rw [num_0]; exact ⟨by omega, by omega, by omega⟩
  · rw [num_0]; exact ⟨by omega, by omega, by omega⟩
  · exact back2_30 H M S F H0 H1 M0 M1 S0 S1 F0 F1 hh _ rfl
  · exact back2_60 H M S F H0 H1 M0 M1 S0 S1 F0 F1 hh _ rfl

/-- The frame of an accepted label. -/
def fr (r h m s f : Int) (d : Bool) : Int := frN (nm r) (dp r d) h m s f
theorem chk_0 (r h m s f : Int) (d : Bool) (hc : chk r h m s f d = 0) : rerr r d = 0 ∧ 0 ≤ h ∧ h ≤ 23 ∧ 0 ≤ m ∧ m ≤ 59 ∧ 0 ≤ s ∧ s ≤ 59 ∧ 0 ≤ f ∧ f < nm r ∧ ¬ (s = 0 ∧ m % 10 ≠ 0 ∧ f < dp r d) := by
  unfold chk at hc
  split at hc
  · omega
  · split at hc
    · omega
    · split at hc
      · omega
      · rename_i a b c
        exact ⟨by omega, by omega, by omega, by omega, by omega, by omega, by omega, by omega, by omega, c⟩
theorem chk_mk (r h m s f : Int) (d : Bool) (he : rerr r d = 0) (h0 : 0 ≤ h) (h1 : h ≤ 23) (m0 : 0 ≤ m) (m1 : m ≤ 59) (s0 : 0 ≤ s) (s1 : s ≤ 59) (f0 : 0 ≤ f) (f1 : f < nm r) (hh : ¬ (s = 0 ∧ m % 10 ≠ 0 ∧ f < dp r d)) : chk r h m s f d = 0 := by
  unfold chk
  rw [if_neg (by omega), if_neg (by omega), if_neg hh]
/-- A frame's label is accepted and leads back. -/
theorem lab_back (r : Int) (d : Bool) (f H M S F : Int) (h : labR r d f = (H, M, S, F, d, 0)) : chk r H M S F d = 0 ∧ fr r H M S F d = f ∧ 0 ≤ f ∧ f < day r d := by
  rcases lab_is r d f with ⟨e, hl, he⟩ | ⟨H', M', S', F', hl, he, f0, f1, H0, H1, M0, M1, S0, S1, F0, F1, e1, e2⟩
  · rw [hl] at h
    simp only [Prod.mk.injEq] at h
    omega
  · rw [hl] at h
    simp only [Prod.mk.injEq, and_true, true_and] at h
    obtain ⟨rfl, rfl, rfl, rfl⟩ := h
    have hd := day_eq r d he
    have hb := back1 (nm r) (dp r d) f _ _ _ _ (kinds r d he) f0 (by omega) H0 M0 M1 S0 S1 F0 F1 e1 e2
    exact ⟨chk_mk r _ _ _ _ d he H0 H1 M0 M1 S0 S1 F0 F1 hb.2, hb.1, f0, f1⟩
theorem cut_of (n H M S F : Int) (hk : n = 24 ∨ n = 25 ∨ n = 30 ∨ n = 50 ∨ n = 60) (H0 : 0 ≤ H) (M0 : 0 ≤ M) (M1 : M ≤ 59) (S0 : 0 ≤ S) (S1 : S ≤ 59) (F0 : 0 ≤ F) (F1 : F < n) :
    (((H * 60 + M) * 60 + S) * n + F) / n / 3600 = H ∧ (((H * 60 + M) * 60 + S) * n + F) / n / 60 % 60 = M ∧ (((H * 60 + M) * 60 + S) * n + F) / n % 60 = S ∧ (((H * 60 + M) * 60 + S) * n + F) % n = F := by
  rcases hk with h | h | h | h | h <;> subst h <;> omega
/-- An accepted label is that of its frame. -/
theorem fr_back (r h m s f : Int) (d : Bool) (hc : chk r h m s f d = 0) : 0 ≤ fr r h m s f d ∧ fr r h m s f d < day r d ∧ labR r d (fr r h m s f d) = (h, m, s, f, d, 0) := by
  obtain ⟨he, h0, h1, m0, m1, s0, s1, f0, f1, hh⟩ := chk_0 r h m s f d hc
  obtain ⟨b0, b1, b2⟩ := back2 (nm r) (dp r d) h m s f (kinds r d he) h0 h1 m0 m1 s0 s1 f0 f1 hh
  have hd := day_eq r d he
  refine ⟨b0, by unfold fr; omega, ?_⟩
  have hx : labR r d (fr r h m s f d) = split4 (nm r) d (num (nm r) (dp r d) (fr r h m s f d)) := by
    unfold labR; rw [if_neg (by omega), if_neg (by unfold fr; omega)]
  rw [hx]
  unfold split4
  have hn : num (nm r) (dp r d) (fr r h m s f d) = ((h * 60 + m) * 60 + s) * nm r + f := b2
  rw [hn]
  obtain ⟨c1, c2, c3, c4⟩ := cut_of (nm r) h m s f (kinds_n r d he) h0 m0 m1 s0 s1 f0 f1
  rw [c1, c2, c3, c4]
/-- Frame. -/
def frmR (r h m s f : Int) (d : Bool) : Int × Int := if chk r h m s f d ≠ 0 then (0, chk r h m s f d) else (fr r h m s f d, 0)
/-- Shift: the label of the frame so far behind, modulo a day. -/
def shfR (r h m s f : Int) (d : Bool) (n : Int) : Int × Int × Int × Int × Bool × Int :=
  if chk r h m s f d ≠ 0 then (0, 0, 0, 0, false, chk r h m s f d) else labR r d ((fr r h m s f d + n) % day r d)
/-- Between: the frames from one label to another, modulo a day. -/
def btwR (r h m s f : Int) (d : Bool) (h' m' s' f' : Int) (d' : Bool) : Int × Int :=
  if chk r h m s f d ≠ 0 then (0, chk r h m s f d) else if chk r h' m' s' f' d' ≠ 0 then (0, chk r h' m' s' f' d') else if d ≠ d' then (0, 1) else ((fr r h' m' s' f' d' - fr r h m s f d) % day r d, 0)
theorem fr_bd (r h m s f : Int) (d : Bool) (hc : chk r h m s f d = 0) : 0 ≤ fr r h m s f d ∧ fr r h m s f d < day r d ∧ day r d ≤ 5184000 := by
  have := fr_back r h m s f d hc
  exact ⟨this.1, this.2.1, (day_bd r d).2⟩
/-! Go's remainders -/
theorem tmod_is (n D : Int) (hD : 0 < D) : n.tmod D = n % D ∨ (n.tmod D = n % D - D ∧ n % D ≠ 0) := by
  have hDn : (D.natAbs : Int) = D := by omega
  rw [Int.tmod_eq_emod]
  split
  · left; omega
  · rename_i h
    refine .inr ⟨by omega, ?_⟩
    intro h3
    exact h (.inr (Int.dvd_of_emod_eq_zero h3))
theorem mod_mod (n D : Int) (hD : 0 < D) : (n.tmod D + D).tmod D = n % D := by
  have h0 := Int.emod_nonneg n (b := D) (by omega)
  have h1 := Int.emod_lt_of_pos n hD
  rcases tmod_is n D hD with h | ⟨h, _⟩
  · rw [h, Int.tmod_eq_emod_of_nonneg (by omega)]
    simp
  · have : n % D - D + D = n % D := by omega
    rw [h, this, Int.tmod_eq_emod_of_nonneg h0]
    exact Int.emod_eq_of_lt h0 h1
theorem mod_shift (x n D : Int) (hD : 0 < D) : ((x + n.tmod D).tmod D + D).tmod D = (x + n) % D := by
  rw [mod_mod _ D hD]
  rw [Int.add_emod x n, Int.add_emod x (n.tmod D)]
  congr 2
  rw [Int.tmod_eq_emod]
  split
  · simp
  · have : (D.natAbs : Int) = D := by omega
    rw [this]
    simp
theorem mod_ref (x n D : Int) (hD : 0 < D) : ((x + n % D).tmod D + D).tmod D = (x + n) % D := by
  rw [mod_mod _ D hD]
  simp
theorem tmod_bd (n D : Int) (hD : 0 < D) : -D < n.tmod D ∧ n.tmod D < D := by
  have h0 := Int.emod_nonneg n (b := D) (by omega)
  have h1 := Int.emod_lt_of_pos n hD
  rcases tmod_is n D hD with h | ⟨h, _⟩ <;> omega
end Go.Proofs.Ytgllekaanaikhaa.Tb
