/- The order of labels: frames, ranks and texts rise together. Plain laws. -/
import Derived.Test.YtgllekaanaikhaaChecked
import Derived.Test.YtgllekaanaikhaaBase
import Derived.Test.YtgllekaanaikhaaPt
import Derived.WalkLawsBesides
namespace Go.Proofs.Ytgllekaanaikhaa.Tb
open Go.RowKit Ba
set_option linter.unusedVariables false
set_option linter.unusedSimpArgs false

def lessL : List Int → List Int → Bool
  | _, [] => false
  | [], _ :: _ => true
  | a :: x, b :: y => decide (a < b) || (decide (a = b) && lessL x y)
theorem lessL_cons (a b : Int) (x y : List Int) : lessL (a :: x) (b :: y) = (decide (a < b) || (decide (a = b) && lessL x y)) := rfl
theorem less2 (a b : Int) (x y : List Int) : lessL ((48 + a / 10) :: (48 + a % 10) :: x) ((48 + b / 10) :: (48 + b % 10) :: y) = (decide (a < b) || (decide (a = b) && lessL x y)) := by
  rw [lessL_cons, lessL_cons]
  generalize lessL x y = t
  rw [Bool.eq_iff_iff]
  simp only [Bool.or_eq_true, Bool.and_eq_true, decide_eq_true_eq]
  constructor
  · rintro (h | ⟨h1, h2 | ⟨h2, h3⟩⟩)
    · left; omega
    · left; omega
    · right; exact ⟨by omega, h3⟩
  · rintro (h | ⟨h, h3⟩)
    · by_cases h1 : a / 10 = b / 10
      · right; exact ⟨by omega, .inl (by omega)⟩
      · left; omega
    · right; exact ⟨by omega, .inr ⟨by omega, h3⟩⟩
theorem less1 (c : Int) (x y : List Int) : lessL (c :: x) (c :: y) = lessL x y := by
  rw [lessL_cons]; simp
theorem u8_lt (a b : Int) (a0 : 0 ≤ a) (a1 : a ≤ 255) (b0 : 0 ≤ b) (b1 : b ≤ 255) : ((UInt8.ofNat a.toNat < UInt8.ofNat b.toNat) ↔ a < b) ∧ ((UInt8.ofNat a.toNat == UInt8.ofNat b.toNat) = decide (a = b)) := by
  have ha : (UInt8.ofNat a.toNat).toNat = a.toNat := by simp [UInt8.toNat_ofNat']; omega
  have hb : (UInt8.ofNat b.toNat).toNat = b.toNat := by simp [UInt8.toNat_ofNat']; omega
  constructor
  · rw [UInt8.lt_iff_toNat_lt, ha, hb]; omega
  · rw [Bool.eq_iff_iff, beq_iff_eq, decide_eq_true_eq]
    constructor
    · intro h
      have := congrArg UInt8.toNat h
      rw [ha, hb] at this
      omega
    · rintro rfl; rfl

theorem less_nums : ∀ (xs ys : List Int), (∀ a ∈ xs, 0 ≤ a ∧ a ≤ 255) → (∀ b ∈ ys, 0 ≤ b ∧ b ≤ 255) → Op.bytesLess (xs.map fun n => UInt8.ofNat n.toNat) (ys.map fun n => UInt8.ofNat n.toNat) = lessL xs ys
  | [], [], _, _ => rfl
  | _ :: _, [], _, _ => rfl
  | [], _ :: _, _, _ => rfl
  | a :: x, b :: y, hx, hy => by
    have h1 := hx a (by simp)
    have h2 := hy b (by simp)
    have ih := less_nums x y (fun c hc => hx c (by simp [hc])) (fun c hc => hy c (by simp [hc]))
    obtain ⟨u1, u2⟩ := u8_lt a b h1.1 h1.2 h2.1 h2.2
    rw [List.map_cons, List.map_cons, lessL_cons]
    show (decide (UInt8.ofNat a.toNat < UInt8.ofNat b.toNat) || (UInt8.ofNat a.toNat == UInt8.ofNat b.toNat && Op.bytesLess _ _)) = _
    rw [ih, u2]
    congr 1
    exact decide_eq_decide.2 u1
theorem txtL_bd (h m s f : Int) (d : Bool) (h0 : 0 ≤ h) (h1 : h ≤ 99) (m0 : 0 ≤ m) (m1 : m ≤ 99) (s0 : 0 ≤ s) (s1 : s ≤ 99) (f0 : 0 ≤ f) (f1 : f ≤ 99) : ∀ a ∈ txtL h m s f d, 0 ≤ a ∧ a ≤ 255 := by
  intro a ha
  have hs : sepd d = 58 ∨ sepd d = 59 := by cases d <;> decide
  unfold txtL at ha
  simp only [List.mem_cons, List.not_mem_nil, or_false] at ha
  omega
def rankI (h m s f : Int) : Int := ((h * 60 + m) * 60 + s) * 60 + f
theorem txt_less (h m s f i j k l : Int) (d : Bool) (h0 : 0 ≤ h) (h1 : h ≤ 99) (m0 : 0 ≤ m) (m1 : m ≤ 59) (s0 : 0 ≤ s) (s1 : s ≤ 59) (f0 : 0 ≤ f) (f1 : f ≤ 59) (i0 : 0 ≤ i) (i1 : i ≤ 99) (j0 : 0 ≤ j) (j1 : j ≤ 59) (k0 : 0 ≤ k) (k1 : k ≤ 59) (l0 : 0 ≤ l) (l1 : l ≤ 59)
    (hr : rankI h m s f < rankI i j k l) : Op.bytesLess (txt i j k l d).toList (txt h m s f d).toList = false ∧ ((txt i j k l d).toList == (txt h m s f d).toList) = false := by
  have e (h m s f : Int) : (txt h m s f d).toList = (txtL h m s f d).map fun n => UInt8.ofNat n.toNat := by rw [ByteArray.toList_eq]; rfl
  unfold rankI at hr
  have hl : lessL (txtL i j k l d) (txtL h m s f d) = false := by
    unfold txtL
    rw [less2, less1, less2, less1, less2, less1, less2]
    show (_ || (_ && (_ || (_ && (_ || (_ && (_ || (_ && lessL [] []))))))) ) = false
    simp [lessL]
    omega
  constructor
  · rw [e, e, less_nums _ _ (txtL_bd i j k l d i0 i1 j0 (by omega) k0 (by omega) l0 (by omega)) (txtL_bd h m s f d h0 h1 m0 (by omega) s0 (by omega) f0 (by omega))]
    exact hl
  · rw [beq_eq_false_iff_ne]
    intro hq
    have hq' : txt i j k l d = txt h m s f d := by
      rw [ByteArray.toList_eq, ByteArray.toList_eq] at hq
      apply ByteArray.ext
      exact Array.toList_inj.1 hq
    obtain ⟨a0, a1, _, a3, a4, _, a6, a7, _, a9, a10⟩ := txt_bt h m s f d h0 h1 m0 (by omega) s0 (by omega) f0 (by omega)
    obtain ⟨b0, b1, _, b3, b4, _, b6, b7, _, b9, b10⟩ := txt_bt i j k l d i0 i1 j0 (by omega) k0 (by omega) l0 (by omega)
    rw [hq'] at b0 b1 b3 b4 b6 b7 b9 b10
    omega
/-- Of two accepted labels the one with the later frame has the later rank. -/
theorem rank_lt (n d H M S F I J K L : Int) (hk : Kinds n d) (M0 : 0 ≤ M) (M1 : M ≤ 59) (S0 : 0 ≤ S) (S1 : S ≤ 59) (F0 : 0 ≤ F) (F1 : F < n) (J0 : 0 ≤ J) (J1 : J ≤ 59) (K0 : 0 ≤ K) (K1 : K ≤ 59) (L0 : 0 ≤ L) (L1 : L < n)
    (H0 : 0 ≤ H) (I0 : 0 ≤ I) (ha : ¬ (S = 0 ∧ M % 10 ≠ 0 ∧ F < d)) (hf : frN n d H M S F < frN n d I J K L) : rankI H M S F < rankI I J K L := by
  unfold frN at hf
  unfold rankI
  have hM : M % 10 = (H * 60 + M) % 10 := by omega
  rw [hM] at ha
  generalize hT : H * 60 + M = T at *
  generalize hU : I * 60 + J = U at *
  clear hM hT hU
  rcases hk with ⟨h1, h2⟩ | ⟨h1, h2⟩ | ⟨h1, h2⟩ | ⟨h1, h2⟩ | ⟨h1, h2⟩ | ⟨h1, h2⟩ | ⟨h1, h2⟩ <;> subst h1 h2
  · omega
  · omega
  · omega
  · omega
  · omega
  · rcases Int.lt_trichotomy T U with h | h | h
    · omega
    · subst h; omega
    · exfalso
      have : U + 2 ≤ T ∨ (U + 1 = T) := by omega
      rcases this with h3 | h3
      · omega
      · subst h3; omega
  · rcases Int.lt_trichotomy T U with h | h | h
    · omega
    · subst h; omega
    · exfalso
      have : U + 2 ≤ T ∨ (U + 1 = T) := by omega
      rcases this with h3 | h3
      · omega
      · subst h3; omega
theorem rank_of (r h m s f i j k l : Int) (d : Bool) (hc : chk r h m s f d = 0) (hb : chk r i j k l d = 0) (hf : fr r h m s f d < fr r i j k l d) : rankI h m s f < rankI i j k l := by
  obtain ⟨he, h0, h1, m0, m1, s0, s1, f0, f1, hh⟩ := chk_0 r h m s f d hc
  obtain ⟨_, i0, i1, j0, j1, k0, k1, l0, l1, _⟩ := chk_0 r i j k l d hb
  exact rank_lt (nm r) (dp r d) h m s f i j k l (kinds r d he) m0 m1 s0 s1 f0 f1 j0 j1 k0 k1 l0 l1 h0 i0 hh hf
end Go.Proofs.Ytgllekaanaikhaa.Tb
