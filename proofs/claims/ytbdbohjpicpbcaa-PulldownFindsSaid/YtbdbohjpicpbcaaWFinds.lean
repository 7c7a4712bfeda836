/- Contracts of layer 4 (pulldown) and of its reference: what each function returns, in integers. No condition but those that each theorem names. -/
import Derived.Test.YtbdbohjpicpbcaaChecked
import Derived.Test.YtbdbohjpicpbcaaPull
import Derived.Test.YtbdbohjpicpbcaaBase
import Derived.Test.YtbdbohjpicpbcaaPd
import Derived.Test.YtbdbohjpicpbcaaPf
import Derived.Test.YtbdbohjpicpbcaaPw
import Derived.Test.YtbdbohjpicpbcaaPh
import Derived.Test.YtbdbohjpicpbcaaOpen
import Derived.Laws.AppendOwn
namespace Go.Proofs.Ytbdbohjpicpbcaa.Pc
open Go.RowKit Pu Ba
set_option linter.unusedVariables false
set_option linter.unusedSimpArgs false

/-! ### The plain law: ten video frames tell the parity of a phase -/
theorem sn_par (p f : Int) : sn p f = sn (p % 2) f := by
  unfold sn
  have : (1 + p % 2 % 2) / 2 = (1 + p % 2) / 2 := by omega
  rw [this]
theorem cl_par (p v : Int) : cl p v = cl (p % 2) v := by
  unfold cl
  rw [sn_par p, sn_par p (2 * v)]
theorem cl_0 (v : Int) (h : v % 5 = 1) : cl 0 v = true := by
  rw [cl_iff]
  unfold sn
  (repeat' split) <;> omega
theorem cl_1 (v : Int) (h : v % 5 = 1) : cl 1 v = false := by
  cases hc : cl 1 v with
  | false => rfl
  | true =>
    rw [cl_iff] at hc
    unfold sn at hc
    (repeat' split at hc) <;> omega
theorem agr_all {p f : Int} {z : Nat → Bool} {n : Nat} (h : ∀ i : Nat, i < n → cl p (f + i) = z i) : agr p f z n = true := by
  induction n with
  | zero => rfl
  | succ n ih => exact agr_yes (ih fun i hi => h i (by omega)) (h n (by omega))
theorem agr_tell (p q f : Int) (z : Nat → Bool) (hz : ∀ i : Nat, i < 10 → z i = cl p (f + i)) : agr q f z 10 = decide (q % 2 = p % 2) := by
  by_cases h : q % 2 = p % 2
  · rw [decide_eq_true h]
    exact agr_all fun i hi => by rw [hz i hi, cl_par q, cl_par p, h]
  · rw [decide_eq_false h]
    -- the first frame behind f whose remainder by 5 is 1
    have hj : ∃ j : Nat, j < 10 ∧ (f + j) % 5 = 1 := ⟨((1 - f) % 5).toNat, by omega, by omega⟩
    obtain ⟨j, hj, hm⟩ := hj
    refine agr_no (k := j) ?_ hj
    rw [hz j hj, cl_par q, cl_par p]
    have hq : (q % 2 = 0 ∧ p % 2 = 1) ∨ (q % 2 = 1 ∧ p % 2 = 0) := by omega
    rcases hq with ⟨e1, e2⟩ | ⟨e1, e2⟩
    · rw [e1, e2, cl_0 _ hm, cl_1 _ hm]; simp
    · rw [e1, e2, cl_0 _ hm, cl_1 _ hm]; simp
theorem finds (p f : Int) (z : Nat → Bool) (f0 : 0 ≤ f) (f1 : f ≤ 5183990) (hz : ∀ i : Nat, i < 10 → z i = cl p (f + i)) : phaseR f 10 z = (p % 2, 0) := by
  rw [phase_fit f 10 z (by omega) (by omega) f0 (by omega)]
  unfold firstP
  rw [agr_tell p 0 f z hz, agr_tell p 1 f z hz, agr_tell p 2 f z hz, agr_tell p 3 f z hz]
  have : p % 2 = 0 ∨ p % 2 = 1 := by omega
  rcases this with h | h <;> simp [h]

theorem info4 : (Try.prog.info? 4).map (fun i => (i.zero, i.size, i.bytes)) = some (some (.bool false), 1, 1) := by kernel_rfl
def zs (p f : Int) (k : Nat) : List Value := (List.range k).map fun (i : Nat) => Value.bool (cl p (f + (i : Int)))
theorem zs_succ (p f : Int) (k : Nat) : zs p f k ++ [.bool (cl p (f + (k : Int)))] = zs p f (k + 1) := by unfold zs; rw [List.range_succ, List.map_append]; rfl
theorem row_cells {w : World} {base e : Nat} {v : Value} {p f : Int} {k : Nat} (h : w.ownsRow base e 1 v k (zs p f k)) (hk : 0 < k) :
    ∃ g cap, v = .slice (some ⟨g, 0, none⟩) k cap ∧ ∀ i, i < k → w.cell? ⟨g, 0 + i, none⟩ = some (.bool (cl p (f + (i : Int)))) := by
  obtain ⟨h1, h2⟩ := h
  rcases h2 with ⟨_, h0⟩ | ⟨g, cap, cur, hv, _, hh, hn, hm, hs, ht⟩
  · omega
  · refine ⟨g, cap, hv, fun i hi => ?_⟩
    rw [Nat.zero_add]
    have hc : w.cell? ⟨g, i, none⟩ = cur[i]? := cell_of_row w g i cur e (0, 0) hh
    rw [hc]
    have : (cur.toList.take (k * 1))[i]? = (zs p f k)[i]? := by rw [ht]
    rw [List.getElem?_take_of_lt (by omega)] at this
    rw [← Array.getElem?_toList, this]
    unfold zs
    simp [hi]

set_option maxRecDepth 100000 in
set_option maxHeartbeats 2000000 in
theorem Finds_core (w : World) (a0 f : Int) (i0 : 0 ≤ a0 ∧ a0 ≤ 255) (f0 : 0 ≤ f) (f1 : f ≤ 5183990) :
    Calls Try.prog 9 #[.int .u8 a0, .int .i64 f] w fun e w' => e = .returned (.bool true) ∧ Below w.heap.size w w' := by
  obtain ⟨j0, ji, jz0, jz1, jz2⟩ := info_parts info4
  have HF := Lib.hid (fun z => finds (a0 % 4) f z f0 f1)
  have HB := Lib.hid (fun v => back_fit (a0 % 4) v (by omega) (by omega))
  have t1 : decide (f < 0) = false := decide_eq_false (by omega)
  have t2 : decide (5183990 < f) = false := decide_eq_false (by omega)
  go_enter Try.func9, Try.ntmps9
  go_wp2_with (first | (go_at_call 11; refine (awake_ok _).mono ?_; rintro e w1 ⟨rfl, hb1⟩; obtain ⟨hc1, hf1, hz1⟩ := bcell hb1; (try simp at hz1)))
  clear hc1 hf1
  go_loopw [4, 6, 7] (fun r v i wr => r = .bool false ∧ (∃ k : Nat, k ≤ 10 ∧ i = .int .i64 k ∧ wr.ownsRow w.heap.size 4 1 v k (zs (a0 % 4) f k)) ∧ Below w.heap.size w wr) (fun _ _ i _ => 10 - (intOf i).toNat)
  case atStart => exact ⟨rfl, ⟨0, by omega, rfl, rfl, .inl ⟨rfl, rfl⟩⟩, by (repeat (first | exact Below.refl _ _ | assumption | refine Ba.below_step (by assumption) (by first | exact Nat.le_refl _ | omega | (simp; done) | (simp; omega)) ?_ | apply Below.drew | apply Ba.below_drewN | refine Below.alloc ?_ (by first | exact Nat.le_refl _ | omega | (simp; done) | (simp; omega)) _ | refine Below.setCell ?_ (by first | exact Nat.le_refl _ | omega | (simp; done) | (simp; omega)) _))⟩
  case round =>
    obtain ⟨rfl, ⟨k, hk, rfl, hown⟩, hbw⟩ := hrel
    have hzw := hbw.size
    by_cases hlt : k < 10
    · have kk : (k : Int) < 10 := by omega
      have HK := Lib.hid (HB.out (f + k) (by omega) (by omega))
      go_wp2_with (first | (go_at_call 14; refine (Back_any _ _ _).mono ?_; rintro e w' ⟨rfl, rfl⟩; rw [HK.out]) | (at_builtin; refine wpList_append_own _ rfl _ _ 36 rfl w.heap.size 4 j0 (.bool false) 1 1 Try.underlying36 ji jz0 jz1 jz2 rfl (by decide) _ _ _ rfl (hown.alloc _) ⟨wr.heap.size, 0, none⟩ 1 1 [.bool (cl (a0 % 4) (f + k))] rfl rfl ?c1 ?c2 ?c3 ?c4 ?c5 ?_))
      case c1 => exact cell_one_new _ _ _
      case c2 => intro u hu; simp at hu; subst hu; rfl
      case c3 => unfold maxLen; omega
      case c4 => omega
      case c5 => simp; omega
      intro v' w2 hown2 hgrow _
      rw [zs_succ] at hown2
      have HO := Lib.hid hown2
      have HW : Hid (Below w.heap.size w w2) := by
        refine Below.grown (hbw.alloc hzw _) hgrow (by simp; omega) ?_
        intro b hb
        exact (hown.lt b hb).1
      clear hown2 hgrow hown
      go_wp2
      go_roundw
      case rel => first | exact ⟨rfl, ⟨k + 1, by omega, by go_num, HO.out⟩, HW.out⟩ | ((repeat apply Exists.intro); exact ⟨⟨rfl, ⟨k + 1, by omega, by go_num, HO.out⟩, HW.out⟩, rfl⟩)
      case measure => simp [intOf]; omega
    · obtain rfl : k = 10 := by omega
      obtain ⟨g, cap, hv, hcl⟩ := row_cells hown (by omega)
      have HC := Lib.hid hcl
      clear hcl hown
      rw [hv]
      clear hv
      have HP := Lib.hid (HF.out (fun i => cl (a0 % 4) (f + (i : Int))) (fun _ _ => rfl))
      go_wp2_with (first | (go_at_call 22; refine (Phase_any f g 0 10 cap (fun i => cl (a0 % 4) (f + (i : Int))) _ (by omega) (by omega) (by omega) HC.out).mono ?_; rintro e w' ⟨rfl, rfl⟩; rw [HP.out]))
      go_ret
      refine ⟨rfl, ?_⟩
      (repeat (first | exact Below.refl _ _ | assumption | refine Ba.below_step (by assumption) (by first | exact Nat.le_refl _ | omega | (simp; done) | (simp; omega)) ?_ | apply Below.drew | apply Ba.below_drewN | refine Below.alloc ?_ (by first | exact Nat.le_refl _ | omega | (simp; done) | (simp; omega)) _ | refine Below.setCell ?_ (by first | exact Nat.le_refl _ | omega | (simp; done) | (simp; omega)) _))
theorem Finds_walk (w : World) (a0 : Int) (a1 : Int) (i0 : 0 ≤ a0 ∧ a0 ≤ 255) (i1 : -9223372036854775808 ≤ a1 ∧ a1 ≤ 9223372036854775807) :
    Calls Try.prog 9 #[.int .u8 a0, .int .i64 a1] w fun e w' => e = .returned (.bool true) ∧ Below w.heap.size w w' := by
  by_cases h1 : a1 < 0
  · have t3 : decide (a1 < 0) = true := decide_eq_true (by omega)
    go_enter Try.func9, Try.ntmps9
    go_wp2_with (first | (go_at_call 11; refine (awake_ok _).mono ?_; rintro e w1 ⟨rfl, hb1⟩; obtain ⟨hc1, hf1, hz1⟩ := bcell hb1; (try simp at hz1)))
    go_ret
    refine ⟨rfl, ?_⟩
    (repeat (first | exact Below.refl _ _ | assumption | refine Ba.below_step (by assumption) (by first | exact Nat.le_refl _ | omega | (simp; done) | (simp; omega)) ?_ | apply Below.drew | apply Ba.below_drewN | refine Below.alloc ?_ (by first | exact Nat.le_refl _ | omega | (simp; done) | (simp; omega)) _ | refine Below.setCell ?_ (by first | exact Nat.le_refl _ | omega | (simp; done) | (simp; omega)) _))
  by_cases h2 : 5183990 < a1
  · have t4 : decide (a1 < 0) = false := decide_eq_false (by omega)
    have t5 : decide (5183990 < a1) = true := decide_eq_true (by omega)
    go_enter Try.func9, Try.ntmps9
    go_wp2_with (first | (go_at_call 11; refine (awake_ok _).mono ?_; rintro e w1 ⟨rfl, hb1⟩; obtain ⟨hc1, hf1, hz1⟩ := bcell hb1; (try simp at hz1)))
    go_ret
    refine ⟨rfl, ?_⟩
    (repeat (first | exact Below.refl _ _ | assumption | refine Ba.below_step (by assumption) (by first | exact Nat.le_refl _ | omega | (simp; done) | (simp; omega)) ?_ | apply Below.drew | apply Ba.below_drewN | refine Below.alloc ?_ (by first | exact Nat.le_refl _ | omega | (simp; done) | (simp; omega)) _ | refine Below.setCell ?_ (by first | exact Nat.le_refl _ | omega | (simp; done) | (simp; omega)) _))
  exact Finds_core w a0 a1 i0 (by omega) (by omega)
end Go.Proofs.Ytbdbohjpicpbcaa.Pc
