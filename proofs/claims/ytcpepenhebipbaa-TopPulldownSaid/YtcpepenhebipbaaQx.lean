/- The statement TopPulldown, walked: the long way. -/
import Derived.Test.YtcpepenhebipbaaChecked
import Derived.Test.YtcpepenhebipbaaBase
import Derived.Test.YtcpepenhebipbaaQw
namespace Go.Proofs.Ytcpepenhebipbaa.Qi
open Go.RowKit Ba Pu Pc
set_option linter.unusedVariables false
set_option linter.unusedSimpArgs false

theorem wp_gen {P : Program} {c : Code} {Q : Exit → Act → World → Prop} {a : Act} {w : World} (h : ∀ W, W = w → c.wp P Q a W) : c.wp P Q a w := h w rfl
theorem own_below {wr w3 : World} {base : Nat} {e : TypeId} {s : Nat} {v : Value} {n : Nat} {xs : List Value} (h : wr.ownsRow base e s v n xs) (hb : Below wr.heap.size wr w3) : w3.ownsRow base e s v n xs := by
  refine ⟨h.1, ?_⟩
  rcases h.2 with h0 | ⟨g, cap, cur, rfl, hb0, hg, rest⟩
  · exact .inl h0
  · exact .inr ⟨g, cap, cur, rfl, hb0, (hb.block g (Array.getElem?_eq_some_iff.1 hg).1).trans hg, rest⟩
/-- The fields after k rounds. -/
def Lp1 (W : World) (a : Int) (len : Nat) (f : Nat → Int × Int) (v n : Value) (wr : World) : Prop :=
  ∃ k : Nat, k ≤ len ∧ n = .int .i64 (a + k) ∧ wr.ownsRow W.heap.size 23 2 v k (cells (upto f k)) ∧ Below W.heap.size W wr
/-- The sum after j rounds. -/
def Lp2 (V : World) (A : Int) (len : Nat) (f : Nat → Int × Int) (s i : Value) (wr : World) : Prop :=
  ∃ j : Nat, j ≤ len ∧ i = .int .i64 j ∧ s = .int .i64 ((f j).1 - A) ∧ Below V.heap.size V wr
/-- The video frames. -/
def Lp3 (V : World) (x y : Int) (i : Value) (wr : World) : Prop := ∃ n : Int, x ≤ n ∧ n ≤ y ∧ i = .int .i64 n ∧ Below V.heap.size V wr
set_option maxRecDepth 100000 in
set_option maxHeartbeats 4000000 in
theorem Top_k (w : World) (p a b x y : Int) (len : Nat) (f : Nat → Int × Int) (ha : 0 ≤ a) (hl : b = a + len) (hl1 : 1 ≤ len) (hl2 : len ≤ 200) (hb : b < 2592000) (HS : Hid (spanR p a b = (x, y, 0)))
    (HF : Hid (∀ k : Nat, k < len → fieldsR p (a + k) = ((f k).1, (f k).2, 0))) (HT : Hid (Tiles f)) (A E : Int) (A0 : 0 ≤ A) (E1 : E ≤ 12960003) (AE : A < E) (eA : A.tdiv 2 = x) (eE : (E + 1).tdiv 2 = y) (eA' : A / 2 = x) (eE' : (E + 1) / 2 = y) (fA : (f 0).1 = A) (HE : Hid ((f len).1 = E)) (x0 : 0 ≤ x) (y1 : y ≤ 6500000)
    (HV : Hid (∀ n : Int, x ≤ n → n < y → ∃ (fm : Int) (c : Bool) (u v : Int), backR p n = (fm, c, 0) ∧ fieldsR p fm = (u, v, 0) ∧ u ≤ 2 * n ∧ 2 * n < v ∧ c = decide (2 * n + 1 < v) ∧ (x < n → n + 1 < y → a ≤ fm ∧ fm < b)))
    (HB : Hid (∀ j, j ≤ len → A ≤ (f j).1 ∧ (f j).1 ≤ E))
    (HN : Hid (∀ (g c : Nat) (w : World), g < w.heap.size → At w g len f → Calls Try.prog 6 #[.slice (some ⟨g, 0, none⟩) len c] w (NormPost w A E))) :
    Calls Try.prog 3 #[.int .i64 p, .agg #[.int .i64 a, .int .i64 b]] w fun e w' => e = .returned (.bool true) ∧ Below w.heap.size w w' := by
  have H0 := Lib.hid span_awake
  obtain ⟨i0, hi, hz0, hz1, hz2⟩ := info_parts info_sp
  have HI := Lib.hid (And.intro hi (And.intro hz0 (And.intro hz1 hz2)))
  clear hi hz0 hz1 hz2
  have HL := Lib.hid hl
  have hbl : b ≤ a + 200 := by omega
  have hab : a < b := by omega
  clear hl
  have t1 : decide (200 < b - a) = false := decide_eq_false (by omega)
  have t2 : decide (2592000 ≤ b) = false := decide_eq_false (by omega)
  go_enter Try.func3, Try.ntmps3
  go_wp2_with (first | (have _t := hz1; clear _t; ((go_at_call 4; refine (Span_any _ _ _ _).mono ?_; rintro e w2 ⟨rfl, hb2⟩; obtain ⟨hc2, hf2, hz2⟩ := bcell hb2; (try simp at hz2))); rw [HS.out]; (try have y21 : w1.heap.size < w2.heap.size := (by omega)); (try have y20 : w.heap.size < w2.heap.size := (by omega))) | (((go_at_call 4; refine (Span_any _ _ _ _).mono ?_; rintro e w1 ⟨rfl, hb1⟩; obtain ⟨hc1, hf1, hz1⟩ := bcell hb1; (try simp at hz1))); rw [H0.out]; (try have y10 : w.heap.size < w1.heap.size := (by omega))) | fail)
  refine wp_gen ?_
  intro W hW
  have ca : W.cell? ⟨w.heap.size, 0, none⟩ = some (.int .i64 a) := by rw [hW]; go_cell
  have cb : W.cell? ⟨w.heap.size, 1, none⟩ = some (.int .i64 b) := by rw [hW]; go_cell
  have cx : W.cell? ⟨w2.heap.size, 0, none⟩ = some (.int .i64 x) := by rw [hW]; go_cell
  have cy : W.cell? ⟨w2.heap.size, 1, none⟩ = some (.int .i64 y) := by rw [hW]; go_cell
  have s3 : w.heap.size < W.heap.size := by rw [hW]; simp; omega
  have s7 : w2.heap.size < W.heap.size := by rw [hW]; simp
  have hbW : Below w.heap.size w W := by rw [hW]; (repeat (first | (with_reducible exact Below.refl _ _) | (with_reducible assumption) | refine Below.setCell ?_ (by first | exact Nat.le_refl _ | omega | (simp; done) | (simp; omega)) _ | refine Ba.below_step (by assumption) (by first | exact Nat.le_refl _ | omega | (simp; done) | (simp; omega)) ?_ | apply Below.drew | apply Ba.below_drewN | refine Below.alloc ?_ (by first | exact Nat.le_refl _ | omega | (simp; done) | (simp; omega)) _ | refine Below.setCell ?_ (by first | exact Nat.le_refl _ | omega | (simp; done) | (simp; omega)) _))
  clear hW hc1 hf1 hz1 hc2 hf2 hz2 hb1 hb2 y10 y20 y21
  go_loopw [9, 10] (fun v n wr => Lp1 W a len f v n wr) (fun _ n _ => (b - intOf n).toNat)
  case atStart => exact ⟨0, by omega, by simp, World.ownsRow_nil _ _ _ _, Below.refl _ _⟩
  case round =>
    obtain ⟨k, hk, rfl, hown, hbr⟩ := hrel
    have HO := Lib.hid hown
    clear hown
    have hws := hbr.size
    have da : wr.cell? ⟨w.heap.size, 0, none⟩ = some (.int .i64 a) := (hbr.cell (p := ⟨w.heap.size, 0, none⟩) s3).trans ca
    have db : wr.cell? ⟨w.heap.size, 1, none⟩ = some (.int .i64 b) := (hbr.cell (p := ⟨w.heap.size, 1, none⟩) s3).trans cb
    by_cases hlt : k < len
    · have hF := HF.out k hlt
      have hlt' : a + k < b := by have := HL.out; omega
      have hT := HT.out.lt k
      have HG := Lib.hid hF
      clear hF
      have t3 : decide (a + k < b) = true := decide_eq_true (by omega)
      go_wp2_with (first | (((go_at_call 5; refine (Fields_any _ _ _).mono ?_; rintro e w3 ⟨rfl, hb3⟩; obtain ⟨hc3, hf3, hz3⟩ := bcell hb3; (try simp at hz3))); rw [HG.out]; have HO3 := Lib.hid (own_below HO.out hb3)) | (at_builtin; refine wpList_append_own _ rfl _ _ 27 rfl W.heap.size 23 i0 (.agg #[.int .i64 0, .int .i64 0]) 2 16 Try.underlying27 HI.out.1 HI.out.2.1 HI.out.2.2.1 HI.out.2.2.2 rfl (by decide) _ k _ rfl ((HO3.out.alloc _).alloc _) ⟨w3.heap.size + 1, 0, none⟩ 1 1 [.int .i64 (f k).1, .int .i64 (f k).2] rfl rfl ?d1 ?d2 ?d3 ?d4 ?d5 ?_) | fail)
      case d1 =>
        have h := news_two (w3.alloc (.cells #[.int .i64 (f k).1, .int .i64 (f k).2] 23)) (f k) 23
        simp only [World.size_alloc] at h
        exact h
      case d2 => simp [Value.oneCell']
      case d3 => unfold maxLen; omega
      case d4 => omega
      case d5 => simp; omega
      intro v' w4 hown' hgrow _
      have hbr4 : Below W.heap.size W w4 := Below.grown (((hbr.trans (hb3.mono hws)).alloc (by omega) _).alloc (by simp; omega) _) hgrow (by simp; omega) (fun j hj => (HO.out.lt j hj).1)
      have H4 := Lib.hid hown'
      clear hown' hgrow
      go_wp2
      go_roundw
      case rel => exact ⟨k + 1, by omega, by rw [show a + ((k + 1 : Nat) : Int) = a + k + 1 from by omega], by rw [upto_succ, cells_snoc]; exact H4.out, hbr4⟩
      case measure => simp [intOf]; omega
    · obtain rfl : k = len := by omega
      obtain ⟨g, cap, rfl⟩ := own_form HO.out hl1
      have hg := HO.out.lt g rfl
      have hA := Lib.hid (own_at HO.out)
      have dx : wr.cell? ⟨w2.heap.size, 0, none⟩ = some (.int .i64 x) := (hbr.cell (p := ⟨w2.heap.size, 0, none⟩) s7).trans cx
      have dy : wr.cell? ⟨w2.heap.size, 1, none⟩ = some (.int .i64 y) := (hbr.cell (p := ⟨w2.heap.size, 1, none⟩) s7).trans cy
      have hlt' : ¬ a + k < b := by have := HL.out; omega
      have hbw : Below w.heap.size w wr := hbW.trans (hbr.mono (by omega))
      clear ca cb cx cy
      have t4 : decide (a + k < b) = false := decide_eq_false (by omega)
      clear hlt'
      go_wp2_with (first | (go_at_call 6; refine (HN.out g cap _ hg.2 hA.out).mono ?_; rintro e w5 ⟨o, c5, rfl, ho5, ho5', e0, e1, hb5⟩; obtain ⟨hc5, hf5, hz5⟩ := bcell hb5) | ((go_at_call 7; refine (Len_1 o c5 A E _ A0 (by omega) AE ho5' e0 e1).mono ?_; rintro e w6 ⟨rfl, hb6⟩; obtain ⟨hc6, hf6, hz6⟩ := bcell hb6; (try simp at hz6))) | fail)
      have y65 := hb6.size
      have y5 := hb5.size
      have e0' : w6.cell? ⟨o, 0, none⟩ = some (.int .i64 A) := (hc6 o 0 (by omega)).trans e0
      have e1' : w6.cell? ⟨o, 1, none⟩ = some (.int .i64 E) := (hc6 o 1 (by omega)).trans e1
      have dx' : w6.cell? ⟨w2.heap.size, 0, none⟩ = some (.int .i64 x) := (hc6 _ _ (by omega)).trans ((hc5 _ _ (by omega)).trans dx)
      have dy' : w6.cell? ⟨w2.heap.size, 1, none⟩ = some (.int .i64 y) := (hc6 _ _ (by omega)).trans ((hc5 _ _ (by omega)).trans dy)
      have da' : w6.cell? ⟨w.heap.size, 0, none⟩ = some (.int .i64 a) := (hc6 _ _ (by omega)).trans ((hc5 _ _ (by omega)).trans da)
      have db' : w6.cell? ⟨w.heap.size, 1, none⟩ = some (.int .i64 b) := (hc6 _ _ (by omega)).trans ((hc5 _ _ (by omega)).trans db)
      have h65 : Below wr.heap.size wr w6 := hb5.trans (hb6.mono y5)
      have hA6 := Lib.hid (hA.out.below h65 hg.2)
      have hbw6 : Below w.heap.size w w6 := hbw.trans (h65.mono (by omega))
      have q1 : IntKind.i64.wrap (E + 1) = E + 1 := by rw [IntKind.wrap_i64]; omega
      have q2 : IntKind.i64.wrap x = x := by rw [IntKind.wrap_i64]; omega
      have q3 : IntKind.i64.wrap y = y := by rw [IntKind.wrap_i64]; omega
      have g6 : g < w6.heap.size := by omega
      have o6 : w.heap.size < w6.heap.size := by omega
      have v6 : w2.heap.size < w6.heap.size := by omega
      clear hc5 hf5 hz5 hc6 hf6 hz6 hb5 hb6 e0 e1 dx dy da db hA HO h65
      go_quiet (fail)
      go_wp2
      refine wp_gen ?_
      intro V hV
      have ca : V.cell? ⟨w.heap.size, 0, none⟩ = some (.int .i64 a) := by rw [hV]; exact da'
      have cb : V.cell? ⟨w.heap.size, 1, none⟩ = some (.int .i64 b) := by rw [hV]; exact db'
      have cx : V.cell? ⟨w2.heap.size, 0, none⟩ = some (.int .i64 x) := by rw [hV]; exact dx'
      have cy : V.cell? ⟨w2.heap.size, 1, none⟩ = some (.int .i64 y) := by rw [hV]; exact dy'
      have hAV : Hid (At V g k f) := Lib.hid (by rw [hV]; exact hA6.out)
      have hbV : Below w.heap.size w V := by rw [hV]; exact below_drewN hbw6
      have gV : g < V.heap.size := by rw [hV]; exact g6
      have sV : w.heap.size < V.heap.size := by rw [hV]; exact o6
      have vV : w2.heap.size < V.heap.size := by rw [hV]; exact v6
      clear hV da' db' dx' dy' hA6 hbw6 g6 o6 v6 e0' e1' q1 q2 q3
      go_loopw [16, 121] (fun s i wr => Lp2 V A k f s i wr) (fun _ i _ => k - (intOf i).toNat)
      case atStart => exact ⟨0, by omega, rfl, by rw [fA]; simp, Below.refl _ _⟩
      case round =>
        obtain ⟨j, hj, rfl, rfl, hbr2⟩ := hrel
        have hv2 := hbr2.size
        by_cases hlt2 : j < k
        · obtain ⟨b0, b1⟩ := HB.out j hj
          obtain ⟨b2, b3⟩ := HB.out (j + 1) (by omega)
          have hn := HT.out.next j
          rw [hn] at b2 b3
          obtain ⟨f0, f1⟩ := (hAV.out.below hbr2 gV) j hlt2
          have HJ := Lib.hid hn
          clear hn
          generalize hz1 : (f j).1 = z1 at *
          generalize hz2 : (f j).2 = z2 at *
          go_wp2
          go_roundw
          case rel =>
            have h1 := HJ.out
            refine ⟨j + 1, by omega, by go_num, ?_, by (repeat (first | exact Below.refl _ _ | assumption | refine Ba.below_step (by assumption) (by first | exact Nat.le_refl _ | omega | (simp; done) | (simp; omega)) ?_ | apply Below.drew | apply Ba.below_drewN | refine Below.alloc ?_ (by first | exact Nat.le_refl _ | omega | (simp; done) | (simp; omega)) _ | refine Below.setCell ?_ (by first | exact Nat.le_refl _ | omega | (simp; done) | (simp; omega)) _))⟩
            rw [h1]
            first | rfl | (congr 1; omega)
          case measure => simp [intOf]; omega
        · obtain rfl : j = k := by omega
          have dx : wr.cell? ⟨w2.heap.size, 0, none⟩ = some (.int .i64 x) := (hbr2.cell (p := ⟨w2.heap.size, 0, none⟩) vV).trans cx
          have dy : wr.cell? ⟨w2.heap.size, 1, none⟩ = some (.int .i64 y) := (hbr2.cell (p := ⟨w2.heap.size, 1, none⟩) vV).trans cy
          have HS2 := Lib.hid (show (f j).1 - A = E - A from by rw [HE.out])
          go_wp2
          rw [HS2.out]
          clear dx dy
          go_loopw [19] (fun i wr => Lp3 V x y i wr) (fun i _ => (y - intOf i).toNat)
          case atStart => exact ⟨x, by omega, by omega, rfl, hbr2⟩
          case round =>
            obtain ⟨n, n0, n1, rfl, hbr3⟩ := hrel
            have hv3 := hbr3.size
            have da : wr.cell? ⟨w.heap.size, 0, none⟩ = some (.int .i64 a) := (hbr3.cell (p := ⟨w.heap.size, 0, none⟩) sV).trans ca
            have db : wr.cell? ⟨w.heap.size, 1, none⟩ = some (.int .i64 b) := (hbr3.cell (p := ⟨w.heap.size, 1, none⟩) sV).trans cb
            have dx : wr.cell? ⟨w2.heap.size, 0, none⟩ = some (.int .i64 x) := (hbr3.cell (p := ⟨w2.heap.size, 0, none⟩) vV).trans cx
            have dy : wr.cell? ⟨w2.heap.size, 1, none⟩ = some (.int .i64 y) := (hbr3.cell (p := ⟨w2.heap.size, 1, none⟩) vV).trans cy
            by_cases hlt3 : n < y
            · obtain ⟨fm, c, u, v, hB, hF, h1, h2, hcc, h5⟩ := HV.out n n0 hlt3
              have HBk := Lib.hid hB
              have HFl := Lib.hid hF
              clear hB hF
              have za : w.heap.size < wr.heap.size := by omega
              have zb : w2.heap.size < wr.heap.size := by omega
              have t5 : decide (n < y) = true := decide_eq_true (by omega)
              have t6 : decide (2 * n < u) = false := decide_eq_false (by omega)
              have t7 : decide (v ≤ 2 * n) = false := decide_eq_false (by omega)
              have hPc : (decide (2 * n + 1 < v) = c) := hcc.symm
              clear hcc
              by_cases k1 : x < n
              · by_cases k2 : n + 1 < y
                · obtain ⟨k3, k4⟩ := h5 k1 k2
                  clear h5
                  have t8 : decide (x < n) = true := decide_eq_true (by omega)
                  have t9 : decide (n + 1 < y) = true := decide_eq_true (by omega)
                  have t10 : decide (fm < a) = false := decide_eq_false (by omega)
                  have t11 : decide (b ≤ fm) = false := decide_eq_false (by omega)
                  go_wp2_with (first | (go_at_call 8; refine (Back_any _ _ _).mono ?_; rintro e w' ⟨rfl, rfl⟩; rw [HBk.out]) | (((go_at_call 5; refine (Fields_any _ _ _).mono ?_; rintro e w7 ⟨rfl, hb7⟩; obtain ⟨hc7, hf7, hz7⟩ := bcell hb7; (try simp at hz7))); rw [HFl.out]; have ya : w.heap.size < w7.heap.size := (by omega); have yb : w2.heap.size < w7.heap.size := (by omega)) | fail)
                  go_roundw
                  case rel => exact ⟨n + 1, by omega, by omega, rfl, by (repeat (first | exact Below.refl _ _ | assumption | refine Ba.below_step (by assumption) (by first | exact Nat.le_refl _ | omega | (simp; done) | (simp; omega)) ?_ | apply Below.drew | apply Ba.below_drewN | refine Below.alloc ?_ (by first | exact Nat.le_refl _ | omega | (simp; done) | (simp; omega)) _ | refine Below.setCell ?_ (by first | exact Nat.le_refl _ | omega | (simp; done) | (simp; omega)) _))⟩
                  case measure => simp [intOf]; omega
                · clear h5
                  have t12 : decide (x < n) = true := decide_eq_true (by omega)
                  have t13 : decide (n + 1 < y) = false := decide_eq_false (by omega)
                  go_wp2_with (first | (go_at_call 8; refine (Back_any _ _ _).mono ?_; rintro e w' ⟨rfl, rfl⟩; rw [HBk.out]) | (((go_at_call 5; refine (Fields_any _ _ _).mono ?_; rintro e w7 ⟨rfl, hb7⟩; obtain ⟨hc7, hf7, hz7⟩ := bcell hb7; (try simp at hz7))); rw [HFl.out]; have ya : w.heap.size < w7.heap.size := (by omega); have yb : w2.heap.size < w7.heap.size := (by omega)) | fail)
                  go_roundw
                  case rel => exact ⟨n + 1, by omega, by omega, rfl, by (repeat (first | exact Below.refl _ _ | assumption | refine Ba.below_step (by assumption) (by first | exact Nat.le_refl _ | omega | (simp; done) | (simp; omega)) ?_ | apply Below.drew | apply Ba.below_drewN | refine Below.alloc ?_ (by first | exact Nat.le_refl _ | omega | (simp; done) | (simp; omega)) _ | refine Below.setCell ?_ (by first | exact Nat.le_refl _ | omega | (simp; done) | (simp; omega)) _))⟩
                  case measure => simp [intOf]; omega
              · clear h5
                have t14 : decide (x < n) = false := decide_eq_false (by omega)
                go_wp2_with (first | (go_at_call 8; refine (Back_any _ _ _).mono ?_; rintro e w' ⟨rfl, rfl⟩; rw [HBk.out]) | (((go_at_call 5; refine (Fields_any _ _ _).mono ?_; rintro e w7 ⟨rfl, hb7⟩; obtain ⟨hc7, hf7, hz7⟩ := bcell hb7; (try simp at hz7))); rw [HFl.out]; have ya : w.heap.size < w7.heap.size := (by omega); have yb : w2.heap.size < w7.heap.size := (by omega)) | fail)
                go_roundw
                case rel => exact ⟨n + 1, by omega, by omega, rfl, by (repeat (first | exact Below.refl _ _ | assumption | refine Ba.below_step (by assumption) (by first | exact Nat.le_refl _ | omega | (simp; done) | (simp; omega)) ?_ | apply Below.drew | apply Ba.below_drewN | refine Below.alloc ?_ (by first | exact Nat.le_refl _ | omega | (simp; done) | (simp; omega)) _ | refine Below.setCell ?_ (by first | exact Nat.le_refl _ | omega | (simp; done) | (simp; omega)) _))⟩
                case measure => simp [intOf]; omega
            · have t15 : decide (n < y) = false := decide_eq_false (by omega)
              go_wp2
              go_ret
              exact ⟨rfl, hbV.trans (hbr3.mono (by omega))⟩
end Go.Proofs.Ytcpepenhebipbaa.Qi
