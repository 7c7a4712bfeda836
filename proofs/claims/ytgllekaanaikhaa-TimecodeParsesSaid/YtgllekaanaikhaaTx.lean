/- Text of the program: the label's digits, appended one after the other, read as a text. -/
import Derived.Test.YtgllekaanaikhaaChecked
import Derived.Test.YtgllekaanaikhaaBase
import Derived.Test.YtgllekaanaikhaaLc
import Derived.Test.YtgllekaanaikhaaTg
namespace Go.Proofs.Ytgllekaanaikhaa.Tb
open Go.RowKit Ba
set_option linter.unusedVariables false
set_option linter.unusedSimpArgs false

/-- A row of bytes of the call's own, read as a text. -/
theorem conv_row (w : World) (base k : Nat) (v : Value) (ns : List Int) (ho : w.ownsRow base 5 1 v (k + 1) (ns.map (Value.int .u8))) :
    (convert 52 9 v).run Try.prog w = .ok (.string (strOfNums ns)) w := by
  have hl : ns.length = k + 1 := by have := ho.1; simpa using this
  rcases ho.2 with ⟨_, h⟩ | ⟨g, cap, cur, hv, _⟩
  · omega
  · subst hv
    refine run_convert_bytes_arg w _ 5 Try.underlying52 Try.underlying5 g 0 (k + 1) cap ns hl ?_ _ Try.underlying9
    intro i hi
    have h := ho.cells (g := g) rfl i (.int .u8 (ns.getD i 0)) (by
      rw [List.getElem?_map, List.getElem?_eq_getElem (by omega)]
      simp [List.getD_eq_getElem?_getD, List.getElem?_eq_getElem (show i < ns.length by omega)])
    have hadd : (⟨g, 0, none⟩ : Addr).add i = ⟨g, 0 + i, none⟩ := by unfold Addr.add; split <;> simp_all
    rw [hadd] at h
    exact h
def sepd (d : Bool) : Int := if d = true then 59 else 58
/-- The bytes of a label's text. -/
def txtL (h m s f : Int) (d : Bool) : List Int := [48 + h / 10, 48 + h % 10, 58, 48 + m / 10, 48 + m % 10, 58, 48 + s / 10, 48 + s % 10, sepd d, 48 + f / 10, 48 + f % 10]
def txt (h m s f : Int) (d : Bool) : ByteArray := strOfNums (txtL h m s f d)
theorem Text_e (r h m s f : Int) (d : Bool) (w : World) (r0 : 0 ≤ r) (r1 : r ≤ 255) (c : Int) (hx : (c != 0) = true) (H : Hid (chk r h m s f d = c)) :
    Calls Try.prog 17 #[.int .u8 r, .agg #[.int .i64 h, .int .i64 m, .int .i64 s, .int .i64 f, .bool d]] w fun e' w' => e' = .returned (.tuple #[.string ⟨#[]⟩, .int .i64 c]) ∧ Below w.heap.size w w' := by
  go_enter Try.func17, Try.ntmps17
  go_wp2_with (first | (((go_at_call 28; refine (Check_any _ _ _ _ _ _ _ r0 r1).mono ?_; rintro e w1 ⟨rfl, hb1⟩; obtain ⟨hc1, hf1, hz1⟩ := bcell hb1; (try simp at hz1))); rw [H.out]) | fail)
  go_ret2
  exact ⟨rfl, by (repeat (first | exact Below.refl _ _ | assumption | refine Ba.below_step (by assumption) (by first | exact Nat.le_refl _ | omega | (simp; done) | (simp; omega)) ?_ | apply Below.drew | apply Ba.below_drewN | refine Below.alloc ?_ (by first | exact Nat.le_refl _ | omega | (simp; done) | (simp; omega)) _ | refine Below.setCell ?_ (by first | exact Nat.le_refl _ | omega | (simp; done) | (simp; omega)) _))⟩
set_option maxHeartbeats 2000000 in
theorem Text_false (r h m s f : Int) (w : World) (r0 : 0 ≤ r) (r1 : r ≤ 255) (H : Hid (chk r h m s f false = 0)) (h0 : 0 ≤ h) (h1 : h ≤ 99) (m0 : 0 ≤ m) (m1 : m ≤ 99) (s0 : 0 ≤ s) (s1 : s ≤ 99) (f0 : 0 ≤ f) (f1 : f ≤ 99) :
    Calls Try.prog 17 #[.int .u8 r, .agg #[.int .i64 h, .int .i64 m, .int .i64 s, .int .i64 f, .bool false]] w fun e' w' => e' = .returned (.tuple #[.string (txt h m s f false), .int .i64 0]) ∧ Below w.heap.size w w' := by
  obtain ⟨i0, hi, hz0, hz1, hz2⟩ := info_parts info_u8
  go_enter Try.func17, Try.ntmps17
  go_wp2_with (first | (((go_at_call 28; refine (Check_any _ _ _ _ _ _ _ r0 r1).mono ?_; rintro e w1 ⟨rfl, hb1⟩; obtain ⟨hc1, hf1, hz1⟩ := bcell hb1; (try simp at hz1))); rw [H.out]) | fail)
  have y1 : w.heap.size + 1 ≤ w1.heap.size := by have := hb1.size; simp at this; omega
  have k1 : ∀ o : Nat, w1.cell? ⟨w.heap.size, o, none⟩ = _ := fun o => hc1 w.heap.size o (by simp)
  have b1 : Below w.heap.size w w1 := by (repeat (first | (with_reducible exact Below.refl _ _) | (with_reducible assumption) | refine Below.setCell ?_ (by first | exact Nat.le_refl _ | omega | (simp; done) | (simp; omega)) _ | refine Ba.below_step (by assumption) (by first | exact Nat.le_refl _ | omega | (simp; done) | (simp; omega)) ?_ | apply Below.drew | apply Ba.below_drewN | refine Below.alloc ?_ (by first | exact Nat.le_refl _ | omega | (simp; done) | (simp; omega)) _ | refine Below.setCell ?_ (by first | exact Nat.le_refl _ | omega | (simp; done) | (simp; omega)) _))
  clear hc1 hf1 hz1 hb1
  refine (digits_ok (.slice none 0 0) 0 _ h (w.heap.size + 1) _ (by omega) (World.ownsRow_nil _ _ _ _) (by omega) h0 h1).mono ?_
  rintro e w2 ⟨v2, rfl, o2, g2⟩
  have y2 : w1.heap.size ≤ w2.heap.size := g2.size
  have k2 : ∀ o : Nat, w2.cell? ⟨w.heap.size, o, none⟩ = _ := fun o => (g2.cell (p := ⟨w.heap.size, o, none⟩) (by simp)).trans (k1 o)
  have b2 : Below w.heap.size w w2 := b1.trans (g2.mono (by omega))
  clear k1 g2
  go_wp2_with (at_builtin; refine wpList_append_own _ rfl _ _ 52 rfl (w.heap.size + 1) 5 i0 (.int .u8 0) 1 1 Try.underlying52 hi hz0 hz1 hz2 rfl (by decide) v2 2 _ rfl (o2.alloc _) ⟨w2.heap.size, 0, none⟩ 1 1 [.int .u8 58] rfl rfl ?c10 ?c20 ?c30 ?c40 ?c50 ?_)
  case c10 =>
    intro j u hj
    match j, hj with
    | 0, hj => simp at hj; subst hj; simp [Addr.add]
    | (j + 1), hj => simp at hj
  case c20 => simp [Value.oneCell']
  case c30 => unfold maxLen; omega
  case c40 => omega
  case c50 => simp; omega
  intro v3 w3 o3 g3 _
  have g3' : Below (w.heap.size + 1) w2 w3 := Below.grown ((Below.refl _ _).alloc (by omega) _) g3 (by simp; omega) (fun j hj => (o2.lt j hj).1)
  have y3 : w2.heap.size ≤ w3.heap.size := g3'.size
  have k3 : ∀ o : Nat, w3.cell? ⟨w.heap.size, o, none⟩ = _ := fun o => (g3'.cell (p := ⟨w.heap.size, o, none⟩) (by simp)).trans (k2 o)
  have b3 : Below w.heap.size w w3 := b2.trans (g3'.mono (by omega))
  clear k2 g3 g3' o2
  go_wp2_with fail
  refine (digits_ok v3 3 _ m (w.heap.size + 1) _ (by omega) o3 (by omega) m0 m1).mono ?_
  rintro e w4 ⟨v4, rfl, o4, g4⟩
  have y4 : w3.heap.size ≤ w4.heap.size := g4.size
  have k4 : ∀ o : Nat, w4.cell? ⟨w.heap.size, o, none⟩ = _ := fun o => (g4.cell (p := ⟨w.heap.size, o, none⟩) (by simp)).trans (k3 o)
  have b4 : Below w.heap.size w w4 := b3.trans (g4.mono (by omega))
  clear k3 g4
  go_wp2_with (at_builtin; refine wpList_append_own _ rfl _ _ 52 rfl (w.heap.size + 1) 5 i0 (.int .u8 0) 1 1 Try.underlying52 hi hz0 hz1 hz2 rfl (by decide) v4 5 _ rfl (o4.alloc _) ⟨w4.heap.size, 0, none⟩ 1 1 [.int .u8 58] rfl rfl ?c11 ?c21 ?c31 ?c41 ?c51 ?_)
  case c11 =>
    intro j u hj
    match j, hj with
    | 0, hj => simp at hj; subst hj; simp [Addr.add]
    | (j + 1), hj => simp at hj
  case c21 => simp [Value.oneCell']
  case c31 => unfold maxLen; omega
  case c41 => omega
  case c51 => simp; omega
  intro v5 w5 o5 g5 _
  have g5' : Below (w.heap.size + 1) w4 w5 := Below.grown ((Below.refl _ _).alloc (by omega) _) g5 (by simp; omega) (fun j hj => (o4.lt j hj).1)
  have y5 : w4.heap.size ≤ w5.heap.size := g5'.size
  have k5 : ∀ o : Nat, w5.cell? ⟨w.heap.size, o, none⟩ = _ := fun o => (g5'.cell (p := ⟨w.heap.size, o, none⟩) (by simp)).trans (k4 o)
  have b5 : Below w.heap.size w w5 := b4.trans (g5'.mono (by omega))
  clear k4 g5 g5' o4
  go_wp2_with fail
  refine (digits_ok v5 6 _ s (w.heap.size + 1) _ (by omega) o5 (by omega) s0 s1).mono ?_
  rintro e w6 ⟨v6, rfl, o6, g6⟩
  have y6 : w5.heap.size ≤ w6.heap.size := g6.size
  have k6 : ∀ o : Nat, w6.cell? ⟨w.heap.size, o, none⟩ = _ := fun o => (g6.cell (p := ⟨w.heap.size, o, none⟩) (by simp)).trans (k5 o)
  have b6 : Below w.heap.size w w6 := b5.trans (g6.mono (by omega))
  clear k5 g6
  go_wp2_with (at_builtin; refine wpList_append_own _ rfl _ _ 52 rfl (w.heap.size + 1) 5 i0 (.int .u8 0) 1 1 Try.underlying52 hi hz0 hz1 hz2 rfl (by decide) v6 8 _ rfl (o6.alloc _) ⟨w6.heap.size, 0, none⟩ 1 1 [.int .u8 58] rfl rfl ?c12 ?c22 ?c32 ?c42 ?c52 ?_)
  case c12 =>
    intro j u hj
    match j, hj with
    | 0, hj => simp at hj; subst hj; simp [Addr.add]
    | (j + 1), hj => simp at hj
  case c22 => simp [Value.oneCell']
  case c32 => unfold maxLen; omega
  case c42 => omega
  case c52 => simp; omega
  intro v7 w7 o7 g7 _
  have g7' : Below (w.heap.size + 1) w6 w7 := Below.grown ((Below.refl _ _).alloc (by omega) _) g7 (by simp; omega) (fun j hj => (o6.lt j hj).1)
  have y7 : w6.heap.size ≤ w7.heap.size := g7'.size
  have k7 : ∀ o : Nat, w7.cell? ⟨w.heap.size, o, none⟩ = _ := fun o => (g7'.cell (p := ⟨w.heap.size, o, none⟩) (by simp)).trans (k6 o)
  have b7 : Below w.heap.size w w7 := b6.trans (g7'.mono (by omega))
  clear k6 g7 g7' o6
  go_wp2_with fail
  refine (digits_ok v7 9 _ f (w.heap.size + 1) _ (by omega) o7 (by omega) f0 f1).mono ?_
  rintro e w8 ⟨v8, rfl, o8, g8⟩
  have y8 : w7.heap.size ≤ w8.heap.size := g8.size
  have k8 : ∀ o : Nat, w8.cell? ⟨w.heap.size, o, none⟩ = _ := fun o => (g8.cell (p := ⟨w.heap.size, o, none⟩) (by simp)).trans (k7 o)
  have b8 : Below w.heap.size w w8 := b7.trans (g8.mono (by omega))
  clear k7 g8
  have cv := conv_row w8 _ 10 v8 (txtL h m s f false) o8
  clear o8
  go_wp2_with fail
  go_ret2
  exact ⟨rfl, b8⟩
set_option maxHeartbeats 2000000 in
theorem Text_true (r h m s f : Int) (w : World) (r0 : 0 ≤ r) (r1 : r ≤ 255) (H : Hid (chk r h m s f true = 0)) (h0 : 0 ≤ h) (h1 : h ≤ 99) (m0 : 0 ≤ m) (m1 : m ≤ 99) (s0 : 0 ≤ s) (s1 : s ≤ 99) (f0 : 0 ≤ f) (f1 : f ≤ 99) :
    Calls Try.prog 17 #[.int .u8 r, .agg #[.int .i64 h, .int .i64 m, .int .i64 s, .int .i64 f, .bool true]] w fun e' w' => e' = .returned (.tuple #[.string (txt h m s f true), .int .i64 0]) ∧ Below w.heap.size w w' := by
  obtain ⟨i0, hi, hz0, hz1, hz2⟩ := info_parts info_u8
  go_enter Try.func17, Try.ntmps17
  go_wp2_with (first | (((go_at_call 28; refine (Check_any _ _ _ _ _ _ _ r0 r1).mono ?_; rintro e w1 ⟨rfl, hb1⟩; obtain ⟨hc1, hf1, hz1⟩ := bcell hb1; (try simp at hz1))); rw [H.out]) | fail)
  have y1 : w.heap.size + 1 ≤ w1.heap.size := by have := hb1.size; simp at this; omega
  have k1 : ∀ o : Nat, w1.cell? ⟨w.heap.size, o, none⟩ = _ := fun o => hc1 w.heap.size o (by simp)
  have b1 : Below w.heap.size w w1 := by (repeat (first | (with_reducible exact Below.refl _ _) | (with_reducible assumption) | refine Below.setCell ?_ (by first | exact Nat.le_refl _ | omega | (simp; done) | (simp; omega)) _ | refine Ba.below_step (by assumption) (by first | exact Nat.le_refl _ | omega | (simp; done) | (simp; omega)) ?_ | apply Below.drew | apply Ba.below_drewN | refine Below.alloc ?_ (by first | exact Nat.le_refl _ | omega | (simp; done) | (simp; omega)) _ | refine Below.setCell ?_ (by first | exact Nat.le_refl _ | omega | (simp; done) | (simp; omega)) _))
  clear hc1 hf1 hz1 hb1
  refine (digits_ok (.slice none 0 0) 0 _ h (w.heap.size + 1) _ (by omega) (World.ownsRow_nil _ _ _ _) (by omega) h0 h1).mono ?_
  rintro e w2 ⟨v2, rfl, o2, g2⟩
  have y2 : w1.heap.size ≤ w2.heap.size := g2.size
  have k2 : ∀ o : Nat, w2.cell? ⟨w.heap.size, o, none⟩ = _ := fun o => (g2.cell (p := ⟨w.heap.size, o, none⟩) (by simp)).trans (k1 o)
  have b2 : Below w.heap.size w w2 := b1.trans (g2.mono (by omega))
  clear k1 g2
  go_wp2_with (at_builtin; refine wpList_append_own _ rfl _ _ 52 rfl (w.heap.size + 1) 5 i0 (.int .u8 0) 1 1 Try.underlying52 hi hz0 hz1 hz2 rfl (by decide) v2 2 _ rfl (o2.alloc _) ⟨w2.heap.size, 0, none⟩ 1 1 [.int .u8 58] rfl rfl ?c10 ?c20 ?c30 ?c40 ?c50 ?_)
  case c10 =>
    intro j u hj
    match j, hj with
    | 0, hj => simp at hj; subst hj; simp [Addr.add]
    | (j + 1), hj => simp at hj
  case c20 => simp [Value.oneCell']
  case c30 => unfold maxLen; omega
  case c40 => omega
  case c50 => simp; omega
  intro v3 w3 o3 g3 _
  have g3' : Below (w.heap.size + 1) w2 w3 := Below.grown ((Below.refl _ _).alloc (by omega) _) g3 (by simp; omega) (fun j hj => (o2.lt j hj).1)
  have y3 : w2.heap.size ≤ w3.heap.size := g3'.size
  have k3 : ∀ o : Nat, w3.cell? ⟨w.heap.size, o, none⟩ = _ := fun o => (g3'.cell (p := ⟨w.heap.size, o, none⟩) (by simp)).trans (k2 o)
  have b3 : Below w.heap.size w w3 := b2.trans (g3'.mono (by omega))
  clear k2 g3 g3' o2
  go_wp2_with fail
  refine (digits_ok v3 3 _ m (w.heap.size + 1) _ (by omega) o3 (by omega) m0 m1).mono ?_
  rintro e w4 ⟨v4, rfl, o4, g4⟩
  have y4 : w3.heap.size ≤ w4.heap.size := g4.size
  have k4 : ∀ o : Nat, w4.cell? ⟨w.heap.size, o, none⟩ = _ := fun o => (g4.cell (p := ⟨w.heap.size, o, none⟩) (by simp)).trans (k3 o)
  have b4 : Below w.heap.size w w4 := b3.trans (g4.mono (by omega))
  clear k3 g4
  go_wp2_with (at_builtin; refine wpList_append_own _ rfl _ _ 52 rfl (w.heap.size + 1) 5 i0 (.int .u8 0) 1 1 Try.underlying52 hi hz0 hz1 hz2 rfl (by decide) v4 5 _ rfl (o4.alloc _) ⟨w4.heap.size, 0, none⟩ 1 1 [.int .u8 58] rfl rfl ?c11 ?c21 ?c31 ?c41 ?c51 ?_)
  case c11 =>
    intro j u hj
    match j, hj with
    | 0, hj => simp at hj; subst hj; simp [Addr.add]
    | (j + 1), hj => simp at hj
  case c21 => simp [Value.oneCell']
  case c31 => unfold maxLen; omega
  case c41 => omega
  case c51 => simp; omega
  intro v5 w5 o5 g5 _
  have g5' : Below (w.heap.size + 1) w4 w5 := Below.grown ((Below.refl _ _).alloc (by omega) _) g5 (by simp; omega) (fun j hj => (o4.lt j hj).1)
  have y5 : w4.heap.size ≤ w5.heap.size := g5'.size
  have k5 : ∀ o : Nat, w5.cell? ⟨w.heap.size, o, none⟩ = _ := fun o => (g5'.cell (p := ⟨w.heap.size, o, none⟩) (by simp)).trans (k4 o)
  have b5 : Below w.heap.size w w5 := b4.trans (g5'.mono (by omega))
  clear k4 g5 g5' o4
  go_wp2_with fail
  refine (digits_ok v5 6 _ s (w.heap.size + 1) _ (by omega) o5 (by omega) s0 s1).mono ?_
  rintro e w6 ⟨v6, rfl, o6, g6⟩
  have y6 : w5.heap.size ≤ w6.heap.size := g6.size
  have k6 : ∀ o : Nat, w6.cell? ⟨w.heap.size, o, none⟩ = _ := fun o => (g6.cell (p := ⟨w.heap.size, o, none⟩) (by simp)).trans (k5 o)
  have b6 : Below w.heap.size w w6 := b5.trans (g6.mono (by omega))
  clear k5 g6
  go_wp2_with (at_builtin; refine wpList_append_own _ rfl _ _ 52 rfl (w.heap.size + 1) 5 i0 (.int .u8 0) 1 1 Try.underlying52 hi hz0 hz1 hz2 rfl (by decide) v6 8 _ rfl (o6.alloc _) ⟨w6.heap.size, 0, none⟩ 1 1 [.int .u8 59] rfl rfl ?c12 ?c22 ?c32 ?c42 ?c52 ?_)
  case c12 =>
    intro j u hj
    match j, hj with
    | 0, hj => simp at hj; subst hj; simp [Addr.add]
    | (j + 1), hj => simp at hj
  case c22 => simp [Value.oneCell']
  case c32 => unfold maxLen; omega
  case c42 => omega
  case c52 => simp; omega
  intro v7 w7 o7 g7 _
  have g7' : Below (w.heap.size + 1) w6 w7 := Below.grown ((Below.refl _ _).alloc (by omega) _) g7 (by simp; omega) (fun j hj => (o6.lt j hj).1)
  have y7 : w6.heap.size ≤ w7.heap.size := g7'.size
  have k7 : ∀ o : Nat, w7.cell? ⟨w.heap.size, o, none⟩ = _ := fun o => (g7'.cell (p := ⟨w.heap.size, o, none⟩) (by simp)).trans (k6 o)
  have b7 : Below w.heap.size w w7 := b6.trans (g7'.mono (by omega))
  clear k6 g7 g7' o6
  go_wp2_with fail
  refine (digits_ok v7 9 _ f (w.heap.size + 1) _ (by omega) o7 (by omega) f0 f1).mono ?_
  rintro e w8 ⟨v8, rfl, o8, g8⟩
  have y8 : w7.heap.size ≤ w8.heap.size := g8.size
  have k8 : ∀ o : Nat, w8.cell? ⟨w.heap.size, o, none⟩ = _ := fun o => (g8.cell (p := ⟨w.heap.size, o, none⟩) (by simp)).trans (k7 o)
  have b8 : Below w.heap.size w w8 := b7.trans (g8.mono (by omega))
  clear k7 g8
  have cv := conv_row w8 _ 10 v8 (txtL h m s f true) o8
  clear o8
  go_wp2_with fail
  go_ret2
  exact ⟨rfl, b8⟩
/-- Text. -/
def txtR (r h m s f : Int) (d : Bool) : ByteArray × Int := if chk r h m s f d ≠ 0 then (⟨#[]⟩, chk r h m s f d) else (txt h m s f d, 0)
theorem txt_0 (r h m s f : Int) (d : Bool) (hc : chk r h m s f d = 0) : txtR r h m s f d = (txt h m s f d, 0) := by unfold txtR; rw [if_neg (by omega)]
theorem txt_e (r h m s f : Int) (d : Bool) (hc : ¬ chk r h m s f d = 0) : txtR r h m s f d = (⟨#[]⟩, chk r h m s f d) := by unfold txtR; rw [if_pos hc]
theorem chk_99 (r h m s f : Int) (d : Bool) (hc : chk r h m s f d = 0) : 0 ≤ h ∧ h ≤ 99 ∧ 0 ≤ m ∧ m ≤ 99 ∧ 0 ≤ s ∧ s ≤ 99 ∧ 0 ≤ f ∧ f ≤ 99 := by
  unfold chk at hc
  split at hc
  · omega
  · rename_i he
    have hv : va r = true := (rerr_ok r d (by omega)).1
    have hn := nm_bd r hv
    split at hc
    · omega
    · omega
theorem Text_any (r h m s f : Int) (d : Bool) (w : World) (r0 : 0 ≤ r) (r1 : r ≤ 255) :
    Calls Try.prog 17 #[.int .u8 r, .agg #[.int .i64 h, .int .i64 m, .int .i64 s, .int .i64 f, .bool d]] w fun e' w' => e' = .returned (.tuple #[.string (txtR r h m s f d).1, .int .i64 (txtR r h m s f d).2]) ∧ Below w.heap.size w w' := by
  by_cases hc : chk r h m s f d = 0
  · rw [txt_0 r h m s f d hc]
    obtain ⟨h0, h1, m0, m1, s0, s1, f0, f1⟩ := chk_99 r h m s f d hc
    cases d
    · exact Text_false r h m s f w r0 r1 (Lib.hid hc) h0 h1 m0 m1 s0 s1 f0 f1
    · exact Text_true r h m s f w r0 r1 (Lib.hid hc) h0 h1 m0 m1 s0 s1 f0 f1
  · rw [txt_e r h m s f d hc]
    exact Text_e r h m s f d w r0 r1 _ (by simpa using hc) (Lib.hid rfl)
end Go.Proofs.Ytgllekaanaikhaa.Tb
