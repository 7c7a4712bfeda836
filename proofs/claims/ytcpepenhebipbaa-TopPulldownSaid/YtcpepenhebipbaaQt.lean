/- slices.SortFunc and slices.SortedFunc at spans that follow one another: nothing turns. -/
import Derived.Test.YtcpepenhebipbaaChecked
import Derived.Test.YtcpepenhebipbaaBase
import Derived.Test.YtcpepenhebipbaaQm
import Derived.Test.YtcpepenhebipbaaQs
import Derived.Laws.OwnMore
import Derived.Handy
namespace Go.Proofs.Ytcpepenhebipbaa.Qi
open Go.RowKit Ba Go.Sort Go.Shelf
set_option linter.unusedVariables false
set_option linter.unusedSimpArgs false

theorem isAggSp : ∀ w, (isAgg 23).run Try.prog w = .ok true w := fun _ => by kernel_rfl
theorem sizeSp : ∀ w, (Go.sizeOf 23).run Try.prog w = .ok 2 w := fun _ => by kernel_rfl
theorem closure_ok (x y : Int × Int) (W : World) : Calls Try.prog 18 #[.agg #[.int .i64 x.1, .int .i64 x.2], .agg #[.int .i64 y.1, .int .i64 y.2]] W fun e w' => e = .returned (.int .i64 (cmpI x.1 y.1)) ∧ ∃ q os', w' = grow (W.drewN q) os' := by
  go_enter Try.func18, Try.ntmps18
  go_wp2_with (go_at_call 19; refine (cmp_ok _ _ _).mono ?_; rintro e w' ⟨rfl, rfl⟩)
  go_ret
  exact ⟨rfl, 0, _, by rw [alloc_eq_grow, alloc_eq_grow, grow_grow]; rfl⟩
def encN (f : Nat → Int × Int) (j : Nat) : List Value := [.int .i64 (f j).1, .int .i64 (f j).2]
def cfN (f : Nat → Int × Int) (i j : Nat) : Int := cmpI (f i).1 (f j).1
theorem lt_cf (f : Nat → Int × Int) (i j : Nat) : ltOf (cfN f) i j = decide ((f i).1 < (f j).1) := by
  unfold ltOf cfN cmpI
  by_cases h1 : (f i).1 < (f j).1
  · simp [h1]
  · by_cases h2 : (f j).1 < (f i).1 <;> simp [h1, h2]
theorem swo_cf (f : Nat → Int × Int) : SWO (ltOf (cfN f)) where
  irrefl x := by rw [lt_cf]; simp
  trans x y z h1 h2 := by rw [lt_cf] at *; simp at *; omega
  ntrans x y z h1 h2 := by rw [lt_cf] at *; simp at *; omega
theorem cmpLays (f : Nat → Int × Int) (blk off size : Nat) (w : World) : CmpLays Try.prog 18 #[] (encN f) 2 (cfN f) blk off size w :=
  fun _ _ _ _ x y => closure_ok (f x) (f y) _
theorem range_get (len j : Nat) (h : j < len) : (Array.range len)[j]! = j := by
  rw [getElem!_pos _ j (by simpa using h)]; simp
theorem holds_at (f : Nat → Int × Int) (w : World) (b len : Nat) (hI : At w b len f) (hfz : ∀ o, w.frozen? ⟨b, o, none⟩ = false) : HoldsK (encN f) 2 w b 0 (Array.range len) := by
  intro j hj
  rw [size_flatK, Array.size_range] at hj
  rw [get_flatK _ _ _ _ (by simpa using hj), range_get len (j / 2) (by omega), Nat.zero_add]
  refine ⟨?_, hfz j⟩
  obtain ⟨h0, h1⟩ := hI (j / 2) (by omega)
  rcases Nat.mod_two_eq_zero_or_one j with h | h
  · rw [show j / 2 * 2 = j from by omega] at h0
    rw [h0, h]; rfl
  · rw [show j / 2 * 2 + 1 = j from by omega] at h1
    rw [h1, h]; rfl
theorem sort_range (f : Nat → Int × Int) (hf : ∀ i j, i < j → (f i).1 < (f j).1) (len : Nat) : ((Array.range len).toList.mergeSort fun x y => !(ltOf (cfN f)) y x).toArray = Array.range len := by
  rw [List.mergeSort_of_pairwise]
  rw [Array.toList_range]
  refine List.pairwise_lt_range.imp ?_
  intro i j h
  rw [lt_cf]
  have := hf i j h
  simp
  omega
theorem SortFunc_ok (b len cap : Nat) (f : Nat → Int × Int) (hlen : len ≤ 400) (hf : ∀ i j, i < j → (f i).1 < (f j).1) (w : World) (hb : b < w.heap.size) (hI : At w b len f) (hfz : ∀ o, w.frozen? ⟨b, o, none⟩ = false) :
    Calls Try.prog 21 #[.slice (some ⟨b, 0, none⟩) len cap, .func (.func 18) #[] #[]] w fun e w' => e = .returned (.tuple #[]) ∧ Below w.heap.size w w' := by
  have eg : ∀ args w, (callFunc 18 args).run Try.prog w = .ok (.enter 18 args) w := enters_of Try.func18 (by kernel_rfl) rfl
  have hH := holds_at f w b len hI hfz
  have hcon := AnyQ.slices_SortFunc_total sortSp 2 isAggSp sizeSp (encN f) (fun _ => rfl) (fun x v hv => by simp [encN] at hv; rcases hv with rfl | rfl <;> rfl) (cfN f) (swo_cf f) 18 #[] b 0 cap (Array.range len) w eg (cmpLays f b 0 _ w) hH hb (by simp; omega)
    (fun x y h1 h2 => by
      rw [lt_cf] at h1 h2
      simp at h1 h2
      rcases Nat.lt_trichotomy x y with h | h | h
      · have := hf x y h; omega
      · exact h
      · have := hf y x h; omega)
  rw [sort_range f hf len, Array.size_range] at hcon
  refine hcon.mono ?_
  rintro e w' ⟨he, n, os, rfl⟩
  refine ⟨he, ?_⟩
  unfold sortWorldK
  have hH2 : HoldsK (encN f) 2 (Go.Sort.ahead w n) b 0 (Array.range len) := hH
  have hp : putRowK (encN f) 2 (Go.Sort.ahead w n) b 0 (Array.range len) = Go.Sort.ahead w n := putRow_self id _ b 0 _ hH2
  rw [hp]
  exact ⟨rfl, rfl, rfl, by simp [grow, Go.Sort.ahead], fun k hk => by simp [grow, Go.Sort.ahead, Array.getElem?_append, hk]⟩
theorem cells_length (f : Nat → Int × Int) (n : Nat) : (cells (upto f n)).length = n * 2 := by
  induction n with
  | zero => rfl
  | succ n ih => rw [upto_succ, cells_snoc, List.length_append, ih]; simp; omega
theorem cells_get (f : Nat → Int × Int) (n j : Nat) (h : j < n) : (cells (upto f n))[j * 2]? = some (.int .i64 (f j).1) ∧ (cells (upto f n))[j * 2 + 1]? = some (.int .i64 (f j).2) := by
  induction n with
  | zero => omega
  | succ n ih =>
    rw [upto_succ, cells_snoc]
    have hl := cells_length f n
    by_cases hj : j < n
    · obtain ⟨a, b⟩ := ih hj
      rw [List.getElem?_append_left (by omega), List.getElem?_append_left (by omega)]
      exact ⟨a, b⟩
    · obtain rfl : j = n := by omega
      rw [List.getElem?_append_right (by omega), List.getElem?_append_right (by omega), hl]
      simp
theorem own_form {w : World} {base : Nat} {v : Value} {n : Nat} {xs : List Value} (h : w.ownsRow base 23 2 v n xs) (hn : 1 ≤ n) : ∃ g cap, v = .slice (some ⟨g, 0, none⟩) n cap := by
  rcases h.2 with ⟨_, h0⟩ | ⟨g, cap, _, rfl, _⟩
  · omega
  · exact ⟨g, cap, rfl⟩
theorem own_at {w : World} {base g n cap : Nat} {f : Nat → Int × Int} (h : w.ownsRow base 23 2 (.slice (some ⟨g, 0, none⟩) n cap) n (cells (upto f n))) : At w g n f := fun j hj =>
  ⟨(h.cellAt (j * 2) (by omega)).trans (cells_get f n j hj).1, (h.cellAt (j * 2 + 1) (by omega)).trans (cells_get f n j hj).2⟩
def CollPost (w : World) (len : Nat) (f : Nat → Int × Int) (e : Ending) (w' : World) : Prop :=
  ∃ v, e = .returned v ∧ w'.ownsRow w.heap.size 23 2 v len (cells (upto f len)) ∧ Below w.heap.size w w'
theorem Append_ok (Bs b len cap : Nat) (f : Nat → Int × Int) (hlen : len ≤ 400) (w : World) (hBs : Bs < w.heap.size) (hb : b < w.heap.size)
    (hc : w.cell? ⟨Bs, 0, none⟩ = some (.slice (some ⟨b, 0, none⟩) len cap)) (hI : At w b len f) :
    Calls Try.prog 24 #[.slice none 0 0, .func (.func 22) #[] #[.pointer (some ⟨Bs, 0, none⟩)]] w (CollPost w len f) :=
  callsIn_wide.1 (append_in Fence.wide 3 trivial trivial rfl (by omega) Bs b len cap f (by omega) w hBs hb hc hI)
theorem Collect_ok (Bs b len cap : Nat) (f : Nat → Int × Int) (hlen : len ≤ 400) (w : World) (hBs : Bs < w.heap.size) (hb : b < w.heap.size)
    (hc : w.cell? ⟨Bs, 0, none⟩ = some (.slice (some ⟨b, 0, none⟩) len cap)) (hI : At w b len f) :
    Calls Try.prog 20 #[.func (.func 22) #[] #[.pointer (some ⟨Bs, 0, none⟩)]] w (CollPost w len f) := by
  have H := Lib.hid hI
  have HC := Lib.hid hc
  clear hI hc
  go_enter Try.func20, Try.ntmps20
  go_wp2_with (go_at_call 24; refine (Append_ok Bs b len cap f hlen _ hBs hb HC.out H.out).mono ?_; rintro e w1 ⟨v, rfl, ho, hb1⟩)
  go_ret
  exact ⟨v, rfl, ho, hb1⟩
/-- What SortedFunc hands back: a new row that holds the spans f. -/
def SortedPost (w : World) (len : Nat) (f : Nat → Int × Int) (e : Ending) (w' : World) : Prop :=
  ∃ g cap, e = .returned (.slice (some ⟨g, 0, none⟩) len cap) ∧ w.heap.size ≤ g ∧ g < w'.heap.size ∧ At w' g len f ∧ Below w.heap.size w w'
theorem Sorted_ok (Bs b len cap : Nat) (f : Nat → Int × Int) (hlen1 : 1 ≤ len) (hlen : len ≤ 400) (hf : ∀ i j, i < j → (f i).1 < (f j).1) (w : World) (hBs : Bs < w.heap.size) (hb : b < w.heap.size)
    (hc : w.cell? ⟨Bs, 0, none⟩ = some (.slice (some ⟨b, 0, none⟩) len cap)) (hI : At w b len f) :
    Calls Try.prog 16 #[.func (.func 22) #[] #[.pointer (some ⟨Bs, 0, none⟩)], .func (.func 18) #[] #[]] w (SortedPost w len f) := by
  have H := Lib.hid hI
  have HC := Lib.hid hc
  have HF := Lib.hid hf
  clear hI hc hf
  go_enter Try.func16, Try.ntmps16
  go_wp2_with (go_at_call 20; refine (Collect_ok Bs b len cap f hlen _ hBs hb HC.out H.out).mono ?_; rintro e w1 ⟨v, rfl, ho, hb1⟩; obtain ⟨g, c, rfl⟩ := own_form ho hlen1; have HO := Lib.hid ho; clear ho)
  have hg := HO.out.lt g rfl
  have hA := Lib.hid (own_at HO.out)
  have hz := Lib.hid (fun o => HO.out.frozenAt o)
  go_wp2_with (go_at_call 21; refine (SortFunc_ok g len c f hlen HF.out _ hg.2 hA.out hz.out).mono ?_; rintro e w2 ⟨rfl, hb2⟩)
  go_ret
  exact ⟨g, c, rfl, hg.1, Nat.lt_of_lt_of_le hg.2 hb2.size, hA.out.below hb2 hg.2, hb1.trans (hb2.mono hb1.size)⟩
end Go.Proofs.Ytcpepenhebipbaa.Qi
