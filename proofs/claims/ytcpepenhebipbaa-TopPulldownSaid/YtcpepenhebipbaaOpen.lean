/- Arguments opened by what the row says of them: integers, bools, strings, and aggregates of such cells, whatever their number. Plain theorems over any program. -/
import Derived.WalkKit
import Derived.ProofKit
import Derived.OpenShut
import Derived.Below
import Derived.Deep.Slices
import Derived.Laws.Rows
namespace Go.Proofs.Ytcpepenhebipbaa.Op
open Go.ChangeShapes Go.WideShapes Go.ChangeAt Go.RowKit
set_option linter.unusedVariables false

section
variable {P : Program} {w : World} {r : Reach} {base : Nat}

theorem ok_i64 {t : TypeId} {v : Value} (ht : P.underlying t = some (.int .i64)) (h : Cell.okWide P w r base t v) :
    ∃ n, v = .int .i64 n ∧ -9223372036854775808 ≤ n ∧ n ≤ 9223372036854775807 := by
  simp only [Cell.okWide, ht] at h
  cases v <;> simp_all [Cell.ok, IntKind.has, IntKind.min, IntKind.max, IntKind.signed, IntKind.bits]

theorem ok_u8 {t : TypeId} {v : Value} (ht : P.underlying t = some (.int .u8)) (h : Cell.okWide P w r base t v) :
    ∃ n, v = .int .u8 n ∧ 0 ≤ n ∧ n ≤ 255 := by
  simp only [Cell.okWide, ht] at h
  cases v <;> simp_all [Cell.ok, IntKind.has, IntKind.min, IntKind.max, IntKind.signed, IntKind.bits]

theorem ok_bool {t : TypeId} {v : Value} (ht : P.underlying t = some .bool) (h : Cell.okWide P w r base t v) : ∃ b, v = .bool b := by
  simp only [Cell.okWide, ht] at h
  cases v <;> simp_all [Cell.ok]

theorem ok_string {t : TypeId} {v : Value} (ht : P.underlying t = some .string) (h : Cell.okWide P w r base t v) : ∃ s, v = .string s ∧ s.size ≤ 9223372036854775807 := by
  simp only [Cell.okWide, ht] at h
  cases v <;> simp_all [Cell.ok, IntKind.max, IntKind.signed, IntKind.bits]
  omega

theorem ok_one {t : TypeId} {v : Value} (h : Value.okWide P w r base t v) (hs : ∀ fs, P.underlying t ≠ some (.struct fs)) (ha : ∀ n e, P.underlying t ≠ some (.array n e)) : Cell.okWide P w r base t v := by
  unfold Value.okWide at h
  split at h
  · exact absurd ‹_› (hs _)
  · exact absurd ‹_› (ha _ _)
  · exact h

theorem one_i64 {t : TypeId} {v : Value} (ht : P.underlying t = some (.int .i64)) (h : Value.okWide P w r base t v) :
    ∃ n, v = .int .i64 n ∧ -9223372036854775808 ≤ n ∧ n ≤ 9223372036854775807 :=
  ok_i64 ht (ok_one h (by simp [ht]) (by simp [ht]))
theorem one_u8 {t : TypeId} {v : Value} (ht : P.underlying t = some (.int .u8)) (h : Value.okWide P w r base t v) :
    ∃ n, v = .int .u8 n ∧ 0 ≤ n ∧ n ≤ 255 :=
  ok_u8 ht (ok_one h (by simp [ht]) (by simp [ht]))
theorem one_bool {t : TypeId} {v : Value} (ht : P.underlying t = some .bool) (h : Value.okWide P w r base t v) : ∃ b, v = .bool b :=
  ok_bool ht (ok_one h (by simp [ht]) (by simp [ht]))
theorem one_string {t : TypeId} {v : Value} (ht : P.underlying t = some .string) (h : Value.okWide P w r base t v) : ∃ s, v = .string s ∧ s.size ≤ 9223372036854775807 :=
  ok_string ht (ok_one h (by simp [ht]) (by simp [ht]))

/-- A struct or an array by value: its cells, each with what its type says of it. -/
theorem ok_cells {t : TypeId} {v : Value} {ts : List TypeId} (hu : (∃ fs, P.underlying t = some (.struct fs)) ∨ ∃ n e, P.underlying t = some (.array n e)) (hts : P.cellTypes P.depth t = some ts) (hlen : P.cellsOf t = ts.length)
    (h : Value.okWide P w r base t v) : ∃ cs : Array Value, v = .agg cs ∧ cs.size = ts.length ∧ ∀ (i : Nat) (x : Value), cs[i]? = some x → ∃ u, ts[i]? = some u ∧ Cell.okWide P w r base u x := by
  have h' : ∃ cs, v = .agg cs ∧ cs.size = P.cellsOf t ∧ Row.okWide P w r base t cs := by
    rcases hu with ⟨fs, hu⟩ | ⟨n, e, hu⟩ <;> · simp only [Value.okWide, hu] at h; exact h
  obtain ⟨cs, rfl, hsz, ts', hts', _, hc⟩ := h'
  rw [hts] at hts'
  obtain rfl := Option.some.inj hts'
  refine ⟨cs, rfl, hsz.trans hlen, fun i x hx => ?_⟩
  obtain ⟨u, h1, h2⟩ := hc i x hx
  have hi : i < ts.length := by
    have := (Array.getElem?_eq_some_iff.1 hx).1
    omega
  rw [Nat.mod_eq_of_lt hi] at h1
  exact ⟨u, h1, h2⟩

/-- Each cell of a list has what its type says of it. -/
def OkL (P : Program) (w : World) (r : Reach) (base : Nat) : List TypeId → List Value → Prop
  | [], [] => True
  | t :: ts, v :: vs => Cell.okWide P w r base t v ∧ OkL P w r base ts vs
  | _, _ => False
theorem OkL.cons {t : TypeId} {ts : List TypeId} {l : List Value} (h : OkL P w r base (t :: ts) l) : ∃ c k, l = c :: k ∧ Cell.okWide P w r base t c ∧ OkL P w r base ts k := by
  cases l with
  | nil => exact h.elim
  | cons c k => exact ⟨c, k, rfl, h.1, h.2⟩
theorem OkL.nil {l : List Value} (h : OkL P w r base [] l) : l = [] := by
  cases l with
  | nil => rfl
  | cons c k => exact h.elim
theorem OkL.of {ts : List TypeId} {l : List Value} (hl : l.length = ts.length) (h : ∀ (i : Nat) (x : Value), l[i]? = some x → ∃ u, ts[i]? = some u ∧ Cell.okWide P w r base u x) : OkL P w r base ts l := by
  induction ts generalizing l with
  | nil => cases l with
    | nil => trivial
    | cons c k => simp at hl
  | cons t ts ih => cases l with
    | nil => simp at hl
    | cons c k =>
      refine ⟨?_, ih (by simpa using hl) (fun i x hx => by simpa using h (i + 1) x (by simpa using hx))⟩
      obtain ⟨u, hu, hc⟩ := h 0 c rfl
      simp at hu
      subst hu
      exact hc
theorem ok_list {t : TypeId} {v : Value} {ts : List TypeId} (hu : (∃ fs, P.underlying t = some (.struct fs)) ∨ ∃ n e, P.underlying t = some (.array n e)) (hts : P.cellTypes P.depth t = some ts) (hlen : P.cellsOf t = ts.length)
    (h : Value.okWide P w r base t v) : ∃ l : List Value, v = .agg ⟨l⟩ ∧ OkL P w r base ts l := by
  obtain ⟨⟨l⟩, rfl, hz, hc⟩ := ok_cells hu hts hlen h
  exact ⟨l, rfl, OkL.of (by simpa using hz) (fun i x hx => hc i x (by simpa using hx))⟩

/-- What a walk is told of a slice of bools that came in: it is empty; or its elements lie in a row. -/
def IsBools (w : World) (a : Option Addr) (len cap : Nat) (z : Nat → Bool) : Prop :=
  len = 0 ∨ ∃ b off, a = some ⟨b, off, none⟩ ∧ len ≤ cap ∧ cap ≤ maxLen ∧ b < w.heap.size ∧ ∀ i, i < len → w.cell? ⟨b, off + i, none⟩ = some (.bool (z i))
end

section
variable {H : Type} {enc : TypeId × Value → H} {P : Program} {w : World} {base : Nat} {spare : Nat → Bool} {held : Bool}
theorem open_bools {t e : TypeId} {a : Option Addr} {len cap : Nat} {d : DataW H} {p : List MemPlace} (ht : P.underlying t = some (.slice e)) (he : P.underlying e = some .bool) (hC : P.cellsOf e = 1)
    (h : DataW.Trod enc P w base spare held t (.slice a len cap) d p) : ∃ z, IsBools w a len cap z := by
  by_cases h0 : len = 0
  · exact ⟨fun _ => false, .inl h0⟩
  obtain ⟨fuel, hf⟩ := h
  rcases Go.Deep.open_slice ht hf with ⟨hcs, _⟩ | ⟨x, l, c, m, n, D, Pl, hcs, hb, hl, hm, hmm, hx, hi⟩
  · simp [Value.cells] at hcs
    exact absurd hcs.2.1 h0
  · simp [Value.cells] at hcs
    obtain ⟨rfl, rfl, rfl⟩ := hcs
    have hlm : len ≤ m := by rw [hmm]; split <;> omega
    have hcell : ∀ i, i < len → ∃ b, w.cell? (x.add i) = some (.bool b) := fun i him => by
      obtain ⟨cs', hc, ht'⟩ := hi i (by omega)
      rw [hC] at hc
      simp only [Nat.mul_one] at hc
      obtain ⟨b, hcs', _⟩ := DataW.trod_bool he ht'
      subst hcs'
      obtain ⟨_, _, hat⟩ := World.cells?_some hc
      have := hat 0 (by omega)
      refine ⟨b, ?_⟩
      simpa [Go.Deep.add_add] using this
    obtain ⟨b0, hb0⟩ := hcell 0 (by omega)
    obtain ⟨b, off, spot⟩ := x
    have hspot : spot = none := by simpa [Addr.add] using World.cell?_spot hb0
    subst hspot
    have hlt : b < w.heap.size := by simpa [Addr.add] using block_lt_of_cell hb0
    refine ⟨fun i => if h : i < len then Classical.choose (hcell i h) else false, .inr ⟨b, off, rfl, hl, hm, hlt, fun i him => ?_⟩⟩
    have := Classical.choose_spec (hcell i him)
    have hadd : (⟨b, off, none⟩ : Addr).add i = ⟨b, off + i, none⟩ := by unfold Addr.add; split <;> simp_all
    have goal : ∀ q, w.cell? ((⟨b, off, none⟩ : Addr).add i) = some q → w.cell? ⟨b, off + i, none⟩ = some q := fun q hq => by rw [← hadd]; exact hq
    simp only [him, dif_pos]
    exact goal _ this
end
end Go.Proofs.Ytcpepenhebipbaa.Op
