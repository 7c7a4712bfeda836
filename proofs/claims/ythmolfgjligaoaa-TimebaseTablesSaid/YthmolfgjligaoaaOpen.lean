/- Arguments opened by what the row says of them: integers, bools, strings, and aggregates of such cells, whatever their number. Plain theorems over any program. -/
import Derived.WalkKit
import Derived.ProofKit
import Derived.OpenShut
import Derived.Below
import Derived.Deep.Slices
namespace Go.Proofs.Ythmolfgjligaoaa.Op
open Go.ChangeShapes Go.WideShapes Go.ChangeAt Go.RowKit
set_option linter.unusedVariables false

section
variable {P : Program} {w : World} {r : Reach} {base : Nat}

theorem ok_i64 {t : TypeId} {v : Value} (ht : P.underlying t = some (.int .i64)) (h : Cell.okWide P w r base t v) :
    ∃ n, v = .int .i64 n ∧ -9223372036854775808 ≤ n ∧ n ≤ 9223372036854775807 := by
  simp only [Cell.okWide, ht] at h
  cases v <;> simp_all [Cell.ok, IntKind.has, IntKind.min, IntKind.max, IntKind.signed, IntKind.bits]

theorem ok_u8 {t : TypeId} {v : Value} (ht : P.underlying t = some (.int .u8)) (h : Cell.okWide P w r base t v) :
    ∃ n, v = .int .u8 n ∧ 0 ≤ n ∧ n ≤ 255 := by
  simp only [Cell.okWide, ht] at h
  cases v <;> simp_all [Cell.ok, IntKind.has, IntKind.min, IntKind.max, IntKind.signed, IntKind.bits]

theorem ok_bool {t : TypeId} {v : Value} (ht : P.underlying t = some .bool) (h : Cell.okWide P w r base t v) : ∃ b, v = .bool b := by
  simp only [Cell.okWide, ht] at h
  cases v <;> simp_all [Cell.ok]

theorem ok_string {t : TypeId} {v : Value} (ht : P.underlying t = some .string) (h : Cell.okWide P w r base t v) : ∃ s, v = .string s ∧ s.size ≤ 9223372036854775807 := by
  simp only [Cell.okWide, ht] at h
  cases v <;> simp_all [Cell.ok, IntKind.max, IntKind.signed, IntKind.bits]
  omega

theorem ok_one {t : TypeId} {v : Value} (h : Value.okWide P w r base t v) (hs : ∀ fs, P.underlying t ≠ some (.struct fs)) (ha : ∀ n e, P.underlying t ≠ some (.array n e)) : Cell.okWide P w r base t v := by
  unfold Value.okWide at h
  split at h
  · exact absurd ‹_› (hs _)
  · exact absurd ‹_› (ha _ _)
  · exact h

theorem one_i64 {t : TypeId} {v : Value} (ht : P.underlying t = some (.int .i64)) (h : Value.okWide P w r base t v) :
    ∃ n, v = .int .i64 n ∧ -9223372036854775808 ≤ n ∧ n ≤ 9223372036854775807 :=
  ok_i64 ht (ok_one h (by simp [ht]) (by simp [ht]))
theorem one_u8 {t : TypeId} {v : Value} (ht : P.underlying t = some (.int .u8)) (h : Value.okWide P w r base t v) :
    ∃ n, v = .int .u8 n ∧ 0 ≤ n ∧ n ≤ 255 :=
  ok_u8 ht (ok_one h (by simp [ht]) (by simp [ht]))
theorem one_bool {t : TypeId} {v : Value} (ht : P.underlying t = some .bool) (h : Value.okWide P w r base t v) : ∃ b, v = .bool b :=
  ok_bool ht (ok_one h (by simp [ht]) (by simp [ht]))
theorem one_string {t : TypeId} {v : Value} (ht : P.underlying t = some .string) (h : Value.okWide P w r base t v) : ∃ s, v = .string s ∧ s.size ≤ 9223372036854775807 :=
  ok_string ht (ok_one h (by simp [ht]) (by simp [ht]))

/-- A struct or an array by value: its cells, each with what its type says of it. -/
theorem ok_cells {t : TypeId} {v : Value} {ts : List TypeId} (hu : (∃ fs, P.underlying t = some (.struct fs)) ∨ ∃ n e, P.underlying t = some (.array n e)) (hts : P.cellTypes P.depth t = some ts) (hlen : P.cellsOf t = ts.length)
    (h : Value.okWide P w r base t v) : ∃ cs : Array Value, v = .agg cs ∧ cs.size = ts.length ∧ ∀ (i : Nat) (x : Value), cs[i]? = some x → ∃ u, ts[i]? = some u ∧ Cell.okWide P w r base u x := by
  have h' : ∃ cs, v = .agg cs ∧ cs.size = P.cellsOf t ∧ Row.okWide P w r base t cs := by
    rcases hu with ⟨fs, hu⟩ | ⟨n, e, hu⟩ <;> · simp only [Value.okWide, hu] at h; exact h
  obtain ⟨cs, rfl, hsz, ts', hts', _, hc⟩ := h'
  rw [hts] at hts'
  obtain rfl := Option.some.inj hts'
  refine ⟨cs, rfl, hsz.trans hlen, fun i x hx => ?_⟩
  obtain ⟨u, h1, h2⟩ := hc i x hx
  have hi : i < ts.length := by
    have := (Array.getElem?_eq_some_iff.1 hx).1
    omega
  rw [Nat.mod_eq_of_lt hi] at h1
  exact ⟨u, h1, h2⟩

/-- Each cell of a list has what its type says of it. -/
def OkL (P : Program) (w : World) (r : Reach) (base : Nat) : List TypeId → List Value → Prop
  | [], [] => True
  | t :: ts, v :: vs => Cell.okWide P w r base t v ∧ OkL P w r base ts vs
  | _, _ => False
theorem OkL.cons {t : TypeId} {ts : List TypeId} {l : List Value} (h : OkL P w r base (t :: ts) l) : ∃ c k, l = c :: k ∧ Cell.okWide P w r base t c ∧ OkL P w r base ts k := by
  cases l with
  | nil => exact h.elim
  | cons c k => exact ⟨c, k, rfl, h.1, h.2⟩
theorem OkL.nil {l : List Value} (h : OkL P w r base [] l) : l = [] := by
  cases l with
  | nil => rfl
  | cons c k => exact h.elim
theorem OkL.of {ts : List TypeId} {l : List Value} (hl : l.length = ts.length) (h : ∀ (i : Nat) (x : Value), l[i]? = some x → ∃ u, ts[i]? = some u ∧ Cell.okWide P w r base u x) : OkL P w r base ts l := by
  induction ts generalizing l with
  | nil => cases l with
    | nil => trivial
    | cons c k => simp at hl
  | cons t ts ih => cases l with
    | nil => simp at hl
    | cons c k =>
      refine ⟨?_, ih (by simpa using hl) (fun i x hx => by simpa using h (i + 1) x (by simpa using hx))⟩
      obtain ⟨u, hu, hc⟩ := h 0 c rfl
      simp at hu
      subst hu
      exact hc
theorem ok_list {t : TypeId} {v : Value} {ts : List TypeId} (hu : (∃ fs, P.underlying t = some (.struct fs)) ∨ ∃ n e, P.underlying t = some (.array n e)) (hts : P.cellTypes P.depth t = some ts) (hlen : P.cellsOf t = ts.length)
    (h : Value.okWide P w r base t v) : ∃ l : List Value, v = .agg ⟨l⟩ ∧ OkL P w r base ts l := by
  obtain ⟨⟨l⟩, rfl, hz, hc⟩ := ok_cells hu hts hlen h
  exact ⟨l, rfl, OkL.of (by simpa using hz) (fun i x hx => hc i x (by simpa using hx))⟩

/-- What a walk is told of a slice of bools that came in: it is nil and empty; or its elements lie in a row. -/
def IsBools (w : World) (a : Option Addr) (len cap : Nat) (z : Nat → Bool) : Prop :=
  (a = none ∧ len = 0 ∧ cap = 0) ∨
  ∃ b off, a = some ⟨b, off, none⟩ ∧ len ≤ cap ∧ cap ≤ maxLen ∧ (0 < len → b < w.heap.size) ∧ ∀ i, i < len → w.cell? ⟨b, off + i, none⟩ = some (.bool (z i))
end
end Go.Proofs.Ythmolfgjligaoaa.Op
