/- The plain law of layer 4 (pulldown): what the functions compute, in integers, and what holds of it. No condition. -/
import Derived.WalkKit
namespace Go.Proofs.Ytcpepenhebipbaa.Pu

/-- The first field of film frame n. -/
def fld (p n : Int) : Int := 2 * n + (n + p % 2) / 2
/-- The film frame that is seen in a field. -/
def sn (p f : Int) : Int := 2 * (f / 5) + (if 2 + (1 + p % 2) / 2 ≤ f % 5 then 1 else 0)

theorem fld_sn (p f : Int) : fld p (sn p f) ≤ f ∧ f < fld p (sn p f + 1) := by
  unfold fld sn
  split <;> omega

theorem sn_of (p f n : Int) (h1 : fld p n ≤ f) (h2 : f < fld p (n + 1)) : sn p f = n := by
  unfold fld at h1 h2
  unfold sn
  split <;> omega

theorem fld_mono (p a b : Int) (h : a ≤ b) : fld p a ≤ fld p b := by unfold fld; omega
theorem fld_step (p a : Int) : fld p a + 2 ≤ fld p (a + 1) ∧ fld p (a + 1) ≤ fld p a + 3 := by unfold fld; omega
theorem fld_zero (p : Int) : fld p 0 = 0 := by unfold fld; omega
theorem fld_bd (p n : Int) (h0 : 0 ≤ n) (h1 : n ≤ 5184001) : 0 ≤ fld p n ∧ fld p n ≤ 12960003 := by unfold fld; omega
theorem sn_bd (p f : Int) (h0 : 0 ≤ f) : 0 ≤ sn p f ∧ sn p f ≤ f := by unfold sn; split <;> omega

/-- Both fields of video frame v show one film frame. -/
def cl (p v : Int) : Bool := sn p (2 * v + 1) == sn p (2 * v)

theorem cl_iff (p v : Int) : cl p v = true ↔ sn p (2 * v + 1) = sn p (2 * v) := by unfold cl; simp
theorem cl_comm (p v : Int) : (sn p (2 * v) == sn p (2 * v + 1)) = cl p v := by
  unfold cl; rw [Bool.eq_iff_iff]; simp only [beq_iff_eq]; exact eq_comm

end Go.Proofs.Ytcpepenhebipbaa.Pu
