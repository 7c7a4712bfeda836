/- The table of the seven rates, in integers, and the contracts of the functions that read it (timebase) and of their references. No condition but that a rate is a byte. -/
import Derived.Test.YthmolfgjligaoaaChecked
import Derived.Test.YthmolfgjligaoaaBase
import Derived.Test.YthmolfgjligaoaaTim
import Derived.Test.YthmolfgjligaoaaQuo
import Derived.Test.YthmolfgjligaoaaTcv
import Derived.Test.YthmolfgjligaoaaTpl
import Derived.Test.YthmolfgjligaoaaTsp
import Derived.Test.YthmolfgjligaoaaWRa
import Derived.Test.YthmolfgjligaoaaWRb
import Derived.Test.YthmolfgjligaoaaWRc
import Derived.Test.YthmolfgjligaoaaExt
import Derived.WalkLawsBesides
namespace Go.Proofs.Ythmolfgjligaoaa.Tb
open Go.RowKit Ba Qu
set_option linter.unusedVariables false
set_option linter.unusedSimpArgs false

theorem Round_walk (w : World) (a0_0 : Int) (a0_1 : Int) (a1 : Int) (a2 : Int) (i0_0 : 0 ≤ a0_0 ∧ a0_0 ≤ 255) (i0_1 : 0 ≤ a0_1 ∧ a0_1 ≤ 255) (i1 : -9223372036854775808 ≤ a1 ∧ a1 ≤ 9223372036854775807) (i2 : -9223372036854775808 ≤ a2 ∧ a2 ≤ 9223372036854775807) :
    Calls Try.prog 3 #[.agg #[.int .u8 a0_0, .int .u8 a0_1], .int .i64 a1, .int .i64 a2] w fun e w' => e = .returned (.bool true) ∧ Below w.heap.size w w' := by
  by_cases h : a2 < a1
  · exact Rnd_gt w a0_0 a0_1 a1 a2 i0_0 i0_1 h
  · by_cases h2 : a1 < a2
    · exact Rnd_lt w a0_0 a0_1 a1 a2 i0_0 i0_1 h2 h
    · obtain rfl : a1 = a2 := by omega
      exact Rnd_eq w a0_0 a0_1 a1 i0_0 i0_1
end Go.Proofs.Ythmolfgjligaoaa.Tb
