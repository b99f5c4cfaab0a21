/- Whether an entry may be: the walk of the program's Check. -/
import Derived.Test.YtiifflojpoobpaaGreatHom1
import Derived.Test.YtiifflojpoobpaaGreatHom3
set_option linter.unusedVariables false
set_option linter.unusedSimpArgs false
namespace Go.Proofs.YtiifflojpoobpaaGreat
open Go.RowKit

theorem chkN_any (x : EV) (d : ED) (w : World) (hI : EntryIs w x d) : Calls Tryz.prog 6 #[.agg #[.int .i64 x.k, .int .i64 x.id.b, .int .u64 x.id.l, .int .u64 x.id.s, .int .i64 x.c, .int .u64 x.u, .slice x.f.a x.f.n x.f.c, .slice x.e.a x.e.n x.e.c]] w (ChkD d w) := by
  by_cases k1 : x.k = 1
  · exact chk1_any x d w hI k1
  · by_cases k2 : x.k = 2
    · exact chk2_any x d w hI k2
    · by_cases k3 : x.k = 3
      · exact chk3_any x d w hI k3
      · exact chk0_any x d w hI k1 k2 k3
end Go.Proofs.YtiifflojpoobpaaGreat
