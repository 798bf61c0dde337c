/- WireFields: the law. -/
import Derived.Test.YtbgbplbkombfjaaDoorWFields1
import Derived.Test.YtbgbplbkombfjaaDoorWFields2
import Derived.Test.YtbgbplbkombfjaaDoorWFields3
import Derived.Test.YtbgbplbkombfjaaDoorWFields4
import Derived.Test.YtbgbplbkombfjaaDoorWFields5
import Derived.Test.YtbgbplbkombfjaaDoorRowHdr
namespace Go.Proofs.YtbgbplbkombfjaaDoor
open Go.RowKit Go.Proofs.YtbgbplbkombfjaaDoorW.PrintWords SumPlain
theorem wireFields_all (E : Nat → Addr) (kind what g : Int) (w : World) (hE : Errs wireErrs E w) (hkw : (Lit.int .i64 kind).wf = true) (hww : (Lit.int .i64 what).wf = true) (hg : (Lit.int .u32 g).wf = true) :
    Calls Tryd.prog 7 #[.int .i64 kind, .int .i64 what, .int .u32 g] w fun e w' => e = .returned (.bool true) ∧ Below w.heap.size w w' := by
  have hg := u32_wf hg
  obtain h | h | h | h | h : kind % 5 = 0 ∨ kind % 5 = 1 ∨ kind % 5 = 2 ∨ kind % 5 = 3 ∨ kind % 5 = 4 := by omega
  · exact wfields1 E kind what g w hE h hkw hww hg
  · exact wfields2 E kind what g w hE h hkw hww hg
  · exact wfields3 E kind what g w hE h hkw hww hg
  · exact wfields4 E kind what g w hE h hkw hww hg
  · exact wfields5 E kind what g w hE h hkw hww hg
end Go.Proofs.YtbgbplbkombfjaaDoor
