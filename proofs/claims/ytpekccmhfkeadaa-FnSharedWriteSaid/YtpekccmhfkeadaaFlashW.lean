/-
  Flash memories: copies. Conditions: lengths at most 2^40.
-/
import Derived.Test.YtpekccmhfkeadaaBase
import Derived.Test.YtpekccmhfkeadaaNum
import Derived.Test.YtpekccmhfkeadaaInts
import Derived.Test.YtpekccmhfkeadaaApp
import Derived.Test.YtpekccmhfkeadaaIntsW
import Derived.Test.YtpekccmhfkeadaaLib
import Derived.Test.YtpekccmhfkeadaaSpares
import Derived.Test.YtpekccmhfkeadaaOwn
import Derived.Test.YtpekccmhfkeadaaThinC
namespace Go.Proofs.Ytpekccmhfkeadaa
open Go.RowKit
abbrev cloneIntS_w := @cloneInts_w
abbrev elIntS := el_int
end Go.Proofs.Ytpekccmhfkeadaa
