import Derived.Test.YtmgmggkebmgafaaDoorQLLad
import Derived.Test.YtmgmggkebmgafaaDoorQLLadF
import Derived.Test.YtmgmggkebmgafaaDoorGLx2
namespace Go.Proofs.YtmgmggkebmgafaaDoor.Q
open Go.RowKit Go.Proofs.YtmgmggkebmgafaaDoor.GL Go.Proofs.YtmgmggkebmgafaaDoorW.PrintWords Go.Proofs.YtmgmggkebmgafaaDoorW.PrintLast Go.Proofs.YtmgmggkebmgafaaDoorW.PrintMore
theorem shown07 : backfilllaw07_shown.f = some true := by decide +kernel
end Go.Proofs.YtmgmggkebmgafaaDoor.Q
