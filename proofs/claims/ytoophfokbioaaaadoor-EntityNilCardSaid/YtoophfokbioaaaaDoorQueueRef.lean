/- The reference's queue does what the queue does. -/
import Derived.Test.YtoophfokbioaaaaDoorQueueB
namespace Go.Proofs.YtoophfokbioaaaaDoor
open Go.RowKit
set_option maxRecDepth 100000

end Go.Proofs.YtoophfokbioaaaaDoor
