/- Events that came in. -/
import Derived.Test.YtdhkfdaajkehhaaEv
namespace Go.Proofs.Ytdhkfdaajkehhaa
open Go.RowKit
end Go.Proofs.Ytdhkfdaajkehhaa
