import Derived.Test.YtlihikockhjodaaGreatDoorCrc
import Derived.Test.YtlihikockhjodaaGreatDoorNodeMath
import Derived.Test.YtlihikockhjodaaGreatDoorSlotInv

namespace Yard
open Go Go.Sx Go.Proofs
set_option linter.unusedVariables false
set_option linter.unusedSimpArgs false
set_option maxRecDepth 4000

set_option maxHeartbeats 4000000


end Yard
