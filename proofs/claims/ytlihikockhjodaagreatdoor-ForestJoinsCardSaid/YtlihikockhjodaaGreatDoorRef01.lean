import Derived.Test.YtlihikockhjodaaGreatDoorTb
import Derived.Test.YtlihikockhjodaaGreatDoorSxZ

namespace Yard
open Go Go.Sx Go.Proofs
set_option linter.unusedVariables false
set_option linter.unusedSimpArgs false
set_option maxRecDepth 4000

end Yard
