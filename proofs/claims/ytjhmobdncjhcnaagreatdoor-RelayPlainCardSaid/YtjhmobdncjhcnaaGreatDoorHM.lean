/- attr.Same, rib.SameRoute. -/
import Derived.Test.YtjhmobdncjhcnaaGreatDoorHJ
namespace Go.Proofs.YtjhmobdncjhcnaaGreatDoor
open Go Go.V
set_option maxRecDepth 10000
set_option linter.unusedVariables false
attribute [local irreducible] vBuild vCallV
end Go.Proofs.YtjhmobdncjhcnaaGreatDoor
/- attr.Same, rib.SameRoute. -/
namespace Go.Proofs.YtjhmobdncjhcnaaGreatDoor
open Go Go.V
set_option maxRecDepth 10000
set_option linter.unusedVariables false
attribute [local irreducible] vBuild vCallV
end Go.Proofs.YtjhmobdncjhcnaaGreatDoor
