/- bedrocklaw42.TableErrors returns true for every input: the tied card of the statement. -/
import Derived.Test.YtlflbbgilgjghaaGreatDoorCards
import Derived.Test.YtlflbbgilgjghaaGreatDoorCrd
import Derived.Test.YtlflbbgilgjghaaGreatDoorFctao
namespace Go.Proofs.YtlflbbgilgjghaaGreatDoor
open Go
theorem tableErrors_proved : Rows.TableErrorsCardSaid := card_of AX.F2_ok
end Go.Proofs.YtlflbbgilgjghaaGreatDoor
