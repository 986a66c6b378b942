/- The tie: its facts. -/
import Derived.Test.YtlflbbgilgjghaaGreatDoorRows
import Derived.KernelRfl
import Derived.LaidByTextLater
import Derived.SevenTiedAt
set_option linter.all false
set_option linter.unusedVariables false
set_option linter.unusedSimpArgs false
namespace Go.Proofs.YtlflbbgilgjghaaGreatDoor
open Go
set_option maxRecDepth 1000000 in
theorem t6 : ∀ os tape, varsDone Tryz.prog 400 (varsId Tryz.prog) os tape = true := fun _ _ => by kernel_rfl
end Go.Proofs.YtlflbbgilgjghaaGreatDoor
namespace Go.Proofs.YtlflbbgilgjghaaGreatDoor
open Go
set_option maxRecDepth 1000000 in
theorem t7 : ∀ os tape, (DataW.laidRun Tryz.prog (varsWorld Tryz.prog 400 (varsId Tryz.prog) os tape).memory 8 (([("bedrock/crc.nibbles", Rows.laid_bedrock_crc_nibbles), ("bedrock/sizeclass.payload", Rows.laid_bedrock_sizeclass_payload), ("unicode/utf8.acceptRanges", Rows.laid_unicode_utf8_acceptRanges)] : List (String × DataW Unit)).map (·.1))).map (·.1) = some [("bedrock/crc.nibbles", Rows.laid_bedrock_crc_nibbles), ("bedrock/sizeclass.payload", Rows.laid_bedrock_sizeclass_payload), ("unicode/utf8.acceptRanges", Rows.laid_unicode_utf8_acceptRanges)] := fun _ _ => by kernel_rfl
end Go.Proofs.YtlflbbgilgjghaaGreatDoor
namespace Go.Proofs.YtlflbbgilgjghaaGreatDoor
open Go
set_option maxRecDepth 1000000 in
theorem t8 : ∀ os tape, (DataW.laidRun Tryz.prog (varsWorld Tryz.prog 400 (varsId Tryz.prog) os tape).memory 8 (([("bedrock/crc.nibbles", Rows.laid_bedrock_crc_nibbles), ("bedrock/sizeclass.payload", Rows.laid_bedrock_sizeclass_payload), ("unicode/utf8.acceptRanges", Rows.laid_unicode_utf8_acceptRanges)] : List (String × DataW Unit)).map (·.1))).map (fun x => decide x.2.Nodup && laidRowsB Tryz.prog (varsWorld Tryz.prog 400 (varsId Tryz.prog) os tape).memory x.2) = some true := fun _ _ => by kernel_rfl
end Go.Proofs.YtlflbbgilgjghaaGreatDoor
