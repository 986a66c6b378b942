/- The tie: its facts. -/
import Derived.Test.YtlflbbgilgjghaaGreatDoorRows
import Derived.KernelRfl
import Derived.LaidByTextLater
import Derived.SevenTiedAt
set_option linter.all false
set_option linter.unusedVariables false
set_option linter.unusedSimpArgs false
namespace Go.Proofs.YtlflbbgilgjghaaGreatDoor
open Go
set_option maxRecDepth 1000000 in
theorem t3 : ([("bedrock/crc.nibbles", Rows.laid_bedrock_crc_nibbles), ("bedrock/sizeclass.payload", Rows.laid_bedrock_sizeclass_payload), ("unicode/utf8.acceptRanges", Rows.laid_unicode_utf8_acceptRanges)] : List (String × DataW Unit)).map (fun x => Tryz.prog.kindOfLater x.1) = ([.data, .data, .data] : List LaidKind).map some := by kernel_rfl
end Go.Proofs.YtlflbbgilgjghaaGreatDoor
namespace Go.Proofs.YtlflbbgilgjghaaGreatDoor
open Go
set_option maxRecDepth 1000000 in
theorem t4 : (Tryz.prog.funcNamed "gosem.cut.vars").isSome = true := by kernel_rfl
end Go.Proofs.YtlflbbgilgjghaaGreatDoor
namespace Go.Proofs.YtlflbbgilgjghaaGreatDoor
open Go
set_option maxRecDepth 1000000 in
theorem t5 : varsNamedLaterB Tryz.prog (varsId Tryz.prog) [("bedrock/crc.nibbles", Rows.laid_bedrock_crc_nibbles), ("bedrock/sizeclass.payload", Rows.laid_bedrock_sizeclass_payload), ("unicode/utf8.acceptRanges", Rows.laid_unicode_utf8_acceptRanges)] = true := by kernel_rfl
end Go.Proofs.YtlflbbgilgjghaaGreatDoor
