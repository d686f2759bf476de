/-
  DERIVED. GIVEN WITH THE SEED: THE PROGRAM's TIES (one call each: nine closed facts by the kernel) AND EACH ROW's TIE, after the 31st guide's Derived/Test/Toyas{Tie, Card}.lean. No idea stands in it: it is a product of the set-up. Laid BY PROGRAM, IN A SANDBOX (cutbox-door.mjs). By AI agents, Wed Nov 11 2026. No macro, syntax, notation, axiom, sorry.
-/
import Derived.Test.YtkgijkfcmbpgpaaDoorRows
import Derived.LaidByTextLater
import Derived.SevenTiedAt
import Derived.LaidSub
import Derived.LaidOnce
namespace Go.Proofs.YtkgijkfcmbpgpaaDoor
open Go
set_option maxRecDepth 100000
theorem seatTie1 : Tryd.prog.laidByTextLater [("legate/sha.keys", Rows.laid_legate_sha_keys), ("legate/sha.first", Rows.laid_legate_sha_first)] [.data, .wider] true :=
  Program.laidByTextLater_by_one 19 8 65 (by kernel_rfl) (by kernel_rfl) (by kernel_rfl) (by kernel_rfl) (by kernel_rfl) (by kernel_rfl) (fun _ _ => by kernel_rfl)
theorem noOwnUnsafe : Tryd.pinned.checked.prog.headLifts.contains "ownunsafe" = false := by kernel_rfl
theorem tie : Tryd.prog.laidByTextLater [("legate/sha.keys", Rows.laid_legate_sha_keys), ("legate/sha.first", Rows.laid_legate_sha_first)] [.data, .wider] true :=
  Program.laidByTextLater.sub seatTie1 ["legate/sha.keys", "legate/sha.first"] (by kernel_rfl) (by kernel_rfl)
theorem shaSums_row_tie : Rows.shaSumsRow.laidByTextAt .later Tryd.pinned [.data, .wider] true :=
  OpenClaim.laidByTextAt_later rfl rfl tie noOwnUnsafe
theorem shaBlocks_row_tie : Rows.shaBlocksRow.laidByTextAt .later Tryd.pinned [.data, .wider] true :=
  OpenClaim.laidByTextAt_later rfl rfl tie noOwnUnsafe
theorem shaParts_row_tie : Rows.shaPartsRow.laidByTextAt .later Tryd.pinned [.data, .wider] true :=
  OpenClaim.laidByTextAt_later rfl rfl tie noOwnUnsafe
theorem shaPads_row_tie : Rows.shaPadsRow.laidByTextAt .later Tryd.pinned [.data, .wider] true :=
  OpenClaim.laidByTextAt_later rfl rfl tie noOwnUnsafe
theorem shaOn_row_tie : Rows.shaOnRow.laidByTextAt .later Tryd.pinned [.data, .wider] true :=
  OpenClaim.laidByTextAt_later rfl rfl tie noOwnUnsafe
theorem sealEnds_row_tie : Rows.sealEndsRow.laidByTextAt .later Tryd.pinned [.data, .wider] true :=
  OpenClaim.laidByTextAt_later rfl rfl tie noOwnUnsafe
theorem sealNonce_row_tie : Rows.sealNonceRow.laidByTextAt .later Tryd.pinned [.data, .wider] true :=
  OpenClaim.laidByTextAt_later rfl rfl tie noOwnUnsafe
theorem hmacMacs_row_tie : Rows.hmacMacsRow.laidByTextAt .later Tryd.pinned [.data, .wider] true :=
  OpenClaim.laidByTextAt_later rfl rfl tie noOwnUnsafe
theorem hmacEqual_row_tie : Rows.hmacEqualRow.laidByTextAt .later Tryd.pinned [.data, .wider] true :=
  OpenClaim.laidByTextAt_later rfl rfl tie noOwnUnsafe
theorem hmacKeys_row_tie : Rows.hmacKeysRow.laidByTextAt .later Tryd.pinned [.data, .wider] true :=
  OpenClaim.laidByTextAt_later rfl rfl tie noOwnUnsafe
theorem hmacSums_row_tie : Rows.hmacSumsRow.laidByTextAt .later Tryd.pinned [.data, .wider] true :=
  OpenClaim.laidByTextAt_later rfl rfl tie noOwnUnsafe
theorem deriveKeys_row_tie : Rows.deriveKeysRow.laidByTextAt .later Tryd.pinned [.data, .wider] true :=
  OpenClaim.laidByTextAt_later rfl rfl tie noOwnUnsafe
theorem deriveLong_row_tie : Rows.deriveLongRow.laidByTextAt .later Tryd.pinned [.data, .wider] true :=
  OpenClaim.laidByTextAt_later rfl rfl tie noOwnUnsafe
theorem sealSeals_row_tie : Rows.sealSealsRow.laidByTextAt .later Tryd.pinned [.data, .wider] true :=
  OpenClaim.laidByTextAt_later rfl rfl tie noOwnUnsafe
theorem sealSums_row_tie : Rows.sealSumsRow.laidByTextAt .later Tryd.pinned [.data, .wider] true :=
  OpenClaim.laidByTextAt_later rfl rfl tie noOwnUnsafe
theorem sealBack_row_tie : Rows.sealBackRow.laidByTextAt .later Tryd.pinned [.data, .wider] true :=
  OpenClaim.laidByTextAt_later rfl rfl tie noOwnUnsafe
theorem shaSumsUpto_row_tie : Rows.shaSumsUptoRow.laidByTextAt .later Tryd.pinned [.data, .wider] true :=
  OpenClaim.laidByTextAt_later rfl rfl tie noOwnUnsafe
theorem shaBlocksUpto_row_tie : Rows.shaBlocksUptoRow.laidByTextAt .later Tryd.pinned [.data, .wider] true :=
  OpenClaim.laidByTextAt_later rfl rfl tie noOwnUnsafe
theorem shaPartsUpto_row_tie : Rows.shaPartsUptoRow.laidByTextAt .later Tryd.pinned [.data, .wider] true :=
  OpenClaim.laidByTextAt_later rfl rfl tie noOwnUnsafe
theorem shaPadsUpto_row_tie : Rows.shaPadsUptoRow.laidByTextAt .later Tryd.pinned [.data, .wider] true :=
  OpenClaim.laidByTextAt_later rfl rfl tie noOwnUnsafe
theorem shaOnUpto_row_tie : Rows.shaOnUptoRow.laidByTextAt .later Tryd.pinned [.data, .wider] true :=
  OpenClaim.laidByTextAt_later rfl rfl tie noOwnUnsafe
theorem sealEndsUpto_row_tie : Rows.sealEndsUptoRow.laidByTextAt .later Tryd.pinned [.data, .wider] true :=
  OpenClaim.laidByTextAt_later rfl rfl tie noOwnUnsafe
theorem sealNonceUpto_row_tie : Rows.sealNonceUptoRow.laidByTextAt .later Tryd.pinned [.data, .wider] true :=
  OpenClaim.laidByTextAt_later rfl rfl tie noOwnUnsafe
theorem hmacMacsUpto_row_tie : Rows.hmacMacsUptoRow.laidByTextAt .later Tryd.pinned [.data, .wider] true :=
  OpenClaim.laidByTextAt_later rfl rfl tie noOwnUnsafe
theorem hmacEqualUpto_row_tie : Rows.hmacEqualUptoRow.laidByTextAt .later Tryd.pinned [.data, .wider] true :=
  OpenClaim.laidByTextAt_later rfl rfl tie noOwnUnsafe
theorem hmacKeysUpto_row_tie : Rows.hmacKeysUptoRow.laidByTextAt .later Tryd.pinned [.data, .wider] true :=
  OpenClaim.laidByTextAt_later rfl rfl tie noOwnUnsafe
theorem hmacSumsUpto_row_tie : Rows.hmacSumsUptoRow.laidByTextAt .later Tryd.pinned [.data, .wider] true :=
  OpenClaim.laidByTextAt_later rfl rfl tie noOwnUnsafe
theorem deriveKeysUpto_row_tie : Rows.deriveKeysUptoRow.laidByTextAt .later Tryd.pinned [.data, .wider] true :=
  OpenClaim.laidByTextAt_later rfl rfl tie noOwnUnsafe
theorem deriveLongUpto_row_tie : Rows.deriveLongUptoRow.laidByTextAt .later Tryd.pinned [.data, .wider] true :=
  OpenClaim.laidByTextAt_later rfl rfl tie noOwnUnsafe
theorem sealSealsUpto_row_tie : Rows.sealSealsUptoRow.laidByTextAt .later Tryd.pinned [.data, .wider] true :=
  OpenClaim.laidByTextAt_later rfl rfl tie noOwnUnsafe
theorem sealSumsUpto_row_tie : Rows.sealSumsUptoRow.laidByTextAt .later Tryd.pinned [.data, .wider] true :=
  OpenClaim.laidByTextAt_later rfl rfl tie noOwnUnsafe
theorem sealBackUpto_row_tie : Rows.sealBackUptoRow.laidByTextAt .later Tryd.pinned [.data, .wider] true :=
  OpenClaim.laidByTextAt_later rfl rfl tie noOwnUnsafe
end Go.Proofs.YtkgijkfcmbpgpaaDoor
