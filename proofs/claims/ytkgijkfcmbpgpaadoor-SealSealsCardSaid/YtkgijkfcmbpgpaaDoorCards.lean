/-
  DERIVED. GIVEN WITH THE SEED: THE CARDS: each row of YtkgijkfcmbpgpaaDoorRows.lean that lists a variable, with what it lists TIED to the program's text (the seventh form; the later family's looks); each row that meets fmt, with fmt's text TOLD by the authors' own Lean function (tested against real Go, not proved from fmt's source: count such statements apart). THE CARD IS WHAT COUNTS. Prove the row's statement (the work); the ties are given (YtkgijkfcmbpgpaaDoorTie.lean); close each card by the builder's one call (the guide's Derived/Test/ToyasCard.lean, 'card_holds'). Laid BY PROGRAM, IN A SANDBOX (cutbox-door.mjs). By AI agents, Wed Nov 11 2026. No macro, syntax, notation, axiom, sorry.
-/
import Derived.Test.YtkgijkfcmbpgpaaDoorRows
import GoSem.ClaimSeven
namespace Go.Proofs.YtkgijkfcmbpgpaaDoor
namespace Rows

/-- THE TIED CARD OF 'legatelaw02.ShaSums'. -/
def shaSumsCard : Claim7 := { stood := { row := shaSumsRow, standIns := [], harness := (true, "eac262eae19f6741c120d1e783a35ed610539d2a53dea8f54e54014dad151af4"), looks := false }, kinds := [], alts := [], laidByText := true, laidKinds := [.data, .wider], laidTests := true, laidLooks := .later }
def ShaSumsCardSaid : Prop := Claim7.holds Tryd.pinned (.plain (OpenSpec.ofChange shaSumsSpec)) shaSumsCard

/-- THE TIED CARD OF 'legatelaw02.ShaBlocks'. -/
def shaBlocksCard : Claim7 := { stood := { row := shaBlocksRow, standIns := [], harness := (true, "eac262eae19f6741c120d1e783a35ed610539d2a53dea8f54e54014dad151af4"), looks := false }, kinds := [], alts := [], laidByText := true, laidKinds := [.data, .wider], laidTests := true, laidLooks := .later }
def ShaBlocksCardSaid : Prop := Claim7.holds Tryd.pinned (.plain (OpenSpec.ofChange shaBlocksSpec)) shaBlocksCard

/-- THE TIED CARD OF 'legatelaw02.ShaParts'. -/
def shaPartsCard : Claim7 := { stood := { row := shaPartsRow, standIns := [], harness := (true, "eac262eae19f6741c120d1e783a35ed610539d2a53dea8f54e54014dad151af4"), looks := false }, kinds := [], alts := [], laidByText := true, laidKinds := [.data, .wider], laidTests := true, laidLooks := .later }
def ShaPartsCardSaid : Prop := Claim7.holds Tryd.pinned (.plain (OpenSpec.ofChange shaPartsSpec)) shaPartsCard

/-- THE TIED CARD OF 'legatelaw02.ShaPads'. -/
def shaPadsCard : Claim7 := { stood := { row := shaPadsRow, standIns := [], harness := (true, "eac262eae19f6741c120d1e783a35ed610539d2a53dea8f54e54014dad151af4"), looks := false }, kinds := [], alts := [], laidByText := true, laidKinds := [.data, .wider], laidTests := true, laidLooks := .later }
def ShaPadsCardSaid : Prop := Claim7.holds Tryd.pinned (.plain (OpenSpec.ofChange shaPadsSpec)) shaPadsCard

/-- THE TIED CARD OF 'legatelaw02.ShaOn'. -/
def shaOnCard : Claim7 := { stood := { row := shaOnRow, standIns := [], harness := (true, "eac262eae19f6741c120d1e783a35ed610539d2a53dea8f54e54014dad151af4"), looks := false }, kinds := [], alts := [], laidByText := true, laidKinds := [.data, .wider], laidTests := true, laidLooks := .later }
def ShaOnCardSaid : Prop := Claim7.holds Tryd.pinned (.plain (OpenSpec.ofChange shaOnSpec)) shaOnCard

/-- THE TIED CARD OF 'legatelaw07.SealEnds'. -/
def sealEndsCard : Claim7 := { stood := { row := sealEndsRow, standIns := [], harness := (true, "eac262eae19f6741c120d1e783a35ed610539d2a53dea8f54e54014dad151af4"), looks := false }, kinds := [], alts := [], laidByText := true, laidKinds := [.data, .wider], laidTests := true, laidLooks := .later }
def SealEndsCardSaid : Prop := Claim7.holds Tryd.pinned (.plain (OpenSpec.ofChange sealEndsSpec)) sealEndsCard

/-- THE TIED CARD OF 'legatelaw07.SealNonce'. -/
def sealNonceCard : Claim7 := { stood := { row := sealNonceRow, standIns := [], harness := (true, "eac262eae19f6741c120d1e783a35ed610539d2a53dea8f54e54014dad151af4"), looks := false }, kinds := [], alts := [], laidByText := true, laidKinds := [.data, .wider], laidTests := true, laidLooks := .later }
def SealNonceCardSaid : Prop := Claim7.holds Tryd.pinned (.plain (OpenSpec.ofChange sealNonceSpec)) sealNonceCard

/-- THE TIED CARD OF 'legatelaw03.HmacMacs'. -/
def hmacMacsCard : Claim7 := { stood := { row := hmacMacsRow, standIns := [], harness := (true, "eac262eae19f6741c120d1e783a35ed610539d2a53dea8f54e54014dad151af4"), looks := false }, kinds := [], alts := [], laidByText := true, laidKinds := [.data, .wider], laidTests := true, laidLooks := .later }
def HmacMacsCardSaid : Prop := Claim7.holds Tryd.pinned (.plain (OpenSpec.ofChange hmacMacsSpec)) hmacMacsCard

/-- THE TIED CARD OF 'legatelaw03.HmacEqual'. -/
def hmacEqualCard : Claim7 := { stood := { row := hmacEqualRow, standIns := [], harness := (true, "eac262eae19f6741c120d1e783a35ed610539d2a53dea8f54e54014dad151af4"), looks := false }, kinds := [], alts := [], laidByText := true, laidKinds := [.data, .wider], laidTests := true, laidLooks := .later }
def HmacEqualCardSaid : Prop := Claim7.holds Tryd.pinned (.plain (OpenSpec.ofChange hmacEqualSpec)) hmacEqualCard

/-- THE TIED CARD OF 'legatelaw03.HmacKeys'. -/
def hmacKeysCard : Claim7 := { stood := { row := hmacKeysRow, standIns := [], harness := (true, "eac262eae19f6741c120d1e783a35ed610539d2a53dea8f54e54014dad151af4"), looks := false }, kinds := [], alts := [], laidByText := true, laidKinds := [.data, .wider], laidTests := true, laidLooks := .later }
def HmacKeysCardSaid : Prop := Claim7.holds Tryd.pinned (.plain (OpenSpec.ofChange hmacKeysSpec)) hmacKeysCard

/-- THE TIED CARD OF 'legatelaw03.HmacSums'. -/
def hmacSumsCard : Claim7 := { stood := { row := hmacSumsRow, standIns := [], harness := (true, "eac262eae19f6741c120d1e783a35ed610539d2a53dea8f54e54014dad151af4"), looks := false }, kinds := [], alts := [], laidByText := true, laidKinds := [.data, .wider], laidTests := true, laidLooks := .later }
def HmacSumsCardSaid : Prop := Claim7.holds Tryd.pinned (.plain (OpenSpec.ofChange hmacSumsSpec)) hmacSumsCard

/-- THE TIED CARD OF 'legatelaw06.DeriveKeys'. -/
def deriveKeysCard : Claim7 := { stood := { row := deriveKeysRow, standIns := [], harness := (true, "eac262eae19f6741c120d1e783a35ed610539d2a53dea8f54e54014dad151af4"), looks := false }, kinds := [], alts := [], laidByText := true, laidKinds := [.data, .wider], laidTests := true, laidLooks := .later }
def DeriveKeysCardSaid : Prop := Claim7.holds Tryd.pinned (.plain (OpenSpec.ofChange deriveKeysSpec)) deriveKeysCard

/-- THE TIED CARD OF 'legatelaw06.DeriveLong'. -/
def deriveLongCard : Claim7 := { stood := { row := deriveLongRow, standIns := [], harness := (true, "eac262eae19f6741c120d1e783a35ed610539d2a53dea8f54e54014dad151af4"), looks := false }, kinds := [], alts := [], laidByText := true, laidKinds := [.data, .wider], laidTests := true, laidLooks := .later }
def DeriveLongCardSaid : Prop := Claim7.holds Tryd.pinned (.plain (OpenSpec.ofChange deriveLongSpec)) deriveLongCard

/-- THE TIED CARD OF 'legatelaw07.SealSeals'. -/
def sealSealsCard : Claim7 := { stood := { row := sealSealsRow, standIns := [], harness := (true, "eac262eae19f6741c120d1e783a35ed610539d2a53dea8f54e54014dad151af4"), looks := false }, kinds := [], alts := [], laidByText := true, laidKinds := [.data, .wider], laidTests := true, laidLooks := .later }
def SealSealsCardSaid : Prop := Claim7.holds Tryd.pinned (.plain (OpenSpec.ofChange sealSealsSpec)) sealSealsCard

/-- THE TIED CARD OF 'legatelaw07.SealSums'. -/
def sealSumsCard : Claim7 := { stood := { row := sealSumsRow, standIns := [], harness := (true, "eac262eae19f6741c120d1e783a35ed610539d2a53dea8f54e54014dad151af4"), looks := false }, kinds := [], alts := [], laidByText := true, laidKinds := [.data, .wider], laidTests := true, laidLooks := .later }
def SealSumsCardSaid : Prop := Claim7.holds Tryd.pinned (.plain (OpenSpec.ofChange sealSumsSpec)) sealSumsCard

/-- THE TIED CARD OF 'legatelaw07.SealBack'. -/
def sealBackCard : Claim7 := { stood := { row := sealBackRow, standIns := [], harness := (true, "eac262eae19f6741c120d1e783a35ed610539d2a53dea8f54e54014dad151af4"), looks := false }, kinds := [], alts := [], laidByText := true, laidKinds := [.data, .wider], laidTests := true, laidLooks := .later }
def SealBackCardSaid : Prop := Claim7.holds Tryd.pinned (.plain (OpenSpec.ofChange sealBackSpec)) sealBackCard

/-- THE SECOND FORM's CARD OF 'legatelaw02.ShaSums'. -/
def shaSumsUptoCard : Claim7 := { stood := { row := shaSumsUptoRow, standIns := [], harness := (true, "eac262eae19f6741c120d1e783a35ed610539d2a53dea8f54e54014dad151af4"), looks := false }, kinds := [], alts := [], laidByText := true, laidKinds := [.data, .wider], laidTests := true, laidLooks := .later }
def ShaSumsUptoCardSaid : Prop := Claim7.holds Tryd.pinned (.plain (OpenSpec.upto shaSumsSpec)) shaSumsUptoCard

/-- THE SECOND FORM's CARD OF 'legatelaw02.ShaBlocks'. -/
def shaBlocksUptoCard : Claim7 := { stood := { row := shaBlocksUptoRow, standIns := [], harness := (true, "eac262eae19f6741c120d1e783a35ed610539d2a53dea8f54e54014dad151af4"), looks := false }, kinds := [], alts := [], laidByText := true, laidKinds := [.data, .wider], laidTests := true, laidLooks := .later }
def ShaBlocksUptoCardSaid : Prop := Claim7.holds Tryd.pinned (.plain (OpenSpec.upto shaBlocksSpec)) shaBlocksUptoCard

/-- THE SECOND FORM's CARD OF 'legatelaw02.ShaParts'. -/
def shaPartsUptoCard : Claim7 := { stood := { row := shaPartsUptoRow, standIns := [], harness := (true, "eac262eae19f6741c120d1e783a35ed610539d2a53dea8f54e54014dad151af4"), looks := false }, kinds := [], alts := [], laidByText := true, laidKinds := [.data, .wider], laidTests := true, laidLooks := .later }
def ShaPartsUptoCardSaid : Prop := Claim7.holds Tryd.pinned (.plain (OpenSpec.upto shaPartsSpec)) shaPartsUptoCard

/-- THE SECOND FORM's CARD OF 'legatelaw02.ShaPads'. -/
def shaPadsUptoCard : Claim7 := { stood := { row := shaPadsUptoRow, standIns := [], harness := (true, "eac262eae19f6741c120d1e783a35ed610539d2a53dea8f54e54014dad151af4"), looks := false }, kinds := [], alts := [], laidByText := true, laidKinds := [.data, .wider], laidTests := true, laidLooks := .later }
def ShaPadsUptoCardSaid : Prop := Claim7.holds Tryd.pinned (.plain (OpenSpec.upto shaPadsSpec)) shaPadsUptoCard

/-- THE SECOND FORM's CARD OF 'legatelaw02.ShaOn'. -/
def shaOnUptoCard : Claim7 := { stood := { row := shaOnUptoRow, standIns := [], harness := (true, "eac262eae19f6741c120d1e783a35ed610539d2a53dea8f54e54014dad151af4"), looks := false }, kinds := [], alts := [], laidByText := true, laidKinds := [.data, .wider], laidTests := true, laidLooks := .later }
def ShaOnUptoCardSaid : Prop := Claim7.holds Tryd.pinned (.plain (OpenSpec.upto shaOnSpec)) shaOnUptoCard

/-- THE SECOND FORM's CARD OF 'legatelaw07.SealEnds'. -/
def sealEndsUptoCard : Claim7 := { stood := { row := sealEndsUptoRow, standIns := [], harness := (true, "eac262eae19f6741c120d1e783a35ed610539d2a53dea8f54e54014dad151af4"), looks := false }, kinds := [], alts := [], laidByText := true, laidKinds := [.data, .wider], laidTests := true, laidLooks := .later }
def SealEndsUptoCardSaid : Prop := Claim7.holds Tryd.pinned (.plain (OpenSpec.upto sealEndsSpec)) sealEndsUptoCard

/-- THE SECOND FORM's CARD OF 'legatelaw07.SealNonce'. -/
def sealNonceUptoCard : Claim7 := { stood := { row := sealNonceUptoRow, standIns := [], harness := (true, "eac262eae19f6741c120d1e783a35ed610539d2a53dea8f54e54014dad151af4"), looks := false }, kinds := [], alts := [], laidByText := true, laidKinds := [.data, .wider], laidTests := true, laidLooks := .later }
def SealNonceUptoCardSaid : Prop := Claim7.holds Tryd.pinned (.plain (OpenSpec.upto sealNonceSpec)) sealNonceUptoCard

/-- THE SECOND FORM's CARD OF 'legatelaw03.HmacMacs'. -/
def hmacMacsUptoCard : Claim7 := { stood := { row := hmacMacsUptoRow, standIns := [], harness := (true, "eac262eae19f6741c120d1e783a35ed610539d2a53dea8f54e54014dad151af4"), looks := false }, kinds := [], alts := [], laidByText := true, laidKinds := [.data, .wider], laidTests := true, laidLooks := .later }
def HmacMacsUptoCardSaid : Prop := Claim7.holds Tryd.pinned (.plain (OpenSpec.upto hmacMacsSpec)) hmacMacsUptoCard

/-- THE SECOND FORM's CARD OF 'legatelaw03.HmacEqual'. -/
def hmacEqualUptoCard : Claim7 := { stood := { row := hmacEqualUptoRow, standIns := [], harness := (true, "eac262eae19f6741c120d1e783a35ed610539d2a53dea8f54e54014dad151af4"), looks := false }, kinds := [], alts := [], laidByText := true, laidKinds := [.data, .wider], laidTests := true, laidLooks := .later }
def HmacEqualUptoCardSaid : Prop := Claim7.holds Tryd.pinned (.plain (OpenSpec.upto hmacEqualSpec)) hmacEqualUptoCard

/-- THE SECOND FORM's CARD OF 'legatelaw03.HmacKeys'. -/
def hmacKeysUptoCard : Claim7 := { stood := { row := hmacKeysUptoRow, standIns := [], harness := (true, "eac262eae19f6741c120d1e783a35ed610539d2a53dea8f54e54014dad151af4"), looks := false }, kinds := [], alts := [], laidByText := true, laidKinds := [.data, .wider], laidTests := true, laidLooks := .later }
def HmacKeysUptoCardSaid : Prop := Claim7.holds Tryd.pinned (.plain (OpenSpec.upto hmacKeysSpec)) hmacKeysUptoCard

/-- THE SECOND FORM's CARD OF 'legatelaw03.HmacSums'. -/
def hmacSumsUptoCard : Claim7 := { stood := { row := hmacSumsUptoRow, standIns := [], harness := (true, "eac262eae19f6741c120d1e783a35ed610539d2a53dea8f54e54014dad151af4"), looks := false }, kinds := [], alts := [], laidByText := true, laidKinds := [.data, .wider], laidTests := true, laidLooks := .later }
def HmacSumsUptoCardSaid : Prop := Claim7.holds Tryd.pinned (.plain (OpenSpec.upto hmacSumsSpec)) hmacSumsUptoCard

/-- THE SECOND FORM's CARD OF 'legatelaw06.DeriveKeys'. -/
def deriveKeysUptoCard : Claim7 := { stood := { row := deriveKeysUptoRow, standIns := [], harness := (true, "eac262eae19f6741c120d1e783a35ed610539d2a53dea8f54e54014dad151af4"), looks := false }, kinds := [], alts := [], laidByText := true, laidKinds := [.data, .wider], laidTests := true, laidLooks := .later }
def DeriveKeysUptoCardSaid : Prop := Claim7.holds Tryd.pinned (.plain (OpenSpec.upto deriveKeysSpec)) deriveKeysUptoCard

/-- THE SECOND FORM's CARD OF 'legatelaw06.DeriveLong'. -/
def deriveLongUptoCard : Claim7 := { stood := { row := deriveLongUptoRow, standIns := [], harness := (true, "eac262eae19f6741c120d1e783a35ed610539d2a53dea8f54e54014dad151af4"), looks := false }, kinds := [], alts := [], laidByText := true, laidKinds := [.data, .wider], laidTests := true, laidLooks := .later }
def DeriveLongUptoCardSaid : Prop := Claim7.holds Tryd.pinned (.plain (OpenSpec.upto deriveLongSpec)) deriveLongUptoCard

/-- THE SECOND FORM's CARD OF 'legatelaw07.SealSeals'. -/
def sealSealsUptoCard : Claim7 := { stood := { row := sealSealsUptoRow, standIns := [], harness := (true, "eac262eae19f6741c120d1e783a35ed610539d2a53dea8f54e54014dad151af4"), looks := false }, kinds := [], alts := [], laidByText := true, laidKinds := [.data, .wider], laidTests := true, laidLooks := .later }
def SealSealsUptoCardSaid : Prop := Claim7.holds Tryd.pinned (.plain (OpenSpec.upto sealSealsSpec)) sealSealsUptoCard

/-- THE SECOND FORM's CARD OF 'legatelaw07.SealSums'. -/
def sealSumsUptoCard : Claim7 := { stood := { row := sealSumsUptoRow, standIns := [], harness := (true, "eac262eae19f6741c120d1e783a35ed610539d2a53dea8f54e54014dad151af4"), looks := false }, kinds := [], alts := [], laidByText := true, laidKinds := [.data, .wider], laidTests := true, laidLooks := .later }
def SealSumsUptoCardSaid : Prop := Claim7.holds Tryd.pinned (.plain (OpenSpec.upto sealSumsSpec)) sealSumsUptoCard

/-- THE SECOND FORM's CARD OF 'legatelaw07.SealBack'. -/
def sealBackUptoCard : Claim7 := { stood := { row := sealBackUptoRow, standIns := [], harness := (true, "eac262eae19f6741c120d1e783a35ed610539d2a53dea8f54e54014dad151af4"), looks := false }, kinds := [], alts := [], laidByText := true, laidKinds := [.data, .wider], laidTests := true, laidLooks := .later }
def SealBackUptoCardSaid : Prop := Claim7.holds Tryd.pinned (.plain (OpenSpec.upto sealBackSpec)) sealBackUptoCard
end Rows
end Go.Proofs.YtkgijkfcmbpgpaaDoor
