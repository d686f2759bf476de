/-
  NARROWER THAN 'FOR EVERY INPUT', by the rows' own cells (each row's printed sentence says how): ShaSums: laid · ShaBlocks: laid · ShaParts: laid · ShaPads: laid · ShaOn: laid · SealEnds: laid · SealNonce: laid · HmacMacs: laid · HmacEqual: laid · HmacKeys: laid · HmacSums: laid · DeriveKeys: laid · DeriveLong: laid · SealSeals: laid · SealSums: laid · SealBack: laid.
  DERIVED. THE GIVEN ROWS OF THIS SEAT. 16 by the template 'for every input the law returns true; each argument reads behind the call as it read before'; 0 by the template 'total and deterministic' (their statements: YtkgijkfcmbpgpaaDoorTotals.lean).
  GIVEN WITH THE SEED: the statements are not yours to turn. If you find one false, say at which input.
  Laid BY PROGRAM, IN A SANDBOX (cutbox-rows.mjs): the forced cells as the released guide's own fill.sh prints them over the translation 1cf13565241e7f75… (all of the seat's roots in one cut). By AI agents, Wed Nov 11 2026. No macro, syntax, notation, axiom, sorry.
-/
import Derived.Test.YtkgijkfcmbpgpaaDoorChecked
import GoSem.Claim
import GoSem.ClaimJoined
import GoSem.ClaimMapViews
import Derived.JoinedTies
import Derived.KernelRfl
namespace Go.Proofs.YtkgijkfcmbpgpaaDoor
/- THE CELL 'sum', in the pinned program and in every row, IS THE sha256 OF THE DUMP (.gsa) THAT YtkgijkfcmbpgpaaDoorProg.lean LOADS. Nothing in Lean hashes anything: it is a label: what it is worth is what the hold of that sum in a sandbox is worth. -/
noncomputable def Tryd.pinned : Pinned := { name := "ytkgijkfcmbpgpaadoor", sum := "1cf13565241e7f75bdba9ec249b654ba0fe6902d81f738c51d6969f8a1f47523", checked := Tryd.checked }
namespace Rows
def none {H : Type} : Left H := { results := [], args := [] }

/- WHAT THE LISTED PACKAGE-LEVEL VARIABLES READ AS WHEN THE CALL BEGINS. Each datum BY PROGRAM (the guide's laid-datum.mjs) off the statement by which the dump's own 'gosem.cut.vars' lays the variable. In a bare row this is a premise. The card (YtkgijkfcmbpgpaaDoorCards.lean) ties it to the program's text. -/
def laid_legate_sha_keys {H : Type} : DataW H := .agg [.lit (.int .u32 1116352408), .lit (.int .u32 1899447441), .lit (.int .u32 3049323471), .lit (.int .u32 3921009573), .lit (.int .u32 961987163), .lit (.int .u32 1508970993), .lit (.int .u32 2453635748), .lit (.int .u32 2870763221), .lit (.int .u32 3624381080), .lit (.int .u32 310598401), .lit (.int .u32 607225278), .lit (.int .u32 1426881987), .lit (.int .u32 1925078388), .lit (.int .u32 2162078206), .lit (.int .u32 2614888103), .lit (.int .u32 3248222580), .lit (.int .u32 3835390401), .lit (.int .u32 4022224774), .lit (.int .u32 264347078), .lit (.int .u32 604807628), .lit (.int .u32 770255983), .lit (.int .u32 1249150122), .lit (.int .u32 1555081692), .lit (.int .u32 1996064986), .lit (.int .u32 2554220882), .lit (.int .u32 2821834349), .lit (.int .u32 2952996808), .lit (.int .u32 3210313671), .lit (.int .u32 3336571891), .lit (.int .u32 3584528711), .lit (.int .u32 113926993), .lit (.int .u32 338241895), .lit (.int .u32 666307205), .lit (.int .u32 773529912), .lit (.int .u32 1294757372), .lit (.int .u32 1396182291), .lit (.int .u32 1695183700), .lit (.int .u32 1986661051), .lit (.int .u32 2177026350), .lit (.int .u32 2456956037), .lit (.int .u32 2730485921), .lit (.int .u32 2820302411), .lit (.int .u32 3259730800), .lit (.int .u32 3345764771), .lit (.int .u32 3516065817), .lit (.int .u32 3600352804), .lit (.int .u32 4094571909), .lit (.int .u32 275423344), .lit (.int .u32 430227734), .lit (.int .u32 506948616), .lit (.int .u32 659060556), .lit (.int .u32 883997877), .lit (.int .u32 958139571), .lit (.int .u32 1322822218), .lit (.int .u32 1537002063), .lit (.int .u32 1747873779), .lit (.int .u32 1955562222), .lit (.int .u32 2024104815), .lit (.int .u32 2227730452), .lit (.int .u32 2361852424), .lit (.int .u32 2428436474), .lit (.int .u32 2756734187), .lit (.int .u32 3204031479), .lit (.int .u32 3329325298)]
def laid_legate_sha_first {H : Type} : DataW H := .agg [.lit (.int .u32 1779033703), .lit (.int .u32 3144134277), .lit (.int .u32 1013904242), .lit (.int .u32 2773480762), .lit (.int .u32 1359893119), .lit (.int .u32 2600822924), .lit (.int .u32 528734635), .lit (.int .u32 1541459225)]

/-- 'legatelaw02.ShaSums': WHATEVER THE INPUT: true; the input reads as it did. -/
def shaSumsSpec : ChangeSpec := { name := "shaSums", fn := fun _ => fun
  | [d] => { results := [.lit (.bool true)], args := [d] }
  | _ => none }
def shaSumsRow : OpenClaim := { program := "ytkgijkfcmbpgpaadoor", sum := "1cf13565241e7f75bdba9ec249b654ba0fe6902d81f738c51d6969f8a1f47523", func := "legate/legatelaw02.ShaSums", spec := "shaSums", unfollowed := true, recurses := true, named := ["legate/sha.first", "legate/sha.keys"], apart := false, laid := [("legate/sha.keys", laid_legate_sha_keys), ("legate/sha.first", laid_legate_sha_first)] }
def ShaSumsSaid : Prop := shaSumsRow.holds Tryd.pinned (OpenSpec.ofChange shaSumsSpec)

/-- ITS FALSE NEIGHBOUR: 'it returns false'. Refute it at one input. -/
def shaSumsWrong : ChangeSpec := { name := "shaSums", fn := fun _ => fun
  | [d] => { results := [.lit (.bool false)], args := [d] }
  | _ => none }
def ShaSumsWrongFalsely : Prop := shaSumsRow.holds Tryd.pinned (OpenSpec.ofChange shaSumsWrong)

/-- 'legatelaw02.ShaBlocks': WHATEVER THE INPUT: true; the input reads as it did. -/
def shaBlocksSpec : ChangeSpec := { name := "shaBlocks", fn := fun _ => fun
  | [d1, d2, d3] => { results := [.lit (.bool true)], args := [d1, d2, d3] }
  | _ => none }
def shaBlocksRow : OpenClaim := { program := "ytkgijkfcmbpgpaadoor", sum := "1cf13565241e7f75bdba9ec249b654ba0fe6902d81f738c51d6969f8a1f47523", func := "legate/legatelaw02.ShaBlocks", spec := "shaBlocks", unfollowed := true, recurses := true, named := ["legate/sha.first", "legate/sha.keys"], apart := false, laid := [("legate/sha.keys", laid_legate_sha_keys), ("legate/sha.first", laid_legate_sha_first)] }
def ShaBlocksSaid : Prop := shaBlocksRow.holds Tryd.pinned (OpenSpec.ofChange shaBlocksSpec)

/-- ITS FALSE NEIGHBOUR: 'it returns false'. Refute it at one input. -/
def shaBlocksWrong : ChangeSpec := { name := "shaBlocks", fn := fun _ => fun
  | [d1, d2, d3] => { results := [.lit (.bool false)], args := [d1, d2, d3] }
  | _ => none }
def ShaBlocksWrongFalsely : Prop := shaBlocksRow.holds Tryd.pinned (OpenSpec.ofChange shaBlocksWrong)

/-- 'legatelaw02.ShaParts': WHATEVER THE INPUT: true; the input reads as it did. -/
def shaPartsSpec : ChangeSpec := { name := "shaParts", fn := fun _ => fun
  | [d] => { results := [.lit (.bool true)], args := [d] }
  | _ => none }
def shaPartsRow : OpenClaim := { program := "ytkgijkfcmbpgpaadoor", sum := "1cf13565241e7f75bdba9ec249b654ba0fe6902d81f738c51d6969f8a1f47523", func := "legate/legatelaw02.ShaParts", spec := "shaParts", unfollowed := true, recurses := true, named := ["legate/sha.first", "legate/sha.keys"], apart := false, laid := [("legate/sha.keys", laid_legate_sha_keys), ("legate/sha.first", laid_legate_sha_first)] }
def ShaPartsSaid : Prop := shaPartsRow.holds Tryd.pinned (OpenSpec.ofChange shaPartsSpec)

/-- ITS FALSE NEIGHBOUR: 'it returns false'. Refute it at one input. -/
def shaPartsWrong : ChangeSpec := { name := "shaParts", fn := fun _ => fun
  | [d] => { results := [.lit (.bool false)], args := [d] }
  | _ => none }
def ShaPartsWrongFalsely : Prop := shaPartsRow.holds Tryd.pinned (OpenSpec.ofChange shaPartsWrong)

/-- 'legatelaw02.ShaPads': WHATEVER THE INPUT: true; the input reads as it did. -/
def shaPadsSpec : ChangeSpec := { name := "shaPads", fn := fun _ => fun
  | [d1, d2] => { results := [.lit (.bool true)], args := [d1, d2] }
  | _ => none }
def shaPadsRow : OpenClaim := { program := "ytkgijkfcmbpgpaadoor", sum := "1cf13565241e7f75bdba9ec249b654ba0fe6902d81f738c51d6969f8a1f47523", func := "legate/legatelaw02.ShaPads", spec := "shaPads", unfollowed := true, recurses := true, named := ["legate/sha.first", "legate/sha.keys"], apart := false, laid := [("legate/sha.keys", laid_legate_sha_keys), ("legate/sha.first", laid_legate_sha_first)] }
def ShaPadsSaid : Prop := shaPadsRow.holds Tryd.pinned (OpenSpec.ofChange shaPadsSpec)

/-- ITS FALSE NEIGHBOUR: 'it returns false'. Refute it at one input. -/
def shaPadsWrong : ChangeSpec := { name := "shaPads", fn := fun _ => fun
  | [d1, d2] => { results := [.lit (.bool false)], args := [d1, d2] }
  | _ => none }
def ShaPadsWrongFalsely : Prop := shaPadsRow.holds Tryd.pinned (OpenSpec.ofChange shaPadsWrong)

/-- 'legatelaw02.ShaOn': WHATEVER THE INPUT: true; the input reads as it did. -/
def shaOnSpec : ChangeSpec := { name := "shaOn", fn := fun _ => fun
  | [d1, d2] => { results := [.lit (.bool true)], args := [d1, d2] }
  | _ => none }
def shaOnRow : OpenClaim := { program := "ytkgijkfcmbpgpaadoor", sum := "1cf13565241e7f75bdba9ec249b654ba0fe6902d81f738c51d6969f8a1f47523", func := "legate/legatelaw02.ShaOn", spec := "shaOn", unfollowed := true, recurses := true, named := ["legate/sha.first", "legate/sha.keys"], apart := false, laid := [("legate/sha.keys", laid_legate_sha_keys), ("legate/sha.first", laid_legate_sha_first)] }
def ShaOnSaid : Prop := shaOnRow.holds Tryd.pinned (OpenSpec.ofChange shaOnSpec)

/-- ITS FALSE NEIGHBOUR: 'it returns false'. Refute it at one input. -/
def shaOnWrong : ChangeSpec := { name := "shaOn", fn := fun _ => fun
  | [d1, d2] => { results := [.lit (.bool false)], args := [d1, d2] }
  | _ => none }
def ShaOnWrongFalsely : Prop := shaOnRow.holds Tryd.pinned (OpenSpec.ofChange shaOnWrong)

/-- 'legatelaw07.SealEnds': WHATEVER THE INPUT: true; the input reads as it did. -/
def sealEndsSpec : ChangeSpec := { name := "sealEnds", fn := fun _ => fun
  | [d1, d2, d3, d4, d5] => { results := [.lit (.bool true)], args := [d1, d2, d3, d4, d5] }
  | _ => none }
def sealEndsRow : OpenClaim := { program := "ytkgijkfcmbpgpaadoor", sum := "1cf13565241e7f75bdba9ec249b654ba0fe6902d81f738c51d6969f8a1f47523", func := "legate/legatelaw07.SealEnds", spec := "sealEnds", inPlace := ["internal/abi.NoEscape"], unfollowed := true, recurses := true, named := ["legate/sha.first", "legate/sha.keys"], apart := false, laid := [("legate/sha.keys", laid_legate_sha_keys), ("legate/sha.first", laid_legate_sha_first)] }
def SealEndsSaid : Prop := sealEndsRow.holds Tryd.pinned (OpenSpec.ofChange sealEndsSpec)

/-- ITS FALSE NEIGHBOUR: 'it returns false'. Refute it at one input. -/
def sealEndsWrong : ChangeSpec := { name := "sealEnds", fn := fun _ => fun
  | [d1, d2, d3, d4, d5] => { results := [.lit (.bool false)], args := [d1, d2, d3, d4, d5] }
  | _ => none }
def SealEndsWrongFalsely : Prop := sealEndsRow.holds Tryd.pinned (OpenSpec.ofChange sealEndsWrong)

/-- 'legatelaw07.SealNonce': WHATEVER THE INPUT: true; the input reads as it did. -/
def sealNonceSpec : ChangeSpec := { name := "sealNonce", fn := fun _ => fun
  | [d1, d2, d3, d4, d5, d6] => { results := [.lit (.bool true)], args := [d1, d2, d3, d4, d5, d6] }
  | _ => none }
def sealNonceRow : OpenClaim := { program := "ytkgijkfcmbpgpaadoor", sum := "1cf13565241e7f75bdba9ec249b654ba0fe6902d81f738c51d6969f8a1f47523", func := "legate/legatelaw07.SealNonce", spec := "sealNonce", inPlace := ["internal/abi.NoEscape"], unfollowed := true, recurses := true, named := ["legate/sha.first", "legate/sha.keys"], apart := false, laid := [("legate/sha.keys", laid_legate_sha_keys), ("legate/sha.first", laid_legate_sha_first)] }
def SealNonceSaid : Prop := sealNonceRow.holds Tryd.pinned (OpenSpec.ofChange sealNonceSpec)

/-- ITS FALSE NEIGHBOUR: 'it returns false'. Refute it at one input. -/
def sealNonceWrong : ChangeSpec := { name := "sealNonce", fn := fun _ => fun
  | [d1, d2, d3, d4, d5, d6] => { results := [.lit (.bool false)], args := [d1, d2, d3, d4, d5, d6] }
  | _ => none }
def SealNonceWrongFalsely : Prop := sealNonceRow.holds Tryd.pinned (OpenSpec.ofChange sealNonceWrong)

/-- 'legatelaw03.HmacMacs': WHATEVER THE INPUT: true; the input reads as it did. -/
def hmacMacsSpec : ChangeSpec := { name := "hmacMacs", fn := fun _ => fun
  | [d1, d2] => { results := [.lit (.bool true)], args := [d1, d2] }
  | _ => none }
def hmacMacsRow : OpenClaim := { program := "ytkgijkfcmbpgpaadoor", sum := "1cf13565241e7f75bdba9ec249b654ba0fe6902d81f738c51d6969f8a1f47523", func := "legate/legatelaw03.HmacMacs", spec := "hmacMacs", unfollowed := true, recurses := true, named := ["legate/sha.first", "legate/sha.keys"], apart := false, laid := [("legate/sha.keys", laid_legate_sha_keys), ("legate/sha.first", laid_legate_sha_first)] }
def HmacMacsSaid : Prop := hmacMacsRow.holds Tryd.pinned (OpenSpec.ofChange hmacMacsSpec)

/-- ITS FALSE NEIGHBOUR: 'it returns false'. Refute it at one input. -/
def hmacMacsWrong : ChangeSpec := { name := "hmacMacs", fn := fun _ => fun
  | [d1, d2] => { results := [.lit (.bool false)], args := [d1, d2] }
  | _ => none }
def HmacMacsWrongFalsely : Prop := hmacMacsRow.holds Tryd.pinned (OpenSpec.ofChange hmacMacsWrong)

/-- 'legatelaw03.HmacEqual': WHATEVER THE INPUT: true; the input reads as it did. -/
def hmacEqualSpec : ChangeSpec := { name := "hmacEqual", fn := fun _ => fun
  | [d1, d2] => { results := [.lit (.bool true)], args := [d1, d2] }
  | _ => none }
def hmacEqualRow : OpenClaim := { program := "ytkgijkfcmbpgpaadoor", sum := "1cf13565241e7f75bdba9ec249b654ba0fe6902d81f738c51d6969f8a1f47523", func := "legate/legatelaw03.HmacEqual", spec := "hmacEqual", unfollowed := true, recurses := true, named := ["legate/sha.first", "legate/sha.keys"], apart := false, laid := [("legate/sha.keys", laid_legate_sha_keys), ("legate/sha.first", laid_legate_sha_first)] }
def HmacEqualSaid : Prop := hmacEqualRow.holds Tryd.pinned (OpenSpec.ofChange hmacEqualSpec)

/-- ITS FALSE NEIGHBOUR: 'it returns false'. Refute it at one input. -/
def hmacEqualWrong : ChangeSpec := { name := "hmacEqual", fn := fun _ => fun
  | [d1, d2] => { results := [.lit (.bool false)], args := [d1, d2] }
  | _ => none }
def HmacEqualWrongFalsely : Prop := hmacEqualRow.holds Tryd.pinned (OpenSpec.ofChange hmacEqualWrong)

/-- 'legatelaw03.HmacKeys': WHATEVER THE INPUT: true; the input reads as it did. -/
def hmacKeysSpec : ChangeSpec := { name := "hmacKeys", fn := fun _ => fun
  | [d1, d2, d3] => { results := [.lit (.bool true)], args := [d1, d2, d3] }
  | _ => none }
def hmacKeysRow : OpenClaim := { program := "ytkgijkfcmbpgpaadoor", sum := "1cf13565241e7f75bdba9ec249b654ba0fe6902d81f738c51d6969f8a1f47523", func := "legate/legatelaw03.HmacKeys", spec := "hmacKeys", unfollowed := true, recurses := true, named := ["legate/sha.first", "legate/sha.keys"], apart := false, laid := [("legate/sha.keys", laid_legate_sha_keys), ("legate/sha.first", laid_legate_sha_first)] }
def HmacKeysSaid : Prop := hmacKeysRow.holds Tryd.pinned (OpenSpec.ofChange hmacKeysSpec)

/-- ITS FALSE NEIGHBOUR: 'it returns false'. Refute it at one input. -/
def hmacKeysWrong : ChangeSpec := { name := "hmacKeys", fn := fun _ => fun
  | [d1, d2, d3] => { results := [.lit (.bool false)], args := [d1, d2, d3] }
  | _ => none }
def HmacKeysWrongFalsely : Prop := hmacKeysRow.holds Tryd.pinned (OpenSpec.ofChange hmacKeysWrong)

/-- 'legatelaw03.HmacSums': WHATEVER THE INPUT: true; the input reads as it did. -/
def hmacSumsSpec : ChangeSpec := { name := "hmacSums", fn := fun _ => fun
  | [d1, d2] => { results := [.lit (.bool true)], args := [d1, d2] }
  | _ => none }
def hmacSumsRow : OpenClaim := { program := "ytkgijkfcmbpgpaadoor", sum := "1cf13565241e7f75bdba9ec249b654ba0fe6902d81f738c51d6969f8a1f47523", func := "legate/legatelaw03.HmacSums", spec := "hmacSums", unfollowed := true, recurses := true, named := ["legate/sha.first", "legate/sha.keys"], apart := false, laid := [("legate/sha.keys", laid_legate_sha_keys), ("legate/sha.first", laid_legate_sha_first)] }
def HmacSumsSaid : Prop := hmacSumsRow.holds Tryd.pinned (OpenSpec.ofChange hmacSumsSpec)

/-- ITS FALSE NEIGHBOUR: 'it returns false'. Refute it at one input. -/
def hmacSumsWrong : ChangeSpec := { name := "hmacSums", fn := fun _ => fun
  | [d1, d2] => { results := [.lit (.bool false)], args := [d1, d2] }
  | _ => none }
def HmacSumsWrongFalsely : Prop := hmacSumsRow.holds Tryd.pinned (OpenSpec.ofChange hmacSumsWrong)

/-- 'legatelaw06.DeriveKeys': WHATEVER THE INPUT: true; the input reads as it did. -/
def deriveKeysSpec : ChangeSpec := { name := "deriveKeys", fn := fun _ => fun
  | [d1, d2, d3] => { results := [.lit (.bool true)], args := [d1, d2, d3] }
  | _ => none }
def deriveKeysRow : OpenClaim := { program := "ytkgijkfcmbpgpaadoor", sum := "1cf13565241e7f75bdba9ec249b654ba0fe6902d81f738c51d6969f8a1f47523", func := "legate/legatelaw06.DeriveKeys", spec := "deriveKeys", unfollowed := true, recurses := true, named := ["legate/sha.first", "legate/sha.keys"], apart := false, laid := [("legate/sha.keys", laid_legate_sha_keys), ("legate/sha.first", laid_legate_sha_first)] }
def DeriveKeysSaid : Prop := deriveKeysRow.holds Tryd.pinned (OpenSpec.ofChange deriveKeysSpec)

/-- ITS FALSE NEIGHBOUR: 'it returns false'. Refute it at one input. -/
def deriveKeysWrong : ChangeSpec := { name := "deriveKeys", fn := fun _ => fun
  | [d1, d2, d3] => { results := [.lit (.bool false)], args := [d1, d2, d3] }
  | _ => none }
def DeriveKeysWrongFalsely : Prop := deriveKeysRow.holds Tryd.pinned (OpenSpec.ofChange deriveKeysWrong)

/-- 'legatelaw06.DeriveLong': WHATEVER THE INPUT: true; the input reads as it did. -/
def deriveLongSpec : ChangeSpec := { name := "deriveLong", fn := fun _ => fun
  | [d1, d2, d3] => { results := [.lit (.bool true)], args := [d1, d2, d3] }
  | _ => none }
def deriveLongRow : OpenClaim := { program := "ytkgijkfcmbpgpaadoor", sum := "1cf13565241e7f75bdba9ec249b654ba0fe6902d81f738c51d6969f8a1f47523", func := "legate/legatelaw06.DeriveLong", spec := "deriveLong", unfollowed := true, recurses := true, named := ["legate/sha.first", "legate/sha.keys"], apart := false, laid := [("legate/sha.keys", laid_legate_sha_keys), ("legate/sha.first", laid_legate_sha_first)] }
def DeriveLongSaid : Prop := deriveLongRow.holds Tryd.pinned (OpenSpec.ofChange deriveLongSpec)

/-- ITS FALSE NEIGHBOUR: 'it returns false'. Refute it at one input. -/
def deriveLongWrong : ChangeSpec := { name := "deriveLong", fn := fun _ => fun
  | [d1, d2, d3] => { results := [.lit (.bool false)], args := [d1, d2, d3] }
  | _ => none }
def DeriveLongWrongFalsely : Prop := deriveLongRow.holds Tryd.pinned (OpenSpec.ofChange deriveLongWrong)

/-- 'legatelaw07.SealSeals': WHATEVER THE INPUT: true; the input reads as it did. -/
def sealSealsSpec : ChangeSpec := { name := "sealSeals", fn := fun _ => fun
  | [d1, d2, d3, d4, d5] => { results := [.lit (.bool true)], args := [d1, d2, d3, d4, d5] }
  | _ => none }
def sealSealsRow : OpenClaim := { program := "ytkgijkfcmbpgpaadoor", sum := "1cf13565241e7f75bdba9ec249b654ba0fe6902d81f738c51d6969f8a1f47523", func := "legate/legatelaw07.SealSeals", spec := "sealSeals", inPlace := ["internal/abi.NoEscape"], unfollowed := true, recurses := true, named := ["legate/sha.first", "legate/sha.keys"], apart := false, laid := [("legate/sha.keys", laid_legate_sha_keys), ("legate/sha.first", laid_legate_sha_first)] }
def SealSealsSaid : Prop := sealSealsRow.holds Tryd.pinned (OpenSpec.ofChange sealSealsSpec)

/-- ITS FALSE NEIGHBOUR: 'it returns false'. Refute it at one input. -/
def sealSealsWrong : ChangeSpec := { name := "sealSeals", fn := fun _ => fun
  | [d1, d2, d3, d4, d5] => { results := [.lit (.bool false)], args := [d1, d2, d3, d4, d5] }
  | _ => none }
def SealSealsWrongFalsely : Prop := sealSealsRow.holds Tryd.pinned (OpenSpec.ofChange sealSealsWrong)

/-- 'legatelaw07.SealSums': WHATEVER THE INPUT: true; the input reads as it did. -/
def sealSumsSpec : ChangeSpec := { name := "sealSums", fn := fun _ => fun
  | [d1, d2, d3, d4] => { results := [.lit (.bool true)], args := [d1, d2, d3, d4] }
  | _ => none }
def sealSumsRow : OpenClaim := { program := "ytkgijkfcmbpgpaadoor", sum := "1cf13565241e7f75bdba9ec249b654ba0fe6902d81f738c51d6969f8a1f47523", func := "legate/legatelaw07.SealSums", spec := "sealSums", inPlace := ["internal/abi.NoEscape"], unfollowed := true, recurses := true, named := ["legate/sha.first", "legate/sha.keys"], apart := false, laid := [("legate/sha.keys", laid_legate_sha_keys), ("legate/sha.first", laid_legate_sha_first)] }
def SealSumsSaid : Prop := sealSumsRow.holds Tryd.pinned (OpenSpec.ofChange sealSumsSpec)

/-- ITS FALSE NEIGHBOUR: 'it returns false'. Refute it at one input. -/
def sealSumsWrong : ChangeSpec := { name := "sealSums", fn := fun _ => fun
  | [d1, d2, d3, d4] => { results := [.lit (.bool false)], args := [d1, d2, d3, d4] }
  | _ => none }
def SealSumsWrongFalsely : Prop := sealSumsRow.holds Tryd.pinned (OpenSpec.ofChange sealSumsWrong)

/-- 'legatelaw07.SealBack': WHATEVER THE INPUT: true; the input reads as it did. -/
def sealBackSpec : ChangeSpec := { name := "sealBack", fn := fun _ => fun
  | [d1, d2, d3, d4] => { results := [.lit (.bool true)], args := [d1, d2, d3, d4] }
  | _ => none }
def sealBackRow : OpenClaim := { program := "ytkgijkfcmbpgpaadoor", sum := "1cf13565241e7f75bdba9ec249b654ba0fe6902d81f738c51d6969f8a1f47523", func := "legate/legatelaw07.SealBack", spec := "sealBack", inPlace := ["internal/abi.NoEscape"], unfollowed := true, recurses := true, named := ["legate/sha.first", "legate/sha.keys"], apart := false, laid := [("legate/sha.keys", laid_legate_sha_keys), ("legate/sha.first", laid_legate_sha_first)] }
def SealBackSaid : Prop := sealBackRow.holds Tryd.pinned (OpenSpec.ofChange sealBackSpec)

/-- ITS FALSE NEIGHBOUR: 'it returns false'. Refute it at one input. -/
def sealBackWrong : ChangeSpec := { name := "sealBack", fn := fun _ => fun
  | [d1, d2, d3, d4] => { results := [.lit (.bool false)], args := [d1, d2, d3, d4] }
  | _ => none }
def SealBackWrongFalsely : Prop := sealBackRow.holds Tryd.pinned (OpenSpec.ofChange sealBackWrong)

/- THE SECOND FORM. 'bulk': how many values and letters a reading holds, each counted each time it is reached (what is shared counts as often as it is met; a slice's spare places count too). A statement '..UptoSaid' is the law's where the arguments, and the package variables that the reading takes, are together of bulk at most 1048576: NARROWER than '..Said'. Prove '..Said' where nothing that the law and all that it calls make is longer than what came in: it says more and counts as full. Else prove '..UptoSaid'. A law counts once. -/
mutual
def uptoBulk {H : Type} : DataW H → Nat
  | .lit (.string bytes) => bytes.length + 1
  | .lit _ => 1
  | .nil => 1
  | .ptr d => uptoBulk d + 1
  | .slice elems spare => uptoBulkAll elems + uptoBulkAll spare + 1
  | .agg parts => uptoBulkAll parts + 1
  | .iface _ d => uptoBulk d + 1
  | .map entries => uptoBulkEntries entries + 1
  | .held _ => 1
def uptoBulkAll {H : Type} : List (DataW H) → Nat
  | [] => 0
  | d :: r => uptoBulk d + uptoBulkAll r
def uptoBulkEntries {H : Type} : List (Lit × DataW H) → Nat
  | [] => 0
  | x :: r => uptoBulkEntry x + uptoBulkEntries r
def uptoBulkEntry {H : Type} : Lit × DataW H → Nat
  | (.string bytes, d) => bytes.length + uptoBulk d + 1
  | (_, d) => uptoBulk d + 1
 end
def uptoSmall : (H : Type) → List (DataW H) → Bool := fun _ ds => decide (uptoBulkAll ds ≤ 1048576)
def OpenSpec.upto (s : _root_.Go.ChangeSpec) : _root_.Go.OpenSpec := { _root_.Go.OpenSpec.ofChange s with cond := some uptoSmall }

/-- 'legatelaw02.ShaSums', WHERE WHAT IT READS IS OF BULK AT MOST 1048576: true; the input reads as it did. -/
def shaSumsUptoRow : OpenClaim := { program := "ytkgijkfcmbpgpaadoor", sum := "1cf13565241e7f75bdba9ec249b654ba0fe6902d81f738c51d6969f8a1f47523", func := "legate/legatelaw02.ShaSums", spec := "shaSums", unfollowed := true, recurses := true, named := ["legate/sha.first", "legate/sha.keys"], apart := false, laid := [("legate/sha.keys", laid_legate_sha_keys), ("legate/sha.first", laid_legate_sha_first)], narrowed := true }
def ShaSumsUptoSaid : Prop := shaSumsUptoRow.holds Tryd.pinned (OpenSpec.upto shaSumsSpec)

/-- 'legatelaw02.ShaBlocks', WHERE WHAT IT READS IS OF BULK AT MOST 1048576: true; the input reads as it did. -/
def shaBlocksUptoRow : OpenClaim := { program := "ytkgijkfcmbpgpaadoor", sum := "1cf13565241e7f75bdba9ec249b654ba0fe6902d81f738c51d6969f8a1f47523", func := "legate/legatelaw02.ShaBlocks", spec := "shaBlocks", unfollowed := true, recurses := true, named := ["legate/sha.first", "legate/sha.keys"], apart := false, laid := [("legate/sha.keys", laid_legate_sha_keys), ("legate/sha.first", laid_legate_sha_first)], narrowed := true }
def ShaBlocksUptoSaid : Prop := shaBlocksUptoRow.holds Tryd.pinned (OpenSpec.upto shaBlocksSpec)

/-- 'legatelaw02.ShaParts', WHERE WHAT IT READS IS OF BULK AT MOST 1048576: true; the input reads as it did. -/
def shaPartsUptoRow : OpenClaim := { program := "ytkgijkfcmbpgpaadoor", sum := "1cf13565241e7f75bdba9ec249b654ba0fe6902d81f738c51d6969f8a1f47523", func := "legate/legatelaw02.ShaParts", spec := "shaParts", unfollowed := true, recurses := true, named := ["legate/sha.first", "legate/sha.keys"], apart := false, laid := [("legate/sha.keys", laid_legate_sha_keys), ("legate/sha.first", laid_legate_sha_first)], narrowed := true }
def ShaPartsUptoSaid : Prop := shaPartsUptoRow.holds Tryd.pinned (OpenSpec.upto shaPartsSpec)

/-- 'legatelaw02.ShaPads', WHERE WHAT IT READS IS OF BULK AT MOST 1048576: true; the input reads as it did. -/
def shaPadsUptoRow : OpenClaim := { program := "ytkgijkfcmbpgpaadoor", sum := "1cf13565241e7f75bdba9ec249b654ba0fe6902d81f738c51d6969f8a1f47523", func := "legate/legatelaw02.ShaPads", spec := "shaPads", unfollowed := true, recurses := true, named := ["legate/sha.first", "legate/sha.keys"], apart := false, laid := [("legate/sha.keys", laid_legate_sha_keys), ("legate/sha.first", laid_legate_sha_first)], narrowed := true }
def ShaPadsUptoSaid : Prop := shaPadsUptoRow.holds Tryd.pinned (OpenSpec.upto shaPadsSpec)

/-- 'legatelaw02.ShaOn', WHERE WHAT IT READS IS OF BULK AT MOST 1048576: true; the input reads as it did. -/
def shaOnUptoRow : OpenClaim := { program := "ytkgijkfcmbpgpaadoor", sum := "1cf13565241e7f75bdba9ec249b654ba0fe6902d81f738c51d6969f8a1f47523", func := "legate/legatelaw02.ShaOn", spec := "shaOn", unfollowed := true, recurses := true, named := ["legate/sha.first", "legate/sha.keys"], apart := false, laid := [("legate/sha.keys", laid_legate_sha_keys), ("legate/sha.first", laid_legate_sha_first)], narrowed := true }
def ShaOnUptoSaid : Prop := shaOnUptoRow.holds Tryd.pinned (OpenSpec.upto shaOnSpec)

/-- 'legatelaw07.SealEnds', WHERE WHAT IT READS IS OF BULK AT MOST 1048576: true; the input reads as it did. -/
def sealEndsUptoRow : OpenClaim := { program := "ytkgijkfcmbpgpaadoor", sum := "1cf13565241e7f75bdba9ec249b654ba0fe6902d81f738c51d6969f8a1f47523", func := "legate/legatelaw07.SealEnds", spec := "sealEnds", inPlace := ["internal/abi.NoEscape"], unfollowed := true, recurses := true, named := ["legate/sha.first", "legate/sha.keys"], apart := false, laid := [("legate/sha.keys", laid_legate_sha_keys), ("legate/sha.first", laid_legate_sha_first)], narrowed := true }
def SealEndsUptoSaid : Prop := sealEndsUptoRow.holds Tryd.pinned (OpenSpec.upto sealEndsSpec)

/-- 'legatelaw07.SealNonce', WHERE WHAT IT READS IS OF BULK AT MOST 1048576: true; the input reads as it did. -/
def sealNonceUptoRow : OpenClaim := { program := "ytkgijkfcmbpgpaadoor", sum := "1cf13565241e7f75bdba9ec249b654ba0fe6902d81f738c51d6969f8a1f47523", func := "legate/legatelaw07.SealNonce", spec := "sealNonce", inPlace := ["internal/abi.NoEscape"], unfollowed := true, recurses := true, named := ["legate/sha.first", "legate/sha.keys"], apart := false, laid := [("legate/sha.keys", laid_legate_sha_keys), ("legate/sha.first", laid_legate_sha_first)], narrowed := true }
def SealNonceUptoSaid : Prop := sealNonceUptoRow.holds Tryd.pinned (OpenSpec.upto sealNonceSpec)

/-- 'legatelaw03.HmacMacs', WHERE WHAT IT READS IS OF BULK AT MOST 1048576: true; the input reads as it did. -/
def hmacMacsUptoRow : OpenClaim := { program := "ytkgijkfcmbpgpaadoor", sum := "1cf13565241e7f75bdba9ec249b654ba0fe6902d81f738c51d6969f8a1f47523", func := "legate/legatelaw03.HmacMacs", spec := "hmacMacs", unfollowed := true, recurses := true, named := ["legate/sha.first", "legate/sha.keys"], apart := false, laid := [("legate/sha.keys", laid_legate_sha_keys), ("legate/sha.first", laid_legate_sha_first)], narrowed := true }
def HmacMacsUptoSaid : Prop := hmacMacsUptoRow.holds Tryd.pinned (OpenSpec.upto hmacMacsSpec)

/-- 'legatelaw03.HmacEqual', WHERE WHAT IT READS IS OF BULK AT MOST 1048576: true; the input reads as it did. -/
def hmacEqualUptoRow : OpenClaim := { program := "ytkgijkfcmbpgpaadoor", sum := "1cf13565241e7f75bdba9ec249b654ba0fe6902d81f738c51d6969f8a1f47523", func := "legate/legatelaw03.HmacEqual", spec := "hmacEqual", unfollowed := true, recurses := true, named := ["legate/sha.first", "legate/sha.keys"], apart := false, laid := [("legate/sha.keys", laid_legate_sha_keys), ("legate/sha.first", laid_legate_sha_first)], narrowed := true }
def HmacEqualUptoSaid : Prop := hmacEqualUptoRow.holds Tryd.pinned (OpenSpec.upto hmacEqualSpec)

/-- 'legatelaw03.HmacKeys', WHERE WHAT IT READS IS OF BULK AT MOST 1048576: true; the input reads as it did. -/
def hmacKeysUptoRow : OpenClaim := { program := "ytkgijkfcmbpgpaadoor", sum := "1cf13565241e7f75bdba9ec249b654ba0fe6902d81f738c51d6969f8a1f47523", func := "legate/legatelaw03.HmacKeys", spec := "hmacKeys", unfollowed := true, recurses := true, named := ["legate/sha.first", "legate/sha.keys"], apart := false, laid := [("legate/sha.keys", laid_legate_sha_keys), ("legate/sha.first", laid_legate_sha_first)], narrowed := true }
def HmacKeysUptoSaid : Prop := hmacKeysUptoRow.holds Tryd.pinned (OpenSpec.upto hmacKeysSpec)

/-- 'legatelaw03.HmacSums', WHERE WHAT IT READS IS OF BULK AT MOST 1048576: true; the input reads as it did. -/
def hmacSumsUptoRow : OpenClaim := { program := "ytkgijkfcmbpgpaadoor", sum := "1cf13565241e7f75bdba9ec249b654ba0fe6902d81f738c51d6969f8a1f47523", func := "legate/legatelaw03.HmacSums", spec := "hmacSums", unfollowed := true, recurses := true, named := ["legate/sha.first", "legate/sha.keys"], apart := false, laid := [("legate/sha.keys", laid_legate_sha_keys), ("legate/sha.first", laid_legate_sha_first)], narrowed := true }
def HmacSumsUptoSaid : Prop := hmacSumsUptoRow.holds Tryd.pinned (OpenSpec.upto hmacSumsSpec)

/-- 'legatelaw06.DeriveKeys', WHERE WHAT IT READS IS OF BULK AT MOST 1048576: true; the input reads as it did. -/
def deriveKeysUptoRow : OpenClaim := { program := "ytkgijkfcmbpgpaadoor", sum := "1cf13565241e7f75bdba9ec249b654ba0fe6902d81f738c51d6969f8a1f47523", func := "legate/legatelaw06.DeriveKeys", spec := "deriveKeys", unfollowed := true, recurses := true, named := ["legate/sha.first", "legate/sha.keys"], apart := false, laid := [("legate/sha.keys", laid_legate_sha_keys), ("legate/sha.first", laid_legate_sha_first)], narrowed := true }
def DeriveKeysUptoSaid : Prop := deriveKeysUptoRow.holds Tryd.pinned (OpenSpec.upto deriveKeysSpec)

/-- 'legatelaw06.DeriveLong', WHERE WHAT IT READS IS OF BULK AT MOST 1048576: true; the input reads as it did. -/
def deriveLongUptoRow : OpenClaim := { program := "ytkgijkfcmbpgpaadoor", sum := "1cf13565241e7f75bdba9ec249b654ba0fe6902d81f738c51d6969f8a1f47523", func := "legate/legatelaw06.DeriveLong", spec := "deriveLong", unfollowed := true, recurses := true, named := ["legate/sha.first", "legate/sha.keys"], apart := false, laid := [("legate/sha.keys", laid_legate_sha_keys), ("legate/sha.first", laid_legate_sha_first)], narrowed := true }
def DeriveLongUptoSaid : Prop := deriveLongUptoRow.holds Tryd.pinned (OpenSpec.upto deriveLongSpec)

/-- 'legatelaw07.SealSeals', WHERE WHAT IT READS IS OF BULK AT MOST 1048576: true; the input reads as it did. -/
def sealSealsUptoRow : OpenClaim := { program := "ytkgijkfcmbpgpaadoor", sum := "1cf13565241e7f75bdba9ec249b654ba0fe6902d81f738c51d6969f8a1f47523", func := "legate/legatelaw07.SealSeals", spec := "sealSeals", inPlace := ["internal/abi.NoEscape"], unfollowed := true, recurses := true, named := ["legate/sha.first", "legate/sha.keys"], apart := false, laid := [("legate/sha.keys", laid_legate_sha_keys), ("legate/sha.first", laid_legate_sha_first)], narrowed := true }
def SealSealsUptoSaid : Prop := sealSealsUptoRow.holds Tryd.pinned (OpenSpec.upto sealSealsSpec)

/-- 'legatelaw07.SealSums', WHERE WHAT IT READS IS OF BULK AT MOST 1048576: true; the input reads as it did. -/
def sealSumsUptoRow : OpenClaim := { program := "ytkgijkfcmbpgpaadoor", sum := "1cf13565241e7f75bdba9ec249b654ba0fe6902d81f738c51d6969f8a1f47523", func := "legate/legatelaw07.SealSums", spec := "sealSums", inPlace := ["internal/abi.NoEscape"], unfollowed := true, recurses := true, named := ["legate/sha.first", "legate/sha.keys"], apart := false, laid := [("legate/sha.keys", laid_legate_sha_keys), ("legate/sha.first", laid_legate_sha_first)], narrowed := true }
def SealSumsUptoSaid : Prop := sealSumsUptoRow.holds Tryd.pinned (OpenSpec.upto sealSumsSpec)

/-- 'legatelaw07.SealBack', WHERE WHAT IT READS IS OF BULK AT MOST 1048576: true; the input reads as it did. -/
def sealBackUptoRow : OpenClaim := { program := "ytkgijkfcmbpgpaadoor", sum := "1cf13565241e7f75bdba9ec249b654ba0fe6902d81f738c51d6969f8a1f47523", func := "legate/legatelaw07.SealBack", spec := "sealBack", inPlace := ["internal/abi.NoEscape"], unfollowed := true, recurses := true, named := ["legate/sha.first", "legate/sha.keys"], apart := false, laid := [("legate/sha.keys", laid_legate_sha_keys), ("legate/sha.first", laid_legate_sha_first)], narrowed := true }
def SealBackUptoSaid : Prop := sealBackUptoRow.holds Tryd.pinned (OpenSpec.upto sealBackSpec)

end Rows
end Go.Proofs.YtkgijkfcmbpgpaaDoor
