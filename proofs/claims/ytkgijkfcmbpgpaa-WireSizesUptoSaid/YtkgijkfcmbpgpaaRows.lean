/-
  NARROWER THAN 'FOR EVERY INPUT', by the rows' own cells (each row's printed sentence says how): WirePuts: loops · WireBack: loops · WireRow: loops · WireSizes: loops · WireBytes: loops.
  DERIVED. THE GIVEN ROWS OF THIS SEAT. 16 by the template 'for every input the law returns true; each argument reads behind the call as it read before'; 0 by the template 'total and deterministic' (their statements: YtkgijkfcmbpgpaaTotals.lean).
  GIVEN WITH THE SEED: the statements are not yours to turn. If you find one false, say at which input.
  Laid BY PROGRAM, IN A SANDBOX (cutbox-rows.mjs): the forced cells as the released guide's own fill.sh prints them over the translation 8c84bb22fbcfcfb2… (all of the seat's roots in one cut). By AI agents, Wed Nov 11 2026. No macro, syntax, notation, axiom, sorry.
-/
import Derived.Test.YtkgijkfcmbpgpaaChecked
import GoSem.Claim
import GoSem.ClaimJoined
import GoSem.ClaimMapViews
import Derived.JoinedTies
import Derived.KernelRfl
namespace Go.Proofs.Ytkgijkfcmbpgpaa
/- THE CELL 'sum', in the pinned program and in every row, IS THE sha256 OF THE DUMP (.gsa) THAT YtkgijkfcmbpgpaaProg.lean LOADS. Nothing in Lean hashes anything: it is a label: what it is worth is what the hold of that sum in a sandbox is worth. -/
noncomputable def Try.pinned : Pinned := { name := "ytkgijkfcmbpgpaa", sum := "8c84bb22fbcfcfb2db5157c579bb63a36d28880049b6fed8a8c29f7c54b48889", checked := Try.checked }
namespace Rows
def none {H : Type} : Left H := { results := [], args := [] }

/-- 'legatelaw04.AesTimes': WHATEVER THE INPUT: true; the input reads as it did. -/
def aesTimesSpec : ChangeSpec := { name := "aesTimes", fn := fun _ => fun
  | [d1, d2] => { results := [.lit (.bool true)], args := [d1, d2] }
  | _ => none }
def aesTimesRow : OpenClaim := { program := "ytkgijkfcmbpgpaa", sum := "8c84bb22fbcfcfb2db5157c579bb63a36d28880049b6fed8a8c29f7c54b48889", func := "legate/legatelaw04.AesTimes", spec := "aesTimes", apart := false }
def AesTimesSaid : Prop := aesTimesRow.holds Try.pinned (OpenSpec.ofChange aesTimesSpec)

/-- ITS FALSE NEIGHBOUR: 'it returns false'. Refute it at one input. -/
def aesTimesWrong : ChangeSpec := { name := "aesTimes", fn := fun _ => fun
  | [d1, d2] => { results := [.lit (.bool false)], args := [d1, d2] }
  | _ => none }
def AesTimesWrongFalsely : Prop := aesTimesRow.holds Try.pinned (OpenSpec.ofChange aesTimesWrong)

/-- 'legatelaw04.AesField': WHATEVER THE INPUT: true; the input reads as it did. -/
def aesFieldSpec : ChangeSpec := { name := "aesField", fn := fun _ => fun
  | [d1, d2, d3] => { results := [.lit (.bool true)], args := [d1, d2, d3] }
  | _ => none }
def aesFieldRow : OpenClaim := { program := "ytkgijkfcmbpgpaa", sum := "8c84bb22fbcfcfb2db5157c579bb63a36d28880049b6fed8a8c29f7c54b48889", func := "legate/legatelaw04.AesField", spec := "aesField", apart := false }
def AesFieldSaid : Prop := aesFieldRow.holds Try.pinned (OpenSpec.ofChange aesFieldSpec)

/-- ITS FALSE NEIGHBOUR: 'it returns false'. Refute it at one input. -/
def aesFieldWrong : ChangeSpec := { name := "aesField", fn := fun _ => fun
  | [d1, d2, d3] => { results := [.lit (.bool false)], args := [d1, d2, d3] }
  | _ => none }
def AesFieldWrongFalsely : Prop := aesFieldRow.holds Try.pinned (OpenSpec.ofChange aesFieldWrong)

/-- 'legatelaw04.AesEncrypts': WHATEVER THE INPUT: true; the input reads as it did. -/
def aesEncryptsSpec : ChangeSpec := { name := "aesEncrypts", fn := fun _ => fun
  | [d1, d2] => { results := [.lit (.bool true)], args := [d1, d2] }
  | _ => none }
def aesEncryptsRow : OpenClaim := { program := "ytkgijkfcmbpgpaa", sum := "8c84bb22fbcfcfb2db5157c579bb63a36d28880049b6fed8a8c29f7c54b48889", func := "legate/legatelaw04.AesEncrypts", spec := "aesEncrypts", apart := false }
def AesEncryptsSaid : Prop := aesEncryptsRow.holds Try.pinned (OpenSpec.ofChange aesEncryptsSpec)

/-- ITS FALSE NEIGHBOUR: 'it returns false'. Refute it at one input. -/
def aesEncryptsWrong : ChangeSpec := { name := "aesEncrypts", fn := fun _ => fun
  | [d1, d2] => { results := [.lit (.bool false)], args := [d1, d2] }
  | _ => none }
def AesEncryptsWrongFalsely : Prop := aesEncryptsRow.holds Try.pinned (OpenSpec.ofChange aesEncryptsWrong)

/-- 'legatelaw04.AesUnlike': WHATEVER THE INPUT: true; the input reads as it did. -/
def aesUnlikeSpec : ChangeSpec := { name := "aesUnlike", fn := fun _ => fun
  | [d1, d2, d3] => { results := [.lit (.bool true)], args := [d1, d2, d3] }
  | _ => none }
def aesUnlikeRow : OpenClaim := { program := "ytkgijkfcmbpgpaa", sum := "8c84bb22fbcfcfb2db5157c579bb63a36d28880049b6fed8a8c29f7c54b48889", func := "legate/legatelaw04.AesUnlike", spec := "aesUnlike", apart := false }
def AesUnlikeSaid : Prop := aesUnlikeRow.holds Try.pinned (OpenSpec.ofChange aesUnlikeSpec)

/-- ITS FALSE NEIGHBOUR: 'it returns false'. Refute it at one input. -/
def aesUnlikeWrong : ChangeSpec := { name := "aesUnlike", fn := fun _ => fun
  | [d1, d2, d3] => { results := [.lit (.bool false)], args := [d1, d2, d3] }
  | _ => none }
def AesUnlikeWrongFalsely : Prop := aesUnlikeRow.holds Try.pinned (OpenSpec.ofChange aesUnlikeWrong)

/-- 'legatelaw04.AesKeys': WHATEVER THE INPUT: true; the input reads as it did. -/
def aesKeysSpec : ChangeSpec := { name := "aesKeys", fn := fun _ => fun
  | [d] => { results := [.lit (.bool true)], args := [d] }
  | _ => none }
def aesKeysRow : OpenClaim := { program := "ytkgijkfcmbpgpaa", sum := "8c84bb22fbcfcfb2db5157c579bb63a36d28880049b6fed8a8c29f7c54b48889", func := "legate/legatelaw04.AesKeys", spec := "aesKeys", apart := false }
def AesKeysSaid : Prop := aesKeysRow.holds Try.pinned (OpenSpec.ofChange aesKeysSpec)

/-- ITS FALSE NEIGHBOUR: 'it returns false'. Refute it at one input. -/
def aesKeysWrong : ChangeSpec := { name := "aesKeys", fn := fun _ => fun
  | [d] => { results := [.lit (.bool false)], args := [d] }
  | _ => none }
def AesKeysWrongFalsely : Prop := aesKeysRow.holds Try.pinned (OpenSpec.ofChange aesKeysWrong)

/-- 'legatelaw04.AesSwaps': WHATEVER THE INPUT: true; the input reads as it did. -/
def aesSwapsSpec : ChangeSpec := { name := "aesSwaps", fn := fun _ => fun
  | [d1, d2] => { results := [.lit (.bool true)], args := [d1, d2] }
  | _ => none }
def aesSwapsRow : OpenClaim := { program := "ytkgijkfcmbpgpaa", sum := "8c84bb22fbcfcfb2db5157c579bb63a36d28880049b6fed8a8c29f7c54b48889", func := "legate/legatelaw04.AesSwaps", spec := "aesSwaps", apart := false }
def AesSwapsSaid : Prop := aesSwapsRow.holds Try.pinned (OpenSpec.ofChange aesSwapsSpec)

/-- ITS FALSE NEIGHBOUR: 'it returns false'. Refute it at one input. -/
def aesSwapsWrong : ChangeSpec := { name := "aesSwaps", fn := fun _ => fun
  | [d1, d2] => { results := [.lit (.bool false)], args := [d1, d2] }
  | _ => none }
def AesSwapsWrongFalsely : Prop := aesSwapsRow.holds Try.pinned (OpenSpec.ofChange aesSwapsWrong)

/-- 'legatelaw05.CtrCiphers': WHATEVER THE INPUT: true; the input reads as it did. -/
def ctrCiphersSpec : ChangeSpec := { name := "ctrCiphers", fn := fun _ => fun
  | [d1, d2, d3, d4] => { results := [.lit (.bool true)], args := [d1, d2, d3, d4] }
  | _ => none }
def ctrCiphersRow : OpenClaim := { program := "ytkgijkfcmbpgpaa", sum := "8c84bb22fbcfcfb2db5157c579bb63a36d28880049b6fed8a8c29f7c54b48889", func := "legate/legatelaw05.CtrCiphers", spec := "ctrCiphers", inPlace := ["internal/abi.NoEscape"], unfollowed := true, recurses := true, apart := false }
def CtrCiphersSaid : Prop := ctrCiphersRow.holds Try.pinned (OpenSpec.ofChange ctrCiphersSpec)

/-- ITS FALSE NEIGHBOUR: 'it returns false'. Refute it at one input. -/
def ctrCiphersWrong : ChangeSpec := { name := "ctrCiphers", fn := fun _ => fun
  | [d1, d2, d3, d4] => { results := [.lit (.bool false)], args := [d1, d2, d3, d4] }
  | _ => none }
def CtrCiphersWrongFalsely : Prop := ctrCiphersRow.holds Try.pinned (OpenSpec.ofChange ctrCiphersWrong)

/-- 'legatelaw05.CtrTwice': WHATEVER THE INPUT: true; the input reads as it did. -/
def ctrTwiceSpec : ChangeSpec := { name := "ctrTwice", fn := fun _ => fun
  | [d1, d2, d3] => { results := [.lit (.bool true)], args := [d1, d2, d3] }
  | _ => none }
def ctrTwiceRow : OpenClaim := { program := "ytkgijkfcmbpgpaa", sum := "8c84bb22fbcfcfb2db5157c579bb63a36d28880049b6fed8a8c29f7c54b48889", func := "legate/legatelaw05.CtrTwice", spec := "ctrTwice", inPlace := ["internal/abi.NoEscape"], unfollowed := true, recurses := true, apart := false }
def CtrTwiceSaid : Prop := ctrTwiceRow.holds Try.pinned (OpenSpec.ofChange ctrTwiceSpec)

/-- ITS FALSE NEIGHBOUR: 'it returns false'. Refute it at one input. -/
def ctrTwiceWrong : ChangeSpec := { name := "ctrTwice", fn := fun _ => fun
  | [d1, d2, d3] => { results := [.lit (.bool false)], args := [d1, d2, d3] }
  | _ => none }
def CtrTwiceWrongFalsely : Prop := ctrTwiceRow.holds Try.pinned (OpenSpec.ofChange ctrTwiceWrong)

/-- 'legatelaw05.CtrBegins': WHATEVER THE INPUT: true; the input reads as it did. -/
def ctrBeginsSpec : ChangeSpec := { name := "ctrBegins", fn := fun _ => fun
  | [d1, d2, d3, d4] => { results := [.lit (.bool true)], args := [d1, d2, d3, d4] }
  | _ => none }
def ctrBeginsRow : OpenClaim := { program := "ytkgijkfcmbpgpaa", sum := "8c84bb22fbcfcfb2db5157c579bb63a36d28880049b6fed8a8c29f7c54b48889", func := "legate/legatelaw05.CtrBegins", spec := "ctrBegins", inPlace := ["internal/abi.NoEscape"], unfollowed := true, recurses := true, apart := false }
def CtrBeginsSaid : Prop := ctrBeginsRow.holds Try.pinned (OpenSpec.ofChange ctrBeginsSpec)

/-- ITS FALSE NEIGHBOUR: 'it returns false'. Refute it at one input. -/
def ctrBeginsWrong : ChangeSpec := { name := "ctrBegins", fn := fun _ => fun
  | [d1, d2, d3, d4] => { results := [.lit (.bool false)], args := [d1, d2, d3, d4] }
  | _ => none }
def CtrBeginsWrongFalsely : Prop := ctrBeginsRow.holds Try.pinned (OpenSpec.ofChange ctrBeginsWrong)

/-- 'legatelaw05.CtrBlocks': WHATEVER THE INPUT: true; the input reads as it did. -/
def ctrBlocksSpec : ChangeSpec := { name := "ctrBlocks", fn := fun _ => fun
  | [d1, d2, d3] => { results := [.lit (.bool true)], args := [d1, d2, d3] }
  | _ => none }
def ctrBlocksRow : OpenClaim := { program := "ytkgijkfcmbpgpaa", sum := "8c84bb22fbcfcfb2db5157c579bb63a36d28880049b6fed8a8c29f7c54b48889", func := "legate/legatelaw05.CtrBlocks", spec := "ctrBlocks", inPlace := ["internal/abi.NoEscape"], unfollowed := true, recurses := true, apart := false }
def CtrBlocksSaid : Prop := ctrBlocksRow.holds Try.pinned (OpenSpec.ofChange ctrBlocksSpec)

/-- ITS FALSE NEIGHBOUR: 'it returns false'. Refute it at one input. -/
def ctrBlocksWrong : ChangeSpec := { name := "ctrBlocks", fn := fun _ => fun
  | [d1, d2, d3] => { results := [.lit (.bool false)], args := [d1, d2, d3] }
  | _ => none }
def CtrBlocksWrongFalsely : Prop := ctrBlocksRow.holds Try.pinned (OpenSpec.ofChange ctrBlocksWrong)

/-- 'legatelaw01.WirePuts': WHATEVER THE INPUT: true; the input reads as it did. -/
def wirePutsSpec : ChangeSpec := { name := "wirePuts", fn := fun _ => fun
  | [d1, d2] => { results := [.lit (.bool true)], args := [d1, d2] }
  | _ => none }
def wirePutsRow : OpenClaim := { program := "ytkgijkfcmbpgpaa", sum := "8c84bb22fbcfcfb2db5157c579bb63a36d28880049b6fed8a8c29f7c54b48889", func := "legate/legatelaw01.WirePuts", spec := "wirePuts", inPlace := ["internal/abi.NoEscape"], unfollowed := true, recurses := true, loops := true, apart := false }
def WirePutsSaid : Prop := wirePutsRow.holds Try.pinned (OpenSpec.ofChange wirePutsSpec)

/-- ITS FALSE NEIGHBOUR: 'it returns false'. Refute it at one input. -/
def wirePutsWrong : ChangeSpec := { name := "wirePuts", fn := fun _ => fun
  | [d1, d2] => { results := [.lit (.bool false)], args := [d1, d2] }
  | _ => none }
def WirePutsWrongFalsely : Prop := wirePutsRow.holds Try.pinned (OpenSpec.ofChange wirePutsWrong)

/-- 'legatelaw01.WireBack': WHATEVER THE INPUT: true; the input reads as it did. -/
def wireBackSpec : ChangeSpec := { name := "wireBack", fn := fun _ => fun
  | [d1, d2, d3] => { results := [.lit (.bool true)], args := [d1, d2, d3] }
  | _ => none }
def wireBackRow : OpenClaim := { program := "ytkgijkfcmbpgpaa", sum := "8c84bb22fbcfcfb2db5157c579bb63a36d28880049b6fed8a8c29f7c54b48889", func := "legate/legatelaw01.WireBack", spec := "wireBack", inPlace := ["internal/abi.NoEscape"], unfollowed := true, recurses := true, loops := true, apart := false }
def WireBackSaid : Prop := wireBackRow.holds Try.pinned (OpenSpec.ofChange wireBackSpec)

/-- ITS FALSE NEIGHBOUR: 'it returns false'. Refute it at one input. -/
def wireBackWrong : ChangeSpec := { name := "wireBack", fn := fun _ => fun
  | [d1, d2, d3] => { results := [.lit (.bool false)], args := [d1, d2, d3] }
  | _ => none }
def WireBackWrongFalsely : Prop := wireBackRow.holds Try.pinned (OpenSpec.ofChange wireBackWrong)

/-- 'legatelaw01.WireOne': WHATEVER THE INPUT: true; the input reads as it did. -/
def wireOneSpec : ChangeSpec := { name := "wireOne", fn := fun _ => fun
  | [d1, d2] => { results := [.lit (.bool true)], args := [d1, d2] }
  | _ => none }
def wireOneRow : OpenClaim := { program := "ytkgijkfcmbpgpaa", sum := "8c84bb22fbcfcfb2db5157c579bb63a36d28880049b6fed8a8c29f7c54b48889", func := "legate/legatelaw01.WireOne", spec := "wireOne", inPlace := ["internal/abi.NoEscape"], unfollowed := true, recurses := true, apart := false }
def WireOneSaid : Prop := wireOneRow.holds Try.pinned (OpenSpec.ofChange wireOneSpec)

/-- ITS FALSE NEIGHBOUR: 'it returns false'. Refute it at one input. -/
def wireOneWrong : ChangeSpec := { name := "wireOne", fn := fun _ => fun
  | [d1, d2] => { results := [.lit (.bool false)], args := [d1, d2] }
  | _ => none }
def WireOneWrongFalsely : Prop := wireOneRow.holds Try.pinned (OpenSpec.ofChange wireOneWrong)

/-- 'legatelaw01.WireRow': WHATEVER THE INPUT: true; the input reads as it did. -/
def wireRowSpec : ChangeSpec := { name := "wireRow", fn := fun _ => fun
  | [d1, d2] => { results := [.lit (.bool true)], args := [d1, d2] }
  | _ => none }
def wireRowRow : OpenClaim := { program := "ytkgijkfcmbpgpaa", sum := "8c84bb22fbcfcfb2db5157c579bb63a36d28880049b6fed8a8c29f7c54b48889", func := "legate/legatelaw01.WireRow", spec := "wireRow", inPlace := ["internal/abi.NoEscape"], unfollowed := true, recurses := true, loops := true, apart := false }
def WireRowSaid : Prop := wireRowRow.holds Try.pinned (OpenSpec.ofChange wireRowSpec)

/-- ITS FALSE NEIGHBOUR: 'it returns false'. Refute it at one input. -/
def wireRowWrong : ChangeSpec := { name := "wireRow", fn := fun _ => fun
  | [d1, d2] => { results := [.lit (.bool false)], args := [d1, d2] }
  | _ => none }
def WireRowWrongFalsely : Prop := wireRowRow.holds Try.pinned (OpenSpec.ofChange wireRowWrong)

/-- 'legatelaw01.WireSizes': WHATEVER THE INPUT: true; the input reads as it did. -/
def wireSizesSpec : ChangeSpec := { name := "wireSizes", fn := fun _ => fun
  | [d1, d2] => { results := [.lit (.bool true)], args := [d1, d2] }
  | _ => none }
def wireSizesRow : OpenClaim := { program := "ytkgijkfcmbpgpaa", sum := "8c84bb22fbcfcfb2db5157c579bb63a36d28880049b6fed8a8c29f7c54b48889", func := "legate/legatelaw01.WireSizes", spec := "wireSizes", inPlace := ["internal/abi.NoEscape"], unfollowed := true, recurses := true, loops := true, apart := false }
def WireSizesSaid : Prop := wireSizesRow.holds Try.pinned (OpenSpec.ofChange wireSizesSpec)

/-- ITS FALSE NEIGHBOUR: 'it returns false'. Refute it at one input. -/
def wireSizesWrong : ChangeSpec := { name := "wireSizes", fn := fun _ => fun
  | [d1, d2] => { results := [.lit (.bool false)], args := [d1, d2] }
  | _ => none }
def WireSizesWrongFalsely : Prop := wireSizesRow.holds Try.pinned (OpenSpec.ofChange wireSizesWrong)

/-- 'legatelaw01.WireBytes': WHATEVER THE INPUT: true; the input reads as it did. -/
def wireBytesSpec : ChangeSpec := { name := "wireBytes", fn := fun _ => fun
  | [d1, d2, d3] => { results := [.lit (.bool true)], args := [d1, d2, d3] }
  | _ => none }
def wireBytesRow : OpenClaim := { program := "ytkgijkfcmbpgpaa", sum := "8c84bb22fbcfcfb2db5157c579bb63a36d28880049b6fed8a8c29f7c54b48889", func := "legate/legatelaw01.WireBytes", spec := "wireBytes", inPlace := ["internal/abi.NoEscape"], unfollowed := true, recurses := true, loops := true, apart := false }
def WireBytesSaid : Prop := wireBytesRow.holds Try.pinned (OpenSpec.ofChange wireBytesSpec)

/-- ITS FALSE NEIGHBOUR: 'it returns false'. Refute it at one input. -/
def wireBytesWrong : ChangeSpec := { name := "wireBytes", fn := fun _ => fun
  | [d1, d2, d3] => { results := [.lit (.bool false)], args := [d1, d2, d3] }
  | _ => none }
def WireBytesWrongFalsely : Prop := wireBytesRow.holds Try.pinned (OpenSpec.ofChange wireBytesWrong)

/- THE SECOND FORM. 'bulk': how many values and letters a reading holds, each counted each time it is reached (what is shared counts as often as it is met; a slice's spare places count too). A statement '..UptoSaid' is the law's where the arguments, and the package variables that the reading takes, are together of bulk at most 1048576: NARROWER than '..Said'. Prove '..Said' where nothing that the law and all that it calls make is longer than what came in: it says more and counts as full. Else prove '..UptoSaid'. A law counts once. -/
mutual
def uptoBulk {H : Type} : DataW H → Nat
  | .lit (.string bytes) => bytes.length + 1
  | .lit _ => 1
  | .nil => 1
  | .ptr d => uptoBulk d + 1
  | .slice elems spare => uptoBulkAll elems + uptoBulkAll spare + 1
  | .agg parts => uptoBulkAll parts + 1
  | .iface _ d => uptoBulk d + 1
  | .map entries => uptoBulkEntries entries + 1
  | .held _ => 1
def uptoBulkAll {H : Type} : List (DataW H) → Nat
  | [] => 0
  | d :: r => uptoBulk d + uptoBulkAll r
def uptoBulkEntries {H : Type} : List (Lit × DataW H) → Nat
  | [] => 0
  | x :: r => uptoBulkEntry x + uptoBulkEntries r
def uptoBulkEntry {H : Type} : Lit × DataW H → Nat
  | (.string bytes, d) => bytes.length + uptoBulk d + 1
  | (_, d) => uptoBulk d + 1
 end
def uptoSmall : (H : Type) → List (DataW H) → Bool := fun _ ds => decide (uptoBulkAll ds ≤ 1048576)
def OpenSpec.upto (s : _root_.Go.ChangeSpec) : _root_.Go.OpenSpec := { _root_.Go.OpenSpec.ofChange s with cond := some uptoSmall }

/-- 'legatelaw04.AesTimes', WHERE WHAT IT READS IS OF BULK AT MOST 1048576: true; the input reads as it did. -/
def aesTimesUptoRow : OpenClaim := { program := "ytkgijkfcmbpgpaa", sum := "8c84bb22fbcfcfb2db5157c579bb63a36d28880049b6fed8a8c29f7c54b48889", func := "legate/legatelaw04.AesTimes", spec := "aesTimes", apart := false, narrowed := true }
def AesTimesUptoSaid : Prop := aesTimesUptoRow.holds Try.pinned (OpenSpec.upto aesTimesSpec)

/-- 'legatelaw04.AesField', WHERE WHAT IT READS IS OF BULK AT MOST 1048576: true; the input reads as it did. -/
def aesFieldUptoRow : OpenClaim := { program := "ytkgijkfcmbpgpaa", sum := "8c84bb22fbcfcfb2db5157c579bb63a36d28880049b6fed8a8c29f7c54b48889", func := "legate/legatelaw04.AesField", spec := "aesField", apart := false, narrowed := true }
def AesFieldUptoSaid : Prop := aesFieldUptoRow.holds Try.pinned (OpenSpec.upto aesFieldSpec)

/-- 'legatelaw04.AesEncrypts', WHERE WHAT IT READS IS OF BULK AT MOST 1048576: true; the input reads as it did. -/
def aesEncryptsUptoRow : OpenClaim := { program := "ytkgijkfcmbpgpaa", sum := "8c84bb22fbcfcfb2db5157c579bb63a36d28880049b6fed8a8c29f7c54b48889", func := "legate/legatelaw04.AesEncrypts", spec := "aesEncrypts", apart := false, narrowed := true }
def AesEncryptsUptoSaid : Prop := aesEncryptsUptoRow.holds Try.pinned (OpenSpec.upto aesEncryptsSpec)

/-- 'legatelaw04.AesUnlike', WHERE WHAT IT READS IS OF BULK AT MOST 1048576: true; the input reads as it did. -/
def aesUnlikeUptoRow : OpenClaim := { program := "ytkgijkfcmbpgpaa", sum := "8c84bb22fbcfcfb2db5157c579bb63a36d28880049b6fed8a8c29f7c54b48889", func := "legate/legatelaw04.AesUnlike", spec := "aesUnlike", apart := false, narrowed := true }
def AesUnlikeUptoSaid : Prop := aesUnlikeUptoRow.holds Try.pinned (OpenSpec.upto aesUnlikeSpec)

/-- 'legatelaw04.AesKeys', WHERE WHAT IT READS IS OF BULK AT MOST 1048576: true; the input reads as it did. -/
def aesKeysUptoRow : OpenClaim := { program := "ytkgijkfcmbpgpaa", sum := "8c84bb22fbcfcfb2db5157c579bb63a36d28880049b6fed8a8c29f7c54b48889", func := "legate/legatelaw04.AesKeys", spec := "aesKeys", apart := false, narrowed := true }
def AesKeysUptoSaid : Prop := aesKeysUptoRow.holds Try.pinned (OpenSpec.upto aesKeysSpec)

/-- 'legatelaw04.AesSwaps', WHERE WHAT IT READS IS OF BULK AT MOST 1048576: true; the input reads as it did. -/
def aesSwapsUptoRow : OpenClaim := { program := "ytkgijkfcmbpgpaa", sum := "8c84bb22fbcfcfb2db5157c579bb63a36d28880049b6fed8a8c29f7c54b48889", func := "legate/legatelaw04.AesSwaps", spec := "aesSwaps", apart := false, narrowed := true }
def AesSwapsUptoSaid : Prop := aesSwapsUptoRow.holds Try.pinned (OpenSpec.upto aesSwapsSpec)

/-- 'legatelaw05.CtrCiphers', WHERE WHAT IT READS IS OF BULK AT MOST 1048576: true; the input reads as it did. -/
def ctrCiphersUptoRow : OpenClaim := { program := "ytkgijkfcmbpgpaa", sum := "8c84bb22fbcfcfb2db5157c579bb63a36d28880049b6fed8a8c29f7c54b48889", func := "legate/legatelaw05.CtrCiphers", spec := "ctrCiphers", inPlace := ["internal/abi.NoEscape"], unfollowed := true, recurses := true, apart := false, narrowed := true }
def CtrCiphersUptoSaid : Prop := ctrCiphersUptoRow.holds Try.pinned (OpenSpec.upto ctrCiphersSpec)

/-- 'legatelaw05.CtrTwice', WHERE WHAT IT READS IS OF BULK AT MOST 1048576: true; the input reads as it did. -/
def ctrTwiceUptoRow : OpenClaim := { program := "ytkgijkfcmbpgpaa", sum := "8c84bb22fbcfcfb2db5157c579bb63a36d28880049b6fed8a8c29f7c54b48889", func := "legate/legatelaw05.CtrTwice", spec := "ctrTwice", inPlace := ["internal/abi.NoEscape"], unfollowed := true, recurses := true, apart := false, narrowed := true }
def CtrTwiceUptoSaid : Prop := ctrTwiceUptoRow.holds Try.pinned (OpenSpec.upto ctrTwiceSpec)

/-- 'legatelaw05.CtrBegins', WHERE WHAT IT READS IS OF BULK AT MOST 1048576: true; the input reads as it did. -/
def ctrBeginsUptoRow : OpenClaim := { program := "ytkgijkfcmbpgpaa", sum := "8c84bb22fbcfcfb2db5157c579bb63a36d28880049b6fed8a8c29f7c54b48889", func := "legate/legatelaw05.CtrBegins", spec := "ctrBegins", inPlace := ["internal/abi.NoEscape"], unfollowed := true, recurses := true, apart := false, narrowed := true }
def CtrBeginsUptoSaid : Prop := ctrBeginsUptoRow.holds Try.pinned (OpenSpec.upto ctrBeginsSpec)

/-- 'legatelaw05.CtrBlocks', WHERE WHAT IT READS IS OF BULK AT MOST 1048576: true; the input reads as it did. -/
def ctrBlocksUptoRow : OpenClaim := { program := "ytkgijkfcmbpgpaa", sum := "8c84bb22fbcfcfb2db5157c579bb63a36d28880049b6fed8a8c29f7c54b48889", func := "legate/legatelaw05.CtrBlocks", spec := "ctrBlocks", inPlace := ["internal/abi.NoEscape"], unfollowed := true, recurses := true, apart := false, narrowed := true }
def CtrBlocksUptoSaid : Prop := ctrBlocksUptoRow.holds Try.pinned (OpenSpec.upto ctrBlocksSpec)

/-- 'legatelaw01.WirePuts', WHERE WHAT IT READS IS OF BULK AT MOST 1048576: true; the input reads as it did. -/
def wirePutsUptoRow : OpenClaim := { program := "ytkgijkfcmbpgpaa", sum := "8c84bb22fbcfcfb2db5157c579bb63a36d28880049b6fed8a8c29f7c54b48889", func := "legate/legatelaw01.WirePuts", spec := "wirePuts", inPlace := ["internal/abi.NoEscape"], unfollowed := true, recurses := true, loops := true, apart := false, narrowed := true }
def WirePutsUptoSaid : Prop := wirePutsUptoRow.holds Try.pinned (OpenSpec.upto wirePutsSpec)

/-- 'legatelaw01.WireBack', WHERE WHAT IT READS IS OF BULK AT MOST 1048576: true; the input reads as it did. -/
def wireBackUptoRow : OpenClaim := { program := "ytkgijkfcmbpgpaa", sum := "8c84bb22fbcfcfb2db5157c579bb63a36d28880049b6fed8a8c29f7c54b48889", func := "legate/legatelaw01.WireBack", spec := "wireBack", inPlace := ["internal/abi.NoEscape"], unfollowed := true, recurses := true, loops := true, apart := false, narrowed := true }
def WireBackUptoSaid : Prop := wireBackUptoRow.holds Try.pinned (OpenSpec.upto wireBackSpec)

/-- 'legatelaw01.WireOne', WHERE WHAT IT READS IS OF BULK AT MOST 1048576: true; the input reads as it did. -/
def wireOneUptoRow : OpenClaim := { program := "ytkgijkfcmbpgpaa", sum := "8c84bb22fbcfcfb2db5157c579bb63a36d28880049b6fed8a8c29f7c54b48889", func := "legate/legatelaw01.WireOne", spec := "wireOne", inPlace := ["internal/abi.NoEscape"], unfollowed := true, recurses := true, apart := false, narrowed := true }
def WireOneUptoSaid : Prop := wireOneUptoRow.holds Try.pinned (OpenSpec.upto wireOneSpec)

/-- 'legatelaw01.WireRow', WHERE WHAT IT READS IS OF BULK AT MOST 1048576: true; the input reads as it did. -/
def wireRowUptoRow : OpenClaim := { program := "ytkgijkfcmbpgpaa", sum := "8c84bb22fbcfcfb2db5157c579bb63a36d28880049b6fed8a8c29f7c54b48889", func := "legate/legatelaw01.WireRow", spec := "wireRow", inPlace := ["internal/abi.NoEscape"], unfollowed := true, recurses := true, loops := true, apart := false, narrowed := true }
def WireRowUptoSaid : Prop := wireRowUptoRow.holds Try.pinned (OpenSpec.upto wireRowSpec)

/-- 'legatelaw01.WireSizes', WHERE WHAT IT READS IS OF BULK AT MOST 1048576: true; the input reads as it did. -/
def wireSizesUptoRow : OpenClaim := { program := "ytkgijkfcmbpgpaa", sum := "8c84bb22fbcfcfb2db5157c579bb63a36d28880049b6fed8a8c29f7c54b48889", func := "legate/legatelaw01.WireSizes", spec := "wireSizes", inPlace := ["internal/abi.NoEscape"], unfollowed := true, recurses := true, loops := true, apart := false, narrowed := true }
def WireSizesUptoSaid : Prop := wireSizesUptoRow.holds Try.pinned (OpenSpec.upto wireSizesSpec)

/-- 'legatelaw01.WireBytes', WHERE WHAT IT READS IS OF BULK AT MOST 1048576: true; the input reads as it did. -/
def wireBytesUptoRow : OpenClaim := { program := "ytkgijkfcmbpgpaa", sum := "8c84bb22fbcfcfb2db5157c579bb63a36d28880049b6fed8a8c29f7c54b48889", func := "legate/legatelaw01.WireBytes", spec := "wireBytes", inPlace := ["internal/abi.NoEscape"], unfollowed := true, recurses := true, loops := true, apart := false, narrowed := true }
def WireBytesUptoSaid : Prop := wireBytesUptoRow.holds Try.pinned (OpenSpec.upto wireBytesSpec)

end Rows
end Go.Proofs.Ytkgijkfcmbpgpaa
