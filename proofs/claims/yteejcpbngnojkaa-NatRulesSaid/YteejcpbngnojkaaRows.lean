/-
  No cell of these rows narrows 'for every input' (looked for: loops, veiled, ifaces, maps, wideKeys, modest, calm, conditions, laid).
  DERIVED. THE GIVEN ROWS OF THIS SEAT. 25 by the template 'for every input the law returns true; each argument reads behind the call as it read before'; 0 by the template 'total and deterministic' (their statements: YteejcpbngnojkaaTotals.lean).
  GIVEN WITH THE SEED: the statements are not yours to turn. If you find one false, say at which input.
  Laid BY PROGRAM, IN A SANDBOX (cutbox-rows.mjs): the forced cells as the released guide's own fill.sh prints them over the translation 1bf3cbdf3c767f1c… (all of the seat's roots in one cut). By AI agents, Wed Nov 11 2026. No macro, syntax, notation, axiom, sorry.
-/
import Derived.Test.YteejcpbngnojkaaChecked
import GoSem.Claim
import GoSem.ClaimJoined
import GoSem.ClaimMapViews
import Derived.JoinedTies
import Derived.KernelRfl
namespace Go.Proofs.Yteejcpbngnojkaa
/- THE CELL 'sum', in the pinned program and in every row, IS THE sha256 OF THE DUMP (.gsa) THAT YteejcpbngnojkaaProg.lean LOADS. Nothing in Lean hashes anything: it is a label: what it is worth is what the hold of that sum in a sandbox is worth. -/
noncomputable def Try.pinned : Pinned := { name := "yteejcpbngnojkaa", sum := "1bf3cbdf3c767f1ca506a54c25f260ae349667e94ba3d5092cfa02ffd4b10e93", checked := Try.checked }
namespace Rows
def none {H : Type} : Left H := { results := [], args := [] }

/-- 'sacristylaw05.StreamBlocks': WHATEVER THE INPUT: true; the input reads as it did. -/
def streamBlocksSpec : ChangeSpec := { name := "streamBlocks", fn := fun _ => fun
  | [d1, d2, d3] => { results := [.lit (.bool true)], args := [d1, d2, d3] }
  | _ => none }
def streamBlocksRow : OpenClaim := { program := "yteejcpbngnojkaa", sum := "1bf3cbdf3c767f1ca506a54c25f260ae349667e94ba3d5092cfa02ffd4b10e93", func := "sacristy/sacristylaw05.StreamBlocks", spec := "streamBlocks", apart := false }
def StreamBlocksSaid : Prop := streamBlocksRow.holds Try.pinned (OpenSpec.ofChange streamBlocksSpec)

/-- ITS FALSE NEIGHBOUR: 'it returns false'. Refute it at one input. -/
def streamBlocksWrong : ChangeSpec := { name := "streamBlocks", fn := fun _ => fun
  | [d1, d2, d3] => { results := [.lit (.bool false)], args := [d1, d2, d3] }
  | _ => none }
def StreamBlocksWrongFalsely : Prop := streamBlocksRow.holds Try.pinned (OpenSpec.ofChange streamBlocksWrong)

/-- 'sacristylaw05.StreamXors': WHATEVER THE INPUT: true; the input reads as it did. -/
def streamXorsSpec : ChangeSpec := { name := "streamXors", fn := fun _ => fun
  | [d1, d2, d3, d4] => { results := [.lit (.bool true)], args := [d1, d2, d3, d4] }
  | _ => none }
def streamXorsRow : OpenClaim := { program := "yteejcpbngnojkaa", sum := "1bf3cbdf3c767f1ca506a54c25f260ae349667e94ba3d5092cfa02ffd4b10e93", func := "sacristy/sacristylaw05.StreamXors", spec := "streamXors", apart := false }
def StreamXorsSaid : Prop := streamXorsRow.holds Try.pinned (OpenSpec.ofChange streamXorsSpec)

/-- ITS FALSE NEIGHBOUR: 'it returns false'. Refute it at one input. -/
def streamXorsWrong : ChangeSpec := { name := "streamXors", fn := fun _ => fun
  | [d1, d2, d3, d4] => { results := [.lit (.bool false)], args := [d1, d2, d3, d4] }
  | _ => none }
def StreamXorsWrongFalsely : Prop := streamXorsRow.holds Try.pinned (OpenSpec.ofChange streamXorsWrong)

/-- 'sacristylaw05.StreamBack': WHATEVER THE INPUT: true; the input reads as it did. -/
def streamBackSpec : ChangeSpec := { name := "streamBack", fn := fun _ => fun
  | [d1, d2, d3, d4, d5, d6] => { results := [.lit (.bool true)], args := [d1, d2, d3, d4, d5, d6] }
  | _ => none }
def streamBackRow : OpenClaim := { program := "yteejcpbngnojkaa", sum := "1bf3cbdf3c767f1ca506a54c25f260ae349667e94ba3d5092cfa02ffd4b10e93", func := "sacristy/sacristylaw05.StreamBack", spec := "streamBack", apart := false }
def StreamBackSaid : Prop := streamBackRow.holds Try.pinned (OpenSpec.ofChange streamBackSpec)

/-- ITS FALSE NEIGHBOUR: 'it returns false'. Refute it at one input. -/
def streamBackWrong : ChangeSpec := { name := "streamBack", fn := fun _ => fun
  | [d1, d2, d3, d4, d5, d6] => { results := [.lit (.bool false)], args := [d1, d2, d3, d4, d5, d6] }
  | _ => none }
def StreamBackWrongFalsely : Prop := streamBackRow.holds Try.pinned (OpenSpec.ofChange streamBackWrong)

/-- 'sacristylaw05.StreamParts': WHATEVER THE INPUT: true; the input reads as it did. -/
def streamPartsSpec : ChangeSpec := { name := "streamParts", fn := fun _ => fun
  | [d1, d2, d3, d4] => { results := [.lit (.bool true)], args := [d1, d2, d3, d4] }
  | _ => none }
def streamPartsRow : OpenClaim := { program := "yteejcpbngnojkaa", sum := "1bf3cbdf3c767f1ca506a54c25f260ae349667e94ba3d5092cfa02ffd4b10e93", func := "sacristy/sacristylaw05.StreamParts", spec := "streamParts", apart := false }
def StreamPartsSaid : Prop := streamPartsRow.holds Try.pinned (OpenSpec.ofChange streamPartsSpec)

/-- ITS FALSE NEIGHBOUR: 'it returns false'. Refute it at one input. -/
def streamPartsWrong : ChangeSpec := { name := "streamParts", fn := fun _ => fun
  | [d1, d2, d3, d4] => { results := [.lit (.bool false)], args := [d1, d2, d3, d4] }
  | _ => none }
def StreamPartsWrongFalsely : Prop := streamPartsRow.holds Try.pinned (OpenSpec.ofChange streamPartsWrong)

/-- 'sacristylaw01.NatBytes': WHATEVER THE INPUT: true; the input reads as it did. -/
def natBytesSpec : ChangeSpec := { name := "natBytes", fn := fun _ => fun
  | [d1, d2] => { results := [.lit (.bool true)], args := [d1, d2] }
  | _ => none }
def natBytesRow : OpenClaim := { program := "yteejcpbngnojkaa", sum := "1bf3cbdf3c767f1ca506a54c25f260ae349667e94ba3d5092cfa02ffd4b10e93", func := "sacristy/sacristylaw01.NatBytes", spec := "natBytes", unfollowed := true, recurses := true, apart := false }
def NatBytesSaid : Prop := natBytesRow.holds Try.pinned (OpenSpec.ofChange natBytesSpec)

/-- ITS FALSE NEIGHBOUR: 'it returns false'. Refute it at one input. -/
def natBytesWrong : ChangeSpec := { name := "natBytes", fn := fun _ => fun
  | [d1, d2] => { results := [.lit (.bool false)], args := [d1, d2] }
  | _ => none }
def NatBytesWrongFalsely : Prop := natBytesRow.holds Try.pinned (OpenSpec.ofChange natBytesWrong)

/-- 'sacristylaw01.NatBits': WHATEVER THE INPUT: true; the input reads as it did. -/
def natBitsSpec : ChangeSpec := { name := "natBits", fn := fun _ => fun
  | [d1, d2, d3] => { results := [.lit (.bool true)], args := [d1, d2, d3] }
  | _ => none }
def natBitsRow : OpenClaim := { program := "yteejcpbngnojkaa", sum := "1bf3cbdf3c767f1ca506a54c25f260ae349667e94ba3d5092cfa02ffd4b10e93", func := "sacristy/sacristylaw01.NatBits", spec := "natBits", unfollowed := true, recurses := true, apart := false }
def NatBitsSaid : Prop := natBitsRow.holds Try.pinned (OpenSpec.ofChange natBitsSpec)

/-- ITS FALSE NEIGHBOUR: 'it returns false'. Refute it at one input. -/
def natBitsWrong : ChangeSpec := { name := "natBits", fn := fun _ => fun
  | [d1, d2, d3] => { results := [.lit (.bool false)], args := [d1, d2, d3] }
  | _ => none }
def NatBitsWrongFalsely : Prop := natBitsRow.holds Try.pinned (OpenSpec.ofChange natBitsWrong)

/-- 'sacristylaw07.BoxBack': WHATEVER THE INPUT: true; the input reads as it did. -/
def boxBackSpec : ChangeSpec := { name := "boxBack", fn := fun _ => fun
  | [d1, d2, d3, d4, d5, d6] => { results := [.lit (.bool true)], args := [d1, d2, d3, d4, d5, d6] }
  | _ => none }
def boxBackRow : OpenClaim := { program := "yteejcpbngnojkaa", sum := "1bf3cbdf3c767f1ca506a54c25f260ae349667e94ba3d5092cfa02ffd4b10e93", func := "sacristy/sacristylaw07.BoxBack", spec := "boxBack", unfollowed := true, recurses := true, apart := false }
def BoxBackSaid : Prop := boxBackRow.holds Try.pinned (OpenSpec.ofChange boxBackSpec)

/-- ITS FALSE NEIGHBOUR: 'it returns false'. Refute it at one input. -/
def boxBackWrong : ChangeSpec := { name := "boxBack", fn := fun _ => fun
  | [d1, d2, d3, d4, d5, d6] => { results := [.lit (.bool false)], args := [d1, d2, d3, d4, d5, d6] }
  | _ => none }
def BoxBackWrongFalsely : Prop := boxBackRow.holds Try.pinned (OpenSpec.ofChange boxBackWrong)

/-- 'sacristylaw01.NatGcds': WHATEVER THE INPUT: true; the input reads as it did. -/
def natGcdsSpec : ChangeSpec := { name := "natGcds", fn := fun _ => fun
  | [d1, d2] => { results := [.lit (.bool true)], args := [d1, d2] }
  | _ => none }
def natGcdsRow : OpenClaim := { program := "yteejcpbngnojkaa", sum := "1bf3cbdf3c767f1ca506a54c25f260ae349667e94ba3d5092cfa02ffd4b10e93", func := "sacristy/sacristylaw01.NatGcds", spec := "natGcds", unfollowed := true, recurses := true, apart := false }
def NatGcdsSaid : Prop := natGcdsRow.holds Try.pinned (OpenSpec.ofChange natGcdsSpec)

/-- ITS FALSE NEIGHBOUR: 'it returns false'. Refute it at one input. -/
def natGcdsWrong : ChangeSpec := { name := "natGcds", fn := fun _ => fun
  | [d1, d2] => { results := [.lit (.bool false)], args := [d1, d2] }
  | _ => none }
def NatGcdsWrongFalsely : Prop := natGcdsRow.holds Try.pinned (OpenSpec.ofChange natGcdsWrong)

/-- 'sacristylaw01.NatSmall': WHATEVER THE INPUT: true; the input reads as it did. -/
def natSmallSpec : ChangeSpec := { name := "natSmall", fn := fun _ => fun
  | [d1, d2] => { results := [.lit (.bool true)], args := [d1, d2] }
  | _ => none }
def natSmallRow : OpenClaim := { program := "yteejcpbngnojkaa", sum := "1bf3cbdf3c767f1ca506a54c25f260ae349667e94ba3d5092cfa02ffd4b10e93", func := "sacristy/sacristylaw01.NatSmall", spec := "natSmall", unfollowed := true, recurses := true, apart := false }
def NatSmallSaid : Prop := natSmallRow.holds Try.pinned (OpenSpec.ofChange natSmallSpec)

/-- ITS FALSE NEIGHBOUR: 'it returns false'. Refute it at one input. -/
def natSmallWrong : ChangeSpec := { name := "natSmall", fn := fun _ => fun
  | [d1, d2] => { results := [.lit (.bool false)], args := [d1, d2] }
  | _ => none }
def NatSmallWrongFalsely : Prop := natSmallRow.holds Try.pinned (OpenSpec.ofChange natSmallWrong)

/-- 'sacristylaw07.BoxShort': WHATEVER THE INPUT: true; the input reads as it did. -/
def boxShortSpec : ChangeSpec := { name := "boxShort", fn := fun _ => fun
  | [d1, d2, d3, d4] => { results := [.lit (.bool true)], args := [d1, d2, d3, d4] }
  | _ => none }
def boxShortRow : OpenClaim := { program := "yteejcpbngnojkaa", sum := "1bf3cbdf3c767f1ca506a54c25f260ae349667e94ba3d5092cfa02ffd4b10e93", func := "sacristy/sacristylaw07.BoxShort", spec := "boxShort", unfollowed := true, recurses := true, apart := false }
def BoxShortSaid : Prop := boxShortRow.holds Try.pinned (OpenSpec.ofChange boxShortSpec)

/-- ITS FALSE NEIGHBOUR: 'it returns false'. Refute it at one input. -/
def boxShortWrong : ChangeSpec := { name := "boxShort", fn := fun _ => fun
  | [d1, d2, d3, d4] => { results := [.lit (.bool false)], args := [d1, d2, d3, d4] }
  | _ => none }
def BoxShortWrongFalsely : Prop := boxShortRow.holds Try.pinned (OpenSpec.ofChange boxShortWrong)

/-- 'sacristylaw01.NatProducts': WHATEVER THE INPUT: true; the input reads as it did. -/
def natProductsSpec : ChangeSpec := { name := "natProducts", fn := fun _ => fun
  | [d1, d2] => { results := [.lit (.bool true)], args := [d1, d2] }
  | _ => none }
def natProductsRow : OpenClaim := { program := "yteejcpbngnojkaa", sum := "1bf3cbdf3c767f1ca506a54c25f260ae349667e94ba3d5092cfa02ffd4b10e93", func := "sacristy/sacristylaw01.NatProducts", spec := "natProducts", unfollowed := true, recurses := true, apart := false }
def NatProductsSaid : Prop := natProductsRow.holds Try.pinned (OpenSpec.ofChange natProductsSpec)

/-- ITS FALSE NEIGHBOUR: 'it returns false'. Refute it at one input. -/
def natProductsWrong : ChangeSpec := { name := "natProducts", fn := fun _ => fun
  | [d1, d2] => { results := [.lit (.bool false)], args := [d1, d2] }
  | _ => none }
def NatProductsWrongFalsely : Prop := natProductsRow.holds Try.pinned (OpenSpec.ofChange natProductsWrong)

/-- 'sacristylaw01.NatBack': WHATEVER THE INPUT: true; the input reads as it did. -/
def natBackSpec : ChangeSpec := { name := "natBack", fn := fun _ => fun
  | [d1, d2] => { results := [.lit (.bool true)], args := [d1, d2] }
  | _ => none }
def natBackRow : OpenClaim := { program := "yteejcpbngnojkaa", sum := "1bf3cbdf3c767f1ca506a54c25f260ae349667e94ba3d5092cfa02ffd4b10e93", func := "sacristy/sacristylaw01.NatBack", spec := "natBack", unfollowed := true, recurses := true, apart := false }
def NatBackSaid : Prop := natBackRow.holds Try.pinned (OpenSpec.ofChange natBackSpec)

/-- ITS FALSE NEIGHBOUR: 'it returns false'. Refute it at one input. -/
def natBackWrong : ChangeSpec := { name := "natBack", fn := fun _ => fun
  | [d1, d2] => { results := [.lit (.bool false)], args := [d1, d2] }
  | _ => none }
def NatBackWrongFalsely : Prop := natBackRow.holds Try.pinned (OpenSpec.ofChange natBackWrong)

/-- 'sacristylaw01.NatOrders': WHATEVER THE INPUT: true; the input reads as it did. -/
def natOrdersSpec : ChangeSpec := { name := "natOrders", fn := fun _ => fun
  | [d1, d2, d3] => { results := [.lit (.bool true)], args := [d1, d2, d3] }
  | _ => none }
def natOrdersRow : OpenClaim := { program := "yteejcpbngnojkaa", sum := "1bf3cbdf3c767f1ca506a54c25f260ae349667e94ba3d5092cfa02ffd4b10e93", func := "sacristy/sacristylaw01.NatOrders", spec := "natOrders", unfollowed := true, recurses := true, apart := false }
def NatOrdersSaid : Prop := natOrdersRow.holds Try.pinned (OpenSpec.ofChange natOrdersSpec)

/-- ITS FALSE NEIGHBOUR: 'it returns false'. Refute it at one input. -/
def natOrdersWrong : ChangeSpec := { name := "natOrders", fn := fun _ => fun
  | [d1, d2, d3] => { results := [.lit (.bool false)], args := [d1, d2, d3] }
  | _ => none }
def NatOrdersWrongFalsely : Prop := natOrdersRow.holds Try.pinned (OpenSpec.ofChange natOrdersWrong)

/-- 'sacristylaw01.NatSums': WHATEVER THE INPUT: true; the input reads as it did. -/
def natSumsSpec : ChangeSpec := { name := "natSums", fn := fun _ => fun
  | [d1, d2] => { results := [.lit (.bool true)], args := [d1, d2] }
  | _ => none }
def natSumsRow : OpenClaim := { program := "yteejcpbngnojkaa", sum := "1bf3cbdf3c767f1ca506a54c25f260ae349667e94ba3d5092cfa02ffd4b10e93", func := "sacristy/sacristylaw01.NatSums", spec := "natSums", unfollowed := true, recurses := true, apart := false }
def NatSumsSaid : Prop := natSumsRow.holds Try.pinned (OpenSpec.ofChange natSumsSpec)

/-- ITS FALSE NEIGHBOUR: 'it returns false'. Refute it at one input. -/
def natSumsWrong : ChangeSpec := { name := "natSums", fn := fun _ => fun
  | [d1, d2] => { results := [.lit (.bool false)], args := [d1, d2] }
  | _ => none }
def NatSumsWrongFalsely : Prop := natSumsRow.holds Try.pinned (OpenSpec.ofChange natSumsWrong)

/-- 'sacristylaw01.NatRules': WHATEVER THE INPUT: true; the input reads as it did. -/
def natRulesSpec : ChangeSpec := { name := "natRules", fn := fun _ => fun
  | [d1, d2, d3] => { results := [.lit (.bool true)], args := [d1, d2, d3] }
  | _ => none }
def natRulesRow : OpenClaim := { program := "yteejcpbngnojkaa", sum := "1bf3cbdf3c767f1ca506a54c25f260ae349667e94ba3d5092cfa02ffd4b10e93", func := "sacristy/sacristylaw01.NatRules", spec := "natRules", unfollowed := true, recurses := true, apart := false }
def NatRulesSaid : Prop := natRulesRow.holds Try.pinned (OpenSpec.ofChange natRulesSpec)

/-- ITS FALSE NEIGHBOUR: 'it returns false'. Refute it at one input. -/
def natRulesWrong : ChangeSpec := { name := "natRules", fn := fun _ => fun
  | [d1, d2, d3] => { results := [.lit (.bool false)], args := [d1, d2, d3] }
  | _ => none }
def NatRulesWrongFalsely : Prop := natRulesRow.holds Try.pinned (OpenSpec.ofChange natRulesWrong)

/-- 'sacristylaw06.TagTags': WHATEVER THE INPUT: true; the input reads as it did. -/
def tagTagsSpec : ChangeSpec := { name := "tagTags", fn := fun _ => fun
  | [d1, d2] => { results := [.lit (.bool true)], args := [d1, d2] }
  | _ => none }
def tagTagsRow : OpenClaim := { program := "yteejcpbngnojkaa", sum := "1bf3cbdf3c767f1ca506a54c25f260ae349667e94ba3d5092cfa02ffd4b10e93", func := "sacristy/sacristylaw06.TagTags", spec := "tagTags", unfollowed := true, recurses := true, apart := false }
def TagTagsSaid : Prop := tagTagsRow.holds Try.pinned (OpenSpec.ofChange tagTagsSpec)

/-- ITS FALSE NEIGHBOUR: 'it returns false'. Refute it at one input. -/
def tagTagsWrong : ChangeSpec := { name := "tagTags", fn := fun _ => fun
  | [d1, d2] => { results := [.lit (.bool false)], args := [d1, d2] }
  | _ => none }
def TagTagsWrongFalsely : Prop := tagTagsRow.holds Try.pinned (OpenSpec.ofChange tagTagsWrong)

/-- 'sacristylaw06.TagNone': WHATEVER THE INPUT: true; the input reads as it did. -/
def tagNoneSpec : ChangeSpec := { name := "tagNone", fn := fun _ => fun
  | [d1, d2] => { results := [.lit (.bool true)], args := [d1, d2] }
  | _ => none }
def tagNoneRow : OpenClaim := { program := "yteejcpbngnojkaa", sum := "1bf3cbdf3c767f1ca506a54c25f260ae349667e94ba3d5092cfa02ffd4b10e93", func := "sacristy/sacristylaw06.TagNone", spec := "tagNone", unfollowed := true, recurses := true, apart := false }
def TagNoneSaid : Prop := tagNoneRow.holds Try.pinned (OpenSpec.ofChange tagNoneSpec)

/-- ITS FALSE NEIGHBOUR: 'it returns false'. Refute it at one input. -/
def tagNoneWrong : ChangeSpec := { name := "tagNone", fn := fun _ => fun
  | [d1, d2] => { results := [.lit (.bool false)], args := [d1, d2] }
  | _ => none }
def TagNoneWrongFalsely : Prop := tagNoneRow.holds Try.pinned (OpenSpec.ofChange tagNoneWrong)

/-- 'sacristylaw06.TagAdds': WHATEVER THE INPUT: true; the input reads as it did. -/
def tagAddsSpec : ChangeSpec := { name := "tagAdds", fn := fun _ => fun
  | [d1, d2, d3, d4] => { results := [.lit (.bool true)], args := [d1, d2, d3, d4] }
  | _ => none }
def tagAddsRow : OpenClaim := { program := "yteejcpbngnojkaa", sum := "1bf3cbdf3c767f1ca506a54c25f260ae349667e94ba3d5092cfa02ffd4b10e93", func := "sacristy/sacristylaw06.TagAdds", spec := "tagAdds", unfollowed := true, recurses := true, apart := false }
def TagAddsSaid : Prop := tagAddsRow.holds Try.pinned (OpenSpec.ofChange tagAddsSpec)

/-- ITS FALSE NEIGHBOUR: 'it returns false'. Refute it at one input. -/
def tagAddsWrong : ChangeSpec := { name := "tagAdds", fn := fun _ => fun
  | [d1, d2, d3, d4] => { results := [.lit (.bool false)], args := [d1, d2, d3, d4] }
  | _ => none }
def TagAddsWrongFalsely : Prop := tagAddsRow.holds Try.pinned (OpenSpec.ofChange tagAddsWrong)

/-- 'sacristylaw02.ModSums': WHATEVER THE INPUT: true; the input reads as it did. -/
def modSumsSpec : ChangeSpec := { name := "modSums", fn := fun _ => fun
  | [d1, d2, d3] => { results := [.lit (.bool true)], args := [d1, d2, d3] }
  | _ => none }
def modSumsRow : OpenClaim := { program := "yteejcpbngnojkaa", sum := "1bf3cbdf3c767f1ca506a54c25f260ae349667e94ba3d5092cfa02ffd4b10e93", func := "sacristy/sacristylaw02.ModSums", spec := "modSums", unfollowed := true, recurses := true, apart := false }
def ModSumsSaid : Prop := modSumsRow.holds Try.pinned (OpenSpec.ofChange modSumsSpec)

/-- ITS FALSE NEIGHBOUR: 'it returns false'. Refute it at one input. -/
def modSumsWrong : ChangeSpec := { name := "modSums", fn := fun _ => fun
  | [d1, d2, d3] => { results := [.lit (.bool false)], args := [d1, d2, d3] }
  | _ => none }
def ModSumsWrongFalsely : Prop := modSumsRow.holds Try.pinned (OpenSpec.ofChange modSumsWrong)

/-- 'sacristylaw08.CertSmalls': WHATEVER THE INPUT: true; the input reads as it did. -/
def certSmallsSpec : ChangeSpec := { name := "certSmalls", fn := fun _ => fun
  | [d] => { results := [.lit (.bool true)], args := [d] }
  | _ => none }
def certSmallsRow : OpenClaim := { program := "yteejcpbngnojkaa", sum := "1bf3cbdf3c767f1ca506a54c25f260ae349667e94ba3d5092cfa02ffd4b10e93", func := "sacristy/sacristylaw08.CertSmalls", spec := "certSmalls", unfollowed := true, recurses := true, apart := false }
def CertSmallsSaid : Prop := certSmallsRow.holds Try.pinned (OpenSpec.ofChange certSmallsSpec)

/-- ITS FALSE NEIGHBOUR: 'it returns false'. Refute it at one input. -/
def certSmallsWrong : ChangeSpec := { name := "certSmalls", fn := fun _ => fun
  | [d] => { results := [.lit (.bool false)], args := [d] }
  | _ => none }
def CertSmallsWrongFalsely : Prop := certSmallsRow.holds Try.pinned (OpenSpec.ofChange certSmallsWrong)

/-- 'sacristylaw08.CertFronts': WHATEVER THE INPUT: true; the input reads as it did. -/
def certFrontsSpec : ChangeSpec := { name := "certFronts", fn := fun _ => fun
  | [d1, d2, d3] => { results := [.lit (.bool true)], args := [d1, d2, d3] }
  | _ => none }
def certFrontsRow : OpenClaim := { program := "yteejcpbngnojkaa", sum := "1bf3cbdf3c767f1ca506a54c25f260ae349667e94ba3d5092cfa02ffd4b10e93", func := "sacristy/sacristylaw08.CertFronts", spec := "certFronts", unfollowed := true, recurses := true, apart := false }
def CertFrontsSaid : Prop := certFrontsRow.holds Try.pinned (OpenSpec.ofChange certFrontsSpec)

/-- ITS FALSE NEIGHBOUR: 'it returns false'. Refute it at one input. -/
def certFrontsWrong : ChangeSpec := { name := "certFronts", fn := fun _ => fun
  | [d1, d2, d3] => { results := [.lit (.bool false)], args := [d1, d2, d3] }
  | _ => none }
def CertFrontsWrongFalsely : Prop := certFrontsRow.holds Try.pinned (OpenSpec.ofChange certFrontsWrong)

/-- 'sacristylaw08.CertChecks': WHATEVER THE INPUT: true; the input reads as it did. -/
def certChecksSpec : ChangeSpec := { name := "certChecks", fn := fun _ => fun
  | [d1, d2] => { results := [.lit (.bool true)], args := [d1, d2] }
  | _ => none }
def certChecksRow : OpenClaim := { program := "yteejcpbngnojkaa", sum := "1bf3cbdf3c767f1ca506a54c25f260ae349667e94ba3d5092cfa02ffd4b10e93", func := "sacristy/sacristylaw08.CertChecks", spec := "certChecks", unfollowed := true, recurses := true, apart := false }
def CertChecksSaid : Prop := certChecksRow.holds Try.pinned (OpenSpec.ofChange certChecksSpec)

/-- ITS FALSE NEIGHBOUR: 'it returns false'. Refute it at one input. -/
def certChecksWrong : ChangeSpec := { name := "certChecks", fn := fun _ => fun
  | [d1, d2] => { results := [.lit (.bool false)], args := [d1, d2] }
  | _ => none }
def CertChecksWrongFalsely : Prop := certChecksRow.holds Try.pinned (OpenSpec.ofChange certChecksWrong)

/-- 'sacristylaw08.CertPrimes': WHATEVER THE INPUT: true; the input reads as it did. -/
def certPrimesSpec : ChangeSpec := { name := "certPrimes", fn := fun _ => fun
  | [d1, d2] => { results := [.lit (.bool true)], args := [d1, d2] }
  | _ => none }
def certPrimesRow : OpenClaim := { program := "yteejcpbngnojkaa", sum := "1bf3cbdf3c767f1ca506a54c25f260ae349667e94ba3d5092cfa02ffd4b10e93", func := "sacristy/sacristylaw08.CertPrimes", spec := "certPrimes", unfollowed := true, recurses := true, apart := false }
def CertPrimesSaid : Prop := certPrimesRow.holds Try.pinned (OpenSpec.ofChange certPrimesSpec)

/-- ITS FALSE NEIGHBOUR: 'it returns false'. Refute it at one input. -/
def certPrimesWrong : ChangeSpec := { name := "certPrimes", fn := fun _ => fun
  | [d1, d2] => { results := [.lit (.bool false)], args := [d1, d2] }
  | _ => none }
def CertPrimesWrongFalsely : Prop := certPrimesRow.holds Try.pinned (OpenSpec.ofChange certPrimesWrong)

/-- 'sacristylaw07.BoxSeals': WHATEVER THE INPUT: true; the input reads as it did. -/
def boxSealsSpec : ChangeSpec := { name := "boxSeals", fn := fun _ => fun
  | [d1, d2, d3, d4] => { results := [.lit (.bool true)], args := [d1, d2, d3, d4] }
  | _ => none }
def boxSealsRow : OpenClaim := { program := "yteejcpbngnojkaa", sum := "1bf3cbdf3c767f1ca506a54c25f260ae349667e94ba3d5092cfa02ffd4b10e93", func := "sacristy/sacristylaw07.BoxSeals", spec := "boxSeals", unfollowed := true, recurses := true, apart := false }
def BoxSealsSaid : Prop := boxSealsRow.holds Try.pinned (OpenSpec.ofChange boxSealsSpec)

/-- ITS FALSE NEIGHBOUR: 'it returns false'. Refute it at one input. -/
def boxSealsWrong : ChangeSpec := { name := "boxSeals", fn := fun _ => fun
  | [d1, d2, d3, d4] => { results := [.lit (.bool false)], args := [d1, d2, d3, d4] }
  | _ => none }
def BoxSealsWrongFalsely : Prop := boxSealsRow.holds Try.pinned (OpenSpec.ofChange boxSealsWrong)

/-- 'sacristylaw07.BoxOpens': WHATEVER THE INPUT: true; the input reads as it did. -/
def boxOpensSpec : ChangeSpec := { name := "boxOpens", fn := fun _ => fun
  | [d1, d2, d3, d4] => { results := [.lit (.bool true)], args := [d1, d2, d3, d4] }
  | _ => none }
def boxOpensRow : OpenClaim := { program := "yteejcpbngnojkaa", sum := "1bf3cbdf3c767f1ca506a54c25f260ae349667e94ba3d5092cfa02ffd4b10e93", func := "sacristy/sacristylaw07.BoxOpens", spec := "boxOpens", unfollowed := true, recurses := true, apart := false }
def BoxOpensSaid : Prop := boxOpensRow.holds Try.pinned (OpenSpec.ofChange boxOpensSpec)

/-- ITS FALSE NEIGHBOUR: 'it returns false'. Refute it at one input. -/
def boxOpensWrong : ChangeSpec := { name := "boxOpens", fn := fun _ => fun
  | [d1, d2, d3, d4] => { results := [.lit (.bool false)], args := [d1, d2, d3, d4] }
  | _ => none }
def BoxOpensWrongFalsely : Prop := boxOpensRow.holds Try.pinned (OpenSpec.ofChange boxOpensWrong)

/- THE SECOND FORM. 'bulk': how many values and letters a reading holds, each counted each time it is reached (what is shared counts as often as it is met; a slice's spare places count too). A statement '..UptoSaid' is the law's where the arguments, and the package variables that the reading takes, are together of bulk at most 1048576: NARROWER than '..Said'. Prove '..Said' where nothing that the law and all that it calls make is longer than what came in: it says more and counts as full. Else prove '..UptoSaid'. A law counts once. -/
mutual
def uptoBulk {H : Type} : DataW H → Nat
  | .lit (.string bytes) => bytes.length + 1
  | .lit _ => 1
  | .nil => 1
  | .ptr d => uptoBulk d + 1
  | .slice elems spare => uptoBulkAll elems + uptoBulkAll spare + 1
  | .agg parts => uptoBulkAll parts + 1
  | .iface _ d => uptoBulk d + 1
  | .map entries => uptoBulkEntries entries + 1
  | .held _ => 1
def uptoBulkAll {H : Type} : List (DataW H) → Nat
  | [] => 0
  | d :: r => uptoBulk d + uptoBulkAll r
def uptoBulkEntries {H : Type} : List (Lit × DataW H) → Nat
  | [] => 0
  | x :: r => uptoBulkEntry x + uptoBulkEntries r
def uptoBulkEntry {H : Type} : Lit × DataW H → Nat
  | (.string bytes, d) => bytes.length + uptoBulk d + 1
  | (_, d) => uptoBulk d + 1
 end
def uptoSmall : (H : Type) → List (DataW H) → Bool := fun _ ds => decide (uptoBulkAll ds ≤ 1048576)
def OpenSpec.upto (s : _root_.Go.ChangeSpec) : _root_.Go.OpenSpec := { _root_.Go.OpenSpec.ofChange s with cond := some uptoSmall }

/-- 'sacristylaw05.StreamBlocks', WHERE WHAT IT READS IS OF BULK AT MOST 1048576: true; the input reads as it did. -/
def streamBlocksUptoRow : OpenClaim := { program := "yteejcpbngnojkaa", sum := "1bf3cbdf3c767f1ca506a54c25f260ae349667e94ba3d5092cfa02ffd4b10e93", func := "sacristy/sacristylaw05.StreamBlocks", spec := "streamBlocks", apart := false, narrowed := true }
def StreamBlocksUptoSaid : Prop := streamBlocksUptoRow.holds Try.pinned (OpenSpec.upto streamBlocksSpec)

/-- 'sacristylaw05.StreamXors', WHERE WHAT IT READS IS OF BULK AT MOST 1048576: true; the input reads as it did. -/
def streamXorsUptoRow : OpenClaim := { program := "yteejcpbngnojkaa", sum := "1bf3cbdf3c767f1ca506a54c25f260ae349667e94ba3d5092cfa02ffd4b10e93", func := "sacristy/sacristylaw05.StreamXors", spec := "streamXors", apart := false, narrowed := true }
def StreamXorsUptoSaid : Prop := streamXorsUptoRow.holds Try.pinned (OpenSpec.upto streamXorsSpec)

/-- 'sacristylaw05.StreamBack', WHERE WHAT IT READS IS OF BULK AT MOST 1048576: true; the input reads as it did. -/
def streamBackUptoRow : OpenClaim := { program := "yteejcpbngnojkaa", sum := "1bf3cbdf3c767f1ca506a54c25f260ae349667e94ba3d5092cfa02ffd4b10e93", func := "sacristy/sacristylaw05.StreamBack", spec := "streamBack", apart := false, narrowed := true }
def StreamBackUptoSaid : Prop := streamBackUptoRow.holds Try.pinned (OpenSpec.upto streamBackSpec)

/-- 'sacristylaw05.StreamParts', WHERE WHAT IT READS IS OF BULK AT MOST 1048576: true; the input reads as it did. -/
def streamPartsUptoRow : OpenClaim := { program := "yteejcpbngnojkaa", sum := "1bf3cbdf3c767f1ca506a54c25f260ae349667e94ba3d5092cfa02ffd4b10e93", func := "sacristy/sacristylaw05.StreamParts", spec := "streamParts", apart := false, narrowed := true }
def StreamPartsUptoSaid : Prop := streamPartsUptoRow.holds Try.pinned (OpenSpec.upto streamPartsSpec)

/-- 'sacristylaw01.NatBytes', WHERE WHAT IT READS IS OF BULK AT MOST 1048576: true; the input reads as it did. -/
def natBytesUptoRow : OpenClaim := { program := "yteejcpbngnojkaa", sum := "1bf3cbdf3c767f1ca506a54c25f260ae349667e94ba3d5092cfa02ffd4b10e93", func := "sacristy/sacristylaw01.NatBytes", spec := "natBytes", unfollowed := true, recurses := true, apart := false, narrowed := true }
def NatBytesUptoSaid : Prop := natBytesUptoRow.holds Try.pinned (OpenSpec.upto natBytesSpec)

/-- 'sacristylaw01.NatBits', WHERE WHAT IT READS IS OF BULK AT MOST 1048576: true; the input reads as it did. -/
def natBitsUptoRow : OpenClaim := { program := "yteejcpbngnojkaa", sum := "1bf3cbdf3c767f1ca506a54c25f260ae349667e94ba3d5092cfa02ffd4b10e93", func := "sacristy/sacristylaw01.NatBits", spec := "natBits", unfollowed := true, recurses := true, apart := false, narrowed := true }
def NatBitsUptoSaid : Prop := natBitsUptoRow.holds Try.pinned (OpenSpec.upto natBitsSpec)

/-- 'sacristylaw07.BoxBack', WHERE WHAT IT READS IS OF BULK AT MOST 1048576: true; the input reads as it did. -/
def boxBackUptoRow : OpenClaim := { program := "yteejcpbngnojkaa", sum := "1bf3cbdf3c767f1ca506a54c25f260ae349667e94ba3d5092cfa02ffd4b10e93", func := "sacristy/sacristylaw07.BoxBack", spec := "boxBack", unfollowed := true, recurses := true, apart := false, narrowed := true }
def BoxBackUptoSaid : Prop := boxBackUptoRow.holds Try.pinned (OpenSpec.upto boxBackSpec)

/-- 'sacristylaw01.NatGcds', WHERE WHAT IT READS IS OF BULK AT MOST 1048576: true; the input reads as it did. -/
def natGcdsUptoRow : OpenClaim := { program := "yteejcpbngnojkaa", sum := "1bf3cbdf3c767f1ca506a54c25f260ae349667e94ba3d5092cfa02ffd4b10e93", func := "sacristy/sacristylaw01.NatGcds", spec := "natGcds", unfollowed := true, recurses := true, apart := false, narrowed := true }
def NatGcdsUptoSaid : Prop := natGcdsUptoRow.holds Try.pinned (OpenSpec.upto natGcdsSpec)

/-- 'sacristylaw01.NatSmall', WHERE WHAT IT READS IS OF BULK AT MOST 1048576: true; the input reads as it did. -/
def natSmallUptoRow : OpenClaim := { program := "yteejcpbngnojkaa", sum := "1bf3cbdf3c767f1ca506a54c25f260ae349667e94ba3d5092cfa02ffd4b10e93", func := "sacristy/sacristylaw01.NatSmall", spec := "natSmall", unfollowed := true, recurses := true, apart := false, narrowed := true }
def NatSmallUptoSaid : Prop := natSmallUptoRow.holds Try.pinned (OpenSpec.upto natSmallSpec)

/-- 'sacristylaw07.BoxShort', WHERE WHAT IT READS IS OF BULK AT MOST 1048576: true; the input reads as it did. -/
def boxShortUptoRow : OpenClaim := { program := "yteejcpbngnojkaa", sum := "1bf3cbdf3c767f1ca506a54c25f260ae349667e94ba3d5092cfa02ffd4b10e93", func := "sacristy/sacristylaw07.BoxShort", spec := "boxShort", unfollowed := true, recurses := true, apart := false, narrowed := true }
def BoxShortUptoSaid : Prop := boxShortUptoRow.holds Try.pinned (OpenSpec.upto boxShortSpec)

/-- 'sacristylaw01.NatProducts', WHERE WHAT IT READS IS OF BULK AT MOST 1048576: true; the input reads as it did. -/
def natProductsUptoRow : OpenClaim := { program := "yteejcpbngnojkaa", sum := "1bf3cbdf3c767f1ca506a54c25f260ae349667e94ba3d5092cfa02ffd4b10e93", func := "sacristy/sacristylaw01.NatProducts", spec := "natProducts", unfollowed := true, recurses := true, apart := false, narrowed := true }
def NatProductsUptoSaid : Prop := natProductsUptoRow.holds Try.pinned (OpenSpec.upto natProductsSpec)

/-- 'sacristylaw01.NatBack', WHERE WHAT IT READS IS OF BULK AT MOST 1048576: true; the input reads as it did. -/
def natBackUptoRow : OpenClaim := { program := "yteejcpbngnojkaa", sum := "1bf3cbdf3c767f1ca506a54c25f260ae349667e94ba3d5092cfa02ffd4b10e93", func := "sacristy/sacristylaw01.NatBack", spec := "natBack", unfollowed := true, recurses := true, apart := false, narrowed := true }
def NatBackUptoSaid : Prop := natBackUptoRow.holds Try.pinned (OpenSpec.upto natBackSpec)

/-- 'sacristylaw01.NatOrders', WHERE WHAT IT READS IS OF BULK AT MOST 1048576: true; the input reads as it did. -/
def natOrdersUptoRow : OpenClaim := { program := "yteejcpbngnojkaa", sum := "1bf3cbdf3c767f1ca506a54c25f260ae349667e94ba3d5092cfa02ffd4b10e93", func := "sacristy/sacristylaw01.NatOrders", spec := "natOrders", unfollowed := true, recurses := true, apart := false, narrowed := true }
def NatOrdersUptoSaid : Prop := natOrdersUptoRow.holds Try.pinned (OpenSpec.upto natOrdersSpec)

/-- 'sacristylaw01.NatSums', WHERE WHAT IT READS IS OF BULK AT MOST 1048576: true; the input reads as it did. -/
def natSumsUptoRow : OpenClaim := { program := "yteejcpbngnojkaa", sum := "1bf3cbdf3c767f1ca506a54c25f260ae349667e94ba3d5092cfa02ffd4b10e93", func := "sacristy/sacristylaw01.NatSums", spec := "natSums", unfollowed := true, recurses := true, apart := false, narrowed := true }
def NatSumsUptoSaid : Prop := natSumsUptoRow.holds Try.pinned (OpenSpec.upto natSumsSpec)

/-- 'sacristylaw01.NatRules', WHERE WHAT IT READS IS OF BULK AT MOST 1048576: true; the input reads as it did. -/
def natRulesUptoRow : OpenClaim := { program := "yteejcpbngnojkaa", sum := "1bf3cbdf3c767f1ca506a54c25f260ae349667e94ba3d5092cfa02ffd4b10e93", func := "sacristy/sacristylaw01.NatRules", spec := "natRules", unfollowed := true, recurses := true, apart := false, narrowed := true }
def NatRulesUptoSaid : Prop := natRulesUptoRow.holds Try.pinned (OpenSpec.upto natRulesSpec)

/-- 'sacristylaw06.TagTags', WHERE WHAT IT READS IS OF BULK AT MOST 1048576: true; the input reads as it did. -/
def tagTagsUptoRow : OpenClaim := { program := "yteejcpbngnojkaa", sum := "1bf3cbdf3c767f1ca506a54c25f260ae349667e94ba3d5092cfa02ffd4b10e93", func := "sacristy/sacristylaw06.TagTags", spec := "tagTags", unfollowed := true, recurses := true, apart := false, narrowed := true }
def TagTagsUptoSaid : Prop := tagTagsUptoRow.holds Try.pinned (OpenSpec.upto tagTagsSpec)

/-- 'sacristylaw06.TagNone', WHERE WHAT IT READS IS OF BULK AT MOST 1048576: true; the input reads as it did. -/
def tagNoneUptoRow : OpenClaim := { program := "yteejcpbngnojkaa", sum := "1bf3cbdf3c767f1ca506a54c25f260ae349667e94ba3d5092cfa02ffd4b10e93", func := "sacristy/sacristylaw06.TagNone", spec := "tagNone", unfollowed := true, recurses := true, apart := false, narrowed := true }
def TagNoneUptoSaid : Prop := tagNoneUptoRow.holds Try.pinned (OpenSpec.upto tagNoneSpec)

/-- 'sacristylaw06.TagAdds', WHERE WHAT IT READS IS OF BULK AT MOST 1048576: true; the input reads as it did. -/
def tagAddsUptoRow : OpenClaim := { program := "yteejcpbngnojkaa", sum := "1bf3cbdf3c767f1ca506a54c25f260ae349667e94ba3d5092cfa02ffd4b10e93", func := "sacristy/sacristylaw06.TagAdds", spec := "tagAdds", unfollowed := true, recurses := true, apart := false, narrowed := true }
def TagAddsUptoSaid : Prop := tagAddsUptoRow.holds Try.pinned (OpenSpec.upto tagAddsSpec)

/-- 'sacristylaw02.ModSums', WHERE WHAT IT READS IS OF BULK AT MOST 1048576: true; the input reads as it did. -/
def modSumsUptoRow : OpenClaim := { program := "yteejcpbngnojkaa", sum := "1bf3cbdf3c767f1ca506a54c25f260ae349667e94ba3d5092cfa02ffd4b10e93", func := "sacristy/sacristylaw02.ModSums", spec := "modSums", unfollowed := true, recurses := true, apart := false, narrowed := true }
def ModSumsUptoSaid : Prop := modSumsUptoRow.holds Try.pinned (OpenSpec.upto modSumsSpec)

/-- 'sacristylaw08.CertSmalls', WHERE WHAT IT READS IS OF BULK AT MOST 1048576: true; the input reads as it did. -/
def certSmallsUptoRow : OpenClaim := { program := "yteejcpbngnojkaa", sum := "1bf3cbdf3c767f1ca506a54c25f260ae349667e94ba3d5092cfa02ffd4b10e93", func := "sacristy/sacristylaw08.CertSmalls", spec := "certSmalls", unfollowed := true, recurses := true, apart := false, narrowed := true }
def CertSmallsUptoSaid : Prop := certSmallsUptoRow.holds Try.pinned (OpenSpec.upto certSmallsSpec)

/-- 'sacristylaw08.CertFronts', WHERE WHAT IT READS IS OF BULK AT MOST 1048576: true; the input reads as it did. -/
def certFrontsUptoRow : OpenClaim := { program := "yteejcpbngnojkaa", sum := "1bf3cbdf3c767f1ca506a54c25f260ae349667e94ba3d5092cfa02ffd4b10e93", func := "sacristy/sacristylaw08.CertFronts", spec := "certFronts", unfollowed := true, recurses := true, apart := false, narrowed := true }
def CertFrontsUptoSaid : Prop := certFrontsUptoRow.holds Try.pinned (OpenSpec.upto certFrontsSpec)

/-- 'sacristylaw08.CertChecks', WHERE WHAT IT READS IS OF BULK AT MOST 1048576: true; the input reads as it did. -/
def certChecksUptoRow : OpenClaim := { program := "yteejcpbngnojkaa", sum := "1bf3cbdf3c767f1ca506a54c25f260ae349667e94ba3d5092cfa02ffd4b10e93", func := "sacristy/sacristylaw08.CertChecks", spec := "certChecks", unfollowed := true, recurses := true, apart := false, narrowed := true }
def CertChecksUptoSaid : Prop := certChecksUptoRow.holds Try.pinned (OpenSpec.upto certChecksSpec)

/-- 'sacristylaw08.CertPrimes', WHERE WHAT IT READS IS OF BULK AT MOST 1048576: true; the input reads as it did. -/
def certPrimesUptoRow : OpenClaim := { program := "yteejcpbngnojkaa", sum := "1bf3cbdf3c767f1ca506a54c25f260ae349667e94ba3d5092cfa02ffd4b10e93", func := "sacristy/sacristylaw08.CertPrimes", spec := "certPrimes", unfollowed := true, recurses := true, apart := false, narrowed := true }
def CertPrimesUptoSaid : Prop := certPrimesUptoRow.holds Try.pinned (OpenSpec.upto certPrimesSpec)

/-- 'sacristylaw07.BoxSeals', WHERE WHAT IT READS IS OF BULK AT MOST 1048576: true; the input reads as it did. -/
def boxSealsUptoRow : OpenClaim := { program := "yteejcpbngnojkaa", sum := "1bf3cbdf3c767f1ca506a54c25f260ae349667e94ba3d5092cfa02ffd4b10e93", func := "sacristy/sacristylaw07.BoxSeals", spec := "boxSeals", unfollowed := true, recurses := true, apart := false, narrowed := true }
def BoxSealsUptoSaid : Prop := boxSealsUptoRow.holds Try.pinned (OpenSpec.upto boxSealsSpec)

/-- 'sacristylaw07.BoxOpens', WHERE WHAT IT READS IS OF BULK AT MOST 1048576: true; the input reads as it did. -/
def boxOpensUptoRow : OpenClaim := { program := "yteejcpbngnojkaa", sum := "1bf3cbdf3c767f1ca506a54c25f260ae349667e94ba3d5092cfa02ffd4b10e93", func := "sacristy/sacristylaw07.BoxOpens", spec := "boxOpens", unfollowed := true, recurses := true, apart := false, narrowed := true }
def BoxOpensUptoSaid : Prop := boxOpensUptoRow.holds Try.pinned (OpenSpec.upto boxOpensSpec)

end Rows
end Go.Proofs.Yteejcpbngnojkaa
