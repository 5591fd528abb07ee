/-
  NARROWER THAN 'FOR EVERY INPUT', by the rows' own cells (each row's printed sentence says how): ProofNil: laid · ProofMakes: laid · ProofNone: laid · ProofVerifies: laid · ProofGaps: laid · ProofCodes: laid · ProofGapCodes: laid · MultiMakes: laid · MultiSame: laid · MultiMany: laid · MultiNil: laid · MultiChecks: laid.
  DERIVED. THE GIVEN ROWS OF THIS SEAT. 12 by the template 'for every input the law returns true; each argument reads behind the call as it read before'; 0 by the template 'total and deterministic' (their statements: YtnicmjipbnhciaaDoorTotals.lean).
  GIVEN WITH THE SEED: the statements are not yours to turn. If you find one false, say at which input.
  Laid BY PROGRAM, IN A SANDBOX (cutbox-rows.mjs): the forced cells as the released guide's own fill.sh prints them over the translation c2e5ff1746ad0cd3… (all of the seat's roots in one cut). By AI agents, Wed Nov 11 2026. No macro, syntax, notation, axiom, sorry.
-/
import Derived.Test.YtnicmjipbnhciaaDoorChecked
import GoSem.Claim
import GoSem.ClaimJoined
import GoSem.ClaimMapViews
import Derived.JoinedTies
import Derived.KernelRfl
namespace Go.Proofs.YtnicmjipbnhciaaDoor
/- THE CELL 'sum', in the pinned program and in every row, IS THE sha256 OF THE DUMP (.gsa) THAT YtnicmjipbnhciaaDoorProg.lean LOADS. Nothing in Lean hashes anything: it is a label: what it is worth is what the hold of that sum in a sandbox is worth. -/
noncomputable def Tryd.pinned : Pinned := { name := "ytnicmjipbnhciaadoor", sum := "c2e5ff1746ad0cd3b8398f0fd9a8f9ddf0017f63198212f215b84c65eec0b859", checked := Tryd.checked }
namespace Rows
def none {H : Type} : Left H := { results := [], args := [] }

/- WHAT THE LISTED PACKAGE-LEVEL VARIABLES READ AS WHEN THE CALL BEGINS. Each datum BY PROGRAM (the guide's laid-datum.mjs) off the statement by which the dump's own 'gosem.cut.vars' lays the variable. In a bare row this is a premise. The card (YtnicmjipbnhciaaDoorCards.lean) ties it to the program's text. -/
def laid_ferryman_sha_words {H : Type} : DataW H := .agg [.lit (.int .u32 1116352408), .lit (.int .u32 1899447441), .lit (.int .u32 3049323471), .lit (.int .u32 3921009573), .lit (.int .u32 961987163), .lit (.int .u32 1508970993), .lit (.int .u32 2453635748), .lit (.int .u32 2870763221), .lit (.int .u32 3624381080), .lit (.int .u32 310598401), .lit (.int .u32 607225278), .lit (.int .u32 1426881987), .lit (.int .u32 1925078388), .lit (.int .u32 2162078206), .lit (.int .u32 2614888103), .lit (.int .u32 3248222580), .lit (.int .u32 3835390401), .lit (.int .u32 4022224774), .lit (.int .u32 264347078), .lit (.int .u32 604807628), .lit (.int .u32 770255983), .lit (.int .u32 1249150122), .lit (.int .u32 1555081692), .lit (.int .u32 1996064986), .lit (.int .u32 2554220882), .lit (.int .u32 2821834349), .lit (.int .u32 2952996808), .lit (.int .u32 3210313671), .lit (.int .u32 3336571891), .lit (.int .u32 3584528711), .lit (.int .u32 113926993), .lit (.int .u32 338241895), .lit (.int .u32 666307205), .lit (.int .u32 773529912), .lit (.int .u32 1294757372), .lit (.int .u32 1396182291), .lit (.int .u32 1695183700), .lit (.int .u32 1986661051), .lit (.int .u32 2177026350), .lit (.int .u32 2456956037), .lit (.int .u32 2730485921), .lit (.int .u32 2820302411), .lit (.int .u32 3259730800), .lit (.int .u32 3345764771), .lit (.int .u32 3516065817), .lit (.int .u32 3600352804), .lit (.int .u32 4094571909), .lit (.int .u32 275423344), .lit (.int .u32 430227734), .lit (.int .u32 506948616), .lit (.int .u32 659060556), .lit (.int .u32 883997877), .lit (.int .u32 958139571), .lit (.int .u32 1322822218), .lit (.int .u32 1537002063), .lit (.int .u32 1747873779), .lit (.int .u32 1955562222), .lit (.int .u32 2024104815), .lit (.int .u32 2227730452), .lit (.int .u32 2361852424), .lit (.int .u32 2428436474), .lit (.int .u32 2756734187), .lit (.int .u32 3204031479), .lit (.int .u32 3329325298)]
def laid_errors_errorType {H : Type} : DataW H := .iface "internal/reflectlite.rtype" (.agg [.ptr (.lit (.string [101, 114, 114, 111, 114]))])
def laid_ferryman_ferrymanref01_roots {H : Type} : DataW H := .agg [.lit (.int .u32 1116352408), .lit (.int .u32 1899447441), .lit (.int .u32 3049323471), .lit (.int .u32 3921009573), .lit (.int .u32 961987163), .lit (.int .u32 1508970993), .lit (.int .u32 2453635748), .lit (.int .u32 2870763221), .lit (.int .u32 3624381080), .lit (.int .u32 310598401), .lit (.int .u32 607225278), .lit (.int .u32 1426881987), .lit (.int .u32 1925078388), .lit (.int .u32 2162078206), .lit (.int .u32 2614888103), .lit (.int .u32 3248222580), .lit (.int .u32 3835390401), .lit (.int .u32 4022224774), .lit (.int .u32 264347078), .lit (.int .u32 604807628), .lit (.int .u32 770255983), .lit (.int .u32 1249150122), .lit (.int .u32 1555081692), .lit (.int .u32 1996064986), .lit (.int .u32 2554220882), .lit (.int .u32 2821834349), .lit (.int .u32 2952996808), .lit (.int .u32 3210313671), .lit (.int .u32 3336571891), .lit (.int .u32 3584528711), .lit (.int .u32 113926993), .lit (.int .u32 338241895), .lit (.int .u32 666307205), .lit (.int .u32 773529912), .lit (.int .u32 1294757372), .lit (.int .u32 1396182291), .lit (.int .u32 1695183700), .lit (.int .u32 1986661051), .lit (.int .u32 2177026350), .lit (.int .u32 2456956037), .lit (.int .u32 2730485921), .lit (.int .u32 2820302411), .lit (.int .u32 3259730800), .lit (.int .u32 3345764771), .lit (.int .u32 3516065817), .lit (.int .u32 3600352804), .lit (.int .u32 4094571909), .lit (.int .u32 275423344), .lit (.int .u32 430227734), .lit (.int .u32 506948616), .lit (.int .u32 659060556), .lit (.int .u32 883997877), .lit (.int .u32 958139571), .lit (.int .u32 1322822218), .lit (.int .u32 1537002063), .lit (.int .u32 1747873779), .lit (.int .u32 1955562222), .lit (.int .u32 2024104815), .lit (.int .u32 2227730452), .lit (.int .u32 2361852424), .lit (.int .u32 2428436474), .lit (.int .u32 2756734187), .lit (.int .u32 3204031479), .lit (.int .u32 3329325298)]

/-- 'ferrymanlaw09.ProofNil': WHATEVER THE INPUT: true; the input reads as it did. -/
def proofNilSpec : ChangeSpec := { name := "proofNil", fn := fun _ => fun
  | [d] => { results := [.lit (.bool true)], args := [d] }
  | _ => none }
def proofNilRow : OpenClaim := { program := "ytnicmjipbnhciaadoor", sum := "c2e5ff1746ad0cd3b8398f0fd9a8f9ddf0017f63198212f215b84c65eec0b859", func := "ferryman/ferrymanlaw09.ProofNil", spec := "proofNil", inPlace := ["internal/bytealg.Compare", "internal/reflectlite.ValueOf", "(internal/reflectlite.Value).Type", "(internal/reflectlite.Value).IsNil", "internal/reflectlite.TypeOf", "(internal/reflectlite.Value).Elem", "(internal/reflectlite.Value).Set"], unfollowed := true, recurses := true, named := ["ferryman/sha.words", "errors.errorType"], apart := false, laid := [("ferryman/sha.words", laid_ferryman_sha_words), ("errors.errorType", laid_errors_errorType)] }
def ProofNilSaid : Prop := proofNilRow.holds Tryd.pinned (OpenSpec.ofChange proofNilSpec)

/-- ITS FALSE NEIGHBOUR: 'it returns false'. Refute it at one input. -/
def proofNilWrong : ChangeSpec := { name := "proofNil", fn := fun _ => fun
  | [d] => { results := [.lit (.bool false)], args := [d] }
  | _ => none }
def ProofNilWrongFalsely : Prop := proofNilRow.holds Tryd.pinned (OpenSpec.ofChange proofNilWrong)

/-- 'ferrymanlaw09.ProofMakes': WHATEVER THE INPUT: true; the input reads as it did. -/
def proofMakesSpec : ChangeSpec := { name := "proofMakes", fn := fun _ => fun
  | [d1, d2] => { results := [.lit (.bool true)], args := [d1, d2] }
  | _ => none }
def proofMakesRow : OpenClaim := { program := "ytnicmjipbnhciaadoor", sum := "c2e5ff1746ad0cd3b8398f0fd9a8f9ddf0017f63198212f215b84c65eec0b859", func := "ferryman/ferrymanlaw09.ProofMakes", spec := "proofMakes", inPlace := ["internal/bytealg.Compare", "internal/reflectlite.ValueOf", "(internal/reflectlite.Value).Type", "(internal/reflectlite.Value).IsNil", "internal/reflectlite.TypeOf", "(internal/reflectlite.Value).Elem", "(internal/reflectlite.Value).Set"], unfollowed := true, recurses := true, named := ["ferryman/sha.words", "errors.errorType", "ferryman/ferrymanref01.roots"], apart := false, laid := [("ferryman/ferrymanref01.roots", laid_ferryman_ferrymanref01_roots), ("ferryman/sha.words", laid_ferryman_sha_words), ("errors.errorType", laid_errors_errorType)] }
def ProofMakesSaid : Prop := proofMakesRow.holds Tryd.pinned (OpenSpec.ofChange proofMakesSpec)

/-- ITS FALSE NEIGHBOUR: 'it returns false'. Refute it at one input. -/
def proofMakesWrong : ChangeSpec := { name := "proofMakes", fn := fun _ => fun
  | [d1, d2] => { results := [.lit (.bool false)], args := [d1, d2] }
  | _ => none }
def ProofMakesWrongFalsely : Prop := proofMakesRow.holds Tryd.pinned (OpenSpec.ofChange proofMakesWrong)

/-- 'ferrymanlaw09.ProofNone': WHATEVER THE INPUT: true; the input reads as it did. -/
def proofNoneSpec : ChangeSpec := { name := "proofNone", fn := fun _ => fun
  | [d1, d2] => { results := [.lit (.bool true)], args := [d1, d2] }
  | _ => none }
def proofNoneRow : OpenClaim := { program := "ytnicmjipbnhciaadoor", sum := "c2e5ff1746ad0cd3b8398f0fd9a8f9ddf0017f63198212f215b84c65eec0b859", func := "ferryman/ferrymanlaw09.ProofNone", spec := "proofNone", inPlace := ["internal/bytealg.Compare", "internal/reflectlite.ValueOf", "(internal/reflectlite.Value).Type", "(internal/reflectlite.Value).IsNil", "internal/reflectlite.TypeOf", "(internal/reflectlite.Value).Elem", "(internal/reflectlite.Value).Set"], unfollowed := true, recurses := true, named := ["ferryman/sha.words", "errors.errorType", "ferryman/ferrymanref01.roots"], apart := false, laid := [("ferryman/ferrymanref01.roots", laid_ferryman_ferrymanref01_roots), ("ferryman/sha.words", laid_ferryman_sha_words), ("errors.errorType", laid_errors_errorType)] }
def ProofNoneSaid : Prop := proofNoneRow.holds Tryd.pinned (OpenSpec.ofChange proofNoneSpec)

/-- ITS FALSE NEIGHBOUR: 'it returns false'. Refute it at one input. -/
def proofNoneWrong : ChangeSpec := { name := "proofNone", fn := fun _ => fun
  | [d1, d2] => { results := [.lit (.bool false)], args := [d1, d2] }
  | _ => none }
def ProofNoneWrongFalsely : Prop := proofNoneRow.holds Tryd.pinned (OpenSpec.ofChange proofNoneWrong)

/-- 'ferrymanlaw09.ProofVerifies': WHATEVER THE INPUT: true; the input reads as it did. -/
def proofVerifiesSpec : ChangeSpec := { name := "proofVerifies", fn := fun _ => fun
  | [d1, d2, d3, d4, d5, d6, d7, d8, d9] => { results := [.lit (.bool true)], args := [d1, d2, d3, d4, d5, d6, d7, d8, d9] }
  | _ => none }
def proofVerifiesRow : OpenClaim := { program := "ytnicmjipbnhciaadoor", sum := "c2e5ff1746ad0cd3b8398f0fd9a8f9ddf0017f63198212f215b84c65eec0b859", func := "ferryman/ferrymanlaw09.ProofVerifies", spec := "proofVerifies", inPlace := ["internal/bytealg.Compare", "internal/reflectlite.ValueOf", "(internal/reflectlite.Value).Type", "(internal/reflectlite.Value).IsNil", "internal/reflectlite.TypeOf", "(internal/reflectlite.Value).Elem", "(internal/reflectlite.Value).Set"], unfollowed := true, recurses := true, named := ["ferryman/sha.words", "errors.errorType", "ferryman/ferrymanref01.roots"], apart := false, laid := [("ferryman/ferrymanref01.roots", laid_ferryman_ferrymanref01_roots), ("ferryman/sha.words", laid_ferryman_sha_words), ("errors.errorType", laid_errors_errorType)] }
def ProofVerifiesSaid : Prop := proofVerifiesRow.holds Tryd.pinned (OpenSpec.ofChange proofVerifiesSpec)

/-- ITS FALSE NEIGHBOUR: 'it returns false'. Refute it at one input. -/
def proofVerifiesWrong : ChangeSpec := { name := "proofVerifies", fn := fun _ => fun
  | [d1, d2, d3, d4, d5, d6, d7, d8, d9] => { results := [.lit (.bool false)], args := [d1, d2, d3, d4, d5, d6, d7, d8, d9] }
  | _ => none }
def ProofVerifiesWrongFalsely : Prop := proofVerifiesRow.holds Tryd.pinned (OpenSpec.ofChange proofVerifiesWrong)

/-- 'ferrymanlaw09.ProofGaps': WHATEVER THE INPUT: true; the input reads as it did. -/
def proofGapsSpec : ChangeSpec := { name := "proofGaps", fn := fun _ => fun
  | [d1, d2, d3, d4, d5, d6, d7, d8, d9, d10] => { results := [.lit (.bool true)], args := [d1, d2, d3, d4, d5, d6, d7, d8, d9, d10] }
  | _ => none }
def proofGapsRow : OpenClaim := { program := "ytnicmjipbnhciaadoor", sum := "c2e5ff1746ad0cd3b8398f0fd9a8f9ddf0017f63198212f215b84c65eec0b859", func := "ferryman/ferrymanlaw09.ProofGaps", spec := "proofGaps", inPlace := ["internal/bytealg.Compare", "internal/reflectlite.ValueOf", "(internal/reflectlite.Value).Type", "(internal/reflectlite.Value).IsNil", "internal/reflectlite.TypeOf", "(internal/reflectlite.Value).Elem", "(internal/reflectlite.Value).Set"], unfollowed := true, recurses := true, named := ["ferryman/sha.words", "errors.errorType", "ferryman/ferrymanref01.roots"], apart := false, laid := [("ferryman/ferrymanref01.roots", laid_ferryman_ferrymanref01_roots), ("ferryman/sha.words", laid_ferryman_sha_words), ("errors.errorType", laid_errors_errorType)] }
def ProofGapsSaid : Prop := proofGapsRow.holds Tryd.pinned (OpenSpec.ofChange proofGapsSpec)

/-- ITS FALSE NEIGHBOUR: 'it returns false'. Refute it at one input. -/
def proofGapsWrong : ChangeSpec := { name := "proofGaps", fn := fun _ => fun
  | [d1, d2, d3, d4, d5, d6, d7, d8, d9, d10] => { results := [.lit (.bool false)], args := [d1, d2, d3, d4, d5, d6, d7, d8, d9, d10] }
  | _ => none }
def ProofGapsWrongFalsely : Prop := proofGapsRow.holds Tryd.pinned (OpenSpec.ofChange proofGapsWrong)

/-- 'ferrymanlaw09.ProofCodes': WHATEVER THE INPUT: true; the input reads as it did. -/
def proofCodesSpec : ChangeSpec := { name := "proofCodes", fn := fun _ => fun
  | [d1, d2, d3, d4, d5, d6] => { results := [.lit (.bool true)], args := [d1, d2, d3, d4, d5, d6] }
  | _ => none }
def proofCodesRow : OpenClaim := { program := "ytnicmjipbnhciaadoor", sum := "c2e5ff1746ad0cd3b8398f0fd9a8f9ddf0017f63198212f215b84c65eec0b859", func := "ferryman/ferrymanlaw09.ProofCodes", spec := "proofCodes", inPlace := ["internal/bytealg.Compare", "internal/reflectlite.ValueOf", "(internal/reflectlite.Value).Type", "(internal/reflectlite.Value).IsNil", "internal/reflectlite.TypeOf", "(internal/reflectlite.Value).Elem", "(internal/reflectlite.Value).Set"], unfollowed := true, recurses := true, named := ["ferryman/sha.words", "errors.errorType"], apart := false, laid := [("ferryman/sha.words", laid_ferryman_sha_words), ("errors.errorType", laid_errors_errorType)] }
def ProofCodesSaid : Prop := proofCodesRow.holds Tryd.pinned (OpenSpec.ofChange proofCodesSpec)

/-- ITS FALSE NEIGHBOUR: 'it returns false'. Refute it at one input. -/
def proofCodesWrong : ChangeSpec := { name := "proofCodes", fn := fun _ => fun
  | [d1, d2, d3, d4, d5, d6] => { results := [.lit (.bool false)], args := [d1, d2, d3, d4, d5, d6] }
  | _ => none }
def ProofCodesWrongFalsely : Prop := proofCodesRow.holds Tryd.pinned (OpenSpec.ofChange proofCodesWrong)

/-- 'ferrymanlaw09.ProofGapCodes': WHATEVER THE INPUT: true; the input reads as it did. -/
def proofGapCodesSpec : ChangeSpec := { name := "proofGapCodes", fn := fun _ => fun
  | [d1, d2, d3, d4, d5, d6] => { results := [.lit (.bool true)], args := [d1, d2, d3, d4, d5, d6] }
  | _ => none }
def proofGapCodesRow : OpenClaim := { program := "ytnicmjipbnhciaadoor", sum := "c2e5ff1746ad0cd3b8398f0fd9a8f9ddf0017f63198212f215b84c65eec0b859", func := "ferryman/ferrymanlaw09.ProofGapCodes", spec := "proofGapCodes", inPlace := ["internal/bytealg.Compare", "internal/reflectlite.ValueOf", "(internal/reflectlite.Value).Type", "(internal/reflectlite.Value).IsNil", "internal/reflectlite.TypeOf", "(internal/reflectlite.Value).Elem", "(internal/reflectlite.Value).Set"], unfollowed := true, recurses := true, named := ["ferryman/sha.words", "errors.errorType"], apart := false, laid := [("ferryman/sha.words", laid_ferryman_sha_words), ("errors.errorType", laid_errors_errorType)] }
def ProofGapCodesSaid : Prop := proofGapCodesRow.holds Tryd.pinned (OpenSpec.ofChange proofGapCodesSpec)

/-- ITS FALSE NEIGHBOUR: 'it returns false'. Refute it at one input. -/
def proofGapCodesWrong : ChangeSpec := { name := "proofGapCodes", fn := fun _ => fun
  | [d1, d2, d3, d4, d5, d6] => { results := [.lit (.bool false)], args := [d1, d2, d3, d4, d5, d6] }
  | _ => none }
def ProofGapCodesWrongFalsely : Prop := proofGapCodesRow.holds Tryd.pinned (OpenSpec.ofChange proofGapCodesWrong)

/-- 'ferrymanlaw10.MultiMakes': WHATEVER THE INPUT: true; the input reads as it did. -/
def multiMakesSpec : ChangeSpec := { name := "multiMakes", fn := fun _ => fun
  | [d1, d2, d3] => { results := [.lit (.bool true)], args := [d1, d2, d3] }
  | _ => none }
def multiMakesRow : OpenClaim := { program := "ytnicmjipbnhciaadoor", sum := "c2e5ff1746ad0cd3b8398f0fd9a8f9ddf0017f63198212f215b84c65eec0b859", func := "ferryman/ferrymanlaw10.MultiMakes", spec := "multiMakes", inPlace := ["internal/bytealg.Compare"], unfollowed := true, recurses := true, named := ["ferryman/sha.words", "ferryman/ferrymanref01.roots"], apart := false, laid := [("ferryman/ferrymanref01.roots", laid_ferryman_ferrymanref01_roots), ("ferryman/sha.words", laid_ferryman_sha_words)] }
def MultiMakesSaid : Prop := multiMakesRow.holds Tryd.pinned (OpenSpec.ofChange multiMakesSpec)

/-- ITS FALSE NEIGHBOUR: 'it returns false'. Refute it at one input. -/
def multiMakesWrong : ChangeSpec := { name := "multiMakes", fn := fun _ => fun
  | [d1, d2, d3] => { results := [.lit (.bool false)], args := [d1, d2, d3] }
  | _ => none }
def MultiMakesWrongFalsely : Prop := multiMakesRow.holds Tryd.pinned (OpenSpec.ofChange multiMakesWrong)

/-- 'ferrymanlaw10.MultiSame': WHATEVER THE INPUT: true; the input reads as it did. -/
def multiSameSpec : ChangeSpec := { name := "multiSame", fn := fun _ => fun
  | [d1, d2, d3, d4] => { results := [.lit (.bool true)], args := [d1, d2, d3, d4] }
  | _ => none }
def multiSameRow : OpenClaim := { program := "ytnicmjipbnhciaadoor", sum := "c2e5ff1746ad0cd3b8398f0fd9a8f9ddf0017f63198212f215b84c65eec0b859", func := "ferryman/ferrymanlaw10.MultiSame", spec := "multiSame", inPlace := ["internal/bytealg.Compare"], unfollowed := true, recurses := true, named := ["ferryman/sha.words"], apart := false, laid := [("ferryman/sha.words", laid_ferryman_sha_words)] }
def MultiSameSaid : Prop := multiSameRow.holds Tryd.pinned (OpenSpec.ofChange multiSameSpec)

/-- ITS FALSE NEIGHBOUR: 'it returns false'. Refute it at one input. -/
def multiSameWrong : ChangeSpec := { name := "multiSame", fn := fun _ => fun
  | [d1, d2, d3, d4] => { results := [.lit (.bool false)], args := [d1, d2, d3, d4] }
  | _ => none }
def MultiSameWrongFalsely : Prop := multiSameRow.holds Tryd.pinned (OpenSpec.ofChange multiSameWrong)

/-- 'ferrymanlaw10.MultiMany': WHATEVER THE INPUT: true; the input reads as it did. -/
def multiManySpec : ChangeSpec := { name := "multiMany", fn := fun _ => fun
  | [d1, d2] => { results := [.lit (.bool true)], args := [d1, d2] }
  | _ => none }
def multiManyRow : OpenClaim := { program := "ytnicmjipbnhciaadoor", sum := "c2e5ff1746ad0cd3b8398f0fd9a8f9ddf0017f63198212f215b84c65eec0b859", func := "ferryman/ferrymanlaw10.MultiMany", spec := "multiMany", inPlace := ["internal/bytealg.Compare"], unfollowed := true, recurses := true, named := ["ferryman/sha.words"], apart := false, laid := [("ferryman/sha.words", laid_ferryman_sha_words)] }
def MultiManySaid : Prop := multiManyRow.holds Tryd.pinned (OpenSpec.ofChange multiManySpec)

/-- ITS FALSE NEIGHBOUR: 'it returns false'. Refute it at one input. -/
def multiManyWrong : ChangeSpec := { name := "multiMany", fn := fun _ => fun
  | [d1, d2] => { results := [.lit (.bool false)], args := [d1, d2] }
  | _ => none }
def MultiManyWrongFalsely : Prop := multiManyRow.holds Tryd.pinned (OpenSpec.ofChange multiManyWrong)

/-- 'ferrymanlaw10.MultiNil': WHATEVER THE INPUT: true; the input reads as it did. -/
def multiNilSpec : ChangeSpec := { name := "multiNil", fn := fun _ => fun
  | [d1, d2] => { results := [.lit (.bool true)], args := [d1, d2] }
  | _ => none }
def multiNilRow : OpenClaim := { program := "ytnicmjipbnhciaadoor", sum := "c2e5ff1746ad0cd3b8398f0fd9a8f9ddf0017f63198212f215b84c65eec0b859", func := "ferryman/ferrymanlaw10.MultiNil", spec := "multiNil", inPlace := ["internal/bytealg.Compare", "internal/reflectlite.ValueOf", "(internal/reflectlite.Value).Type", "(internal/reflectlite.Value).IsNil", "internal/reflectlite.TypeOf", "(internal/reflectlite.Value).Elem", "(internal/reflectlite.Value).Set"], unfollowed := true, recurses := true, named := ["ferryman/sha.words", "errors.errorType"], apart := false, laid := [("ferryman/sha.words", laid_ferryman_sha_words), ("errors.errorType", laid_errors_errorType)] }
def MultiNilSaid : Prop := multiNilRow.holds Tryd.pinned (OpenSpec.ofChange multiNilSpec)

/-- ITS FALSE NEIGHBOUR: 'it returns false'. Refute it at one input. -/
def multiNilWrong : ChangeSpec := { name := "multiNil", fn := fun _ => fun
  | [d1, d2] => { results := [.lit (.bool false)], args := [d1, d2] }
  | _ => none }
def MultiNilWrongFalsely : Prop := multiNilRow.holds Tryd.pinned (OpenSpec.ofChange multiNilWrong)

/-- 'ferrymanlaw10.MultiChecks': WHATEVER THE INPUT: true; the input reads as it did. -/
def multiChecksSpec : ChangeSpec := { name := "multiChecks", fn := fun _ => fun
  | [d1, d2, d3, d4, d5, d6, d7, d8, d9, d10] => { results := [.lit (.bool true)], args := [d1, d2, d3, d4, d5, d6, d7, d8, d9, d10] }
  | _ => none }
def multiChecksRow : OpenClaim := { program := "ytnicmjipbnhciaadoor", sum := "c2e5ff1746ad0cd3b8398f0fd9a8f9ddf0017f63198212f215b84c65eec0b859", func := "ferryman/ferrymanlaw10.MultiChecks", spec := "multiChecks", inPlace := ["internal/bytealg.Compare", "internal/reflectlite.ValueOf", "(internal/reflectlite.Value).Type", "(internal/reflectlite.Value).IsNil", "internal/reflectlite.TypeOf", "(internal/reflectlite.Value).Elem", "(internal/reflectlite.Value).Set"], unfollowed := true, recurses := true, named := ["ferryman/sha.words", "ferryman/ferrymanref01.roots", "errors.errorType"], apart := false, laid := [("ferryman/ferrymanref01.roots", laid_ferryman_ferrymanref01_roots), ("ferryman/sha.words", laid_ferryman_sha_words), ("errors.errorType", laid_errors_errorType)] }
def MultiChecksSaid : Prop := multiChecksRow.holds Tryd.pinned (OpenSpec.ofChange multiChecksSpec)

/-- ITS FALSE NEIGHBOUR: 'it returns false'. Refute it at one input. -/
def multiChecksWrong : ChangeSpec := { name := "multiChecks", fn := fun _ => fun
  | [d1, d2, d3, d4, d5, d6, d7, d8, d9, d10] => { results := [.lit (.bool false)], args := [d1, d2, d3, d4, d5, d6, d7, d8, d9, d10] }
  | _ => none }
def MultiChecksWrongFalsely : Prop := multiChecksRow.holds Tryd.pinned (OpenSpec.ofChange multiChecksWrong)

/- THE SECOND FORM. 'bulk': how many values and letters a reading holds, each counted each time it is reached (what is shared counts as often as it is met; a slice's spare places count too). A statement '..UptoSaid' is the law's where the arguments, and the package variables that the reading takes, are together of bulk at most 1048576: NARROWER than '..Said'. Prove '..Said' where nothing that the law and all that it calls make is longer than what came in: it says more and counts as full. Else prove '..UptoSaid'. A law counts once. -/
mutual
def uptoBulk {H : Type} : DataW H → Nat
  | .lit (.string bytes) => bytes.length + 1
  | .lit _ => 1
  | .nil => 1
  | .ptr d => uptoBulk d + 1
  | .slice elems spare => uptoBulkAll elems + uptoBulkAll spare + 1
  | .agg parts => uptoBulkAll parts + 1
  | .iface _ d => uptoBulk d + 1
  | .map entries => uptoBulkEntries entries + 1
  | .held _ => 1
def uptoBulkAll {H : Type} : List (DataW H) → Nat
  | [] => 0
  | d :: r => uptoBulk d + uptoBulkAll r
def uptoBulkEntries {H : Type} : List (Lit × DataW H) → Nat
  | [] => 0
  | x :: r => uptoBulkEntry x + uptoBulkEntries r
def uptoBulkEntry {H : Type} : Lit × DataW H → Nat
  | (.string bytes, d) => bytes.length + uptoBulk d + 1
  | (_, d) => uptoBulk d + 1
 end
def uptoSmall : (H : Type) → List (DataW H) → Bool := fun _ ds => decide (uptoBulkAll ds ≤ 1048576)
def OpenSpec.upto (s : _root_.Go.ChangeSpec) : _root_.Go.OpenSpec := { _root_.Go.OpenSpec.ofChange s with cond := some uptoSmall }

/-- 'ferrymanlaw09.ProofNil', WHERE WHAT IT READS IS OF BULK AT MOST 1048576: true; the input reads as it did. -/
def proofNilUptoRow : OpenClaim := { program := "ytnicmjipbnhciaadoor", sum := "c2e5ff1746ad0cd3b8398f0fd9a8f9ddf0017f63198212f215b84c65eec0b859", func := "ferryman/ferrymanlaw09.ProofNil", spec := "proofNil", inPlace := ["internal/bytealg.Compare", "internal/reflectlite.ValueOf", "(internal/reflectlite.Value).Type", "(internal/reflectlite.Value).IsNil", "internal/reflectlite.TypeOf", "(internal/reflectlite.Value).Elem", "(internal/reflectlite.Value).Set"], unfollowed := true, recurses := true, named := ["ferryman/sha.words", "errors.errorType"], apart := false, laid := [("ferryman/sha.words", laid_ferryman_sha_words), ("errors.errorType", laid_errors_errorType)], narrowed := true }
def ProofNilUptoSaid : Prop := proofNilUptoRow.holds Tryd.pinned (OpenSpec.upto proofNilSpec)

/-- 'ferrymanlaw09.ProofMakes', WHERE WHAT IT READS IS OF BULK AT MOST 1048576: true; the input reads as it did. -/
def proofMakesUptoRow : OpenClaim := { program := "ytnicmjipbnhciaadoor", sum := "c2e5ff1746ad0cd3b8398f0fd9a8f9ddf0017f63198212f215b84c65eec0b859", func := "ferryman/ferrymanlaw09.ProofMakes", spec := "proofMakes", inPlace := ["internal/bytealg.Compare", "internal/reflectlite.ValueOf", "(internal/reflectlite.Value).Type", "(internal/reflectlite.Value).IsNil", "internal/reflectlite.TypeOf", "(internal/reflectlite.Value).Elem", "(internal/reflectlite.Value).Set"], unfollowed := true, recurses := true, named := ["ferryman/sha.words", "errors.errorType", "ferryman/ferrymanref01.roots"], apart := false, laid := [("ferryman/ferrymanref01.roots", laid_ferryman_ferrymanref01_roots), ("ferryman/sha.words", laid_ferryman_sha_words), ("errors.errorType", laid_errors_errorType)], narrowed := true }
def ProofMakesUptoSaid : Prop := proofMakesUptoRow.holds Tryd.pinned (OpenSpec.upto proofMakesSpec)

/-- 'ferrymanlaw09.ProofNone', WHERE WHAT IT READS IS OF BULK AT MOST 1048576: true; the input reads as it did. -/
def proofNoneUptoRow : OpenClaim := { program := "ytnicmjipbnhciaadoor", sum := "c2e5ff1746ad0cd3b8398f0fd9a8f9ddf0017f63198212f215b84c65eec0b859", func := "ferryman/ferrymanlaw09.ProofNone", spec := "proofNone", inPlace := ["internal/bytealg.Compare", "internal/reflectlite.ValueOf", "(internal/reflectlite.Value).Type", "(internal/reflectlite.Value).IsNil", "internal/reflectlite.TypeOf", "(internal/reflectlite.Value).Elem", "(internal/reflectlite.Value).Set"], unfollowed := true, recurses := true, named := ["ferryman/sha.words", "errors.errorType", "ferryman/ferrymanref01.roots"], apart := false, laid := [("ferryman/ferrymanref01.roots", laid_ferryman_ferrymanref01_roots), ("ferryman/sha.words", laid_ferryman_sha_words), ("errors.errorType", laid_errors_errorType)], narrowed := true }
def ProofNoneUptoSaid : Prop := proofNoneUptoRow.holds Tryd.pinned (OpenSpec.upto proofNoneSpec)

/-- 'ferrymanlaw09.ProofVerifies', WHERE WHAT IT READS IS OF BULK AT MOST 1048576: true; the input reads as it did. -/
def proofVerifiesUptoRow : OpenClaim := { program := "ytnicmjipbnhciaadoor", sum := "c2e5ff1746ad0cd3b8398f0fd9a8f9ddf0017f63198212f215b84c65eec0b859", func := "ferryman/ferrymanlaw09.ProofVerifies", spec := "proofVerifies", inPlace := ["internal/bytealg.Compare", "internal/reflectlite.ValueOf", "(internal/reflectlite.Value).Type", "(internal/reflectlite.Value).IsNil", "internal/reflectlite.TypeOf", "(internal/reflectlite.Value).Elem", "(internal/reflectlite.Value).Set"], unfollowed := true, recurses := true, named := ["ferryman/sha.words", "errors.errorType", "ferryman/ferrymanref01.roots"], apart := false, laid := [("ferryman/ferrymanref01.roots", laid_ferryman_ferrymanref01_roots), ("ferryman/sha.words", laid_ferryman_sha_words), ("errors.errorType", laid_errors_errorType)], narrowed := true }
def ProofVerifiesUptoSaid : Prop := proofVerifiesUptoRow.holds Tryd.pinned (OpenSpec.upto proofVerifiesSpec)

/-- 'ferrymanlaw09.ProofGaps', WHERE WHAT IT READS IS OF BULK AT MOST 1048576: true; the input reads as it did. -/
def proofGapsUptoRow : OpenClaim := { program := "ytnicmjipbnhciaadoor", sum := "c2e5ff1746ad0cd3b8398f0fd9a8f9ddf0017f63198212f215b84c65eec0b859", func := "ferryman/ferrymanlaw09.ProofGaps", spec := "proofGaps", inPlace := ["internal/bytealg.Compare", "internal/reflectlite.ValueOf", "(internal/reflectlite.Value).Type", "(internal/reflectlite.Value).IsNil", "internal/reflectlite.TypeOf", "(internal/reflectlite.Value).Elem", "(internal/reflectlite.Value).Set"], unfollowed := true, recurses := true, named := ["ferryman/sha.words", "errors.errorType", "ferryman/ferrymanref01.roots"], apart := false, laid := [("ferryman/ferrymanref01.roots", laid_ferryman_ferrymanref01_roots), ("ferryman/sha.words", laid_ferryman_sha_words), ("errors.errorType", laid_errors_errorType)], narrowed := true }
def ProofGapsUptoSaid : Prop := proofGapsUptoRow.holds Tryd.pinned (OpenSpec.upto proofGapsSpec)

/-- 'ferrymanlaw09.ProofCodes', WHERE WHAT IT READS IS OF BULK AT MOST 1048576: true; the input reads as it did. -/
def proofCodesUptoRow : OpenClaim := { program := "ytnicmjipbnhciaadoor", sum := "c2e5ff1746ad0cd3b8398f0fd9a8f9ddf0017f63198212f215b84c65eec0b859", func := "ferryman/ferrymanlaw09.ProofCodes", spec := "proofCodes", inPlace := ["internal/bytealg.Compare", "internal/reflectlite.ValueOf", "(internal/reflectlite.Value).Type", "(internal/reflectlite.Value).IsNil", "internal/reflectlite.TypeOf", "(internal/reflectlite.Value).Elem", "(internal/reflectlite.Value).Set"], unfollowed := true, recurses := true, named := ["ferryman/sha.words", "errors.errorType"], apart := false, laid := [("ferryman/sha.words", laid_ferryman_sha_words), ("errors.errorType", laid_errors_errorType)], narrowed := true }
def ProofCodesUptoSaid : Prop := proofCodesUptoRow.holds Tryd.pinned (OpenSpec.upto proofCodesSpec)

/-- 'ferrymanlaw09.ProofGapCodes', WHERE WHAT IT READS IS OF BULK AT MOST 1048576: true; the input reads as it did. -/
def proofGapCodesUptoRow : OpenClaim := { program := "ytnicmjipbnhciaadoor", sum := "c2e5ff1746ad0cd3b8398f0fd9a8f9ddf0017f63198212f215b84c65eec0b859", func := "ferryman/ferrymanlaw09.ProofGapCodes", spec := "proofGapCodes", inPlace := ["internal/bytealg.Compare", "internal/reflectlite.ValueOf", "(internal/reflectlite.Value).Type", "(internal/reflectlite.Value).IsNil", "internal/reflectlite.TypeOf", "(internal/reflectlite.Value).Elem", "(internal/reflectlite.Value).Set"], unfollowed := true, recurses := true, named := ["ferryman/sha.words", "errors.errorType"], apart := false, laid := [("ferryman/sha.words", laid_ferryman_sha_words), ("errors.errorType", laid_errors_errorType)], narrowed := true }
def ProofGapCodesUptoSaid : Prop := proofGapCodesUptoRow.holds Tryd.pinned (OpenSpec.upto proofGapCodesSpec)

/-- 'ferrymanlaw10.MultiMakes', WHERE WHAT IT READS IS OF BULK AT MOST 1048576: true; the input reads as it did. -/
def multiMakesUptoRow : OpenClaim := { program := "ytnicmjipbnhciaadoor", sum := "c2e5ff1746ad0cd3b8398f0fd9a8f9ddf0017f63198212f215b84c65eec0b859", func := "ferryman/ferrymanlaw10.MultiMakes", spec := "multiMakes", inPlace := ["internal/bytealg.Compare"], unfollowed := true, recurses := true, named := ["ferryman/sha.words", "ferryman/ferrymanref01.roots"], apart := false, laid := [("ferryman/ferrymanref01.roots", laid_ferryman_ferrymanref01_roots), ("ferryman/sha.words", laid_ferryman_sha_words)], narrowed := true }
def MultiMakesUptoSaid : Prop := multiMakesUptoRow.holds Tryd.pinned (OpenSpec.upto multiMakesSpec)

/-- 'ferrymanlaw10.MultiSame', WHERE WHAT IT READS IS OF BULK AT MOST 1048576: true; the input reads as it did. -/
def multiSameUptoRow : OpenClaim := { program := "ytnicmjipbnhciaadoor", sum := "c2e5ff1746ad0cd3b8398f0fd9a8f9ddf0017f63198212f215b84c65eec0b859", func := "ferryman/ferrymanlaw10.MultiSame", spec := "multiSame", inPlace := ["internal/bytealg.Compare"], unfollowed := true, recurses := true, named := ["ferryman/sha.words"], apart := false, laid := [("ferryman/sha.words", laid_ferryman_sha_words)], narrowed := true }
def MultiSameUptoSaid : Prop := multiSameUptoRow.holds Tryd.pinned (OpenSpec.upto multiSameSpec)

/-- 'ferrymanlaw10.MultiMany', WHERE WHAT IT READS IS OF BULK AT MOST 1048576: true; the input reads as it did. -/
def multiManyUptoRow : OpenClaim := { program := "ytnicmjipbnhciaadoor", sum := "c2e5ff1746ad0cd3b8398f0fd9a8f9ddf0017f63198212f215b84c65eec0b859", func := "ferryman/ferrymanlaw10.MultiMany", spec := "multiMany", inPlace := ["internal/bytealg.Compare"], unfollowed := true, recurses := true, named := ["ferryman/sha.words"], apart := false, laid := [("ferryman/sha.words", laid_ferryman_sha_words)], narrowed := true }
def MultiManyUptoSaid : Prop := multiManyUptoRow.holds Tryd.pinned (OpenSpec.upto multiManySpec)

/-- 'ferrymanlaw10.MultiNil', WHERE WHAT IT READS IS OF BULK AT MOST 1048576: true; the input reads as it did. -/
def multiNilUptoRow : OpenClaim := { program := "ytnicmjipbnhciaadoor", sum := "c2e5ff1746ad0cd3b8398f0fd9a8f9ddf0017f63198212f215b84c65eec0b859", func := "ferryman/ferrymanlaw10.MultiNil", spec := "multiNil", inPlace := ["internal/bytealg.Compare", "internal/reflectlite.ValueOf", "(internal/reflectlite.Value).Type", "(internal/reflectlite.Value).IsNil", "internal/reflectlite.TypeOf", "(internal/reflectlite.Value).Elem", "(internal/reflectlite.Value).Set"], unfollowed := true, recurses := true, named := ["ferryman/sha.words", "errors.errorType"], apart := false, laid := [("ferryman/sha.words", laid_ferryman_sha_words), ("errors.errorType", laid_errors_errorType)], narrowed := true }
def MultiNilUptoSaid : Prop := multiNilUptoRow.holds Tryd.pinned (OpenSpec.upto multiNilSpec)

/-- 'ferrymanlaw10.MultiChecks', WHERE WHAT IT READS IS OF BULK AT MOST 1048576: true; the input reads as it did. -/
def multiChecksUptoRow : OpenClaim := { program := "ytnicmjipbnhciaadoor", sum := "c2e5ff1746ad0cd3b8398f0fd9a8f9ddf0017f63198212f215b84c65eec0b859", func := "ferryman/ferrymanlaw10.MultiChecks", spec := "multiChecks", inPlace := ["internal/bytealg.Compare", "internal/reflectlite.ValueOf", "(internal/reflectlite.Value).Type", "(internal/reflectlite.Value).IsNil", "internal/reflectlite.TypeOf", "(internal/reflectlite.Value).Elem", "(internal/reflectlite.Value).Set"], unfollowed := true, recurses := true, named := ["ferryman/sha.words", "ferryman/ferrymanref01.roots", "errors.errorType"], apart := false, laid := [("ferryman/ferrymanref01.roots", laid_ferryman_ferrymanref01_roots), ("ferryman/sha.words", laid_ferryman_sha_words), ("errors.errorType", laid_errors_errorType)], narrowed := true }
def MultiChecksUptoSaid : Prop := multiChecksUptoRow.holds Tryd.pinned (OpenSpec.upto multiChecksSpec)

end Rows
end Go.Proofs.YtnicmjipbnhciaaDoor
