/-
  NARROWER THAN 'FOR EVERY INPUT', by the rows' own cells (each row's printed sentence says how): SimpleMakes: laid · SimpleTexts: laid · SimpleAsks: laid · SimpleOwn: laid · SimpleSames: laid · SimpleHalves: laid · SimpleReads: laid · SimpleBack: laid.
  DERIVED. THE GIVEN ROWS OF THIS SEAT. 8 by the template 'for every input the law returns true; each argument reads behind the call as it read before'; 0 by the template 'total and deterministic' (their statements: YthejafdcdcchbaaDoorTotals.lean).
  GIVEN WITH THE SEED: the statements are not yours to turn. If you find one false, say at which input.
  Laid BY PROGRAM, IN A SANDBOX (cutbox-rows.mjs): the forced cells as the released guide's own fill.sh prints them over the translation c350579671db67e2… (all of the seat's roots in one cut). By AI agents, Wed Nov 11 2026. No macro, syntax, notation, axiom, sorry.
-/
import Derived.Test.YthejafdcdcchbaaDoorChecked
import GoSem.Claim
import GoSem.ClaimJoined
import GoSem.ClaimMapViews
import Derived.JoinedTies
import Derived.KernelRfl
namespace Go.Proofs.YthejafdcdcchbaaDoor
/- THE CELL 'sum', in the pinned program and in every row, IS THE sha256 OF THE DUMP (.gsa) THAT YthejafdcdcchbaaDoorProg.lean LOADS. Nothing in Lean hashes anything: it is a label: what it is worth is what the hold of that sum in a sandbox is worth. -/
noncomputable def Tryd.pinned : Pinned := { name := "ythejafdcdcchbaadoor", sum := "c350579671db67e24e0f8d0f8fb722d03057f04b4f6179825d739f07ab278fac", checked := Tryd.checked }
namespace Rows
def none {H : Type} : Left H := { results := [], args := [] }

/- WHAT THE LISTED PACKAGE-LEVEL VARIABLES READ AS WHEN THE CALL BEGINS. Each datum BY PROGRAM (the guide's laid-datum.mjs) off the statement by which the dump's own 'gosem.cut.vars' lays the variable. In a bare row this is a premise. The card (YthejafdcdcchbaaDoorCards.lean) ties it to the program's text. -/
def laid_math_bits_deBruijn32tab {H : Type} : DataW H := .agg [.lit (.int .u8 0), .lit (.int .u8 1), .lit (.int .u8 28), .lit (.int .u8 2), .lit (.int .u8 29), .lit (.int .u8 14), .lit (.int .u8 24), .lit (.int .u8 3), .lit (.int .u8 30), .lit (.int .u8 22), .lit (.int .u8 20), .lit (.int .u8 15), .lit (.int .u8 25), .lit (.int .u8 17), .lit (.int .u8 4), .lit (.int .u8 8), .lit (.int .u8 31), .lit (.int .u8 27), .lit (.int .u8 13), .lit (.int .u8 23), .lit (.int .u8 21), .lit (.int .u8 19), .lit (.int .u8 16), .lit (.int .u8 7), .lit (.int .u8 26), .lit (.int .u8 12), .lit (.int .u8 18), .lit (.int .u8 6), .lit (.int .u8 11), .lit (.int .u8 5), .lit (.int .u8 10), .lit (.int .u8 9)]
def laid_math_bits_deBruijn64tab {H : Type} : DataW H := .agg [.lit (.int .u8 0), .lit (.int .u8 1), .lit (.int .u8 56), .lit (.int .u8 2), .lit (.int .u8 57), .lit (.int .u8 49), .lit (.int .u8 28), .lit (.int .u8 3), .lit (.int .u8 61), .lit (.int .u8 58), .lit (.int .u8 42), .lit (.int .u8 50), .lit (.int .u8 38), .lit (.int .u8 29), .lit (.int .u8 17), .lit (.int .u8 4), .lit (.int .u8 62), .lit (.int .u8 47), .lit (.int .u8 59), .lit (.int .u8 36), .lit (.int .u8 45), .lit (.int .u8 43), .lit (.int .u8 51), .lit (.int .u8 22), .lit (.int .u8 53), .lit (.int .u8 39), .lit (.int .u8 33), .lit (.int .u8 30), .lit (.int .u8 24), .lit (.int .u8 18), .lit (.int .u8 12), .lit (.int .u8 5), .lit (.int .u8 63), .lit (.int .u8 55), .lit (.int .u8 48), .lit (.int .u8 27), .lit (.int .u8 60), .lit (.int .u8 41), .lit (.int .u8 37), .lit (.int .u8 16), .lit (.int .u8 46), .lit (.int .u8 35), .lit (.int .u8 44), .lit (.int .u8 21), .lit (.int .u8 52), .lit (.int .u8 32), .lit (.int .u8 23), .lit (.int .u8 11), .lit (.int .u8 54), .lit (.int .u8 26), .lit (.int .u8 40), .lit (.int .u8 15), .lit (.int .u8 34), .lit (.int .u8 20), .lit (.int .u8 31), .lit (.int .u8 10), .lit (.int .u8 25), .lit (.int .u8 14), .lit (.int .u8 19), .lit (.int .u8 9), .lit (.int .u8 13), .lit (.int .u8 8), .lit (.int .u8 7), .lit (.int .u8 6)]
def laid_internal_strconv_uint64pow10 {H : Type} : DataW H := .agg [.lit (.int .u64 1), .lit (.int .u64 10), .lit (.int .u64 100), .lit (.int .u64 1000), .lit (.int .u64 10000), .lit (.int .u64 100000), .lit (.int .u64 1000000), .lit (.int .u64 10000000), .lit (.int .u64 100000000), .lit (.int .u64 1000000000), .lit (.int .u64 10000000000), .lit (.int .u64 100000000000), .lit (.int .u64 1000000000000), .lit (.int .u64 10000000000000), .lit (.int .u64 100000000000000), .lit (.int .u64 1000000000000000), .lit (.int .u64 10000000000000000), .lit (.int .u64 100000000000000000), .lit (.int .u64 1000000000000000000), .lit (.int .u64 10000000000000000000)]

/-- 'tangramlaw03.SimpleMakes': WHATEVER THE INPUT: true; the input reads as it did. -/
def simpleMakesSpec : ChangeSpec := { name := "simpleMakes", fn := fun _ => fun
  | [d1, d2] => { results := [.lit (.bool true)], args := [d1, d2] }
  | _ => none }
def simpleMakesRow : OpenClaim := { program := "ythejafdcdcchbaadoor", sum := "c350579671db67e24e0f8d0f8fb722d03057f04b4f6179825d739f07ab278fac", func := "tangram/tangramlaw03.SimpleMakes", spec := "simpleMakes", inPlace := ["internal/abi.NoEscape", "internal/bytealg.MakeNoZero"], unfollowed := true, recurses := true, named := ["internal/strconv.uint64pow10", "math/bits.deBruijn32tab", "math/bits.deBruijn64tab"], plainKeys := false, apart := false, laid := [("math/bits.deBruijn32tab", laid_math_bits_deBruijn32tab), ("math/bits.deBruijn64tab", laid_math_bits_deBruijn64tab), ("internal/strconv.uint64pow10", laid_internal_strconv_uint64pow10)] }
def SimpleMakesSaid : Prop := simpleMakesRow.holds Tryd.pinned (OpenSpec.ofChange simpleMakesSpec)

/-- ITS FALSE NEIGHBOUR: 'it returns false'. Refute it at one input. -/
def simpleMakesWrong : ChangeSpec := { name := "simpleMakes", fn := fun _ => fun
  | [d1, d2] => { results := [.lit (.bool false)], args := [d1, d2] }
  | _ => none }
def SimpleMakesWrongFalsely : Prop := simpleMakesRow.holds Tryd.pinned (OpenSpec.ofChange simpleMakesWrong)

/-- 'tangramlaw03.SimpleTexts': WHATEVER THE INPUT: true; the input reads as it did. -/
def simpleTextsSpec : ChangeSpec := { name := "simpleTexts", fn := fun _ => fun
  | [d] => { results := [.lit (.bool true)], args := [d] }
  | _ => none }
def simpleTextsRow : OpenClaim := { program := "ythejafdcdcchbaadoor", sum := "c350579671db67e24e0f8d0f8fb722d03057f04b4f6179825d739f07ab278fac", func := "tangram/tangramlaw03.SimpleTexts", spec := "simpleTexts", inPlace := ["internal/abi.NoEscape", "internal/bytealg.MakeNoZero"], unfollowed := true, recurses := true, named := ["internal/strconv.uint64pow10", "math/bits.deBruijn32tab", "math/bits.deBruijn64tab"], plainKeys := false, apart := false, laid := [("math/bits.deBruijn32tab", laid_math_bits_deBruijn32tab), ("math/bits.deBruijn64tab", laid_math_bits_deBruijn64tab), ("internal/strconv.uint64pow10", laid_internal_strconv_uint64pow10)] }
def SimpleTextsSaid : Prop := simpleTextsRow.holds Tryd.pinned (OpenSpec.ofChange simpleTextsSpec)

/-- ITS FALSE NEIGHBOUR: 'it returns false'. Refute it at one input. -/
def simpleTextsWrong : ChangeSpec := { name := "simpleTexts", fn := fun _ => fun
  | [d] => { results := [.lit (.bool false)], args := [d] }
  | _ => none }
def SimpleTextsWrongFalsely : Prop := simpleTextsRow.holds Tryd.pinned (OpenSpec.ofChange simpleTextsWrong)

/-- 'tangramlaw03.SimpleAsks': WHATEVER THE INPUT: true; the input reads as it did. -/
def simpleAsksSpec : ChangeSpec := { name := "simpleAsks", fn := fun _ => fun
  | [d1, d2, d3] => { results := [.lit (.bool true)], args := [d1, d2, d3] }
  | _ => none }
def simpleAsksRow : OpenClaim := { program := "ythejafdcdcchbaadoor", sum := "c350579671db67e24e0f8d0f8fb722d03057f04b4f6179825d739f07ab278fac", func := "tangram/tangramlaw03.SimpleAsks", spec := "simpleAsks", inPlace := ["internal/abi.NoEscape", "internal/bytealg.MakeNoZero"], unfollowed := true, recurses := true, named := ["internal/strconv.uint64pow10", "math/bits.deBruijn32tab", "math/bits.deBruijn64tab"], plainKeys := false, apart := false, laid := [("math/bits.deBruijn32tab", laid_math_bits_deBruijn32tab), ("math/bits.deBruijn64tab", laid_math_bits_deBruijn64tab), ("internal/strconv.uint64pow10", laid_internal_strconv_uint64pow10)] }
def SimpleAsksSaid : Prop := simpleAsksRow.holds Tryd.pinned (OpenSpec.ofChange simpleAsksSpec)

/-- ITS FALSE NEIGHBOUR: 'it returns false'. Refute it at one input. -/
def simpleAsksWrong : ChangeSpec := { name := "simpleAsks", fn := fun _ => fun
  | [d1, d2, d3] => { results := [.lit (.bool false)], args := [d1, d2, d3] }
  | _ => none }
def SimpleAsksWrongFalsely : Prop := simpleAsksRow.holds Tryd.pinned (OpenSpec.ofChange simpleAsksWrong)

/-- 'tangramlaw03.SimpleOwn': WHATEVER THE INPUT: true; the input reads as it did. -/
def simpleOwnSpec : ChangeSpec := { name := "simpleOwn", fn := fun _ => fun
  | [d1, d2, d3] => { results := [.lit (.bool true)], args := [d1, d2, d3] }
  | _ => none }
def simpleOwnRow : OpenClaim := { program := "ythejafdcdcchbaadoor", sum := "c350579671db67e24e0f8d0f8fb722d03057f04b4f6179825d739f07ab278fac", func := "tangram/tangramlaw03.SimpleOwn", spec := "simpleOwn", inPlace := ["internal/abi.NoEscape", "internal/bytealg.MakeNoZero"], unfollowed := true, recurses := true, named := ["internal/strconv.uint64pow10", "math/bits.deBruijn32tab", "math/bits.deBruijn64tab"], plainKeys := false, apart := false, laid := [("math/bits.deBruijn32tab", laid_math_bits_deBruijn32tab), ("math/bits.deBruijn64tab", laid_math_bits_deBruijn64tab), ("internal/strconv.uint64pow10", laid_internal_strconv_uint64pow10)] }
def SimpleOwnSaid : Prop := simpleOwnRow.holds Tryd.pinned (OpenSpec.ofChange simpleOwnSpec)

/-- ITS FALSE NEIGHBOUR: 'it returns false'. Refute it at one input. -/
def simpleOwnWrong : ChangeSpec := { name := "simpleOwn", fn := fun _ => fun
  | [d1, d2, d3] => { results := [.lit (.bool false)], args := [d1, d2, d3] }
  | _ => none }
def SimpleOwnWrongFalsely : Prop := simpleOwnRow.holds Tryd.pinned (OpenSpec.ofChange simpleOwnWrong)

/-- 'tangramlaw03.SimpleSames': WHATEVER THE INPUT: true; the input reads as it did. -/
def simpleSamesSpec : ChangeSpec := { name := "simpleSames", fn := fun _ => fun
  | [d1, d2] => { results := [.lit (.bool true)], args := [d1, d2] }
  | _ => none }
def simpleSamesRow : OpenClaim := { program := "ythejafdcdcchbaadoor", sum := "c350579671db67e24e0f8d0f8fb722d03057f04b4f6179825d739f07ab278fac", func := "tangram/tangramlaw03.SimpleSames", spec := "simpleSames", inPlace := ["internal/abi.NoEscape", "internal/bytealg.MakeNoZero"], unfollowed := true, recurses := true, named := ["internal/strconv.uint64pow10", "math/bits.deBruijn32tab", "math/bits.deBruijn64tab"], plainKeys := false, apart := false, laid := [("math/bits.deBruijn32tab", laid_math_bits_deBruijn32tab), ("math/bits.deBruijn64tab", laid_math_bits_deBruijn64tab), ("internal/strconv.uint64pow10", laid_internal_strconv_uint64pow10)] }
def SimpleSamesSaid : Prop := simpleSamesRow.holds Tryd.pinned (OpenSpec.ofChange simpleSamesSpec)

/-- ITS FALSE NEIGHBOUR: 'it returns false'. Refute it at one input. -/
def simpleSamesWrong : ChangeSpec := { name := "simpleSames", fn := fun _ => fun
  | [d1, d2] => { results := [.lit (.bool false)], args := [d1, d2] }
  | _ => none }
def SimpleSamesWrongFalsely : Prop := simpleSamesRow.holds Tryd.pinned (OpenSpec.ofChange simpleSamesWrong)

/-- 'tangramlaw03.SimpleHalves': WHATEVER THE INPUT: true; the input reads as it did. -/
def simpleHalvesSpec : ChangeSpec := { name := "simpleHalves", fn := fun _ => fun
  | [d] => { results := [.lit (.bool true)], args := [d] }
  | _ => none }
def simpleHalvesRow : OpenClaim := { program := "ythejafdcdcchbaadoor", sum := "c350579671db67e24e0f8d0f8fb722d03057f04b4f6179825d739f07ab278fac", func := "tangram/tangramlaw03.SimpleHalves", spec := "simpleHalves", inPlace := ["internal/abi.NoEscape", "internal/bytealg.MakeNoZero"], unfollowed := true, recurses := true, named := ["internal/strconv.uint64pow10", "math/bits.deBruijn32tab", "math/bits.deBruijn64tab"], plainKeys := false, apart := false, laid := [("math/bits.deBruijn32tab", laid_math_bits_deBruijn32tab), ("math/bits.deBruijn64tab", laid_math_bits_deBruijn64tab), ("internal/strconv.uint64pow10", laid_internal_strconv_uint64pow10)] }
def SimpleHalvesSaid : Prop := simpleHalvesRow.holds Tryd.pinned (OpenSpec.ofChange simpleHalvesSpec)

/-- ITS FALSE NEIGHBOUR: 'it returns false'. Refute it at one input. -/
def simpleHalvesWrong : ChangeSpec := { name := "simpleHalves", fn := fun _ => fun
  | [d] => { results := [.lit (.bool false)], args := [d] }
  | _ => none }
def SimpleHalvesWrongFalsely : Prop := simpleHalvesRow.holds Tryd.pinned (OpenSpec.ofChange simpleHalvesWrong)

/-- 'tangramlaw03.SimpleReads': WHATEVER THE INPUT: true; the input reads as it did. -/
def simpleReadsSpec : ChangeSpec := { name := "simpleReads", fn := fun _ => fun
  | [d] => { results := [.lit (.bool true)], args := [d] }
  | _ => none }
def simpleReadsRow : OpenClaim := { program := "ythejafdcdcchbaadoor", sum := "c350579671db67e24e0f8d0f8fb722d03057f04b4f6179825d739f07ab278fac", func := "tangram/tangramlaw03.SimpleReads", spec := "simpleReads", inPlace := ["internal/abi.NoEscape", "internal/bytealg.MakeNoZero"], unfollowed := true, recurses := true, named := ["internal/strconv.uint64pow10", "math/bits.deBruijn32tab", "math/bits.deBruijn64tab"], plainKeys := false, apart := false, laid := [("math/bits.deBruijn32tab", laid_math_bits_deBruijn32tab), ("math/bits.deBruijn64tab", laid_math_bits_deBruijn64tab), ("internal/strconv.uint64pow10", laid_internal_strconv_uint64pow10)] }
def SimpleReadsSaid : Prop := simpleReadsRow.holds Tryd.pinned (OpenSpec.ofChange simpleReadsSpec)

/-- ITS FALSE NEIGHBOUR: 'it returns false'. Refute it at one input. -/
def simpleReadsWrong : ChangeSpec := { name := "simpleReads", fn := fun _ => fun
  | [d] => { results := [.lit (.bool false)], args := [d] }
  | _ => none }
def SimpleReadsWrongFalsely : Prop := simpleReadsRow.holds Tryd.pinned (OpenSpec.ofChange simpleReadsWrong)

/-- 'tangramlaw03.SimpleBack': WHATEVER THE INPUT: true; the input reads as it did. -/
def simpleBackSpec : ChangeSpec := { name := "simpleBack", fn := fun _ => fun
  | [d1, d2, d3] => { results := [.lit (.bool true)], args := [d1, d2, d3] }
  | _ => none }
def simpleBackRow : OpenClaim := { program := "ythejafdcdcchbaadoor", sum := "c350579671db67e24e0f8d0f8fb722d03057f04b4f6179825d739f07ab278fac", func := "tangram/tangramlaw03.SimpleBack", spec := "simpleBack", inPlace := ["internal/abi.NoEscape", "internal/bytealg.MakeNoZero"], unfollowed := true, recurses := true, named := ["internal/strconv.uint64pow10", "math/bits.deBruijn32tab", "math/bits.deBruijn64tab"], plainKeys := false, apart := false, laid := [("math/bits.deBruijn32tab", laid_math_bits_deBruijn32tab), ("math/bits.deBruijn64tab", laid_math_bits_deBruijn64tab), ("internal/strconv.uint64pow10", laid_internal_strconv_uint64pow10)] }
def SimpleBackSaid : Prop := simpleBackRow.holds Tryd.pinned (OpenSpec.ofChange simpleBackSpec)

/-- ITS FALSE NEIGHBOUR: 'it returns false'. Refute it at one input. -/
def simpleBackWrong : ChangeSpec := { name := "simpleBack", fn := fun _ => fun
  | [d1, d2, d3] => { results := [.lit (.bool false)], args := [d1, d2, d3] }
  | _ => none }
def SimpleBackWrongFalsely : Prop := simpleBackRow.holds Tryd.pinned (OpenSpec.ofChange simpleBackWrong)

/- THE SECOND FORM. 'bulk': how many values and letters a reading holds, each counted each time it is reached (what is shared counts as often as it is met; a slice's spare places count too). A statement '..UptoSaid' is the law's where the arguments, and the package variables that the reading takes, are together of bulk at most 1048576: NARROWER than '..Said'. Prove '..Said' where nothing that the law and all that it calls make is longer than what came in: it says more and counts as full. Else prove '..UptoSaid'. A law counts once. -/
mutual
def uptoBulk {H : Type} : DataW H → Nat
  | .lit (.string bytes) => bytes.length + 1
  | .lit _ => 1
  | .nil => 1
  | .ptr d => uptoBulk d + 1
  | .slice elems spare => uptoBulkAll elems + uptoBulkAll spare + 1
  | .agg parts => uptoBulkAll parts + 1
  | .iface _ d => uptoBulk d + 1
  | .map entries => uptoBulkEntries entries + 1
  | .held _ => 1
def uptoBulkAll {H : Type} : List (DataW H) → Nat
  | [] => 0
  | d :: r => uptoBulk d + uptoBulkAll r
def uptoBulkEntries {H : Type} : List (Lit × DataW H) → Nat
  | [] => 0
  | x :: r => uptoBulkEntry x + uptoBulkEntries r
def uptoBulkEntry {H : Type} : Lit × DataW H → Nat
  | (.string bytes, d) => bytes.length + uptoBulk d + 1
  | (_, d) => uptoBulk d + 1
 end
def uptoSmall : (H : Type) → List (DataW H) → Bool := fun _ ds => decide (uptoBulkAll ds ≤ 1048576)
def OpenSpec.upto (s : _root_.Go.ChangeSpec) : _root_.Go.OpenSpec := { _root_.Go.OpenSpec.ofChange s with cond := some uptoSmall }

/-- 'tangramlaw03.SimpleMakes', WHERE WHAT IT READS IS OF BULK AT MOST 1048576: true; the input reads as it did. -/
def simpleMakesUptoRow : OpenClaim := { program := "ythejafdcdcchbaadoor", sum := "c350579671db67e24e0f8d0f8fb722d03057f04b4f6179825d739f07ab278fac", func := "tangram/tangramlaw03.SimpleMakes", spec := "simpleMakes", inPlace := ["internal/abi.NoEscape", "internal/bytealg.MakeNoZero"], unfollowed := true, recurses := true, named := ["internal/strconv.uint64pow10", "math/bits.deBruijn32tab", "math/bits.deBruijn64tab"], plainKeys := false, apart := false, laid := [("math/bits.deBruijn32tab", laid_math_bits_deBruijn32tab), ("math/bits.deBruijn64tab", laid_math_bits_deBruijn64tab), ("internal/strconv.uint64pow10", laid_internal_strconv_uint64pow10)], narrowed := true }
def SimpleMakesUptoSaid : Prop := simpleMakesUptoRow.holds Tryd.pinned (OpenSpec.upto simpleMakesSpec)

/-- 'tangramlaw03.SimpleTexts', WHERE WHAT IT READS IS OF BULK AT MOST 1048576: true; the input reads as it did. -/
def simpleTextsUptoRow : OpenClaim := { program := "ythejafdcdcchbaadoor", sum := "c350579671db67e24e0f8d0f8fb722d03057f04b4f6179825d739f07ab278fac", func := "tangram/tangramlaw03.SimpleTexts", spec := "simpleTexts", inPlace := ["internal/abi.NoEscape", "internal/bytealg.MakeNoZero"], unfollowed := true, recurses := true, named := ["internal/strconv.uint64pow10", "math/bits.deBruijn32tab", "math/bits.deBruijn64tab"], plainKeys := false, apart := false, laid := [("math/bits.deBruijn32tab", laid_math_bits_deBruijn32tab), ("math/bits.deBruijn64tab", laid_math_bits_deBruijn64tab), ("internal/strconv.uint64pow10", laid_internal_strconv_uint64pow10)], narrowed := true }
def SimpleTextsUptoSaid : Prop := simpleTextsUptoRow.holds Tryd.pinned (OpenSpec.upto simpleTextsSpec)

/-- 'tangramlaw03.SimpleAsks', WHERE WHAT IT READS IS OF BULK AT MOST 1048576: true; the input reads as it did. -/
def simpleAsksUptoRow : OpenClaim := { program := "ythejafdcdcchbaadoor", sum := "c350579671db67e24e0f8d0f8fb722d03057f04b4f6179825d739f07ab278fac", func := "tangram/tangramlaw03.SimpleAsks", spec := "simpleAsks", inPlace := ["internal/abi.NoEscape", "internal/bytealg.MakeNoZero"], unfollowed := true, recurses := true, named := ["internal/strconv.uint64pow10", "math/bits.deBruijn32tab", "math/bits.deBruijn64tab"], plainKeys := false, apart := false, laid := [("math/bits.deBruijn32tab", laid_math_bits_deBruijn32tab), ("math/bits.deBruijn64tab", laid_math_bits_deBruijn64tab), ("internal/strconv.uint64pow10", laid_internal_strconv_uint64pow10)], narrowed := true }
def SimpleAsksUptoSaid : Prop := simpleAsksUptoRow.holds Tryd.pinned (OpenSpec.upto simpleAsksSpec)

/-- 'tangramlaw03.SimpleOwn', WHERE WHAT IT READS IS OF BULK AT MOST 1048576: true; the input reads as it did. -/
def simpleOwnUptoRow : OpenClaim := { program := "ythejafdcdcchbaadoor", sum := "c350579671db67e24e0f8d0f8fb722d03057f04b4f6179825d739f07ab278fac", func := "tangram/tangramlaw03.SimpleOwn", spec := "simpleOwn", inPlace := ["internal/abi.NoEscape", "internal/bytealg.MakeNoZero"], unfollowed := true, recurses := true, named := ["internal/strconv.uint64pow10", "math/bits.deBruijn32tab", "math/bits.deBruijn64tab"], plainKeys := false, apart := false, laid := [("math/bits.deBruijn32tab", laid_math_bits_deBruijn32tab), ("math/bits.deBruijn64tab", laid_math_bits_deBruijn64tab), ("internal/strconv.uint64pow10", laid_internal_strconv_uint64pow10)], narrowed := true }
def SimpleOwnUptoSaid : Prop := simpleOwnUptoRow.holds Tryd.pinned (OpenSpec.upto simpleOwnSpec)

/-- 'tangramlaw03.SimpleSames', WHERE WHAT IT READS IS OF BULK AT MOST 1048576: true; the input reads as it did. -/
def simpleSamesUptoRow : OpenClaim := { program := "ythejafdcdcchbaadoor", sum := "c350579671db67e24e0f8d0f8fb722d03057f04b4f6179825d739f07ab278fac", func := "tangram/tangramlaw03.SimpleSames", spec := "simpleSames", inPlace := ["internal/abi.NoEscape", "internal/bytealg.MakeNoZero"], unfollowed := true, recurses := true, named := ["internal/strconv.uint64pow10", "math/bits.deBruijn32tab", "math/bits.deBruijn64tab"], plainKeys := false, apart := false, laid := [("math/bits.deBruijn32tab", laid_math_bits_deBruijn32tab), ("math/bits.deBruijn64tab", laid_math_bits_deBruijn64tab), ("internal/strconv.uint64pow10", laid_internal_strconv_uint64pow10)], narrowed := true }
def SimpleSamesUptoSaid : Prop := simpleSamesUptoRow.holds Tryd.pinned (OpenSpec.upto simpleSamesSpec)

/-- 'tangramlaw03.SimpleHalves', WHERE WHAT IT READS IS OF BULK AT MOST 1048576: true; the input reads as it did. -/
def simpleHalvesUptoRow : OpenClaim := { program := "ythejafdcdcchbaadoor", sum := "c350579671db67e24e0f8d0f8fb722d03057f04b4f6179825d739f07ab278fac", func := "tangram/tangramlaw03.SimpleHalves", spec := "simpleHalves", inPlace := ["internal/abi.NoEscape", "internal/bytealg.MakeNoZero"], unfollowed := true, recurses := true, named := ["internal/strconv.uint64pow10", "math/bits.deBruijn32tab", "math/bits.deBruijn64tab"], plainKeys := false, apart := false, laid := [("math/bits.deBruijn32tab", laid_math_bits_deBruijn32tab), ("math/bits.deBruijn64tab", laid_math_bits_deBruijn64tab), ("internal/strconv.uint64pow10", laid_internal_strconv_uint64pow10)], narrowed := true }
def SimpleHalvesUptoSaid : Prop := simpleHalvesUptoRow.holds Tryd.pinned (OpenSpec.upto simpleHalvesSpec)

/-- 'tangramlaw03.SimpleReads', WHERE WHAT IT READS IS OF BULK AT MOST 1048576: true; the input reads as it did. -/
def simpleReadsUptoRow : OpenClaim := { program := "ythejafdcdcchbaadoor", sum := "c350579671db67e24e0f8d0f8fb722d03057f04b4f6179825d739f07ab278fac", func := "tangram/tangramlaw03.SimpleReads", spec := "simpleReads", inPlace := ["internal/abi.NoEscape", "internal/bytealg.MakeNoZero"], unfollowed := true, recurses := true, named := ["internal/strconv.uint64pow10", "math/bits.deBruijn32tab", "math/bits.deBruijn64tab"], plainKeys := false, apart := false, laid := [("math/bits.deBruijn32tab", laid_math_bits_deBruijn32tab), ("math/bits.deBruijn64tab", laid_math_bits_deBruijn64tab), ("internal/strconv.uint64pow10", laid_internal_strconv_uint64pow10)], narrowed := true }
def SimpleReadsUptoSaid : Prop := simpleReadsUptoRow.holds Tryd.pinned (OpenSpec.upto simpleReadsSpec)

/-- 'tangramlaw03.SimpleBack', WHERE WHAT IT READS IS OF BULK AT MOST 1048576: true; the input reads as it did. -/
def simpleBackUptoRow : OpenClaim := { program := "ythejafdcdcchbaadoor", sum := "c350579671db67e24e0f8d0f8fb722d03057f04b4f6179825d739f07ab278fac", func := "tangram/tangramlaw03.SimpleBack", spec := "simpleBack", inPlace := ["internal/abi.NoEscape", "internal/bytealg.MakeNoZero"], unfollowed := true, recurses := true, named := ["internal/strconv.uint64pow10", "math/bits.deBruijn32tab", "math/bits.deBruijn64tab"], plainKeys := false, apart := false, laid := [("math/bits.deBruijn32tab", laid_math_bits_deBruijn32tab), ("math/bits.deBruijn64tab", laid_math_bits_deBruijn64tab), ("internal/strconv.uint64pow10", laid_internal_strconv_uint64pow10)], narrowed := true }
def SimpleBackUptoSaid : Prop := simpleBackUptoRow.holds Tryd.pinned (OpenSpec.upto simpleBackSpec)

end Rows
end Go.Proofs.YthejafdcdcchbaaDoor
