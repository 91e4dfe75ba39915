/-
  NARROWER THAN 'FOR EVERY INPUT', by the rows' own cells (each row's printed sentence says how): OperMay: laid · OperTexts: laid · OperLess: laid · OperBits: laid · OperUnary: laid · OperSums: laid · OperSteps: laid.
  DERIVED. THE GIVEN ROWS OF THIS SEAT. 7 by the template 'for every input the law returns true; each argument reads behind the call as it read before'; 0 by the template 'total and deterministic' (their statements: YtjakfchffigkkaaGreatDoorTotals.lean).
  GIVEN WITH THE SEED: the statements are not yours to turn. If you find one false, say at which input.
  Laid BY PROGRAM, IN A SANDBOX (cutbox-rows.mjs): the forced cells as the released guide's own fill.sh prints them over the translation 18874e3bb4c866ad… (all of the seat's roots in one cut). By AI agents, Wed Nov 11 2026. No macro, syntax, notation, axiom, sorry.
-/
import Derived.Test.YtjakfchffigkkaaGreatDoorChecked
import GoSem.Claim
import GoSem.ClaimJoined
import GoSem.ClaimMapViews
import Derived.JoinedTies
import Derived.KernelRfl
namespace Go.Proofs.YtjakfchffigkkaaGreatDoor
/- THE CELL 'sum', in the pinned program and in every row, IS THE sha256 OF THE DUMP (.gsa) THAT YtjakfchffigkkaaGreatDoorProg.lean LOADS. Nothing in Lean hashes anything: it is a label: what it is worth is what the hold of that sum in a sandbox is worth. -/
noncomputable def Tryz.pinned : Pinned := { name := "ytjakfchffigkkaagreatdoor", sum := "18874e3bb4c866ad871562c8628b752e1376b429d17eaa945f4da8e5f0f8ac7a", checked := Tryz.checked }
namespace Rows
def none {H : Type} : Left H := { results := [], args := [] }

/- WHAT THE LISTED PACKAGE-LEVEL VARIABLES READ AS WHEN THE CALL BEGINS. Each datum BY PROGRAM (the guide's laid-datum.mjs) off the statement by which the dump's own 'gosem.cut.vars' lays the variable. In a bare row this is a premise. The card (YtjakfchffigkkaaGreatDoorCards.lean) ties it to the program's text. -/
def laid_math_bits_deBruijn32tab {H : Type} : DataW H := .agg [.lit (.int .u8 0), .lit (.int .u8 1), .lit (.int .u8 28), .lit (.int .u8 2), .lit (.int .u8 29), .lit (.int .u8 14), .lit (.int .u8 24), .lit (.int .u8 3), .lit (.int .u8 30), .lit (.int .u8 22), .lit (.int .u8 20), .lit (.int .u8 15), .lit (.int .u8 25), .lit (.int .u8 17), .lit (.int .u8 4), .lit (.int .u8 8), .lit (.int .u8 31), .lit (.int .u8 27), .lit (.int .u8 13), .lit (.int .u8 23), .lit (.int .u8 21), .lit (.int .u8 19), .lit (.int .u8 16), .lit (.int .u8 7), .lit (.int .u8 26), .lit (.int .u8 12), .lit (.int .u8 18), .lit (.int .u8 6), .lit (.int .u8 11), .lit (.int .u8 5), .lit (.int .u8 10), .lit (.int .u8 9)]
def laid_math_bits_deBruijn64tab {H : Type} : DataW H := .agg [.lit (.int .u8 0), .lit (.int .u8 1), .lit (.int .u8 56), .lit (.int .u8 2), .lit (.int .u8 57), .lit (.int .u8 49), .lit (.int .u8 28), .lit (.int .u8 3), .lit (.int .u8 61), .lit (.int .u8 58), .lit (.int .u8 42), .lit (.int .u8 50), .lit (.int .u8 38), .lit (.int .u8 29), .lit (.int .u8 17), .lit (.int .u8 4), .lit (.int .u8 62), .lit (.int .u8 47), .lit (.int .u8 59), .lit (.int .u8 36), .lit (.int .u8 45), .lit (.int .u8 43), .lit (.int .u8 51), .lit (.int .u8 22), .lit (.int .u8 53), .lit (.int .u8 39), .lit (.int .u8 33), .lit (.int .u8 30), .lit (.int .u8 24), .lit (.int .u8 18), .lit (.int .u8 12), .lit (.int .u8 5), .lit (.int .u8 63), .lit (.int .u8 55), .lit (.int .u8 48), .lit (.int .u8 27), .lit (.int .u8 60), .lit (.int .u8 41), .lit (.int .u8 37), .lit (.int .u8 16), .lit (.int .u8 46), .lit (.int .u8 35), .lit (.int .u8 44), .lit (.int .u8 21), .lit (.int .u8 52), .lit (.int .u8 32), .lit (.int .u8 23), .lit (.int .u8 11), .lit (.int .u8 54), .lit (.int .u8 26), .lit (.int .u8 40), .lit (.int .u8 15), .lit (.int .u8 34), .lit (.int .u8 20), .lit (.int .u8 31), .lit (.int .u8 10), .lit (.int .u8 25), .lit (.int .u8 14), .lit (.int .u8 19), .lit (.int .u8 9), .lit (.int .u8 13), .lit (.int .u8 8), .lit (.int .u8 7), .lit (.int .u8 6)]
def laid_internal_strconv_uint64pow10 {H : Type} : DataW H := .agg [.lit (.int .u64 1), .lit (.int .u64 10), .lit (.int .u64 100), .lit (.int .u64 1000), .lit (.int .u64 10000), .lit (.int .u64 100000), .lit (.int .u64 1000000), .lit (.int .u64 10000000), .lit (.int .u64 100000000), .lit (.int .u64 1000000000), .lit (.int .u64 10000000000), .lit (.int .u64 100000000000), .lit (.int .u64 1000000000000), .lit (.int .u64 10000000000000), .lit (.int .u64 100000000000000), .lit (.int .u64 1000000000000000), .lit (.int .u64 10000000000000000), .lit (.int .u64 100000000000000000), .lit (.int .u64 1000000000000000000), .lit (.int .u64 10000000000000000000)]

/-- 'renlaw11.OperMay': WHATEVER THE INPUT: true; the input reads as it did. -/
def operMaySpec : ChangeSpec := { name := "operMay", fn := fun _ => fun
  | [d1, d2, d3] => { results := [.lit (.bool true)], args := [d1, d2, d3] }
  | _ => none }
def operMayRow : OpenClaim := { program := "ytjakfchffigkkaagreatdoor", sum := "18874e3bb4c866ad871562c8628b752e1376b429d17eaa945f4da8e5f0f8ac7a", func := "rendezvous/renlaw11.OperMay", spec := "operMay", unfollowed := true, recurses := true, named := ["internal/strconv.uint64pow10", "math/bits.deBruijn32tab", "math/bits.deBruijn64tab"], apart := false, laid := [("math/bits.deBruijn32tab", laid_math_bits_deBruijn32tab), ("math/bits.deBruijn64tab", laid_math_bits_deBruijn64tab), ("internal/strconv.uint64pow10", laid_internal_strconv_uint64pow10)] }
def OperMaySaid : Prop := operMayRow.holds Tryz.pinned (OpenSpec.ofChange operMaySpec)

/-- ITS FALSE NEIGHBOUR: 'it returns false'. Refute it at one input. -/
def operMayWrong : ChangeSpec := { name := "operMay", fn := fun _ => fun
  | [d1, d2, d3] => { results := [.lit (.bool false)], args := [d1, d2, d3] }
  | _ => none }
def OperMayWrongFalsely : Prop := operMayRow.holds Tryz.pinned (OpenSpec.ofChange operMayWrong)

/-- 'renlaw11.OperTexts': WHATEVER THE INPUT: true; the input reads as it did. -/
def operTextsSpec : ChangeSpec := { name := "operTexts", fn := fun _ => fun
  | [d1, d2, d3, d4] => { results := [.lit (.bool true)], args := [d1, d2, d3, d4] }
  | _ => none }
def operTextsRow : OpenClaim := { program := "ytjakfchffigkkaagreatdoor", sum := "18874e3bb4c866ad871562c8628b752e1376b429d17eaa945f4da8e5f0f8ac7a", func := "rendezvous/renlaw11.OperTexts", spec := "operTexts", unfollowed := true, recurses := true, named := ["internal/strconv.uint64pow10", "math/bits.deBruijn32tab", "math/bits.deBruijn64tab"], apart := false, laid := [("math/bits.deBruijn32tab", laid_math_bits_deBruijn32tab), ("math/bits.deBruijn64tab", laid_math_bits_deBruijn64tab), ("internal/strconv.uint64pow10", laid_internal_strconv_uint64pow10)] }
def OperTextsSaid : Prop := operTextsRow.holds Tryz.pinned (OpenSpec.ofChange operTextsSpec)

/-- ITS FALSE NEIGHBOUR: 'it returns false'. Refute it at one input. -/
def operTextsWrong : ChangeSpec := { name := "operTexts", fn := fun _ => fun
  | [d1, d2, d3, d4] => { results := [.lit (.bool false)], args := [d1, d2, d3, d4] }
  | _ => none }
def OperTextsWrongFalsely : Prop := operTextsRow.holds Tryz.pinned (OpenSpec.ofChange operTextsWrong)

/-- 'renlaw11.OperLess': WHATEVER THE INPUT: true; the input reads as it did. -/
def operLessSpec : ChangeSpec := { name := "operLess", fn := fun _ => fun
  | [d1, d2, d3] => { results := [.lit (.bool true)], args := [d1, d2, d3] }
  | _ => none }
def operLessRow : OpenClaim := { program := "ytjakfchffigkkaagreatdoor", sum := "18874e3bb4c866ad871562c8628b752e1376b429d17eaa945f4da8e5f0f8ac7a", func := "rendezvous/renlaw11.OperLess", spec := "operLess", unfollowed := true, recurses := true, named := ["internal/strconv.uint64pow10", "math/bits.deBruijn32tab", "math/bits.deBruijn64tab"], apart := false, laid := [("math/bits.deBruijn32tab", laid_math_bits_deBruijn32tab), ("math/bits.deBruijn64tab", laid_math_bits_deBruijn64tab), ("internal/strconv.uint64pow10", laid_internal_strconv_uint64pow10)] }
def OperLessSaid : Prop := operLessRow.holds Tryz.pinned (OpenSpec.ofChange operLessSpec)

/-- ITS FALSE NEIGHBOUR: 'it returns false'. Refute it at one input. -/
def operLessWrong : ChangeSpec := { name := "operLess", fn := fun _ => fun
  | [d1, d2, d3] => { results := [.lit (.bool false)], args := [d1, d2, d3] }
  | _ => none }
def OperLessWrongFalsely : Prop := operLessRow.holds Tryz.pinned (OpenSpec.ofChange operLessWrong)

/-- 'renlaw11.OperBits': WHATEVER THE INPUT: true; the input reads as it did. -/
def operBitsSpec : ChangeSpec := { name := "operBits", fn := fun _ => fun
  | [d] => { results := [.lit (.bool true)], args := [d] }
  | _ => none }
def operBitsRow : OpenClaim := { program := "ytjakfchffigkkaagreatdoor", sum := "18874e3bb4c866ad871562c8628b752e1376b429d17eaa945f4da8e5f0f8ac7a", func := "rendezvous/renlaw11.OperBits", spec := "operBits", unfollowed := true, recurses := true, named := ["internal/strconv.uint64pow10", "math/bits.deBruijn32tab", "math/bits.deBruijn64tab"], apart := false, laid := [("math/bits.deBruijn32tab", laid_math_bits_deBruijn32tab), ("math/bits.deBruijn64tab", laid_math_bits_deBruijn64tab), ("internal/strconv.uint64pow10", laid_internal_strconv_uint64pow10)] }
def OperBitsSaid : Prop := operBitsRow.holds Tryz.pinned (OpenSpec.ofChange operBitsSpec)

/-- ITS FALSE NEIGHBOUR: 'it returns false'. Refute it at one input. -/
def operBitsWrong : ChangeSpec := { name := "operBits", fn := fun _ => fun
  | [d] => { results := [.lit (.bool false)], args := [d] }
  | _ => none }
def OperBitsWrongFalsely : Prop := operBitsRow.holds Tryz.pinned (OpenSpec.ofChange operBitsWrong)

/-- 'renlaw11.OperUnary': WHATEVER THE INPUT: true; the input reads as it did. -/
def operUnarySpec : ChangeSpec := { name := "operUnary", fn := fun _ => fun
  | [d1, d2, d3] => { results := [.lit (.bool true)], args := [d1, d2, d3] }
  | _ => none }
def operUnaryRow : OpenClaim := { program := "ytjakfchffigkkaagreatdoor", sum := "18874e3bb4c866ad871562c8628b752e1376b429d17eaa945f4da8e5f0f8ac7a", func := "rendezvous/renlaw11.OperUnary", spec := "operUnary", unfollowed := true, recurses := true, named := ["internal/strconv.uint64pow10", "math/bits.deBruijn32tab", "math/bits.deBruijn64tab"], apart := false, laid := [("math/bits.deBruijn32tab", laid_math_bits_deBruijn32tab), ("math/bits.deBruijn64tab", laid_math_bits_deBruijn64tab), ("internal/strconv.uint64pow10", laid_internal_strconv_uint64pow10)] }
def OperUnarySaid : Prop := operUnaryRow.holds Tryz.pinned (OpenSpec.ofChange operUnarySpec)

/-- ITS FALSE NEIGHBOUR: 'it returns false'. Refute it at one input. -/
def operUnaryWrong : ChangeSpec := { name := "operUnary", fn := fun _ => fun
  | [d1, d2, d3] => { results := [.lit (.bool false)], args := [d1, d2, d3] }
  | _ => none }
def OperUnaryWrongFalsely : Prop := operUnaryRow.holds Tryz.pinned (OpenSpec.ofChange operUnaryWrong)

/-- 'renlaw11.OperSums': WHATEVER THE INPUT: true; the input reads as it did. -/
def operSumsSpec : ChangeSpec := { name := "operSums", fn := fun _ => fun
  | [d1, d2] => { results := [.lit (.bool true)], args := [d1, d2] }
  | _ => none }
def operSumsRow : OpenClaim := { program := "ytjakfchffigkkaagreatdoor", sum := "18874e3bb4c866ad871562c8628b752e1376b429d17eaa945f4da8e5f0f8ac7a", func := "rendezvous/renlaw11.OperSums", spec := "operSums", unfollowed := true, recurses := true, named := ["internal/strconv.uint64pow10", "math/bits.deBruijn32tab", "math/bits.deBruijn64tab"], apart := false, laid := [("math/bits.deBruijn32tab", laid_math_bits_deBruijn32tab), ("math/bits.deBruijn64tab", laid_math_bits_deBruijn64tab), ("internal/strconv.uint64pow10", laid_internal_strconv_uint64pow10)] }
def OperSumsSaid : Prop := operSumsRow.holds Tryz.pinned (OpenSpec.ofChange operSumsSpec)

/-- ITS FALSE NEIGHBOUR: 'it returns false'. Refute it at one input. -/
def operSumsWrong : ChangeSpec := { name := "operSums", fn := fun _ => fun
  | [d1, d2] => { results := [.lit (.bool false)], args := [d1, d2] }
  | _ => none }
def OperSumsWrongFalsely : Prop := operSumsRow.holds Tryz.pinned (OpenSpec.ofChange operSumsWrong)

/-- 'renlaw11.OperSteps': WHATEVER THE INPUT: true; the input reads as it did. -/
def operStepsSpec : ChangeSpec := { name := "operSteps", fn := fun _ => fun
  | [d] => { results := [.lit (.bool true)], args := [d] }
  | _ => none }
def operStepsRow : OpenClaim := { program := "ytjakfchffigkkaagreatdoor", sum := "18874e3bb4c866ad871562c8628b752e1376b429d17eaa945f4da8e5f0f8ac7a", func := "rendezvous/renlaw11.OperSteps", spec := "operSteps", unfollowed := true, recurses := true, named := ["internal/strconv.uint64pow10", "math/bits.deBruijn32tab", "math/bits.deBruijn64tab"], apart := false, laid := [("math/bits.deBruijn32tab", laid_math_bits_deBruijn32tab), ("math/bits.deBruijn64tab", laid_math_bits_deBruijn64tab), ("internal/strconv.uint64pow10", laid_internal_strconv_uint64pow10)] }
def OperStepsSaid : Prop := operStepsRow.holds Tryz.pinned (OpenSpec.ofChange operStepsSpec)

/-- ITS FALSE NEIGHBOUR: 'it returns false'. Refute it at one input. -/
def operStepsWrong : ChangeSpec := { name := "operSteps", fn := fun _ => fun
  | [d] => { results := [.lit (.bool false)], args := [d] }
  | _ => none }
def OperStepsWrongFalsely : Prop := operStepsRow.holds Tryz.pinned (OpenSpec.ofChange operStepsWrong)

/- THE SECOND FORM. 'bulk': how many values and letters a reading holds, each counted each time it is reached (what is shared counts as often as it is met; a slice's spare places count too). A statement '..UptoSaid' is the law's where the arguments, and the package variables that the reading takes, are together of bulk at most 1048576: NARROWER than '..Said'. Prove '..Said' where nothing that the law and all that it calls make is longer than what came in: it says more and counts as full. Else prove '..UptoSaid'. A law counts once. -/
mutual
def uptoBulk {H : Type} : DataW H → Nat
  | .lit (.string bytes) => bytes.length + 1
  | .lit _ => 1
  | .nil => 1
  | .ptr d => uptoBulk d + 1
  | .slice elems spare => uptoBulkAll elems + uptoBulkAll spare + 1
  | .agg parts => uptoBulkAll parts + 1
  | .iface _ d => uptoBulk d + 1
  | .map entries => uptoBulkEntries entries + 1
  | .held _ => 1
def uptoBulkAll {H : Type} : List (DataW H) → Nat
  | [] => 0
  | d :: r => uptoBulk d + uptoBulkAll r
def uptoBulkEntries {H : Type} : List (Lit × DataW H) → Nat
  | [] => 0
  | x :: r => uptoBulkEntry x + uptoBulkEntries r
def uptoBulkEntry {H : Type} : Lit × DataW H → Nat
  | (.string bytes, d) => bytes.length + uptoBulk d + 1
  | (_, d) => uptoBulk d + 1
 end
def uptoSmall : (H : Type) → List (DataW H) → Bool := fun _ ds => decide (uptoBulkAll ds ≤ 1048576)
def OpenSpec.upto (s : _root_.Go.ChangeSpec) : _root_.Go.OpenSpec := { _root_.Go.OpenSpec.ofChange s with cond := some uptoSmall }

/-- 'renlaw11.OperMay', WHERE WHAT IT READS IS OF BULK AT MOST 1048576: true; the input reads as it did. -/
def operMayUptoRow : OpenClaim := { program := "ytjakfchffigkkaagreatdoor", sum := "18874e3bb4c866ad871562c8628b752e1376b429d17eaa945f4da8e5f0f8ac7a", func := "rendezvous/renlaw11.OperMay", spec := "operMay", unfollowed := true, recurses := true, named := ["internal/strconv.uint64pow10", "math/bits.deBruijn32tab", "math/bits.deBruijn64tab"], apart := false, laid := [("math/bits.deBruijn32tab", laid_math_bits_deBruijn32tab), ("math/bits.deBruijn64tab", laid_math_bits_deBruijn64tab), ("internal/strconv.uint64pow10", laid_internal_strconv_uint64pow10)], narrowed := true }
def OperMayUptoSaid : Prop := operMayUptoRow.holds Tryz.pinned (OpenSpec.upto operMaySpec)

/-- 'renlaw11.OperTexts', WHERE WHAT IT READS IS OF BULK AT MOST 1048576: true; the input reads as it did. -/
def operTextsUptoRow : OpenClaim := { program := "ytjakfchffigkkaagreatdoor", sum := "18874e3bb4c866ad871562c8628b752e1376b429d17eaa945f4da8e5f0f8ac7a", func := "rendezvous/renlaw11.OperTexts", spec := "operTexts", unfollowed := true, recurses := true, named := ["internal/strconv.uint64pow10", "math/bits.deBruijn32tab", "math/bits.deBruijn64tab"], apart := false, laid := [("math/bits.deBruijn32tab", laid_math_bits_deBruijn32tab), ("math/bits.deBruijn64tab", laid_math_bits_deBruijn64tab), ("internal/strconv.uint64pow10", laid_internal_strconv_uint64pow10)], narrowed := true }
def OperTextsUptoSaid : Prop := operTextsUptoRow.holds Tryz.pinned (OpenSpec.upto operTextsSpec)

/-- 'renlaw11.OperLess', WHERE WHAT IT READS IS OF BULK AT MOST 1048576: true; the input reads as it did. -/
def operLessUptoRow : OpenClaim := { program := "ytjakfchffigkkaagreatdoor", sum := "18874e3bb4c866ad871562c8628b752e1376b429d17eaa945f4da8e5f0f8ac7a", func := "rendezvous/renlaw11.OperLess", spec := "operLess", unfollowed := true, recurses := true, named := ["internal/strconv.uint64pow10", "math/bits.deBruijn32tab", "math/bits.deBruijn64tab"], apart := false, laid := [("math/bits.deBruijn32tab", laid_math_bits_deBruijn32tab), ("math/bits.deBruijn64tab", laid_math_bits_deBruijn64tab), ("internal/strconv.uint64pow10", laid_internal_strconv_uint64pow10)], narrowed := true }
def OperLessUptoSaid : Prop := operLessUptoRow.holds Tryz.pinned (OpenSpec.upto operLessSpec)

/-- 'renlaw11.OperBits', WHERE WHAT IT READS IS OF BULK AT MOST 1048576: true; the input reads as it did. -/
def operBitsUptoRow : OpenClaim := { program := "ytjakfchffigkkaagreatdoor", sum := "18874e3bb4c866ad871562c8628b752e1376b429d17eaa945f4da8e5f0f8ac7a", func := "rendezvous/renlaw11.OperBits", spec := "operBits", unfollowed := true, recurses := true, named := ["internal/strconv.uint64pow10", "math/bits.deBruijn32tab", "math/bits.deBruijn64tab"], apart := false, laid := [("math/bits.deBruijn32tab", laid_math_bits_deBruijn32tab), ("math/bits.deBruijn64tab", laid_math_bits_deBruijn64tab), ("internal/strconv.uint64pow10", laid_internal_strconv_uint64pow10)], narrowed := true }
def OperBitsUptoSaid : Prop := operBitsUptoRow.holds Tryz.pinned (OpenSpec.upto operBitsSpec)

/-- 'renlaw11.OperUnary', WHERE WHAT IT READS IS OF BULK AT MOST 1048576: true; the input reads as it did. -/
def operUnaryUptoRow : OpenClaim := { program := "ytjakfchffigkkaagreatdoor", sum := "18874e3bb4c866ad871562c8628b752e1376b429d17eaa945f4da8e5f0f8ac7a", func := "rendezvous/renlaw11.OperUnary", spec := "operUnary", unfollowed := true, recurses := true, named := ["internal/strconv.uint64pow10", "math/bits.deBruijn32tab", "math/bits.deBruijn64tab"], apart := false, laid := [("math/bits.deBruijn32tab", laid_math_bits_deBruijn32tab), ("math/bits.deBruijn64tab", laid_math_bits_deBruijn64tab), ("internal/strconv.uint64pow10", laid_internal_strconv_uint64pow10)], narrowed := true }
def OperUnaryUptoSaid : Prop := operUnaryUptoRow.holds Tryz.pinned (OpenSpec.upto operUnarySpec)

/-- 'renlaw11.OperSums', WHERE WHAT IT READS IS OF BULK AT MOST 1048576: true; the input reads as it did. -/
def operSumsUptoRow : OpenClaim := { program := "ytjakfchffigkkaagreatdoor", sum := "18874e3bb4c866ad871562c8628b752e1376b429d17eaa945f4da8e5f0f8ac7a", func := "rendezvous/renlaw11.OperSums", spec := "operSums", unfollowed := true, recurses := true, named := ["internal/strconv.uint64pow10", "math/bits.deBruijn32tab", "math/bits.deBruijn64tab"], apart := false, laid := [("math/bits.deBruijn32tab", laid_math_bits_deBruijn32tab), ("math/bits.deBruijn64tab", laid_math_bits_deBruijn64tab), ("internal/strconv.uint64pow10", laid_internal_strconv_uint64pow10)], narrowed := true }
def OperSumsUptoSaid : Prop := operSumsUptoRow.holds Tryz.pinned (OpenSpec.upto operSumsSpec)

/-- 'renlaw11.OperSteps', WHERE WHAT IT READS IS OF BULK AT MOST 1048576: true; the input reads as it did. -/
def operStepsUptoRow : OpenClaim := { program := "ytjakfchffigkkaagreatdoor", sum := "18874e3bb4c866ad871562c8628b752e1376b429d17eaa945f4da8e5f0f8ac7a", func := "rendezvous/renlaw11.OperSteps", spec := "operSteps", unfollowed := true, recurses := true, named := ["internal/strconv.uint64pow10", "math/bits.deBruijn32tab", "math/bits.deBruijn64tab"], apart := false, laid := [("math/bits.deBruijn32tab", laid_math_bits_deBruijn32tab), ("math/bits.deBruijn64tab", laid_math_bits_deBruijn64tab), ("internal/strconv.uint64pow10", laid_internal_strconv_uint64pow10)], narrowed := true }
def OperStepsUptoSaid : Prop := operStepsUptoRow.holds Tryz.pinned (OpenSpec.upto operStepsSpec)

end Rows
end Go.Proofs.YtjakfchffigkkaaGreatDoor
