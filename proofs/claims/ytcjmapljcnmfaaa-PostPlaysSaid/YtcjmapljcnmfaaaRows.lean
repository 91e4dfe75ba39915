/-
  No cell of these rows narrows 'for every input' (looked for: loops, veiled, ifaces, maps, wideKeys, modest, calm, conditions, laid).
  DERIVED. THE GIVEN ROWS OF THIS SEAT. 4 by the template 'for every input the law returns true; each argument reads behind the call as it read before'; 0 by the template 'total and deterministic' (their statements: YtcjmapljcnmfaaaTotals.lean).
  GIVEN WITH THE SEED: the statements are not yours to turn. If you find one false, say at which input.
  Laid BY PROGRAM, IN A SANDBOX (cutbox-rows.mjs): the forced cells as the released guide's own fill.sh prints them over the translation 2bcdec7202a848b0… (all of the seat's roots in one cut). By AI agents, Wed Nov 11 2026. No macro, syntax, notation, axiom, sorry.
-/
import Derived.Test.YtcjmapljcnmfaaaChecked
import GoSem.Claim
import GoSem.ClaimJoined
import GoSem.ClaimMapViews
import Derived.JoinedTies
import Derived.KernelRfl
namespace Go.Proofs.Ytcjmapljcnmfaaa
/- THE CELL 'sum', in the pinned program and in every row, IS THE sha256 OF THE DUMP (.gsa) THAT YtcjmapljcnmfaaaProg.lean LOADS. Nothing in Lean hashes anything: it is a label: what it is worth is what the hold of that sum in a sandbox is worth. -/
noncomputable def Try.pinned : Pinned := { name := "ytcjmapljcnmfaaa", sum := "2bcdec7202a848b0b07c10a3a267a7a98aa8038c4433c7cc696a600034b52be1", checked := Try.checked }
namespace Rows
def none {H : Type} : Left H := { results := [], args := [] }

/-- 'renlaw23.PostOnce': WHATEVER THE INPUT: true; the input reads as it did. -/
def postOnceSpec : ChangeSpec := { name := "postOnce", fn := fun _ => fun
  | [d1, d2, d3, d4, d5] => { results := [.lit (.bool true)], args := [d1, d2, d3, d4, d5] }
  | _ => none }
def postOnceRow : OpenClaim := { program := "ytcjmapljcnmfaaa", sum := "2bcdec7202a848b0b07c10a3a267a7a98aa8038c4433c7cc696a600034b52be1", func := "rendezvous/renlaw23.PostOnce", spec := "postOnce", unfollowed := true, recurses := true, apart := false }
def PostOnceSaid : Prop := postOnceRow.holds Try.pinned (OpenSpec.ofChange postOnceSpec)

/-- ITS FALSE NEIGHBOUR: 'it returns false'. Refute it at one input. -/
def postOnceWrong : ChangeSpec := { name := "postOnce", fn := fun _ => fun
  | [d1, d2, d3, d4, d5] => { results := [.lit (.bool false)], args := [d1, d2, d3, d4, d5] }
  | _ => none }
def PostOnceWrongFalsely : Prop := postOnceRow.holds Try.pinned (OpenSpec.ofChange postOnceWrong)

/-- 'renlaw23.PostTimes': WHATEVER THE INPUT: true; the input reads as it did. -/
def postTimesSpec : ChangeSpec := { name := "postTimes", fn := fun _ => fun
  | [d1, d2] => { results := [.lit (.bool true)], args := [d1, d2] }
  | _ => none }
def postTimesRow : OpenClaim := { program := "ytcjmapljcnmfaaa", sum := "2bcdec7202a848b0b07c10a3a267a7a98aa8038c4433c7cc696a600034b52be1", func := "rendezvous/renlaw23.PostTimes", spec := "postTimes", unfollowed := true, recurses := true, apart := false }
def PostTimesSaid : Prop := postTimesRow.holds Try.pinned (OpenSpec.ofChange postTimesSpec)

/-- ITS FALSE NEIGHBOUR: 'it returns false'. Refute it at one input. -/
def postTimesWrong : ChangeSpec := { name := "postTimes", fn := fun _ => fun
  | [d1, d2] => { results := [.lit (.bool false)], args := [d1, d2] }
  | _ => none }
def PostTimesWrongFalsely : Prop := postTimesRow.holds Try.pinned (OpenSpec.ofChange postTimesWrong)

/-- 'renlaw23.PostDrops': WHATEVER THE INPUT: true; the input reads as it did. -/
def postDropsSpec : ChangeSpec := { name := "postDrops", fn := fun _ => fun
  | [d1, d2, d3] => { results := [.lit (.bool true)], args := [d1, d2, d3] }
  | _ => none }
def postDropsRow : OpenClaim := { program := "ytcjmapljcnmfaaa", sum := "2bcdec7202a848b0b07c10a3a267a7a98aa8038c4433c7cc696a600034b52be1", func := "rendezvous/renlaw23.PostDrops", spec := "postDrops", unfollowed := true, recurses := true, apart := false }
def PostDropsSaid : Prop := postDropsRow.holds Try.pinned (OpenSpec.ofChange postDropsSpec)

/-- ITS FALSE NEIGHBOUR: 'it returns false'. Refute it at one input. -/
def postDropsWrong : ChangeSpec := { name := "postDrops", fn := fun _ => fun
  | [d1, d2, d3] => { results := [.lit (.bool false)], args := [d1, d2, d3] }
  | _ => none }
def PostDropsWrongFalsely : Prop := postDropsRow.holds Try.pinned (OpenSpec.ofChange postDropsWrong)

/-- 'renlaw23.PostPlays': WHATEVER THE INPUT: true; the input reads as it did. -/
def postPlaysSpec : ChangeSpec := { name := "postPlays", fn := fun _ => fun
  | [d1, d2] => { results := [.lit (.bool true)], args := [d1, d2] }
  | _ => none }
def postPlaysRow : OpenClaim := { program := "ytcjmapljcnmfaaa", sum := "2bcdec7202a848b0b07c10a3a267a7a98aa8038c4433c7cc696a600034b52be1", func := "rendezvous/renlaw23.PostPlays", spec := "postPlays", unfollowed := true, recurses := true, apart := false }
def PostPlaysSaid : Prop := postPlaysRow.holds Try.pinned (OpenSpec.ofChange postPlaysSpec)

/-- ITS FALSE NEIGHBOUR: 'it returns false'. Refute it at one input. -/
def postPlaysWrong : ChangeSpec := { name := "postPlays", fn := fun _ => fun
  | [d1, d2] => { results := [.lit (.bool false)], args := [d1, d2] }
  | _ => none }
def PostPlaysWrongFalsely : Prop := postPlaysRow.holds Try.pinned (OpenSpec.ofChange postPlaysWrong)

/- THE SECOND FORM. 'bulk': how many values and letters a reading holds, each counted each time it is reached (what is shared counts as often as it is met; a slice's spare places count too). A statement '..UptoSaid' is the law's where the arguments, and the package variables that the reading takes, are together of bulk at most 1048576: NARROWER than '..Said'. Prove '..Said' where nothing that the law and all that it calls make is longer than what came in: it says more and counts as full. Else prove '..UptoSaid'. A law counts once. -/
mutual
def uptoBulk {H : Type} : DataW H → Nat
  | .lit (.string bytes) => bytes.length + 1
  | .lit _ => 1
  | .nil => 1
  | .ptr d => uptoBulk d + 1
  | .slice elems spare => uptoBulkAll elems + uptoBulkAll spare + 1
  | .agg parts => uptoBulkAll parts + 1
  | .iface _ d => uptoBulk d + 1
  | .map entries => uptoBulkEntries entries + 1
  | .held _ => 1
def uptoBulkAll {H : Type} : List (DataW H) → Nat
  | [] => 0
  | d :: r => uptoBulk d + uptoBulkAll r
def uptoBulkEntries {H : Type} : List (Lit × DataW H) → Nat
  | [] => 0
  | x :: r => uptoBulkEntry x + uptoBulkEntries r
def uptoBulkEntry {H : Type} : Lit × DataW H → Nat
  | (.string bytes, d) => bytes.length + uptoBulk d + 1
  | (_, d) => uptoBulk d + 1
 end
def uptoSmall : (H : Type) → List (DataW H) → Bool := fun _ ds => decide (uptoBulkAll ds ≤ 1048576)
def OpenSpec.upto (s : _root_.Go.ChangeSpec) : _root_.Go.OpenSpec := { _root_.Go.OpenSpec.ofChange s with cond := some uptoSmall }

/-- 'renlaw23.PostOnce', WHERE WHAT IT READS IS OF BULK AT MOST 1048576: true; the input reads as it did. -/
def postOnceUptoRow : OpenClaim := { program := "ytcjmapljcnmfaaa", sum := "2bcdec7202a848b0b07c10a3a267a7a98aa8038c4433c7cc696a600034b52be1", func := "rendezvous/renlaw23.PostOnce", spec := "postOnce", unfollowed := true, recurses := true, apart := false, narrowed := true }
def PostOnceUptoSaid : Prop := postOnceUptoRow.holds Try.pinned (OpenSpec.upto postOnceSpec)

/-- 'renlaw23.PostTimes', WHERE WHAT IT READS IS OF BULK AT MOST 1048576: true; the input reads as it did. -/
def postTimesUptoRow : OpenClaim := { program := "ytcjmapljcnmfaaa", sum := "2bcdec7202a848b0b07c10a3a267a7a98aa8038c4433c7cc696a600034b52be1", func := "rendezvous/renlaw23.PostTimes", spec := "postTimes", unfollowed := true, recurses := true, apart := false, narrowed := true }
def PostTimesUptoSaid : Prop := postTimesUptoRow.holds Try.pinned (OpenSpec.upto postTimesSpec)

/-- 'renlaw23.PostDrops', WHERE WHAT IT READS IS OF BULK AT MOST 1048576: true; the input reads as it did. -/
def postDropsUptoRow : OpenClaim := { program := "ytcjmapljcnmfaaa", sum := "2bcdec7202a848b0b07c10a3a267a7a98aa8038c4433c7cc696a600034b52be1", func := "rendezvous/renlaw23.PostDrops", spec := "postDrops", unfollowed := true, recurses := true, apart := false, narrowed := true }
def PostDropsUptoSaid : Prop := postDropsUptoRow.holds Try.pinned (OpenSpec.upto postDropsSpec)

/-- 'renlaw23.PostPlays', WHERE WHAT IT READS IS OF BULK AT MOST 1048576: true; the input reads as it did. -/
def postPlaysUptoRow : OpenClaim := { program := "ytcjmapljcnmfaaa", sum := "2bcdec7202a848b0b07c10a3a267a7a98aa8038c4433c7cc696a600034b52be1", func := "rendezvous/renlaw23.PostPlays", spec := "postPlays", unfollowed := true, recurses := true, apart := false, narrowed := true }
def PostPlaysUptoSaid : Prop := postPlaysUptoRow.holds Try.pinned (OpenSpec.upto postPlaysSpec)

end Rows
end Go.Proofs.Ytcjmapljcnmfaaa
