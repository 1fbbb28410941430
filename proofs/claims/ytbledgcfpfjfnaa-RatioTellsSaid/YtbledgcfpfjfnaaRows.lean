/-
  No cell of these rows narrows 'for every input' (looked for: loops, veiled, ifaces, maps, wideKeys, modest, calm, conditions, laid).
  DERIVED. THE GIVEN ROWS OF THIS SEAT. 7 by the template 'for every input the law returns true; each argument reads behind the call as it read before'; 0 by the template 'total and deterministic' (their statements: YtbledgcfpfjfnaaTotals.lean).
  GIVEN WITH THE SEED: the statements are not yours to turn. If you find one false, say at which input.
  Laid BY PROGRAM, IN A SANDBOX (cutbox-rows.mjs): the forced cells as the released guide's own fill.sh prints them over the translation 4f5a09c63fe18695… (all of the seat's roots in one cut). By AI agents, Wed Nov 11 2026. No macro, syntax, notation, axiom, sorry.
-/
import Derived.Test.YtbledgcfpfjfnaaChecked
import GoSem.Claim
import GoSem.ClaimJoined
import GoSem.ClaimMapViews
import Derived.JoinedTies
import Derived.KernelRfl
namespace Go.Proofs.Ytbledgcfpfjfnaa
/- THE CELL 'sum', in the pinned program and in every row, IS THE sha256 OF THE DUMP (.gsa) THAT YtbledgcfpfjfnaaProg.lean LOADS. Nothing in Lean hashes anything: it is a label: what it is worth is what the hold of that sum in a sandbox is worth. -/
noncomputable def Try.pinned : Pinned := { name := "ytbledgcfpfjfnaa", sum := "4f5a09c63fe1869565cc951e48f7d51787d9fd50fc9e473a411d5c3d3b72a1e1", checked := Try.checked }
namespace Rows
def none {H : Type} : Left H := { results := [], args := [] }

/-- 'marigoldlaw01.RatioGrows': WHATEVER THE INPUT: true; the input reads as it did. -/
def ratioGrowsSpec : ChangeSpec := { name := "ratioGrows", fn := fun _ => fun
  | [d1, d2, d3, d4, d5] => { results := [.lit (.bool true)], args := [d1, d2, d3, d4, d5] }
  | _ => none }
def ratioGrowsRow : OpenClaim := { program := "ytbledgcfpfjfnaa", sum := "4f5a09c63fe1869565cc951e48f7d51787d9fd50fc9e473a411d5c3d3b72a1e1", func := "marigold/marigoldlaw01.RatioGrows", spec := "ratioGrows", unfollowed := true, recurses := true, apart := false }
def RatioGrowsSaid : Prop := ratioGrowsRow.holds Try.pinned (OpenSpec.ofChange ratioGrowsSpec)

/-- ITS FALSE NEIGHBOUR: 'it returns false'. Refute it at one input. -/
def ratioGrowsWrong : ChangeSpec := { name := "ratioGrows", fn := fun _ => fun
  | [d1, d2, d3, d4, d5] => { results := [.lit (.bool false)], args := [d1, d2, d3, d4, d5] }
  | _ => none }
def RatioGrowsWrongFalsely : Prop := ratioGrowsRow.holds Try.pinned (OpenSpec.ofChange ratioGrowsWrong)

/-- 'marigoldlaw01.RatioThree': WHATEVER THE INPUT: true; the input reads as it did. -/
def ratioThreeSpec : ChangeSpec := { name := "ratioThree", fn := fun _ => fun
  | [d1, d2, d3, d4, d5, d6] => { results := [.lit (.bool true)], args := [d1, d2, d3, d4, d5, d6] }
  | _ => none }
def ratioThreeRow : OpenClaim := { program := "ytbledgcfpfjfnaa", sum := "4f5a09c63fe1869565cc951e48f7d51787d9fd50fc9e473a411d5c3d3b72a1e1", func := "marigold/marigoldlaw01.RatioThree", spec := "ratioThree", unfollowed := true, recurses := true, apart := false }
def RatioThreeSaid : Prop := ratioThreeRow.holds Try.pinned (OpenSpec.ofChange ratioThreeSpec)

/-- ITS FALSE NEIGHBOUR: 'it returns false'. Refute it at one input. -/
def ratioThreeWrong : ChangeSpec := { name := "ratioThree", fn := fun _ => fun
  | [d1, d2, d3, d4, d5, d6] => { results := [.lit (.bool false)], args := [d1, d2, d3, d4, d5, d6] }
  | _ => none }
def RatioThreeWrongFalsely : Prop := ratioThreeRow.holds Try.pinned (OpenSpec.ofChange ratioThreeWrong)

/-- 'marigoldlaw01.RatioTells': WHATEVER THE INPUT: true; the input reads as it did. -/
def ratioTellsSpec : ChangeSpec := { name := "ratioTells", fn := fun _ => fun
  | [d1, d2, d3, d4] => { results := [.lit (.bool true)], args := [d1, d2, d3, d4] }
  | _ => none }
def ratioTellsRow : OpenClaim := { program := "ytbledgcfpfjfnaa", sum := "4f5a09c63fe1869565cc951e48f7d51787d9fd50fc9e473a411d5c3d3b72a1e1", func := "marigold/marigoldlaw01.RatioTells", spec := "ratioTells", unfollowed := true, recurses := true, apart := false }
def RatioTellsSaid : Prop := ratioTellsRow.holds Try.pinned (OpenSpec.ofChange ratioTellsSpec)

/-- ITS FALSE NEIGHBOUR: 'it returns false'. Refute it at one input. -/
def ratioTellsWrong : ChangeSpec := { name := "ratioTells", fn := fun _ => fun
  | [d1, d2, d3, d4] => { results := [.lit (.bool false)], args := [d1, d2, d3, d4] }
  | _ => none }
def RatioTellsWrongFalsely : Prop := ratioTellsRow.holds Try.pinned (OpenSpec.ofChange ratioTellsWrong)

/-- 'marigoldlaw01.RatioOne': WHATEVER THE INPUT: true; the input reads as it did. -/
def ratioOneSpec : ChangeSpec := { name := "ratioOne", fn := fun _ => fun
  | [d1, d2, d3, d4] => { results := [.lit (.bool true)], args := [d1, d2, d3, d4] }
  | _ => none }
def ratioOneRow : OpenClaim := { program := "ytbledgcfpfjfnaa", sum := "4f5a09c63fe1869565cc951e48f7d51787d9fd50fc9e473a411d5c3d3b72a1e1", func := "marigold/marigoldlaw01.RatioOne", spec := "ratioOne", unfollowed := true, recurses := true, apart := false }
def RatioOneSaid : Prop := ratioOneRow.holds Try.pinned (OpenSpec.ofChange ratioOneSpec)

/-- ITS FALSE NEIGHBOUR: 'it returns false'. Refute it at one input. -/
def ratioOneWrong : ChangeSpec := { name := "ratioOne", fn := fun _ => fun
  | [d1, d2, d3, d4] => { results := [.lit (.bool false)], args := [d1, d2, d3, d4] }
  | _ => none }
def RatioOneWrongFalsely : Prop := ratioOneRow.holds Try.pinned (OpenSpec.ofChange ratioOneWrong)

/-- 'marigoldlaw01.RatioSums': WHATEVER THE INPUT: true; the input reads as it did. -/
def ratioSumsSpec : ChangeSpec := { name := "ratioSums", fn := fun _ => fun
  | [d1, d2, d3] => { results := [.lit (.bool true)], args := [d1, d2, d3] }
  | _ => none }
def ratioSumsRow : OpenClaim := { program := "ytbledgcfpfjfnaa", sum := "4f5a09c63fe1869565cc951e48f7d51787d9fd50fc9e473a411d5c3d3b72a1e1", func := "marigold/marigoldlaw01.RatioSums", spec := "ratioSums", unfollowed := true, recurses := true, apart := false }
def RatioSumsSaid : Prop := ratioSumsRow.holds Try.pinned (OpenSpec.ofChange ratioSumsSpec)

/-- ITS FALSE NEIGHBOUR: 'it returns false'. Refute it at one input. -/
def ratioSumsWrong : ChangeSpec := { name := "ratioSums", fn := fun _ => fun
  | [d1, d2, d3] => { results := [.lit (.bool false)], args := [d1, d2, d3] }
  | _ => none }
def RatioSumsWrongFalsely : Prop := ratioSumsRow.holds Try.pinned (OpenSpec.ofChange ratioSumsWrong)

/-- 'marigoldlaw01.RatioSplits': WHATEVER THE INPUT: true; the input reads as it did. -/
def ratioSplitsSpec : ChangeSpec := { name := "ratioSplits", fn := fun _ => fun
  | [d1, d2, d3] => { results := [.lit (.bool true)], args := [d1, d2, d3] }
  | _ => none }
def ratioSplitsRow : OpenClaim := { program := "ytbledgcfpfjfnaa", sum := "4f5a09c63fe1869565cc951e48f7d51787d9fd50fc9e473a411d5c3d3b72a1e1", func := "marigold/marigoldlaw01.RatioSplits", spec := "ratioSplits", unfollowed := true, recurses := true, apart := false }
def RatioSplitsSaid : Prop := ratioSplitsRow.holds Try.pinned (OpenSpec.ofChange ratioSplitsSpec)

/-- ITS FALSE NEIGHBOUR: 'it returns false'. Refute it at one input. -/
def ratioSplitsWrong : ChangeSpec := { name := "ratioSplits", fn := fun _ => fun
  | [d1, d2, d3] => { results := [.lit (.bool false)], args := [d1, d2, d3] }
  | _ => none }
def RatioSplitsWrongFalsely : Prop := ratioSplitsRow.holds Try.pinned (OpenSpec.ofChange ratioSplitsWrong)

/-- 'marigoldlaw01.RatioOnes': WHATEVER THE INPUT: true; the input reads as it did. -/
def ratioOnesSpec : ChangeSpec := { name := "ratioOnes", fn := fun _ => fun
  | [d1, d2] => { results := [.lit (.bool true)], args := [d1, d2] }
  | _ => none }
def ratioOnesRow : OpenClaim := { program := "ytbledgcfpfjfnaa", sum := "4f5a09c63fe1869565cc951e48f7d51787d9fd50fc9e473a411d5c3d3b72a1e1", func := "marigold/marigoldlaw01.RatioOnes", spec := "ratioOnes", unfollowed := true, recurses := true, apart := false }
def RatioOnesSaid : Prop := ratioOnesRow.holds Try.pinned (OpenSpec.ofChange ratioOnesSpec)

/-- ITS FALSE NEIGHBOUR: 'it returns false'. Refute it at one input. -/
def ratioOnesWrong : ChangeSpec := { name := "ratioOnes", fn := fun _ => fun
  | [d1, d2] => { results := [.lit (.bool false)], args := [d1, d2] }
  | _ => none }
def RatioOnesWrongFalsely : Prop := ratioOnesRow.holds Try.pinned (OpenSpec.ofChange ratioOnesWrong)

/- THE SECOND FORM. 'bulk': how many values and letters a reading holds, each counted each time it is reached (what is shared counts as often as it is met; a slice's spare places count too). A statement '..UptoSaid' is the law's where the arguments, and the package variables that the reading takes, are together of bulk at most 1048576: NARROWER than '..Said'. Prove '..Said' where nothing that the law and all that it calls make is longer than what came in: it says more and counts as full. Else prove '..UptoSaid'. A law counts once. -/
mutual
def uptoBulk {H : Type} : DataW H → Nat
  | .lit (.string bytes) => bytes.length + 1
  | .lit _ => 1
  | .nil => 1
  | .ptr d => uptoBulk d + 1
  | .slice elems spare => uptoBulkAll elems + uptoBulkAll spare + 1
  | .agg parts => uptoBulkAll parts + 1
  | .iface _ d => uptoBulk d + 1
  | .map entries => uptoBulkEntries entries + 1
  | .held _ => 1
def uptoBulkAll {H : Type} : List (DataW H) → Nat
  | [] => 0
  | d :: r => uptoBulk d + uptoBulkAll r
def uptoBulkEntries {H : Type} : List (Lit × DataW H) → Nat
  | [] => 0
  | x :: r => uptoBulkEntry x + uptoBulkEntries r
def uptoBulkEntry {H : Type} : Lit × DataW H → Nat
  | (.string bytes, d) => bytes.length + uptoBulk d + 1
  | (_, d) => uptoBulk d + 1
 end
def uptoSmall : (H : Type) → List (DataW H) → Bool := fun _ ds => decide (uptoBulkAll ds ≤ 1048576)
def OpenSpec.upto (s : _root_.Go.ChangeSpec) : _root_.Go.OpenSpec := { _root_.Go.OpenSpec.ofChange s with cond := some uptoSmall }

/-- 'marigoldlaw01.RatioGrows', WHERE WHAT IT READS IS OF BULK AT MOST 1048576: true; the input reads as it did. -/
def ratioGrowsUptoRow : OpenClaim := { program := "ytbledgcfpfjfnaa", sum := "4f5a09c63fe1869565cc951e48f7d51787d9fd50fc9e473a411d5c3d3b72a1e1", func := "marigold/marigoldlaw01.RatioGrows", spec := "ratioGrows", unfollowed := true, recurses := true, apart := false, narrowed := true }
def RatioGrowsUptoSaid : Prop := ratioGrowsUptoRow.holds Try.pinned (OpenSpec.upto ratioGrowsSpec)

/-- 'marigoldlaw01.RatioThree', WHERE WHAT IT READS IS OF BULK AT MOST 1048576: true; the input reads as it did. -/
def ratioThreeUptoRow : OpenClaim := { program := "ytbledgcfpfjfnaa", sum := "4f5a09c63fe1869565cc951e48f7d51787d9fd50fc9e473a411d5c3d3b72a1e1", func := "marigold/marigoldlaw01.RatioThree", spec := "ratioThree", unfollowed := true, recurses := true, apart := false, narrowed := true }
def RatioThreeUptoSaid : Prop := ratioThreeUptoRow.holds Try.pinned (OpenSpec.upto ratioThreeSpec)

/-- 'marigoldlaw01.RatioTells', WHERE WHAT IT READS IS OF BULK AT MOST 1048576: true; the input reads as it did. -/
def ratioTellsUptoRow : OpenClaim := { program := "ytbledgcfpfjfnaa", sum := "4f5a09c63fe1869565cc951e48f7d51787d9fd50fc9e473a411d5c3d3b72a1e1", func := "marigold/marigoldlaw01.RatioTells", spec := "ratioTells", unfollowed := true, recurses := true, apart := false, narrowed := true }
def RatioTellsUptoSaid : Prop := ratioTellsUptoRow.holds Try.pinned (OpenSpec.upto ratioTellsSpec)

/-- 'marigoldlaw01.RatioOne', WHERE WHAT IT READS IS OF BULK AT MOST 1048576: true; the input reads as it did. -/
def ratioOneUptoRow : OpenClaim := { program := "ytbledgcfpfjfnaa", sum := "4f5a09c63fe1869565cc951e48f7d51787d9fd50fc9e473a411d5c3d3b72a1e1", func := "marigold/marigoldlaw01.RatioOne", spec := "ratioOne", unfollowed := true, recurses := true, apart := false, narrowed := true }
def RatioOneUptoSaid : Prop := ratioOneUptoRow.holds Try.pinned (OpenSpec.upto ratioOneSpec)

/-- 'marigoldlaw01.RatioSums', WHERE WHAT IT READS IS OF BULK AT MOST 1048576: true; the input reads as it did. -/
def ratioSumsUptoRow : OpenClaim := { program := "ytbledgcfpfjfnaa", sum := "4f5a09c63fe1869565cc951e48f7d51787d9fd50fc9e473a411d5c3d3b72a1e1", func := "marigold/marigoldlaw01.RatioSums", spec := "ratioSums", unfollowed := true, recurses := true, apart := false, narrowed := true }
def RatioSumsUptoSaid : Prop := ratioSumsUptoRow.holds Try.pinned (OpenSpec.upto ratioSumsSpec)

/-- 'marigoldlaw01.RatioSplits', WHERE WHAT IT READS IS OF BULK AT MOST 1048576: true; the input reads as it did. -/
def ratioSplitsUptoRow : OpenClaim := { program := "ytbledgcfpfjfnaa", sum := "4f5a09c63fe1869565cc951e48f7d51787d9fd50fc9e473a411d5c3d3b72a1e1", func := "marigold/marigoldlaw01.RatioSplits", spec := "ratioSplits", unfollowed := true, recurses := true, apart := false, narrowed := true }
def RatioSplitsUptoSaid : Prop := ratioSplitsUptoRow.holds Try.pinned (OpenSpec.upto ratioSplitsSpec)

/-- 'marigoldlaw01.RatioOnes', WHERE WHAT IT READS IS OF BULK AT MOST 1048576: true; the input reads as it did. -/
def ratioOnesUptoRow : OpenClaim := { program := "ytbledgcfpfjfnaa", sum := "4f5a09c63fe1869565cc951e48f7d51787d9fd50fc9e473a411d5c3d3b72a1e1", func := "marigold/marigoldlaw01.RatioOnes", spec := "ratioOnes", unfollowed := true, recurses := true, apart := false, narrowed := true }
def RatioOnesUptoSaid : Prop := ratioOnesUptoRow.holds Try.pinned (OpenSpec.upto ratioOnesSpec)

end Rows
end Go.Proofs.Ytbledgcfpfjfnaa
