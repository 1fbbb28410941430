/-
  No cell of these rows narrows 'for every input' (looked for: loops, veiled, ifaces, maps, wideKeys, modest, calm, conditions, laid).
  DERIVED. THE GIVEN ROWS OF THIS SEAT. 6 by the template 'for every input the law returns true; each argument reads behind the call as it read before'; 0 by the template 'total and deterministic' (their statements: YtpjkjcecbhfgoaaTotals.lean).
  GIVEN WITH THE SEED: the statements are not yours to turn. If you find one false, say at which input.
  Laid BY PROGRAM, IN A SANDBOX (cutbox-rows.mjs): the forced cells as the released guide's own fill.sh prints them over the translation 1eac60b2dc996e0a… (all of the seat's roots in one cut). By AI agents, Wed Nov 11 2026. No macro, syntax, notation, axiom, sorry.
-/
import Derived.Test.YtpjkjcecbhfgoaaChecked
import GoSem.Claim
import GoSem.ClaimJoined
import GoSem.ClaimMapViews
import Derived.JoinedTies
import Derived.KernelRfl
namespace Go.Proofs.Ytpjkjcecbhfgoaa
/- THE CELL 'sum', in the pinned program and in every row, IS THE sha256 OF THE DUMP (.gsa) THAT YtpjkjcecbhfgoaaProg.lean LOADS. Nothing in Lean hashes anything: it is a label: what it is worth is what the hold of that sum in a sandbox is worth. -/
noncomputable def Try.pinned : Pinned := { name := "ytpjkjcecbhfgoaa", sum := "1eac60b2dc996e0a596bf5756d830dd4d6588b2cf45fd6ba64843fc18c51342b", checked := Try.checked }
namespace Rows
def none {H : Type} : Left H := { results := [], args := [] }

/-- 'marigoldlaw03.WireSlots': WHATEVER THE INPUT: true; the input reads as it did. -/
def wireSlotsSpec : ChangeSpec := { name := "wireSlots", fn := fun _ => fun
  | [d] => { results := [.lit (.bool true)], args := [d] }
  | _ => none }
def wireSlotsRow : OpenClaim := { program := "ytpjkjcecbhfgoaa", sum := "1eac60b2dc996e0a596bf5756d830dd4d6588b2cf45fd6ba64843fc18c51342b", func := "marigold/marigoldlaw03.WireSlots", spec := "wireSlots", unfollowed := true, recurses := true, apart := false }
def WireSlotsSaid : Prop := wireSlotsRow.holds Try.pinned (OpenSpec.ofChange wireSlotsSpec)

/-- ITS FALSE NEIGHBOUR: 'it returns false'. Refute it at one input. -/
def wireSlotsWrong : ChangeSpec := { name := "wireSlots", fn := fun _ => fun
  | [d] => { results := [.lit (.bool false)], args := [d] }
  | _ => none }
def WireSlotsWrongFalsely : Prop := wireSlotsRow.holds Try.pinned (OpenSpec.ofChange wireSlotsWrong)

/-- 'marigoldlaw03.WireTells': WHATEVER THE INPUT: true; the input reads as it did. -/
def wireTellsSpec : ChangeSpec := { name := "wireTells", fn := fun _ => fun
  | [d1, d2, d3] => { results := [.lit (.bool true)], args := [d1, d2, d3] }
  | _ => none }
def wireTellsRow : OpenClaim := { program := "ytpjkjcecbhfgoaa", sum := "1eac60b2dc996e0a596bf5756d830dd4d6588b2cf45fd6ba64843fc18c51342b", func := "marigold/marigoldlaw03.WireTells", spec := "wireTells", unfollowed := true, recurses := true, apart := false }
def WireTellsSaid : Prop := wireTellsRow.holds Try.pinned (OpenSpec.ofChange wireTellsSpec)

/-- ITS FALSE NEIGHBOUR: 'it returns false'. Refute it at one input. -/
def wireTellsWrong : ChangeSpec := { name := "wireTells", fn := fun _ => fun
  | [d1, d2, d3] => { results := [.lit (.bool false)], args := [d1, d2, d3] }
  | _ => none }
def WireTellsWrongFalsely : Prop := wireTellsRow.holds Try.pinned (OpenSpec.ofChange wireTellsWrong)

/-- 'marigoldlaw03.WireBack': WHATEVER THE INPUT: true; the input reads as it did. -/
def wireBackSpec : ChangeSpec := { name := "wireBack", fn := fun _ => fun
  | [d1, d2, d3] => { results := [.lit (.bool true)], args := [d1, d2, d3] }
  | _ => none }
def wireBackRow : OpenClaim := { program := "ytpjkjcecbhfgoaa", sum := "1eac60b2dc996e0a596bf5756d830dd4d6588b2cf45fd6ba64843fc18c51342b", func := "marigold/marigoldlaw03.WireBack", spec := "wireBack", unfollowed := true, recurses := true, apart := false }
def WireBackSaid : Prop := wireBackRow.holds Try.pinned (OpenSpec.ofChange wireBackSpec)

/-- ITS FALSE NEIGHBOUR: 'it returns false'. Refute it at one input. -/
def wireBackWrong : ChangeSpec := { name := "wireBack", fn := fun _ => fun
  | [d1, d2, d3] => { results := [.lit (.bool false)], args := [d1, d2, d3] }
  | _ => none }
def WireBackWrongFalsely : Prop := wireBackRow.holds Try.pinned (OpenSpec.ofChange wireBackWrong)

/-- 'marigoldlaw03.WireCut': WHATEVER THE INPUT: true; the input reads as it did. -/
def wireCutSpec : ChangeSpec := { name := "wireCut", fn := fun _ => fun
  | [d1, d2, d3] => { results := [.lit (.bool true)], args := [d1, d2, d3] }
  | _ => none }
def wireCutRow : OpenClaim := { program := "ytpjkjcecbhfgoaa", sum := "1eac60b2dc996e0a596bf5756d830dd4d6588b2cf45fd6ba64843fc18c51342b", func := "marigold/marigoldlaw03.WireCut", spec := "wireCut", unfollowed := true, recurses := true, apart := false }
def WireCutSaid : Prop := wireCutRow.holds Try.pinned (OpenSpec.ofChange wireCutSpec)

/-- ITS FALSE NEIGHBOUR: 'it returns false'. Refute it at one input. -/
def wireCutWrong : ChangeSpec := { name := "wireCut", fn := fun _ => fun
  | [d1, d2, d3] => { results := [.lit (.bool false)], args := [d1, d2, d3] }
  | _ => none }
def WireCutWrongFalsely : Prop := wireCutRow.holds Try.pinned (OpenSpec.ofChange wireCutWrong)

/-- 'marigoldlaw03.WireApart': WHATEVER THE INPUT: true; the input reads as it did. -/
def wireApartSpec : ChangeSpec := { name := "wireApart", fn := fun _ => fun
  | [d1, d2, d3, d4] => { results := [.lit (.bool true)], args := [d1, d2, d3, d4] }
  | _ => none }
def wireApartRow : OpenClaim := { program := "ytpjkjcecbhfgoaa", sum := "1eac60b2dc996e0a596bf5756d830dd4d6588b2cf45fd6ba64843fc18c51342b", func := "marigold/marigoldlaw03.WireApart", spec := "wireApart", unfollowed := true, recurses := true, apart := false }
def WireApartSaid : Prop := wireApartRow.holds Try.pinned (OpenSpec.ofChange wireApartSpec)

/-- ITS FALSE NEIGHBOUR: 'it returns false'. Refute it at one input. -/
def wireApartWrong : ChangeSpec := { name := "wireApart", fn := fun _ => fun
  | [d1, d2, d3, d4] => { results := [.lit (.bool false)], args := [d1, d2, d3, d4] }
  | _ => none }
def WireApartWrongFalsely : Prop := wireApartRow.holds Try.pinned (OpenSpec.ofChange wireApartWrong)

/-- 'marigoldlaw03.WireLens': WHATEVER THE INPUT: true; the input reads as it did. -/
def wireLensSpec : ChangeSpec := { name := "wireLens", fn := fun _ => fun
  | [d1, d2] => { results := [.lit (.bool true)], args := [d1, d2] }
  | _ => none }
def wireLensRow : OpenClaim := { program := "ytpjkjcecbhfgoaa", sum := "1eac60b2dc996e0a596bf5756d830dd4d6588b2cf45fd6ba64843fc18c51342b", func := "marigold/marigoldlaw03.WireLens", spec := "wireLens", unfollowed := true, recurses := true, apart := false }
def WireLensSaid : Prop := wireLensRow.holds Try.pinned (OpenSpec.ofChange wireLensSpec)

/-- ITS FALSE NEIGHBOUR: 'it returns false'. Refute it at one input. -/
def wireLensWrong : ChangeSpec := { name := "wireLens", fn := fun _ => fun
  | [d1, d2] => { results := [.lit (.bool false)], args := [d1, d2] }
  | _ => none }
def WireLensWrongFalsely : Prop := wireLensRow.holds Try.pinned (OpenSpec.ofChange wireLensWrong)

/- THE SECOND FORM. 'bulk': how many values and letters a reading holds, each counted each time it is reached (what is shared counts as often as it is met; a slice's spare places count too). A statement '..UptoSaid' is the law's where the arguments, and the package variables that the reading takes, are together of bulk at most 1048576: NARROWER than '..Said'. Prove '..Said' where nothing that the law and all that it calls make is longer than what came in: it says more and counts as full. Else prove '..UptoSaid'. A law counts once. -/
mutual
def uptoBulk {H : Type} : DataW H → Nat
  | .lit (.string bytes) => bytes.length + 1
  | .lit _ => 1
  | .nil => 1
  | .ptr d => uptoBulk d + 1
  | .slice elems spare => uptoBulkAll elems + uptoBulkAll spare + 1
  | .agg parts => uptoBulkAll parts + 1
  | .iface _ d => uptoBulk d + 1
  | .map entries => uptoBulkEntries entries + 1
  | .held _ => 1
def uptoBulkAll {H : Type} : List (DataW H) → Nat
  | [] => 0
  | d :: r => uptoBulk d + uptoBulkAll r
def uptoBulkEntries {H : Type} : List (Lit × DataW H) → Nat
  | [] => 0
  | x :: r => uptoBulkEntry x + uptoBulkEntries r
def uptoBulkEntry {H : Type} : Lit × DataW H → Nat
  | (.string bytes, d) => bytes.length + uptoBulk d + 1
  | (_, d) => uptoBulk d + 1
 end
def uptoSmall : (H : Type) → List (DataW H) → Bool := fun _ ds => decide (uptoBulkAll ds ≤ 1048576)
def OpenSpec.upto (s : _root_.Go.ChangeSpec) : _root_.Go.OpenSpec := { _root_.Go.OpenSpec.ofChange s with cond := some uptoSmall }

/-- 'marigoldlaw03.WireSlots', WHERE WHAT IT READS IS OF BULK AT MOST 1048576: true; the input reads as it did. -/
def wireSlotsUptoRow : OpenClaim := { program := "ytpjkjcecbhfgoaa", sum := "1eac60b2dc996e0a596bf5756d830dd4d6588b2cf45fd6ba64843fc18c51342b", func := "marigold/marigoldlaw03.WireSlots", spec := "wireSlots", unfollowed := true, recurses := true, apart := false, narrowed := true }
def WireSlotsUptoSaid : Prop := wireSlotsUptoRow.holds Try.pinned (OpenSpec.upto wireSlotsSpec)

/-- 'marigoldlaw03.WireTells', WHERE WHAT IT READS IS OF BULK AT MOST 1048576: true; the input reads as it did. -/
def wireTellsUptoRow : OpenClaim := { program := "ytpjkjcecbhfgoaa", sum := "1eac60b2dc996e0a596bf5756d830dd4d6588b2cf45fd6ba64843fc18c51342b", func := "marigold/marigoldlaw03.WireTells", spec := "wireTells", unfollowed := true, recurses := true, apart := false, narrowed := true }
def WireTellsUptoSaid : Prop := wireTellsUptoRow.holds Try.pinned (OpenSpec.upto wireTellsSpec)

/-- 'marigoldlaw03.WireBack', WHERE WHAT IT READS IS OF BULK AT MOST 1048576: true; the input reads as it did. -/
def wireBackUptoRow : OpenClaim := { program := "ytpjkjcecbhfgoaa", sum := "1eac60b2dc996e0a596bf5756d830dd4d6588b2cf45fd6ba64843fc18c51342b", func := "marigold/marigoldlaw03.WireBack", spec := "wireBack", unfollowed := true, recurses := true, apart := false, narrowed := true }
def WireBackUptoSaid : Prop := wireBackUptoRow.holds Try.pinned (OpenSpec.upto wireBackSpec)

/-- 'marigoldlaw03.WireCut', WHERE WHAT IT READS IS OF BULK AT MOST 1048576: true; the input reads as it did. -/
def wireCutUptoRow : OpenClaim := { program := "ytpjkjcecbhfgoaa", sum := "1eac60b2dc996e0a596bf5756d830dd4d6588b2cf45fd6ba64843fc18c51342b", func := "marigold/marigoldlaw03.WireCut", spec := "wireCut", unfollowed := true, recurses := true, apart := false, narrowed := true }
def WireCutUptoSaid : Prop := wireCutUptoRow.holds Try.pinned (OpenSpec.upto wireCutSpec)

/-- 'marigoldlaw03.WireApart', WHERE WHAT IT READS IS OF BULK AT MOST 1048576: true; the input reads as it did. -/
def wireApartUptoRow : OpenClaim := { program := "ytpjkjcecbhfgoaa", sum := "1eac60b2dc996e0a596bf5756d830dd4d6588b2cf45fd6ba64843fc18c51342b", func := "marigold/marigoldlaw03.WireApart", spec := "wireApart", unfollowed := true, recurses := true, apart := false, narrowed := true }
def WireApartUptoSaid : Prop := wireApartUptoRow.holds Try.pinned (OpenSpec.upto wireApartSpec)

/-- 'marigoldlaw03.WireLens', WHERE WHAT IT READS IS OF BULK AT MOST 1048576: true; the input reads as it did. -/
def wireLensUptoRow : OpenClaim := { program := "ytpjkjcecbhfgoaa", sum := "1eac60b2dc996e0a596bf5756d830dd4d6588b2cf45fd6ba64843fc18c51342b", func := "marigold/marigoldlaw03.WireLens", spec := "wireLens", unfollowed := true, recurses := true, apart := false, narrowed := true }
def WireLensUptoSaid : Prop := wireLensUptoRow.holds Try.pinned (OpenSpec.upto wireLensSpec)

end Rows
end Go.Proofs.Ytpjkjcecbhfgoaa
