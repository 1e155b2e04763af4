/-
  No cell of these rows narrows 'for every input' (looked for: loops, veiled, ifaces, maps, wideKeys, modest, calm, conditions, laid).
  DERIVED. THE GIVEN ROWS OF THIS SEAT. 5 by the template 'for every input the law returns true; each argument reads behind the call as it read before'; 0 by the template 'total and deterministic' (their statements: YtefahijlcmfpjaaTotals.lean).
  GIVEN WITH THE SEED: the statements are not yours to turn. If you find one false, say at which input.
  Laid BY PROGRAM, IN A SANDBOX (cutbox-rows.mjs): the forced cells as the released guide's own fill.sh prints them over the translation c68b561d0636f295… (all of the seat's roots in one cut). By AI agents, Wed Nov 11 2026. No macro, syntax, notation, axiom, sorry.
-/
import Derived.Test.YtefahijlcmfpjaaChecked
import GoSem.Claim
import GoSem.ClaimJoined
import GoSem.ClaimMapViews
import Derived.JoinedTies
import Derived.KernelRfl
namespace Go.Proofs.Ytefahijlcmfpjaa
/- THE CELL 'sum', in the pinned program and in every row, IS THE sha256 OF THE DUMP (.gsa) THAT YtefahijlcmfpjaaProg.lean LOADS. Nothing in Lean hashes anything: it is a label: what it is worth is what the hold of that sum in a sandbox is worth. -/
noncomputable def Try.pinned : Pinned := { name := "ytefahijlcmfpjaa", sum := "c68b561d0636f2957133f5b7f4a3f13e09397dadbda864cc813d2888ecf05fa1", checked := Try.checked }
namespace Rows
def none {H : Type} : Left H := { results := [], args := [] }

/-- 'roundellaw05.TopoNews': WHATEVER THE INPUT: true; the input reads as it did. -/
def topoNewsSpec : ChangeSpec := { name := "topoNews", fn := fun _ => fun
  | [d] => { results := [.lit (.bool true)], args := [d] }
  | _ => none }
def topoNewsRow : OpenClaim := { program := "ytefahijlcmfpjaa", sum := "c68b561d0636f2957133f5b7f4a3f13e09397dadbda864cc813d2888ecf05fa1", func := "roundel/roundellaw05.TopoNews", spec := "topoNews", unfollowed := true, recurses := true, apart := false }
def TopoNewsSaid : Prop := topoNewsRow.holds Try.pinned (OpenSpec.ofChange topoNewsSpec)

/-- ITS FALSE NEIGHBOUR: 'it returns false'. Refute it at one input. -/
def topoNewsWrong : ChangeSpec := { name := "topoNews", fn := fun _ => fun
  | [d] => { results := [.lit (.bool false)], args := [d] }
  | _ => none }
def TopoNewsWrongFalsely : Prop := topoNewsRow.holds Try.pinned (OpenSpec.ofChange topoNewsWrong)

/-- 'roundellaw05.TopoPlays': WHATEVER THE INPUT: true; the input reads as it did. -/
def topoPlaysSpec : ChangeSpec := { name := "topoPlays", fn := fun _ => fun
  | [d1, d2] => { results := [.lit (.bool true)], args := [d1, d2] }
  | _ => none }
def topoPlaysRow : OpenClaim := { program := "ytefahijlcmfpjaa", sum := "c68b561d0636f2957133f5b7f4a3f13e09397dadbda864cc813d2888ecf05fa1", func := "roundel/roundellaw05.TopoPlays", spec := "topoPlays", unfollowed := true, recurses := true, apart := false }
def TopoPlaysSaid : Prop := topoPlaysRow.holds Try.pinned (OpenSpec.ofChange topoPlaysSpec)

/-- ITS FALSE NEIGHBOUR: 'it returns false'. Refute it at one input. -/
def topoPlaysWrong : ChangeSpec := { name := "topoPlays", fn := fun _ => fun
  | [d1, d2] => { results := [.lit (.bool false)], args := [d1, d2] }
  | _ => none }
def TopoPlaysWrongFalsely : Prop := topoPlaysRow.holds Try.pinned (OpenSpec.ofChange topoPlaysWrong)

/-- 'roundellaw05.TopoCopies': WHATEVER THE INPUT: true; the input reads as it did. -/
def topoCopiesSpec : ChangeSpec := { name := "topoCopies", fn := fun _ => fun
  | [d1, d2, d3] => { results := [.lit (.bool true)], args := [d1, d2, d3] }
  | _ => none }
def topoCopiesRow : OpenClaim := { program := "ytefahijlcmfpjaa", sum := "c68b561d0636f2957133f5b7f4a3f13e09397dadbda864cc813d2888ecf05fa1", func := "roundel/roundellaw05.TopoCopies", spec := "topoCopies", unfollowed := true, recurses := true, apart := false }
def TopoCopiesSaid : Prop := topoCopiesRow.holds Try.pinned (OpenSpec.ofChange topoCopiesSpec)

/-- ITS FALSE NEIGHBOUR: 'it returns false'. Refute it at one input. -/
def topoCopiesWrong : ChangeSpec := { name := "topoCopies", fn := fun _ => fun
  | [d1, d2, d3] => { results := [.lit (.bool false)], args := [d1, d2, d3] }
  | _ => none }
def TopoCopiesWrongFalsely : Prop := topoCopiesRow.holds Try.pinned (OpenSpec.ofChange topoCopiesWrong)

/-- 'roundellaw05.TopoParts': WHATEVER THE INPUT: true; the input reads as it did. -/
def topoPartsSpec : ChangeSpec := { name := "topoParts", fn := fun _ => fun
  | [d1, d2] => { results := [.lit (.bool true)], args := [d1, d2] }
  | _ => none }
def topoPartsRow : OpenClaim := { program := "ytefahijlcmfpjaa", sum := "c68b561d0636f2957133f5b7f4a3f13e09397dadbda864cc813d2888ecf05fa1", func := "roundel/roundellaw05.TopoParts", spec := "topoParts", unfollowed := true, recurses := true, apart := false }
def TopoPartsSaid : Prop := topoPartsRow.holds Try.pinned (OpenSpec.ofChange topoPartsSpec)

/-- ITS FALSE NEIGHBOUR: 'it returns false'. Refute it at one input. -/
def topoPartsWrong : ChangeSpec := { name := "topoParts", fn := fun _ => fun
  | [d1, d2] => { results := [.lit (.bool false)], args := [d1, d2] }
  | _ => none }
def TopoPartsWrongFalsely : Prop := topoPartsRow.holds Try.pinned (OpenSpec.ofChange topoPartsWrong)

/-- 'roundellaw05.TopoMasks': WHATEVER THE INPUT: true; the input reads as it did. -/
def topoMasksSpec : ChangeSpec := { name := "topoMasks", fn := fun _ => fun
  | [d1, d2, d3] => { results := [.lit (.bool true)], args := [d1, d2, d3] }
  | _ => none }
def topoMasksRow : OpenClaim := { program := "ytefahijlcmfpjaa", sum := "c68b561d0636f2957133f5b7f4a3f13e09397dadbda864cc813d2888ecf05fa1", func := "roundel/roundellaw05.TopoMasks", spec := "topoMasks", unfollowed := true, recurses := true, apart := false }
def TopoMasksSaid : Prop := topoMasksRow.holds Try.pinned (OpenSpec.ofChange topoMasksSpec)

/-- ITS FALSE NEIGHBOUR: 'it returns false'. Refute it at one input. -/
def topoMasksWrong : ChangeSpec := { name := "topoMasks", fn := fun _ => fun
  | [d1, d2, d3] => { results := [.lit (.bool false)], args := [d1, d2, d3] }
  | _ => none }
def TopoMasksWrongFalsely : Prop := topoMasksRow.holds Try.pinned (OpenSpec.ofChange topoMasksWrong)

/- THE SECOND FORM. 'bulk': how many values and letters a reading holds, each counted each time it is reached (what is shared counts as often as it is met; a slice's spare places count too). A statement '..UptoSaid' is the law's where the arguments, and the package variables that the reading takes, are together of bulk at most 1048576: NARROWER than '..Said'. Prove '..Said' where nothing that the law and all that it calls make is longer than what came in: it says more and counts as full. Else prove '..UptoSaid'. A law counts once. -/
mutual
def uptoBulk {H : Type} : DataW H → Nat
  | .lit (.string bytes) => bytes.length + 1
  | .lit _ => 1
  | .nil => 1
  | .ptr d => uptoBulk d + 1
  | .slice elems spare => uptoBulkAll elems + uptoBulkAll spare + 1
  | .agg parts => uptoBulkAll parts + 1
  | .iface _ d => uptoBulk d + 1
  | .map entries => uptoBulkEntries entries + 1
  | .held _ => 1
def uptoBulkAll {H : Type} : List (DataW H) → Nat
  | [] => 0
  | d :: r => uptoBulk d + uptoBulkAll r
def uptoBulkEntries {H : Type} : List (Lit × DataW H) → Nat
  | [] => 0
  | x :: r => uptoBulkEntry x + uptoBulkEntries r
def uptoBulkEntry {H : Type} : Lit × DataW H → Nat
  | (.string bytes, d) => bytes.length + uptoBulk d + 1
  | (_, d) => uptoBulk d + 1
 end
def uptoSmall : (H : Type) → List (DataW H) → Bool := fun _ ds => decide (uptoBulkAll ds ≤ 1048576)
def OpenSpec.upto (s : _root_.Go.ChangeSpec) : _root_.Go.OpenSpec := { _root_.Go.OpenSpec.ofChange s with cond := some uptoSmall }

/-- 'roundellaw05.TopoNews', WHERE WHAT IT READS IS OF BULK AT MOST 1048576: true; the input reads as it did. -/
def topoNewsUptoRow : OpenClaim := { program := "ytefahijlcmfpjaa", sum := "c68b561d0636f2957133f5b7f4a3f13e09397dadbda864cc813d2888ecf05fa1", func := "roundel/roundellaw05.TopoNews", spec := "topoNews", unfollowed := true, recurses := true, apart := false, narrowed := true }
def TopoNewsUptoSaid : Prop := topoNewsUptoRow.holds Try.pinned (OpenSpec.upto topoNewsSpec)

/-- 'roundellaw05.TopoPlays', WHERE WHAT IT READS IS OF BULK AT MOST 1048576: true; the input reads as it did. -/
def topoPlaysUptoRow : OpenClaim := { program := "ytefahijlcmfpjaa", sum := "c68b561d0636f2957133f5b7f4a3f13e09397dadbda864cc813d2888ecf05fa1", func := "roundel/roundellaw05.TopoPlays", spec := "topoPlays", unfollowed := true, recurses := true, apart := false, narrowed := true }
def TopoPlaysUptoSaid : Prop := topoPlaysUptoRow.holds Try.pinned (OpenSpec.upto topoPlaysSpec)

/-- 'roundellaw05.TopoCopies', WHERE WHAT IT READS IS OF BULK AT MOST 1048576: true; the input reads as it did. -/
def topoCopiesUptoRow : OpenClaim := { program := "ytefahijlcmfpjaa", sum := "c68b561d0636f2957133f5b7f4a3f13e09397dadbda864cc813d2888ecf05fa1", func := "roundel/roundellaw05.TopoCopies", spec := "topoCopies", unfollowed := true, recurses := true, apart := false, narrowed := true }
def TopoCopiesUptoSaid : Prop := topoCopiesUptoRow.holds Try.pinned (OpenSpec.upto topoCopiesSpec)

/-- 'roundellaw05.TopoParts', WHERE WHAT IT READS IS OF BULK AT MOST 1048576: true; the input reads as it did. -/
def topoPartsUptoRow : OpenClaim := { program := "ytefahijlcmfpjaa", sum := "c68b561d0636f2957133f5b7f4a3f13e09397dadbda864cc813d2888ecf05fa1", func := "roundel/roundellaw05.TopoParts", spec := "topoParts", unfollowed := true, recurses := true, apart := false, narrowed := true }
def TopoPartsUptoSaid : Prop := topoPartsUptoRow.holds Try.pinned (OpenSpec.upto topoPartsSpec)

/-- 'roundellaw05.TopoMasks', WHERE WHAT IT READS IS OF BULK AT MOST 1048576: true; the input reads as it did. -/
def topoMasksUptoRow : OpenClaim := { program := "ytefahijlcmfpjaa", sum := "c68b561d0636f2957133f5b7f4a3f13e09397dadbda864cc813d2888ecf05fa1", func := "roundel/roundellaw05.TopoMasks", spec := "topoMasks", unfollowed := true, recurses := true, apart := false, narrowed := true }
def TopoMasksUptoSaid : Prop := topoMasksUptoRow.holds Try.pinned (OpenSpec.upto topoMasksSpec)

end Rows
end Go.Proofs.Ytefahijlcmfpjaa
