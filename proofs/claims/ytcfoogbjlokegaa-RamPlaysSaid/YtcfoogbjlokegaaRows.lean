/-
  No cell of these rows narrows 'for every input' (looked for: loops, veiled, ifaces, maps, wideKeys, modest, calm, conditions, laid).
  DERIVED. THE GIVEN ROWS OF THIS SEAT. 11 by the template 'for every input the law returns true; each argument reads behind the call as it read before'; 0 by the template 'total and deterministic' (their statements: YtcfoogbjlokegaaTotals.lean).
  GIVEN WITH THE SEED: the statements are not yours to turn. If you find one false, say at which input.
  Laid BY PROGRAM, IN A SANDBOX (cutbox-rows.mjs): the forced cells as the released guide's own fill.sh prints them over the translation 69c0c101d18f7bd9… (all of the seat's roots in one cut). By AI agents, Wed Nov 11 2026. No macro, syntax, notation, axiom, sorry.
-/
import Derived.Test.YtcfoogbjlokegaaChecked
import GoSem.Claim
import GoSem.ClaimJoined
import GoSem.ClaimMapViews
import Derived.JoinedTies
import Derived.KernelRfl
namespace Go.Proofs.Ytcfoogbjlokegaa
/- THE CELL 'sum', in the pinned program and in every row, IS THE sha256 OF THE DUMP (.gsa) THAT YtcfoogbjlokegaaProg.lean LOADS. Nothing in Lean hashes anything: it is a label: what it is worth is what the hold of that sum in a sandbox is worth. -/
noncomputable def Try.pinned : Pinned := { name := "ytcfoogbjlokegaa", sum := "69c0c101d18f7bd98b4da487832a1fd300edd78435fc9720ef22a9955f83d887", checked := Try.checked }
namespace Rows
def none {H : Type} : Left H := { results := [], args := [] }

/-- 'innkeeperlaw6.NestedApart': WHATEVER THE INPUT: true; the input reads as it did. -/
def nestedApartSpec : ChangeSpec := { name := "nestedApart", fn := fun _ => fun
  | [d1, d2] => { results := [.lit (.bool true)], args := [d1, d2] }
  | _ => none }
def nestedApartRow : OpenClaim := { program := "ytcfoogbjlokegaa", sum := "69c0c101d18f7bd98b4da487832a1fd300edd78435fc9720ef22a9955f83d887", func := "innkeeper/innkeeperlaw6.NestedApart", spec := "nestedApart", apart := false }
def NestedApartSaid : Prop := nestedApartRow.holds Try.pinned (OpenSpec.ofChange nestedApartSpec)

/-- ITS FALSE NEIGHBOUR: 'it returns false'. Refute it at one input. -/
def nestedApartWrong : ChangeSpec := { name := "nestedApart", fn := fun _ => fun
  | [d1, d2] => { results := [.lit (.bool false)], args := [d1, d2] }
  | _ => none }
def NestedApartWrongFalsely : Prop := nestedApartRow.holds Try.pinned (OpenSpec.ofChange nestedApartWrong)

/-- 'innkeeperlaw6.NestedGuards': WHATEVER THE INPUT: true; the input reads as it did. -/
def nestedGuardsSpec : ChangeSpec := { name := "nestedGuards", fn := fun _ => fun
  | [d] => { results := [.lit (.bool true)], args := [d] }
  | _ => none }
def nestedGuardsRow : OpenClaim := { program := "ytcfoogbjlokegaa", sum := "69c0c101d18f7bd98b4da487832a1fd300edd78435fc9720ef22a9955f83d887", func := "innkeeper/innkeeperlaw6.NestedGuards", spec := "nestedGuards", apart := false }
def NestedGuardsSaid : Prop := nestedGuardsRow.holds Try.pinned (OpenSpec.ofChange nestedGuardsSpec)

/-- ITS FALSE NEIGHBOUR: 'it returns false'. Refute it at one input. -/
def nestedGuardsWrong : ChangeSpec := { name := "nestedGuards", fn := fun _ => fun
  | [d] => { results := [.lit (.bool false)], args := [d] }
  | _ => none }
def NestedGuardsWrongFalsely : Prop := nestedGuardsRow.holds Try.pinned (OpenSpec.ofChange nestedGuardsWrong)

/-- 'innkeeperlaw6.NestedNumbers': WHATEVER THE INPUT: true; the input reads as it did. -/
def nestedNumbersSpec : ChangeSpec := { name := "nestedNumbers", fn := fun _ => fun
  | [] => { results := [.lit (.bool true)], args := [] }
  | _ => none }
def nestedNumbersRow : OpenClaim := { program := "ytcfoogbjlokegaa", sum := "69c0c101d18f7bd98b4da487832a1fd300edd78435fc9720ef22a9955f83d887", func := "innkeeper/innkeeperlaw6.NestedNumbers", spec := "nestedNumbers", apart := false }
def NestedNumbersSaid : Prop := nestedNumbersRow.holds Try.pinned (OpenSpec.ofChange nestedNumbersSpec)

/-- ITS FALSE NEIGHBOUR: 'it returns false'. Refute it at one input. -/
def nestedNumbersWrong : ChangeSpec := { name := "nestedNumbers", fn := fun _ => fun
  | [] => { results := [.lit (.bool false)], args := [] }
  | _ => none }
def NestedNumbersWrongFalsely : Prop := nestedNumbersRow.holds Try.pinned (OpenSpec.ofChange nestedNumbersWrong)

/-- 'innkeeperlaw6.NestedPlays': WHATEVER THE INPUT: true; the input reads as it did. -/
def nestedPlaysSpec : ChangeSpec := { name := "nestedPlays", fn := fun _ => fun
  | [d1, d2, d3] => { results := [.lit (.bool true)], args := [d1, d2, d3] }
  | _ => none }
def nestedPlaysRow : OpenClaim := { program := "ytcfoogbjlokegaa", sum := "69c0c101d18f7bd98b4da487832a1fd300edd78435fc9720ef22a9955f83d887", func := "innkeeper/innkeeperlaw6.NestedPlays", spec := "nestedPlays", apart := false }
def NestedPlaysSaid : Prop := nestedPlaysRow.holds Try.pinned (OpenSpec.ofChange nestedPlaysSpec)

/-- ITS FALSE NEIGHBOUR: 'it returns false'. Refute it at one input. -/
def nestedPlaysWrong : ChangeSpec := { name := "nestedPlays", fn := fun _ => fun
  | [d1, d2, d3] => { results := [.lit (.bool false)], args := [d1, d2, d3] }
  | _ => none }
def NestedPlaysWrongFalsely : Prop := nestedPlaysRow.holds Try.pinned (OpenSpec.ofChange nestedPlaysWrong)

/-- 'innkeeperlaw6.NestedBack': WHATEVER THE INPUT: true; the input reads as it did. -/
def nestedBackSpec : ChangeSpec := { name := "nestedBack", fn := fun _ => fun
  | [d1, d2] => { results := [.lit (.bool true)], args := [d1, d2] }
  | _ => none }
def nestedBackRow : OpenClaim := { program := "ytcfoogbjlokegaa", sum := "69c0c101d18f7bd98b4da487832a1fd300edd78435fc9720ef22a9955f83d887", func := "innkeeper/innkeeperlaw6.NestedBack", spec := "nestedBack", apart := false }
def NestedBackSaid : Prop := nestedBackRow.holds Try.pinned (OpenSpec.ofChange nestedBackSpec)

/-- ITS FALSE NEIGHBOUR: 'it returns false'. Refute it at one input. -/
def nestedBackWrong : ChangeSpec := { name := "nestedBack", fn := fun _ => fun
  | [d1, d2] => { results := [.lit (.bool false)], args := [d1, d2] }
  | _ => none }
def NestedBackWrongFalsely : Prop := nestedBackRow.holds Try.pinned (OpenSpec.ofChange nestedBackWrong)

/-- 'innkeeperlaw7.RamWords': WHATEVER THE INPUT: true; the input reads as it did. -/
def ramWordsSpec : ChangeSpec := { name := "ramWords", fn := fun _ => fun
  | [d1, d2, d3] => { results := [.lit (.bool true)], args := [d1, d2, d3] }
  | _ => none }
def ramWordsRow : OpenClaim := { program := "ytcfoogbjlokegaa", sum := "69c0c101d18f7bd98b4da487832a1fd300edd78435fc9720ef22a9955f83d887", func := "innkeeper/innkeeperlaw7.RamWords", spec := "ramWords", apart := false }
def RamWordsSaid : Prop := ramWordsRow.holds Try.pinned (OpenSpec.ofChange ramWordsSpec)

/-- ITS FALSE NEIGHBOUR: 'it returns false'. Refute it at one input. -/
def ramWordsWrong : ChangeSpec := { name := "ramWords", fn := fun _ => fun
  | [d1, d2, d3] => { results := [.lit (.bool false)], args := [d1, d2, d3] }
  | _ => none }
def RamWordsWrongFalsely : Prop := ramWordsRow.holds Try.pinned (OpenSpec.ofChange ramWordsWrong)

/-- 'innkeeperlaw7.RamLoads': WHATEVER THE INPUT: true; the input reads as it did. -/
def ramLoadsSpec : ChangeSpec := { name := "ramLoads", fn := fun _ => fun
  | [d1, d2, d3] => { results := [.lit (.bool true)], args := [d1, d2, d3] }
  | _ => none }
def ramLoadsRow : OpenClaim := { program := "ytcfoogbjlokegaa", sum := "69c0c101d18f7bd98b4da487832a1fd300edd78435fc9720ef22a9955f83d887", func := "innkeeper/innkeeperlaw7.RamLoads", spec := "ramLoads", apart := false }
def RamLoadsSaid : Prop := ramLoadsRow.holds Try.pinned (OpenSpec.ofChange ramLoadsSpec)

/-- ITS FALSE NEIGHBOUR: 'it returns false'. Refute it at one input. -/
def ramLoadsWrong : ChangeSpec := { name := "ramLoads", fn := fun _ => fun
  | [d1, d2, d3] => { results := [.lit (.bool false)], args := [d1, d2, d3] }
  | _ => none }
def RamLoadsWrongFalsely : Prop := ramLoadsRow.holds Try.pinned (OpenSpec.ofChange ramLoadsWrong)

/-- 'innkeeperlaw7.RamMaps': WHATEVER THE INPUT: true; the input reads as it did. -/
def ramMapsSpec : ChangeSpec := { name := "ramMaps", fn := fun _ => fun
  | [d1, d2] => { results := [.lit (.bool true)], args := [d1, d2] }
  | _ => none }
def ramMapsRow : OpenClaim := { program := "ytcfoogbjlokegaa", sum := "69c0c101d18f7bd98b4da487832a1fd300edd78435fc9720ef22a9955f83d887", func := "innkeeper/innkeeperlaw7.RamMaps", spec := "ramMaps", apart := false }
def RamMapsSaid : Prop := ramMapsRow.holds Try.pinned (OpenSpec.ofChange ramMapsSpec)

/-- ITS FALSE NEIGHBOUR: 'it returns false'. Refute it at one input. -/
def ramMapsWrong : ChangeSpec := { name := "ramMaps", fn := fun _ => fun
  | [d1, d2] => { results := [.lit (.bool false)], args := [d1, d2] }
  | _ => none }
def RamMapsWrongFalsely : Prop := ramMapsRow.holds Try.pinned (OpenSpec.ofChange ramMapsWrong)

/-- 'innkeeperlaw7.RamPages': WHATEVER THE INPUT: true; the input reads as it did. -/
def ramPagesSpec : ChangeSpec := { name := "ramPages", fn := fun _ => fun
  | [d] => { results := [.lit (.bool true)], args := [d] }
  | _ => none }
def ramPagesRow : OpenClaim := { program := "ytcfoogbjlokegaa", sum := "69c0c101d18f7bd98b4da487832a1fd300edd78435fc9720ef22a9955f83d887", func := "innkeeper/innkeeperlaw7.RamPages", spec := "ramPages", apart := false }
def RamPagesSaid : Prop := ramPagesRow.holds Try.pinned (OpenSpec.ofChange ramPagesSpec)

/-- ITS FALSE NEIGHBOUR: 'it returns false'. Refute it at one input. -/
def ramPagesWrong : ChangeSpec := { name := "ramPages", fn := fun _ => fun
  | [d] => { results := [.lit (.bool false)], args := [d] }
  | _ => none }
def RamPagesWrongFalsely : Prop := ramPagesRow.holds Try.pinned (OpenSpec.ofChange ramPagesWrong)

/-- 'innkeeperlaw7.RamPlays': WHATEVER THE INPUT: true; the input reads as it did. -/
def ramPlaysSpec : ChangeSpec := { name := "ramPlays", fn := fun _ => fun
  | [d1, d2] => { results := [.lit (.bool true)], args := [d1, d2] }
  | _ => none }
def ramPlaysRow : OpenClaim := { program := "ytcfoogbjlokegaa", sum := "69c0c101d18f7bd98b4da487832a1fd300edd78435fc9720ef22a9955f83d887", func := "innkeeper/innkeeperlaw7.RamPlays", spec := "ramPlays", apart := false }
def RamPlaysSaid : Prop := ramPlaysRow.holds Try.pinned (OpenSpec.ofChange ramPlaysSpec)

/-- ITS FALSE NEIGHBOUR: 'it returns false'. Refute it at one input. -/
def ramPlaysWrong : ChangeSpec := { name := "ramPlays", fn := fun _ => fun
  | [d1, d2] => { results := [.lit (.bool false)], args := [d1, d2] }
  | _ => none }
def RamPlaysWrongFalsely : Prop := ramPlaysRow.holds Try.pinned (OpenSpec.ofChange ramPlaysWrong)

/-- 'innkeeperlaw7.RamNumbers': WHATEVER THE INPUT: true; the input reads as it did. -/
def ramNumbersSpec : ChangeSpec := { name := "ramNumbers", fn := fun _ => fun
  | [] => { results := [.lit (.bool true)], args := [] }
  | _ => none }
def ramNumbersRow : OpenClaim := { program := "ytcfoogbjlokegaa", sum := "69c0c101d18f7bd98b4da487832a1fd300edd78435fc9720ef22a9955f83d887", func := "innkeeper/innkeeperlaw7.RamNumbers", spec := "ramNumbers", apart := false }
def RamNumbersSaid : Prop := ramNumbersRow.holds Try.pinned (OpenSpec.ofChange ramNumbersSpec)

/-- ITS FALSE NEIGHBOUR: 'it returns false'. Refute it at one input. -/
def ramNumbersWrong : ChangeSpec := { name := "ramNumbers", fn := fun _ => fun
  | [] => { results := [.lit (.bool false)], args := [] }
  | _ => none }
def RamNumbersWrongFalsely : Prop := ramNumbersRow.holds Try.pinned (OpenSpec.ofChange ramNumbersWrong)

/- THE SECOND FORM. 'bulk': how many values and letters a reading holds, each counted each time it is reached (what is shared counts as often as it is met; a slice's spare places count too). A statement '..UptoSaid' is the law's where the arguments, and the package variables that the reading takes, are together of bulk at most 1048576: NARROWER than '..Said'. Prove '..Said' where nothing that the law and all that it calls make is longer than what came in: it says more and counts as full. Else prove '..UptoSaid'. A law counts once. -/
mutual
def uptoBulk {H : Type} : DataW H → Nat
  | .lit (.string bytes) => bytes.length + 1
  | .lit _ => 1
  | .nil => 1
  | .ptr d => uptoBulk d + 1
  | .slice elems spare => uptoBulkAll elems + uptoBulkAll spare + 1
  | .agg parts => uptoBulkAll parts + 1
  | .iface _ d => uptoBulk d + 1
  | .map entries => uptoBulkEntries entries + 1
  | .held _ => 1
def uptoBulkAll {H : Type} : List (DataW H) → Nat
  | [] => 0
  | d :: r => uptoBulk d + uptoBulkAll r
def uptoBulkEntries {H : Type} : List (Lit × DataW H) → Nat
  | [] => 0
  | x :: r => uptoBulkEntry x + uptoBulkEntries r
def uptoBulkEntry {H : Type} : Lit × DataW H → Nat
  | (.string bytes, d) => bytes.length + uptoBulk d + 1
  | (_, d) => uptoBulk d + 1
 end
def uptoSmall : (H : Type) → List (DataW H) → Bool := fun _ ds => decide (uptoBulkAll ds ≤ 1048576)
def OpenSpec.upto (s : _root_.Go.ChangeSpec) : _root_.Go.OpenSpec := { _root_.Go.OpenSpec.ofChange s with cond := some uptoSmall }

/-- 'innkeeperlaw6.NestedApart', WHERE WHAT IT READS IS OF BULK AT MOST 1048576: true; the input reads as it did. -/
def nestedApartUptoRow : OpenClaim := { program := "ytcfoogbjlokegaa", sum := "69c0c101d18f7bd98b4da487832a1fd300edd78435fc9720ef22a9955f83d887", func := "innkeeper/innkeeperlaw6.NestedApart", spec := "nestedApart", apart := false, narrowed := true }
def NestedApartUptoSaid : Prop := nestedApartUptoRow.holds Try.pinned (OpenSpec.upto nestedApartSpec)

/-- 'innkeeperlaw6.NestedGuards', WHERE WHAT IT READS IS OF BULK AT MOST 1048576: true; the input reads as it did. -/
def nestedGuardsUptoRow : OpenClaim := { program := "ytcfoogbjlokegaa", sum := "69c0c101d18f7bd98b4da487832a1fd300edd78435fc9720ef22a9955f83d887", func := "innkeeper/innkeeperlaw6.NestedGuards", spec := "nestedGuards", apart := false, narrowed := true }
def NestedGuardsUptoSaid : Prop := nestedGuardsUptoRow.holds Try.pinned (OpenSpec.upto nestedGuardsSpec)

/-- 'innkeeperlaw6.NestedNumbers', WHERE WHAT IT READS IS OF BULK AT MOST 1048576: true; the input reads as it did. -/
def nestedNumbersUptoRow : OpenClaim := { program := "ytcfoogbjlokegaa", sum := "69c0c101d18f7bd98b4da487832a1fd300edd78435fc9720ef22a9955f83d887", func := "innkeeper/innkeeperlaw6.NestedNumbers", spec := "nestedNumbers", apart := false, narrowed := true }
def NestedNumbersUptoSaid : Prop := nestedNumbersUptoRow.holds Try.pinned (OpenSpec.upto nestedNumbersSpec)

/-- 'innkeeperlaw6.NestedPlays', WHERE WHAT IT READS IS OF BULK AT MOST 1048576: true; the input reads as it did. -/
def nestedPlaysUptoRow : OpenClaim := { program := "ytcfoogbjlokegaa", sum := "69c0c101d18f7bd98b4da487832a1fd300edd78435fc9720ef22a9955f83d887", func := "innkeeper/innkeeperlaw6.NestedPlays", spec := "nestedPlays", apart := false, narrowed := true }
def NestedPlaysUptoSaid : Prop := nestedPlaysUptoRow.holds Try.pinned (OpenSpec.upto nestedPlaysSpec)

/-- 'innkeeperlaw6.NestedBack', WHERE WHAT IT READS IS OF BULK AT MOST 1048576: true; the input reads as it did. -/
def nestedBackUptoRow : OpenClaim := { program := "ytcfoogbjlokegaa", sum := "69c0c101d18f7bd98b4da487832a1fd300edd78435fc9720ef22a9955f83d887", func := "innkeeper/innkeeperlaw6.NestedBack", spec := "nestedBack", apart := false, narrowed := true }
def NestedBackUptoSaid : Prop := nestedBackUptoRow.holds Try.pinned (OpenSpec.upto nestedBackSpec)

/-- 'innkeeperlaw7.RamWords', WHERE WHAT IT READS IS OF BULK AT MOST 1048576: true; the input reads as it did. -/
def ramWordsUptoRow : OpenClaim := { program := "ytcfoogbjlokegaa", sum := "69c0c101d18f7bd98b4da487832a1fd300edd78435fc9720ef22a9955f83d887", func := "innkeeper/innkeeperlaw7.RamWords", spec := "ramWords", apart := false, narrowed := true }
def RamWordsUptoSaid : Prop := ramWordsUptoRow.holds Try.pinned (OpenSpec.upto ramWordsSpec)

/-- 'innkeeperlaw7.RamLoads', WHERE WHAT IT READS IS OF BULK AT MOST 1048576: true; the input reads as it did. -/
def ramLoadsUptoRow : OpenClaim := { program := "ytcfoogbjlokegaa", sum := "69c0c101d18f7bd98b4da487832a1fd300edd78435fc9720ef22a9955f83d887", func := "innkeeper/innkeeperlaw7.RamLoads", spec := "ramLoads", apart := false, narrowed := true }
def RamLoadsUptoSaid : Prop := ramLoadsUptoRow.holds Try.pinned (OpenSpec.upto ramLoadsSpec)

/-- 'innkeeperlaw7.RamMaps', WHERE WHAT IT READS IS OF BULK AT MOST 1048576: true; the input reads as it did. -/
def ramMapsUptoRow : OpenClaim := { program := "ytcfoogbjlokegaa", sum := "69c0c101d18f7bd98b4da487832a1fd300edd78435fc9720ef22a9955f83d887", func := "innkeeper/innkeeperlaw7.RamMaps", spec := "ramMaps", apart := false, narrowed := true }
def RamMapsUptoSaid : Prop := ramMapsUptoRow.holds Try.pinned (OpenSpec.upto ramMapsSpec)

/-- 'innkeeperlaw7.RamPages', WHERE WHAT IT READS IS OF BULK AT MOST 1048576: true; the input reads as it did. -/
def ramPagesUptoRow : OpenClaim := { program := "ytcfoogbjlokegaa", sum := "69c0c101d18f7bd98b4da487832a1fd300edd78435fc9720ef22a9955f83d887", func := "innkeeper/innkeeperlaw7.RamPages", spec := "ramPages", apart := false, narrowed := true }
def RamPagesUptoSaid : Prop := ramPagesUptoRow.holds Try.pinned (OpenSpec.upto ramPagesSpec)

/-- 'innkeeperlaw7.RamPlays', WHERE WHAT IT READS IS OF BULK AT MOST 1048576: true; the input reads as it did. -/
def ramPlaysUptoRow : OpenClaim := { program := "ytcfoogbjlokegaa", sum := "69c0c101d18f7bd98b4da487832a1fd300edd78435fc9720ef22a9955f83d887", func := "innkeeper/innkeeperlaw7.RamPlays", spec := "ramPlays", apart := false, narrowed := true }
def RamPlaysUptoSaid : Prop := ramPlaysUptoRow.holds Try.pinned (OpenSpec.upto ramPlaysSpec)

/-- 'innkeeperlaw7.RamNumbers', WHERE WHAT IT READS IS OF BULK AT MOST 1048576: true; the input reads as it did. -/
def ramNumbersUptoRow : OpenClaim := { program := "ytcfoogbjlokegaa", sum := "69c0c101d18f7bd98b4da487832a1fd300edd78435fc9720ef22a9955f83d887", func := "innkeeper/innkeeperlaw7.RamNumbers", spec := "ramNumbers", apart := false, narrowed := true }
def RamNumbersUptoSaid : Prop := ramNumbersUptoRow.holds Try.pinned (OpenSpec.upto ramNumbersSpec)

end Rows
end Go.Proofs.Ytcfoogbjlokegaa
