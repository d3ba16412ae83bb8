/-
  No cell of these rows narrows 'for every input' (looked for: loops, veiled, ifaces, maps, wideKeys, modest, calm, conditions, laid).
  DERIVED. THE GIVEN ROWS OF THIS SEAT. 5 by the template 'for every input the law returns true; each argument reads behind the call as it read before'; 0 by the template 'total and deterministic' (their statements: YtfjlgdafakbdoaaTotals.lean).
  GIVEN WITH THE SEED: the statements are not yours to turn. If you find one false, say at which input.
  Laid BY PROGRAM, IN A SANDBOX (cutbox-rows.mjs): the forced cells as the released guide's own fill.sh prints them over the translation fdfff293d206d9e2… (all of the seat's roots in one cut). By AI agents, Wed Nov 11 2026. No macro, syntax, notation, axiom, sorry.
-/
import Derived.Test.YtfjlgdafakbdoaaChecked
import GoSem.Claim
import GoSem.ClaimJoined
import GoSem.ClaimMapViews
import Derived.JoinedTies
import Derived.KernelRfl
namespace Go.Proofs.Ytfjlgdafakbdoaa
/- THE CELL 'sum', in the pinned program and in every row, IS THE sha256 OF THE DUMP (.gsa) THAT YtfjlgdafakbdoaaProg.lean LOADS. Nothing in Lean hashes anything: it is a label: what it is worth is what the hold of that sum in a sandbox is worth. -/
noncomputable def Try.pinned : Pinned := { name := "ytfjlgdafakbdoaa", sum := "fdfff293d206d9e2ca299e5f78be89c69f1eb203e5ea18e4fed4f7a9bbaf69b5", checked := Try.checked }
namespace Rows
def none {H : Type} : Left H := { results := [], args := [] }

/-- 'innkeeperlaw23.CacheFull': WHATEVER THE INPUT: true; the input reads as it did. -/
def cacheFullSpec : ChangeSpec := { name := "cacheFull", fn := fun _ => fun
  | [d1, d2, d3] => { results := [.lit (.bool true)], args := [d1, d2, d3] }
  | _ => none }
def cacheFullRow : OpenClaim := { program := "ytfjlgdafakbdoaa", sum := "fdfff293d206d9e2ca299e5f78be89c69f1eb203e5ea18e4fed4f7a9bbaf69b5", func := "innkeeper/innkeeperlaw23.CacheFull", spec := "cacheFull", unfollowed := true, recurses := true, plainKeys := false, apart := false }
def CacheFullSaid : Prop := cacheFullRow.holds Try.pinned (OpenSpec.ofChange cacheFullSpec)

/-- ITS FALSE NEIGHBOUR: 'it returns false'. Refute it at one input. -/
def cacheFullWrong : ChangeSpec := { name := "cacheFull", fn := fun _ => fun
  | [d1, d2, d3] => { results := [.lit (.bool false)], args := [d1, d2, d3] }
  | _ => none }
def CacheFullWrongFalsely : Prop := cacheFullRow.holds Try.pinned (OpenSpec.ofChange cacheFullWrong)

/-- 'innkeeperlaw23.CacheOrders': WHATEVER THE INPUT: true; the input reads as it did. -/
def cacheOrdersSpec : ChangeSpec := { name := "cacheOrders", fn := fun _ => fun
  | [d1, d2] => { results := [.lit (.bool true)], args := [d1, d2] }
  | _ => none }
def cacheOrdersRow : OpenClaim := { program := "ytfjlgdafakbdoaa", sum := "fdfff293d206d9e2ca299e5f78be89c69f1eb203e5ea18e4fed4f7a9bbaf69b5", func := "innkeeper/innkeeperlaw23.CacheOrders", spec := "cacheOrders", unfollowed := true, recurses := true, plainKeys := false, apart := false }
def CacheOrdersSaid : Prop := cacheOrdersRow.holds Try.pinned (OpenSpec.ofChange cacheOrdersSpec)

/-- ITS FALSE NEIGHBOUR: 'it returns false'. Refute it at one input. -/
def cacheOrdersWrong : ChangeSpec := { name := "cacheOrders", fn := fun _ => fun
  | [d1, d2] => { results := [.lit (.bool false)], args := [d1, d2] }
  | _ => none }
def CacheOrdersWrongFalsely : Prop := cacheOrdersRow.holds Try.pinned (OpenSpec.ofChange cacheOrdersWrong)

/-- 'innkeeperlaw23.CacheNumbers': WHATEVER THE INPUT: true; the input reads as it did. -/
def cacheNumbersSpec : ChangeSpec := { name := "cacheNumbers", fn := fun _ => fun
  | [] => { results := [.lit (.bool true)], args := [] }
  | _ => none }
def cacheNumbersRow : OpenClaim := { program := "ytfjlgdafakbdoaa", sum := "fdfff293d206d9e2ca299e5f78be89c69f1eb203e5ea18e4fed4f7a9bbaf69b5", func := "innkeeper/innkeeperlaw23.CacheNumbers", spec := "cacheNumbers", unfollowed := true, recurses := true, plainKeys := false, apart := false }
def CacheNumbersSaid : Prop := cacheNumbersRow.holds Try.pinned (OpenSpec.ofChange cacheNumbersSpec)

/-- ITS FALSE NEIGHBOUR: 'it returns false'. Refute it at one input. -/
def cacheNumbersWrong : ChangeSpec := { name := "cacheNumbers", fn := fun _ => fun
  | [] => { results := [.lit (.bool false)], args := [] }
  | _ => none }
def CacheNumbersWrongFalsely : Prop := cacheNumbersRow.holds Try.pinned (OpenSpec.ofChange cacheNumbersWrong)

/-- 'innkeeperlaw23.CachePlays': WHATEVER THE INPUT: true; the input reads as it did. -/
def cachePlaysSpec : ChangeSpec := { name := "cachePlays", fn := fun _ => fun
  | [d1, d2] => { results := [.lit (.bool true)], args := [d1, d2] }
  | _ => none }
def cachePlaysRow : OpenClaim := { program := "ytfjlgdafakbdoaa", sum := "fdfff293d206d9e2ca299e5f78be89c69f1eb203e5ea18e4fed4f7a9bbaf69b5", func := "innkeeper/innkeeperlaw23.CachePlays", spec := "cachePlays", unfollowed := true, recurses := true, plainKeys := false, apart := false }
def CachePlaysSaid : Prop := cachePlaysRow.holds Try.pinned (OpenSpec.ofChange cachePlaysSpec)

/-- ITS FALSE NEIGHBOUR: 'it returns false'. Refute it at one input. -/
def cachePlaysWrong : ChangeSpec := { name := "cachePlays", fn := fun _ => fun
  | [d1, d2] => { results := [.lit (.bool false)], args := [d1, d2] }
  | _ => none }
def CachePlaysWrongFalsely : Prop := cachePlaysRow.holds Try.pinned (OpenSpec.ofChange cachePlaysWrong)

/-- 'innkeeperlaw23.CacheLinks': WHATEVER THE INPUT: true; the input reads as it did. -/
def cacheLinksSpec : ChangeSpec := { name := "cacheLinks", fn := fun _ => fun
  | [d1, d2] => { results := [.lit (.bool true)], args := [d1, d2] }
  | _ => none }
def cacheLinksRow : OpenClaim := { program := "ytfjlgdafakbdoaa", sum := "fdfff293d206d9e2ca299e5f78be89c69f1eb203e5ea18e4fed4f7a9bbaf69b5", func := "innkeeper/innkeeperlaw23.CacheLinks", spec := "cacheLinks", unfollowed := true, recurses := true, plainKeys := false, apart := false }
def CacheLinksSaid : Prop := cacheLinksRow.holds Try.pinned (OpenSpec.ofChange cacheLinksSpec)

/-- ITS FALSE NEIGHBOUR: 'it returns false'. Refute it at one input. -/
def cacheLinksWrong : ChangeSpec := { name := "cacheLinks", fn := fun _ => fun
  | [d1, d2] => { results := [.lit (.bool false)], args := [d1, d2] }
  | _ => none }
def CacheLinksWrongFalsely : Prop := cacheLinksRow.holds Try.pinned (OpenSpec.ofChange cacheLinksWrong)

/- THE SECOND FORM. 'bulk': how many values and letters a reading holds, each counted each time it is reached (what is shared counts as often as it is met; a slice's spare places count too). A statement '..UptoSaid' is the law's where the arguments, and the package variables that the reading takes, are together of bulk at most 1048576: NARROWER than '..Said'. Prove '..Said' where nothing that the law and all that it calls make is longer than what came in: it says more and counts as full. Else prove '..UptoSaid'. A law counts once. -/
mutual
def uptoBulk {H : Type} : DataW H → Nat
  | .lit (.string bytes) => bytes.length + 1
  | .lit _ => 1
  | .nil => 1
  | .ptr d => uptoBulk d + 1
  | .slice elems spare => uptoBulkAll elems + uptoBulkAll spare + 1
  | .agg parts => uptoBulkAll parts + 1
  | .iface _ d => uptoBulk d + 1
  | .map entries => uptoBulkEntries entries + 1
  | .held _ => 1
def uptoBulkAll {H : Type} : List (DataW H) → Nat
  | [] => 0
  | d :: r => uptoBulk d + uptoBulkAll r
def uptoBulkEntries {H : Type} : List (Lit × DataW H) → Nat
  | [] => 0
  | x :: r => uptoBulkEntry x + uptoBulkEntries r
def uptoBulkEntry {H : Type} : Lit × DataW H → Nat
  | (.string bytes, d) => bytes.length + uptoBulk d + 1
  | (_, d) => uptoBulk d + 1
 end
def uptoSmall : (H : Type) → List (DataW H) → Bool := fun _ ds => decide (uptoBulkAll ds ≤ 1048576)
def OpenSpec.upto (s : _root_.Go.ChangeSpec) : _root_.Go.OpenSpec := { _root_.Go.OpenSpec.ofChange s with cond := some uptoSmall }

/-- 'innkeeperlaw23.CacheFull', WHERE WHAT IT READS IS OF BULK AT MOST 1048576: true; the input reads as it did. -/
def cacheFullUptoRow : OpenClaim := { program := "ytfjlgdafakbdoaa", sum := "fdfff293d206d9e2ca299e5f78be89c69f1eb203e5ea18e4fed4f7a9bbaf69b5", func := "innkeeper/innkeeperlaw23.CacheFull", spec := "cacheFull", unfollowed := true, recurses := true, plainKeys := false, apart := false, narrowed := true }
def CacheFullUptoSaid : Prop := cacheFullUptoRow.holds Try.pinned (OpenSpec.upto cacheFullSpec)

/-- 'innkeeperlaw23.CacheOrders', WHERE WHAT IT READS IS OF BULK AT MOST 1048576: true; the input reads as it did. -/
def cacheOrdersUptoRow : OpenClaim := { program := "ytfjlgdafakbdoaa", sum := "fdfff293d206d9e2ca299e5f78be89c69f1eb203e5ea18e4fed4f7a9bbaf69b5", func := "innkeeper/innkeeperlaw23.CacheOrders", spec := "cacheOrders", unfollowed := true, recurses := true, plainKeys := false, apart := false, narrowed := true }
def CacheOrdersUptoSaid : Prop := cacheOrdersUptoRow.holds Try.pinned (OpenSpec.upto cacheOrdersSpec)

/-- 'innkeeperlaw23.CacheNumbers', WHERE WHAT IT READS IS OF BULK AT MOST 1048576: true; the input reads as it did. -/
def cacheNumbersUptoRow : OpenClaim := { program := "ytfjlgdafakbdoaa", sum := "fdfff293d206d9e2ca299e5f78be89c69f1eb203e5ea18e4fed4f7a9bbaf69b5", func := "innkeeper/innkeeperlaw23.CacheNumbers", spec := "cacheNumbers", unfollowed := true, recurses := true, plainKeys := false, apart := false, narrowed := true }
def CacheNumbersUptoSaid : Prop := cacheNumbersUptoRow.holds Try.pinned (OpenSpec.upto cacheNumbersSpec)

/-- 'innkeeperlaw23.CachePlays', WHERE WHAT IT READS IS OF BULK AT MOST 1048576: true; the input reads as it did. -/
def cachePlaysUptoRow : OpenClaim := { program := "ytfjlgdafakbdoaa", sum := "fdfff293d206d9e2ca299e5f78be89c69f1eb203e5ea18e4fed4f7a9bbaf69b5", func := "innkeeper/innkeeperlaw23.CachePlays", spec := "cachePlays", unfollowed := true, recurses := true, plainKeys := false, apart := false, narrowed := true }
def CachePlaysUptoSaid : Prop := cachePlaysUptoRow.holds Try.pinned (OpenSpec.upto cachePlaysSpec)

/-- 'innkeeperlaw23.CacheLinks', WHERE WHAT IT READS IS OF BULK AT MOST 1048576: true; the input reads as it did. -/
def cacheLinksUptoRow : OpenClaim := { program := "ytfjlgdafakbdoaa", sum := "fdfff293d206d9e2ca299e5f78be89c69f1eb203e5ea18e4fed4f7a9bbaf69b5", func := "innkeeper/innkeeperlaw23.CacheLinks", spec := "cacheLinks", unfollowed := true, recurses := true, plainKeys := false, apart := false, narrowed := true }
def CacheLinksUptoSaid : Prop := cacheLinksUptoRow.holds Try.pinned (OpenSpec.upto cacheLinksSpec)

end Rows
end Go.Proofs.Ytfjlgdafakbdoaa
