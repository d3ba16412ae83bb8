/-
  No cell of these rows narrows 'for every input' (looked for: loops, veiled, ifaces, maps, wideKeys, modest, calm, conditions, laid).
  DERIVED. THE GIVEN ROWS OF THIS SEAT. 8 by the template 'for every input the law returns true; each argument reads behind the call as it read before'; 0 by the template 'total and deterministic' (their statements: YtnlkcmjnohageaaTotals.lean).
  GIVEN WITH THE SEED: the statements are not yours to turn. If you find one false, say at which input.
  Laid BY PROGRAM, IN A SANDBOX (cutbox-rows.mjs): the forced cells as the released guide's own fill.sh prints them over the translation 2ab507fbf647a30e… (all of the seat's roots in one cut). By AI agents, Wed Nov 11 2026. No macro, syntax, notation, axiom, sorry.
-/
import Derived.Test.YtnlkcmjnohageaaChecked
import GoSem.Claim
import GoSem.ClaimJoined
import GoSem.ClaimMapViews
import Derived.JoinedTies
import Derived.KernelRfl
namespace Go.Proofs.Ytnlkcmjnohageaa
/- THE CELL 'sum', in the pinned program and in every row, IS THE sha256 OF THE DUMP (.gsa) THAT YtnlkcmjnohageaaProg.lean LOADS. Nothing in Lean hashes anything: it is a label: what it is worth is what the hold of that sum in a sandbox is worth. -/
noncomputable def Try.pinned : Pinned := { name := "ytnlkcmjnohageaa", sum := "2ab507fbf647a30e20dfb866db7a5862f52d335ba58f625a4a5322a42998ff0f", checked := Try.checked }
namespace Rows
def none {H : Type} : Left H := { results := [], args := [] }

/-- 'innkeeperlaw12.TimerNumbers': WHATEVER THE INPUT: true; the input reads as it did. -/
def timerNumbersSpec : ChangeSpec := { name := "timerNumbers", fn := fun _ => fun
  | [] => { results := [.lit (.bool true)], args := [] }
  | _ => none }
def timerNumbersRow : OpenClaim := { program := "ytnlkcmjnohageaa", sum := "2ab507fbf647a30e20dfb866db7a5862f52d335ba58f625a4a5322a42998ff0f", func := "innkeeper/innkeeperlaw12.TimerNumbers", spec := "timerNumbers", apart := false }
def TimerNumbersSaid : Prop := timerNumbersRow.holds Try.pinned (OpenSpec.ofChange timerNumbersSpec)

/-- ITS FALSE NEIGHBOUR: 'it returns false'. Refute it at one input. -/
def timerNumbersWrong : ChangeSpec := { name := "timerNumbers", fn := fun _ => fun
  | [] => { results := [.lit (.bool false)], args := [] }
  | _ => none }
def TimerNumbersWrongFalsely : Prop := timerNumbersRow.holds Try.pinned (OpenSpec.ofChange timerNumbersWrong)

/-- 'innkeeperlaw12.TimerPlays': WHATEVER THE INPUT: true; the input reads as it did. -/
def timerPlaysSpec : ChangeSpec := { name := "timerPlays", fn := fun _ => fun
  | [d1, d2] => { results := [.lit (.bool true)], args := [d1, d2] }
  | _ => none }
def timerPlaysRow : OpenClaim := { program := "ytnlkcmjnohageaa", sum := "2ab507fbf647a30e20dfb866db7a5862f52d335ba58f625a4a5322a42998ff0f", func := "innkeeper/innkeeperlaw12.TimerPlays", spec := "timerPlays", apart := false }
def TimerPlaysSaid : Prop := timerPlaysRow.holds Try.pinned (OpenSpec.ofChange timerPlaysSpec)

/-- ITS FALSE NEIGHBOUR: 'it returns false'. Refute it at one input. -/
def timerPlaysWrong : ChangeSpec := { name := "timerPlays", fn := fun _ => fun
  | [d1, d2] => { results := [.lit (.bool false)], args := [d1, d2] }
  | _ => none }
def TimerPlaysWrongFalsely : Prop := timerPlaysRow.holds Try.pinned (OpenSpec.ofChange timerPlaysWrong)

/-- 'innkeeperlaw12.TimerOnce': WHATEVER THE INPUT: true; the input reads as it did. -/
def timerOnceSpec : ChangeSpec := { name := "timerOnce", fn := fun _ => fun
  | [d1, d2] => { results := [.lit (.bool true)], args := [d1, d2] }
  | _ => none }
def timerOnceRow : OpenClaim := { program := "ytnlkcmjnohageaa", sum := "2ab507fbf647a30e20dfb866db7a5862f52d335ba58f625a4a5322a42998ff0f", func := "innkeeper/innkeeperlaw12.TimerOnce", spec := "timerOnce", apart := false }
def TimerOnceSaid : Prop := timerOnceRow.holds Try.pinned (OpenSpec.ofChange timerOnceSpec)

/-- ITS FALSE NEIGHBOUR: 'it returns false'. Refute it at one input. -/
def timerOnceWrong : ChangeSpec := { name := "timerOnce", fn := fun _ => fun
  | [d1, d2] => { results := [.lit (.bool false)], args := [d1, d2] }
  | _ => none }
def TimerOnceWrongFalsely : Prop := timerOnceRow.holds Try.pinned (OpenSpec.ofChange timerOnceWrong)

/-- 'innkeeperlaw12.TimerSets': WHATEVER THE INPUT: true; the input reads as it did. -/
def timerSetsSpec : ChangeSpec := { name := "timerSets", fn := fun _ => fun
  | [d1, d2] => { results := [.lit (.bool true)], args := [d1, d2] }
  | _ => none }
def timerSetsRow : OpenClaim := { program := "ytnlkcmjnohageaa", sum := "2ab507fbf647a30e20dfb866db7a5862f52d335ba58f625a4a5322a42998ff0f", func := "innkeeper/innkeeperlaw12.TimerSets", spec := "timerSets", apart := false }
def TimerSetsSaid : Prop := timerSetsRow.holds Try.pinned (OpenSpec.ofChange timerSetsSpec)

/-- ITS FALSE NEIGHBOUR: 'it returns false'. Refute it at one input. -/
def timerSetsWrong : ChangeSpec := { name := "timerSets", fn := fun _ => fun
  | [d1, d2] => { results := [.lit (.bool false)], args := [d1, d2] }
  | _ => none }
def TimerSetsWrongFalsely : Prop := timerSetsRow.holds Try.pinned (OpenSpec.ofChange timerSetsWrong)

/-- 'innkeeperlaw13.ConsoleNumbers': WHATEVER THE INPUT: true; the input reads as it did. -/
def consoleNumbersSpec : ChangeSpec := { name := "consoleNumbers", fn := fun _ => fun
  | [] => { results := [.lit (.bool true)], args := [] }
  | _ => none }
def consoleNumbersRow : OpenClaim := { program := "ytnlkcmjnohageaa", sum := "2ab507fbf647a30e20dfb866db7a5862f52d335ba58f625a4a5322a42998ff0f", func := "innkeeper/innkeeperlaw13.ConsoleNumbers", spec := "consoleNumbers", apart := false }
def ConsoleNumbersSaid : Prop := consoleNumbersRow.holds Try.pinned (OpenSpec.ofChange consoleNumbersSpec)

/-- ITS FALSE NEIGHBOUR: 'it returns false'. Refute it at one input. -/
def consoleNumbersWrong : ChangeSpec := { name := "consoleNumbers", fn := fun _ => fun
  | [] => { results := [.lit (.bool false)], args := [] }
  | _ => none }
def ConsoleNumbersWrongFalsely : Prop := consoleNumbersRow.holds Try.pinned (OpenSpec.ofChange consoleNumbersWrong)

/-- 'innkeeperlaw13.ConsoleRooms': WHATEVER THE INPUT: true; the input reads as it did. -/
def consoleRoomsSpec : ChangeSpec := { name := "consoleRooms", fn := fun _ => fun
  | [d1, d2, d3] => { results := [.lit (.bool true)], args := [d1, d2, d3] }
  | _ => none }
def consoleRoomsRow : OpenClaim := { program := "ytnlkcmjnohageaa", sum := "2ab507fbf647a30e20dfb866db7a5862f52d335ba58f625a4a5322a42998ff0f", func := "innkeeper/innkeeperlaw13.ConsoleRooms", spec := "consoleRooms", apart := false }
def ConsoleRoomsSaid : Prop := consoleRoomsRow.holds Try.pinned (OpenSpec.ofChange consoleRoomsSpec)

/-- ITS FALSE NEIGHBOUR: 'it returns false'. Refute it at one input. -/
def consoleRoomsWrong : ChangeSpec := { name := "consoleRooms", fn := fun _ => fun
  | [d1, d2, d3] => { results := [.lit (.bool false)], args := [d1, d2, d3] }
  | _ => none }
def ConsoleRoomsWrongFalsely : Prop := consoleRoomsRow.holds Try.pinned (OpenSpec.ofChange consoleRoomsWrong)

/-- 'innkeeperlaw13.ConsolePlays': WHATEVER THE INPUT: true; the input reads as it did. -/
def consolePlaysSpec : ChangeSpec := { name := "consolePlays", fn := fun _ => fun
  | [d] => { results := [.lit (.bool true)], args := [d] }
  | _ => none }
def consolePlaysRow : OpenClaim := { program := "ytnlkcmjnohageaa", sum := "2ab507fbf647a30e20dfb866db7a5862f52d335ba58f625a4a5322a42998ff0f", func := "innkeeper/innkeeperlaw13.ConsolePlays", spec := "consolePlays", apart := false }
def ConsolePlaysSaid : Prop := consolePlaysRow.holds Try.pinned (OpenSpec.ofChange consolePlaysSpec)

/-- ITS FALSE NEIGHBOUR: 'it returns false'. Refute it at one input. -/
def consolePlaysWrong : ChangeSpec := { name := "consolePlays", fn := fun _ => fun
  | [d] => { results := [.lit (.bool false)], args := [d] }
  | _ => none }
def ConsolePlaysWrongFalsely : Prop := consolePlaysRow.holds Try.pinned (OpenSpec.ofChange consolePlaysWrong)

/-- 'innkeeperlaw13.ConsoleEchoes': WHATEVER THE INPUT: true; the input reads as it did. -/
def consoleEchoesSpec : ChangeSpec := { name := "consoleEchoes", fn := fun _ => fun
  | [d1, d2] => { results := [.lit (.bool true)], args := [d1, d2] }
  | _ => none }
def consoleEchoesRow : OpenClaim := { program := "ytnlkcmjnohageaa", sum := "2ab507fbf647a30e20dfb866db7a5862f52d335ba58f625a4a5322a42998ff0f", func := "innkeeper/innkeeperlaw13.ConsoleEchoes", spec := "consoleEchoes", apart := false }
def ConsoleEchoesSaid : Prop := consoleEchoesRow.holds Try.pinned (OpenSpec.ofChange consoleEchoesSpec)

/-- ITS FALSE NEIGHBOUR: 'it returns false'. Refute it at one input. -/
def consoleEchoesWrong : ChangeSpec := { name := "consoleEchoes", fn := fun _ => fun
  | [d1, d2] => { results := [.lit (.bool false)], args := [d1, d2] }
  | _ => none }
def ConsoleEchoesWrongFalsely : Prop := consoleEchoesRow.holds Try.pinned (OpenSpec.ofChange consoleEchoesWrong)

/- THE SECOND FORM. 'bulk': how many values and letters a reading holds, each counted each time it is reached (what is shared counts as often as it is met; a slice's spare places count too). A statement '..UptoSaid' is the law's where the arguments, and the package variables that the reading takes, are together of bulk at most 1048576: NARROWER than '..Said'. Prove '..Said' where nothing that the law and all that it calls make is longer than what came in: it says more and counts as full. Else prove '..UptoSaid'. A law counts once. -/
mutual
def uptoBulk {H : Type} : DataW H → Nat
  | .lit (.string bytes) => bytes.length + 1
  | .lit _ => 1
  | .nil => 1
  | .ptr d => uptoBulk d + 1
  | .slice elems spare => uptoBulkAll elems + uptoBulkAll spare + 1
  | .agg parts => uptoBulkAll parts + 1
  | .iface _ d => uptoBulk d + 1
  | .map entries => uptoBulkEntries entries + 1
  | .held _ => 1
def uptoBulkAll {H : Type} : List (DataW H) → Nat
  | [] => 0
  | d :: r => uptoBulk d + uptoBulkAll r
def uptoBulkEntries {H : Type} : List (Lit × DataW H) → Nat
  | [] => 0
  | x :: r => uptoBulkEntry x + uptoBulkEntries r
def uptoBulkEntry {H : Type} : Lit × DataW H → Nat
  | (.string bytes, d) => bytes.length + uptoBulk d + 1
  | (_, d) => uptoBulk d + 1
 end
def uptoSmall : (H : Type) → List (DataW H) → Bool := fun _ ds => decide (uptoBulkAll ds ≤ 1048576)
def OpenSpec.upto (s : _root_.Go.ChangeSpec) : _root_.Go.OpenSpec := { _root_.Go.OpenSpec.ofChange s with cond := some uptoSmall }

/-- 'innkeeperlaw12.TimerNumbers', WHERE WHAT IT READS IS OF BULK AT MOST 1048576: true; the input reads as it did. -/
def timerNumbersUptoRow : OpenClaim := { program := "ytnlkcmjnohageaa", sum := "2ab507fbf647a30e20dfb866db7a5862f52d335ba58f625a4a5322a42998ff0f", func := "innkeeper/innkeeperlaw12.TimerNumbers", spec := "timerNumbers", apart := false, narrowed := true }
def TimerNumbersUptoSaid : Prop := timerNumbersUptoRow.holds Try.pinned (OpenSpec.upto timerNumbersSpec)

/-- 'innkeeperlaw12.TimerPlays', WHERE WHAT IT READS IS OF BULK AT MOST 1048576: true; the input reads as it did. -/
def timerPlaysUptoRow : OpenClaim := { program := "ytnlkcmjnohageaa", sum := "2ab507fbf647a30e20dfb866db7a5862f52d335ba58f625a4a5322a42998ff0f", func := "innkeeper/innkeeperlaw12.TimerPlays", spec := "timerPlays", apart := false, narrowed := true }
def TimerPlaysUptoSaid : Prop := timerPlaysUptoRow.holds Try.pinned (OpenSpec.upto timerPlaysSpec)

/-- 'innkeeperlaw12.TimerOnce', WHERE WHAT IT READS IS OF BULK AT MOST 1048576: true; the input reads as it did. -/
def timerOnceUptoRow : OpenClaim := { program := "ytnlkcmjnohageaa", sum := "2ab507fbf647a30e20dfb866db7a5862f52d335ba58f625a4a5322a42998ff0f", func := "innkeeper/innkeeperlaw12.TimerOnce", spec := "timerOnce", apart := false, narrowed := true }
def TimerOnceUptoSaid : Prop := timerOnceUptoRow.holds Try.pinned (OpenSpec.upto timerOnceSpec)

/-- 'innkeeperlaw12.TimerSets', WHERE WHAT IT READS IS OF BULK AT MOST 1048576: true; the input reads as it did. -/
def timerSetsUptoRow : OpenClaim := { program := "ytnlkcmjnohageaa", sum := "2ab507fbf647a30e20dfb866db7a5862f52d335ba58f625a4a5322a42998ff0f", func := "innkeeper/innkeeperlaw12.TimerSets", spec := "timerSets", apart := false, narrowed := true }
def TimerSetsUptoSaid : Prop := timerSetsUptoRow.holds Try.pinned (OpenSpec.upto timerSetsSpec)

/-- 'innkeeperlaw13.ConsoleNumbers', WHERE WHAT IT READS IS OF BULK AT MOST 1048576: true; the input reads as it did. -/
def consoleNumbersUptoRow : OpenClaim := { program := "ytnlkcmjnohageaa", sum := "2ab507fbf647a30e20dfb866db7a5862f52d335ba58f625a4a5322a42998ff0f", func := "innkeeper/innkeeperlaw13.ConsoleNumbers", spec := "consoleNumbers", apart := false, narrowed := true }
def ConsoleNumbersUptoSaid : Prop := consoleNumbersUptoRow.holds Try.pinned (OpenSpec.upto consoleNumbersSpec)

/-- 'innkeeperlaw13.ConsoleRooms', WHERE WHAT IT READS IS OF BULK AT MOST 1048576: true; the input reads as it did. -/
def consoleRoomsUptoRow : OpenClaim := { program := "ytnlkcmjnohageaa", sum := "2ab507fbf647a30e20dfb866db7a5862f52d335ba58f625a4a5322a42998ff0f", func := "innkeeper/innkeeperlaw13.ConsoleRooms", spec := "consoleRooms", apart := false, narrowed := true }
def ConsoleRoomsUptoSaid : Prop := consoleRoomsUptoRow.holds Try.pinned (OpenSpec.upto consoleRoomsSpec)

/-- 'innkeeperlaw13.ConsolePlays', WHERE WHAT IT READS IS OF BULK AT MOST 1048576: true; the input reads as it did. -/
def consolePlaysUptoRow : OpenClaim := { program := "ytnlkcmjnohageaa", sum := "2ab507fbf647a30e20dfb866db7a5862f52d335ba58f625a4a5322a42998ff0f", func := "innkeeper/innkeeperlaw13.ConsolePlays", spec := "consolePlays", apart := false, narrowed := true }
def ConsolePlaysUptoSaid : Prop := consolePlaysUptoRow.holds Try.pinned (OpenSpec.upto consolePlaysSpec)

/-- 'innkeeperlaw13.ConsoleEchoes', WHERE WHAT IT READS IS OF BULK AT MOST 1048576: true; the input reads as it did. -/
def consoleEchoesUptoRow : OpenClaim := { program := "ytnlkcmjnohageaa", sum := "2ab507fbf647a30e20dfb866db7a5862f52d335ba58f625a4a5322a42998ff0f", func := "innkeeper/innkeeperlaw13.ConsoleEchoes", spec := "consoleEchoes", apart := false, narrowed := true }
def ConsoleEchoesUptoSaid : Prop := consoleEchoesUptoRow.holds Try.pinned (OpenSpec.upto consoleEchoesSpec)

end Rows
end Go.Proofs.Ytnlkcmjnohageaa
