/-
  No cell of these rows narrows 'for every input' (looked for: loops, veiled, ifaces, maps, wideKeys, modest, calm, conditions, laid).
  DERIVED. THE GIVEN ROWS OF THIS SEAT. 3 by the template 'for every input the law returns true; each argument reads behind the call as it read before'; 0 by the template 'total and deterministic' (their statements: YtbcfbafpeidifaaTotals.lean).
  GIVEN WITH THE SEED: the statements are not yours to turn. If you find one false, say at which input.
  Laid BY PROGRAM, IN A SANDBOX (cutbox-rows.mjs): the forced cells as the released guide's own fill.sh prints them over the translation ad350772f1258640… (all of the seat's roots in one cut). By AI agents, Wed Nov 11 2026. No macro, syntax, notation, axiom, sorry.
-/
import Derived.Test.YtbcfbafpeidifaaChecked
import GoSem.Claim
import GoSem.ClaimJoined
import GoSem.ClaimMapViews
import Derived.JoinedTies
import Derived.KernelRfl
namespace Go.Proofs.Ytbcfbafpeidifaa
/- THE CELL 'sum', in the pinned program and in every row, IS THE sha256 OF THE DUMP (.gsa) THAT YtbcfbafpeidifaaProg.lean LOADS. Nothing in Lean hashes anything: it is a label: what it is worth is what the hold of that sum in a sandbox is worth. -/
noncomputable def Try.pinned : Pinned := { name := "ytbcfbafpeidifaa", sum := "ad350772f1258640ac55a6df8a6f99945c186f5d5fe5b911f1330471ded79446", checked := Try.checked }
namespace Rows
def none {H : Type} : Left H := { results := [], args := [] }

/-- 'catnaplaw14.TableAsks': WHATEVER THE INPUT: true; the input reads as it did. -/
def tableAsksSpec : ChangeSpec := { name := "tableAsks", fn := fun _ => fun
  | [d1, d2, d3, d4] => { results := [.lit (.bool true)], args := [d1, d2, d3, d4] }
  | _ => none }
def tableAsksRow : OpenClaim := { program := "ytbcfbafpeidifaa", sum := "ad350772f1258640ac55a6df8a6f99945c186f5d5fe5b911f1330471ded79446", func := "catnap/catnaplaw14.TableAsks", spec := "tableAsks", unfollowed := true, recurses := true, plainKeys := false, apart := false }
def TableAsksSaid : Prop := tableAsksRow.holds Try.pinned (OpenSpec.ofChange tableAsksSpec)

/-- ITS FALSE NEIGHBOUR: 'it returns false'. Refute it at one input. -/
def tableAsksWrong : ChangeSpec := { name := "tableAsks", fn := fun _ => fun
  | [d1, d2, d3, d4] => { results := [.lit (.bool false)], args := [d1, d2, d3, d4] }
  | _ => none }
def TableAsksWrongFalsely : Prop := tableAsksRow.holds Try.pinned (OpenSpec.ofChange tableAsksWrong)

/-- 'catnaplaw14.TableTwice': WHATEVER THE INPUT: true; the input reads as it did. -/
def tableTwiceSpec : ChangeSpec := { name := "tableTwice", fn := fun _ => fun
  | [d1, d2, d3, d4] => { results := [.lit (.bool true)], args := [d1, d2, d3, d4] }
  | _ => none }
def tableTwiceRow : OpenClaim := { program := "ytbcfbafpeidifaa", sum := "ad350772f1258640ac55a6df8a6f99945c186f5d5fe5b911f1330471ded79446", func := "catnap/catnaplaw14.TableTwice", spec := "tableTwice", unfollowed := true, recurses := true, plainKeys := false, apart := false }
def TableTwiceSaid : Prop := tableTwiceRow.holds Try.pinned (OpenSpec.ofChange tableTwiceSpec)

/-- ITS FALSE NEIGHBOUR: 'it returns false'. Refute it at one input. -/
def tableTwiceWrong : ChangeSpec := { name := "tableTwice", fn := fun _ => fun
  | [d1, d2, d3, d4] => { results := [.lit (.bool false)], args := [d1, d2, d3, d4] }
  | _ => none }
def TableTwiceWrongFalsely : Prop := tableTwiceRow.holds Try.pinned (OpenSpec.ofChange tableTwiceWrong)

/-- 'catnaplaw14.TableTokens': WHATEVER THE INPUT: true; the input reads as it did. -/
def tableTokensSpec : ChangeSpec := { name := "tableTokens", fn := fun _ => fun
  | [d1, d2, d3, d4] => { results := [.lit (.bool true)], args := [d1, d2, d3, d4] }
  | _ => none }
def tableTokensRow : OpenClaim := { program := "ytbcfbafpeidifaa", sum := "ad350772f1258640ac55a6df8a6f99945c186f5d5fe5b911f1330471ded79446", func := "catnap/catnaplaw14.TableTokens", spec := "tableTokens", unfollowed := true, recurses := true, plainKeys := false, apart := false }
def TableTokensSaid : Prop := tableTokensRow.holds Try.pinned (OpenSpec.ofChange tableTokensSpec)

/-- ITS FALSE NEIGHBOUR: 'it returns false'. Refute it at one input. -/
def tableTokensWrong : ChangeSpec := { name := "tableTokens", fn := fun _ => fun
  | [d1, d2, d3, d4] => { results := [.lit (.bool false)], args := [d1, d2, d3, d4] }
  | _ => none }
def TableTokensWrongFalsely : Prop := tableTokensRow.holds Try.pinned (OpenSpec.ofChange tableTokensWrong)

/- THE SECOND FORM. 'bulk': how many values and letters a reading holds, each counted each time it is reached (what is shared counts as often as it is met; a slice's spare places count too). A statement '..UptoSaid' is the law's where the arguments, and the package variables that the reading takes, are together of bulk at most 1048576: NARROWER than '..Said'. Prove '..Said' where nothing that the law and all that it calls make is longer than what came in: it says more and counts as full. Else prove '..UptoSaid'. A law counts once. -/
mutual
def uptoBulk {H : Type} : DataW H → Nat
  | .lit (.string bytes) => bytes.length + 1
  | .lit _ => 1
  | .nil => 1
  | .ptr d => uptoBulk d + 1
  | .slice elems spare => uptoBulkAll elems + uptoBulkAll spare + 1
  | .agg parts => uptoBulkAll parts + 1
  | .iface _ d => uptoBulk d + 1
  | .map entries => uptoBulkEntries entries + 1
  | .held _ => 1
def uptoBulkAll {H : Type} : List (DataW H) → Nat
  | [] => 0
  | d :: r => uptoBulk d + uptoBulkAll r
def uptoBulkEntries {H : Type} : List (Lit × DataW H) → Nat
  | [] => 0
  | x :: r => uptoBulkEntry x + uptoBulkEntries r
def uptoBulkEntry {H : Type} : Lit × DataW H → Nat
  | (.string bytes, d) => bytes.length + uptoBulk d + 1
  | (_, d) => uptoBulk d + 1
 end
def uptoSmall : (H : Type) → List (DataW H) → Bool := fun _ ds => decide (uptoBulkAll ds ≤ 1048576)
def OpenSpec.upto (s : _root_.Go.ChangeSpec) : _root_.Go.OpenSpec := { _root_.Go.OpenSpec.ofChange s with cond := some uptoSmall }

/-- 'catnaplaw14.TableAsks', WHERE WHAT IT READS IS OF BULK AT MOST 1048576: true; the input reads as it did. -/
def tableAsksUptoRow : OpenClaim := { program := "ytbcfbafpeidifaa", sum := "ad350772f1258640ac55a6df8a6f99945c186f5d5fe5b911f1330471ded79446", func := "catnap/catnaplaw14.TableAsks", spec := "tableAsks", unfollowed := true, recurses := true, plainKeys := false, apart := false, narrowed := true }
def TableAsksUptoSaid : Prop := tableAsksUptoRow.holds Try.pinned (OpenSpec.upto tableAsksSpec)

/-- 'catnaplaw14.TableTwice', WHERE WHAT IT READS IS OF BULK AT MOST 1048576: true; the input reads as it did. -/
def tableTwiceUptoRow : OpenClaim := { program := "ytbcfbafpeidifaa", sum := "ad350772f1258640ac55a6df8a6f99945c186f5d5fe5b911f1330471ded79446", func := "catnap/catnaplaw14.TableTwice", spec := "tableTwice", unfollowed := true, recurses := true, plainKeys := false, apart := false, narrowed := true }
def TableTwiceUptoSaid : Prop := tableTwiceUptoRow.holds Try.pinned (OpenSpec.upto tableTwiceSpec)

/-- 'catnaplaw14.TableTokens', WHERE WHAT IT READS IS OF BULK AT MOST 1048576: true; the input reads as it did. -/
def tableTokensUptoRow : OpenClaim := { program := "ytbcfbafpeidifaa", sum := "ad350772f1258640ac55a6df8a6f99945c186f5d5fe5b911f1330471ded79446", func := "catnap/catnaplaw14.TableTokens", spec := "tableTokens", unfollowed := true, recurses := true, plainKeys := false, apart := false, narrowed := true }
def TableTokensUptoSaid : Prop := tableTokensUptoRow.holds Try.pinned (OpenSpec.upto tableTokensSpec)

end Rows
end Go.Proofs.Ytbcfbafpeidifaa
