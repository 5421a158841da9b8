/-
  No cell of these rows narrows 'for every input' (looked for: loops, veiled, ifaces, maps, wideKeys, modest, calm, conditions, laid).
  DERIVED. THE GIVEN ROWS OF THIS SEAT. 5 by the template 'for every input the law returns true; each argument reads behind the call as it read before'; 0 by the template 'total and deterministic' (their statements: YtgbgccifdbpolaaTotals.lean).
  GIVEN WITH THE SEED: the statements are not yours to turn. If you find one false, say at which input.
  Laid BY PROGRAM, IN A SANDBOX (cutbox-rows.mjs): the forced cells as the released guide's own fill.sh prints them over the translation d02fce5f0cb3085d… (all of the seat's roots in one cut). By AI agents, Wed Nov 11 2026. No macro, syntax, notation, axiom, sorry.
-/
import Derived.Test.YtgbgccifdbpolaaChecked
import GoSem.Claim
import GoSem.ClaimJoined
import GoSem.ClaimMapViews
import Derived.JoinedTies
import Derived.KernelRfl
namespace Go.Proofs.Ytgbgccifdbpolaa
/- THE CELL 'sum', in the pinned program and in every row, IS THE sha256 OF THE DUMP (.gsa) THAT YtgbgccifdbpolaaProg.lean LOADS. Nothing in Lean hashes anything: it is a label: what it is worth is what the hold of that sum in a sandbox is worth. -/
noncomputable def Try.pinned : Pinned := { name := "ytgbgccifdbpolaa", sum := "d02fce5f0cb3085d5f93506dec21632124b57229bca7418b65ebcc4e7fe776d8", checked := Try.checked }
namespace Rows
def none {H : Type} : Left H := { results := [], args := [] }

/-- 'wicketlaw14.LockPlays': WHATEVER THE INPUT: true; the input reads as it did. -/
def lockPlaysSpec : ChangeSpec := { name := "lockPlays", fn := fun _ => fun
  | [d1, d2] => { results := [.lit (.bool true)], args := [d1, d2] }
  | _ => none }
def lockPlaysRow : OpenClaim := { program := "ytgbgccifdbpolaa", sum := "d02fce5f0cb3085d5f93506dec21632124b57229bca7418b65ebcc4e7fe776d8", func := "wicket/wicketlaw14.LockPlays", spec := "lockPlays", inPlace := ["maps.clone"], unfollowed := true, recurses := true, apart := false }
def LockPlaysSaid : Prop := lockPlaysRow.holds Try.pinned (OpenSpec.ofChange lockPlaysSpec)

/-- ITS FALSE NEIGHBOUR: 'it returns false'. Refute it at one input. -/
def lockPlaysWrong : ChangeSpec := { name := "lockPlays", fn := fun _ => fun
  | [d1, d2] => { results := [.lit (.bool false)], args := [d1, d2] }
  | _ => none }
def LockPlaysWrongFalsely : Prop := lockPlaysRow.holds Try.pinned (OpenSpec.ofChange lockPlaysWrong)

/-- 'wicketlaw15.WaitsNone': WHATEVER THE INPUT: true; the input reads as it did. -/
def waitsNoneSpec : ChangeSpec := { name := "waitsNone", fn := fun _ => fun
  | [] => { results := [.lit (.bool true)], args := [] }
  | _ => none }
def waitsNoneRow : OpenClaim := { program := "ytgbgccifdbpolaa", sum := "d02fce5f0cb3085d5f93506dec21632124b57229bca7418b65ebcc4e7fe776d8", func := "wicket/wicketlaw15.WaitsNone", spec := "waitsNone", inPlace := ["slices.overlaps[uint64]"], unfollowed := true, recurses := true, apart := false }
def WaitsNoneSaid : Prop := waitsNoneRow.holds Try.pinned (OpenSpec.ofChange waitsNoneSpec)

/-- ITS FALSE NEIGHBOUR: 'it returns false'. Refute it at one input. -/
def waitsNoneWrong : ChangeSpec := { name := "waitsNone", fn := fun _ => fun
  | [] => { results := [.lit (.bool false)], args := [] }
  | _ => none }
def WaitsNoneWrongFalsely : Prop := waitsNoneRow.holds Try.pinned (OpenSpec.ofChange waitsNoneWrong)

/-- 'wicketlaw13.AdmitNames': WHATEVER THE INPUT: true; the input reads as it did. -/
def admitNamesSpec : ChangeSpec := { name := "admitNames", fn := fun _ => fun
  | [] => { results := [.lit (.bool true)], args := [] }
  | _ => none }
def admitNamesRow : OpenClaim := { program := "ytgbgccifdbpolaa", sum := "d02fce5f0cb3085d5f93506dec21632124b57229bca7418b65ebcc4e7fe776d8", func := "wicket/wicketlaw13.AdmitNames", spec := "admitNames", inPlace := ["maps.clone"], unfollowed := true, recurses := true, apart := false }
def AdmitNamesSaid : Prop := admitNamesRow.holds Try.pinned (OpenSpec.ofChange admitNamesSpec)

/-- ITS FALSE NEIGHBOUR: 'it returns false'. Refute it at one input. -/
def admitNamesWrong : ChangeSpec := { name := "admitNames", fn := fun _ => fun
  | [] => { results := [.lit (.bool false)], args := [] }
  | _ => none }
def AdmitNamesWrongFalsely : Prop := admitNamesRow.holds Try.pinned (OpenSpec.ofChange admitNamesWrong)

/-- 'wicketlaw13.AdmitPlays': WHATEVER THE INPUT: true; the input reads as it did. -/
def admitPlaysSpec : ChangeSpec := { name := "admitPlays", fn := fun _ => fun
  | [d1, d2] => { results := [.lit (.bool true)], args := [d1, d2] }
  | _ => none }
def admitPlaysRow : OpenClaim := { program := "ytgbgccifdbpolaa", sum := "d02fce5f0cb3085d5f93506dec21632124b57229bca7418b65ebcc4e7fe776d8", func := "wicket/wicketlaw13.AdmitPlays", spec := "admitPlays", inPlace := ["maps.clone"], unfollowed := true, recurses := true, apart := false }
def AdmitPlaysSaid : Prop := admitPlaysRow.holds Try.pinned (OpenSpec.ofChange admitPlaysSpec)

/-- ITS FALSE NEIGHBOUR: 'it returns false'. Refute it at one input. -/
def admitPlaysWrong : ChangeSpec := { name := "admitPlays", fn := fun _ => fun
  | [d1, d2] => { results := [.lit (.bool false)], args := [d1, d2] }
  | _ => none }
def AdmitPlaysWrongFalsely : Prop := admitPlaysRow.holds Try.pinned (OpenSpec.ofChange admitPlaysWrong)

/-- 'wicketlaw13.AdmitFair': WHATEVER THE INPUT: true; the input reads as it did. -/
def admitFairSpec : ChangeSpec := { name := "admitFair", fn := fun _ => fun
  | [d1, d2] => { results := [.lit (.bool true)], args := [d1, d2] }
  | _ => none }
def admitFairRow : OpenClaim := { program := "ytgbgccifdbpolaa", sum := "d02fce5f0cb3085d5f93506dec21632124b57229bca7418b65ebcc4e7fe776d8", func := "wicket/wicketlaw13.AdmitFair", spec := "admitFair", inPlace := ["maps.clone"], unfollowed := true, recurses := true, apart := false }
def AdmitFairSaid : Prop := admitFairRow.holds Try.pinned (OpenSpec.ofChange admitFairSpec)

/-- ITS FALSE NEIGHBOUR: 'it returns false'. Refute it at one input. -/
def admitFairWrong : ChangeSpec := { name := "admitFair", fn := fun _ => fun
  | [d1, d2] => { results := [.lit (.bool false)], args := [d1, d2] }
  | _ => none }
def AdmitFairWrongFalsely : Prop := admitFairRow.holds Try.pinned (OpenSpec.ofChange admitFairWrong)

/- THE SECOND FORM. 'bulk': how many values and letters a reading holds, each counted each time it is reached (what is shared counts as often as it is met; a slice's spare places count too). A statement '..UptoSaid' is the law's where the arguments, and the package variables that the reading takes, are together of bulk at most 1048576: NARROWER than '..Said'. Prove '..Said' where nothing that the law and all that it calls make is longer than what came in: it says more and counts as full. Else prove '..UptoSaid'. A law counts once. -/
mutual
def uptoBulk {H : Type} : DataW H → Nat
  | .lit (.string bytes) => bytes.length + 1
  | .lit _ => 1
  | .nil => 1
  | .ptr d => uptoBulk d + 1
  | .slice elems spare => uptoBulkAll elems + uptoBulkAll spare + 1
  | .agg parts => uptoBulkAll parts + 1
  | .iface _ d => uptoBulk d + 1
  | .map entries => uptoBulkEntries entries + 1
  | .held _ => 1
def uptoBulkAll {H : Type} : List (DataW H) → Nat
  | [] => 0
  | d :: r => uptoBulk d + uptoBulkAll r
def uptoBulkEntries {H : Type} : List (Lit × DataW H) → Nat
  | [] => 0
  | x :: r => uptoBulkEntry x + uptoBulkEntries r
def uptoBulkEntry {H : Type} : Lit × DataW H → Nat
  | (.string bytes, d) => bytes.length + uptoBulk d + 1
  | (_, d) => uptoBulk d + 1
 end
def uptoSmall : (H : Type) → List (DataW H) → Bool := fun _ ds => decide (uptoBulkAll ds ≤ 1048576)
def OpenSpec.upto (s : _root_.Go.ChangeSpec) : _root_.Go.OpenSpec := { _root_.Go.OpenSpec.ofChange s with cond := some uptoSmall }

/-- 'wicketlaw14.LockPlays', WHERE WHAT IT READS IS OF BULK AT MOST 1048576: true; the input reads as it did. -/
def lockPlaysUptoRow : OpenClaim := { program := "ytgbgccifdbpolaa", sum := "d02fce5f0cb3085d5f93506dec21632124b57229bca7418b65ebcc4e7fe776d8", func := "wicket/wicketlaw14.LockPlays", spec := "lockPlays", inPlace := ["maps.clone"], unfollowed := true, recurses := true, apart := false, narrowed := true }
def LockPlaysUptoSaid : Prop := lockPlaysUptoRow.holds Try.pinned (OpenSpec.upto lockPlaysSpec)

/-- 'wicketlaw15.WaitsNone', WHERE WHAT IT READS IS OF BULK AT MOST 1048576: true; the input reads as it did. -/
def waitsNoneUptoRow : OpenClaim := { program := "ytgbgccifdbpolaa", sum := "d02fce5f0cb3085d5f93506dec21632124b57229bca7418b65ebcc4e7fe776d8", func := "wicket/wicketlaw15.WaitsNone", spec := "waitsNone", inPlace := ["slices.overlaps[uint64]"], unfollowed := true, recurses := true, apart := false, narrowed := true }
def WaitsNoneUptoSaid : Prop := waitsNoneUptoRow.holds Try.pinned (OpenSpec.upto waitsNoneSpec)

/-- 'wicketlaw13.AdmitNames', WHERE WHAT IT READS IS OF BULK AT MOST 1048576: true; the input reads as it did. -/
def admitNamesUptoRow : OpenClaim := { program := "ytgbgccifdbpolaa", sum := "d02fce5f0cb3085d5f93506dec21632124b57229bca7418b65ebcc4e7fe776d8", func := "wicket/wicketlaw13.AdmitNames", spec := "admitNames", inPlace := ["maps.clone"], unfollowed := true, recurses := true, apart := false, narrowed := true }
def AdmitNamesUptoSaid : Prop := admitNamesUptoRow.holds Try.pinned (OpenSpec.upto admitNamesSpec)

/-- 'wicketlaw13.AdmitPlays', WHERE WHAT IT READS IS OF BULK AT MOST 1048576: true; the input reads as it did. -/
def admitPlaysUptoRow : OpenClaim := { program := "ytgbgccifdbpolaa", sum := "d02fce5f0cb3085d5f93506dec21632124b57229bca7418b65ebcc4e7fe776d8", func := "wicket/wicketlaw13.AdmitPlays", spec := "admitPlays", inPlace := ["maps.clone"], unfollowed := true, recurses := true, apart := false, narrowed := true }
def AdmitPlaysUptoSaid : Prop := admitPlaysUptoRow.holds Try.pinned (OpenSpec.upto admitPlaysSpec)

/-- 'wicketlaw13.AdmitFair', WHERE WHAT IT READS IS OF BULK AT MOST 1048576: true; the input reads as it did. -/
def admitFairUptoRow : OpenClaim := { program := "ytgbgccifdbpolaa", sum := "d02fce5f0cb3085d5f93506dec21632124b57229bca7418b65ebcc4e7fe776d8", func := "wicket/wicketlaw13.AdmitFair", spec := "admitFair", inPlace := ["maps.clone"], unfollowed := true, recurses := true, apart := false, narrowed := true }
def AdmitFairUptoSaid : Prop := admitFairUptoRow.holds Try.pinned (OpenSpec.upto admitFairSpec)

end Rows
end Go.Proofs.Ytgbgccifdbpolaa
