/-
  No cell of these rows narrows 'for every input' (looked for: loops, veiled, ifaces, maps, wideKeys, modest, calm, conditions, laid).
  DERIVED. THE GIVEN ROWS OF THIS SEAT. 8 by the template 'for every input the law returns true; each argument reads behind the call as it read before'; 0 by the template 'total and deterministic' (their statements: YtdfilkofhgmakaaTotals.lean).
  GIVEN WITH THE SEED: the statements are not yours to turn. If you find one false, say at which input.
  Laid BY PROGRAM, IN A SANDBOX (cutbox-rows.mjs): the forced cells as the released guide's own fill.sh prints them over the translation 060901b65c4e3856… (all of the seat's roots in one cut). By AI agents, Wed Nov 11 2026. No macro, syntax, notation, axiom, sorry.
-/
import Derived.Test.YtdfilkofhgmakaaChecked
import GoSem.Claim
import GoSem.ClaimJoined
import GoSem.ClaimMapViews
import Derived.JoinedTies
import Derived.KernelRfl
namespace Go.Proofs.Ytdfilkofhgmakaa
/- THE CELL 'sum', in the pinned program and in every row, IS THE sha256 OF THE DUMP (.gsa) THAT YtdfilkofhgmakaaProg.lean LOADS. Nothing in Lean hashes anything: it is a label: what it is worth is what the hold of that sum in a sandbox is worth. -/
noncomputable def Try.pinned : Pinned := { name := "ytdfilkofhgmakaa", sum := "060901b65c4e3856606df91127ab1ee4ab928bf5f1132b7a90f573aea40a5a35", checked := Try.checked }
namespace Rows
def none {H : Type} : Left H := { results := [], args := [] }

/-- 'swarflaw49.ProfileValid': WHATEVER THE INPUT: true; the input reads as it did. -/
def profileValidSpec : ChangeSpec := { name := "profileValid", fn := fun _ => fun
  | [d1, d2] => { results := [.lit (.bool true)], args := [d1, d2] }
  | _ => none }
def profileValidRow : OpenClaim := { program := "ytdfilkofhgmakaa", sum := "060901b65c4e3856606df91127ab1ee4ab928bf5f1132b7a90f573aea40a5a35", func := "swarf/swarflaw49.ProfileValid", spec := "profileValid", unfollowed := true, recurses := true, apart := false }
def ProfileValidSaid : Prop := profileValidRow.holds Try.pinned (OpenSpec.ofChange profileValidSpec)

/-- ITS FALSE NEIGHBOUR: 'it returns false'. Refute it at one input. -/
def profileValidWrong : ChangeSpec := { name := "profileValid", fn := fun _ => fun
  | [d1, d2] => { results := [.lit (.bool false)], args := [d1, d2] }
  | _ => none }
def ProfileValidWrongFalsely : Prop := profileValidRow.holds Try.pinned (OpenSpec.ofChange profileValidWrong)

/-- 'swarflaw49.ProfileSmooth': WHATEVER THE INPUT: true; the input reads as it did. -/
def profileSmoothSpec : ChangeSpec := { name := "profileSmooth", fn := fun _ => fun
  | [d1, d2] => { results := [.lit (.bool true)], args := [d1, d2] }
  | _ => none }
def profileSmoothRow : OpenClaim := { program := "ytdfilkofhgmakaa", sum := "060901b65c4e3856606df91127ab1ee4ab928bf5f1132b7a90f573aea40a5a35", func := "swarf/swarflaw49.ProfileSmooth", spec := "profileSmooth", unfollowed := true, recurses := true, apart := false }
def ProfileSmoothSaid : Prop := profileSmoothRow.holds Try.pinned (OpenSpec.ofChange profileSmoothSpec)

/-- ITS FALSE NEIGHBOUR: 'it returns false'. Refute it at one input. -/
def profileSmoothWrong : ChangeSpec := { name := "profileSmooth", fn := fun _ => fun
  | [d1, d2] => { results := [.lit (.bool false)], args := [d1, d2] }
  | _ => none }
def ProfileSmoothWrongFalsely : Prop := profileSmoothRow.holds Try.pinned (OpenSpec.ofChange profileSmoothWrong)

/-- 'swarflaw49.ProfileStop': WHATEVER THE INPUT: true; the input reads as it did. -/
def profileStopSpec : ChangeSpec := { name := "profileStop", fn := fun _ => fun
  | [d1, d2, d3] => { results := [.lit (.bool true)], args := [d1, d2, d3] }
  | _ => none }
def profileStopRow : OpenClaim := { program := "ytdfilkofhgmakaa", sum := "060901b65c4e3856606df91127ab1ee4ab928bf5f1132b7a90f573aea40a5a35", func := "swarf/swarflaw49.ProfileStop", spec := "profileStop", unfollowed := true, recurses := true, apart := false }
def ProfileStopSaid : Prop := profileStopRow.holds Try.pinned (OpenSpec.ofChange profileStopSpec)

/-- ITS FALSE NEIGHBOUR: 'it returns false'. Refute it at one input. -/
def profileStopWrong : ChangeSpec := { name := "profileStop", fn := fun _ => fun
  | [d1, d2, d3] => { results := [.lit (.bool false)], args := [d1, d2, d3] }
  | _ => none }
def ProfileStopWrongFalsely : Prop := profileStopRow.holds Try.pinned (OpenSpec.ofChange profileStopWrong)

/-- 'swarflaw49.ProfileRest': WHATEVER THE INPUT: true; the input reads as it did. -/
def profileRestSpec : ChangeSpec := { name := "profileRest", fn := fun _ => fun
  | [d1, d2, d3] => { results := [.lit (.bool true)], args := [d1, d2, d3] }
  | _ => none }
def profileRestRow : OpenClaim := { program := "ytdfilkofhgmakaa", sum := "060901b65c4e3856606df91127ab1ee4ab928bf5f1132b7a90f573aea40a5a35", func := "swarf/swarflaw49.ProfileRest", spec := "profileRest", unfollowed := true, recurses := true, apart := false }
def ProfileRestSaid : Prop := profileRestRow.holds Try.pinned (OpenSpec.ofChange profileRestSpec)

/-- ITS FALSE NEIGHBOUR: 'it returns false'. Refute it at one input. -/
def profileRestWrong : ChangeSpec := { name := "profileRest", fn := fun _ => fun
  | [d1, d2, d3] => { results := [.lit (.bool false)], args := [d1, d2, d3] }
  | _ => none }
def ProfileRestWrongFalsely : Prop := profileRestRow.holds Try.pinned (OpenSpec.ofChange profileRestWrong)

/-- 'swarflaw49.ProfileSafe': WHATEVER THE INPUT: true; the input reads as it did. -/
def profileSafeSpec : ChangeSpec := { name := "profileSafe", fn := fun _ => fun
  | [d1, d2] => { results := [.lit (.bool true)], args := [d1, d2] }
  | _ => none }
def profileSafeRow : OpenClaim := { program := "ytdfilkofhgmakaa", sum := "060901b65c4e3856606df91127ab1ee4ab928bf5f1132b7a90f573aea40a5a35", func := "swarf/swarflaw49.ProfileSafe", spec := "profileSafe", unfollowed := true, recurses := true, apart := false }
def ProfileSafeSaid : Prop := profileSafeRow.holds Try.pinned (OpenSpec.ofChange profileSafeSpec)

/-- ITS FALSE NEIGHBOUR: 'it returns false'. Refute it at one input. -/
def profileSafeWrong : ChangeSpec := { name := "profileSafe", fn := fun _ => fun
  | [d1, d2] => { results := [.lit (.bool false)], args := [d1, d2] }
  | _ => none }
def ProfileSafeWrongFalsely : Prop := profileSafeRow.holds Try.pinned (OpenSpec.ofChange profileSafeWrong)

/-- 'swarflaw49.ProfilePosition': WHATEVER THE INPUT: true; the input reads as it did. -/
def profilePositionSpec : ChangeSpec := { name := "profilePosition", fn := fun _ => fun
  | [d1, d2, d3] => { results := [.lit (.bool true)], args := [d1, d2, d3] }
  | _ => none }
def profilePositionRow : OpenClaim := { program := "ytdfilkofhgmakaa", sum := "060901b65c4e3856606df91127ab1ee4ab928bf5f1132b7a90f573aea40a5a35", func := "swarf/swarflaw49.ProfilePosition", spec := "profilePosition", unfollowed := true, recurses := true, apart := false }
def ProfilePositionSaid : Prop := profilePositionRow.holds Try.pinned (OpenSpec.ofChange profilePositionSpec)

/-- ITS FALSE NEIGHBOUR: 'it returns false'. Refute it at one input. -/
def profilePositionWrong : ChangeSpec := { name := "profilePosition", fn := fun _ => fun
  | [d1, d2, d3] => { results := [.lit (.bool false)], args := [d1, d2, d3] }
  | _ => none }
def ProfilePositionWrongFalsely : Prop := profilePositionRow.holds Try.pinned (OpenSpec.ofChange profilePositionWrong)

/-- 'swarflaw49.ProfileForward': WHATEVER THE INPUT: true; the input reads as it did. -/
def profileForwardSpec : ChangeSpec := { name := "profileForward", fn := fun _ => fun
  | [d1, d2, d3] => { results := [.lit (.bool true)], args := [d1, d2, d3] }
  | _ => none }
def profileForwardRow : OpenClaim := { program := "ytdfilkofhgmakaa", sum := "060901b65c4e3856606df91127ab1ee4ab928bf5f1132b7a90f573aea40a5a35", func := "swarf/swarflaw49.ProfileForward", spec := "profileForward", unfollowed := true, recurses := true, apart := false }
def ProfileForwardSaid : Prop := profileForwardRow.holds Try.pinned (OpenSpec.ofChange profileForwardSpec)

/-- ITS FALSE NEIGHBOUR: 'it returns false'. Refute it at one input. -/
def profileForwardWrong : ChangeSpec := { name := "profileForward", fn := fun _ => fun
  | [d1, d2, d3] => { results := [.lit (.bool false)], args := [d1, d2, d3] }
  | _ => none }
def ProfileForwardWrongFalsely : Prop := profileForwardRow.holds Try.pinned (OpenSpec.ofChange profileForwardWrong)

/-- 'swarflaw49.ProfileSteps': WHATEVER THE INPUT: true; the input reads as it did. -/
def profileStepsSpec : ChangeSpec := { name := "profileSteps", fn := fun _ => fun
  | [d1, d2] => { results := [.lit (.bool true)], args := [d1, d2] }
  | _ => none }
def profileStepsRow : OpenClaim := { program := "ytdfilkofhgmakaa", sum := "060901b65c4e3856606df91127ab1ee4ab928bf5f1132b7a90f573aea40a5a35", func := "swarf/swarflaw49.ProfileSteps", spec := "profileSteps", unfollowed := true, recurses := true, apart := false }
def ProfileStepsSaid : Prop := profileStepsRow.holds Try.pinned (OpenSpec.ofChange profileStepsSpec)

/-- ITS FALSE NEIGHBOUR: 'it returns false'. Refute it at one input. -/
def profileStepsWrong : ChangeSpec := { name := "profileSteps", fn := fun _ => fun
  | [d1, d2] => { results := [.lit (.bool false)], args := [d1, d2] }
  | _ => none }
def ProfileStepsWrongFalsely : Prop := profileStepsRow.holds Try.pinned (OpenSpec.ofChange profileStepsWrong)

/- THE SECOND FORM. 'bulk': how many values and letters a reading holds, each counted each time it is reached (what is shared counts as often as it is met; a slice's spare places count too). A statement '..UptoSaid' is the law's where the arguments, and the package variables that the reading takes, are together of bulk at most 1048576: NARROWER than '..Said'. Prove '..Said' where nothing that the law and all that it calls make is longer than what came in: it says more and counts as full. Else prove '..UptoSaid'. A law counts once. -/
mutual
def uptoBulk {H : Type} : DataW H → Nat
  | .lit (.string bytes) => bytes.length + 1
  | .lit _ => 1
  | .nil => 1
  | .ptr d => uptoBulk d + 1
  | .slice elems spare => uptoBulkAll elems + uptoBulkAll spare + 1
  | .agg parts => uptoBulkAll parts + 1
  | .iface _ d => uptoBulk d + 1
  | .map entries => uptoBulkEntries entries + 1
  | .held _ => 1
def uptoBulkAll {H : Type} : List (DataW H) → Nat
  | [] => 0
  | d :: r => uptoBulk d + uptoBulkAll r
def uptoBulkEntries {H : Type} : List (Lit × DataW H) → Nat
  | [] => 0
  | x :: r => uptoBulkEntry x + uptoBulkEntries r
def uptoBulkEntry {H : Type} : Lit × DataW H → Nat
  | (.string bytes, d) => bytes.length + uptoBulk d + 1
  | (_, d) => uptoBulk d + 1
 end
def uptoSmall : (H : Type) → List (DataW H) → Bool := fun _ ds => decide (uptoBulkAll ds ≤ 1048576)
def OpenSpec.upto (s : _root_.Go.ChangeSpec) : _root_.Go.OpenSpec := { _root_.Go.OpenSpec.ofChange s with cond := some uptoSmall }

/-- 'swarflaw49.ProfileValid', WHERE WHAT IT READS IS OF BULK AT MOST 1048576: true; the input reads as it did. -/
def profileValidUptoRow : OpenClaim := { program := "ytdfilkofhgmakaa", sum := "060901b65c4e3856606df91127ab1ee4ab928bf5f1132b7a90f573aea40a5a35", func := "swarf/swarflaw49.ProfileValid", spec := "profileValid", unfollowed := true, recurses := true, apart := false, narrowed := true }
def ProfileValidUptoSaid : Prop := profileValidUptoRow.holds Try.pinned (OpenSpec.upto profileValidSpec)

/-- 'swarflaw49.ProfileSmooth', WHERE WHAT IT READS IS OF BULK AT MOST 1048576: true; the input reads as it did. -/
def profileSmoothUptoRow : OpenClaim := { program := "ytdfilkofhgmakaa", sum := "060901b65c4e3856606df91127ab1ee4ab928bf5f1132b7a90f573aea40a5a35", func := "swarf/swarflaw49.ProfileSmooth", spec := "profileSmooth", unfollowed := true, recurses := true, apart := false, narrowed := true }
def ProfileSmoothUptoSaid : Prop := profileSmoothUptoRow.holds Try.pinned (OpenSpec.upto profileSmoothSpec)

/-- 'swarflaw49.ProfileStop', WHERE WHAT IT READS IS OF BULK AT MOST 1048576: true; the input reads as it did. -/
def profileStopUptoRow : OpenClaim := { program := "ytdfilkofhgmakaa", sum := "060901b65c4e3856606df91127ab1ee4ab928bf5f1132b7a90f573aea40a5a35", func := "swarf/swarflaw49.ProfileStop", spec := "profileStop", unfollowed := true, recurses := true, apart := false, narrowed := true }
def ProfileStopUptoSaid : Prop := profileStopUptoRow.holds Try.pinned (OpenSpec.upto profileStopSpec)

/-- 'swarflaw49.ProfileRest', WHERE WHAT IT READS IS OF BULK AT MOST 1048576: true; the input reads as it did. -/
def profileRestUptoRow : OpenClaim := { program := "ytdfilkofhgmakaa", sum := "060901b65c4e3856606df91127ab1ee4ab928bf5f1132b7a90f573aea40a5a35", func := "swarf/swarflaw49.ProfileRest", spec := "profileRest", unfollowed := true, recurses := true, apart := false, narrowed := true }
def ProfileRestUptoSaid : Prop := profileRestUptoRow.holds Try.pinned (OpenSpec.upto profileRestSpec)

/-- 'swarflaw49.ProfileSafe', WHERE WHAT IT READS IS OF BULK AT MOST 1048576: true; the input reads as it did. -/
def profileSafeUptoRow : OpenClaim := { program := "ytdfilkofhgmakaa", sum := "060901b65c4e3856606df91127ab1ee4ab928bf5f1132b7a90f573aea40a5a35", func := "swarf/swarflaw49.ProfileSafe", spec := "profileSafe", unfollowed := true, recurses := true, apart := false, narrowed := true }
def ProfileSafeUptoSaid : Prop := profileSafeUptoRow.holds Try.pinned (OpenSpec.upto profileSafeSpec)

/-- 'swarflaw49.ProfilePosition', WHERE WHAT IT READS IS OF BULK AT MOST 1048576: true; the input reads as it did. -/
def profilePositionUptoRow : OpenClaim := { program := "ytdfilkofhgmakaa", sum := "060901b65c4e3856606df91127ab1ee4ab928bf5f1132b7a90f573aea40a5a35", func := "swarf/swarflaw49.ProfilePosition", spec := "profilePosition", unfollowed := true, recurses := true, apart := false, narrowed := true }
def ProfilePositionUptoSaid : Prop := profilePositionUptoRow.holds Try.pinned (OpenSpec.upto profilePositionSpec)

/-- 'swarflaw49.ProfileForward', WHERE WHAT IT READS IS OF BULK AT MOST 1048576: true; the input reads as it did. -/
def profileForwardUptoRow : OpenClaim := { program := "ytdfilkofhgmakaa", sum := "060901b65c4e3856606df91127ab1ee4ab928bf5f1132b7a90f573aea40a5a35", func := "swarf/swarflaw49.ProfileForward", spec := "profileForward", unfollowed := true, recurses := true, apart := false, narrowed := true }
def ProfileForwardUptoSaid : Prop := profileForwardUptoRow.holds Try.pinned (OpenSpec.upto profileForwardSpec)

/-- 'swarflaw49.ProfileSteps', WHERE WHAT IT READS IS OF BULK AT MOST 1048576: true; the input reads as it did. -/
def profileStepsUptoRow : OpenClaim := { program := "ytdfilkofhgmakaa", sum := "060901b65c4e3856606df91127ab1ee4ab928bf5f1132b7a90f573aea40a5a35", func := "swarf/swarflaw49.ProfileSteps", spec := "profileSteps", unfollowed := true, recurses := true, apart := false, narrowed := true }
def ProfileStepsUptoSaid : Prop := profileStepsUptoRow.holds Try.pinned (OpenSpec.upto profileStepsSpec)

end Rows
end Go.Proofs.Ytdfilkofhgmakaa
