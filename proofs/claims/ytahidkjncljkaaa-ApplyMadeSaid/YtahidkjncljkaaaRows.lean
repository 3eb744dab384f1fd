/-
  No cell of these rows narrows 'for every input' (looked for: loops, veiled, ifaces, maps, wideKeys, modest, calm, conditions, laid).
  DERIVED. THE GIVEN ROWS OF THIS SEAT. 19 by the template 'for every input the law returns true; each argument reads behind the call as it read before'; 0 by the template 'total and deterministic' (their statements: YtahidkjncljkaaaTotals.lean).
  GIVEN WITH THE SEED: the statements are not yours to turn. If you find one false, say at which input.
  Laid BY PROGRAM, IN A SANDBOX (cutbox-rows.mjs): the forced cells as the released guide's own fill.sh prints them over the translation 597f36bf3d00924a… (all of the seat's roots in one cut). By AI agents, Wed Nov 11 2026. No macro, syntax, notation, axiom, sorry.
-/
import Derived.Test.YtahidkjncljkaaaChecked
import GoSem.Claim
import GoSem.ClaimJoined
import GoSem.ClaimMapViews
import Derived.JoinedTies
import Derived.KernelRfl
namespace Go.Proofs.Ytahidkjncljkaaa
/- THE CELL 'sum', in the pinned program and in every row, IS THE sha256 OF THE DUMP (.gsa) THAT YtahidkjncljkaaaProg.lean LOADS. Nothing in Lean hashes anything: it is a label: what it is worth is what the hold of that sum in a sandbox is worth. -/
noncomputable def Try.pinned : Pinned := { name := "ytahidkjncljkaaa", sum := "597f36bf3d00924ab9607b072c3b47f9bacb8d13c68e0d627feec9842b75b30a", checked := Try.checked }
namespace Rows
def none {H : Type} : Left H := { results := [], args := [] }

/-- 'doorkeeperlaw11.WantAll': WHATEVER THE INPUT: true; the input reads as it did. -/
def wantAllSpec : ChangeSpec := { name := "wantAll", fn := fun _ => fun
  | [d1, d2] => { results := [.lit (.bool true)], args := [d1, d2] }
  | _ => none }
def wantAllRow : OpenClaim := { program := "ytahidkjncljkaaa", sum := "597f36bf3d00924ab9607b072c3b47f9bacb8d13c68e0d627feec9842b75b30a", func := "doorkeeper/doorkeeperlaw11.WantAll", spec := "wantAll", unfollowed := true, recurses := true, apart := false }
def WantAllSaid : Prop := wantAllRow.holds Try.pinned (OpenSpec.ofChange wantAllSpec)

/-- ITS FALSE NEIGHBOUR: 'it returns false'. Refute it at one input. -/
def wantAllWrong : ChangeSpec := { name := "wantAll", fn := fun _ => fun
  | [d1, d2] => { results := [.lit (.bool false)], args := [d1, d2] }
  | _ => none }
def WantAllWrongFalsely : Prop := wantAllRow.holds Try.pinned (OpenSpec.ofChange wantAllWrong)

/-- 'doorkeeperlaw11.WantMade': WHATEVER THE INPUT: true; the input reads as it did. -/
def wantMadeSpec : ChangeSpec := { name := "wantMade", fn := fun _ => fun
  | [d1, d2, d3] => { results := [.lit (.bool true)], args := [d1, d2, d3] }
  | _ => none }
def wantMadeRow : OpenClaim := { program := "ytahidkjncljkaaa", sum := "597f36bf3d00924ab9607b072c3b47f9bacb8d13c68e0d627feec9842b75b30a", func := "doorkeeper/doorkeeperlaw11.WantMade", spec := "wantMade", unfollowed := true, recurses := true, apart := false }
def WantMadeSaid : Prop := wantMadeRow.holds Try.pinned (OpenSpec.ofChange wantMadeSpec)

/-- ITS FALSE NEIGHBOUR: 'it returns false'. Refute it at one input. -/
def wantMadeWrong : ChangeSpec := { name := "wantMade", fn := fun _ => fun
  | [d1, d2, d3] => { results := [.lit (.bool false)], args := [d1, d2, d3] }
  | _ => none }
def WantMadeWrongFalsely : Prop := wantMadeRow.holds Try.pinned (OpenSpec.ofChange wantMadeWrong)

/-- 'doorkeeperlaw11.WantTop': WHATEVER THE INPUT: true; the input reads as it did. -/
def wantTopSpec : ChangeSpec := { name := "wantTop", fn := fun _ => fun
  | [d] => { results := [.lit (.bool true)], args := [d] }
  | _ => none }
def wantTopRow : OpenClaim := { program := "ytahidkjncljkaaa", sum := "597f36bf3d00924ab9607b072c3b47f9bacb8d13c68e0d627feec9842b75b30a", func := "doorkeeper/doorkeeperlaw11.WantTop", spec := "wantTop", unfollowed := true, recurses := true, apart := false }
def WantTopSaid : Prop := wantTopRow.holds Try.pinned (OpenSpec.ofChange wantTopSpec)

/-- ITS FALSE NEIGHBOUR: 'it returns false'. Refute it at one input. -/
def wantTopWrong : ChangeSpec := { name := "wantTop", fn := fun _ => fun
  | [d] => { results := [.lit (.bool false)], args := [d] }
  | _ => none }
def WantTopWrongFalsely : Prop := wantTopRow.holds Try.pinned (OpenSpec.ofChange wantTopWrong)

/-- 'doorkeeperlaw11.WantCircle': WHATEVER THE INPUT: true; the input reads as it did. -/
def wantCircleSpec : ChangeSpec := { name := "wantCircle", fn := fun _ => fun
  | [d1, d2, d3] => { results := [.lit (.bool true)], args := [d1, d2, d3] }
  | _ => none }
def wantCircleRow : OpenClaim := { program := "ytahidkjncljkaaa", sum := "597f36bf3d00924ab9607b072c3b47f9bacb8d13c68e0d627feec9842b75b30a", func := "doorkeeper/doorkeeperlaw11.WantCircle", spec := "wantCircle", unfollowed := true, recurses := true, apart := false }
def WantCircleSaid : Prop := wantCircleRow.holds Try.pinned (OpenSpec.ofChange wantCircleSpec)

/-- ITS FALSE NEIGHBOUR: 'it returns false'. Refute it at one input. -/
def wantCircleWrong : ChangeSpec := { name := "wantCircle", fn := fun _ => fun
  | [d1, d2, d3] => { results := [.lit (.bool false)], args := [d1, d2, d3] }
  | _ => none }
def WantCircleWrongFalsely : Prop := wantCircleRow.holds Try.pinned (OpenSpec.ofChange wantCircleWrong)

/-- 'doorkeeperlaw11.WantSums': WHATEVER THE INPUT: true; the input reads as it did. -/
def wantSumsSpec : ChangeSpec := { name := "wantSums", fn := fun _ => fun
  | [d1, d2, d3, d4, d5] => { results := [.lit (.bool true)], args := [d1, d2, d3, d4, d5] }
  | _ => none }
def wantSumsRow : OpenClaim := { program := "ytahidkjncljkaaa", sum := "597f36bf3d00924ab9607b072c3b47f9bacb8d13c68e0d627feec9842b75b30a", func := "doorkeeper/doorkeeperlaw11.WantSums", spec := "wantSums", unfollowed := true, recurses := true, apart := false }
def WantSumsSaid : Prop := wantSumsRow.holds Try.pinned (OpenSpec.ofChange wantSumsSpec)

/-- ITS FALSE NEIGHBOUR: 'it returns false'. Refute it at one input. -/
def wantSumsWrong : ChangeSpec := { name := "wantSums", fn := fun _ => fun
  | [d1, d2, d3, d4, d5] => { results := [.lit (.bool false)], args := [d1, d2, d3, d4, d5] }
  | _ => none }
def WantSumsWrongFalsely : Prop := wantSumsRow.holds Try.pinned (OpenSpec.ofChange wantSumsWrong)

/-- 'doorkeeperlaw19.TrialCuts': WHATEVER THE INPUT: true; the input reads as it did. -/
def trialCutsSpec : ChangeSpec := { name := "trialCuts", fn := fun _ => fun
  | [d1, d2, d3] => { results := [.lit (.bool true)], args := [d1, d2, d3] }
  | _ => none }
def trialCutsRow : OpenClaim := { program := "ytahidkjncljkaaa", sum := "597f36bf3d00924ab9607b072c3b47f9bacb8d13c68e0d627feec9842b75b30a", func := "doorkeeper/doorkeeperlaw19.TrialCuts", spec := "trialCuts", inPlace := ["slices.overlaps[doorkeeper/api.Item]"], unfollowed := true, recurses := true, apart := false }
def TrialCutsSaid : Prop := trialCutsRow.holds Try.pinned (OpenSpec.ofChange trialCutsSpec)

/-- ITS FALSE NEIGHBOUR: 'it returns false'. Refute it at one input. -/
def trialCutsWrong : ChangeSpec := { name := "trialCuts", fn := fun _ => fun
  | [d1, d2, d3] => { results := [.lit (.bool false)], args := [d1, d2, d3] }
  | _ => none }
def TrialCutsWrongFalsely : Prop := trialCutsRow.holds Try.pinned (OpenSpec.ofChange trialCutsWrong)

/-- 'doorkeeperlaw18.PlanAll': WHATEVER THE INPUT: true; the input reads as it did. -/
def planAllSpec : ChangeSpec := { name := "planAll", fn := fun _ => fun
  | [d1, d2, d3] => { results := [.lit (.bool true)], args := [d1, d2, d3] }
  | _ => none }
def planAllRow : OpenClaim := { program := "ytahidkjncljkaaa", sum := "597f36bf3d00924ab9607b072c3b47f9bacb8d13c68e0d627feec9842b75b30a", func := "doorkeeper/doorkeeperlaw18.PlanAll", spec := "planAll", unfollowed := true, recurses := true, apart := false }
def PlanAllSaid : Prop := planAllRow.holds Try.pinned (OpenSpec.ofChange planAllSpec)

/-- ITS FALSE NEIGHBOUR: 'it returns false'. Refute it at one input. -/
def planAllWrong : ChangeSpec := { name := "planAll", fn := fun _ => fun
  | [d1, d2, d3] => { results := [.lit (.bool false)], args := [d1, d2, d3] }
  | _ => none }
def PlanAllWrongFalsely : Prop := planAllRow.holds Try.pinned (OpenSpec.ofChange planAllWrong)

/-- 'doorkeeperlaw18.PlanMade': WHATEVER THE INPUT: true; the input reads as it did. -/
def planMadeSpec : ChangeSpec := { name := "planMade", fn := fun _ => fun
  | [d1, d2, d3, d4] => { results := [.lit (.bool true)], args := [d1, d2, d3, d4] }
  | _ => none }
def planMadeRow : OpenClaim := { program := "ytahidkjncljkaaa", sum := "597f36bf3d00924ab9607b072c3b47f9bacb8d13c68e0d627feec9842b75b30a", func := "doorkeeper/doorkeeperlaw18.PlanMade", spec := "planMade", unfollowed := true, recurses := true, apart := false }
def PlanMadeSaid : Prop := planMadeRow.holds Try.pinned (OpenSpec.ofChange planMadeSpec)

/-- ITS FALSE NEIGHBOUR: 'it returns false'. Refute it at one input. -/
def planMadeWrong : ChangeSpec := { name := "planMade", fn := fun _ => fun
  | [d1, d2, d3, d4] => { results := [.lit (.bool false)], args := [d1, d2, d3, d4] }
  | _ => none }
def PlanMadeWrongFalsely : Prop := planMadeRow.holds Try.pinned (OpenSpec.ofChange planMadeWrong)

/-- 'doorkeeperlaw18.PlanLeads': WHATEVER THE INPUT: true; the input reads as it did. -/
def planLeadsSpec : ChangeSpec := { name := "planLeads", fn := fun _ => fun
  | [d1, d2] => { results := [.lit (.bool true)], args := [d1, d2] }
  | _ => none }
def planLeadsRow : OpenClaim := { program := "ytahidkjncljkaaa", sum := "597f36bf3d00924ab9607b072c3b47f9bacb8d13c68e0d627feec9842b75b30a", func := "doorkeeper/doorkeeperlaw18.PlanLeads", spec := "planLeads", unfollowed := true, recurses := true, apart := false }
def PlanLeadsSaid : Prop := planLeadsRow.holds Try.pinned (OpenSpec.ofChange planLeadsSpec)

/-- ITS FALSE NEIGHBOUR: 'it returns false'. Refute it at one input. -/
def planLeadsWrong : ChangeSpec := { name := "planLeads", fn := fun _ => fun
  | [d1, d2] => { results := [.lit (.bool false)], args := [d1, d2] }
  | _ => none }
def PlanLeadsWrongFalsely : Prop := planLeadsRow.holds Try.pinned (OpenSpec.ofChange planLeadsWrong)

/-- 'doorkeeperlaw18.PlanEmpty': WHATEVER THE INPUT: true; the input reads as it did. -/
def planEmptySpec : ChangeSpec := { name := "planEmpty", fn := fun _ => fun
  | [d1, d2, d3, d4] => { results := [.lit (.bool true)], args := [d1, d2, d3, d4] }
  | _ => none }
def planEmptyRow : OpenClaim := { program := "ytahidkjncljkaaa", sum := "597f36bf3d00924ab9607b072c3b47f9bacb8d13c68e0d627feec9842b75b30a", func := "doorkeeper/doorkeeperlaw18.PlanEmpty", spec := "planEmpty", unfollowed := true, recurses := true, apart := false }
def PlanEmptySaid : Prop := planEmptyRow.holds Try.pinned (OpenSpec.ofChange planEmptySpec)

/-- ITS FALSE NEIGHBOUR: 'it returns false'. Refute it at one input. -/
def planEmptyWrong : ChangeSpec := { name := "planEmpty", fn := fun _ => fun
  | [d1, d2, d3, d4] => { results := [.lit (.bool false)], args := [d1, d2, d3, d4] }
  | _ => none }
def PlanEmptyWrongFalsely : Prop := planEmptyRow.holds Try.pinned (OpenSpec.ofChange planEmptyWrong)

/-- 'doorkeeperlaw18.PlanOrder': WHATEVER THE INPUT: true; the input reads as it did. -/
def planOrderSpec : ChangeSpec := { name := "planOrder", fn := fun _ => fun
  | [d1, d2, d3] => { results := [.lit (.bool true)], args := [d1, d2, d3] }
  | _ => none }
def planOrderRow : OpenClaim := { program := "ytahidkjncljkaaa", sum := "597f36bf3d00924ab9607b072c3b47f9bacb8d13c68e0d627feec9842b75b30a", func := "doorkeeper/doorkeeperlaw18.PlanOrder", spec := "planOrder", unfollowed := true, recurses := true, apart := false }
def PlanOrderSaid : Prop := planOrderRow.holds Try.pinned (OpenSpec.ofChange planOrderSpec)

/-- ITS FALSE NEIGHBOUR: 'it returns false'. Refute it at one input. -/
def planOrderWrong : ChangeSpec := { name := "planOrder", fn := fun _ => fun
  | [d1, d2, d3] => { results := [.lit (.bool false)], args := [d1, d2, d3] }
  | _ => none }
def PlanOrderWrongFalsely : Prop := planOrderRow.holds Try.pinned (OpenSpec.ofChange planOrderWrong)

/-- 'doorkeeperlaw18.PlanFresh': WHATEVER THE INPUT: true; the input reads as it did. -/
def planFreshSpec : ChangeSpec := { name := "planFresh", fn := fun _ => fun
  | [d] => { results := [.lit (.bool true)], args := [d] }
  | _ => none }
def planFreshRow : OpenClaim := { program := "ytahidkjncljkaaa", sum := "597f36bf3d00924ab9607b072c3b47f9bacb8d13c68e0d627feec9842b75b30a", func := "doorkeeper/doorkeeperlaw18.PlanFresh", spec := "planFresh", unfollowed := true, recurses := true, apart := false }
def PlanFreshSaid : Prop := planFreshRow.holds Try.pinned (OpenSpec.ofChange planFreshSpec)

/-- ITS FALSE NEIGHBOUR: 'it returns false'. Refute it at one input. -/
def planFreshWrong : ChangeSpec := { name := "planFresh", fn := fun _ => fun
  | [d] => { results := [.lit (.bool false)], args := [d] }
  | _ => none }
def PlanFreshWrongFalsely : Prop := planFreshRow.holds Try.pinned (OpenSpec.ofChange planFreshWrong)

/-- 'doorkeeperlaw18.PlanNone': WHATEVER THE INPUT: true; the input reads as it did. -/
def planNoneSpec : ChangeSpec := { name := "planNone", fn := fun _ => fun
  | [d1, d2] => { results := [.lit (.bool true)], args := [d1, d2] }
  | _ => none }
def planNoneRow : OpenClaim := { program := "ytahidkjncljkaaa", sum := "597f36bf3d00924ab9607b072c3b47f9bacb8d13c68e0d627feec9842b75b30a", func := "doorkeeper/doorkeeperlaw18.PlanNone", spec := "planNone", unfollowed := true, recurses := true, apart := false }
def PlanNoneSaid : Prop := planNoneRow.holds Try.pinned (OpenSpec.ofChange planNoneSpec)

/-- ITS FALSE NEIGHBOUR: 'it returns false'. Refute it at one input. -/
def planNoneWrong : ChangeSpec := { name := "planNone", fn := fun _ => fun
  | [d1, d2] => { results := [.lit (.bool false)], args := [d1, d2] }
  | _ => none }
def PlanNoneWrongFalsely : Prop := planNoneRow.holds Try.pinned (OpenSpec.ofChange planNoneWrong)

/-- 'doorkeeperlaw18.PlanClash': WHATEVER THE INPUT: true; the input reads as it did. -/
def planClashSpec : ChangeSpec := { name := "planClash", fn := fun _ => fun
  | [d1, d2, d3] => { results := [.lit (.bool true)], args := [d1, d2, d3] }
  | _ => none }
def planClashRow : OpenClaim := { program := "ytahidkjncljkaaa", sum := "597f36bf3d00924ab9607b072c3b47f9bacb8d13c68e0d627feec9842b75b30a", func := "doorkeeper/doorkeeperlaw18.PlanClash", spec := "planClash", unfollowed := true, recurses := true, apart := false }
def PlanClashSaid : Prop := planClashRow.holds Try.pinned (OpenSpec.ofChange planClashSpec)

/-- ITS FALSE NEIGHBOUR: 'it returns false'. Refute it at one input. -/
def planClashWrong : ChangeSpec := { name := "planClash", fn := fun _ => fun
  | [d1, d2, d3] => { results := [.lit (.bool false)], args := [d1, d2, d3] }
  | _ => none }
def PlanClashWrongFalsely : Prop := planClashRow.holds Try.pinned (OpenSpec.ofChange planClashWrong)

/-- 'doorkeeperlaw18.PlanWide': WHATEVER THE INPUT: true; the input reads as it did. -/
def planWideSpec : ChangeSpec := { name := "planWide", fn := fun _ => fun
  | [d1, d2] => { results := [.lit (.bool true)], args := [d1, d2] }
  | _ => none }
def planWideRow : OpenClaim := { program := "ytahidkjncljkaaa", sum := "597f36bf3d00924ab9607b072c3b47f9bacb8d13c68e0d627feec9842b75b30a", func := "doorkeeper/doorkeeperlaw18.PlanWide", spec := "planWide", unfollowed := true, recurses := true, apart := false }
def PlanWideSaid : Prop := planWideRow.holds Try.pinned (OpenSpec.ofChange planWideSpec)

/-- ITS FALSE NEIGHBOUR: 'it returns false'. Refute it at one input. -/
def planWideWrong : ChangeSpec := { name := "planWide", fn := fun _ => fun
  | [d1, d2] => { results := [.lit (.bool false)], args := [d1, d2] }
  | _ => none }
def PlanWideWrongFalsely : Prop := planWideRow.holds Try.pinned (OpenSpec.ofChange planWideWrong)

/-- 'doorkeeperlaw23.ApplyAll': WHATEVER THE INPUT: true; the input reads as it did. -/
def applyAllSpec : ChangeSpec := { name := "applyAll", fn := fun _ => fun
  | [d1, d2] => { results := [.lit (.bool true)], args := [d1, d2] }
  | _ => none }
def applyAllRow : OpenClaim := { program := "ytahidkjncljkaaa", sum := "597f36bf3d00924ab9607b072c3b47f9bacb8d13c68e0d627feec9842b75b30a", func := "doorkeeper/doorkeeperlaw23.ApplyAll", spec := "applyAll", inPlace := ["slices.overlaps[doorkeeper/api.Item]"], unfollowed := true, recurses := true, apart := false }
def ApplyAllSaid : Prop := applyAllRow.holds Try.pinned (OpenSpec.ofChange applyAllSpec)

/-- ITS FALSE NEIGHBOUR: 'it returns false'. Refute it at one input. -/
def applyAllWrong : ChangeSpec := { name := "applyAll", fn := fun _ => fun
  | [d1, d2] => { results := [.lit (.bool false)], args := [d1, d2] }
  | _ => none }
def ApplyAllWrongFalsely : Prop := applyAllRow.holds Try.pinned (OpenSpec.ofChange applyAllWrong)

/-- 'doorkeeperlaw23.ApplyMade': WHATEVER THE INPUT: true; the input reads as it did. -/
def applyMadeSpec : ChangeSpec := { name := "applyMade", fn := fun _ => fun
  | [d1, d2, d3, d4] => { results := [.lit (.bool true)], args := [d1, d2, d3, d4] }
  | _ => none }
def applyMadeRow : OpenClaim := { program := "ytahidkjncljkaaa", sum := "597f36bf3d00924ab9607b072c3b47f9bacb8d13c68e0d627feec9842b75b30a", func := "doorkeeper/doorkeeperlaw23.ApplyMade", spec := "applyMade", inPlace := ["slices.overlaps[doorkeeper/api.Item]"], unfollowed := true, recurses := true, apart := false }
def ApplyMadeSaid : Prop := applyMadeRow.holds Try.pinned (OpenSpec.ofChange applyMadeSpec)

/-- ITS FALSE NEIGHBOUR: 'it returns false'. Refute it at one input. -/
def applyMadeWrong : ChangeSpec := { name := "applyMade", fn := fun _ => fun
  | [d1, d2, d3, d4] => { results := [.lit (.bool false)], args := [d1, d2, d3, d4] }
  | _ => none }
def ApplyMadeWrongFalsely : Prop := applyMadeRow.holds Try.pinned (OpenSpec.ofChange applyMadeWrong)

/-- 'doorkeeperlaw23.ApplyAgain': WHATEVER THE INPUT: true; the input reads as it did. -/
def applyAgainSpec : ChangeSpec := { name := "applyAgain", fn := fun _ => fun
  | [d1, d2, d3, d4] => { results := [.lit (.bool true)], args := [d1, d2, d3, d4] }
  | _ => none }
def applyAgainRow : OpenClaim := { program := "ytahidkjncljkaaa", sum := "597f36bf3d00924ab9607b072c3b47f9bacb8d13c68e0d627feec9842b75b30a", func := "doorkeeper/doorkeeperlaw23.ApplyAgain", spec := "applyAgain", inPlace := ["slices.overlaps[doorkeeper/api.Item]"], unfollowed := true, recurses := true, apart := false }
def ApplyAgainSaid : Prop := applyAgainRow.holds Try.pinned (OpenSpec.ofChange applyAgainSpec)

/-- ITS FALSE NEIGHBOUR: 'it returns false'. Refute it at one input. -/
def applyAgainWrong : ChangeSpec := { name := "applyAgain", fn := fun _ => fun
  | [d1, d2, d3, d4] => { results := [.lit (.bool false)], args := [d1, d2, d3, d4] }
  | _ => none }
def ApplyAgainWrongFalsely : Prop := applyAgainRow.holds Try.pinned (OpenSpec.ofChange applyAgainWrong)

/-- 'doorkeeperlaw23.ApplyEnds': WHATEVER THE INPUT: true; the input reads as it did. -/
def applyEndsSpec : ChangeSpec := { name := "applyEnds", fn := fun _ => fun
  | [d1, d2] => { results := [.lit (.bool true)], args := [d1, d2] }
  | _ => none }
def applyEndsRow : OpenClaim := { program := "ytahidkjncljkaaa", sum := "597f36bf3d00924ab9607b072c3b47f9bacb8d13c68e0d627feec9842b75b30a", func := "doorkeeper/doorkeeperlaw23.ApplyEnds", spec := "applyEnds", inPlace := ["slices.overlaps[doorkeeper/api.Item]"], unfollowed := true, recurses := true, apart := false }
def ApplyEndsSaid : Prop := applyEndsRow.holds Try.pinned (OpenSpec.ofChange applyEndsSpec)

/-- ITS FALSE NEIGHBOUR: 'it returns false'. Refute it at one input. -/
def applyEndsWrong : ChangeSpec := { name := "applyEnds", fn := fun _ => fun
  | [d1, d2] => { results := [.lit (.bool false)], args := [d1, d2] }
  | _ => none }
def ApplyEndsWrongFalsely : Prop := applyEndsRow.holds Try.pinned (OpenSpec.ofChange applyEndsWrong)

/- THE SECOND FORM. 'bulk': how many values and letters a reading holds, each counted each time it is reached (what is shared counts as often as it is met; a slice's spare places count too). A statement '..UptoSaid' is the law's where the arguments, and the package variables that the reading takes, are together of bulk at most 1048576: NARROWER than '..Said'. Prove '..Said' where nothing that the law and all that it calls make is longer than what came in: it says more and counts as full. Else prove '..UptoSaid'. A law counts once. -/
mutual
def uptoBulk {H : Type} : DataW H → Nat
  | .lit (.string bytes) => bytes.length + 1
  | .lit _ => 1
  | .nil => 1
  | .ptr d => uptoBulk d + 1
  | .slice elems spare => uptoBulkAll elems + uptoBulkAll spare + 1
  | .agg parts => uptoBulkAll parts + 1
  | .iface _ d => uptoBulk d + 1
  | .map entries => uptoBulkEntries entries + 1
  | .held _ => 1
def uptoBulkAll {H : Type} : List (DataW H) → Nat
  | [] => 0
  | d :: r => uptoBulk d + uptoBulkAll r
def uptoBulkEntries {H : Type} : List (Lit × DataW H) → Nat
  | [] => 0
  | x :: r => uptoBulkEntry x + uptoBulkEntries r
def uptoBulkEntry {H : Type} : Lit × DataW H → Nat
  | (.string bytes, d) => bytes.length + uptoBulk d + 1
  | (_, d) => uptoBulk d + 1
 end
def uptoSmall : (H : Type) → List (DataW H) → Bool := fun _ ds => decide (uptoBulkAll ds ≤ 1048576)
def OpenSpec.upto (s : _root_.Go.ChangeSpec) : _root_.Go.OpenSpec := { _root_.Go.OpenSpec.ofChange s with cond := some uptoSmall }

/-- 'doorkeeperlaw11.WantAll', WHERE WHAT IT READS IS OF BULK AT MOST 1048576: true; the input reads as it did. -/
def wantAllUptoRow : OpenClaim := { program := "ytahidkjncljkaaa", sum := "597f36bf3d00924ab9607b072c3b47f9bacb8d13c68e0d627feec9842b75b30a", func := "doorkeeper/doorkeeperlaw11.WantAll", spec := "wantAll", unfollowed := true, recurses := true, apart := false, narrowed := true }
def WantAllUptoSaid : Prop := wantAllUptoRow.holds Try.pinned (OpenSpec.upto wantAllSpec)

/-- 'doorkeeperlaw11.WantMade', WHERE WHAT IT READS IS OF BULK AT MOST 1048576: true; the input reads as it did. -/
def wantMadeUptoRow : OpenClaim := { program := "ytahidkjncljkaaa", sum := "597f36bf3d00924ab9607b072c3b47f9bacb8d13c68e0d627feec9842b75b30a", func := "doorkeeper/doorkeeperlaw11.WantMade", spec := "wantMade", unfollowed := true, recurses := true, apart := false, narrowed := true }
def WantMadeUptoSaid : Prop := wantMadeUptoRow.holds Try.pinned (OpenSpec.upto wantMadeSpec)

/-- 'doorkeeperlaw11.WantTop', WHERE WHAT IT READS IS OF BULK AT MOST 1048576: true; the input reads as it did. -/
def wantTopUptoRow : OpenClaim := { program := "ytahidkjncljkaaa", sum := "597f36bf3d00924ab9607b072c3b47f9bacb8d13c68e0d627feec9842b75b30a", func := "doorkeeper/doorkeeperlaw11.WantTop", spec := "wantTop", unfollowed := true, recurses := true, apart := false, narrowed := true }
def WantTopUptoSaid : Prop := wantTopUptoRow.holds Try.pinned (OpenSpec.upto wantTopSpec)

/-- 'doorkeeperlaw11.WantCircle', WHERE WHAT IT READS IS OF BULK AT MOST 1048576: true; the input reads as it did. -/
def wantCircleUptoRow : OpenClaim := { program := "ytahidkjncljkaaa", sum := "597f36bf3d00924ab9607b072c3b47f9bacb8d13c68e0d627feec9842b75b30a", func := "doorkeeper/doorkeeperlaw11.WantCircle", spec := "wantCircle", unfollowed := true, recurses := true, apart := false, narrowed := true }
def WantCircleUptoSaid : Prop := wantCircleUptoRow.holds Try.pinned (OpenSpec.upto wantCircleSpec)

/-- 'doorkeeperlaw11.WantSums', WHERE WHAT IT READS IS OF BULK AT MOST 1048576: true; the input reads as it did. -/
def wantSumsUptoRow : OpenClaim := { program := "ytahidkjncljkaaa", sum := "597f36bf3d00924ab9607b072c3b47f9bacb8d13c68e0d627feec9842b75b30a", func := "doorkeeper/doorkeeperlaw11.WantSums", spec := "wantSums", unfollowed := true, recurses := true, apart := false, narrowed := true }
def WantSumsUptoSaid : Prop := wantSumsUptoRow.holds Try.pinned (OpenSpec.upto wantSumsSpec)

/-- 'doorkeeperlaw19.TrialCuts', WHERE WHAT IT READS IS OF BULK AT MOST 1048576: true; the input reads as it did. -/
def trialCutsUptoRow : OpenClaim := { program := "ytahidkjncljkaaa", sum := "597f36bf3d00924ab9607b072c3b47f9bacb8d13c68e0d627feec9842b75b30a", func := "doorkeeper/doorkeeperlaw19.TrialCuts", spec := "trialCuts", inPlace := ["slices.overlaps[doorkeeper/api.Item]"], unfollowed := true, recurses := true, apart := false, narrowed := true }
def TrialCutsUptoSaid : Prop := trialCutsUptoRow.holds Try.pinned (OpenSpec.upto trialCutsSpec)

/-- 'doorkeeperlaw18.PlanAll', WHERE WHAT IT READS IS OF BULK AT MOST 1048576: true; the input reads as it did. -/
def planAllUptoRow : OpenClaim := { program := "ytahidkjncljkaaa", sum := "597f36bf3d00924ab9607b072c3b47f9bacb8d13c68e0d627feec9842b75b30a", func := "doorkeeper/doorkeeperlaw18.PlanAll", spec := "planAll", unfollowed := true, recurses := true, apart := false, narrowed := true }
def PlanAllUptoSaid : Prop := planAllUptoRow.holds Try.pinned (OpenSpec.upto planAllSpec)

/-- 'doorkeeperlaw18.PlanMade', WHERE WHAT IT READS IS OF BULK AT MOST 1048576: true; the input reads as it did. -/
def planMadeUptoRow : OpenClaim := { program := "ytahidkjncljkaaa", sum := "597f36bf3d00924ab9607b072c3b47f9bacb8d13c68e0d627feec9842b75b30a", func := "doorkeeper/doorkeeperlaw18.PlanMade", spec := "planMade", unfollowed := true, recurses := true, apart := false, narrowed := true }
def PlanMadeUptoSaid : Prop := planMadeUptoRow.holds Try.pinned (OpenSpec.upto planMadeSpec)

/-- 'doorkeeperlaw18.PlanLeads', WHERE WHAT IT READS IS OF BULK AT MOST 1048576: true; the input reads as it did. -/
def planLeadsUptoRow : OpenClaim := { program := "ytahidkjncljkaaa", sum := "597f36bf3d00924ab9607b072c3b47f9bacb8d13c68e0d627feec9842b75b30a", func := "doorkeeper/doorkeeperlaw18.PlanLeads", spec := "planLeads", unfollowed := true, recurses := true, apart := false, narrowed := true }
def PlanLeadsUptoSaid : Prop := planLeadsUptoRow.holds Try.pinned (OpenSpec.upto planLeadsSpec)

/-- 'doorkeeperlaw18.PlanEmpty', WHERE WHAT IT READS IS OF BULK AT MOST 1048576: true; the input reads as it did. -/
def planEmptyUptoRow : OpenClaim := { program := "ytahidkjncljkaaa", sum := "597f36bf3d00924ab9607b072c3b47f9bacb8d13c68e0d627feec9842b75b30a", func := "doorkeeper/doorkeeperlaw18.PlanEmpty", spec := "planEmpty", unfollowed := true, recurses := true, apart := false, narrowed := true }
def PlanEmptyUptoSaid : Prop := planEmptyUptoRow.holds Try.pinned (OpenSpec.upto planEmptySpec)

/-- 'doorkeeperlaw18.PlanOrder', WHERE WHAT IT READS IS OF BULK AT MOST 1048576: true; the input reads as it did. -/
def planOrderUptoRow : OpenClaim := { program := "ytahidkjncljkaaa", sum := "597f36bf3d00924ab9607b072c3b47f9bacb8d13c68e0d627feec9842b75b30a", func := "doorkeeper/doorkeeperlaw18.PlanOrder", spec := "planOrder", unfollowed := true, recurses := true, apart := false, narrowed := true }
def PlanOrderUptoSaid : Prop := planOrderUptoRow.holds Try.pinned (OpenSpec.upto planOrderSpec)

/-- 'doorkeeperlaw18.PlanFresh', WHERE WHAT IT READS IS OF BULK AT MOST 1048576: true; the input reads as it did. -/
def planFreshUptoRow : OpenClaim := { program := "ytahidkjncljkaaa", sum := "597f36bf3d00924ab9607b072c3b47f9bacb8d13c68e0d627feec9842b75b30a", func := "doorkeeper/doorkeeperlaw18.PlanFresh", spec := "planFresh", unfollowed := true, recurses := true, apart := false, narrowed := true }
def PlanFreshUptoSaid : Prop := planFreshUptoRow.holds Try.pinned (OpenSpec.upto planFreshSpec)

/-- 'doorkeeperlaw18.PlanNone', WHERE WHAT IT READS IS OF BULK AT MOST 1048576: true; the input reads as it did. -/
def planNoneUptoRow : OpenClaim := { program := "ytahidkjncljkaaa", sum := "597f36bf3d00924ab9607b072c3b47f9bacb8d13c68e0d627feec9842b75b30a", func := "doorkeeper/doorkeeperlaw18.PlanNone", spec := "planNone", unfollowed := true, recurses := true, apart := false, narrowed := true }
def PlanNoneUptoSaid : Prop := planNoneUptoRow.holds Try.pinned (OpenSpec.upto planNoneSpec)

/-- 'doorkeeperlaw18.PlanClash', WHERE WHAT IT READS IS OF BULK AT MOST 1048576: true; the input reads as it did. -/
def planClashUptoRow : OpenClaim := { program := "ytahidkjncljkaaa", sum := "597f36bf3d00924ab9607b072c3b47f9bacb8d13c68e0d627feec9842b75b30a", func := "doorkeeper/doorkeeperlaw18.PlanClash", spec := "planClash", unfollowed := true, recurses := true, apart := false, narrowed := true }
def PlanClashUptoSaid : Prop := planClashUptoRow.holds Try.pinned (OpenSpec.upto planClashSpec)

/-- 'doorkeeperlaw18.PlanWide', WHERE WHAT IT READS IS OF BULK AT MOST 1048576: true; the input reads as it did. -/
def planWideUptoRow : OpenClaim := { program := "ytahidkjncljkaaa", sum := "597f36bf3d00924ab9607b072c3b47f9bacb8d13c68e0d627feec9842b75b30a", func := "doorkeeper/doorkeeperlaw18.PlanWide", spec := "planWide", unfollowed := true, recurses := true, apart := false, narrowed := true }
def PlanWideUptoSaid : Prop := planWideUptoRow.holds Try.pinned (OpenSpec.upto planWideSpec)

/-- 'doorkeeperlaw23.ApplyAll', WHERE WHAT IT READS IS OF BULK AT MOST 1048576: true; the input reads as it did. -/
def applyAllUptoRow : OpenClaim := { program := "ytahidkjncljkaaa", sum := "597f36bf3d00924ab9607b072c3b47f9bacb8d13c68e0d627feec9842b75b30a", func := "doorkeeper/doorkeeperlaw23.ApplyAll", spec := "applyAll", inPlace := ["slices.overlaps[doorkeeper/api.Item]"], unfollowed := true, recurses := true, apart := false, narrowed := true }
def ApplyAllUptoSaid : Prop := applyAllUptoRow.holds Try.pinned (OpenSpec.upto applyAllSpec)

/-- 'doorkeeperlaw23.ApplyMade', WHERE WHAT IT READS IS OF BULK AT MOST 1048576: true; the input reads as it did. -/
def applyMadeUptoRow : OpenClaim := { program := "ytahidkjncljkaaa", sum := "597f36bf3d00924ab9607b072c3b47f9bacb8d13c68e0d627feec9842b75b30a", func := "doorkeeper/doorkeeperlaw23.ApplyMade", spec := "applyMade", inPlace := ["slices.overlaps[doorkeeper/api.Item]"], unfollowed := true, recurses := true, apart := false, narrowed := true }
def ApplyMadeUptoSaid : Prop := applyMadeUptoRow.holds Try.pinned (OpenSpec.upto applyMadeSpec)

/-- 'doorkeeperlaw23.ApplyAgain', WHERE WHAT IT READS IS OF BULK AT MOST 1048576: true; the input reads as it did. -/
def applyAgainUptoRow : OpenClaim := { program := "ytahidkjncljkaaa", sum := "597f36bf3d00924ab9607b072c3b47f9bacb8d13c68e0d627feec9842b75b30a", func := "doorkeeper/doorkeeperlaw23.ApplyAgain", spec := "applyAgain", inPlace := ["slices.overlaps[doorkeeper/api.Item]"], unfollowed := true, recurses := true, apart := false, narrowed := true }
def ApplyAgainUptoSaid : Prop := applyAgainUptoRow.holds Try.pinned (OpenSpec.upto applyAgainSpec)

/-- 'doorkeeperlaw23.ApplyEnds', WHERE WHAT IT READS IS OF BULK AT MOST 1048576: true; the input reads as it did. -/
def applyEndsUptoRow : OpenClaim := { program := "ytahidkjncljkaaa", sum := "597f36bf3d00924ab9607b072c3b47f9bacb8d13c68e0d627feec9842b75b30a", func := "doorkeeper/doorkeeperlaw23.ApplyEnds", spec := "applyEnds", inPlace := ["slices.overlaps[doorkeeper/api.Item]"], unfollowed := true, recurses := true, apart := false, narrowed := true }
def ApplyEndsUptoSaid : Prop := applyEndsUptoRow.holds Try.pinned (OpenSpec.upto applyEndsSpec)

end Rows
end Go.Proofs.Ytahidkjncljkaaa
