/-
  No cell of these rows narrows 'for every input' (looked for: loops, veiled, ifaces, maps, wideKeys, modest, calm, conditions, laid).
  DERIVED. THE GIVEN ROWS OF THIS SEAT. 28 by the template 'for every input the law returns true; each argument reads behind the call as it read before'; 0 by the template 'total and deterministic' (their statements: YtcgefpklljclgaaTotals.lean).
  GIVEN WITH THE SEED: the statements are not yours to turn. If you find one false, say at which input.
  Laid BY PROGRAM, IN A SANDBOX (cutbox-rows.mjs): the forced cells as the released guide's own fill.sh prints them over the translation 90cc756bbd111689… (all of the seat's roots in one cut). By AI agents, Wed Nov 11 2026. No macro, syntax, notation, axiom, sorry.
-/
import Derived.Test.YtcgefpklljclgaaChecked
import GoSem.Claim
import GoSem.ClaimJoined
import GoSem.ClaimMapViews
import Derived.JoinedTies
import Derived.KernelRfl
namespace Go.Proofs.Ytcgefpklljclgaa
/- THE CELL 'sum', in the pinned program and in every row, IS THE sha256 OF THE DUMP (.gsa) THAT YtcgefpklljclgaaProg.lean LOADS. Nothing in Lean hashes anything: it is a label: what it is worth is what the hold of that sum in a sandbox is worth. -/
noncomputable def Try.pinned : Pinned := { name := "ytcgefpklljclgaa", sum := "90cc756bbd11168911d3883840b00008e613a71166f2b39092a8f33377b4d66e", checked := Try.checked }
namespace Rows
def none {H : Type} : Left H := { results := [], args := [] }

/-- 'doorkeeperlaw13.RoomUp': WHATEVER THE INPUT: true; the input reads as it did. -/
def roomUpSpec : ChangeSpec := { name := "roomUp", fn := fun _ => fun
  | [d] => { results := [.lit (.bool true)], args := [d] }
  | _ => none }
def roomUpRow : OpenClaim := { program := "ytcgefpklljclgaa", sum := "90cc756bbd11168911d3883840b00008e613a71166f2b39092a8f33377b4d66e", func := "doorkeeper/doorkeeperlaw13.RoomUp", spec := "roomUp", unfollowed := true, recurses := true, apart := false }
def RoomUpSaid : Prop := roomUpRow.holds Try.pinned (OpenSpec.ofChange roomUpSpec)

/-- ITS FALSE NEIGHBOUR: 'it returns false'. Refute it at one input. -/
def roomUpWrong : ChangeSpec := { name := "roomUp", fn := fun _ => fun
  | [d] => { results := [.lit (.bool false)], args := [d] }
  | _ => none }
def RoomUpWrongFalsely : Prop := roomUpRow.holds Try.pinned (OpenSpec.ofChange roomUpWrong)

/-- 'doorkeeperlaw17.DriftAll': WHATEVER THE INPUT: true; the input reads as it did. -/
def driftAllSpec : ChangeSpec := { name := "driftAll", fn := fun _ => fun
  | [d1, d2, d3] => { results := [.lit (.bool true)], args := [d1, d2, d3] }
  | _ => none }
def driftAllRow : OpenClaim := { program := "ytcgefpklljclgaa", sum := "90cc756bbd11168911d3883840b00008e613a71166f2b39092a8f33377b4d66e", func := "doorkeeper/doorkeeperlaw17.DriftAll", spec := "driftAll", unfollowed := true, recurses := true, apart := false }
def DriftAllSaid : Prop := driftAllRow.holds Try.pinned (OpenSpec.ofChange driftAllSpec)

/-- ITS FALSE NEIGHBOUR: 'it returns false'. Refute it at one input. -/
def driftAllWrong : ChangeSpec := { name := "driftAll", fn := fun _ => fun
  | [d1, d2, d3] => { results := [.lit (.bool false)], args := [d1, d2, d3] }
  | _ => none }
def DriftAllWrongFalsely : Prop := driftAllRow.holds Try.pinned (OpenSpec.ofChange driftAllWrong)

/-- 'doorkeeperlaw17.DriftTells': WHATEVER THE INPUT: true; the input reads as it did. -/
def driftTellsSpec : ChangeSpec := { name := "driftTells", fn := fun _ => fun
  | [d1, d2] => { results := [.lit (.bool true)], args := [d1, d2] }
  | _ => none }
def driftTellsRow : OpenClaim := { program := "ytcgefpklljclgaa", sum := "90cc756bbd11168911d3883840b00008e613a71166f2b39092a8f33377b4d66e", func := "doorkeeper/doorkeeperlaw17.DriftTells", spec := "driftTells", unfollowed := true, recurses := true, apart := false }
def DriftTellsSaid : Prop := driftTellsRow.holds Try.pinned (OpenSpec.ofChange driftTellsSpec)

/-- ITS FALSE NEIGHBOUR: 'it returns false'. Refute it at one input. -/
def driftTellsWrong : ChangeSpec := { name := "driftTells", fn := fun _ => fun
  | [d1, d2] => { results := [.lit (.bool false)], args := [d1, d2] }
  | _ => none }
def DriftTellsWrongFalsely : Prop := driftTellsRow.holds Try.pinned (OpenSpec.ofChange driftTellsWrong)

/-- 'doorkeeperlaw20.EffectAll': WHATEVER THE INPUT: true; the input reads as it did. -/
def effectAllSpec : ChangeSpec := { name := "effectAll", fn := fun _ => fun
  | [d1, d2, d3] => { results := [.lit (.bool true)], args := [d1, d2, d3] }
  | _ => none }
def effectAllRow : OpenClaim := { program := "ytcgefpklljclgaa", sum := "90cc756bbd11168911d3883840b00008e613a71166f2b39092a8f33377b4d66e", func := "doorkeeper/doorkeeperlaw20.EffectAll", spec := "effectAll", unfollowed := true, recurses := true, apart := false }
def EffectAllSaid : Prop := effectAllRow.holds Try.pinned (OpenSpec.ofChange effectAllSpec)

/-- ITS FALSE NEIGHBOUR: 'it returns false'. Refute it at one input. -/
def effectAllWrong : ChangeSpec := { name := "effectAll", fn := fun _ => fun
  | [d1, d2, d3] => { results := [.lit (.bool false)], args := [d1, d2, d3] }
  | _ => none }
def EffectAllWrongFalsely : Prop := effectAllRow.holds Try.pinned (OpenSpec.ofChange effectAllWrong)

/-- 'doorkeeperlaw20.EffectMade': WHATEVER THE INPUT: true; the input reads as it did. -/
def effectMadeSpec : ChangeSpec := { name := "effectMade", fn := fun _ => fun
  | [d1, d2, d3, d4, d5] => { results := [.lit (.bool true)], args := [d1, d2, d3, d4, d5] }
  | _ => none }
def effectMadeRow : OpenClaim := { program := "ytcgefpklljclgaa", sum := "90cc756bbd11168911d3883840b00008e613a71166f2b39092a8f33377b4d66e", func := "doorkeeper/doorkeeperlaw20.EffectMade", spec := "effectMade", unfollowed := true, recurses := true, apart := false }
def EffectMadeSaid : Prop := effectMadeRow.holds Try.pinned (OpenSpec.ofChange effectMadeSpec)

/-- ITS FALSE NEIGHBOUR: 'it returns false'. Refute it at one input. -/
def effectMadeWrong : ChangeSpec := { name := "effectMade", fn := fun _ => fun
  | [d1, d2, d3, d4, d5] => { results := [.lit (.bool false)], args := [d1, d2, d3, d4, d5] }
  | _ => none }
def EffectMadeWrongFalsely : Prop := effectMadeRow.holds Try.pinned (OpenSpec.ofChange effectMadeWrong)

/-- 'doorkeeperlaw20.EffectDone': WHATEVER THE INPUT: true; the input reads as it did. -/
def effectDoneSpec : ChangeSpec := { name := "effectDone", fn := fun _ => fun
  | [d1, d2, d3, d4, d5] => { results := [.lit (.bool true)], args := [d1, d2, d3, d4, d5] }
  | _ => none }
def effectDoneRow : OpenClaim := { program := "ytcgefpklljclgaa", sum := "90cc756bbd11168911d3883840b00008e613a71166f2b39092a8f33377b4d66e", func := "doorkeeper/doorkeeperlaw20.EffectDone", spec := "effectDone", unfollowed := true, recurses := true, apart := false }
def EffectDoneSaid : Prop := effectDoneRow.holds Try.pinned (OpenSpec.ofChange effectDoneSpec)

/-- ITS FALSE NEIGHBOUR: 'it returns false'. Refute it at one input. -/
def effectDoneWrong : ChangeSpec := { name := "effectDone", fn := fun _ => fun
  | [d1, d2, d3, d4, d5] => { results := [.lit (.bool false)], args := [d1, d2, d3, d4, d5] }
  | _ => none }
def EffectDoneWrongFalsely : Prop := effectDoneRow.holds Try.pinned (OpenSpec.ofChange effectDoneWrong)

/-- 'doorkeeperlaw14.AdmitTwice': WHATEVER THE INPUT: true; the input reads as it did. -/
def admitTwiceSpec : ChangeSpec := { name := "admitTwice", fn := fun _ => fun
  | [d1, d2, d3, d4, d5] => { results := [.lit (.bool true)], args := [d1, d2, d3, d4, d5] }
  | _ => none }
def admitTwiceRow : OpenClaim := { program := "ytcgefpklljclgaa", sum := "90cc756bbd11168911d3883840b00008e613a71166f2b39092a8f33377b4d66e", func := "doorkeeper/doorkeeperlaw14.AdmitTwice", spec := "admitTwice", unfollowed := true, recurses := true, apart := false }
def AdmitTwiceSaid : Prop := admitTwiceRow.holds Try.pinned (OpenSpec.ofChange admitTwiceSpec)

/-- ITS FALSE NEIGHBOUR: 'it returns false'. Refute it at one input. -/
def admitTwiceWrong : ChangeSpec := { name := "admitTwice", fn := fun _ => fun
  | [d1, d2, d3, d4, d5] => { results := [.lit (.bool false)], args := [d1, d2, d3, d4, d5] }
  | _ => none }
def AdmitTwiceWrongFalsely : Prop := admitTwiceRow.holds Try.pinned (OpenSpec.ofChange admitTwiceWrong)

/-- 'doorkeeperlaw13.RoomFits': WHATEVER THE INPUT: true; the input reads as it did. -/
def roomFitsSpec : ChangeSpec := { name := "roomFits", fn := fun _ => fun
  | [d1, d2, d3] => { results := [.lit (.bool true)], args := [d1, d2, d3] }
  | _ => none }
def roomFitsRow : OpenClaim := { program := "ytcgefpklljclgaa", sum := "90cc756bbd11168911d3883840b00008e613a71166f2b39092a8f33377b4d66e", func := "doorkeeper/doorkeeperlaw13.RoomFits", spec := "roomFits", unfollowed := true, recurses := true, apart := false }
def RoomFitsSaid : Prop := roomFitsRow.holds Try.pinned (OpenSpec.ofChange roomFitsSpec)

/-- ITS FALSE NEIGHBOUR: 'it returns false'. Refute it at one input. -/
def roomFitsWrong : ChangeSpec := { name := "roomFits", fn := fun _ => fun
  | [d1, d2, d3] => { results := [.lit (.bool false)], args := [d1, d2, d3] }
  | _ => none }
def RoomFitsWrongFalsely : Prop := roomFitsRow.holds Try.pinned (OpenSpec.ofChange roomFitsWrong)

/-- 'doorkeeperlaw12.TreeAll': WHATEVER THE INPUT: true; the input reads as it did. -/
def treeAllSpec : ChangeSpec := { name := "treeAll", fn := fun _ => fun
  | [d1, d2] => { results := [.lit (.bool true)], args := [d1, d2] }
  | _ => none }
def treeAllRow : OpenClaim := { program := "ytcgefpklljclgaa", sum := "90cc756bbd11168911d3883840b00008e613a71166f2b39092a8f33377b4d66e", func := "doorkeeper/doorkeeperlaw12.TreeAll", spec := "treeAll", unfollowed := true, recurses := true, apart := false }
def TreeAllSaid : Prop := treeAllRow.holds Try.pinned (OpenSpec.ofChange treeAllSpec)

/-- ITS FALSE NEIGHBOUR: 'it returns false'. Refute it at one input. -/
def treeAllWrong : ChangeSpec := { name := "treeAll", fn := fun _ => fun
  | [d1, d2] => { results := [.lit (.bool false)], args := [d1, d2] }
  | _ => none }
def TreeAllWrongFalsely : Prop := treeAllRow.holds Try.pinned (OpenSpec.ofChange treeAllWrong)

/-- 'doorkeeperlaw12.TreeMade': WHATEVER THE INPUT: true; the input reads as it did. -/
def treeMadeSpec : ChangeSpec := { name := "treeMade", fn := fun _ => fun
  | [d1, d2, d3, d4] => { results := [.lit (.bool true)], args := [d1, d2, d3, d4] }
  | _ => none }
def treeMadeRow : OpenClaim := { program := "ytcgefpklljclgaa", sum := "90cc756bbd11168911d3883840b00008e613a71166f2b39092a8f33377b4d66e", func := "doorkeeper/doorkeeperlaw12.TreeMade", spec := "treeMade", unfollowed := true, recurses := true, apart := false }
def TreeMadeSaid : Prop := treeMadeRow.holds Try.pinned (OpenSpec.ofChange treeMadeSpec)

/-- ITS FALSE NEIGHBOUR: 'it returns false'. Refute it at one input. -/
def treeMadeWrong : ChangeSpec := { name := "treeMade", fn := fun _ => fun
  | [d1, d2, d3, d4] => { results := [.lit (.bool false)], args := [d1, d2, d3, d4] }
  | _ => none }
def TreeMadeWrongFalsely : Prop := treeMadeRow.holds Try.pinned (OpenSpec.ofChange treeMadeWrong)

/-- 'doorkeeperlaw12.TreeSums': WHATEVER THE INPUT: true; the input reads as it did. -/
def treeSumsSpec : ChangeSpec := { name := "treeSums", fn := fun _ => fun
  | [d] => { results := [.lit (.bool true)], args := [d] }
  | _ => none }
def treeSumsRow : OpenClaim := { program := "ytcgefpklljclgaa", sum := "90cc756bbd11168911d3883840b00008e613a71166f2b39092a8f33377b4d66e", func := "doorkeeper/doorkeeperlaw12.TreeSums", spec := "treeSums", unfollowed := true, recurses := true, apart := false }
def TreeSumsSaid : Prop := treeSumsRow.holds Try.pinned (OpenSpec.ofChange treeSumsSpec)

/-- ITS FALSE NEIGHBOUR: 'it returns false'. Refute it at one input. -/
def treeSumsWrong : ChangeSpec := { name := "treeSums", fn := fun _ => fun
  | [d] => { results := [.lit (.bool false)], args := [d] }
  | _ => none }
def TreeSumsWrongFalsely : Prop := treeSumsRow.holds Try.pinned (OpenSpec.ofChange treeSumsWrong)

/-- 'doorkeeperlaw12.TreeBelow': WHATEVER THE INPUT: true; the input reads as it did. -/
def treeBelowSpec : ChangeSpec := { name := "treeBelow", fn := fun _ => fun
  | [d] => { results := [.lit (.bool true)], args := [d] }
  | _ => none }
def treeBelowRow : OpenClaim := { program := "ytcgefpklljclgaa", sum := "90cc756bbd11168911d3883840b00008e613a71166f2b39092a8f33377b4d66e", func := "doorkeeper/doorkeeperlaw12.TreeBelow", spec := "treeBelow", unfollowed := true, recurses := true, apart := false }
def TreeBelowSaid : Prop := treeBelowRow.holds Try.pinned (OpenSpec.ofChange treeBelowSpec)

/-- ITS FALSE NEIGHBOUR: 'it returns false'. Refute it at one input. -/
def treeBelowWrong : ChangeSpec := { name := "treeBelow", fn := fun _ => fun
  | [d] => { results := [.lit (.bool false)], args := [d] }
  | _ => none }
def TreeBelowWrongFalsely : Prop := treeBelowRow.holds Try.pinned (OpenSpec.ofChange treeBelowWrong)

/-- 'doorkeeperlaw13.RoomShares': WHATEVER THE INPUT: true; the input reads as it did. -/
def roomSharesSpec : ChangeSpec := { name := "roomShares", fn := fun _ => fun
  | [d1, d2] => { results := [.lit (.bool true)], args := [d1, d2] }
  | _ => none }
def roomSharesRow : OpenClaim := { program := "ytcgefpklljclgaa", sum := "90cc756bbd11168911d3883840b00008e613a71166f2b39092a8f33377b4d66e", func := "doorkeeper/doorkeeperlaw13.RoomShares", spec := "roomShares", unfollowed := true, recurses := true, apart := false }
def RoomSharesSaid : Prop := roomSharesRow.holds Try.pinned (OpenSpec.ofChange roomSharesSpec)

/-- ITS FALSE NEIGHBOUR: 'it returns false'. Refute it at one input. -/
def roomSharesWrong : ChangeSpec := { name := "roomShares", fn := fun _ => fun
  | [d1, d2] => { results := [.lit (.bool false)], args := [d1, d2] }
  | _ => none }
def RoomSharesWrongFalsely : Prop := roomSharesRow.holds Try.pinned (OpenSpec.ofChange roomSharesWrong)

/-- 'doorkeeperlaw14.AdmitAll': WHATEVER THE INPUT: true; the input reads as it did. -/
def admitAllSpec : ChangeSpec := { name := "admitAll", fn := fun _ => fun
  | [d1, d2, d3] => { results := [.lit (.bool true)], args := [d1, d2, d3] }
  | _ => none }
def admitAllRow : OpenClaim := { program := "ytcgefpklljclgaa", sum := "90cc756bbd11168911d3883840b00008e613a71166f2b39092a8f33377b4d66e", func := "doorkeeper/doorkeeperlaw14.AdmitAll", spec := "admitAll", unfollowed := true, recurses := true, apart := false }
def AdmitAllSaid : Prop := admitAllRow.holds Try.pinned (OpenSpec.ofChange admitAllSpec)

/-- ITS FALSE NEIGHBOUR: 'it returns false'. Refute it at one input. -/
def admitAllWrong : ChangeSpec := { name := "admitAll", fn := fun _ => fun
  | [d1, d2, d3] => { results := [.lit (.bool false)], args := [d1, d2, d3] }
  | _ => none }
def AdmitAllWrongFalsely : Prop := admitAllRow.holds Try.pinned (OpenSpec.ofChange admitAllWrong)

/-- 'doorkeeperlaw14.AdmitMade': WHATEVER THE INPUT: true; the input reads as it did. -/
def admitMadeSpec : ChangeSpec := { name := "admitMade", fn := fun _ => fun
  | [d1, d2] => { results := [.lit (.bool true)], args := [d1, d2] }
  | _ => none }
def admitMadeRow : OpenClaim := { program := "ytcgefpklljclgaa", sum := "90cc756bbd11168911d3883840b00008e613a71166f2b39092a8f33377b4d66e", func := "doorkeeper/doorkeeperlaw14.AdmitMade", spec := "admitMade", unfollowed := true, recurses := true, apart := false }
def AdmitMadeSaid : Prop := admitMadeRow.holds Try.pinned (OpenSpec.ofChange admitMadeSpec)

/-- ITS FALSE NEIGHBOUR: 'it returns false'. Refute it at one input. -/
def admitMadeWrong : ChangeSpec := { name := "admitMade", fn := fun _ => fun
  | [d1, d2] => { results := [.lit (.bool false)], args := [d1, d2] }
  | _ => none }
def AdmitMadeWrongFalsely : Prop := admitMadeRow.holds Try.pinned (OpenSpec.ofChange admitMadeWrong)

/-- 'doorkeeperlaw14.AdmitRoom': WHATEVER THE INPUT: true; the input reads as it did. -/
def admitRoomSpec : ChangeSpec := { name := "admitRoom", fn := fun _ => fun
  | [d1, d2, d3, d4] => { results := [.lit (.bool true)], args := [d1, d2, d3, d4] }
  | _ => none }
def admitRoomRow : OpenClaim := { program := "ytcgefpklljclgaa", sum := "90cc756bbd11168911d3883840b00008e613a71166f2b39092a8f33377b4d66e", func := "doorkeeper/doorkeeperlaw14.AdmitRoom", spec := "admitRoom", unfollowed := true, recurses := true, apart := false }
def AdmitRoomSaid : Prop := admitRoomRow.holds Try.pinned (OpenSpec.ofChange admitRoomSpec)

/-- ITS FALSE NEIGHBOUR: 'it returns false'. Refute it at one input. -/
def admitRoomWrong : ChangeSpec := { name := "admitRoom", fn := fun _ => fun
  | [d1, d2, d3, d4] => { results := [.lit (.bool false)], args := [d1, d2, d3, d4] }
  | _ => none }
def AdmitRoomWrongFalsely : Prop := admitRoomRow.holds Try.pinned (OpenSpec.ofChange admitRoomWrong)

/-- 'doorkeeperlaw13.RoomAll': WHATEVER THE INPUT: true; the input reads as it did. -/
def roomAllSpec : ChangeSpec := { name := "roomAll", fn := fun _ => fun
  | [d1, d2, d3] => { results := [.lit (.bool true)], args := [d1, d2, d3] }
  | _ => none }
def roomAllRow : OpenClaim := { program := "ytcgefpklljclgaa", sum := "90cc756bbd11168911d3883840b00008e613a71166f2b39092a8f33377b4d66e", func := "doorkeeper/doorkeeperlaw13.RoomAll", spec := "roomAll", unfollowed := true, recurses := true, apart := false }
def RoomAllSaid : Prop := roomAllRow.holds Try.pinned (OpenSpec.ofChange roomAllSpec)

/-- ITS FALSE NEIGHBOUR: 'it returns false'. Refute it at one input. -/
def roomAllWrong : ChangeSpec := { name := "roomAll", fn := fun _ => fun
  | [d1, d2, d3] => { results := [.lit (.bool false)], args := [d1, d2, d3] }
  | _ => none }
def RoomAllWrongFalsely : Prop := roomAllRow.holds Try.pinned (OpenSpec.ofChange roomAllWrong)

/-- 'doorkeeperlaw13.RoomMade': WHATEVER THE INPUT: true; the input reads as it did. -/
def roomMadeSpec : ChangeSpec := { name := "roomMade", fn := fun _ => fun
  | [d1, d2, d3] => { results := [.lit (.bool true)], args := [d1, d2, d3] }
  | _ => none }
def roomMadeRow : OpenClaim := { program := "ytcgefpklljclgaa", sum := "90cc756bbd11168911d3883840b00008e613a71166f2b39092a8f33377b4d66e", func := "doorkeeper/doorkeeperlaw13.RoomMade", spec := "roomMade", unfollowed := true, recurses := true, apart := false }
def RoomMadeSaid : Prop := roomMadeRow.holds Try.pinned (OpenSpec.ofChange roomMadeSpec)

/-- ITS FALSE NEIGHBOUR: 'it returns false'. Refute it at one input. -/
def roomMadeWrong : ChangeSpec := { name := "roomMade", fn := fun _ => fun
  | [d1, d2, d3] => { results := [.lit (.bool false)], args := [d1, d2, d3] }
  | _ => none }
def RoomMadeWrongFalsely : Prop := roomMadeRow.holds Try.pinned (OpenSpec.ofChange roomMadeWrong)

/-- 'doorkeeperlaw15.ShapeMany': WHATEVER THE INPUT: true; the input reads as it did. -/
def shapeManySpec : ChangeSpec := { name := "shapeMany", fn := fun _ => fun
  | [d] => { results := [.lit (.bool true)], args := [d] }
  | _ => none }
def shapeManyRow : OpenClaim := { program := "ytcgefpklljclgaa", sum := "90cc756bbd11168911d3883840b00008e613a71166f2b39092a8f33377b4d66e", func := "doorkeeper/doorkeeperlaw15.ShapeMany", spec := "shapeMany", inPlace := ["slices.overlaps[doorkeeper/api.Item]"], unfollowed := true, recurses := true, apart := false }
def ShapeManySaid : Prop := shapeManyRow.holds Try.pinned (OpenSpec.ofChange shapeManySpec)

/-- ITS FALSE NEIGHBOUR: 'it returns false'. Refute it at one input. -/
def shapeManyWrong : ChangeSpec := { name := "shapeMany", fn := fun _ => fun
  | [d] => { results := [.lit (.bool false)], args := [d] }
  | _ => none }
def ShapeManyWrongFalsely : Prop := shapeManyRow.holds Try.pinned (OpenSpec.ofChange shapeManyWrong)

/-- 'doorkeeperlaw15.ShapeComes': WHATEVER THE INPUT: true; the input reads as it did. -/
def shapeComesSpec : ChangeSpec := { name := "shapeComes", fn := fun _ => fun
  | [d1, d2, d3, d4] => { results := [.lit (.bool true)], args := [d1, d2, d3, d4] }
  | _ => none }
def shapeComesRow : OpenClaim := { program := "ytcgefpklljclgaa", sum := "90cc756bbd11168911d3883840b00008e613a71166f2b39092a8f33377b4d66e", func := "doorkeeper/doorkeeperlaw15.ShapeComes", spec := "shapeComes", inPlace := ["slices.overlaps[doorkeeper/api.Item]"], unfollowed := true, recurses := true, apart := false }
def ShapeComesSaid : Prop := shapeComesRow.holds Try.pinned (OpenSpec.ofChange shapeComesSpec)

/-- ITS FALSE NEIGHBOUR: 'it returns false'. Refute it at one input. -/
def shapeComesWrong : ChangeSpec := { name := "shapeComes", fn := fun _ => fun
  | [d1, d2, d3, d4] => { results := [.lit (.bool false)], args := [d1, d2, d3, d4] }
  | _ => none }
def ShapeComesWrongFalsely : Prop := shapeComesRow.holds Try.pinned (OpenSpec.ofChange shapeComesWrong)

/-- 'doorkeeperlaw15.ShapeLimits': WHATEVER THE INPUT: true; the input reads as it did. -/
def shapeLimitsSpec : ChangeSpec := { name := "shapeLimits", fn := fun _ => fun
  | [d1, d2, d3] => { results := [.lit (.bool true)], args := [d1, d2, d3] }
  | _ => none }
def shapeLimitsRow : OpenClaim := { program := "ytcgefpklljclgaa", sum := "90cc756bbd11168911d3883840b00008e613a71166f2b39092a8f33377b4d66e", func := "doorkeeper/doorkeeperlaw15.ShapeLimits", spec := "shapeLimits", inPlace := ["slices.overlaps[doorkeeper/api.Item]"], unfollowed := true, recurses := true, apart := false }
def ShapeLimitsSaid : Prop := shapeLimitsRow.holds Try.pinned (OpenSpec.ofChange shapeLimitsSpec)

/-- ITS FALSE NEIGHBOUR: 'it returns false'. Refute it at one input. -/
def shapeLimitsWrong : ChangeSpec := { name := "shapeLimits", fn := fun _ => fun
  | [d1, d2, d3] => { results := [.lit (.bool false)], args := [d1, d2, d3] }
  | _ => none }
def ShapeLimitsWrongFalsely : Prop := shapeLimitsRow.holds Try.pinned (OpenSpec.ofChange shapeLimitsWrong)

/-- 'doorkeeperlaw15.ShapeMoves': WHATEVER THE INPUT: true; the input reads as it did. -/
def shapeMovesSpec : ChangeSpec := { name := "shapeMoves", fn := fun _ => fun
  | [d1, d2, d3] => { results := [.lit (.bool true)], args := [d1, d2, d3] }
  | _ => none }
def shapeMovesRow : OpenClaim := { program := "ytcgefpklljclgaa", sum := "90cc756bbd11168911d3883840b00008e613a71166f2b39092a8f33377b4d66e", func := "doorkeeper/doorkeeperlaw15.ShapeMoves", spec := "shapeMoves", inPlace := ["slices.overlaps[doorkeeper/api.Item]"], unfollowed := true, recurses := true, apart := false }
def ShapeMovesSaid : Prop := shapeMovesRow.holds Try.pinned (OpenSpec.ofChange shapeMovesSpec)

/-- ITS FALSE NEIGHBOUR: 'it returns false'. Refute it at one input. -/
def shapeMovesWrong : ChangeSpec := { name := "shapeMoves", fn := fun _ => fun
  | [d1, d2, d3] => { results := [.lit (.bool false)], args := [d1, d2, d3] }
  | _ => none }
def ShapeMovesWrongFalsely : Prop := shapeMovesRow.holds Try.pinned (OpenSpec.ofChange shapeMovesWrong)

/-- 'doorkeeperlaw15.ShapeAll': WHATEVER THE INPUT: true; the input reads as it did. -/
def shapeAllSpec : ChangeSpec := { name := "shapeAll", fn := fun _ => fun
  | [d1, d2, d3] => { results := [.lit (.bool true)], args := [d1, d2, d3] }
  | _ => none }
def shapeAllRow : OpenClaim := { program := "ytcgefpklljclgaa", sum := "90cc756bbd11168911d3883840b00008e613a71166f2b39092a8f33377b4d66e", func := "doorkeeper/doorkeeperlaw15.ShapeAll", spec := "shapeAll", inPlace := ["slices.overlaps[doorkeeper/api.Item]"], unfollowed := true, recurses := true, apart := false }
def ShapeAllSaid : Prop := shapeAllRow.holds Try.pinned (OpenSpec.ofChange shapeAllSpec)

/-- ITS FALSE NEIGHBOUR: 'it returns false'. Refute it at one input. -/
def shapeAllWrong : ChangeSpec := { name := "shapeAll", fn := fun _ => fun
  | [d1, d2, d3] => { results := [.lit (.bool false)], args := [d1, d2, d3] }
  | _ => none }
def ShapeAllWrongFalsely : Prop := shapeAllRow.holds Try.pinned (OpenSpec.ofChange shapeAllWrong)

/-- 'doorkeeperlaw15.ShapeMade': WHATEVER THE INPUT: true; the input reads as it did. -/
def shapeMadeSpec : ChangeSpec := { name := "shapeMade", fn := fun _ => fun
  | [d1, d2, d3] => { results := [.lit (.bool true)], args := [d1, d2, d3] }
  | _ => none }
def shapeMadeRow : OpenClaim := { program := "ytcgefpklljclgaa", sum := "90cc756bbd11168911d3883840b00008e613a71166f2b39092a8f33377b4d66e", func := "doorkeeper/doorkeeperlaw15.ShapeMade", spec := "shapeMade", inPlace := ["slices.overlaps[doorkeeper/api.Item]"], unfollowed := true, recurses := true, apart := false }
def ShapeMadeSaid : Prop := shapeMadeRow.holds Try.pinned (OpenSpec.ofChange shapeMadeSpec)

/-- ITS FALSE NEIGHBOUR: 'it returns false'. Refute it at one input. -/
def shapeMadeWrong : ChangeSpec := { name := "shapeMade", fn := fun _ => fun
  | [d1, d2, d3] => { results := [.lit (.bool false)], args := [d1, d2, d3] }
  | _ => none }
def ShapeMadeWrongFalsely : Prop := shapeMadeRow.holds Try.pinned (OpenSpec.ofChange shapeMadeWrong)

/-- 'doorkeeperlaw15.ShapeRest': WHATEVER THE INPUT: true; the input reads as it did. -/
def shapeRestSpec : ChangeSpec := { name := "shapeRest", fn := fun _ => fun
  | [d1, d2, d3, d4] => { results := [.lit (.bool true)], args := [d1, d2, d3, d4] }
  | _ => none }
def shapeRestRow : OpenClaim := { program := "ytcgefpklljclgaa", sum := "90cc756bbd11168911d3883840b00008e613a71166f2b39092a8f33377b4d66e", func := "doorkeeper/doorkeeperlaw15.ShapeRest", spec := "shapeRest", inPlace := ["slices.overlaps[doorkeeper/api.Item]"], unfollowed := true, recurses := true, apart := false }
def ShapeRestSaid : Prop := shapeRestRow.holds Try.pinned (OpenSpec.ofChange shapeRestSpec)

/-- ITS FALSE NEIGHBOUR: 'it returns false'. Refute it at one input. -/
def shapeRestWrong : ChangeSpec := { name := "shapeRest", fn := fun _ => fun
  | [d1, d2, d3, d4] => { results := [.lit (.bool false)], args := [d1, d2, d3, d4] }
  | _ => none }
def ShapeRestWrongFalsely : Prop := shapeRestRow.holds Try.pinned (OpenSpec.ofChange shapeRestWrong)

/-- 'doorkeeperlaw19.TrialCuts': WHATEVER THE INPUT: true; the input reads as it did. -/
def trialCutsSpec : ChangeSpec := { name := "trialCuts", fn := fun _ => fun
  | [d1, d2, d3] => { results := [.lit (.bool true)], args := [d1, d2, d3] }
  | _ => none }
def trialCutsRow : OpenClaim := { program := "ytcgefpklljclgaa", sum := "90cc756bbd11168911d3883840b00008e613a71166f2b39092a8f33377b4d66e", func := "doorkeeper/doorkeeperlaw19.TrialCuts", spec := "trialCuts", inPlace := ["slices.overlaps[doorkeeper/api.Item]"], unfollowed := true, recurses := true, apart := false }
def TrialCutsSaid : Prop := trialCutsRow.holds Try.pinned (OpenSpec.ofChange trialCutsSpec)

/-- ITS FALSE NEIGHBOUR: 'it returns false'. Refute it at one input. -/
def trialCutsWrong : ChangeSpec := { name := "trialCuts", fn := fun _ => fun
  | [d1, d2, d3] => { results := [.lit (.bool false)], args := [d1, d2, d3] }
  | _ => none }
def TrialCutsWrongFalsely : Prop := trialCutsRow.holds Try.pinned (OpenSpec.ofChange trialCutsWrong)

/-- 'doorkeeperlaw19.TrialAll': WHATEVER THE INPUT: true; the input reads as it did. -/
def trialAllSpec : ChangeSpec := { name := "trialAll", fn := fun _ => fun
  | [d1, d2, d3, d4] => { results := [.lit (.bool true)], args := [d1, d2, d3, d4] }
  | _ => none }
def trialAllRow : OpenClaim := { program := "ytcgefpklljclgaa", sum := "90cc756bbd11168911d3883840b00008e613a71166f2b39092a8f33377b4d66e", func := "doorkeeper/doorkeeperlaw19.TrialAll", spec := "trialAll", inPlace := ["slices.overlaps[doorkeeper/api.Item]"], unfollowed := true, recurses := true, apart := false }
def TrialAllSaid : Prop := trialAllRow.holds Try.pinned (OpenSpec.ofChange trialAllSpec)

/-- ITS FALSE NEIGHBOUR: 'it returns false'. Refute it at one input. -/
def trialAllWrong : ChangeSpec := { name := "trialAll", fn := fun _ => fun
  | [d1, d2, d3, d4] => { results := [.lit (.bool false)], args := [d1, d2, d3, d4] }
  | _ => none }
def TrialAllWrongFalsely : Prop := trialAllRow.holds Try.pinned (OpenSpec.ofChange trialAllWrong)

/-- 'doorkeeperlaw19.TrialMade': WHATEVER THE INPUT: true; the input reads as it did. -/
def trialMadeSpec : ChangeSpec := { name := "trialMade", fn := fun _ => fun
  | [d1, d2, d3, d4] => { results := [.lit (.bool true)], args := [d1, d2, d3, d4] }
  | _ => none }
def trialMadeRow : OpenClaim := { program := "ytcgefpklljclgaa", sum := "90cc756bbd11168911d3883840b00008e613a71166f2b39092a8f33377b4d66e", func := "doorkeeper/doorkeeperlaw19.TrialMade", spec := "trialMade", inPlace := ["slices.overlaps[doorkeeper/api.Item]"], unfollowed := true, recurses := true, apart := false }
def TrialMadeSaid : Prop := trialMadeRow.holds Try.pinned (OpenSpec.ofChange trialMadeSpec)

/-- ITS FALSE NEIGHBOUR: 'it returns false'. Refute it at one input. -/
def trialMadeWrong : ChangeSpec := { name := "trialMade", fn := fun _ => fun
  | [d1, d2, d3, d4] => { results := [.lit (.bool false)], args := [d1, d2, d3, d4] }
  | _ => none }
def TrialMadeWrongFalsely : Prop := trialMadeRow.holds Try.pinned (OpenSpec.ofChange trialMadeWrong)

/- THE SECOND FORM. 'bulk': how many values and letters a reading holds, each counted each time it is reached (what is shared counts as often as it is met; a slice's spare places count too). A statement '..UptoSaid' is the law's where the arguments, and the package variables that the reading takes, are together of bulk at most 1048576: NARROWER than '..Said'. Prove '..Said' where nothing that the law and all that it calls make is longer than what came in: it says more and counts as full. Else prove '..UptoSaid'. A law counts once. -/
mutual
def uptoBulk {H : Type} : DataW H → Nat
  | .lit (.string bytes) => bytes.length + 1
  | .lit _ => 1
  | .nil => 1
  | .ptr d => uptoBulk d + 1
  | .slice elems spare => uptoBulkAll elems + uptoBulkAll spare + 1
  | .agg parts => uptoBulkAll parts + 1
  | .iface _ d => uptoBulk d + 1
  | .map entries => uptoBulkEntries entries + 1
  | .held _ => 1
def uptoBulkAll {H : Type} : List (DataW H) → Nat
  | [] => 0
  | d :: r => uptoBulk d + uptoBulkAll r
def uptoBulkEntries {H : Type} : List (Lit × DataW H) → Nat
  | [] => 0
  | x :: r => uptoBulkEntry x + uptoBulkEntries r
def uptoBulkEntry {H : Type} : Lit × DataW H → Nat
  | (.string bytes, d) => bytes.length + uptoBulk d + 1
  | (_, d) => uptoBulk d + 1
 end
def uptoSmall : (H : Type) → List (DataW H) → Bool := fun _ ds => decide (uptoBulkAll ds ≤ 1048576)
def OpenSpec.upto (s : _root_.Go.ChangeSpec) : _root_.Go.OpenSpec := { _root_.Go.OpenSpec.ofChange s with cond := some uptoSmall }

/-- 'doorkeeperlaw13.RoomUp', WHERE WHAT IT READS IS OF BULK AT MOST 1048576: true; the input reads as it did. -/
def roomUpUptoRow : OpenClaim := { program := "ytcgefpklljclgaa", sum := "90cc756bbd11168911d3883840b00008e613a71166f2b39092a8f33377b4d66e", func := "doorkeeper/doorkeeperlaw13.RoomUp", spec := "roomUp", unfollowed := true, recurses := true, apart := false, narrowed := true }
def RoomUpUptoSaid : Prop := roomUpUptoRow.holds Try.pinned (OpenSpec.upto roomUpSpec)

/-- 'doorkeeperlaw17.DriftAll', WHERE WHAT IT READS IS OF BULK AT MOST 1048576: true; the input reads as it did. -/
def driftAllUptoRow : OpenClaim := { program := "ytcgefpklljclgaa", sum := "90cc756bbd11168911d3883840b00008e613a71166f2b39092a8f33377b4d66e", func := "doorkeeper/doorkeeperlaw17.DriftAll", spec := "driftAll", unfollowed := true, recurses := true, apart := false, narrowed := true }
def DriftAllUptoSaid : Prop := driftAllUptoRow.holds Try.pinned (OpenSpec.upto driftAllSpec)

/-- 'doorkeeperlaw17.DriftTells', WHERE WHAT IT READS IS OF BULK AT MOST 1048576: true; the input reads as it did. -/
def driftTellsUptoRow : OpenClaim := { program := "ytcgefpklljclgaa", sum := "90cc756bbd11168911d3883840b00008e613a71166f2b39092a8f33377b4d66e", func := "doorkeeper/doorkeeperlaw17.DriftTells", spec := "driftTells", unfollowed := true, recurses := true, apart := false, narrowed := true }
def DriftTellsUptoSaid : Prop := driftTellsUptoRow.holds Try.pinned (OpenSpec.upto driftTellsSpec)

/-- 'doorkeeperlaw20.EffectAll', WHERE WHAT IT READS IS OF BULK AT MOST 1048576: true; the input reads as it did. -/
def effectAllUptoRow : OpenClaim := { program := "ytcgefpklljclgaa", sum := "90cc756bbd11168911d3883840b00008e613a71166f2b39092a8f33377b4d66e", func := "doorkeeper/doorkeeperlaw20.EffectAll", spec := "effectAll", unfollowed := true, recurses := true, apart := false, narrowed := true }
def EffectAllUptoSaid : Prop := effectAllUptoRow.holds Try.pinned (OpenSpec.upto effectAllSpec)

/-- 'doorkeeperlaw20.EffectMade', WHERE WHAT IT READS IS OF BULK AT MOST 1048576: true; the input reads as it did. -/
def effectMadeUptoRow : OpenClaim := { program := "ytcgefpklljclgaa", sum := "90cc756bbd11168911d3883840b00008e613a71166f2b39092a8f33377b4d66e", func := "doorkeeper/doorkeeperlaw20.EffectMade", spec := "effectMade", unfollowed := true, recurses := true, apart := false, narrowed := true }
def EffectMadeUptoSaid : Prop := effectMadeUptoRow.holds Try.pinned (OpenSpec.upto effectMadeSpec)

/-- 'doorkeeperlaw20.EffectDone', WHERE WHAT IT READS IS OF BULK AT MOST 1048576: true; the input reads as it did. -/
def effectDoneUptoRow : OpenClaim := { program := "ytcgefpklljclgaa", sum := "90cc756bbd11168911d3883840b00008e613a71166f2b39092a8f33377b4d66e", func := "doorkeeper/doorkeeperlaw20.EffectDone", spec := "effectDone", unfollowed := true, recurses := true, apart := false, narrowed := true }
def EffectDoneUptoSaid : Prop := effectDoneUptoRow.holds Try.pinned (OpenSpec.upto effectDoneSpec)

/-- 'doorkeeperlaw14.AdmitTwice', WHERE WHAT IT READS IS OF BULK AT MOST 1048576: true; the input reads as it did. -/
def admitTwiceUptoRow : OpenClaim := { program := "ytcgefpklljclgaa", sum := "90cc756bbd11168911d3883840b00008e613a71166f2b39092a8f33377b4d66e", func := "doorkeeper/doorkeeperlaw14.AdmitTwice", spec := "admitTwice", unfollowed := true, recurses := true, apart := false, narrowed := true }
def AdmitTwiceUptoSaid : Prop := admitTwiceUptoRow.holds Try.pinned (OpenSpec.upto admitTwiceSpec)

/-- 'doorkeeperlaw13.RoomFits', WHERE WHAT IT READS IS OF BULK AT MOST 1048576: true; the input reads as it did. -/
def roomFitsUptoRow : OpenClaim := { program := "ytcgefpklljclgaa", sum := "90cc756bbd11168911d3883840b00008e613a71166f2b39092a8f33377b4d66e", func := "doorkeeper/doorkeeperlaw13.RoomFits", spec := "roomFits", unfollowed := true, recurses := true, apart := false, narrowed := true }
def RoomFitsUptoSaid : Prop := roomFitsUptoRow.holds Try.pinned (OpenSpec.upto roomFitsSpec)

/-- 'doorkeeperlaw12.TreeAll', WHERE WHAT IT READS IS OF BULK AT MOST 1048576: true; the input reads as it did. -/
def treeAllUptoRow : OpenClaim := { program := "ytcgefpklljclgaa", sum := "90cc756bbd11168911d3883840b00008e613a71166f2b39092a8f33377b4d66e", func := "doorkeeper/doorkeeperlaw12.TreeAll", spec := "treeAll", unfollowed := true, recurses := true, apart := false, narrowed := true }
def TreeAllUptoSaid : Prop := treeAllUptoRow.holds Try.pinned (OpenSpec.upto treeAllSpec)

/-- 'doorkeeperlaw12.TreeMade', WHERE WHAT IT READS IS OF BULK AT MOST 1048576: true; the input reads as it did. -/
def treeMadeUptoRow : OpenClaim := { program := "ytcgefpklljclgaa", sum := "90cc756bbd11168911d3883840b00008e613a71166f2b39092a8f33377b4d66e", func := "doorkeeper/doorkeeperlaw12.TreeMade", spec := "treeMade", unfollowed := true, recurses := true, apart := false, narrowed := true }
def TreeMadeUptoSaid : Prop := treeMadeUptoRow.holds Try.pinned (OpenSpec.upto treeMadeSpec)

/-- 'doorkeeperlaw12.TreeSums', WHERE WHAT IT READS IS OF BULK AT MOST 1048576: true; the input reads as it did. -/
def treeSumsUptoRow : OpenClaim := { program := "ytcgefpklljclgaa", sum := "90cc756bbd11168911d3883840b00008e613a71166f2b39092a8f33377b4d66e", func := "doorkeeper/doorkeeperlaw12.TreeSums", spec := "treeSums", unfollowed := true, recurses := true, apart := false, narrowed := true }
def TreeSumsUptoSaid : Prop := treeSumsUptoRow.holds Try.pinned (OpenSpec.upto treeSumsSpec)

/-- 'doorkeeperlaw12.TreeBelow', WHERE WHAT IT READS IS OF BULK AT MOST 1048576: true; the input reads as it did. -/
def treeBelowUptoRow : OpenClaim := { program := "ytcgefpklljclgaa", sum := "90cc756bbd11168911d3883840b00008e613a71166f2b39092a8f33377b4d66e", func := "doorkeeper/doorkeeperlaw12.TreeBelow", spec := "treeBelow", unfollowed := true, recurses := true, apart := false, narrowed := true }
def TreeBelowUptoSaid : Prop := treeBelowUptoRow.holds Try.pinned (OpenSpec.upto treeBelowSpec)

/-- 'doorkeeperlaw13.RoomShares', WHERE WHAT IT READS IS OF BULK AT MOST 1048576: true; the input reads as it did. -/
def roomSharesUptoRow : OpenClaim := { program := "ytcgefpklljclgaa", sum := "90cc756bbd11168911d3883840b00008e613a71166f2b39092a8f33377b4d66e", func := "doorkeeper/doorkeeperlaw13.RoomShares", spec := "roomShares", unfollowed := true, recurses := true, apart := false, narrowed := true }
def RoomSharesUptoSaid : Prop := roomSharesUptoRow.holds Try.pinned (OpenSpec.upto roomSharesSpec)

/-- 'doorkeeperlaw14.AdmitAll', WHERE WHAT IT READS IS OF BULK AT MOST 1048576: true; the input reads as it did. -/
def admitAllUptoRow : OpenClaim := { program := "ytcgefpklljclgaa", sum := "90cc756bbd11168911d3883840b00008e613a71166f2b39092a8f33377b4d66e", func := "doorkeeper/doorkeeperlaw14.AdmitAll", spec := "admitAll", unfollowed := true, recurses := true, apart := false, narrowed := true }
def AdmitAllUptoSaid : Prop := admitAllUptoRow.holds Try.pinned (OpenSpec.upto admitAllSpec)

/-- 'doorkeeperlaw14.AdmitMade', WHERE WHAT IT READS IS OF BULK AT MOST 1048576: true; the input reads as it did. -/
def admitMadeUptoRow : OpenClaim := { program := "ytcgefpklljclgaa", sum := "90cc756bbd11168911d3883840b00008e613a71166f2b39092a8f33377b4d66e", func := "doorkeeper/doorkeeperlaw14.AdmitMade", spec := "admitMade", unfollowed := true, recurses := true, apart := false, narrowed := true }
def AdmitMadeUptoSaid : Prop := admitMadeUptoRow.holds Try.pinned (OpenSpec.upto admitMadeSpec)

/-- 'doorkeeperlaw14.AdmitRoom', WHERE WHAT IT READS IS OF BULK AT MOST 1048576: true; the input reads as it did. -/
def admitRoomUptoRow : OpenClaim := { program := "ytcgefpklljclgaa", sum := "90cc756bbd11168911d3883840b00008e613a71166f2b39092a8f33377b4d66e", func := "doorkeeper/doorkeeperlaw14.AdmitRoom", spec := "admitRoom", unfollowed := true, recurses := true, apart := false, narrowed := true }
def AdmitRoomUptoSaid : Prop := admitRoomUptoRow.holds Try.pinned (OpenSpec.upto admitRoomSpec)

/-- 'doorkeeperlaw13.RoomAll', WHERE WHAT IT READS IS OF BULK AT MOST 1048576: true; the input reads as it did. -/
def roomAllUptoRow : OpenClaim := { program := "ytcgefpklljclgaa", sum := "90cc756bbd11168911d3883840b00008e613a71166f2b39092a8f33377b4d66e", func := "doorkeeper/doorkeeperlaw13.RoomAll", spec := "roomAll", unfollowed := true, recurses := true, apart := false, narrowed := true }
def RoomAllUptoSaid : Prop := roomAllUptoRow.holds Try.pinned (OpenSpec.upto roomAllSpec)

/-- 'doorkeeperlaw13.RoomMade', WHERE WHAT IT READS IS OF BULK AT MOST 1048576: true; the input reads as it did. -/
def roomMadeUptoRow : OpenClaim := { program := "ytcgefpklljclgaa", sum := "90cc756bbd11168911d3883840b00008e613a71166f2b39092a8f33377b4d66e", func := "doorkeeper/doorkeeperlaw13.RoomMade", spec := "roomMade", unfollowed := true, recurses := true, apart := false, narrowed := true }
def RoomMadeUptoSaid : Prop := roomMadeUptoRow.holds Try.pinned (OpenSpec.upto roomMadeSpec)

/-- 'doorkeeperlaw15.ShapeMany', WHERE WHAT IT READS IS OF BULK AT MOST 1048576: true; the input reads as it did. -/
def shapeManyUptoRow : OpenClaim := { program := "ytcgefpklljclgaa", sum := "90cc756bbd11168911d3883840b00008e613a71166f2b39092a8f33377b4d66e", func := "doorkeeper/doorkeeperlaw15.ShapeMany", spec := "shapeMany", inPlace := ["slices.overlaps[doorkeeper/api.Item]"], unfollowed := true, recurses := true, apart := false, narrowed := true }
def ShapeManyUptoSaid : Prop := shapeManyUptoRow.holds Try.pinned (OpenSpec.upto shapeManySpec)

/-- 'doorkeeperlaw15.ShapeComes', WHERE WHAT IT READS IS OF BULK AT MOST 1048576: true; the input reads as it did. -/
def shapeComesUptoRow : OpenClaim := { program := "ytcgefpklljclgaa", sum := "90cc756bbd11168911d3883840b00008e613a71166f2b39092a8f33377b4d66e", func := "doorkeeper/doorkeeperlaw15.ShapeComes", spec := "shapeComes", inPlace := ["slices.overlaps[doorkeeper/api.Item]"], unfollowed := true, recurses := true, apart := false, narrowed := true }
def ShapeComesUptoSaid : Prop := shapeComesUptoRow.holds Try.pinned (OpenSpec.upto shapeComesSpec)

/-- 'doorkeeperlaw15.ShapeLimits', WHERE WHAT IT READS IS OF BULK AT MOST 1048576: true; the input reads as it did. -/
def shapeLimitsUptoRow : OpenClaim := { program := "ytcgefpklljclgaa", sum := "90cc756bbd11168911d3883840b00008e613a71166f2b39092a8f33377b4d66e", func := "doorkeeper/doorkeeperlaw15.ShapeLimits", spec := "shapeLimits", inPlace := ["slices.overlaps[doorkeeper/api.Item]"], unfollowed := true, recurses := true, apart := false, narrowed := true }
def ShapeLimitsUptoSaid : Prop := shapeLimitsUptoRow.holds Try.pinned (OpenSpec.upto shapeLimitsSpec)

/-- 'doorkeeperlaw15.ShapeMoves', WHERE WHAT IT READS IS OF BULK AT MOST 1048576: true; the input reads as it did. -/
def shapeMovesUptoRow : OpenClaim := { program := "ytcgefpklljclgaa", sum := "90cc756bbd11168911d3883840b00008e613a71166f2b39092a8f33377b4d66e", func := "doorkeeper/doorkeeperlaw15.ShapeMoves", spec := "shapeMoves", inPlace := ["slices.overlaps[doorkeeper/api.Item]"], unfollowed := true, recurses := true, apart := false, narrowed := true }
def ShapeMovesUptoSaid : Prop := shapeMovesUptoRow.holds Try.pinned (OpenSpec.upto shapeMovesSpec)

/-- 'doorkeeperlaw15.ShapeAll', WHERE WHAT IT READS IS OF BULK AT MOST 1048576: true; the input reads as it did. -/
def shapeAllUptoRow : OpenClaim := { program := "ytcgefpklljclgaa", sum := "90cc756bbd11168911d3883840b00008e613a71166f2b39092a8f33377b4d66e", func := "doorkeeper/doorkeeperlaw15.ShapeAll", spec := "shapeAll", inPlace := ["slices.overlaps[doorkeeper/api.Item]"], unfollowed := true, recurses := true, apart := false, narrowed := true }
def ShapeAllUptoSaid : Prop := shapeAllUptoRow.holds Try.pinned (OpenSpec.upto shapeAllSpec)

/-- 'doorkeeperlaw15.ShapeMade', WHERE WHAT IT READS IS OF BULK AT MOST 1048576: true; the input reads as it did. -/
def shapeMadeUptoRow : OpenClaim := { program := "ytcgefpklljclgaa", sum := "90cc756bbd11168911d3883840b00008e613a71166f2b39092a8f33377b4d66e", func := "doorkeeper/doorkeeperlaw15.ShapeMade", spec := "shapeMade", inPlace := ["slices.overlaps[doorkeeper/api.Item]"], unfollowed := true, recurses := true, apart := false, narrowed := true }
def ShapeMadeUptoSaid : Prop := shapeMadeUptoRow.holds Try.pinned (OpenSpec.upto shapeMadeSpec)

/-- 'doorkeeperlaw15.ShapeRest', WHERE WHAT IT READS IS OF BULK AT MOST 1048576: true; the input reads as it did. -/
def shapeRestUptoRow : OpenClaim := { program := "ytcgefpklljclgaa", sum := "90cc756bbd11168911d3883840b00008e613a71166f2b39092a8f33377b4d66e", func := "doorkeeper/doorkeeperlaw15.ShapeRest", spec := "shapeRest", inPlace := ["slices.overlaps[doorkeeper/api.Item]"], unfollowed := true, recurses := true, apart := false, narrowed := true }
def ShapeRestUptoSaid : Prop := shapeRestUptoRow.holds Try.pinned (OpenSpec.upto shapeRestSpec)

/-- 'doorkeeperlaw19.TrialCuts', WHERE WHAT IT READS IS OF BULK AT MOST 1048576: true; the input reads as it did. -/
def trialCutsUptoRow : OpenClaim := { program := "ytcgefpklljclgaa", sum := "90cc756bbd11168911d3883840b00008e613a71166f2b39092a8f33377b4d66e", func := "doorkeeper/doorkeeperlaw19.TrialCuts", spec := "trialCuts", inPlace := ["slices.overlaps[doorkeeper/api.Item]"], unfollowed := true, recurses := true, apart := false, narrowed := true }
def TrialCutsUptoSaid : Prop := trialCutsUptoRow.holds Try.pinned (OpenSpec.upto trialCutsSpec)

/-- 'doorkeeperlaw19.TrialAll', WHERE WHAT IT READS IS OF BULK AT MOST 1048576: true; the input reads as it did. -/
def trialAllUptoRow : OpenClaim := { program := "ytcgefpklljclgaa", sum := "90cc756bbd11168911d3883840b00008e613a71166f2b39092a8f33377b4d66e", func := "doorkeeper/doorkeeperlaw19.TrialAll", spec := "trialAll", inPlace := ["slices.overlaps[doorkeeper/api.Item]"], unfollowed := true, recurses := true, apart := false, narrowed := true }
def TrialAllUptoSaid : Prop := trialAllUptoRow.holds Try.pinned (OpenSpec.upto trialAllSpec)

/-- 'doorkeeperlaw19.TrialMade', WHERE WHAT IT READS IS OF BULK AT MOST 1048576: true; the input reads as it did. -/
def trialMadeUptoRow : OpenClaim := { program := "ytcgefpklljclgaa", sum := "90cc756bbd11168911d3883840b00008e613a71166f2b39092a8f33377b4d66e", func := "doorkeeper/doorkeeperlaw19.TrialMade", spec := "trialMade", inPlace := ["slices.overlaps[doorkeeper/api.Item]"], unfollowed := true, recurses := true, apart := false, narrowed := true }
def TrialMadeUptoSaid : Prop := trialMadeUptoRow.holds Try.pinned (OpenSpec.upto trialMadeSpec)

end Rows
end Go.Proofs.Ytcgefpklljclgaa
