/-
  No cell of these rows narrows 'for every input' (looked for: loops, veiled, ifaces, maps, wideKeys, modest, calm, conditions, laid).
  DERIVED. THE GIVEN ROWS OF THIS SEAT. 22 by the template 'for every input the law returns true; each argument reads behind the call as it read before'; 0 by the template 'total and deterministic' (their statements: YtmjfmfelbmbniaaTotals.lean).
  GIVEN WITH THE SEED: the statements are not yours to turn. If you find one false, say at which input.
  Laid BY PROGRAM, IN A SANDBOX (cutbox-rows.mjs): the forced cells as the released guide's own fill.sh prints them over the translation 0ab312e99aa25fc0… (all of the seat's roots in one cut). By AI agents, Wed Nov 11 2026. No macro, syntax, notation, axiom, sorry.
-/
import Derived.Test.YtmjfmfelbmbniaaChecked
import GoSem.Claim
import GoSem.ClaimJoined
import GoSem.ClaimMapViews
import Derived.JoinedTies
import Derived.KernelRfl
namespace Go.Proofs.Ytmjfmfelbmbniaa
/- THE CELL 'sum', in the pinned program and in every row, IS THE sha256 OF THE DUMP (.gsa) THAT YtmjfmfelbmbniaaProg.lean LOADS. Nothing in Lean hashes anything: it is a label: what it is worth is what the hold of that sum in a sandbox is worth. -/
noncomputable def Try.pinned : Pinned := { name := "ytmjfmfelbmbniaa", sum := "0ab312e99aa25fc047abdee12e678e1bf4103b38b52ae3085dd87d3b9e722a72", checked := Try.checked }
namespace Rows
def none {H : Type} : Left H := { results := [], args := [] }

/-- 'selkielaw12.ShapeStays': WHATEVER THE INPUT: true; the input reads as it did. -/
def shapeStaysSpec : ChangeSpec := { name := "shapeStays", fn := fun _ => fun
  | [d1, d2, d3] => { results := [.lit (.bool true)], args := [d1, d2, d3] }
  | _ => none }
def shapeStaysRow : OpenClaim := { program := "ytmjfmfelbmbniaa", sum := "0ab312e99aa25fc047abdee12e678e1bf4103b38b52ae3085dd87d3b9e722a72", func := "selkie/selkielaw12.ShapeStays", spec := "shapeStays", inPlace := ["maps.clone"], plainKeys := false, apart := false }
def ShapeStaysSaid : Prop := shapeStaysRow.holds Try.pinned (OpenSpec.ofChange shapeStaysSpec)

/-- ITS FALSE NEIGHBOUR: 'it returns false'. Refute it at one input. -/
def shapeStaysWrong : ChangeSpec := { name := "shapeStays", fn := fun _ => fun
  | [d1, d2, d3] => { results := [.lit (.bool false)], args := [d1, d2, d3] }
  | _ => none }
def ShapeStaysWrongFalsely : Prop := shapeStaysRow.holds Try.pinned (OpenSpec.ofChange shapeStaysWrong)

/-- 'selkielaw12.ShapeOrders': WHATEVER THE INPUT: true; the input reads as it did. -/
def shapeOrdersSpec : ChangeSpec := { name := "shapeOrders", fn := fun _ => fun
  | [d1, d2, d3] => { results := [.lit (.bool true)], args := [d1, d2, d3] }
  | _ => none }
def shapeOrdersRow : OpenClaim := { program := "ytmjfmfelbmbniaa", sum := "0ab312e99aa25fc047abdee12e678e1bf4103b38b52ae3085dd87d3b9e722a72", func := "selkie/selkielaw12.ShapeOrders", spec := "shapeOrders", inPlace := ["maps.clone"], unfollowed := true, recurses := true, plainKeys := false, apart := false }
def ShapeOrdersSaid : Prop := shapeOrdersRow.holds Try.pinned (OpenSpec.ofChange shapeOrdersSpec)

/-- ITS FALSE NEIGHBOUR: 'it returns false'. Refute it at one input. -/
def shapeOrdersWrong : ChangeSpec := { name := "shapeOrders", fn := fun _ => fun
  | [d1, d2, d3] => { results := [.lit (.bool false)], args := [d1, d2, d3] }
  | _ => none }
def ShapeOrdersWrongFalsely : Prop := shapeOrdersRow.holds Try.pinned (OpenSpec.ofChange shapeOrdersWrong)

/-- 'selkielaw12.ShapePlays': WHATEVER THE INPUT: true; the input reads as it did. -/
def shapePlaysSpec : ChangeSpec := { name := "shapePlays", fn := fun _ => fun
  | [d1, d2, d3] => { results := [.lit (.bool true)], args := [d1, d2, d3] }
  | _ => none }
def shapePlaysRow : OpenClaim := { program := "ytmjfmfelbmbniaa", sum := "0ab312e99aa25fc047abdee12e678e1bf4103b38b52ae3085dd87d3b9e722a72", func := "selkie/selkielaw12.ShapePlays", spec := "shapePlays", inPlace := ["maps.clone"], plainKeys := false, apart := false }
def ShapePlaysSaid : Prop := shapePlaysRow.holds Try.pinned (OpenSpec.ofChange shapePlaysSpec)

/-- ITS FALSE NEIGHBOUR: 'it returns false'. Refute it at one input. -/
def shapePlaysWrong : ChangeSpec := { name := "shapePlays", fn := fun _ => fun
  | [d1, d2, d3] => { results := [.lit (.bool false)], args := [d1, d2, d3] }
  | _ => none }
def ShapePlaysWrongFalsely : Prop := shapePlaysRow.holds Try.pinned (OpenSpec.ofChange shapePlaysWrong)

/-- 'selkielaw12.ShapePaths': WHATEVER THE INPUT: true; the input reads as it did. -/
def shapePathsSpec : ChangeSpec := { name := "shapePaths", fn := fun _ => fun
  | [d1, d2, d3] => { results := [.lit (.bool true)], args := [d1, d2, d3] }
  | _ => none }
def shapePathsRow : OpenClaim := { program := "ytmjfmfelbmbniaa", sum := "0ab312e99aa25fc047abdee12e678e1bf4103b38b52ae3085dd87d3b9e722a72", func := "selkie/selkielaw12.ShapePaths", spec := "shapePaths", inPlace := ["maps.clone"], plainKeys := false, apart := false }
def ShapePathsSaid : Prop := shapePathsRow.holds Try.pinned (OpenSpec.ofChange shapePathsSpec)

/-- ITS FALSE NEIGHBOUR: 'it returns false'. Refute it at one input. -/
def shapePathsWrong : ChangeSpec := { name := "shapePaths", fn := fun _ => fun
  | [d1, d2, d3] => { results := [.lit (.bool false)], args := [d1, d2, d3] }
  | _ => none }
def ShapePathsWrongFalsely : Prop := shapePathsRow.holds Try.pinned (OpenSpec.ofChange shapePathsWrong)

/-- 'selkielaw13.DictWalks': WHATEVER THE INPUT: true; the input reads as it did. -/
def dictWalksSpec : ChangeSpec := { name := "dictWalks", fn := fun _ => fun
  | [d1, d2] => { results := [.lit (.bool true)], args := [d1, d2] }
  | _ => none }
def dictWalksRow : OpenClaim := { program := "ytmjfmfelbmbniaa", sum := "0ab312e99aa25fc047abdee12e678e1bf4103b38b52ae3085dd87d3b9e722a72", func := "selkie/selkielaw13.DictWalks", spec := "dictWalks", plainKeys := false, apart := false }
def DictWalksSaid : Prop := dictWalksRow.holds Try.pinned (OpenSpec.ofChange dictWalksSpec)

/-- ITS FALSE NEIGHBOUR: 'it returns false'. Refute it at one input. -/
def dictWalksWrong : ChangeSpec := { name := "dictWalks", fn := fun _ => fun
  | [d1, d2] => { results := [.lit (.bool false)], args := [d1, d2] }
  | _ => none }
def DictWalksWrongFalsely : Prop := dictWalksRow.holds Try.pinned (OpenSpec.ofChange dictWalksWrong)

/-- 'selkielaw13.DictPlays': WHATEVER THE INPUT: true; the input reads as it did. -/
def dictPlaysSpec : ChangeSpec := { name := "dictPlays", fn := fun _ => fun
  | [d] => { results := [.lit (.bool true)], args := [d] }
  | _ => none }
def dictPlaysRow : OpenClaim := { program := "ytmjfmfelbmbniaa", sum := "0ab312e99aa25fc047abdee12e678e1bf4103b38b52ae3085dd87d3b9e722a72", func := "selkie/selkielaw13.DictPlays", spec := "dictPlays", plainKeys := false, apart := false }
def DictPlaysSaid : Prop := dictPlaysRow.holds Try.pinned (OpenSpec.ofChange dictPlaysSpec)

/-- ITS FALSE NEIGHBOUR: 'it returns false'. Refute it at one input. -/
def dictPlaysWrong : ChangeSpec := { name := "dictPlays", fn := fun _ => fun
  | [d] => { results := [.lit (.bool false)], args := [d] }
  | _ => none }
def DictPlaysWrongFalsely : Prop := dictPlaysRow.holds Try.pinned (OpenSpec.ofChange dictPlaysWrong)

/-- 'selkielaw13.DictGrows': WHATEVER THE INPUT: true; the input reads as it did. -/
def dictGrowsSpec : ChangeSpec := { name := "dictGrows", fn := fun _ => fun
  | [d1, d2] => { results := [.lit (.bool true)], args := [d1, d2] }
  | _ => none }
def dictGrowsRow : OpenClaim := { program := "ytmjfmfelbmbniaa", sum := "0ab312e99aa25fc047abdee12e678e1bf4103b38b52ae3085dd87d3b9e722a72", func := "selkie/selkielaw13.DictGrows", spec := "dictGrows", recurses := true, plainKeys := false, apart := false }
def DictGrowsSaid : Prop := dictGrowsRow.holds Try.pinned (OpenSpec.ofChange dictGrowsSpec)

/-- ITS FALSE NEIGHBOUR: 'it returns false'. Refute it at one input. -/
def dictGrowsWrong : ChangeSpec := { name := "dictGrows", fn := fun _ => fun
  | [d1, d2] => { results := [.lit (.bool false)], args := [d1, d2] }
  | _ => none }
def DictGrowsWrongFalsely : Prop := dictGrowsRow.holds Try.pinned (OpenSpec.ofChange dictGrowsWrong)

/-- 'selkielaw13.DictKeeps': WHATEVER THE INPUT: true; the input reads as it did. -/
def dictKeepsSpec : ChangeSpec := { name := "dictKeeps", fn := fun _ => fun
  | [d1, d2] => { results := [.lit (.bool true)], args := [d1, d2] }
  | _ => none }
def dictKeepsRow : OpenClaim := { program := "ytmjfmfelbmbniaa", sum := "0ab312e99aa25fc047abdee12e678e1bf4103b38b52ae3085dd87d3b9e722a72", func := "selkie/selkielaw13.DictKeeps", spec := "dictKeeps", plainKeys := false, apart := false }
def DictKeepsSaid : Prop := dictKeepsRow.holds Try.pinned (OpenSpec.ofChange dictKeepsSpec)

/-- ITS FALSE NEIGHBOUR: 'it returns false'. Refute it at one input. -/
def dictKeepsWrong : ChangeSpec := { name := "dictKeeps", fn := fun _ => fun
  | [d1, d2] => { results := [.lit (.bool false)], args := [d1, d2] }
  | _ => none }
def DictKeepsWrongFalsely : Prop := dictKeepsRow.holds Try.pinned (OpenSpec.ofChange dictKeepsWrong)

/-- 'selkielaw14.TabSlots': WHATEVER THE INPUT: true; the input reads as it did. -/
def tabSlotsSpec : ChangeSpec := { name := "tabSlots", fn := fun _ => fun
  | [d1, d2, d3] => { results := [.lit (.bool true)], args := [d1, d2, d3] }
  | _ => none }
def tabSlotsRow : OpenClaim := { program := "ytmjfmfelbmbniaa", sum := "0ab312e99aa25fc047abdee12e678e1bf4103b38b52ae3085dd87d3b9e722a72", func := "selkie/selkielaw14.TabSlots", spec := "tabSlots", inPlace := ["maps.clone"], plainKeys := false, apart := false }
def TabSlotsSaid : Prop := tabSlotsRow.holds Try.pinned (OpenSpec.ofChange tabSlotsSpec)

/-- ITS FALSE NEIGHBOUR: 'it returns false'. Refute it at one input. -/
def tabSlotsWrong : ChangeSpec := { name := "tabSlots", fn := fun _ => fun
  | [d1, d2, d3] => { results := [.lit (.bool false)], args := [d1, d2, d3] }
  | _ => none }
def TabSlotsWrongFalsely : Prop := tabSlotsRow.holds Try.pinned (OpenSpec.ofChange tabSlotsWrong)

/-- 'selkielaw15.MetaNames': WHATEVER THE INPUT: true; the input reads as it did. -/
def metaNamesSpec : ChangeSpec := { name := "metaNames", fn := fun _ => fun
  | [d] => { results := [.lit (.bool true)], args := [d] }
  | _ => none }
def metaNamesRow : OpenClaim := { program := "ytmjfmfelbmbniaa", sum := "0ab312e99aa25fc047abdee12e678e1bf4103b38b52ae3085dd87d3b9e722a72", func := "selkie/selkielaw15.MetaNames", spec := "metaNames", inPlace := ["maps.clone"], unfollowed := true, recurses := true, plainKeys := false, apart := false }
def MetaNamesSaid : Prop := metaNamesRow.holds Try.pinned (OpenSpec.ofChange metaNamesSpec)

/-- ITS FALSE NEIGHBOUR: 'it returns false'. Refute it at one input. -/
def metaNamesWrong : ChangeSpec := { name := "metaNames", fn := fun _ => fun
  | [d] => { results := [.lit (.bool false)], args := [d] }
  | _ => none }
def MetaNamesWrongFalsely : Prop := metaNamesRow.holds Try.pinned (OpenSpec.ofChange metaNamesWrong)

/-- 'selkielaw14.TabFills': WHATEVER THE INPUT: true; the input reads as it did. -/
def tabFillsSpec : ChangeSpec := { name := "tabFills", fn := fun _ => fun
  | [d1, d2] => { results := [.lit (.bool true)], args := [d1, d2] }
  | _ => none }
def tabFillsRow : OpenClaim := { program := "ytmjfmfelbmbniaa", sum := "0ab312e99aa25fc047abdee12e678e1bf4103b38b52ae3085dd87d3b9e722a72", func := "selkie/selkielaw14.TabFills", spec := "tabFills", inPlace := ["maps.clone"], plainKeys := false, apart := false }
def TabFillsSaid : Prop := tabFillsRow.holds Try.pinned (OpenSpec.ofChange tabFillsSpec)

/-- ITS FALSE NEIGHBOUR: 'it returns false'. Refute it at one input. -/
def tabFillsWrong : ChangeSpec := { name := "tabFills", fn := fun _ => fun
  | [d1, d2] => { results := [.lit (.bool false)], args := [d1, d2] }
  | _ => none }
def TabFillsWrongFalsely : Prop := tabFillsRow.holds Try.pinned (OpenSpec.ofChange tabFillsWrong)

/-- 'selkielaw15.MetaPlays': WHATEVER THE INPUT: true; the input reads as it did. -/
def metaPlaysSpec : ChangeSpec := { name := "metaPlays", fn := fun _ => fun
  | [d1, d2] => { results := [.lit (.bool true)], args := [d1, d2] }
  | _ => none }
def metaPlaysRow : OpenClaim := { program := "ytmjfmfelbmbniaa", sum := "0ab312e99aa25fc047abdee12e678e1bf4103b38b52ae3085dd87d3b9e722a72", func := "selkie/selkielaw15.MetaPlays", spec := "metaPlays", inPlace := ["maps.clone"], unfollowed := true, recurses := true, plainKeys := false, apart := false }
def MetaPlaysSaid : Prop := metaPlaysRow.holds Try.pinned (OpenSpec.ofChange metaPlaysSpec)

/-- ITS FALSE NEIGHBOUR: 'it returns false'. Refute it at one input. -/
def metaPlaysWrong : ChangeSpec := { name := "metaPlays", fn := fun _ => fun
  | [d1, d2] => { results := [.lit (.bool false)], args := [d1, d2] }
  | _ => none }
def MetaPlaysWrongFalsely : Prop := metaPlaysRow.holds Try.pinned (OpenSpec.ofChange metaPlaysWrong)

/-- 'selkielaw15.MetaBooks': WHATEVER THE INPUT: true; the input reads as it did. -/
def metaBooksSpec : ChangeSpec := { name := "metaBooks", fn := fun _ => fun
  | [d1, d2, d3] => { results := [.lit (.bool true)], args := [d1, d2, d3] }
  | _ => none }
def metaBooksRow : OpenClaim := { program := "ytmjfmfelbmbniaa", sum := "0ab312e99aa25fc047abdee12e678e1bf4103b38b52ae3085dd87d3b9e722a72", func := "selkie/selkielaw15.MetaBooks", spec := "metaBooks", inPlace := ["maps.clone"], unfollowed := true, recurses := true, plainKeys := false, apart := false }
def MetaBooksSaid : Prop := metaBooksRow.holds Try.pinned (OpenSpec.ofChange metaBooksSpec)

/-- ITS FALSE NEIGHBOUR: 'it returns false'. Refute it at one input. -/
def metaBooksWrong : ChangeSpec := { name := "metaBooks", fn := fun _ => fun
  | [d1, d2, d3] => { results := [.lit (.bool false)], args := [d1, d2, d3] }
  | _ => none }
def MetaBooksWrongFalsely : Prop := metaBooksRow.holds Try.pinned (OpenSpec.ofChange metaBooksWrong)

/-- 'selkielaw14.TabWalks': WHATEVER THE INPUT: true; the input reads as it did. -/
def tabWalksSpec : ChangeSpec := { name := "tabWalks", fn := fun _ => fun
  | [d] => { results := [.lit (.bool true)], args := [d] }
  | _ => none }
def tabWalksRow : OpenClaim := { program := "ytmjfmfelbmbniaa", sum := "0ab312e99aa25fc047abdee12e678e1bf4103b38b52ae3085dd87d3b9e722a72", func := "selkie/selkielaw14.TabWalks", spec := "tabWalks", inPlace := ["maps.clone"], plainKeys := false, apart := false }
def TabWalksSaid : Prop := tabWalksRow.holds Try.pinned (OpenSpec.ofChange tabWalksSpec)

/-- ITS FALSE NEIGHBOUR: 'it returns false'. Refute it at one input. -/
def tabWalksWrong : ChangeSpec := { name := "tabWalks", fn := fun _ => fun
  | [d] => { results := [.lit (.bool false)], args := [d] }
  | _ => none }
def TabWalksWrongFalsely : Prop := tabWalksRow.holds Try.pinned (OpenSpec.ofChange tabWalksWrong)

/-- 'selkielaw14.TabKeeps': WHATEVER THE INPUT: true; the input reads as it did. -/
def tabKeepsSpec : ChangeSpec := { name := "tabKeeps", fn := fun _ => fun
  | [d] => { results := [.lit (.bool true)], args := [d] }
  | _ => none }
def tabKeepsRow : OpenClaim := { program := "ytmjfmfelbmbniaa", sum := "0ab312e99aa25fc047abdee12e678e1bf4103b38b52ae3085dd87d3b9e722a72", func := "selkie/selkielaw14.TabKeeps", spec := "tabKeeps", inPlace := ["maps.clone"], plainKeys := false, apart := false }
def TabKeepsSaid : Prop := tabKeepsRow.holds Try.pinned (OpenSpec.ofChange tabKeepsSpec)

/-- ITS FALSE NEIGHBOUR: 'it returns false'. Refute it at one input. -/
def tabKeepsWrong : ChangeSpec := { name := "tabKeeps", fn := fun _ => fun
  | [d] => { results := [.lit (.bool false)], args := [d] }
  | _ => none }
def TabKeepsWrongFalsely : Prop := tabKeepsRow.holds Try.pinned (OpenSpec.ofChange tabKeepsWrong)

/-- 'selkielaw14.TabPlays': WHATEVER THE INPUT: true; the input reads as it did. -/
def tabPlaysSpec : ChangeSpec := { name := "tabPlays", fn := fun _ => fun
  | [d] => { results := [.lit (.bool true)], args := [d] }
  | _ => none }
def tabPlaysRow : OpenClaim := { program := "ytmjfmfelbmbniaa", sum := "0ab312e99aa25fc047abdee12e678e1bf4103b38b52ae3085dd87d3b9e722a72", func := "selkie/selkielaw14.TabPlays", spec := "tabPlays", inPlace := ["maps.clone"], plainKeys := false, apart := false }
def TabPlaysSaid : Prop := tabPlaysRow.holds Try.pinned (OpenSpec.ofChange tabPlaysSpec)

/-- ITS FALSE NEIGHBOUR: 'it returns false'. Refute it at one input. -/
def tabPlaysWrong : ChangeSpec := { name := "tabPlays", fn := fun _ => fun
  | [d] => { results := [.lit (.bool false)], args := [d] }
  | _ => none }
def TabPlaysWrongFalsely : Prop := tabPlaysRow.holds Try.pinned (OpenSpec.ofChange tabPlaysWrong)

/-- 'selkielaw14.TabShapes': WHATEVER THE INPUT: true; the input reads as it did. -/
def tabShapesSpec : ChangeSpec := { name := "tabShapes", fn := fun _ => fun
  | [d1, d2, d3] => { results := [.lit (.bool true)], args := [d1, d2, d3] }
  | _ => none }
def tabShapesRow : OpenClaim := { program := "ytmjfmfelbmbniaa", sum := "0ab312e99aa25fc047abdee12e678e1bf4103b38b52ae3085dd87d3b9e722a72", func := "selkie/selkielaw14.TabShapes", spec := "tabShapes", inPlace := ["maps.clone"], plainKeys := false, apart := false }
def TabShapesSaid : Prop := tabShapesRow.holds Try.pinned (OpenSpec.ofChange tabShapesSpec)

/-- ITS FALSE NEIGHBOUR: 'it returns false'. Refute it at one input. -/
def tabShapesWrong : ChangeSpec := { name := "tabShapes", fn := fun _ => fun
  | [d1, d2, d3] => { results := [.lit (.bool false)], args := [d1, d2, d3] }
  | _ => none }
def TabShapesWrongFalsely : Prop := tabShapesRow.holds Try.pinned (OpenSpec.ofChange tabShapesWrong)

/-- 'selkielaw14.TabMetas': WHATEVER THE INPUT: true; the input reads as it did. -/
def tabMetasSpec : ChangeSpec := { name := "tabMetas", fn := fun _ => fun
  | [d1, d2] => { results := [.lit (.bool true)], args := [d1, d2] }
  | _ => none }
def tabMetasRow : OpenClaim := { program := "ytmjfmfelbmbniaa", sum := "0ab312e99aa25fc047abdee12e678e1bf4103b38b52ae3085dd87d3b9e722a72", func := "selkie/selkielaw14.TabMetas", spec := "tabMetas", inPlace := ["maps.clone"], plainKeys := false, apart := false }
def TabMetasSaid : Prop := tabMetasRow.holds Try.pinned (OpenSpec.ofChange tabMetasSpec)

/-- ITS FALSE NEIGHBOUR: 'it returns false'. Refute it at one input. -/
def tabMetasWrong : ChangeSpec := { name := "tabMetas", fn := fun _ => fun
  | [d1, d2] => { results := [.lit (.bool false)], args := [d1, d2] }
  | _ => none }
def TabMetasWrongFalsely : Prop := tabMetasRow.holds Try.pinned (OpenSpec.ofChange tabMetasWrong)

/-- 'selkielaw16.HeapBounds': WHATEVER THE INPUT: true; the input reads as it did. -/
def heapBoundsSpec : ChangeSpec := { name := "heapBounds", fn := fun _ => fun
  | [d1, d2] => { results := [.lit (.bool true)], args := [d1, d2] }
  | _ => none }
def heapBoundsRow : OpenClaim := { program := "ytmjfmfelbmbniaa", sum := "0ab312e99aa25fc047abdee12e678e1bf4103b38b52ae3085dd87d3b9e722a72", func := "selkie/selkielaw16.HeapBounds", spec := "heapBounds", inPlace := ["maps.clone"], unfollowed := true, recurses := true, plainKeys := false, apart := false }
def HeapBoundsSaid : Prop := heapBoundsRow.holds Try.pinned (OpenSpec.ofChange heapBoundsSpec)

/-- ITS FALSE NEIGHBOUR: 'it returns false'. Refute it at one input. -/
def heapBoundsWrong : ChangeSpec := { name := "heapBounds", fn := fun _ => fun
  | [d1, d2] => { results := [.lit (.bool false)], args := [d1, d2] }
  | _ => none }
def HeapBoundsWrongFalsely : Prop := heapBoundsRow.holds Try.pinned (OpenSpec.ofChange heapBoundsWrong)

/-- 'selkielaw16.HeapPlays': WHATEVER THE INPUT: true; the input reads as it did. -/
def heapPlaysSpec : ChangeSpec := { name := "heapPlays", fn := fun _ => fun
  | [d1, d2] => { results := [.lit (.bool true)], args := [d1, d2] }
  | _ => none }
def heapPlaysRow : OpenClaim := { program := "ytmjfmfelbmbniaa", sum := "0ab312e99aa25fc047abdee12e678e1bf4103b38b52ae3085dd87d3b9e722a72", func := "selkie/selkielaw16.HeapPlays", spec := "heapPlays", inPlace := ["maps.clone"], unfollowed := true, recurses := true, plainKeys := false, apart := false }
def HeapPlaysSaid : Prop := heapPlaysRow.holds Try.pinned (OpenSpec.ofChange heapPlaysSpec)

/-- ITS FALSE NEIGHBOUR: 'it returns false'. Refute it at one input. -/
def heapPlaysWrong : ChangeSpec := { name := "heapPlays", fn := fun _ => fun
  | [d1, d2] => { results := [.lit (.bool false)], args := [d1, d2] }
  | _ => none }
def HeapPlaysWrongFalsely : Prop := heapPlaysRow.holds Try.pinned (OpenSpec.ofChange heapPlaysWrong)

/-- 'selkielaw16.HeapMetas': WHATEVER THE INPUT: true; the input reads as it did. -/
def heapMetasSpec : ChangeSpec := { name := "heapMetas", fn := fun _ => fun
  | [d] => { results := [.lit (.bool true)], args := [d] }
  | _ => none }
def heapMetasRow : OpenClaim := { program := "ytmjfmfelbmbniaa", sum := "0ab312e99aa25fc047abdee12e678e1bf4103b38b52ae3085dd87d3b9e722a72", func := "selkie/selkielaw16.HeapMetas", spec := "heapMetas", inPlace := ["maps.clone"], unfollowed := true, recurses := true, plainKeys := false, apart := false }
def HeapMetasSaid : Prop := heapMetasRow.holds Try.pinned (OpenSpec.ofChange heapMetasSpec)

/-- ITS FALSE NEIGHBOUR: 'it returns false'. Refute it at one input. -/
def heapMetasWrong : ChangeSpec := { name := "heapMetas", fn := fun _ => fun
  | [d] => { results := [.lit (.bool false)], args := [d] }
  | _ => none }
def HeapMetasWrongFalsely : Prop := heapMetasRow.holds Try.pinned (OpenSpec.ofChange heapMetasWrong)

/-- 'selkielaw16.HeapApart': WHATEVER THE INPUT: true; the input reads as it did. -/
def heapApartSpec : ChangeSpec := { name := "heapApart", fn := fun _ => fun
  | [d1, d2] => { results := [.lit (.bool true)], args := [d1, d2] }
  | _ => none }
def heapApartRow : OpenClaim := { program := "ytmjfmfelbmbniaa", sum := "0ab312e99aa25fc047abdee12e678e1bf4103b38b52ae3085dd87d3b9e722a72", func := "selkie/selkielaw16.HeapApart", spec := "heapApart", inPlace := ["maps.clone"], unfollowed := true, recurses := true, plainKeys := false, apart := false }
def HeapApartSaid : Prop := heapApartRow.holds Try.pinned (OpenSpec.ofChange heapApartSpec)

/-- ITS FALSE NEIGHBOUR: 'it returns false'. Refute it at one input. -/
def heapApartWrong : ChangeSpec := { name := "heapApart", fn := fun _ => fun
  | [d1, d2] => { results := [.lit (.bool false)], args := [d1, d2] }
  | _ => none }
def HeapApartWrongFalsely : Prop := heapApartRow.holds Try.pinned (OpenSpec.ofChange heapApartWrong)

/- THE SECOND FORM. 'bulk': how many values and letters a reading holds, each counted each time it is reached (what is shared counts as often as it is met; a slice's spare places count too). A statement '..UptoSaid' is the law's where the arguments, and the package variables that the reading takes, are together of bulk at most 1048576: NARROWER than '..Said'. Prove '..Said' where nothing that the law and all that it calls make is longer than what came in: it says more and counts as full. Else prove '..UptoSaid'. A law counts once. -/
mutual
def uptoBulk {H : Type} : DataW H → Nat
  | .lit (.string bytes) => bytes.length + 1
  | .lit _ => 1
  | .nil => 1
  | .ptr d => uptoBulk d + 1
  | .slice elems spare => uptoBulkAll elems + uptoBulkAll spare + 1
  | .agg parts => uptoBulkAll parts + 1
  | .iface _ d => uptoBulk d + 1
  | .map entries => uptoBulkEntries entries + 1
  | .held _ => 1
def uptoBulkAll {H : Type} : List (DataW H) → Nat
  | [] => 0
  | d :: r => uptoBulk d + uptoBulkAll r
def uptoBulkEntries {H : Type} : List (Lit × DataW H) → Nat
  | [] => 0
  | x :: r => uptoBulkEntry x + uptoBulkEntries r
def uptoBulkEntry {H : Type} : Lit × DataW H → Nat
  | (.string bytes, d) => bytes.length + uptoBulk d + 1
  | (_, d) => uptoBulk d + 1
 end
def uptoSmall : (H : Type) → List (DataW H) → Bool := fun _ ds => decide (uptoBulkAll ds ≤ 1048576)
def OpenSpec.upto (s : _root_.Go.ChangeSpec) : _root_.Go.OpenSpec := { _root_.Go.OpenSpec.ofChange s with cond := some uptoSmall }

/-- 'selkielaw12.ShapeStays', WHERE WHAT IT READS IS OF BULK AT MOST 1048576: true; the input reads as it did. -/
def shapeStaysUptoRow : OpenClaim := { program := "ytmjfmfelbmbniaa", sum := "0ab312e99aa25fc047abdee12e678e1bf4103b38b52ae3085dd87d3b9e722a72", func := "selkie/selkielaw12.ShapeStays", spec := "shapeStays", inPlace := ["maps.clone"], plainKeys := false, apart := false, narrowed := true }
def ShapeStaysUptoSaid : Prop := shapeStaysUptoRow.holds Try.pinned (OpenSpec.upto shapeStaysSpec)

/-- 'selkielaw12.ShapeOrders', WHERE WHAT IT READS IS OF BULK AT MOST 1048576: true; the input reads as it did. -/
def shapeOrdersUptoRow : OpenClaim := { program := "ytmjfmfelbmbniaa", sum := "0ab312e99aa25fc047abdee12e678e1bf4103b38b52ae3085dd87d3b9e722a72", func := "selkie/selkielaw12.ShapeOrders", spec := "shapeOrders", inPlace := ["maps.clone"], unfollowed := true, recurses := true, plainKeys := false, apart := false, narrowed := true }
def ShapeOrdersUptoSaid : Prop := shapeOrdersUptoRow.holds Try.pinned (OpenSpec.upto shapeOrdersSpec)

/-- 'selkielaw12.ShapePlays', WHERE WHAT IT READS IS OF BULK AT MOST 1048576: true; the input reads as it did. -/
def shapePlaysUptoRow : OpenClaim := { program := "ytmjfmfelbmbniaa", sum := "0ab312e99aa25fc047abdee12e678e1bf4103b38b52ae3085dd87d3b9e722a72", func := "selkie/selkielaw12.ShapePlays", spec := "shapePlays", inPlace := ["maps.clone"], plainKeys := false, apart := false, narrowed := true }
def ShapePlaysUptoSaid : Prop := shapePlaysUptoRow.holds Try.pinned (OpenSpec.upto shapePlaysSpec)

/-- 'selkielaw12.ShapePaths', WHERE WHAT IT READS IS OF BULK AT MOST 1048576: true; the input reads as it did. -/
def shapePathsUptoRow : OpenClaim := { program := "ytmjfmfelbmbniaa", sum := "0ab312e99aa25fc047abdee12e678e1bf4103b38b52ae3085dd87d3b9e722a72", func := "selkie/selkielaw12.ShapePaths", spec := "shapePaths", inPlace := ["maps.clone"], plainKeys := false, apart := false, narrowed := true }
def ShapePathsUptoSaid : Prop := shapePathsUptoRow.holds Try.pinned (OpenSpec.upto shapePathsSpec)

/-- 'selkielaw13.DictWalks', WHERE WHAT IT READS IS OF BULK AT MOST 1048576: true; the input reads as it did. -/
def dictWalksUptoRow : OpenClaim := { program := "ytmjfmfelbmbniaa", sum := "0ab312e99aa25fc047abdee12e678e1bf4103b38b52ae3085dd87d3b9e722a72", func := "selkie/selkielaw13.DictWalks", spec := "dictWalks", plainKeys := false, apart := false, narrowed := true }
def DictWalksUptoSaid : Prop := dictWalksUptoRow.holds Try.pinned (OpenSpec.upto dictWalksSpec)

/-- 'selkielaw13.DictPlays', WHERE WHAT IT READS IS OF BULK AT MOST 1048576: true; the input reads as it did. -/
def dictPlaysUptoRow : OpenClaim := { program := "ytmjfmfelbmbniaa", sum := "0ab312e99aa25fc047abdee12e678e1bf4103b38b52ae3085dd87d3b9e722a72", func := "selkie/selkielaw13.DictPlays", spec := "dictPlays", plainKeys := false, apart := false, narrowed := true }
def DictPlaysUptoSaid : Prop := dictPlaysUptoRow.holds Try.pinned (OpenSpec.upto dictPlaysSpec)

/-- 'selkielaw13.DictGrows', WHERE WHAT IT READS IS OF BULK AT MOST 1048576: true; the input reads as it did. -/
def dictGrowsUptoRow : OpenClaim := { program := "ytmjfmfelbmbniaa", sum := "0ab312e99aa25fc047abdee12e678e1bf4103b38b52ae3085dd87d3b9e722a72", func := "selkie/selkielaw13.DictGrows", spec := "dictGrows", recurses := true, plainKeys := false, apart := false, narrowed := true }
def DictGrowsUptoSaid : Prop := dictGrowsUptoRow.holds Try.pinned (OpenSpec.upto dictGrowsSpec)

/-- 'selkielaw13.DictKeeps', WHERE WHAT IT READS IS OF BULK AT MOST 1048576: true; the input reads as it did. -/
def dictKeepsUptoRow : OpenClaim := { program := "ytmjfmfelbmbniaa", sum := "0ab312e99aa25fc047abdee12e678e1bf4103b38b52ae3085dd87d3b9e722a72", func := "selkie/selkielaw13.DictKeeps", spec := "dictKeeps", plainKeys := false, apart := false, narrowed := true }
def DictKeepsUptoSaid : Prop := dictKeepsUptoRow.holds Try.pinned (OpenSpec.upto dictKeepsSpec)

/-- 'selkielaw14.TabSlots', WHERE WHAT IT READS IS OF BULK AT MOST 1048576: true; the input reads as it did. -/
def tabSlotsUptoRow : OpenClaim := { program := "ytmjfmfelbmbniaa", sum := "0ab312e99aa25fc047abdee12e678e1bf4103b38b52ae3085dd87d3b9e722a72", func := "selkie/selkielaw14.TabSlots", spec := "tabSlots", inPlace := ["maps.clone"], plainKeys := false, apart := false, narrowed := true }
def TabSlotsUptoSaid : Prop := tabSlotsUptoRow.holds Try.pinned (OpenSpec.upto tabSlotsSpec)

/-- 'selkielaw15.MetaNames', WHERE WHAT IT READS IS OF BULK AT MOST 1048576: true; the input reads as it did. -/
def metaNamesUptoRow : OpenClaim := { program := "ytmjfmfelbmbniaa", sum := "0ab312e99aa25fc047abdee12e678e1bf4103b38b52ae3085dd87d3b9e722a72", func := "selkie/selkielaw15.MetaNames", spec := "metaNames", inPlace := ["maps.clone"], unfollowed := true, recurses := true, plainKeys := false, apart := false, narrowed := true }
def MetaNamesUptoSaid : Prop := metaNamesUptoRow.holds Try.pinned (OpenSpec.upto metaNamesSpec)

/-- 'selkielaw14.TabFills', WHERE WHAT IT READS IS OF BULK AT MOST 1048576: true; the input reads as it did. -/
def tabFillsUptoRow : OpenClaim := { program := "ytmjfmfelbmbniaa", sum := "0ab312e99aa25fc047abdee12e678e1bf4103b38b52ae3085dd87d3b9e722a72", func := "selkie/selkielaw14.TabFills", spec := "tabFills", inPlace := ["maps.clone"], plainKeys := false, apart := false, narrowed := true }
def TabFillsUptoSaid : Prop := tabFillsUptoRow.holds Try.pinned (OpenSpec.upto tabFillsSpec)

/-- 'selkielaw15.MetaPlays', WHERE WHAT IT READS IS OF BULK AT MOST 1048576: true; the input reads as it did. -/
def metaPlaysUptoRow : OpenClaim := { program := "ytmjfmfelbmbniaa", sum := "0ab312e99aa25fc047abdee12e678e1bf4103b38b52ae3085dd87d3b9e722a72", func := "selkie/selkielaw15.MetaPlays", spec := "metaPlays", inPlace := ["maps.clone"], unfollowed := true, recurses := true, plainKeys := false, apart := false, narrowed := true }
def MetaPlaysUptoSaid : Prop := metaPlaysUptoRow.holds Try.pinned (OpenSpec.upto metaPlaysSpec)

/-- 'selkielaw15.MetaBooks', WHERE WHAT IT READS IS OF BULK AT MOST 1048576: true; the input reads as it did. -/
def metaBooksUptoRow : OpenClaim := { program := "ytmjfmfelbmbniaa", sum := "0ab312e99aa25fc047abdee12e678e1bf4103b38b52ae3085dd87d3b9e722a72", func := "selkie/selkielaw15.MetaBooks", spec := "metaBooks", inPlace := ["maps.clone"], unfollowed := true, recurses := true, plainKeys := false, apart := false, narrowed := true }
def MetaBooksUptoSaid : Prop := metaBooksUptoRow.holds Try.pinned (OpenSpec.upto metaBooksSpec)

/-- 'selkielaw14.TabWalks', WHERE WHAT IT READS IS OF BULK AT MOST 1048576: true; the input reads as it did. -/
def tabWalksUptoRow : OpenClaim := { program := "ytmjfmfelbmbniaa", sum := "0ab312e99aa25fc047abdee12e678e1bf4103b38b52ae3085dd87d3b9e722a72", func := "selkie/selkielaw14.TabWalks", spec := "tabWalks", inPlace := ["maps.clone"], plainKeys := false, apart := false, narrowed := true }
def TabWalksUptoSaid : Prop := tabWalksUptoRow.holds Try.pinned (OpenSpec.upto tabWalksSpec)

/-- 'selkielaw14.TabKeeps', WHERE WHAT IT READS IS OF BULK AT MOST 1048576: true; the input reads as it did. -/
def tabKeepsUptoRow : OpenClaim := { program := "ytmjfmfelbmbniaa", sum := "0ab312e99aa25fc047abdee12e678e1bf4103b38b52ae3085dd87d3b9e722a72", func := "selkie/selkielaw14.TabKeeps", spec := "tabKeeps", inPlace := ["maps.clone"], plainKeys := false, apart := false, narrowed := true }
def TabKeepsUptoSaid : Prop := tabKeepsUptoRow.holds Try.pinned (OpenSpec.upto tabKeepsSpec)

/-- 'selkielaw14.TabPlays', WHERE WHAT IT READS IS OF BULK AT MOST 1048576: true; the input reads as it did. -/
def tabPlaysUptoRow : OpenClaim := { program := "ytmjfmfelbmbniaa", sum := "0ab312e99aa25fc047abdee12e678e1bf4103b38b52ae3085dd87d3b9e722a72", func := "selkie/selkielaw14.TabPlays", spec := "tabPlays", inPlace := ["maps.clone"], plainKeys := false, apart := false, narrowed := true }
def TabPlaysUptoSaid : Prop := tabPlaysUptoRow.holds Try.pinned (OpenSpec.upto tabPlaysSpec)

/-- 'selkielaw14.TabShapes', WHERE WHAT IT READS IS OF BULK AT MOST 1048576: true; the input reads as it did. -/
def tabShapesUptoRow : OpenClaim := { program := "ytmjfmfelbmbniaa", sum := "0ab312e99aa25fc047abdee12e678e1bf4103b38b52ae3085dd87d3b9e722a72", func := "selkie/selkielaw14.TabShapes", spec := "tabShapes", inPlace := ["maps.clone"], plainKeys := false, apart := false, narrowed := true }
def TabShapesUptoSaid : Prop := tabShapesUptoRow.holds Try.pinned (OpenSpec.upto tabShapesSpec)

/-- 'selkielaw14.TabMetas', WHERE WHAT IT READS IS OF BULK AT MOST 1048576: true; the input reads as it did. -/
def tabMetasUptoRow : OpenClaim := { program := "ytmjfmfelbmbniaa", sum := "0ab312e99aa25fc047abdee12e678e1bf4103b38b52ae3085dd87d3b9e722a72", func := "selkie/selkielaw14.TabMetas", spec := "tabMetas", inPlace := ["maps.clone"], plainKeys := false, apart := false, narrowed := true }
def TabMetasUptoSaid : Prop := tabMetasUptoRow.holds Try.pinned (OpenSpec.upto tabMetasSpec)

/-- 'selkielaw16.HeapBounds', WHERE WHAT IT READS IS OF BULK AT MOST 1048576: true; the input reads as it did. -/
def heapBoundsUptoRow : OpenClaim := { program := "ytmjfmfelbmbniaa", sum := "0ab312e99aa25fc047abdee12e678e1bf4103b38b52ae3085dd87d3b9e722a72", func := "selkie/selkielaw16.HeapBounds", spec := "heapBounds", inPlace := ["maps.clone"], unfollowed := true, recurses := true, plainKeys := false, apart := false, narrowed := true }
def HeapBoundsUptoSaid : Prop := heapBoundsUptoRow.holds Try.pinned (OpenSpec.upto heapBoundsSpec)

/-- 'selkielaw16.HeapPlays', WHERE WHAT IT READS IS OF BULK AT MOST 1048576: true; the input reads as it did. -/
def heapPlaysUptoRow : OpenClaim := { program := "ytmjfmfelbmbniaa", sum := "0ab312e99aa25fc047abdee12e678e1bf4103b38b52ae3085dd87d3b9e722a72", func := "selkie/selkielaw16.HeapPlays", spec := "heapPlays", inPlace := ["maps.clone"], unfollowed := true, recurses := true, plainKeys := false, apart := false, narrowed := true }
def HeapPlaysUptoSaid : Prop := heapPlaysUptoRow.holds Try.pinned (OpenSpec.upto heapPlaysSpec)

/-- 'selkielaw16.HeapMetas', WHERE WHAT IT READS IS OF BULK AT MOST 1048576: true; the input reads as it did. -/
def heapMetasUptoRow : OpenClaim := { program := "ytmjfmfelbmbniaa", sum := "0ab312e99aa25fc047abdee12e678e1bf4103b38b52ae3085dd87d3b9e722a72", func := "selkie/selkielaw16.HeapMetas", spec := "heapMetas", inPlace := ["maps.clone"], unfollowed := true, recurses := true, plainKeys := false, apart := false, narrowed := true }
def HeapMetasUptoSaid : Prop := heapMetasUptoRow.holds Try.pinned (OpenSpec.upto heapMetasSpec)

/-- 'selkielaw16.HeapApart', WHERE WHAT IT READS IS OF BULK AT MOST 1048576: true; the input reads as it did. -/
def heapApartUptoRow : OpenClaim := { program := "ytmjfmfelbmbniaa", sum := "0ab312e99aa25fc047abdee12e678e1bf4103b38b52ae3085dd87d3b9e722a72", func := "selkie/selkielaw16.HeapApart", spec := "heapApart", inPlace := ["maps.clone"], unfollowed := true, recurses := true, plainKeys := false, apart := false, narrowed := true }
def HeapApartUptoSaid : Prop := heapApartUptoRow.holds Try.pinned (OpenSpec.upto heapApartSpec)

end Rows
end Go.Proofs.Ytmjfmfelbmbniaa
