/-
  No cell of these rows narrows 'for every input' (looked for: loops, veiled, ifaces, maps, wideKeys, modest, calm, conditions, laid).
  DERIVED. THE GIVEN ROWS OF THIS SEAT. 7 by the template 'for every input the law returns true; each argument reads behind the call as it read before'; 0 by the template 'total and deterministic' (their statements: YteiiglefbbhinaaTotals.lean).
  GIVEN WITH THE SEED: the statements are not yours to turn. If you find one false, say at which input.
  Laid BY PROGRAM, IN A SANDBOX (cutbox-rows.mjs): the forced cells as the released guide's own fill.sh prints them over the translation 66e69b495bb98976… (all of the seat's roots in one cut). By AI agents, Wed Nov 11 2026. No macro, syntax, notation, axiom, sorry.
-/
import Derived.Test.YteiiglefbbhinaaChecked
import GoSem.Claim
import GoSem.ClaimJoined
import GoSem.ClaimMapViews
import Derived.JoinedTies
import Derived.KernelRfl
namespace Go.Proofs.Yteiiglefbbhinaa
/- THE CELL 'sum', in the pinned program and in every row, IS THE sha256 OF THE DUMP (.gsa) THAT YteiiglefbbhinaaProg.lean LOADS. Nothing in Lean hashes anything: it is a label: what it is worth is what the hold of that sum in a sandbox is worth. -/
noncomputable def Try.pinned : Pinned := { name := "yteiiglefbbhinaa", sum := "66e69b495bb989762aa914ef542554627930056eae9117f95907d8019ca068f7", checked := Try.checked }
namespace Rows
def none {H : Type} : Left H := { results := [], args := [] }

/-- 'slotmeshlaw30.JoinMatchesReference': WHATEVER THE INPUT: true; the input reads as it did. -/
def joinMatchesReferenceSpec : ChangeSpec := { name := "joinMatchesReference", fn := fun _ => fun
  | [d1, d2, d3, d4, d5, d6, d7] => { results := [.lit (.bool true)], args := [d1, d2, d3, d4, d5, d6, d7] }
  | _ => none }
def joinMatchesReferenceRow : OpenClaim := { program := "yteiiglefbbhinaa", sum := "66e69b495bb989762aa914ef542554627930056eae9117f95907d8019ca068f7", func := "slotmesh/slotmeshlaw30.JoinMatchesReference", spec := "joinMatchesReference", unfollowed := true, recurses := true, apart := false }
def JoinMatchesReferenceSaid : Prop := joinMatchesReferenceRow.holds Try.pinned (OpenSpec.ofChange joinMatchesReferenceSpec)

/-- ITS FALSE NEIGHBOUR: 'it returns false'. Refute it at one input. -/
def joinMatchesReferenceWrong : ChangeSpec := { name := "joinMatchesReference", fn := fun _ => fun
  | [d1, d2, d3, d4, d5, d6, d7] => { results := [.lit (.bool false)], args := [d1, d2, d3, d4, d5, d6, d7] }
  | _ => none }
def JoinMatchesReferenceWrongFalsely : Prop := joinMatchesReferenceRow.holds Try.pinned (OpenSpec.ofChange joinMatchesReferenceWrong)

/-- 'slotmeshlaw30.JoinDialogue': WHATEVER THE INPUT: true; the input reads as it did. -/
def joinDialogueSpec : ChangeSpec := { name := "joinDialogue", fn := fun _ => fun
  | [d1, d2, d3, d4, d5, d6, d7, d8] => { results := [.lit (.bool true)], args := [d1, d2, d3, d4, d5, d6, d7, d8] }
  | _ => none }
def joinDialogueRow : OpenClaim := { program := "yteiiglefbbhinaa", sum := "66e69b495bb989762aa914ef542554627930056eae9117f95907d8019ca068f7", func := "slotmesh/slotmeshlaw30.JoinDialogue", spec := "joinDialogue", unfollowed := true, recurses := true, apart := false }
def JoinDialogueSaid : Prop := joinDialogueRow.holds Try.pinned (OpenSpec.ofChange joinDialogueSpec)

/-- ITS FALSE NEIGHBOUR: 'it returns false'. Refute it at one input. -/
def joinDialogueWrong : ChangeSpec := { name := "joinDialogue", fn := fun _ => fun
  | [d1, d2, d3, d4, d5, d6, d7, d8] => { results := [.lit (.bool false)], args := [d1, d2, d3, d4, d5, d6, d7, d8] }
  | _ => none }
def JoinDialogueWrongFalsely : Prop := joinDialogueRow.holds Try.pinned (OpenSpec.ofChange joinDialogueWrong)

/-- 'slotmeshlaw30.JoinOnlyRoot': WHATEVER THE INPUT: true; the input reads as it did. -/
def joinOnlyRootSpec : ChangeSpec := { name := "joinOnlyRoot", fn := fun _ => fun
  | [d1, d2, d3, d4] => { results := [.lit (.bool true)], args := [d1, d2, d3, d4] }
  | _ => none }
def joinOnlyRootRow : OpenClaim := { program := "yteiiglefbbhinaa", sum := "66e69b495bb989762aa914ef542554627930056eae9117f95907d8019ca068f7", func := "slotmesh/slotmeshlaw30.JoinOnlyRoot", spec := "joinOnlyRoot", unfollowed := true, recurses := true, apart := false }
def JoinOnlyRootSaid : Prop := joinOnlyRootRow.holds Try.pinned (OpenSpec.ofChange joinOnlyRootSpec)

/-- ITS FALSE NEIGHBOUR: 'it returns false'. Refute it at one input. -/
def joinOnlyRootWrong : ChangeSpec := { name := "joinOnlyRoot", fn := fun _ => fun
  | [d1, d2, d3, d4] => { results := [.lit (.bool false)], args := [d1, d2, d3, d4] }
  | _ => none }
def JoinOnlyRootWrongFalsely : Prop := joinOnlyRootRow.holds Try.pinned (OpenSpec.ofChange joinOnlyRootWrong)

/-- 'slotmeshlaw30.JoinForged': WHATEVER THE INPUT: true; the input reads as it did. -/
def joinForgedSpec : ChangeSpec := { name := "joinForged", fn := fun _ => fun
  | [d1, d2, d3, d4] => { results := [.lit (.bool true)], args := [d1, d2, d3, d4] }
  | _ => none }
def joinForgedRow : OpenClaim := { program := "yteiiglefbbhinaa", sum := "66e69b495bb989762aa914ef542554627930056eae9117f95907d8019ca068f7", func := "slotmesh/slotmeshlaw30.JoinForged", spec := "joinForged", unfollowed := true, recurses := true, apart := false }
def JoinForgedSaid : Prop := joinForgedRow.holds Try.pinned (OpenSpec.ofChange joinForgedSpec)

/-- ITS FALSE NEIGHBOUR: 'it returns false'. Refute it at one input. -/
def joinForgedWrong : ChangeSpec := { name := "joinForged", fn := fun _ => fun
  | [d1, d2, d3, d4] => { results := [.lit (.bool false)], args := [d1, d2, d3, d4] }
  | _ => none }
def JoinForgedWrongFalsely : Prop := joinForgedRow.holds Try.pinned (OpenSpec.ofChange joinForgedWrong)

/-- 'slotmeshlaw30.JoinNonces': WHATEVER THE INPUT: true; the input reads as it did. -/
def joinNoncesSpec : ChangeSpec := { name := "joinNonces", fn := fun _ => fun
  | [d1, d2, d3, d4, d5, d6, d7] => { results := [.lit (.bool true)], args := [d1, d2, d3, d4, d5, d6, d7] }
  | _ => none }
def joinNoncesRow : OpenClaim := { program := "yteiiglefbbhinaa", sum := "66e69b495bb989762aa914ef542554627930056eae9117f95907d8019ca068f7", func := "slotmesh/slotmeshlaw30.JoinNonces", spec := "joinNonces", unfollowed := true, recurses := true, apart := false }
def JoinNoncesSaid : Prop := joinNoncesRow.holds Try.pinned (OpenSpec.ofChange joinNoncesSpec)

/-- ITS FALSE NEIGHBOUR: 'it returns false'. Refute it at one input. -/
def joinNoncesWrong : ChangeSpec := { name := "joinNonces", fn := fun _ => fun
  | [d1, d2, d3, d4, d5, d6, d7] => { results := [.lit (.bool false)], args := [d1, d2, d3, d4, d5, d6, d7] }
  | _ => none }
def JoinNoncesWrongFalsely : Prop := joinNoncesRow.holds Try.pinned (OpenSpec.ofChange joinNoncesWrong)

/-- 'slotmeshlaw30.JoinLate': WHATEVER THE INPUT: true; the input reads as it did. -/
def joinLateSpec : ChangeSpec := { name := "joinLate", fn := fun _ => fun
  | [d1, d2, d3, d4, d5, d6, d7] => { results := [.lit (.bool true)], args := [d1, d2, d3, d4, d5, d6, d7] }
  | _ => none }
def joinLateRow : OpenClaim := { program := "yteiiglefbbhinaa", sum := "66e69b495bb989762aa914ef542554627930056eae9117f95907d8019ca068f7", func := "slotmesh/slotmeshlaw30.JoinLate", spec := "joinLate", unfollowed := true, recurses := true, apart := false }
def JoinLateSaid : Prop := joinLateRow.holds Try.pinned (OpenSpec.ofChange joinLateSpec)

/-- ITS FALSE NEIGHBOUR: 'it returns false'. Refute it at one input. -/
def joinLateWrong : ChangeSpec := { name := "joinLate", fn := fun _ => fun
  | [d1, d2, d3, d4, d5, d6, d7] => { results := [.lit (.bool false)], args := [d1, d2, d3, d4, d5, d6, d7] }
  | _ => none }
def JoinLateWrongFalsely : Prop := joinLateRow.holds Try.pinned (OpenSpec.ofChange joinLateWrong)

/-- 'slotmeshlaw30.JoinJudges': WHATEVER THE INPUT: true; the input reads as it did. -/
def joinJudgesSpec : ChangeSpec := { name := "joinJudges", fn := fun _ => fun
  | [d1, d2] => { results := [.lit (.bool true)], args := [d1, d2] }
  | _ => none }
def joinJudgesRow : OpenClaim := { program := "yteiiglefbbhinaa", sum := "66e69b495bb989762aa914ef542554627930056eae9117f95907d8019ca068f7", func := "slotmesh/slotmeshlaw30.JoinJudges", spec := "joinJudges", unfollowed := true, recurses := true, apart := false }
def JoinJudgesSaid : Prop := joinJudgesRow.holds Try.pinned (OpenSpec.ofChange joinJudgesSpec)

/-- ITS FALSE NEIGHBOUR: 'it returns false'. Refute it at one input. -/
def joinJudgesWrong : ChangeSpec := { name := "joinJudges", fn := fun _ => fun
  | [d1, d2] => { results := [.lit (.bool false)], args := [d1, d2] }
  | _ => none }
def JoinJudgesWrongFalsely : Prop := joinJudgesRow.holds Try.pinned (OpenSpec.ofChange joinJudgesWrong)

/- THE SECOND FORM. 'bulk': how many values and letters a reading holds, each counted each time it is reached (what is shared counts as often as it is met; a slice's spare places count too). A statement '..UptoSaid' is the law's where the arguments, and the package variables that the reading takes, are together of bulk at most 1048576: NARROWER than '..Said'. Prove '..Said' where nothing that the law and all that it calls make is longer than what came in: it says more and counts as full. Else prove '..UptoSaid'. A law counts once. -/
mutual
def uptoBulk {H : Type} : DataW H → Nat
  | .lit (.string bytes) => bytes.length + 1
  | .lit _ => 1
  | .nil => 1
  | .ptr d => uptoBulk d + 1
  | .slice elems spare => uptoBulkAll elems + uptoBulkAll spare + 1
  | .agg parts => uptoBulkAll parts + 1
  | .iface _ d => uptoBulk d + 1
  | .map entries => uptoBulkEntries entries + 1
  | .held _ => 1
def uptoBulkAll {H : Type} : List (DataW H) → Nat
  | [] => 0
  | d :: r => uptoBulk d + uptoBulkAll r
def uptoBulkEntries {H : Type} : List (Lit × DataW H) → Nat
  | [] => 0
  | x :: r => uptoBulkEntry x + uptoBulkEntries r
def uptoBulkEntry {H : Type} : Lit × DataW H → Nat
  | (.string bytes, d) => bytes.length + uptoBulk d + 1
  | (_, d) => uptoBulk d + 1
 end
def uptoSmall : (H : Type) → List (DataW H) → Bool := fun _ ds => decide (uptoBulkAll ds ≤ 1048576)
def OpenSpec.upto (s : _root_.Go.ChangeSpec) : _root_.Go.OpenSpec := { _root_.Go.OpenSpec.ofChange s with cond := some uptoSmall }

/-- 'slotmeshlaw30.JoinMatchesReference', WHERE WHAT IT READS IS OF BULK AT MOST 1048576: true; the input reads as it did. -/
def joinMatchesReferenceUptoRow : OpenClaim := { program := "yteiiglefbbhinaa", sum := "66e69b495bb989762aa914ef542554627930056eae9117f95907d8019ca068f7", func := "slotmesh/slotmeshlaw30.JoinMatchesReference", spec := "joinMatchesReference", unfollowed := true, recurses := true, apart := false, narrowed := true }
def JoinMatchesReferenceUptoSaid : Prop := joinMatchesReferenceUptoRow.holds Try.pinned (OpenSpec.upto joinMatchesReferenceSpec)

/-- 'slotmeshlaw30.JoinDialogue', WHERE WHAT IT READS IS OF BULK AT MOST 1048576: true; the input reads as it did. -/
def joinDialogueUptoRow : OpenClaim := { program := "yteiiglefbbhinaa", sum := "66e69b495bb989762aa914ef542554627930056eae9117f95907d8019ca068f7", func := "slotmesh/slotmeshlaw30.JoinDialogue", spec := "joinDialogue", unfollowed := true, recurses := true, apart := false, narrowed := true }
def JoinDialogueUptoSaid : Prop := joinDialogueUptoRow.holds Try.pinned (OpenSpec.upto joinDialogueSpec)

/-- 'slotmeshlaw30.JoinOnlyRoot', WHERE WHAT IT READS IS OF BULK AT MOST 1048576: true; the input reads as it did. -/
def joinOnlyRootUptoRow : OpenClaim := { program := "yteiiglefbbhinaa", sum := "66e69b495bb989762aa914ef542554627930056eae9117f95907d8019ca068f7", func := "slotmesh/slotmeshlaw30.JoinOnlyRoot", spec := "joinOnlyRoot", unfollowed := true, recurses := true, apart := false, narrowed := true }
def JoinOnlyRootUptoSaid : Prop := joinOnlyRootUptoRow.holds Try.pinned (OpenSpec.upto joinOnlyRootSpec)

/-- 'slotmeshlaw30.JoinForged', WHERE WHAT IT READS IS OF BULK AT MOST 1048576: true; the input reads as it did. -/
def joinForgedUptoRow : OpenClaim := { program := "yteiiglefbbhinaa", sum := "66e69b495bb989762aa914ef542554627930056eae9117f95907d8019ca068f7", func := "slotmesh/slotmeshlaw30.JoinForged", spec := "joinForged", unfollowed := true, recurses := true, apart := false, narrowed := true }
def JoinForgedUptoSaid : Prop := joinForgedUptoRow.holds Try.pinned (OpenSpec.upto joinForgedSpec)

/-- 'slotmeshlaw30.JoinNonces', WHERE WHAT IT READS IS OF BULK AT MOST 1048576: true; the input reads as it did. -/
def joinNoncesUptoRow : OpenClaim := { program := "yteiiglefbbhinaa", sum := "66e69b495bb989762aa914ef542554627930056eae9117f95907d8019ca068f7", func := "slotmesh/slotmeshlaw30.JoinNonces", spec := "joinNonces", unfollowed := true, recurses := true, apart := false, narrowed := true }
def JoinNoncesUptoSaid : Prop := joinNoncesUptoRow.holds Try.pinned (OpenSpec.upto joinNoncesSpec)

/-- 'slotmeshlaw30.JoinLate', WHERE WHAT IT READS IS OF BULK AT MOST 1048576: true; the input reads as it did. -/
def joinLateUptoRow : OpenClaim := { program := "yteiiglefbbhinaa", sum := "66e69b495bb989762aa914ef542554627930056eae9117f95907d8019ca068f7", func := "slotmesh/slotmeshlaw30.JoinLate", spec := "joinLate", unfollowed := true, recurses := true, apart := false, narrowed := true }
def JoinLateUptoSaid : Prop := joinLateUptoRow.holds Try.pinned (OpenSpec.upto joinLateSpec)

/-- 'slotmeshlaw30.JoinJudges', WHERE WHAT IT READS IS OF BULK AT MOST 1048576: true; the input reads as it did. -/
def joinJudgesUptoRow : OpenClaim := { program := "yteiiglefbbhinaa", sum := "66e69b495bb989762aa914ef542554627930056eae9117f95907d8019ca068f7", func := "slotmesh/slotmeshlaw30.JoinJudges", spec := "joinJudges", unfollowed := true, recurses := true, apart := false, narrowed := true }
def JoinJudgesUptoSaid : Prop := joinJudgesUptoRow.holds Try.pinned (OpenSpec.upto joinJudgesSpec)

end Rows
end Go.Proofs.Yteiiglefbbhinaa
