/-
  No cell of these rows narrows 'for every input' (looked for: loops, veiled, ifaces, maps, wideKeys, modest, calm, conditions, laid).
  DERIVED. THE GIVEN ROWS OF THIS SEAT. 4 by the template 'for every input the law returns true; each argument reads behind the call as it read before'; 0 by the template 'total and deterministic' (their statements: YtjckojnlapchoaaGreatTotals.lean).
  GIVEN WITH THE SEED: the statements are not yours to turn. If you find one false, say at which input.
  Laid BY PROGRAM, IN A SANDBOX (cutbox-rows.mjs): the forced cells as the released guide's own fill.sh prints them over the translation 799023a7368b94be… (all of the seat's roots in one cut). By AI agents, Wed Nov 11 2026. No macro, syntax, notation, axiom, sorry.
-/
import Derived.Test.YtjckojnlapchoaaGreatChecked
import GoSem.Claim
import GoSem.ClaimJoined
import GoSem.ClaimMapViews
import Derived.JoinedTies
import Derived.KernelRfl
namespace Go.Proofs.YtjckojnlapchoaaGreat
/- THE CELL 'sum', in the pinned program and in every row, IS THE sha256 OF THE DUMP (.gsa) THAT YtjckojnlapchoaaGreatProg.lean LOADS. Nothing in Lean hashes anything: it is a label: what it is worth is what the hold of that sum in a sandbox is worth. -/
noncomputable def Tryz.pinned : Pinned := { name := "ytjckojnlapchoaagreat", sum := "799023a7368b94beb98c441bdd456b5b31407c1b899a978a4af2778662ffe968", checked := Tryz.checked }
namespace Rows
def none {H : Type} : Left H := { results := [], args := [] }

/-- 'semaphorelaw28.JudgeMays': WHATEVER THE INPUT: true; the input reads as it did. -/
def judgeMaysSpec : ChangeSpec := { name := "judgeMays", fn := fun _ => fun
  | [d1, d2, d3, d4, d5, d6, d7] => { results := [.lit (.bool true)], args := [d1, d2, d3, d4, d5, d6, d7] }
  | _ => none }
def judgeMaysRow : OpenClaim := { program := "ytjckojnlapchoaagreat", sum := "799023a7368b94beb98c441bdd456b5b31407c1b899a978a4af2778662ffe968", func := "semaphore/semaphorelaw28.JudgeMays", spec := "judgeMays", unfollowed := true, recurses := true, plainKeys := false, apart := false }
def JudgeMaysSaid : Prop := judgeMaysRow.holds Tryz.pinned (OpenSpec.ofChange judgeMaysSpec)

/-- ITS FALSE NEIGHBOUR: 'it returns false'. Refute it at one input. -/
def judgeMaysWrong : ChangeSpec := { name := "judgeMays", fn := fun _ => fun
  | [d1, d2, d3, d4, d5, d6, d7] => { results := [.lit (.bool false)], args := [d1, d2, d3, d4, d5, d6, d7] }
  | _ => none }
def JudgeMaysWrongFalsely : Prop := judgeMaysRow.holds Tryz.pinned (OpenSpec.ofChange judgeMaysWrong)

/-- 'semaphorelaw28.JudgeChecks': WHATEVER THE INPUT: true; the input reads as it did. -/
def judgeChecksSpec : ChangeSpec := { name := "judgeChecks", fn := fun _ => fun
  | [d1, d2, d3, d4] => { results := [.lit (.bool true)], args := [d1, d2, d3, d4] }
  | _ => none }
def judgeChecksRow : OpenClaim := { program := "ytjckojnlapchoaagreat", sum := "799023a7368b94beb98c441bdd456b5b31407c1b899a978a4af2778662ffe968", func := "semaphore/semaphorelaw28.JudgeChecks", spec := "judgeChecks", unfollowed := true, recurses := true, plainKeys := false, apart := false }
def JudgeChecksSaid : Prop := judgeChecksRow.holds Tryz.pinned (OpenSpec.ofChange judgeChecksSpec)

/-- ITS FALSE NEIGHBOUR: 'it returns false'. Refute it at one input. -/
def judgeChecksWrong : ChangeSpec := { name := "judgeChecks", fn := fun _ => fun
  | [d1, d2, d3, d4] => { results := [.lit (.bool false)], args := [d1, d2, d3, d4] }
  | _ => none }
def JudgeChecksWrongFalsely : Prop := judgeChecksRow.holds Tryz.pinned (OpenSpec.ofChange judgeChecksWrong)

/-- 'semaphorelaw28.JudgeFront': WHATEVER THE INPUT: true; the input reads as it did. -/
def judgeFrontSpec : ChangeSpec := { name := "judgeFront", fn := fun _ => fun
  | [d1, d2, d3, d4, d5] => { results := [.lit (.bool true)], args := [d1, d2, d3, d4, d5] }
  | _ => none }
def judgeFrontRow : OpenClaim := { program := "ytjckojnlapchoaagreat", sum := "799023a7368b94beb98c441bdd456b5b31407c1b899a978a4af2778662ffe968", func := "semaphore/semaphorelaw28.JudgeFront", spec := "judgeFront", unfollowed := true, recurses := true, plainKeys := false, apart := false }
def JudgeFrontSaid : Prop := judgeFrontRow.holds Tryz.pinned (OpenSpec.ofChange judgeFrontSpec)

/-- ITS FALSE NEIGHBOUR: 'it returns false'. Refute it at one input. -/
def judgeFrontWrong : ChangeSpec := { name := "judgeFront", fn := fun _ => fun
  | [d1, d2, d3, d4, d5] => { results := [.lit (.bool false)], args := [d1, d2, d3, d4, d5] }
  | _ => none }
def JudgeFrontWrongFalsely : Prop := judgeFrontRow.holds Tryz.pinned (OpenSpec.ofChange judgeFrontWrong)

/-- 'semaphorelaw28.JudgeSteps': WHATEVER THE INPUT: true; the input reads as it did. -/
def judgeStepsSpec : ChangeSpec := { name := "judgeSteps", fn := fun _ => fun
  | [d1, d2, d3, d4, d5, d6, d7, d8] => { results := [.lit (.bool true)], args := [d1, d2, d3, d4, d5, d6, d7, d8] }
  | _ => none }
def judgeStepsRow : OpenClaim := { program := "ytjckojnlapchoaagreat", sum := "799023a7368b94beb98c441bdd456b5b31407c1b899a978a4af2778662ffe968", func := "semaphore/semaphorelaw28.JudgeSteps", spec := "judgeSteps", unfollowed := true, recurses := true, plainKeys := false, apart := false }
def JudgeStepsSaid : Prop := judgeStepsRow.holds Tryz.pinned (OpenSpec.ofChange judgeStepsSpec)

/-- ITS FALSE NEIGHBOUR: 'it returns false'. Refute it at one input. -/
def judgeStepsWrong : ChangeSpec := { name := "judgeSteps", fn := fun _ => fun
  | [d1, d2, d3, d4, d5, d6, d7, d8] => { results := [.lit (.bool false)], args := [d1, d2, d3, d4, d5, d6, d7, d8] }
  | _ => none }
def JudgeStepsWrongFalsely : Prop := judgeStepsRow.holds Tryz.pinned (OpenSpec.ofChange judgeStepsWrong)

/- THE SECOND FORM. 'bulk': how many values and letters a reading holds, each counted each time it is reached (what is shared counts as often as it is met; a slice's spare places count too). A statement '..UptoSaid' is the law's where the arguments, and the package variables that the reading takes, are together of bulk at most 1048576: NARROWER than '..Said'. Prove '..Said' where nothing that the law and all that it calls make is longer than what came in: it says more and counts as full. Else prove '..UptoSaid'. A law counts once. -/
mutual
def uptoBulk {H : Type} : DataW H → Nat
  | .lit (.string bytes) => bytes.length + 1
  | .lit _ => 1
  | .nil => 1
  | .ptr d => uptoBulk d + 1
  | .slice elems spare => uptoBulkAll elems + uptoBulkAll spare + 1
  | .agg parts => uptoBulkAll parts + 1
  | .iface _ d => uptoBulk d + 1
  | .map entries => uptoBulkEntries entries + 1
  | .held _ => 1
def uptoBulkAll {H : Type} : List (DataW H) → Nat
  | [] => 0
  | d :: r => uptoBulk d + uptoBulkAll r
def uptoBulkEntries {H : Type} : List (Lit × DataW H) → Nat
  | [] => 0
  | x :: r => uptoBulkEntry x + uptoBulkEntries r
def uptoBulkEntry {H : Type} : Lit × DataW H → Nat
  | (.string bytes, d) => bytes.length + uptoBulk d + 1
  | (_, d) => uptoBulk d + 1
 end
def uptoSmall : (H : Type) → List (DataW H) → Bool := fun _ ds => decide (uptoBulkAll ds ≤ 1048576)
def OpenSpec.upto (s : _root_.Go.ChangeSpec) : _root_.Go.OpenSpec := { _root_.Go.OpenSpec.ofChange s with cond := some uptoSmall }

/-- 'semaphorelaw28.JudgeMays', WHERE WHAT IT READS IS OF BULK AT MOST 1048576: true; the input reads as it did. -/
def judgeMaysUptoRow : OpenClaim := { program := "ytjckojnlapchoaagreat", sum := "799023a7368b94beb98c441bdd456b5b31407c1b899a978a4af2778662ffe968", func := "semaphore/semaphorelaw28.JudgeMays", spec := "judgeMays", unfollowed := true, recurses := true, plainKeys := false, apart := false, narrowed := true }
def JudgeMaysUptoSaid : Prop := judgeMaysUptoRow.holds Tryz.pinned (OpenSpec.upto judgeMaysSpec)

/-- 'semaphorelaw28.JudgeChecks', WHERE WHAT IT READS IS OF BULK AT MOST 1048576: true; the input reads as it did. -/
def judgeChecksUptoRow : OpenClaim := { program := "ytjckojnlapchoaagreat", sum := "799023a7368b94beb98c441bdd456b5b31407c1b899a978a4af2778662ffe968", func := "semaphore/semaphorelaw28.JudgeChecks", spec := "judgeChecks", unfollowed := true, recurses := true, plainKeys := false, apart := false, narrowed := true }
def JudgeChecksUptoSaid : Prop := judgeChecksUptoRow.holds Tryz.pinned (OpenSpec.upto judgeChecksSpec)

/-- 'semaphorelaw28.JudgeFront', WHERE WHAT IT READS IS OF BULK AT MOST 1048576: true; the input reads as it did. -/
def judgeFrontUptoRow : OpenClaim := { program := "ytjckojnlapchoaagreat", sum := "799023a7368b94beb98c441bdd456b5b31407c1b899a978a4af2778662ffe968", func := "semaphore/semaphorelaw28.JudgeFront", spec := "judgeFront", unfollowed := true, recurses := true, plainKeys := false, apart := false, narrowed := true }
def JudgeFrontUptoSaid : Prop := judgeFrontUptoRow.holds Tryz.pinned (OpenSpec.upto judgeFrontSpec)

/-- 'semaphorelaw28.JudgeSteps', WHERE WHAT IT READS IS OF BULK AT MOST 1048576: true; the input reads as it did. -/
def judgeStepsUptoRow : OpenClaim := { program := "ytjckojnlapchoaagreat", sum := "799023a7368b94beb98c441bdd456b5b31407c1b899a978a4af2778662ffe968", func := "semaphore/semaphorelaw28.JudgeSteps", spec := "judgeSteps", unfollowed := true, recurses := true, plainKeys := false, apart := false, narrowed := true }
def JudgeStepsUptoSaid : Prop := judgeStepsUptoRow.holds Tryz.pinned (OpenSpec.upto judgeStepsSpec)

end Rows
end Go.Proofs.YtjckojnlapchoaaGreat
