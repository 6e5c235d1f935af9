/-
  No cell of these rows narrows 'for every input' (looked for: loops, veiled, ifaces, maps, wideKeys, modest, calm, conditions, laid).
  DERIVED. THE GIVEN ROWS OF THIS SEAT. 12 by the template 'for every input the law returns true; each argument reads behind the call as it read before'; 0 by the template 'total and deterministic' (their statements: YtjiajgojdlgbpaaTotals.lean).
  GIVEN WITH THE SEED: the statements are not yours to turn. If you find one false, say at which input.
  Laid BY PROGRAM, IN A SANDBOX (cutbox-rows.mjs): the forced cells as the released guide's own fill.sh prints them over the translation 0c093d5dcd6c181f… (all of the seat's roots in one cut). By AI agents, Wed Nov 11 2026. No macro, syntax, notation, axiom, sorry.
-/
import Derived.Test.YtjiajgojdlgbpaaChecked
import GoSem.Claim
import GoSem.ClaimJoined
import GoSem.ClaimMapViews
import Derived.JoinedTies
import Derived.KernelRfl
namespace Go.Proofs.Ytjiajgojdlgbpaa
/- THE CELL 'sum', in the pinned program and in every row, IS THE sha256 OF THE DUMP (.gsa) THAT YtjiajgojdlgbpaaProg.lean LOADS. Nothing in Lean hashes anything: it is a label: what it is worth is what the hold of that sum in a sandbox is worth. -/
noncomputable def Try.pinned : Pinned := { name := "ytjiajgojdlgbpaa", sum := "0c093d5dcd6c181f53a1ddf4a80bdda481305fe5ce8952ace56e164fdaf53312", checked := Try.checked }
namespace Rows
def none {H : Type} : Left H := { results := [], args := [] }

/-- 'laws.FnTable': WHATEVER THE INPUT: true; the input reads as it did. -/
def fnTableSpec : ChangeSpec := { name := "fnTable", fn := fun _ => fun
  | [d] => { results := [.lit (.bool true)], args := [d] }
  | _ => none }
def fnTableRow : OpenClaim := { program := "ytjiajgojdlgbpaa", sum := "0c093d5dcd6c181f53a1ddf4a80bdda481305fe5ce8952ace56e164fdaf53312", func := "loop.example/deadlinescheduler/laws.FnTable", spec := "fnTable", unfollowed := true, recurses := true, apart := false }
def FnTableSaid : Prop := fnTableRow.holds Try.pinned (OpenSpec.ofChange fnTableSpec)

/-- ITS FALSE NEIGHBOUR: 'it returns false'. Refute it at one input. -/
def fnTableWrong : ChangeSpec := { name := "fnTable", fn := fun _ => fun
  | [d] => { results := [.lit (.bool false)], args := [d] }
  | _ => none }
def FnTableWrongFalsely : Prop := fnTableRow.holds Try.pinned (OpenSpec.ofChange fnTableWrong)

/-- 'laws.FnWcetTight': WHATEVER THE INPUT: true; the input reads as it did. -/
def fnWcetTightSpec : ChangeSpec := { name := "fnWcetTight", fn := fun _ => fun
  | [d] => { results := [.lit (.bool true)], args := [d] }
  | _ => none }
def fnWcetTightRow : OpenClaim := { program := "ytjiajgojdlgbpaa", sum := "0c093d5dcd6c181f53a1ddf4a80bdda481305fe5ce8952ace56e164fdaf53312", func := "loop.example/deadlinescheduler/laws.FnWcetTight", spec := "fnWcetTight", unfollowed := true, recurses := true, apart := false }
def FnWcetTightSaid : Prop := fnWcetTightRow.holds Try.pinned (OpenSpec.ofChange fnWcetTightSpec)

/-- ITS FALSE NEIGHBOUR: 'it returns false'. Refute it at one input. -/
def fnWcetTightWrong : ChangeSpec := { name := "fnWcetTight", fn := fun _ => fun
  | [d] => { results := [.lit (.bool false)], args := [d] }
  | _ => none }
def FnWcetTightWrongFalsely : Prop := fnWcetTightRow.holds Try.pinned (OpenSpec.ofChange fnWcetTightWrong)

/-- 'laws.FnTableEdf': WHATEVER THE INPUT: true; the input reads as it did. -/
def fnTableEdfSpec : ChangeSpec := { name := "fnTableEdf", fn := fun _ => fun
  | [d] => { results := [.lit (.bool true)], args := [d] }
  | _ => none }
def fnTableEdfRow : OpenClaim := { program := "ytjiajgojdlgbpaa", sum := "0c093d5dcd6c181f53a1ddf4a80bdda481305fe5ce8952ace56e164fdaf53312", func := "loop.example/deadlinescheduler/laws.FnTableEdf", spec := "fnTableEdf", unfollowed := true, recurses := true, apart := false }
def FnTableEdfSaid : Prop := fnTableEdfRow.holds Try.pinned (OpenSpec.ofChange fnTableEdfSpec)

/-- ITS FALSE NEIGHBOUR: 'it returns false'. Refute it at one input. -/
def fnTableEdfWrong : ChangeSpec := { name := "fnTableEdf", fn := fun _ => fun
  | [d] => { results := [.lit (.bool false)], args := [d] }
  | _ => none }
def FnTableEdfWrongFalsely : Prop := fnTableEdfRow.holds Try.pinned (OpenSpec.ofChange fnTableEdfWrong)

/-- 'laws.FnServerShare': WHATEVER THE INPUT: true; the input reads as it did. -/
def fnServerShareSpec : ChangeSpec := { name := "fnServerShare", fn := fun _ => fun
  | [d] => { results := [.lit (.bool true)], args := [d] }
  | _ => none }
def fnServerShareRow : OpenClaim := { program := "ytjiajgojdlgbpaa", sum := "0c093d5dcd6c181f53a1ddf4a80bdda481305fe5ce8952ace56e164fdaf53312", func := "loop.example/deadlinescheduler/laws.FnServerShare", spec := "fnServerShare", unfollowed := true, recurses := true, apart := false }
def FnServerShareSaid : Prop := fnServerShareRow.holds Try.pinned (OpenSpec.ofChange fnServerShareSpec)

/-- ITS FALSE NEIGHBOUR: 'it returns false'. Refute it at one input. -/
def fnServerShareWrong : ChangeSpec := { name := "fnServerShare", fn := fun _ => fun
  | [d] => { results := [.lit (.bool false)], args := [d] }
  | _ => none }
def FnServerShareWrongFalsely : Prop := fnServerShareRow.holds Try.pinned (OpenSpec.ofChange fnServerShareWrong)

/-- 'laws.FnMonotonic': WHATEVER THE INPUT: true; the input reads as it did. -/
def fnMonotonicSpec : ChangeSpec := { name := "fnMonotonic", fn := fun _ => fun
  | [d] => { results := [.lit (.bool true)], args := [d] }
  | _ => none }
def fnMonotonicRow : OpenClaim := { program := "ytjiajgojdlgbpaa", sum := "0c093d5dcd6c181f53a1ddf4a80bdda481305fe5ce8952ace56e164fdaf53312", func := "loop.example/deadlinescheduler/laws.FnMonotonic", spec := "fnMonotonic", unfollowed := true, recurses := true, apart := false }
def FnMonotonicSaid : Prop := fnMonotonicRow.holds Try.pinned (OpenSpec.ofChange fnMonotonicSpec)

/-- ITS FALSE NEIGHBOUR: 'it returns false'. Refute it at one input. -/
def fnMonotonicWrong : ChangeSpec := { name := "fnMonotonic", fn := fun _ => fun
  | [d] => { results := [.lit (.bool false)], args := [d] }
  | _ => none }
def FnMonotonicWrongFalsely : Prop := fnMonotonicRow.holds Try.pinned (OpenSpec.ofChange fnMonotonicWrong)

/-- 'laws.FnRunGlobal': WHATEVER THE INPUT: true; the input reads as it did. -/
def fnRunGlobalSpec : ChangeSpec := { name := "fnRunGlobal", fn := fun _ => fun
  | [d] => { results := [.lit (.bool true)], args := [d] }
  | _ => none }
def fnRunGlobalRow : OpenClaim := { program := "ytjiajgojdlgbpaa", sum := "0c093d5dcd6c181f53a1ddf4a80bdda481305fe5ce8952ace56e164fdaf53312", func := "loop.example/deadlinescheduler/laws.FnRunGlobal", spec := "fnRunGlobal", unfollowed := true, recurses := true, apart := false }
def FnRunGlobalSaid : Prop := fnRunGlobalRow.holds Try.pinned (OpenSpec.ofChange fnRunGlobalSpec)

/-- ITS FALSE NEIGHBOUR: 'it returns false'. Refute it at one input. -/
def fnRunGlobalWrong : ChangeSpec := { name := "fnRunGlobal", fn := fun _ => fun
  | [d] => { results := [.lit (.bool false)], args := [d] }
  | _ => none }
def FnRunGlobalWrongFalsely : Prop := fnRunGlobalRow.holds Try.pinned (OpenSpec.ofChange fnRunGlobalWrong)

/-- 'laws.FnGlobalOne': WHATEVER THE INPUT: true; the input reads as it did. -/
def fnGlobalOneSpec : ChangeSpec := { name := "fnGlobalOne", fn := fun _ => fun
  | [d] => { results := [.lit (.bool true)], args := [d] }
  | _ => none }
def fnGlobalOneRow : OpenClaim := { program := "ytjiajgojdlgbpaa", sum := "0c093d5dcd6c181f53a1ddf4a80bdda481305fe5ce8952ace56e164fdaf53312", func := "loop.example/deadlinescheduler/laws.FnGlobalOne", spec := "fnGlobalOne", unfollowed := true, recurses := true, apart := false }
def FnGlobalOneSaid : Prop := fnGlobalOneRow.holds Try.pinned (OpenSpec.ofChange fnGlobalOneSpec)

/-- ITS FALSE NEIGHBOUR: 'it returns false'. Refute it at one input. -/
def fnGlobalOneWrong : ChangeSpec := { name := "fnGlobalOne", fn := fun _ => fun
  | [d] => { results := [.lit (.bool false)], args := [d] }
  | _ => none }
def FnGlobalOneWrongFalsely : Prop := fnGlobalOneRow.holds Try.pinned (OpenSpec.ofChange fnGlobalOneWrong)

/-- 'laws.FnServerIdle': WHATEVER THE INPUT: true; the input reads as it did. -/
def fnServerIdleSpec : ChangeSpec := { name := "fnServerIdle", fn := fun _ => fun
  | [d] => { results := [.lit (.bool true)], args := [d] }
  | _ => none }
def fnServerIdleRow : OpenClaim := { program := "ytjiajgojdlgbpaa", sum := "0c093d5dcd6c181f53a1ddf4a80bdda481305fe5ce8952ace56e164fdaf53312", func := "loop.example/deadlinescheduler/laws.FnServerIdle", spec := "fnServerIdle", unfollowed := true, recurses := true, apart := false }
def FnServerIdleSaid : Prop := fnServerIdleRow.holds Try.pinned (OpenSpec.ofChange fnServerIdleSpec)

/-- ITS FALSE NEIGHBOUR: 'it returns false'. Refute it at one input. -/
def fnServerIdleWrong : ChangeSpec := { name := "fnServerIdle", fn := fun _ => fun
  | [d] => { results := [.lit (.bool false)], args := [d] }
  | _ => none }
def FnServerIdleWrongFalsely : Prop := fnServerIdleRow.holds Try.pinned (OpenSpec.ofChange fnServerIdleWrong)

/-- 'laws.FnServerOrder': WHATEVER THE INPUT: true; the input reads as it did. -/
def fnServerOrderSpec : ChangeSpec := { name := "fnServerOrder", fn := fun _ => fun
  | [d] => { results := [.lit (.bool true)], args := [d] }
  | _ => none }
def fnServerOrderRow : OpenClaim := { program := "ytjiajgojdlgbpaa", sum := "0c093d5dcd6c181f53a1ddf4a80bdda481305fe5ce8952ace56e164fdaf53312", func := "loop.example/deadlinescheduler/laws.FnServerOrder", spec := "fnServerOrder", unfollowed := true, recurses := true, apart := false }
def FnServerOrderSaid : Prop := fnServerOrderRow.holds Try.pinned (OpenSpec.ofChange fnServerOrderSpec)

/-- ITS FALSE NEIGHBOUR: 'it returns false'. Refute it at one input. -/
def fnServerOrderWrong : ChangeSpec := { name := "fnServerOrder", fn := fun _ => fun
  | [d] => { results := [.lit (.bool false)], args := [d] }
  | _ => none }
def FnServerOrderWrongFalsely : Prop := fnServerOrderRow.holds Try.pinned (OpenSpec.ofChange fnServerOrderWrong)

/-- 'laws.FnGlobalMore': WHATEVER THE INPUT: true; the input reads as it did. -/
def fnGlobalMoreSpec : ChangeSpec := { name := "fnGlobalMore", fn := fun _ => fun
  | [d] => { results := [.lit (.bool true)], args := [d] }
  | _ => none }
def fnGlobalMoreRow : OpenClaim := { program := "ytjiajgojdlgbpaa", sum := "0c093d5dcd6c181f53a1ddf4a80bdda481305fe5ce8952ace56e164fdaf53312", func := "loop.example/deadlinescheduler/laws.FnGlobalMore", spec := "fnGlobalMore", unfollowed := true, recurses := true, apart := false }
def FnGlobalMoreSaid : Prop := fnGlobalMoreRow.holds Try.pinned (OpenSpec.ofChange fnGlobalMoreSpec)

/-- ITS FALSE NEIGHBOUR: 'it returns false'. Refute it at one input. -/
def fnGlobalMoreWrong : ChangeSpec := { name := "fnGlobalMore", fn := fun _ => fun
  | [d] => { results := [.lit (.bool false)], args := [d] }
  | _ => none }
def FnGlobalMoreWrongFalsely : Prop := fnGlobalMoreRow.holds Try.pinned (OpenSpec.ofChange fnGlobalMoreWrong)

/-- 'laws.FnGlobalSafe': WHATEVER THE INPUT: true; the input reads as it did. -/
def fnGlobalSafeSpec : ChangeSpec := { name := "fnGlobalSafe", fn := fun _ => fun
  | [d] => { results := [.lit (.bool true)], args := [d] }
  | _ => none }
def fnGlobalSafeRow : OpenClaim := { program := "ytjiajgojdlgbpaa", sum := "0c093d5dcd6c181f53a1ddf4a80bdda481305fe5ce8952ace56e164fdaf53312", func := "loop.example/deadlinescheduler/laws.FnGlobalSafe", spec := "fnGlobalSafe", unfollowed := true, recurses := true, apart := false }
def FnGlobalSafeSaid : Prop := fnGlobalSafeRow.holds Try.pinned (OpenSpec.ofChange fnGlobalSafeSpec)

/-- ITS FALSE NEIGHBOUR: 'it returns false'. Refute it at one input. -/
def fnGlobalSafeWrong : ChangeSpec := { name := "fnGlobalSafe", fn := fun _ => fun
  | [d] => { results := [.lit (.bool false)], args := [d] }
  | _ => none }
def FnGlobalSafeWrongFalsely : Prop := fnGlobalSafeRow.holds Try.pinned (OpenSpec.ofChange fnGlobalSafeWrong)

/-- 'laws.FnServerIsolation': WHATEVER THE INPUT: true; the input reads as it did. -/
def fnServerIsolationSpec : ChangeSpec := { name := "fnServerIsolation", fn := fun _ => fun
  | [d] => { results := [.lit (.bool true)], args := [d] }
  | _ => none }
def fnServerIsolationRow : OpenClaim := { program := "ytjiajgojdlgbpaa", sum := "0c093d5dcd6c181f53a1ddf4a80bdda481305fe5ce8952ace56e164fdaf53312", func := "loop.example/deadlinescheduler/laws.FnServerIsolation", spec := "fnServerIsolation", unfollowed := true, recurses := true, apart := false }
def FnServerIsolationSaid : Prop := fnServerIsolationRow.holds Try.pinned (OpenSpec.ofChange fnServerIsolationSpec)

/-- ITS FALSE NEIGHBOUR: 'it returns false'. Refute it at one input. -/
def fnServerIsolationWrong : ChangeSpec := { name := "fnServerIsolation", fn := fun _ => fun
  | [d] => { results := [.lit (.bool false)], args := [d] }
  | _ => none }
def FnServerIsolationWrongFalsely : Prop := fnServerIsolationRow.holds Try.pinned (OpenSpec.ofChange fnServerIsolationWrong)

/- THE SECOND FORM. 'bulk': how many values and letters a reading holds, each counted each time it is reached (what is shared counts as often as it is met; a slice's spare places count too). A statement '..UptoSaid' is the law's where the arguments, and the package variables that the reading takes, are together of bulk at most 1048576: NARROWER than '..Said'. Prove '..Said' where nothing that the law and all that it calls make is longer than what came in: it says more and counts as full. Else prove '..UptoSaid'. A law counts once. -/
mutual
def uptoBulk {H : Type} : DataW H → Nat
  | .lit (.string bytes) => bytes.length + 1
  | .lit _ => 1
  | .nil => 1
  | .ptr d => uptoBulk d + 1
  | .slice elems spare => uptoBulkAll elems + uptoBulkAll spare + 1
  | .agg parts => uptoBulkAll parts + 1
  | .iface _ d => uptoBulk d + 1
  | .map entries => uptoBulkEntries entries + 1
  | .held _ => 1
def uptoBulkAll {H : Type} : List (DataW H) → Nat
  | [] => 0
  | d :: r => uptoBulk d + uptoBulkAll r
def uptoBulkEntries {H : Type} : List (Lit × DataW H) → Nat
  | [] => 0
  | x :: r => uptoBulkEntry x + uptoBulkEntries r
def uptoBulkEntry {H : Type} : Lit × DataW H → Nat
  | (.string bytes, d) => bytes.length + uptoBulk d + 1
  | (_, d) => uptoBulk d + 1
 end
def uptoSmall : (H : Type) → List (DataW H) → Bool := fun _ ds => decide (uptoBulkAll ds ≤ 1048576)
def OpenSpec.upto (s : _root_.Go.ChangeSpec) : _root_.Go.OpenSpec := { _root_.Go.OpenSpec.ofChange s with cond := some uptoSmall }

/-- 'laws.FnTable', WHERE WHAT IT READS IS OF BULK AT MOST 1048576: true; the input reads as it did. -/
def fnTableUptoRow : OpenClaim := { program := "ytjiajgojdlgbpaa", sum := "0c093d5dcd6c181f53a1ddf4a80bdda481305fe5ce8952ace56e164fdaf53312", func := "loop.example/deadlinescheduler/laws.FnTable", spec := "fnTable", unfollowed := true, recurses := true, apart := false, narrowed := true }
def FnTableUptoSaid : Prop := fnTableUptoRow.holds Try.pinned (OpenSpec.upto fnTableSpec)

/-- 'laws.FnWcetTight', WHERE WHAT IT READS IS OF BULK AT MOST 1048576: true; the input reads as it did. -/
def fnWcetTightUptoRow : OpenClaim := { program := "ytjiajgojdlgbpaa", sum := "0c093d5dcd6c181f53a1ddf4a80bdda481305fe5ce8952ace56e164fdaf53312", func := "loop.example/deadlinescheduler/laws.FnWcetTight", spec := "fnWcetTight", unfollowed := true, recurses := true, apart := false, narrowed := true }
def FnWcetTightUptoSaid : Prop := fnWcetTightUptoRow.holds Try.pinned (OpenSpec.upto fnWcetTightSpec)

/-- 'laws.FnTableEdf', WHERE WHAT IT READS IS OF BULK AT MOST 1048576: true; the input reads as it did. -/
def fnTableEdfUptoRow : OpenClaim := { program := "ytjiajgojdlgbpaa", sum := "0c093d5dcd6c181f53a1ddf4a80bdda481305fe5ce8952ace56e164fdaf53312", func := "loop.example/deadlinescheduler/laws.FnTableEdf", spec := "fnTableEdf", unfollowed := true, recurses := true, apart := false, narrowed := true }
def FnTableEdfUptoSaid : Prop := fnTableEdfUptoRow.holds Try.pinned (OpenSpec.upto fnTableEdfSpec)

/-- 'laws.FnServerShare', WHERE WHAT IT READS IS OF BULK AT MOST 1048576: true; the input reads as it did. -/
def fnServerShareUptoRow : OpenClaim := { program := "ytjiajgojdlgbpaa", sum := "0c093d5dcd6c181f53a1ddf4a80bdda481305fe5ce8952ace56e164fdaf53312", func := "loop.example/deadlinescheduler/laws.FnServerShare", spec := "fnServerShare", unfollowed := true, recurses := true, apart := false, narrowed := true }
def FnServerShareUptoSaid : Prop := fnServerShareUptoRow.holds Try.pinned (OpenSpec.upto fnServerShareSpec)

/-- 'laws.FnMonotonic', WHERE WHAT IT READS IS OF BULK AT MOST 1048576: true; the input reads as it did. -/
def fnMonotonicUptoRow : OpenClaim := { program := "ytjiajgojdlgbpaa", sum := "0c093d5dcd6c181f53a1ddf4a80bdda481305fe5ce8952ace56e164fdaf53312", func := "loop.example/deadlinescheduler/laws.FnMonotonic", spec := "fnMonotonic", unfollowed := true, recurses := true, apart := false, narrowed := true }
def FnMonotonicUptoSaid : Prop := fnMonotonicUptoRow.holds Try.pinned (OpenSpec.upto fnMonotonicSpec)

/-- 'laws.FnRunGlobal', WHERE WHAT IT READS IS OF BULK AT MOST 1048576: true; the input reads as it did. -/
def fnRunGlobalUptoRow : OpenClaim := { program := "ytjiajgojdlgbpaa", sum := "0c093d5dcd6c181f53a1ddf4a80bdda481305fe5ce8952ace56e164fdaf53312", func := "loop.example/deadlinescheduler/laws.FnRunGlobal", spec := "fnRunGlobal", unfollowed := true, recurses := true, apart := false, narrowed := true }
def FnRunGlobalUptoSaid : Prop := fnRunGlobalUptoRow.holds Try.pinned (OpenSpec.upto fnRunGlobalSpec)

/-- 'laws.FnGlobalOne', WHERE WHAT IT READS IS OF BULK AT MOST 1048576: true; the input reads as it did. -/
def fnGlobalOneUptoRow : OpenClaim := { program := "ytjiajgojdlgbpaa", sum := "0c093d5dcd6c181f53a1ddf4a80bdda481305fe5ce8952ace56e164fdaf53312", func := "loop.example/deadlinescheduler/laws.FnGlobalOne", spec := "fnGlobalOne", unfollowed := true, recurses := true, apart := false, narrowed := true }
def FnGlobalOneUptoSaid : Prop := fnGlobalOneUptoRow.holds Try.pinned (OpenSpec.upto fnGlobalOneSpec)

/-- 'laws.FnServerIdle', WHERE WHAT IT READS IS OF BULK AT MOST 1048576: true; the input reads as it did. -/
def fnServerIdleUptoRow : OpenClaim := { program := "ytjiajgojdlgbpaa", sum := "0c093d5dcd6c181f53a1ddf4a80bdda481305fe5ce8952ace56e164fdaf53312", func := "loop.example/deadlinescheduler/laws.FnServerIdle", spec := "fnServerIdle", unfollowed := true, recurses := true, apart := false, narrowed := true }
def FnServerIdleUptoSaid : Prop := fnServerIdleUptoRow.holds Try.pinned (OpenSpec.upto fnServerIdleSpec)

/-- 'laws.FnServerOrder', WHERE WHAT IT READS IS OF BULK AT MOST 1048576: true; the input reads as it did. -/
def fnServerOrderUptoRow : OpenClaim := { program := "ytjiajgojdlgbpaa", sum := "0c093d5dcd6c181f53a1ddf4a80bdda481305fe5ce8952ace56e164fdaf53312", func := "loop.example/deadlinescheduler/laws.FnServerOrder", spec := "fnServerOrder", unfollowed := true, recurses := true, apart := false, narrowed := true }
def FnServerOrderUptoSaid : Prop := fnServerOrderUptoRow.holds Try.pinned (OpenSpec.upto fnServerOrderSpec)

/-- 'laws.FnGlobalMore', WHERE WHAT IT READS IS OF BULK AT MOST 1048576: true; the input reads as it did. -/
def fnGlobalMoreUptoRow : OpenClaim := { program := "ytjiajgojdlgbpaa", sum := "0c093d5dcd6c181f53a1ddf4a80bdda481305fe5ce8952ace56e164fdaf53312", func := "loop.example/deadlinescheduler/laws.FnGlobalMore", spec := "fnGlobalMore", unfollowed := true, recurses := true, apart := false, narrowed := true }
def FnGlobalMoreUptoSaid : Prop := fnGlobalMoreUptoRow.holds Try.pinned (OpenSpec.upto fnGlobalMoreSpec)

/-- 'laws.FnGlobalSafe', WHERE WHAT IT READS IS OF BULK AT MOST 1048576: true; the input reads as it did. -/
def fnGlobalSafeUptoRow : OpenClaim := { program := "ytjiajgojdlgbpaa", sum := "0c093d5dcd6c181f53a1ddf4a80bdda481305fe5ce8952ace56e164fdaf53312", func := "loop.example/deadlinescheduler/laws.FnGlobalSafe", spec := "fnGlobalSafe", unfollowed := true, recurses := true, apart := false, narrowed := true }
def FnGlobalSafeUptoSaid : Prop := fnGlobalSafeUptoRow.holds Try.pinned (OpenSpec.upto fnGlobalSafeSpec)

/-- 'laws.FnServerIsolation', WHERE WHAT IT READS IS OF BULK AT MOST 1048576: true; the input reads as it did. -/
def fnServerIsolationUptoRow : OpenClaim := { program := "ytjiajgojdlgbpaa", sum := "0c093d5dcd6c181f53a1ddf4a80bdda481305fe5ce8952ace56e164fdaf53312", func := "loop.example/deadlinescheduler/laws.FnServerIsolation", spec := "fnServerIsolation", unfollowed := true, recurses := true, apart := false, narrowed := true }
def FnServerIsolationUptoSaid : Prop := fnServerIsolationUptoRow.holds Try.pinned (OpenSpec.upto fnServerIsolationSpec)

end Rows
end Go.Proofs.Ytjiajgojdlgbpaa
