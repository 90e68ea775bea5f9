/-
  No cell of these rows narrows 'for every input' (looked for: loops, veiled, ifaces, maps, wideKeys, modest, calm, conditions, laid).
  DERIVED. THE GIVEN ROWS OF THIS SEAT. 8 by the template 'for every input the law returns true; each argument reads behind the call as it read before'; 0 by the template 'total and deterministic' (their statements: YteonfoaemljndaaTotals.lean).
  GIVEN WITH THE SEED: the statements are not yours to turn. If you find one false, say at which input.
  Laid BY PROGRAM, IN A SANDBOX (cutbox-rows.mjs): the forced cells as the released guide's own fill.sh prints them over the translation be50e2d21718f372… (all of the seat's roots in one cut). By AI agents, Wed Nov 11 2026. No macro, syntax, notation, axiom, sorry.
-/
import Derived.Test.YteonfoaemljndaaChecked
import GoSem.Claim
import GoSem.ClaimJoined
import GoSem.ClaimMapViews
import Derived.JoinedTies
import Derived.KernelRfl
namespace Go.Proofs.Yteonfoaemljndaa
/- THE CELL 'sum', in the pinned program and in every row, IS THE sha256 OF THE DUMP (.gsa) THAT YteonfoaemljndaaProg.lean LOADS. Nothing in Lean hashes anything: it is a label: what it is worth is what the hold of that sum in a sandbox is worth. -/
noncomputable def Try.pinned : Pinned := { name := "yteonfoaemljndaa", sum := "be50e2d21718f372fd3f858e5a325c1d699152d46cc3755dc88a718edb8abb42", checked := Try.checked }
namespace Rows
def none {H : Type} : Left H := { results := [], args := [] }

/-- 'tidegatelaw46.ChannelSends': WHATEVER THE INPUT: true; the input reads as it did. -/
def channelSendsSpec : ChangeSpec := { name := "channelSends", fn := fun _ => fun
  | [d1, d2, d3] => { results := [.lit (.bool true)], args := [d1, d2, d3] }
  | _ => none }
def channelSendsRow : OpenClaim := { program := "yteonfoaemljndaa", sum := "be50e2d21718f372fd3f858e5a325c1d699152d46cc3755dc88a718edb8abb42", func := "tidegate/tidegatelaw46.ChannelSends", spec := "channelSends", unfollowed := true, recurses := true, apart := false }
def ChannelSendsSaid : Prop := channelSendsRow.holds Try.pinned (OpenSpec.ofChange channelSendsSpec)

/-- ITS FALSE NEIGHBOUR: 'it returns false'. Refute it at one input. -/
def channelSendsWrong : ChangeSpec := { name := "channelSends", fn := fun _ => fun
  | [d1, d2, d3] => { results := [.lit (.bool false)], args := [d1, d2, d3] }
  | _ => none }
def ChannelSendsWrongFalsely : Prop := channelSendsRow.holds Try.pinned (OpenSpec.ofChange channelSendsWrong)

/-- 'tidegatelaw46.ChannelBroadcasts': WHATEVER THE INPUT: true; the input reads as it did. -/
def channelBroadcastsSpec : ChangeSpec := { name := "channelBroadcasts", fn := fun _ => fun
  | [d1, d2, d3] => { results := [.lit (.bool true)], args := [d1, d2, d3] }
  | _ => none }
def channelBroadcastsRow : OpenClaim := { program := "yteonfoaemljndaa", sum := "be50e2d21718f372fd3f858e5a325c1d699152d46cc3755dc88a718edb8abb42", func := "tidegate/tidegatelaw46.ChannelBroadcasts", spec := "channelBroadcasts", unfollowed := true, recurses := true, apart := false }
def ChannelBroadcastsSaid : Prop := channelBroadcastsRow.holds Try.pinned (OpenSpec.ofChange channelBroadcastsSpec)

/-- ITS FALSE NEIGHBOUR: 'it returns false'. Refute it at one input. -/
def channelBroadcastsWrong : ChangeSpec := { name := "channelBroadcasts", fn := fun _ => fun
  | [d1, d2, d3] => { results := [.lit (.bool false)], args := [d1, d2, d3] }
  | _ => none }
def ChannelBroadcastsWrongFalsely : Prop := channelBroadcastsRow.holds Try.pinned (OpenSpec.ofChange channelBroadcastsWrong)

/-- 'tidegatelaw46.ChannelBegins': WHATEVER THE INPUT: true; the input reads as it did. -/
def channelBeginsSpec : ChangeSpec := { name := "channelBegins", fn := fun _ => fun
  | [d1, d2] => { results := [.lit (.bool true)], args := [d1, d2] }
  | _ => none }
def channelBeginsRow : OpenClaim := { program := "yteonfoaemljndaa", sum := "be50e2d21718f372fd3f858e5a325c1d699152d46cc3755dc88a718edb8abb42", func := "tidegate/tidegatelaw46.ChannelBegins", spec := "channelBegins", unfollowed := true, recurses := true, apart := false }
def ChannelBeginsSaid : Prop := channelBeginsRow.holds Try.pinned (OpenSpec.ofChange channelBeginsSpec)

/-- ITS FALSE NEIGHBOUR: 'it returns false'. Refute it at one input. -/
def channelBeginsWrong : ChangeSpec := { name := "channelBegins", fn := fun _ => fun
  | [d1, d2] => { results := [.lit (.bool false)], args := [d1, d2] }
  | _ => none }
def ChannelBeginsWrongFalsely : Prop := channelBeginsRow.holds Try.pinned (OpenSpec.ofChange channelBeginsWrong)

/-- 'tidegatelaw46.ChannelReceives': WHATEVER THE INPUT: true; the input reads as it did. -/
def channelReceivesSpec : ChangeSpec := { name := "channelReceives", fn := fun _ => fun
  | [d1, d2, d3] => { results := [.lit (.bool true)], args := [d1, d2, d3] }
  | _ => none }
def channelReceivesRow : OpenClaim := { program := "yteonfoaemljndaa", sum := "be50e2d21718f372fd3f858e5a325c1d699152d46cc3755dc88a718edb8abb42", func := "tidegate/tidegatelaw46.ChannelReceives", spec := "channelReceives", unfollowed := true, recurses := true, apart := false }
def ChannelReceivesSaid : Prop := channelReceivesRow.holds Try.pinned (OpenSpec.ofChange channelReceivesSpec)

/-- ITS FALSE NEIGHBOUR: 'it returns false'. Refute it at one input. -/
def channelReceivesWrong : ChangeSpec := { name := "channelReceives", fn := fun _ => fun
  | [d1, d2, d3] => { results := [.lit (.bool false)], args := [d1, d2, d3] }
  | _ => none }
def ChannelReceivesWrongFalsely : Prop := channelReceivesRow.holds Try.pinned (OpenSpec.ofChange channelReceivesWrong)

/-- 'tidegatelaw46.ChannelLooks': WHATEVER THE INPUT: true; the input reads as it did. -/
def channelLooksSpec : ChangeSpec := { name := "channelLooks", fn := fun _ => fun
  | [d1, d2, d3] => { results := [.lit (.bool true)], args := [d1, d2, d3] }
  | _ => none }
def channelLooksRow : OpenClaim := { program := "yteonfoaemljndaa", sum := "be50e2d21718f372fd3f858e5a325c1d699152d46cc3755dc88a718edb8abb42", func := "tidegate/tidegatelaw46.ChannelLooks", spec := "channelLooks", unfollowed := true, recurses := true, apart := false }
def ChannelLooksSaid : Prop := channelLooksRow.holds Try.pinned (OpenSpec.ofChange channelLooksSpec)

/-- ITS FALSE NEIGHBOUR: 'it returns false'. Refute it at one input. -/
def channelLooksWrong : ChangeSpec := { name := "channelLooks", fn := fun _ => fun
  | [d1, d2, d3] => { results := [.lit (.bool false)], args := [d1, d2, d3] }
  | _ => none }
def ChannelLooksWrongFalsely : Prop := channelLooksRow.holds Try.pinned (OpenSpec.ofChange channelLooksWrong)

/-- 'tidegatelaw46.ChannelOrders': WHATEVER THE INPUT: true; the input reads as it did. -/
def channelOrdersSpec : ChangeSpec := { name := "channelOrders", fn := fun _ => fun
  | [d1, d2] => { results := [.lit (.bool true)], args := [d1, d2] }
  | _ => none }
def channelOrdersRow : OpenClaim := { program := "yteonfoaemljndaa", sum := "be50e2d21718f372fd3f858e5a325c1d699152d46cc3755dc88a718edb8abb42", func := "tidegate/tidegatelaw46.ChannelOrders", spec := "channelOrders", unfollowed := true, recurses := true, apart := false }
def ChannelOrdersSaid : Prop := channelOrdersRow.holds Try.pinned (OpenSpec.ofChange channelOrdersSpec)

/-- ITS FALSE NEIGHBOUR: 'it returns false'. Refute it at one input. -/
def channelOrdersWrong : ChangeSpec := { name := "channelOrders", fn := fun _ => fun
  | [d1, d2] => { results := [.lit (.bool false)], args := [d1, d2] }
  | _ => none }
def ChannelOrdersWrongFalsely : Prop := channelOrdersRow.holds Try.pinned (OpenSpec.ofChange channelOrdersWrong)

/-- 'tidegatelaw46.ChannelJoins': WHATEVER THE INPUT: true; the input reads as it did. -/
def channelJoinsSpec : ChangeSpec := { name := "channelJoins", fn := fun _ => fun
  | [d1, d2, d3] => { results := [.lit (.bool true)], args := [d1, d2, d3] }
  | _ => none }
def channelJoinsRow : OpenClaim := { program := "yteonfoaemljndaa", sum := "be50e2d21718f372fd3f858e5a325c1d699152d46cc3755dc88a718edb8abb42", func := "tidegate/tidegatelaw46.ChannelJoins", spec := "channelJoins", unfollowed := true, recurses := true, apart := false }
def ChannelJoinsSaid : Prop := channelJoinsRow.holds Try.pinned (OpenSpec.ofChange channelJoinsSpec)

/-- ITS FALSE NEIGHBOUR: 'it returns false'. Refute it at one input. -/
def channelJoinsWrong : ChangeSpec := { name := "channelJoins", fn := fun _ => fun
  | [d1, d2, d3] => { results := [.lit (.bool false)], args := [d1, d2, d3] }
  | _ => none }
def ChannelJoinsWrongFalsely : Prop := channelJoinsRow.holds Try.pinned (OpenSpec.ofChange channelJoinsWrong)

/-- 'tidegatelaw46.ChannelDrains': WHATEVER THE INPUT: true; the input reads as it did. -/
def channelDrainsSpec : ChangeSpec := { name := "channelDrains", fn := fun _ => fun
  | [d1, d2, d3] => { results := [.lit (.bool true)], args := [d1, d2, d3] }
  | _ => none }
def channelDrainsRow : OpenClaim := { program := "yteonfoaemljndaa", sum := "be50e2d21718f372fd3f858e5a325c1d699152d46cc3755dc88a718edb8abb42", func := "tidegate/tidegatelaw46.ChannelDrains", spec := "channelDrains", unfollowed := true, recurses := true, apart := false }
def ChannelDrainsSaid : Prop := channelDrainsRow.holds Try.pinned (OpenSpec.ofChange channelDrainsSpec)

/-- ITS FALSE NEIGHBOUR: 'it returns false'. Refute it at one input. -/
def channelDrainsWrong : ChangeSpec := { name := "channelDrains", fn := fun _ => fun
  | [d1, d2, d3] => { results := [.lit (.bool false)], args := [d1, d2, d3] }
  | _ => none }
def ChannelDrainsWrongFalsely : Prop := channelDrainsRow.holds Try.pinned (OpenSpec.ofChange channelDrainsWrong)

/- THE SECOND FORM. 'bulk': how many values and letters a reading holds, each counted each time it is reached (what is shared counts as often as it is met; a slice's spare places count too). A statement '..UptoSaid' is the law's where the arguments, and the package variables that the reading takes, are together of bulk at most 1048576: NARROWER than '..Said'. Prove '..Said' where nothing that the law and all that it calls make is longer than what came in: it says more and counts as full. Else prove '..UptoSaid'. A law counts once. -/
mutual
def uptoBulk {H : Type} : DataW H → Nat
  | .lit (.string bytes) => bytes.length + 1
  | .lit _ => 1
  | .nil => 1
  | .ptr d => uptoBulk d + 1
  | .slice elems spare => uptoBulkAll elems + uptoBulkAll spare + 1
  | .agg parts => uptoBulkAll parts + 1
  | .iface _ d => uptoBulk d + 1
  | .map entries => uptoBulkEntries entries + 1
  | .held _ => 1
def uptoBulkAll {H : Type} : List (DataW H) → Nat
  | [] => 0
  | d :: r => uptoBulk d + uptoBulkAll r
def uptoBulkEntries {H : Type} : List (Lit × DataW H) → Nat
  | [] => 0
  | x :: r => uptoBulkEntry x + uptoBulkEntries r
def uptoBulkEntry {H : Type} : Lit × DataW H → Nat
  | (.string bytes, d) => bytes.length + uptoBulk d + 1
  | (_, d) => uptoBulk d + 1
 end
def uptoSmall : (H : Type) → List (DataW H) → Bool := fun _ ds => decide (uptoBulkAll ds ≤ 1048576)
def OpenSpec.upto (s : _root_.Go.ChangeSpec) : _root_.Go.OpenSpec := { _root_.Go.OpenSpec.ofChange s with cond := some uptoSmall }

/-- 'tidegatelaw46.ChannelSends', WHERE WHAT IT READS IS OF BULK AT MOST 1048576: true; the input reads as it did. -/
def channelSendsUptoRow : OpenClaim := { program := "yteonfoaemljndaa", sum := "be50e2d21718f372fd3f858e5a325c1d699152d46cc3755dc88a718edb8abb42", func := "tidegate/tidegatelaw46.ChannelSends", spec := "channelSends", unfollowed := true, recurses := true, apart := false, narrowed := true }
def ChannelSendsUptoSaid : Prop := channelSendsUptoRow.holds Try.pinned (OpenSpec.upto channelSendsSpec)

/-- 'tidegatelaw46.ChannelBroadcasts', WHERE WHAT IT READS IS OF BULK AT MOST 1048576: true; the input reads as it did. -/
def channelBroadcastsUptoRow : OpenClaim := { program := "yteonfoaemljndaa", sum := "be50e2d21718f372fd3f858e5a325c1d699152d46cc3755dc88a718edb8abb42", func := "tidegate/tidegatelaw46.ChannelBroadcasts", spec := "channelBroadcasts", unfollowed := true, recurses := true, apart := false, narrowed := true }
def ChannelBroadcastsUptoSaid : Prop := channelBroadcastsUptoRow.holds Try.pinned (OpenSpec.upto channelBroadcastsSpec)

/-- 'tidegatelaw46.ChannelBegins', WHERE WHAT IT READS IS OF BULK AT MOST 1048576: true; the input reads as it did. -/
def channelBeginsUptoRow : OpenClaim := { program := "yteonfoaemljndaa", sum := "be50e2d21718f372fd3f858e5a325c1d699152d46cc3755dc88a718edb8abb42", func := "tidegate/tidegatelaw46.ChannelBegins", spec := "channelBegins", unfollowed := true, recurses := true, apart := false, narrowed := true }
def ChannelBeginsUptoSaid : Prop := channelBeginsUptoRow.holds Try.pinned (OpenSpec.upto channelBeginsSpec)

/-- 'tidegatelaw46.ChannelReceives', WHERE WHAT IT READS IS OF BULK AT MOST 1048576: true; the input reads as it did. -/
def channelReceivesUptoRow : OpenClaim := { program := "yteonfoaemljndaa", sum := "be50e2d21718f372fd3f858e5a325c1d699152d46cc3755dc88a718edb8abb42", func := "tidegate/tidegatelaw46.ChannelReceives", spec := "channelReceives", unfollowed := true, recurses := true, apart := false, narrowed := true }
def ChannelReceivesUptoSaid : Prop := channelReceivesUptoRow.holds Try.pinned (OpenSpec.upto channelReceivesSpec)

/-- 'tidegatelaw46.ChannelLooks', WHERE WHAT IT READS IS OF BULK AT MOST 1048576: true; the input reads as it did. -/
def channelLooksUptoRow : OpenClaim := { program := "yteonfoaemljndaa", sum := "be50e2d21718f372fd3f858e5a325c1d699152d46cc3755dc88a718edb8abb42", func := "tidegate/tidegatelaw46.ChannelLooks", spec := "channelLooks", unfollowed := true, recurses := true, apart := false, narrowed := true }
def ChannelLooksUptoSaid : Prop := channelLooksUptoRow.holds Try.pinned (OpenSpec.upto channelLooksSpec)

/-- 'tidegatelaw46.ChannelOrders', WHERE WHAT IT READS IS OF BULK AT MOST 1048576: true; the input reads as it did. -/
def channelOrdersUptoRow : OpenClaim := { program := "yteonfoaemljndaa", sum := "be50e2d21718f372fd3f858e5a325c1d699152d46cc3755dc88a718edb8abb42", func := "tidegate/tidegatelaw46.ChannelOrders", spec := "channelOrders", unfollowed := true, recurses := true, apart := false, narrowed := true }
def ChannelOrdersUptoSaid : Prop := channelOrdersUptoRow.holds Try.pinned (OpenSpec.upto channelOrdersSpec)

/-- 'tidegatelaw46.ChannelJoins', WHERE WHAT IT READS IS OF BULK AT MOST 1048576: true; the input reads as it did. -/
def channelJoinsUptoRow : OpenClaim := { program := "yteonfoaemljndaa", sum := "be50e2d21718f372fd3f858e5a325c1d699152d46cc3755dc88a718edb8abb42", func := "tidegate/tidegatelaw46.ChannelJoins", spec := "channelJoins", unfollowed := true, recurses := true, apart := false, narrowed := true }
def ChannelJoinsUptoSaid : Prop := channelJoinsUptoRow.holds Try.pinned (OpenSpec.upto channelJoinsSpec)

/-- 'tidegatelaw46.ChannelDrains', WHERE WHAT IT READS IS OF BULK AT MOST 1048576: true; the input reads as it did. -/
def channelDrainsUptoRow : OpenClaim := { program := "yteonfoaemljndaa", sum := "be50e2d21718f372fd3f858e5a325c1d699152d46cc3755dc88a718edb8abb42", func := "tidegate/tidegatelaw46.ChannelDrains", spec := "channelDrains", unfollowed := true, recurses := true, apart := false, narrowed := true }
def ChannelDrainsUptoSaid : Prop := channelDrainsUptoRow.holds Try.pinned (OpenSpec.upto channelDrainsSpec)

end Rows
end Go.Proofs.Yteonfoaemljndaa
