/-
  No cell of these rows narrows 'for every input' (looked for: loops, veiled, ifaces, maps, wideKeys, modest, calm, conditions, laid).
  DERIVED. THE GIVEN ROWS OF THIS SEAT. 15 by the template 'for every input the law returns true; each argument reads behind the call as it read before'; 0 by the template 'total and deterministic' (their statements: YtdknjfmjddlphaaTotals.lean).
  GIVEN WITH THE SEED: the statements are not yours to turn. If you find one false, say at which input.
  Laid BY PROGRAM, IN A SANDBOX (cutbox-rows.mjs): the forced cells as the released guide's own fill.sh prints them over the translation 485772a45cd7927e… (all of the seat's roots in one cut). By AI agents, Wed Nov 11 2026. No macro, syntax, notation, axiom, sorry.
-/
import Derived.Test.YtdknjfmjddlphaaChecked
import GoSem.Claim
import GoSem.ClaimJoined
import GoSem.ClaimMapViews
import Derived.JoinedTies
import Derived.KernelRfl
namespace Go.Proofs.Ytdknjfmjddlphaa
/- THE CELL 'sum', in the pinned program and in every row, IS THE sha256 OF THE DUMP (.gsa) THAT YtdknjfmjddlphaaProg.lean LOADS. Nothing in Lean hashes anything: it is a label: what it is worth is what the hold of that sum in a sandbox is worth. -/
noncomputable def Try.pinned : Pinned := { name := "ytdknjfmjddlphaa", sum := "485772a45cd7927e6015c7cb9bb29af322803ff78e909cf1fcbc88fe7e88723f", checked := Try.checked }
namespace Rows
def none {H : Type} : Left H := { results := [], args := [] }

/-- 'forkledgerlaw12.AcceptClosed': WHATEVER THE INPUT: true; the input reads as it did. -/
def acceptClosedSpec : ChangeSpec := { name := "acceptClosed", fn := fun _ => fun
  | [d1, d2, d3] => { results := [.lit (.bool true)], args := [d1, d2, d3] }
  | _ => none }
def acceptClosedRow : OpenClaim := { program := "ytdknjfmjddlphaa", sum := "485772a45cd7927e6015c7cb9bb29af322803ff78e909cf1fcbc88fe7e88723f", func := "forkledger/forkledgerlaw12.AcceptClosed", spec := "acceptClosed", inPlace := ["internal/reflectlite.ValueOf", "internal/reflectlite.Swapper", "(internal/reflectlite.Value).Len"], unfollowed := true, recurses := true, plainKeys := false, apart := false }
def AcceptClosedSaid : Prop := acceptClosedRow.holds Try.pinned (OpenSpec.ofChange acceptClosedSpec)

/-- ITS FALSE NEIGHBOUR: 'it returns false'. Refute it at one input. -/
def acceptClosedWrong : ChangeSpec := { name := "acceptClosed", fn := fun _ => fun
  | [d1, d2, d3] => { results := [.lit (.bool false)], args := [d1, d2, d3] }
  | _ => none }
def AcceptClosedWrongFalsely : Prop := acceptClosedRow.holds Try.pinned (OpenSpec.ofChange acceptClosedWrong)

/-- 'forkledgerlaw12.AcceptLeast': WHATEVER THE INPUT: true; the input reads as it did. -/
def acceptLeastSpec : ChangeSpec := { name := "acceptLeast", fn := fun _ => fun
  | [d1, d2, d3] => { results := [.lit (.bool true)], args := [d1, d2, d3] }
  | _ => none }
def acceptLeastRow : OpenClaim := { program := "ytdknjfmjddlphaa", sum := "485772a45cd7927e6015c7cb9bb29af322803ff78e909cf1fcbc88fe7e88723f", func := "forkledger/forkledgerlaw12.AcceptLeast", spec := "acceptLeast", inPlace := ["internal/reflectlite.ValueOf", "internal/reflectlite.Swapper", "(internal/reflectlite.Value).Len"], unfollowed := true, recurses := true, plainKeys := false, apart := false }
def AcceptLeastSaid : Prop := acceptLeastRow.holds Try.pinned (OpenSpec.ofChange acceptLeastSpec)

/-- ITS FALSE NEIGHBOUR: 'it returns false'. Refute it at one input. -/
def acceptLeastWrong : ChangeSpec := { name := "acceptLeast", fn := fun _ => fun
  | [d1, d2, d3] => { results := [.lit (.bool false)], args := [d1, d2, d3] }
  | _ => none }
def AcceptLeastWrongFalsely : Prop := acceptLeastRow.holds Try.pinned (OpenSpec.ofChange acceptLeastWrong)

/-- 'forkledgerlaw12.AcceptApart': WHATEVER THE INPUT: true; the input reads as it did. -/
def acceptApartSpec : ChangeSpec := { name := "acceptApart", fn := fun _ => fun
  | [d1, d2, d3, d4] => { results := [.lit (.bool true)], args := [d1, d2, d3, d4] }
  | _ => none }
def acceptApartRow : OpenClaim := { program := "ytdknjfmjddlphaa", sum := "485772a45cd7927e6015c7cb9bb29af322803ff78e909cf1fcbc88fe7e88723f", func := "forkledger/forkledgerlaw12.AcceptApart", spec := "acceptApart", inPlace := ["internal/reflectlite.ValueOf", "internal/reflectlite.Swapper", "(internal/reflectlite.Value).Len"], unfollowed := true, recurses := true, plainKeys := false, apart := false }
def AcceptApartSaid : Prop := acceptApartRow.holds Try.pinned (OpenSpec.ofChange acceptApartSpec)

/-- ITS FALSE NEIGHBOUR: 'it returns false'. Refute it at one input. -/
def acceptApartWrong : ChangeSpec := { name := "acceptApart", fn := fun _ => fun
  | [d1, d2, d3, d4] => { results := [.lit (.bool false)], args := [d1, d2, d3, d4] }
  | _ => none }
def AcceptApartWrongFalsely : Prop := acceptApartRow.holds Try.pinned (OpenSpec.ofChange acceptApartWrong)

/-- 'forkledgerlaw15.BroadcastAccounts': WHATEVER THE INPUT: true; the input reads as it did. -/
def broadcastAccountsSpec : ChangeSpec := { name := "broadcastAccounts", fn := fun _ => fun
  | [d1, d2, d3, d4, d5] => { results := [.lit (.bool true)], args := [d1, d2, d3, d4, d5] }
  | _ => none }
def broadcastAccountsRow : OpenClaim := { program := "ytdknjfmjddlphaa", sum := "485772a45cd7927e6015c7cb9bb29af322803ff78e909cf1fcbc88fe7e88723f", func := "forkledger/forkledgerlaw15.BroadcastAccounts", spec := "broadcastAccounts", inPlace := ["internal/reflectlite.ValueOf", "internal/reflectlite.Swapper", "(internal/reflectlite.Value).Len"], unfollowed := true, recurses := true, plainKeys := false, apart := false }
def BroadcastAccountsSaid : Prop := broadcastAccountsRow.holds Try.pinned (OpenSpec.ofChange broadcastAccountsSpec)

/-- ITS FALSE NEIGHBOUR: 'it returns false'. Refute it at one input. -/
def broadcastAccountsWrong : ChangeSpec := { name := "broadcastAccounts", fn := fun _ => fun
  | [d1, d2, d3, d4, d5] => { results := [.lit (.bool false)], args := [d1, d2, d3, d4, d5] }
  | _ => none }
def BroadcastAccountsWrongFalsely : Prop := broadcastAccountsRow.holds Try.pinned (OpenSpec.ofChange broadcastAccountsWrong)

/-- 'forkledgerlaw15.BroadcastProposed': WHATEVER THE INPUT: true; the input reads as it did. -/
def broadcastProposedSpec : ChangeSpec := { name := "broadcastProposed", fn := fun _ => fun
  | [d1, d2, d3, d4] => { results := [.lit (.bool true)], args := [d1, d2, d3, d4] }
  | _ => none }
def broadcastProposedRow : OpenClaim := { program := "ytdknjfmjddlphaa", sum := "485772a45cd7927e6015c7cb9bb29af322803ff78e909cf1fcbc88fe7e88723f", func := "forkledger/forkledgerlaw15.BroadcastProposed", spec := "broadcastProposed", inPlace := ["internal/reflectlite.ValueOf", "internal/reflectlite.Swapper", "(internal/reflectlite.Value).Len"], unfollowed := true, recurses := true, plainKeys := false, apart := false }
def BroadcastProposedSaid : Prop := broadcastProposedRow.holds Try.pinned (OpenSpec.ofChange broadcastProposedSpec)

/-- ITS FALSE NEIGHBOUR: 'it returns false'. Refute it at one input. -/
def broadcastProposedWrong : ChangeSpec := { name := "broadcastProposed", fn := fun _ => fun
  | [d1, d2, d3, d4] => { results := [.lit (.bool false)], args := [d1, d2, d3, d4] }
  | _ => none }
def BroadcastProposedWrongFalsely : Prop := broadcastProposedRow.holds Try.pinned (OpenSpec.ofChange broadcastProposedWrong)

/-- 'forkledgerlaw12.AcceptGrows': WHATEVER THE INPUT: true; the input reads as it did. -/
def acceptGrowsSpec : ChangeSpec := { name := "acceptGrows", fn := fun _ => fun
  | [d1, d2, d3, d4, d5] => { results := [.lit (.bool true)], args := [d1, d2, d3, d4, d5] }
  | _ => none }
def acceptGrowsRow : OpenClaim := { program := "ytdknjfmjddlphaa", sum := "485772a45cd7927e6015c7cb9bb29af322803ff78e909cf1fcbc88fe7e88723f", func := "forkledger/forkledgerlaw12.AcceptGrows", spec := "acceptGrows", inPlace := ["internal/reflectlite.ValueOf", "internal/reflectlite.Swapper", "(internal/reflectlite.Value).Len"], unfollowed := true, recurses := true, plainKeys := false, apart := false }
def AcceptGrowsSaid : Prop := acceptGrowsRow.holds Try.pinned (OpenSpec.ofChange acceptGrowsSpec)

/-- ITS FALSE NEIGHBOUR: 'it returns false'. Refute it at one input. -/
def acceptGrowsWrong : ChangeSpec := { name := "acceptGrows", fn := fun _ => fun
  | [d1, d2, d3, d4, d5] => { results := [.lit (.bool false)], args := [d1, d2, d3, d4, d5] }
  | _ => none }
def AcceptGrowsWrongFalsely : Prop := acceptGrowsRow.holds Try.pinned (OpenSpec.ofChange acceptGrowsWrong)

/-- 'forkledgerlaw12.AcceptAccounts': WHATEVER THE INPUT: true; the input reads as it did. -/
def acceptAccountsSpec : ChangeSpec := { name := "acceptAccounts", fn := fun _ => fun
  | [d1, d2, d3, d4, d5] => { results := [.lit (.bool true)], args := [d1, d2, d3, d4, d5] }
  | _ => none }
def acceptAccountsRow : OpenClaim := { program := "ytdknjfmjddlphaa", sum := "485772a45cd7927e6015c7cb9bb29af322803ff78e909cf1fcbc88fe7e88723f", func := "forkledger/forkledgerlaw12.AcceptAccounts", spec := "acceptAccounts", inPlace := ["internal/reflectlite.ValueOf", "internal/reflectlite.Swapper", "(internal/reflectlite.Value).Len"], unfollowed := true, recurses := true, plainKeys := false, apart := false }
def AcceptAccountsSaid : Prop := acceptAccountsRow.holds Try.pinned (OpenSpec.ofChange acceptAccountsSpec)

/-- ITS FALSE NEIGHBOUR: 'it returns false'. Refute it at one input. -/
def acceptAccountsWrong : ChangeSpec := { name := "acceptAccounts", fn := fun _ => fun
  | [d1, d2, d3, d4, d5] => { results := [.lit (.bool false)], args := [d1, d2, d3, d4, d5] }
  | _ => none }
def AcceptAccountsWrongFalsely : Prop := acceptAccountsRow.holds Try.pinned (OpenSpec.ofChange acceptAccountsWrong)

/-- 'forkledgerlaw12.AcceptAgrees': WHATEVER THE INPUT: true; the input reads as it did. -/
def acceptAgreesSpec : ChangeSpec := { name := "acceptAgrees", fn := fun _ => fun
  | [d1, d2, d3, d4] => { results := [.lit (.bool true)], args := [d1, d2, d3, d4] }
  | _ => none }
def acceptAgreesRow : OpenClaim := { program := "ytdknjfmjddlphaa", sum := "485772a45cd7927e6015c7cb9bb29af322803ff78e909cf1fcbc88fe7e88723f", func := "forkledger/forkledgerlaw12.AcceptAgrees", spec := "acceptAgrees", inPlace := ["internal/reflectlite.ValueOf", "internal/reflectlite.Swapper", "(internal/reflectlite.Value).Len"], unfollowed := true, recurses := true, plainKeys := false, apart := false }
def AcceptAgreesSaid : Prop := acceptAgreesRow.holds Try.pinned (OpenSpec.ofChange acceptAgreesSpec)

/-- ITS FALSE NEIGHBOUR: 'it returns false'. Refute it at one input. -/
def acceptAgreesWrong : ChangeSpec := { name := "acceptAgrees", fn := fun _ => fun
  | [d1, d2, d3, d4] => { results := [.lit (.bool false)], args := [d1, d2, d3, d4] }
  | _ => none }
def AcceptAgreesWrongFalsely : Prop := acceptAgreesRow.holds Try.pinned (OpenSpec.ofChange acceptAgreesWrong)

/-- 'forkledgerlaw15.BroadcastOne': WHATEVER THE INPUT: true; the input reads as it did. -/
def broadcastOneSpec : ChangeSpec := { name := "broadcastOne", fn := fun _ => fun
  | [d1, d2, d3, d4] => { results := [.lit (.bool true)], args := [d1, d2, d3, d4] }
  | _ => none }
def broadcastOneRow : OpenClaim := { program := "ytdknjfmjddlphaa", sum := "485772a45cd7927e6015c7cb9bb29af322803ff78e909cf1fcbc88fe7e88723f", func := "forkledger/forkledgerlaw15.BroadcastOne", spec := "broadcastOne", inPlace := ["internal/reflectlite.ValueOf", "internal/reflectlite.Swapper", "(internal/reflectlite.Value).Len"], unfollowed := true, recurses := true, plainKeys := false, apart := false }
def BroadcastOneSaid : Prop := broadcastOneRow.holds Try.pinned (OpenSpec.ofChange broadcastOneSpec)

/-- ITS FALSE NEIGHBOUR: 'it returns false'. Refute it at one input. -/
def broadcastOneWrong : ChangeSpec := { name := "broadcastOne", fn := fun _ => fun
  | [d1, d2, d3, d4] => { results := [.lit (.bool false)], args := [d1, d2, d3, d4] }
  | _ => none }
def BroadcastOneWrongFalsely : Prop := broadcastOneRow.holds Try.pinned (OpenSpec.ofChange broadcastOneWrong)

/-- 'forkledgerlaw17.SuperblockGrows': WHATEVER THE INPUT: true; the input reads as it did. -/
def superblockGrowsSpec : ChangeSpec := { name := "superblockGrows", fn := fun _ => fun
  | [d1, d2, d3, d4, d5] => { results := [.lit (.bool true)], args := [d1, d2, d3, d4, d5] }
  | _ => none }
def superblockGrowsRow : OpenClaim := { program := "ytdknjfmjddlphaa", sum := "485772a45cd7927e6015c7cb9bb29af322803ff78e909cf1fcbc88fe7e88723f", func := "forkledger/forkledgerlaw17.SuperblockGrows", spec := "superblockGrows", inPlace := ["internal/reflectlite.ValueOf", "internal/reflectlite.Swapper", "(internal/reflectlite.Value).Len"], unfollowed := true, recurses := true, plainKeys := false, apart := false }
def SuperblockGrowsSaid : Prop := superblockGrowsRow.holds Try.pinned (OpenSpec.ofChange superblockGrowsSpec)

/-- ITS FALSE NEIGHBOUR: 'it returns false'. Refute it at one input. -/
def superblockGrowsWrong : ChangeSpec := { name := "superblockGrows", fn := fun _ => fun
  | [d1, d2, d3, d4, d5] => { results := [.lit (.bool false)], args := [d1, d2, d3, d4, d5] }
  | _ => none }
def SuperblockGrowsWrongFalsely : Prop := superblockGrowsRow.holds Try.pinned (OpenSpec.ofChange superblockGrowsWrong)

/-- 'forkledgerlaw17.SuperblockDecides': WHATEVER THE INPUT: true; the input reads as it did. -/
def superblockDecidesSpec : ChangeSpec := { name := "superblockDecides", fn := fun _ => fun
  | [d1, d2, d3] => { results := [.lit (.bool true)], args := [d1, d2, d3] }
  | _ => none }
def superblockDecidesRow : OpenClaim := { program := "ytdknjfmjddlphaa", sum := "485772a45cd7927e6015c7cb9bb29af322803ff78e909cf1fcbc88fe7e88723f", func := "forkledger/forkledgerlaw17.SuperblockDecides", spec := "superblockDecides", inPlace := ["internal/reflectlite.ValueOf", "internal/reflectlite.Swapper", "(internal/reflectlite.Value).Len"], unfollowed := true, recurses := true, plainKeys := false, apart := false }
def SuperblockDecidesSaid : Prop := superblockDecidesRow.holds Try.pinned (OpenSpec.ofChange superblockDecidesSpec)

/-- ITS FALSE NEIGHBOUR: 'it returns false'. Refute it at one input. -/
def superblockDecidesWrong : ChangeSpec := { name := "superblockDecides", fn := fun _ => fun
  | [d1, d2, d3] => { results := [.lit (.bool false)], args := [d1, d2, d3] }
  | _ => none }
def SuperblockDecidesWrongFalsely : Prop := superblockDecidesRow.holds Try.pinned (OpenSpec.ofChange superblockDecidesWrong)

/-- 'forkledgerlaw17.SuperblockAccounts': WHATEVER THE INPUT: true; the input reads as it did. -/
def superblockAccountsSpec : ChangeSpec := { name := "superblockAccounts", fn := fun _ => fun
  | [d1, d2, d3, d4] => { results := [.lit (.bool true)], args := [d1, d2, d3, d4] }
  | _ => none }
def superblockAccountsRow : OpenClaim := { program := "ytdknjfmjddlphaa", sum := "485772a45cd7927e6015c7cb9bb29af322803ff78e909cf1fcbc88fe7e88723f", func := "forkledger/forkledgerlaw17.SuperblockAccounts", spec := "superblockAccounts", inPlace := ["internal/reflectlite.ValueOf", "internal/reflectlite.Swapper", "(internal/reflectlite.Value).Len"], unfollowed := true, recurses := true, plainKeys := false, apart := false }
def SuperblockAccountsSaid : Prop := superblockAccountsRow.holds Try.pinned (OpenSpec.ofChange superblockAccountsSpec)

/-- ITS FALSE NEIGHBOUR: 'it returns false'. Refute it at one input. -/
def superblockAccountsWrong : ChangeSpec := { name := "superblockAccounts", fn := fun _ => fun
  | [d1, d2, d3, d4] => { results := [.lit (.bool false)], args := [d1, d2, d3, d4] }
  | _ => none }
def SuperblockAccountsWrongFalsely : Prop := superblockAccountsRow.holds Try.pinned (OpenSpec.ofChange superblockAccountsWrong)

/-- 'forkledgerlaw13.CertificateStands': WHATEVER THE INPUT: true; the input reads as it did. -/
def certificateStandsSpec : ChangeSpec := { name := "certificateStands", fn := fun _ => fun
  | [d1, d2, d3, d4] => { results := [.lit (.bool true)], args := [d1, d2, d3, d4] }
  | _ => none }
def certificateStandsRow : OpenClaim := { program := "ytdknjfmjddlphaa", sum := "485772a45cd7927e6015c7cb9bb29af322803ff78e909cf1fcbc88fe7e88723f", func := "forkledger/forkledgerlaw13.CertificateStands", spec := "certificateStands", inPlace := ["internal/reflectlite.ValueOf", "internal/reflectlite.Swapper", "(internal/reflectlite.Value).Len"], unfollowed := true, recurses := true, plainKeys := false, apart := false }
def CertificateStandsSaid : Prop := certificateStandsRow.holds Try.pinned (OpenSpec.ofChange certificateStandsSpec)

/-- ITS FALSE NEIGHBOUR: 'it returns false'. Refute it at one input. -/
def certificateStandsWrong : ChangeSpec := { name := "certificateStands", fn := fun _ => fun
  | [d1, d2, d3, d4] => { results := [.lit (.bool false)], args := [d1, d2, d3, d4] }
  | _ => none }
def CertificateStandsWrongFalsely : Prop := certificateStandsRow.holds Try.pinned (OpenSpec.ofChange certificateStandsWrong)

/-- 'forkledgerlaw13.CertificateSheds': WHATEVER THE INPUT: true; the input reads as it did. -/
def certificateShedsSpec : ChangeSpec := { name := "certificateSheds", fn := fun _ => fun
  | [d1, d2, d3, d4, d5] => { results := [.lit (.bool true)], args := [d1, d2, d3, d4, d5] }
  | _ => none }
def certificateShedsRow : OpenClaim := { program := "ytdknjfmjddlphaa", sum := "485772a45cd7927e6015c7cb9bb29af322803ff78e909cf1fcbc88fe7e88723f", func := "forkledger/forkledgerlaw13.CertificateSheds", spec := "certificateSheds", inPlace := ["internal/reflectlite.ValueOf", "internal/reflectlite.Swapper", "(internal/reflectlite.Value).Len"], unfollowed := true, recurses := true, plainKeys := false, apart := false }
def CertificateShedsSaid : Prop := certificateShedsRow.holds Try.pinned (OpenSpec.ofChange certificateShedsSpec)

/-- ITS FALSE NEIGHBOUR: 'it returns false'. Refute it at one input. -/
def certificateShedsWrong : ChangeSpec := { name := "certificateSheds", fn := fun _ => fun
  | [d1, d2, d3, d4, d5] => { results := [.lit (.bool false)], args := [d1, d2, d3, d4, d5] }
  | _ => none }
def CertificateShedsWrongFalsely : Prop := certificateShedsRow.holds Try.pinned (OpenSpec.ofChange certificateShedsWrong)

/-- 'forkledgerlaw13.CertificateAccounts': WHATEVER THE INPUT: true; the input reads as it did. -/
def certificateAccountsSpec : ChangeSpec := { name := "certificateAccounts", fn := fun _ => fun
  | [d1, d2, d3, d4, d5] => { results := [.lit (.bool true)], args := [d1, d2, d3, d4, d5] }
  | _ => none }
def certificateAccountsRow : OpenClaim := { program := "ytdknjfmjddlphaa", sum := "485772a45cd7927e6015c7cb9bb29af322803ff78e909cf1fcbc88fe7e88723f", func := "forkledger/forkledgerlaw13.CertificateAccounts", spec := "certificateAccounts", inPlace := ["internal/reflectlite.ValueOf", "internal/reflectlite.Swapper", "(internal/reflectlite.Value).Len"], unfollowed := true, recurses := true, plainKeys := false, apart := false }
def CertificateAccountsSaid : Prop := certificateAccountsRow.holds Try.pinned (OpenSpec.ofChange certificateAccountsSpec)

/-- ITS FALSE NEIGHBOUR: 'it returns false'. Refute it at one input. -/
def certificateAccountsWrong : ChangeSpec := { name := "certificateAccounts", fn := fun _ => fun
  | [d1, d2, d3, d4, d5] => { results := [.lit (.bool false)], args := [d1, d2, d3, d4, d5] }
  | _ => none }
def CertificateAccountsWrongFalsely : Prop := certificateAccountsRow.holds Try.pinned (OpenSpec.ofChange certificateAccountsWrong)

/- THE SECOND FORM. 'bulk': how many values and letters a reading holds, each counted each time it is reached (what is shared counts as often as it is met; a slice's spare places count too). A statement '..UptoSaid' is the law's where the arguments, and the package variables that the reading takes, are together of bulk at most 1048576: NARROWER than '..Said'. Prove '..Said' where nothing that the law and all that it calls make is longer than what came in: it says more and counts as full. Else prove '..UptoSaid'. A law counts once. -/
mutual
def uptoBulk {H : Type} : DataW H → Nat
  | .lit (.string bytes) => bytes.length + 1
  | .lit _ => 1
  | .nil => 1
  | .ptr d => uptoBulk d + 1
  | .slice elems spare => uptoBulkAll elems + uptoBulkAll spare + 1
  | .agg parts => uptoBulkAll parts + 1
  | .iface _ d => uptoBulk d + 1
  | .map entries => uptoBulkEntries entries + 1
  | .held _ => 1
def uptoBulkAll {H : Type} : List (DataW H) → Nat
  | [] => 0
  | d :: r => uptoBulk d + uptoBulkAll r
def uptoBulkEntries {H : Type} : List (Lit × DataW H) → Nat
  | [] => 0
  | x :: r => uptoBulkEntry x + uptoBulkEntries r
def uptoBulkEntry {H : Type} : Lit × DataW H → Nat
  | (.string bytes, d) => bytes.length + uptoBulk d + 1
  | (_, d) => uptoBulk d + 1
 end
def uptoSmall : (H : Type) → List (DataW H) → Bool := fun _ ds => decide (uptoBulkAll ds ≤ 1048576)
def OpenSpec.upto (s : _root_.Go.ChangeSpec) : _root_.Go.OpenSpec := { _root_.Go.OpenSpec.ofChange s with cond := some uptoSmall }

/-- 'forkledgerlaw12.AcceptClosed', WHERE WHAT IT READS IS OF BULK AT MOST 1048576: true; the input reads as it did. -/
def acceptClosedUptoRow : OpenClaim := { program := "ytdknjfmjddlphaa", sum := "485772a45cd7927e6015c7cb9bb29af322803ff78e909cf1fcbc88fe7e88723f", func := "forkledger/forkledgerlaw12.AcceptClosed", spec := "acceptClosed", inPlace := ["internal/reflectlite.ValueOf", "internal/reflectlite.Swapper", "(internal/reflectlite.Value).Len"], unfollowed := true, recurses := true, plainKeys := false, apart := false, narrowed := true }
def AcceptClosedUptoSaid : Prop := acceptClosedUptoRow.holds Try.pinned (OpenSpec.upto acceptClosedSpec)

/-- 'forkledgerlaw12.AcceptLeast', WHERE WHAT IT READS IS OF BULK AT MOST 1048576: true; the input reads as it did. -/
def acceptLeastUptoRow : OpenClaim := { program := "ytdknjfmjddlphaa", sum := "485772a45cd7927e6015c7cb9bb29af322803ff78e909cf1fcbc88fe7e88723f", func := "forkledger/forkledgerlaw12.AcceptLeast", spec := "acceptLeast", inPlace := ["internal/reflectlite.ValueOf", "internal/reflectlite.Swapper", "(internal/reflectlite.Value).Len"], unfollowed := true, recurses := true, plainKeys := false, apart := false, narrowed := true }
def AcceptLeastUptoSaid : Prop := acceptLeastUptoRow.holds Try.pinned (OpenSpec.upto acceptLeastSpec)

/-- 'forkledgerlaw12.AcceptApart', WHERE WHAT IT READS IS OF BULK AT MOST 1048576: true; the input reads as it did. -/
def acceptApartUptoRow : OpenClaim := { program := "ytdknjfmjddlphaa", sum := "485772a45cd7927e6015c7cb9bb29af322803ff78e909cf1fcbc88fe7e88723f", func := "forkledger/forkledgerlaw12.AcceptApart", spec := "acceptApart", inPlace := ["internal/reflectlite.ValueOf", "internal/reflectlite.Swapper", "(internal/reflectlite.Value).Len"], unfollowed := true, recurses := true, plainKeys := false, apart := false, narrowed := true }
def AcceptApartUptoSaid : Prop := acceptApartUptoRow.holds Try.pinned (OpenSpec.upto acceptApartSpec)

/-- 'forkledgerlaw15.BroadcastAccounts', WHERE WHAT IT READS IS OF BULK AT MOST 1048576: true; the input reads as it did. -/
def broadcastAccountsUptoRow : OpenClaim := { program := "ytdknjfmjddlphaa", sum := "485772a45cd7927e6015c7cb9bb29af322803ff78e909cf1fcbc88fe7e88723f", func := "forkledger/forkledgerlaw15.BroadcastAccounts", spec := "broadcastAccounts", inPlace := ["internal/reflectlite.ValueOf", "internal/reflectlite.Swapper", "(internal/reflectlite.Value).Len"], unfollowed := true, recurses := true, plainKeys := false, apart := false, narrowed := true }
def BroadcastAccountsUptoSaid : Prop := broadcastAccountsUptoRow.holds Try.pinned (OpenSpec.upto broadcastAccountsSpec)

/-- 'forkledgerlaw15.BroadcastProposed', WHERE WHAT IT READS IS OF BULK AT MOST 1048576: true; the input reads as it did. -/
def broadcastProposedUptoRow : OpenClaim := { program := "ytdknjfmjddlphaa", sum := "485772a45cd7927e6015c7cb9bb29af322803ff78e909cf1fcbc88fe7e88723f", func := "forkledger/forkledgerlaw15.BroadcastProposed", spec := "broadcastProposed", inPlace := ["internal/reflectlite.ValueOf", "internal/reflectlite.Swapper", "(internal/reflectlite.Value).Len"], unfollowed := true, recurses := true, plainKeys := false, apart := false, narrowed := true }
def BroadcastProposedUptoSaid : Prop := broadcastProposedUptoRow.holds Try.pinned (OpenSpec.upto broadcastProposedSpec)

/-- 'forkledgerlaw12.AcceptGrows', WHERE WHAT IT READS IS OF BULK AT MOST 1048576: true; the input reads as it did. -/
def acceptGrowsUptoRow : OpenClaim := { program := "ytdknjfmjddlphaa", sum := "485772a45cd7927e6015c7cb9bb29af322803ff78e909cf1fcbc88fe7e88723f", func := "forkledger/forkledgerlaw12.AcceptGrows", spec := "acceptGrows", inPlace := ["internal/reflectlite.ValueOf", "internal/reflectlite.Swapper", "(internal/reflectlite.Value).Len"], unfollowed := true, recurses := true, plainKeys := false, apart := false, narrowed := true }
def AcceptGrowsUptoSaid : Prop := acceptGrowsUptoRow.holds Try.pinned (OpenSpec.upto acceptGrowsSpec)

/-- 'forkledgerlaw12.AcceptAccounts', WHERE WHAT IT READS IS OF BULK AT MOST 1048576: true; the input reads as it did. -/
def acceptAccountsUptoRow : OpenClaim := { program := "ytdknjfmjddlphaa", sum := "485772a45cd7927e6015c7cb9bb29af322803ff78e909cf1fcbc88fe7e88723f", func := "forkledger/forkledgerlaw12.AcceptAccounts", spec := "acceptAccounts", inPlace := ["internal/reflectlite.ValueOf", "internal/reflectlite.Swapper", "(internal/reflectlite.Value).Len"], unfollowed := true, recurses := true, plainKeys := false, apart := false, narrowed := true }
def AcceptAccountsUptoSaid : Prop := acceptAccountsUptoRow.holds Try.pinned (OpenSpec.upto acceptAccountsSpec)

/-- 'forkledgerlaw12.AcceptAgrees', WHERE WHAT IT READS IS OF BULK AT MOST 1048576: true; the input reads as it did. -/
def acceptAgreesUptoRow : OpenClaim := { program := "ytdknjfmjddlphaa", sum := "485772a45cd7927e6015c7cb9bb29af322803ff78e909cf1fcbc88fe7e88723f", func := "forkledger/forkledgerlaw12.AcceptAgrees", spec := "acceptAgrees", inPlace := ["internal/reflectlite.ValueOf", "internal/reflectlite.Swapper", "(internal/reflectlite.Value).Len"], unfollowed := true, recurses := true, plainKeys := false, apart := false, narrowed := true }
def AcceptAgreesUptoSaid : Prop := acceptAgreesUptoRow.holds Try.pinned (OpenSpec.upto acceptAgreesSpec)

/-- 'forkledgerlaw15.BroadcastOne', WHERE WHAT IT READS IS OF BULK AT MOST 1048576: true; the input reads as it did. -/
def broadcastOneUptoRow : OpenClaim := { program := "ytdknjfmjddlphaa", sum := "485772a45cd7927e6015c7cb9bb29af322803ff78e909cf1fcbc88fe7e88723f", func := "forkledger/forkledgerlaw15.BroadcastOne", spec := "broadcastOne", inPlace := ["internal/reflectlite.ValueOf", "internal/reflectlite.Swapper", "(internal/reflectlite.Value).Len"], unfollowed := true, recurses := true, plainKeys := false, apart := false, narrowed := true }
def BroadcastOneUptoSaid : Prop := broadcastOneUptoRow.holds Try.pinned (OpenSpec.upto broadcastOneSpec)

/-- 'forkledgerlaw17.SuperblockGrows', WHERE WHAT IT READS IS OF BULK AT MOST 1048576: true; the input reads as it did. -/
def superblockGrowsUptoRow : OpenClaim := { program := "ytdknjfmjddlphaa", sum := "485772a45cd7927e6015c7cb9bb29af322803ff78e909cf1fcbc88fe7e88723f", func := "forkledger/forkledgerlaw17.SuperblockGrows", spec := "superblockGrows", inPlace := ["internal/reflectlite.ValueOf", "internal/reflectlite.Swapper", "(internal/reflectlite.Value).Len"], unfollowed := true, recurses := true, plainKeys := false, apart := false, narrowed := true }
def SuperblockGrowsUptoSaid : Prop := superblockGrowsUptoRow.holds Try.pinned (OpenSpec.upto superblockGrowsSpec)

/-- 'forkledgerlaw17.SuperblockDecides', WHERE WHAT IT READS IS OF BULK AT MOST 1048576: true; the input reads as it did. -/
def superblockDecidesUptoRow : OpenClaim := { program := "ytdknjfmjddlphaa", sum := "485772a45cd7927e6015c7cb9bb29af322803ff78e909cf1fcbc88fe7e88723f", func := "forkledger/forkledgerlaw17.SuperblockDecides", spec := "superblockDecides", inPlace := ["internal/reflectlite.ValueOf", "internal/reflectlite.Swapper", "(internal/reflectlite.Value).Len"], unfollowed := true, recurses := true, plainKeys := false, apart := false, narrowed := true }
def SuperblockDecidesUptoSaid : Prop := superblockDecidesUptoRow.holds Try.pinned (OpenSpec.upto superblockDecidesSpec)

/-- 'forkledgerlaw17.SuperblockAccounts', WHERE WHAT IT READS IS OF BULK AT MOST 1048576: true; the input reads as it did. -/
def superblockAccountsUptoRow : OpenClaim := { program := "ytdknjfmjddlphaa", sum := "485772a45cd7927e6015c7cb9bb29af322803ff78e909cf1fcbc88fe7e88723f", func := "forkledger/forkledgerlaw17.SuperblockAccounts", spec := "superblockAccounts", inPlace := ["internal/reflectlite.ValueOf", "internal/reflectlite.Swapper", "(internal/reflectlite.Value).Len"], unfollowed := true, recurses := true, plainKeys := false, apart := false, narrowed := true }
def SuperblockAccountsUptoSaid : Prop := superblockAccountsUptoRow.holds Try.pinned (OpenSpec.upto superblockAccountsSpec)

/-- 'forkledgerlaw13.CertificateStands', WHERE WHAT IT READS IS OF BULK AT MOST 1048576: true; the input reads as it did. -/
def certificateStandsUptoRow : OpenClaim := { program := "ytdknjfmjddlphaa", sum := "485772a45cd7927e6015c7cb9bb29af322803ff78e909cf1fcbc88fe7e88723f", func := "forkledger/forkledgerlaw13.CertificateStands", spec := "certificateStands", inPlace := ["internal/reflectlite.ValueOf", "internal/reflectlite.Swapper", "(internal/reflectlite.Value).Len"], unfollowed := true, recurses := true, plainKeys := false, apart := false, narrowed := true }
def CertificateStandsUptoSaid : Prop := certificateStandsUptoRow.holds Try.pinned (OpenSpec.upto certificateStandsSpec)

/-- 'forkledgerlaw13.CertificateSheds', WHERE WHAT IT READS IS OF BULK AT MOST 1048576: true; the input reads as it did. -/
def certificateShedsUptoRow : OpenClaim := { program := "ytdknjfmjddlphaa", sum := "485772a45cd7927e6015c7cb9bb29af322803ff78e909cf1fcbc88fe7e88723f", func := "forkledger/forkledgerlaw13.CertificateSheds", spec := "certificateSheds", inPlace := ["internal/reflectlite.ValueOf", "internal/reflectlite.Swapper", "(internal/reflectlite.Value).Len"], unfollowed := true, recurses := true, plainKeys := false, apart := false, narrowed := true }
def CertificateShedsUptoSaid : Prop := certificateShedsUptoRow.holds Try.pinned (OpenSpec.upto certificateShedsSpec)

/-- 'forkledgerlaw13.CertificateAccounts', WHERE WHAT IT READS IS OF BULK AT MOST 1048576: true; the input reads as it did. -/
def certificateAccountsUptoRow : OpenClaim := { program := "ytdknjfmjddlphaa", sum := "485772a45cd7927e6015c7cb9bb29af322803ff78e909cf1fcbc88fe7e88723f", func := "forkledger/forkledgerlaw13.CertificateAccounts", spec := "certificateAccounts", inPlace := ["internal/reflectlite.ValueOf", "internal/reflectlite.Swapper", "(internal/reflectlite.Value).Len"], unfollowed := true, recurses := true, plainKeys := false, apart := false, narrowed := true }
def CertificateAccountsUptoSaid : Prop := certificateAccountsUptoRow.holds Try.pinned (OpenSpec.upto certificateAccountsSpec)

end Rows
end Go.Proofs.Ytdknjfmjddlphaa
