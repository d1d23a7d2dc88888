/-
  No cell of these rows narrows 'for every input' (looked for: loops, veiled, ifaces, maps, wideKeys, modest, calm, conditions, laid).
  DERIVED. THE GIVEN ROWS OF THIS SEAT. 9 by the template 'for every input the law returns true; each argument reads behind the call as it read before'; 0 by the template 'total and deterministic' (their statements: YtdphhkbbphfjlaaTotals.lean).
  GIVEN WITH THE SEED: the statements are not yours to turn. If you find one false, say at which input.
  Laid BY PROGRAM, IN A SANDBOX (cutbox-rows.mjs): the forced cells as the released guide's own fill.sh prints them over the translation 9a1a0c467836494f… (all of the seat's roots in one cut). By AI agents, Wed Nov 11 2026. No macro, syntax, notation, axiom, sorry.
-/
import Derived.Test.YtdphhkbbphfjlaaChecked
import GoSem.Claim
import GoSem.ClaimJoined
import GoSem.ClaimMapViews
import Derived.JoinedTies
import Derived.KernelRfl
namespace Go.Proofs.Ytdphhkbbphfjlaa
/- THE CELL 'sum', in the pinned program and in every row, IS THE sha256 OF THE DUMP (.gsa) THAT YtdphhkbbphfjlaaProg.lean LOADS. Nothing in Lean hashes anything: it is a label: what it is worth is what the hold of that sum in a sandbox is worth. -/
noncomputable def Try.pinned : Pinned := { name := "ytdphhkbbphfjlaa", sum := "9a1a0c467836494fbcd97714a414913c642f3f9e0c5eac60fb288b306f0a4ccf", checked := Try.checked }
namespace Rows
def none {H : Type} : Left H := { results := [], args := [] }

/-- 'perigeelaw17.ContactAll': WHATEVER THE INPUT: true; the input reads as it did. -/
def contactAllSpec : ChangeSpec := { name := "contactAll", fn := fun _ => fun
  | [d1, d2, d3] => { results := [.lit (.bool true)], args := [d1, d2, d3] }
  | _ => none }
def contactAllRow : OpenClaim := { program := "ytdphhkbbphfjlaa", sum := "9a1a0c467836494fbcd97714a414913c642f3f9e0c5eac60fb288b306f0a4ccf", func := "perigee/perigeelaw17.ContactAll", spec := "contactAll", inPlace := ["math/bits.Sub64", "math/bits.Add64"], unfollowed := true, recurses := true, apart := false }
def ContactAllSaid : Prop := contactAllRow.holds Try.pinned (OpenSpec.ofChange contactAllSpec)

/-- ITS FALSE NEIGHBOUR: 'it returns false'. Refute it at one input. -/
def contactAllWrong : ChangeSpec := { name := "contactAll", fn := fun _ => fun
  | [d1, d2, d3] => { results := [.lit (.bool false)], args := [d1, d2, d3] }
  | _ => none }
def ContactAllWrongFalsely : Prop := contactAllRow.holds Try.pinned (OpenSpec.ofChange contactAllWrong)

/-- 'perigeelaw17.ContactLine': WHATEVER THE INPUT: true; the input reads as it did. -/
def contactLineSpec : ChangeSpec := { name := "contactLine", fn := fun _ => fun
  | [d1, d2] => { results := [.lit (.bool true)], args := [d1, d2] }
  | _ => none }
def contactLineRow : OpenClaim := { program := "ytdphhkbbphfjlaa", sum := "9a1a0c467836494fbcd97714a414913c642f3f9e0c5eac60fb288b306f0a4ccf", func := "perigee/perigeelaw17.ContactLine", spec := "contactLine", inPlace := ["math/bits.Sub64", "math/bits.Add64"], unfollowed := true, recurses := true, apart := false }
def ContactLineSaid : Prop := contactLineRow.holds Try.pinned (OpenSpec.ofChange contactLineSpec)

/-- ITS FALSE NEIGHBOUR: 'it returns false'. Refute it at one input. -/
def contactLineWrong : ChangeSpec := { name := "contactLine", fn := fun _ => fun
  | [d1, d2] => { results := [.lit (.bool false)], args := [d1, d2] }
  | _ => none }
def ContactLineWrongFalsely : Prop := contactLineRow.holds Try.pinned (OpenSpec.ofChange contactLineWrong)

/-- 'perigeelaw17.ContactEdges': WHATEVER THE INPUT: true; the input reads as it did. -/
def contactEdgesSpec : ChangeSpec := { name := "contactEdges", fn := fun _ => fun
  | [d1, d2, d3, d4] => { results := [.lit (.bool true)], args := [d1, d2, d3, d4] }
  | _ => none }
def contactEdgesRow : OpenClaim := { program := "ytdphhkbbphfjlaa", sum := "9a1a0c467836494fbcd97714a414913c642f3f9e0c5eac60fb288b306f0a4ccf", func := "perigee/perigeelaw17.ContactEdges", spec := "contactEdges", inPlace := ["math/bits.Sub64", "math/bits.Add64"], unfollowed := true, recurses := true, apart := false }
def ContactEdgesSaid : Prop := contactEdgesRow.holds Try.pinned (OpenSpec.ofChange contactEdgesSpec)

/-- ITS FALSE NEIGHBOUR: 'it returns false'. Refute it at one input. -/
def contactEdgesWrong : ChangeSpec := { name := "contactEdges", fn := fun _ => fun
  | [d1, d2, d3, d4] => { results := [.lit (.bool false)], args := [d1, d2, d3, d4] }
  | _ => none }
def ContactEdgesWrongFalsely : Prop := contactEdgesRow.holds Try.pinned (OpenSpec.ofChange contactEdgesWrong)

/-- 'perigeelaw17.ContactMade': WHATEVER THE INPUT: true; the input reads as it did. -/
def contactMadeSpec : ChangeSpec := { name := "contactMade", fn := fun _ => fun
  | [d1, d2] => { results := [.lit (.bool true)], args := [d1, d2] }
  | _ => none }
def contactMadeRow : OpenClaim := { program := "ytdphhkbbphfjlaa", sum := "9a1a0c467836494fbcd97714a414913c642f3f9e0c5eac60fb288b306f0a4ccf", func := "perigee/perigeelaw17.ContactMade", spec := "contactMade", inPlace := ["math/bits.Sub64", "math/bits.Add64"], unfollowed := true, recurses := true, apart := false }
def ContactMadeSaid : Prop := contactMadeRow.holds Try.pinned (OpenSpec.ofChange contactMadeSpec)

/-- ITS FALSE NEIGHBOUR: 'it returns false'. Refute it at one input. -/
def contactMadeWrong : ChangeSpec := { name := "contactMade", fn := fun _ => fun
  | [d1, d2] => { results := [.lit (.bool false)], args := [d1, d2] }
  | _ => none }
def ContactMadeWrongFalsely : Prop := contactMadeRow.holds Try.pinned (OpenSpec.ofChange contactMadeWrong)

/-- 'perigeelaw17.ContactKeeps': WHATEVER THE INPUT: true; the input reads as it did. -/
def contactKeepsSpec : ChangeSpec := { name := "contactKeeps", fn := fun _ => fun
  | [d1, d2] => { results := [.lit (.bool true)], args := [d1, d2] }
  | _ => none }
def contactKeepsRow : OpenClaim := { program := "ytdphhkbbphfjlaa", sum := "9a1a0c467836494fbcd97714a414913c642f3f9e0c5eac60fb288b306f0a4ccf", func := "perigee/perigeelaw17.ContactKeeps", spec := "contactKeeps", inPlace := ["math/bits.Sub64", "math/bits.Add64"], unfollowed := true, recurses := true, apart := false }
def ContactKeepsSaid : Prop := contactKeepsRow.holds Try.pinned (OpenSpec.ofChange contactKeepsSpec)

/-- ITS FALSE NEIGHBOUR: 'it returns false'. Refute it at one input. -/
def contactKeepsWrong : ChangeSpec := { name := "contactKeeps", fn := fun _ => fun
  | [d1, d2] => { results := [.lit (.bool false)], args := [d1, d2] }
  | _ => none }
def ContactKeepsWrongFalsely : Prop := contactKeepsRow.holds Try.pinned (OpenSpec.ofChange contactKeepsWrong)

/-- 'perigeelaw19.DockKeeps': WHATEVER THE INPUT: true; the input reads as it did. -/
def dockKeepsSpec : ChangeSpec := { name := "dockKeeps", fn := fun _ => fun
  | [d1, d2, d3, d4, d5, d6] => { results := [.lit (.bool true)], args := [d1, d2, d3, d4, d5, d6] }
  | _ => none }
def dockKeepsRow : OpenClaim := { program := "ytdphhkbbphfjlaa", sum := "9a1a0c467836494fbcd97714a414913c642f3f9e0c5eac60fb288b306f0a4ccf", func := "perigee/perigeelaw19.DockKeeps", spec := "dockKeeps", inPlace := ["math/bits.Sub64", "math/bits.Add64"], unfollowed := true, recurses := true, apart := false }
def DockKeepsSaid : Prop := dockKeepsRow.holds Try.pinned (OpenSpec.ofChange dockKeepsSpec)

/-- ITS FALSE NEIGHBOUR: 'it returns false'. Refute it at one input. -/
def dockKeepsWrong : ChangeSpec := { name := "dockKeeps", fn := fun _ => fun
  | [d1, d2, d3, d4, d5, d6] => { results := [.lit (.bool false)], args := [d1, d2, d3, d4, d5, d6] }
  | _ => none }
def DockKeepsWrongFalsely : Prop := dockKeepsRow.holds Try.pinned (OpenSpec.ofChange dockKeepsWrong)

/-- 'perigeelaw19.DockParts': WHATEVER THE INPUT: true; the input reads as it did. -/
def dockPartsSpec : ChangeSpec := { name := "dockParts", fn := fun _ => fun
  | [d1, d2, d3, d4, d5] => { results := [.lit (.bool true)], args := [d1, d2, d3, d4, d5] }
  | _ => none }
def dockPartsRow : OpenClaim := { program := "ytdphhkbbphfjlaa", sum := "9a1a0c467836494fbcd97714a414913c642f3f9e0c5eac60fb288b306f0a4ccf", func := "perigee/perigeelaw19.DockParts", spec := "dockParts", inPlace := ["math/bits.Sub64", "math/bits.Add64"], unfollowed := true, recurses := true, apart := false }
def DockPartsSaid : Prop := dockPartsRow.holds Try.pinned (OpenSpec.ofChange dockPartsSpec)

/-- ITS FALSE NEIGHBOUR: 'it returns false'. Refute it at one input. -/
def dockPartsWrong : ChangeSpec := { name := "dockParts", fn := fun _ => fun
  | [d1, d2, d3, d4, d5] => { results := [.lit (.bool false)], args := [d1, d2, d3, d4, d5] }
  | _ => none }
def DockPartsWrongFalsely : Prop := dockPartsRow.holds Try.pinned (OpenSpec.ofChange dockPartsWrong)

/-- 'perigeelaw19.DockRefuses': WHATEVER THE INPUT: true; the input reads as it did. -/
def dockRefusesSpec : ChangeSpec := { name := "dockRefuses", fn := fun _ => fun
  | [d1, d2] => { results := [.lit (.bool true)], args := [d1, d2] }
  | _ => none }
def dockRefusesRow : OpenClaim := { program := "ytdphhkbbphfjlaa", sum := "9a1a0c467836494fbcd97714a414913c642f3f9e0c5eac60fb288b306f0a4ccf", func := "perigee/perigeelaw19.DockRefuses", spec := "dockRefuses", inPlace := ["math/bits.Sub64", "math/bits.Add64"], unfollowed := true, recurses := true, apart := false }
def DockRefusesSaid : Prop := dockRefusesRow.holds Try.pinned (OpenSpec.ofChange dockRefusesSpec)

/-- ITS FALSE NEIGHBOUR: 'it returns false'. Refute it at one input. -/
def dockRefusesWrong : ChangeSpec := { name := "dockRefuses", fn := fun _ => fun
  | [d1, d2] => { results := [.lit (.bool false)], args := [d1, d2] }
  | _ => none }
def DockRefusesWrongFalsely : Prop := dockRefusesRow.holds Try.pinned (OpenSpec.ofChange dockRefusesWrong)

/-- 'perigeelaw19.DockTethers': WHATEVER THE INPUT: true; the input reads as it did. -/
def dockTethersSpec : ChangeSpec := { name := "dockTethers", fn := fun _ => fun
  | [d1, d2] => { results := [.lit (.bool true)], args := [d1, d2] }
  | _ => none }
def dockTethersRow : OpenClaim := { program := "ytdphhkbbphfjlaa", sum := "9a1a0c467836494fbcd97714a414913c642f3f9e0c5eac60fb288b306f0a4ccf", func := "perigee/perigeelaw19.DockTethers", spec := "dockTethers", inPlace := ["math/bits.Sub64", "math/bits.Add64"], unfollowed := true, recurses := true, apart := false }
def DockTethersSaid : Prop := dockTethersRow.holds Try.pinned (OpenSpec.ofChange dockTethersSpec)

/-- ITS FALSE NEIGHBOUR: 'it returns false'. Refute it at one input. -/
def dockTethersWrong : ChangeSpec := { name := "dockTethers", fn := fun _ => fun
  | [d1, d2] => { results := [.lit (.bool false)], args := [d1, d2] }
  | _ => none }
def DockTethersWrongFalsely : Prop := dockTethersRow.holds Try.pinned (OpenSpec.ofChange dockTethersWrong)

/- THE SECOND FORM. 'bulk': how many values and letters a reading holds, each counted each time it is reached (what is shared counts as often as it is met; a slice's spare places count too). A statement '..UptoSaid' is the law's where the arguments, and the package variables that the reading takes, are together of bulk at most 1048576: NARROWER than '..Said'. Prove '..Said' where nothing that the law and all that it calls make is longer than what came in: it says more and counts as full. Else prove '..UptoSaid'. A law counts once. -/
mutual
def uptoBulk {H : Type} : DataW H → Nat
  | .lit (.string bytes) => bytes.length + 1
  | .lit _ => 1
  | .nil => 1
  | .ptr d => uptoBulk d + 1
  | .slice elems spare => uptoBulkAll elems + uptoBulkAll spare + 1
  | .agg parts => uptoBulkAll parts + 1
  | .iface _ d => uptoBulk d + 1
  | .map entries => uptoBulkEntries entries + 1
  | .held _ => 1
def uptoBulkAll {H : Type} : List (DataW H) → Nat
  | [] => 0
  | d :: r => uptoBulk d + uptoBulkAll r
def uptoBulkEntries {H : Type} : List (Lit × DataW H) → Nat
  | [] => 0
  | x :: r => uptoBulkEntry x + uptoBulkEntries r
def uptoBulkEntry {H : Type} : Lit × DataW H → Nat
  | (.string bytes, d) => bytes.length + uptoBulk d + 1
  | (_, d) => uptoBulk d + 1
 end
def uptoSmall : (H : Type) → List (DataW H) → Bool := fun _ ds => decide (uptoBulkAll ds ≤ 1048576)
def OpenSpec.upto (s : _root_.Go.ChangeSpec) : _root_.Go.OpenSpec := { _root_.Go.OpenSpec.ofChange s with cond := some uptoSmall }

/-- 'perigeelaw17.ContactAll', WHERE WHAT IT READS IS OF BULK AT MOST 1048576: true; the input reads as it did. -/
def contactAllUptoRow : OpenClaim := { program := "ytdphhkbbphfjlaa", sum := "9a1a0c467836494fbcd97714a414913c642f3f9e0c5eac60fb288b306f0a4ccf", func := "perigee/perigeelaw17.ContactAll", spec := "contactAll", inPlace := ["math/bits.Sub64", "math/bits.Add64"], unfollowed := true, recurses := true, apart := false, narrowed := true }
def ContactAllUptoSaid : Prop := contactAllUptoRow.holds Try.pinned (OpenSpec.upto contactAllSpec)

/-- 'perigeelaw17.ContactLine', WHERE WHAT IT READS IS OF BULK AT MOST 1048576: true; the input reads as it did. -/
def contactLineUptoRow : OpenClaim := { program := "ytdphhkbbphfjlaa", sum := "9a1a0c467836494fbcd97714a414913c642f3f9e0c5eac60fb288b306f0a4ccf", func := "perigee/perigeelaw17.ContactLine", spec := "contactLine", inPlace := ["math/bits.Sub64", "math/bits.Add64"], unfollowed := true, recurses := true, apart := false, narrowed := true }
def ContactLineUptoSaid : Prop := contactLineUptoRow.holds Try.pinned (OpenSpec.upto contactLineSpec)

/-- 'perigeelaw17.ContactEdges', WHERE WHAT IT READS IS OF BULK AT MOST 1048576: true; the input reads as it did. -/
def contactEdgesUptoRow : OpenClaim := { program := "ytdphhkbbphfjlaa", sum := "9a1a0c467836494fbcd97714a414913c642f3f9e0c5eac60fb288b306f0a4ccf", func := "perigee/perigeelaw17.ContactEdges", spec := "contactEdges", inPlace := ["math/bits.Sub64", "math/bits.Add64"], unfollowed := true, recurses := true, apart := false, narrowed := true }
def ContactEdgesUptoSaid : Prop := contactEdgesUptoRow.holds Try.pinned (OpenSpec.upto contactEdgesSpec)

/-- 'perigeelaw17.ContactMade', WHERE WHAT IT READS IS OF BULK AT MOST 1048576: true; the input reads as it did. -/
def contactMadeUptoRow : OpenClaim := { program := "ytdphhkbbphfjlaa", sum := "9a1a0c467836494fbcd97714a414913c642f3f9e0c5eac60fb288b306f0a4ccf", func := "perigee/perigeelaw17.ContactMade", spec := "contactMade", inPlace := ["math/bits.Sub64", "math/bits.Add64"], unfollowed := true, recurses := true, apart := false, narrowed := true }
def ContactMadeUptoSaid : Prop := contactMadeUptoRow.holds Try.pinned (OpenSpec.upto contactMadeSpec)

/-- 'perigeelaw17.ContactKeeps', WHERE WHAT IT READS IS OF BULK AT MOST 1048576: true; the input reads as it did. -/
def contactKeepsUptoRow : OpenClaim := { program := "ytdphhkbbphfjlaa", sum := "9a1a0c467836494fbcd97714a414913c642f3f9e0c5eac60fb288b306f0a4ccf", func := "perigee/perigeelaw17.ContactKeeps", spec := "contactKeeps", inPlace := ["math/bits.Sub64", "math/bits.Add64"], unfollowed := true, recurses := true, apart := false, narrowed := true }
def ContactKeepsUptoSaid : Prop := contactKeepsUptoRow.holds Try.pinned (OpenSpec.upto contactKeepsSpec)

/-- 'perigeelaw19.DockKeeps', WHERE WHAT IT READS IS OF BULK AT MOST 1048576: true; the input reads as it did. -/
def dockKeepsUptoRow : OpenClaim := { program := "ytdphhkbbphfjlaa", sum := "9a1a0c467836494fbcd97714a414913c642f3f9e0c5eac60fb288b306f0a4ccf", func := "perigee/perigeelaw19.DockKeeps", spec := "dockKeeps", inPlace := ["math/bits.Sub64", "math/bits.Add64"], unfollowed := true, recurses := true, apart := false, narrowed := true }
def DockKeepsUptoSaid : Prop := dockKeepsUptoRow.holds Try.pinned (OpenSpec.upto dockKeepsSpec)

/-- 'perigeelaw19.DockParts', WHERE WHAT IT READS IS OF BULK AT MOST 1048576: true; the input reads as it did. -/
def dockPartsUptoRow : OpenClaim := { program := "ytdphhkbbphfjlaa", sum := "9a1a0c467836494fbcd97714a414913c642f3f9e0c5eac60fb288b306f0a4ccf", func := "perigee/perigeelaw19.DockParts", spec := "dockParts", inPlace := ["math/bits.Sub64", "math/bits.Add64"], unfollowed := true, recurses := true, apart := false, narrowed := true }
def DockPartsUptoSaid : Prop := dockPartsUptoRow.holds Try.pinned (OpenSpec.upto dockPartsSpec)

/-- 'perigeelaw19.DockRefuses', WHERE WHAT IT READS IS OF BULK AT MOST 1048576: true; the input reads as it did. -/
def dockRefusesUptoRow : OpenClaim := { program := "ytdphhkbbphfjlaa", sum := "9a1a0c467836494fbcd97714a414913c642f3f9e0c5eac60fb288b306f0a4ccf", func := "perigee/perigeelaw19.DockRefuses", spec := "dockRefuses", inPlace := ["math/bits.Sub64", "math/bits.Add64"], unfollowed := true, recurses := true, apart := false, narrowed := true }
def DockRefusesUptoSaid : Prop := dockRefusesUptoRow.holds Try.pinned (OpenSpec.upto dockRefusesSpec)

/-- 'perigeelaw19.DockTethers', WHERE WHAT IT READS IS OF BULK AT MOST 1048576: true; the input reads as it did. -/
def dockTethersUptoRow : OpenClaim := { program := "ytdphhkbbphfjlaa", sum := "9a1a0c467836494fbcd97714a414913c642f3f9e0c5eac60fb288b306f0a4ccf", func := "perigee/perigeelaw19.DockTethers", spec := "dockTethers", inPlace := ["math/bits.Sub64", "math/bits.Add64"], unfollowed := true, recurses := true, apart := false, narrowed := true }
def DockTethersUptoSaid : Prop := dockTethersUptoRow.holds Try.pinned (OpenSpec.upto dockTethersSpec)

end Rows
end Go.Proofs.Ytdphhkbbphfjlaa
