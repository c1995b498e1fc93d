/-
  NARROWER THAN 'FOR EVERY INPUT', by the rows' own cells (each row's printed sentence says how): RootTells: laid · RootContents: laid · RootItems: laid · RootValue: laid · RootLeaf: laid · ProveTells: laid · ProveSame: laid · ProveChains: laid · ProveAll: laid.
  DERIVED. THE GIVEN ROWS OF THIS SEAT. 9 by the template 'for every input the law returns true; each argument reads behind the call as it read before'; 0 by the template 'total and deterministic' (their statements: YtckhmgglgbnaaaaDoorTotals.lean).
  GIVEN WITH THE SEED: the statements are not yours to turn. If you find one false, say at which input.
  Laid BY PROGRAM, IN A SANDBOX (cutbox-rows.mjs): the forced cells as the released guide's own fill.sh prints them over the translation 85901e048f117083… (all of the seat's roots in one cut). By AI agents, Wed Nov 11 2026. No macro, syntax, notation, axiom, sorry.
-/
import Derived.Test.YtckhmgglgbnaaaaDoorChecked
import GoSem.Claim
import GoSem.ClaimJoined
import GoSem.ClaimMapViews
import Derived.JoinedTies
import Derived.KernelRfl
namespace Go.Proofs.YtckhmgglgbnaaaaDoor
/- THE CELL 'sum', in the pinned program and in every row, IS THE sha256 OF THE DUMP (.gsa) THAT YtckhmgglgbnaaaaDoorProg.lean LOADS. Nothing in Lean hashes anything: it is a label: what it is worth is what the hold of that sum in a sandbox is worth. -/
noncomputable def Tryd.pinned : Pinned := { name := "ytckhmgglgbnaaaadoor", sum := "85901e048f117083b85c32a8eca95e5ae03ccbe57e2c12649397529a21c2e0a5", checked := Tryd.checked }
namespace Rows
def none {H : Type} : Left H := { results := [], args := [] }

/- WHAT THE LISTED PACKAGE-LEVEL VARIABLES READ AS WHEN THE CALL BEGINS. Each datum BY PROGRAM (the guide's laid-datum.mjs) off the statement by which the dump's own 'gosem.cut.vars' lays the variable. In a bare row this is a premise. The card (YtckhmgglgbnaaaaDoorCards.lean) ties it to the program's text. -/
def laid_umbel_digest_begin {H : Type} : DataW H := .agg [.lit (.int .u32 1779033703), .lit (.int .u32 3144134277), .lit (.int .u32 1013904242), .lit (.int .u32 2773480762), .lit (.int .u32 1359893119), .lit (.int .u32 2600822924), .lit (.int .u32 528734635), .lit (.int .u32 1541459225)]
def laid_umbel_digest_rounds {H : Type} : DataW H := .agg [.lit (.int .u32 1116352408), .lit (.int .u32 1899447441), .lit (.int .u32 3049323471), .lit (.int .u32 3921009573), .lit (.int .u32 961987163), .lit (.int .u32 1508970993), .lit (.int .u32 2453635748), .lit (.int .u32 2870763221), .lit (.int .u32 3624381080), .lit (.int .u32 310598401), .lit (.int .u32 607225278), .lit (.int .u32 1426881987), .lit (.int .u32 1925078388), .lit (.int .u32 2162078206), .lit (.int .u32 2614888103), .lit (.int .u32 3248222580), .lit (.int .u32 3835390401), .lit (.int .u32 4022224774), .lit (.int .u32 264347078), .lit (.int .u32 604807628), .lit (.int .u32 770255983), .lit (.int .u32 1249150122), .lit (.int .u32 1555081692), .lit (.int .u32 1996064986), .lit (.int .u32 2554220882), .lit (.int .u32 2821834349), .lit (.int .u32 2952996808), .lit (.int .u32 3210313671), .lit (.int .u32 3336571891), .lit (.int .u32 3584528711), .lit (.int .u32 113926993), .lit (.int .u32 338241895), .lit (.int .u32 666307205), .lit (.int .u32 773529912), .lit (.int .u32 1294757372), .lit (.int .u32 1396182291), .lit (.int .u32 1695183700), .lit (.int .u32 1986661051), .lit (.int .u32 2177026350), .lit (.int .u32 2456956037), .lit (.int .u32 2730485921), .lit (.int .u32 2820302411), .lit (.int .u32 3259730800), .lit (.int .u32 3345764771), .lit (.int .u32 3516065817), .lit (.int .u32 3600352804), .lit (.int .u32 4094571909), .lit (.int .u32 275423344), .lit (.int .u32 430227734), .lit (.int .u32 506948616), .lit (.int .u32 659060556), .lit (.int .u32 883997877), .lit (.int .u32 958139571), .lit (.int .u32 1322822218), .lit (.int .u32 1537002063), .lit (.int .u32 1747873779), .lit (.int .u32 1955562222), .lit (.int .u32 2024104815), .lit (.int .u32 2227730452), .lit (.int .u32 2361852424), .lit (.int .u32 2428436474), .lit (.int .u32 2756734187), .lit (.int .u32 3204031479), .lit (.int .u32 3329325298)]

/-- 'umbellaw11.RootTells': WHATEVER THE INPUT: true; the input reads as it did. -/
def rootTellsSpec : ChangeSpec := { name := "rootTells", fn := fun _ => fun
  | [d1, d2] => { results := [.lit (.bool true)], args := [d1, d2] }
  | _ => none }
def rootTellsRow : OpenClaim := { program := "ytckhmgglgbnaaaadoor", sum := "85901e048f117083b85c32a8eca95e5ae03ccbe57e2c12649397529a21c2e0a5", func := "umbel/umbellaw11.RootTells", spec := "rootTells", inPlace := ["internal/abi.NoEscape", "internal/bytealg.MakeNoZero"], unfollowed := true, recurses := true, named := ["umbel/digest.begin", "umbel/digest.rounds"], apart := false, laid := [("umbel/digest.begin", laid_umbel_digest_begin), ("umbel/digest.rounds", laid_umbel_digest_rounds)] }
def RootTellsSaid : Prop := rootTellsRow.holds Tryd.pinned (OpenSpec.ofChange rootTellsSpec)

/-- ITS FALSE NEIGHBOUR: 'it returns false'. Refute it at one input. -/
def rootTellsWrong : ChangeSpec := { name := "rootTells", fn := fun _ => fun
  | [d1, d2] => { results := [.lit (.bool false)], args := [d1, d2] }
  | _ => none }
def RootTellsWrongFalsely : Prop := rootTellsRow.holds Tryd.pinned (OpenSpec.ofChange rootTellsWrong)

/-- 'umbellaw11.RootContents': WHATEVER THE INPUT: true; the input reads as it did. -/
def rootContentsSpec : ChangeSpec := { name := "rootContents", fn := fun _ => fun
  | [d1, d2] => { results := [.lit (.bool true)], args := [d1, d2] }
  | _ => none }
def rootContentsRow : OpenClaim := { program := "ytckhmgglgbnaaaadoor", sum := "85901e048f117083b85c32a8eca95e5ae03ccbe57e2c12649397529a21c2e0a5", func := "umbel/umbellaw11.RootContents", spec := "rootContents", inPlace := ["internal/abi.NoEscape", "internal/bytealg.MakeNoZero"], unfollowed := true, recurses := true, named := ["umbel/digest.begin", "umbel/digest.rounds"], apart := false, laid := [("umbel/digest.begin", laid_umbel_digest_begin), ("umbel/digest.rounds", laid_umbel_digest_rounds)] }
def RootContentsSaid : Prop := rootContentsRow.holds Tryd.pinned (OpenSpec.ofChange rootContentsSpec)

/-- ITS FALSE NEIGHBOUR: 'it returns false'. Refute it at one input. -/
def rootContentsWrong : ChangeSpec := { name := "rootContents", fn := fun _ => fun
  | [d1, d2] => { results := [.lit (.bool false)], args := [d1, d2] }
  | _ => none }
def RootContentsWrongFalsely : Prop := rootContentsRow.holds Tryd.pinned (OpenSpec.ofChange rootContentsWrong)

/-- 'umbellaw11.RootItems': WHATEVER THE INPUT: true; the input reads as it did. -/
def rootItemsSpec : ChangeSpec := { name := "rootItems", fn := fun _ => fun
  | [d] => { results := [.lit (.bool true)], args := [d] }
  | _ => none }
def rootItemsRow : OpenClaim := { program := "ytckhmgglgbnaaaadoor", sum := "85901e048f117083b85c32a8eca95e5ae03ccbe57e2c12649397529a21c2e0a5", func := "umbel/umbellaw11.RootItems", spec := "rootItems", inPlace := ["internal/abi.NoEscape", "internal/bytealg.MakeNoZero"], unfollowed := true, recurses := true, named := ["umbel/digest.begin", "umbel/digest.rounds"], apart := false, laid := [("umbel/digest.begin", laid_umbel_digest_begin), ("umbel/digest.rounds", laid_umbel_digest_rounds)] }
def RootItemsSaid : Prop := rootItemsRow.holds Tryd.pinned (OpenSpec.ofChange rootItemsSpec)

/-- ITS FALSE NEIGHBOUR: 'it returns false'. Refute it at one input. -/
def rootItemsWrong : ChangeSpec := { name := "rootItems", fn := fun _ => fun
  | [d] => { results := [.lit (.bool false)], args := [d] }
  | _ => none }
def RootItemsWrongFalsely : Prop := rootItemsRow.holds Tryd.pinned (OpenSpec.ofChange rootItemsWrong)

/-- 'umbellaw11.RootValue': WHATEVER THE INPUT: true; the input reads as it did. -/
def rootValueSpec : ChangeSpec := { name := "rootValue", fn := fun _ => fun
  | [d1, d2, d3] => { results := [.lit (.bool true)], args := [d1, d2, d3] }
  | _ => none }
def rootValueRow : OpenClaim := { program := "ytckhmgglgbnaaaadoor", sum := "85901e048f117083b85c32a8eca95e5ae03ccbe57e2c12649397529a21c2e0a5", func := "umbel/umbellaw11.RootValue", spec := "rootValue", inPlace := ["internal/abi.NoEscape", "internal/bytealg.MakeNoZero"], unfollowed := true, recurses := true, named := ["umbel/digest.begin", "umbel/digest.rounds"], apart := false, laid := [("umbel/digest.begin", laid_umbel_digest_begin), ("umbel/digest.rounds", laid_umbel_digest_rounds)] }
def RootValueSaid : Prop := rootValueRow.holds Tryd.pinned (OpenSpec.ofChange rootValueSpec)

/-- ITS FALSE NEIGHBOUR: 'it returns false'. Refute it at one input. -/
def rootValueWrong : ChangeSpec := { name := "rootValue", fn := fun _ => fun
  | [d1, d2, d3] => { results := [.lit (.bool false)], args := [d1, d2, d3] }
  | _ => none }
def RootValueWrongFalsely : Prop := rootValueRow.holds Tryd.pinned (OpenSpec.ofChange rootValueWrong)

/-- 'umbellaw11.RootLeaf': WHATEVER THE INPUT: true; the input reads as it did. -/
def rootLeafSpec : ChangeSpec := { name := "rootLeaf", fn := fun _ => fun
  | [d1, d2] => { results := [.lit (.bool true)], args := [d1, d2] }
  | _ => none }
def rootLeafRow : OpenClaim := { program := "ytckhmgglgbnaaaadoor", sum := "85901e048f117083b85c32a8eca95e5ae03ccbe57e2c12649397529a21c2e0a5", func := "umbel/umbellaw11.RootLeaf", spec := "rootLeaf", inPlace := ["internal/abi.NoEscape", "internal/bytealg.MakeNoZero"], unfollowed := true, recurses := true, named := ["umbel/digest.begin", "umbel/digest.rounds"], apart := false, laid := [("umbel/digest.begin", laid_umbel_digest_begin), ("umbel/digest.rounds", laid_umbel_digest_rounds)] }
def RootLeafSaid : Prop := rootLeafRow.holds Tryd.pinned (OpenSpec.ofChange rootLeafSpec)

/-- ITS FALSE NEIGHBOUR: 'it returns false'. Refute it at one input. -/
def rootLeafWrong : ChangeSpec := { name := "rootLeaf", fn := fun _ => fun
  | [d1, d2] => { results := [.lit (.bool false)], args := [d1, d2] }
  | _ => none }
def RootLeafWrongFalsely : Prop := rootLeafRow.holds Tryd.pinned (OpenSpec.ofChange rootLeafWrong)

/-- 'umbellaw16.ProveTells': WHATEVER THE INPUT: true; the input reads as it did. -/
def proveTellsSpec : ChangeSpec := { name := "proveTells", fn := fun _ => fun
  | [d1, d2] => { results := [.lit (.bool true)], args := [d1, d2] }
  | _ => none }
def proveTellsRow : OpenClaim := { program := "ytckhmgglgbnaaaadoor", sum := "85901e048f117083b85c32a8eca95e5ae03ccbe57e2c12649397529a21c2e0a5", func := "umbel/umbellaw16.ProveTells", spec := "proveTells", inPlace := ["internal/abi.NoEscape", "internal/bytealg.MakeNoZero"], unfollowed := true, recurses := true, named := ["umbel/digest.begin", "umbel/digest.rounds"], apart := false, laid := [("umbel/digest.begin", laid_umbel_digest_begin), ("umbel/digest.rounds", laid_umbel_digest_rounds)] }
def ProveTellsSaid : Prop := proveTellsRow.holds Tryd.pinned (OpenSpec.ofChange proveTellsSpec)

/-- ITS FALSE NEIGHBOUR: 'it returns false'. Refute it at one input. -/
def proveTellsWrong : ChangeSpec := { name := "proveTells", fn := fun _ => fun
  | [d1, d2] => { results := [.lit (.bool false)], args := [d1, d2] }
  | _ => none }
def ProveTellsWrongFalsely : Prop := proveTellsRow.holds Tryd.pinned (OpenSpec.ofChange proveTellsWrong)

/-- 'umbellaw16.ProveSame': WHATEVER THE INPUT: true; the input reads as it did. -/
def proveSameSpec : ChangeSpec := { name := "proveSame", fn := fun _ => fun
  | [d1, d2, d3] => { results := [.lit (.bool true)], args := [d1, d2, d3] }
  | _ => none }
def proveSameRow : OpenClaim := { program := "ytckhmgglgbnaaaadoor", sum := "85901e048f117083b85c32a8eca95e5ae03ccbe57e2c12649397529a21c2e0a5", func := "umbel/umbellaw16.ProveSame", spec := "proveSame", inPlace := ["internal/abi.NoEscape", "internal/bytealg.MakeNoZero"], unfollowed := true, recurses := true, named := ["umbel/digest.begin", "umbel/digest.rounds"], apart := false, laid := [("umbel/digest.begin", laid_umbel_digest_begin), ("umbel/digest.rounds", laid_umbel_digest_rounds)] }
def ProveSameSaid : Prop := proveSameRow.holds Tryd.pinned (OpenSpec.ofChange proveSameSpec)

/-- ITS FALSE NEIGHBOUR: 'it returns false'. Refute it at one input. -/
def proveSameWrong : ChangeSpec := { name := "proveSame", fn := fun _ => fun
  | [d1, d2, d3] => { results := [.lit (.bool false)], args := [d1, d2, d3] }
  | _ => none }
def ProveSameWrongFalsely : Prop := proveSameRow.holds Tryd.pinned (OpenSpec.ofChange proveSameWrong)

/-- 'umbellaw16.ProveChains': WHATEVER THE INPUT: true; the input reads as it did. -/
def proveChainsSpec : ChangeSpec := { name := "proveChains", fn := fun _ => fun
  | [d1, d2] => { results := [.lit (.bool true)], args := [d1, d2] }
  | _ => none }
def proveChainsRow : OpenClaim := { program := "ytckhmgglgbnaaaadoor", sum := "85901e048f117083b85c32a8eca95e5ae03ccbe57e2c12649397529a21c2e0a5", func := "umbel/umbellaw16.ProveChains", spec := "proveChains", inPlace := ["internal/abi.NoEscape", "internal/bytealg.MakeNoZero"], unfollowed := true, recurses := true, named := ["umbel/digest.begin", "umbel/digest.rounds"], apart := false, laid := [("umbel/digest.begin", laid_umbel_digest_begin), ("umbel/digest.rounds", laid_umbel_digest_rounds)] }
def ProveChainsSaid : Prop := proveChainsRow.holds Tryd.pinned (OpenSpec.ofChange proveChainsSpec)

/-- ITS FALSE NEIGHBOUR: 'it returns false'. Refute it at one input. -/
def proveChainsWrong : ChangeSpec := { name := "proveChains", fn := fun _ => fun
  | [d1, d2] => { results := [.lit (.bool false)], args := [d1, d2] }
  | _ => none }
def ProveChainsWrongFalsely : Prop := proveChainsRow.holds Tryd.pinned (OpenSpec.ofChange proveChainsWrong)

/-- 'umbellaw16.ProveAll': WHATEVER THE INPUT: true; the input reads as it did. -/
def proveAllSpec : ChangeSpec := { name := "proveAll", fn := fun _ => fun
  | [d] => { results := [.lit (.bool true)], args := [d] }
  | _ => none }
def proveAllRow : OpenClaim := { program := "ytckhmgglgbnaaaadoor", sum := "85901e048f117083b85c32a8eca95e5ae03ccbe57e2c12649397529a21c2e0a5", func := "umbel/umbellaw16.ProveAll", spec := "proveAll", inPlace := ["internal/abi.NoEscape", "internal/bytealg.MakeNoZero"], unfollowed := true, recurses := true, named := ["umbel/digest.begin", "umbel/digest.rounds"], apart := false, laid := [("umbel/digest.begin", laid_umbel_digest_begin), ("umbel/digest.rounds", laid_umbel_digest_rounds)] }
def ProveAllSaid : Prop := proveAllRow.holds Tryd.pinned (OpenSpec.ofChange proveAllSpec)

/-- ITS FALSE NEIGHBOUR: 'it returns false'. Refute it at one input. -/
def proveAllWrong : ChangeSpec := { name := "proveAll", fn := fun _ => fun
  | [d] => { results := [.lit (.bool false)], args := [d] }
  | _ => none }
def ProveAllWrongFalsely : Prop := proveAllRow.holds Tryd.pinned (OpenSpec.ofChange proveAllWrong)

/- THE SECOND FORM. 'bulk': how many values and letters a reading holds, each counted each time it is reached (what is shared counts as often as it is met; a slice's spare places count too). A statement '..UptoSaid' is the law's where the arguments, and the package variables that the reading takes, are together of bulk at most 1048576: NARROWER than '..Said'. Prove '..Said' where nothing that the law and all that it calls make is longer than what came in: it says more and counts as full. Else prove '..UptoSaid'. A law counts once. -/
mutual
def uptoBulk {H : Type} : DataW H → Nat
  | .lit (.string bytes) => bytes.length + 1
  | .lit _ => 1
  | .nil => 1
  | .ptr d => uptoBulk d + 1
  | .slice elems spare => uptoBulkAll elems + uptoBulkAll spare + 1
  | .agg parts => uptoBulkAll parts + 1
  | .iface _ d => uptoBulk d + 1
  | .map entries => uptoBulkEntries entries + 1
  | .held _ => 1
def uptoBulkAll {H : Type} : List (DataW H) → Nat
  | [] => 0
  | d :: r => uptoBulk d + uptoBulkAll r
def uptoBulkEntries {H : Type} : List (Lit × DataW H) → Nat
  | [] => 0
  | x :: r => uptoBulkEntry x + uptoBulkEntries r
def uptoBulkEntry {H : Type} : Lit × DataW H → Nat
  | (.string bytes, d) => bytes.length + uptoBulk d + 1
  | (_, d) => uptoBulk d + 1
 end
def uptoSmall : (H : Type) → List (DataW H) → Bool := fun _ ds => decide (uptoBulkAll ds ≤ 1048576)
def OpenSpec.upto (s : _root_.Go.ChangeSpec) : _root_.Go.OpenSpec := { _root_.Go.OpenSpec.ofChange s with cond := some uptoSmall }

/-- 'umbellaw11.RootTells', WHERE WHAT IT READS IS OF BULK AT MOST 1048576: true; the input reads as it did. -/
def rootTellsUptoRow : OpenClaim := { program := "ytckhmgglgbnaaaadoor", sum := "85901e048f117083b85c32a8eca95e5ae03ccbe57e2c12649397529a21c2e0a5", func := "umbel/umbellaw11.RootTells", spec := "rootTells", inPlace := ["internal/abi.NoEscape", "internal/bytealg.MakeNoZero"], unfollowed := true, recurses := true, named := ["umbel/digest.begin", "umbel/digest.rounds"], apart := false, laid := [("umbel/digest.begin", laid_umbel_digest_begin), ("umbel/digest.rounds", laid_umbel_digest_rounds)], narrowed := true }
def RootTellsUptoSaid : Prop := rootTellsUptoRow.holds Tryd.pinned (OpenSpec.upto rootTellsSpec)

/-- 'umbellaw11.RootContents', WHERE WHAT IT READS IS OF BULK AT MOST 1048576: true; the input reads as it did. -/
def rootContentsUptoRow : OpenClaim := { program := "ytckhmgglgbnaaaadoor", sum := "85901e048f117083b85c32a8eca95e5ae03ccbe57e2c12649397529a21c2e0a5", func := "umbel/umbellaw11.RootContents", spec := "rootContents", inPlace := ["internal/abi.NoEscape", "internal/bytealg.MakeNoZero"], unfollowed := true, recurses := true, named := ["umbel/digest.begin", "umbel/digest.rounds"], apart := false, laid := [("umbel/digest.begin", laid_umbel_digest_begin), ("umbel/digest.rounds", laid_umbel_digest_rounds)], narrowed := true }
def RootContentsUptoSaid : Prop := rootContentsUptoRow.holds Tryd.pinned (OpenSpec.upto rootContentsSpec)

/-- 'umbellaw11.RootItems', WHERE WHAT IT READS IS OF BULK AT MOST 1048576: true; the input reads as it did. -/
def rootItemsUptoRow : OpenClaim := { program := "ytckhmgglgbnaaaadoor", sum := "85901e048f117083b85c32a8eca95e5ae03ccbe57e2c12649397529a21c2e0a5", func := "umbel/umbellaw11.RootItems", spec := "rootItems", inPlace := ["internal/abi.NoEscape", "internal/bytealg.MakeNoZero"], unfollowed := true, recurses := true, named := ["umbel/digest.begin", "umbel/digest.rounds"], apart := false, laid := [("umbel/digest.begin", laid_umbel_digest_begin), ("umbel/digest.rounds", laid_umbel_digest_rounds)], narrowed := true }
def RootItemsUptoSaid : Prop := rootItemsUptoRow.holds Tryd.pinned (OpenSpec.upto rootItemsSpec)

/-- 'umbellaw11.RootValue', WHERE WHAT IT READS IS OF BULK AT MOST 1048576: true; the input reads as it did. -/
def rootValueUptoRow : OpenClaim := { program := "ytckhmgglgbnaaaadoor", sum := "85901e048f117083b85c32a8eca95e5ae03ccbe57e2c12649397529a21c2e0a5", func := "umbel/umbellaw11.RootValue", spec := "rootValue", inPlace := ["internal/abi.NoEscape", "internal/bytealg.MakeNoZero"], unfollowed := true, recurses := true, named := ["umbel/digest.begin", "umbel/digest.rounds"], apart := false, laid := [("umbel/digest.begin", laid_umbel_digest_begin), ("umbel/digest.rounds", laid_umbel_digest_rounds)], narrowed := true }
def RootValueUptoSaid : Prop := rootValueUptoRow.holds Tryd.pinned (OpenSpec.upto rootValueSpec)

/-- 'umbellaw11.RootLeaf', WHERE WHAT IT READS IS OF BULK AT MOST 1048576: true; the input reads as it did. -/
def rootLeafUptoRow : OpenClaim := { program := "ytckhmgglgbnaaaadoor", sum := "85901e048f117083b85c32a8eca95e5ae03ccbe57e2c12649397529a21c2e0a5", func := "umbel/umbellaw11.RootLeaf", spec := "rootLeaf", inPlace := ["internal/abi.NoEscape", "internal/bytealg.MakeNoZero"], unfollowed := true, recurses := true, named := ["umbel/digest.begin", "umbel/digest.rounds"], apart := false, laid := [("umbel/digest.begin", laid_umbel_digest_begin), ("umbel/digest.rounds", laid_umbel_digest_rounds)], narrowed := true }
def RootLeafUptoSaid : Prop := rootLeafUptoRow.holds Tryd.pinned (OpenSpec.upto rootLeafSpec)

/-- 'umbellaw16.ProveTells', WHERE WHAT IT READS IS OF BULK AT MOST 1048576: true; the input reads as it did. -/
def proveTellsUptoRow : OpenClaim := { program := "ytckhmgglgbnaaaadoor", sum := "85901e048f117083b85c32a8eca95e5ae03ccbe57e2c12649397529a21c2e0a5", func := "umbel/umbellaw16.ProveTells", spec := "proveTells", inPlace := ["internal/abi.NoEscape", "internal/bytealg.MakeNoZero"], unfollowed := true, recurses := true, named := ["umbel/digest.begin", "umbel/digest.rounds"], apart := false, laid := [("umbel/digest.begin", laid_umbel_digest_begin), ("umbel/digest.rounds", laid_umbel_digest_rounds)], narrowed := true }
def ProveTellsUptoSaid : Prop := proveTellsUptoRow.holds Tryd.pinned (OpenSpec.upto proveTellsSpec)

/-- 'umbellaw16.ProveSame', WHERE WHAT IT READS IS OF BULK AT MOST 1048576: true; the input reads as it did. -/
def proveSameUptoRow : OpenClaim := { program := "ytckhmgglgbnaaaadoor", sum := "85901e048f117083b85c32a8eca95e5ae03ccbe57e2c12649397529a21c2e0a5", func := "umbel/umbellaw16.ProveSame", spec := "proveSame", inPlace := ["internal/abi.NoEscape", "internal/bytealg.MakeNoZero"], unfollowed := true, recurses := true, named := ["umbel/digest.begin", "umbel/digest.rounds"], apart := false, laid := [("umbel/digest.begin", laid_umbel_digest_begin), ("umbel/digest.rounds", laid_umbel_digest_rounds)], narrowed := true }
def ProveSameUptoSaid : Prop := proveSameUptoRow.holds Tryd.pinned (OpenSpec.upto proveSameSpec)

/-- 'umbellaw16.ProveChains', WHERE WHAT IT READS IS OF BULK AT MOST 1048576: true; the input reads as it did. -/
def proveChainsUptoRow : OpenClaim := { program := "ytckhmgglgbnaaaadoor", sum := "85901e048f117083b85c32a8eca95e5ae03ccbe57e2c12649397529a21c2e0a5", func := "umbel/umbellaw16.ProveChains", spec := "proveChains", inPlace := ["internal/abi.NoEscape", "internal/bytealg.MakeNoZero"], unfollowed := true, recurses := true, named := ["umbel/digest.begin", "umbel/digest.rounds"], apart := false, laid := [("umbel/digest.begin", laid_umbel_digest_begin), ("umbel/digest.rounds", laid_umbel_digest_rounds)], narrowed := true }
def ProveChainsUptoSaid : Prop := proveChainsUptoRow.holds Tryd.pinned (OpenSpec.upto proveChainsSpec)

/-- 'umbellaw16.ProveAll', WHERE WHAT IT READS IS OF BULK AT MOST 1048576: true; the input reads as it did. -/
def proveAllUptoRow : OpenClaim := { program := "ytckhmgglgbnaaaadoor", sum := "85901e048f117083b85c32a8eca95e5ae03ccbe57e2c12649397529a21c2e0a5", func := "umbel/umbellaw16.ProveAll", spec := "proveAll", inPlace := ["internal/abi.NoEscape", "internal/bytealg.MakeNoZero"], unfollowed := true, recurses := true, named := ["umbel/digest.begin", "umbel/digest.rounds"], apart := false, laid := [("umbel/digest.begin", laid_umbel_digest_begin), ("umbel/digest.rounds", laid_umbel_digest_rounds)], narrowed := true }
def ProveAllUptoSaid : Prop := proveAllUptoRow.holds Tryd.pinned (OpenSpec.upto proveAllSpec)

end Rows
end Go.Proofs.YtckhmgglgbnaaaaDoor
