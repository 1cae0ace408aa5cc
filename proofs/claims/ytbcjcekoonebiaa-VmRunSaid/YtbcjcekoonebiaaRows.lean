/-
  NARROWER THAN 'FOR EVERY INPUT', by the rows' own cells (each row's printed sentence says how): EvalAny: loops · EvalParts: loops · VmRun: loops · WireValues: loops · WireApart: loops · WireCut: loops · VmPlain: loops.
  DERIVED. THE GIVEN ROWS OF THIS SEAT. 13 by the template 'for every input the law returns true; each argument reads behind the call as it read before'; 0 by the template 'total and deterministic' (their statements: YtbcjcekoonebiaaTotals.lean).
  GIVEN WITH THE SEED: the statements are not yours to turn. If you find one false, say at which input.
  Laid BY PROGRAM, IN A SANDBOX (cutbox-rows.mjs): the forced cells as the released guide's own fill.sh prints them over the translation 8eaeebeba6a25013… (all of the seat's roots in one cut). By AI agents, Wed Nov 11 2026. No macro, syntax, notation, axiom, sorry.
-/
import Derived.Test.YtbcjcekoonebiaaChecked
import GoSem.Claim
import GoSem.ClaimJoined
import GoSem.ClaimMapViews
import Derived.JoinedTies
import Derived.KernelRfl
namespace Go.Proofs.Ytbcjcekoonebiaa
/- THE CELL 'sum', in the pinned program and in every row, IS THE sha256 OF THE DUMP (.gsa) THAT YtbcjcekoonebiaaProg.lean LOADS. Nothing in Lean hashes anything: it is a label: what it is worth is what the hold of that sum in a sandbox is worth. -/
noncomputable def Try.pinned : Pinned := { name := "ytbcjcekoonebiaa", sum := "8eaeebeba6a2501354ab674777349581036f4ad508ea241d443a33c52564de05", checked := Try.checked }
namespace Rows
def none {H : Type} : Left H := { results := [], args := [] }

/-- 'runnellaw6.EvalAny': WHATEVER THE INPUT: true; the input reads as it did. -/
def evalAnySpec : ChangeSpec := { name := "evalAny", fn := fun _ => fun
  | [d1, d2] => { results := [.lit (.bool true)], args := [d1, d2] }
  | _ => none }
def evalAnyRow : OpenClaim := { program := "ytbcjcekoonebiaa", sum := "8eaeebeba6a2501354ab674777349581036f4ad508ea241d443a33c52564de05", func := "runnel/runnellaw6.EvalAny", spec := "evalAny", inPlace := ["internal/bytealg.abigen_runtime_cmpstring"], unfollowed := true, recurses := true, loops := true, apart := false }
def EvalAnySaid : Prop := evalAnyRow.holds Try.pinned (OpenSpec.ofChange evalAnySpec)

/-- ITS FALSE NEIGHBOUR: 'it returns false'. Refute it at one input. -/
def evalAnyWrong : ChangeSpec := { name := "evalAny", fn := fun _ => fun
  | [d1, d2] => { results := [.lit (.bool false)], args := [d1, d2] }
  | _ => none }
def EvalAnyWrongFalsely : Prop := evalAnyRow.holds Try.pinned (OpenSpec.ofChange evalAnyWrong)

/-- 'runnellaw6.EvalNums': WHATEVER THE INPUT: true; the input reads as it did. -/
def evalNumsSpec : ChangeSpec := { name := "evalNums", fn := fun _ => fun
  | [d1, d2] => { results := [.lit (.bool true)], args := [d1, d2] }
  | _ => none }
def evalNumsRow : OpenClaim := { program := "ytbcjcekoonebiaa", sum := "8eaeebeba6a2501354ab674777349581036f4ad508ea241d443a33c52564de05", func := "runnel/runnellaw6.EvalNums", spec := "evalNums", inPlace := ["internal/bytealg.abigen_runtime_cmpstring"], unfollowed := true, recurses := true, apart := false }
def EvalNumsSaid : Prop := evalNumsRow.holds Try.pinned (OpenSpec.ofChange evalNumsSpec)

/-- ITS FALSE NEIGHBOUR: 'it returns false'. Refute it at one input. -/
def evalNumsWrong : ChangeSpec := { name := "evalNums", fn := fun _ => fun
  | [d1, d2] => { results := [.lit (.bool false)], args := [d1, d2] }
  | _ => none }
def EvalNumsWrongFalsely : Prop := evalNumsRow.holds Try.pinned (OpenSpec.ofChange evalNumsWrong)

/-- 'runnellaw6.EvalLazy': WHATEVER THE INPUT: true; the input reads as it did. -/
def evalLazySpec : ChangeSpec := { name := "evalLazy", fn := fun _ => fun
  | [d1, d2, d3] => { results := [.lit (.bool true)], args := [d1, d2, d3] }
  | _ => none }
def evalLazyRow : OpenClaim := { program := "ytbcjcekoonebiaa", sum := "8eaeebeba6a2501354ab674777349581036f4ad508ea241d443a33c52564de05", func := "runnel/runnellaw6.EvalLazy", spec := "evalLazy", inPlace := ["internal/bytealg.abigen_runtime_cmpstring"], unfollowed := true, recurses := true, apart := false }
def EvalLazySaid : Prop := evalLazyRow.holds Try.pinned (OpenSpec.ofChange evalLazySpec)

/-- ITS FALSE NEIGHBOUR: 'it returns false'. Refute it at one input. -/
def evalLazyWrong : ChangeSpec := { name := "evalLazy", fn := fun _ => fun
  | [d1, d2, d3] => { results := [.lit (.bool false)], args := [d1, d2, d3] }
  | _ => none }
def EvalLazyWrongFalsely : Prop := evalLazyRow.holds Try.pinned (OpenSpec.ofChange evalLazyWrong)

/-- 'runnellaw6.EvalTexts': WHATEVER THE INPUT: true; the input reads as it did. -/
def evalTextsSpec : ChangeSpec := { name := "evalTexts", fn := fun _ => fun
  | [d1, d2] => { results := [.lit (.bool true)], args := [d1, d2] }
  | _ => none }
def evalTextsRow : OpenClaim := { program := "ytbcjcekoonebiaa", sum := "8eaeebeba6a2501354ab674777349581036f4ad508ea241d443a33c52564de05", func := "runnel/runnellaw6.EvalTexts", spec := "evalTexts", inPlace := ["internal/bytealg.abigen_runtime_cmpstring"], unfollowed := true, recurses := true, apart := false }
def EvalTextsSaid : Prop := evalTextsRow.holds Try.pinned (OpenSpec.ofChange evalTextsSpec)

/-- ITS FALSE NEIGHBOUR: 'it returns false'. Refute it at one input. -/
def evalTextsWrong : ChangeSpec := { name := "evalTexts", fn := fun _ => fun
  | [d1, d2] => { results := [.lit (.bool false)], args := [d1, d2] }
  | _ => none }
def EvalTextsWrongFalsely : Prop := evalTextsRow.holds Try.pinned (OpenSpec.ofChange evalTextsWrong)

/-- 'runnellaw6.EvalParts': WHATEVER THE INPUT: true; the input reads as it did. -/
def evalPartsSpec : ChangeSpec := { name := "evalParts", fn := fun _ => fun
  | [d] => { results := [.lit (.bool true)], args := [d] }
  | _ => none }
def evalPartsRow : OpenClaim := { program := "ytbcjcekoonebiaa", sum := "8eaeebeba6a2501354ab674777349581036f4ad508ea241d443a33c52564de05", func := "runnel/runnellaw6.EvalParts", spec := "evalParts", inPlace := ["internal/bytealg.abigen_runtime_cmpstring"], unfollowed := true, recurses := true, loops := true, apart := false }
def EvalPartsSaid : Prop := evalPartsRow.holds Try.pinned (OpenSpec.ofChange evalPartsSpec)

/-- ITS FALSE NEIGHBOUR: 'it returns false'. Refute it at one input. -/
def evalPartsWrong : ChangeSpec := { name := "evalParts", fn := fun _ => fun
  | [d] => { results := [.lit (.bool false)], args := [d] }
  | _ => none }
def EvalPartsWrongFalsely : Prop := evalPartsRow.holds Try.pinned (OpenSpec.ofChange evalPartsWrong)

/-- 'runnellaw14.VmRun': WHATEVER THE INPUT: true; the input reads as it did. -/
def vmRunSpec : ChangeSpec := { name := "vmRun", fn := fun _ => fun
  | [d1, d2] => { results := [.lit (.bool true)], args := [d1, d2] }
  | _ => none }
def vmRunRow : OpenClaim := { program := "ytbcjcekoonebiaa", sum := "8eaeebeba6a2501354ab674777349581036f4ad508ea241d443a33c52564de05", func := "runnel/runnellaw14.VmRun", spec := "vmRun", inPlace := ["internal/bytealg.abigen_runtime_cmpstring"], unfollowed := true, recurses := true, loops := true, apart := false }
def VmRunSaid : Prop := vmRunRow.holds Try.pinned (OpenSpec.ofChange vmRunSpec)

/-- ITS FALSE NEIGHBOUR: 'it returns false'. Refute it at one input. -/
def vmRunWrong : ChangeSpec := { name := "vmRun", fn := fun _ => fun
  | [d1, d2] => { results := [.lit (.bool false)], args := [d1, d2] }
  | _ => none }
def VmRunWrongFalsely : Prop := vmRunRow.holds Try.pinned (OpenSpec.ofChange vmRunWrong)

/-- 'runnellaw14.VmFused': WHATEVER THE INPUT: true; the input reads as it did. -/
def vmFusedSpec : ChangeSpec := { name := "vmFused", fn := fun _ => fun
  | [d1, d2, d3] => { results := [.lit (.bool true)], args := [d1, d2, d3] }
  | _ => none }
def vmFusedRow : OpenClaim := { program := "ytbcjcekoonebiaa", sum := "8eaeebeba6a2501354ab674777349581036f4ad508ea241d443a33c52564de05", func := "runnel/runnellaw14.VmFused", spec := "vmFused", inPlace := ["internal/bytealg.abigen_runtime_cmpstring"], unfollowed := true, recurses := true, apart := false }
def VmFusedSaid : Prop := vmFusedRow.holds Try.pinned (OpenSpec.ofChange vmFusedSpec)

/-- ITS FALSE NEIGHBOUR: 'it returns false'. Refute it at one input. -/
def vmFusedWrong : ChangeSpec := { name := "vmFused", fn := fun _ => fun
  | [d1, d2, d3] => { results := [.lit (.bool false)], args := [d1, d2, d3] }
  | _ => none }
def VmFusedWrongFalsely : Prop := vmFusedRow.holds Try.pinned (OpenSpec.ofChange vmFusedWrong)

/-- 'runnellaw3.WireValues': WHATEVER THE INPUT: true; the input reads as it did. -/
def wireValuesSpec : ChangeSpec := { name := "wireValues", fn := fun _ => fun
  | [d1, d2] => { results := [.lit (.bool true)], args := [d1, d2] }
  | _ => none }
def wireValuesRow : OpenClaim := { program := "ytbcjcekoonebiaa", sum := "8eaeebeba6a2501354ab674777349581036f4ad508ea241d443a33c52564de05", func := "runnel/runnellaw3.WireValues", spec := "wireValues", inPlace := ["internal/bytealg.abigen_runtime_cmpstring"], unfollowed := true, recurses := true, loops := true, apart := false }
def WireValuesSaid : Prop := wireValuesRow.holds Try.pinned (OpenSpec.ofChange wireValuesSpec)

/-- ITS FALSE NEIGHBOUR: 'it returns false'. Refute it at one input. -/
def wireValuesWrong : ChangeSpec := { name := "wireValues", fn := fun _ => fun
  | [d1, d2] => { results := [.lit (.bool false)], args := [d1, d2] }
  | _ => none }
def WireValuesWrongFalsely : Prop := wireValuesRow.holds Try.pinned (OpenSpec.ofChange wireValuesWrong)

/-- 'runnellaw3.WireApart': WHATEVER THE INPUT: true; the input reads as it did. -/
def wireApartSpec : ChangeSpec := { name := "wireApart", fn := fun _ => fun
  | [d1, d2] => { results := [.lit (.bool true)], args := [d1, d2] }
  | _ => none }
def wireApartRow : OpenClaim := { program := "ytbcjcekoonebiaa", sum := "8eaeebeba6a2501354ab674777349581036f4ad508ea241d443a33c52564de05", func := "runnel/runnellaw3.WireApart", spec := "wireApart", inPlace := ["internal/bytealg.abigen_runtime_cmpstring"], unfollowed := true, recurses := true, loops := true, apart := false }
def WireApartSaid : Prop := wireApartRow.holds Try.pinned (OpenSpec.ofChange wireApartSpec)

/-- ITS FALSE NEIGHBOUR: 'it returns false'. Refute it at one input. -/
def wireApartWrong : ChangeSpec := { name := "wireApart", fn := fun _ => fun
  | [d1, d2] => { results := [.lit (.bool false)], args := [d1, d2] }
  | _ => none }
def WireApartWrongFalsely : Prop := wireApartRow.holds Try.pinned (OpenSpec.ofChange wireApartWrong)

/-- 'runnellaw3.WireCut': WHATEVER THE INPUT: true; the input reads as it did. -/
def wireCutSpec : ChangeSpec := { name := "wireCut", fn := fun _ => fun
  | [d1, d2] => { results := [.lit (.bool true)], args := [d1, d2] }
  | _ => none }
def wireCutRow : OpenClaim := { program := "ytbcjcekoonebiaa", sum := "8eaeebeba6a2501354ab674777349581036f4ad508ea241d443a33c52564de05", func := "runnel/runnellaw3.WireCut", spec := "wireCut", inPlace := ["internal/bytealg.abigen_runtime_cmpstring"], unfollowed := true, recurses := true, loops := true, apart := false }
def WireCutSaid : Prop := wireCutRow.holds Try.pinned (OpenSpec.ofChange wireCutSpec)

/-- ITS FALSE NEIGHBOUR: 'it returns false'. Refute it at one input. -/
def wireCutWrong : ChangeSpec := { name := "wireCut", fn := fun _ => fun
  | [d1, d2] => { results := [.lit (.bool false)], args := [d1, d2] }
  | _ => none }
def WireCutWrongFalsely : Prop := wireCutRow.holds Try.pinned (OpenSpec.ofChange wireCutWrong)

/-- 'runnellaw3.WireSizes': WHATEVER THE INPUT: true; the input reads as it did. -/
def wireSizesSpec : ChangeSpec := { name := "wireSizes", fn := fun _ => fun
  | [d] => { results := [.lit (.bool true)], args := [d] }
  | _ => none }
def wireSizesRow : OpenClaim := { program := "ytbcjcekoonebiaa", sum := "8eaeebeba6a2501354ab674777349581036f4ad508ea241d443a33c52564de05", func := "runnel/runnellaw3.WireSizes", spec := "wireSizes", inPlace := ["internal/bytealg.abigen_runtime_cmpstring"], unfollowed := true, recurses := true, apart := false }
def WireSizesSaid : Prop := wireSizesRow.holds Try.pinned (OpenSpec.ofChange wireSizesSpec)

/-- ITS FALSE NEIGHBOUR: 'it returns false'. Refute it at one input. -/
def wireSizesWrong : ChangeSpec := { name := "wireSizes", fn := fun _ => fun
  | [d] => { results := [.lit (.bool false)], args := [d] }
  | _ => none }
def WireSizesWrongFalsely : Prop := wireSizesRow.holds Try.pinned (OpenSpec.ofChange wireSizesWrong)

/-- 'runnellaw14.VmPlain': WHATEVER THE INPUT: true; the input reads as it did. -/
def vmPlainSpec : ChangeSpec := { name := "vmPlain", fn := fun _ => fun
  | [d1, d2] => { results := [.lit (.bool true)], args := [d1, d2] }
  | _ => none }
def vmPlainRow : OpenClaim := { program := "ytbcjcekoonebiaa", sum := "8eaeebeba6a2501354ab674777349581036f4ad508ea241d443a33c52564de05", func := "runnel/runnellaw14.VmPlain", spec := "vmPlain", inPlace := ["internal/bytealg.abigen_runtime_cmpstring"], unfollowed := true, recurses := true, loops := true, apart := false }
def VmPlainSaid : Prop := vmPlainRow.holds Try.pinned (OpenSpec.ofChange vmPlainSpec)

/-- ITS FALSE NEIGHBOUR: 'it returns false'. Refute it at one input. -/
def vmPlainWrong : ChangeSpec := { name := "vmPlain", fn := fun _ => fun
  | [d1, d2] => { results := [.lit (.bool false)], args := [d1, d2] }
  | _ => none }
def VmPlainWrongFalsely : Prop := vmPlainRow.holds Try.pinned (OpenSpec.ofChange vmPlainWrong)

/-- 'runnellaw14.VmLazy': WHATEVER THE INPUT: true; the input reads as it did. -/
def vmLazySpec : ChangeSpec := { name := "vmLazy", fn := fun _ => fun
  | [d1, d2] => { results := [.lit (.bool true)], args := [d1, d2] }
  | _ => none }
def vmLazyRow : OpenClaim := { program := "ytbcjcekoonebiaa", sum := "8eaeebeba6a2501354ab674777349581036f4ad508ea241d443a33c52564de05", func := "runnel/runnellaw14.VmLazy", spec := "vmLazy", inPlace := ["internal/bytealg.abigen_runtime_cmpstring"], unfollowed := true, recurses := true, apart := false }
def VmLazySaid : Prop := vmLazyRow.holds Try.pinned (OpenSpec.ofChange vmLazySpec)

/-- ITS FALSE NEIGHBOUR: 'it returns false'. Refute it at one input. -/
def vmLazyWrong : ChangeSpec := { name := "vmLazy", fn := fun _ => fun
  | [d1, d2] => { results := [.lit (.bool false)], args := [d1, d2] }
  | _ => none }
def VmLazyWrongFalsely : Prop := vmLazyRow.holds Try.pinned (OpenSpec.ofChange vmLazyWrong)

/- THE SECOND FORM. 'bulk': how many values and letters a reading holds, each counted each time it is reached (what is shared counts as often as it is met; a slice's spare places count too). A statement '..UptoSaid' is the law's where the arguments, and the package variables that the reading takes, are together of bulk at most 1048576: NARROWER than '..Said'. Prove '..Said' where nothing that the law and all that it calls make is longer than what came in: it says more and counts as full. Else prove '..UptoSaid'. A law counts once. -/
mutual
def uptoBulk {H : Type} : DataW H → Nat
  | .lit (.string bytes) => bytes.length + 1
  | .lit _ => 1
  | .nil => 1
  | .ptr d => uptoBulk d + 1
  | .slice elems spare => uptoBulkAll elems + uptoBulkAll spare + 1
  | .agg parts => uptoBulkAll parts + 1
  | .iface _ d => uptoBulk d + 1
  | .map entries => uptoBulkEntries entries + 1
  | .held _ => 1
def uptoBulkAll {H : Type} : List (DataW H) → Nat
  | [] => 0
  | d :: r => uptoBulk d + uptoBulkAll r
def uptoBulkEntries {H : Type} : List (Lit × DataW H) → Nat
  | [] => 0
  | x :: r => uptoBulkEntry x + uptoBulkEntries r
def uptoBulkEntry {H : Type} : Lit × DataW H → Nat
  | (.string bytes, d) => bytes.length + uptoBulk d + 1
  | (_, d) => uptoBulk d + 1
 end
def uptoSmall : (H : Type) → List (DataW H) → Bool := fun _ ds => decide (uptoBulkAll ds ≤ 1048576)
def OpenSpec.upto (s : _root_.Go.ChangeSpec) : _root_.Go.OpenSpec := { _root_.Go.OpenSpec.ofChange s with cond := some uptoSmall }

/-- 'runnellaw6.EvalAny', WHERE WHAT IT READS IS OF BULK AT MOST 1048576: true; the input reads as it did. -/
def evalAnyUptoRow : OpenClaim := { program := "ytbcjcekoonebiaa", sum := "8eaeebeba6a2501354ab674777349581036f4ad508ea241d443a33c52564de05", func := "runnel/runnellaw6.EvalAny", spec := "evalAny", inPlace := ["internal/bytealg.abigen_runtime_cmpstring"], unfollowed := true, recurses := true, loops := true, apart := false, narrowed := true }
def EvalAnyUptoSaid : Prop := evalAnyUptoRow.holds Try.pinned (OpenSpec.upto evalAnySpec)

/-- 'runnellaw6.EvalNums', WHERE WHAT IT READS IS OF BULK AT MOST 1048576: true; the input reads as it did. -/
def evalNumsUptoRow : OpenClaim := { program := "ytbcjcekoonebiaa", sum := "8eaeebeba6a2501354ab674777349581036f4ad508ea241d443a33c52564de05", func := "runnel/runnellaw6.EvalNums", spec := "evalNums", inPlace := ["internal/bytealg.abigen_runtime_cmpstring"], unfollowed := true, recurses := true, apart := false, narrowed := true }
def EvalNumsUptoSaid : Prop := evalNumsUptoRow.holds Try.pinned (OpenSpec.upto evalNumsSpec)

/-- 'runnellaw6.EvalLazy', WHERE WHAT IT READS IS OF BULK AT MOST 1048576: true; the input reads as it did. -/
def evalLazyUptoRow : OpenClaim := { program := "ytbcjcekoonebiaa", sum := "8eaeebeba6a2501354ab674777349581036f4ad508ea241d443a33c52564de05", func := "runnel/runnellaw6.EvalLazy", spec := "evalLazy", inPlace := ["internal/bytealg.abigen_runtime_cmpstring"], unfollowed := true, recurses := true, apart := false, narrowed := true }
def EvalLazyUptoSaid : Prop := evalLazyUptoRow.holds Try.pinned (OpenSpec.upto evalLazySpec)

/-- 'runnellaw6.EvalTexts', WHERE WHAT IT READS IS OF BULK AT MOST 1048576: true; the input reads as it did. -/
def evalTextsUptoRow : OpenClaim := { program := "ytbcjcekoonebiaa", sum := "8eaeebeba6a2501354ab674777349581036f4ad508ea241d443a33c52564de05", func := "runnel/runnellaw6.EvalTexts", spec := "evalTexts", inPlace := ["internal/bytealg.abigen_runtime_cmpstring"], unfollowed := true, recurses := true, apart := false, narrowed := true }
def EvalTextsUptoSaid : Prop := evalTextsUptoRow.holds Try.pinned (OpenSpec.upto evalTextsSpec)

/-- 'runnellaw6.EvalParts', WHERE WHAT IT READS IS OF BULK AT MOST 1048576: true; the input reads as it did. -/
def evalPartsUptoRow : OpenClaim := { program := "ytbcjcekoonebiaa", sum := "8eaeebeba6a2501354ab674777349581036f4ad508ea241d443a33c52564de05", func := "runnel/runnellaw6.EvalParts", spec := "evalParts", inPlace := ["internal/bytealg.abigen_runtime_cmpstring"], unfollowed := true, recurses := true, loops := true, apart := false, narrowed := true }
def EvalPartsUptoSaid : Prop := evalPartsUptoRow.holds Try.pinned (OpenSpec.upto evalPartsSpec)

/-- 'runnellaw14.VmRun', WHERE WHAT IT READS IS OF BULK AT MOST 1048576: true; the input reads as it did. -/
def vmRunUptoRow : OpenClaim := { program := "ytbcjcekoonebiaa", sum := "8eaeebeba6a2501354ab674777349581036f4ad508ea241d443a33c52564de05", func := "runnel/runnellaw14.VmRun", spec := "vmRun", inPlace := ["internal/bytealg.abigen_runtime_cmpstring"], unfollowed := true, recurses := true, loops := true, apart := false, narrowed := true }
def VmRunUptoSaid : Prop := vmRunUptoRow.holds Try.pinned (OpenSpec.upto vmRunSpec)

/-- 'runnellaw14.VmFused', WHERE WHAT IT READS IS OF BULK AT MOST 1048576: true; the input reads as it did. -/
def vmFusedUptoRow : OpenClaim := { program := "ytbcjcekoonebiaa", sum := "8eaeebeba6a2501354ab674777349581036f4ad508ea241d443a33c52564de05", func := "runnel/runnellaw14.VmFused", spec := "vmFused", inPlace := ["internal/bytealg.abigen_runtime_cmpstring"], unfollowed := true, recurses := true, apart := false, narrowed := true }
def VmFusedUptoSaid : Prop := vmFusedUptoRow.holds Try.pinned (OpenSpec.upto vmFusedSpec)

/-- 'runnellaw3.WireValues', WHERE WHAT IT READS IS OF BULK AT MOST 1048576: true; the input reads as it did. -/
def wireValuesUptoRow : OpenClaim := { program := "ytbcjcekoonebiaa", sum := "8eaeebeba6a2501354ab674777349581036f4ad508ea241d443a33c52564de05", func := "runnel/runnellaw3.WireValues", spec := "wireValues", inPlace := ["internal/bytealg.abigen_runtime_cmpstring"], unfollowed := true, recurses := true, loops := true, apart := false, narrowed := true }
def WireValuesUptoSaid : Prop := wireValuesUptoRow.holds Try.pinned (OpenSpec.upto wireValuesSpec)

/-- 'runnellaw3.WireApart', WHERE WHAT IT READS IS OF BULK AT MOST 1048576: true; the input reads as it did. -/
def wireApartUptoRow : OpenClaim := { program := "ytbcjcekoonebiaa", sum := "8eaeebeba6a2501354ab674777349581036f4ad508ea241d443a33c52564de05", func := "runnel/runnellaw3.WireApart", spec := "wireApart", inPlace := ["internal/bytealg.abigen_runtime_cmpstring"], unfollowed := true, recurses := true, loops := true, apart := false, narrowed := true }
def WireApartUptoSaid : Prop := wireApartUptoRow.holds Try.pinned (OpenSpec.upto wireApartSpec)

/-- 'runnellaw3.WireCut', WHERE WHAT IT READS IS OF BULK AT MOST 1048576: true; the input reads as it did. -/
def wireCutUptoRow : OpenClaim := { program := "ytbcjcekoonebiaa", sum := "8eaeebeba6a2501354ab674777349581036f4ad508ea241d443a33c52564de05", func := "runnel/runnellaw3.WireCut", spec := "wireCut", inPlace := ["internal/bytealg.abigen_runtime_cmpstring"], unfollowed := true, recurses := true, loops := true, apart := false, narrowed := true }
def WireCutUptoSaid : Prop := wireCutUptoRow.holds Try.pinned (OpenSpec.upto wireCutSpec)

/-- 'runnellaw3.WireSizes', WHERE WHAT IT READS IS OF BULK AT MOST 1048576: true; the input reads as it did. -/
def wireSizesUptoRow : OpenClaim := { program := "ytbcjcekoonebiaa", sum := "8eaeebeba6a2501354ab674777349581036f4ad508ea241d443a33c52564de05", func := "runnel/runnellaw3.WireSizes", spec := "wireSizes", inPlace := ["internal/bytealg.abigen_runtime_cmpstring"], unfollowed := true, recurses := true, apart := false, narrowed := true }
def WireSizesUptoSaid : Prop := wireSizesUptoRow.holds Try.pinned (OpenSpec.upto wireSizesSpec)

/-- 'runnellaw14.VmPlain', WHERE WHAT IT READS IS OF BULK AT MOST 1048576: true; the input reads as it did. -/
def vmPlainUptoRow : OpenClaim := { program := "ytbcjcekoonebiaa", sum := "8eaeebeba6a2501354ab674777349581036f4ad508ea241d443a33c52564de05", func := "runnel/runnellaw14.VmPlain", spec := "vmPlain", inPlace := ["internal/bytealg.abigen_runtime_cmpstring"], unfollowed := true, recurses := true, loops := true, apart := false, narrowed := true }
def VmPlainUptoSaid : Prop := vmPlainUptoRow.holds Try.pinned (OpenSpec.upto vmPlainSpec)

/-- 'runnellaw14.VmLazy', WHERE WHAT IT READS IS OF BULK AT MOST 1048576: true; the input reads as it did. -/
def vmLazyUptoRow : OpenClaim := { program := "ytbcjcekoonebiaa", sum := "8eaeebeba6a2501354ab674777349581036f4ad508ea241d443a33c52564de05", func := "runnel/runnellaw14.VmLazy", spec := "vmLazy", inPlace := ["internal/bytealg.abigen_runtime_cmpstring"], unfollowed := true, recurses := true, apart := false, narrowed := true }
def VmLazyUptoSaid : Prop := vmLazyUptoRow.holds Try.pinned (OpenSpec.upto vmLazySpec)

end Rows
end Go.Proofs.Ytbcjcekoonebiaa
