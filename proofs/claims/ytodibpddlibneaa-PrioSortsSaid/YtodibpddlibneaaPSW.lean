/- PrioSorts answers true, in the row's order of arguments. Conditions: each theorem's own. -/
import Derived.Test.YtodibpddlibneaaPSL
import Derived.Test.YtodibpddlibneaaPSR
namespace Go.Proofs.Ytodibpddlibneaa.S
open Go.RowKit Go.Proofs.YtodibpddlibneaaW.PrintWords Go.Proofs.YtodibpddlibneaaW.PrintLast Go.Proofs.Ytodibpddlibneaa.H
set_option linter.unusedVariables false
theorem Sorts_row (w : World) (L : Option Addr) (n c : Nat) (ls : List (Int × Int)) (hl : Rd Et w L n ls) (hc : n ≤ c) (hs : n * 16 ≤ 140737488351232) (odd : Int) (hw : (Lit.int .i64 odd).wf = true) :
    Calls Try.prog 3 #[.slice L n c, .int .i64 odd] w fun e w' => e = .returned (.bool true) ∧ Below w.heap.size w w' := Sorts_calls w L n c ls odd hl hc hs
end Go.Proofs.Ytodibpddlibneaa.S
