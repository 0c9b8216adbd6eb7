/- chapter 18: BindLets, as the row calls it. -/
import Derived.Test.YtkpaibkkigfahaaBd10
namespace Go.Proofs.Ytkpaibkkigfahaa.Bd
open Go.RowKit Go.Proofs.YtkpaibkkigfahaaW.PrintWords Go.Proofs.YtkpaibkkigfahaaW.PrintLast Go.Proofs.YtkpaibkkigfahaaW.PrintMore Go.Proofs.Ytkpaibkkigfahaa.Bs Go.Proofs.Ytkpaibkkigfahaa.Fr Go.Proofs.Ytkpaibkkigfahaa.Mp
theorem lets_walk' (w : World) (ml : List Value) (hsz : ml.length = 20) (u h : Int) (h5 : ml.toArray[5]? = some (.int .i64 u)) (h6 : ml.toArray[6]? = some (.int .i64 h)) (A : Option Addr) (cap : Nat) (fs : List F3) (hm : ml.toArray[19]? = some (.slice A fs.length cap)) (hC : kF.C w A fs.length fs)
    (hw : ∀ f ∈ fs, 0 ≤ f.1 ∧ f.1 < 4294967296) (fa : Int) (va : (Lit.int .u32 fa).wf = true) (fp : Int) (_ : (Lit.int .i64 fp).wf = true) (now : Int) (_ : (Lit.int .i64 now).wf = true) :
    Calls Try.prog 5 #[.agg ml.toArray, .agg #[.int .u32 fa, .int .i64 fp], .int .i64 now] w fun e w' => e = .returned (.bool true) ∧ Below w.heap.size w w' := by
  obtain ⟨na, rfl⟩ := Int.eq_ofNat_of_zero_le (wf_u32 va).1
  exact lets_walk w ml hsz u h h5 h6 A cap fs hm hC hw na (by have := (wf_u32 va).2; omega) fp now
end Go.Proofs.Ytkpaibkkigfahaa.Bd
