/- The law FlagsResult: what its call answers is true. -/
import Derived.Test.YtbhfenpccccloaaPC14R
namespace Go.Proofs.Ytbhfenpccccloaa.Pure
open Go.RowKit Go.Proofs.Ytbhfenpccccloaa.M Go.Proofs.Ytbhfenpccccloaa.Hand Go.Proofs.YtbhfenpccccloaaW.PrintWords Go.Proofs.YtbhfenpccccloaaW.PrintLast Go.Proofs.YtbhfenpccccloaaW.PrintMore
set_option linter.unusedVariables false
theorem FlagsResult (a0 : Int) (o0 : (Lit.int .u8 a0).wf = true) (A0 : Option Addr) (c0 : Nat) (l0 : List ByteArray) (A1 : Option Addr) (c1 : Nat) (l1 : List ByteArray) (A2 : Option Addr) (c2 : Nat) (l2 : List ByteArray) (w : World)
    (hr0 : Kd.C Kd.string w A0 l0.length l0) (hc0 : l0.length ≤ c0) (hr1 : Kd.C Kd.string w A1 l1.length l1) (hc1 : l1.length ≤ c1) (hr2 : Kd.C Kd.string w A2 l2.length l2) (hc2 : l2.length ≤ c2) :
    Calls Try.prog 15 #[.int .u8 a0, .agg #[.slice A0 l0.length c0, .slice A1 l1.length c1, .slice A2 l2.length c2]] w fun e w' => e = .returned (.bool true) ∧ Below w.heap.size w w' := by
  have hw : 0 ≤ a0 ∧ a0 ≤ 255 := by
    simp [Lit.wf, IntKind.min, IntKind.max, IntKind.signed, IntKind.bits] at o0
    omega
  obtain ⟨t, ht, hT⟩ := few14 l0 l1 l2 hr0.2.1 hr1.2.1 hr2.2.1
  have hA := awake14 100 (by omega)
  cases t with
  | false => exact result_not 100 a0 A0 c0 l0 A1 c1 l1 A2 c2 l2 w hw.1 hw.2 hr0 hc0 hr1 hc1 hr2 hc2 hA (ht 100 (by omega))
  | true =>
    obtain ⟨a, b, c⟩ := hT rfl
    have hf := flagG_le a0
    have hl := resultG_len (flagG a0) l0 l1 l2 a.1 b.1 c.1
    exact result_few 100 a0 A0 c0 l0 A1 c1 l1 A2 c2 l2 w hw.1 hw.2 hr0 hc0 hr1 hc1 hr2 hc2 hA (ht 100 (by omega)) (resultG (flagG a0) l0 l1 l2) (result_f _ hf.1 hf.2 l0 l1 l2 a b c 100 (by omega)) (resultR_f _ hf.1 hf.2 l0 l1 l2 a b c 100 (by omega)) (by rw [same_f _ _ (by omega) _ (by omega)]; simp)
end Go.Proofs.Ytbhfenpccccloaa.Pure
