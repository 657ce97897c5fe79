/- The law PixelRows of the given program holds of every input: its statement, from the plain law and the printed walk. No conditions. -/
import Derived.Test.YtejljcglbkjgkaaRows
import Derived.Test.YtejljcglbkjgkaaTPL12x45
import Derived.Test.YtejljcglbkjgkaaTPL12x38
import Derived.Test.YtejljcglbkjgkaaTPureLPixelRows
import Derived.WalkKit
import Derived.ProofKit
import Derived.OpenShut
import Derived.ShutString
import Derived.ChangeOld
import Derived.Below
import Derived.SizedLaws
import Derived.Test.YtejljcglbkjgkaaTWSized
namespace Go.Proofs.Ytejljcglbkjgkaa.pixelRows
open Go.ChangeShapes Go.WideShapes Go.ChangeAt Go.RowKit Go.Proofs.YtejljcglbkjgkaaW.PrintWords Go.Proofs.YtejljcglbkjgkaaO Go.Proofs.Ytejljcglbkjgkaa.PL12
open Go.ChangeMaps (open_string shut_string)
set_option linter.unusedVariables false
theorem own : ownKnob Try.prog.godebug = none := by kernel_rfl
theorem laidOut : laidOutB Try.prog = true := by kernel_rfl
set_option maxRecDepth 100000 in
theorem lifted (os : Os) (started : os.Started) (H : Type) (enc : TypeId × Value → H) :
    ReturnsInHanded {} Try.checked os 5 .any (Rows.pixelRowsSpec.pre6 enc Try.prog Try.f5 Rows.pixelRowsRow.domain false) (Rows.pixelRowsSpec.post enc Try.prog Try.f5 false true false false) := by
  refine returnsInHanded_of_change_sized (C := Try.checked) own started (by kernel_rfl) Try.func5
    (ChangeSpec.witness6 (enc := enc) (C := Try.checked) false ⟨#[], #[.agg #[.int .i64 0, .int .i64 0, .string ByteArray.empty]], []⟩ 8 (by kernel_rfl) (by kernel_rfl) (by kernel_rfl) (by kernel_rfl)) ?_
  intro W base args ds gs before hval0 hW hcnd hsz0 _
  have hsz : (DataW.weightsEach Try.prog (Try.f5.params.toList ++ Rows.pixelRowsSpec.plain.varTypes Try.prog) (ds ++ gs)).all (· ≤ reachBytes) = true := hsz0
  have hval : ∀ (j : Nat) t v, Try.f5.params[j]? = some t → args[j]? = some v → Value.okWide Try.prog W .any base t v := hval0
  have hW' := hW
  obtain ⟨p, q, hA0, hV, rfl, hfz, hnd⟩ := hW
  have hA : DataW.TrodAll enc Try.prog W 0 (fun _ => true) true Try.f5.params.toList args.toList ds p := hA0
  rw [Try.params5] at hA hval hsz
  obtain ⟨v0, vs0, d0, ds0, p0, q0, hargs, rfl, rfl, h0, r0⟩ := trodAll_cons hA
  obtain ⟨rfl, rfl, rfl⟩ := trodAll_nil r0
  obtain rfl : args = #[v0] := by cases args; simp_all
  obtain ⟨rfl, rfl⟩ := trodVars_none hV
  have k0 := h0
  have lt0 : ∀ x ∈ p0, x.block < W.heap.size := by obtain ⟨m, hm⟩ := k0; exact DataW.trod_lt m _ _ _ hm
  obtain ⟨y0, hK0, ok0⟩ := opn_arg opn23 hsz (j := 0) rfl rfl h0
  obtain ⟨c0, rfl, _⟩ := okWide_struct Try.underlying23 (hval 0 23 v0 rfl rfl)
  have hcs0 := k23_open hK0
  have ev0 := cells_agg hcs0
  rw [ev0]
  try clear hA0 hval0 hsz0 hsz
  obtain ⟨k, hf⟩ := Go.Proofs.Ytejljcglbkjgkaa.Pure.PixelRows (y0.f0) (y0.f1) (y0.f2) (ok0.1) (ok0.2.1) (ok0.2.2)
  refine (vitrinelaw12_PixelRows.calls k (y0.f0) (y0.f1) (y0.f2) true W  hf).mono ?_
  rintro e W' ⟨rfl, hd0⟩
  have hd_ : Below W.heap.size W W' := hd0
  rw [ev0] at k0
  rw [ev0] at hW'
  exact ⟨_, rfl, _, _, _, [], _, [], hW', trodAll_mk1 (shut_bool Try.underlying4 _), (trodAll_cons_mk (Below.trod laidOut (by kernel_rfl) (of_decide_eq_true (by kernel_rfl)) k0 (hd_) lt0) trodAll_mk0), rfl, hd_.frame _, fun h => by cases h⟩
theorem over : Rows.pixelRowsRow.holds Try.pinned (OpenSpec.ofChange Rows.pixelRowsSpec) :=
  OpenClaim.holds_of_wide 5 Try.f5 rfl rfl rfl rfl rfl rfl rfl ⟨rfl, rfl, rfl, rfl, rfl⟩ rfl rfl rfl rfl rfl (by kernel_rfl) Try.func5 (by kernel_rfl)
    (of_decide_eq_true (by kernel_rfl)) (by unfold Func.isWrapper; first | (rw [if_pos (by decide +kernel)]; kernel_rfl) | (rw [if_neg (by decide +kernel)]; exact ⟨rfl, rfl⟩))
    (fun os started H enc _ => lifted os started H enc)
theorem proved : Rows.PixelRowsSaid := over
end Go.Proofs.Ytejljcglbkjgkaa.pixelRows
namespace Go.Proofs.Ytejljcglbkjgkaa
theorem pixelRows_holds : Rows.PixelRowsSaid := pixelRows.proved
#print axioms pixelRows_holds
end Go.Proofs.Ytejljcglbkjgkaa
