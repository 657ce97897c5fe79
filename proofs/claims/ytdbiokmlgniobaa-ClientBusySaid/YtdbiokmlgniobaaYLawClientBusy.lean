/- The law ClientBusy of the given program holds of every input: its statement, from the plain law and the printed walk. No conditions. -/
import Derived.Test.YtdbiokmlgniobaaRows
import Derived.Test.YtdbiokmlgniobaaYPL22x13
import Derived.Test.YtdbiokmlgniobaaYPureLClientBusy
import Derived.WalkKit
import Derived.ProofKit
import Derived.OpenShut
import Derived.ShutString
import Derived.ChangeOld
import Derived.Below
import Derived.SizedLaws
import Derived.Test.YtdbiokmlgniobaaYWSized
namespace Go.Proofs.Ytdbiokmlgniobaa.clientBusy
open Go.ChangeShapes Go.WideShapes Go.ChangeAt Go.RowKit Go.Proofs.YtdbiokmlgniobaaW.PrintWords Go.Proofs.YtdbiokmlgniobaaO Go.Proofs.Ytdbiokmlgniobaa.PL22
open Go.ChangeMaps (open_string shut_string)
set_option linter.unusedVariables false
theorem own : ownKnob Try.prog.godebug = none := by kernel_rfl
theorem laidOut : laidOutB Try.prog = true := by kernel_rfl
set_option maxRecDepth 100000 in
theorem lifted (os : Os) (started : os.Started) (H : Type) (enc : TypeId × Value → H) :
    ReturnsInHanded {} Try.checked os 3 .any (Rows.clientBusySpec.pre6 enc Try.prog Try.f3 Rows.clientBusyRow.domain false) (Rows.clientBusySpec.post enc Try.prog Try.f3 false true false false) := by
  refine returnsInHanded_of_change_sized (C := Try.checked) own started (by kernel_rfl) Try.func3
    (ChangeSpec.witness6 (enc := enc) (C := Try.checked) false ⟨#[], #[.agg #[.int .i64 0, .int .i64 0, .int .i64 0, .int .i64 0, .string ByteArray.empty, .int .i64 0, .int .i64 0, .string ByteArray.empty, .slice none 0 0]], []⟩ 8 (by kernel_rfl) (by kernel_rfl) (by kernel_rfl) (by kernel_rfl)) ?_
  intro W base args ds gs before hval0 hW hcnd hsz0 _
  have hsz : (DataW.weightsEach Try.prog (Try.f3.params.toList ++ Rows.clientBusySpec.plain.varTypes Try.prog) (ds ++ gs)).all (· ≤ reachBytes) = true := hsz0
  have hval : ∀ (j : Nat) t v, Try.f3.params[j]? = some t → args[j]? = some v → Value.okWide Try.prog W .any base t v := hval0
  have hW' := hW
  obtain ⟨p, q, hA0, hV, rfl, hfz, hnd⟩ := hW
  have hA : DataW.TrodAll enc Try.prog W 0 (fun _ => true) true Try.f3.params.toList args.toList ds p := hA0
  rw [Try.params3] at hA hval hsz
  obtain ⟨v0, vs0, d0, ds0, p0, q0, hargs, rfl, rfl, h0, r0⟩ := trodAll_cons hA
  obtain ⟨rfl, rfl, rfl⟩ := trodAll_nil r0
  obtain rfl : args = #[v0] := by cases args; simp_all
  obtain ⟨rfl, rfl⟩ := trodVars_none hV
  have k0 := h0
  have lt0 : ∀ x ∈ p0, x.block < W.heap.size := by obtain ⟨m, hm⟩ := k0; exact DataW.trod_lt m _ _ _ hm
  obtain ⟨y0, hK0, ok0⟩ := opn_arg opn26 hsz (j := 0) rfl rfl h0
  obtain ⟨c0, rfl, _⟩ := okWide_struct Try.underlying26 (hval 0 26 v0 rfl rfl)
  obtain ⟨A0_8, C0_8, hcs0, hl0_8, hr0_8⟩ := k26_open hK0
  have ev0 := cells_agg hcs0
  rw [ev0]
  try clear hA0 hval0 hsz0 hsz
  obtain ⟨k, hf⟩ := Go.Proofs.Ytdbiokmlgniobaa.Pure.ClientBusy (y0.f0) (y0.f1) (y0.f2) (y0.f3) (y0.f4) (y0.f5.f0) (y0.f5.f1) (y0.f6) (y0.f7) (ok0.1) (ok0.2.1) (ok0.2.2.1) (ok0.2.2.2.1) (ok0.2.2.2.2.1) (ok0.2.2.2.2.2.1.1) (ok0.2.2.2.2.2.1.2) (ok0.2.2.2.2.2.2.1) (ok0.2.2.2.2.2.2.2)
  refine (vitrinelaw22_ClientBusy.calls k (y0.f0) (y0.f1) (y0.f2) (y0.f3) (y0.f4) (y0.f5.f0) (y0.f5.f1) (y0.f6) _ _ (y0.f7) true W hr0_8 hl0_8 hf).mono ?_
  rintro e W' ⟨rfl, hd0⟩
  have hd_ : Below W.heap.size W W' := hd0
  rw [ev0] at k0
  rw [ev0] at hW'
  exact ⟨_, rfl, _, _, _, [], _, [], hW', trodAll_mk1 (shut_bool Try.underlying4 _), (trodAll_cons_mk (Below.trod laidOut (by kernel_rfl) (of_decide_eq_true (by kernel_rfl)) k0 (hd_) lt0) trodAll_mk0), rfl, hd_.frame _, fun h => by cases h⟩
theorem over : Rows.clientBusyRow.holds Try.pinned (OpenSpec.ofChange Rows.clientBusySpec) :=
  OpenClaim.holds_of_wide 3 Try.f3 rfl rfl rfl rfl rfl rfl rfl ⟨rfl, rfl, rfl, rfl, rfl⟩ rfl rfl rfl rfl rfl (by kernel_rfl) Try.func3 (by kernel_rfl)
    (of_decide_eq_true (by kernel_rfl)) (by unfold Func.isWrapper; first | (rw [if_pos (by decide +kernel)]; kernel_rfl) | (rw [if_neg (by decide +kernel)]; exact ⟨rfl, rfl⟩))
    (fun os started H enc _ => lifted os started H enc)
theorem proved : Rows.ClientBusySaid := over
end Go.Proofs.Ytdbiokmlgniobaa.clientBusy
namespace Go.Proofs.Ytdbiokmlgniobaa
theorem clientBusy_holds : Rows.ClientBusySaid := clientBusy.proved
#print axioms clientBusy_holds
end Go.Proofs.Ytdbiokmlgniobaa
