/- The law HeadReads of the given program holds of every input: its statement, from the plain law and the printed walk. No conditions. -/
import Derived.Test.YtbpnkgidlmjkkaaRows
import Derived.Test.YtbpnkgidlmjkkaaZPL08x23
import Derived.Test.YtbpnkgidlmjkkaaZPL08S
import Derived.Test.YtbpnkgidlmjkkaaZPureLHeadReads
import Derived.WalkKit
import Derived.ProofKit
import Derived.OpenShut
import Derived.ShutString
import Derived.ChangeOld
import Derived.Below
import Derived.SizedLaws
import Derived.Test.YtbpnkgidlmjkkaaZWSized
namespace Go.Proofs.Ytbpnkgidlmjkkaa.headReads
open Go.ChangeShapes Go.WideShapes Go.ChangeAt Go.RowKit Go.Proofs.YtbpnkgidlmjkkaaW.PrintWords Go.Proofs.YtbpnkgidlmjkkaaO Go.Proofs.Ytbpnkgidlmjkkaa.PL08
open Go.ChangeMaps (open_string shut_string)
set_option linter.unusedVariables false
theorem own : ownKnob Try.prog.godebug = none := by kernel_rfl
theorem laidOut : laidOutB Try.prog = true := by kernel_rfl
set_option maxRecDepth 100000 in
theorem lifted (os : Os) (started : os.Started) (H : Type) (enc : TypeId × Value → H) :
    ReturnsInHanded {} Try.checked os 5 .any (Rows.headReadsSpec.pre6 enc Try.prog Try.f5 Rows.headReadsRow.domain false) (Rows.headReadsSpec.post enc Try.prog Try.f5 false true false false) := by
  refine returnsInHanded_of_change_sized (C := Try.checked) own started (by kernel_rfl) Try.func5
    (ChangeSpec.witness6 (enc := enc) (C := Try.checked) false ⟨#[], #[.slice none 0 0], []⟩ 8 (by kernel_rfl) (by kernel_rfl) (by kernel_rfl) (by kernel_rfl)) ?_
  intro W base args ds gs before hval0 hW hcnd hsz0 _
  have hsz : (DataW.weightsEach Try.prog (Try.f5.params.toList ++ Rows.headReadsSpec.plain.varTypes Try.prog) (ds ++ gs)).all (· ≤ reachBytes) = true := hsz0
  have hval : ∀ (j : Nat) t v, Try.f5.params[j]? = some t → args[j]? = some v → Value.okWide Try.prog W .any base t v := hval0
  have hW' := hW
  obtain ⟨p, q, hA0, hV, rfl, hfz, hnd⟩ := hW
  have hA : DataW.TrodAll enc Try.prog W 0 (fun _ => true) true Try.f5.params.toList args.toList ds p := hA0
  rw [Try.params5] at hA hval hsz
  obtain ⟨v0, vs0, d0, ds0, p0, q0, hargs, rfl, rfl, h0, r0⟩ := trodAll_cons hA
  obtain ⟨rfl, rfl, rfl⟩ := trodAll_nil r0
  obtain rfl : args = #[v0] := by cases args; simp_all
  obtain ⟨rfl, rfl⟩ := trodVars_none hV
  have k0 := h0
  have lt0 : ∀ x ∈ p0, x.block < W.heap.size := by obtain ⟨m, hm⟩ := k0; exact DataW.trod_lt m _ _ _ hm
  obtain ⟨y0, hK0, ok0⟩ := opn_arg (opn_slice Try.underlying33 (by kernel_rfl) (by kernel_rfl) opn30) hsz (j := 0) rfl rfl h0
  obtain ⟨A0, C0, hcs0, hl0_0, hr0_0⟩ := hK0
  obtain ⟨a_0, len_0, cap_0, rfl⟩ := okWide_slice Try.underlying33 (hval 0 33 v0 rfl rfl)
  have ev0 : Value.slice a_0 len_0 cap_0 = .slice A0 y0.length C0 := by simpa [Value.cells] using hcs0
  rw [ev0]
  try clear hA0 hval0 hsz0 hsz
  obtain ⟨k, hf⟩ := Go.Proofs.Ytbpnkgidlmjkkaa.Pure.HeadReads (y0) (ok0)
  refine (vitrinelaw08_HeadReads.calls k _ _ (y0) true W hr0_0 hl0_0 hf).mono ?_
  rintro e W' ⟨rfl, hd0⟩
  have hd_ : Below W.heap.size W W' := hd0
  rw [ev0] at k0
  rw [ev0] at hW'
  exact ⟨_, rfl, _, _, _, [], _, [], hW', trodAll_mk1 (shut_bool Try.underlying4 _), (trodAll_cons_mk (Below.trod laidOut (by kernel_rfl) (of_decide_eq_true (by kernel_rfl)) k0 (hd_) lt0) trodAll_mk0), rfl, hd_.frame _, fun h => by cases h⟩
theorem over : Rows.headReadsRow.holds Try.pinned (OpenSpec.ofChange Rows.headReadsSpec) :=
  OpenClaim.holds_of_wide 5 Try.f5 rfl rfl rfl rfl rfl rfl rfl ⟨rfl, rfl, rfl, rfl, rfl⟩ rfl rfl rfl rfl rfl (by kernel_rfl) Try.func5 (by kernel_rfl)
    (of_decide_eq_true (by kernel_rfl)) (by unfold Func.isWrapper; first | (rw [if_pos (by decide +kernel)]; kernel_rfl) | (rw [if_neg (by decide +kernel)]; exact ⟨rfl, rfl⟩))
    (fun os started H enc _ => lifted os started H enc)
theorem proved : Rows.HeadReadsSaid := over
end Go.Proofs.Ytbpnkgidlmjkkaa.headReads
namespace Go.Proofs.Ytbpnkgidlmjkkaa
/-- The statement, under a short name. -/
theorem headReads_holds : Rows.HeadReadsSaid := headReads.proved
#print axioms headReads_holds
end Go.Proofs.Ytbpnkgidlmjkkaa
