/- The law HeadPasses of the given program holds of every input: its statement, from the plain law and the printed walk. No conditions. -/
import Derived.Test.YtbpnkgidlmjkkaaRows
import Derived.Test.YtbpnkgidlmjkkaaXPL08x23
import Derived.Test.YtbpnkgidlmjkkaaXPL08S
import Derived.Test.YtbpnkgidlmjkkaaXPureLHeadPasses
import Derived.WalkKit
import Derived.ProofKit
import Derived.OpenShut
import Derived.ShutString
import Derived.ChangeOld
import Derived.Below
import Derived.SizedLaws
import Derived.Test.YtbpnkgidlmjkkaaXWSized
namespace Go.Proofs.Ytbpnkgidlmjkkaa.headPasses
open Go.ChangeShapes Go.WideShapes Go.ChangeAt Go.RowKit Go.Proofs.YtbpnkgidlmjkkaaW.PrintWords Go.Proofs.YtbpnkgidlmjkkaaO Go.Proofs.Ytbpnkgidlmjkkaa.PL08
open Go.ChangeMaps (open_string shut_string)
set_option linter.unusedVariables false
theorem own : ownKnob Try.prog.godebug = none := by kernel_rfl
theorem laidOut : laidOutB Try.prog = true := by kernel_rfl
set_option maxRecDepth 100000 in
theorem lifted (os : Os) (started : os.Started) (H : Type) (enc : TypeId × Value → H) :
    ReturnsInHanded {} Try.checked os 7 .any (Rows.headPassesSpec.pre6 enc Try.prog Try.f7 Rows.headPassesRow.domain false) (Rows.headPassesSpec.post enc Try.prog Try.f7 false true false false) := by
  refine returnsInHanded_of_change_sized (C := Try.checked) own started (by kernel_rfl) Try.func7
    (ChangeSpec.witness6 (enc := enc) (C := Try.checked) false ⟨#[], #[.slice none 0 0, .int .i64 0, .string ByteArray.empty], []⟩ 8 (by kernel_rfl) (by kernel_rfl) (by kernel_rfl) (by kernel_rfl)) ?_
  intro W base args ds gs before hval0 hW hcnd hsz0 _
  have hsz : (DataW.weightsEach Try.prog (Try.f7.params.toList ++ Rows.headPassesSpec.plain.varTypes Try.prog) (ds ++ gs)).all (· ≤ reachBytes) = true := hsz0
  have hval : ∀ (j : Nat) t v, Try.f7.params[j]? = some t → args[j]? = some v → Value.okWide Try.prog W .any base t v := hval0
  have hW' := hW
  obtain ⟨p, q, hA0, hV, rfl, hfz, hnd⟩ := hW
  have hA : DataW.TrodAll enc Try.prog W 0 (fun _ => true) true Try.f7.params.toList args.toList ds p := hA0
  rw [Try.params7] at hA hval hsz
  obtain ⟨v0, vs0, d0, ds0, p0, q0, hargs, rfl, rfl, h0, r0⟩ := trodAll_cons hA
  obtain ⟨v1, vs1, d1, ds1, p1, q1, rfl, rfl, rfl, h1, r1⟩ := trodAll_cons r0
  obtain ⟨v2, vs2, d2, ds2, p2, q2, rfl, rfl, rfl, h2, r2⟩ := trodAll_cons r1
  obtain ⟨rfl, rfl, rfl⟩ := trodAll_nil r2
  obtain rfl : args = #[v0, v1, v2] := by cases args; simp_all
  obtain ⟨rfl, rfl⟩ := trodVars_none hV
  have k0 := h0
  have lt0 : ∀ x ∈ p0, x.block < W.heap.size := by obtain ⟨m, hm⟩ := k0; exact DataW.trod_lt m _ _ _ hm
  obtain ⟨y0, hK0, ok0⟩ := opn_arg (opn_slice Try.underlying33 (by kernel_rfl) (by kernel_rfl) opn30) hsz (j := 0) rfl rfl h0
  obtain ⟨A0, C0, hcs0, hl0_0, hr0_0⟩ := hK0
  obtain ⟨a_0, len_0, cap_0, rfl⟩ := okWide_slice Try.underlying33 (hval 0 33 v0 rfl rfl)
  have ev0 : Value.slice a_0 len_0 cap_0 = .slice A0 y0.length C0 := by simpa [Value.cells] using hcs0
  rw [ev0]
  have k1 := h1
  have lt1 : ∀ x ∈ p1, x.block < W.heap.size := by obtain ⟨m, hm⟩ := k1; exact DataW.trod_lt m _ _ _ hm
  obtain ⟨y1, hK1, ok1⟩ := opn_arg (opn_int Try.underlying3) hsz (j := 1) rfl rfl h1
  obtain ⟨b1, rfl⟩ := okWide_int Try.underlying3 (hval 1 3 v1 rfl rfl)
  obtain rfl : b1 = y1 := by have h_ : [Value.int .i64 b1] = [Value.int .i64 y1] := hK1; injection h_ with h_; injection h_
  have k2 := h2
  have lt2 : ∀ x ∈ p2, x.block < W.heap.size := by obtain ⟨m, hm⟩ := k2; exact DataW.trod_lt m _ _ _ hm
  obtain ⟨y2, hK2, ok2⟩ := opn_arg (opn_string Try.underlying9) hsz (j := 2) rfl rfl h2
  obtain ⟨b2, rfl⟩ := okWide_string Try.underlying9 (hval 2 9 v2 rfl rfl)
  obtain rfl : b2 = y2 := by have h_ : [Value.string b2] = [Value.string y2] := hK2; injection h_ with h_; injection h_
  try clear hA0 hval0 hsz0 hsz
  obtain ⟨k, hf⟩ := Go.Proofs.Ytbpnkgidlmjkkaa.Pure.HeadPasses (y0) (b1) (b2) (ok0) (ok1) (ok2)
  refine (vitrinelaw08_HeadPasses.calls k _ _ (y0) (b1) (b2) true W hr0_0 hl0_0 hf).mono ?_
  rintro e W' ⟨rfl, hd0⟩
  have hd_ : Below W.heap.size W W' := hd0
  rw [ev0] at k0
  rw [ev0] at hW'
  exact ⟨_, rfl, _, _, _, [], _, [], hW', trodAll_mk1 (shut_bool Try.underlying4 _), (trodAll_cons_mk (Below.trod laidOut (by kernel_rfl) (of_decide_eq_true (by kernel_rfl)) k0 (hd_) lt0) (trodAll_cons_mk (Below.trod laidOut (by kernel_rfl) (of_decide_eq_true (by kernel_rfl)) k1 (hd_) lt1) (trodAll_cons_mk (Below.trod laidOut (by kernel_rfl) (of_decide_eq_true (by kernel_rfl)) k2 (hd_) lt2) trodAll_mk0))), rfl, hd_.frame _, fun h => by cases h⟩
theorem over : Rows.headPassesRow.holds Try.pinned (OpenSpec.ofChange Rows.headPassesSpec) :=
  OpenClaim.holds_of_wide 7 Try.f7 rfl rfl rfl rfl rfl rfl rfl ⟨rfl, rfl, rfl, rfl, rfl⟩ rfl rfl rfl rfl rfl (by kernel_rfl) Try.func7 (by kernel_rfl)
    (of_decide_eq_true (by kernel_rfl)) (by unfold Func.isWrapper; first | (rw [if_pos (by decide +kernel)]; kernel_rfl) | (rw [if_neg (by decide +kernel)]; exact ⟨rfl, rfl⟩))
    (fun os started H enc _ => lifted os started H enc)
theorem proved : Rows.HeadPassesSaid := over
end Go.Proofs.Ytbpnkgidlmjkkaa.headPasses
namespace Go.Proofs.Ytbpnkgidlmjkkaa
/-- The statement, under a short name. -/
theorem headPasses_holds : Rows.HeadPassesSaid := headPasses.proved
#print axioms headPasses_holds
end Go.Proofs.Ytbpnkgidlmjkkaa
