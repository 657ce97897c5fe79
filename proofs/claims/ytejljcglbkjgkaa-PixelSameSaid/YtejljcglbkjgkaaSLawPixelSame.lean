/- The law PixelSame of the given program holds of every input: its statement, from the plain law and the printed walk. No conditions. -/
import Derived.Test.YtejljcglbkjgkaaRows
import Derived.Test.YtejljcglbkjgkaaSPL12x47
import Derived.Test.YtejljcglbkjgkaaSPL12x38
import Derived.Test.YtejljcglbkjgkaaSPureLPixelSame
import Derived.WalkKit
import Derived.ProofKit
import Derived.OpenShut
import Derived.ShutString
import Derived.ChangeOld
import Derived.Below
import Derived.SizedLaws
import Derived.Test.YtejljcglbkjgkaaSWSized
namespace Go.Proofs.Ytejljcglbkjgkaa.pixelSame
open Go.ChangeShapes Go.WideShapes Go.ChangeAt Go.RowKit Go.Proofs.YtejljcglbkjgkaaW.PrintWords Go.Proofs.YtejljcglbkjgkaaO Go.Proofs.Ytejljcglbkjgkaa.PL12
open Go.ChangeMaps (open_string shut_string)
set_option linter.unusedVariables false
theorem own : ownKnob Try.prog.godebug = none := by kernel_rfl
theorem laidOut : laidOutB Try.prog = true := by kernel_rfl
set_option maxRecDepth 100000 in
theorem lifted (os : Os) (started : os.Started) (H : Type) (enc : TypeId × Value → H) :
    ReturnsInHanded {} Try.checked os 7 .any (Rows.pixelSameSpec.pre6 enc Try.prog Try.f7 Rows.pixelSameRow.domain false) (Rows.pixelSameSpec.post enc Try.prog Try.f7 false true false false) := by
  refine returnsInHanded_of_change_sized (C := Try.checked) own started (by kernel_rfl) Try.func7
    (ChangeSpec.witness6 (enc := enc) (C := Try.checked) false ⟨#[], #[.agg #[.int .i64 0, .int .i64 0, .int .i64 0, .int .i64 0, .int .i64 0, .string ByteArray.empty, .string ByteArray.empty, .bool false], .slice none 0 0, .agg #[.int .i64 0, .int .i64 0]], []⟩ 8 (by kernel_rfl) (by kernel_rfl) (by kernel_rfl) (by kernel_rfl)) ?_
  intro W base args ds gs before hval0 hW hcnd hsz0 _
  have hsz : (DataW.weightsEach Try.prog (Try.f7.params.toList ++ Rows.pixelSameSpec.plain.varTypes Try.prog) (ds ++ gs)).all (· ≤ reachBytes) = true := hsz0
  have hval : ∀ (j : Nat) t v, Try.f7.params[j]? = some t → args[j]? = some v → Value.okWide Try.prog W .any base t v := hval0
  have hW' := hW
  obtain ⟨p, q, hA0, hV, rfl, hfz, hnd⟩ := hW
  have hA : DataW.TrodAll enc Try.prog W 0 (fun _ => true) true Try.f7.params.toList args.toList ds p := hA0
  rw [Try.params7] at hA hval hsz
  obtain ⟨v0, vs0, d0, ds0, p0, q0, hargs, rfl, rfl, h0, r0⟩ := trodAll_cons hA
  obtain ⟨v1, vs1, d1, ds1, p1, q1, rfl, rfl, rfl, h1, r1⟩ := trodAll_cons r0
  obtain ⟨v2, vs2, d2, ds2, p2, q2, rfl, rfl, rfl, h2, r2⟩ := trodAll_cons r1
  obtain ⟨rfl, rfl, rfl⟩ := trodAll_nil r2
  obtain rfl : args = #[v0, v1, v2] := by cases args; simp_all
  obtain ⟨rfl, rfl⟩ := trodVars_none hV
  have k0 := h0
  have lt0 : ∀ x ∈ p0, x.block < W.heap.size := by obtain ⟨m, hm⟩ := k0; exact DataW.trod_lt m _ _ _ hm
  obtain ⟨y0, hK0, ok0⟩ := opn_arg opn31 hsz (j := 0) rfl rfl h0
  obtain ⟨c0, rfl, _⟩ := okWide_struct Try.underlying31 (hval 0 31 v0 rfl rfl)
  have hcs0 := k31_open hK0
  have ev0 := cells_agg hcs0
  rw [ev0]
  have k1 := h1
  have lt1 : ∀ x ∈ p1, x.block < W.heap.size := by obtain ⟨m, hm⟩ := k1; exact DataW.trod_lt m _ _ _ hm
  obtain ⟨y1, hK1, ok1⟩ := opn_arg (opn_slice Try.underlying37 (by kernel_rfl) (by kernel_rfl) (opn_int Try.underlying3)) hsz (j := 1) rfl rfl h1
  obtain ⟨A1, C1, hcs1, hl1_0, hr1_0⟩ := hK1
  obtain ⟨a_1, len_1, cap_1, rfl⟩ := okWide_slice Try.underlying37 (hval 1 37 v1 rfl rfl)
  have ev1 : Value.slice a_1 len_1 cap_1 = .slice A1 y1.length C1 := by simpa [Value.cells] using hcs1
  rw [ev1]
  have k2 := h2
  have lt2 : ∀ x ∈ p2, x.block < W.heap.size := by obtain ⟨m, hm⟩ := k2; exact DataW.trod_lt m _ _ _ hm
  obtain ⟨y2, hK2, ok2⟩ := opn_arg opn38 hsz (j := 2) rfl rfl h2
  obtain ⟨c2, rfl, _⟩ := okWide_array Try.underlying38 (hval 2 38 v2 rfl rfl)
  have hcs2 := k38_open hK2
  have ev2 := cells_agg hcs2
  rw [ev2]
  try clear hA0 hval0 hsz0 hsz
  obtain ⟨k, hf⟩ := Go.Proofs.Ytejljcglbkjgkaa.Pure.PixelSame (y0.f0.f0) (y0.f0.f1) (y0.f0.f2) (y0.f0.f3) (y0.f0.f4) (y0.f1) (y0.f2) (y0.f3) (y1) (y2.f0) (y2.f1) (ok0.1.1) (ok0.1.2.1) (ok0.1.2.2.1) (ok0.1.2.2.2.1) (ok0.1.2.2.2.2) (ok0.2.1) (ok0.2.2.1) (ok1) (ok2.1) (ok2.2)
  refine (vitrinelaw12_PixelSame.calls k (y0.f0.f0) (y0.f0.f1) (y0.f0.f2) (y0.f0.f3) (y0.f0.f4) (y0.f1) (y0.f2) (y0.f3) _ _ (y1) (y2.f0) (y2.f1) true W hr1_0 hl1_0 hf).mono ?_
  rintro e W' ⟨rfl, hd0⟩
  have hd_ : Below W.heap.size W W' := hd0
  rw [ev0] at k0
  rw [ev1] at k1
  rw [ev2] at k2
  rw [ev0] at hW'
  rw [ev1] at hW'
  rw [ev2] at hW'
  exact ⟨_, rfl, _, _, _, [], _, [], hW', trodAll_mk1 (shut_bool Try.underlying4 _), (trodAll_cons_mk (Below.trod laidOut (by kernel_rfl) (of_decide_eq_true (by kernel_rfl)) k0 (hd_) lt0) (trodAll_cons_mk (Below.trod laidOut (by kernel_rfl) (of_decide_eq_true (by kernel_rfl)) k1 (hd_) lt1) (trodAll_cons_mk (Below.trod laidOut (by kernel_rfl) (of_decide_eq_true (by kernel_rfl)) k2 (hd_) lt2) trodAll_mk0))), rfl, hd_.frame _, fun h => by cases h⟩
theorem over : Rows.pixelSameRow.holds Try.pinned (OpenSpec.ofChange Rows.pixelSameSpec) :=
  OpenClaim.holds_of_wide 7 Try.f7 rfl rfl rfl rfl rfl rfl rfl ⟨rfl, rfl, rfl, rfl, rfl⟩ rfl rfl rfl rfl rfl (by kernel_rfl) Try.func7 (by kernel_rfl)
    (of_decide_eq_true (by kernel_rfl)) (by unfold Func.isWrapper; first | (rw [if_pos (by decide +kernel)]; kernel_rfl) | (rw [if_neg (by decide +kernel)]; exact ⟨rfl, rfl⟩))
    (fun os started H enc _ => lifted os started H enc)
theorem proved : Rows.PixelSameSaid := over
end Go.Proofs.Ytejljcglbkjgkaa.pixelSame
namespace Go.Proofs.Ytejljcglbkjgkaa
theorem pixelSame_holds : Rows.PixelSameSaid := pixelSame.proved
#print axioms pixelSame_holds
end Go.Proofs.Ytejljcglbkjgkaa
