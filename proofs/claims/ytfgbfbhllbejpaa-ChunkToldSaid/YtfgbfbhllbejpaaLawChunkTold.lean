/- The law ChunkTold of the given program holds of every input: its statement, from the plain law and the printed walk. No conditions. -/
import Derived.Test.YtfgbfbhllbejpaaRows
import Derived.Test.YtfgbfbhllbejpaaPL07x15
import Derived.Test.YtfgbfbhllbejpaaPL07S
import Derived.Test.YtfgbfbhllbejpaaPureLChunkTold
import Derived.WalkKit
import Derived.ProofKit
import Derived.OpenShut
import Derived.ShutString
import Derived.ChangeOld
import Derived.Below
import Derived.SizedLaws
import Derived.Test.YtfgbfbhllbejpaaWSized
namespace Go.Proofs.Ytfgbfbhllbejpaa.chunkTold
open Go.ChangeShapes Go.WideShapes Go.ChangeAt Go.RowKit Go.Proofs.YtfgbfbhllbejpaaW.PrintWords Go.Proofs.YtfgbfbhllbejpaaO Go.Proofs.Ytfgbfbhllbejpaa.PL07
open Go.ChangeMaps (open_string shut_string)
set_option linter.unusedVariables false
theorem own : ownKnob Try.prog.godebug = none := by kernel_rfl
theorem laidOut : laidOutB Try.prog = true := by kernel_rfl
set_option maxRecDepth 100000 in
theorem lifted (os : Os) (started : os.Started) (H : Type) (enc : TypeId × Value → H) :
    ReturnsInHanded {} Try.checked os 6 .any (Rows.chunkToldSpec.pre6 enc Try.prog Try.f6 Rows.chunkToldRow.domain false) (Rows.chunkToldSpec.post enc Try.prog Try.f6 false true false false) := by
  refine returnsInHanded_of_change_sized (C := Try.checked) own started (by kernel_rfl) Try.func6
    (ChangeSpec.witness6 (enc := enc) (C := Try.checked) false ⟨#[], #[.agg #[.string ByteArray.empty, .string ByteArray.empty], .int .i64 0, .int .u8 0], []⟩ 8 (by kernel_rfl) (by kernel_rfl) (by kernel_rfl) (by kernel_rfl)) ?_
  intro W base args ds gs before hval0 hW hcnd hsz0 _
  have hsz : (DataW.weightsEach Try.prog (Try.f6.params.toList ++ Rows.chunkToldSpec.plain.varTypes Try.prog) (ds ++ gs)).all (· ≤ reachBytes) = true := hsz0
  have hval : ∀ (j : Nat) t v, Try.f6.params[j]? = some t → args[j]? = some v → Value.okWide Try.prog W .any base t v := hval0
  have hW' := hW
  obtain ⟨p, q, hA0, hV, rfl, hfz, hnd⟩ := hW
  have hA : DataW.TrodAll enc Try.prog W 0 (fun _ => true) true Try.f6.params.toList args.toList ds p := hA0
  rw [Try.params6] at hA hval hsz
  obtain ⟨v0, vs0, d0, ds0, p0, q0, hargs, rfl, rfl, h0, r0⟩ := trodAll_cons hA
  obtain ⟨v1, vs1, d1, ds1, p1, q1, rfl, rfl, rfl, h1, r1⟩ := trodAll_cons r0
  obtain ⟨v2, vs2, d2, ds2, p2, q2, rfl, rfl, rfl, h2, r2⟩ := trodAll_cons r1
  obtain ⟨rfl, rfl, rfl⟩ := trodAll_nil r2
  obtain rfl : args = #[v0, v1, v2] := by cases args; simp_all
  obtain ⟨rfl, rfl⟩ := trodVars_none hV
  have k0 := h0
  have lt0 : ∀ x ∈ p0, x.block < W.heap.size := by obtain ⟨m, hm⟩ := k0; exact DataW.trod_lt m _ _ _ hm
  obtain ⟨y0, hK0, ok0⟩ := opn_arg opn35 hsz (j := 0) rfl rfl h0
  obtain ⟨c0, rfl, _⟩ := okWide_struct Try.underlying35 (hval 0 35 v0 rfl rfl)
  have hcs0 := k35_open hK0
  have ev0 := cells_agg hcs0
  rw [ev0]
  have k1 := h1
  have lt1 : ∀ x ∈ p1, x.block < W.heap.size := by obtain ⟨m, hm⟩ := k1; exact DataW.trod_lt m _ _ _ hm
  obtain ⟨y1, hK1, ok1⟩ := opn_arg (opn_int Try.underlying3) hsz (j := 1) rfl rfl h1
  obtain ⟨b1, rfl⟩ := okWide_int Try.underlying3 (hval 1 3 v1 rfl rfl)
  obtain rfl : b1 = y1 := by have h_ : [Value.int .i64 b1] = [Value.int .i64 y1] := hK1; injection h_ with h_; injection h_
  have k2 := h2
  have lt2 : ∀ x ∈ p2, x.block < W.heap.size := by obtain ⟨m, hm⟩ := k2; exact DataW.trod_lt m _ _ _ hm
  obtain ⟨y2, hK2, ok2⟩ := opn_arg (opn_int Try.underlying5) hsz (j := 2) rfl rfl h2
  obtain ⟨b2, rfl⟩ := okWide_int Try.underlying5 (hval 2 5 v2 rfl rfl)
  obtain rfl : b2 = y2 := by have h_ : [Value.int .u8 b2] = [Value.int .u8 y2] := hK2; injection h_ with h_; injection h_
  try clear hA0 hval0 hsz0 hsz
  obtain ⟨k, hf⟩ := Go.Proofs.Ytfgbfbhllbejpaa.Pure.ChunkTold (y0.f0) (y0.f1) (b1) (b2) (ok0.1) (ok0.2) (ok1) (ok2)
  refine (vitrinelaw07_ChunkTold.calls k (y0.f0) (y0.f1) (b1) (b2) true W  hf).mono ?_
  rintro e W' ⟨rfl, hd0⟩
  have hd_ : Below W.heap.size W W' := hd0
  rw [ev0] at k0
  rw [ev0] at hW'
  exact ⟨_, rfl, _, _, _, [], _, [], hW', trodAll_mk1 (shut_bool Try.underlying4 _), (trodAll_cons_mk (Below.trod laidOut (by kernel_rfl) (of_decide_eq_true (by kernel_rfl)) k0 (hd_) lt0) (trodAll_cons_mk (Below.trod laidOut (by kernel_rfl) (of_decide_eq_true (by kernel_rfl)) k1 (hd_) lt1) (trodAll_cons_mk (Below.trod laidOut (by kernel_rfl) (of_decide_eq_true (by kernel_rfl)) k2 (hd_) lt2) trodAll_mk0))), rfl, hd_.frame _, fun h => by cases h⟩
theorem over : Rows.chunkToldRow.holds Try.pinned (OpenSpec.ofChange Rows.chunkToldSpec) :=
  OpenClaim.holds_of_wide 6 Try.f6 rfl rfl rfl rfl rfl rfl rfl ⟨rfl, rfl, rfl, rfl, rfl⟩ rfl rfl rfl rfl rfl (by kernel_rfl) Try.func6 (by kernel_rfl)
    (of_decide_eq_true (by kernel_rfl)) (by unfold Func.isWrapper; first | (rw [if_pos (by decide +kernel)]; kernel_rfl) | (rw [if_neg (by decide +kernel)]; exact ⟨rfl, rfl⟩))
    (fun os started H enc _ => lifted os started H enc)
theorem proved : Rows.ChunkToldSaid := over
end Go.Proofs.Ytfgbfbhllbejpaa.chunkTold
namespace Go.Proofs.Ytfgbfbhllbejpaa
/-- The statement, under a short name. -/
theorem chunkTold_holds : Rows.ChunkToldSaid := chunkTold.proved
#print axioms chunkTold_holds
end Go.Proofs.Ytfgbfbhllbejpaa
