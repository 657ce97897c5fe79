/- The law ShaHexUpto of the given program holds of every input: its statement, from the plain law and the printed walk. No conditions. -/
import Derived.Test.YtjjabjajoefgdaaRows
import Derived.Test.YtjjabjajoefgdaaPL14x8
import Derived.Test.YtjjabjajoefgdaaPL14S
import Derived.Test.YtjjabjajoefgdaaPureLShaHexUpto
import Derived.WalkKit
import Derived.ProofKit
import Derived.OpenShut
import Derived.ShutString
import Derived.ChangeOld
import Derived.Below
import Derived.SizedLaws
import Derived.JoinedCond
import Derived.ChangeMaps5
import Derived.Test.YtjjabjajoefgdaaWSized
namespace Go.Proofs.Ytjjabjajoefgdaa.shaHexUpto
open Go.ChangeShapes Go.WideShapes Go.ChangeAt Go.RowKit Go.Proofs.YtjjabjajoefgdaaW.PrintWords Go.Proofs.YtjjabjajoefgdaaO Go.Proofs.Ytjjabjajoefgdaa.PL14
open Go.ChangeMaps (open_string shut_string)
set_option linter.unusedVariables false
theorem own : ownKnob Try.prog.godebug = none := by kernel_rfl
theorem laidOut : laidOutB Try.prog = true := by kernel_rfl
set_option maxRecDepth 100000 in
theorem lifted (os : Os) (started : os.Started) (H : Type) (enc : TypeId × Value → H) (F : Stop.Interp) :
    ReturnsInHanded {} Try.checked os 4 .any ((Rows.OpenSpec.upto Rows.shaHexSpec).pre6 enc Try.prog Try.f4 Rows.shaHexUptoRow.domain false) (((Rows.OpenSpec.upto Rows.shaHexSpec).at F).post enc Try.prog Try.f4 false true false false) := by
  refine returnsInHanded_of_cond (C := Try.checked) (s := Rows.OpenSpec.upto Rows.shaHexSpec) (k := Rows.uptoSmall) rfl own started (by kernel_rfl) Try.func4
    (OpenSpec.witness (enc := enc) (C := Try.checked) (s := Rows.OpenSpec.upto Rows.shaHexSpec) (k := Rows.uptoSmall) (x := ([.lit (.string [])], [], [])) rfl false ⟨#[], #[.string ByteArray.empty], []⟩ 8 (by kernel_rfl) (by kernel_rfl) (by kernel_rfl) (by kernel_rfl) (by kernel_rfl) (by kernel_rfl)) ?_
  intro W base args ds gs before hval0 hW hcnd hkk _
  have hval : ∀ (j : Nat) t v, Try.f4.params[j]? = some t → args[j]? = some v → Value.okWide Try.prog W .any base t v := hval0
  have hW' := hW
  obtain ⟨p, q, hA0, hV, rfl, hfz, hnd⟩ := hW
  have hA : DataW.TrodAll enc Try.prog W 0 (fun _ => true) true Try.f4.params.toList args.toList ds p := hA0
  rw [Try.params4] at hA hval
  obtain ⟨v0, vs0, d0, ds0, p0, q0, hargs, rfl, rfl, h0, r0⟩ := trodAll_cons hA
  obtain ⟨rfl, rfl, rfl⟩ := trodAll_nil r0
  obtain rfl : args = #[v0] := by cases args; simp_all
  obtain ⟨rfl, rfl⟩ := trodVars_none hV
  have k0 := h0
  have lt0 : ∀ x ∈ p0, x.block < W.heap.size := by obtain ⟨m, hm⟩ := k0; exact DataW.trod_lt m _ _ _ hm
  obtain ⟨b0, rfl, rfl, hp0_, _⟩ := open_string Try.underlying9 (hval 0 9 v0 rfl rfl) h0
  have ok0 : b0.size ≤ 1048576 := by
    have h1 := of_decide_eq_true hkk
    have h2 : b0.data.toList.length + 1 + 0 ≤ 1048576 := h1
    have h3 : b0.data.toList.length = b0.size := Array.length_toList
    omega
  obtain ⟨k, hf⟩ := Go.Proofs.Ytjjabjajoefgdaa.Pure.ShaHexUpto (b0) (ok0)
  refine (vitrinelaw14_ShaHex.calls k (b0) true W  hf).mono ?_
  rintro e W' ⟨rfl, hd0⟩
  have hd_ : Below W.heap.size W W' := hd0
  exact ⟨_, rfl, _, _, _, [], _, [], hW', trodAll_mk1 (shut_bool Try.underlying4 _), (trodAll_cons_mk (Below.trod laidOut (by kernel_rfl) (of_decide_eq_true (by kernel_rfl)) k0 (hd_) lt0) trodAll_mk0), rfl, hd_.frame _, fun h => by cases h⟩
theorem over : Rows.shaHexUptoRow.holds Try.pinned (Rows.OpenSpec.upto Rows.shaHexSpec) :=
  OpenClaim.holds_of_cond 4 Try.f4 rfl rfl rfl rfl rfl rfl rfl ⟨rfl, rfl, rfl, rfl, rfl⟩ rfl rfl rfl rfl rfl (by kernel_rfl) Try.func4 (by kernel_rfl)
    (of_decide_eq_true (by kernel_rfl)) (by unfold Func.isWrapper; first | (rw [if_pos (by decide +kernel)]; kernel_rfl) | (rw [if_neg (by decide +kernel)]; exact ⟨rfl, rfl⟩))
    (fun os started H enc _ F => lifted os started H enc F)
theorem proved : Rows.ShaHexUptoSaid := over
end Go.Proofs.Ytjjabjajoefgdaa.shaHexUpto
namespace Go.Proofs.Ytjjabjajoefgdaa
/-- The statement, under a short name. -/
theorem shaHexUpto_holds : Rows.ShaHexUptoSaid := shaHexUpto.proved
#print axioms shaHexUpto_holds
end Go.Proofs.Ytjjabjajoefgdaa
