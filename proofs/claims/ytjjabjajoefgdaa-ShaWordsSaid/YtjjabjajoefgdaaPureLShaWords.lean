/- ShaWords, plain: all bytes, by the kernel. Condition: the parameter is a byte. -/
import Derived.Test.YtjjabjajoefgdaaPL14x10
import Derived.Test.YtjjabjajoefgdaaPureBase
namespace Go.Proofs.Ytjjabjajoefgdaa.Pure
open Go.RowKit Go.Proofs.YtjjabjajoefgdaaW.PrintWords Go.Proofs.YtjjabjajoefgdaaW.PrintLast Go.Proofs.YtjjabjajoefgdaaW.PrintMore Go.Proofs.Ytjjabjajoefgdaa.PL14
set_option linter.unusedVariables false
set_option linter.unusedSimpArgs false
theorem shaWords_all : ((List.range 256).all fun n => vitrinelaw14_ShaWords.f 100 ((n : Nat) : Int) == some true) = true := by kernel_rfl
theorem ShaWords : ∀ (a0 : Int), ((Lit.int .u8 a0).wf = true) → ∃ k, vitrinelaw14_ShaWords.f k a0 = some true := by
  intro a0 h
  have hb := wf_u8 h
  have := List.all_eq_true.1 shaWords_all a0.toNat (List.mem_range.2 (by omega))
  refine ⟨100, ?_⟩
  have e : ((a0.toNat : Nat) : Int) = a0 := by omega
  rw [e] at this
  simpa using this

end Go.Proofs.Ytjjabjajoefgdaa.Pure
