/- The filled bytes of the hash, plain. Condition: strings of at most 2^40 bytes. -/
import Derived.Test.YtjjabjajoefgdaaPL14x2
import Derived.Test.YtjjabjajoefgdaaPureBase
namespace Go.Proofs.Ytjjabjajoefgdaa.Pure
open Go.RowKit Go.Proofs.YtjjabjajoefgdaaW.PrintWords Go.Proofs.YtjjabjajoefgdaaW.PrintLast Go.Proofs.YtjjabjajoefgdaaW.PrintMore Go.Proofs.Ytjjabjajoefgdaa.PL14
set_option linter.unusedVariables false
set_option linter.unusedSimpArgs false
theorem pad_l0 (s : ByteArray) (hs : s.size ≤ 1099511627776) (n3 : Int) (r : ByteArray) : ∀ (d : Nat) (xs : List Int), xs.length + d ≤ 1000 → d < 64 → (s.size + xs.length + d) % 64 = 56 → Ev (fun k => sha_pad.l1 k s n3 (xs ++ List.replicate d 0) 56) r → Ev (fun k => sha_pad.l0 k s n3 xs) r := by
  intro d
  induction d with
  | zero =>
    intro xs hx hd hm h
    refine Ev.step (f := fun k => sha_pad.l1 k s n3 xs 56) (fun k => ?_) (by simpa using h)
    simp only [sha_pad.l0]
    rw [w64 (by omega) (by omega), Int.tmod_eq_emod_of_nonneg (by omega), if_pos (by omega)]
  | succ d ih =>
    intro xs hx hd hm h
    refine Ev.step (f := fun k => sha_pad.l0 k s n3 (xs ++ [0])) (fun k => ?_) (ih (xs ++ [0]) (by simp; omega) (by omega) (by simp; omega) ?_)
    · simp only [sha_pad.l0]
      rw [w64 (by omega) (by omega), Int.tmod_eq_emod_of_nonneg (by omega), if_neg (by omega), if_pos (by omega)]
    · rw [List.append_assoc]
      exact h
def padT (n3 : Int) : Nat → List Int
  | 0 => []
  | j + 1 => (shr .u64 n3 (8 * (j : Int))) % 256 :: padT n3 j
theorem padT_len (n3 : Int) : ∀ j, (padT n3 j).length = j
  | 0 => rfl
  | j + 1 => by simp [padT, padT_len n3 j]
theorem pad_l1 (s : ByteArray) (hs : s.size ≤ 1099511627776) (n3 : Int) : ∀ (j : Nat) (xs : List Int), j ≤ 8 → xs.length + j ≤ 2000 → Ev (fun k => sha_pad.l1 k s n3 xs (8 * (j : Int) - 8)) (s ++ strOfNums (xs ++ padT n3 j)) := by
  intro j
  induction j with
  | zero =>
    intro xs hj hx
    refine ⟨1, fun k hk => ?_⟩
    obtain ⟨m, rfl⟩ : ∃ m, k = m + 1 := ⟨k - 1, by omega⟩
    simp only [sha_pad.l1]
    rw [if_neg (by omega), if_pos (by rw [str_size]; omega), padT, List.append_nil]
  | succ j ih =>
    intro xs hj hx
    refine Ev.step (f := fun k => sha_pad.l1 k s n3 (xs ++ [(shr .u64 n3 (8 * (j : Int))) % 256]) (8 * (j : Int) - 8)) (fun k => ?_) ?_
    · simp only [sha_pad.l1]
      rw [show (8 * ((j + 1 : Nat) : Int) - 8) = 8 * (j : Int) by omega, if_pos (by omega), if_pos (by omega), if_pos (by omega), w64 (by omega) (by omega)]
    · have := ih (xs ++ [(shr .u64 n3 (8 * (j : Int))) % 256]) (by omega) (by simp; omega)
      rw [List.append_assoc] at this
      exact this
def padZ (n : Nat) : Nat := (119 - n % 64) % 64
def padAll (s : ByteArray) : ByteArray := s ++ strOfNums ([128] ++ List.replicate (padZ s.size) 0 ++ padT (IntKind.u64.wrap ((IntKind.u64.wrap ((s.size : Int))) * 8)) 8)
theorem padAll_size (s : ByteArray) : (padAll s).size = s.size + 9 + padZ s.size := by
  unfold padAll
  rw [ByteArray.size_append, str_size]
  simp [padT_len]
  omega
theorem pad_ev (s : ByteArray) (hs : s.size ≤ 1099511627776) : Ev (fun k => sha_pad.f k s) (padAll s) := by
  refine pad_l0 s hs _ _ (padZ s.size) [128] (by simp; unfold padZ; omega) (by unfold padZ; omega) (by simp; unfold padZ; omega) ?_
  exact pad_l1 s hs _ 8 _ (by omega) (by simp; unfold padZ; omega)
def shaS (s : ByteArray) : ByteArray := strOfNums (sha_out (sha_run (padAll s) ((padAll s).size / 64)) 8)
theorem sum_ev (s : ByteArray) (hs : s.size ≤ 1099511627776) : Ev (fun k => sha_Sum.f k s) (shaS s) := by
  refine Ev.bind (f := fun _ all => if all.size % 64 = 0 ∧ all.size < 4611686018427387904 then some (strOfNums (sha_out (sha_run all (all.size / 64)) 8)) else none) (pad_ev s hs) ?_
  refine ⟨0, fun k _ => ?_⟩
  have h := padAll_size s
  rw [if_pos (by rw [h]; unfold padZ; omega)]
  rfl
theorem shaS_size (s : ByteArray) : (shaS s).size = 32 := by
  unfold shaS
  rw [str_size, sha_out_len]

end Go.Proofs.Ytjjabjajoefgdaa.Pure
