/- Bytes in words, plain: two digits for each byte, by the program and by the document. Condition: strings of at most 2^40 bytes. -/
import Derived.Test.YtjjabjajoefgdaaPL14x5
import Derived.Test.YtjjabjajoefgdaaPL14x7
import Derived.Test.YtjjabjajoefgdaaPureBase
namespace Go.Proofs.Ytjjabjajoefgdaa.Pure
open Go.RowKit Go.Proofs.YtjjabjajoefgdaaW.PrintWords Go.Proofs.YtjjabjajoefgdaaW.PrintLast Go.Proofs.YtjjabjajoefgdaaW.PrintMore Go.Proofs.Ytjjabjajoefgdaa.PL14
set_option linter.unusedVariables false
set_option linter.unusedSimpArgs false
def digs : ByteArray := ⟨#[48, 49, 50, 51, 52, 53, 54, 55, 56, 57, 97, 98, 99, 100, 101, 102]⟩
def hexB (x : Int) : List Int := [bt digs (x / 16), bt digs (x % 16)]
def hexL (s : ByteArray) (i : Nat) : List Int := (List.range i).flatMap fun j : Nat => hexB (bt s (j : Int))
theorem hexL_succ (s : ByteArray) (i : Nat) : hexL s (i + 1) = hexL s i ++ hexB (bt s (i : Int)) := by
  unfold hexL
  rw [List.range_succ, List.flatMap_append]
  simp
theorem hexL_len (s : ByteArray) : ∀ i, (hexL s i).length = 2 * i
  | 0 => rfl
  | i + 1 => by rw [hexL_succ, List.length_append, hexL_len s i]; simp [hexB]; omega
theorem digs_rg (i : Int) : 0 ≤ bt digs i ∧ bt digs i ≤ 255 := bt_range digs i
theorem str_snoc (xs : List Int) (y : Int) : strOfNums (xs ++ [y]) = (strOfNums xs).push (UInt8.ofNat y.toNat) := by
  unfold strOfNums
  simp [ByteArray.push]
theorem tdiv16 {x : Int} (h0 : 0 ≤ x) (h1 : x ≤ 255) : Int.tdiv x 16 % 256 = x / 16 := by
  rw [Int.tdiv_eq_ediv_of_nonneg h0]
  omega
theorem rhex_loop (s : ByteArray) (hs : s.size ≤ 1099511627776) : ∀ d i : Nat, i + d = s.size → Ev (fun k => vitrineref14_Hex.l0 k s (hexL s i) (i : Int)) (strOfNums (hexL s s.size)) := by
  intro d
  induction d with
  | zero =>
    intro i hi
    obtain rfl : i = s.size := by omega
    refine ⟨1, fun k hk => ?_⟩
    obtain ⟨m, rfl⟩ : ∃ m, k = m + 1 := ⟨k - 1, by omega⟩
    simp only [vitrineref14_Hex.l0]
    rw [if_neg (by omega)]
  | succ d ih =>
    intro i hi
    refine Ev.step (f := fun k => vitrineref14_Hex.l0 k s (hexL s (i + 1)) ((i + 1 : Nat) : Int)) (fun k => ?_) (ih (i + 1) (by omega))
    have hb := bt_range s (i : Int)
    have hw : wrap64 ((i : Int) + 1) = ((i + 1 : Nat) : Int) := by rw [w64 (by omega) (by omega)]; omega
    have ht : Int.tmod (bt s (i : Int)) 16 = bt s (i : Int) % 16 := Int.tmod_eq_emod_of_nonneg hb.1
    simp only [vitrineref14_Hex.l0]
    rw [if_pos (by omega), if_pos (by omega), tdiv16 hb.1 hb.2, if_pos (by omega), if_pos (by omega), ht, if_pos (by omega), if_pos (by omega), Option.bind_some, if_pos (by rw [hexL_len]; simp only [List.length_cons, List.length_nil]; omega), hw, hexL_succ]
    rfl
theorem rhex_ev (s : ByteArray) (hs : s.size ≤ 1099511627776) : Ev (fun k => vitrineref14_Hex.f k s) (strOfNums (hexL s s.size)) := rhex_loop s hs s.size 0 (by omega)
theorem and15_all : ((List.range 256).all fun n => decide (Go.bits .and .u8 ((n : Nat) : Int) 15 = ((n % 16 : Nat) : Int))) = true := by kernel_rfl
theorem and15 {x : Int} (h0 : 0 ≤ x) (h1 : x ≤ 255) : Go.bits .and .u8 x 15 = x % 16 := by
  have h := of_decide_eq_true (List.all_eq_true.1 and15_all x.toNat (List.mem_range.2 (by omega)))
  have e : ((x.toNat : Nat) : Int) = x := by omega
  rw [e] at h
  rw [h]
  omega
theorem str_size (xs : List Int) : (strOfNums xs).size = xs.length := by
  unfold strOfNums
  simp [ByteArray.size]
theorem wb_ev (xs : List Int) (y : Int) (h : xs.length ≤ 70368744177664) (h0 : 0 ≤ y) (h1 : y ≤ 255) : strings_Builder_WriteByte.f (strOfNums xs) y = some (none, strOfNums (xs ++ [y])) := by
  unfold strings_Builder_WriteByte.f
  rw [if_pos h0, if_pos h1, if_pos (by rw [str_size]; omega), str_snoc]
theorem hex_loop (s : ByteArray) (hs : s.size ≤ 1099511627776) : ∀ d i : Nat, i + d = s.size → Ev (fun k => sha_Hex.l0 k s (s.size : Int) (i : Int) (strOfNums (hexL s i))) (strOfNums (hexL s s.size)) := by
  intro d
  induction d with
  | zero =>
    intro i hi
    obtain rfl : i = s.size := by omega
    refine ⟨1, fun k hk => ?_⟩
    obtain ⟨m, rfl⟩ : ∃ m, k = m + 1 := ⟨k - 1, by omega⟩
    simp only [sha_Hex.l0]
    rw [if_neg (by omega)]
    rfl
  | succ d ih =>
    intro i hi
    refine Ev.step (f := fun k => sha_Hex.l0 k s (s.size : Int) ((i + 1 : Nat) : Int) (strOfNums (hexL s (i + 1)))) (fun k => ?_) (ih (i + 1) (by omega))
    have hb := bt_range s (i : Int)
    have hw : wrap64 ((i : Int) + 1) = ((i + 1 : Nat) : Int) := by rw [w64 (by omega) (by omega)]; omega
    have ha := and15 hb.1 hb.2
    have hl := hexL_len s i
    have d1 := digs_rg (bt s (i : Int) / 16)
    have d2 := digs_rg (bt s (i : Int) % 16)
    have w1 := wb_ev (hexL s i) (bt digs (bt s (i : Int) / 16)) (by omega) d1.1 d1.2
    have w2 := wb_ev (hexL s i ++ [bt digs (bt s (i : Int) / 16)]) (bt digs (bt s (i : Int) % 16)) (by rw [List.length_append, hl]; simp; omega) d2.1 d2.2
    unfold digs at w1 w2
    simp only [sha_Hex.l0]
    rw [if_pos (by omega), if_pos (by omega), if_pos (by omega), if_pos (by omega), if_pos (by omega), w1, Option.bind_some, ha, if_pos (by omega), if_pos (by omega), w2, Option.bind_some, hw, hexL_succ]
    rw [List.append_assoc]
    rfl
theorem hex_ev (s : ByteArray) (hs : s.size ≤ 1099511627776) : Ev (fun k => sha_Hex.f k s) (strOfNums (hexL s s.size)) := hex_loop s hs s.size 0 (by omega)

end Go.Proofs.Ytjjabjajoefgdaa.Pure
