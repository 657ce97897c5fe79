/- The hash of bytes, plain: the document's loops come to the program's words, block by block. Conditions: those that each lemma names. -/
import Derived.Test.YtjjabjajoefgdaaPL14x2
import Derived.Test.YtjjabjajoefgdaaPL14x3
import Derived.Test.YtjjabjajoefgdaaPureBase
import Derived.Test.YtjjabjajoefgdaaPureBits
import Derived.Test.YtjjabjajoefgdaaPureSha
namespace Go.Proofs.Ytjjabjajoefgdaa.Pure
open Go.RowKit Go.Proofs.YtjjabjajoefgdaaW.PrintWords Go.Proofs.YtjjabjajoefgdaaW.PrintLast Go.Proofs.YtjjabjajoefgdaaW.PrintMore Go.Proofs.Ytjjabjajoefgdaa.PL14
set_option linter.unusedVariables false
set_option linter.unusedSimpArgs false
/-- A number of 32 bits. -/
def W32 (x : Int) : Prop := 0 ≤ x ∧ x < 4294967296
theorem W32.nat {x : Int} (h : W32 x) : ∃ n : Nat, x = (n : Int) ∧ n < 4294967296 := ⟨x.toNat, by have := h.1; omega, by have := h.1; have := h.2; omega⟩
theorem w32_of {n : Nat} (h : n < 4294967296) : W32 (n : Int) := ⟨by omega, by omega⟩
theorem w32_wrap (x : Int) : W32 (IntKind.u32.wrap x) := by rw [IntKind.wrap_u32']; exact ⟨by omega, by omega⟩
theorem or_both {x y : Int} (hx : W32 x) (hy : W32 y) : Go.bits .or .i64 x y = Go.bits .or .u32 x y ∧ W32 (Go.bits .or .u32 x y) := by
  obtain ⟨a, rfl, ha⟩ := hx.nat
  obtain ⟨b, rfl, hb⟩ := hy.nat
  rw [(bits_u32 a b ha hb).1, (bits_i64 a b (by omega) (by omega)).1]
  exact ⟨rfl, w32_of (Nat.or_lt_two_pow (n := 32) ha hb)⟩
theorem xor_both {x y : Int} (hx : W32 x) (hy : W32 y) : Go.bits .xor .i64 x y = Go.bits .xor .u32 x y ∧ W32 (Go.bits .xor .u32 x y) := by
  obtain ⟨a, rfl, ha⟩ := hx.nat
  obtain ⟨b, rfl, hb⟩ := hy.nat
  rw [(bits_u32 a b ha hb).2.1, (bits_i64 a b (by omega) (by omega)).2.1]
  exact ⟨rfl, w32_of (Nat.xor_lt_two_pow (n := 32) ha hb)⟩
theorem and_both {x y : Int} (hx : W32 x) (hy : W32 y) : Go.bits .and .i64 x y = Go.bits .and .u32 x y ∧ W32 (Go.bits .and .u32 x y) := by
  obtain ⟨a, rfl, ha⟩ := hx.nat
  obtain ⟨b, rfl, hb⟩ := hy.nat
  rw [(bits_u32 a b ha hb).2.2.1, (bits_i64 a b (by omega) (by omega)).2.2]
  exact ⟨rfl, w32_of (Nat.lt_of_le_of_lt Nat.and_le_left ha)⟩
theorem andNot_both {x y : Int} (hx : W32 x) (hy : W32 y) : Go.bits .and .i64 (wrap64 (4294967295 - x)) y = Go.bits .andNot .u32 y x ∧ W32 (Go.bits .andNot .u32 y x) := by
  obtain ⟨a, rfl, ha⟩ := hx.nat
  obtain ⟨b, rfl, hb⟩ := hy.nat
  rw [(bits_u32 b a hb ha).2.2.2, w64 (by omega) (by omega), show (4294967295 : Int) - (a : Int) = ((4294967295 - a : Nat) : Int) by omega, (bits_i64 (4294967295 - a) b (by omega) (by omega)).2.2, Nat.and_comm]
  exact ⟨rfl, w32_of (Nat.lt_of_le_of_lt Nat.and_le_left hb)⟩
theorem trn_w32 {x : Int} (hx : W32 x) (n : Nat) (hn : n ≤ 32) : W32 (sha_trn x (n : Int)) := by
  obtain ⟨a, rfl, ha⟩ := hx.nat
  rw [trn_eq a n ha hn]
  exact w32_of (nrot_lt ha n)
theorem turned_i {x : Int} (hx : W32 x) (n : Nat) (h2 : 2 ≤ n) (hn : n ≤ 32) : vitrineref14_turned.f x (n : Int) = some (sha_trn x (n : Int)) := by
  obtain ⟨a, rfl, ha⟩ := hx.nat
  rw [turned_ev a n ha h2 hn, trn_eq a n ha hn]
theorem div_w32 {x : Int} (hx : W32 x) (d : Int) (hd : 1 ≤ d) : W32 (x / d) := by
  have h1 := hx.1
  have h2 := hx.2
  refine ⟨Int.ediv_nonneg h1 (by omega), Int.lt_of_le_of_lt (Int.ediv_le_self d h1) h2⟩
/-- All of a list are such. -/
def Wl (xs : List Int) : Prop := ∀ x ∈ xs, W32 x
theorem wl_rd {xs : List Int} (h : Wl xs) (i : Int) : W32 (rd xs i) := by
  unfold rd
  rw [List.getD_eq_getElem?_getD]
  cases e : xs[i.toNat]? with
  | none => exact ⟨by decide, by decide⟩
  | some x => exact h x (List.mem_of_getElem? e)
theorem wl_set {xs : List Int} (h : Wl xs) (i : Nat) {v : Int} (hv : W32 v) : Wl (xs.set i v) := by
  intro x hx
  rcases List.mem_or_eq_of_mem_set hx with h1 | h1
  · exact h x h1
  · exact h1 ▸ hv
/-! ### A word out of four bytes -/
theorem word_eq {a b c d : Int} (ha : 0 ≤ a ∧ a ≤ 255) (hb : 0 ≤ b ∧ b ≤ 255) (hc : 0 ≤ c ∧ c ≤ 255) (hd : 0 ≤ d ∧ d ≤ 255) :
    Go.bits .or .i64 (Go.bits .or .i64 (Go.bits .or .i64 (wrap64 ((wrap64 a) * 16777216)) (wrap64 ((wrap64 b) * 65536))) (wrap64 ((wrap64 c) * 256))) (wrap64 d) =
      Go.bits .or .u32 (Go.bits .or .u32 (Go.bits .or .u32 (IntKind.u32.wrap (IntKind.u32.wrap a * 16777216)) (IntKind.u32.wrap (IntKind.u32.wrap b * 65536))) (IntKind.u32.wrap (IntKind.u32.wrap c * 256))) (IntKind.u32.wrap d) ∧
    W32 (Go.bits .or .u32 (Go.bits .or .u32 (Go.bits .or .u32 (IntKind.u32.wrap (IntKind.u32.wrap a * 16777216)) (IntKind.u32.wrap (IntKind.u32.wrap b * 65536))) (IntKind.u32.wrap (IntKind.u32.wrap c * 256))) (IntKind.u32.wrap d)) := by
  have e : ∀ x m : Int, 0 ≤ x → x ≤ 255 → 0 ≤ m → m ≤ 16777216 → wrap64 ((wrap64 x) * m) = IntKind.u32.wrap (IntKind.u32.wrap x * m) := by
    intro x m h0 h1 h2 h3
    have p0 : 0 ≤ x * m := Int.mul_nonneg h0 h2
    have p1 : x * m ≤ 255 * 16777216 := Int.mul_le_mul h1 h3 h2 (by decide)
    have e1 : IntKind.u32.wrap x = x := by rw [IntKind.wrap_u32']; omega
    rw [w64 (x := x) (by omega) (by omega), e1, w64 (by omega) (by omega), IntKind.wrap_u32']
    omega
  have e0 : wrap64 d = IntKind.u32.wrap d := by rw [w64 (by omega) (by omega), IntKind.wrap_u32']; omega
  rw [e a _ ha.1 ha.2 (by decide) (by decide), e b _ hb.1 hb.2 (by decide) (by decide), e c _ hc.1 hc.2 (by decide) (by decide), e0]
  have o1 := or_both (w32_wrap (IntKind.u32.wrap a * 16777216)) (w32_wrap (IntKind.u32.wrap b * 65536))
  have o2 := or_both o1.2 (w32_wrap (IntKind.u32.wrap c * 256))
  have o3 := or_both o2.2 (w32_wrap d)
  rw [o1.1, o2.1, o3.1]
  exact ⟨rfl, o3.2⟩
theorem sha_word_w32 (b : ByteArray) (m : Nat) : W32 (sha_word b m) := (word_eq (bt_range b _) (bt_range b _) (bt_range b _) (bt_range b _)).2
/-! ### Sums -/
theorem sum4 {a b c d : Int} (ha : W32 a) (hb : W32 b) (hc : W32 c) (hd : W32 d) : Int.tmod (wrap64 ((wrap64 ((wrap64 (a + b)) + c)) + d)) 4294967296 = IntKind.u32.wrap (IntKind.u32.wrap (IntKind.u32.wrap (a + b) + c) + d) := by
  have := ha.1; have := ha.2; have := hb.1; have := hb.2; have := hc.1; have := hc.2; have := hd.1; have := hd.2
  rw [w64 (x := a + b) (by omega) (by omega), w64 (x := a + b + c) (by omega) (by omega), w64 (x := a + b + c + d) (by omega) (by omega), Int.tmod_eq_emod_of_nonneg (by omega), IntKind.wrap_u32', IntKind.wrap_u32', IntKind.wrap_u32']
  omega
theorem sum5 {a b c d e : Int} (ha : W32 a) (hb : W32 b) (hc : W32 c) (hd : W32 d) (he : W32 e) : Int.tmod (wrap64 ((wrap64 ((wrap64 ((wrap64 (a + b)) + c)) + d)) + e)) 4294967296 = IntKind.u32.wrap (IntKind.u32.wrap (IntKind.u32.wrap (IntKind.u32.wrap (a + b) + c) + d) + e) := by
  have := ha.1; have := ha.2; have := hb.1; have := hb.2; have := hc.1; have := hc.2; have := hd.1; have := hd.2; have := he.1; have := he.2
  rw [w64 (x := a + b) (by omega) (by omega), w64 (x := a + b + c) (by omega) (by omega), w64 (x := a + b + c + d) (by omega) (by omega), w64 (x := a + b + c + d + e) (by omega) (by omega), Int.tmod_eq_emod_of_nonneg (by omega), IntKind.wrap_u32', IntKind.wrap_u32', IntKind.wrap_u32', IntKind.wrap_u32']
  omega
theorem sum2 {a b : Int} (ha : W32 a) (hb : W32 b) : Int.tmod (wrap64 (a + b)) 4294967296 = IntKind.u32.wrap (a + b) := by
  have := ha.1; have := ha.2; have := hb.1; have := hb.2
  rw [w64 (x := a + b) (by omega) (by omega), Int.tmod_eq_emod_of_nonneg (by omega), IntKind.wrap_u32']
/-! ### The lists that come out are such -/
theorem sha_s1_wl (b : ByteArray) : ∀ m, Wl (sha_s1 b m)
  | 0 => by
    intro x hx
    rw [List.eq_of_mem_replicate hx]
    exact ⟨by decide, by decide⟩
  | m + 1 => wl_set (sha_s1_wl b m) m (sha_word_w32 b m)
theorem sha_s2_wl {xs : List Int} (h : Wl xs) : ∀ m, Wl (sha_s2 xs m)
  | 0 => h
  | m + 1 => wl_set (sha_s2_wl h m) _ (w32_wrap _)
theorem sha_sched_wl (b : ByteArray) : Wl (sha_sched b) := sha_s2_wl (sha_s1_wl b 16) 48
theorem sha_rnd_wl {vs : List Int} (h : Wl vs) (a b : Int) : Wl (sha_rnd vs a b) := by
  intro x hx
  unfold sha_rnd at hx
  simp only [List.mem_cons, List.not_mem_nil, or_false] at hx
  rcases hx with rfl | rfl | rfl | rfl | rfl | rfl | rfl | rfl
  · exact w32_wrap _
  · exact wl_rd h _
  · exact wl_rd h _
  · exact wl_rd h _
  · exact w32_wrap _
  · exact wl_rd h _
  · exact wl_rd h _
  · exact wl_rd h _
theorem sha_rs_wl (kk ws : List Int) {vs : List Int} (h : Wl vs) : ∀ m, Wl (sha_rs kk ws vs m)
  | 0 => h
  | m + 1 => sha_rnd_wl (sha_rs_wl kk ws h m) _ _
theorem sha_ad_wl {s : List Int} (h : Wl s) (vs : List Int) : ∀ m, Wl (sha_ad s vs m)
  | 0 => h
  | m + 1 => wl_set (sha_ad_wl h vs m) m (w32_wrap _)
theorem sha_H0_wl : Wl sha_H0 := by
  intro x hx
  have : ∀ y ∈ sha_H0, 0 ≤ y ∧ y < 4294967296 := by decide
  exact this x hx
theorem sha_K_wl : Wl sha_K := by
  intro x hx
  have : (sha_K.all fun y => decide (0 ≤ y ∧ y < 4294967296)) = true := by kernel_rfl
  have h : 0 ≤ x ∧ x < 4294967296 := of_decide_eq_true (List.all_eq_true.1 this x hx)
  exact h
theorem sha_run_wl (all : ByteArray) : ∀ m, Wl (sha_run all m)
  | 0 => sha_H0_wl
  | m + 1 => sha_ad_wl (sha_run_wl all m) _ 8

end Go.Proofs.Ytjjabjajoefgdaa.Pure
