/- The document's hash of bytes is the program's, plain. Condition: at most 100000 bytes. -/
import Derived.Test.YtjjabjajoefgdaaPL14x2
import Derived.Test.YtjjabjajoefgdaaPL14x3
import Derived.Test.YtjjabjajoefgdaaPL14x4
import Derived.Test.YtjjabjajoefgdaaPureBase
import Derived.Test.YtjjabjajoefgdaaPurePad
import Derived.Test.YtjjabjajoefgdaaPureSha
import Derived.Test.YtjjabjajoefgdaaPureShaEq
namespace Go.Proofs.Ytjjabjajoefgdaa.Pure
open Go.RowKit Go.Proofs.YtjjabjajoefgdaaW.PrintWords Go.Proofs.YtjjabjajoefgdaaW.PrintLast Go.Proofs.YtjjabjajoefgdaaW.PrintMore Go.Proofs.Ytjjabjajoefgdaa.PL14
set_option linter.unusedVariables false
set_option linter.unusedSimpArgs false
theorem bytesOf_append (s t : ByteArray) : bytesOf (s ++ t) = bytesOf s ++ bytesOf t := by
  unfold bytesOf
  rw [ByteArray.data_append, Array.toList_append, List.map_append]
theorem rd_drop (xs : List Int) (d : Nat) (i : Int) (h : 0 ≤ i) : rd (xs.drop d) i = rd xs (d + i) := by
  unfold rd
  rw [List.getD_eq_getElem?_getD, List.getD_eq_getElem?_getD, List.getElem?_drop, show ((d : Int) + i).toNat = d + i.toNat by omega]
theorem bt_cut (s : ByteArray) (a b : Nat) (i : Int) (h0 : 0 ≤ i) (h1 : a + i < b) (h2 : b ≤ s.size) : bt (s.extract a b) i = bt s (a + i) := by
  have hs : (s.extract a b).size = b - a := by rw [ByteArray.size_extract]; omega
  unfold bt
  rw [dif_pos (by omega), dif_pos (by omega)]
  congr 2
  have : (s.extract a b)[i.toNat]'(by omega) = s[a + i.toNat]'(by omega) := by
    rw [ByteArray.getElem_extract]
  rw [this]
  congr 1
  omega
/-! ### The filled bytes -/
theorem shr_kinds (x : Int) (j : Nat) (h : j ≤ 64) : shr .u64 x (j : Int) = shr .i64 x (j : Int) := by
  unfold shr
  have h1 : (IntKind.u64.bits : Nat) = 64 := rfl
  have h2 : (IntKind.i64.bits : Nat) = 64 := rfl
  rw [h1, h2]
theorem fill_l1 (n4 : Int) : ∀ (j : Nat) (xs : List Int), j ≤ 8 → xs.length + j ≤ 2000000 → Ev (fun k => vitrineref14_Filled.l1 k xs n4 ((j : Int) - 1)) (xs ++ padT n4 j) := by
  intro j
  induction j with
  | zero =>
    intro xs hj hx
    refine ⟨1, fun k hk => ?_⟩
    obtain ⟨m, rfl⟩ : ∃ m, k = m + 1 := ⟨k - 1, by omega⟩
    simp only [vitrineref14_Filled.l1]
    rw [if_neg (by omega), padT, List.append_nil]
  | succ j ih =>
    intro xs hj hx
    refine Ev.step (f := fun k => vitrineref14_Filled.l1 k (xs ++ [(shr .u64 n4 (8 * (j : Int))) % 256]) n4 ((j : Int) - 1)) (fun k => ?_) ?_
    · simp only [vitrineref14_Filled.l1]
      rw [show ((j + 1 : Nat) : Int) - 1 = (j : Int) by omega, w64 (x := 8 * (j : Int)) (by omega) (by omega), w64 (x := (j : Int) - 1) (by omega) (by omega), if_pos (by omega), if_pos (by omega), if_pos (by omega), show (8 * (j : Int)) = ((8 * j : Nat) : Int) by omega, shr_kinds n4 (8 * j) (by omega)]
    · have := ih (xs ++ [(shr .u64 n4 (8 * (j : Int))) % 256]) (by omega) (by simp; omega)
      rw [List.append_assoc] at this
      exact this
theorem fill_l0 (s : ByteArray) (hs : s.size ≤ 100000) {r : List Int} : ∀ (d : Nat) (xs : List Int), xs.length + d ≤ 1000000 → d < 64 → (xs.length + d) % 64 = 56 → Ev (fun k => vitrineref14_Filled.l1 k (xs ++ List.replicate d 0) (8 * (s.size : Int)) 7) r → Ev (fun k => vitrineref14_Filled.l0 k s xs) r := by
  intro d
  induction d with
  | zero =>
    intro xs hx hd hm h
    refine Ev.step (f := fun k => vitrineref14_Filled.l1 k xs (8 * (s.size : Int)) 7) (fun k => ?_) (by simpa using h)
    simp only [vitrineref14_Filled.l0]
    rw [w64 (by omega) (by omega), if_pos (by omega)]
  | succ d ih =>
    intro xs hx hd hm h
    refine Ev.step (f := fun k => vitrineref14_Filled.l0 k s (xs ++ [0])) (fun k => ?_) (ih (xs ++ [0]) (by simp; omega) (by omega) (by simp; omega) ?_)
    · simp only [vitrineref14_Filled.l0]
      rw [if_neg (by omega), if_pos (by omega)]
    · rw [List.append_assoc]
      exact h
theorem padT_byt (n : Int) : ∀ j, Byt (padT n j)
  | 0 => by intro x hx; cases hx
  | j + 1 => by
    intro x hx
    rcases List.mem_cons.1 hx with rfl | hx
    · exact ⟨by omega, by omega⟩
    · exact padT_byt n j x hx
theorem byt_append {a b : List Int} (ha : Byt a) (hb : Byt b) : Byt (a ++ b) := fun x hx => (List.mem_append.1 hx).elim (ha x) (hb x)
theorem padAll_bytes (s : ByteArray) (hs : s.size ≤ 100000) : bytesOf (padAll s) = bytesOf s ++ [128] ++ List.replicate (padZ s.size) 0 ++ padT (8 * (s.size : Int)) 8 := by
  have e : IntKind.u64.wrap ((IntKind.u64.wrap ((s.size : Int))) * 8) = 8 * (s.size : Int) := by
    have w : ∀ x : Int, 0 ≤ x → x ≤ 9223372036854775807 → IntKind.u64.wrap x = x := by
      intro x h0 h1
      rw [IntKind.wrap_u64]
      omega
    rw [w (s.size : Int) (by omega) (by omega), w _ (by omega) (by omega)]
    omega
  unfold padAll
  rw [bytesOf_append, e, bytesOf_str]
  · simp only [List.append_assoc]
  · refine byt_append (byt_append ?_ ?_) (padT_byt _ _)
    · intro x hx
      rw [List.mem_singleton.1 hx]
      exact ⟨by decide, by decide⟩
    · intro x hx
      rw [List.eq_of_mem_replicate hx]
      exact ⟨by decide, by decide⟩
theorem filled_ev (s : ByteArray) (hs : s.size ≤ 100000) : Ev (fun k => vitrineref14_Filled.f k s) (bytesOf (padAll s)) := by
  have hl := bytesOf_length s
  refine Ev.congr (f := fun k => vitrineref14_Filled.l0 k s (bytesOf s ++ [128])) (fun k => ?_) ?_
  · unfold vitrineref14_Filled.f
    rw [if_pos (by omega), Option.bind_some, if_pos (by omega)]
  · have hz : padZ s.size < 64 := by unfold padZ; omega
    refine fill_l0 s hs (padZ s.size) _ (by simp; omega) hz (by simp; unfold padZ; omega) ?_
    rw [padAll_bytes s hs]
    exact fill_l1 _ 8 _ (by omega) (by simp; omega)
/-! ### The loops of a block -/
theorem r_l1 (H K F : List Int) (b : ByteArray) (hF : 64 ≤ F.length) (hF2 : F.length ≤ 1000000) (hb : ∀ i : Int, 0 ≤ i → i < 64 → rd F i = bt b i) {r : ByteArray} (h : Ev (fun k => vitrineref14_Sum.l2 k H K F (sha_s1 b 16) 16) r) :
    ∀ (d t : Nat), t + d = 16 → Ev (fun k => vitrineref14_Sum.l1 k H K F (sha_s1 b t) (t : Int)) r := by
  intro d
  induction d with
  | zero =>
    intro t ht
    obtain rfl : t = 16 := by omega
    refine Ev.step (fun k => ?_) h
    simp only [vitrineref14_Sum.l1]
    rw [if_neg (by omega)]
  | succ d ih =>
    intro t ht
    refine Ev.step (f := fun k => vitrineref14_Sum.l1 k H K F (sha_s1 b (t + 1)) ((t + 1 : Nat) : Int)) (fun k => ?_) (ih (t + 1) (by omega))
    have hl := sha_s1_len b t
    have e0 : wrap64 (4 * (t : Int)) = 4 * (t : Int) := w64 (by omega) (by omega)
    have e1 : wrap64 (4 * (t : Int) + 1) = 4 * (t : Int) + 1 := w64 (by omega) (by omega)
    have e2 : wrap64 (4 * (t : Int) + 2) = 4 * (t : Int) + 2 := w64 (by omega) (by omega)
    have e3 : wrap64 (4 * (t : Int) + 3) = 4 * (t : Int) + 3 := w64 (by omega) (by omega)
    have e4 : wrap64 ((t : Int) + 1) = ((t + 1 : Nat) : Int) := by rw [w64 (by omega) (by omega)]; omega
    simp only [vitrineref14_Sum.l1]
    rw [e0, e1, e2, e3, e4, if_pos (by omega), if_pos (by omega), if_pos (by omega), if_pos (by omega), if_pos (by omega), if_pos (by omega), if_pos (by omega), if_pos (by omega), if_pos (by omega), if_pos (by omega), if_pos (by omega)]
    rw [hb _ (by omega) (by omega), hb _ (by omega) (by omega), hb _ (by omega) (by omega), hb _ (by omega) (by omega), (word_eq (bt_range b _) (bt_range b _) (bt_range b _) (bt_range b _)).1]
    rfl
theorem r_l2 (H K F : List Int) {xs : List Int} (hx : Wl xs) (hxl : xs.length = 64) (hH : H.length = 8) {r : ByteArray} (h : Ev (fun k => vitrineref14_Sum.l3 k H K F (sha_s2 xs 48) H 0) r) :
    ∀ (d m : Nat), m + d = 48 → Ev (fun k => vitrineref14_Sum.l2 k H K F (sha_s2 xs m) ((16 + m : Nat) : Int)) r := by
  intro d
  induction d with
  | zero =>
    intro m hm
    obtain rfl : m = 48 := by omega
    refine Ev.step (fun k => ?_) h
    simp only [vitrineref14_Sum.l2]
    rw [if_neg (by omega), Option.bind_some, if_pos (by simp only [List.length_nil]; omega), List.nil_append]
  | succ d ih =>
    intro m hm
    refine Ev.step (f := fun k => vitrineref14_Sum.l2 k H K F (sha_s2 xs (m + 1)) ((16 + (m + 1) : Nat) : Int)) (fun k => ?_) (ih (m + 1) (by omega))
    have hl : (sha_s2 xs m).length = 64 := by rw [sha_s2_len, hxl]
    have hw := sha_s2_wl hx m
    have e0 : wrap64 (((16 + m : Nat) : Int) - 15) = ((16 + m : Nat) : Int) - 15 := w64 (by omega) (by omega)
    have e1 : wrap64 (((16 + m : Nat) : Int) - 2) = ((16 + m : Nat) : Int) - 2 := w64 (by omega) (by omega)
    have e2 : wrap64 (((16 + m : Nat) : Int) - 16) = ((16 + m : Nat) : Int) - 16 := w64 (by omega) (by omega)
    have e3 : wrap64 (((16 + m : Nat) : Int) - 7) = ((16 + m : Nat) : Int) - 7 := w64 (by omega) (by omega)
    have e4 : wrap64 (((16 + m : Nat) : Int) + 1) = ((16 + (m + 1) : Nat) : Int) := by rw [w64 (by omega) (by omega)]; omega
    have ra := wl_rd hw (((16 + m : Nat) : Int) - 15)
    have rb := wl_rd hw (((16 + m : Nat) : Int) - 2)
    have rc := wl_rd hw (((16 + m : Nat) : Int) - 16)
    have rdd := wl_rd hw (((16 + m : Nat) : Int) - 7)
    have t1 : vitrineref14_turned.f (rd (sha_s2 xs m) (((16 + m : Nat) : Int) - 15)) 7 = _ := turned_i ra 7 (by omega) (by omega)
    have t2 : vitrineref14_turned.f (rd (sha_s2 xs m) (((16 + m : Nat) : Int) - 15)) 18 = _ := turned_i ra 18 (by omega) (by omega)
    have t3 : vitrineref14_turned.f (rd (sha_s2 xs m) (((16 + m : Nat) : Int) - 2)) 17 = _ := turned_i rb 17 (by omega) (by omega)
    have t4 : vitrineref14_turned.f (rd (sha_s2 xs m) (((16 + m : Nat) : Int) - 2)) 19 = _ := turned_i rb 19 (by omega) (by omega)
    have x1 := xor_both (trn_w32 ra 7 (by omega)) (trn_w32 ra 18 (by omega))
    have x2 := xor_both x1.2 (div_w32 ra 8 (by decide))
    have y1 := xor_both (trn_w32 rb 17 (by omega)) (trn_w32 rb 19 (by omega))
    have y2 := xor_both y1.2 (div_w32 rb 1024 (by decide))
    simp only [vitrineref14_Sum.l2]
    rw [e0, e1, e2, e3, e4, if_pos (by omega), if_pos (by omega), if_pos (by omega), if_pos (by omega), if_pos (by omega), if_pos (by omega), if_pos (by omega), t1, t2]
    simp only [Option.bind_some]
    rw [if_pos (by omega), if_pos (by omega), t3, t4]
    simp only [Option.bind_some]
    rw [if_pos (by omega), if_pos (by omega), x1.1, x2.1, y1.1, y2.1, sum4 rc x2.2 rdd y2.2]
    rfl
theorem r_l3 (H F W : List Int) (hW : Wl W) (hWl : W.length = 64) {vs : List Int} (hv : Wl vs) (hvl : vs.length = 8) {r : ByteArray} (h : Ev (fun k => vitrineref14_Sum.l4 k H sha_K F (sha_rs sha_K W vs 64) 0) r) :
    ∀ (d m : Nat), m + d = 64 → Ev (fun k => vitrineref14_Sum.l3 k H sha_K F W (sha_rs sha_K W vs m) (m : Int)) r := by
  intro d
  induction d with
  | zero =>
    intro m hm
    obtain rfl : m = 64 := by omega
    refine Ev.step (fun k => ?_) h
    simp only [vitrineref14_Sum.l3]
    rw [if_neg (by omega)]
  | succ d ih =>
    intro m hm
    refine Ev.step (f := fun k => vitrineref14_Sum.l3 k H sha_K F W (sha_rs sha_K W vs (m + 1)) ((m + 1 : Nat) : Int)) (fun k => ?_) (ih (m + 1) (by omega))
    have hl : (sha_rs sha_K W vs m).length = 8 := sha_rs_len _ _ _ hvl m
    have hw := sha_rs_wl sha_K W hv m
    have hkl : sha_K.length = 64 := by kernel_rfl
    have e4 : wrap64 ((m : Int) + 1) = ((m + 1 : Nat) : Int) := by rw [w64 (by omega) (by omega)]; omega
    obtain ⟨v, hvv⟩ : ∃ v, sha_rs sha_K W vs m = v := ⟨_, rfl⟩
    have hsucc : sha_rs sha_K W vs (m + 1) = sha_rnd v (rd sha_K (m : Int)) (rd W (m : Int)) := by rw [← hvv]; rfl
    rw [hsucc]
    rw [hvv] at hl hw
    rw [hvv]
    have r0 := wl_rd hw 0
    have r1 := wl_rd hw 1
    have r2 := wl_rd hw 2
    have r3 := wl_rd hw 3
    have r4 := wl_rd hw 4
    have r5 := wl_rd hw 5
    have r6 := wl_rd hw 6
    have r7 := wl_rd hw 7
    have t1 : vitrineref14_turned.f (rd v 4) 6 = _ := turned_i r4 6 (by omega) (by omega)
    have t2 : vitrineref14_turned.f (rd v 4) 11 = _ := turned_i r4 11 (by omega) (by omega)
    have t3 : vitrineref14_turned.f (rd v 4) 25 = _ := turned_i r4 25 (by omega) (by omega)
    have t4 : vitrineref14_turned.f (rd v 0) 2 = _ := turned_i r0 2 (by omega) (by omega)
    have t5 : vitrineref14_turned.f (rd v 0) 13 = _ := turned_i r0 13 (by omega) (by omega)
    have t6 : vitrineref14_turned.f (rd v 0) 22 = _ := turned_i r0 22 (by omega) (by omega)
    have a1 := xor_both (trn_w32 r4 6 (by omega)) (trn_w32 r4 11 (by omega))
    have a2 := xor_both a1.2 (trn_w32 r4 25 (by omega))
    have b1 := and_both r4 r5
    have b2 := andNot_both r4 r6
    have b3 := xor_both b1.2 b2.2
    have c1 := xor_both (trn_w32 r0 2 (by omega)) (trn_w32 r0 13 (by omega))
    have c2 := xor_both c1.2 (trn_w32 r0 22 (by omega))
    have d1 := and_both r0 r1
    have d2 := and_both r0 r2
    have d3 := and_both r1 r2
    have d4 := xor_both d1.2 d2.2
    have d5 := xor_both d4.2 d3.2
    have rk := wl_rd sha_K_wl (m : Int)
    have rw_ := wl_rd hW (m : Int)
    have sx := sum5 r7 a2.2 b3.2 rk rw_
    have sy := sum2 c2.2 d5.2
    simp only [vitrineref14_Sum.l3]
    rw [if_pos (by omega), if_pos (by omega), if_pos (by omega), if_pos (by omega), t1, t2, t3]
    simp only [Option.bind_some]
    rw [if_pos (by omega), if_pos (by omega), if_pos (by omega), if_pos (by omega), if_pos (by omega), t4, t5, t6]
    simp only [Option.bind_some]
    rw [if_pos (by omega), if_pos (by omega), if_pos (by omega), e4, a1.1, a2.1, b1.1, b2.1, b3.1, c1.1, c2.1, d1.1, d2.1, d3.1, d4.1, d5.1, sx, sy, sum2 (w32_wrap _) (w32_wrap _), sum2 r3 (w32_wrap _)]
    rfl
theorem r_l4 (K F : List Int) {s vs : List Int} (hs : Wl s) (hsl : s.length = 8) (hv : Wl vs) (hvl : vs.length = 8) (hF : 64 ≤ F.length) {r : ByteArray} (h : Ev (fun k => vitrineref14_Sum.l0 k (sha_ad s vs 8) K (F.drop 64)) r) :
    ∀ (d m : Nat), m + d = 8 → Ev (fun k => vitrineref14_Sum.l4 k (sha_ad s vs m) K F vs (m : Int)) r := by
  intro d
  induction d with
  | zero =>
    intro m hm
    obtain rfl : m = 8 := by omega
    refine Ev.step (fun k => ?_) h
    simp only [vitrineref14_Sum.l4]
    rw [if_neg (by omega), if_pos (by omega)]
    rfl
  | succ d ih =>
    intro m hm
    refine Ev.step (f := fun k => vitrineref14_Sum.l4 k (sha_ad s vs (m + 1)) K F vs ((m + 1 : Nat) : Int)) (fun k => ?_) (ih (m + 1) (by omega))
    have hl : (sha_ad s vs m).length = 8 := by rw [sha_ad_len, hsl]
    have e4 : wrap64 ((m : Int) + 1) = ((m + 1 : Nat) : Int) := by rw [w64 (by omega) (by omega)]; omega
    simp only [vitrineref14_Sum.l4]
    rw [if_pos (by omega), if_pos (by omega), if_pos (by omega), if_pos (by omega), e4, sum2 (wl_rd (sha_ad_wl hs vs m) _) (wl_rd hv _)]
    rfl
theorem r_l5 (H : List Int) (hl : H.length = 8) : ∀ (d m : Nat), m + d = 8 → Ev (fun k => vitrineref14_Sum.l5 k H (sha_out H m) (m : Int)) (strOfNums (sha_out H 8)) := by
  intro d
  induction d with
  | zero =>
    intro m hm
    obtain rfl : m = 8 := by omega
    refine ⟨1, fun k hk => ?_⟩
    obtain ⟨j, rfl⟩ : ∃ j, k = j + 1 := ⟨k - 1, by omega⟩
    simp only [vitrineref14_Sum.l5]
    rw [if_neg (by omega)]
  | succ d ih =>
    intro m hm
    refine Ev.step (f := fun k => vitrineref14_Sum.l5 k H (sha_out H (m + 1)) ((m + 1 : Nat) : Int)) (fun k => ?_) (ih (m + 1) (by omega))
    have e4 : wrap64 ((m : Int) + 1) = ((m + 1 : Nat) : Int) := by rw [w64 (by omega) (by omega)]; omega
    have ho := sha_out_len H m
    simp only [vitrineref14_Sum.l5]
    rw [if_pos (by omega), if_pos (by omega), if_pos (by omega), Option.bind_some, if_pos (by simp only [List.length_cons, List.length_nil]; omega), e4]
    rfl
theorem r_l0 (S : ByteArray) (N : Nat) (hS : S.size = 64 * N) (hS2 : S.size ≤ 1000000) : ∀ (d m : Nat), m + d = N → Ev (fun k => vitrineref14_Sum.l0 k (sha_run S m) sha_K ((bytesOf S).drop (64 * m))) (strOfNums (sha_out (sha_run S N) 8)) := by
  intro d
  have hbl := bytesOf_length S
  induction d with
  | zero =>
    intro m hm
    obtain rfl : m = N := by omega
    refine Ev.step (f := fun k => vitrineref14_Sum.l5 k (sha_run S m) (sha_out (sha_run S m) 0) ((0 : Nat) : Int)) (fun k => ?_) (r_l5 _ (sha_run_len S m) 8 0 rfl)
    simp only [vitrineref14_Sum.l0]
    rw [if_neg (by rw [List.length_drop]; omega)]
    rfl
  | succ d ih =>
    intro m hm
    have hFl : 64 ≤ ((bytesOf S).drop (64 * m)).length := by rw [List.length_drop]; omega
    have hFl2 : ((bytesOf S).drop (64 * m)).length ≤ 1000000 := by rw [List.length_drop]; omega
    have h0 := ih (m + 1) (by omega)
    have hb : ∀ i : Int, 0 ≤ i → i < 64 → rd ((bytesOf S).drop (64 * m)) i = bt (S.extract (64 * m) (64 * m + 64)) i := by
      intro i h0 h1
      rw [rd_drop _ _ _ h0, rd_bytesOf, bt_cut S _ _ i h0 (by omega) (by omega)]
    have hrl := sha_run_len S m
    have hrw := sha_run_wl S m
    have hd : ((bytesOf S).drop (64 * m)).drop 64 = (bytesOf S).drop (64 * (m + 1)) := by rw [List.drop_drop]; congr 1
    obtain ⟨b, hbb⟩ : ∃ b, S.extract (64 * m) (64 * m + 64) = b := ⟨_, rfl⟩
    have hrun : sha_run S (m + 1) = sha_ad (sha_run S m) (sha_rs sha_K (sha_sched b) (sha_run S m) 64) 8 := by rw [← hbb]; rfl
    rw [hrun, ← hd] at h0
    rw [hbb] at hb
    have h4 := r_l4 sha_K ((bytesOf S).drop (64 * m)) hrw hrl (sha_rs_wl sha_K (sha_sched b) hrw 64) (sha_rs_len _ _ _ hrl 64) hFl h0 8 0 rfl
    have h3 := r_l3 (sha_run S m) ((bytesOf S).drop (64 * m)) (sha_sched b) (sha_sched_wl b) (sha_sched_len b) hrw hrl h4 64 0 rfl
    have h2 := r_l2 (sha_run S m) sha_K ((bytesOf S).drop (64 * m)) (sha_s1_wl b 16) (sha_s1_len b 16) hrl h3 48 0 rfl
    have h1 := r_l1 (sha_run S m) sha_K ((bytesOf S).drop (64 * m)) b hFl hFl2 hb h2 16 0 rfl
    refine Ev.step (fun k => ?_) h1
    simp only [vitrineref14_Sum.l0]
    rw [if_pos (by omega), if_pos (by decide)]
    rfl
theorem rsum_ev (s : ByteArray) (hs : s.size ≤ 100000) : Ev (fun k => vitrineref14_Sum.f k s) (shaS s) := by
  have hp := padAll_size s
  have h := r_l0 (padAll s) ((padAll s).size / 64) (by rw [hp]; unfold padZ; omega) (by rw [hp]; unfold padZ; omega) ((padAll s).size / 64) 0 (by omega)
  refine Ev.congr (f := fun k => (vitrineref14_Filled.f k s).bind fun t123 => (vitrineref14_Sum.l0 k sha_H0 sha_K t123)) (fun k => ?_) ?_
  · unfold vitrineref14_Sum.f
    rfl
  · refine Ev.bind (f := fun k t123 => vitrineref14_Sum.l0 k sha_H0 sha_K t123) (filled_ev s hs) ?_
    exact h

end Go.Proofs.Ytjjabjajoefgdaa.Pure
