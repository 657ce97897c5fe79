/- LaceOnce, plain: each pixel of an image stands in just one pass, at one place of it. Condition: whole numbers of 64 bits. -/
import Derived.Test.YtlonbchidopcpaaPL10x10
import Derived.Test.YtlonbchidopcpaaPL10x11
import Derived.Test.YtlonbchidopcpaaPL10x17
import Derived.Test.YtlonbchidopcpaaPureL10
import Derived.Test.YtlonbchidopcpaaPureL10L
namespace Go.Proofs.Ytlonbchidopcpaa.Pure
open Go.RowKit Go.Proofs.YtlonbchidopcpaaW.PrintWords Go.Proofs.YtlonbchidopcpaaW.PrintLast Go.Proofs.YtlonbchidopcpaaW.PrintMore Go.Proofs.Ytlonbchidopcpaa.PL10
set_option linter.unusedVariables false
set_option linter.unusedSimpArgs false
theorem lo_x_mem (p : S34) (y : Nat) (S : List (Int × Int)) (q : Int × Int) : ∀ n, q ∈ lo_x p y S n ↔ q ∈ S ∨ ∃ x, x < n ∧ q = lo_at p y x
  | 0 => ⟨fun h => .inl h, fun h => h.elim id (fun ⟨x, hx, _⟩ => absurd hx (Nat.not_lt_zero _))⟩
  | n + 1 => by
    show q ∈ lo_at p y n :: lo_x p y S n ↔ _
    rw [List.mem_cons, lo_x_mem p y S q n]
    constructor
    · rintro (h | h | ⟨x, hx, h⟩)
      · exact .inr ⟨n, by omega, h⟩
      · exact .inl h
      · exact .inr ⟨x, by omega, h⟩
    · rintro (h | ⟨x, hx, h⟩)
      · exact .inr (.inl h)
      · by_cases hxn : x = n
        · subst hxn; exact .inl h
        · exact .inr (.inr ⟨x, by omega, h⟩)
theorem lo_y_mem (p : S34) (S : List (Int × Int)) (q : Int × Int) : ∀ n, q ∈ lo_y p S n ↔ q ∈ S ∨ ∃ y, y < n ∧ ∃ x, x < p.f4.toNat ∧ q = lo_at p y x
  | 0 => ⟨fun h => .inl h, fun h => h.elim id (fun ⟨x, hx, _⟩ => absurd hx (Nat.not_lt_zero _))⟩
  | n + 1 => by
    show q ∈ lo_x p n (lo_y p S n) p.f4.toNat ↔ _
    rw [lo_x_mem, lo_y_mem p S q n]
    constructor
    · rintro ((h | ⟨y, hy, h⟩) | h)
      · exact .inl h
      · exact .inr ⟨y, by omega, h⟩
      · exact .inr ⟨n, by omega, h⟩
    · rintro (h | ⟨y, hy, h⟩)
      · exact .inl (.inl h)
      · by_cases hyn : y = n
        · subst hyn; exact .inr h
        · exact .inl (.inr ⟨y, by omega, h⟩)
theorem lo_i_mem (l : List S34) (q : Int × Int) : ∀ n, q ∈ lo_i l n ↔ ∃ i, i < n ∧ ∃ y, y < (rd_T34 l (i : Int)).f5.toNat ∧ ∃ x, x < (rd_T34 l (i : Int)).f4.toNat ∧ q = lo_at (rd_T34 l (i : Int)) y x
  | 0 => ⟨fun h => absurd h List.not_mem_nil, fun ⟨x, hx, _⟩ => absurd hx (Nat.not_lt_zero _)⟩
  | n + 1 => by
    show q ∈ lo_y (rd_T34 l (n : Int)) (lo_i l n) (rd_T34 l (n : Int)).f5.toNat ↔ _
    rw [lo_y_mem, lo_i_mem l q n]
    constructor
    · rintro (⟨i, hi, h⟩ | h)
      · exact ⟨i, by omega, h⟩
      · exact ⟨n, by omega, h⟩
    · rintro ⟨i, hi, h⟩
      by_cases hin : i = n
      · subst hin; exact .inr h
      · exact .inl ⟨i, by omega, h⟩
theorem mul_inj {a b s : Int} (hs : 1 ≤ s) (h : a * s = b * s) : a = b := Int.eq_of_mul_eq_mul_right (by omega) h
theorem lo_at_inj {p : S34} (h2 : 1 ≤ p.f2) (h3 : 1 ≤ p.f3) {y x y' x' : Nat} (h : lo_at p y x = lo_at p y' x') : y = y' ∧ x = x' := by
  unfold lo_at at h
  rw [Prod.mk.injEq] at h
  have a1 := mul_inj h2 (show (x : Int) * p.f2 = (x' : Int) * p.f2 by omega)
  have a2 := mul_inj h3 (show (y : Int) * p.f3 = (y' : Int) * p.f3 by omega)
  omega
theorem lo_x_nodup {p : S34} (h2 : 1 ≤ p.f2) (h3 : 1 ≤ p.f3) (y : Nat) {S : List (Int × Int)} (hS : S.Nodup) : ∀ n, (∀ x, x < n → lo_at p y x ∉ S) → (lo_x p y S n).Nodup
  | 0, _ => hS
  | n + 1, h => by
    refine List.nodup_cons.2 ⟨fun hm => ?_, lo_x_nodup h2 h3 y hS n (fun x hx => h x (by omega))⟩
    rcases (lo_x_mem p y S _ n).1 hm with hm | ⟨x, hx, he⟩
    · exact h n (by omega) hm
    · have := (lo_at_inj h2 h3 he).2
      omega
theorem lo_y_nodup {p : S34} (h2 : 1 ≤ p.f2) (h3 : 1 ≤ p.f3) {S : List (Int × Int)} (hS : S.Nodup) : ∀ n, (∀ y, y < n → ∀ x, x < p.f4.toNat → lo_at p y x ∉ S) → (lo_y p S n).Nodup
  | 0, _ => hS
  | n + 1, h => by
    refine lo_x_nodup h2 h3 n (lo_y_nodup h2 h3 hS n (fun y hy => h y (by omega))) _ (fun x hx hm => ?_)
    rcases (lo_y_mem p S _ n).1 hm with hm | ⟨y, hy, x', _, he⟩
    · exact h n (by omega) x hx hm
    · have := (lo_at_inj h2 h3 he).1
      omega
theorem lo_i_nodup {l : List S34} (hs : ∀ i : Nat, i < l.length → 1 ≤ (rd_T34 l (i : Int)).f2 ∧ 1 ≤ (rd_T34 l (i : Int)).f3) (hd : ∀ i j : Nat, i < j → j < l.length → ∀ y x y' x', lo_at (rd_T34 l (i : Int)) y x ≠ lo_at (rd_T34 l (j : Int)) y' x') : ∀ n, n ≤ l.length → (lo_i l n).Nodup
  | 0, _ => List.nodup_nil
  | n + 1, h => by
    refine lo_y_nodup (hs n (by omega)).1 (hs n (by omega)).2 (lo_i_nodup hs hd n (by omega)) _ (fun y _ x _ hm => ?_)
    obtain ⟨i, hi, y', _, x', _, he⟩ := (lo_i_mem l _ n).1 hm
    exact hd i n hi (by omega) y' x' y x he.symm
theorem lo_x_len (p : S34) (y : Nat) (S : List (Int × Int)) : ∀ n, (lo_x p y S n).length = S.length + n
  | 0 => rfl
  | n + 1 => by show (lo_x p y S n).length + 1 = _; rw [lo_x_len p y S n]; omega
theorem lo_y_len (p : S34) (S : List (Int × Int)) : ∀ n, (lo_y p S n).length = S.length + n * p.f4.toNat
  | 0 => by show S.length = _; omega
  | n + 1 => by show (lo_x p n (lo_y p S n) p.f4.toNat).length = _; rw [lo_x_len, lo_y_len p S n, Nat.add_mul, Nat.one_mul]; omega
theorem nodup_len : ∀ {l m : List (Int × Int)}, l.Nodup → (∀ q ∈ l, q ∈ m) → l.length ≤ m.length
  | [], _, _, _ => Nat.zero_le _
  | a :: l, m, h, hm => by
    have hn := List.nodup_cons.1 h
    have ha := hm a List.mem_cons_self
    have h1 := nodup_len (l := l) (m := m.erase a) hn.2 (fun q hq => (List.mem_erase_of_ne (fun e : q = a => hn.1 (by rw [← e]; exact hq))).2 (hm q (List.mem_cons_of_mem _ hq)))
    rw [List.length_erase_of_mem ha] at h1
    have := List.length_pos_of_mem ha
    show l.length + 1 ≤ m.length
    omega
/-! ### The passes -/
/-- One of the passes of a laced image. -/
def isT (p : S34) : Prop := (p.f0 = 0 ∧ p.f1 = 0 ∧ p.f2 = 8 ∧ p.f3 = 8) ∨ (p.f0 = 4 ∧ p.f1 = 0 ∧ p.f2 = 8 ∧ p.f3 = 8) ∨ (p.f0 = 0 ∧ p.f1 = 4 ∧ p.f2 = 4 ∧ p.f3 = 8) ∨ (p.f0 = 2 ∧ p.f1 = 0 ∧ p.f2 = 4 ∧ p.f3 = 4) ∨ (p.f0 = 0 ∧ p.f1 = 2 ∧ p.f2 = 2 ∧ p.f3 = 4) ∨ (p.f0 = 1 ∧ p.f1 = 0 ∧ p.f2 = 2 ∧ p.f3 = 2) ∨ (p.f0 = 0 ∧ p.f1 = 1 ∧ p.f2 = 1 ∧ p.f3 = 2)
def far (p q : S34) : Prop := ¬ (p.f0 = q.f0 ∧ p.f1 = q.f1)
theorem apart7 {p q : S34} (hp : isT p) (hq : isT q) (hne : far p q) (y x y' x' : Nat) : lo_at p y x ≠ lo_at q y' x' := by
  intro h
  unfold lo_at at h
  rw [Prod.mk.injEq] at h
  obtain ⟨h1, h2⟩ := h
  unfold far at hne
  obtain ⟨p0, p1, p2, p3, p4, p5⟩ := p
  obtain ⟨q0, q1, q2, q3, q4, q5⟩ := q
  dsimp only at h1 h2 hne
  unfold isT at hp hq
  dsimp only at hp hq
  rcases hp with ⟨rfl, rfl, rfl, rfl⟩ | ⟨rfl, rfl, rfl, rfl⟩ | ⟨rfl, rfl, rfl, rfl⟩ | ⟨rfl, rfl, rfl, rfl⟩ | ⟨rfl, rfl, rfl, rfl⟩ | ⟨rfl, rfl, rfl, rfl⟩ | ⟨rfl, rfl, rfl, rfl⟩ <;>
    rcases hq with ⟨rfl, rfl, rfl, rfl⟩ | ⟨rfl, rfl, rfl, rfl⟩ | ⟨rfl, rfl, rfl, rfl⟩ | ⟨rfl, rfl, rfl, rfl⟩ | ⟨rfl, rfl, rfl, rfl⟩ | ⟨rfl, rfl, rfl, rfl⟩ | ⟨rfl, rfl, rfl, rfl⟩ <;> omega
theorem ref_mem {W H : Int} {t p : S34} (h : p ∈ refone W H t) : p.f0 = t.f0 ∧ p.f1 = t.f1 ∧ p.f2 = t.f2 ∧ p.f3 = t.f3 ∧ p.f4 = cnt W t.f0 t.f2 ∧ p.f5 = cnt H t.f1 t.f3 := by
  unfold refone at h
  split at h
  · have := List.mem_singleton.1 h
    subst this
    exact ⟨rfl, rfl, rfl, rfl, rfl, rfl⟩
  · cases h
theorem ref_pair {W H : Int} : ∀ {T : List S34}, T.Pairwise far → (T.flatMap (refone W H)).Pairwise far
  | [], _ => List.Pairwise.nil
  | t :: T, h => by
    obtain ⟨h1, h2⟩ := List.pairwise_cons.1 h
    rw [List.flatMap_cons]
    refine List.pairwise_append.2 ⟨?_, ref_pair h2, fun a ha b hb => ?_⟩
    · unfold refone
      split
      · exact List.pairwise_singleton _ _
      · exact List.Pairwise.nil
    · obtain ⟨u, hu, hb⟩ := List.mem_flatMap.1 hb
      have e1 := ref_mem ha
      have e2 := ref_mem hb
      have := h1 u hu
      unfold far at this ⊢
      rw [e1.1, e1.2.1, e2.1, e2.2.1]
      exact this
theorem tab7_pair : tab7.Pairwise far := by
  unfold tab7 far
  simp
theorem tab7_isT : ∀ p ∈ tab7, isT p := by
  intro p hp
  simp only [tab7, List.mem_cons, List.not_mem_nil, or_false] at hp
  rcases hp with rfl | rfl | rfl | rfl | rfl | rfl | rfl <;> unfold isT <;> simp
theorem isT_of {p t : S34} (h : isT t) (h0 : p.f0 = t.f0) (h1 : p.f1 = t.f1) (h2 : p.f2 = t.f2) (h3 : p.f3 = t.f3) : isT p := by
  unfold isT at h ⊢
  rw [h0, h1, h2, h3]
  exact h
/-- Where a pass's pixels stand. -/
theorem cnt_in {n f s : Int} (hs : stp s) (h0 : 0 ≤ f) (h1 : 1 ≤ n) {x : Nat} (hx : x < (cnt n f s).toNat) : 0 ≤ f + (x : Int) * s ∧ f + (x : Int) * s < n := by
  unfold cnt at hx
  split at hx
  · omega
  · rcases hs with rfl | rfl | rfl | rfl <;> omega
theorem cnt_has {n f s a : Int} (hs : stp s) (h0 : 0 ≤ f) (h1 : f ≤ a) (h2 : a < n) (hm : (a - f) % s = 0) : ∃ x : Nat, x < (cnt n f s).toNat ∧ a = f + (x : Int) * s := by
  refine ⟨((a - f) / s).toNat, ?_, ?_⟩
  · unfold cnt
    rw [if_neg (by omega)]
    rcases hs with rfl | rfl | rfl | rfl <;> omega
  · rcases hs with rfl | rfl | rfl | rfl <;> omega
/-- Each pixel stands in one of the passes of a laced image. -/
theorem cover7 {W H a b : Int} (ha : 0 ≤ a ∧ a < W) (hb : 0 ≤ b ∧ b < H) : ∃ t ∈ tab7, t.f0 ≤ a ∧ (a - t.f0) % t.f2 = 0 ∧ t.f1 ≤ b ∧ (b - t.f1) % t.f3 = 0 := by
  have h : (a % 8 = 0 ∧ b % 8 = 0) ∨ (a % 8 = 4 ∧ b % 8 = 0) ∨ (a % 4 = 0 ∧ b % 8 = 4) ∨ (a % 4 = 2 ∧ b % 4 = 0) ∨ (a % 2 = 0 ∧ b % 4 = 2) ∨ (a % 2 = 1 ∧ b % 2 = 0) ∨ (b % 2 = 1) := by omega
  unfold tab7
  rcases h with h | h | h | h | h | h | h
  · exact ⟨⟨0, 0, 8, 8, 0, 0⟩, by simp, by dsimp only; omega⟩
  · exact ⟨⟨4, 0, 8, 8, 0, 0⟩, by simp, by dsimp only; omega⟩
  · exact ⟨⟨0, 4, 4, 8, 0, 0⟩, by simp, by dsimp only; omega⟩
  · exact ⟨⟨2, 0, 4, 4, 0, 0⟩, by simp, by dsimp only; omega⟩
  · exact ⟨⟨0, 2, 2, 4, 0, 0⟩, by simp, by dsimp only; omega⟩
  · exact ⟨⟨1, 0, 2, 2, 0, 0⟩, by simp, by dsimp only; omega⟩
  · exact ⟨⟨0, 1, 1, 2, 0, 0⟩, by simp, by dsimp only; omega⟩
theorem cover1 {a b : Int} (ha : 0 ≤ a) (hb : 0 ≤ b) : ∃ t ∈ tab1, t.f0 ≤ a ∧ (a - t.f0) % t.f2 = 0 ∧ t.f1 ≤ b ∧ (b - t.f1) % t.f3 = 0 :=
  ⟨⟨0, 0, 1, 1, 0, 0⟩, by simp [tab1], by dsimp only; omega⟩
/-- Of a list of passes as they are taken out of a table: what the law asks. -/
theorem once_of {W H : Int} (hW : 1 ≤ W) (hW2 : W ≤ 1024) (hH : 1 ≤ H) (hH2 : H ≤ 1024) (hA : W * H ≤ 4096) {T : List S34} (hT : ∀ t ∈ T, tabOk t) (hl : T.length ≤ 7)
    (hd : ∀ l : List S34, l = T.flatMap (refone W H) → ∀ i j : Nat, i < j → j < l.length → ∀ y x y' x', lo_at (rd_T34 l (i : Int)) y x ≠ lo_at (rd_T34 l (j : Int)) y' x')
    (hc : ∀ a b : Int, 0 ≤ a → a < W → 0 ≤ b → b < H → ∃ t ∈ T, t.f0 ≤ a ∧ (a - t.f0) % t.f2 = 0 ∧ t.f1 ≤ b ∧ (b - t.f1) % t.f3 = 0) : lo_okP W H (T.flatMap (refone W H)) := by
  obtain ⟨l, hle⟩ : ∃ l, T.flatMap (refone W H) = l := ⟨_, rfl⟩
  have hd' := hd l hle.symm
  rw [hle]
  have hmem : ∀ i : Nat, i < l.length → ∃ t ∈ T, rd_T34 l (i : Int) ∈ refone W H t := by
    intro i hi
    have h1 : rd_T34 l (i : Int) ∈ l := by rw [rd_at l i hi]; exact List.getElem_mem hi
    rw [← hle] at h1
    obtain ⟨t, ht, h2⟩ := List.mem_flatMap.1 h1
    rw [hle] at h2
    exact ⟨t, ht, h2⟩
  have hlen : l.length ≤ 7 := by rw [← hle]; exact Nat.le_trans (flat_len W H T) hl
  have hrg : ∀ i : Nat, i < l.length → 1 ≤ (rd_T34 l (i : Int)).f4 ∧ (rd_T34 l (i : Int)).f4 ≤ 1024 ∧ 1 ≤ (rd_T34 l (i : Int)).f5 ∧ (rd_T34 l (i : Int)).f5 ≤ 1024 ∧ 0 ≤ (rd_T34 l (i : Int)).f0 ∧ (rd_T34 l (i : Int)).f0 ≤ 8 ∧ 0 ≤ (rd_T34 l (i : Int)).f1 ∧ (rd_T34 l (i : Int)).f1 ≤ 8 ∧ 1 ≤ (rd_T34 l (i : Int)).f2 ∧ (rd_T34 l (i : Int)).f2 ≤ 8 ∧ 1 ≤ (rd_T34 l (i : Int)).f3 ∧ (rd_T34 l (i : Int)).f3 ≤ 8 ∧ (rd_T34 l (i : Int)).f4 * (rd_T34 l (i : Int)).f5 ≤ 4096 := by
    intro i hi
    obtain ⟨t, ht, hp⟩ := hmem i hi
    generalize rd_T34 l (i : Int) = p at hp ⊢
    obtain ⟨b0, b1, b2, b3, b4, b5⟩ := hT t ht
    have r1 := cnt_range b2 b0 hW
    have r2 := cnt_range b5 b3 hH
    unfold refone at hp
    split at hp
    · rename_i hcc
      have := List.mem_singleton.1 hp
      subst this
      dsimp only
      have s1 : 1 ≤ t.f2 ∧ t.f2 ≤ 8 := by unfold stp at b2; omega
      have s2 : 1 ≤ t.f3 ∧ t.f3 ≤ 8 := by unfold stp at b5; omega
      have hm : cnt W t.f0 t.f2 * cnt H t.f1 t.f3 ≤ W * H := Int.mul_le_mul r1.2 r2.2 r2.1 (by omega)
      exact ⟨by omega, by omega, by omega, by omega, by omega, by omega, by omega, by omega, by omega, by omega, by omega, by omega, by omega⟩
    · cases hp
  have hin : ∀ q : Int × Int, q ∈ lo_i l l.length ↔ (0 ≤ q.1 ∧ q.1 < W) ∧ 0 ≤ q.2 ∧ q.2 < H := by
    intro q
    rw [lo_i_mem]
    constructor
    · rintro ⟨i, hi, y, hy, x, hx, rfl⟩
      obtain ⟨t, ht, hp⟩ := hmem i hi
      obtain ⟨e0, e1, e2, e3, e4, e5⟩ := ref_mem hp
      obtain ⟨b0, b1, b2, b3, b4, b5⟩ := hT t ht
      rw [e5] at hy
      rw [e4] at hx
      unfold lo_at
      rw [e0, e1, e2, e3]
      exact ⟨cnt_in b2 b0 hW hx, cnt_in b5 b3 hH hy⟩
    · rintro ⟨⟨a0, a1⟩, a2, a3⟩
      obtain ⟨t, ht, c1, c2, c3, c4⟩ := hc q.1 q.2 a0 a1 a2 a3
      obtain ⟨b0, b1, b2, b3, b4, b5⟩ := hT t ht
      obtain ⟨x, hx, ex⟩ := cnt_has (n := W) b2 b0 c1 a1 c2
      obtain ⟨y, hy, ey⟩ := cnt_has (n := H) b5 b3 c3 a3 c4
      have hp : (⟨t.f0, t.f1, t.f2, t.f3, cnt W t.f0 t.f2, cnt H t.f1 t.f3⟩ : S34) ∈ l := by
        rw [← hle]
        refine List.mem_flatMap.2 ⟨t, ht, ?_⟩
        unfold refone
        rw [if_pos (by omega)]
        exact List.mem_singleton.2 rfl
      obtain ⟨i, hi, he⟩ := List.getElem_of_mem hp
      have hr : rd_T34 l (i : Int) = ⟨t.f0, t.f1, t.f2, t.f3, cnt W t.f0 t.f2, cnt H t.f1 t.f3⟩ := (rd_at l i hi).trans he
      refine ⟨i, hi, y, by rw [hr]; exact hy, x, by rw [hr]; exact hx, ?_⟩
      rw [hr]
      unfold lo_at
      dsimp only
      rw [← ex, ← ey]
  have hnd : (lo_i l l.length).Nodup := lo_i_nodup (fun i hi => ⟨(hrg i hi).2.2.2.2.2.2.2.2.1, (hrg i hi).2.2.2.2.2.2.2.2.2.2.1⟩) hd' l.length (Nat.le_refl _)
  -- all of them
  obtain ⟨P, hP⟩ : ∃ P, lo_y ⟨0, 0, 1, 1, W, H⟩ [] H.toNat = P := ⟨_, rfl⟩
  have hPm : ∀ q : Int × Int, q ∈ P ↔ (0 ≤ q.1 ∧ q.1 < W) ∧ 0 ≤ q.2 ∧ q.2 < H := by
    intro q
    rw [← hP, lo_y_mem]
    constructor
    · rintro (h | ⟨y, hy, x, hx, rfl⟩)
      · cases h
      · unfold lo_at
        dsimp only at hx ⊢
        omega
    · rintro ⟨⟨a0, a1⟩, a2, a3⟩
      refine .inr ⟨q.2.toNat, by omega, q.1.toNat, by dsimp only; omega, ?_⟩
      unfold lo_at
      dsimp only
      exact Prod.ext (by dsimp only; omega) (by dsimp only; omega)
  have hPn : P.Nodup := by rw [← hP]; exact lo_y_nodup (show (1 : Int) ≤ 1 by decide) (show (1 : Int) ≤ 1 by decide) List.nodup_nil _ (fun _ _ _ _ => List.not_mem_nil)
  have hPl : P.length = H.toNat * W.toNat := by rw [← hP, lo_y_len]; simp
  have h1 := nodup_len hnd (fun q hq => (hPm q).2 ((hin q).1 hq))
  have h2 := nodup_len hPn (fun q hq => (hin q).2 ((hPm q).1 hq))
  have h3 : ((lo_i l l.length).length : Int) = W * H := by
    have e : (lo_i l l.length).length = H.toNat * W.toNat := by omega
    rw [e, Int.natCast_mul, Int.toNat_of_nonneg (by omega), Int.toNat_of_nonneg (by omega), Int.mul_comm]
  exact ⟨⟨hW, hW2, hH, hH2⟩, by omega, hrg, hnd, fun q hq => ⟨((hin q).1 hq).1.2, ((hin q).1 hq).2.2⟩, h3, by omega⟩
theorem once_pss {W H D C L : Int} (h : rgt W H D C L = 0) : lo_okP W H (pss W H D C L) := by
  obtain ⟨a0, a1, a2, a3, a4, _, a6⟩ := rgt_0 h
  unfold pss
  rw [if_pos h, ← list_eq a0 a1 a2 a3 a6]
  by_cases hL : L = 1
  · rw [if_pos hL]
    refine once_of a0 a1 a2 a3 a4 tab7_ok (by simp [tab7]) (fun l hl i j hij hj y x y' x' => ?_) (fun a b b0 b1 b2 b3 => cover7 ⟨b0, b1⟩ ⟨b2, b3⟩)
    have hp := ref_pair (W := W) (H := H) tab7_pair
    rw [← hl] at hp
    have hk := (List.pairwise_iff_getElem.1 hp) i j (by omega) hj hij
    have ht : ∀ i : Nat, i < l.length → isT (rd_T34 l (i : Int)) := by
      intro i hi
      have h1 : rd_T34 l (i : Int) ∈ l := by rw [rd_at l i hi]; exact List.getElem_mem hi
      rw [hl] at h1
      obtain ⟨t, ht, h2⟩ := List.mem_flatMap.1 h1
      rw [← hl] at h2
      have e := ref_mem h2
      exact isT_of (tab7_isT t ht) e.1 e.2.1 e.2.2.1 e.2.2.2.1
    rw [← rd_at l i (by omega), ← rd_at l j hj] at hk
    exact apart7 (ht i (by omega)) (ht j hj) hk y x y' x'
  · rw [if_neg hL]
    refine once_of a0 a1 a2 a3 a4 tab1_ok (by simp [tab1]) (fun l hl i j hij hj y x y' x' => ?_) (fun a b b0 b1 b2 b3 => cover1 b0 b2)
    have : l.length ≤ 1 := by rw [hl]; exact Nat.le_trans (flat_len W H tab1) (by simp [tab1])
    omega
theorem LaceOnce : ∀ (a0_0 : Int) (a0_1 : Int) (a0_2 : Int) (a0_3 : Int) (a0_4 : Int), ((Lit.int .i64 a0_0).wf = true) → ((Lit.int .i64 a0_1).wf = true) → ((Lit.int .i64 a0_2).wf = true) → ((Lit.int .i64 a0_3).wf = true) → ((Lit.int .i64 a0_4).wf = true) → ∃ k, vitrinelaw10_LaceOnce.f k a0_0 a0_1 a0_2 a0_3 a0_4 = some true := by
  intro W H D C L _ _ _ _ hL
  have hL := wf_i64 hL
  refine Ev.rounds ?_
  unfold vitrinelaw10_LaceOnce.f
  refine Ev.bind (Passes_ev W H D C L hL) ?_
  by_cases h : rgt W H D C L = 0
  · have hok := once_pss h
    have hne : ¬ (pss W H D C L).length = 0 := by
      intro e
      have h1 := hok.2.2.2.2.2.1
      rw [e] at h1
      have h2 : (0 : Int) = W * H := h1
      have : 0 < W * H := Int.mul_pos (by have := hok.1.1; omega) (by have := hok.1.2.2.1; omega)
      omega
    refine Ev.congr (f := fun k => vitrinelaw10_awake.f k) (fun k => ?_) awake_ev
    rw [if_neg hne, if_pos hok]
  · rw [pss_nil h]
    refine Ev.congr (f := fun k => (lace_Size.f k W H D C L).bind fun s => if s = 0 then vitrinelaw10_awake.f k else none) (fun k => rfl) ?_
    refine Ev.bind (Size_ev W H D C L hL) ?_
    rw [pss_nil h]
    exact Ev.congr (fun k => if_pos rfl) awake_ev

end Go.Proofs.Ytlonbchidopcpaa.Pure
