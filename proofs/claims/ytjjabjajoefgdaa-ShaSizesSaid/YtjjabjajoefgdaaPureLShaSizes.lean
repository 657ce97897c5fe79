/- ShaSizes, plain. No condition but the law's own. -/
import Derived.Test.YtjjabjajoefgdaaPL14x2
import Derived.Test.YtjjabjajoefgdaaPL14x5
import Derived.Test.YtjjabjajoefgdaaPL14x9
import Derived.Test.YtjjabjajoefgdaaPureBase
import Derived.Test.YtjjabjajoefgdaaPureHex
import Derived.Test.YtjjabjajoefgdaaPurePad
namespace Go.Proofs.Ytjjabjajoefgdaa.Pure
open Go.RowKit Go.Proofs.YtjjabjajoefgdaaW.PrintWords Go.Proofs.YtjjabjajoefgdaaW.PrintLast Go.Proofs.YtjjabjajoefgdaaW.PrintMore Go.Proofs.Ytjjabjajoefgdaa.PL14
set_option linter.unusedVariables false
set_option linter.unusedSimpArgs false
def unhex (l : List Int) : Int := 16 * (if rd l 0 ≤ 57 then rd l 0 - 48 else rd l 0 - 87) + (if rd l 1 ≤ 57 then rd l 1 - 48 else rd l 1 - 87)
theorem unhex_all : ((List.range 256).all fun n => decide (unhex (hexB ((n : Nat) : Int)) = ((n : Nat) : Int))) = true := by kernel_rfl
theorem unhexB {x : Int} (h0 : 0 ≤ x) (h1 : x ≤ 255) : unhex (hexB x) = x := by
  have h := of_decide_eq_true (List.all_eq_true.1 unhex_all x.toNat (List.mem_range.2 (by omega)))
  have e : ((x.toNat : Nat) : Int) = x := by omega
  rw [e] at h
  exact h
theorem hexL_inj (a b : ByteArray) : ∀ n, hexL a n = hexL b n → ∀ i, i < n → bt a ((i : Nat) : Int) = bt b ((i : Nat) : Int) := by
  intro n
  induction n with
  | zero => intro _ i hi; omega
  | succ n ih =>
    intro h i hi
    rw [hexL_succ, hexL_succ] at h
    obtain ⟨h1, h2⟩ := List.append_inj h (by rw [hexL_len, hexL_len])
    by_cases hin : i = n
    · subst hin
      have ra := bt_range a (i : Int)
      have rb := bt_range b (i : Int)
      rw [← unhexB ra.1 ra.2, h2, unhexB rb.1 rb.2]
    · exact ih h1 i (by omega)
theorem hexL_byt (s : ByteArray) : ∀ n, Byt (hexL s n) := by
  intro n x hx
  unfold hexL at hx
  obtain ⟨j, _, hj⟩ := List.mem_flatMap.1 hx
  unfold hexB at hj
  have d1 := digs_rg (bt s (j : Int) / 16)
  have d2 := digs_rg (bt s (j : Int) % 16)
  simp only [List.mem_cons, List.not_mem_nil, or_false] at hj
  rcases hj with rfl | rfl
  · exact d1
  · exact d2
theorem hex_inj (a b : ByteArray) (h : strOfNums (hexL a a.size) = strOfNums (hexL b b.size)) : a = b := by
  have h1 : hexL a a.size = hexL b b.size := by
    have := congrArg bytesOf h
    rwa [bytesOf_str (hexL_byt a _), bytesOf_str (hexL_byt b _)] at this
  have h2 : a.size = b.size := by
    have := congrArg List.length h1
    rw [hexL_len, hexL_len] at this
    omega
  have h3 := hexL_inj a b a.size (by rw [h1, h2])
  have h4 : bytesOf a = bytesOf b := by
    rw [bytesOf_range, bytesOf_range, ← h2]
    exact List.map_congr_left (fun i hi => h3 i (List.mem_range.1 hi))
  rw [← str_bytes a, h4, str_bytes]
theorem tl_eq {s t : ByteArray} : s.toList = t.toList ↔ s = t := by
  rw [toList_data, toList_data]
  constructor
  · intro h
    cases s; cases t
    simp only [ByteArray.mk.injEq]
    exact Array.toList_inj.1 h
  · rintro rfl
    rfl
theorem ShaSizes : ∀ (a0 : ByteArray) (a1 : ByteArray), (a0.size ≤ 140737488351232) → (a1.size ≤ 140737488351232) → ∃ k, vitrinelaw14_ShaSizes.f k a0 a1 = some true := by
  intro a b _ _
  refine Ev.rounds ?_
  have ht : Ev (fun k => vitrinelaw14_ShaSizes.j0 k a b true) true := by
    refine Ev.step (f := fun k => (vitrinelaw14_awake.f k).bind fun t => some t) (fun k => ?_) (ev_id awake_ev)
    simp only [vitrinelaw14_ShaSizes.j0, if_true]
  by_cases ha : (a.size : Int) > 100000
  · exact Ev.congr (fun k => by unfold vitrinelaw14_ShaSizes.f; rw [if_pos ha]) ht
  · by_cases hb : (b.size : Int) > 100000
    · exact Ev.congr (fun k => by unfold vitrinelaw14_ShaSizes.f; rw [if_neg ha, decide_eq_true hb]) ht
    · refine Ev.congr (f := fun k => vitrinelaw14_ShaSizes.j0 k a b false) (fun k => by unfold vitrinelaw14_ShaSizes.f; rw [if_neg ha, decide_eq_false hb]) ?_
      refine Ev.step (f := fun k => (sha_Hex.f k a).bind fun t217 => ((sha_Hex.f k b).bind fun t218 => ((sha_Sum.f k a).bind fun t219 => (if (t219.size : Int) = 32 then (if (t217.size : Int) = (wrap64 (2 * (a.size : Int))) then (if ((a.toList == b.toList) == (t217.toList == t218.toList)) = true then ((vitrinelaw14_awake.f k).bind fun t220 => (some t220)) else (some false)) else (some false)) else (some false))))) (fun k => ?_) ?_
      · simp only [vitrinelaw14_ShaSizes.j0]
        rw [if_neg (by decide)]
      · refine Ev.bind (f := fun k t217 => ((sha_Hex.f k b).bind fun t218 => ((sha_Sum.f k a).bind fun t219 => (if (t219.size : Int) = 32 then (if (t217.size : Int) = (wrap64 (2 * (a.size : Int))) then (if ((a.toList == b.toList) == (t217.toList == t218.toList)) = true then ((vitrinelaw14_awake.f k).bind fun t220 => (some t220)) else (some false)) else (some false)) else (some false))))) (hex_ev a (by omega)) ?_
        refine Ev.bind (f := fun k t218 => ((sha_Sum.f k a).bind fun t219 => (if (t219.size : Int) = 32 then (if ((strOfNums (hexL a a.size)).size : Int) = (wrap64 (2 * (a.size : Int))) then (if ((a.toList == b.toList) == ((strOfNums (hexL a a.size)).toList == t218.toList)) = true then ((vitrinelaw14_awake.f k).bind fun t220 => (some t220)) else (some false)) else (some false)) else (some false)))) (hex_ev b (by omega)) ?_
        refine Ev.bind (f := fun k t219 => (if (t219.size : Int) = 32 then (if ((strOfNums (hexL a a.size)).size : Int) = (wrap64 (2 * (a.size : Int))) then (if ((a.toList == b.toList) == ((strOfNums (hexL a a.size)).toList == (strOfNums (hexL b b.size)).toList)) = true then ((vitrinelaw14_awake.f k).bind fun t220 => (some t220)) else (some false)) else (some false)) else (some false))) (sum_ev a (by omega)) ?_
        have e1 : ((shaS a).size : Int) = 32 := by rw [shaS_size]; rfl
        have e2 : ((strOfNums (hexL a a.size)).size : Int) = wrap64 (2 * (a.size : Int)) := by rw [str_size, hexL_len, w64 (by omega) (by omega)]; omega
        have e3 : ((a.toList == b.toList) == ((strOfNums (hexL a a.size)).toList == (strOfNums (hexL b b.size)).toList)) = true := by
          by_cases hab : a = b
          · subst hab
            simp
          · have n1 : (a.toList == b.toList) = false := beq_eq_false_iff_ne.mpr (fun h => hab (tl_eq.1 h))
            have n2 : ((strOfNums (hexL a a.size)).toList == (strOfNums (hexL b b.size)).toList) = false := beq_eq_false_iff_ne.mpr (fun h => hab (hex_inj a b (tl_eq.1 h)))
            rw [n1, n2]
            rfl
        exact Ev.congr (fun k => by rw [if_pos e1, if_pos e2, if_pos e3]) (ev_id awake_ev)

end Go.Proofs.Ytjjabjajoefgdaa.Pure
