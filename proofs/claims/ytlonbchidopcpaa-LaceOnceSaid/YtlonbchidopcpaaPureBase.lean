/- Plain lemmas on whole numbers in 64 bits, bytes and lists, used by the plain laws. No conditions beyond those that each lemma names. -/
import Derived.Test.YtlonbchidopcpaaWMore
import Derived.Laws.Strings
namespace Go.Proofs.Ytlonbchidopcpaa.Pure
open Go.RowKit Go.Proofs.YtlonbchidopcpaaW.PrintWords Go.Proofs.YtlonbchidopcpaaW.PrintLast Go.Proofs.YtlonbchidopcpaaW.PrintMore
set_option linter.unusedVariables false
set_option linter.unusedSimpArgs false
theorem w64 {x : Int} (h1 : -9223372036854775808 ≤ x) (h2 : x ≤ 9223372036854775807) : wrap64 x = x := by
  unfold wrap64
  omega
theorem w64_bt (s : ByteArray) (i : Int) : wrap64 (bt s i) = bt s i := by
  have := bt_range s i
  exact w64 (by omega) (by omega)
theorem wf_i64 {x : Int} (h : (Lit.int .i64 x).wf = true) : -9223372036854775808 ≤ x ∧ x ≤ 9223372036854775807 := by
  simpa [Lit.wf, IntKind.min, IntKind.max, IntKind.signed, IntKind.bits] using h
theorem wf_u8 {x : Int} (h : (Lit.int .u8 x).wf = true) : 0 ≤ x ∧ x ≤ 255 := by
  simpa [Lit.wf, IntKind.min, IntKind.max, IntKind.signed, IntKind.bits] using h
/-- A list of bytes. -/
def Byt (xs : List Int) : Prop := ∀ x ∈ xs, 0 ≤ x ∧ x ≤ 255
theorem byt_rd {xs : List Int} (h : Byt xs) (i : Int) : 0 ≤ rd xs i ∧ rd xs i ≤ 255 := by
  unfold rd
  rw [List.getD_eq_getElem?_getD]
  cases e : xs[i.toNat]? with
  | none => simp
  | some x => exact h x (List.mem_of_getElem? e)
theorem bt_str {xs : List Int} (h : Byt xs) (i : Int) : bt (strOfNums xs) i = rd xs i := by
  unfold bt rd
  rw [List.getD_eq_getElem?_getD]
  by_cases hi : i.toNat < xs.length
  · have h1 : i.toNat < (strOfNums xs).size := by rw [strOfNums_size]; exact hi
    rw [dif_pos h1, List.getElem?_eq_getElem hi]
    have h2 := h _ (List.getElem_mem hi)
    have h3 : (strOfNums xs)[i.toNat]'h1 = UInt8.ofNat (xs[i.toNat]).toNat := by
      show (strOfNums xs).data[i.toNat]'_ = _
      simp [strOfNums]
    rw [h3]
    simp only [Option.getD_some, UInt8.toNat_ofNat']
    omega
  · have h1 : ¬ i.toNat < (strOfNums xs).size := by rw [strOfNums_size]; exact hi
    rw [dif_neg h1, List.getElem?_eq_none (by omega)]
    rfl
theorem str_bytes (s : ByteArray) : strOfNums (bytesOf s) = s := by
  cases s with
  | mk d =>
    unfold strOfNums bytesOf
    congr 1
    rw [List.map_map, show ((fun n : Int => UInt8.ofNat n.toNat) ∘ fun b : UInt8 => (b.toNat : Int)) = id from by funext b; simp]
    simp
theorem bytesOf_byt (s : ByteArray) : Byt (bytesOf s) := by
  intro x hx
  unfold bytesOf at hx
  obtain ⟨b, _, rfl⟩ := List.mem_map.1 hx
  have := b.toNat_lt
  omega
theorem bytesOf_str {xs : List Int} (h : Byt xs) : bytesOf (strOfNums xs) = xs := by
  unfold bytesOf strOfNums
  simp only [List.map_map, List.toList_toArray]
  conv => rhs; rw [← List.map_id xs]
  refine List.map_congr_left fun x hx => ?_
  have := h x hx
  simp only [Function.comp, UInt8.toNat_ofNat', id]
  omega
theorem toList_data (s : ByteArray) : s.toList = s.data.toList := by
  exact ByteArray.toList_eq s
theorem rd_range {f : Nat → Int} {n : Nat} {i : Int} (h0 : 0 ≤ i) (h1 : i < n) : rd ((List.range n).map f) i = f i.toNat := by
  unfold rd
  rw [List.getD_eq_getElem?_getD, List.getElem?_map, List.getElem?_range (by omega)]
  rfl
theorem bytesOf_range (s : ByteArray) : bytesOf s = (List.range s.size).map fun i : Nat => bt s (i : Int) := by
  apply List.ext_getElem
  · simp [bytesOf_length]
  · intro i h1 h2
    have h3 := rd_bytesOf s i
    unfold rd at h3
    rw [List.getD_eq_getElem?_getD, Int.toNat_natCast, List.getElem?_eq_getElem h1] at h3
    simpa using h3
/-- A string is what its bytes are. -/
theorem str_range {s : ByteArray} {n : Nat} (hn : s.size = n) {f : Nat → Int} (h : ∀ i, i < n → f i = bt s i) : strOfNums ((List.range n).map f) = s := by
  subst hn
  have e : (List.range s.size).map f = bytesOf s := by
    rw [bytesOf_range s]
    exact List.map_congr_left fun i hi => h i (by simpa using hi)
  rw [e, str_bytes]
theorem range_set {f : Nat → Int} {i d : Nat} (v : Int) (hv : v = f i) : ((List.range i).map f ++ List.replicate (d + 1) 0).set i v = (List.range (i + 1)).map f ++ List.replicate d 0 := by
  subst hv
  rw [List.set_append_right _ _ (by simp), List.range_succ, List.map_append, List.length_map, List.length_range, Nat.sub_self, List.replicate_succ, List.set_cons_zero]
  simp
theorem ev_true {g : Nat → Option Bool} (hm : ∀ k, LeO (g k) (g (k + 1))) (k : Nat) (h : g k = some true) : Ev g true := Ev.of hm h
theorem ev_same {α : Type} {g : Nat → Option α} {r r' : α} (h : Ev g r) (e : r = r') : Ev g r' := e ▸ h
/-- A last step that is the callee's answer. -/
theorem ev_id {α : Type} {g : Nat → Option α} {r : α} (h : Ev g r) : Ev (fun n => (g n).bind fun t => some t) r := Ev.bind (f := fun _ t => some t) h (Ev.now r)
theorem str_size (xs : List Int) : (strOfNums xs).size = xs.length := by
  unfold strOfNums
  simp [ByteArray.size]

end Go.Proofs.Ytlonbchidopcpaa.Pure
